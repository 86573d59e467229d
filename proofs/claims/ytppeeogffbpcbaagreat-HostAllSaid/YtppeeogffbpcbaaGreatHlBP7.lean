/-
  The law: what hosts are behind anything that is done to them, and what they say, or the error.
-/
import Derived.Test.YtppeeogffbpcbaaGreatRows
import Derived.Test.YtppeeogffbpcbaaGreatHlBP6
set_option linter.all false
set_option maxRecDepth 40000
set_option maxHeartbeats 16000000
namespace Go.Proofs.YtppeeogffbpcbaaGreat
open Go Go.RowKit Cp Go.Proofs.Tryz
theorem X9 {a b:List (Int)}  :A4 prog 138 [ints a,ints b] (bool (decide (a=b))):=by
 refine fo func138 rfl ⟨rfl,rfl⟩ fun M0 w0=>(Tr.EC 0 rfl fun Ex=>(Tr.EC 1 rfl fun JN=> ?_))
 refine ac ?_
 refine an ?_ ?_<;>intro h1 q1
 have hne:¬a.length=b.length:=by simp_all;omega
 refine a2 ?_
 · refine bool_eq ?_;symm;rw [decide_eq_false_iff_not];rintro rfl;exact hne rfl
 have F8:a.length=b.length:=by simp_all;omega
 refine a2 ?_
 refine Tr.block (Tr.BW [(0,_),(1,_),(12,_)] (OH rfl) (fun k:Nat=>[(13,int ((k:Nat):Int))]) (fun k:Nat=>k≤(a).length∧(a.take k=b.take k)) (fun k:Nat=>(a).length-k) 0 (⟨Nat.zero_le _,rfl⟩) ⟨ke rfl,trivial⟩ ?_)
 rintro k ⟨Bk,Ac⟩
 refine ac ?_
 refine Tr.seq ?_
 refine Tr.cn rfl ?_ ?_<;>intro h2 q2
 have Ao:k<(a).length:=AZ h2
 obtain ⟨x,An⟩:=at_ Ao
 obtain ⟨y,hy⟩:=at_ (l:=b) (k:=k) (by omega)
 · repeat' first|(refine bool_eq ?_;symm;rw [decide_eq_false_iff_not];refine Iq An hy ?_;rintro rfl;simp_all)|exact Fin.AG (k+1) ⟨⟨Ao,HD An hy Ac (by simp_all)⟩,by omega⟩ ⟨⟨_,rfl,AS k⟩,ke rfl,ke rfl,ke rfl,trivial⟩|refine co rfl (AB rfl underlying22 Cg (vl rfl) (vl rfl) (by omega) (Ak An)) ?_|refine co rfl (AB rfl underlying22 Cg (vl rfl) (vl rfl) (by omega) (Ak hy)) ?_|refine ac ?_|(refine Tr.cn rfl ?_ ?_<;>intro h q)
 have BQ:k=(a).length:=by have:=Aa h2;omega
 subst BQ
 refine a3 ?_
 · refine bool_eq ?_;symm;rw [decide_eq_true_eq];exact HE F8 Ac
theorem gb {a b:List (List UInt8)}  :A4 prog 131 [RM a,RM b] (bool (decide (a=b))):=by
 refine fo func131 rfl ⟨rfl,rfl⟩ fun M0 w0=>(Tr.EC 0 rfl fun Ex=>(Tr.EC 1 rfl fun JN=> ?_))
 refine ac ?_
 refine an ?_ ?_<;>intro h1 q1
 have hne:¬a.length=b.length:=by simp_all;omega
 refine a2 ?_
 · refine bool_eq ?_;symm;rw [decide_eq_false_iff_not];rintro rfl;exact hne rfl
 have F8:a.length=b.length:=by simp_all;omega
 refine a2 ?_
 refine Tr.block (Tr.BW [(0,_),(1,_),(12,_)] (OH rfl) (fun k:Nat=>[(13,int ((k:Nat):Int))]) (fun k:Nat=>k≤(a).length∧(a.take k=b.take k)) (fun k:Nat=>(a).length-k) 0 (⟨Nat.zero_le _,rfl⟩) ⟨ke rfl,trivial⟩ ?_)
 rintro k ⟨Bk,Ac⟩
 refine ac ?_
 refine Tr.seq ?_
 refine Tr.cn rfl ?_ ?_<;>intro h2 q2
 have Ao:k<(a).length:=AZ h2
 obtain ⟨x,An⟩:=at_ Ao
 obtain ⟨y,hy⟩:=at_ (l:=b) (k:=k) (by omega)
 · repeat' first|(refine bool_eq ?_;symm;rw [decide_eq_false_iff_not];refine Iq An hy ?_;rintro rfl;simp_all)|exact Fin.AG (k+1) ⟨⟨Ao,HD An hy Ac (by simp_all)⟩,by omega⟩ ⟨⟨_,rfl,AS k⟩,ke rfl,ke rfl,ke rfl,trivial⟩|refine co rfl (AB rfl underlying74 JB (vl rfl) (vl rfl) (by omega) (Ak An)) ?_|refine co rfl (AB rfl underlying74 JB (vl rfl) (vl rfl) (by omega) (Ak hy)) ?_|refine ac ?_|(refine Tr.cn rfl ?_ ?_<;>intro h q)
 have BQ:k=(a).length:=by have:=Aa h2;omega
 subst BQ
 refine a3 ?_
 · refine bool_eq ?_;symm;rw [decide_eq_true_eq];exact HE F8 Ac
abbrev gf (l:List BJ):Pr:=slice 9 (l.map Aj)
theorem bL {a b:GV}  :A4 prog 137 [agg (C1 a),agg (C1 b)] (bool (decide (a=b))):=by
 refine fo func137 rfl ⟨rfl,rfl⟩ fun M0 w0=> ?_
 refine ac ?_
 refine CL 2 3 rfl (Tr.HM [2,3] [(5,bool (decide (a.Gz=b.Gz∧a.Hg=b.Hg∧a.F3=b.F3∧a.names=b.names)))] (True) ?_ (fun h1=> ?_))
 · repeat' first|exact Fin.AG () (by simp_all) ⟨⟨_,rfl,bool_eq (by simp_all)⟩,ke rfl,ke rfl,trivial⟩|refine cy h rfl (Dc (gb) rfl rfl rfl) ?_|refine ac ?_|(refine Ch.cg rfl rfl rfl ?_ ?_<;>intro h q)
 refine Cr 2 3 5 rfl (Tr.HM [2,3,5] [(6,bool (decide (a.Lh=b.Lh∧a.Hy=b.Hy∧a.BG=b.BG∧a.Pn=b.Pn∧a.KC=b.KC∧a.Ux=b.Ux∧a.Uy=b.Uy)))] (True) ?_ (fun h5=> ?_))
 · repeat' first|exact Fin.AG () (by simp_all) ⟨⟨_,rfl,bool_eq (by simp_all)⟩,ke rfl,ke rfl,ke rfl,trivial⟩|refine co rfl (Fg rfl (vl rfl) (vl rfl)) (cm rfl ?_)|refine cy h rfl (Fg rfl (vl rfl) (vl rfl)) ?_|refine cy h rfl (Re rfl (vl rfl) (vl rfl)) ?_|refine ac ?_|(refine Ch.cg rfl rfl rfl ?_ ?_<;>intro h q)
 · repeat' first|(refine bool_eq ?_;cases a;cases b;simp_all [Bool.beq_eq_decide_eq])|refine ac ?_|(refine Ch.cg rfl rfl rfl ?_ ?_<;>intro h q)
theorem bM:Entry Tryz.prog 137:=⟨_,Tryz.func137,rfl,rfl⟩
theorem gh {a b:List GV}  :A4 prog 85 [Il a,Il b,G1 prog (fun p:GV×GV=>[agg (C1 p.1),agg (C1 p.2)]) (fun p=>bool (decide (p.1=p.2)))] (bool (decide (a=b))):=by
 refine fo func85 rfl ⟨rfl,rfl⟩ fun M0 w0=>(Tr.EC 0 rfl fun Ex=>(Tr.EC 1 rfl fun JN=> ?_))
 refine ac ?_
 refine an ?_ ?_<;>intro h1 q1
 have hne:¬a.length=b.length:=by simp_all;omega
 refine a2 ?_
 · refine bool_eq ?_;symm;rw [decide_eq_false_iff_not];rintro rfl;exact hne rfl
 have F8:a.length=b.length:=by simp_all;omega
 refine a2 ?_
 refine Tr.block (Tr.BW [(1,_),(2,_),(15,_),(16,_)] (R7 rfl) (fun k:Nat=>[(17,int ((k:Nat):Int))]) (fun k:Nat=>k≤(a).length∧(a.take k=b.take k)) (fun k:Nat=>(a).length-k) 0 (⟨Nat.zero_le _,rfl⟩) ⟨ke rfl,trivial⟩ ?_)
 rintro k ⟨Bk,Ac⟩
 refine ac ?_
 refine Tr.seq ?_
 refine Tr.cn rfl ?_ ?_<;>intro h2 q2
 have Ao:k<(a).length:=AZ h2
 obtain ⟨x,An⟩:=at_ Ao
 obtain ⟨y,hy⟩:=at_ (l:=b) (k:=k) (by omega)
 refine ac ?_
 refine ao ?_
 refine tp rfl (AB rfl underlying25 Cw (vl rfl) (vl rfl) (by omega) (Ak An)) (tp rfl (AO rfl Em Cw (vl rfl) rfl rfl) ?_)
 refine Tl rfl rfl rfl rfl z131 JI (fun b1=> ?_)
 refine tm rfl ?_
 refine sf 0 8 ⟨rfl,rfl,rfl⟩ rfl rfl rfl rfl ?_
 refine ao ?_
 refine ao ?_
 refine tp rfl (AB rfl underlying25 Cw (vl rfl) (vl rfl) (by omega) (Ak hy)) (tp rfl (AO rfl Em Cw (vl rfl) rfl rfl) ?_)
 refine Tl rfl rfl rfl rfl z131 JI (fun b2=> ?_)
 refine sf 0 9 ⟨rfl,rfl,rfl⟩ rfl rfl rfl rfl ?_
 refine ao ?_
 · repeat' first|(refine bool_eq ?_;symm;rw [decide_eq_false_iff_not];refine Iq An hy ?_;rintro rfl;simp_all)|exact Fin.AG (k+1) ⟨⟨Ao,HD An hy Ac (by simp_all)⟩,by omega⟩ ⟨⟨_,rfl,AS k⟩,ke rfl,ke rfl,ke rfl,ke rfl,trivial⟩|refine co rfl (BN (x,y) rfl (vl rfl) ⟨ke rfl,ke rfl,trivial⟩) ?_|refine ac ?_|(refine Tr.cn rfl ?_ ?_<;>intro h q)
 have BQ:k=(a).length:=by have:=Aa h2;omega
 subst BQ
 refine a3 ?_
 · refine bool_eq ?_;symm;rw [decide_eq_true_eq];exact HE F8 Ac
theorem nX {a b:DO}  :A4 prog 136 [agg (BC a),agg (BC b)] (bool (decide (a=b))):=by
 refine fo func136 rfl ⟨rfl,rfl⟩ fun M0 w0=> ?_
 · repeat' first|(refine bool_eq ?_;cases a;cases b;simp_all [Bool.beq_eq_decide_eq])|refine co rfl (Fg rfl (vl rfl) (vl rfl)) (cm rfl ?_)|refine cy h rfl (AX rfl (gh) ⟨ke rfl,ke rfl,⟨_,rfl,Bt (dom:=fun p:GV×GV=>[agg (C1 p.1),agg (C1 p.2)]) (res:=fun p=>bool (decide (p.1=p.2))) bM (fun p=>bL (a:=p.1) (b:=p.2))⟩,trivial⟩) ?_|refine ac ?_|(refine Ch.cg rfl rfl rfl ?_ ?_<;>intro h q)
theorem nY:Entry Tryz.prog 136:=⟨_,Tryz.func136,rfl,rfl⟩
theorem gj {a b:List DO}  :A4 prog 139 [DC a,DC b,G1 prog (fun p:DO×DO=>[agg (BC p.1),agg (BC p.2)]) (fun p=>bool (decide (p.1=p.2)))] (bool (decide (a=b))):=by
 refine fo func139 rfl ⟨rfl,rfl⟩ fun M0 w0=>(Tr.EC 0 rfl fun Ex=>(Tr.EC 1 rfl fun JN=> ?_))
 refine ac ?_
 refine an ?_ ?_<;>intro h1 q1
 have hne:¬a.length=b.length:=by simp_all;omega
 refine a2 ?_
 · refine bool_eq ?_;symm;rw [decide_eq_false_iff_not];rintro rfl;exact hne rfl
 have F8:a.length=b.length:=by simp_all;omega
 refine a2 ?_
 refine Tr.block (Tr.BW [(1,_),(2,_),(15,_),(16,_)] (R7 rfl) (fun k:Nat=>[(17,int ((k:Nat):Int))]) (fun k:Nat=>k≤(a).length∧(a.take k=b.take k)) (fun k:Nat=>(a).length-k) 0 (⟨Nat.zero_le _,rfl⟩) ⟨ke rfl,trivial⟩ ?_)
 rintro k ⟨Bk,Ac⟩
 refine ac ?_
 refine Tr.seq ?_
 refine Tr.cn rfl ?_ ?_<;>intro h2 q2
 have Ao:k<(a).length:=AZ h2
 obtain ⟨x,An⟩:=at_ Ao
 obtain ⟨y,hy⟩:=at_ (l:=b) (k:=k) (by omega)
 refine ac ?_
 refine ao ?_
 refine tp rfl (AB rfl underlying30 Be (vl rfl) (vl rfl) (by omega) (Ak An)) (tp rfl (AO rfl Ew Be (vl rfl) rfl rfl) ?_)
 refine Tl rfl rfl rfl rfl JG IB (fun b1=> ?_)
 refine tm rfl ?_
 refine sf 0 8 ⟨rfl,rfl,rfl⟩ rfl rfl rfl rfl ?_
 refine ao ?_
 refine ao ?_
 refine tp rfl (AB rfl underlying30 Be (vl rfl) (vl rfl) (by omega) (Ak hy)) (tp rfl (AO rfl Ew Be (vl rfl) rfl rfl) ?_)
 refine Tl rfl rfl rfl rfl JG IB (fun b2=> ?_)
 refine sf 0 9 ⟨rfl,rfl,rfl⟩ rfl rfl rfl rfl ?_
 refine ao ?_
 · repeat' first|(refine bool_eq ?_;symm;rw [decide_eq_false_iff_not];refine Iq An hy ?_;rintro rfl;simp_all)|exact Fin.AG (k+1) ⟨⟨Ao,HD An hy Ac (by simp_all)⟩,by omega⟩ ⟨⟨_,rfl,AS k⟩,ke rfl,ke rfl,ke rfl,ke rfl,trivial⟩|refine co rfl (BN (x,y) rfl (vl rfl) ⟨ke rfl,ke rfl,trivial⟩) ?_|refine ac ?_|(refine Tr.cn rfl ?_ ?_<;>intro h q)
 have BQ:k=(a).length:=by have:=Aa h2;omega
 subst BQ
 refine a3 ?_
 · refine bool_eq ?_;symm;rw [decide_eq_true_eq];exact HE F8 Ac
theorem UH {a b:BJ}  :A4 prog 91 [agg (Aj a),agg (Aj b)] (bool (decide (a=b))):=by
 refine fo func91 rfl ⟨rfl,rfl⟩ fun M0 w0=> ?_
 refine a2 ?_
 refine Cr 2 3 5 rfl (Tr.HM [2,3,5] [(6,bool (decide (a.AF=b.AF∧a.anchors=b.anchors∧a.hashes=b.hashes)))] (True) ?_ (fun h1=> ?_))
 · repeat' first|exact Fin.AG () (by simp_all) ⟨⟨_,rfl,bool_eq (by simp_all)⟩,ke rfl,ke rfl,ke rfl,trivial⟩|refine co rfl (Dc (X9) rfl rfl rfl) (cm rfl ?_)|refine cy h rfl (Dc (X9) rfl rfl rfl) ?_|refine ac ?_|(refine Ch.cg rfl rfl rfl ?_ ?_<;>intro h q)
 · repeat' first|(refine bool_eq ?_;cases a;cases b;simp_all [Bool.beq_eq_decide_eq])|refine cy h rfl (AX rfl (gj) ⟨ke rfl,ke rfl,⟨_,rfl,Bt (dom:=fun p:DO×DO=>[agg (BC p.1),agg (BC p.2)]) (res:=fun p=>bool (decide (p.1=p.2))) nY (fun p=>nX (a:=p.1) (b:=p.2))⟩,trivial⟩) ?_|refine ac ?_|(refine Ch.cg rfl rfl rfl ?_ ?_<;>intro h q)
theorem bN:Entry Tryz.prog 91:=⟨_,Tryz.func91,rfl,rfl⟩
theorem gl {a b:List BJ}  :A4 prog 90 [gf a,gf b,G1 prog (fun p:BJ×BJ=>[agg (Aj p.1),agg (Aj p.2)]) (fun p=>bool (decide (p.1=p.2)))] (bool (decide (a=b))):=by
 refine fo func90 rfl ⟨rfl,rfl⟩ fun M0 w0=>(Tr.EC 0 rfl fun Ex=>(Tr.EC 1 rfl fun JN=> ?_))
 refine ac ?_
 refine an ?_ ?_<;>intro h1 q1
 have hne:¬a.length=b.length:=by simp_all;omega
 refine a2 ?_
 · refine bool_eq ?_;symm;rw [decide_eq_false_iff_not];rintro rfl;exact hne rfl
 have F8:a.length=b.length:=by simp_all;omega
 refine a2 ?_
 refine Tr.block (Tr.BW [(1,_),(2,_),(15,_),(16,_)] (R7 rfl) (fun k:Nat=>[(17,int ((k:Nat):Int))]) (fun k:Nat=>k≤(a).length∧(a.take k=b.take k)) (fun k:Nat=>(a).length-k) 0 (⟨Nat.zero_le _,rfl⟩) ⟨ke rfl,trivial⟩ ?_)
 rintro k ⟨Bk,Ac⟩
 refine ac ?_
 refine Tr.seq ?_
 refine Tr.cn rfl ?_ ?_<;>intro h2 q2
 have Ao:k<(a).length:=AZ h2
 obtain ⟨x,An⟩:=at_ Ao
 obtain ⟨y,hy⟩:=at_ (l:=b) (k:=k) (by omega)
 refine ac ?_
 refine ao ?_
 refine tp rfl (AB rfl underlying37 BI (vl rfl) (vl rfl) (by omega) (Ak An)) (tp rfl (AO rfl Bh BI (vl rfl) rfl rfl) ?_)
 refine Tl rfl rfl rfl rfl z32 Dl (fun b1=> ?_)
 refine tm rfl ?_
 refine sf 0 8 ⟨rfl,rfl,rfl⟩ rfl rfl rfl rfl ?_
 refine ao ?_
 refine ao ?_
 refine tp rfl (AB rfl underlying37 BI (vl rfl) (vl rfl) (by omega) (Ak hy)) (tp rfl (AO rfl Bh BI (vl rfl) rfl rfl) ?_)
 refine Tl rfl rfl rfl rfl z32 Dl (fun b2=> ?_)
 refine sf 0 9 ⟨rfl,rfl,rfl⟩ rfl rfl rfl rfl ?_
 refine ao ?_
 · repeat' first|(refine bool_eq ?_;symm;rw [decide_eq_false_iff_not];refine Iq An hy ?_;rintro rfl;simp_all)|exact Fin.AG (k+1) ⟨⟨Ao,HD An hy Ac (by simp_all)⟩,by omega⟩ ⟨⟨_,rfl,AS k⟩,ke rfl,ke rfl,ke rfl,ke rfl,trivial⟩|refine co rfl (BN (x,y) rfl (vl rfl) ⟨ke rfl,ke rfl,trivial⟩) ?_|refine ac ?_|(refine Tr.cn rfl ?_ ?_<;>intro h q)
 have BQ:k=(a).length:=by have:=Aa h2;omega
 subst BQ
 refine a3 ?_
 · refine bool_eq ?_;symm;rw [decide_eq_true_eq];exact HE F8 Ac
structure Gr where
 ep:BJ
 CZ:List BJ
deriving DecidableEq
abbrev EE (h:Gr):List Pr:=[str h.ep.name,int h.ep.least,int h.ep.most,ints h.ep.AF,bool h.ep.own,DC h.ep.ids,ints h.ep.anchors,ints h.ep.hashes,bool h.ep.De,gf h.CZ]
structure Gr.small (h:Gr):Prop where
 ep:h.ep.small
 len:h.CZ.length≤1000000
 CZ:∀e∈h.CZ,e.small
def UI:Gr:=⟨Bf,[]⟩
def HF (h:Gr):Gr×Int:=match h.CZ[h.CZ.length-1]? with|some x=>(⟨x,h.CZ.take (h.CZ.length-1)⟩,0)|none=>(h,4)
theorem Ng {h:Gr} {x:BJ} (hx:h.CZ[h.CZ.length-1]? =some x):HF h=(⟨x,h.CZ.take (h.CZ.length-1)⟩,0):=by unfold HF;rw [hx]
def EB {β:Type} (n:Nat) (l:List β):List β:=l.drop (l.length-n)
def FC (h:Gr) (to:BJ) (k:Int):Gr×Bool×Int:=
 if BK to=false then (h,false,19) else if to.name≠h.ep.name then (h,false,14) else if ¬(0≤k∧k≤3) then (h,false,2)
 else (if k=0∨k=2 then ⟨to,EB 24 (h.CZ++[h.ep])⟩ else h,decide (k=0∨k=3),0)
theorem GN {v:Value} {p q:Pr} (h:Pr.le p q):Pr.le (Ay v p) (Ay v q):=fun _ _ _ x=>⟨x.1,h _ _ _ x.2⟩
theorem H8 {β γ:Type} {f:β→γ} {l:List β} {k:Nat} {x:β} (h:l[k]? =some x):(l.take k).map f++[f x]=(l.take (k+1)).map f:=by rw [List.take_add_one,h,List.map_append];rfl
theorem KO {h:Gr} (hs:h.small):A4 prog 103 [agg (EE h)] (agg (EE h)):=by
 refine fo func103 rfl ⟨rfl,rfl⟩ fun M0 w0=> ?_
 have hl:=hs.len
 refine Tr.seq (Tr.Ax (tp rfl (Ba rfl (Va rfl)) ?_))
 refine Tl rfl rfl rfl rfl JH Eb (fun b1=> ?_)
 refine ao ?_
 refine ao ?_
 refine tp rfl (Bq (Ip hs.ep) rfl rfl) (tp rfl (oD) ?_)
 refine Tl rfl rfl rfl rfl JH Eb (fun b2=> ?_)
 refine TO.AR 0 rfl rfl rfl (vl rfl) (Va rfl) rfl Br rfl rfl ?_
 refine ao ?_
 refine ac ?_
 refine Tr.block (Tr.GQ 0 [str h.ep.name,int h.ep.least,int h.ep.most,ints h.ep.AF,bool h.ep.own,DC h.ep.ids,ints h.ep.anchors,ints h.ep.hashes,bool h.ep.De,Ay (.slice none 0 0) (slice 9 ((h.CZ.take 0).map Aj))] rfl ⟨Lr,Lr,Lr,Lr,Lr,Lr,Lr,Lr,Lr,Dv rfl,trivial⟩ (Tr.EZ 32 9 (Tr.Ea [(2,_),(3,_),(11,_),(12,_)] ⟨ke rfl,ke rfl,ke rfl,ke rfl,trivial⟩ (fun k v=>[(13,int ((k:Nat):Int))]) (fun k v=>Hp M0 w0 Jp ([BR 32 9 v,AA true b2 82 [str h.ep.name,int h.ep.least,int h.ep.most,ints h.ep.AF,bool h.ep.own,DC h.ep.ids,ints h.ep.anchors,ints h.ep.hashes,bool h.ep.De,Ay v (slice 9 ((h.CZ.take k).map Aj))],AA true b1 82 (([.string (ByteArray.mk #[]),.int .i64 0,.int .i64 0,.slice none 0 0,.bool false,.slice none 0 0,.slice none 0 0,.slice none 0 0,.bool false,.slice none 0 0]:List Value).map is)])) (fun k:Nat=>k≤(h.CZ).length) (fun k:Nat=>(h.CZ).length-k) 0 (.slice none 0 0) (Nat.zero_le _) ⟨ke rfl,trivial⟩ (fun _ _ h=>h) ?_)))
 rintro k v Bk
 refine ac ?_
 refine Tr.seq ?_
 refine Tr.cn rfl ?_ ?_<;>intro h1 q1
 have Ao:k<(h.CZ).length:=AZ h1
 obtain ⟨x,An⟩:=at_ Ao
 have hxs:=hs.CZ x (List.mem_of_getElem? An)
 refine ac ?_
 refine Tr.seq (Tr.block (Tr.seq (Tr.Ax (tp rfl (AB rfl underlying37 BI (vl rfl) (vl rfl) (by omega) (by exact Ak (by assumption))) ?_))))
 refine tp rfl (AO rfl Bh BI (vl rfl) rfl rfl) ?_
 refine Tl rfl rfl rfl rfl z32 Dl (fun b3=> ?_)
 refine sf 0 5 ⟨rfl,rfl,rfl⟩ rfl rfl rfl rfl ?_
 refine ao ?_
 refine Tr.pad (Tr.rx ?_)
 refine ax ?_
 refine xo rfl (fun _=>Bq (Ip hxs) rfl rfl) (xo rfl (fun _=>AM (xs:=[.tmp 20]) (rows:=[_]) rfl rfl underlying37 BI z32 rfl (by decide) ⟨⟨(by exact rfl),(Va rfl)⟩,trivial⟩ (by decide)) ?_)
 refine Cx.ef 1 rfl rfl (by decide) (DN rfl rfl rfl rfl underlying37 BI PD z32 (Kb rfl) (Kf rfl) (B9 (by exact List.Mem.head _) (Ka rfl))) ?_
 refine xo rfl (fun _=>AE rfl JY (vl rfl)) (Cx.CT 2 rfl rfl (Cb rfl rfl rfl (vl rfl) rfl PF (by exact Nb rfl)) ?_)
 refine Cx.nil ⟨by kernel_rfl,?_⟩
 refine A9.Hu 1 2 22 rfl rfl (by decide) rfl (fun v1=> ?_)
 refine A9.done IY ?_
 refine ac ?_
 refine Tr.drop 0 (EM 2 3 11 12 13 rfl ?_)
 refine ac ?_
 refine Fin.GQ 1 [str h.ep.name,int h.ep.least,int h.ep.most,ints h.ep.AF,bool h.ep.own,DC h.ep.ids,ints h.ep.anchors,ints h.ep.hashes,bool h.ep.De,Ay v1 (slice 9 ((h.CZ.take (k+1)).map Aj))] rfl ⟨Lr,Lr,Lr,Lr,Lr,Lr,Lr,Lr,Lr,CE (H8 (f:=Aj) An),trivial⟩ (Fin.Fu (k+1) v1 (⟨Ao,by omega⟩) ⟨⟨_,rfl,AS k⟩,ke rfl,ke rfl,ke rfl,ke rfl,trivial⟩ (fun _ _ h=>h))
 have BQ:k=(h.CZ).length:=by have:=Aa h1;omega
 subst BQ
 refine ac ?_
 refine ao ?_
 refine TO.AR 2 rfl rfl rfl (vl rfl) (Va rfl) rfl Br rfl rfl ?_
 refine ao ?_
 refine Tr.ret (Fin.CG rfl (AL.cell 2 rfl rfl Bo Br rfl (Lr)) ?_)
 · exact AY ⟨Lr,Lr,Lr,Lr,Lr,Lr,Lr,Lr,Lr,Pr.le_trans (Ar _ _) (Pr.le_of_eq (by rw [List.take_length])),trivial⟩
theorem X_ {e:BJ} (hf:e.fits) (B6:e.small):A4 prog 49 [agg (Aj e)] (Eu [agg (EE (if BK e=true then ⟨e,[]⟩ else UI)),int (if BK e=true then 0 else 19)]):=by
 refine fo func49 rfl ⟨rfl,rfl⟩ fun M0 w0=>(Tr.seq (Tr.Ax (tp rfl (Ba rfl (Va rfl)) ?_)))
 refine Tl rfl rfl rfl rfl JH Eb (fun b1=> ?_)
 refine ap ?_
 refine ac ?_
 refine co rfl (Bq (C6 hf) rfl rfl) ?_
 refine an ?_ ?_<;>intro h1 q1
 have hne:¬BK e=true:=by have:=q1;cases h_:BK e<;>simp_all
 refine ap ?_
 refine Tr.ret (Fin.AJ (Fin.DK rfl (AL.cell 0 rfl rfl Bo Br rfl (Lr)) (AL.tmp rfl (Lr)) ?_))
 refine A_ ⟨?_,?_,trivial⟩
 · rw [if_neg hne];exact AY ⟨Lr,Lr,Lr,AD 1,Lr,AD 4,AD 1,AD 1,Lr,AD 9,trivial⟩
 · exact int_eq (by rw [if_neg hne])
 have hce:BK e=true:=by have:=q1;cases h_:BK e<;>simp_all
 refine ac ?_
 refine ap ?_
 refine tp rfl (AX rfl (KO (h:=⟨e,[]⟩) ⟨B6,by show 0≤_;omega,fun x hx=>by cases hx⟩) ⟨⟨_,rfl,AY ⟨Lr,Lr,Lr,Lr,Lr,Lr,Lr,Lr,Lr,AD 9,trivial⟩⟩,trivial⟩) ?_
 refine ap ?_
 refine Tr.ret (Fin.DK rfl (AL.cell 0 rfl rfl Bo Br rfl (Lr)) (AL.tmp rfl (Lr)) ?_)
 refine A_ ⟨?_,?_,trivial⟩
 · rw [if_pos hce];exact Lr
 · exact int_eq (by rw [if_pos hce])
theorem YA {n:Int}  :A4 prog 106 [int n] (bool (decide (0≤n∧n≤3))):=by
 refine fo func106 rfl ⟨rfl,rfl⟩ fun M0 w0=> ?_
 refine ac ?_
 refine ac ?_
 refine Ch.cs 5 rfl ?_ ?_<;>intro h1 q1
 refine ac ?_
 refine ac ?_
 · refine bool_eq ?_;rw [Bool.eq_iff_iff];simp_all
 refine ac ?_
 refine ac ?_
 · refine bool_eq ?_;rw [Bool.eq_iff_iff];simp_all;omega
theorem bO {n:Int}  :A4 prog 107 [int n] (bool (decide (n=0∨n=2))):=by
 refine fo func107 rfl ⟨rfl,rfl⟩ fun M0 w0=> ?_
 · repeat' first|(refine bool_eq ?_;rw [Bool.eq_iff_iff];simp_all)|refine ac ?_|(refine Ch.cg rfl rfl rfl ?_ ?_<;>intro h q)
theorem UJ {n:Int}  :A4 prog 108 [int n] (bool (decide (n=0∨n=3))):=by
 refine fo func108 rfl ⟨rfl,rfl⟩ fun M0 w0=> ?_
 · repeat' first|(refine bool_eq ?_;rw [Bool.eq_iff_iff];simp_all)|refine ac ?_|(refine Ch.cg rfl rfl rfl ?_ ?_<;>intro h q)
theorem bP {a b:Gr}  :A4 prog 60 [agg (EE a),agg (EE b)] (bool (decide (a=b))):=by
 refine fo func60 rfl ⟨rfl,rfl⟩ fun M0 w0=> ?_
 refine a2 ?_
 refine co rfl (Dc (UH (a:=a.ep) (b:=b.ep)) rfl rfl rfl) ?_
 refine cm rfl ?_
 · repeat' first|(refine bool_eq ?_;cases a;cases b;simp_all)|refine cy h rfl (AX rfl (gl (a:=a.CZ) (b:=b.CZ)) ⟨ke rfl,ke rfl,⟨_,rfl,Bt (dom:=fun p:BJ×BJ=>[agg (Aj p.1),agg (Aj p.2)]) (res:=fun p=>bool (decide (p.1=p.2))) bN (fun p=>UH (a:=p.1) (b:=p.2))⟩,trivial⟩) ?_|refine ac ?_|(refine Ch.cg rfl rfl rfl ?_ ?_<;>intro h q)
theorem UK {h:Gr} (hs:h.small):A4 prog 53 [agg (EE h)] (Eu [agg (EE (HF h).1),int (HF h).2]):=by
 refine fo func53 rfl ⟨rfl,rfl⟩ fun M0 w0=>(Tr.seq (Tr.Ax (tp rfl (Ba rfl (Va rfl)) ?_)))
 refine Tl rfl rfl rfl rfl JH Eb (fun b1=> ?_)
 refine ap ?_
 refine ap ?_
 refine tp rfl (Bq (KO hs) rfl rfl) ?_
 refine Tl rfl rfl rfl rfl JH Eb (fun b2=> ?_)
 refine ap ?_
 refine a2 ?_
 refine Ez 2 4 5 12 rfl ?_
 refine Tr.cn rfl ?_ ?_<;>intro h1 q1
 have hz:h.CZ=[]:=List.eq_nil_of_length_eq_zero (by have:=q1;omega)
 have hb:HF h=(h,4):=by unfold HF;rw [hz];rfl
 refine ap ?_
 refine Tr.drop 0 (Tr.ret (Fin.AJ (Fin.DK rfl (AL.cell 0 rfl rfl Bo Br rfl (Lr)) (AL.tmp rfl (Lr)) ?_)))
 refine A_ ⟨?_,?_,trivial⟩
 · rw [hb];exact Lr
 · exact int_eq (by rw [hb])
 obtain ⟨x,hx⟩:=at_ (l:=h.CZ) (k:=h.CZ.length-1) (by have:=q1;omega)
 have hb:=Ng hx
 have hlt:=Bb hx
 have hl:=hs.len
 refine ac ?_
 refine Tr.seq (Tr.rx ?_)
 refine ay ?_
 refine xo rfl (fun _=>AB rfl underlying37 BI (vl rfl) (vl rfl) (by omega) (Du (f:=Aj) (by rw [show (((h.CZ.length:Nat):Int)-1).toNat=h.CZ.length-1 by omega];exact hx))) ?_
 refine ay ?_
 refine xo rfl (fun _=>Cn rfl underlying37 BI (vl rfl) (vl rfl) (by omega) (by simp;omega)) ?_
 refine ay ?_
 refine Cx.nil ⟨by kernel_rfl,?_⟩
 refine A9.done KP (Fin.go (CL 2 4 rfl ?_))
 refine ap ?_
 refine Tr.drop 0 (Tr.ret (Fin.DK rfl (AL.cell 0 rfl rfl Bo Br rfl (Lr)) (AL.tmp rfl (Lr)) ?_))
 refine A_ ⟨?_,?_,trivial⟩
 · rw [hb];exact AY ⟨Lr,Lr,Lr,Lr,Lr,Lr,Lr,Lr,Lr,Pr.le_of_eq (by show _=slice 9 ((h.CZ.take (h.CZ.length-1)).map Aj);rw [List.map_take,show (((h.CZ.length:Nat):Int)-1).toNat=h.CZ.length-1 by omega]),trivial⟩
 · exact int_eq (by rw [hb])
theorem YB {h:Gr} (hs:h.small):Jg prog 103 [agg (EE h)] (fun x=>agg [str h.ep.name,int h.ep.least,int h.ep.most,ints h.ep.AF,bool h.ep.own,DC h.ep.ids,ints h.ep.anchors,ints h.ep.hashes,bool h.ep.De,Ay x (slice 9 (h.CZ.map Aj))]) (fun x=>[BR 32 9 x]):=by
 refine Jg.of func103 rfl rfl (by exact Nb rfl) fun M0 w0 S rs M1 w1=> ?_
 have hl:=hs.len
 refine Tr.seq (Tr.Ax (tp rfl (Ba rfl (Va rfl)) ?_))
 refine Tl rfl rfl rfl rfl JH Eb (fun b1=> ?_)
 refine ao ?_
 refine ao ?_
 refine tp rfl (Bq (Ip hs.ep) rfl rfl) (tp rfl (oD) ?_)
 refine Tl rfl rfl rfl rfl JH Eb (fun b2=> ?_)
 refine TO.AR 0 rfl rfl rfl (vl rfl) (Va rfl) rfl Br rfl rfl ?_
 refine ao ?_
 refine ac ?_
 refine Tr.block (Tr.GQ 0 [str h.ep.name,int h.ep.least,int h.ep.most,ints h.ep.AF,bool h.ep.own,DC h.ep.ids,ints h.ep.anchors,ints h.ep.hashes,bool h.ep.De,Ay (.slice none 0 0) (slice 9 ((h.CZ.take 0).map Aj))] rfl ⟨Lr,Lr,Lr,Lr,Lr,Lr,Lr,Lr,Lr,Dv rfl,trivial⟩ (Tr.EZ 32 9 (Tr.Ea [(2,_),(3,_),(11,_),(12,_)] ⟨ke rfl,ke rfl,ke rfl,ke rfl,trivial⟩ (fun k v=>[(13,int ((k:Nat):Int))]) (fun k v=>Hp M0 w0 S (BR 32 9 v::AA true b2 82 [str h.ep.name,int h.ep.least,int h.ep.most,ints h.ep.AF,bool h.ep.own,DC h.ep.ids,ints h.ep.anchors,ints h.ep.hashes,bool h.ep.De,Ay v (slice 9 ((h.CZ.take k).map Aj))]::AA true b1 82 (([.string (ByteArray.mk #[]),.int .i64 0,.int .i64 0,.slice none 0 0,.bool false,.slice none 0 0,.slice none 0 0,.slice none 0 0,.bool false,.slice none 0 0]:List Value).map is)::Bc M1 w1::rs)) (fun k:Nat=>k≤(h.CZ).length) (fun k:Nat=>(h.CZ).length-k) 0 (.slice none 0 0) (Nat.zero_le _) ⟨ke rfl,trivial⟩ (fun _ _ h=>h) ?_)))
 rintro k v Bk
 refine ac ?_
 refine Tr.seq ?_
 refine Tr.cn rfl ?_ ?_<;>intro h1 q1
 have Ao:k<(h.CZ).length:=AZ h1
 obtain ⟨x,An⟩:=at_ Ao
 have hxs:=hs.CZ x (List.mem_of_getElem? An)
 refine ac ?_
 refine Tr.seq (Tr.block (Tr.seq (Tr.Ax (tp rfl (AB rfl underlying37 BI (vl rfl) (vl rfl) (by omega) (by exact Ak (by assumption))) ?_))))
 refine tp rfl (AO rfl Bh BI (vl rfl) rfl rfl) ?_
 refine Tl rfl rfl rfl rfl z32 Dl (fun b3=> ?_)
 refine sf 0 5 ⟨rfl,rfl,rfl⟩ rfl rfl rfl rfl ?_
 refine ao ?_
 refine Tr.pad (Tr.rx ?_)
 refine ax ?_
 refine xo rfl (fun _=>Bq (Ip hxs) rfl rfl) (xo rfl (fun _=>AM (xs:=[.tmp 20]) (rows:=[_]) rfl rfl underlying37 BI z32 rfl (by decide) ⟨⟨(by exact rfl),(Va rfl)⟩,trivial⟩ (by decide)) ?_)
 refine Cx.ef 1 rfl rfl (by decide) (DN rfl rfl rfl rfl underlying37 BI PD z32 (Kb rfl) (Kf rfl) (B9 (by exact List.Mem.head _) (Ka rfl))) ?_
 refine xo rfl (fun _=>AE rfl JY (vl rfl)) (Cx.CT 2 rfl rfl (Cb rfl rfl rfl (vl rfl) rfl PF (by exact Nb rfl)) ?_)
 refine Cx.nil ⟨by kernel_rfl,?_⟩
 refine A9.Hu 1 2 22 rfl rfl (by decide) rfl (fun v1=> ?_)
 refine A9.done Zb ?_
 refine ac ?_
 refine Tr.drop 0 (EM 2 3 11 12 13 rfl ?_)
 refine ac ?_
 refine Fin.GQ 1 [str h.ep.name,int h.ep.least,int h.ep.most,ints h.ep.AF,bool h.ep.own,DC h.ep.ids,ints h.ep.anchors,ints h.ep.hashes,bool h.ep.De,Ay v1 (slice 9 ((h.CZ.take (k+1)).map Aj))] rfl ⟨Lr,Lr,Lr,Lr,Lr,Lr,Lr,Lr,Lr,CE (H8 (f:=Aj) An),trivial⟩ (Fin.Fu (k+1) v1 (⟨Ao,by omega⟩) ⟨⟨_,rfl,AS k⟩,ke rfl,ke rfl,ke rfl,ke rfl,trivial⟩ (fun _ _ h=>h))
 have BQ:k=(h.CZ).length:=by have:=Aa h1;omega
 subst BQ
 refine ac ?_
 refine ao ?_
 refine TO.AR 2 rfl rfl rfl (vl rfl) (Va rfl) rfl Br rfl rfl ?_
 refine ao ?_
 refine Tr.ret (Fin.drop 1 (Fin.Kr (Fin.Ui v [_] rfl (AL.cell 0 rfl rfl Bo Br rfl (Lr)) ?_ (List.Perm.refl _))))
 · exact AY ⟨Lr,Lr,Lr,Lr,Lr,Lr,Lr,Lr,Lr,GN (Pr.le_of_eq (by rw [List.take_length])),trivial⟩
theorem hs0 {e:BJ} (h:e.small):(⟨e,[]⟩:Gr).small:=⟨h,by show 0≤_;omega,fun x hx=>by cases hx⟩
theorem UL {e:BJ} (hf:e.fits) (B6:e.small) (hce:BK e=true):A4 Tryz.prog 49 [agg (Aj e)] (Eu [agg (EE ⟨e,[]⟩),int 0]):=by
 have:=X_ hf B6;rw [if_pos hce,if_pos hce] at this;exact this
theorem bQ {e:BJ} (hf:e.fits) (B6:e.small) (hce:BK e=false):A4 Tryz.prog 49 [agg (Aj e)] (Eu [agg (EE UI),int 19]):=by
 have:=X_ hf B6;rw [if_neg (by rw [hce];decide),if_neg (by rw [hce];decide)] at this;exact this
theorem YC:Bf.fits:=⟨by show 0≤_;omega,fun x hx=>by cases hx⟩
theorem VW:Bf.small:=⟨by show 0≤_;omega,by show 0≤_;omega,by show 0≤_;omega,by show 0≤_;omega,fun x hx=>by cases hx⟩
abbrev eH:BJ:=⟨[97,112,112],1,3,[],false,[],[],[],false⟩
theorem bR:eH.fits:=⟨by show 3≤maxLen;unfold maxLen;omega,fun x hx=>by cases hx⟩
theorem Rv:eH.small:=⟨by show 0≤_;omega,by show 0≤_;omega,by show 0≤_;omega,by show 0≤_;omega,fun x hx=>by cases hx⟩
theorem nZ:BK eH=true:=by decide
theorem YD {e:BJ} (h:e.small):A4 Tryz.prog 53 [agg (EE ⟨e,[]⟩)] (Eu [agg (EE ⟨e,[]⟩),int 4]):=UK (hs0 h)
theorem K8   :A4 prog 48 [] (bool true):=by
 refine fo func48 rfl ⟨rfl,rfl⟩ fun M0 w0=> ?_
 refine ac ?_
 refine ao ?_
 refine tp rfl (AX rfl (bQ YC VW (by decide)) ⟨⟨_,rfl,AY ⟨Lr,Lr,Lr,AD 1,Lr,AD 4,AD 1,AD 1,Lr,trivial⟩⟩,trivial⟩) ?_
 refine ao ?_
 refine Tl rfl rfl rfl rfl JH Eb (fun b1=> ?_)
 refine sf 0 1 ⟨rfl,rfl,rfl⟩ rfl rfl rfl rfl ?_
 refine ao ?_
 refine ao ?_
 refine tp rfl (AX rfl (UL bR Rv nZ) ⟨⟨_,rfl,AY ⟨Lr,Lr,Lr,AD 1,Lr,AD 4,AD 1,AD 1,Lr,trivial⟩⟩,trivial⟩) ?_
 refine ao ?_
 refine Tl rfl rfl rfl rfl JH Eb (fun b2=> ?_)
 refine sf 0 3 ⟨rfl,rfl,rfl⟩ rfl rfl rfl rfl ?_
 refine ao ?_
 refine Cr 2 3 4 rfl ?_
 refine ao ?_
 refine tp rfl (Bq (YD Rv) rfl rfl) ?_
 refine ao ?_
 refine Tl rfl rfl rfl rfl JH Eb (fun b3=> ?_)
 refine sf 0 5 ⟨rfl,rfl,rfl⟩ rfl rfl rfl rfl ?_
 refine ao ?_
 · repeat' first|exact Lr|exact absurd h (by decide)|refine ac ?_|(refine Ch.cg rfl rfl rfl ?_ ?_<;>intro h q)
def fN (a:A0) (k BO bits n:Int):A0:=⟨a.src,a.host,a.machine,a.day,a.E0,k,a.Eh,BO,bits,n,[]⟩
def Gs (a:A0) (e:BJ):List A0:=[fN a 5 0 0 e.least,fN a 4 0 0 e.most]++e.AF.map (fN a 2 0 0)++e.ids.map (fun x=>fN a 3 x.BO x.bits x.BG)++e.anchors.map (fN a 6 0 0)++e.hashes.map (fun n=>fN a 1 n 0 0)
def Rw (a:A0) (e:BJ):List A0×Int:=if B2 (fN a 4 0 0 1)=false then ([],24) else if BK e=false then ([],19) else (LO (Gs a e),0)
theorem MO {a:A0} {k BO bits n:Int} (h:a.fits):(fN a k BO bits n).fits:=⟨h.host,h.Eh,by show 0≤maxLen;omega⟩
theorem TC:∀n:Nat,n<23→(C5 (n:Int)).kind=1→1≤n∧n≤4:=by decide+kernel
theorem YE:∀n:Nat,n<23→(C5 (n:Int)).kind=1→B5 (n:Int) 0>0:=by decide+kernel
theorem bS {a:A0} (hf:a.fits):Le (α:=Nat) prog 151 [agg (Ad a)] [] (fun _=>True) (fun b=>Eu [ptr b 0,int (if B2 (fN a 4 0 0 1) then 0 else 24)]) (fun b=>[AA true b 191 (Ad (fN a 4 0 0 1)++[is (.slice none 0 0)])]):=by
 refine Le.of func151 rfl rfl (by exact Nb rfl) fun M0 w0 S rs M1 w1=>(Tr.seq (Tr.Ax ?_))
 refine TO.IA rfl rfl (by decide) rfl (Va rfl) (fun b1=> ?_)
 refine tm rfl (tm rfl (TO.nil (Fin.go (Tr.seq (Tr.Ax (tp rfl (As (rows:=[]) rfl Ny DZ trivial rfl) (tp rfl (AE rfl SM (vl rfl)) (TO.CT 0 rfl rfl (Ab rfl rfl (vl rfl) (Vo rfl) Cg rfl (by exact Nb rfl) rfl) (tp rfl (AE rfl SN (vl rfl)) (TO.CT 0 rfl rfl (Ab rfl rfl (vl rfl) (Va rfl) C3 rfl (by exact Nb rfl) rfl) (tp rfl (AE rfl PJ (vl rfl)) (TO.CT 0 rfl rfl (Ab rfl rfl (vl rfl) (Vo rfl) Cg rfl (by exact Nb rfl) rfl) (tp rfl (AE rfl WB (vl rfl)) ?_)))))))))))))
 refine TO.CT 0 rfl rfl (Ab rfl rfl (vl rfl) (Vo rfl) JB rfl (by exact Nb rfl) rfl) (TO.nil (Fin.go (Tr.seq (Tr.pad (Tr.Jv mixed [some (0,1,false,0),none,some (0,0,true,11),some (0,1,false,0),none,some (11,0,true,2),none] (by kernel_rfl) (Ev 1 rfl rfl (AQ rfl BD AW (vl rfl) rfl rfl) (xo rfl (fun _=>As (rows:=[(0,_)]) rfl kC kD ⟨⟨rfl,(Va rfl)⟩,trivial⟩ rfl) (Cx.ef 0 rfl rfl (by decide) (Zm rfl rfl (by decide) rfl (Va rfl)) (Ev 1 rfl rfl (AQ rfl BD AW (vl rfl) rfl rfl) (xo rfl (fun _=>AX rfl (RA (f:=fN a 4 0 0 1) (MO hf)) ⟨ke rfl,trivial⟩) (Cx.ef 0 rfl rfl (by decide) (E7 rfl rfl (by decide) rfl (vl rfl)) (xm rfl ?_))))))))))))
 refine Cx.nil ⟨rfl,?_⟩
 refine A9.open_ 0 2 rfl rfl (fun v1=> ?_)
 refine A9.done (CB.cons (CB.cons (CB.cons (CB.map _)))) (Fin.iA 2 0 _ rfl rfl (fun _=>rfl) (fun b2=> ?_))
 refine Fin.go (Tr.drop 1 (CL 2 3 rfl (Tr.ret (Fin.ku (b2) rfl (AL.tmp rfl (Lr)) (AL.tmp rfl (Lr)) trivial ?_ (List.Perm.refl _)))))
 · exact Lr
theorem I9 {a:A0} {l:List A0} {pb:Nat} {v:Value} {k BO bits n:Int} (hl:l.length≤1000):Le (α:=Value) prog 152 [ptr pb 0,int k,agg [int BO,int bits],int n] [AA true pb 191 (Ad a++[Ay v (Dq l)]),BR 96 11 v] (fun _=>True) (fun _=>FJ) (fun x=>[AA true pb 191 (Ad a++[Ay x (Dq (l++[⟨a.src,a.host,a.machine,a.day,a.E0,k,a.Eh,BO,bits,n,a.text⟩]))]),BR 96 11 x]):=by
 refine Le.of func152 rfl rfl (by exact Nb rfl) fun M0 w0 S rs M1 w1=> ?_
 refine ac ?_
 refine ap ?_
 refine Tl rfl rfl rfl rfl G2 Lc (fun b1=> ?_)
 refine ap ?_
 refine Tr.seq (Tr.rx ?_)
 refine ax ?_
 refine Cx.CT 0 rfl rfl (Ab rfl rfl (vl rfl) (Vo rfl) Cg rfl (by exact Nb rfl) rfl) (xo rfl (fun _=>AE rfl SN (vl rfl)) (Cx.CT 0 rfl rfl (Ab rfl rfl (vl rfl) (Va rfl) C3 rfl (by exact Nb rfl) rfl) (xo rfl (fun _=>AE rfl PJ (vl rfl)) (Cx.CT 0 rfl rfl (Ab rfl rfl (vl rfl) (Vo rfl) Cg rfl (by exact Nb rfl) rfl) ?_))))
 refine Cx.nil ⟨by kernel_rfl,?_⟩
 refine A9.done IY (Fin.go (Tr.pad (Tr.rx ?_)))
 refine ax ?_
 refine xo rfl (fun _=>AM (xs:=[.tmp 24]) (rows:=[_]) rfl rfl underlying92 AW G2 rfl (by decide) ⟨⟨(by exact rfl),(Va rfl)⟩,trivial⟩ (by decide)) ?_
 refine Cx.ef 3 rfl rfl (by decide) (DN rfl rfl rfl rfl underlying92 AW HS G2 (Kb rfl) (Kf rfl) (B9 (by exact List.Mem.head _) (Ka rfl))) ?_
 refine ax ?_
 refine Cx.CT 2 rfl rfl (Cb rfl rfl rfl (vl rfl) rfl qG (by exact Nb rfl)) ?_
 refine Cx.nil ⟨by kernel_rfl,?_⟩
 refine A9.Hu 3 2 26 rfl rfl (by decide) rfl (fun v1=> ?_)
 refine A9.done Zb ?_
 refine Fin.GQ 2 (Ad a++[Ay v1 (Dq (l++[⟨a.src,a.host,a.machine,a.day,a.E0,k,a.Eh,BO,bits,n,a.text⟩]))]) rfl ⟨Lr,Lr,Lr,Lr,Lr,Lr,Lr,Lr,Lr,Lr,Lr,CE (by rw [List.map_append];rfl),trivial⟩ ?_
 refine Fin.drop 0 (Fin.drop 0 (Fin.mL (v1) rfl trivial (List.Perm.refl _)))
theorem QO {a:A0} {e:BJ} (ha:B2 (fN a 4 0 0 1)=true) (he:BK e=true):(∀f∈Gs a e,B2 f=true)∧(Gs a e).length<50:=by
 have ok:=Bv.1 he
 have hc:∀k BO bits n,Al (fN a k BO bits n)=true→B2 (fN a k BO bits n)=true:=by
  intro k BO bits n h
  unfold B2 at ha ⊢
  simp only [Bool.and_eq_true] at ha ⊢
  exact ⟨⟨⟨⟨ha.1.1.1.1,ha.1.1.1.2⟩,ha.1.1.2⟩,ha.1.2⟩,h⟩
 have hh:∀n∈e.hashes,1≤n∧n≤4∧B5 n 0>0:=by
  intro n hn
  have h1:=List.all_eq_true.1 ok.hsh n hn
  unfold H6 at h1
  have h2:(C5 n).kind=1:=by simpa using h1
  have h3:0≤n∧n<23:=by
   refine Decidable.byContradiction fun hb=> ?_
   unfold C5 at h2;rw [if_neg (by omega)] at h2;exact absurd h2 (by decide)
  obtain ⟨m,rfl⟩:∃m:Nat,n=(m:Int):=⟨n.toNat,by omega⟩
  have h4:=TC m (by omega) h2
  exact ⟨by omega,by omega,YE m (by omega) h2⟩
 refine ⟨fun f hf=> ?_,?_⟩
 ·
  unfold Gs at hf
  simp only [List.mem_append,List.mem_map,List.mem_cons,List.not_mem_nil,or_false] at hf
  have h1:=ok.least;have h2:=ok.lm;have h3:=ok.most
  rcases hf with ((((h|h)|⟨n,hn,rfl⟩)|⟨x,hx,rfl⟩)|⟨n,hn,rfl⟩)|⟨n,hn,rfl⟩
  · subst h;exact hc _ _ _ _ (by simp [Al,CU,fN];exact ⟨decide_eq_true (by omega),decide_eq_true (by omega)⟩)
  · subst h;exact hc _ _ _ _ (by simp [Al,CU,fN];exact ⟨decide_eq_true (by omega),decide_eq_true (by omega)⟩)
  ·
   have hn2:1≤n∧n≤16:=by
    obtain ⟨j,hj⟩:=List.getElem?_of_mem hn
    have h4:=Cj.1 (show allI (DH e.AF) e.AF.length=true from ok.AF) j (Bb hj)
    unfold DH at h4;rw [DI hj] at h4
    have:=and1 h4
    simpa using this
   exact hc _ _ _ _ (by simp [Al,CU,fN];exact ⟨decide_eq_true (by omega),decide_eq_true (by omega)⟩)
  ·
   have h4:=List.all_eq_true.1 ok.ids x hx
   unfold Tz Kx E4 Er at h4
   simp only [Bool.and_eq_true,decide_eq_true_eq] at h4
   exact hc _ _ _ _ (by simp only [Al,fN];simp;simp_all)
  ·
   have h4:=List.all_eq_true.1 ok.keys n hn
   unfold Er at h4
   simp only [Bool.and_eq_true,decide_eq_true_eq] at h4
   exact hc _ _ _ _ (by simp [Al,CU,fN];exact ⟨decide_eq_true (by omega),decide_eq_true (by omega)⟩)
  · exact hc _ _ _ _ (by simp [Al,fN,(hh n hn).2.2])
 ·
  have h1:=D2 ok.AF;have h2:=ok.KF;have h3:=ok.N8
  have h4:e.hashes.length≤5:=by
   have:=S9 4 e.hashes (fun n hn=>⟨(hh n hn).1,by have:=(hh n hn).2.1;omega⟩) ((ER ok.hash).imp fun h=>by omega)
   omega
  unfold Gs
  simp only [List.length_append,List.length_map,List.length_cons,List.length_nil];omega
def dM (a:A0) (e:BJ):Int:=if B2 (fN a 4 0 0 1)=false then 24 else if BK e=false then 19 else 0
theorem bT {a:A0} {e:BJ} (h:dM a e≠0):Rw a e=([],dM a e):=by
 unfold dM Rw at*
 split
 · rfl
 ·
  split
  · rfl
  next h1 h2=>rw [if_neg h1,if_neg h2] at h;exact absurd rfl h
theorem gm {a:A0} {e:BJ} (h:dM a e=0):B2 (fN a 4 0 0 1)=true∧BK e=true:=by
 unfold dM at h
 cases h1:B2 (fN a 4 0 0 1)
 · rw [if_pos h1] at h;cases h
 ·
  rw [if_neg (by rw [h1];decide)] at h
  cases h2:BK e
  · rw [if_pos h2] at h;cases h
  · exact ⟨rfl,rfl⟩
theorem VX {a:A0} {e:BJ} (h:a.fits):∀f∈Gs a e,f.fits:=by
 intro f hf
 unfold Gs at hf
 simp only [List.mem_append,List.mem_map,List.mem_cons,List.not_mem_nil,or_false] at hf
 rcases hf with ((((h1|h1)|⟨n,hn,rfl⟩)|⟨x,hx,rfl⟩)|⟨n,hn,rfl⟩)|⟨n,hn,rfl⟩
 · subst h1;exact MO h
 · subst h1;exact MO h
 all_goals exact MO h
theorem bU {a:A0} {e:BJ} (hf:a.fits) (he:e.fits):A4 prog 109 [agg (Ad a),agg (Aj e)] (Eu [Dq (Rw a e).1,int (Rw a e).2]):=by
 refine fo func109 rfl ⟨rfl,rfl⟩ fun M0 w0=> ?_
 refine ac ?_
 refine ao ?_
 refine TO.G_ _ rfl rfl (by decide) rfl (bS (a:=a) hf) ⟨ke rfl,trivial⟩ (List.Perm.refl _) (fun x1 _=> ?_)
 refine ao ?_
 refine Cr 3 6 7 rfl (Tr.HM [3,6] [(7,int (dM a e))] (True) ?_ (fun h1=> ?_))
 refine an ?_ ?_<;>intro h2 q2
 refine ac ?_
 refine co rfl (Bq (C6 he) rfl rfl) ?_
 refine ac ?_
 exact Fin.AG () trivial ⟨⟨_,rfl,int_eq (by unfold dM;cases h_:BK e<;>simp_all)⟩,ke rfl,ke rfl,trivial⟩
 refine Tr.skip ?_
 exact Fin.AG () trivial ⟨⟨_,rfl,int_eq (by unfold dM;cases h_:BK e<;>simp_all)⟩,ke rfl,ke rfl,trivial⟩
 refine an ?_ ?_<;>intro h3 q3
 have hA:=bT (a:=a) (e:=e) (by have:=q3;omega)
 refine ac ?_
 refine Tr.ret (Fin.AJ (Fin.Fz rfl (Ct.F5 _ _) rfl ?_ rfl ?_))
 · rw [hA];exact AD 11
 · exact int_eq (by rw [hA])
 obtain ⟨gp,hce⟩:=gm (a:=a) (e:=e) (by have:=q3;omega)
 have hA:Rw a e=(LO (Gs a e),0):=by unfold Rw;rw [if_neg (by rw [gp];decide),if_neg (by rw [hce];decide)]
 have hsh:=QO gp hce
 have hfit:=VX (a:=a) (e:=e) hf
 have SB:=D2 (Bv.1 hce).AF
 have Vq:=(Bv.1 hce).KF
 have hb3:=(Bv.1 hce).N8
 have ng:=hsh.2
 unfold Gs at ng
 simp only [List.length_append,List.length_map,List.length_cons,List.length_nil] at ng
 refine ac ?_
 refine Tr.seq (Tr.EZ 96 11 (Tr.GQ 1 (Ad (fN a 4 0 0 1)++[Ay (.slice none 0 0) (Dq ([]))]) rfl ⟨Lr,Lr,Lr,Lr,Lr,Lr,Lr,Lr,Lr,Lr,Lr,Dv rfl,trivial⟩ ?_))
 refine ao ?_
 refine TO.G_ _ rfl rfl (by decide) rfl (I9 (l:=([]:List A0)) (by simp only [List.length_append,List.length_map,List.length_take,List.length_cons,List.length_nil];omega)) ⟨ke rfl,ke rfl,ke rfl,ke rfl,trivial⟩ ((AK (j:=1) rfl).trans (List.Perm.cons _ ((AK (j:=0) rfl).trans (List.Perm.cons _ (List.Perm.refl _))))) (fun x2 _=> ?_)
 refine ao ?_
 refine ao ?_
 refine TO.G_ _ rfl rfl (by decide) rfl (I9 (l:=_) (by simp only [List.length_append,List.length_map,List.length_take,List.length_cons,List.length_nil];omega)) ⟨ke rfl,ke rfl,ke rfl,ke rfl,trivial⟩ ((AK (j:=0) rfl).trans (List.Perm.cons _ ((AK (j:=0) rfl).trans (List.Perm.cons _ (List.Perm.refl _))))) (fun x3 _=> ?_)
 refine ao ?_
 refine CL 3 6 rfl ?_
 refine ac ?_
 refine Tr.block (Tr.GQ 0 (Ad (fN a 4 0 0 1)++[Ay x3 (Dq (([fN a 5 0 0 e.least,fN a 4 0 0 e.most]:List A0)++(e.AF.take 0).map (fN a 2 0 0)))]) rfl ⟨Lr,Lr,Lr,Lr,Lr,Lr,Lr,Lr,Lr,Lr,Lr,CE (rfl),trivial⟩ (Tr.Ea [(3,_),(6,_),(39,_),(40,_)] ⟨ke rfl,ke rfl,ke rfl,ke rfl,trivial⟩ (fun k v0=>[(41,int ((k:Nat):Int))]) (fun k v0=>Hp M0 w0 Jp ([AA true x1 191 (Ad (fN a 4 0 0 1)++[Ay v0 (Dq (([fN a 5 0 0 e.least,fN a 4 0 0 e.most]:List A0)++(e.AF.take k).map (fN a 2 0 0)))]),BR 96 11 v0])) (fun k:Nat=>k≤(e.AF).length) (fun k:Nat=>(e.AF).length-k) 0 x3 (Nat.zero_le _) ⟨ke rfl,trivial⟩ (fun _ _ h=>h) ?_))
 rintro k v0 Bk
 refine ac ?_
 refine Tr.seq ?_
 refine Tr.cn rfl ?_ ?_<;>intro h4 q4
 have Ao:k<(e.AF).length:=AZ h4
 obtain ⟨c,An⟩:=at_ Ao
 refine ac ?_
 refine Tr.seq (Tr.block (Tr.seq (Tr.B_ (co rfl (AB rfl underlying22 Cg (vl rfl) (vl rfl) (by omega) (by exact Ak (by assumption))) ?_))))
 refine ac ?_
 refine ao ?_
 refine TO.G_ _ rfl rfl (by decide) rfl (I9 (l:=([fN a 5 0 0 e.least,fN a 4 0 0 e.most]:List A0)++(e.AF.take k).map (fN a 2 0 0)) (by simp only [List.length_append,List.length_map,List.length_take,List.length_cons,List.length_nil];omega)) ⟨ke rfl,ke rfl,ke rfl,ke rfl,trivial⟩ ((AK (j:=0) rfl).trans (List.Perm.cons _ ((AK (j:=0) rfl).trans (List.Perm.cons _ (List.Perm.refl _))))) (fun x4 _=> ?_)
 refine ao ?_
 refine ac ?_
 refine Fin.GQ 0 (Ad (fN a 4 0 0 1)++[Ay x4 (Dq (([fN a 5 0 0 e.least,fN a 4 0 0 e.most]:List A0)++(e.AF.take (k+1)).map (fN a 2 0 0)))]) rfl ⟨Lr,Lr,Lr,Lr,Lr,Lr,Lr,Lr,Lr,Lr,Lr,CE (by rw [←H8 (f:=(fN a 2 0 0)) An,←List.append_assoc];rfl),trivial⟩ ?_
 exact Fin.Fu (k+1) x4 (⟨Ao,by omega⟩) ⟨⟨_,rfl,AS k⟩,ke rfl,ke rfl,ke rfl,ke rfl,trivial⟩ (fun _ _ h=>h)
 have BQ:k=(e.AF).length:=by have:=Aa h4;omega
 subst BQ
 rw [List.take_length]
 refine a2 ?_
 refine Tr.block (Tr.GQ 0 (Ad (fN a 4 0 0 1)++[Ay v0 (Dq (([fN a 5 0 0 e.least,fN a 4 0 0 e.most]:List A0)++e.AF.map (fN a 2 0 0)++(e.ids.take 0).map (fun x:DO=>fN a 3 x.BO x.bits x.BG)))]) rfl ⟨Lr,Lr,Lr,Lr,Lr,Lr,Lr,Lr,Lr,Lr,Lr,CE (by rw [List.take_zero,List.map_nil,List.append_nil]),trivial⟩ (Tr.Ea [(3,_),(6,_),(51,_),(52,_)] ⟨ke rfl,ke rfl,ke rfl,ke rfl,trivial⟩ (fun m v1=>[(53,int ((m:Nat):Int))]) (fun m v1=>Hp M0 w0 Jp ([AA true x1 191 (Ad (fN a 4 0 0 1)++[Ay v1 (Dq (([fN a 5 0 0 e.least,fN a 4 0 0 e.most]:List A0)++e.AF.map (fN a 2 0 0)++(e.ids.take m).map (fun x:DO=>fN a 3 x.BO x.bits x.BG)))]),BR 96 11 v1])) (fun m:Nat=>m≤(e.ids).length) (fun m:Nat=>(e.ids).length-m) 0 v0 (Nat.zero_le _) ⟨ke rfl,trivial⟩ (fun _ _ h=>h) ?_))
 rintro m v1 W0
 refine ac ?_
 refine Tr.seq ?_
 refine Tr.cn rfl ?_ ?_<;>intro h5 q5
 have NP:m<(e.ids).length:=AZ h5
 obtain ⟨x,KA⟩:=at_ NP
 refine ac ?_
 refine Tr.seq (Tr.block (Tr.seq (Tr.Ax (tp rfl (AB rfl underlying30 Be (vl rfl) (vl rfl) (by omega) (by exact Ak (by assumption))) ?_))))
 refine tp rfl (AO rfl Ew Be (vl rfl) rfl rfl) ?_
 refine Tl rfl rfl rfl rfl JG IB (fun b1=> ?_)
 refine sf 0 11 ⟨rfl,rfl,rfl⟩ rfl rfl rfl rfl ?_
 refine ao ?_
 refine ao ?_
 refine TO.G_ _ rfl rfl (by decide) rfl (I9 (l:=([fN a 5 0 0 e.least,fN a 4 0 0 e.most]:List A0)++e.AF.map (fN a 2 0 0)++(e.ids.take m).map (fun x:DO=>fN a 3 x.BO x.bits x.BG)) (by simp only [List.length_append,List.length_map,List.length_take,List.length_cons,List.length_nil];omega)) ⟨ke rfl,ke rfl,ke rfl,ke rfl,trivial⟩ ((AK (j:=0) rfl).trans (List.Perm.cons _ ((AK (j:=0) rfl).trans (List.Perm.cons _ (List.Perm.refl _))))) (fun x5 _=> ?_)
 refine ao ?_
 refine EM 3 6 51 52 53 rfl ?_
 refine ac ?_
 refine Fin.GQ 0 (Ad (fN a 4 0 0 1)++[Ay x5 (Dq (([fN a 5 0 0 e.least,fN a 4 0 0 e.most]:List A0)++e.AF.map (fN a 2 0 0)++(e.ids.take (m+1)).map (fun x:DO=>fN a 3 x.BO x.bits x.BG)))]) rfl ⟨Lr,Lr,Lr,Lr,Lr,Lr,Lr,Lr,Lr,Lr,Lr,CE (by rw [←H8 (f:=(fun x:DO=>fN a 3 x.BO x.bits x.BG)) KA,←List.append_assoc];rfl),trivial⟩ ?_
 exact Fin.Fu (m+1) x5 (⟨NP,by omega⟩) ⟨⟨_,rfl,AS m⟩,ke rfl,ke rfl,ke rfl,ke rfl,trivial⟩ (fun _ _ h=>h)
 have Sj:m=(e.ids).length:=by have:=Aa h5;omega
 subst Sj
 rw [List.take_length]
 refine a2 ?_
 refine Tr.block (Tr.GQ 0 (Ad (fN a 4 0 0 1)++[Ay v1 (Dq (([fN a 5 0 0 e.least,fN a 4 0 0 e.most]:List A0)++e.AF.map (fN a 2 0 0)++e.ids.map (fun x:DO=>fN a 3 x.BO x.bits x.BG)++(e.anchors.take 0).map (fN a 6 0 0)))]) rfl ⟨Lr,Lr,Lr,Lr,Lr,Lr,Lr,Lr,Lr,Lr,Lr,CE (by rw [List.take_zero,List.map_nil,List.append_nil]),trivial⟩ (Tr.Ea [(3,_),(6,_),(65,_),(66,_)] ⟨ke rfl,ke rfl,ke rfl,ke rfl,trivial⟩ (fun o v2=>[(67,int ((o:Nat):Int))]) (fun o v2=>Hp M0 w0 Jp ([AA true x1 191 (Ad (fN a 4 0 0 1)++[Ay v2 (Dq (([fN a 5 0 0 e.least,fN a 4 0 0 e.most]:List A0)++e.AF.map (fN a 2 0 0)++e.ids.map (fun x:DO=>fN a 3 x.BO x.bits x.BG)++(e.anchors.take o).map (fN a 6 0 0)))]),BR 96 11 v2])) (fun o:Nat=>o≤(e.anchors).length) (fun o:Nat=>(e.anchors).length-o) 0 v1 (Nat.zero_le _) ⟨ke rfl,trivial⟩ (fun _ _ h=>h) ?_))
 rintro o v2 dK
 refine ac ?_
 refine Tr.seq ?_
 refine Tr.cn rfl ?_ ?_<;>intro h6 q6
 have QI:o<(e.anchors).length:=AZ h6
 obtain ⟨c,Nc⟩:=at_ QI
 refine ac ?_
 refine Tr.seq (Tr.block (Tr.seq (Tr.B_ (co rfl (AB rfl underlying22 Cg (vl rfl) (vl rfl) (by omega) (by exact Ak (by assumption))) ?_))))
 refine ac ?_
 refine ao ?_
 refine TO.G_ _ rfl rfl (by decide) rfl (I9 (l:=([fN a 5 0 0 e.least,fN a 4 0 0 e.most]:List A0)++e.AF.map (fN a 2 0 0)++e.ids.map (fun x:DO=>fN a 3 x.BO x.bits x.BG)++(e.anchors.take o).map (fN a 6 0 0)) (by simp only [List.length_append,List.length_map,List.length_take,List.length_cons,List.length_nil];omega)) ⟨ke rfl,ke rfl,ke rfl,ke rfl,trivial⟩ ((AK (j:=0) rfl).trans (List.Perm.cons _ ((AK (j:=0) rfl).trans (List.Perm.cons _ (List.Perm.refl _))))) (fun x6 _=> ?_)
 refine ao ?_
 refine ac ?_
 refine Fin.GQ 0 (Ad (fN a 4 0 0 1)++[Ay x6 (Dq (([fN a 5 0 0 e.least,fN a 4 0 0 e.most]:List A0)++e.AF.map (fN a 2 0 0)++e.ids.map (fun x:DO=>fN a 3 x.BO x.bits x.BG)++(e.anchors.take (o+1)).map (fN a 6 0 0)))]) rfl ⟨Lr,Lr,Lr,Lr,Lr,Lr,Lr,Lr,Lr,Lr,Lr,CE (by rw [←H8 (f:=(fN a 6 0 0)) Nc,←List.append_assoc];rfl),trivial⟩ ?_
 exact Fin.Fu (o+1) x6 (⟨QI,by omega⟩) ⟨⟨_,rfl,AS o⟩,ke rfl,ke rfl,ke rfl,ke rfl,trivial⟩ (fun _ _ h=>h)
 have X5:o=(e.anchors).length:=by have:=Aa h6;omega
 subst X5
 rw [List.take_length]
 refine a2 ?_
 refine Tr.block (Tr.GQ 0 (Ad (fN a 4 0 0 1)++[Ay v2 (Dq (([fN a 5 0 0 e.least,fN a 4 0 0 e.most]:List A0)++e.AF.map (fN a 2 0 0)++e.ids.map (fun x:DO=>fN a 3 x.BO x.bits x.BG)++e.anchors.map (fN a 6 0 0)++(e.hashes.take 0).map (fun n:Int=>fN a 1 n 0 0)))]) rfl ⟨Lr,Lr,Lr,Lr,Lr,Lr,Lr,Lr,Lr,Lr,Lr,CE (by rw [List.take_zero,List.map_nil,List.append_nil]),trivial⟩ (Tr.Ea [(6,_),(77,_),(78,_)] ⟨ke rfl,ke rfl,ke rfl,trivial⟩ (fun q v3=>[(79,int ((q:Nat):Int))]) (fun q v3=>Hp M0 w0 Jp ([AA true x1 191 (Ad (fN a 4 0 0 1)++[Ay v3 (Dq (([fN a 5 0 0 e.least,fN a 4 0 0 e.most]:List A0)++e.AF.map (fN a 2 0 0)++e.ids.map (fun x:DO=>fN a 3 x.BO x.bits x.BG)++e.anchors.map (fN a 6 0 0)++(e.hashes.take q).map (fun n:Int=>fN a 1 n 0 0)))]),BR 96 11 v3])) (fun q:Nat=>q≤(e.hashes).length) (fun q:Nat=>(e.hashes).length-q) 0 v2 (Nat.zero_le _) ⟨ke rfl,trivial⟩ (fun _ _ h=>h) ?_))
 rintro q v3 dL
 refine ac ?_
 refine Tr.seq ?_
 refine Tr.cn rfl ?_ ?_<;>intro h7 q7
 have QK:q<(e.hashes).length:=AZ h7
 obtain ⟨c,QL⟩:=at_ QK
 refine ac ?_
 refine Tr.seq (Tr.block (Tr.seq (Tr.B_ (co rfl (AB rfl underlying22 Cg (vl rfl) (vl rfl) (by omega) (by exact Ak (by assumption))) ?_))))
 refine ac ?_
 refine ao ?_
 refine TO.G_ _ rfl rfl (by decide) rfl (I9 (l:=([fN a 5 0 0 e.least,fN a 4 0 0 e.most]:List A0)++e.AF.map (fN a 2 0 0)++e.ids.map (fun x:DO=>fN a 3 x.BO x.bits x.BG)++e.anchors.map (fN a 6 0 0)++(e.hashes.take q).map (fun n:Int=>fN a 1 n 0 0)) (by simp only [List.length_append,List.length_map,List.length_take,List.length_cons,List.length_nil];omega)) ⟨ke rfl,ke rfl,ke rfl,ke rfl,trivial⟩ ((AK (j:=0) rfl).trans (List.Perm.cons _ ((AK (j:=0) rfl).trans (List.Perm.cons _ (List.Perm.refl _))))) (fun x7 _=> ?_)
 refine ao ?_
 refine ac ?_
 refine Fin.GQ 0 (Ad (fN a 4 0 0 1)++[Ay x7 (Dq (([fN a 5 0 0 e.least,fN a 4 0 0 e.most]:List A0)++e.AF.map (fN a 2 0 0)++e.ids.map (fun x:DO=>fN a 3 x.BO x.bits x.BG)++e.anchors.map (fN a 6 0 0)++(e.hashes.take (q+1)).map (fun n:Int=>fN a 1 n 0 0)))]) rfl ⟨Lr,Lr,Lr,Lr,Lr,Lr,Lr,Lr,Lr,Lr,Lr,CE (by rw [←H8 (f:=(fun n:Int=>fN a 1 n 0 0)) QL,←List.append_assoc];rfl),trivial⟩ ?_
 exact Fin.Fu (q+1) x7 (⟨QK,by omega⟩) ⟨⟨_,rfl,AS q⟩,ke rfl,ke rfl,ke rfl,trivial⟩ (fun _ _ h=>h)
 have X6:q=(e.hashes).length:=by have:=Aa h7;omega
 subst X6
 rw [List.take_length]
 refine a2 ?_
 refine co rfl (AX rfl (aA (l:=Gs a e) hsh.1 hfit hsh.2) ⟨⟨_,rfl,Pr.le_trans (Ar _ _) (Pr.le_of_eq rfl)⟩,trivial⟩) ?_
 refine ac ?_
 refine CL 4 5 rfl (Tr.ret (Fin.Fz rfl (Ct.F5 _ _) rfl ?_ rfl ?_))
 · rw [hA];exact Lr
 · exact int_eq (by rw [hA])
def GO (h:Gr) (c:B8):Gr×Int:=if (CY h.ep c).2.2=0 then (⟨(CY h.ep c).1,h.CZ⟩,0) else (h,(CY h.ep c).2.2)
abbrev tls:List UInt8:=[116,108,115]
def nh (nm:List UInt8) (d:Int):A0:=⟨3,nm,1,d,90,4,tls,0,0,1,[]⟩
theorem Rx {nm:List UInt8} {d:Int} (hn:nm.length≤maxLen):(nh nm d).fits:=⟨hn,by show 3≤maxLen;unfold maxLen;omega,by show 0≤maxLen;omega⟩
structure TD (e x:BJ):Prop where
 least:e.least=x.least
 most:e.most=x.most
 AF:∀n,n∈e.AF↔n∈x.AF
 ids:∀a b k,(∃y∈e.ids,y.BO=a∧y.bits=b∧y.BG=k)↔∃y∈x.ids,y.BO=a∧y.bits=b∧y.BG=k
 anchors:∀n,n∈e.anchors↔n∈x.anchors
 hashes:∀n,n∈e.hashes↔n∈x.hashes
theorem TD.symm {e x:BJ} (h:TD e x):TD x e:=⟨h.least.symm,h.most.symm,fun n=>(h.AF n).symm,fun a b k=>(h.ids a b k).symm,fun n=>(h.anchors n).symm,fun n=>(h.hashes n).symm⟩
theorem YF {h:Gr} {c:B8} (hs:h.small) (hf:h.ep.fits) (hi:c.Cl.fits∧c.Cl.small):A4 prog 55 [agg (EE h),agg (B3 c)] (Eu [agg (EE (GO h c).1),int (GO h c).2]):=by
 refine fo func55 rfl ⟨rfl,rfl⟩ fun M0 w0=>(Tr.seq (Tr.Ax (tp rfl (Ba rfl (Va rfl)) (tp rfl (Ba rfl (Va rfl)) ?_))))
 refine Tl rfl rfl rfl rfl JH Eb (fun b1=> ?_)
 refine ao ?_
 refine ao ?_
 refine tp rfl (Bq (KO hs) rfl rfl) ?_
 refine Tl rfl rfl rfl rfl JH Eb (fun b2=> ?_)
 refine TO.AR 0 rfl rfl rfl (vl rfl) (Va rfl) rfl Br rfl rfl ?_
 refine ao ?_
 refine ao ?_
 refine tp rfl (Dc (VE (e:=h.ep) hf hs.ep hi.1 hi.2) rfl rfl rfl) ?_
 refine ao ?_
 refine Tl rfl rfl rfl rfl z32 Dl (fun b3=> ?_)
 refine sf 0 7 ⟨rfl,rfl,rfl⟩ rfl rfl rfl rfl ?_
 refine ao ?_
 refine Ez 4 6 7 8 rfl ?_
 refine an ?_ ?_<;>intro h1 q1
 have hA:GO h c=(⟨(CY h.ep c).1,h.CZ⟩,0):=if_pos (by have:=q1;omega)
 refine ao ?_
 refine TO.CT 0 rfl rfl (Ab rfl rfl (vl rfl) (Va rfl) BI rfl (by exact Nb rfl) rfl) ?_
 refine ao ?_
 refine ao ?_
 refine TO.AR 1 rfl rfl rfl (vl rfl) (Va rfl) rfl Br rfl rfl ?_
 refine ao ?_
 refine Tr.drop 0 (Tr.ret (Fin.DK rfl (AL.cell 0 rfl rfl Bo Br rfl (Lr)) (AL.tmp rfl (Lr)) ?_))
 refine A_ ⟨?_,?_,trivial⟩
 · rw [hA];exact Lr
 · refine int_eq ?_;rw [hA];omega
 have hA:GO h c=(h,(CY h.ep c).2.2):=if_neg (by have:=q1;omega)
 refine ac ?_
 refine ao ?_
 refine TO.AR 1 rfl rfl rfl (vl rfl) (Va rfl) rfl Br rfl rfl ?_
 refine ao ?_
 refine Tr.drop 0 (Tr.ret (Fin.DK rfl (AL.cell 0 rfl rfl Bo Br rfl (Lr)) (AL.tmp rfl (Lr)) ?_))
 refine A_ ⟨?_,?_,trivial⟩
 · rw [hA];exact Lr
 · exact int_eq (by rw [hA])
theorem YG {h:Gr} {a:A0} (ha:a.fits) (hf:h.ep.fits):A4 prog 61 [agg (EE h),agg (Ad a)] (Eu [Dq (Rw a h.ep).1,int (Rw a h.ep).2]):=by
 refine fo func61 rfl ⟨rfl,rfl⟩ fun M0 w0=> ?_
 refine a2 ?_
 refine co rfl (Dc (bU (a:=a) (e:=h.ep) ha hf) rfl rfl rfl) ?_
 refine ac ?_
 refine Tr.ret (Fin.Fz rfl (Ct.F5 _ _) rfl ?_ rfl ?_)
 · exact Lr
 · exact Lr
theorem YH {nm:List UInt8} {d:Int}  :A4 prog 62 [str nm,int d] (agg (Ad (nh nm d))):=by
 refine A4.of func62 rfl rfl (by exact Nb rfl) fun M0 w0=> ?_
 refine Tr.seq (Tr.Ax ?_)
 refine Tl rfl rfl rfl rfl G2 Lc (fun b1=> ?_)
 refine TO.nil (Fin.go (Tr.seq (Tr.Ax (tm rfl (tm rfl (tp rfl (As (qs:=[int 3,str nm,int 1,int d,int 90,int 4,str tls,is (.int .i64 0),is (.int .i64 0),int 1,is (.string (ByteArray.mk #[]))]) (rows:=[(0,[_]),(1,[_]),(2,[_]),(3,[_]),(4,[_]),(6,[_]),(5,[_]),(8,[_])]) rfl eI Lc ⟨⟨rfl,(Vo rfl)⟩,⟨⟨rfl,(Vo rfl)⟩,⟨⟨rfl,(Vo rfl)⟩,⟨⟨rfl,(Vo rfl)⟩,⟨⟨rfl,(Vo rfl)⟩,⟨⟨rfl,(Vo rfl)⟩,⟨⟨rfl,(Vo rfl)⟩,⟨⟨rfl,(Vo rfl)⟩,trivial⟩⟩⟩⟩⟩⟩⟩⟩ (by kernel_rfl)) (TO.AR 0 rfl rfl rfl (vl rfl) (Va rfl) rfl AW rfl rfl (TO.nil (Fin.go (Tr.ret (Fin.CG rfl (AL.cell 0 rfl rfl BD AW rfl (Lr)) ?_)))))))))))
 · exact Lr
theorem VY {a b:List A0}  :A4 prog 64 [Dq a,Dq b] (bool (decide (a=b))):=by
 refine fo func64 rfl ⟨rfl,rfl⟩ fun M0 w0=>(Tr.EC 0 rfl fun Ex=>(Tr.EC 1 rfl fun JN=> ?_))
 refine ac ?_
 refine an ?_ ?_<;>intro h1 q1
 have hne:¬a.length=b.length:=by simp_all;omega
 refine a2 ?_
 · refine bool_eq ?_;symm;rw [decide_eq_false_iff_not];rintro rfl;exact hne rfl
 have F8:a.length=b.length:=by simp_all;omega
 refine a2 ?_
 refine Tr.block (Tr.BW [(0,_),(1,_),(12,_)] (OH rfl) (fun k:Nat=>[(13,int ((k:Nat):Int))]) (fun k:Nat=>k≤(a).length∧(a.take k=b.take k)) (fun k:Nat=>(a).length-k) 0 (⟨Nat.zero_le _,rfl⟩) ⟨ke rfl,trivial⟩ ?_)
 rintro k ⟨Bk,Ac⟩
 refine ac ?_
 refine Tr.seq ?_
 refine Tr.cn rfl ?_ ?_<;>intro h2 q2
 have Ao:k<(a).length:=AZ h2
 obtain ⟨x,An⟩:=at_ Ao
 obtain ⟨y,hy⟩:=at_ (l:=b) (k:=k) (by omega)
 · repeat' first|(refine bool_eq ?_;symm;rw [decide_eq_false_iff_not];refine Iq An hy ?_;rintro rfl;simp_all)|(exact Fin.AG (k+1) ⟨⟨Ao,HD An hy Ac (by cases x;cases y;simp_all)⟩,by omega⟩ ⟨⟨_,rfl,AS k⟩,ke rfl,ke rfl,ke rfl,trivial⟩)|refine co rfl (AB rfl underlying92 AW (vl rfl) (vl rfl) (by omega) (Ak An)) ?_|refine co rfl (AB rfl underlying92 AW (vl rfl) (vl rfl) (by omega) (Ak hy)) (co rfl (AO rfl BD AW (vl rfl) rfl rfl) (co rfl (Ts rfl (vl rfl) (vl rfl)) ?_))|refine ac ?_|(refine Tr.cn rfl ?_ ?_<;>intro h q)
 have BQ:k=(a).length:=by have:=Aa h2;omega
 subst BQ
 refine a3 ?_
 · refine bool_eq ?_;symm;rw [decide_eq_true_eq];exact HE F8 Ac
theorem Ou {h:Gr} (hs:h.small):A4 prog 105 [agg (EE h)] (agg (EE h)):=by
 refine fo func105 rfl ⟨rfl,rfl⟩ fun M0 w0=> ?_
 have hl:=hs.len
 refine Tr.seq (Tr.Ax (tp rfl (Ba rfl (Va rfl)) ?_))
 refine Tl rfl rfl rfl rfl JH Eb (fun b1=> ?_)
 refine ao ?_
 refine ao ?_
 refine tp rfl (Bq (DQ hs.ep) rfl rfl) (tp rfl (oD) ?_)
 refine Tl rfl rfl rfl rfl JH Eb (fun b2=> ?_)
 refine TO.AR 0 rfl rfl rfl (vl rfl) (Va rfl) rfl Br rfl rfl ?_
 refine ao ?_
 refine ac ?_
 refine Tr.block (Tr.GQ 0 [str h.ep.name,int h.ep.least,int h.ep.most,ints h.ep.AF,bool h.ep.own,DC h.ep.ids,ints h.ep.anchors,ints h.ep.hashes,bool h.ep.De,Ay (.slice none 0 0) (slice 9 ((h.CZ.take 0).map Aj))] rfl ⟨Lr,Lr,Lr,Lr,Lr,Lr,Lr,Lr,Lr,Dv rfl,trivial⟩ (Tr.EZ 32 9 (Tr.Ea [(2,_),(3,_),(11,_),(12,_)] ⟨ke rfl,ke rfl,ke rfl,ke rfl,trivial⟩ (fun k v=>[(13,int ((k:Nat):Int))]) (fun k v=>Hp M0 w0 Jp ([BR 32 9 v,AA true b2 82 [str h.ep.name,int h.ep.least,int h.ep.most,ints h.ep.AF,bool h.ep.own,DC h.ep.ids,ints h.ep.anchors,ints h.ep.hashes,bool h.ep.De,Ay v (slice 9 ((h.CZ.take k).map Aj))],AA true b1 82 (([.string (ByteArray.mk #[]),.int .i64 0,.int .i64 0,.slice none 0 0,.bool false,.slice none 0 0,.slice none 0 0,.slice none 0 0,.bool false,.slice none 0 0]:List Value).map is)])) (fun k:Nat=>k≤(h.CZ).length) (fun k:Nat=>(h.CZ).length-k) 0 (.slice none 0 0) (Nat.zero_le _) ⟨ke rfl,trivial⟩ (fun _ _ h=>h) ?_)))
 rintro k v Bk
 refine ac ?_
 refine Tr.seq ?_
 refine Tr.cn rfl ?_ ?_<;>intro h1 q1
 have Ao:k<(h.CZ).length:=AZ h1
 obtain ⟨x,An⟩:=at_ Ao
 have hxs:=hs.CZ x (List.mem_of_getElem? An)
 refine ac ?_
 refine Tr.seq (Tr.block (Tr.seq (Tr.Ax (tp rfl (AB rfl underlying37 BI (vl rfl) (vl rfl) (by omega) (by exact Ak (by assumption))) ?_))))
 refine tp rfl (AO rfl Bh BI (vl rfl) rfl rfl) ?_
 refine Tl rfl rfl rfl rfl z32 Dl (fun b3=> ?_)
 refine sf 0 5 ⟨rfl,rfl,rfl⟩ rfl rfl rfl rfl ?_
 refine ao ?_
 refine Tr.pad (Tr.rx ?_)
 refine ax ?_
 refine xo rfl (fun _=>Bq (DQ hxs) rfl rfl) (xo rfl (fun _=>AM (xs:=[.tmp 20]) (rows:=[_]) rfl rfl underlying37 BI z32 rfl (by decide) ⟨⟨(by exact rfl),(Va rfl)⟩,trivial⟩ (by decide)) ?_)
 refine Cx.ef 1 rfl rfl (by decide) (DN rfl rfl rfl rfl underlying37 BI PD z32 (Kb rfl) (Kf rfl) (B9 (by exact List.Mem.head _) (Ka rfl))) ?_
 refine xo rfl (fun _=>AE rfl JY (vl rfl)) (Cx.CT 2 rfl rfl (Cb rfl rfl rfl (vl rfl) rfl PF (by exact Nb rfl)) ?_)
 refine Cx.nil ⟨by kernel_rfl,?_⟩
 refine A9.Hu 1 2 22 rfl rfl (by decide) rfl (fun v1=> ?_)
 refine A9.done IY ?_
 refine ac ?_
 refine Tr.drop 0 (EM 2 3 11 12 13 rfl ?_)
 refine ac ?_
 refine Fin.GQ 1 [str h.ep.name,int h.ep.least,int h.ep.most,ints h.ep.AF,bool h.ep.own,DC h.ep.ids,ints h.ep.anchors,ints h.ep.hashes,bool h.ep.De,Ay v1 (slice 9 ((h.CZ.take (k+1)).map Aj))] rfl ⟨Lr,Lr,Lr,Lr,Lr,Lr,Lr,Lr,Lr,CE (H8 (f:=Aj) An),trivial⟩ (Fin.Fu (k+1) v1 (⟨Ao,by omega⟩) ⟨⟨_,rfl,AS k⟩,ke rfl,ke rfl,ke rfl,ke rfl,trivial⟩ (fun _ _ h=>h))
 have BQ:k=(h.CZ).length:=by have:=Aa h1;omega
 subst BQ
 refine ac ?_
 refine ao ?_
 refine TO.AR 2 rfl rfl rfl (vl rfl) (Va rfl) rfl Br rfl rfl ?_
 refine ao ?_
 refine Tr.ret (Fin.CG rfl (AL.cell 2 rfl rfl Bo Br rfl (Lr)) ?_)
 · exact AY ⟨Lr,Lr,Lr,Lr,Lr,Lr,Lr,Lr,Lr,Pr.le_trans (Ar _ _) (Pr.le_of_eq (by rw [List.take_length])),trivial⟩
theorem Ry {e:BJ} (hh:e.hashes.length≤17592186044416) (gq:BK e=true→e.small):A4 prog 50 [agg (Aj e)] (Eu [agg (EE (if BK e=true then ⟨e,[]⟩ else UI)),int (if BK e=true then 0 else 19)]):=by
 refine fo func50 rfl ⟨rfl,rfl⟩ fun M0 w0=>(Tr.seq (Tr.Ax (tp rfl (Ba rfl (Va rfl)) ?_)))
 refine Tl rfl rfl rfl rfl JH Eb (fun b1=> ?_)
 refine ap ?_
 refine ac ?_
 refine co rfl (Bq (Jn hh) rfl rfl) ?_
 refine an ?_ ?_<;>intro h1 q1
 have hne:¬BK e=true:=by have:=q1;cases h_:BK e<;>simp_all
 refine ap ?_
 refine Tr.ret (Fin.AJ (Fin.DK rfl (AL.cell 0 rfl rfl Bo Br rfl (Lr)) (AL.tmp rfl (Lr)) ?_))
 refine A_ ⟨?_,?_,trivial⟩
 · rw [if_neg hne];exact AY ⟨Lr,Lr,Lr,AD 1,Lr,AD 4,AD 1,AD 1,Lr,AD 9,trivial⟩
 · exact int_eq (by rw [if_neg hne])
 have hce:BK e=true:=by have:=q1;cases h_:BK e<;>simp_all
 have B6:=gq hce
 refine ac ?_
 refine ap ?_
 refine tp rfl (Bq (DQ B6) rfl rfl) ?_
 refine ap ?_
 refine Tr.ret (Fin.DK rfl (AL.cell 0 rfl rfl Bo Br rfl (Lr)) (AL.tmp rfl (Lr)) ?_)
 refine A_ ⟨?_,?_,trivial⟩
 · rw [if_pos hce];exact AY ⟨Lr,Lr,Lr,Lr,Lr,Lr,Lr,Lr,Lr,AD 9,trivial⟩
 · exact int_eq (by rw [if_pos hce])
theorem I_ {a b:Gr}  :A4 prog 51 [agg (EE a),agg (EE b)] (bool (decide (a=b))):=by
 refine fo func51 rfl ⟨rfl,rfl⟩ fun M0 w0=>(Tr.pX 0 9 rfl rfl fun pR=> ?_)
 refine a2 ?_
 refine co rfl (Dc (Ri (a:=a.ep) (b:=b.ep)) rfl rfl rfl) ?_
 refine ag ?_ ?_<;>intro h1 q1
 refine ac ?_
 refine Cr 2 3 20 rfl ?_
 refine a2 ?_
 · refine bool_eq ?_;symm;rw [decide_eq_false_iff_not];rintro rfl;simp_all
 refine ac ?_
 refine Cr 2 3 20 rfl ?_
 refine Tr.cn rfl ?_ ?_<;>intro h2 q2
 refine a2 ?_
 · refine bool_eq ?_;symm;rw [decide_eq_false_iff_not];rintro rfl;simp_all
 have F8:a.CZ.length=b.CZ.length:=by have:=q2;omega
 refine a2 ?_
 refine Tr.block (Tr.BW [(2,_),(3,_),(23,_)] (OH rfl) (fun k:Nat=>[(24,int ((k:Nat):Int))]) (fun k:Nat=>k≤(a.CZ).length∧(a.CZ.take k=b.CZ.take k)) (fun k:Nat=>(a.CZ).length-k) 0 (⟨Nat.zero_le _,rfl⟩) ⟨ke rfl,trivial⟩ ?_)
 rintro k ⟨Bk,Ac⟩
 refine ac ?_
 refine Tr.seq ?_
 refine Tr.cn rfl ?_ ?_<;>intro h3 q3
 have Ao:k<(a.CZ).length:=AZ h3
 obtain ⟨x,An⟩:=at_ Ao
 obtain ⟨y,hy⟩:=at_ (l:=b.CZ) (k:=k) (by omega)
 · repeat' first|(refine bool_eq ?_;symm;rw [decide_eq_false_iff_not];intro he;refine absurd (congrArg Gr.CZ he) (Iq An hy ?_);rintro rfl;simp_all)|exact Fin.AG (k+1) ⟨⟨Ao,HD An hy Ac (by simp_all)⟩,by omega⟩ ⟨⟨_,rfl,AS k⟩,ke rfl,ke rfl,ke rfl,trivial⟩|refine co rfl (AB rfl underlying37 BI (vl rfl) (vl rfl) (by omega) (Ak An)) ?_|refine co rfl (AB rfl underlying37 BI (vl rfl) (vl rfl) (by omega) (Ak hy)) (co rfl (AO rfl Bh BI (vl rfl) rfl rfl) (co rfl (Dc (Ri) rfl rfl rfl) ?_))|refine ac ?_|(refine Tr.cn rfl ?_ ?_<;>intro h q)
 have BQ:k=(a.CZ).length:=by have:=Aa h3;omega
 subst BQ
 refine a3 ?_
 · refine bool_eq ?_;symm;rw [decide_eq_true_eq];have:=HE F8 Ac;have h2:=q1;cases a;cases b;simp_all
theorem VZ {h:Gr} (hs:h.small):A4 prog 54 [agg (EE h)] (Eu [agg (EE (HF h).1),int (HF h).2]):=by
 refine fo func54 rfl ⟨rfl,rfl⟩ fun M0 w0=>(Tr.seq (Tr.Ax (tp rfl (Ba rfl (Va rfl)) ?_)))
 refine Tl rfl rfl rfl rfl JH Eb (fun b1=> ?_)
 refine ap ?_
 refine ap ?_
 refine tp rfl (Bq (Ou hs) rfl rfl) ?_
 refine Tl rfl rfl rfl rfl JH Eb (fun b2=> ?_)
 refine ap ?_
 refine a2 ?_
 refine Ez 2 4 5 12 rfl ?_
 refine Tr.cn rfl ?_ ?_<;>intro h1 q1
 have hz:h.CZ=[]:=List.eq_nil_of_length_eq_zero (by have:=q1;omega)
 have hb:HF h=(h,4):=by unfold HF;rw [hz];rfl
 refine ap ?_
 refine Tr.drop 0 (Tr.ret (Fin.AJ (Fin.DK rfl (AL.cell 0 rfl rfl Bo Br rfl (Lr)) (AL.tmp rfl (Lr)) ?_)))
 refine A_ ⟨?_,?_,trivial⟩
 · rw [hb];exact Lr
 · exact int_eq (by rw [hb])
 obtain ⟨x,hx⟩:=at_ (l:=h.CZ) (k:=h.CZ.length-1) (by have:=q1;omega)
 have hb:=Ng hx
 have hlt:=Bb hx
 have hl:=hs.len
 refine ac ?_
 refine ap ?_
 refine tp rfl (AB rfl underlying37 BI (vl rfl) (vl rfl) (by omega) (Du (f:=Aj) (by rw [show (((h.CZ.length:Nat):Int)-1).toNat=h.CZ.length-1 by omega];exact hx))) ?_
 refine ap ?_
 refine ap ?_
 refine tp rfl (Cn rfl underlying37 BI (vl rfl) (vl rfl) (by omega) (by simp;omega)) ?_
 refine ap ?_
 refine CL 2 4 rfl ?_
 refine ap ?_
 refine Tr.drop 0 (Tr.ret (Fin.DK rfl (AL.cell 0 rfl rfl Bo Br rfl (Lr)) (AL.tmp rfl (Lr)) ?_))
 refine A_ ⟨?_,?_,trivial⟩
 · rw [hb];exact AY ⟨Lr,Lr,Lr,Lr,Lr,Lr,Lr,Lr,Lr,Pr.le_of_eq (by show _=slice 9 ((h.CZ.take (h.CZ.length-1)).map Aj);rw [List.map_take,show (((h.CZ.length:Nat):Int)-1).toNat=h.CZ.length-1 by omega]),trivial⟩
 · exact int_eq (by rw [hb])
theorem TE {h:Gr} {c:B8} {n:Nat} (hs:h.small) (hz:h.ep.sz n) (hn:n≤900000) (hi:c.Cl.fits∧c.Cl.small):A4 prog 56 [agg (EE h),agg (B3 c)] (Eu [agg (EE (GO h c).1),int (GO h c).2]):=by
 refine fo func56 rfl ⟨rfl,rfl⟩ fun M0 w0=>(Tr.seq (Tr.Ax (tp rfl (Ba rfl (Va rfl)) (tp rfl (Ba rfl (Va rfl)) ?_))))
 refine Tl rfl rfl rfl rfl JH Eb (fun b1=> ?_)
 refine ao ?_
 refine ao ?_
 refine tp rfl (Bq (Ou hs) rfl rfl) ?_
 refine Tl rfl rfl rfl rfl JH Eb (fun b2=> ?_)
 refine TO.AR 0 rfl rfl rfl (vl rfl) (Va rfl) rfl Br rfl rfl ?_
 refine ao ?_
 refine ao ?_
 refine tp rfl (Dc (Jo (e:=h.ep) hz hn hi) rfl rfl rfl) ?_
 refine ao ?_
 refine Tl rfl rfl rfl rfl z32 Dl (fun b3=> ?_)
 refine sf 0 7 ⟨rfl,rfl,rfl⟩ rfl rfl rfl rfl ?_
 refine ao ?_
 refine Ez 4 6 7 8 rfl ?_
 refine an ?_ ?_<;>intro h1 q1
 have hA:GO h c=(h,(CY h.ep c).2.2):=if_neg (by have:=q1;omega)
 refine ao ?_
 refine TO.AR 1 rfl rfl rfl (vl rfl) (Va rfl) rfl Br rfl rfl ?_
 refine ao ?_
 refine Tr.drop 0 (Tr.ret (Fin.AJ (Fin.DK rfl (AL.cell 0 rfl rfl Bo Br rfl (Lr)) (AL.tmp rfl (Lr)) ?_)))
 refine A_ ⟨?_,?_,trivial⟩
 · rw [hA];exact Lr
 · exact int_eq (by rw [hA])
 have hA:GO h c=(⟨(CY h.ep c).1,h.CZ⟩,0):=if_pos (by have:=q1;omega)
 refine ac ?_
 refine ao ?_
 refine TO.CT 0 rfl rfl (Ab rfl rfl (vl rfl) (Va rfl) BI rfl (by exact Nb rfl) rfl) ?_
 refine ao ?_
 refine ao ?_
 refine TO.AR 1 rfl rfl rfl (vl rfl) (Va rfl) rfl Br rfl rfl ?_
 refine ao ?_
 refine Tr.drop 0 (Tr.ret (Fin.DK rfl (AL.cell 0 rfl rfl Bo Br rfl (Lr)) (AL.tmp rfl (Lr)) ?_))
 refine A_ ⟨?_,?_,trivial⟩
 · rw [hA];exact Lr
 · exact int_eq (by rw [hA])
theorem TG {h:Gr} (hs:h.small):Jg prog 105 [agg (EE h)] (fun x=>agg [str h.ep.name,int h.ep.least,int h.ep.most,ints h.ep.AF,bool h.ep.own,DC h.ep.ids,ints h.ep.anchors,ints h.ep.hashes,bool h.ep.De,Ay x (slice 9 (h.CZ.map Aj))]) (fun x=>[BR 32 9 x]):=by
 refine Jg.of func105 rfl rfl (by exact Nb rfl) fun M0 w0 S rs M1 w1=> ?_
 have hl:=hs.len
 refine Tr.seq (Tr.Ax (tp rfl (Ba rfl (Va rfl)) ?_))
 refine Tl rfl rfl rfl rfl JH Eb (fun b1=> ?_)
 refine ao ?_
 refine ao ?_
 refine tp rfl (Bq (DQ hs.ep) rfl rfl) (tp rfl (oD) ?_)
 refine Tl rfl rfl rfl rfl JH Eb (fun b2=> ?_)
 refine TO.AR 0 rfl rfl rfl (vl rfl) (Va rfl) rfl Br rfl rfl ?_
 refine ao ?_
 refine ac ?_
 refine Tr.block (Tr.GQ 0 [str h.ep.name,int h.ep.least,int h.ep.most,ints h.ep.AF,bool h.ep.own,DC h.ep.ids,ints h.ep.anchors,ints h.ep.hashes,bool h.ep.De,Ay (.slice none 0 0) (slice 9 ((h.CZ.take 0).map Aj))] rfl ⟨Lr,Lr,Lr,Lr,Lr,Lr,Lr,Lr,Lr,Dv rfl,trivial⟩ (Tr.EZ 32 9 (Tr.Ea [(2,_),(3,_),(11,_),(12,_)] ⟨ke rfl,ke rfl,ke rfl,ke rfl,trivial⟩ (fun k v=>[(13,int ((k:Nat):Int))]) (fun k v=>Hp M0 w0 S (BR 32 9 v::AA true b2 82 [str h.ep.name,int h.ep.least,int h.ep.most,ints h.ep.AF,bool h.ep.own,DC h.ep.ids,ints h.ep.anchors,ints h.ep.hashes,bool h.ep.De,Ay v (slice 9 ((h.CZ.take k).map Aj))]::AA true b1 82 (([.string (ByteArray.mk #[]),.int .i64 0,.int .i64 0,.slice none 0 0,.bool false,.slice none 0 0,.slice none 0 0,.slice none 0 0,.bool false,.slice none 0 0]:List Value).map is)::Bc M1 w1::rs)) (fun k:Nat=>k≤(h.CZ).length) (fun k:Nat=>(h.CZ).length-k) 0 (.slice none 0 0) (Nat.zero_le _) ⟨ke rfl,trivial⟩ (fun _ _ h=>h) ?_)))
 rintro k v Bk
 refine ac ?_
 refine Tr.seq ?_
 refine Tr.cn rfl ?_ ?_<;>intro h1 q1
 have Ao:k<(h.CZ).length:=AZ h1
 obtain ⟨x,An⟩:=at_ Ao
 have hxs:=hs.CZ x (List.mem_of_getElem? An)
 refine ac ?_
 refine Tr.seq (Tr.block (Tr.seq (Tr.Ax (tp rfl (AB rfl underlying37 BI (vl rfl) (vl rfl) (by omega) (by exact Ak (by assumption))) ?_))))
 refine tp rfl (AO rfl Bh BI (vl rfl) rfl rfl) ?_
 refine Tl rfl rfl rfl rfl z32 Dl (fun b3=> ?_)
 refine sf 0 5 ⟨rfl,rfl,rfl⟩ rfl rfl rfl rfl ?_
 refine ao ?_
 refine Tr.pad (Tr.rx ?_)
 refine ax ?_
 refine xo rfl (fun _=>Bq (DQ hxs) rfl rfl) (xo rfl (fun _=>AM (xs:=[.tmp 20]) (rows:=[_]) rfl rfl underlying37 BI z32 rfl (by decide) ⟨⟨(by exact rfl),(Va rfl)⟩,trivial⟩ (by decide)) ?_)
 refine Cx.ef 1 rfl rfl (by decide) (DN rfl rfl rfl rfl underlying37 BI PD z32 (Kb rfl) (Kf rfl) (B9 (by exact List.Mem.head _) (Ka rfl))) ?_
 refine xo rfl (fun _=>AE rfl JY (vl rfl)) (Cx.CT 2 rfl rfl (Cb rfl rfl rfl (vl rfl) rfl PF (by exact Nb rfl)) ?_)
 refine Cx.nil ⟨by kernel_rfl,?_⟩
 refine A9.Hu 1 2 22 rfl rfl (by decide) rfl (fun v1=> ?_)
 refine A9.done Zb ?_
 refine ac ?_
 refine Tr.drop 0 (EM 2 3 11 12 13 rfl ?_)
 refine ac ?_
 refine Fin.GQ 1 [str h.ep.name,int h.ep.least,int h.ep.most,ints h.ep.AF,bool h.ep.own,DC h.ep.ids,ints h.ep.anchors,ints h.ep.hashes,bool h.ep.De,Ay v1 (slice 9 ((h.CZ.take (k+1)).map Aj))] rfl ⟨Lr,Lr,Lr,Lr,Lr,Lr,Lr,Lr,Lr,CE (H8 (f:=Aj) An),trivial⟩ (Fin.Fu (k+1) v1 (⟨Ao,by omega⟩) ⟨⟨_,rfl,AS k⟩,ke rfl,ke rfl,ke rfl,ke rfl,trivial⟩ (fun _ _ h=>h))
 have BQ:k=(h.CZ).length:=by have:=Aa h1;omega
 subst BQ
 refine ac ?_
 refine ao ?_
 refine TO.AR 2 rfl rfl rfl (vl rfl) (Va rfl) rfl Br rfl rfl ?_
 refine ao ?_
 refine Tr.ret (Fin.drop 1 (Fin.Kr (Fin.Ui v [_] rfl (AL.cell 0 rfl rfl Bo Br rfl (Lr)) ?_ (List.Perm.refl _))))
 · exact AY ⟨Lr,Lr,Lr,Lr,Lr,Lr,Lr,Lr,Lr,GN (Pr.le_of_eq (by rw [List.take_length])),trivial⟩
theorem YI {h:Gr} {E2:BJ} {k:Int} (hc:BK E2=true) (hn:E2.name=h.ep.name) (hk:¬(0≤k∧k≤3)):FC h E2 k=(h,false,2):=by
 unfold FC;rw [if_neg (by rw [hc];decide),if_neg (by simp [hn]),if_pos hk]
theorem YJ {h:Gr} {E2:BJ} {k:Int} (hc:BK E2=true) (hn:E2.name=h.ep.name) (hk:k=0∨k=2):FC h E2 k=(⟨E2,EB 24 (h.CZ++[h.ep])⟩,decide (k=0∨k=3),0):=by
 unfold FC;rw [if_neg (by rw [hc];decide),if_neg (by simp [hn]),if_neg (by omega),if_pos hk]
theorem gr {h:Gr} {E2:BJ} {k:Int} (hc:BK E2=true) (hn:E2.name=h.ep.name) (hi:0≤k∧k≤3) (hk:¬(k=0∨k=2)):FC h E2 k=(h,decide (k=0∨k=3),0):=by
 unfold FC;rw [if_neg (by rw [hc];decide),if_neg (by simp [hn]),if_neg (by omega),if_neg hk]
theorem Nh {h:Gr} {E2:BJ} {k:Int} (hs:h.small) (Nq:h.CZ.length≤900000) (hh:E2.hashes.length≤17592186044416) (gq:BK E2=true→E2.small):A4 prog 58 [agg (EE h),agg (Aj E2),int k] (Eu [agg (EE (FC h E2 k).1),bool (FC h E2 k).2.1,int (FC h E2 k).2.2]):=by
 refine fo func58 rfl ⟨rfl,rfl⟩ fun M0 w0=>(Tr.seq (Tr.Ax (tp rfl (Ba rfl (Va rfl)) (tp rfl (Ba rfl (Va rfl)) ?_))))
 refine Tl rfl rfl rfl rfl JH Eb (fun b1=> ?_)
 refine ap ?_
 refine ap ?_
 refine TO.OW rfl rfl (by decide) rfl (TG hs) ⟨ke rfl,trivial⟩ (fun v1=> ?_)
 refine Tl rfl rfl rfl rfl JH Eb (fun b2=> ?_)
 refine ap ?_
 refine ac ?_
 refine co rfl (Bq (Jn hh) rfl rfl) ?_
 refine an ?_ ?_<;>intro h1 q1
 have hb:FC h E2 k=(h,false,19):=if_pos (by have:=q1;cases h_:BK E2<;>simp_all)
 refine ap ?_
 refine Tr.drop 0 (Cr 6 7 8 rfl (Tr.ret (Fin.AJ (Fin.Cf rfl (AL.cell 1 rfl rfl Bo Br rfl (Lr)) (AL.tmp rfl (Lr)) (AL.tmp rfl (Lr)) ?_))))
 refine A_ ⟨?_,?_,?_,trivial⟩
 · rw [hb];exact AY ⟨Lr,Lr,Lr,Lr,Lr,Lr,Lr,Lr,Lr,Ar _ _,trivial⟩
 · exact bool_eq (by rw [hb])
 · exact int_eq (by rw [hb])
 have hce:BK E2=true:=by have:=q1;cases h_:BK E2<;>simp_all
 have B6:=gq hce
 refine a2 ?_
 refine GS 2 3 4 6 9 22 rfl ?_
 refine Tr.cn rfl ?_ ?_<;>intro h2 q2
 have hb:FC h E2 k=(h,false,14):=by unfold FC;rw [if_neg (by rw [hce];decide),if_pos q2]
 refine ap ?_
 refine Tr.drop 0 (Tr.ret (Fin.AJ (Fin.Cf rfl (AL.cell 1 rfl rfl Bo Br rfl (Lr)) (AL.tmp rfl (Lr)) (AL.tmp rfl (Lr)) ?_)))
 refine A_ ⟨?_,?_,?_,trivial⟩
 · rw [hb];exact AY ⟨Lr,Lr,Lr,Lr,Lr,Lr,Lr,Lr,Lr,Ar _ _,trivial⟩
 · exact bool_eq (by rw [hb])
 · exact int_eq (by rw [hb])
 have hnm:=q2
 refine ac ?_
 refine ag ?_ ?_<;>intro h3 q3
 have hb:=YI (k:=k) hce hnm (by have:=q3;omega)
 refine ac ?_
 refine Tr.cond rfl (fun _=> ?_) (fun h=>nomatch h)
 refine Tr.seq (Tr.Ax (TO.rd 0 rfl rfl rfl (by decide) (AQ rfl Bo Br (vl rfl) rfl rfl) (TO.AR 2 rfl rfl rfl (vl rfl) (Va rfl) rfl Br rfl rfl (tm rfl (tm rfl (TO.nil (Fin.go (Tr.drop 0 (Cr 6 7 8 rfl (Tr.ret (Fin.AJ (Fin.Cf rfl (AL.cell 1 rfl rfl Bo Br rfl (Lr)) (AL.tmp rfl (Lr)) (AL.tmp rfl (Lr)) ?_))))))))))))
 refine A_ ⟨?_,?_,?_,trivial⟩
 · rw [hb];exact AY ⟨Lr,Lr,Lr,Lr,Lr,Lr,Lr,Lr,Lr,Ar _ _,trivial⟩
 · exact bool_eq (by rw [hb])
 · exact int_eq (by rw [hb])
 refine an ?_ ?_<;>intro h4 q4
 have hb:=YI (k:=k) hce hnm (by have:=q4;omega)
 refine ap ?_
 refine Tr.drop 0 (Cr 6 7 8 rfl (Tr.ret (Fin.AJ (Fin.Cf rfl (AL.cell 1 rfl rfl Bo Br rfl (Lr)) (AL.tmp rfl (Lr)) (AL.tmp rfl (Lr)) ?_))))
 refine A_ ⟨?_,?_,?_,trivial⟩
 · rw [hb];exact AY ⟨Lr,Lr,Lr,Lr,Lr,Lr,Lr,Lr,Lr,Ar _ _,trivial⟩
 · exact bool_eq (by rw [hb])
 · exact int_eq (by rw [hb])
 have YW:=q4
 refine ac ?_
 refine ag ?_ ?_<;>intro h5 q5
 have hin:0≤k∧k≤3:=by omega
 have hb:=YJ (k:=k) hce hnm (by have:=q5;omega)
 refine ac ?_
 refine GS 2 3 4 6 9 36 rfl (Tr.cond rfl (fun _=> ?_) (fun h=>nomatch h))
 refine Tr.seq (Tr.pad (Tr.rx ?_))
 refine ax ?_
 refine xo rfl (fun _=>Bq (DQ hs.ep) rfl rfl) (xo rfl (fun _=>AM (xs:=[.tmp 41]) (rows:=[_]) rfl rfl underlying37 BI z32 rfl (by decide) ⟨⟨(by exact rfl),(Va rfl)⟩,trivial⟩ (by decide)) ?_)
 refine Cx.ef 2 rfl rfl (by decide) (DN rfl rfl rfl rfl underlying37 BI PD z32 (Kb rfl) (Kf rfl) (B9 (by exact List.Mem.head _) (Ka rfl))) ?_
 refine xo rfl (fun _=>AE rfl JY (vl rfl)) (Cx.CT 1 rfl rfl (Cb rfl rfl rfl (vl rfl) rfl PF (by exact Nb rfl)) ?_)
 refine Cx.nil ⟨by kernel_rfl,?_⟩
 refine A9.Hu 2 1 43 rfl rfl (by decide) rfl (fun v2=> ?_)
 refine A9.done IY (Fin.go (Tr.drop 0 (Ez 2 4 6 9 rfl (Tr.seq (Tr.seq ?_)))))
 have F8:(h.CZ++[h.ep]).length=h.CZ.length+1:=by simp
 refine Tr.GQ 0 [str h.ep.name,int h.ep.least,int h.ep.most,ints h.ep.AF,bool h.ep.own,DC h.ep.ids,ints h.ep.anchors,ints h.ep.hashes,bool h.ep.De,Ay v2 (slice 9 ((h.CZ++[h.ep]).map Aj))] rfl ⟨Lr,Lr,Lr,Lr,Lr,Lr,Lr,Lr,Lr,GN (Pr.le_of_eq (by rw [List.map_append];rfl)),trivial⟩ ?_
 refine ac ?_
 refine co rfl (Gi rfl underlying37 (Kb rfl)) ?_
 refine ac ?_
 refine an ?_ ?_<;>intro h6 q6
 refine ap ?_
 refine tp rfl (B1 rfl underlying37 BI (Kb rfl) (vl rfl) (by omega) (by simp;omega)) ?_
 refine ap ?_
 refine Tr.drop 1 (Ez 2 4 6 9 rfl ?_)
 refine ap ?_
 refine tp rfl (Bq (DQ B6) rfl rfl) ?_
 refine ap ?_
 refine ap ?_
 refine TO.cases 62 rfl (fun h7=> ?_) (fun h7=> ?_)
 have q7:=GC.IE h7
 refine TO.N3 rfl rfl rfl (EG h7) rfl (by decide) (TO.N3 rfl rfl rfl (EG h7) rfl (by decide) ?_)
 refine ap ?_
 refine Tr.drop 0 (Cr 6 7 8 rfl (Tr.ret (Fin.Cf rfl (AL.cell 0 rfl rfl Bo Br rfl (Lr)) (AL.tmp rfl (Lr)) (AL.tmp rfl (Lr)) ?_)))
 refine A_ ⟨?_,?_,?_,trivial⟩
 · rw [hb];exact AY ⟨Lr,Lr,Lr,Lr,Lr,Lr,Lr,Lr,Lr,Pr.le_of_eq (by show _=slice 9 ((EB 24 (h.CZ++[h.ep])).map Aj);unfold EB;rw [List.map_drop];congr 2;omega),trivial⟩
 · refine bool_eq ?_;rw [hb,Bool.eq_iff_iff];simp;omega
 · exact int_eq (by rw [hb])
 have q7:=GC.IE h7
 refine TO.OX rfl rfl rfl h7 rfl (by decide) (BL rfl (vl rfl)) (TO.OX rfl rfl rfl h7 rfl (by decide) (ki rfl rfl rfl rfl) ?_)
 refine ap ?_
 refine Tr.drop 0 (Cr 6 7 8 rfl (Tr.ret (Fin.Cf rfl (AL.cell 0 rfl rfl Bo Br rfl (Lr)) (AL.tmp rfl (Lr)) (AL.tmp rfl (Lr)) ?_)))
 refine A_ ⟨?_,?_,?_,trivial⟩
 · rw [hb];exact AY ⟨Lr,Lr,Lr,Lr,Lr,Lr,Lr,Lr,Lr,Pr.le_of_eq (by show _=slice 9 ((EB 24 (h.CZ++[h.ep])).map Aj);unfold EB;rw [List.map_drop];congr 2;omega),trivial⟩
 · refine bool_eq ?_;rw [hb,Bool.eq_iff_iff];simp;omega
 · exact int_eq (by rw [hb])
 refine ac ?_
 refine ap ?_
 refine tp rfl (Bq (DQ B6) rfl rfl) ?_
 refine ap ?_
 refine ap ?_
 refine TO.cases 62 rfl (fun h8=> ?_) (fun h8=> ?_)
 have q8:=GC.IE h8
 refine TO.N3 rfl rfl rfl (EG h8) rfl (by decide) (TO.N3 rfl rfl rfl (EG h8) rfl (by decide) ?_)
 refine ap ?_
 refine Tr.drop 0 (Cr 6 7 8 rfl (Tr.ret (Fin.Cf rfl (AL.cell 1 rfl rfl Bo Br rfl (Lr)) (AL.tmp rfl (Lr)) (AL.tmp rfl (Lr)) ?_)))
 refine A_ ⟨?_,?_,?_,trivial⟩
 · rw [hb];exact AY ⟨Lr,Lr,Lr,Lr,Lr,Lr,Lr,Lr,Lr,Pr.le_trans (Ar _ _) (Pr.le_of_eq (by show _=slice 9 ((EB 24 (h.CZ++[h.ep])).map Aj);unfold EB;rw [show (h.CZ++[h.ep]).length-24=0 by omega];rfl)),trivial⟩
 · refine bool_eq ?_;rw [hb,Bool.eq_iff_iff];simp;omega
 · exact int_eq (by rw [hb])
 have q8:=GC.IE h8
 refine TO.OX rfl rfl rfl h8 rfl (by decide) (BL rfl (vl rfl)) (TO.OX rfl rfl rfl h8 rfl (by decide) (ki rfl rfl rfl rfl) ?_)
 refine ap ?_
 refine Tr.drop 0 (Cr 6 7 8 rfl (Tr.ret (Fin.Cf rfl (AL.cell 1 rfl rfl Bo Br rfl (Lr)) (AL.tmp rfl (Lr)) (AL.tmp rfl (Lr)) ?_)))
 refine A_ ⟨?_,?_,?_,trivial⟩
 · rw [hb];exact AY ⟨Lr,Lr,Lr,Lr,Lr,Lr,Lr,Lr,Lr,Pr.le_of_eq (by show _=slice 9 ((EB 24 (h.CZ++[h.ep])).map Aj);unfold EB;rw [List.map_drop];congr 2;omega),trivial⟩
 · refine bool_eq ?_;rw [hb,Bool.eq_iff_iff];simp;omega
 · exact int_eq (by rw [hb])
 refine ac ?_
 refine GS 2 3 4 6 9 36 rfl ?_
 refine Tr.cn rfl ?_ ?_<;>intro h9 q9
 have hin:0≤k∧k≤3:=by omega
 have hb:=YJ (k:=k) hce hnm (by have:=q9;omega)
 refine Tr.seq (Tr.pad (Tr.rx ?_))
 refine ax ?_
 refine xo rfl (fun _=>Bq (DQ hs.ep) rfl rfl) (xo rfl (fun _=>AM (xs:=[.tmp 41]) (rows:=[_]) rfl rfl underlying37 BI z32 rfl (by decide) ⟨⟨(by exact rfl),(Va rfl)⟩,trivial⟩ (by decide)) ?_)
 refine Cx.ef 2 rfl rfl (by decide) (DN rfl rfl rfl rfl underlying37 BI PD z32 (Kb rfl) (Kf rfl) (B9 (by exact List.Mem.head _) (Ka rfl))) ?_
 refine xo rfl (fun _=>AE rfl JY (vl rfl)) (Cx.CT 1 rfl rfl (Cb rfl rfl rfl (vl rfl) rfl PF (by exact Nb rfl)) ?_)
 refine Cx.nil ⟨by kernel_rfl,?_⟩
 refine A9.Hu 2 1 43 rfl rfl (by decide) rfl (fun v3=> ?_)
 refine A9.done IY (Fin.go (Tr.drop 0 (Ez 2 4 6 9 rfl (Tr.seq (Tr.seq ?_)))))
 have F8:(h.CZ++[h.ep]).length=h.CZ.length+1:=by simp
 refine Tr.GQ 0 [str h.ep.name,int h.ep.least,int h.ep.most,ints h.ep.AF,bool h.ep.own,DC h.ep.ids,ints h.ep.anchors,ints h.ep.hashes,bool h.ep.De,Ay v3 (slice 9 ((h.CZ++[h.ep]).map Aj))] rfl ⟨Lr,Lr,Lr,Lr,Lr,Lr,Lr,Lr,Lr,GN (Pr.le_of_eq (by rw [List.map_append];rfl)),trivial⟩ ?_
 refine ac ?_
 refine co rfl (Gi rfl underlying37 (Kb rfl)) ?_
 refine ac ?_
 refine an ?_ ?_<;>intro h10 OZ
 refine ap ?_
 refine tp rfl (B1 rfl underlying37 BI (Kb rfl) (vl rfl) (by omega) (by simp;omega)) ?_
 refine ap ?_
 refine Tr.drop 1 (Ez 2 4 6 9 rfl ?_)
 refine ap ?_
 refine tp rfl (Bq (DQ B6) rfl rfl) ?_
 refine ap ?_
 refine ap ?_
 refine TO.cases 62 rfl (fun h11=> ?_) (fun h11=> ?_)
 have QX:=GC.IE h11
 refine TO.N3 rfl rfl rfl (EG h11) rfl (by decide) (TO.N3 rfl rfl rfl (EG h11) rfl (by decide) ?_)
 refine ap ?_
 refine Tr.drop 0 (Cr 6 7 8 rfl (Tr.ret (Fin.Cf rfl (AL.cell 0 rfl rfl Bo Br rfl (Lr)) (AL.tmp rfl (Lr)) (AL.tmp rfl (Lr)) ?_)))
 refine A_ ⟨?_,?_,?_,trivial⟩
 · rw [hb];exact AY ⟨Lr,Lr,Lr,Lr,Lr,Lr,Lr,Lr,Lr,Pr.le_of_eq (by show _=slice 9 ((EB 24 (h.CZ++[h.ep])).map Aj);unfold EB;rw [List.map_drop];congr 2;omega),trivial⟩
 · refine bool_eq ?_;rw [hb,Bool.eq_iff_iff];simp;omega
 · exact int_eq (by rw [hb])
 have QX:=GC.IE h11
 refine TO.OX rfl rfl rfl h11 rfl (by decide) (BL rfl (vl rfl)) (TO.OX rfl rfl rfl h11 rfl (by decide) (ki rfl rfl rfl rfl) ?_)
 refine ap ?_
 refine Tr.drop 0 (Cr 6 7 8 rfl (Tr.ret (Fin.Cf rfl (AL.cell 0 rfl rfl Bo Br rfl (Lr)) (AL.tmp rfl (Lr)) (AL.tmp rfl (Lr)) ?_)))
 refine A_ ⟨?_,?_,?_,trivial⟩
 · rw [hb];exact AY ⟨Lr,Lr,Lr,Lr,Lr,Lr,Lr,Lr,Lr,Pr.le_of_eq (by show _=slice 9 ((EB 24 (h.CZ++[h.ep])).map Aj);unfold EB;rw [List.map_drop];congr 2;omega),trivial⟩
 · refine bool_eq ?_;rw [hb,Bool.eq_iff_iff];simp;omega
 · exact int_eq (by rw [hb])
 refine ac ?_
 refine ap ?_
 refine tp rfl (Bq (DQ B6) rfl rfl) ?_
 refine ap ?_
 refine ap ?_
 refine TO.cases 62 rfl (fun h12=> ?_) (fun h12=> ?_)
 have QY:=GC.IE h12
 refine TO.N3 rfl rfl rfl (EG h12) rfl (by decide) (TO.N3 rfl rfl rfl (EG h12) rfl (by decide) ?_)
 refine ap ?_
 refine Tr.drop 0 (Cr 6 7 8 rfl (Tr.ret (Fin.Cf rfl (AL.cell 1 rfl rfl Bo Br rfl (Lr)) (AL.tmp rfl (Lr)) (AL.tmp rfl (Lr)) ?_)))
 refine A_ ⟨?_,?_,?_,trivial⟩
 · rw [hb];exact AY ⟨Lr,Lr,Lr,Lr,Lr,Lr,Lr,Lr,Lr,Pr.le_of_eq (by show _=slice 9 ((EB 24 (h.CZ++[h.ep])).map Aj);unfold EB;rw [List.map_drop];congr 2;omega),trivial⟩
 · refine bool_eq ?_;rw [hb,Bool.eq_iff_iff];simp;omega
 · exact int_eq (by rw [hb])
 have QY:=GC.IE h12
 refine TO.OX rfl rfl rfl h12 rfl (by decide) (BL rfl (vl rfl)) (TO.OX rfl rfl rfl h12 rfl (by decide) (ki rfl rfl rfl rfl) ?_)
 refine ap ?_
 refine Tr.drop 0 (Cr 6 7 8 rfl (Tr.ret (Fin.Cf rfl (AL.cell 1 rfl rfl Bo Br rfl (Lr)) (AL.tmp rfl (Lr)) (AL.tmp rfl (Lr)) ?_)))
 refine A_ ⟨?_,?_,?_,trivial⟩
 · rw [hb];exact AY ⟨Lr,Lr,Lr,Lr,Lr,Lr,Lr,Lr,Lr,Pr.le_trans (Ar _ _) (Pr.le_of_eq (by show _=slice 9 ((EB 24 (h.CZ++[h.ep])).map Aj);unfold EB;rw [show (h.CZ++[h.ep]).length-24=0 by omega];rfl)),trivial⟩
 · refine bool_eq ?_;rw [hb,Bool.eq_iff_iff];simp;omega
 · exact int_eq (by rw [hb])
 have hin:0≤k∧k≤3:=by omega
 have hb:=gr (k:=k) hce hnm hin (by have:=q9;omega)
 refine ac ?_
 refine ap ?_
 refine TO.cases 62 rfl (fun HW=> ?_) (fun HW=> ?_)
 have Q_:=GC.IE HW
 refine TO.N3 rfl rfl rfl (EG HW) rfl (by decide) (TO.N3 rfl rfl rfl (EG HW) rfl (by decide) ?_)
 refine ap ?_
 refine Tr.drop 0 (Cr 6 7 8 rfl (Tr.ret (Fin.Cf rfl (AL.cell 1 rfl rfl Bo Br rfl (Lr)) (AL.tmp rfl (Lr)) (AL.tmp rfl (Lr)) ?_)))
 refine A_ ⟨?_,?_,?_,trivial⟩
 · rw [hb];exact AY ⟨Lr,Lr,Lr,Lr,Lr,Lr,Lr,Lr,Lr,Ar _ _,trivial⟩
 · refine bool_eq ?_;rw [hb,Bool.eq_iff_iff];simp;omega
 · exact int_eq (by rw [hb])
 have Q_:=GC.IE HW
 refine TO.OX rfl rfl rfl HW rfl (by decide) (BL rfl (vl rfl)) (TO.OX rfl rfl rfl HW rfl (by decide) (ki rfl rfl rfl rfl) ?_)
 refine ap ?_
 refine Tr.drop 0 (Cr 6 7 8 rfl (Tr.ret (Fin.Cf rfl (AL.cell 1 rfl rfl Bo Br rfl (Lr)) (AL.tmp rfl (Lr)) (AL.tmp rfl (Lr)) ?_)))
 refine A_ ⟨?_,?_,?_,trivial⟩
 · rw [hb];exact AY ⟨Lr,Lr,Lr,Lr,Lr,Lr,Lr,Lr,Lr,Ar _ _,trivial⟩
 · refine bool_eq ?_;rw [hb,Bool.eq_iff_iff];simp;omega
 · exact int_eq (by rw [hb])
def dN:A0:=⟨0,[],0,0,0,0,[],0,0,0,[]⟩
def UM (a:A0):A0:=if B2 (fN a 4 0 0 1)=true then fN a 0 0 0 0 else dN
theorem Rz {a:A0} (h:B2 (fN a 4 0 0 1)=true):UM a=fN a 0 0 0 0:=if_pos h
theorem Vb {a:A0}  :A4 prog 154 [agg (Ad a)] (Eu [agg (Ad (UM a)),int (if B2 (fN a 4 0 0 1)=true then 0 else 24)]):=by
 refine A4.of func154 rfl rfl (by exact Nb rfl) fun M0 w0=> ?_
 refine Tr.seq (Tr.Ax (tp rfl (Ba rfl (Va rfl)) ?_))
 refine Tl rfl rfl rfl rfl G2 Lc (fun b1=> ?_)
 refine tm rfl (TO.nil (Fin.go (Tr.seq (Tr.Ax (tp rfl (La rfl V6 rfl rfl) (tp rfl (Fv rfl Ce rfl) (tp rfl (La rfl V7 rfl rfl) (tp rfl (Fv rfl HQ rfl) (tp rfl (La rfl V8 rfl rfl) (tp rfl (Fv rfl Ce rfl) (tp rfl (La rfl V9 rfl rfl) (tp rfl (Fv rfl Ce rfl) (tp rfl (La rfl V_ rfl rfl) ?_)))))))))))))
 refine tp rfl (Fv rfl Ce rfl) (tp rfl (La rfl WA rfl rfl) (tp rfl (Fv rfl HQ rfl) (tp rfl (As (qs:=[int a.src,str a.host,int a.machine,int a.day,int a.E0,int 4,str a.Eh,is (.int .i64 0),is (.int .i64 0),int 1,is (.string (ByteArray.mk #[]))]) (rows:=[(0,[_]),(1,[_]),(2,[_]),(3,[_]),(4,[_]),(5,[_]),(6,[_]),(8,[_])]) rfl eI Lc ⟨⟨rfl,(Vo rfl)⟩,⟨⟨rfl,(Vo rfl)⟩,⟨⟨rfl,(Vo rfl)⟩,⟨⟨rfl,(Vo rfl)⟩,⟨⟨rfl,(Vo rfl)⟩,⟨⟨rfl,(Vo rfl)⟩,⟨⟨rfl,(Vo rfl)⟩,⟨⟨rfl,(Vo rfl)⟩,trivial⟩⟩⟩⟩⟩⟩⟩⟩ (by kernel_rfl)) ?_)))
 refine Tl rfl rfl rfl rfl G2 Lc (fun b2=> ?_)
 refine TO.AR 0 rfl rfl rfl (vl rfl) (Va rfl) rfl AW rfl rfl (TO.nil (Fin.go (CL 2 4 rfl (Tr.seq (Tr.seq (Tr.GQ 0 (Ad (fN a 4 0 0 1)) rfl ⟨Lr,Lr,Lr,Lr,Lr,Lr,Lr,Lr,Lr,Lr,Lr,trivial⟩ (Tr.B_ (co rfl (Az 0 rfl (AQ rfl BD AW (vl rfl) rfl rfl)) (co rfl (AX rfl (NM (f:=fN a 4 0 0 1)) ⟨ke rfl,trivial⟩) (cm rfl (Ch.nil (Fin.go (Tr.seq (Tr.B_ ?_))))))))))))))
 refine cm rfl (co rfl (ki rfl rfl rfl rfl) (Ch.nil (Fin.go ?_)))
 refine Tr.cn rfl ?_ ?_<;>intro h1 q1
 have hc:¬B2 (fN a 4 0 0 1)=true:=by intro h_;have:=q1;rw [if_pos h_] at this;exact this rfl
 have hA:UM a=dN:=if_neg hc
 refine Tr.seq (Tr.Ax (tp rfl (As (rows:=[]) rfl eI Lc trivial rfl) (tm rfl (TO.AR 1 rfl rfl rfl (vl rfl) (Va rfl) rfl AW rfl rfl (tm rfl (TO.nil (Fin.go (Tr.drop 0 (Tr.ret (Fin.AJ (Fin.DK rfl (AL.cell 0 rfl rfl BD AW rfl (Lr)) (AL.tmp rfl (Lr)) ?_)))))))))))
 refine A_ ⟨?_,?_,trivial⟩
 · rw [hA];exact Lr
 · exact int_eq (by rw [if_neg hc])
 have hc:B2 (fN a 4 0 0 1)=true:=Decidable.byContradiction fun h_=>by have:=q1;rw [if_neg h_] at this;cases this
 have hA:=Rz hc
 refine Tr.skip (Fin.go (Tr.seq (Tr.Ax (tp rfl (AE rfl SM (vl rfl)) (TO.CT 0 rfl rfl (Ab rfl rfl (vl rfl) (Vo rfl) Cg rfl (by exact Nb rfl) rfl) (tp rfl (AE rfl PJ (vl rfl)) (TO.CT 0 rfl rfl (Ab rfl rfl (vl rfl) (Vo rfl) Cg rfl (by exact Nb rfl) rfl) (TO.nil (Fin.go (Tr.seq (Tr.GQ 0 (Ad (fN a 0 0 0 0)) rfl ⟨Lr,Lr,Lr,Lr,Lr,Lr,Lr,Lr,Lr,Lr,Lr,trivial⟩ (Tr.Ax (TO.rd 0 rfl rfl rfl (by decide) (AQ rfl BD AW (vl rfl) rfl rfl) ?_)))))))))))))
 refine TO.AR 1 rfl rfl rfl (vl rfl) (Va rfl) rfl AW rfl rfl (tm rfl (TO.nil (Fin.go (Tr.drop 0 (Tr.ret (Fin.DK rfl (AL.cell 0 rfl rfl BD AW rfl (Lr)) (AL.tmp rfl (Lr)) ?_))))))
 refine A_ ⟨?_,?_,trivial⟩
 · rw [hA];exact Lr
 · exact int_eq (by rw [if_pos hc])
theorem Gt {f:A0} {k n:Int}  :A4 prog 155 [agg (Ad f),int k,int n] (agg (Ad ⟨f.src,f.host,f.machine,f.day,f.E0,k,f.Eh,f.BO,f.bits,n,f.text⟩)):=by
 refine fo func155 rfl ⟨rfl,rfl⟩ fun M0 w0=>(Tr.seq (Tr.Ax ?_))
 refine TO.IA rfl rfl (by decide) rfl (Va rfl) (fun b1=> ?_)
 refine Tl rfl rfl rfl rfl G2 Lc (fun b2=> ?_)
 refine ap ?_
 refine ap ?_
 refine ap ?_
 refine Tr.drop 1 (Tr.ret (Fin.CG rfl (AL.cell 0 rfl rfl BD AW rfl (Lr)) ?_))
 · exact Lr
theorem R3 {f:A0} {k BO bits n:Int}  :A4 prog 156 [agg (Ad f),int k,agg [int BO,int bits],int n] (agg (Ad ⟨f.src,f.host,f.machine,f.day,f.E0,k,f.Eh,BO,bits,n,f.text⟩)):=by
 refine fo func156 rfl ⟨rfl,rfl⟩ fun M0 w0=>(Tr.seq (Tr.Ax ?_))
 refine TO.IA rfl rfl (by decide) rfl (Va rfl) (fun b1=> ?_)
 refine tp rfl (Ba rfl (Va rfl)) ?_
 refine Tl rfl rfl rfl rfl G2 Lc (fun b2=> ?_)
 refine ap ?_
 refine Tr.seq (Tr.rx ?_)
 refine ay ?_
 refine Cx.nil ⟨by kernel_rfl,?_⟩
 refine A9.done KP (Fin.go ?_)
 refine ap ?_
 refine Tr.drop 1 (Tr.ret (Fin.CG rfl (AL.cell 0 rfl rfl BD AW rfl (Lr)) ?_))
 · exact Lr
theorem TH {a:A0} {e:BJ} (hf:a.fits) (hs:e.small):A4 prog 110 [agg (Ad a),agg (Aj e)] (Eu [Dq (Rw a e).1,int (Rw a e).2]):=by
 refine fo func110 rfl ⟨rfl,rfl⟩ fun M0 w0=> ?_
 refine ac ?_
 refine ao ?_
 refine tp rfl (Bq (Vb) rfl rfl) ?_
 refine ao ?_
 refine Tl rfl rfl rfl rfl G2 Lc (fun b1=> ?_)
 refine sf 0 6 ⟨rfl,rfl,rfl⟩ rfl rfl rfl rfl ?_
 refine ao ?_
 refine ac ?_
 refine Ez 3 6 7 20 rfl ?_
 refine Tr.cn rfl ?_ ?_<;>intro h1 q1
 have hc:B2 (fN a 4 0 0 1)=false:=by rw [←Bool.not_eq_true];intro h_;have:=q1;rw [if_pos h_] at this;exact this rfl
 have hA:Rw a e=([],24):=if_pos hc
 refine ac ?_
 refine Tr.ret (Fin.AJ (Fin.Fz rfl (Ct.F5 _ _) rfl ?_ rfl ?_))
 · rw [hA];exact AD 11
 · exact int_eq (by rw [hA];rw [if_neg (by rw [hc];decide)])
 have gp:B2 (fN a 4 0 0 1)=true:=Decidable.byContradiction fun h_=>by have:=q1;rw [if_neg h_] at this;cases this
 refine Tr.re 6 rfl (Pr.le_of_eq (show ref (Ad (UM a))=ref (Ad (fN a 0 0 0 0)) by rw [Rz gp])) ?_
 refine a2 ?_
 refine co rfl (Bq (K5 hs) rfl rfl) ?_
 refine ac ?_
 refine an ?_ ?_<;>intro h2 q2
 have hc:BK e=false:=by rw [←Bool.not_eq_true];intro h_;have:=q2;rw [if_pos h_] at this;exact this rfl
 have hA:Rw a e=([],19):=by unfold Rw;rw [if_neg (by rw [gp];decide),if_pos hc]
 refine ac ?_
 refine Tr.ret (Fin.AJ (Fin.Fz rfl (Ct.F5 _ _) rfl ?_ rfl ?_))
 · rw [hA];exact AD 11
 · exact int_eq (by rw [hA];rw [if_neg (by rw [hc];decide)])
 have hce:BK e=true:=Decidable.byContradiction fun h_=>by have:=q2;rw [if_neg h_] at this;cases this
 have hA:Rw a e=(LO (Gs a e),0):=by unfold Rw;rw [if_neg (by rw [gp];decide),if_neg (by rw [hce];decide)]
 have hsh:=QO gp hce
 have SB:=D2 (Bv.1 hce).AF
 have Vq:=(Bv.1 hce).KF
 have hb3:=(Bv.1 hce).N8
 have ng:=hsh.2
 unfold Gs at ng
 simp only [List.length_append,List.length_map,List.length_cons,List.length_nil] at ng
 refine a2 ?_
 refine co rfl (iI (Gt) rfl rfl rfl rfl) ?_
 refine ac ?_
 refine co rfl (iI (Gt) rfl rfl rfl rfl) ?_
 refine ac ?_
 refine Cr 3 6 9 rfl (Tr.seq (Tr.seq (Tr.Zn 96 11 9 rfl fun v1=> ?_)))
 refine ac ?_
 refine Tr.block (Tr.Ea [(3,_),(6,_)] ⟨ke rfl,ke rfl,trivial⟩ (fun k vk=>[(10,int ((k:Nat):Int)),(9,Ay vk (Dq (([fN a 5 0 0 e.least,fN a 4 0 0 e.most]:List A0)++(e.AF.take k).map (fN a 2 0 0))))]) (fun k vk=>Hp M0 w0 Jp ([BR 96 11 vk])) (fun k:Nat=>k≤(e.AF).length) (fun k:Nat=>(e.AF).length-k) 0 v1 (Nat.zero_le _) ⟨ke rfl,⟨_,rfl,CE (by rfl)⟩,trivial⟩ (fun _ _ h=>h) ?_)
 rintro k vk Bk
 refine an ?_ ?_<;>intro h3 q3
 have Ao:k<(e.AF).length:=AZ h3
 obtain ⟨c,An⟩:=at_ Ao
 refine ac ?_
 refine Tr.seq (Tr.block (Tr.pad (Tr.rx ?_)))
 refine ay ?_
 refine xo rfl (fun _=>AB rfl underlying22 Cg (vl rfl) (vl rfl) (by omega) (Ak An)) (xo rfl (fun _=>Fv rfl Ce rfl) (xo rfl (fun _=>iI (Gt) rfl rfl rfl rfl) (xo rfl (fun _=>AM (xs:=[.tmp 50]) (rows:=[_]) rfl rfl underlying92 AW G2 rfl (by decide) ⟨⟨(by exact rfl),(Va rfl)⟩,trivial⟩ (by decide)) ?_)))
 refine Cx.ef 1 rfl rfl (by decide) (DN rfl rfl rfl rfl underlying92 AW HS G2 (Kb rfl) (Kf rfl) (B9 (by exact List.Mem.head _) (Ka rfl))) ?_
 refine Cx.ef 1 rfl rfl (by decide) (E7 rfl rfl (by decide) rfl (vl rfl)) ?_
 refine Cx.nil ⟨by kernel_rfl,?_⟩
 refine A9.open_ 1 9 rfl rfl (fun v2=> ?_)
 refine A9.done KP ?_
 refine ac ?_
 refine Tr.drop 0 (Ez 3 6 9 10 rfl ?_)
 refine ac ?_
 exact Fin.Fu (k+1) v2 (⟨Ao,by omega⟩) ⟨⟨_,rfl,AS k⟩,⟨_,rfl,CE (by rw [←H8 (f:=(fN a 2 0 0)) An,←List.append_assoc];simp only [List.map_append];rfl)⟩,ke rfl,ke rfl,trivial⟩ (fun _ _ h=>h)
 have BQ:k=(e.AF).length:=by have:=Aa h3;omega
 subst BQ
 rw [List.take_length]
 refine a2 ?_
 refine Tr.block (Tr.Ea [(3,_),(6,_)] ⟨ke rfl,ke rfl,trivial⟩ (fun m vm=>[(11,int ((m:Nat):Int)),(9,Ay vm (Dq (([fN a 5 0 0 e.least,fN a 4 0 0 e.most]:List A0)++e.AF.map (fN a 2 0 0)++(e.ids.take m).map (fun x:DO=>fN a 3 x.BO x.bits x.BG))))]) (fun m vm=>Hp M0 w0 Jp ([BR 96 11 vm])) (fun m:Nat=>m≤(e.ids).length) (fun m:Nat=>(e.ids).length-m) 0 vk (Nat.zero_le _) ⟨ke rfl,⟨_,rfl,CE (by rw [List.take_zero,List.map_nil,List.append_nil])⟩,trivial⟩ (fun _ _ h=>h) ?_)
 rintro m vm W0
 refine an ?_ ?_<;>intro h4 q4
 have NP:m<(e.ids).length:=AZ h4
 obtain ⟨x,KA⟩:=at_ NP
 refine ac ?_
 refine Tr.seq (Tr.block (Tr.pad (Tr.rx ?_)))
 refine ay ?_
 refine xo rfl (fun _=>AB rfl underlying30 Be (vl rfl) (vl rfl) (by omega) (Ak KA)) ?_
 refine ay ?_
 refine xo rfl (fun _=>AB rfl underlying30 Be (vl rfl) (vl rfl) (by omega) (Ak KA)) ?_
 refine ay ?_
 refine xo rfl (fun _=>kc4 (R3) rfl rfl rfl rfl rfl) (xo rfl (fun _=>AM (xs:=[.tmp 74]) (rows:=[_]) rfl rfl underlying92 AW G2 rfl (by decide) ⟨⟨(by exact rfl),(Va rfl)⟩,trivial⟩ (by decide)) ?_)
 refine Cx.ef 1 rfl rfl (by decide) (DN rfl rfl rfl rfl underlying92 AW HS G2 (Kb rfl) (Kf rfl) (B9 (by exact List.Mem.head _) (Ka rfl))) ?_
 refine Cx.ef 1 rfl rfl (by decide) (E7 rfl rfl (by decide) rfl (vl rfl)) ?_
 refine Cx.nil ⟨by kernel_rfl,?_⟩
 refine A9.open_ 1 9 rfl rfl (fun v3=> ?_)
 refine A9.done KP ?_
 refine ac ?_
 refine Tr.drop 0 (Ez 3 6 9 11 rfl ?_)
 refine ac ?_
 exact Fin.Fu (m+1) v3 (⟨NP,by omega⟩) ⟨⟨_,rfl,AS m⟩,⟨_,rfl,CE (by rw [←H8 (f:=(fun x:DO=>fN a 3 x.BO x.bits x.BG)) KA,←List.append_assoc];simp only [List.map_append];rfl)⟩,ke rfl,ke rfl,trivial⟩ (fun _ _ h=>h)
 have Sj:m=(e.ids).length:=by have:=Aa h4;omega
 subst Sj
 rw [List.take_length]
 refine a2 ?_
 refine Tr.block (Tr.Ea [(3,_),(6,_)] ⟨ke rfl,ke rfl,trivial⟩ (fun o vo=>[(12,int ((o:Nat):Int)),(9,Ay vo (Dq (([fN a 5 0 0 e.least,fN a 4 0 0 e.most]:List A0)++e.AF.map (fN a 2 0 0)++e.ids.map (fun x:DO=>fN a 3 x.BO x.bits x.BG)++(e.anchors.take o).map (fN a 6 0 0))))]) (fun o vo=>Hp M0 w0 Jp ([BR 96 11 vo])) (fun o:Nat=>o≤(e.anchors).length) (fun o:Nat=>(e.anchors).length-o) 0 vm (Nat.zero_le _) ⟨ke rfl,⟨_,rfl,CE (by rw [List.take_zero,List.map_nil,List.append_nil])⟩,trivial⟩ (fun _ _ h=>h) ?_)
 rintro o vo dK
 refine an ?_ ?_<;>intro h5 q5
 have QI:o<(e.anchors).length:=AZ h5
 obtain ⟨c,Nc⟩:=at_ QI
 refine ac ?_
 refine Tr.seq (Tr.block (Tr.pad (Tr.rx ?_)))
 refine ay ?_
 refine xo rfl (fun _=>AB rfl underlying22 Cg (vl rfl) (vl rfl) (by omega) (Ak Nc)) (xo rfl (fun _=>Fv rfl Ce rfl) (xo rfl (fun _=>iI (Gt) rfl rfl rfl rfl) (xo rfl (fun _=>AM (xs:=[.tmp 91]) (rows:=[_]) rfl rfl underlying92 AW G2 rfl (by decide) ⟨⟨(by exact rfl),(Va rfl)⟩,trivial⟩ (by decide)) ?_)))
 refine Cx.ef 1 rfl rfl (by decide) (DN rfl rfl rfl rfl underlying92 AW HS G2 (Kb rfl) (Kf rfl) (B9 (by exact List.Mem.head _) (Ka rfl))) ?_
 refine Cx.ef 1 rfl rfl (by decide) (E7 rfl rfl (by decide) rfl (vl rfl)) ?_
 refine Cx.nil ⟨by kernel_rfl,?_⟩
 refine A9.open_ 1 9 rfl rfl (fun v4=> ?_)
 refine A9.done KP ?_
 refine ac ?_
 refine Tr.drop 0 (Ez 3 6 9 12 rfl ?_)
 refine ac ?_
 exact Fin.Fu (o+1) v4 (⟨QI,by omega⟩) ⟨⟨_,rfl,AS o⟩,⟨_,rfl,CE (by rw [←H8 (f:=(fN a 6 0 0)) Nc,←List.append_assoc];simp only [List.map_append];rfl)⟩,ke rfl,ke rfl,trivial⟩ (fun _ _ h=>h)
 have X5:o=(e.anchors).length:=by have:=Aa h5;omega
 subst X5
 rw [List.take_length]
 refine a2 ?_
 refine Tr.block (Tr.Ea [(3,_),(6,_)] ⟨ke rfl,ke rfl,trivial⟩ (fun q vq=>[(13,int ((q:Nat):Int)),(9,Ay vq (Dq (([fN a 5 0 0 e.least,fN a 4 0 0 e.most]:List A0)++e.AF.map (fN a 2 0 0)++e.ids.map (fun x:DO=>fN a 3 x.BO x.bits x.BG)++e.anchors.map (fN a 6 0 0)++(e.hashes.take q).map (fun n:Int=>fN a 1 n 0 0))))]) (fun q vq=>Hp M0 w0 Jp ([BR 96 11 vq])) (fun q:Nat=>q≤(e.hashes).length) (fun q:Nat=>(e.hashes).length-q) 0 vo (Nat.zero_le _) ⟨ke rfl,⟨_,rfl,CE (by rw [List.take_zero,List.map_nil,List.append_nil])⟩,trivial⟩ (fun _ _ h=>h) ?_)
 rintro q vq dL
 refine an ?_ ?_<;>intro h6 q6
 have QK:q<(e.hashes).length:=AZ h6
 obtain ⟨c,QL⟩:=at_ QK
 refine ac ?_
 refine Tr.seq (Tr.block (Tr.pad (Tr.rx ?_)))
 refine ay ?_
 refine xo rfl (fun _=>AB rfl underlying22 Cg (vl rfl) (vl rfl) (by omega) (Ak QL)) ?_
 refine ay ?_
 refine xo rfl (fun _=>kc4 (R3) rfl rfl rfl rfl rfl) (xo rfl (fun _=>AM (xs:=[.tmp 109]) (rows:=[_]) rfl rfl underlying92 AW G2 rfl (by decide) ⟨⟨(by exact rfl),(Va rfl)⟩,trivial⟩ (by decide)) ?_)
 refine Cx.ef 1 rfl rfl (by decide) (DN rfl rfl rfl rfl underlying92 AW HS G2 (Kb rfl) (Kf rfl) (B9 (by exact List.Mem.head _) (Ka rfl))) ?_
 refine Cx.ef 1 rfl rfl (by decide) (E7 rfl rfl (by decide) rfl (vl rfl)) ?_
 refine Cx.nil ⟨by kernel_rfl,?_⟩
 refine A9.open_ 1 9 rfl rfl (fun v5=> ?_)
 refine A9.done KP ?_
 refine ac ?_
 refine Tr.drop 0 (Ez 3 6 9 13 rfl ?_)
 refine ac ?_
 exact Fin.Fu (q+1) v5 (⟨QK,by omega⟩) ⟨⟨_,rfl,AS q⟩,⟨_,rfl,CE (by rw [←H8 (f:=(fun n:Int=>fN a 1 n 0 0)) QL,←List.append_assoc];simp only [List.map_append];rfl)⟩,ke rfl,ke rfl,trivial⟩ (fun _ _ h=>h)
 have X6:q=(e.hashes).length:=by have:=Aa h6;omega
 subst X6
 rw [List.take_length]
 refine a2 ?_
 refine co rfl (AX rfl (Ur (l:=Gs a e) hsh.1 (by omega)) ⟨⟨_,rfl,Pr.le_trans (Ar _ _) (Pr.le_of_eq rfl)⟩,trivial⟩) ?_
 refine ac ?_
 refine CL 4 5 rfl (Tr.ret (Fin.Fz rfl (Ct.F5 _ _) rfl ?_ rfl ?_))
 · rw [hA];exact Lr
 · exact int_eq (by rw [hA])
theorem TI {h:Gr} {a:A0} (ha:a.fits) (hs:h.ep.small):A4 prog 63 [agg (EE h),agg (Ad a)] (Eu [Dq (Rw a h.ep).1,int (Rw a h.ep).2]):=by
 refine fo func63 rfl ⟨rfl,rfl⟩ fun M0 w0=> ?_
 refine a2 ?_
 refine co rfl (Dc (TH (a:=a) (e:=h.ep) ha hs) rfl rfl rfl) ?_
 refine ac ?_
 refine Tr.ret (Fin.Fz rfl (Ct.F5 _ _) rfl ?_ rfl ?_)
 · exact Lr
 · exact Lr
structure TJ (h:Gr) (n:Nat):Prop where
 ep:h.ep.sz n
 len:h.CZ.length≤24
 CZ:∀e∈h.CZ,e.sz n
theorem TJ.small {h:Gr} {n:Nat} (k:TJ h n) (hn:n≤1000000):h.small:=⟨k.ep.small hn,by have:=k.len;omega,fun e he=>(k.CZ e he).small hn⟩
theorem TJ.le {h:Gr} {n m:Nat} (k:TJ h n) (hn:n≤m):TJ h m:=⟨k.ep.le hn,k.len,fun e he=>(k.CZ e he).le hn⟩
theorem bV {e:BJ} {n:Nat} (h:e.sz n):TJ ⟨e,[]⟩ n:=⟨h,by show 0≤_;omega,fun x hx=>by cases hx⟩
theorem YK {h:Gr} {n:Nat} (k:TJ h n):TJ (HF h).1 n:=by
 cases hx:h.CZ[h.CZ.length-1]? with
 |none=>unfold HF;rw [hx];exact k
 |some x=>
  rw [Ng hx]
  exact ⟨k.CZ x (List.mem_of_getElem? hx),by show (h.CZ.take _).length≤_;rw [List.length_take];have:=k.len;omega,fun e he=>k.CZ e (List.mem_of_mem_take he)⟩
theorem MP {n:Nat}:Bf.sz n:=⟨by show 0≤_;omega,by show 0≤_;omega,by show 0≤_;omega,by show 0≤_;omega,by show 0≤_;omega,fun x hx=>by cases hx⟩
theorem R4 {e:BJ} {c:B8} {n:Nat} (h:e.sz n) (hi:c.Cl.fits∧c.Cl.small):(CY e c).1.sz (n+1):=by
 cases h1:BK e with
 |false=>rw [show CY e c=(Bf,BM,19) from if_pos h1];exact MP
 |true=>
  by_cases h2:ES c
  case neg=>rw [show CY e c=(Bf,BM,40) from (if_neg (by rw [h1];decide)).trans (if_pos h2)];exact MP
  cases hs:BB e c with
  |error f=>rw [FX h1 h2 hs];exact MP
  |ok p=>
   obtain ⟨e2,b⟩:=p
   cases h3:BK e2 with
   |true=>have hr:=GJ h1 h2 hs h3;rw [hr];exact (bF hr h hi).1
   |false=>rw [Hl h1 h2 hs h3];exact MP
theorem Vc {h:Gr} {c:B8} {n:Nat} (k:TJ h n) (hi:c.Cl.fits∧c.Cl.small):TJ (GO h c).1 (n+1):=by
 unfold GO
 split
 · exact ⟨R4 k.ep hi,k.len,fun e he=>(k.CZ e he).le (by omega)⟩
 · exact k.le (by omega)
theorem QS {h:Gr} {E2:BJ} {f:Int} {n:Nat} (k:TJ h n) (ht:BK E2=true→E2.sz n):TJ (FC h E2 f).1 n:=by
 unfold FC
 split
 · exact k
 ·
  split
  · exact k
  ·
   split
   · exact k
   ·
    rename_i h1 _ _
    show TJ (if f=0∨f=2 then (⟨E2,EB 24 (h.CZ++[h.ep])⟩:Gr) else h) n
    split
    ·
     refine ⟨ht (by simpa using h1),?_,fun e he=> ?_⟩
     ·
      show (EB 24 (h.CZ++[h.ep])).length≤24
      unfold EB;rw [List.length_drop];omega
     ·
      have h2:e∈h.CZ++[h.ep]:=List.mem_of_mem_drop he
      rcases List.mem_append.1 h2 with h3|h3
      · exact k.CZ e h3
      · simp at h3;subst h3;exact k.ep
    · exact k
def gu (n:Nat):List Pr:=[Cp.ex fun s:List UInt8=>fact (s.length≤maxLen) (str s),Cp.ex fun i:Int=>int i,Cp.ex fun i:Int=>int i,Cp.ex fun l:List Int=>fact (l.length≤n) (ints l),Cp.ex fun b:Bool=>bool b,
 Cp.ex fun l:List DO=>fact (l.length≤n∧∀x∈l,x.fits∧x.small) (DC l),Cp.ex fun l:List Int=>fact (l.length≤n) (ints l),Cp.ex fun l:List Int=>fact (l.length≤n) (ints l),Cp.ex fun b:Bool=>bool b]
theorem bW {e:BJ} {n:Nat} (h:e.sz n):Pr.le (agg (Aj e)) (agg (gu n)):=
 AY ⟨A5 e.name (A2 h.name (Pr.le_refl _)),A5 e.least (Pr.le_refl _),A5 e.most (Pr.le_refl _),A5 e.AF (A2 h.AF (Pr.le_refl _)),A5 e.own (Pr.le_refl _),A5 e.ids (A2 ⟨h.KF,h.ids⟩ (Pr.le_refl _)),A5 e.anchors (A2 h.anchors (Pr.le_refl _)),A5 e.hashes (A2 h.hashes (Pr.le_refl _)),A5 e.De (Pr.le_refl _),trivial⟩
theorem YL {n:Nat}:Pr.le (ref (gu n)) (Cp.ex fun e:BJ=>fact (e.sz n) (ref (Aj e))):=by
 rintro M w v ⟨ad,h1,h2⟩
 obtain ⟨u0,a0,b0,c0,nm,hnm,d0⟩:=h2 0 _ rfl
 obtain ⟨u1,a1,b1,c1,le,d1⟩:=h2 1 _ rfl
 obtain ⟨u2,a2,b2,c2,mo,d2⟩:=h2 2 _ rfl
 obtain ⟨u3,a3,b3,c3,su,hsu,d3⟩:=h2 3 _ rfl
 obtain ⟨u4,a4,b4,c4,ow,d4⟩:=h2 4 _ rfl
 obtain ⟨u5,a5,b5,c5,il,E3,d5⟩:=h2 5 _ rfl
 obtain ⟨u6,a6,b6,c6,an_,han,d6⟩:=h2 6 _ rfl
 obtain ⟨u7,a7,b7,c7,ha,hha,d7⟩:=h2 7 _ rfl
 obtain ⟨u8,a8,b8,c8,fa,d8⟩:=h2 8 _ rfl
 refine ⟨⟨nm,le,mo,su,ow,il,an_,ha,fa⟩,⟨hnm,hsu,han,hha,E3.1,E3.2⟩,ad,h1,fun j p hp=> ?_⟩
 match j,hp with
 |0,hp=>cases hp;exact ⟨u0,a0,b0,c0,d0⟩
 |1,hp=>cases hp;exact ⟨u1,a1,b1,c1,d1⟩
 |2,hp=>cases hp;exact ⟨u2,a2,b2,c2,d2⟩
 |3,hp=>cases hp;exact ⟨u3,a3,b3,c3,d3⟩
 |4,hp=>cases hp;exact ⟨u4,a4,b4,c4,d4⟩
 |5,hp=>cases hp;exact ⟨u5,a5,b5,c5,d5⟩
 |6,hp=>cases hp;exact ⟨u6,a6,b6,c6,d6⟩
 |7,hp=>cases hp;exact ⟨u7,a7,b7,c7,d7⟩
 |8,hp=>cases hp;exact ⟨u8,a8,b8,c8,d8⟩
 |k+9,hp=>exact absurd hp (by simp)
theorem bX {e:BJ} (hf:e.fits) (gq:BK e=true→e.small):A4 prog 49 [agg (Aj e)] (Eu [agg (EE (if BK e=true then ⟨e,[]⟩ else UI)),int (if BK e=true then 0 else 19)]):=by
 refine fo func49 rfl ⟨rfl,rfl⟩ fun M0 w0=>(Tr.seq (Tr.Ax (tp rfl (Ba rfl (Va rfl)) ?_)))
 refine Tl rfl rfl rfl rfl JH Eb (fun b1=> ?_)
 refine ap ?_
 refine ac ?_
 refine co rfl (Bq (C6 hf) rfl rfl) ?_
 refine an ?_ ?_<;>intro h1 q1
 have hne:¬BK e=true:=by have:=q1;cases h_:BK e<;>simp_all
 refine ap ?_
 refine Tr.ret (Fin.AJ (Fin.DK rfl (AL.cell 0 rfl rfl Bo Br rfl (Lr)) (AL.tmp rfl (Lr)) ?_))
 refine A_ ⟨?_,?_,trivial⟩
 · rw [if_neg hne];exact AY ⟨Lr,Lr,Lr,AD 1,Lr,AD 4,AD 1,AD 1,Lr,AD 9,trivial⟩
 · exact int_eq (by rw [if_neg hne])
 have hce:BK e=true:=by have:=q1;cases h_:BK e<;>simp_all
 have B6:=gq hce
 refine ac ?_
 refine ap ?_
 refine tp rfl (AX rfl (KO (h:=⟨e,[]⟩) ⟨B6,by show 0≤_;omega,fun x hx=>by cases hx⟩) ⟨⟨_,rfl,AY ⟨Lr,Lr,Lr,Lr,Lr,Lr,Lr,Lr,Lr,AD 9,trivial⟩⟩,trivial⟩) ?_
 refine ap ?_
 refine Tr.ret (Fin.DK rfl (AL.cell 0 rfl rfl Bo Br rfl (Lr)) (AL.tmp rfl (Lr)) ?_)
 refine A_ ⟨?_,?_,trivial⟩
 · rw [if_pos hce];exact Lr
 · exact int_eq (by rw [if_pos hce])
theorem QT {h:Gr} {E2:BJ} {k:Int} (hs:h.small) (Nq:h.CZ.length≤900000) (hf:E2.fits) (gq:BK E2=true→E2.small):A4 prog 57 [agg (EE h),agg (Aj E2),int k] (Eu [agg (EE (FC h E2 k).1),bool (FC h E2 k).2.1,int (FC h E2 k).2.2]):=by
 refine fo func57 rfl ⟨rfl,rfl⟩ fun M0 w0=>(Tr.seq (Tr.Ax (tp rfl (Ba rfl (Va rfl)) (tp rfl (Ba rfl (Va rfl)) ?_))))
 refine Tl rfl rfl rfl rfl JH Eb (fun b1=> ?_)
 refine ap ?_
 refine ap ?_
 refine TO.OW rfl rfl (by decide) rfl (YB hs) ⟨ke rfl,trivial⟩ (fun v1=> ?_)
 refine tm rfl ?_
 refine Tl rfl rfl rfl rfl JH Eb (fun b2=> ?_)
 refine ap ?_
 refine ac ?_
 refine co rfl (Bq (C6 hf) rfl rfl) ?_
 refine ac ?_
 refine GS 3 4 6 9 10 16 rfl ?_
 refine Tr.cn rfl ?_ ?_<;>intro h1 q1
 have hb:FC h E2 k=(h,false,19):=if_pos (by have:=q1;cases h_:BK E2<;>simp_all)
 refine ap ?_
 refine Tr.drop 0 (Tr.ret (Fin.Au (Fin.AJ (Fin.Cf rfl (AL.cell 1 rfl rfl Bo Br rfl (Lr)) (AL.tmp rfl (Lr)) (AL.tmp rfl (Lr)) ?_))))
 refine A_ ⟨?_,?_,?_,trivial⟩
 · rw [hb];exact AY ⟨Lr,Lr,Lr,Lr,Lr,Lr,Lr,Lr,Lr,Ar _ _,trivial⟩
 · exact bool_eq (by rw [hb])
 · exact int_eq (by rw [hb])
 have hce:BK E2=true:=by have:=q1;cases h_:BK E2<;>simp_all
 have B6:=gq hce
 refine an ?_ ?_<;>intro h2 q2
 have hb:FC h E2 k=(h,false,14):=by unfold FC;rw [if_neg (by rw [hce];decide),if_pos q2]
 refine ap ?_
 refine Tr.drop 0 (Cr 6 7 8 rfl (Tr.ret (Fin.Au (Fin.AJ (Fin.Cf rfl (AL.cell 1 rfl rfl Bo Br rfl (Lr)) (AL.tmp rfl (Lr)) (AL.tmp rfl (Lr)) ?_)))))
 refine A_ ⟨?_,?_,?_,trivial⟩
 · rw [hb];exact AY ⟨Lr,Lr,Lr,Lr,Lr,Lr,Lr,Lr,Lr,Ar _ _,trivial⟩
 · exact bool_eq (by rw [hb])
 · exact int_eq (by rw [hb])
 refine ac ?_
 refine co rfl (Bq (YA) rfl rfl) ?_
 refine ac ?_
 refine EM 4 6 9 10 29 rfl ?_
 refine Tr.cn rfl ?_ ?_<;>intro h3 q3
 have hb:FC h E2 k=(h,false,2):=by unfold FC;rw [if_neg (by rw [hce];decide),if_neg (fun hh=>hh q2),if_pos (by have:=q3;simpa using this)]
 refine ap ?_
 refine Tr.drop 0 (Tr.ret (Fin.Au (Fin.AJ (Fin.Cf rfl (AL.cell 1 rfl rfl Bo Br rfl (Lr)) (AL.tmp rfl (Lr)) (AL.tmp rfl (Lr)) ?_))))
 refine A_ ⟨?_,?_,?_,trivial⟩
 · rw [hb];exact AY ⟨Lr,Lr,Lr,Lr,Lr,Lr,Lr,Lr,Lr,Ar _ _,trivial⟩
 · exact bool_eq (by rw [hb])
 · exact int_eq (by rw [hb])
 refine a3 ?_
 refine co rfl (NC rfl (vl rfl) (show A4 _ _ ([int k]++[]) _ from bO) ⟨ke rfl,trivial⟩) ?_
 refine an ?_ ?_<;>intro h4 q4
 have hb:FC h E2 k=(⟨E2,EB 24 (h.CZ++[h.ep])⟩,decide (k=0∨k=3),0):=by unfold FC;rw [if_neg (by rw [hce];decide),if_neg (fun hh=>hh q2),if_neg (by have:=q3;simpa using this),if_pos (by have:=q4;simpa using this)]
 refine ap ?_
 refine TO.GR 1 rfl rfl (by decide) (DN rfl rfl rfl rfl underlying37 BI PD z32 (Kb rfl) (Kf rfl) (B9 (by exact List.Mem.head _) (Ka rfl))) (fun v2=> ?_)
 refine ap ?_
 refine EM 4 6 9 10 12 rfl (Tr.seq ?_)
 have F8:(h.CZ++[h.ep]).length=h.CZ.length+1:=by simp
 refine Tr.GQ 0 [str h.ep.name,int h.ep.least,int h.ep.most,ints h.ep.AF,bool h.ep.own,DC h.ep.ids,ints h.ep.anchors,ints h.ep.hashes,bool h.ep.De,Ay v2 (slice 9 ((h.CZ++[h.ep]).map Aj))] rfl ⟨Lr,Lr,Lr,Lr,Lr,Lr,Lr,Lr,Lr,GN (Pr.le_of_eq (by rw [List.map_append];rfl)),trivial⟩ ?_
 refine ap ?_
 refine tp rfl (Gi rfl underlying37 (Kb rfl)) ?_
 refine tp rfl (KY rfl (vl rfl) (vl rfl) ?hin) ?_;case hin=>unfold GP;omega
 refine tp rfl (Vm rfl (vl rfl) (vl rfl)) ?_
 refine tp rfl (B1 rfl underlying37 BI (Kb rfl) (vl rfl) (by omega) (by simp;omega)) ?_
 refine ap ?_
 refine Tr.drop 1 (EM 4 6 9 10 12 rfl ?_)
 refine ap ?_
 refine tp rfl (AX rfl (KO (h:=⟨E2,[]⟩) ⟨B6,by show 0≤_;omega,fun x hx=>by cases hx⟩) ⟨⟨_,rfl,AY ⟨Lr,Lr,Lr,Lr,Lr,Lr,Lr,Lr,Lr,AD 9,trivial⟩⟩,trivial⟩) ?_
 refine tp rfl (Uk (k:=0) rfl (by kernel_rfl) Bh BI (vl rfl) rfl) ?_
 refine ap ?_
 refine Tr.seq (Tr.rx ?_)
 refine ay ?_
 refine xo rfl (fun _=>NC rfl (vl rfl) (show A4 _ _ ([int k]++[]) _ from UJ) ⟨ke rfl,trivial⟩) ?_
 refine ay ?_
 refine Cx.nil ⟨by kernel_rfl,?_⟩
 refine A9.done KP (Fin.go (Tr.drop 0 (Cr 6 7 8 rfl (Tr.ret (Fin.Cf rfl (AL.cell 0 rfl rfl Bo Br rfl (Lr)) (AL.tmp rfl (Lr)) (AL.tmp rfl (Lr)) ?_)))))
 refine A_ ⟨?_,?_,?_,trivial⟩
 · rw [hb];exact AY ⟨Lr,Lr,Lr,Lr,Lr,Lr,Lr,Lr,Lr,Pr.le_of_eq (by show _=slice 9 ((EB 24 (h.CZ++[h.ep])).map Aj);unfold EB;rw [List.map_drop];congr 2;omega),trivial⟩
 · exact bool_eq (by rw [hb])
 · exact int_eq (by rw [hb])
 have hb:FC h E2 k=(h,decide (k=0∨k=3),0):=by unfold FC;rw [if_neg (by rw [hce];decide),if_neg (fun hh=>hh q2),if_neg (by have:=q3;simpa using this),if_neg (by have:=q4;simpa using this)]
 refine ac ?_
 refine Tr.seq (Tr.rx ?_)
 refine ay ?_
 refine xo rfl (fun _=>NC rfl (vl rfl) (show A4 _ _ ([int k]++[]) _ from UJ) ⟨ke rfl,trivial⟩) ?_
 refine ay ?_
 refine Cx.nil ⟨by kernel_rfl,?_⟩
 refine A9.done Wd (Fin.go (Tr.drop 0 (Cr 6 7 8 rfl (Tr.ret (Fin.Cf rfl (AL.cell 1 rfl rfl Bo Br rfl (Lr)) (AL.tmp rfl (Lr)) (AL.tmp rfl (Lr)) ?_)))))
 refine A_ ⟨?_,?_,?_,trivial⟩
 · rw [hb];exact AY ⟨Lr,Lr,Lr,Lr,Lr,Lr,Lr,Lr,Lr,Ar _ _,trivial⟩
 · exact bool_eq (by rw [hb])
 · exact int_eq (by rw [hb])
theorem Is {e:BJ} (h:BK e=true) (hf:e.fits) (hi:∀x∈e.ids,x.small):e.sz 100:=by
 have h1:=(QO (a:=nh [97,112,112] 3) (by decide+kernel) h).2
 unfold Gs at h1;simp only [List.length_append,List.length_map,List.length_cons,List.length_nil] at h1
 exact ⟨hf.name,by omega,by omega,by omega,by omega,fun x hx=>⟨hf.ids x hx,hi x hx⟩⟩
theorem TK:Ep Tryz.prog 9 (fun s:List UInt8=>s.length≤maxLen) (fun s=>[str s]):=((F0 Tryz.underlying9).w).map (fun s=>s.data.toList) (fun s h=>h) (fun _=>rfl)
theorem TL:Ep Tryz.prog 131 (fun c:GV=>c.fits∧c.names.length≤8796093022208) C1:=
 (Dd Tryz.underlying131 (by kernel_rfl) (At (c := 1) rfl (by kernel_rfl) ((B7 Tryz.underlying3).w) (At (c := 1) rfl (by kernel_rfl) ((F0 Tryz.underlying9).w) (At (c := 1) rfl (by kernel_rfl) ((F0 Tryz.underlying9).w) (At (c := 2) rfl (by kernel_rfl) (Dd Tryz.underlying24 (by kernel_rfl) (At (c := 1) rfl (by kernel_rfl) ((B7 Tryz.underlying3).w) (At (c := 1) rfl (by kernel_rfl) ((B7 Tryz.underlying3).w) (EI _ _)))) (At (c := 1) rfl (by kernel_rfl) ((B7 Tryz.underlying3).w) (At (c := 2) rfl (by kernel_rfl) (Dd Tryz.underlying24 (by kernel_rfl) (At (c := 1) rfl (by kernel_rfl) ((B7 Tryz.underlying3).w) (At (c := 1) rfl (by kernel_rfl) ((B7 Tryz.underlying3).w) (EI _ _)))) (At (c := 1) rfl (by kernel_rfl) ((B7 Tryz.underlying3).w) (At (c := 1) rfl (by kernel_rfl) ((B7 Tryz.underlying3).w) (At (c := 1) rfl (by kernel_rfl) ((JU Tryz.underlying4).w) (At (c := 1) rfl (by kernel_rfl) ((B7 Tryz.underlying3).w) (At (c := 1) rfl (by kernel_rfl) (EP (b := 16) Tryz.underlying74 (by kernel_rfl) (by kernel_rfl) TK) (At (c := 2) rfl (by kernel_rfl) (Dd Tryz.underlying129 (by kernel_rfl) (At (c := 1) rfl (by kernel_rfl) ((B7 Tryz.underlying3).w) (At (c := 1) rfl (by kernel_rfl) ((B7 Tryz.underlying3).w) (EI _ _)))) (EI _ _)))))))))))))).map (fun z => (⟨z.1, z.2.1.data.toList, z.2.2.1.data.toList, z.2.2.2.1.1, z.2.2.2.1.2.1, z.2.2.2.2.1, z.2.2.2.2.2.1.1, z.2.2.2.2.2.1.2.1, z.2.2.2.2.2.2.1, z.2.2.2.2.2.2.2.1, z.2.2.2.2.2.2.2.2.1, z.2.2.2.2.2.2.2.2.2.1, z.2.2.2.2.2.2.2.2.2.2.1, z.2.2.2.2.2.2.2.2.2.2.2.1.1, z.2.2.2.2.2.2.2.2.2.2.2.1.2.1⟩ : GV))
  (fun z h=>⟨⟨h.2.1,h.2.2.1,h.2.2.2.2.2.2.2.2.2.2.1.1⟩,by have h1:=h.2.2.2.2.2.2.2.2.2.2.1.2.2;show z.2.2.2.2.2.2.2.2.2.2.1.length≤_;unfold reachBytes at h1;omega⟩) (fun _=>rfl)
theorem TN:Ep Tryz.prog 27 (fun x:DO=>x.fits∧x.small) BC:=
 (Dd Tryz.underlying27 (by kernel_rfl) (At (c:=2) rfl (by kernel_rfl) (Dd Tryz.underlying24 (by kernel_rfl) (At (c:=1) rfl (by kernel_rfl) ((B7 Tryz.underlying3).w) (At (c:=1) rfl (by kernel_rfl) ((B7 Tryz.underlying3).w) (EI _ _)))) (At (c:=1) rfl (by kernel_rfl) ((B7 Tryz.underlying3).w) (At (c:=1) rfl (by kernel_rfl) (EP (b:=152) Tryz.underlying25 (by kernel_rfl) (by kernel_rfl) TL) (EI _ _))))).map (fun z=>(⟨z.1.1,z.1.2.1,z.2.1,z.2.2.1⟩:DO)) (fun z h=>⟨fun c hc=>(h.2.2.1.1 c hc).1,⟨by have h1:=h.2.2.1.2.2;show z.2.2.1.length≤_;unfold reachBytes at h1;omega,fun c hc=>(h.2.2.1.1 c hc).2⟩⟩) (fun _=>rfl)
theorem TP:Ep Tryz.prog 32 (fun e:BJ=>(e.fits∧∀x∈e.ids,x.small)∧(e.AF.length≤17592186044416∧e.ids.length≤17592186044416)∧e.anchors.length≤17592186044416∧e.hashes.length≤17592186044416) Aj:=
 (Dd Tryz.underlying32 (by kernel_rfl) (At (c:=1) rfl (by kernel_rfl) ((F0 Tryz.underlying9).w) (At (c:=1) rfl (by kernel_rfl) ((B7 Tryz.underlying3).w) (At (c:=1) rfl (by kernel_rfl) ((B7 Tryz.underlying3).w) (At (c:=1) rfl (by kernel_rfl) (EP (b:=8) Tryz.underlying22 (by kernel_rfl) (by kernel_rfl) (B7 Tryz.underlying3).w) (At (c:=1) rfl (by kernel_rfl) ((JU Tryz.underlying4).w) (At (c:=1) rfl (by kernel_rfl) (EP (b:=48) Tryz.underlying30 (by kernel_rfl) (by kernel_rfl) TN) (At (c:=1) rfl (by kernel_rfl) (EP (b:=8) Tryz.underlying22 (by kernel_rfl) (by kernel_rfl) (B7 Tryz.underlying3).w) (At (c:=1) rfl (by kernel_rfl) (EP (b:=8) Tryz.underlying22 (by kernel_rfl) (by kernel_rfl) (B7 Tryz.underlying3).w) (At (c:=1) rfl (by kernel_rfl) ((JU Tryz.underlying4).w) (EI _ _))))))))))).map (fun z=>(⟨z.1.data.toList,z.2.1,z.2.2.1,z.2.2.2.1,z.2.2.2.2.1,z.2.2.2.2.2.1,z.2.2.2.2.2.2.1,z.2.2.2.2.2.2.2.1,z.2.2.2.2.2.2.2.2.1⟩:BJ)) (fun z h=>⟨⟨⟨h.1,fun x hx=>(h.2.2.2.2.2.1.1 x hx).1⟩,fun x hx=>(h.2.2.2.2.2.1.1 x hx).2⟩,⟨by have h1:=h.2.2.2.1.2.2;show z.2.2.2.1.length≤_;unfold reachBytes at h1;omega,by have h1:=h.2.2.2.2.2.1.2.2;show z.2.2.2.2.2.1.length≤_;unfold reachBytes at h1;omega⟩,by have h1:=h.2.2.2.2.2.2.1.2.2;show z.2.2.2.2.2.2.1.length≤_;unfold reachBytes at h1;omega,by have h1:=h.2.2.2.2.2.2.2.1.2.2;show z.2.2.2.2.2.2.2.1.length≤_;unfold reachBytes at h1;omega⟩) (fun _=>rfl)
end Go.Proofs.YtppeeogffbpcbaaGreat
namespace Go.Proofs.YtppeeogffbpcbaaGreat
open Go Go.RowKit Cp Go.ChangeShapes Go.WideShapes Go.ChangeAt Go.Proofs.Tryz
theorem Vd {e:BJ} (hh:e.hashes.length≤17592186044416) (hs:e.small) (hc:BK e=true):A4 Tryz.prog 50 [agg (Aj e)] (Eu [agg (EE ⟨e,[]⟩),int 0]):=by
 have h:=Ry (e:=e) hh (fun _=>hs)
 rw [if_pos hc,if_pos hc] at h;exact h
theorem YM {es:List BJ} {e:BJ} {n:Nat} (hz:e.sz n) (hn:n≤900000):A4 Tryz.prog 19 [agg (Aj e),Cp.ex fun c:B8=>fact (bC es c) (agg (B3 c))] (Eu [agg (gu (n+1)),Cp.ex fun k:Int=>int k]):=
 ⟨(Jo (e:=e) (c:=BM) hz hn ⟨Ck,BX⟩).1,fun M w vs hb hv=>by
  match vs,hv with
  |[u0,u1],hv=>
   obtain ⟨h0,⟨c,hc,h1⟩,_⟩:=hv
   exact ((Jo (e:=e) (c:=c) hz hn ⟨hc.fits,hc.small⟩).2 M w [u0,u1] hb ⟨h0,h1,trivial⟩).mono fun _ _ ⟨v,g1,g2,g3⟩=>⟨v,g1,A_ (ps:=[_,_]) (qs:=[_,_]) ⟨bW (R4 hz ⟨hc.fits,hc.small⟩),A5 _ (Pr.le_refl _),trivial⟩ _ _ _ g2,g3⟩⟩
theorem Ve {t:List Int} {fault:Int} {e:BJ} (YR:e.fits) (ni:∀x∈e.ids,x.small) (hel:(e.AF.length≤17592186044416∧e.ids.length≤17592186044416)∧e.anchors.length≤17592186044416∧e.hashes.length≤17592186044416):A4 prog 8 [ints t,int fault,agg (Aj e)] (bool true):=by
 refine A4.of func8 rfl rfl (by exact Nb rfl) fun M0 w0=> ?_
 refine Tr.seq (Tr.B_ (co rfl (Ba rfl (Va rfl)) (cm rfl (Ch.nil (Fin.go (Tr.seq (Tr.seq (Tr.B_ (cm rfl (co rfl (AX rfl (Zd) ⟨ke rfl,trivial⟩) (co rfl (HK rfl (vl rfl)) (cm rfl ?_))))))))))))
 refine Ch.cs 31 rfl ?_ ?_<;>intro h1 q1
 iterate 12 refine cnf h1 rfl ?_
 refine co rfl (Vf rfl rfl h1 rfl) (Ch.nil (Fin.go (Ez 0 1 5 44 rfl (Tr.cond rfl (fun _=> ?_) (fun h=>nomatch h)))))
 refine Tr.seq (Tr.B_ (co rfl (AX rfl (K8) trivial) (cm rfl (Ch.nil (Fin.go (Tr.ret (Fin.AJ (Fin.LX rfl (Ct.F5 _ _) rfl ?_))))))))
 · exact Lr
 refine cy h1 rfl (La rfl FQ rfl rfl) (cy h1 rfl (Fv rfl Qq rfl) (cy h1 rfl (Gi rfl underlying22 (vl rfl)) (cy h1 rfl (La rfl FR rfl rfl) (cy h1 rfl (Fv rfl bw rfl) (cy h1 rfl (Gi rfl underlying30 (vl rfl)) ?_)))))
 refine cy h1 rfl (Cu rfl (vl rfl) (vl rfl) ?hin) ?_;case hin=>unfold GP;omega
 refine cy h1 rfl (La rfl IM rfl rfl) (cy h1 rfl (Fv rfl Qq rfl) (cy h1 rfl (Gi rfl underlying22 (vl rfl)) ?_))
 refine cy h1 rfl (Cu rfl (vl rfl) (vl rfl) ?hin) ?_;case hin=>unfold GP;omega
 refine cy h1 rfl (ki rfl rfl rfl rfl) (co rfl (SJ rfl rfl h1 rfl) (Ch.nil (Fin.go (Ez 0 1 5 44 rfl ?_))))
 refine Tr.cn rfl ?_ ?_<;>intro h2 q2
 refine Tr.seq (Tr.B_ (co rfl (AX rfl (K8) trivial) (cm rfl (Ch.nil (Fin.go (Tr.ret (Fin.AJ (Fin.LX rfl (Ct.F5 _ _) rfl ?_))))))))
 · exact Lr
 have ht4:t.length≤400:=by simp_all
 have ht9:t.length≤1000000000:=by omega
 refine Tr.skip (Fin.go (Tr.seq (Tr.Ax (tm rfl (TO.pad ?_)))))
 refine TO.GR 0 rfl rfl (by decide) (Ej rfl rfl (by decide) rfl (e_ (l:=t) ht9) ⟨ke rfl,trivial⟩) (fun v1=> ?_)
 refine TO.iA 47 0 _ rfl rfl (fun _=>rfl) (fun b1=> ?_)
 refine tm rfl (TO.nil (Fin.go (Tr.seq (Tr.Ax (tm rfl (TO.FF 0 rfl rfl (by decide) (AV rfl rfl (by decide) rfl (az) ⟨ke rfl,trivial⟩) ?_))))))
 refine TO.ex 49 rfl (fun z1=>TO.fact 49 rfl fun JA=> ?_)
 obtain ⟨e0,bY⟩:=at_ (l:=z1) (k:=0) (by omega)
 obtain ⟨e1,nj⟩:=at_ (l:=z1) (k:=1) (by omega)
 have he:=(UF (JA.2 _ e0 bY)).le (m:=2000) (by omega)
 have he1:=(UF (JA.2 _ e1 nj)).le (m:=2000) (by omega)
 have hce:=Bv.2 (bB (JA.2 _ e0 bY))
 have B6:=he.small (by omega)
 refine Tl rfl rfl rfl rfl z41 eF (fun b2=> ?_)
 refine TO.AR 0 rfl rfl rfl (vl rfl) (Va rfl) rfl PG rfl rfl (TO.freeze 0 8 rfl rfl (TO.nil (Fin.Mk 0 rfl (fun s1=> ?_))))
 refine Fin.go (Tr.seq (Tr.Ax (tp rfl (La rfl IP rfl rfl) (tp rfl (Fv rfl OI rfl) (tp rfl (AB rfl underlying37 BI (vl rfl) (vl rfl) (by omega) (Du (f:=Aj) (i:=0) bY)) (tp rfl (AO rfl Bh BI (vl rfl) rfl rfl) (tp rfl (AX rfl (UL he.fits B6 hce) ⟨ke rfl,trivial⟩) (tm rfl (tp rfl (Aq rfl (vl rfl) rfl) (tp rfl (Aq rfl (vl rfl) rfl) ?_))))))))))
 refine Tl rfl rfl rfl rfl JH Eb (fun b3=> ?_)
 refine TO.AR 0 rfl rfl rfl (vl rfl) (Va rfl) rfl Br rfl rfl (TO.freeze 0 9 rfl rfl (tm rfl (TO.nil (Fin.go (GS 1 5 7 8 9 10 rfl (Tr.seq (Tr.Ax (tp rfl (La rfl IP rfl rfl) (tp rfl (Fv rfl OI rfl) (tp rfl (AB rfl underlying37 BI (vl rfl) (vl rfl) (by omega) (Du (f:=Aj) (i:=0) bY)) (tp rfl (AO rfl Bh BI (vl rfl) rfl rfl) ?_)))))))))))
 refine tp rfl (AX rfl (Vd (by have:=he.hashes;omega) B6 hce) ⟨ke rfl,trivial⟩) ?_
 refine tm rfl (tp rfl (Aq rfl (vl rfl) rfl) (tp rfl (Aq rfl (vl rfl) rfl) ?_))
 refine Tl rfl rfl rfl rfl JH Eb (fun b4=> ?_)
 refine TO.AR 0 rfl rfl rfl (vl rfl) (Va rfl) rfl Br rfl rfl (tm rfl (TO.nil (Fin.go (Tc 1 5 7 8 9 10 11 12 rfl (Tr.seq (Tr.seq (Tr.B_ (cm rfl (cm rfl (co rfl (ki rfl rfl rfl rfl) (cm rfl ?_)))))))))))
 refine Ch.cs 69 rfl ?_ ?_<;>intro h3 q3
 exfalso;simp at h3
 refine cy h3 rfl (AO rfl Bo Br (vl rfl) rfl rfl) (cy h3 rfl (Az 0 rfl (AQ rfl Bo Br (vl rfl) rfl rfl)) (cy h3 rfl (AX rfl (I_) ⟨ke rfl,ke rfl,trivial⟩) (cy h3 rfl (HK rfl (vl rfl)) (co rfl (SJ rfl rfl h3 rfl) (Ch.nil (Fin.go (GS 1 5 7 8 11 74 rfl ?_)))))))
 refine Tr.cn rfl ?_ ?_<;>intro h4 q4
 exfalso;simp at h4
 refine Tr.skip (Fin.go (Tr.seq (Tr.seq (Tr.Ax (tm rfl (TO.FF 1 rfl rfl (by decide) (AV rfl rfl (by decide) rfl (Bu (by omega) (by omega)) ⟨ke rfl,ke rfl,trivial⟩) (tm rfl (TO.nil (Fin.go (Tr.block ?_))))))))))
 refine Tr.Qo [(1,_),(5,_),(7,_),(8,_),(11,_)] ⟨ke rfl,ke rfl,ke rfl,ke rfl,ke rfl,trivial⟩ (fun (q:Int) (r:Nat) (y:Gr) (s3:DS)=>[(13,int q)]) (fun (q:Int) (r:Nat) (y:Gr) (s3:DS)=>Hp M0 w0 Jp ([AA true b4 82 (EE y),E_ b1 s3])) (fun (q:Int) (r:Nat) (y:Gr) (s3:DS)=>(-1≤q∧q+r≤6)∧TJ y (2000+r)) (fun (q:Int) (r:Nat) (y:Gr) (s3:DS)=>(q+1).toNat) (_) (0) (⟨e0,[]⟩) (_)  (⟨by have:=s1.Dk (n:=7) (by omega);omega,bV he⟩) ⟨ke rfl,trivial⟩ (fun _ _ h=>h) ?_
 rintro q r y s3  ⟨⟨hq1,R6⟩,LU⟩
 refine Tr.seq (Tr.seq (Tr.B_ (cm rfl (co rfl (ki rfl rfl rfl rfl) (Ch.nil (Fin.go ?_))))))
 refine Tr.cn rfl ?_ ?_<;>intro h5 q5
 have hq0:0≤q:=of_decide_eq_true h5
 refine Tr.skip (Fin.go (Tr.seq (Tr.block (Tr.seq (Tr.Ax ?_)))))
 refine Tl rfl rfl rfl rfl JH Eb (fun b5=> ?_)
 refine Tl rfl rfl rfl rfl JH Eb (fun b6=> ?_)
 refine TO.nil (Fin.go (Tr.seq (Tr.B_ (cm rfl (cm rfl (Ch.nil (Fin.go (IJ 1 5 7 8 11 13 14 15 16 17 rfl (Tr.ZS [(1,_),(5,_),(7,_),(8,_),(11,_),(13,_),(14,_),(15,_)] ⟨ke rfl,ke rfl,ke rfl,ke rfl,ke rfl,ke rfl,ke rfl,ke rfl,trivial⟩ (fun (a:Gr) (p:Bool) (f:Int) (s4:DS)=>[(10,int f),(12,int f),(16,bool p),(17,bool p)]) (fun (a:Gr) (p:Bool) (f:Int) (s4:DS)=>Hp M0 w0 Jp ([AA true b6 82 (EE a),AA true b5 82 (EE a),AA true b4 82 (EE y),E_ b1 s4])) (fun (a:Gr) (p:Bool) (f:Int) (s4:DS)=>TJ a (2001+r)) ?_ ?_)))))))))
 refine Tr.seq (Tr.Ax (tm rfl (TO.FF 3 rfl rfl (by decide) (AV rfl rfl (by decide) rfl (Bu (by omega) (by omega)) ⟨ke rfl,ke rfl,trivial⟩) (TO.nil (Fin.go (Tr.block (Tr.seq (Tr.B_ (co rfl (ki rfl rfl rfl rfl) (cm rfl (Ch.nil (Fin.go (US 1 5 7 8 11 13 14 15 16 17 82 117 rfl ?_)))))))))))))
 refine Tr.cn rfl ?_ ?_<;>intro h6 q6
 refine Tr.seq (Tr.Ax (TO.rd 2 rfl rfl rfl (by decide) (AQ rfl Bo Br (vl rfl) rfl rfl) (tp rfl (AX rfl (UK (LU.small (by omega))) ⟨ke rfl,trivial⟩) (tm rfl (tp rfl (Aq rfl (vl rfl) rfl) (tp rfl (Aq rfl (vl rfl) rfl) (TO.AR 1 rfl rfl rfl (vl rfl) (Va rfl) rfl Br rfl rfl (tm rfl (TO.nil (Fin.go (SK 1 5 7 8 10 11 13 14 15 16 17 rfl (Tr.Ax (TO.rd 2 rfl rfl rfl (by decide) (AQ rfl Bo Br (vl rfl) rfl rfl) ?_)))))))))))))
 refine tp rfl (AX rfl (VZ (LU.small (by omega))) ⟨ke rfl,trivial⟩) (tm rfl (tp rfl (Aq rfl (vl rfl) rfl) (tp rfl (Aq rfl (vl rfl) rfl) (TO.AR 0 rfl rfl rfl (vl rfl) (Va rfl) rfl Br rfl rfl (tm rfl (TO.nil (Fin.block (Fin.E9 ((HF y).1) (_) (_) (_)  ((YK LU).le (by omega)) ⟨ke rfl,ke rfl,ke rfl,ke rfl,ke rfl,ke rfl,ke rfl,ke rfl,ke rfl,ke rfl,ke rfl,ke rfl,trivial⟩ (fun _ _ h=>h)))))))))
 refine Tr.seq (Tr.B_ (co rfl (ki rfl rfl rfl rfl) (cm rfl (Ch.nil (Fin.go (US 1 5 7 8 11 13 14 15 16 17 82 129 rfl ?_))))))
 refine Tr.cn rfl ?_ ?_<;>intro h7 q7
 refine Tr.seq (Tr.Ax (tm rfl (tp rfl (AO rfl OJ PG (vl rfl) rfl rfl) ?_)))
 refine TO.FF 3 rfl rfl (by decide) (AV rfl rfl (by decide) rfl (dJ (es:=z1) JA.2 ⟨by omega,by omega⟩) ⟨ke rfl,ke rfl,trivial⟩) ?_
 refine TO.ex 133 rfl (fun z2=>TO.fact 133 rfl fun Vp=> ?_)
 have hci:z2.Cl.fits∧z2.Cl.small:=⟨Vp.fits,Vp.small⟩
 refine Tl rfl rfl rfl rfl z29 JV (fun b7=> ?_)
 refine TO.AR 0 rfl rfl rfl (vl rfl) (Va rfl) rfl CK rfl rfl (TO.freeze 0 18 rfl rfl (TO.nil (Fin.Mk 3 rfl (fun s2=> ?_))))
 refine Fin.go (SK 1 5 7 8 11 13 14 15 16 17 18 rfl (Tr.seq (Tr.Ax (TO.rd 2 rfl rfl rfl (by decide) (AQ rfl Bo Br (vl rfl) rfl rfl) (tp rfl (AO rfl CC CK (vl rfl) rfl rfl) (tp rfl (AX rfl (YF (LU.small (by omega)) LU.ep.fits hci) ⟨ke rfl,ke rfl,trivial⟩) (tm rfl (tp rfl (Aq rfl (vl rfl) rfl) (tp rfl (Aq rfl (vl rfl) rfl) (TO.AR 1 rfl rfl rfl (vl rfl) (Va rfl) rfl Br rfl rfl (tm rfl (TO.nil (Fin.go ?_)))))))))))))
 refine US 1 5 7 8 10 11 13 14 15 16 17 18 rfl (Tr.Ax (TO.rd 2 rfl rfl rfl (by decide) (AQ rfl Bo Br (vl rfl) rfl rfl) (tp rfl (AO rfl CC CK (vl rfl) rfl rfl) (tp rfl (AX rfl (TE (LU.small (by omega)) LU.ep (by omega) hci) ⟨ke rfl,ke rfl,trivial⟩) (tm rfl (tp rfl (Aq rfl (vl rfl) rfl) (tp rfl (Aq rfl (vl rfl) rfl) (TO.AR 0 rfl rfl rfl (vl rfl) (Va rfl) rfl Br rfl rfl (tm rfl (TO.nil (Fin.block (Fin.E9 ((GO y z2).1) (_) (_) (_)  ((Vc LU hci).le (by omega)) ⟨ke rfl,ke rfl,ke rfl,ke rfl,ke rfl,ke rfl,ke rfl,ke rfl,ke rfl,ke rfl,ke rfl,ke rfl,trivial⟩ (fun _ _ h=>h)))))))))))))
 refine Tr.seq (Tr.B_ (co rfl (ki rfl rfl rfl rfl) (cm rfl (Ch.nil (Fin.go (dZ 1 5 7 8 11 13 14 15 146 rfl ?_))))))
 refine Tr.cn rfl ?_ ?_<;>intro h8 q8
 refine Tr.seq (Tr.Ax (TO.rd 2 rfl rfl rfl (by decide) (AQ rfl Bo Br (vl rfl) rfl rfl) (tp rfl (AO rfl Bh BI (vl rfl) rfl rfl) (tm rfl ?_))))
 refine tp rfl (AX rfl (QT (LU.small (by omega)) (by have:=LU.len;omega) YR (fun h=>(Is h YR ni).small (by omega))) ⟨ke rfl,ke rfl,ke rfl,trivial⟩) ?_
 refine tm rfl (tp rfl (Aq rfl (vl rfl) rfl) (tp rfl (Aq rfl (vl rfl) rfl) (tp rfl (Aq rfl (vl rfl) rfl) (TO.AR 1 rfl rfl rfl (vl rfl) (Va rfl) rfl Br rfl rfl (tm rfl (tm rfl (TO.nil (Fin.go (IJ 1 5 7 8 10 11 13 14 15 16 rfl (Tr.Ax (TO.rd 2 rfl rfl rfl (by decide) (AQ rfl Bo Br (vl rfl) rfl rfl) (tp rfl (AO rfl Bh BI (vl rfl) rfl rfl) (tm rfl ?_)))))))))))))
 refine tp rfl (AX rfl (Nh (LU.small (by omega)) (by have:=LU.len;omega) hel.2.2 (fun h=>(Is h YR ni).small (by omega))) ⟨ke rfl,ke rfl,ke rfl,trivial⟩) ?_
 refine tm rfl (tp rfl (Aq rfl (vl rfl) rfl) (tp rfl (Aq rfl (vl rfl) rfl) (tp rfl (Aq rfl (vl rfl) rfl) (TO.AR 0 rfl rfl rfl (vl rfl) (Va rfl) rfl Br rfl rfl (tm rfl (tm rfl (TO.nil (Fin.block (Fin.E9 ((FC y e fault).1) (_) (_) (_)  (QS (LU.le (by omega)) fun h=>(Is h YR ni).le (by omega)) ⟨ke rfl,ke rfl,ke rfl,ke rfl,ke rfl,ke rfl,ke rfl,ke rfl,ke rfl,ke rfl,ke rfl,ke rfl,trivial⟩ (fun _ _ h=>h))))))))))
 refine Tr.seq (Tr.pad (Tr.Jv mixed [none,some (0,3,false,0),none,none,some (0,4,true,0),none,none,none,none,some (0,0,true,19),some (19,0,true,19),none] (by kernel_rfl) (xo rfl (fun _=>AE rfl V5 (vl rfl)) (Ev 3 rfl rfl (AQ rfl Bh BI (vl rfl) rfl rfl) (xm rfl (xo rfl (fun _=>AO rfl OJ PG (vl rfl) rfl rfl) ?_))))))
 refine Cx.ef 4 rfl rfl (by decide) (AV rfl rfl (by decide) rfl (dJ (es:=z1) JA.2 ⟨by omega,by omega⟩) ⟨ke rfl,ke rfl,trivial⟩) ?_
 refine xo rfl (fun _=>AX rfl (YM (es:=z1) LU.ep (by omega)) ⟨ke rfl,ke rfl,trivial⟩) ?_
 refine xm rfl (xo rfl (fun _=>Aq rfl (vl rfl) rfl) (xo rfl (fun _=>Aq rfl (vl rfl) rfl) (Cx.ef 0 rfl rfl (by decide) (OM rfl rfl (by decide) rfl z32 Dl) (Cx.CT 0 rfl rfl (ON rfl rfl rfl rfl (Va rfl) BI rfl rfl) (xm rfl ?_)))))
 refine Cx.nil ⟨rfl,?_⟩
 refine A9.open_ 0 19 rfl rfl (fun v2=> ?_)
 refine A9.done (CB.cons (CB.cons (CB.cons (CB.cons (CB.cons (CB.map _)))))) (Fin.iA 19 0 _ rfl rfl (fun _=>rfl) (fun b8=> ?_))
 refine Fin.Mk 4 rfl (fun s3=> ?_)
 refine Fin.go (dZ 1 5 7 8 11 13 14 15 19 rfl (Tr.seq (Tr.seq (Tr.Ax (tm rfl (TO.FF 4 rfl rfl (by decide) (AV rfl rfl (by decide) rfl (NJ (by omega) (by omega)) ⟨ke rfl,ke rfl,trivial⟩) (TO.nil (Fin.go ?_))))))))
 refine Tr.cn rfl ?_ ?_<;>intro h9 q9
 refine Tr.Ax (tp rfl (La rfl IP rfl rfl) (tp rfl (Fv rfl OI rfl) (tp rfl (AB rfl underlying37 BI (vl rfl) (vl rfl) (by omega) (Du (f:=Aj) (i:=1) nj)) (tp rfl (AO rfl Bh BI (vl rfl) rfl rfl) (TO.AR 0 rfl rfl rfl (vl rfl) (Va rfl) rfl BI rfl rfl (TO.nil (Fin.go (dZ 1 5 7 8 11 13 14 15 19 rfl (Tr.seq (Tr.freeze 0 19 rfl rfl ?_))))))))))
 obtain ⟨E2,nk⟩:∃t:BJ,t=e1:=⟨_,rfl⟩
 have hto:E2.sz (2001+r):=by rw [nk];exact he1.le (by omega)
 refine Tr.re 19 rfl (Pr.le_of_eq (show ref (Aj e1)=ref (Aj E2) by rw [nk])) (Tr.Ax (tm rfl (tp rfl (AM (xs:=[.const (.int .i64 (0)),.const (.int .i64 (1)),.const (.int .i64 (2)),.const (.int .i64 (3)),.const (.int .i64 (-1)),.const (.int .i64 (4))]) (rows:=[[_],[_],[_],[_],[_],[_]]) rfl rfl underlying22 Cg z3 rfl (by decide) ⟨⟨(by exact rfl),(Vo rfl)⟩,⟨⟨(by exact rfl),(Vo rfl)⟩,⟨⟨(by exact rfl),(Vo rfl)⟩,⟨⟨(by exact rfl),(Vo rfl)⟩,⟨⟨(by exact rfl),(Vo rfl)⟩,⟨⟨(by exact rfl),(Vo rfl)⟩,trivial⟩⟩⟩⟩⟩⟩ (by decide)) ?_)))
 refine TO.FF 3 rfl rfl (by decide) (AV rfl rfl (by decide) rfl (Q6 (l:=[0,1,2,3,-1,4]) (by simp) (by simp)) ⟨ke rfl,(Kf rfl),trivial⟩) ?_
 refine tm rfl (TO.nil (Fin.go (IJ 1 5 7 8 11 13 14 15 19 21 rfl (Tr.seq (Tr.Ax (TO.rd 2 rfl rfl rfl (by decide) (AQ rfl Bo Br (vl rfl) rfl rfl) (tp rfl (AO rfl Bh BI (vl rfl) rfl rfl) (tm rfl ?_))))))))
 refine tp rfl (AX rfl (QT (LU.small (by omega)) (by have:=LU.len;omega) hto.fits (fun _=>hto.small (by omega))) ⟨ke rfl,ke rfl,ke rfl,trivial⟩) ?_
 refine tm rfl (tp rfl (Aq rfl (vl rfl) rfl) (tp rfl (Aq rfl (vl rfl) rfl) (tp rfl (Aq rfl (vl rfl) rfl) (TO.AR 1 rfl rfl rfl (vl rfl) (Va rfl) rfl Br rfl rfl (tm rfl (tm rfl (TO.nil (Fin.go (US 1 5 7 8 10 11 13 14 15 16 19 21 rfl (Tr.Ax (TO.rd 2 rfl rfl rfl (by decide) (AQ rfl Bo Br (vl rfl) rfl rfl) (tp rfl (AO rfl Bh BI (vl rfl) rfl rfl) (tm rfl ?_)))))))))))))
 refine tp rfl (AX rfl (Nh (LU.small (by omega)) (by have:=LU.len;omega) (by have:=hto.hashes;omega) (fun _=>hto.small (by omega))) ⟨ke rfl,ke rfl,ke rfl,trivial⟩) ?_
 refine tm rfl (tp rfl (Aq rfl (vl rfl) rfl) (tp rfl (Aq rfl (vl rfl) rfl) (tp rfl (Aq rfl (vl rfl) rfl) (TO.AR 0 rfl rfl rfl (vl rfl) (Va rfl) rfl Br rfl rfl (tm rfl (tm rfl (TO.nil (Fin.block (Fin.E9 ((FC y E2 (s3.CW.of [0,1,2,3,-1,4])).1) (_) (_) (_)  (QS (LU.le (by omega)) fun _=>hto.le (by omega)) ⟨ke rfl,ke rfl,ke rfl,ke rfl,ke rfl,ke rfl,ke rfl,ke rfl,ke rfl,ke rfl,ke rfl,ke rfl,trivial⟩ (fun _ _ h=>h))))))))))
 refine Tr.skip (Fin.go (Tr.seq (Tr.freeze 0 19 rfl rfl (Tr.re 19 rfl YL (Tr.ex 19 rfl fun E2=>(Tr.fact 19 rfl fun hto=>(Tr.Ax (tm rfl (tp rfl (AM (xs:=[.const (.int .i64 (0)),.const (.int .i64 (1)),.const (.int .i64 (2)),.const (.int .i64 (3)),.const (.int .i64 (-1)),.const (.int .i64 (4))]) (rows:=[[_],[_],[_],[_],[_],[_]]) rfl rfl underlying22 Cg z3 rfl (by decide) ⟨⟨(by exact rfl),(Vo rfl)⟩,⟨⟨(by exact rfl),(Vo rfl)⟩,⟨⟨(by exact rfl),(Vo rfl)⟩,⟨⟨(by exact rfl),(Vo rfl)⟩,⟨⟨(by exact rfl),(Vo rfl)⟩,⟨⟨(by exact rfl),(Vo rfl)⟩,trivial⟩⟩⟩⟩⟩⟩ (by decide)) ?_)))))))))
 refine TO.FF 3 rfl rfl (by decide) (AV rfl rfl (by decide) rfl (Q6 (l:=[0,1,2,3,-1,4]) (by simp) (by simp)) ⟨ke rfl,(Kf rfl),trivial⟩) ?_
 refine tm rfl (TO.nil (Fin.go (IJ 1 5 7 8 11 13 14 15 19 21 rfl (Tr.seq (Tr.Ax (TO.rd 2 rfl rfl rfl (by decide) (AQ rfl Bo Br (vl rfl) rfl rfl) (tp rfl (AO rfl Bh BI (vl rfl) rfl rfl) (tm rfl ?_))))))))
 refine tp rfl (AX rfl (QT (LU.small (by omega)) (by have:=LU.len;omega) hto.fits (fun _=>hto.small (by omega))) ⟨ke rfl,ke rfl,ke rfl,trivial⟩) ?_
 refine tm rfl (tp rfl (Aq rfl (vl rfl) rfl) (tp rfl (Aq rfl (vl rfl) rfl) (tp rfl (Aq rfl (vl rfl) rfl) (TO.AR 1 rfl rfl rfl (vl rfl) (Va rfl) rfl Br rfl rfl (tm rfl (tm rfl (TO.nil (Fin.go (US 1 5 7 8 10 11 13 14 15 16 19 21 rfl (Tr.Ax (TO.rd 2 rfl rfl rfl (by decide) (AQ rfl Bo Br (vl rfl) rfl rfl) (tp rfl (AO rfl Bh BI (vl rfl) rfl rfl) (tm rfl ?_)))))))))))))
 refine tp rfl (AX rfl (Nh (LU.small (by omega)) (by have:=LU.len;omega) (by have:=hto.hashes;omega) (fun _=>hto.small (by omega))) ⟨ke rfl,ke rfl,ke rfl,trivial⟩) ?_
 refine tm rfl (tp rfl (Aq rfl (vl rfl) rfl) (tp rfl (Aq rfl (vl rfl) rfl) (tp rfl (Aq rfl (vl rfl) rfl) (TO.AR 0 rfl rfl rfl (vl rfl) (Va rfl) rfl Br rfl rfl (tm rfl (tm rfl (TO.nil (Fin.block (Fin.E9 ((FC y E2 (s3.CW.of [0,1,2,3,-1,4])).1) (_) (_) (_)  (QS (LU.le (by omega)) fun _=>hto.le (by omega)) ⟨ke rfl,ke rfl,ke rfl,ke rfl,ke rfl,ke rfl,ke rfl,ke rfl,ke rfl,ke rfl,ke rfl,ke rfl,trivial⟩ (fun _ _ h=>h))))))))))
 rintro a p f s4  hka
 refine Tr.seq (Tr.seq (Tr.MT mixed (by kernel_rfl) (cm rfl (cm rfl (co rfl (ki rfl rfl rfl rfl) (cm rfl ?_))))))
 refine Ch.cs 167 rfl ?_ ?_<;>intro h10 OZ
 exfalso;simp at h10
 refine II h10 rfl (II h10 rfl (cy h10 rfl (O6 rfl underlying4 (vl rfl) (vl rfl)) (co rfl (SJ rfl rfl h10 rfl) (cm rfl ?_))))
 refine Ch.cs 172 rfl ?_ ?_<;>intro h11 QX
 exfalso;simp at h11
 refine cy h11 rfl (Az 1 rfl (AQ rfl Bo Br (vl rfl) rfl rfl)) (cy h11 rfl (Az 0 rfl (AQ rfl Bo Br (vl rfl) rfl rfl)) (cy h11 rfl (AX rfl (I_) ⟨ke rfl,ke rfl,trivial⟩) (cy h11 rfl (HK rfl (vl rfl)) (co rfl (SJ rfl rfl h11 rfl) (cm rfl ?_)))))
 refine Ch.cs 178 rfl ?_ ?_<;>intro h12 QY
 exfalso;simp at h12
 refine cy h12 rfl (Az 1 rfl (AQ rfl Bo Br (vl rfl) rfl rfl)) (cy h12 rfl (Az 2 rfl (AQ rfl Bo Br (vl rfl) rfl rfl)) (cy h12 rfl (AX rfl (bP) ⟨ke rfl,ke rfl,trivial⟩) (cy h12 rfl (Az 0 rfl (AQ rfl Bo Br (vl rfl) rfl rfl)) (cy h12 rfl (Az 2 rfl (AQ rfl Bo Br (vl rfl) rfl rfl)) (cy h12 rfl (AX rfl (I_) ⟨ke rfl,ke rfl,trivial⟩) (cy h12 rfl (O6 rfl underlying4 (vl rfl) (vl rfl)) (co rfl (SJ rfl rfl h12 rfl) (Ch.nil (Fin.go (Tr.drop 1 (Tc 1 5 7 8 11 13 15 186 rfl ?_)))))))))))
 refine Tr.cn rfl ?_ ?_<;>intro HW Q_
 exfalso;simp at HW
 refine Tr.skip (Fin.go (Tr.Ax (TO.rd 0 rfl rfl rfl (by decide) (AQ rfl Bo Br (vl rfl) rfl rfl) (TO.AR 1 rfl rfl rfl (vl rfl) (Va rfl) rfl Br rfl rfl (TO.nil (Fin.block (Fin.go (Tr.drop 0 (Tr.B_ (cm rfl (je rfl rfl rfl rfl (by omega) (cm rfl (Ch.nil (Fin.E9 (q-1) (r+1) (a) (s4)  (⟨⟨⟨by omega,by omega⟩,hka.le (by omega)⟩,by omega⟩) ⟨ke rfl,ke rfl,ke rfl,ke rfl,ke rfl,ke rfl,trivial⟩ (fun _ _ h=>h)))))))))))))))
 have:=h5
 refine Tr.exit (Fin.Ai (Fin.Ai (Fin.BA (Fin.go (Tr.seq (Tr.MT mixed (by kernel_rfl) (co rfl (Az 0 rfl (AQ rfl Bo Br (vl rfl) rfl rfl)) (co rfl (AX rfl (YH) ⟨ke rfl,ke rfl,trivial⟩) ?_))))))))
 refine co rfl (AX rfl (YG (h:=y) (a:=nh [97,112,112] 3) (Rx (by decide)) LU.ep.fits) ⟨ke rfl,ke rfl,trivial⟩) ?_
 refine cm rfl (co rfl (Aq rfl (vl rfl) rfl) (co rfl (Aq rfl (vl rfl) rfl) (cm rfl (cm rfl (Ch.nil (Fin.go (Ez 5 10 11 22 rfl (Tr.seq (Tr.MT mixed (by kernel_rfl) (co rfl (Az 0 rfl (AQ rfl Bo Br (vl rfl) rfl rfl)) (co rfl (AX rfl (YH) ⟨ke rfl,ke rfl,trivial⟩) ?_)))))))))))
 refine co rfl (AX rfl (TI (h:=y) (a:=nh [97,112,112] 3) (Rx (by decide)) (LU.ep.small (by omega))) ⟨ke rfl,ke rfl,trivial⟩) ?_
 refine cm rfl (co rfl (Aq rfl (vl rfl) rfl) (co rfl (Aq rfl (vl rfl) rfl) (cm rfl (cm rfl (Ch.nil (Fin.go (Tr.seq (Tr.Ax (tp rfl (AO rfl Bh BI (vl rfl) rfl rfl) (tp rfl (AX rfl (bX YR (fun h=>(Is h YR ni).small (by omega))) ⟨ke rfl,trivial⟩) (tm rfl (tp rfl (Aq rfl (vl rfl) rfl) (tp rfl (Aq rfl (vl rfl) rfl) ?_)))))))))))))
 refine Tl rfl rfl rfl rfl JH Eb (fun b9=> ?_)
 refine TO.AR 0 rfl rfl rfl (vl rfl) (Va rfl) rfl Br rfl rfl (TO.freeze 0 24 rfl rfl (tm rfl (TO.nil (Fin.go (Mi 5 10 12 22 23 24 25 rfl (Tr.seq (Tr.Ax (tp rfl (AO rfl Bh BI (vl rfl) rfl rfl) (tp rfl (AX rfl (Ry hel.2.2 (fun h=>(Is h YR ni).small (by omega))) ⟨ke rfl,trivial⟩) (tm rfl (tp rfl (Aq rfl (vl rfl) rfl) (tp rfl (Aq rfl (vl rfl) rfl) ?_))))))))))))
 refine Tl rfl rfl rfl rfl JH Eb (fun b10=> ?_)
 refine TO.AR 0 rfl rfl rfl (vl rfl) (Va rfl) rfl Br rfl rfl (TO.freeze 0 26 rfl rfl (tm rfl (TO.nil (Fin.go (Tc 10 12 22 23 24 25 26 27 rfl (Tr.seq (Tr.B_ (cm rfl (cm rfl (co rfl (ki rfl rfl rfl rfl) (cm rfl ?_)))))))))))
 refine Ch.cs 213 rfl ?_ ?_<;>intro Pf YV
 refine II Pf rfl (II Pf rfl (cy Pf rfl (ki rfl rfl rfl rfl) (co rfl (Vf rfl rfl Pf rfl) (cm rfl ?_))))
 refine Ch.cs 218 rfl ?_ ?_<;>intro QZ cr
 refine II QZ rfl (II QZ rfl (cy QZ rfl (AX rfl (VY) ⟨ke rfl,ke rfl,trivial⟩) (co rfl (Vf rfl rfl QZ rfl) (cm rfl ?_))))
 refine Ch.cs 223 rfl ?_ ?_<;>intro h16 fI
 refine cy h16 rfl (AO rfl Bo Br (vl rfl) rfl rfl) (cy h16 rfl (AO rfl Bo Br (vl rfl) rfl rfl) (cy h16 rfl (AX rfl (I_) ⟨ke rfl,ke rfl,trivial⟩) (co rfl (Vf rfl rfl h16 rfl) (cm rfl ?_))))
 refine Ch.cs 228 rfl ?_ ?_<;>intro Tu ck
 refine cy Tu rfl (AX rfl (K8) trivial) (co rfl (Vf rfl rfl Tu rfl) (cm rfl (Ch.nil (Fin.go (DD 6 rfl (Tr.ret (Fin.LX rfl (Ct.F5 _ _) rfl ?_)))))))
 · exact Lr
 exfalso;simp at Tu
 exfalso;simp at h16
 exfalso;simp at QZ
 exfalso;simp at Pf
theorem Ni (os:Os) (started:os.Started) (H:Type) (enc:TypeId×Value→H):
  ReturnsInHanded {} Tryz.checked os 8 .any (Rows.hostAllSpec.pre6 enc Tryz.prog Tryz.f8 Rows.hostAllRow.domain false) (Rows.hostAllSpec.post enc Tryz.prog Tryz.f8 false true false false):=by
 refine returnsInHanded_of_change_shaped (C := Tryz.checked) rU started (by kernel_rfl) Tryz.func8
  (ChangeSpec.witness6 (enc:=enc) (C:=Tryz.checked) false ⟨#[],#[.slice none 0 0,.int .i64 0,.agg #[.string (ByteArray.mk #[]),.int .i64 0,.int .i64 0,.slice none 0 0,.bool false,.slice none 0 0,.slice none 0 0,.slice none 0 0,.bool false]],[]⟩ 8 (by kernel_rfl) (by kernel_rfl) (by kernel_rfl) (by kernel_rfl)) ?_
 intro W base args ds gs before nq hW uJ hwt _ _
 have hval:∀(j:Nat) t v,Tryz.f8.params[j]? =some t→args[j]? =some v→Value.okWide Tryz.prog W .any base t v:=nq
 have hW':=hW
 obtain ⟨p,q,hA0,hV,hpq,hfz,hnd⟩:=hW
 have hA:DataW.TrodAll enc Tryz.prog W 0 (fun _=>true) true Tryz.f8.params.toList args.toList ds p:=hA0
 have Vu:=hA
 rw [Tryz.params8] at hA hval
 obtain ⟨v0,v1,v2,d0,d1,d2,p0,p1,p2,rfl,rfl,hp,h0,h1,h2⟩:=trodAll_three hA
 obtain ⟨rfl,rfl⟩:=trodVars_none hV
 obtain ⟨a0,jX,e0⟩:=Q9 ((Se Tryz.underlying22 Tryz.underlying3 (by kernel_rfl)).w) h0 (NL hwt (i:=0) (by kernel_rfl) rfl) (by obtain ⟨_,_,_,rfl⟩:=okWide_slice Tryz.underlying22 (hval 0 22 v0 rfl rfl);rfl)
 obtain ⟨a1,hr1,e1⟩:=Q9 ((B7 Tryz.underlying3).w) h1 (NL hwt (i:=1) (by kernel_rfl) rfl) (by obtain ⟨_,rfl⟩:=okWide_int Tryz.underlying3 (hval 1 3 v1 rfl rfl);rfl)
 obtain ⟨a2,hO,e2⟩:=Wt (TP) h2 (NL hwt (i:=2) (by kernel_rfl) rfl) (by obtain ⟨cs,rfl,_⟩:=okWide_struct Tryz.underlying32 (hval 2 32 v2 rfl rfl);exact ⟨_,rfl⟩)
 refine ((Ve hO.1.1 hO.1.2 hO.2).2 Yl W [v0,v1,v2] (dc W) ⟨e0,e1,e2,trivial⟩).mono fun e W' ⟨v,he,hv,hb⟩=> ?_
 subst he
 obtain rfl:v= .bool true:=hv
 exact ⟨_,rfl,Vz Wk (by kernel_rfl) rfl Tryz.underlying4 rfl Vu (by rw [hpq];simp) hW' rfl hb⟩
theorem Nj:(Rows.hostAllRow.inPlace==Tryz.pinned.checked.prog.inPlace 8)=true:=by kernel_rfl
theorem Nk:(Rows.hostAllRow.unfollowed==Tryz.pinned.checked.prog.unfollowed 8)=true:=by kernel_rfl
theorem Nl:(Rows.hostAllRow.recurses==Tryz.pinned.checked.prog.recurses 8)=true:=by kernel_rfl
theorem Nn:(Rows.hostAllRow.named==Tryz.pinned.checked.prog.varsNamed 8)=true:=by kernel_rfl
theorem N_:joinedFacts Tryz.pinned.checked.prog 8 Tryz.f8 Rows.hostAllSpec Rows.hostAllRow=true:=by
 unfold joinedFacts
 rw [Nj,Nk,Nl,Nn]
 kernel_rfl
theorem hostAll_holds:Rows.HostAllSaid:=
 OpenClaim.holds_of_wide 8 Tryz.f8 rfl rfl rfl rfl rfl rfl rfl ⟨rfl, rfl, rfl, rfl, rfl⟩ rfl rfl rfl rfl rfl (by kernel_rfl) Tryz.func8 N_
  (of_decide_eq_true (by kernel_rfl)) (by unfold Func.isWrapper;first|(rw [if_pos (by decide+kernel)];kernel_rfl)|(rw [if_neg (by decide+kernel)];exact ⟨rfl,rfl⟩))
  (fun os started H enc _=>Ni os started H enc)
end Go.Proofs.YtppeeogffbpcbaaGreat
