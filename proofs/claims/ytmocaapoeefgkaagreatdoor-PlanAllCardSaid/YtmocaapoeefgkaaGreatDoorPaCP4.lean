/-
  Part 4 of the texts that prove this claim, merged.
-/
import Derived.Test.YtmocaapoeefgkaaGreatDoorPaCP3
set_option linter.all false
set_option maxRecDepth 40000
set_option maxHeartbeats 16000000
namespace Go.Proofs.YtmocaapoeefgkaaGreatDoor
open Go Go.RowKit Cp Go.Proofs.Tryz
abbrev Rp:List Pr:=[K9 .u8]
abbrev Zf (m:Nat):Pr:=slice 1 (List.replicate m Rp)
abbrev E5 (B:Nat):Pr:=Cp.ex fun m:Nat=>fact (m≤B) (Zf m)
abbrev Tm:Pr:=Cp.ex fun b:Bool=>bool b
abbrev BZ (q:Pr):List Pr:=[K9 .i64,E5 1000,Tm,q]
abbrev Jf (row:List Pr):Pr:=Cp.ex fun m:Nat=>fact (m≤20) (slice 4 (List.replicate m row))
abbrev LG (D:Nat):Pr:=Cp.ex fun d:Int=>fact (0≤d∧d≤(D:Nat)) (int d)
theorem Jg {r:List Pr} {m k:Nat} (h:k<m):(List.replicate m r)[((k:Nat):Int).toNat]? =some r:=by rw [Int.toNat_natCast,List.getElem?_replicate,if_pos h]
theorem Zg {r:List Pr} {m:Nat}:List.replicate m r++[r]=List.replicate (m+1) r:=by rw [List.replicate_succ']
theorem ME {r:List Pr} {m k:Nat}:List.replicate m r++List.replicate k r=List.replicate (m+k) r:=by rw [List.replicate_append_replicate]
theorem PW.refl:∀l:List Pr,PW l l
 |[]=>trivial
 |_::l=>⟨Pr.le_refl _,PW.refl l⟩
theorem Uh {sz:Nat} {rows rows':List (List Pr)} (hl:rows.length=rows'.length) (h:∀(i:Nat) r r',rows[i]? =some r→rows'[i]? =some r'→r.length=r'.length∧∀(j:Nat) p p',r[j]? =some p→r'[j]? =some p'→Pr.le p p'):Pr.le (slice sz rows) (slice sz rows'):=by
 rintro M w v ⟨a,cap,h1,h2,h3,h4,h5⟩
 refine ⟨a,cap,by rw [←hl];exact h1,by rw [←hl];exact h2,h3,h4,fun i row hr=> ?_⟩
 have hi:i<rows.length:=by rw [hl];exact BP hr
 have hr0:=List.getElem?_eq_getElem hi
 obtain ⟨g1,g2⟩:=h i _ _ hr0 hr
 obtain ⟨k1,ad,k2,k3⟩:=h5 i _ hr0
 refine ⟨by rw [←g1];exact k1,ad,k2,fun j p' hp'=> ?_⟩
 have hj:j<rows[i].length:=by rw [g1];exact BP hp'
 have hp:=List.getElem?_eq_getElem hj
 obtain ⟨u,c1,c2,c3,c4⟩:=k3 j _ hp
 exact ⟨u,c1,c2,c3,g2 j _ _ hp hp' _ _ _ c4⟩
theorem cB {sz:Nat} {rows:List (List Pr)} {r:List Pr} (h:∀q∈rows,q.length=r.length∧∀(j:Nat) p p',q[j]? =some p→r[j]? =some p'→Pr.le p p'):Pr.le (slice sz rows) (slice sz (List.replicate rows.length r)):=
 Uh AO fun i q q' hq hq'=>by
  rw [List.getElem?_replicate,if_pos (BP hq)] at hq'
  cases hq'
  exact h q (List.mem_of_getElem? hq)
theorem WS {β:Type} {l:List β} {f:β→Int}:Pr.le (slice 1 (l.map fun x=>[is (.int .u8 (f x))])) (Zf l.length):=by
 have:=cB (sz:=1) (rows:=l.map fun x=>[is (.int .u8 (f x))]) (r:=Rp) (by
  intro q hq
  obtain ⟨x,_,rfl⟩:=List.mem_map.1 hq
  refine ⟨rfl,fun j p p' hp hp'=> ?_⟩
  cases j with
  |zero=>simp at hp hp';subst hp;subst hp';exact EE _ _
  |succ j=>simp at hp)
 rwa [List.length_map] at this
theorem FY {B m:Nat} {p:Pr} (h:m≤B) (hp:Pr.le p (Zf m)):Pr.le p (E5 B):=DA m (CO h hp)
theorem BD.BZ {P:Program} {f:FuncId} {row:List Pr} {res:Pr} (h:∀(t:Int) (b:Nat) (n:Bool) (m:Nat),b≤1000→m≤20→BD P f [agg [int t,Zf b,bool n,slice 4 (List.replicate m row)]] res):BD P f [agg (BZ (Jf row))] res:=by
 refine ⟨(h 0 0 false 0 AA AA).1,fun M w vs hb hv=> ?_⟩
 match vs,hv with
 |[u0],WD=>
  obtain ⟨⟨cs,rfl,ho,hcs⟩,_⟩:=WD
  match cs,hcs with
  |[c0,c1,c2,c3],hc=>
   obtain ⟨⟨t,h0⟩,⟨b,Lu,h1⟩,⟨n,h2⟩,⟨m,hm1,h3⟩,_⟩:=hc
   exact (h t b n m Lu hm1).2 M w _ hb ⟨⟨_,rfl,ho,h0,h1,h2,h3,trivial⟩,trivial⟩
theorem BD.iX {P:Program} {f:FuncId} {res:Pr} (h:∀(t:Int) (b:Nat) (n:Bool),b≤1000→BD P f [agg [int t,Zf b,bool n,slice 4 []]] res):BD P f [agg [K9 .i64,E5 1000,Tm,slice 4 []]] res:=by
 refine ⟨(h 0 0 false AA).1,fun M w vs hb hv=> ?_⟩
 match vs,hv with
 |[u0],WD=>
  obtain ⟨⟨cs,rfl,ho,hcs⟩,_⟩:=WD
  match cs,hcs with
  |[c0,c1,c2,c3],hc=>
   obtain ⟨⟨t,h0⟩,⟨b,Lu,h1⟩,⟨n,h2⟩,h3,_⟩:=hc
   exact (h t b n Lu).2 M w _ hb ⟨⟨_,rfl,ho,h0,h1,h2,h3,trivial⟩,trivial⟩
theorem uj {n:Int}  :BD prog 289 [int n] (bool (decide (1≤n)&&decide (n≤255)&&(n.tmod 32 !=31))):=by
 refine fo func289 rfl ⟨rfl,rfl⟩ fun M0 w0=> ?_
 refine ac ?_
 refine ag ?_ ?_<;>intro h1 q1
 refine ag ?_ ?_<;>intro h2 q2
 refine HZ h2 rfl (cy h2 rfl (S1 rfl vq vq AA) ?_)
 refine a2 ?_
 · refine bool_eq ?_;simp_all
 refine a2 ?_
 · exact ON
 refine a2 ?_
 · exact ON
theorem M8 {t:Int} {b:Nat} {n:Bool} {m:Nat} {q:Pr}  (hb:b≤1000) (hm:m≤20) (ih:m=0∨BD prog 258 [agg (BZ q)] (Tm)):BD prog 258 [agg [int t,Zf b,bool n,slice 4 (List.replicate m (BZ q))]] (Tm):=by
 refine fo func258 rfl ⟨rfl,rfl⟩ fun M0 w0=> ?_
 have hlr:(List.replicate m (BZ q)).length=m:=List.length_replicate
 have hlb:(List.replicate b Rp).length=b:=List.length_replicate
 refine a2 ?_
 refine co rfl (C8 (uj) rfl rfl) ?_
 refine ag ?_ ?_<;>intro h1 q1
 refine ac ?_
 refine wk [38,1] rfl ?_
 refine a2 ?_
 · exact GU
 refine ac ?_
 refine cy h1 rfl (SP rfl vq vq AA) (cy h1 rfl (S1 rfl vq vq AA) (cy h1 rfl kiq (cy h1 rfl (S7 rfl underlying4 vq vq) ?_)))
 refine ag ?_ ?_<;>intro h2 q2
 refine ac ?_
 refine wk [38,1] rfl ?_
 refine a2 ?_
 · exact GU
 refine ag ?_ ?_<;>intro h3 q3
 refine ac ?_
 refine cy h3 rfl (B7 rfl underlying241 vq) ?_
 refine ag ?_ ?_<;>intro h4 q4
 refine ac ?_
 refine wk [38,1] rfl ?_
 refine a2 ?_
 · exact GU
 refine ag ?_ ?_<;>intro h5 q5
 refine ac ?_
 refine cy h5 rfl (B7 rfl underlying283 vq) ?_
 refine ac ?_
 refine wk [38,1] rfl ?_
 refine Tr.cn rfl ?_ ?_<;>intro h6 q6
 refine a2 ?_
 · exact GU
 refine a2 ?_
 refine Tr.block (Tr.Ax _ (kk [1] rfl) (fun k:Nat=>[(3,int ((k:Nat):Int))]) (fun k:Nat=>k≤((List.replicate m (BZ q)).length)) (fun k:Nat=>((List.replicate m (BZ q)).length)-k) 0 (Nat.zero_le _) kz ?_)
 rintro k BK
 refine ac ?_
 refine co rfl (B7 rfl underlying283 vq) ?_
 refine an ?_ ?_<;>intro h7 q7
 have Aa:k<((List.replicate m (BZ q)).length):=AH h7
 have hkm:k<m:=by simpa using Aa
 have ih2:=ih.resolve_left AA
 refine ac ?_
 refine ap ?_
 refine tp rfl (AD rfl underlying283 CU vq vq AA (Jg hkm)) (tp rfl (AK rfl DD CU vq rfl rfl) (tp rfl (C8 (ih2) rfl rfl) ?_))
 refine TO.ex 51 rfl (fun z51=> ?_)
 refine ap ?_
 · exact SS
 have Az:k=((List.replicate m (BZ q)).length):=by have:=AJ h7;omega
 refine a3 ?_
 · exact GU
 refine ac ?_
 refine wk [38,1] rfl ?_
 refine a2 ?_
 refine Tr.block (Tr.Ax _ (kk [1] rfl) (fun k:Nat=>[(3,int ((k:Nat):Int))]) (fun k:Nat=>k≤((List.replicate m (BZ q)).length)) (fun k:Nat=>((List.replicate m (BZ q)).length)-k) 0 (Nat.zero_le _) kz ?_)
 rintro k BK
 refine ac ?_
 refine co rfl (B7 rfl underlying283 vq) ?_
 refine an ?_ ?_<;>intro h9 q9
 have Aa:k<((List.replicate m (BZ q)).length):=AH h9
 have hkm:k<m:=by simpa using Aa
 have ih2:=ih.resolve_left AA
 refine ac ?_
 refine ap ?_
 refine tp rfl (AD rfl underlying283 CU vq vq AA (Jg hkm)) (tp rfl (AK rfl DD CU vq rfl rfl) (tp rfl (C8 (ih2) rfl rfl) ?_))
 refine TO.ex 51 rfl (fun z51=> ?_)
 refine ap ?_
 · exact SS
 have Az:k=((List.replicate m (BZ q)).length):=by have:=AJ h9;omega
 refine a3 ?_
 · exact GU
 refine ag ?_ ?_<;>intro h11 U7
 refine ac ?_
 refine cy h11 rfl (B7 rfl underlying283 vq) ?_
 refine ac ?_
 refine wk [38,1] rfl ?_
 refine Tr.cn rfl ?_ ?_<;>intro h12 Ze
 refine a2 ?_
 · exact GU
 refine a2 ?_
 refine Tr.block (Tr.Ax _ (kk [1] rfl) (fun k:Nat=>[(3,int ((k:Nat):Int))]) (fun k:Nat=>k≤((List.replicate m (BZ q)).length)) (fun k:Nat=>((List.replicate m (BZ q)).length)-k) 0 (Nat.zero_le _) kz ?_)
 rintro k BK
 refine ac ?_
 refine co rfl (B7 rfl underlying283 vq) ?_
 refine an ?_ ?_<;>intro L4 XK
 have Aa:k<((List.replicate m (BZ q)).length):=AH L4
 have hkm:k<m:=by simpa using Aa
 have ih2:=ih.resolve_left AA
 refine ac ?_
 refine ap ?_
 refine tp rfl (AD rfl underlying283 CU vq vq AA (Jg hkm)) (tp rfl (AK rfl DD CU vq rfl rfl) (tp rfl (C8 (ih2) rfl rfl) ?_))
 refine TO.ex 51 rfl (fun z51=> ?_)
 refine ap ?_
 · exact SS
 have Az:k=((List.replicate m (BZ q)).length):=by have:=AJ L4;omega
 refine a3 ?_
 · exact GU
 refine ac ?_
 refine wk [38,1] rfl ?_
 refine a2 ?_
 refine Tr.block (Tr.Ax _ (kk [1] rfl) (fun k:Nat=>[(3,int ((k:Nat):Int))]) (fun k:Nat=>k≤((List.replicate m (BZ q)).length)) (fun k:Nat=>((List.replicate m (BZ q)).length)-k) 0 (Nat.zero_le _) kz ?_)
 rintro k BK
 refine ac ?_
 refine co rfl (B7 rfl underlying283 vq) ?_
 refine an ?_ ?_<;>intro RA pK
 have Aa:k<((List.replicate m (BZ q)).length):=AH RA
 have hkm:k<m:=by simpa using Aa
 have ih2:=ih.resolve_left AA
 refine ac ?_
 refine ap ?_
 refine tp rfl (AD rfl underlying283 CU vq vq AA (Jg hkm)) (tp rfl (AK rfl DD CU vq rfl rfl) (tp rfl (C8 (ih2) rfl rfl) ?_))
 refine TO.ex 51 rfl (fun z51=> ?_)
 refine ap ?_
 · exact SS
 have Az:k=((List.replicate m (BZ q)).length):=by have:=AJ RA;omega
 refine a3 ?_
 · exact GU
theorem QA {t:Int} {b:Nat} {n:Bool} {m:Nat} {q:Pr} {D:Nat}  (hb:b≤1000) (hm:m≤20) (hD:D≤1000) (ih:m=0∨BD prog 259 [agg (BZ q)] (LG D)):BD prog 259 [agg [int t,Zf b,bool n,slice 4 (List.replicate m (BZ q))]] (LG (D+1)):=by
 refine BD.of func259 rfl rfl Al fun M0 w0=> ?_
 have hlr:(List.replicate m (BZ q)).length=m:=List.length_replicate
 have hlb:(List.replicate b Rp).length=b:=List.length_replicate
 refine Tr.seq (Tr.Ah (co rfl (Cq rfl (Va rfl)) (cm rfl (Ch.nil (Fin.go (Tr.seq (Tr.Ah (cm rfl (Ch.nil (Fin.go (Tr.seq (Tr.seq (Tr.Ah ?_)))))))))))))
 refine cm rfl (Ch.nil (Fin.go (Tr.block (Tr.Ax [(1,_)] ⟨ke rfl,trivial⟩ (fun k:Nat=>[(4,int ((k:Nat):Int)),(3,LG D)]) (fun k:Nat=>k≤((List.replicate m (BZ q)).length)) (fun k:Nat=>((List.replicate m (BZ q)).length)-k) 0 (Nat.zero_le _) ⟨ke rfl,⟨_,rfl,DA 0 (CO AA (Lr))⟩,trivial⟩ ?_))))
 rintro k BK
 refine Tr.seq (Tr.seq (Tr.Ah (cm rfl (co rfl (ZM rfl L7 rfl rfl) (co rfl (GI rfl TP rfl) (co rfl (B7 rfl underlying283 (vl rfl)) (co rfl (ki rfl rfl rfl rfl) (Ch.nil (Fin.go ?_)))))))))
 refine Tr.cn rfl ?_ ?_<;>intro h1 q1
 have Aa:k<((List.replicate m (BZ q)).length):=AH h1
 have hkm:k<m:=by simpa using Aa
 have ih2:=ih.resolve_left AA
 refine Tr.skip (Fin.go (Tr.seq (Tr.block (Tr.A0 (tm rfl ?_)))))
 refine TO.ex 12 rfl (fun z12=>TO.fact 12 rfl fun AEs=> ?_)
 refine tp rfl (ZM rfl L7 rfl rfl) (tp rfl (GI rfl TP rfl) (tm rfl (tp rfl (AD rfl underlying283 CU (vl rfl) (vl rfl) AA (Jg hkm)) (tp rfl (AK rfl DD CU (vl rfl) rfl rfl) (tp rfl (AZ rfl (ih2) ⟨ke rfl,trivial⟩) ?_)))))
 refine TO.ex 18 rfl (fun z18=>TO.fact 18 rfl fun ADb=> ?_)
 refine tp rfl (JM rfl (vl rfl) (vl rfl)) (tm rfl (TO.nil (Fin.block (Fin.go (NZ 1 3 4 rfl (Tr.Ah (cm rfl (JF rfl rfl rfl rfl AA (cm rfl (Ch.nil (Fin.AM (k+1) ⟨Aa,by omega⟩ ⟨⟨_,rfl,AF k⟩,⟨_,rfl,DA _ (CO AA (Lr))⟩,ke rfl,trivial⟩)))))))))))
 have Az:k=((List.replicate m (BZ q)).length):=by have:=AJ h1;omega
 refine Tr.exit (Fin.AV (Fin.AV (Fin.Ao (Fin.go (Tr.seq (Tr.A0 (tm rfl ?_)))))))
 refine TO.ex 20 rfl (fun z20=>TO.fact 20 rfl fun AEt=> ?_)
 refine tp rfl (Ey rfl (vl rfl) (vl rfl) ?hin) ?_;case hin=>unfold N9;omega
 refine tm rfl (TO.nil (Fin.go (Tr.ret (Fin.HK rfl (Bm.Dw _ _) rfl ?_))))
 · exact DA _ (CO AA (Lr))
def QB (n:Nat):Nat:=if h:n=0 then 0 else 1+QB (n/256)
termination_by n
decreasing_by omega
theorem Rr:QB 0=0:=by unfold QB;simp
theorem VA {n:Nat} (h:0<n):QB n=1+QB (n/256):=by conv=>lhs;unfold QB;rw [dif_neg AA]
theorem Tn:∀(n:Nat),QB n≤n:=by
 intro n
 induction n using Nat.strongRecOn with
 |_ n ih=>
  rcases Nat.eq_zero_or_pos n with h|h
  · subst h;rw [Rr];omega
  · rw [VA h];have:=ih (n/256) AA;omega
def cC (n:Nat):Nat:=if n<128 then 1 else 1+QB n
theorem Zh (n:Nat):cC n≤n+1:=by unfold cC;have:=Tn n;split<;>omega
theorem mg (k:Int):Pr.le (slice 1 [[is (.int .u8 k)]]) (Zf 1):=WS (l:=[()]) (f:=fun _=>k)
theorem cE {n:Nat} (hn:n≤100000000):BD prog 290 [int ((n:Nat):Int)] (Zf (cC n)):=by
 refine fo func290 rfl ⟨rfl,rfl⟩ fun M0 w0=> ?_
 refine ac ?_
 refine an ?_ ?_<;>intro h1 q1
 refine ac ?_
 refine co rfl (Ek rfl underlying3 underlying5 vq) (co rfl (AQ (xs:=[.tmp 7]) (rows:=[Rp]) rfl rfl underlying241 LY z5 rfl AB ⟨⟨Ab,VL.le vq (Pr.le_trans (EE _ _) (AP _))⟩,trivial⟩ AB) ?_)
 refine a2 ?_
 · refine Pr.le_trans (BA _ _) (Pr.le_of_eq ?_);unfold cC;rw [if_pos AA];rfl
 refine a2 ?_
 refine Tr.seq (Tr.block (Tr.CB 5 1 (Tr.Hq [] trivial (fun (k:Nat) (acc:Nat) v=>[(0,int ((k:Nat):Int)),(3,Ae v (Zf acc))]) (fun (k:Nat) (acc:Nat) v=>Hp M0 w0 II ([As 5 1 v])) (fun (k:Nat) (acc:Nat)=>QB k+acc=QB n∧k≤n) (fun (k:Nat) (acc:Nat)=>k) (n) (0) (.slice none 0 0) (⟨by omega,by omega⟩) ⟨kq,⟨_,rfl,Bu rfl⟩,trivial⟩ (fun _ _ h=>h) ?_)))
 rintro k acc v ⟨hk1,hk2⟩
 refine an ?_ ?_<;>intro h2 q2
 have hk0:0<k:=by have:=Df.EA h2;omega
 have hdg:=VA hk0
 have hle:=Tn n
 refine ac ?_
 refine ap ?_
 refine tp rfl (S1 rfl vq vq AA) (tp rfl (Ek rfl underlying3 underlying5 vq) (tp rfl (AQ (xs:=[.tmp 13]) (rows:=[Rp]) rfl rfl underlying241 LY z5 rfl AB ⟨⟨Ab,VL.le vq (Pr.le_trans (EE _ _) (AP _))⟩,trivial⟩ AB) ?_))
 refine tm rfl (TO.pad ?_)
 refine TO.Ef 0 rfl rfl AB (CN rfl rfl rfl rfl underlying241 LY ZT z5 Gx KR (B_ BI vq)) (fun v1=> ?_)
 refine ap ?_
 refine ac ?_
 refine co rfl (SP rfl vq vq AA) ?_
 refine ac ?_
 refine Fin.drop 1 ?_
 exact Fin.CI (k/256) (acc+1) v1 (⟨⟨by omega,by omega⟩,by omega⟩) ⟨⟨_,rfl,int_eq (by rw [Int.tdiv_eq_ediv_of_nonneg AA,G7 Lp];omega)⟩,⟨_,rfl,BU (by rw [show ([Rp]:List (List Pr))=List.replicate 1 Rp from rfl,ME,Nat.add_comm])⟩,trivial⟩ (fun _ _ h=>h)
 have hk0:k=0:=by have:=Df.EA h2;omega
 subst hk0
 have hle:=Tn n
 rw [Rr] at hk1
 refine ac ?_
 refine ap ?_
 refine tp rfl (B7 rfl underlying241 KR) (tp rfl kiq (tp rfl (Ek rfl underlying3 underlying5 vq) (tp rfl (AQ (xs:=[.tmp 22]) (rows:=[Rp]) rfl rfl underlying241 LY z5 rfl AB ⟨⟨Ab,VL.le vq (Pr.le_trans (EE _ _) (AP _))⟩,trivial⟩ AB) ?_)))
 refine tm rfl (TO.pad ?_)
 refine TO.Ef 0 rfl rfl AB (CN rfl rfl rfl rfl underlying241 LY ZT z5 Gx KR (B_ BI vq)) (fun v2=> ?_)
 refine ap ?_
 refine ac ?_
 · refine Pr.le_trans (A_ _ _) (Pr.le_of_eq ?_);unfold cC;rw [if_neg AA,show ([Rp]:List (List Pr))=List.replicate 1 Rp from rfl,ME,show acc=QB n by omega]
theorem XO {t:Int} {b:Nat} {n:Bool} {m:Nat} {q:Pr} {B:Nat}  (hb:b≤1000) (hm:m≤20) (hB:B≤1000000) (ih:m=0∨BD prog 260 [agg (BZ q)] (E5 B)):BD prog 260 [agg [int t,Zf b,bool n,slice 4 (List.replicate m (BZ q))]] (E5 (2*(1000+20*B)+2)):=by
 refine fo func260 rfl ⟨rfl,rfl⟩ fun M0 w0=> ?_
 have hlr:(List.replicate m (BZ q)).length=m:=List.length_replicate
 have hlb:(List.replicate b Rp).length=b:=List.length_replicate
 refine ac ?_
 refine ap ?_
 refine TO.pad ?_
 refine TO.Ef 0 rfl rfl AB (CN rfl rfl rfl rfl underlying241 LY ZT z5 Gx vq (B_ BI vq)) (fun v1=> ?_)
 refine ap ?_
 refine ac ?_
 refine Tr.block (Tr.Hq _ (kk [1] rfl) (fun (k:Nat) (acc:Nat) v=>[(4,int ((k:Nat):Int)),(3,Ae v (Zf acc))]) (fun (k:Nat) (acc:Nat) v=>Hp M0 w0 II ([As 5 1 v])) (fun (k:Nat) (acc:Nat)=>k≤m∧acc≤b+k*B) (fun (k:Nat) (acc:Nat)=>m-k) (0) (b) v1 (⟨by omega,by omega⟩) ⟨kq,⟨_,rfl,BU AO⟩,trivial⟩ (fun _ _ h=>h) ?_)
 rintro k acc v ⟨hk1,hk2⟩
 have hkB:k*B≤20*B:=Nat.mul_le_mul_right B AA
 refine ac ?_
 refine co rfl (B7 rfl underlying283 vq) ?_
 refine an ?_ ?_<;>intro h1 q1
 have hkm:k<m:=by have:=Df.EA h1;rw [hlr] at this;omega
 have ih2:=ih.resolve_left AA
 refine ac ?_
 refine ap ?_
 refine tp rfl (AD rfl underlying283 CU vq vq AA (Jg hkm)) (tp rfl (AK rfl DD CU vq rfl rfl) (tp rfl (C8 (ih2) rfl rfl) ?_))
 refine TO.ex 22 rfl (fun z22=>TO.fact 22 rfl fun AEu=> ?_)
 refine TO.Ef 0 rfl rfl AB (CN rfl rfl rfl rfl underlying241 LY ZT z5 KR vq (BQ BI Oc)) (fun v2=> ?_)
 refine ap ?_
 refine wk [4,3,1] rfl ?_
 refine ac ?_
 exact Fin.CI (k+1) (acc+z22) v2 (⟨⟨by omega,by rw [Nat.succ_mul];omega⟩,by omega⟩) ⟨⟨_,rfl,AF k⟩,⟨_,rfl,BU (by rw [ME])⟩,kz⟩ (fun _ _ h=>h)
 have hke:k=m:=by have:=Df.EA h1;rw [hlr] at this;omega
 have Q0:=Zh acc
 refine ac ?_
 refine Tr.seq (Tr.pad (Tr.rx ?_))
 refine ay ?_
 refine xo rfl (fun _=>Ek rfl underlying3 underlying5 vq) (xo rfl (fun _=>AQ (xs:=[.tmp 26]) (rows:=[Rp]) rfl rfl underlying241 LY z5 rfl AB ⟨⟨Ab,VL.le vq (Pr.le_trans (EE _ _) (AP _))⟩,trivial⟩ AB) ?_)
 refine xm rfl (xo rfl (fun _=>B7 rfl underlying241 KR) ?_)
 refine xo rfl (fun _=>AZ rfl (cE (n:=acc) AA) ⟨⟨_,rfl,int_eq AO⟩,trivial⟩) ?_
 refine Cx.ef 0 rfl rfl AB (CN rfl rfl rfl rfl underlying241 LY ZT z5 Gx vq (B_ BI vq)) ?_
 refine xm rfl ?_
 refine Cx.ef 0 rfl rfl AB (CN rfl rfl rfl rfl underlying241 LY ZT z5 vq KR bL) ?_
 refine Cx.ef 0 rfl rfl AB (OX rfl rfl AB rfl vq) ?_
 refine Cx.nil ⟨by kernel_rfl,?_⟩
 refine BW.open_ 0 2 rfl rfl (fun v3=> ?_)
 refine BW.done al2 (Fin.go (wk [2] rfl ?_))
 refine ac ?_
 · exact FY (m:=1+cC acc+acc) (by have:=Zh acc;omega) (Pr.le_trans (A_ _ _) (Pr.le_of_eq (by rw [show ([Rp]:List (List Pr))=List.replicate 1 Rp from rfl,ME,ME])))
theorem cF {q:Pr} {D B:Nat} (hf:BD prog 258 [agg (BZ q)] Tm) (hd:BD prog 259 [agg (BZ q)] (LG D)) (hp:BD prog 260 [agg (BZ q)] (E5 B)):BD prog 225 [agg (BZ q)] (F8 [E5 B,K9 .i64]):=by
 refine fo func225 rfl ⟨rfl,rfl⟩ fun M0 w0=> ?_
 refine ac ?_
 refine ap ?_
 refine tp rfl (C8 (hf) rfl rfl) ?_
 refine TO.ex 6 rfl (fun z6=> ?_)
 refine ap ?_
 refine Tr.cn rfl ?_ ?_<;>intro h1 q1
 refine ac ?_
 refine Tr.ret (Fin.AG (Fin.DO rfl (Bm.Dw _ _) rfl ?_ rfl ?_))
 · exact Sl
 · exact EE _ _
 refine ac ?_
 refine ap ?_
 refine tp rfl (C8 (hd) rfl rfl) ?_
 refine TO.ex 9 rfl (fun z9=>TO.fact 9 rfl fun hz9=> ?_)
 refine ap ?_
 refine Tr.cn rfl ?_ ?_<;>intro h2 q2
 refine ac ?_
 refine Tr.ret (Fin.AG (Fin.DO rfl (Bm.Dw _ _) rfl ?_ rfl ?_))
 · exact Sl
 · exact EE _ _
 refine a2 ?_
 refine co rfl (C8 (hp) rfl rfl) ?_
 refine ac ?_
 refine ap ?_
 refine TO.ex 13 rfl (fun z13=>TO.fact 13 rfl fun AEv=> ?_)
 refine tp rfl (B7 rfl underlying241 vq) ?_
 refine ap ?_
 refine wk [15,4] rfl ?_
 refine Tr.cn rfl ?_ ?_<;>intro h3 q3
 refine ac ?_
 refine Tr.ret (Fin.AG (Fin.DO rfl (Bm.Dw _ _) rfl ?_ rfl ?_))
 · exact Sl
 · exact EE _ _
 refine a2 ?_
 refine Tr.ret (Fin.DO rfl (Bm.Dw _ _) rfl ?_ rfl ?_)
 · exact Lr
 · exact EE _ _
theorem pL:IntKind.u8.wrap 0=0:=rfl
def lvI (x:Int):Nat:=if x≤0 then 0 else if x<256 then 1 else if x<65536 then 2 else if x<16777216 then 3 else if x<4294967296 then 4 else if x<1099511627776 then 5 else 6+x.toNat
theorem iY {x:Int} (h:0<x):lvI (x/256)<lvI x:=by
 unfold lvI
 repeat' split
 all_goals omega
def Jh (x h:Int):Nat:=if x=0 then (if 128≤h then 1 else 0) else lvI x+1
theorem pM {n h:Int} (h0:0≤n) (h1:n≤1099511627776):Jh (n/256) h≤400:=by
 unfold Jh lvI
 repeat' split
 all_goals omega
theorem Gr {x h:Int} {t:Nat} (h0:0≤x) (hc:x≠0∨128≤h) (hi:t+Jh x h≤400):(0≤x/256∧t+1+Jh (x/256) (IntKind.u8.wrap x)≤400)∧Jh (x/256) (IntKind.u8.wrap x)<Jh x h:=by
 have key:Jh (x/256) (IntKind.u8.wrap x)<Jh x h:=by
  unfold Jh
  by_cases hx:x=0
  ·
   subst hx
   rw [pL,if_pos AB,if_neg AB,if_pos rfl,if_pos AA];decide
  ·
   have:=iY (x:=x) AA
   rw [if_neg hx]
   by_cases hy:x/256=0
   ·
    rw [if_pos hy];have:(if 128≤IntKind.u8.wrap x then 1 else 0)≤1:=by split<;>omega
    omega
   · rw [if_neg hy];omega
 exact ⟨⟨by omega,by omega⟩,key⟩
theorem HE {P:Program} {I:CS} {E:Env} {o:Oper} {t u:TypeId} {x y:Operand} {m:Int} (ho:o.op= .binOp .shr t x y u) (hx:VL E x (int m)) (hy:VL E y (is (.int .u64 8))) (h0:0≤m):Ad P I o E (int (m/256)):=
 Ad.same fun M w a he _=>by
  have h1:a.eval x= .int .i64 m:=hx.ev he Ap
  have h2:a.eval y= .int .u64 8:=hy.ev he Ap
  refine ⟨.int .i64 (m.fdiv 256),?_,congrArg (Value.int .i64) (Int.fdiv_eq_ediv_of_nonneg m AA)⟩
  simp only [execOp,ho,h1,h2]
  simp [eqGuard,binOp,Op.shift,IntKind.bits]
abbrev q0:Pr:=slice 4 []
theorem LH {n:Int} (hn:0≤n∧n≤1099511627776):BD prog 263 [int n] (agg (BZ q0)):=by
 refine fo func263 rfl ⟨rfl,rfl⟩ fun M0 w0=>(Tr.seq (Tr.A0 ?_))
 refine Tl rfl rfl rfl rfl M4 Ko (fun b1=> ?_)
 refine ap ?_
 refine ac ?_
 refine co rfl (Ek rfl underlying3 underlying5 vq) ?_
 refine a2 ?_
 refine co rfl (HE rfl vq vq AA) ?_
 refine ac ?_
 refine Tr.block ?_
 refine Tr.L3 _ (kk [2] rfl) (fun (x:Int) (h:Int) (t:List Int)=>[(4,int x),(3,slice 1 ((h::t).map fun n=>[is (.int .u8 n)]))]) (fun (x:Int) (h:Int) (t:List Int)=>Hp M0 w0 II ([AE true b1 285 (([.int .i64 0,.slice none 0 0,.bool false,.slice none 0 0]:List Value).map is)])) (fun (x:Int) (h:Int) (t:List Int)=>0≤x∧t.length+Jh x h≤400) (fun (x:Int) (h:Int) (t:List Int)=>Jh x h) (n/256) (IntKind.u8.wrap n) ([])  (⟨by omega,by simp only [List.length_nil];have:=pM (h:=IntKind.u8.wrap n) hn.1 hn.2;omega⟩) ⟨kq,⟨_,rfl,Pr.le_trans (BA _ _) (Pr.le_of_eq rfl)⟩,trivial⟩ (fun _ _ h=>h) ?_
 rintro x h t  ⟨hx0,hmu⟩
 refine ag ?_ ?_<;>intro h1 q1
 refine ag ?_ ?_<;>intro h2 q2
 refine ac ?_
 refine wk [35,4,3,2] rfl ?_
 refine ac ?_
 refine ap ?_
 refine tp rfl (Ek rfl underlying3 underlying5 vq) ?_
 refine ap ?_
 refine TO.pad ?_
 refine TO.Ef 0 rfl rfl AB (CN rfl rfl rfl rfl underlying241 LY ZT z5 Gx vq (B_ BI vq)) (fun v1=> ?_)
 refine ap ?_
 refine ac ?_
 refine co rfl (HE rfl vq vq AA) ?_
 refine ac ?_
 refine Fin.drop 0 (Fin.DV (x/256) (IntKind.u8.wrap x) (h::t)  ((Gr hx0 AA hmu)) ⟨kq,⟨_,rfl,Pr.le_trans (A_ _ _) (Pr.le_of_eq rfl)⟩,kz⟩ (fun _ _ h=>h))
 refine ag ?_ ?_<;>intro h3 q3
 refine HZ h3 rfl ?_
 refine cy h3 rfl (AD rfl underlying241 LY vq vq AA (Ac (k:=0) rfl)) ?_
 refine ag ?_ ?_<;>intro h4 q4
 refine ac ?_
 refine wk [35,4,3,2] rfl ?_
 refine ac ?_
 refine ap ?_
 refine tp rfl (Ek rfl underlying3 underlying5 vq) ?_
 refine ap ?_
 refine TO.pad ?_
 refine TO.Ef 0 rfl rfl AB (CN rfl rfl rfl rfl underlying241 LY ZT z5 Gx vq (B_ BI vq)) (fun v2=> ?_)
 refine ap ?_
 refine ac ?_
 refine co rfl (HE rfl vq vq AA) ?_
 refine ac ?_
 refine Fin.drop 0 (Fin.DV (x/256) (IntKind.u8.wrap x) (h::t)  ((Gr hx0 AA hmu)) ⟨kq,⟨_,rfl,Pr.le_trans (A_ _ _) (Pr.le_of_eq rfl)⟩,kz⟩ (fun _ _ h=>h))
 refine ag ?_ ?_<;>intro h5 q5
 refine HZ h5 rfl ?_
 refine cy h5 rfl (AD rfl underlying241 LY vq vq AA (Ac (k:=0) rfl)) ?_
 refine ac ?_
 refine wk [35,4,3,2] rfl ?_
 refine Tr.cn rfl ?_ ?_<;>intro h6 q6
 have eO:=h6
 refine ac ?_
 refine ap ?_
 refine tp rfl (Ek rfl underlying3 underlying5 vq) ?_
 refine ap ?_
 refine TO.pad ?_
 refine TO.Ef 0 rfl rfl AB (CN rfl rfl rfl rfl underlying241 LY ZT z5 Gx vq (B_ BI vq)) (fun v3=> ?_)
 refine ap ?_
 refine ac ?_
 refine co rfl (HE rfl vq vq AA) ?_
 refine ac ?_
 refine Fin.drop 0 (Fin.DV (x/256) (IntKind.u8.wrap x) (h::t)  ((Gr hx0 AA hmu)) ⟨kq,⟨_,rfl,Pr.le_trans (A_ _ _) (Pr.le_of_eq rfl)⟩,kz⟩ (fun _ _ h=>h))
 have eO:=h6
 refine ac ?_
 refine ap ?_
 refine Tr.ret (Fin.Dn rfl (A7.cell 0 rfl rfl DD CU rfl Lr) ?_)
 · exact JI
 refine ac ?_
 refine wk [35,4,3,2] rfl ?_
 refine ac ?_
 refine ap ?_
 refine Tr.ret (Fin.Dn rfl (A7.cell 0 rfl rfl DD CU rfl Lr) ?_)
 · exact JI
 refine ag ?_ ?_<;>intro h7 q7
 refine HZ h7 rfl ?_
 refine cy h7 rfl (AD rfl underlying241 LY vq vq AA (Ac (k:=0) rfl)) ?_
 refine ac ?_
 refine wk [35,4,3,2] rfl ?_
 refine Tr.cn rfl ?_ ?_<;>intro h8 q8
 have eO:=h8
 refine ac ?_
 refine ap ?_
 refine tp rfl (Ek rfl underlying3 underlying5 vq) ?_
 refine ap ?_
 refine TO.pad ?_
 refine TO.Ef 0 rfl rfl AB (CN rfl rfl rfl rfl underlying241 LY ZT z5 Gx vq (B_ BI vq)) (fun v4=> ?_)
 refine ap ?_
 refine ac ?_
 refine co rfl (HE rfl vq vq AA) ?_
 refine ac ?_
 refine Fin.drop 0 (Fin.DV (x/256) (IntKind.u8.wrap x) (h::t)  ((Gr hx0 AA hmu)) ⟨kq,⟨_,rfl,Pr.le_trans (A_ _ _) (Pr.le_of_eq rfl)⟩,kz⟩ (fun _ _ h=>h))
 have eO:=h8
 refine ac ?_
 refine ap ?_
 refine Tr.ret (Fin.Dn rfl (A7.cell 0 rfl rfl DD CU rfl Lr) ?_)
 · exact JI
 refine ac ?_
 refine wk [35,4,3,2] rfl ?_
 refine ac ?_
 refine ap ?_
 refine Tr.ret (Fin.Dn rfl (A7.cell 0 rfl rfl DD CU rfl Lr) ?_)
 · exact JI
 refine ag ?_ ?_<;>intro h9 q9
 refine HZ h9 rfl ?_
 refine cy h9 rfl (AD rfl underlying241 LY vq vq AA (Ac (k:=0) rfl)) ?_
 refine ag ?_ ?_<;>intro h10 Q2
 refine ac ?_
 refine wk [35,4,3,2] rfl ?_
 refine ac ?_
 refine ap ?_
 refine tp rfl (Ek rfl underlying3 underlying5 vq) ?_
 refine ap ?_
 refine TO.pad ?_
 refine TO.Ef 0 rfl rfl AB (CN rfl rfl rfl rfl underlying241 LY ZT z5 Gx vq (B_ BI vq)) (fun v5=> ?_)
 refine ap ?_
 refine ac ?_
 refine co rfl (HE rfl vq vq AA) ?_
 refine ac ?_
 refine Fin.drop 0 (Fin.DV (x/256) (IntKind.u8.wrap x) (h::t)  ((Gr hx0 AA hmu)) ⟨kq,⟨_,rfl,Pr.le_trans (A_ _ _) (Pr.le_of_eq rfl)⟩,kz⟩ (fun _ _ h=>h))
 refine ag ?_ ?_<;>intro h11 U7
 refine HZ h11 rfl ?_
 refine cy h11 rfl (AD rfl underlying241 LY vq vq AA (Ac (k:=0) rfl)) ?_
 refine ac ?_
 refine wk [35,4,3,2] rfl ?_
 refine Tr.cn rfl ?_ ?_<;>intro h12 Ze
 have eO:=h12
 refine ac ?_
 refine ap ?_
 refine tp rfl (Ek rfl underlying3 underlying5 vq) ?_
 refine ap ?_
 refine TO.pad ?_
 refine TO.Ef 0 rfl rfl AB (CN rfl rfl rfl rfl underlying241 LY ZT z5 Gx vq (B_ BI vq)) (fun v6=> ?_)
 refine ap ?_
 refine ac ?_
 refine co rfl (HE rfl vq vq AA) ?_
 refine ac ?_
 refine Fin.drop 0 (Fin.DV (x/256) (IntKind.u8.wrap x) (h::t)  ((Gr hx0 AA hmu)) ⟨kq,⟨_,rfl,Pr.le_trans (A_ _ _) (Pr.le_of_eq rfl)⟩,kz⟩ (fun _ _ h=>h))
 have eO:=h12
 refine ac ?_
 refine ap ?_
 refine Tr.ret (Fin.Dn rfl (A7.cell 0 rfl rfl DD CU rfl Lr) ?_)
 · exact JI
 refine ac ?_
 refine wk [35,4,3,2] rfl ?_
 refine ac ?_
 refine ap ?_
 refine Tr.ret (Fin.Dn rfl (A7.cell 0 rfl rfl DD CU rfl Lr) ?_)
 · exact JI
 refine ag ?_ ?_<;>intro L4 XK
 refine HZ L4 rfl ?_
 refine cy L4 rfl (AD rfl underlying241 LY vq vq AA (Ac (k:=0) rfl)) ?_
 refine ac ?_
 refine wk [35,4,3,2] rfl ?_
 refine Tr.cn rfl ?_ ?_<;>intro J9 iZ
 have eO:=J9
 refine ac ?_
 refine ap ?_
 refine tp rfl (Ek rfl underlying3 underlying5 vq) ?_
 refine ap ?_
 refine TO.pad ?_
 refine TO.Ef 0 rfl rfl AB (CN rfl rfl rfl rfl underlying241 LY ZT z5 Gx vq (B_ BI vq)) (fun v7=> ?_)
 refine ap ?_
 refine ac ?_
 refine co rfl (HE rfl vq vq AA) ?_
 refine ac ?_
 refine Fin.drop 0 (Fin.DV (x/256) (IntKind.u8.wrap x) (h::t)  ((Gr hx0 AA hmu)) ⟨kq,⟨_,rfl,Pr.le_trans (A_ _ _) (Pr.le_of_eq rfl)⟩,kz⟩ (fun _ _ h=>h))
 have eO:=J9
 refine ac ?_
 refine ap ?_
 refine Tr.ret (Fin.Dn rfl (A7.cell 0 rfl rfl DD CU rfl Lr) ?_)
 · exact JI
 refine ac ?_
 refine wk [35,4,3,2] rfl ?_
 refine ac ?_
 refine ap ?_
 refine Tr.ret (Fin.Dn rfl (A7.cell 0 rfl rfl DD CU rfl Lr) ?_)
 · exact JI
theorem To {s:List UInt8} (hs:s.length≤1000):BD prog 261 [str s] (agg (BZ q0)):=by
 refine fo func261 rfl ⟨rfl,rfl⟩ fun M0 w0=>(Tr.seq (Tr.A0 ?_))
 refine Tl rfl rfl rfl rfl M4 Ko (fun b1=> ?_)
 refine ap ?_
 refine ap ?_
 refine tp rfl (Pu rfl underlying9 underlying241 underlying5 vq HI) ?_
 refine ap ?_
 refine Tr.ret (Fin.Dn rfl (A7.cell 0 rfl rfl DD CU rfl Lr) ?_)
 · exact Bv ⟨EE _ _,FY (m:=s.length) AA (WS (f:=fun c:UInt8=>((c.toNat:Nat):Int))),DA _ Lr,Ai 4,trivial⟩
theorem pN {b:Bool}  :BD prog 265 [bool b] (agg (BZ q0)):=by
 refine fo func265 rfl ⟨rfl,rfl⟩ fun M0 w0=>(Tr.seq (Tr.A0 ?_))
 refine Tl rfl rfl rfl rfl M4 Ko (fun b1=> ?_)
 refine ap ?_
 refine an ?_ ?_<;>intro h1 q1
 refine ap ?_
 refine tp rfl (Ar (rows:=[(0,[_]),(1,[_])]) rfl gS Ko ⟨⟨rfl,DK⟩,⟨⟨rfl,⟨_,rfl,Pr.le_trans (BA _ _) (AP _)⟩⟩,trivial⟩⟩ rfl) ?_
 refine ap ?_
 refine Tr.ret (Fin.AG (Fin.Dn rfl (A7.cell 0 rfl rfl DD CU rfl Lr) ?_))
 · exact fM
 refine ac ?_
 refine ap ?_
 refine tp rfl (Ar (rows:=[(0,[_]),(1,[_])]) rfl gS Ko ⟨⟨rfl,DK⟩,⟨⟨rfl,⟨_,rfl,Pr.le_trans (BA _ _) (AP _)⟩⟩,trivial⟩⟩ rfl) ?_
 refine ap ?_
 refine Tr.ret (Fin.Dn rfl (A7.cell 0 rfl rfl DD CU rfl Lr) ?_)
 · exact fM
theorem M9 {m:Nat} {q:Pr} [One q]  (hm:m≤20) (ih:m=0∨BD prog 291 [q] q):BD prog 291 [slice 4 (List.replicate m (BZ q))] (slice 4 (List.replicate m (BZ q))):=by
 refine BD.of func291 rfl rfl Al fun M0 w0=> ?_
 have hlr:(List.replicate m (BZ q)).length=m:=List.length_replicate
 refine Tr.seq (Tr.Ah (cm rfl (Ch.nil (Fin.go (Tr.seq (Tr.Ah (cm rfl (Ch.nil (Fin.go (Tr.seq (Tr.seq (Tr.Ah (cm rfl ?_)))))))))))))
 refine Ch.nil (Fin.go (Tr.block (Tr.CB 285 4 (Tr.Ez [(0,_)] ⟨ke rfl,trivial⟩ (fun k v=>[(4,int ((k:Nat):Int)),(3,Ae v (slice 4 (List.replicate k (BZ q))))]) (fun k v=>Hp M0 w0 II ([As 285 4 v])) (fun k:Nat=>k≤((List.replicate m (BZ q)).length)) (fun k:Nat=>((List.replicate m (BZ q)).length)-k) 0 (.slice none 0 0) (Nat.zero_le _) ⟨ke rfl,⟨_,rfl,Bu rfl⟩,trivial⟩ (fun _ _ h=>h) ?_))))
 rintro k v BK
 refine Tr.seq (Tr.seq (Tr.Ah (cm rfl (cm rfl (co rfl (B7 rfl underlying283 (vl rfl)) (co rfl (ki rfl rfl rfl rfl) (Ch.nil (Fin.go ?_))))))))
 refine Tr.cn rfl ?_ ?_<;>intro h1 q1
 have Aa:k<((List.replicate m (BZ q)).length):=AH h1
 have hkm:k<m:=by simpa using Aa
 have ih2:=ih.resolve_left AA
 refine Tr.skip (Fin.go (Tr.seq (Tr.block (Tr.seq (Tr.A0 (tm rfl (tm rfl (tp rfl (AD rfl underlying283 CU (vl rfl) (vl rfl) AA (Jg hkm)) (tp rfl (AK rfl DD CU (vl rfl) rfl rfl) ?_)))))))))
 refine Tl rfl rfl rfl rfl M4 Ko (fun b1=> ?_)
 refine TO.Aj 0 rfl rfl rfl (vl rfl) (Va rfl) rfl CU rfl rfl (TO.nil (Fin.go (Tr.seq (Tr.A0 (tp rfl (AQ (xs:=[]) (rows:=[]) rfl rfl underlying241 LY z5 rfl AB trivial AB) (tp rfl (AY rfl TQ (vl rfl)) (TO.rd 0 rfl rfl rfl AB (Ay rfl gR (vl rfl) rfl) ?_)))))))
 refine TO.ex 18 rfl (fun z18=>TO.fact 18 rfl fun ADb=> ?_)
 refine TO.pad ?_
 refine TO.Ef 0 rfl rfl AB (CN rfl rfl rfl rfl underlying241 LY ZT z5 (Kf rfl) (vl rfl) (B_ BI (vl rfl))) (fun v1=> ?_)
 refine tp rfl (AY rfl TQ (vl rfl)) (TO.Ee 1 rfl rfl (A9 rfl rfl (vl rfl) (Vo rfl) yU rfl Al rfl) (TO.nil (Fin.go (PZ 0 3 4 5 rfl (Tr.seq (Tr.A0 (tp rfl (AY rfl L7 (vl rfl)) (TO.rd 1 rfl rfl rfl AB (Ay rfl TP (vl rfl) rfl) (tp rfl (AZ rfl (ih2) ⟨ke rfl,trivial⟩) (tp rfl (AY rfl L7 (vl rfl)) (TO.Ee 1 rfl rfl (A9 rfl rfl (vl rfl) (Vo rfl) yV rfl Al rfl) (TO.nil (Fin.go (Tr.A0 ?_))))))))))))))
 refine tm rfl (TO.rd 1 rfl rfl rfl AB (D3 rfl DD CU (vl rfl) rfl rfl) (tp rfl (AQ (xs:=[.tmp 26]) (rows:=[BZ q]) rfl rfl underlying283 CU M4 rfl AB ⟨⟨Ab,VL.le (vl rfl) (Pr.le_trans (Bv (qs:=BZ q) ⟨Lr,FY (m:=z18) AA (Pr.le_trans (A_ _ _) (Pr.le_of_eq rfl)),Lr,Lr,trivial⟩) (AW _))⟩,trivial⟩ AB) ?_))
 refine TO.Ef 2 rfl rfl AB (CN rfl rfl rfl rfl underlying283 CU ru M4 (Kb rfl) (Kf rfl) (BQ BI (Ka rfl))) (fun v2=> ?_)
 refine tm rfl (TO.nil (Fin.block (Fin.go (Tr.drop 1 (Tr.Ah (cm rfl (JF rfl rfl rfl rfl AA (cm rfl (Ch.nil (Fin.drop 0 (Fin.Dm (k+1) v2 (⟨Aa,by omega⟩) ⟨⟨_,rfl,AF k⟩,⟨_,rfl,BU (by rw [Zg])⟩,ke rfl,trivial⟩ (fun _ _ h=>h))))))))))))
 have Az:k=((List.replicate m (BZ q)).length):=by have:=AJ h1;omega
 refine Tr.exit (Fin.AV (Fin.AV (Fin.Ao (Fin.go (Tr.seq (Tr.Ah (cm rfl (cm rfl (Ch.nil (Fin.go (Tr.ret (Fin.HK rfl (Bm.Dw _ _) rfl ?_))))))))))))
 · exact Pr.le_trans (A_ _ _) (Pr.le_of_eq (by rw [Az,hlr]))
theorem Tp {m:Nat} {q:Pr}  (hm:m≤20) (hc:BD prog 291 [slice 4 (List.replicate m (BZ q))] (slice 4 (List.replicate m (BZ q)))):BD prog 262 [slice 4 (List.replicate m (BZ q))] (agg (BZ (Jf (BZ q)))):=by
 refine fo func262 rfl ⟨rfl,rfl⟩ fun M0 w0=>(Tr.seq (Tr.A0 ?_))
 refine Tl rfl rfl rfl rfl M4 Ko (fun b1=> ?_)
 refine ap ?_
 refine ap ?_
 refine tp rfl (C8 (hc) rfl rfl) ?_
 refine ap ?_
 refine Tr.ret (Fin.Dn rfl (A7.cell 0 rfl rfl DD CU rfl Lr) ?_)
 · exact Bv ⟨EE _ _,FY (m:=0) AA (Ai 1),DA _ Lr,DA m (CO hm Lr),trivial⟩
structure HR.vf (c:HR):Prop where
 s0:0≤c.Jc
 s1:c.Jc≤1099511627776
 iss:named c.LF=true
 sub:named c.Ig=true
 nm:E3 c.names=true
 key:HY c.RG c.Kr 2=true
 k0:0≤c.El
 k1:c.El≤2147483648
 hash:HY c.XI c.P9 1=true
 sk0:0≤c.pE
 sk1:c.pE≤2147483648
 su0:0≤c.pF
 su1:c.pF<4294967296
 f0:0≤c.from_
 ft:c.from_≤c.to_
 t1:c.to_≤40000
 p0:0≤c.path
 p1:c.path≤8
 ap:c.auth=true∨c.path=0
theorem JH {c:HR} (hv:Cr c=true):c.vf:=by
 simp only [Cr,Fw,bg,Bool.and_eq_true,Bool.or_eq_true,decide_eq_true_eq,beq_iff_eq] at hv
 obtain ⟨⟨⟨⟨⟨⟨⟨h1,h2⟩,h3⟩,h4⟩,h5⟩,⟨⟨⟨⟨h6,⟨h7,h8⟩⟩,h9⟩,⟨h10,h11⟩⟩,⟨h12,L4⟩⟩⟩,⟨⟨J9,RA⟩,h16⟩⟩,⟨⟨Nj,Oa⟩,WE⟩⟩:=hv
 exact ⟨h1,h2,h3,h4,h5,h6,h7,h8,h9,h10,h11,h12,L4,J9,RA,h16,Nj,Oa,WE⟩
theorem Zi {c:HR} (h:c.vf):Cr c=true:=by
 simp only [Cr,Fw,bg,Bool.and_eq_true,Bool.or_eq_true,decide_eq_true_eq,beq_iff_eq]
 exact ⟨⟨⟨⟨⟨⟨⟨h.s0,h.s1⟩,h.iss⟩,h.sub⟩,h.nm⟩,⟨⟨⟨⟨h.key,⟨h.k0,h.k1⟩⟩,h.hash⟩,⟨h.sk0,h.sk1⟩⟩,⟨h.su0,h.su1⟩⟩⟩,⟨⟨h.f0,h.ft⟩,h.t1⟩⟩,⟨⟨h.p0,h.p1⟩,h.ap⟩⟩
theorem ia {a b k:Int} (h:HY a b k=true):decide (Bs a b>0)=true∧(Dh a).kind=k:=by
 unfold HY at h;simpa using h
theorem Tq {l:List (List UInt8)} {k:Nat} {s:List UInt8} (h:nameAt l k=true) (hs:l[k]? =some s):named s=true:=by
 unfold nameAt at h;rw [hs] at h;simp at h;exact h.1
theorem Zj {l:List (List UInt8)} {k:Nat} {s y:List UInt8} (h:nameAt l k=true) (hs:l[k]? =some s) (hy:l[k-1]? =some y) (hk:0<k):decide (Lib.compareBytes y s= -1)=true:=by
 unfold nameAt at h;rw [hs,hy] at h;simp at h
 rcases h.2 with h2|h2
 · omega
 · exact G2
theorem Rs {c:HR} (hv:Cr c=true):BD prog 188 [agg (DF c)] (int 0):=by
 refine fo func188 rfl ⟨rfl,rfl⟩ fun M0 w0=> ?_
 obtain ⟨hs0,hs1,uk,hsub,hnm,hkey,hk0,hk1,sJ,ADc,ADd,ADe,ADf,eP,hft,ht1,hp0,bU,hap⟩:=JH hv
 obtain ⟨zz,z8⟩:=ia hkey
 obtain ⟨hh1,hh2⟩:=ia sJ
 have M_:=hnm
 unfold E3 at M_
 rw [Bool.and_eq_true,Br,decide_eq_true_eq] at M_
 obtain ⟨hall,z_⟩:=M_
 refine ac ?_
 refine ag ?_ ?_<;>intro h1 q1
 exfalso;have:=q1;omega
 refine ag ?_ ?_<;>intro h2 q2
 exfalso;have:=q2;omega
 refine ac ?_
 refine cy h2 rfl (C8 (GX) rfl rfl) ?_
 refine ag ?_ ?_<;>intro h3 q3
 rw [uk] at h3;exact absurd h3 AB
 refine ac ?_
 refine cy h3 rfl (C8 (GX) rfl rfl) ?_
 refine ag ?_ ?_<;>intro h4 q4
 rw [hsub] at h4;exact absurd h4 AB
 refine ac ?_
 refine cy h4 rfl (C8 (Jb) rfl rfl) ?_
 refine ag ?_ ?_<;>intro h5 q5
 rw [zz,z8] at h5;exact absurd h5 AB
 refine ag ?_ ?_<;>intro h6 q6
 exfalso;have:=q6;omega
 refine ac ?_
 refine wk [39,1] rfl ?_
 refine Tr.cn rfl ?_ ?_<;>intro h7 q7
 exfalso;have:=q7;omega
 refine a2 ?_
 refine co rfl (C8 (MB) rfl rfl) ?_
 refine ag ?_ ?_<;>intro h8 q8
 rw [hh1] at h8;exact absurd h8 AB
 refine ac ?_
 refine cy h8 rfl (C8 (Of) rfl rfl) ?_
 refine ag ?_ ?_<;>intro h9 q9
 rw [hh2] at h9;exact absurd h9 AB
 refine ag ?_ ?_<;>intro h10 Q2
 exfalso;have:=Q2;omega
 refine ag ?_ ?_<;>intro h11 U7
 exfalso;have:=U7;omega
 refine ac ?_
 refine wk [67,1] rfl ?_
 refine Tr.cn rfl ?_ ?_<;>intro h12 Ze
 exfalso;have:=Ze;omega
 refine ac ?_
 refine ag ?_ ?_<;>intro L4 XK
 exfalso;have:=XK;omega
 refine ag ?_ ?_<;>intro J9 iZ
 exfalso;have:=iZ;omega
 refine ag ?_ ?_<;>intro RA pK
 refine ag ?_ ?_<;>intro h16 mY
 exfalso;have:=mY;simp_all
 refine ac ?_
 refine wk [91,1] rfl ?_
 refine Tr.cn rfl ?_ ?_<;>intro Nj mX
 exfalso;have:=mX;omega
 refine a2 ?_
 refine Tr.block (Tr.Ax _ (kk [1] rfl) (fun k:Nat=>[(3,int ((k:Nat):Int))]) (fun k:Nat=>k≤(c.names).length) (fun k:Nat=>(c.names).length-k) 0 (Nat.zero_le _) kz ?_)
 rintro k BK
 refine an ?_ ?_<;>intro Oa q18
 have Aa:k<(c.names).length:=AH Oa
 obtain ⟨s,AX⟩:=at_ Aa
 have hat:=hall k AA
 have hna:=Tq hat AX
 refine a2 ?_
 refine co rfl (AD rfl underlying127 LZ vq vq AA (Ac AX)) (co rfl (GI rfl OA rfl) (co rfl (C8 (GX) rfl rfl) ?_))
 refine ag ?_ ?_<;>intro WE q19
 exfalso;rw [hna] at WE;exact absurd WE AB
 refine ag ?_ ?_<;>intro MY q20
 have JC:0<k:=by simpa using MY
 obtain ⟨y,hy⟩:=at_ (l:=c.names) (k:=k-1) AA
 have hlt:=Zj hat AX hy JC
 refine ac ?_
 refine cy MY rfl (AD rfl underlying127 LZ vq vq AA FE) ?_
 refine ac ?_
 refine cy MY rfl (AD rfl underlying127 LZ vq vq AA (Ac AX)) (cy MY rfl (GI rfl OA rfl) (cy MY rfl (K7 rfl vq vq) ?_))
 refine ac ?_
 refine wk [123,3,1] rfl ?_
 refine Tr.cn rfl ?_ ?_<;>intro RF q21
 exfalso;rw [hlt] at RF;exact absurd RF AB
 refine a2 ?_
 exact Fin.AM (k+1) ⟨Aa,by omega⟩ ⟨⟨_,rfl,AF k⟩,kz⟩
 refine ac ?_
 refine wk [123,3,1] rfl ?_
 refine a2 ?_
 exact Fin.AM (k+1) ⟨Aa,by omega⟩ ⟨⟨_,rfl,AF k⟩,kz⟩
 have Az:k=(c.names).length:=by have:=AJ Oa;omega
 refine ac ?_
 refine ag ?_ ?_<;>intro h22 q22
 exfalso;have:=q22;omega
 refine ag ?_ ?_<;>intro h23 q23
 exfalso;have:=q23;omega
 refine ag ?_ ?_<;>intro Ld q24
 exfalso;have:=q24;omega
 refine ac ?_
 refine wk [145] rfl ?_
 refine Tr.cn rfl ?_ ?_<;>intro h25 q25
 exfalso;have:=q25;omega
 refine a3 ?_
 · exact Lr
 refine ac ?_
 refine wk [91,1] rfl ?_
 refine Tr.cn rfl ?_ ?_<;>intro h26 q26
 exfalso;have:=q26;omega
 refine a2 ?_
 refine Tr.block (Tr.Ax _ (kk [1] rfl) (fun k:Nat=>[(3,int ((k:Nat):Int))]) (fun k:Nat=>k≤(c.names).length) (fun k:Nat=>(c.names).length-k) 0 (Nat.zero_le _) kz ?_)
 rintro k BK
 refine an ?_ ?_<;>intro h27 q27
 have Aa:k<(c.names).length:=AH h27
 obtain ⟨s,AX⟩:=at_ Aa
 have hat:=hall k AA
 have hna:=Tq hat AX
 refine a2 ?_
 refine co rfl (AD rfl underlying127 LZ vq vq AA (Ac AX)) (co rfl (GI rfl OA rfl) (co rfl (C8 (GX) rfl rfl) ?_))
 refine ag ?_ ?_<;>intro h28 q28
 exfalso;rw [hna] at h28;exact absurd h28 AB
 refine ag ?_ ?_<;>intro eR q29
 have JC:0<k:=by simpa using eR
 obtain ⟨y,hy⟩:=at_ (l:=c.names) (k:=k-1) AA
 have hlt:=Zj hat AX hy JC
 refine ac ?_
 refine cy eR rfl (AD rfl underlying127 LZ vq vq AA FE) ?_
 refine ac ?_
 refine cy eR rfl (AD rfl underlying127 LZ vq vq AA (Ac AX)) (cy eR rfl (GI rfl OA rfl) (cy eR rfl (K7 rfl vq vq) ?_))
 refine ac ?_
 refine wk [123,3,1] rfl ?_
 refine Tr.cn rfl ?_ ?_<;>intro h30 q30
 exfalso;rw [hlt] at h30;exact absurd h30 AB
 refine a2 ?_
 exact Fin.AM (k+1) ⟨Aa,by omega⟩ ⟨⟨_,rfl,AF k⟩,kz⟩
 refine ac ?_
 refine wk [123,3,1] rfl ?_
 refine a2 ?_
 exact Fin.AM (k+1) ⟨Aa,by omega⟩ ⟨⟨_,rfl,AF k⟩,kz⟩
 have Az:k=(c.names).length:=by have:=AJ h27;omega
 refine ac ?_
 refine ag ?_ ?_<;>intro h31 q31
 exfalso;have:=q31;omega
 refine ag ?_ ?_<;>intro h32 q32
 exfalso;have:=q32;omega
 refine ag ?_ ?_<;>intro h33 q33
 exfalso;have:=q33;omega
 refine ac ?_
 refine wk [145] rfl ?_
 refine Tr.cn rfl ?_ ?_<;>intro h34 q34
 exfalso;have:=q34;omega
 refine a3 ?_
 · exact Lr
abbrev pO:Pr:=Cp.ex fun n:Int=>fact (0≤n∧n<4294967296) (is (.int .u32 n))
abbrev AAA:Pr:=Cp.ex fun n:Int=>fact (0≤n∧n<4294967296) (int n)
theorem pP:Pr.le pO (K9 .u32):=fun _ _ _ ⟨n,_,h⟩=>⟨n,h⟩
section
variable {P:Program} {I:CS} {E:Env} {o:Oper}
theorem ig {s t:TypeId} {x:Operand} {k k':IntKind} (ho:o.op= .convert s t x) (hs:P.underlying s=some (.int k)) (ht:P.underlying t=some (.int k')) (hx:VL E x (K9 k)):Ad P I o E (K9 k'):=
 Ad.same fun M w a he _=>by
  obtain ⟨n,h1⟩:=hx.ev he Ap
  have h1:a.eval x= .int k n:=h1
  refine ⟨.int k' (k'.wrap n),?_,_,rfl⟩
  simp [execOp,ho,h1,convert,run_underlying hs,run_underlying ht,Conv.intToInt,Sem.run_bind]
theorem pQ {t u:TypeId} {x y:Operand} (ho:o.op= .binOp .mul t x y u) (hx:VL E x (K9 .u32)) (hy:VL E y (K9 .u32)):Ad P I o E pO:=
 Ad.same fun M w a he _=>by
  obtain ⟨m,h1⟩:=hx.ev he Ap
  obtain ⟨n,h2⟩:=hy.ev he Ap
  have h1:a.eval x= .int .u32 m:=h1
  have h2:a.eval y= .int .u32 n:=h2
  refine ⟨.int .u32 (IntKind.u32.wrap (m*n)),by simp [execOp,ho,h1,h2,eqGuard,binOp,Op.intArith],_,?_,rfl⟩
  rw [IntKind.wrap_u32];omega
theorem cH {s t:TypeId} {x:Operand} (ho:o.op= .convert s t x) (hs:P.underlying s=some (.int .u32)) (ht:P.underlying t=some (.int .i64)) (hx:VL E x pO):Ad P I o E AAA:=
 Ad.same fun M w a he _=>by
  obtain ⟨n,hn,h1⟩:=hx.ev he Ap
  have h1:a.eval x= .int .u32 n:=h1
  refine ⟨.int .i64 (IntKind.i64.wrap n),?_,n,hn,by rw [G7 Lp];rfl⟩
  simp [execOp,ho,h1,convert,run_underlying hs,run_underlying ht,Conv.intToInt,Sem.run_bind]
end
theorem BD.Jf {P:Program} {f:FuncId} {row:List Pr} (h:∀m,m≤20→BD P f [slice 4 (List.replicate m row)] (slice 4 (List.replicate m row))):BD P f [Go.Proofs.YtmocaapoeefgkaaGreatDoor.Jf row] (Go.Proofs.YtmocaapoeefgkaaGreatDoor.Jf row):=by
 refine ⟨(h 0 AA).1,fun M w vs hb hv=> ?_⟩
 match vs,hv with
 |[u0],WD=>
  obtain ⟨⟨m,hm,h0⟩,_⟩:=WD
  exact ((h m hm).2 M w [u0] hb ⟨h0,trivial⟩).mono fun e w' ⟨v,h1,h2,h3⟩=>⟨v,h1,⟨m,hm,h2⟩,h3⟩
theorem BD.E5 {P:Program} {f:FuncId} {B:Nat} {res:Pr} (h:∀m,m≤B→BD P f [Zf m] res):BD P f [Go.Proofs.YtmocaapoeefgkaaGreatDoor.E5 B] res:=by
 refine ⟨(h 0 AA).1,fun M w vs hb hv=> ?_⟩
 match vs,hv with
 |[u0],WD=>
  obtain ⟨⟨m,hm,h0⟩,_⟩:=WD
  exact (h m hm).2 M w [u0] hb ⟨h0,trivial⟩
abbrev MZ:Pr:=Jf (BZ q0)
abbrev qA2:Pr:=Jf (BZ MZ)
theorem Nw:Pr.le q0 MZ:=DA 0 (CO AA (Pr.le_refl _))
theorem rc0:BD Tryz.prog 291 [q0] q0:=M9 (m:=0) (q:=q0) AA (.inl rfl)
theorem rc1 (m:Nat) (hm:m≤20):BD Tryz.prog 291 [slice 4 (List.replicate m (BZ q0))] (slice 4 (List.replicate m (BZ q0))):=M9 hm (.inr rc0)
theorem rc2 (m:Nat) (hm:m≤20):BD Tryz.prog 291 [slice 4 (List.replicate m (BZ MZ))] (slice 4 (List.replicate m (BZ MZ))):=M9 hm (.inr (BD.Jf rc1))
theorem rf0:BD Tryz.prog 258 [agg (BZ q0)] Tm:=BD.iX fun t b n hb=>M8 (m:=0) (q:=q0) hb AA (.inl rfl)
theorem rf1:BD Tryz.prog 258 [agg (BZ MZ)] Tm:=BD.BZ fun t b n m hb hm=>M8 hb hm (.inr rf0)
theorem rf2:BD Tryz.prog 258 [agg (BZ qA2)] Tm:=BD.BZ fun t b n m hb hm=>M8 hb hm (.inr rf1)
theorem rd0:BD Tryz.prog 259 [agg (BZ q0)] (LG 1):=BD.iX fun t b n hb=>QA (m:=0) (q:=q0) (D:=0) hb AA AA (.inl rfl)
theorem rd1:BD Tryz.prog 259 [agg (BZ MZ)] (LG 2):=BD.BZ fun t b n m hb hm=>QA hb hm AA (.inr rd0)
theorem rd2:BD Tryz.prog 259 [agg (BZ qA2)] (LG 3):=BD.BZ fun t b n m hb hm=>QA hb hm AA (.inr rd1)
theorem rp0:BD Tryz.prog 260 [agg (BZ q0)] (E5 2002):=BD.iX fun t b n hb=>XO (m:=0) (q:=q0) (B:=0) hb AA AA (.inl rfl)
theorem rp1:BD Tryz.prog 260 [agg (BZ MZ)] (E5 82082):=BD.BZ fun t b n m hb hm=>XO (B:=2002) hb hm AA (.inr rp0)
theorem rp2:BD Tryz.prog 260 [agg (BZ qA2)] (E5 3285282):=BD.BZ fun t b n m hb hm=>XO (B:=82082) hb hm AA (.inr rp1)
theorem rE2:BD Tryz.prog 225 [agg (BZ qA2)] (F8 [E5 3285282,K9 .i64]):=cF rf2 rd2 rp2
structure HR.cI (c:HR):Prop where
 Jc:c.Jc≤1099511627776
 El:c.El≤2147483648
 RG:0≤c.RG∧c.RG≤40000
 Kr:0≤c.Kr∧c.Kr≤40000
 XI:0≤c.XI∧c.XI≤40000
 P9:0≤c.P9∧c.P9≤40000
theorem KC {s:List UInt8} (h:named s=true):s.length≤32:=by unfold named at h;simp at h;omega
theorem Zk {a b:Int} (ha:0≤a∧a≤40000) (hb:0≤b∧b≤40000):BD prog 264 [agg [int a,int b]] (agg (BZ MZ)):=by
 refine fo func264 rfl ⟨rfl,rfl⟩ fun M0 w0=>(Tr.seq (Tr.A0 (tp rfl (Cq rfl (Va rfl)) ?_)))
 refine Tl rfl rfl rfl rfl M4 Ko (fun b1=> ?_)
 refine ap ?_
 refine Tr.seq (Tr.rx ?_)
 refine ay ?_
 refine xo rfl (fun _=>C8 (LH AA) rfl rfl) ?_
 refine ay ?_
 refine xo rfl (fun _=>C8 (LH AA) rfl rfl) (xo rfl (fun _=>AQ (xs:=[.tmp 5,.tmp 8]) (rows:=[_,_]) rfl rfl underlying283 CU M4 rfl AB ⟨⟨Ab,(Va rfl)⟩,⟨⟨Ab,(Va rfl)⟩,trivial⟩⟩ AB) ?_)
 refine xo rfl (fun _=>AZ rfl (Tp (m:=2) (q:=q0) AA (rc1 _ AA)) ⟨(Kf rfl),trivial⟩) ?_
 refine Cx.Ee 0 rfl rfl (A9 rfl rfl (vl rfl) (Va rfl) CU rfl Al rfl) ?_
 refine Cx.nil ⟨by kernel_rfl,?_⟩
 refine BW.done al1 (Fin.go (Tr.ret (Fin.Dn rfl (A7.cell 0 rfl rfl DD CU rfl Lr) ?_)))
 · exact Lr
theorem ij {c:HR} (hv:Cr c=true) (ht:c.cI):BD prog 226 [agg (DF c)] (agg (BZ qA2)):=by
 refine fo func226 rfl ⟨rfl,rfl⟩ fun M0 w0=> ?_
 obtain ⟨hs0,hs1,uk,hsub,hnm,hkey,hk0,hk1,sJ,ADc,ADd,ADe,ADf,eP,hft,ht1,hp0,bU,hap⟩:=JH hv
 obtain ⟨g1,g2,g3,g4,g5,g6⟩:=ht
 have M_:=hnm
 unfold E3 at M_
 rw [Bool.and_eq_true,Br,decide_eq_true_eq] at M_
 obtain ⟨hall,z_⟩:=M_
 have ZD:=KC uk
 have mP:=KC hsub
 refine Tr.seq (Tr.A0 (tp rfl (Cq rfl (Va rfl)) ?_))
 refine Tl rfl rfl rfl rfl M4 Ko (fun b1=> ?_)
 refine ap ?_
 refine a2 ?_
 refine Tr.block (Tr.CB 285 4 (Tr.Ez _ (kk [2,1] rfl) (fun k v=>[(4,int ((k:Nat):Int)),(3,Ae v (slice 4 (List.replicate k (BZ q0))))]) (fun k v=>Hp M0 w0 II ([As 285 4 v,AE true b1 285 (([.int .i64 0,.slice none 0 0,.bool false,.slice none 0 0]:List Value).map is)])) (fun k:Nat=>k≤(c.names).length) (fun k:Nat=>(c.names).length-k) 0 (.slice none 0 0) (Nat.zero_le _) ⟨ke rfl,⟨_,rfl,Bu rfl⟩,trivial⟩ (fun _ _ h=>h) ?_))
 rintro k v BK
 refine an ?_ ?_<;>intro h1 q1
 have Aa:k<(c.names).length:=AH h1
 obtain ⟨s,AX⟩:=at_ Aa
 have hsn:=KC (Tq (hall k AA) AX)
 refine ac ?_
 refine ap ?_
 refine tp rfl (AD rfl underlying127 LZ (vl rfl) (vl rfl) AA Bl) ?_
 refine tp rfl (GI rfl OA rfl) (tp rfl (C8 (To AA) rfl rfl) (tp rfl (AQ (xs:=[.tmp 18]) (rows:=[_]) rfl rfl underlying283 CU M4 rfl AB ⟨⟨Ab,(Va rfl)⟩,trivial⟩ AB) ?_))
 refine TO.Ef 0 rfl rfl AB (CN rfl rfl rfl rfl underlying283 CU ru M4 (Kb rfl) (Kf rfl) (BQ BI (Ka rfl))) (fun v1=> ?_)
 refine ap ?_
 refine wk [4,3,2,1] rfl ?_
 refine ac ?_
 exact Fin.Dm (k+1) v1 (⟨Aa,by omega⟩) ⟨⟨_,rfl,AF k⟩,⟨_,rfl,BU (by rw [Zg])⟩,kz⟩ (fun _ _ h=>h)
 have Az:k=(c.names).length:=by have:=AJ h1;omega
 refine ac ?_
 refine Tr.seq (Tr.rx ?_)
 refine ay ?_
 refine xo rfl (fun _=>C8 (LH AA) rfl rfl) ?_
 refine ay ?_
 refine xo rfl (fun _=>C8 (To AA) rfl rfl) ?_
 refine ay ?_
 refine xo rfl (fun _=>C8 (To AA) rfl rfl) ?_
 refine ay ?_
 refine xo rfl (fun _=>C8 (Zk g3 g4) rfl rfl) ?_
 refine ay ?_
 refine xo rfl (fun _=>C8 (LH AA) rfl rfl) ?_
 refine ay ?_
 refine xo rfl (fun _=>C8 (Zk g5 g6) rfl rfl) ?_
 refine ay ?_
 refine xo rfl (fun _=>C8 (LH AA) rfl rfl) ?_
 refine ay ?_
 refine xo rfl (fun _=>C8 (LH AA) rfl rfl) ?_
 refine ay ?_
 refine xo rfl (fun _=>C8 (pN) rfl rfl) ?_
 refine ay ?_
 refine xo rfl (fun _=>C8 (LH AA) rfl rfl) (xm rfl ?_)
 refine xo rfl (fun _=>AZ rfl (Tp (m:=c.names.length) (q:=q0) AA (rc1 _ AA)) ⟨⟨_,rfl,Pr.le_trans (A_ _ _) (Pr.le_of_eq (by rw [Az]))⟩,trivial⟩) ?_
 refine xo rfl (fun _=>AQ (xs:=[.tmp 23,.tmp 26,.tmp 29,.tmp 32,.tmp 35,.tmp 38,.tmp 41,.tmp 44,.tmp 47,.tmp 50,.tmp 52]) (rows:=[BZ MZ,BZ MZ,BZ MZ,BZ MZ,BZ MZ,BZ MZ,BZ MZ,BZ MZ,BZ MZ,BZ MZ,BZ MZ]) rfl rfl underlying283 CU M4 rfl AB ⟨⟨Ab,VL.le (vl rfl) (Pr.le_trans (Bv (qs:=BZ MZ) ⟨Lr,Lr,Lr,Nw,trivial⟩) (AW _))⟩,⟨⟨Ab,VL.le (vl rfl) (Pr.le_trans (Bv (qs:=BZ MZ) ⟨Lr,Lr,Lr,Nw,trivial⟩) (AW _))⟩,⟨⟨Ab,VL.le (vl rfl) (Pr.le_trans (Bv (qs:=BZ MZ) ⟨Lr,Lr,Lr,Nw,trivial⟩) (AW _))⟩,⟨⟨Ab,VL.le (vl rfl) (AW _)⟩,⟨⟨Ab,VL.le (vl rfl) (Pr.le_trans (Bv (qs:=BZ MZ) ⟨Lr,Lr,Lr,Nw,trivial⟩) (AW _))⟩,⟨⟨Ab,VL.le (vl rfl) (AW _)⟩,⟨⟨Ab,VL.le (vl rfl) (Pr.le_trans (Bv (qs:=BZ MZ) ⟨Lr,Lr,Lr,Nw,trivial⟩) (AW _))⟩,⟨⟨Ab,VL.le (vl rfl) (Pr.le_trans (Bv (qs:=BZ MZ) ⟨Lr,Lr,Lr,Nw,trivial⟩) (AW _))⟩,⟨⟨Ab,VL.le (vl rfl) (Pr.le_trans (Bv (qs:=BZ MZ) ⟨Lr,Lr,Lr,Nw,trivial⟩) (AW _))⟩,⟨⟨Ab,VL.le (vl rfl) (Pr.le_trans (Bv (qs:=BZ MZ) ⟨Lr,Lr,Lr,Nw,trivial⟩) (AW _))⟩,⟨⟨Ab,VL.le (vl rfl) (AW _)⟩,trivial⟩⟩⟩⟩⟩⟩⟩⟩⟩⟩⟩ AB) ?_
 refine xo rfl (fun _=>AZ rfl (Tp (m:=11) (q:=MZ) AA (rc2 _ AA)) ⟨(Kf rfl),trivial⟩) ?_
 refine Cx.Ee 1 rfl rfl (A9 rfl rfl (vl rfl) (Va rfl) CU rfl Al rfl) ?_
 refine Cx.nil ⟨by kernel_rfl,?_⟩
 refine BW.done al2 (Fin.go (wk [2] rfl (Tr.ret (Fin.Dn rfl (A7.cell 1 rfl rfl DD CU rfl Lr) ?_))))
 · exact Lr
theorem cJ {c:HR} (hv:Cr c=true) (ht:c.cI):BD prog 189 [agg (DF c)] (F8 [E5 3285282,K9 .i64]):=by
 refine fo func189 rfl ⟨rfl,rfl⟩ fun M0 w0=> ?_
 refine a2 ?_
 refine co rfl (C8 (Rs hv) rfl rfl) ?_
 refine an ?_ ?_<;>intro h1 q1
 exact absurd h1 AB
 refine a2 ?_
 refine co rfl (C8 (ij hv ht) rfl rfl) (co rfl (C8 (rE2) rfl rfl) ?_)
 refine ac ?_
 refine Tr.ret (Fin.DO rfl (Bm.Dw _ _) rfl ?_ rfl ?_)
 · exact Lr
 · exact Lr
theorem pR {m:Nat} (hm:m≤100000000):BD prog 190 [Zf m] (AAA):=by
 refine fo func190 rfl ⟨rfl,rfl⟩ fun M0 w0=> ?_
 have hlr:(List.replicate m Rp).length=m:=List.length_replicate
 refine a3 ?_
 refine Tr.block (Tr.Ax _ (kk [0] rfl) (fun k:Nat=>[(4,int ((k:Nat):Int)),(3,pO)]) (fun k:Nat=>k≤((List.replicate m Rp).length)) (fun k:Nat=>((List.replicate m Rp).length)-k) 0 (Nat.zero_le _) ⟨kq,⟨_,rfl,DA _ (CO AA Lr)⟩,trivial⟩ ?_)
 rintro k BK
 refine ac ?_
 refine co rfl (B7 rfl underlying241 vq) ?_
 refine an ?_ ?_<;>intro h1 q1
 have Aa:k<((List.replicate m Rp).length):=AH h1
 have hkm:k<m:=by simpa using Aa
 refine a2 ?_
 refine co rfl (AD rfl underlying241 LY vq vq AA (Jg hkm)) (co rfl (GI rfl xp rfl) (co rfl (ig rfl underlying5 underlying180 vq) (co rfl (oa AB rfl (VL.le vq pP) vq) (co rfl (pQ rfl vq (VL.le vq (EE _ _))) ?_))))
 refine ac ?_
 refine wk [4,3,0] rfl ?_
 refine ac ?_
 exact Fin.AM (k+1) ⟨Aa,by omega⟩ ⟨⟨_,rfl,AF k⟩,kz⟩
 have Az:k=((List.replicate m Rp).length):=by have:=AJ h1;omega
 refine a2 ?_
 refine co rfl (cH rfl underlying180 underlying3 vq) ?_
 refine a2 ?_
 · exact Lr
theorem iq {c:HR} (hn:c.names.length≤1000):BD prog 187 [agg (DF c)] (agg (DF c)):=by
 refine fo func187 rfl ⟨rfl,rfl⟩ fun M0 w0=>(Tr.seq (Tr.A0 ?_))
 refine TO.S6 rfl rfl AB rfl LD (fun b1=> ?_)
 refine Tl rfl rfl rfl rfl Pp Kn (fun b2=> ?_)
 refine ap ?_
 refine ap ?_
 refine TO.pad ?_
 refine TO.Ef 0 rfl rfl AB (CN rfl rfl rfl rfl underlying127 LZ by9 z9 Gx vq (B_ BI vq)) (fun v1=> ?_)
 refine ap ?_
 refine ap ?_
 refine Tr.drop 2 (Tr.ret (Fin.Dn rfl (A7.cell 1 rfl rfl FM C6 rfl Lr) ?_))
 · exact Bv ⟨Lr,Lr,Lr,Lr,Lr,Lr,Lr,Lr,Lr,Lr,Lr,Lr,Pr.le_trans (A_ _ _) (Pr.le_of_eq AO),Lr,Lr,trivial⟩
abbrev QC (c:HR) (key s:Int):HR:=⟨c.Jc,c.LF,c.Ig,c.RG,c.Kr,c.El,c.XI,c.P9,c.from_,c.to_,c.auth,c.path,c.names,key,s⟩
theorem ir {c:HR} {key:Int} (hv:Cr (QC c 0 0)=true) (ht:(QC c 0 0).cI) (hk:0≤key∧key≤2147483648):BD prog 147 [agg (DF c),int key] (Cp.ex fun s:Int=>fact (0≤s∧s<4294967296) (F8 [agg (DF (QC c key s)),int 0])):=by
 refine BD.of func147 rfl rfl Al fun M0 w0=> ?_
 have hnn:c.names.length≤1000:=by have:=(JH hv).nm;unfold E3 at this;simp at this;omega
 refine Tr.seq (Tr.A0 ?_)
 refine TO.S6 rfl rfl AB rfl (Va rfl) (fun b1=> ?_)
 refine Tl rfl rfl rfl rfl Pp Kn (fun b2=> ?_)
 refine tm rfl (TO.nil (Fin.go (Tr.seq (Tr.A0 (TO.rd 1 rfl rfl rfl AB (D3 rfl FM C6 (vl rfl) rfl rfl) ?_)))))
 refine tp rfl (AZ rfl (iq (c:=c) hnn) ⟨ke rfl,trivial⟩) ?_
 refine TO.Aj 1 rfl rfl rfl (vl rfl) (Va rfl) rfl C6 rfl rfl (TO.nil (Fin.go (Tr.seq (Tr.A0 (tp rfl (Ar (rows:=[]) rfl rZ rj trivial rfl) (tp rfl (AY rfl Pq (vl rfl)) (TO.Ee 1 rfl rfl (A9 rfl rfl (vl rfl) (Va rfl) gP rfl Al rfl) (TO.nil (Fin.go (Tr.seq (Tr.seq (Tr.Ah (co rfl (CY 1 rfl (D3 rfl FM C6 (vl rfl) rfl rfl)) ?_)))))))))))))
 refine co rfl (AZ rfl (Rs (c:=QC c 0 0) hv) ⟨ke rfl,trivial⟩) ?_
 refine co rfl (ki rfl rfl rfl rfl) (cm rfl ?_)
 refine Ch.cs 15 rfl ?_ ?_<;>intro h1 q1
 exact absurd h1 AB
 refine HZ h1 rfl (cy h1 rfl (ki rfl rfl rfl rfl) (co rfl (LX rfl rfl h1 rfl) (cm rfl ?_)))
 refine Ch.cs 19 rfl ?_ ?_<;>intro h2 q2
 exfalso;have:=q2;omega
 refine HZ h2 rfl (cy h2 rfl (ki rfl rfl rfl rfl) (co rfl (LX rfl rfl h2 rfl) (Ch.nil (Fin.go (PZ 1 2 4 22 rfl ?_)))))
 refine Tr.cn rfl ?_ ?_<;>intro h3 q3
 exfalso;have:=q3;omega
 refine Tr.skip (Fin.go (Tr.seq (Tr.Ah (co rfl (CY 1 rfl (D3 rfl FM C6 (vl rfl) rfl rfl)) ?_))))
 refine co rfl (AZ rfl (cJ (c:=QC c 0 0) hv ht) ⟨ke rfl,trivial⟩) ?_
 refine cm rfl (co rfl (Ba rfl (vl rfl) rfl) (co rfl (Ba rfl (vl rfl) rfl) (cm rfl (cm rfl (Ch.nil (Fin.go (Tr.seq (Tr.A0 (tm rfl (tm rfl (tp rfl (AZ rfl (BD.E5 fun m hm=>pR AA) ⟨ke rfl,trivial⟩) ?_)))))))))))
 refine TO.ex 31 rfl (fun z31=>TO.fact 31 rfl fun ADg=> ?_)
 refine tp rfl (Ar (rows:=[(0,[_]),(1,[_])]) rfl rZ rj ⟨⟨rfl,(Vo rfl)⟩,⟨⟨rfl,(Vo rfl)⟩,trivial⟩⟩ rfl) (tp rfl (AY rfl Pq (vl rfl)) (TO.Ee 1 rfl rfl (A9 rfl rfl (vl rfl) (Va rfl) gP rfl Al rfl) (TO.nil (Fin.go (Ki 2 4 rfl (Tr.seq (Tr.A0 (TO.rd 1 rfl rfl rfl AB (D3 rfl FM C6 (vl rfl) rfl rfl) (TO.Aj 0 rfl rfl rfl (vl rfl) (Va rfl) rfl C6 rfl rfl (tm rfl (TO.nil (Fin.go (Tr.drop 1 (Tr.ret ?_))))))))))))))
 refine Fin.GJ rfl (A7.cell 0 rfl rfl FM C6 rfl (Lr)) (A7.tmp rfl (Lr)) ?_
 · exact DA z31 (CO ADg (Lr))
abbrev Ji (name:List UInt8) (a b id to key s:Int):HR:=⟨id,[114,111,111,116],name,a,b,id,3,0,0,to,false,0,[name],key,s⟩
abbrev FX (name:List UInt8) (a b id to key s:Int):U8:=⟨a,b,id,[Ji name a b id to key s]⟩
abbrev iw (name:List UInt8) (a b id to key:Int):Pr:=Cp.ex fun s:Int=>fact (0≤s∧s<4294967296) (agg (Ks (FX name a b id to key s)))
theorem Zl   :BD prog 89 [] (agg [int 5,int 2048]):=by
 refine fo func89 rfl ⟨rfl,rfl⟩ fun M0 w0=>(Tr.seq (Tr.A0 ?_))
 refine Tl rfl rfl rfl rfl JR EB (fun b1=> ?_)
 refine ap ?_
 refine ap ?_
 refine Tr.ret (Fin.Dn rfl (A7.cell 0 rfl rfl CL Dc rfl Lr) ?_)
 · exact Lr
theorem AAB   :BD prog 93 [] (agg [int 7,int 256]):=by
 refine fo func93 rfl ⟨rfl,rfl⟩ fun M0 w0=>(Tr.seq (Tr.A0 ?_))
 refine Tl rfl rfl rfl rfl JR EB (fun b1=> ?_)
 refine ap ?_
 refine ap ?_
 refine Tr.ret (Fin.Dn rfl (A7.cell 0 rfl rfl CL Dc rfl Lr) ?_)
 · exact Lr
theorem QD {name:List UInt8} {a b id to key:Int} (hv:Cr (Ji name a b id to 0 0)=true) (ht:(Ji name a b id to 0 0).cI) (hk:0≤key∧key≤2147483648):BD prog 88 [str name,agg [int a,int b],int id,int key,int to] (iw name a b id to key):=by
 refine fo func88 rfl ⟨rfl,rfl⟩ fun M0 w0=>(Tr.seq (Tr.A0 (tp rfl (Cq rfl LD) ?_)))
 refine Tl rfl rfl rfl rfl nH TK (fun b1=> ?_)
 refine ap ?_
 refine ap ?_
 refine tp rfl (Ar (rows:=[(0,[_]),(1,[_]),(2,[_]),(3,_),(4,[_]),(5,_),(7,[_]),(10,[_])]) rfl yN Kn ⟨⟨rfl,DK⟩,⟨⟨rfl,DK⟩,⟨⟨rfl,DK⟩,⟨⟨rfl,LD⟩,⟨⟨rfl,DK⟩,⟨⟨rfl,LD⟩,⟨⟨rfl,DK⟩,⟨⟨rfl,⟨_,rfl,Pr.le_trans (BA _ _) (AP _)⟩⟩,trivial⟩⟩⟩⟩⟩⟩⟩⟩ rfl) (TO.re 20 (agg (DF (Ji name a b id to 0 0))) rfl (Pr.le_of_eq rfl) ?_)
 refine Tl rfl rfl rfl rfl Pp Kn (fun b2=> ?_)
 refine ap ?_
 refine wk [11,10,6,3,2] rfl ?_
 refine ap ?_
 refine tp rfl (C4 (ir (c:=Ji name a b id to 0 0) hv ht hk) rfl rfl rfl) ?_
 refine TO.ex 24 rfl (fun z24=>TO.fact 24 rfl fun ADh=> ?_)
 refine ap ?_
 refine ap ?_
 refine tp rfl (Ar (rows:=[(0,_),(1,[_]),(2,[_])]) rfl x_ TK ⟨⟨rfl,LD⟩,⟨⟨rfl,DK⟩,⟨⟨rfl,⟨_,rfl,Pr.le_trans (BA _ _) (AP _)⟩⟩,trivial⟩⟩⟩ rfl) ?_
 refine ap ?_
 refine Tr.drop 0 (wk [10] rfl (Tr.ret (Fin.Dn rfl (A7.cell 0 rfl rfl Up JS rfl Lr) ?_)))
 · exact DA z24 (CO ADh Lr)
def Jj (s:DS) (l:List (List UInt8)):List UInt8:=(l[(s.val l.length).toNat]?).getD []
theorem VB {b:Nat} {s:DS} {l:List (List UInt8)} (hl:l≠[]) (hl2:l.length≤1000000000):BR prog 91 [ptr b 0,bf l] (str (Jj s l)) (CG b s) (fun _=>CG b s.BV):=by
 refine BR.of func91 rfl rfl Al fun M0 w0 S rs M1 w1=> ?_
 have hl0:1≤(l.length:Int):=by have:=List.length_pos_iff.2 hl;omega
 have hv:=s.Bi hl0
 obtain ⟨x,hx⟩:=at_ (l:=l) (k:=(s.val l.length).toNat) AA
 refine ac ?_
 refine ap ?_
 refine TO.EV 0 rfl rfl AB (AU rfl rfl AB rfl (A8 AA AA) ⟨kq,kz⟩) (tp rfl (AD rfl underlying127 LZ vq vq AA (Bt hx)) ?_)
 refine ap ?_
 refine Tr.ret (Fin.Cb [] rfl (A7.tmp rfl Lr) ?_ (fun _ _ _ _=>rfl))
 · refine Pr.le_of_eq ?_;unfold Jj;rw [hx];rfl
def E9:List (List UInt8):=[[97,112,112],[100,98],[119,101,98]]
def OD:List (List Int):=[[10,8,2],[8,2],[2,10,8,3]]
def LI (i:Int):List Int:=(OD[i.toNat]?).getD []
theorem pS {i:Int} (h:0≤i∧i<3):(OD.map fun l=>[ints l])[i.toNat]? =some [ints (LI i)]:=by
 have hl:i.toNat<OD.length:=by show i.toNat<3;omega
 unfold LI
 rw [List.getElem?_map,List.getElem?_eq_getElem hl];rfl
theorem VC {i:Int} (h:0≤i∧i<3):LI i∈OD:=by
 have hl:i.toNat<OD.length:=by show i.toNat<3;omega
 unfold LI
 rw [List.getElem?_eq_getElem hl];exact List.getElem_mem hl
structure XP (i:Nat) (e:E4):Prop where
 name:E9[i]? =some e.name
 least:e.least=1
 most:e.most=3∨e.most=4
 B6:e.B6∈OD∨∃l∈OD,e.B6=14::l
 ids:∃s:Int,(0≤s∧s<4294967296)∧e.ids=[FX e.name 5 2048 (100+(i:Nat)) 901 1 s]
 anchors:e.anchors=[1]
 hashes:e.hashes=[2,3]
def cL (es:List E4):Prop:=∀(i:Nat) e,es[i]? =some e→XP i e
theorem VD {es:List E4} {e:E4} (h:cL es) (he:XP es.length e):cL (es++[e]):=by
 intro i x hx
 rcases Nat.lt_or_ge i es.length with hi|hi
 · rw [List.getElem?_append_left hi] at hx;exact h i x hx
 ·
  rcases Nat.eq_or_lt_of_le hi with hi|hi
  · subst hi;rw [List.getElem?_append_right (Nat.le_refl _),Nat.sub_self] at hx;simp at hx;subst hx;exact he
  · rw [List.getElem?_eq_none B1] at hx;cases hx
theorem Ts {nm:List UInt8} {k:Nat} (h:E9[k]? =some nm) {s:Int} (hs:0≤s∧s<4294967296) {key:Int} (hk:0≤key∧key≤2):Cr (Ji nm 5 2048 (100+(k:Nat)) 901 key s)=true:=by
 have hlt:k<3:=BP h
 have hn:named nm=true:=by
  have hm:=List.mem_of_getElem? h
  revert hm;unfold E9;intro hm;simp at hm
  rcases hm with rfl|rfl|rfl<;>decide
 refine Zi ⟨?_,?_,by show named [114,111,111,116]=true;decide,hn,?_,by show HY 5 2048 2=true;decide+kernel,?_,?_,by show HY 3 0 1=true;decide+kernel,hk.1,?_,hs.1,hs.2,by show (0:Int)≤0;omega,by show (0:Int)≤901;omega,by show (901:Int)≤40000;omega,by show (0:Int)≤0;omega,by show (0:Int)≤8;omega,.inr rfl⟩
 · show 0≤(100:Int)+(k:Nat);omega
 · show (100:Int)+(k:Nat)≤_;omega
 ·
  show E3 [nm]=true
  unfold E3;rw [Bool.and_eq_true];refine ⟨Br.2 fun j hj=> ?_,by simp⟩
  have:j=0:=by simp at hj;omega
  subst this;unfold nameAt;simp [hn]
 · show 0≤(100:Int)+(k:Nat);omega
 · show (100:Int)+(k:Nat)≤_;omega
 · show key≤_;omega
theorem Rt {nm:List UInt8} {k:Nat} (h:k<3):(Ji nm 5 2048 (100+(k:Nat)) 901 0 0).cI:=
 ⟨by show (100:Int)+(k:Nat)≤1099511627776;omega,by show (100:Int)+(k:Nat)≤2147483648;omega,⟨by show (0:Int)≤5;omega,by show (5:Int)≤40000;omega⟩,⟨by show (0:Int)≤2048;omega,by show (2048:Int)≤40000;omega⟩,⟨by show (0:Int)≤3;omega,by show (3:Int)≤40000;omega⟩,⟨by show (0:Int)≤0;omega,by show (0:Int)≤40000;omega⟩⟩
theorem iz {β:Type} {l:List β} {n k:Nat} {x:β} (h:(l.take n)[k]? =some x):l[k]? =some x:=by
 have hlt:=BP h
 rw [List.length_take] at hlt
 rw [List.getElem?_take,if_pos AA] at h;exact h
theorem i6 (i:Int):(LI i).length≤4:=by
 unfold LI
 cases h:OD[i.toNat]? with
 |none=>show 0≤4;omega
 |some l=>
  have hm:=List.mem_of_getElem? h
  show l.length≤4
  unfold OD at hm;simp at hm
  rcases hm with rfl|rfl|rfl<;>simp
theorem um (s:DS):s.of [3,3,4]=3∨s.of [3,3,4]=4:=by have:=s.K4 (l:=[3,3,4]) AO;simp at this;exact this
abbrev AAC:List (List Int):=OD++OD.map (14:: ·)
theorem HF {i:Nat} {e:E4} (h:XP i e):e.B6∈AAC:=by
 rcases h.B6 with h|⟨l,h,h2⟩
 · exact List.mem_append_left _ h
 · rw [h2];exact List.mem_append_right _ (List.mem_map_of_mem h)
theorem Og:∀l∈AAC,Fq l=true∧l.length≤5:=by decide+kernel
theorem Oh:∀n∈E9,JK n=true∧n.length≤3:=by decide+kernel
theorem pT:[2,3].all Jd=true:=by decide+kernel
theorem pU:HY 5 2048 2=true:=by decide+kernel
theorem i7 {nm:List UInt8} {k:Nat} {id:Int} (h:E9[k]? =some nm) (hid:id=100+(k:Nat)) {s:Int} (hs:0≤s∧s<4294967296):bh (FX nm 5 2048 id 901 1 s)=true:=by
 subst hid
 have hk:k<3:=BP h
 have hv:=Ts h hs (key:=1) AA
 have hk2:Fw (100+(k:Nat))=true:=by unfold Fw;simp;omega
 unfold bh P_;simp only [pU,hk2,List.all_cons,List.all_nil,hv];simp
theorem pV {i:Nat} {e:E4} (h:XP i e):sI e:=by
 have hn:=Oh _ (List.mem_of_getElem? h.name)
 have hs:=Og _ (HF h)
 obtain ⟨s,hs1,Za⟩:=h.ids
 have hm:=h.most;have hl:=h.least
 refine ⟨hn.1,by omega,by omega,by omega,hs.1,by rw [Za];simp,by rw [h.anchors];simp,by rw [h.anchors];decide,by rw [h.hashes];decide,?_,by rw [h.anchors];decide,by rw [h.hashes];exact pT⟩
 rw [Za];simp only [List.all_cons,List.all_nil,i7 h.name rfl hs1,Bool.and_self]
theorem Ru {i:Nat} {e:E4} (h:XP i e):e.fits:=by
 have hn:=Oh _ (List.mem_of_getElem? h.name)
 obtain ⟨s,hs1,Za⟩:=h.ids
 refine ⟨by unfold maxLen;omega,fun x hx c hc=> ?_⟩
 rw [Za] at hx;simp at hx;subst hx;simp at hc;subst hc
 exact ⟨by show 4≤maxLen;unfold maxLen;omega,by show e.name.length≤maxLen;unfold maxLen;omega,fun n hn2=>by simp at hn2;subst hn2;unfold maxLen;omega⟩
theorem QE {i:Nat} {e:E4} (h:XP i e):e.small:=by
 have hs:=Og _ (HF h)
 obtain ⟨s,hs1,Za⟩:=h.ids
 refine ⟨by omega,by rw [h.anchors];simp,by rw [h.hashes];simp,by rw [Za];simp,fun x hx=> ?_⟩
 rw [Za] at hx;simp at hx;subst hx
 exact ⟨by simp,fun c hc=>by simp at hc;subst hc;simp⟩
theorem eT:SO.fits:=fun c hc=>by cases hc
theorem AAD {v:Int} (h:0≤v∧v<2):([[int 7,int 256],[int 5,int 2048]]:List (List Pr))[v.toNat]? =some [int (if v=0 then 7 else 5),int (if v=0 then 256 else 2048)]:=by
 have:v=0∨v=1:=by omega
 rcases this with rfl|rfl<;>rfl
theorem AAE (v:Int):((if v=0 then 7 else 5:Int)=5∧(if v=0 then 256 else 2048:Int)=2048)∨((if v=0 then 7 else 5:Int)=7∧(if v=0 then 256 else 2048:Int)=256):=by split<;>simp
theorem sK {nm:List UInt8} (h:nm∈E9) {a b id key s:Int} (hab:(a=5∧b=2048)∨(a=7∧b=256)) (hid:0≤id∧id≤1000) (hs:0≤s∧s<4294967296) (hk:0≤key∧key≤2):Cr (Ji nm a b id 901 key s)=true:=by
 have hn:named nm=true:=by
  revert h;unfold E9;intro hm;simp at hm
  rcases hm with rfl|rfl|rfl<;>decide
 have hof:HY a b 2=true:=by rcases hab with ⟨rfl,rfl⟩|⟨rfl,rfl⟩<;>decide+kernel
 refine Zi ⟨?_,?_,by show named [114,111,111,116]=true;decide,hn,?_,hof,?_,?_,by show HY 3 0 1=true;decide+kernel,hk.1,?_,hs.1,hs.2,by show (0:Int)≤0;omega,by show (0:Int)≤901;omega,by show (901:Int)≤40000;omega,by show (0:Int)≤0;omega,by show (0:Int)≤8;omega,.inr rfl⟩
 · show 0≤id;omega
 · show id≤_;omega
 ·
  show E3 [nm]=true
  unfold E3;rw [Bool.and_eq_true];refine ⟨Br.2 fun j hj=> ?_,by simp⟩
  have:j=0:=by simp at hj;omega
  subst this;unfold nameAt;simp [hn]
 · show 0≤id;omega
 · show id≤_;omega
 · show key≤_;omega
theorem sL {nm:List UInt8} {a b id:Int} (hab:(a=5∧b=2048)∨(a=7∧b=256)) (hid:0≤id∧id≤1000):(Ji nm a b id 901 0 0).cI:=
 ⟨by show id≤1099511627776;omega,by show id≤2147483648;omega,⟨by show (0:Int)≤a;omega,by show a≤40000;omega⟩,⟨by show (0:Int)≤b;omega,by show b≤40000;omega⟩,⟨by show (0:Int)≤3;omega,by show (3:Int)≤40000;omega⟩,⟨by show (0:Int)≤0;omega,by show (0:Int)≤40000;omega⟩⟩
structure pW (es:List E4) (c:Bz):Prop where
 lo:0≤c.BJ
 hi:c.BJ<(es.length:Nat)
 kind:1≤c.kind∧c.kind≤12
 fits:c.HS.fits
 small:c.HS.small
abbrev VE (nm:List UInt8) (a b id to key:Int):Pr:=Cp.ex fun s:Int=>fact (0≤s∧s<4294967296) (Nv [Ji nm a b id to key s])
theorem QF {nm:List UInt8} {a b id to key:Int}:(iw nm a b id to key).le (Co [int a,int b,int id,VE nm a b id to key]):=by
 intro M w v ⟨s,hs,hv⟩
 exact (AW [int a,int b,int id,VE nm a b id to key]) M w v (Bv (ps:=Ks (FX nm a b id to key s)) (qs:=[int a,int b,int id,VE nm a b id to key]) ⟨Pr.le_refl _,Pr.le_refl _,Pr.le_refl _,fun M w v h=>⟨s,hs,h⟩,trivial⟩ M w v hv)
theorem XQ {β:Type} {f:β→Pr} {M:Av} {w:World}:∀{ps:List Pr} {cs:List Value},HL M w (ps++[Cp.ex f]) cs→∃s,HL M w (ps++[f s]) cs
 |[],[c],h=>by obtain ⟨⟨s,hs⟩,h2⟩:=h;exact ⟨s,hs,h2⟩
 |[],[],h=>h.elim
 |[],_::_::_,h=>h.2.elim
 |p::ps,[],h=>h.elim
 |p::ps,c::cs,h=>by obtain ⟨s,hs⟩:=XQ (ps:=ps) (cs:=cs) h.2;exact ⟨s,h.1,hs⟩
theorem QG {φ:Prop} {p0:Pr} {M:Av} {w:World}:∀{ps:List Pr} {cs:List Value},HL M w (ps++[fact φ p0]) cs→HL M w (ps++[p0]) cs
 |[],[c],h=>⟨h.1.2,h.2⟩
 |[],[],h=>h.elim
 |[],_::_::_,h=>h.2.elim
 |p::ps,[],h=>h.elim
 |p::ps,c::cs,h=>⟨h.1,QG (ps:=ps) (cs:=cs) h.2⟩
theorem i9 {es:List E4} {p0 p1 p2 p3:Int} {nm:List UInt8} {a b id key:Int} (h:∀s:Int,pW es ⟨p0,p1,p2,p3,FX nm a b id 901 key s⟩):(agg [int p0,int p1,int p2,int p3,int a,int b,int id,VE nm a b id 901 key]).le (Cp.ex fun c:Bz=>fact (pW es c) (agg (DP c))):=by
 intro M w v ⟨cs,h1,h2,h3⟩
 obtain ⟨s,h4⟩:=XQ (ps:=[int p0,int p1,int p2,int p3,int a,int b,int id]) h3
 exact ⟨⟨p0,p1,p2,p3,FX nm a b id 901 key s⟩,h s,cs,h1,h2,QG (ps:=[int p0,int p1,int p2,int p3,int a,int b,int id]) h4⟩
theorem i_ {nm:List UInt8} (h:nm∈E9) {a b id key s:Int}:(FX nm a b id 901 key s).fits∧(FX nm a b id 901 key s).small:=by
 have hn:=(Oh _ h).2
 refine ⟨fun c hc=> ?_,⟨by simp,fun c hc=>by simp at hc;subst hc;simp⟩⟩
 simp at hc;subst hc
 exact ⟨by show 4≤maxLen;unfold maxLen;omega,by show nm.length≤maxLen;unfold maxLen;omega,fun n hn2=>by simp at hn2;subst hn2;unfold maxLen;omega⟩
theorem AAF {b:Nat} {s:DS} {es:List E4} {p1 p2:Pr} (hs:cL es) (hl:1≤es.length∧es.length≤3):BR prog 50 [ptr b 0,agg [slice 9 (es.map Dq),p1,p2]] (Cp.ex fun c:Bz=>fact (pW es c) (agg (DP c))) (CG b s) (fun _=>FK 104 b):=by
 refine BR.of func50 rfl rfl Al fun M0 w0 S rs M1 w1=> ?_
 have hv:=s.Bi (n:=es.length) AA
 obtain ⟨e,he⟩:=at_ (l:=es) (k:=(s.val es.length).toNat) AA
 have hse:=hs _ e he
 have hnm:=List.mem_of_getElem? hse.name
 have jA:=(Og _ (HF hse)).2
 obtain ⟨y0,hy0⟩:∃y0,e.ids=[y0]:=by obtain ⟨s_,_,h_⟩:=hse.ids;exact ⟨_,h_⟩
 have FU:e.ids.length=1:=by rw [hy0];rfl
 have RW:=s.BV.Bi (n:=12) AA
 have hv3:=s.BV.BV.Bi (n:=16) AA
 have hv4:=s.BV.BV.Bi (n:=4) AA
 have hv5:=s.BV.BV.Bi (n:=3) AA
 have hv6:=s.BV.BV.BV.Bi (n:=2) AA
 have hv7:=s.BV.BV.BV.BV.Bi (n:=3) AA
 have hv8:=s.BV.BV.BV.BV.BV.Bi (n:=2) AA
 refine Tr.seq (Tr.A0 (tp rfl (Cq rfl (Va rfl)) ?_))
 refine Tl rfl rfl rfl rfl Km Gz (fun b1=> ?_)
 refine ao ?_
 refine ao ?_
 refine TO.EV 1 rfl rfl AB (AU rfl rfl AB rfl (A8 AA AA) ⟨ke rfl,ke rfl,trivial⟩) ?_
 refine ao ?_
 refine ao ?_
 refine tp rfl (AD rfl underlying27 Gy (vl rfl) (vl rfl) AA (Bt he)) (tp rfl (AK rfl Pk Gy (vl rfl) rfl rfl) ?_)
 refine Tl rfl rfl rfl rfl z40 gI (fun b2=> ?_)
 refine sf 0 6 ⟨rfl,rfl,rfl⟩ rfl rfl rfl rfl ?_
 refine ao ?_
 refine PZ 0 4 5 6 rfl ?_
 refine ao ?_
 refine TO.EV 1 rfl rfl AB (AU rfl rfl AB rfl (A8 AA AA) ⟨ke rfl,ke rfl,trivial⟩) ?_
 refine ao ?_
 refine Tl rfl rfl rfl rfl Km Gz (fun b3=> ?_)
 refine TO.Aj 0 rfl rfl rfl (vl rfl) (Va rfl) rfl Be rfl rfl ?_
 refine ao ?_
 refine a2 ?_
 refine eE 0 4 6 7 24 25 rfl ?_
 refine Tr.cn rfl ?_ ?_<;>intro h1 q1
 refine Tr.rx (xm rfl (Cx.ef 2 rfl rfl AB (AU rfl rfl AB rfl (A8 AA AA) ⟨ke rfl,ke rfl,trivial⟩) ?_))
 refine ay ?_
 refine Cx.ef 2 rfl rfl AB (AU rfl rfl AB rfl (A8 AA AA) ⟨ke rfl,ke rfl,trivial⟩) ?_
 refine ay ?_
 refine Cx.nil ⟨by kernel_rfl,?_⟩
 refine BW.done al4 ?_
 refine ac ?_
 refine Ki 4 7 rfl ?_
 refine ao ?_
 refine TO.Aj 1 rfl rfl rfl (vl rfl) (Va rfl) rfl Be rfl rfl ?_
 refine ao ?_
 refine Tr.drop 0 (Tr.ret (Fin.B4 1 _ rfl rfl (Fin.Cb [_] rfl (A7.cell 0 rfl rfl CT Be rfl (Lr)) ?_ (fun _ _ _ _=>rfl))))
 · exact GG
 refine an ?_ ?_<;>intro h2 q2
 refine ao ?_
 refine TO.EV 2 rfl rfl AB (AU rfl rfl AB rfl (A8 AA AA) ⟨ke rfl,ke rfl,trivial⟩) ?_
 refine ao ?_
 refine TO.Ee 0 rfl rfl (A9 rfl rfl (vl rfl) (Vo rfl) Bg rfl Al rfl) ?_
 refine ao ?_
 refine ao ?_
 refine TO.cases 48 rfl (fun h3=> ?_) (fun h3=> ?_)
 have q3:=Df.EA h3
 refine TO.UR rfl rfl rfl h3 rfl AB (Bw rfl (vl rfl)) (TO.gr 2 rfl rfl rfl h3 rfl rfl AB (AU rfl rfl AB rfl (M7 AA AA) ⟨ke rfl,ke rfl,trivial⟩) (TO.UR rfl rfl rfl h3 rfl AB (F9 rfl (vl rfl)) ?_))
 refine ao ?_
 refine Na 0 4 6 7 52 rfl ?_
 refine Tr.cn rfl ?_ ?_<;>intro h4 q4
 have hv9:=s.BV.BV.BV.BV.Bi (n:=e.B6.length) AA
 obtain ⟨su,hsu⟩:=at_ (l:=e.B6) (k:=(s.BV.BV.BV.BV.val e.B6.length).toNat) AA
 refine Tr.rx ?_
 refine ay ?_
 refine Cx.ef 2 rfl rfl AB (AU rfl rfl AB rfl (A8 AA AA) ⟨ke rfl,ke rfl,trivial⟩) (xo rfl (fun _=>AD rfl underlying22 Bg (vl rfl) (vl rfl) AA (Bt (f:=fun n:Int=>[int n]) hsu)) ?_)
 refine ay ?_
 refine Cx.nil ⟨by kernel_rfl,?_⟩
 refine BW.done al4 ?_
 refine ac ?_
 refine Ki 4 7 rfl ?_
 refine ao ?_
 refine TO.Aj 1 rfl rfl rfl (vl rfl) (Va rfl) rfl Be rfl rfl ?_
 refine ao ?_
 refine Tr.drop 0 (Tr.ret (Fin.B4 1 _ rfl rfl (Fin.Cb [_] rfl (A7.cell 0 rfl rfl CT Be rfl (Lr)) ?_ (fun _ _ _ _=>rfl))))
 · exact GG
 refine ac ?_
 refine ao ?_
 refine TO.Aj 1 rfl rfl rfl (vl rfl) (Va rfl) rfl Be rfl rfl ?_
 refine ao ?_
 refine Tr.drop 0 (Tr.ret (Fin.B4 1 _ rfl rfl (Fin.Cb [_] rfl (A7.cell 0 rfl rfl CT Be rfl (Lr)) ?_ (fun _ _ _ _=>rfl))))
 · exact GG
 have q3:=Df.EA h3
 refine TO.RD rfl rfl rfl (Aw h3) rfl AB (TO.RD rfl rfl rfl (Aw h3) rfl AB (TO.RD rfl rfl rfl (Aw h3) rfl AB ?_))
 refine ao ?_
 refine Na 0 4 6 7 52 rfl ?_
 refine ac ?_
 refine ao ?_
 refine TO.Aj 1 rfl rfl rfl (vl rfl) (Va rfl) rfl Be rfl rfl ?_
 refine ao ?_
 refine Tr.drop 0 (Tr.ret (Fin.B4 1 _ rfl rfl (Fin.Cb [_] rfl (A7.cell 0 rfl rfl CT Be rfl (Lr)) ?_ (fun _ _ _ _=>rfl))))
 · exact GG
 refine an ?_ ?_<;>intro h5 q5
 refine ac ?_
 refine Tr.cond rfl (fun _=> ?_) (fun h=>nomatch h5.symm.trans h)
 refine ao ?_
 refine TO.EV 2 rfl rfl AB (AU rfl rfl AB rfl (A8 AA AA) ⟨ke rfl,ke rfl,trivial⟩) ?_
 refine ao ?_
 refine TO.Ee 0 rfl rfl (A9 rfl rfl (vl rfl) (Vo rfl) Bg rfl Al rfl) ?_
 refine ao ?_
 refine Ki 4 7 rfl ?_
 refine ao ?_
 refine TO.Aj 1 rfl rfl rfl (vl rfl) (Va rfl) rfl Be rfl rfl ?_
 refine ao ?_
 refine Tr.drop 0 (Tr.ret (Fin.B4 1 _ rfl rfl (Fin.Cb [_] rfl (A7.cell 0 rfl rfl CT Be rfl (Lr)) ?_ (fun _ _ _ _=>rfl))))
 · exact GG
 refine an ?_ ?_<;>intro h6 q6
 refine ao ?_
 refine TO.EV 2 rfl rfl AB (AU rfl rfl AB rfl (A8 AA AA) ⟨ke rfl,ke rfl,trivial⟩) ?_
 refine ao ?_
 refine TO.Ee 0 rfl rfl (A9 rfl rfl (vl rfl) (Vo rfl) Bg rfl Al rfl) ?_
 refine ao ?_
 refine Ki 4 7 rfl ?_
 refine ao ?_
 refine TO.Aj 1 rfl rfl rfl (vl rfl) (Va rfl) rfl Be rfl rfl ?_
 refine ao ?_
 refine Tr.drop 0 (Tr.ret (Fin.B4 1 _ rfl rfl (Fin.Cb [_] rfl (A7.cell 0 rfl rfl CT Be rfl (Lr)) ?_ (fun _ _ _ _=>rfl))))
 · exact GG
 refine ac ?_
 refine eE 0 4 6 7 24 70 rfl ?_
 refine Tr.cn rfl ?_ ?_<;>intro h7 q7
 refine Tr.rx ?_
 refine ay ?_
 refine Cx.ef 2 rfl rfl AB (AU rfl rfl AB rfl (A8 AA AA) ⟨ke rfl,ke rfl,trivial⟩) ?_
 refine ay ?_
 refine xo rfl (fun _=>kc0 (AAB) rfl) (xo rfl (fun _=>kc0 (Zl) rfl) (xo rfl (fun _=>AQ (xs:=[.tmp 80,.tmp 81]) (rows:=[_,_]) rfl rfl underlying143 Dc JR rfl AB ⟨⟨Ab,(Va rfl)⟩,⟨⟨Ab,(Va rfl)⟩,trivial⟩⟩ AB) ?_))
 refine xm rfl (Cx.ef 2 rfl rfl AB (AU rfl rfl AB rfl (A8 AA AA) ⟨ke rfl,ke rfl,trivial⟩) (xo rfl (fun _=>AD rfl underlying143 Dc (Kf rfl) (vl rfl) AA (AAD hv6)) ?_))
 refine ay ?_
 refine Cx.ef 2 rfl rfl AB (AU rfl rfl AB rfl (A8 AA AA) ⟨ke rfl,ke rfl,trivial⟩) ?_
 refine ay ?_
 refine Cx.ef 2 rfl rfl AB (AU rfl rfl AB rfl (A8 AA AA) ⟨ke rfl,ke rfl,trivial⟩) ?_
 refine xo rfl (fun _=>Ey rfl (vl rfl) (vl rfl) ?hin) ?_;case hin=>unfold N9;omega
 refine xo rfl (fun _=>kc5 (QD (name:=e.name) (a:=if s.BV.BV.BV.val 2=0 then 7 else 5) (b:=if s.BV.BV.BV.val 2=0 then 256 else 2048) (id:=200+s.BV.BV.BV.BV.val 3) (to:=901) (key:=1+s.BV.BV.BV.BV.BV.val 2) (sK hnm (AAE _) AA AA AA) (sL (AAE _) AA) AA) rfl rfl rfl rfl rfl rfl) ?_
 refine ay ?_
 refine Cx.Ee 0 rfl rfl (A9 rfl rfl (vl rfl) (VL.le (vl rfl) (QF)) JS rfl Al rfl) ?_
 refine Cx.nil ⟨by kernel_rfl,?_⟩
 refine BW.done al4 ?_
 refine ac ?_
 refine Ki 4 7 rfl ?_
 refine ao ?_
 refine TO.Aj 1 rfl rfl rfl (vl rfl) (Va rfl) rfl Be rfl rfl ?_
 refine ao ?_
 refine Tr.drop 0 (Tr.ret (Fin.B4 1 _ rfl rfl (Fin.Cb [_] rfl (A7.cell 0 rfl rfl CT Be rfl (Lr)) ?_ (fun _ _ _ _=>rfl))))
 · exact i9 (fun s_=>⟨hv.1,hv.2,⟨by show 1≤1+_;omega,by show 1+_≤12;omega⟩,(i_ hnm).1,(i_ hnm).2⟩)
 refine an ?_ ?_<;>intro h8 q8
 refine ao ?_
 refine TO.EV 2 rfl rfl AB (AU rfl rfl AB rfl (A8 AA AA) ⟨ke rfl,ke rfl,trivial⟩) ?_
 refine ao ?_
 refine TO.Ee 0 rfl rfl (A9 rfl rfl (vl rfl) (Vo rfl) Bg rfl Al rfl) ?_
 refine ao ?_
 refine ao ?_
 refine TO.cases 106 rfl (fun h9=> ?_) (fun h9=> ?_)
 have q9:=Df.EA h9
 refine TO.UR rfl rfl rfl h9 rfl AB (Bw rfl (vl rfl)) (TO.gr 2 rfl rfl rfl h9 rfl rfl AB (AU rfl rfl AB rfl (M7 AA AA) ⟨ke rfl,ke rfl,trivial⟩) (TO.UR rfl rfl rfl h9 rfl AB (F9 rfl (vl rfl)) ?_))
 refine ao ?_
 refine Na 0 4 6 7 110 rfl ?_
 refine Tr.cn rfl ?_ ?_<;>intro h10 Q2
 have hv9:=s.BV.BV.BV.BV.Bi (n:=e.ids.length) AA
 obtain ⟨iy,hiy⟩:=at_ (l:=e.ids) (k:=(s.BV.BV.BV.BV.val e.ids.length).toNat) AA
 refine Tr.rx ?_
 refine ay ?_
 refine Cx.ef 2 rfl rfl AB (AU rfl rfl AB rfl (A8 AA AA) ⟨ke rfl,ke rfl,trivial⟩) (xo rfl (fun _=>AD rfl underlying38 JS (vl rfl) (vl rfl) AA (Bt hiy)) ?_)
 refine ay ?_
 refine Cx.nil ⟨by kernel_rfl,?_⟩
 refine BW.done al4 ?_
 refine ac ?_
 refine Ki 4 7 rfl ?_
 refine ao ?_
 refine TO.Aj 1 rfl rfl rfl (vl rfl) (Va rfl) rfl Be rfl rfl ?_
 refine ao ?_
 refine Tr.drop 0 (Tr.ret (Fin.B4 1 _ rfl rfl (Fin.Cb [_] rfl (A7.cell 0 rfl rfl CT Be rfl (Lr)) ?_ (fun _ _ _ _=>rfl))))
 · exact GG
 refine ac ?_
 refine ao ?_
 refine TO.Aj 1 rfl rfl rfl (vl rfl) (Va rfl) rfl Be rfl rfl ?_
 refine ao ?_
 refine Tr.drop 0 (Tr.ret (Fin.B4 1 _ rfl rfl (Fin.Cb [_] rfl (A7.cell 0 rfl rfl CT Be rfl (Lr)) ?_ (fun _ _ _ _=>rfl))))
 · exact GG
 have q9:=Df.EA h9
 refine TO.RD rfl rfl rfl (Aw h9) rfl AB (TO.RD rfl rfl rfl (Aw h9) rfl AB (TO.RD rfl rfl rfl (Aw h9) rfl AB ?_))
 refine ao ?_
 refine Na 0 4 6 7 110 rfl ?_
 refine ac ?_
 refine ao ?_
 refine TO.Aj 1 rfl rfl rfl (vl rfl) (Va rfl) rfl Be rfl rfl ?_
 refine ao ?_
 refine Tr.drop 0 (Tr.ret (Fin.B4 1 _ rfl rfl (Fin.Cb [_] rfl (A7.cell 0 rfl rfl CT Be rfl (Lr)) ?_ (fun _ _ _ _=>rfl))))
 · exact GG
 refine an ?_ ?_<;>intro h11 U7
 refine ac ?_
 refine Tr.cond rfl (fun _=> ?_) (fun h=>nomatch h11.symm.trans h)
 refine ao ?_
 refine TO.EV 2 rfl rfl AB (AU rfl rfl AB rfl (A8 AA AA) ⟨ke rfl,ke rfl,trivial⟩) ?_
 refine ao ?_
 refine TO.Ee 0 rfl rfl (A9 rfl rfl (vl rfl) (Vo rfl) Bg rfl Al rfl) ?_
 refine ao ?_
 refine Ki 4 7 rfl ?_
 refine ao ?_
 refine TO.Aj 1 rfl rfl rfl (vl rfl) (Va rfl) rfl Be rfl rfl ?_
 refine ao ?_
 refine Tr.drop 0 (Tr.ret (Fin.B4 1 _ rfl rfl (Fin.Cb [_] rfl (A7.cell 0 rfl rfl CT Be rfl (Lr)) ?_ (fun _ _ _ _=>rfl))))
 · exact GG
 refine an ?_ ?_<;>intro h12 Ze
 refine ao ?_
 refine TO.EV 2 rfl rfl AB (AU rfl rfl AB rfl (A8 AA AA) ⟨ke rfl,ke rfl,trivial⟩) ?_
 refine ao ?_
 refine TO.Ee 0 rfl rfl (A9 rfl rfl (vl rfl) (Vo rfl) Bg rfl Al rfl) ?_
 refine ao ?_
 refine Ki 4 7 rfl ?_
 refine ao ?_
 refine TO.Aj 1 rfl rfl rfl (vl rfl) (Va rfl) rfl Be rfl rfl ?_
 refine ao ?_
 refine Tr.drop 0 (Tr.ret (Fin.B4 1 _ rfl rfl (Fin.Cb [_] rfl (A7.cell 0 rfl rfl CT Be rfl (Lr)) ?_ (fun _ _ _ _=>rfl))))
 · exact GG
 refine ac ?_
 refine Na 0 4 7 24 129 rfl ?_
 refine Tr.cn rfl ?_ ?_<;>intro L4 XK
 refine ac ?_
 refine Tr.cond rfl (fun _=> ?_) (fun h=>nomatch L4.symm.trans h)
 refine ao ?_
 refine TO.EV 2 rfl rfl AB (AU rfl rfl AB rfl (A8 AA AA) ⟨ke rfl,ke rfl,trivial⟩) ?_
 refine ao ?_
 refine TO.Ee 0 rfl rfl (A9 rfl rfl (vl rfl) (Vo rfl) Bg rfl Al rfl) ?_
 refine ao ?_
 refine ao ?_
 refine TO.Aj 1 rfl rfl rfl (vl rfl) (Va rfl) rfl Be rfl rfl ?_
 refine ao ?_
 refine Tr.drop 0 (Tr.ret (Fin.B4 1 _ rfl rfl (Fin.Cb [_] rfl (A7.cell 0 rfl rfl CT Be rfl (Lr)) ?_ (fun _ _ _ _=>rfl))))
 · exact GG
 refine an ?_ ?_<;>intro J9 iZ
 refine ao ?_
 refine TO.EV 2 rfl rfl AB (AU rfl rfl AB rfl (A8 AA AA) ⟨ke rfl,ke rfl,trivial⟩) ?_
 refine ao ?_
 refine TO.Ee 0 rfl rfl (A9 rfl rfl (vl rfl) (Vo rfl) Bg rfl Al rfl) ?_
 refine ao ?_
 refine ao ?_
 refine TO.Aj 1 rfl rfl rfl (vl rfl) (Va rfl) rfl Be rfl rfl ?_
 refine ao ?_
 refine Tr.drop 0 (Tr.ret (Fin.B4 1 _ rfl rfl (Fin.Cb [_] rfl (A7.cell 0 rfl rfl CT Be rfl (Lr)) ?_ (fun _ _ _ _=>rfl))))
 · exact GG
 refine an ?_ ?_<;>intro RA pK
 refine ac ?_
 refine Tr.cond rfl (fun _=> ?_) (fun h=>nomatch RA.symm.trans h)
 refine ao ?_
 refine TO.EV 2 rfl rfl AB (AU rfl rfl AB rfl (A8 AA AA) ⟨ke rfl,ke rfl,trivial⟩) (tp rfl (AY rfl Wy (vl rfl)) (TO.Ee 0 rfl rfl (A9 rfl rfl (vl rfl) (Vo rfl) Bg rfl Al rfl) ?_))
 refine ao ?_
 refine ao ?_
 refine TO.Aj 1 rfl rfl rfl (vl rfl) (Va rfl) rfl Be rfl rfl ?_
 refine ao ?_
 refine Tr.drop 0 (Tr.ret (Fin.B4 1 _ rfl rfl (Fin.Cb [_] rfl (A7.cell 0 rfl rfl CT Be rfl (Lr)) ?_ (fun _ _ _ _=>rfl))))
 · exact GG
 refine an ?_ ?_<;>intro h16 mY
 refine ao ?_
 refine TO.EV 2 rfl rfl AB (AU rfl rfl AB rfl (A8 AA AA) ⟨ke rfl,ke rfl,trivial⟩) (tp rfl (AY rfl Wy (vl rfl)) (TO.Ee 0 rfl rfl (A9 rfl rfl (vl rfl) (Vo rfl) Bg rfl Al rfl) ?_))
 refine ao ?_
 refine Ki 4 7 rfl ?_
 refine ao ?_
 refine TO.Aj 1 rfl rfl rfl (vl rfl) (Va rfl) rfl Be rfl rfl ?_
 refine ao ?_
 refine Tr.drop 0 (Tr.ret (Fin.B4 1 _ rfl rfl (Fin.Cb [_] rfl (A7.cell 0 rfl rfl CT Be rfl (Lr)) ?_ (fun _ _ _ _=>rfl))))
 · exact GG
 refine ac ?_
 refine ao ?_
 refine TO.Aj 1 rfl rfl rfl (vl rfl) (Va rfl) rfl Be rfl rfl ?_
 refine ao ?_
 refine Tr.drop 0 (Tr.ret (Fin.B4 1 _ rfl rfl (Fin.Cb [_] rfl (A7.cell 0 rfl rfl CT Be rfl (Lr)) ?_ (fun _ _ _ _=>rfl))))
 · exact GG
structure VF where
 Bh:Int
 bits:Int
 day:Int
 deriving DecidableEq
abbrev ADi (x:VF):List Pr:=[int x.Bh,int x.bits,int x.day]
abbrev jB (l:List VF):Pr:=slice 3 (l.map ADi)
structure NA where
 name:List UInt8
 kind:Int
 GY:Int
 links:List VF
 LJ:Int
 deriving DecidableEq
abbrev Hu (x:NA):List Pr:=[str x.name,int x.kind,int x.GY,jB x.links,int x.LJ]
abbrev XR (l:List NA):Pr:=slice 5 (l.map Hu)
structure La where
 client:Int
 server:Int
 deriving DecidableEq
abbrev ADj (x:La):List Pr:=[int x.client,int x.server]
abbrev MF (l:List La):Pr:=slice 2 (l.map ADj)
abbrev EX:VF:=⟨0,0,0⟩
abbrev GO:La:=⟨0,0⟩
def Eu (l:List VF) (i:Nat):Bool:=decide (Bs (l[i]?.getD EX).Bh (l[i]?.getD EX).bits>0)&&decide (0≤(l[i]?.getD EX).day)&&decide ((l[i]?.getD EX).day≤40000)&&(decide (i=0)||decide ((l[i-1]?.getD EX).day<(l[i]?.getD EX).day))
def GP (x:NA):Bool:=(named x.name&&decide (x.kind=1∨x.kind=2)&&decide (1≤x.GY)&&decide (x.GY≤4)&&decide (1≤x.links.length)&&decide (x.links.length≤8))&&allI (Eu x.links) x.links.length&&(decide ((x.links[0]?.getD EX).day≤x.LJ)&&decide (x.LJ≤40000))
structure AAG (x:NA):Prop where
 name:named x.name=true
 kind:x.kind=1∨x.kind=2
 p1:1≤x.GY
 p4:x.GY≤4
 l1:1≤x.links.length
 l8:x.links.length≤8
 lnk:∀j,j<x.links.length→Eu x.links j=true
 u0:(x.links[0]?.getD EX).day≤x.LJ
 u1:x.LJ≤40000
theorem FD {x:NA}:GP x=true↔AAG x:=by
 unfold GP
 simp only [Bool.and_eq_true,decide_eq_true_eq,Br]
 exact ⟨fun ⟨⟨⟨⟨⟨⟨⟨h1,h2⟩,h3⟩,h4⟩,h5⟩,h6⟩,h7⟩,h8,h9⟩=>⟨h1,h2,h3,h4,h5,h6,h7,h8,h9⟩,fun h=>⟨⟨⟨⟨⟨⟨⟨h.name,h.kind⟩,h.p1⟩,h.p4⟩,h.l1⟩,h.l8⟩,h.lnk⟩,h.u0,h.u1⟩⟩
def Cw (n:Nat) (l:List La) (i:Nat):Bool:=(decide (0≤(l[i]?.getD GO).client∧(l[i]?.getD GO).client<n)&&decide (0≤(l[i]?.getD GO).server∧(l[i]?.getD GO).server<n)&&decide ((l[i]?.getD GO).client≠(l[i]?.getD GO).server))&&(decide (i=0)||decide ((l[i-1]?.getD GO).client<(l[i]?.getD GO).client∨((l[i-1]?.getD GO).client=(l[i]?.getD GO).client∧(l[i-1]?.getD GO).server<(l[i]?.getD GO).server)))
def IC (n:Nat) (l:List La):Bool:=allI (Cw n l) l.length&&decide (l.length≤40)
theorem cM {x:NA} (hx:x.name.length≤maxLen):BD prog 201 [agg (Hu x)] (int (if GP x then 0 else 30)):=by
 refine fo func201 rfl ⟨rfl,rfl⟩ fun M0 w0=> ?_
 refine ac ?_
 refine bN 1 rfl (Tr.Wk [1] [(3,bool (decide (x.kind=1∨x.kind=2)))] (True) ?_ (fun h1=> ?_))
 refine ac ?_
 refine Ch.cs 9 rfl ?_ ?_<;>intro h2 q2
 refine ac ?_
 exact Fin.AM () trivial ⟨⟨_,rfl,bool_eq (by simp_all [Bool.beq_eq_decide_eq])⟩,ke rfl,trivial⟩
 refine ac ?_
 exact Fin.AM () trivial ⟨⟨_,rfl,bool_eq (by simp_all [Bool.beq_eq_decide_eq])⟩,ke rfl,trivial⟩
 refine Ki 1 3 rfl (Tr.Wk [1] [] ((named x.name=true∧(x.kind=1∨x.kind=2)∧1≤x.GY∧x.GY≤4)∧1≤x.links.length∧x.links.length≤8) ?_ (fun hpre=> ?_))
 refine ac ?_
 refine co rfl (C8 (Oe hx) rfl rfl) ?_
 refine ac ?_
 refine Ch.cs 18 rfl ?_ ?_<;>intro h4 q4
 refine ac ?_
 refine Ki 1 43 rfl ?_
 refine ac ?_
 refine ac ?_
 · exact eZ
 refine ac ?_
 refine Ch.cs 22 rfl ?_ ?_<;>intro h5 q5
 refine ac ?_
 refine Ki 1 43 rfl ?_
 refine ac ?_
 refine ac ?_
 · exact Fv
 refine ac ?_
 refine Ch.cs 27 rfl ?_ ?_<;>intro h6 q6
 refine ac ?_
 refine Ki 1 43 rfl ?_
 refine ac ?_
 refine ac ?_
 · exact Fv
 refine ac ?_
 refine Ch.cs 32 rfl ?_ ?_<;>intro h7 q7
 refine ac ?_
 refine Ki 1 43 rfl ?_
 refine ac ?_
 refine ac ?_
 · exact Fv
 refine ac ?_
 refine Ch.cs 38 rfl ?_ ?_<;>intro h8 q8
 refine ac ?_
 refine Ki 1 43 rfl ?_
 refine ac ?_
 refine ac ?_
 · exact Fv
 refine ac ?_
 refine Ki 1 43 rfl ?_
 refine Tr.cn rfl ?_ ?_<;>intro h9 q9
 refine ac ?_
 refine ac ?_
 · exact Fv
 refine Tr.skip (Fin.AM () ⟨⟨by simp_all,by simp_all,by omega,by omega⟩,by omega,by omega⟩ ⟨ke rfl,trivial⟩)
 obtain ⟨⟨hq1,Wh,oX,hq4⟩,hq5,hq6⟩:=hpre
 obtain ⟨c0,hc0⟩:=at_ (l:=x.links) (k:=0) AA
 have jC:=getD_at (d:=EX) hc0
 refine ac ?_
 refine Tr.block (Tr.Ax [(1,_),(45,_),(46,_)] (kk3 rfl) (fun k:Nat=>[(47,int ((k:Nat):Int))]) (fun k:Nat=>k≤(x.links).length∧(∀j,j<k→Eu x.links j=true)) (fun k:Nat=>(x.links).length-k) 0 (⟨Nat.zero_le _,fun j hj=>absurd hj AA⟩) ⟨ke rfl,trivial⟩ ?_)
 rintro k ⟨BK,AL⟩
 refine ac ?_
 refine Tr.seq ?_
 refine Tr.cn rfl ?_ ?_<;>intro h10 Q2
 have Aa:k<(x.links).length:=AH h10
 obtain ⟨c,AX⟩:=at_ Aa
 have hg:=getD_at (d:=EX) AX
 refine ac ?_
 refine ao ?_
 refine tp rfl (AD rfl underlying133 HB (vl rfl) (vl rfl) AA (Ac AX)) (tp rfl (AK rfl t_ HB (vl rfl) rfl rfl) ?_)
 refine Tl rfl rfl rfl rfl z198 gQ (fun b1=> ?_)
 refine tm rfl ?_
 refine sf 0 5 ⟨rfl,rfl,rfl⟩ rfl rfl rfl rfl ?_
 refine ao ?_
 refine ac ?_
 refine co rfl (C8 (Tk) rfl rfl) ?_
 refine ac ?_
 refine Ch.cs 56 rfl ?_ ?_<;>intro h11 U7
 refine ac ?_
 refine Na 1 45 46 47 81 rfl ?_
 refine ac ?_
 refine ac ?_
 · exact Md
 refine ac ?_
 refine Ch.cs 61 rfl ?_ ?_<;>intro h12 Ze
 refine ac ?_
 refine Na 1 45 46 47 81 rfl ?_
 refine ac ?_
 refine ac ?_
 · exact Md
 refine ac ?_
 refine Ch.cs 66 rfl ?_ ?_<;>intro L4 XK
 refine ac ?_
 refine Na 1 45 46 47 81 rfl ?_
 refine ac ?_
 refine ac ?_
 · exact Md
 refine ac ?_
 refine Ch.cs 69 rfl ?_ ?_<;>intro J9 iZ
 have hk0:0<k:=by simpa using J9
 obtain ⟨y,hy⟩:=at_ (l:=x.links) (k:=k-1) AA
 have Ke:=getD_at (d:=EX) hy
 refine ac ?_
 refine cy J9 rfl (AD rfl underlying133 HB (vl rfl) (vl rfl) AA FE) ?_
 refine ac ?_
 refine Na 1 45 46 47 81 rfl ?_
 refine Tr.cn rfl ?_ ?_<;>intro RA pK
 refine ac ?_
 refine ac ?_
 · refine int_eq (if_neg (fun hv=> ?_)).symm;have ok:=FD.1 hv;have o1:=ok.name;have o2:=ok.kind;have o3:=ok.p1;have o4:=ok.p4;have o5:=ok.l1;have o6:=ok.l8;have o7:=ok.u0;have o8:=ok.u1;(have h_:=ok.lnk k AA;unfold Eu at h_;rw [hg,Ke] at h_;simp_all;omega)
 refine ac ?_
 refine ac ?_
 exact Fin.AM (k+1) ⟨⟨Aa,Bo AL (by unfold Eu;rw [hg,Ke];simp_all)⟩,by omega⟩ ⟨⟨_,rfl,AF k⟩,ke rfl,ke rfl,ke rfl,trivial⟩
 have JC:¬0<k:=by simpa using J9
 refine ac ?_
 refine Na 1 45 46 47 81 rfl ?_
 refine ac ?_
 refine ac ?_
 exact Fin.AM (k+1) ⟨⟨Aa,Bo AL (by unfold Eu;rw [hg];simp_all)⟩,by omega⟩ ⟨⟨_,rfl,AF k⟩,ke rfl,ke rfl,ke rfl,trivial⟩
 have Az:k=(x.links).length:=by have:=AJ h10;omega
 subst Az
 refine ac ?_
 refine ac ?_
 refine co rfl (AD rfl underlying133 HB (vl rfl) (vl rfl) AA (Ac (k:=0) hc0)) ?_
 refine ac ?_
 refine Ch.cs 91 rfl ?_ ?_<;>intro h16 mY
 refine ac ?_
 refine bN 95 rfl ?_
 refine ac ?_
 refine ac ?_
 · exact WU
 refine ac ?_
 refine bN 95 rfl ?_
 refine Tr.cn rfl ?_ ?_<;>intro Nj mX
 refine ac ?_
 refine ac ?_
 · exact Fv
 refine ac ?_
 refine ac ?_
 refine ac ?_
 · refine int_eq (if_pos (FD.2 ⟨hq1,Wh,oX,hq4,hq5,hq6,AL,by rw [jC];omega,by omega⟩)).symm
theorem XS {x:NA}  :BD prog 149 [agg (Hu x)] (int (if GP x then 0 else 30)):=by
 refine fo func149 rfl ⟨rfl,rfl⟩ fun M0 w0=> ?_
 refine ac ?_
 refine wk [1] rfl (Tr.Wk [1] [] ((named x.name=true∧(x.kind=1∨x.kind=2)∧1≤x.GY∧x.GY≤4)∧1≤x.links.length∧x.links.length≤8∧(x.links[0]?.getD EX).day≤x.LJ∧x.LJ≤40000) ?_ (fun hpre=> ?_))
 refine ac ?_
 refine co rfl (C8 (GX) rfl rfl) ?_
 refine ag ?_ ?_<;>intro h2 q2
 refine ac ?_
 refine wk [54,1] rfl ?_
 refine a2 ?_
 · exact eZ
 refine ag ?_ ?_<;>intro h3 q3
 refine ag ?_ ?_<;>intro h4 q4
 refine ac ?_
 refine wk [54,1] rfl ?_
 refine a2 ?_
 · exact Fv
 refine ag ?_ ?_<;>intro h5 q5
 refine ac ?_
 refine wk [54,1] rfl ?_
 refine a2 ?_
 · exact Fv
 refine ag ?_ ?_<;>intro h6 q6
 refine ac ?_
 refine wk [54,1] rfl ?_
 refine a2 ?_
 · exact Fv
 refine ag ?_ ?_<;>intro h7 q7
 refine ac ?_
 refine wk [54,1] rfl ?_
 refine a2 ?_
 · exact Fv
 refine ag ?_ ?_<;>intro h8 q8
 refine ac ?_
 refine wk [54,1] rfl ?_
 refine a2 ?_
 · exact Fv
 refine ag ?_ ?_<;>intro h9 q9
 refine ac ?_
 refine wk [54,1] rfl ?_
 refine a2 ?_
 · exact Fv
 obtain ⟨c0,hc0⟩:=at_ (l:=x.links) (k:=0) AA
 have jC:=getD_at (d:=EX) hc0
 refine ac ?_
 refine cy h9 rfl (AD rfl underlying133 HB vq vq AA (Ac (k:=0) hc0)) ?_
 refine ac ?_
 refine wk [54,1] rfl ?_
 refine Tr.cn rfl ?_ ?_<;>intro h10 Q2
 refine a2 ?_
 · exact WU
 refine Tr.skip ?_
 exact Fin.AM () ⟨⟨by simp_all,by omega,by omega,by omega⟩,by omega,by omega,by rw [jC];omega,by omega⟩ kz
 refine ag ?_ ?_<;>intro h11 U7
 refine ac ?_
 refine wk [54,1] rfl ?_
 refine a2 ?_
 · exact Fv
 refine ag ?_ ?_<;>intro h12 Ze
 refine ac ?_
 refine wk [54,1] rfl ?_
 refine a2 ?_
 · exact Fv
 refine ag ?_ ?_<;>intro L4 XK
 refine ac ?_
 refine wk [54,1] rfl ?_
 refine a2 ?_
 · exact Fv
 refine ag ?_ ?_<;>intro J9 iZ
 refine ac ?_
 refine wk [54,1] rfl ?_
 refine a2 ?_
 · exact Fv
 refine ag ?_ ?_<;>intro RA pK
 refine ac ?_
 refine wk [54,1] rfl ?_
 refine a2 ?_
 · exact Fv
 obtain ⟨c0,hc0⟩:=at_ (l:=x.links) (k:=0) AA
 have jC:=getD_at (d:=EX) hc0
 refine ac ?_
 refine cy RA rfl (AD rfl underlying133 HB vq vq AA (Ac (k:=0) hc0)) ?_
 refine ac ?_
 refine wk [54,1] rfl ?_
 refine Tr.cn rfl ?_ ?_<;>intro h16 mY
 refine a2 ?_
 · exact WU
 refine Tr.skip ?_
 exact Fin.AM () ⟨⟨by simp_all,by omega,by omega,by omega⟩,by omega,by omega,by rw [jC];omega,by omega⟩ kz
 obtain ⟨⟨hq1,Wh,oX,hq4⟩,hq5,hq6,hq7,hq8⟩:=hpre
 refine ac ?_
 refine Tr.block (Tr.Ax _ (kk [1] rfl) (fun k:Nat=>[(3,int ((k:Nat):Int))]) (fun k:Nat=>k≤(x.links).length∧(∀j,j<k→Eu x.links j=true)) (fun k:Nat=>(x.links).length-k) 0 (⟨Nat.zero_le _,fun j hj=>absurd hj AA⟩) kz ?_)
 rintro k ⟨BK,AL⟩
 refine an ?_ ?_<;>intro Nj mX
 have Aa:k<(x.links).length:=AH Nj
 obtain ⟨c,AX⟩:=at_ Aa
 have hg:=getD_at (d:=EX) AX
 refine a2 ?_
 refine co rfl (AD rfl underlying133 HB vq vq AA (Ac AX)) ?_
 refine ac ?_
 refine co rfl (C8 (MB) rfl rfl) ?_
 refine ag ?_ ?_<;>intro Oa q18
 refine ac ?_
 refine wk [107,3,1] rfl ?_
 refine a2 ?_
 · exact Md
 refine ac ?_
 refine cy Oa rfl (AD rfl underlying133 HB vq vq AA (Ac AX)) ?_
 refine ag ?_ ?_<;>intro WE q19
 refine ac ?_
 refine wk [107,3,1] rfl ?_
 refine a2 ?_
 · exact Md
 refine ac ?_
 refine cy WE rfl (AD rfl underlying133 HB vq vq AA (Ac AX)) ?_
 refine ag ?_ ?_<;>intro MY q20
 refine ac ?_
 refine wk [107,3,1] rfl ?_
 refine a2 ?_
 · exact Md
 refine ag ?_ ?_<;>intro RF q21
 have hk0:0<k:=by simpa using RF
 obtain ⟨y,hy⟩:=at_ (l:=x.links) (k:=k-1) AA
 have Ke:=getD_at (d:=EX) hy
 · repeat' first|(refine int_eq (if_neg (fun hv=> ?_)).symm;have ok:=FD.1 hv;have o1:=ok.name;have o2:=ok.kind;have o3:=ok.p1;have o4:=ok.p4;have o5:=ok.l1;have o6:=ok.l8;have o7:=ok.u0;have o8:=ok.u1;(have h_:=ok.lnk k AA;unfold Eu at h_;rw [hg,Ke] at h_;simp_all;omega))|(exact Fin.AM (k+1) ⟨⟨Aa,Bo AL (by unfold Eu;rw [hg,Ke];simp_all)⟩,by omega⟩ ⟨⟨_,rfl,AF k⟩,kz⟩)|(refine cy RF rfl (AD rfl underlying133 HB vq vq AA FE) ?_)|refine cy RF rfl (AD rfl underlying133 HB vq vq AA (Ac AX)) ?_|refine ac ?_|(refine Tr.cn rfl ?_ ?_<;>intro h q)
 have JC:¬0<k:=by simpa using RF
 refine ac ?_
 refine wk [107,3,1] rfl ?_
 refine a2 ?_
 exact Fin.AM (k+1) ⟨⟨Aa,Bo AL (by unfold Eu;rw [hg];simp_all)⟩,by omega⟩ ⟨⟨_,rfl,AF k⟩,kz⟩
 have Az:k=(x.links).length:=by have:=AJ Nj;omega
 subst Az
 refine a3 ?_
 · refine int_eq (if_pos (FD.2 ⟨hq1,Wh,oX,hq4,hq5,hq6,AL,by omega,by omega⟩)).symm
theorem jD {l:List La} {n:Nat}  :BD prog 202 [MF l,int ((n:Nat):Int)] (bool (IC n l)):=by
 refine fo func202 rfl ⟨rfl,rfl⟩ fun M0 w0=>(Tr.CM 0 rfl fun D4=> ?_)
 refine ac ?_
 refine ac ?_
 refine Tr.block (Tr.Ax [(0,_),(1,_),(7,_),(8,_)] (kk4 rfl) (fun k:Nat=>[(9,int ((k:Nat):Int))]) (fun k:Nat=>k≤(l).length∧(∀j,j<k→Cw n l j=true)) (fun k:Nat=>(l).length-k) 0 (⟨Nat.zero_le _,fun j hj=>absurd hj AA⟩) ⟨ke rfl,trivial⟩ ?_)
 rintro k ⟨BK,AL⟩
 refine ac ?_
 refine Tr.seq ?_
 refine Tr.cn rfl ?_ ?_<;>intro h1 q1
 have Aa:k<(l).length:=AH h1
 obtain ⟨c,AX⟩:=at_ Aa
 have hg:=getD_at (d:=GO) AX
 refine ac ?_
 refine ao ?_
 refine tp rfl (AD rfl underlying28 GL (vl rfl) (vl rfl) AA (Ac AX)) (tp rfl (AK rfl Wz GL (vl rfl) rfl rfl) ?_)
 refine Tl rfl rfl rfl rfl bP Uq (fun b1=> ?_)
 refine tm rfl ?_
 refine sf 0 6 ⟨rfl,rfl,rfl⟩ rfl rfl rfl rfl ?_
 refine ao ?_
 refine ac ?_
 refine Ch.cs 17 rfl ?_ ?_<;>intro h2 q2
 refine ac ?_
 refine mT 0 1 5 6 7 8 9 40 rfl ?_
 refine ac ?_
 refine ac ?_
 · exact SV
 refine ac ?_
 refine Ch.cs 23 rfl ?_ ?_<;>intro h3 q3
 refine ac ?_
 refine mT 0 1 5 6 7 8 9 40 rfl ?_
 refine ac ?_
 refine ac ?_
 · exact SV
 refine ac ?_
 refine Ch.cs 28 rfl ?_ ?_<;>intro h4 q4
 refine ac ?_
 refine mT 0 1 5 6 7 8 9 40 rfl ?_
 refine ac ?_
 refine ac ?_
 · exact SV
 refine ac ?_
 refine Ch.cs 34 rfl ?_ ?_<;>intro h5 q5
 refine ac ?_
 refine mT 0 1 5 6 7 8 9 40 rfl ?_
 refine ac ?_
 refine ac ?_
 · exact SV
 refine ac ?_
 refine mT 0 1 5 6 7 8 9 40 rfl ?_
 refine Tr.cn rfl ?_ ?_<;>intro h6 q6
 refine ac ?_
 refine ac ?_
 · refine bool_eq ?_;unfold IC;rw [EP (p:=Cw n l) (k:=k) AA So];rfl
 refine ac ?_
 refine ac ?_
 refine Ch.cs 43 rfl ?_ ?_<;>intro h7 q7
 have hk0:0<k:=by simpa using h7
 obtain ⟨y,hy⟩:=at_ (l:=l) (k:=k-1) AA
 have Ke:=getD_at (d:=GO) hy
 refine ac ?_
 refine cy h7 rfl (AD rfl underlying28 GL (vl rfl) (vl rfl) AA FE) ?_
 refine ac ?_
 refine Ch.cs 53 rfl ?_ ?_<;>intro h8 q8
 refine ac ?_
 refine eE 0 1 7 8 9 75 rfl ?_
 refine ac ?_
 refine ac ?_
 · exact fE
 refine ac ?_
 refine cy h8 rfl (AD rfl underlying28 GL (vl rfl) (vl rfl) AA FE) ?_
 refine ac ?_
 refine Ch.cs 63 rfl ?_ ?_<;>intro h9 q9
 refine ac ?_
 refine cy h9 rfl (AD rfl underlying28 GL (vl rfl) (vl rfl) AA FE) ?_
 refine ac ?_
 refine eE 0 1 7 8 9 75 rfl ?_
 refine Tr.cn rfl ?_ ?_<;>intro h10 Q2
 refine ac ?_
 refine ac ?_
 · exact fE
 refine ac ?_
 refine ac ?_
 exact Fin.AM (k+1) ⟨⟨Aa,Bo AL (by unfold Cw;rw [hg,Ke];simp_all)⟩,by omega⟩ ⟨⟨_,rfl,AF k⟩,ke rfl,ke rfl,ke rfl,ke rfl,trivial⟩
 refine ac ?_
 refine eE 0 1 7 8 9 75 rfl ?_
 refine ac ?_
 refine ac ?_
 exact Fin.AM (k+1) ⟨⟨Aa,Bo AL Yn⟩,by omega⟩ ⟨⟨_,rfl,AF k⟩,ke rfl,ke rfl,ke rfl,ke rfl,trivial⟩
 have JC:¬0<k:=by simpa using h7
 refine ac ?_
 refine eE 0 1 7 8 9 75 rfl ?_
 refine ac ?_
 refine ac ?_
 exact Fin.AM (k+1) ⟨⟨Aa,Bo AL So⟩,by omega⟩ ⟨⟨_,rfl,AF k⟩,ke rfl,ke rfl,ke rfl,ke rfl,trivial⟩
 have Az:k=(l).length:=by have:=AJ h1;omega
 subst Az
 refine ac ?_
 refine ac ?_
 refine ac ?_
 · refine bool_eq ?_;unfold IC;rw [JX AL,Bool.true_and,decide_eq_decide];omega
section
variable {α:Type} {p:α→Bool} {l:List α} {a:α} {i:Nat}
end
theorem XT {l:List Int} (h:Fq l=true) {i j:Nat} {n:Int} (hi:l[i]? =some n) (hj:l[j]? =some n):i=j:=by
 unfold Fq at h;rw [Br] at h
 have key:∀{a b:Nat},a<b→l[a]? =some n→l[b]? =some n→False:=by
  intro a b hab ha hb
  have:=h b (BP hb)
  unfold EG at this
  rw [getD_at hb] at this
  simp only [Bool.and_eq_true,Bool.not_eq_true',List.any_eq_false] at this
  have:=this.2 n (List.mem_of_getElem? (show (l.take b)[a]? =some n by rw [List.getElem?_take,if_pos hab];exact ha))
  simp at this
 rcases Nat.lt_trichotomy i j with h1|h1|h1
 · exact (key h1 hi hj).elim
 · exact h1
 · exact (key h1 hj hi).elim
def pX (n:Nat):Bool:=decide ((97≤n∧n≤122)∨(65≤n∧n≤90)∨(48≤n∧n≤57)∨n=45∨n=95∨n=46)
theorem XU:∀n∈List.range 256,Es [45,95,46] (UInt8.ofNat n)=pX n:=by decide+kernel
theorem Rv (c:UInt8):Es [45,95,46] c=pX c.toNat:=by
 have h:=XU c.toNat (List.mem_range.2 c.toNat_lt)
 rw [UInt8.ofNat_toNat] at h;exact h
theorem jE {s:List UInt8}  :BD prog 191 [str s] (bool (JK s)):=by
 refine fo func191 rfl ⟨rfl,rfl⟩ fun M0 w0=> ?_
 refine ac ?_
 refine ag ?_ ?_<;>intro h1 q1
 refine a3 ?_
 · exact Yt
 refine an ?_ ?_<;>intro h2 q2
 refine a2 ?_
 · exact Yt
 refine a2 ?_
 refine Tr.block (Tr.Ax _ (kk [0] rfl) (fun k:Nat=>[(3,int ((k:Nat):Int))]) (fun k:Nat=>k≤(s).length∧(∀j y,j<k→s[j]? =some y→(!Es [45,95,46] y)=false)) (fun k:Nat=>(s).length-k) 0 (⟨Nat.zero_le _,fun j y hj=>absurd hj AA⟩) kz ?_)
 rintro k ⟨BK,AL⟩
 refine an ?_ ?_<;>intro h3 q3
 have Aa:k<(s).length:=AH h3
 obtain ⟨c,AX⟩:=at_ Aa
 · repeat' first|(refine bool_eq ?_;unfold JK;rw [Ib (p:=Es [45,95,46]) AX (by rw [Rv];unfold pX;simp;omega)];rfl)|(exact Fin.AM (k+1) ⟨⟨Aa,CJ (p:=fun c=> !Es [45,95,46] c) AX (by rw [Rv];unfold pX;simp;omega) AL⟩,by omega⟩ ⟨⟨_,rfl,AF k⟩,kz⟩)|refine co rfl (TS rfl underlying9 vq vq AA (TT BC)) ?_|refine ac ?_|(refine Tr.cn rfl ?_ ?_<;>intro h q)|(refine Ch.cg rfl rfl rfl ?_ ?_<;>intro h q)
 have Az:k=(s).length:=by have:=AJ h3;omega
 subst Az
 refine a3 ?_
 · refine bool_eq ?_;unfold JK;rw [FO AL,Bool.true_and];symm;rw [decide_eq_true_eq];omega
theorem C2 {a b:Int}  :BD prog 266 [int a,int b] (agg [int a,int b]):=by
 refine fo func266 rfl ⟨rfl,rfl⟩ fun M0 w0=>(Tr.seq (Tr.A0 ?_))
 refine Tl rfl rfl rfl rfl JR EB (fun b1=> ?_)
 refine ap ?_
 refine ap ?_
 refine Tr.ret (Fin.Dn rfl (A7.cell 0 rfl rfl CL Dc rfl Lr) ?_)
 · exact Lr
theorem CW {a l m x1 y1 x2 y2 x3 y3 x4 y4:Int} {s:List UInt8}  :BD prog 267 [int a,str s,agg [int x1,int y1],agg [int x2,int y2],agg [int x3,int y3],agg [int x4,int y4],int l,int m] (agg Ce):=by
 refine BD.of func267 rfl rfl Al fun M0 w0=> ?_
 refine Tr.seq (Tr.A0 ?_)
 iterate 4 refine tp rfl (Cq rfl (Va rfl)) ?_
 refine Tl rfl rfl rfl rfl W0 L6 (fun b1=> ?_)
 refine TO.nil (Fin.go (Tr.seq (Tr.A0 (tm rfl (tm rfl ?_)))))
 iterate 4 refine tp rfl (AK rfl CL Dc (vl rfl) rfl rfl) ?_
 refine tm rfl (tm rfl (tp rfl (Ar (rows:=[(0,[_]),(1,[_]),(2,_),(3,_),(4,_),(5,_),(6,[_]),(7,[_])]) rfl ZX L6 ⟨⟨rfl,(Vo rfl)⟩,⟨⟨rfl,(Vo rfl)⟩,⟨⟨rfl,(Va rfl)⟩,⟨⟨rfl,(Va rfl)⟩,⟨⟨rfl,(Va rfl)⟩,⟨⟨rfl,(Va rfl)⟩,⟨⟨rfl,(Vo rfl)⟩,⟨⟨rfl,(Vo rfl)⟩,trivial⟩⟩⟩⟩⟩⟩⟩⟩ rfl) (TO.re 25 (agg Ce) rfl (Cy rfl) (TO.Aj 0 rfl rfl rfl (vl rfl) (Va rfl) rfl GM rfl rfl (TO.nil (Fin.go (bN 16 rfl (Tr.ret (Fin.Dn rfl (A7.cell 0 rfl rfl JW GM rfl (Lr)) ?_)))))))))
 · exact Lr
theorem XV   :BD prog 227 [] (slice 12 C1):=by
 refine fo func227 rfl ⟨rfl,rfl⟩ fun M0 w0=> ?_
 refine ac ?_
 refine Tr.seq (Tr.A0 (tp rfl (C4 (C2) rfl rfl rfl) (tp rfl (C4 (C2) rfl rfl rfl) (tp rfl (Ar (rows:=[]) rfl tW EB trivial rfl) ?_))))
 refine Tl rfl rfl rfl rfl JR EB (fun b1=> ?_)
 refine Tl rfl rfl rfl rfl JR EB (fun b2=> ?_)
 refine Tl rfl rfl rfl rfl JR EB (fun b3=> ?_)
 refine sf 2 1 ⟨rfl,rfl,rfl⟩ rfl rfl rfl rfl ?_
 refine sf 1 2 ⟨rfl,rfl,rfl⟩ rfl rfl rfl rfl ?_
 refine sf 0 3 ⟨rfl,rfl,rfl⟩ rfl rfl rfl rfl ?_
 refine ao ?_
 refine Tr.seq (Tr.A0 (tp rfl (C4 (C2) rfl rfl rfl) (tp rfl (C4 (C2) rfl rfl rfl) ?_)))
 refine Tl rfl rfl rfl rfl JR EB (fun b4=> ?_)
 refine Tl rfl rfl rfl rfl JR EB (fun b5=> ?_)
 refine sf 1 4 ⟨rfl,rfl,rfl⟩ rfl rfl rfl rfl ?_
 refine sf 0 5 ⟨rfl,rfl,rfl⟩ rfl rfl rfl rfl ?_
 refine ao ?_
 refine wk [5,4,3,2,1] rfl (Tr.seq (Tr.A0 (tp rfl (C4 (C2) rfl rfl rfl) (tp rfl (C4 (C2) rfl rfl rfl) (tp rfl (C4 (C2) rfl rfl rfl) ?_)))))
 refine Tl rfl rfl rfl rfl JR EB (fun b6=> ?_)
 refine Tl rfl rfl rfl rfl JR EB (fun b7=> ?_)
 refine Tl rfl rfl rfl rfl JR EB (fun b8=> ?_)
 refine sf 2 6 ⟨rfl,rfl,rfl⟩ rfl rfl rfl rfl ?_
 refine sf 1 7 ⟨rfl,rfl,rfl⟩ rfl rfl rfl rfl ?_
 refine sf 0 8 ⟨rfl,rfl,rfl⟩ rfl rfl rfl rfl ?_
 refine ao ?_
 refine wk [8,7,6,5,4,3,2,1] rfl (Tr.seq (Tr.A0 ?_))
 iterate 4 refine tp rfl (C4 (C2) rfl rfl rfl) ?_
 refine Tl rfl rfl rfl rfl JR EB (fun b9=> ?_)
 refine Tl rfl rfl rfl rfl JR EB (fun b10=> ?_)
 refine Tl rfl rfl rfl rfl JR EB (fun b11=> ?_)
 refine Tl rfl rfl rfl rfl JR EB (fun b12=> ?_)
 refine sf 3 9 ⟨rfl,rfl,rfl⟩ rfl rfl rfl rfl ?_
 refine sf 2 10 ⟨rfl,rfl,rfl⟩ rfl rfl rfl rfl ?_
 refine sf 1 11 ⟨rfl,rfl,rfl⟩ rfl rfl rfl rfl ?_
 refine sf 0 12 ⟨rfl,rfl,rfl⟩ rfl rfl rfl rfl ?_
 refine ao ?_
 refine wk [12,11,10,9,8,7,6,5,4,3,2,1] rfl (Tr.seq (Tr.A0 (tp rfl (C4 (C2) rfl rfl rfl) (tp rfl (C4 (C2) rfl rfl rfl) ?_))))
 refine Tl rfl rfl rfl rfl JR EB (fun b13=> ?_)
 refine Tl rfl rfl rfl rfl JR EB (fun b14=> ?_)
 refine sf 1 13 ⟨rfl,rfl,rfl⟩ rfl rfl rfl rfl ?_
 refine sf 0 14 ⟨rfl,rfl,rfl⟩ rfl rfl rfl rfl ?_
 refine ao ?_
 refine wk [14,13,12,11,10,9,8,7,6,5,4,3,2,1] rfl ?_
 refine ac ?_
 refine co rfl (AZ rfl (CW) ⟨kq,kz⟩) ?_
 refine ac ?_
 refine co rfl (AZ rfl (CW) ⟨kq,kz⟩) ?_
 refine ac ?_
 refine co rfl (AZ rfl (CW) ⟨kq,kz⟩) (co rfl (C4 (C2) rfl rfl rfl) (co rfl (C4 (C2) rfl rfl rfl) ?_))
 refine ac ?_
 refine co rfl (AZ rfl (CW) ⟨kq,kz⟩) (co rfl (C4 (C2) rfl rfl rfl) ?_)
 refine ac ?_
 refine co rfl (AZ rfl (CW) ⟨kq,kz⟩) ?_
 refine ac ?_
 refine co rfl (AZ rfl (CW) ⟨kq,kz⟩) (co rfl (C4 (C2) rfl rfl rfl) ?_)
 refine ac ?_
 refine co rfl (AZ rfl (CW) ⟨kq,kz⟩) ?_
 refine ac ?_
 refine co rfl (AZ rfl (CW) ⟨kq,kz⟩) (co rfl (AK rfl CL Dc vq rfl rfl) (co rfl (C4 (C2) rfl rfl rfl) (co rfl (C4 (C2) rfl rfl rfl) (co rfl (AK rfl CL Dc vq rfl rfl) (co rfl (AZ rfl (CW) ⟨kq,kz⟩) ?_)))))
 refine ac ?_
 refine co rfl (AZ rfl (CW) ⟨kq,kz⟩) (co rfl (C4 (C2) rfl rfl rfl) (co rfl (C4 (C2) rfl rfl rfl) ?_))
 refine ac ?_
 refine co rfl (AZ rfl (CW) ⟨kq,kz⟩) ?_
 refine ac ?_
 refine co rfl (AZ rfl (CW) ⟨kq,kz⟩) ?_
 refine ac ?_
 refine co rfl (AZ rfl (CW) ⟨kq,kz⟩) ?_
 refine ac ?_
 refine co rfl (AZ rfl (CW) ⟨kq,kz⟩) ?_
 refine ac ?_
 refine co rfl (AZ rfl (CW) ⟨kq,kz⟩) (co rfl (C4 (C2) rfl rfl rfl) ?_)
 refine ac ?_
 refine co rfl (AZ rfl (CW) ⟨kq,kz⟩) (co rfl (AQ (xs:=[.tmp 33,.tmp 38,.tmp 43,.tmp 48,.tmp 53,.tmp 58,.tmp 63,.tmp 68,.tmp 73,.tmp 78,.tmp 83,.tmp 88,.tmp 93,.tmp 98,.tmp 103,.tmp 108]) (rows:=C1) rfl rfl underlying287 GM W0 rfl AB ⟨⟨Ab,VL.le vq (AW _)⟩,⟨⟨Ab,VL.le vq (AW _)⟩,⟨⟨Ab,VL.le vq (AW _)⟩,⟨⟨Ab,VL.le vq (AW _)⟩,⟨⟨Ab,VL.le vq (AW _)⟩,⟨⟨Ab,VL.le vq (AW _)⟩,⟨⟨Ab,VL.le vq (AW _)⟩,⟨⟨Ab,VL.le vq (AW _)⟩,⟨⟨Ab,VL.le vq (AW _)⟩,⟨⟨Ab,VL.le vq (AW _)⟩,⟨⟨Ab,VL.le vq (AW _)⟩,⟨⟨Ab,VL.le vq (AW _)⟩,⟨⟨Ab,VL.le vq (AW _)⟩,⟨⟨Ab,VL.le vq (AW _)⟩,⟨⟨Ab,VL.le vq (AW _)⟩,⟨⟨Ab,VL.le vq (AW _)⟩,trivial⟩⟩⟩⟩⟩⟩⟩⟩⟩⟩⟩⟩⟩⟩⟩⟩ AB) ?_)
 refine ac ?_
 refine wk [0] rfl ?_
 refine ac ?_
 · exact BA _ _
theorem cN {code:Int}  :BD prog 192 [int code] (F8 [agg Ce,int (if 1≤code∧code≤16 then 0 else 8)]):=by
 refine fo func192 rfl ⟨rfl,rfl⟩ fun M0 w0=>(Tr.seq (Tr.A0 ?_))
 refine Tl rfl rfl rfl rfl W0 L6 (fun b1=> ?_)
 refine ap ?_
 refine ag ?_ ?_<;>intro h1 q1
 refine ac ?_
 refine Tr.cond rfl (fun _=> ?_) (fun h=>nomatch h)
 refine Tr.seq (Tr.A0 (tp rfl (Ar (rows:=[]) rfl ZX L6 trivial rfl) (TO.Aj 0 rfl rfl rfl vq LD rfl GM rfl rfl (tm rfl (TO.nil (Fin.go (Tr.ret (Fin.AG (Fin.GJ rfl (A7.cell 0 rfl rfl JW GM rfl Lr) (A7.tmp rfl Lr) ?_)))))))))
 · exact Yw
 refine an ?_ ?_<;>intro h2 q2
 refine ap ?_
 refine Tr.ret (Fin.AG (Fin.GJ rfl (A7.cell 0 rfl rfl JW GM rfl Lr) (A7.tmp rfl Lr) ?_))
 · exact Y0
 have hin:1≤code∧code≤16:=by omega
 refine ac ?_
 refine Tr.seq (Tr.A0 (tp rfl (kc0 (XV) rfl) ?_))
 refine ap ?_
 refine tp rfl (AD rfl underlying287 GM vq vq AA (U9 AA)) ?_
 refine ap ?_
 refine wk [3,2] rfl (Tr.ret (Fin.GJ rfl (A7.cell 0 rfl rfl JW GM rfl Lr) (A7.tmp rfl Lr) ?_))
 · exact DB ⟨Lr,int_eq (by rw [if_pos hin]),trivial⟩
theorem jF {l:List Int} {v:Int}  :BD prog 193 [ints l,int v] (bool (l.any fun x=>v==x)):=by
 refine fo func193 rfl ⟨rfl,rfl⟩ fun M0 w0=>(Tr.CM 0 rfl fun D4=> ?_)
 refine a2 ?_
 refine Tr.block (Tr.Ax _ (kk [1,0] rfl) (fun k:Nat=>[(5,int ((k:Nat):Int))]) (fun k:Nat=>k≤(l).length∧((l.take k).any (fun x=>v==x)=false)) (fun k:Nat=>(l).length-k) 0 (⟨Nat.zero_le _,rfl⟩) kz ?_)
 rintro k ⟨BK,AL⟩
 refine an ?_ ?_<;>intro h1 q1
 have Aa:k<(l).length:=AH h1
 obtain ⟨x,AX⟩:=at_ Aa
 · repeat' first|(refine bool_eq ?_;symm;rw [List.any_eq_true];exact ⟨_,List.mem_of_getElem? AX,by simp_all⟩)|(exact Fin.AM (k+1) ⟨⟨Aa,Yz⟩,by omega⟩ ⟨⟨_,rfl,AF k⟩,kz⟩)|refine co rfl (AD rfl underlying22 Bg vq vq AA Bl) ?_|refine ac ?_|(refine Tr.cn rfl ?_ ?_<;>intro h q)
 have Az:k=(l).length:=by have:=AJ h1;omega
 subst Az
 refine a3 ?_
 · exact SZ
theorem C7 {l:List (List UInt8)}:E3 l=true↔(∀j,j<l.length→nameAt l j=true)∧l.length≤8:=by unfold E3;rw [Bool.and_eq_true,Br,decide_eq_true_eq]
theorem KD {l:List (List UInt8)} {k:Nat} {s:List UInt8} (hs:l[k]? =some s) (h1:named s=true) (h2:0<k→∃y,l[k-1]? =some y∧Lib.compareBytes y s= -1):nameAt l k=true:=by
 unfold nameAt;rw [hs];simp only [Option.getD_some,h1,Bool.true_and,Bool.or_eq_true,decide_eq_true_eq]
 rcases Nat.eq_zero_or_pos k with h0|h0
 · exact .inl h0
 · obtain ⟨y,hy,hc⟩:=h2 h0;rw [hy];exact .inr hc
theorem XW {c:HR}  :BD prog 188 [agg (DF c)] (int (if Cr c then 0 else 9)):=by
 refine fo func188 rfl ⟨rfl,rfl⟩ fun M0 w0=> ?_
 refine ac ?_
 refine ag ?_ ?_<;>intro h1 q1
 refine ac ?_
 refine wk [39,1] rfl ?_
 refine a2 ?_
 · exact JG
 refine ag ?_ ?_<;>intro h2 q2
 refine ac ?_
 refine wk [39,1] rfl ?_
 refine a2 ?_
 · exact JG
 refine ac ?_
 refine cy h2 rfl (C8 (GX) rfl rfl) ?_
 refine ag ?_ ?_<;>intro h3 q3
 refine ac ?_
 refine wk [39,1] rfl ?_
 refine a2 ?_
 · exact O3
 refine ac ?_
 refine cy h3 rfl (C8 (GX) rfl rfl) ?_
 refine ag ?_ ?_<;>intro h4 q4
 refine ac ?_
 refine wk [39,1] rfl ?_
 refine a2 ?_
 · exact O3
 refine ac ?_
 refine cy h4 rfl (C8 (Jb) rfl rfl) ?_
 refine ag ?_ ?_<;>intro h5 q5
 refine ac ?_
 refine wk [39,1] rfl ?_
 refine a2 ?_
 · exact O3
 refine ag ?_ ?_<;>intro h6 q6
 refine ac ?_
 refine wk [39,1] rfl ?_
 refine a2 ?_
 · exact JG
 refine ac ?_
 refine wk [39,1] rfl ?_
 refine Tr.cn rfl ?_ ?_<;>intro h7 q7
 refine a2 ?_
 · exact JG
 refine a2 ?_
 refine co rfl (C8 (MB) rfl rfl) ?_
 refine ag ?_ ?_<;>intro h8 q8
 refine ac ?_
 refine wk [67,1] rfl ?_
 refine a2 ?_
 · refine int_eq (if_neg (fun hv=> ?_)).symm;have vf:=JH hv;obtain ⟨WG,WH,Ox,Oy,I7,Gc,WI,WJ,Et,Oz,O0,O1,O2,WK,WL,WM,WN,WO,WQ⟩:=vf;have WR:=(C7.1 I7).2;unfold HY at Gc Et;simp_all;omega
 refine ac ?_
 refine cy h8 rfl (C8 (Of) rfl rfl) ?_
 refine ag ?_ ?_<;>intro h9 q9
 refine ac ?_
 refine wk [67,1] rfl ?_
 refine a2 ?_
 · exact O3
 refine ag ?_ ?_<;>intro h10 Q2
 refine ac ?_
 refine wk [67,1] rfl ?_
 refine a2 ?_
 · exact JG
 refine ag ?_ ?_<;>intro h11 U7
 refine ac ?_
 refine wk [67,1] rfl ?_
 refine a2 ?_
 · exact JG
 refine ac ?_
 refine wk [67,1] rfl ?_
 refine Tr.cn rfl ?_ ?_<;>intro h12 Ze
 refine a2 ?_
 · exact JG
 refine ac ?_
 refine ag ?_ ?_<;>intro L4 XK
 refine ac ?_
 refine wk [91,1] rfl ?_
 refine a2 ?_
 · exact JG
 refine ag ?_ ?_<;>intro J9 iZ
 refine ac ?_
 refine wk [91,1] rfl ?_
 refine a2 ?_
 · exact JG
 refine ag ?_ ?_<;>intro RA pK
 refine ag ?_ ?_<;>intro h16 mY
 refine ac ?_
 refine wk [91,1] rfl ?_
 refine a2 ?_
 · exact O3
 refine ac ?_
 refine wk [91,1] rfl ?_
 refine Tr.cn rfl ?_ ?_<;>intro Nj mX
 refine a2 ?_
 · exact JG
 refine a2 ?_
 refine Tr.block (Tr.Ax _ (kk [1] rfl) (fun k:Nat=>[(3,int ((k:Nat):Int))]) (fun k:Nat=>k≤(c.names).length∧(∀j,j<k→nameAt c.names j=true)) (fun k:Nat=>(c.names).length-k) 0 (⟨Nat.zero_le _,fun j hj=>absurd hj AA⟩) kz ?_)
 rintro k ⟨BK,AL⟩
 refine an ?_ ?_<;>intro Oa q18
 have Aa:k<(c.names).length:=AH Oa
 obtain ⟨s,AX⟩:=at_ Aa
 refine a2 ?_
 refine co rfl (AD rfl underlying127 LZ vq vq AA (Ac AX)) (co rfl (GI rfl OA rfl) (co rfl (C8 (GX) rfl rfl) ?_))
 refine ag ?_ ?_<;>intro WE q19
 refine ac ?_
 refine wk [123,3,1] rfl ?_
 refine a2 ?_
 · exact eX
 refine ag ?_ ?_<;>intro MY q20
 have JC:0<k:=by simpa using MY
 obtain ⟨y,hy⟩:=at_ (l:=c.names) (k:=k-1) AA
 · repeat' first|(refine int_eq (if_neg (fun hv=> ?_)).symm;have vf:=JH hv;obtain ⟨WG,WH,Ox,Oy,I7,Gc,WI,WJ,Et,Oz,O0,O1,O2,WK,WL,WM,WN,WO,WQ⟩:=vf;have WR:=(C7.1 I7).2;unfold HY at Gc Et;have mO:=(C7.1 I7).1 k AA;unfold nameAt at mO;simp_all)|(exact Fin.AM (k+1) ⟨⟨Aa,(fun j hj=>by rcases Nat.lt_or_eq_of_le (Nat.le_of_lt_succ hj) with h_|h_;exact AL j h_;(subst h_;refine KD AX Cc (fun h0=> ?_);exact ⟨y,hy,by simp_all⟩))⟩,by omega⟩ ⟨⟨_,rfl,AF k⟩,kz⟩)|(refine cy MY rfl (AD rfl underlying127 LZ vq vq AA FE) ?_)|refine cy MY rfl (AD rfl underlying127 LZ vq vq AA (Ac AX)) (cy MY rfl (GI rfl OA rfl) (cy MY rfl (K7 rfl vq vq) ?_))|refine ac ?_|(refine Tr.cn rfl ?_ ?_<;>intro h q)
 have JC:¬0<k:=by simpa using MY
 refine ac ?_
 refine wk [123,3,1] rfl ?_
 refine a2 ?_
 exact Fin.AM (k+1) ⟨⟨Aa,(fun j hj=>by rcases Nat.lt_or_eq_of_le (Nat.le_of_lt_succ hj) with h_|h_;exact AL j h_;(subst h_;refine KD AX Cc (fun h0=> ?_);exact absurd h0 JC))⟩,by omega⟩ ⟨⟨_,rfl,AF k⟩,kz⟩
 have Az:k=(c.names).length:=by have:=AJ Oa;omega
 subst Az
 · repeat' first|(refine int_eq (if_neg (fun hv=> ?_)).symm;have vf:=JH hv;obtain ⟨WG,WH,Ox,Oy,I7,Gc,WI,WJ,Et,Oz,O0,O1,O2,WK,WL,WM,WN,WO,WQ⟩:=vf;have WR:=(C7.1 I7).2;unfold HY at Gc Et;omega)|(refine int_eq (if_pos (Zi ⟨by omega,by omega,by simp_all,by simp_all,C7.2 ⟨AL,by omega⟩,by unfold HY;simp_all,by omega,by omega,by unfold HY;simp_all,by omega,by omega,by omega,by omega,by omega,by omega,by omega,by omega,by omega,by right;omega⟩)).symm)|refine ac ?_|(refine Tr.cn rfl ?_ ?_<;>intro h q)|(refine Ch.cg rfl rfl rfl ?_ ?_<;>intro h q)
 refine ac ?_
 refine wk [91,1] rfl ?_
 refine Tr.cn rfl ?_ ?_<;>intro h26 q26
 refine a2 ?_
 · exact JG
 refine a2 ?_
 refine Tr.block (Tr.Ax _ (kk [1] rfl) (fun k:Nat=>[(3,int ((k:Nat):Int))]) (fun k:Nat=>k≤(c.names).length∧(∀j,j<k→nameAt c.names j=true)) (fun k:Nat=>(c.names).length-k) 0 (⟨Nat.zero_le _,fun j hj=>absurd hj AA⟩) kz ?_)
 rintro k ⟨BK,AL⟩
 refine an ?_ ?_<;>intro h27 q27
 have Aa:k<(c.names).length:=AH h27
 obtain ⟨s,AX⟩:=at_ Aa
 refine a2 ?_
 refine co rfl (AD rfl underlying127 LZ vq vq AA (Ac AX)) (co rfl (GI rfl OA rfl) (co rfl (C8 (GX) rfl rfl) ?_))
 refine ag ?_ ?_<;>intro h28 q28
 refine ac ?_
 refine wk [123,3,1] rfl ?_
 refine a2 ?_
 · exact eX
 refine ag ?_ ?_<;>intro eR q29
 have JC:0<k:=by simpa using eR
 obtain ⟨y,hy⟩:=at_ (l:=c.names) (k:=k-1) AA
 · repeat' first|(refine int_eq (if_neg (fun hv=> ?_)).symm;have vf:=JH hv;obtain ⟨WG,WH,Ox,Oy,I7,Gc,WI,WJ,Et,Oz,O0,O1,O2,WK,WL,WM,WN,WO,WQ⟩:=vf;have WR:=(C7.1 I7).2;unfold HY at Gc Et;have mO:=(C7.1 I7).1 k AA;unfold nameAt at mO;simp_all)|(exact Fin.AM (k+1) ⟨⟨Aa,(fun j hj=>by rcases Nat.lt_or_eq_of_le (Nat.le_of_lt_succ hj) with h_|h_;exact AL j h_;(subst h_;refine KD AX Cc (fun h0=> ?_);exact ⟨y,hy,by simp_all⟩))⟩,by omega⟩ ⟨⟨_,rfl,AF k⟩,kz⟩)|(refine cy eR rfl (AD rfl underlying127 LZ vq vq AA FE) ?_)|refine cy eR rfl (AD rfl underlying127 LZ vq vq AA (Ac AX)) (cy eR rfl (GI rfl OA rfl) (cy eR rfl (K7 rfl vq vq) ?_))|refine ac ?_|(refine Tr.cn rfl ?_ ?_<;>intro h q)
 have JC:¬0<k:=by simpa using eR
 refine ac ?_
 refine wk [123,3,1] rfl ?_
 refine a2 ?_
 exact Fin.AM (k+1) ⟨⟨Aa,(fun j hj=>by rcases Nat.lt_or_eq_of_le (Nat.le_of_lt_succ hj) with h_|h_;exact AL j h_;(subst h_;refine KD AX Cc (fun h0=> ?_);exact absurd h0 JC))⟩,by omega⟩ ⟨⟨_,rfl,AF k⟩,kz⟩
 have Az:k=(c.names).length:=by have:=AJ h27;omega
 subst Az
 · repeat' first|(refine int_eq (if_neg (fun hv=> ?_)).symm;have vf:=JH hv;obtain ⟨WG,WH,Ox,Oy,I7,Gc,WI,WJ,Et,Oz,O0,O1,O2,WK,WL,WM,WN,WO,WQ⟩:=vf;have WR:=(C7.1 I7).2;unfold HY at Gc Et;omega)|(refine int_eq (if_pos (Zi ⟨by omega,by omega,by simp_all,by simp_all,C7.2 ⟨AL,by omega⟩,by unfold HY;simp_all,by omega,by omega,by unfold HY;simp_all,by omega,by omega,by omega,by omega,by omega,by omega,by omega,by omega,by omega,by left;simp_all⟩)).symm)|refine ac ?_|(refine Tr.cn rfl ?_ ?_<;>intro h q)|(refine Ch.cg rfl rfl rfl ?_ ?_<;>intro h q)
theorem and1 {a b:Bool} (h:(a&&b)=true):a=true:=by simp at h;exact h.1
theorem uo {a b:Bool} (h:(a&&b)=true):b=true:=by simp at h;exact h.2
theorem jG:∀(n:Nat) (l:List Int),(∀x∈l,1≤x∧x≤(n:Int))→l.Nodup→l.length≤n
 |0,l,h,_=>by
  cases l with
  |nil=>exact Nat.le_refl _
  |cons a l=>have:=h a (List.mem_cons_self ..);omega
 |n+1,l,h,hn=>by
  have ih:=jG n (l.erase ((n:Int)+1)) (fun x hx=>by
   have h1:=h x (List.mem_of_mem_erase hx)
   have h2:=(hn.mem_erase_iff.1 hx).1
   omega) (hn.erase _)
  rw [List.length_erase] at ih
  split at ih<;>omega
theorem RO {l:List Int} (h:Fq l=true):l.length≤16:=by
 refine jG 16 l (fun x hx=> ?_) ?_
 ·
  obtain ⟨j,hj⟩:=List.getElem?_of_mem hx
  have h1:=Br.1 (show allI (EG l) l.length=true from h) j (BP hj)
  unfold EG at h1;rw [getD_at hj] at h1
  have:=and1 h1
  simpa using this
 ·
  refine List.pairwise_iff_getElem.2 fun i j hi hj hij he=> ?_
  have:=XT h (List.getElem?_eq_getElem hi) (by rw [he];exact List.getElem?_eq_getElem hj)
  omega
theorem jH {p:Int→Bool} {l:List Int} (h:∀j,j<l.length→p (l[j]?.getD 0)=true):l.all p=true:=List.all_eq_true.2 fun x hx=>by
 obtain ⟨j,hj⟩:=List.getElem?_of_mem hx
 have:=h j (BP hj)
 rw [getD_at hj] at this;exact this
theorem cO {Bh bits id:Int} {l:List HR}  :BD prog 194 [agg [int Bh,int bits],int id,Nv l] (bool (P_ Bh bits id l)):=by
 refine fo func194 rfl ⟨rfl,rfl⟩ fun M0 w0=>(Tr.CM 2 rfl fun U_=> ?_)
 refine a2 ?_
 refine co rfl (C8 (Jb) rfl rfl) ?_
 refine ag ?_ ?_<;>intro h1 q1
 refine ac ?_
 refine wk [23,3,2,1] rfl ?_
 refine a2 ?_
 · refine bool_eq ?_;rw [Ck];unfold HY Fw;simp_all
 refine ag ?_ ?_<;>intro h2 q2
 refine ac ?_
 refine wk [23,3,2,1] rfl ?_
 refine a2 ?_
 · exact Sg
 refine ag ?_ ?_<;>intro h3 q3
 refine ac ?_
 refine wk [23,3,2,1] rfl ?_
 refine a2 ?_
 · exact Sg
 refine ac ?_
 refine wk [23,3,2,1] rfl ?_
 refine Tr.cn rfl ?_ ?_<;>intro h4 q4
 refine a2 ?_
 · exact Sg
 refine a2 ?_
 refine Tr.block (Tr.Ax _ (kk [3,2,1] rfl) (fun k:Nat=>[(7,int ((k:Nat):Int))]) (fun k:Nat=>k≤(l).length∧(∀j y,j<k→l[j]? =some y→(!Cr y)=false)) (fun k:Nat=>(l).length-k) 0 (⟨Nat.zero_le _,fun j y hj=>absurd hj AA⟩) kz ?_)
 rintro k ⟨BK,AL⟩
 refine an ?_ ?_<;>intro h5 q5
 have Aa:k<(l).length:=AH h5
 obtain ⟨c,AX⟩:=at_ Aa
 · repeat' first|(refine bool_eq ?_;rw [Ck];unfold HY Fw;rw [Ib (p:=Cr) AX Cc];simp)|exact Fin.AM (k+1) ⟨⟨Aa,CJ (p:=fun c=> !Cr c) AX Cc AL⟩,by omega⟩ ⟨⟨_,rfl,AF k⟩,kz⟩|refine co rfl (AD rfl underlying82 C6 vq vq AA (Ac AX)) (co rfl (AK rfl FM C6 vq rfl rfl) (co rfl (C8 (XW) rfl rfl) ?_))|refine ac ?_|(refine Tr.cn rfl ?_ ?_<;>intro h q)
 have Az:k=(l).length:=by have:=AJ h5;omega
 subst Az
 have hall:=FO AL
 refine ac ?_
 refine ag ?_ ?_<;>intro h7 q7
 refine ac ?_
 refine wk [6] rfl ?_
 refine ac ?_
 · refine bool_eq ?_;rw [Ck];unfold HY Fw;rw [hall,Rn Cc];simp_all
 obtain ⟨c0,hc0⟩:=at_ (l:=l) (k:=0) (by have:=h7;simp at this;exact List.length_pos_iff.2 this)
 refine HZ h7 rfl ?_
 refine cy h7 rfl (AD rfl underlying82 C6 vq vq AA (Ac (k:=0) hc0)) ?_
 refine ac ?_
 refine cy h7 rfl (MA rfl vq vq) (HZ h7 rfl ?_)
 refine Ch.cs 46 rfl ?_ ?_<;>intro h8 q8
 refine HZ h8 rfl ?_
 refine cy h8 rfl (AD rfl underlying82 C6 vq vq AA (Ac (k:=0) hc0)) ?_
 refine ac ?_
 refine wk [6] rfl ?_
 refine ac ?_
 · refine bool_eq ?_;rw [Ck];unfold HY Fw;rw [hall,MC hc0];clear hall AL hc0;simp_all;omega
 refine ac ?_
 refine wk [6] rfl ?_
 refine ac ?_
 · refine bool_eq ?_;rw [Ck];unfold HY Fw;rw [hall,MC hc0];clear hall AL hc0;simp_all
theorem XX {e:E4} (hs3:e.hashes.length≤17592186044416):BD prog 148 [agg (Dq e)] (int (if PG e then 0 else 19)):=by
 refine fo func148 rfl ⟨rfl,rfl⟩ fun M0 w0=> ?_
 refine ac ?_
 refine ac ?_
 refine co rfl (C8 (jE) rfl rfl) ?_
 refine ac ?_
 refine Ch.cs 13 rfl ?_ ?_<;>intro h1 q1
 refine ac ?_
 refine Ki 1 47 rfl ?_
 refine ac ?_
 refine ac ?_
 · refine int_eq (if_neg (fun hv=> ?_)).symm;have ok:=EN.1 hv;have v1:=ok.name;have v2:=ok.least;have v3:=ok.lm;have v4:=ok.most;have v5:=RO ok.B6;have v6:=ok.idl;have v7:=ok.xM;simp_all
 refine ac ?_
 refine Ch.cs 18 rfl ?_ ?_<;>intro h2 q2
 refine ac ?_
 refine Ki 1 47 rfl ?_
 refine ac ?_
 refine ac ?_
 · exact Me
 refine ac ?_
 refine Ch.cs 25 rfl ?_ ?_<;>intro h3 q3
 refine ac ?_
 refine Ki 1 47 rfl ?_
 refine ac ?_
 refine ac ?_
 · exact Me
 refine ac ?_
 refine Ch.cs 30 rfl ?_ ?_<;>intro h4 q4
 refine ac ?_
 refine Ki 1 47 rfl ?_
 refine ac ?_
 refine ac ?_
 · exact Me
 refine ac ?_
 refine Ch.cs 36 rfl ?_ ?_<;>intro h5 q5
 refine ac ?_
 refine Ki 1 47 rfl ?_
 refine ac ?_
 refine ac ?_
 · exact Me
 refine ac ?_
 refine Ch.cs 42 rfl ?_ ?_<;>intro h6 q6
 refine ac ?_
 refine Ki 1 47 rfl ?_
 refine ac ?_
 refine ac ?_
 · exact Me
 refine ac ?_
 refine Ki 1 47 rfl ?_
 refine Tr.cn rfl ?_ ?_<;>intro h7 q7
 refine ac ?_
 refine ac ?_
 · exact Me
 refine ac ?_
 refine ac ?_
 refine Tr.block (Tr.Ax [(1,_)] ⟨ke rfl,trivial⟩ (fun i:Nat=>[(3,int ((i:Nat):Int))]) (fun i:Nat=>i≤(e.B6).length∧(∀j,j<i→EG e.B6 j=true)) (fun i:Nat=>(e.B6).length-i) 0 (⟨Nat.zero_le _,fun j hj=>absurd hj AA⟩) ⟨ke rfl,trivial⟩ ?_)
 rintro i ⟨QH,DC⟩
 refine ac ?_
 refine Tr.cn rfl ?_ ?_<;>intro h8 q8
 have Fi:i<(e.B6).length:=AH h8
 obtain ⟨x,HJ⟩:=at_ Fi
 have hg:=getD_at (d:=(0:Int)) HJ
 refine ac ?_
 refine ao ?_
 refine tp rfl (AD rfl underlying22 Bg (vl rfl) (vl rfl) AA (Ac HJ)) (tp rfl (GI rfl CX rfl) (tp rfl (C8 (cN) rfl rfl) ?_))
 refine ao ?_
 refine Tl rfl rfl rfl rfl W0 L6 (fun b1=> ?_)
 refine sf 0 4 ⟨rfl,rfl,rfl⟩ rfl rfl rfl rfl ?_
 refine ao ?_
 refine NZ 1 3 5 rfl ?_
 refine ac ?_
 refine Ch.cs 66 rfl ?_ ?_<;>intro h9 q9
 have uf:¬(1≤x∧x≤16):=by intro hh;rw [if_pos hh] at h9;exact absurd h9 AB
 refine ac ?_
 refine NZ 1 3 77 rfl ?_
 refine ac ?_
 refine ac ?_
 · refine int_eq (if_neg (fun hv=> ?_)).symm;have ok:=EN.1 hv;have h_:=Br.1 (show allI (EG e.B6) e.B6.length=true from ok.B6) i AA;unfold EG at h_;rw [hg] at h_;exact uf (by simpa using and1 h_)
 have hin:1≤x∧x≤16:=by refine Decidable.byContradiction fun hh=> ?_;rw [if_neg hh] at h9;exact absurd h9 AB
 refine ac ?_
 refine cy h9 rfl (Ff rfl underlying22 Bg (vl rfl) (vl rfl) AA B1) ?_
 refine ac ?_
 refine cy h9 rfl (AD rfl underlying22 Bg (vl rfl) (vl rfl) AA (Ac HJ)) (cy h9 rfl (GI rfl CX rfl) ?_)
 refine cy h9 rfl (AZ rfl (jF (l:=e.B6.take i) (v:=x)) ⟨⟨_,rfl,Pr.le_of_eq (by rw [←List.map_take,Int.toNat_natCast])⟩,ke rfl,trivial⟩) ?_
 refine ac ?_
 refine NZ 1 3 77 rfl ?_
 refine Tr.cn rfl ?_ ?_<;>intro h10 Q2
 refine ac ?_
 refine ac ?_
 · refine int_eq (if_neg (fun hv=> ?_)).symm;have ok:=EN.1 hv;have h_:=Br.1 (show allI (EG e.B6) e.B6.length=true from ok.B6) i AA;unfold EG at h_;rw [hg] at h_;exact absurd (by assumption:((e.B6.take i).any fun y=>x==y)=true) (by have h2:=uo h_;rw [Bool.not_eq_true'] at h2;rw [h2];decide)
 refine ac ?_
 refine ac ?_
 exact Fin.AM (i+1) ⟨⟨Fi,Bo DC Sf⟩,by omega⟩ ⟨⟨_,rfl,AF i⟩,ke rfl,trivial⟩
 have KS:i=(e.B6).length:=by have:=AJ h8;omega
 subst KS
 refine ac ?_
 refine ac ?_
 refine Tr.block (Tr.Ax [(1,_)] ⟨ke rfl,trivial⟩ (fun m:Nat=>[(6,int ((m:Nat):Int))]) (fun m:Nat=>m≤(e.ids).length∧(∀j y,j<m→e.ids[j]? =some y→(!bh y)=false)) (fun m:Nat=>(e.ids).length-m) 0 (⟨Nat.zero_le _,fun j y hj=>absurd hj AA⟩) ⟨ke rfl,trivial⟩ ?_)
 rintro m ⟨Nx,Em⟩
 refine ac ?_
 refine Tr.cn rfl ?_ ?_<;>intro h11 U7
 have FA:m<(e.ids).length:=AH h11
 obtain ⟨x,EC⟩:=at_ FA
 refine ac ?_
 refine ac ?_
 refine co rfl (AD rfl underlying38 JS (vl rfl) (vl rfl) AA (Ac EC)) ?_
 refine ac ?_
 refine co rfl (AD rfl underlying38 JS (vl rfl) (vl rfl) AA (Ac EC)) ?_
 refine ac ?_
 refine co rfl (AD rfl underlying38 JS (vl rfl) (vl rfl) AA (Ac EC)) ?_
 refine ac ?_
 refine co rfl (XC (cO) rfl rfl rfl rfl) ?_
 refine ac ?_
 refine NZ 1 6 104 rfl ?_
 refine Tr.cn rfl ?_ ?_<;>intro h12 Ze
 refine ac ?_
 refine ac ?_
 · refine int_eq (if_neg (fun hv=> ?_)).symm;have ok:=EN.1 hv;have h_:=List.all_eq_true.1 ok.ids x (List.mem_of_getElem? EC);unfold bh at h_;simp_all
 refine ac ?_
 refine ac ?_
 exact Fin.AM (m+1) ⟨⟨FA,CJ (p:=fun c=> !bh c) EC (by unfold bh;simp_all) Em⟩,by omega⟩ ⟨⟨_,rfl,AF m⟩,ke rfl,trivial⟩
 have LK:m=(e.ids).length:=by have:=AJ h11;omega
 subst LK
 have hall:=FO Em
 refine ac ?_
 refine ac ?_
 refine Tr.block (Tr.Ax [(1,_)] ⟨ke rfl,trivial⟩ (fun o:Nat=>[(7,int ((o:Nat):Int))]) (fun o:Nat=>o≤(e.anchors).length∧(∀j,j<o→(GN e.anchors j&&Fw (e.anchors[j]?.getD 0))=true)) (fun o:Nat=>(e.anchors).length-o) 0 (⟨Nat.zero_le _,fun j hj=>absurd hj AA⟩) ⟨ke rfl,trivial⟩ ?_)
 rintro o ⟨AAH,LL⟩
 refine ac ?_
 refine Tr.cn rfl ?_ ?_<;>intro L4 XK
 have cQ:o<(e.anchors).length:=AH L4
 obtain ⟨a,SX⟩:=at_ cQ
 have hg:=getD_at (d:=(0:Int)) SX
 refine ac ?_
 refine ac ?_
 refine co rfl (AD rfl underlying22 Bg (vl rfl) (vl rfl) AA (Ac SX)) ?_
 refine ac ?_
 refine Ch.cs 118 rfl ?_ ?_<;>intro J9 iZ
 refine ac ?_
 refine NZ 1 7 143 rfl ?_
 refine ac ?_
 refine ac ?_
 · exact eo
 refine ac ?_
 refine cy J9 rfl (AD rfl underlying22 Bg (vl rfl) (vl rfl) AA (Ac SX)) ?_
 refine ac ?_
 refine Ch.cs 126 rfl ?_ ?_<;>intro RA pK
 refine ac ?_
 refine NZ 1 7 143 rfl ?_
 refine ac ?_
 refine ac ?_
 · exact eo
 refine ac ?_
 refine Ch.cs 129 rfl ?_ ?_<;>intro h16 mY
 have hk0:0<o:=by simpa using h16
 obtain ⟨y,hy⟩:=at_ (l:=e.anchors) (k:=o-1) AA
 have Ke:=getD_at (d:=(0:Int)) hy
 refine ac ?_
 refine cy h16 rfl (AD rfl underlying22 Bg (vl rfl) (vl rfl) AA (by rw [show ((o:Nat):Int)-1=((o-1:Nat):Int) by omega];exact Ac hy)) ?_
 refine ac ?_
 refine cy h16 rfl (AD rfl underlying22 Bg (vl rfl) (vl rfl) AA (Ac SX)) ?_
 refine ac ?_
 refine NZ 1 7 143 rfl ?_
 refine Tr.cn rfl ?_ ?_<;>intro Nj mX
 refine ac ?_
 refine ac ?_
 · refine int_eq (if_neg (fun hv=> ?_)).symm;have ok:=EN.1 hv;have h_:=Br.1 (show allI (GN e.anchors) e.anchors.length=true from ok.anc) o AA;unfold GN at h_;rw [hg,Ke] at h_;simp at h_;omega
 refine ac ?_
 refine ac ?_
 exact Fin.AM (o+1) ⟨⟨cQ,(fun j hj=>by rcases Nat.lt_or_eq_of_le (Nat.le_of_lt_succ hj) with h_|h_;exact LL j h_;(subst h_;unfold GN Fw;rw [hg];rw [Ke];simp_all))⟩,by omega⟩ ⟨⟨_,rfl,AF o⟩,ke rfl,trivial⟩
 have JC:¬0<o:=by simpa using h16
 refine ac ?_
 refine NZ 1 7 143 rfl ?_
 refine ac ?_
 refine ac ?_
 exact Fin.AM (o+1) ⟨⟨cQ,(fun j hj=>by rcases Nat.lt_or_eq_of_le (Nat.le_of_lt_succ hj) with h_|h_;exact LL j h_;(subst h_;unfold GN Fw;rw [hg];simp_all))⟩,by omega⟩ ⟨⟨_,rfl,AF o⟩,ke rfl,trivial⟩
 have uq:o=(e.anchors).length:=by have:=AJ L4;omega
 subst uq
 refine ac ?_
 refine ac ?_
 refine Tr.block (Tr.Ax [(1,_)] ⟨ke rfl,trivial⟩ (fun q:Nat=>[(8,int ((q:Nat):Int))]) (fun q:Nat=>q≤(e.hashes).length∧(∀j,j<q→(GN e.hashes j&&Jd (e.hashes[j]?.getD 0))=true)) (fun q:Nat=>(e.hashes).length-q) 0 (⟨Nat.zero_le _,fun j hj=>absurd hj AA⟩) ⟨ke rfl,trivial⟩ ?_)
 rintro q ⟨AEW,Tt⟩
 refine ac ?_
 refine Tr.cn rfl ?_ ?_<;>intro Oa q18
 have ur:q<(e.hashes).length:=AH Oa
 obtain ⟨a,pY⟩:=at_ ur
 have hg:=getD_at (d:=(0:Int)) pY
 refine ac ?_
 refine ac ?_
 refine co rfl (AD rfl underlying22 Bg (vl rfl) (vl rfl) AA (Ac pY)) (co rfl (GI rfl CX rfl) (co rfl (C8 (Of) rfl rfl) ?_))
 refine ac ?_
 refine Ch.cs 158 rfl ?_ ?_<;>intro WE q19
 refine ac ?_
 refine NZ 1 8 175 rfl ?_
 refine ac ?_
 refine ac ?_
 · refine int_eq (if_neg (fun hv=> ?_)).symm;have ok:=EN.1 hv;have h_:=List.all_eq_true.1 ok.hsh a (List.mem_of_getElem? pY);unfold Jd at h_;simp_all
 refine ac ?_
 refine Ch.cs 161 rfl ?_ ?_<;>intro MY q20
 have hk0:0<q:=by simpa using MY
 obtain ⟨y,hy⟩:=at_ (l:=e.hashes) (k:=q-1) AA
 have Ke:=getD_at (d:=(0:Int)) hy
 refine ac ?_
 refine cy MY rfl (AD rfl underlying22 Bg (vl rfl) (vl rfl) AA (by rw [show ((q:Nat):Int)-1=((q-1:Nat):Int) by omega];exact Ac hy)) ?_
 refine ac ?_
 refine cy MY rfl (AD rfl underlying22 Bg (vl rfl) (vl rfl) AA (Ac pY)) ?_
 refine ac ?_
 refine NZ 1 8 175 rfl ?_
 refine Tr.cn rfl ?_ ?_<;>intro RF q21
 refine ac ?_
 refine ac ?_
 · refine int_eq (if_neg (fun hv=> ?_)).symm;have ok:=EN.1 hv;have h_:=Br.1 (show allI (GN e.hashes) e.hashes.length=true from ok.hash) q AA;unfold GN at h_;rw [hg,Ke] at h_;simp at h_;omega
 refine ac ?_
 refine ac ?_
 exact Fin.AM (q+1) ⟨⟨ur,(fun j hj=>by rcases Nat.lt_or_eq_of_le (Nat.le_of_lt_succ hj) with h_|h_;exact Tt j h_;(subst h_;unfold GN Jd;rw [hg];rw [Ke];simp_all))⟩,by omega⟩ ⟨⟨_,rfl,AF q⟩,ke rfl,trivial⟩
 have JC:¬0<q:=by simpa using MY
 refine ac ?_
 refine NZ 1 8 175 rfl ?_
 refine ac ?_
 refine ac ?_
 exact Fin.AM (q+1) ⟨⟨ur,(fun j hj=>by rcases Nat.lt_or_eq_of_le (Nat.le_of_lt_succ hj) with h_|h_;exact Tt j h_;(subst h_;unfold GN Jd;rw [hg];simp_all))⟩,by omega⟩ ⟨⟨_,rfl,AF q⟩,ke rfl,trivial⟩
 have ADk:q=(e.hashes).length:=by have:=AJ Oa;omega
 subst ADk
 refine ac ?_
 refine ac ?_
 refine ac ?_
 · refine int_eq (if_pos (EN.2 ⟨by simp_all,by omega,by omega,by omega,Br.2 DC,by omega,by omega,Br.2 (fun j hj=>and1 (LL j hj)),Br.2 (fun j hj=>and1 (Tt j hj)),hall,jH (fun j hj=>uo (LL j hj)),jH (fun j hj=>uo (Tt j hj))⟩)).symm
theorem cR {e:E4} (WA:e.small):BD Tryz.prog 148 [agg (Dq e)] (int (if PG e then 0 else 19)):=XX (by have:=WA.hashes;omega)
theorem uu {a b:List (Int)}  :BD prog 87 [ints a,ints b] (bool (decide (a=b))):=by
 refine fo func87 rfl ⟨rfl,rfl⟩ fun M0 w0=>(Tr.CM 0 rfl fun D4=>(Tr.CM 1 rfl fun Fz=> ?_))
 refine ac ?_
 refine an ?_ ?_<;>intro h1 q1
 have hne:¬a.length=b.length:=by simp_all;omega
 refine a2 ?_
 · exact Mg
 have Q0:a.length=b.length:=by simp_all;omega
 refine a2 ?_
 refine Tr.block (Tr.Ax _ (kk [12,1,0] rfl) (fun k:Nat=>[(13,int ((k:Nat):Int))]) (fun k:Nat=>k≤(a).length∧(a.take k=b.take k)) (fun k:Nat=>(a).length-k) 0 (⟨Nat.zero_le _,rfl⟩) kz ?_)
 rintro k ⟨BK,AL⟩
 refine ac ?_
 refine Tr.seq ?_
 refine Tr.cn rfl ?_ ?_<;>intro h2 q2
 have Aa:k<(a).length:=AH h2
 obtain ⟨x,AX⟩:=at_ Aa
 obtain ⟨y,hy⟩:=at_ (l:=b) (k:=k) AA
 · exact eU
 have Az:k=(a).length:=by have:=AJ h2;omega
 subst Az
 refine a3 ?_
 · exact Mh
theorem uv {a b:List (List UInt8)}  :BD prog 185 [bf a,bf b] (bool (decide (a=b))):=by
 refine fo func185 rfl ⟨rfl,rfl⟩ fun M0 w0=>(Tr.CM 0 rfl fun D4=>(Tr.CM 1 rfl fun Fz=> ?_))
 refine ac ?_
 refine an ?_ ?_<;>intro h1 q1
 have hne:¬a.length=b.length:=by simp_all;omega
 refine a2 ?_
 · exact Mg
 have Q0:a.length=b.length:=by simp_all;omega
 refine a2 ?_
 refine Tr.block (Tr.Ax _ (kk [12,1,0] rfl) (fun k:Nat=>[(13,int ((k:Nat):Int))]) (fun k:Nat=>k≤(a).length∧(a.take k=b.take k)) (fun k:Nat=>(a).length-k) 0 (⟨Nat.zero_le _,rfl⟩) kz ?_)
 rintro k ⟨BK,AL⟩
 refine ac ?_
 refine Tr.seq ?_
 refine Tr.cn rfl ?_ ?_<;>intro h2 q2
 have Aa:k<(a).length:=AH h2
 obtain ⟨x,AX⟩:=at_ Aa
 obtain ⟨y,hy⟩:=at_ (l:=b) (k:=k) AA
 · repeat' first|(refine bool_eq ?_;symm;rw [decide_eq_false_iff_not];refine Yj AX hy ?_;rintro rfl;simp_all)|exact Fin.AM (k+1) ⟨⟨Aa,O4 AX hy AL Cc⟩,by omega⟩ ⟨⟨_,rfl,AF k⟩,kz⟩|refine co rfl (AD rfl underlying127 LZ vq vq AA (Ac AX)) ?_|refine co rfl (AD rfl underlying127 LZ vq vq AA (Ac hy)) ?_|refine ac ?_|(refine Tr.cn rfl ?_ ?_<;>intro h q)
 have Az:k=(a).length:=by have:=AJ h2;omega
 subst Az
 refine a3 ?_
 · exact Mh
abbrev ADl (l:List E4):Pr:=slice 9 (l.map Dq)
theorem uw {a b:List HR}  :BD prog 141 [Nv a,Nv b,OU prog (fun p:HR×HR=>[agg (DF p.1),agg (DF p.2)]) (fun p=>bool (decide (p.1=p.2)))] (bool (decide (a=b))):=by
 refine fo func141 rfl ⟨rfl,rfl⟩ fun M0 w0=>(Tr.CM 0 rfl fun D4=>(Tr.CM 1 rfl fun Fz=> ?_))
 refine ac ?_
 refine an ?_ ?_<;>intro h1 q1
 have hne:¬a.length=b.length:=by simp_all;omega
 refine a2 ?_
 · exact Mg
 have Q0:a.length=b.length:=by simp_all;omega
 refine a2 ?_
 refine Tr.block (Tr.Ax _ (kk [16,15,2,1] rfl) (fun k:Nat=>[(17,int ((k:Nat):Int))]) (fun k:Nat=>k≤(a).length∧(a.take k=b.take k)) (fun k:Nat=>(a).length-k) 0 (⟨Nat.zero_le _,rfl⟩) kz ?_)
 rintro k ⟨BK,AL⟩
 refine ac ?_
 refine Tr.seq ?_
 refine Tr.cn rfl ?_ ?_<;>intro h2 q2
 have Aa:k<(a).length:=AH h2
 obtain ⟨x,AX⟩:=at_ Aa
 obtain ⟨y,hy⟩:=at_ (l:=b) (k:=k) AA
 refine ac ?_
 refine ao ?_
 refine tp rfl (AD rfl underlying82 C6 (vl rfl) (vl rfl) AA (Ac AX)) (tp rfl (AK rfl FM C6 (vl rfl) rfl rfl) ?_)
 refine Tl rfl rfl rfl rfl Pp Kn (fun b1=> ?_)
 refine tm rfl ?_
 refine sf 0 8 ⟨rfl,rfl,rfl⟩ rfl rfl rfl rfl ?_
 refine ao ?_
 refine ao ?_
 refine tp rfl (AD rfl underlying82 C6 (vl rfl) (vl rfl) AA (Ac hy)) (tp rfl (AK rfl FM C6 (vl rfl) rfl rfl) ?_)
 refine Tl rfl rfl rfl rfl Pp Kn (fun b2=> ?_)
 refine sf 0 9 ⟨rfl,rfl,rfl⟩ rfl rfl rfl rfl ?_
 refine ao ?_
 · exact eW
 have Az:k=(a).length:=by have:=AJ h2;omega
 subst Az
 refine a3 ?_
 · exact Mh
structure FQ where
 Dy:List E4
 DL:List La
 items:List NA
 deriving DecidableEq
abbrev Hv (e:FQ):List Pr:=[ADl e.Dy,MF e.DL,XR e.items]
structure FQ.fits (e:FQ):Prop where
 Dy:∀x∈e.Dy,x.fits∧x.small
 items:∀x∈e.items,x.name.length≤maxLen
 le:e.Dy.length≤1000000000000
 lg:e.DL.length≤1000000000000
 li:e.items.length≤1000000000000
def PC (l:List E4) (i:Nat):Bool:=PG (l[i]?.getD Je)&&(decide (i=0)||decide (Lib.compareBytes (l[i-1]?.getD Je).name (l[i]?.getD Je).name= -1))
def HT (e:FQ):Bool:=(allI (PC e.Dy) e.Dy.length&&decide (e.Dy.length≤16))&&IC e.Dy.length e.DL&&(e.items.all GP&&decide (e.items.length≤30))
structure sM (e:FQ):Prop where
 ep:∀j,j<e.Dy.length→PC e.Dy j=true
 e16:e.Dy.length≤16
 ed:∀j,j<e.DL.length→Cw e.Dy.length e.DL j=true
 e40:e.DL.length≤40
 it:e.items.all GP=true
 i30:e.items.length≤30
theorem Fl {e:FQ}:HT e=true↔sM e:=by
 unfold HT IC
 simp only [Bool.and_eq_true,decide_eq_true_eq,Br]
 exact ⟨fun ⟨⟨⟨h1,h2⟩,h3,h4⟩,h5,h6⟩=>⟨h1,h2,h3,h4,h5,h6⟩,fun h=>⟨⟨⟨h.ep,h.e16⟩,h.ed,h.e40⟩,h.it,h.i30⟩⟩
theorem RP {e:FQ} (h:sM e):IC e.Dy.length e.DL=true:=by unfold IC;simp only [Bool.and_eq_true,decide_eq_true_eq,Br];exact ⟨h.ed,h.e40⟩
theorem ux {x:NA} (hx:x.name.length≤maxLen):BD prog 200 [agg (Hu x)] (bool (!GP x)):=by
 refine fo func200 rfl ⟨rfl,rfl⟩ fun M0 w0=> ?_
 refine a2 ?_
 refine co rfl (C8 (cM hx) rfl rfl) ?_
 refine a2 ?_
 · refine bool_eq ?_;cases h_:GP x<;>simp_all
theorem uy:Entry Tryz.prog 200:=⟨_,Tryz.func200,rfl,rfl⟩
theorem pZ {α:Type} {g:α→NA} {l:List α} {p:α→Bool}  :BD prog 238 [slice 5 (l.map fun x=>Hu (g x)),OU prog (fun x:α=>[agg (Hu (g x))]) (fun x=>bool (p x))] (int (idx p l)):=by
 refine fo func238 rfl ⟨rfl,rfl⟩ fun M0 w0=>(Tr.CM 0 rfl fun D4=> ?_)
 refine a2 ?_
 refine Tr.block (Tr.Ax _ (kk [7,1,0] rfl) (fun k:Nat=>[(8,int ((k:Nat):Int))]) (fun k:Nat=>k≤(l).length∧(∀j y,j<k→l[j]? =some y→p y=false)) (fun k:Nat=>(l).length-k) 0 (⟨Nat.zero_le _,fun j y hj=>absurd hj AA⟩) kz ?_)
 rintro k ⟨BK,AL⟩
 refine ac ?_
 refine Tr.seq ?_
 refine Tr.cn rfl ?_ ?_<;>intro h1 q1
 have Aa:k<(l).length:=AH h1
 obtain ⟨x,AX⟩:=at_ Aa
 · repeat' first|exact int_eq (E8 AX BC AL)|exact Fin.AM (k+1) ⟨⟨Aa,CJ AX BC AL⟩,by omega⟩ ⟨⟨_,rfl,AF k⟩,kz⟩|refine co rfl (AD rfl underlying29 Iz vq vq AA Bl) ?_|refine co rfl (AK rfl TN Iz vq rfl rfl) (co rfl (EO x rfl vq kz) ?_)|refine ac ?_|(refine Tr.cn rfl ?_ ?_<;>intro h q)
 have Az:k=(l).length:=by have:=AJ h1;omega
 subst Az
 refine a3 ?_
 · exact Lm
theorem pg {α:Type} {g:α→NA} {l:List α} {p:α→Bool}  :BD prog 199 [slice 5 (l.map fun x=>Hu (g x)),OU prog (fun x:α=>[agg (Hu (g x))]) (fun x=>bool (p x))] (bool (l.any p)):=by
 refine fo func199 rfl ⟨rfl,rfl⟩ fun M0 w0=> ?_
 refine a2 ?_
 refine co rfl (C4 (pZ) rfl rfl rfl) ?_
 refine a2 ?_
 · exact bool_eq (Od p l)
theorem XY {l:List NA} (h:∀x∈l,x.name.length≤maxLen):∃m:List {x:NA//x.name.length≤maxLen},(m.map fun x=>Hu x.1)=l.map Hu∧(m.any fun x=> !GP x.1)= !l.all GP:=by
 refine ⟨l.attach.map fun x=>⟨x.1,h x.1 x.2⟩,?_,?_⟩
 · rw [List.map_map];exact List.attach_map_val (f:=Hu) ▸ rfl
 ·
  rw [←Zc,List.any_map]
  show (l.attach.any fun x=> !GP x.1)=_
  rw [Bool.eq_iff_iff];simp
theorem jI {e:FQ} (hf:e.fits):BD prog 151 [agg (Hv e)] (int (if HT e then 0 else 31)):=by
 refine fo func151 rfl ⟨rfl,rfl⟩ fun M0 w0=> ?_
 have hl1:=hf.le
 have hl2:=hf.lg
 have hl3:=hf.li
 obtain ⟨mi,ADm,tF⟩:=XY hf.items
 refine ac ?_
 refine ac ?_
 refine Tr.block (Tr.Ax [(1,_),(7,_),(8,_)] (kk3 rfl) (fun k:Nat=>[(9,int ((k:Nat):Int))]) (fun k:Nat=>k≤(e.Dy).length∧(∀j,j<k→PC e.Dy j=true)) (fun k:Nat=>(e.Dy).length-k) 0 (⟨Nat.zero_le _,fun j hj=>absurd hj AA⟩) ⟨ke rfl,trivial⟩ ?_)
 rintro k ⟨BK,AL⟩
 refine ac ?_
 refine Tr.seq ?_
 refine Tr.cn rfl ?_ ?_<;>intro h1 q1
 have Aa:k<(e.Dy).length:=AH h1
 obtain ⟨x,AX⟩:=at_ Aa
 have hg:=getD_at (d:=Je) AX
 have hxf:=hf.Dy x (List.mem_of_getElem? AX)
 refine ac ?_
 refine ao ?_
 refine tp rfl (AD rfl underlying27 Gy (vl rfl) (vl rfl) AA (Ac AX)) (tp rfl (AK rfl Pk Gy (vl rfl) rfl rfl) ?_)
 refine Tl rfl rfl rfl rfl z40 gI (fun b1=> ?_)
 refine tm rfl ?_
 refine sf 0 4 ⟨rfl,rfl,rfl⟩ rfl rfl rfl rfl ?_
 refine ao ?_
 refine ac ?_
 refine co rfl (C8 (iS hxf.1) rfl rfl) ?_
 refine ac ?_
 refine Ch.cs 17 rfl ?_ ?_<;>intro h2 q2
 refine ac ?_
 refine Na 1 7 8 9 32 rfl ?_
 refine ac ?_
 refine ac ?_
 · exact fB
 refine ac ?_
 refine Ch.cs 20 rfl ?_ ?_<;>intro h3 q3
 have hk0:0<k:=by simpa using h3
 obtain ⟨y,hy⟩:=at_ (l:=e.Dy) (k:=k-1) AA
 have Ke:=getD_at (d:=Je) hy
 refine ac ?_
 refine cy h3 rfl (AD rfl underlying27 Gy (vl rfl) (vl rfl) AA FE) ?_
 refine ac ?_
 refine cy h3 rfl (K7 rfl (vl rfl) (vl rfl)) ?_
 refine ac ?_
 refine Na 1 7 8 9 32 rfl ?_
 refine Tr.cn rfl ?_ ?_<;>intro h4 q4
 refine ac ?_
 refine ac ?_
 · exact e_
 refine ac ?_
 refine ac ?_
 exact Fin.AM (k+1) ⟨⟨Aa,Bo AL (by unfold PC;rw [hg,Ke];simp_all)⟩,by omega⟩ ⟨⟨_,rfl,AF k⟩,ke rfl,ke rfl,ke rfl,trivial⟩
 have JC:¬0<k:=by simpa using h3
 refine ac ?_
 refine Na 1 7 8 9 32 rfl ?_
 refine ac ?_
 refine ac ?_
 exact Fin.AM (k+1) ⟨⟨Aa,Bo AL (by unfold PC;rw [hg];simp_all)⟩,by omega⟩ ⟨⟨_,rfl,AF k⟩,ke rfl,ke rfl,ke rfl,trivial⟩
 have Az:k=(e.Dy).length:=by have:=AJ h1;omega
 subst Az
 have QI:=AL
 refine ac ?_
 refine ac ?_
 refine co rfl (AZ rfl (pg (g:=fun x:{x:NA//x.name.length≤maxLen}=>x.1) (l:=mi) (p:=fun x=> !GP x.1)) ⟨⟨_,rfl,Pr.le_of_eq (by rw [ADm])⟩,⟨_,rfl,B9 (dom:=fun x:{x:NA//x.name.length≤maxLen}=>[agg (Hu x.1)]) (res:=fun x=>bool (!GP x.1)) uy (fun x=>ux x.2)⟩,trivial⟩) ?_
 refine ac ?_
 refine ac ?_
 refine Ch.cs 38 rfl ?_ ?_<;>intro h5 q5
 refine ac ?_
 refine bN 58 rfl ?_
 refine ac ?_
 refine ac ?_
 · exact eu
 refine ac ?_
 refine Ch.cs 44 rfl ?_ ?_<;>intro h6 q6
 refine ac ?_
 refine bN 58 rfl ?_
 refine ac ?_
 refine ac ?_
 · exact O5
 refine ac ?_
 refine Ch.cs 50 rfl ?_ ?_<;>intro h7 q7
 refine ac ?_
 refine bN 58 rfl ?_
 refine ac ?_
 refine ac ?_
 · exact O5
 refine ac ?_
 refine cy h7 rfl (C4 (jD (l:=e.DL) (n:=e.Dy.length)) rfl rfl rfl) ?_
 refine ac ?_
 refine bN 58 rfl ?_
 refine Tr.cn rfl ?_ ?_<;>intro h8 q8
 refine ac ?_
 refine ac ?_
 · exact eu
 refine ac ?_
 refine ac ?_
 refine ac ?_
 · refine int_eq (if_pos ?_).symm;unfold HT;simp_all [Br];omega
theorem Ih {e:FQ} (hf:e.fits):BD prog 94 [agg (Hv e)] (int (if HT e then 0 else 31)):=by
 refine fo func94 rfl ⟨rfl,rfl⟩ fun M0 w0=> ?_
 have hl1:=hf.le
 have hl2:=hf.lg
 have hl3:=hf.li
 refine ac ?_
 refine ac ?_
 refine Ch.cs 11 rfl ?_ ?_<;>intro h1 q1
 refine ac ?_
 refine Ki 1 22 rfl ?_
 refine ac ?_
 refine ac ?_
 · exact O5
 refine ac ?_
 refine Ch.cs 17 rfl ?_ ?_<;>intro h2 q2
 refine ac ?_
 refine Ki 1 22 rfl ?_
 refine ac ?_
 refine ac ?_
 · exact O5
 refine ac ?_
 refine Ki 1 22 rfl ?_
 refine Tr.cn rfl ?_ ?_<;>intro h3 q3
 refine ac ?_
 refine ac ?_
 · exact O5
 refine ac ?_
 refine ac ?_
 refine Tr.block (Tr.Ax [(1,_)] ⟨ke rfl,trivial⟩ (fun k:Nat=>[(3,int ((k:Nat):Int))]) (fun k:Nat=>k≤(e.Dy).length∧(∀j,j<k→PC e.Dy j=true)) (fun k:Nat=>(e.Dy).length-k) 0 (⟨Nat.zero_le _,fun j hj=>absurd hj AA⟩) ⟨ke rfl,trivial⟩ ?_)
 rintro k ⟨BK,AL⟩
 refine ac ?_
 refine Tr.cn rfl ?_ ?_<;>intro h4 q4
 have Aa:k<(e.Dy).length:=AH h4
 obtain ⟨x,AX⟩:=at_ Aa
 have hg:=getD_at (d:=Je) AX
 have hxf:=hf.Dy x (List.mem_of_getElem? AX)
 refine ac ?_
 refine ac ?_
 refine co rfl (AD rfl underlying27 Gy (vl rfl) (vl rfl) AA (Ac AX)) (co rfl (AK rfl Pk Gy (vl rfl) rfl rfl) (co rfl (C8 (cR hxf.2) rfl rfl) ?_))
 refine ac ?_
 refine Ch.cs 37 rfl ?_ ?_<;>intro h5 q5
 refine ac ?_
 refine NZ 1 3 56 rfl ?_
 refine ac ?_
 refine ac ?_
 · exact fB
 refine ac ?_
 refine Ch.cs 40 rfl ?_ ?_<;>intro h6 q6
 have hk0:0<k:=by simpa using h6
 obtain ⟨y,hy⟩:=at_ (l:=e.Dy) (k:=k-1) AA
 have Ke:=getD_at (d:=Je) hy
 refine ac ?_
 refine cy h6 rfl (AD rfl underlying27 Gy (vl rfl) (vl rfl) AA FE) ?_
 refine ac ?_
 refine cy h6 rfl (AD rfl underlying27 Gy (vl rfl) (vl rfl) AA (Ac AX)) ?_
 refine ac ?_
 refine cy h6 rfl (K7 rfl (vl rfl) (vl rfl)) ?_
 refine ac ?_
 refine NZ 1 3 56 rfl ?_
 refine Tr.cn rfl ?_ ?_<;>intro h7 q7
 refine ac ?_
 refine ac ?_
 · exact e_
 refine ac ?_
 refine ac ?_
 exact Fin.AM (k+1) ⟨⟨Aa,Bo AL (by unfold PC;rw [hg,Ke];simp_all)⟩,by omega⟩ ⟨⟨_,rfl,AF k⟩,ke rfl,trivial⟩
 have JC:¬0<k:=by simpa using h6
 refine ac ?_
 refine NZ 1 3 56 rfl ?_
 refine ac ?_
 refine ac ?_
 exact Fin.AM (k+1) ⟨⟨Aa,Bo AL (by unfold PC;rw [hg];simp_all)⟩,by omega⟩ ⟨⟨_,rfl,AF k⟩,ke rfl,trivial⟩
 have Az:k=(e.Dy).length:=by have:=AJ h4;omega
 subst Az
 have QI:=AL
 refine ac ?_
 refine ac ?_
 refine Tr.block (Tr.Ax [(1,_)] ⟨ke rfl,trivial⟩ (fun m:Nat=>[(4,int ((m:Nat):Int))]) (fun m:Nat=>m≤(e.DL).length∧(∀j,j<m→Cw e.Dy.length e.DL j=true)) (fun m:Nat=>(e.DL).length-m) 0 (⟨Nat.zero_le _,fun j hj=>absurd hj AA⟩) ⟨ke rfl,trivial⟩ ?_)
 rintro m ⟨Nx,Em⟩
 refine ac ?_
 refine Tr.cn rfl ?_ ?_<;>intro h8 q8
 have FA:m<(e.DL).length:=AH h8
 obtain ⟨c,EC⟩:=at_ FA
 have hg:=getD_at (d:=GO) EC
 refine ac ?_
 refine ao ?_
 refine tp rfl (AD rfl underlying28 GL (vl rfl) (vl rfl) AA (Ac EC)) (tp rfl (AK rfl Wz GL (vl rfl) rfl rfl) ?_)
 refine Tl rfl rfl rfl rfl bP Uq (fun b1=> ?_)
 refine sf 0 5 ⟨rfl,rfl,rfl⟩ rfl rfl rfl rfl ?_
 refine ao ?_
 refine NZ 1 4 5 rfl ?_
 refine ac ?_
 refine Ch.cs 72 rfl ?_ ?_<;>intro h9 q9
 refine ac ?_
 refine PZ 1 4 5 99 rfl ?_
 refine ac ?_
 refine ac ?_
 · exact SU
 refine ac ?_
 refine Ch.cs 80 rfl ?_ ?_<;>intro h10 Q2
 refine ac ?_
 refine PZ 1 4 5 99 rfl ?_
 refine ac ?_
 refine ac ?_
 · exact SU
 refine ac ?_
 refine Ch.cs 85 rfl ?_ ?_<;>intro h11 U7
 refine ac ?_
 refine PZ 1 4 5 99 rfl ?_
 refine ac ?_
 refine ac ?_
 · exact SU
 refine ac ?_
 refine Ch.cs 93 rfl ?_ ?_<;>intro h12 Ze
 refine ac ?_
 refine PZ 1 4 5 99 rfl ?_
 refine ac ?_
 refine ac ?_
 · exact SU
 refine ac ?_
 refine PZ 1 4 5 99 rfl ?_
 refine Tr.cn rfl ?_ ?_<;>intro L4 XK
 refine ac ?_
 refine ac ?_
 · refine int_eq (if_neg (fun hv=> ?_)).symm;have ok:=Fl.1 hv;(have h_:=ok.ed m AA;unfold Cw at h_;rw [hg] at h_;simp_all)
 refine ac ?_
 refine ac ?_
 refine Ch.cs 102 rfl ?_ ?_<;>intro J9 iZ
 have hk0:0<m:=by simpa using J9
 obtain ⟨y,hy⟩:=at_ (l:=e.DL) (k:=m-1) AA
 have Ke:=getD_at (d:=GO) hy
 refine ac ?_
 refine cy J9 rfl (AD rfl underlying28 GL (vl rfl) (vl rfl) AA Wf) ?_
 refine ac ?_
 refine Ch.cs 113 rfl ?_ ?_<;>intro RA pK
 refine ac ?_
 refine NZ 1 4 137 rfl ?_
 refine ac ?_
 refine ac ?_
 · exact ew
 refine ac ?_
 refine cy RA rfl (AD rfl underlying28 GL (vl rfl) (vl rfl) AA Wf) ?_
 refine ac ?_
 refine Ch.cs 124 rfl ?_ ?_<;>intro h16 mY
 refine ac ?_
 refine cy h16 rfl (AD rfl underlying28 GL (vl rfl) (vl rfl) AA Wf) ?_
 refine ac ?_
 refine NZ 1 4 137 rfl ?_
 refine Tr.cn rfl ?_ ?_<;>intro Nj mX
 refine ac ?_
 refine ac ?_
 · exact ew
 refine ac ?_
 refine ac ?_
 exact Fin.AM (m+1) ⟨⟨FA,Bo Em (by unfold Cw;rw [hg,Ke];simp_all)⟩,by omega⟩ ⟨⟨_,rfl,AF m⟩,ke rfl,trivial⟩
 refine ac ?_
 refine NZ 1 4 137 rfl ?_
 refine ac ?_
 refine ac ?_
 exact Fin.AM (m+1) ⟨⟨FA,Bo Em Yn⟩,by omega⟩ ⟨⟨_,rfl,AF m⟩,ke rfl,trivial⟩
 have JC:¬0<m:=by simpa using J9
 refine ac ?_
 refine NZ 1 4 137 rfl ?_
 refine ac ?_
 refine ac ?_
 exact Fin.AM (m+1) ⟨⟨FA,Bo Em So⟩,by omega⟩ ⟨⟨_,rfl,AF m⟩,ke rfl,trivial⟩
 have LK:m=(e.DL).length:=by have:=AJ h8;omega
 subst LK
 refine ac ?_
 refine ac ?_
 refine Tr.block (Tr.Ax [(1,_)] ⟨ke rfl,trivial⟩ (fun o:Nat=>[(6,int ((o:Nat):Int))]) (fun o:Nat=>o≤(e.items).length∧(∀j y,j<o→e.items[j]? =some y→(!GP y)=false)) (fun o:Nat=>(e.items).length-o) 0 (⟨Nat.zero_le _,fun j y hj=>absurd hj AA⟩) ⟨ke rfl,trivial⟩ ?_)
 rintro o ⟨AAH,LL⟩
 refine ac ?_
 refine Tr.cn rfl ?_ ?_<;>intro Oa q18
 have cQ:o<(e.items).length:=AH Oa
 obtain ⟨x,SX⟩:=at_ cQ
 refine ac ?_
 refine ac ?_
 refine co rfl (AD rfl underlying29 Iz (vl rfl) (vl rfl) AA (Ac SX)) (co rfl (AK rfl TN Iz (vl rfl) rfl rfl) (co rfl (C8 (XS) rfl rfl) ?_))
 refine ac ?_
 refine NZ 1 6 151 rfl ?_
 refine Tr.cn rfl ?_ ?_<;>intro WE q19
 refine ac ?_
 refine ac ?_
 · refine int_eq (if_neg (fun hv=> ?_)).symm;have ok:=Fl.1 hv;(have h_:=List.all_eq_true.1 ok.it x (List.mem_of_getElem? SX);simp_all)
 refine ac ?_
 refine ac ?_
 exact Fin.AM (o+1) ⟨⟨cQ,CJ (p:=fun c=> !GP c) SX Cc LL⟩,by omega⟩ ⟨⟨_,rfl,AF o⟩,ke rfl,trivial⟩
 have uq:o=(e.items).length:=by have:=AJ Oa;omega
 subst uq
 have hall:=FO LL
 refine ac ?_
 refine ac ?_
 refine ac ?_
 · refine int_eq (if_pos (Fl.2 ⟨QI,by omega,Em,by omega,hall,by omega⟩)).symm
def setAt (n:Int) (l:List Int) (i:Nat):Bool:=decide (0≤l[i]?.getD 0)&&decide (l[i]?.getD 0<n)&&(decide (i=0)||decide (l[i-1]?.getD 0<l[i]?.getD 0))
def DN (n:Int) (l:List Int):Bool:=allI (setAt n l) l.length
theorem XZ {l:List Int} {n:Int}  :BD prog 82 [ints l,int n] (bool (DN n l)):=by
 refine fo func82 rfl ⟨rfl,rfl⟩ fun M0 w0=>(Tr.CM 0 rfl fun D4=> ?_)
 refine a2 ?_
 refine Tr.block (Tr.Ax _ (kk [8,7,1,0] rfl) (fun k:Nat=>[(9,int ((k:Nat):Int))]) (fun k:Nat=>k≤(l).length∧(∀j,j<k→setAt n l j=true)) (fun k:Nat=>(l).length-k) 0 (⟨Nat.zero_le _,fun j hj=>absurd hj AA⟩) kz ?_)
 rintro k ⟨BK,AL⟩
 refine ac ?_
 refine Tr.seq ?_
 refine Tr.cn rfl ?_ ?_<;>intro h1 q1
 have Aa:k<(l).length:=AH h1
 obtain ⟨x,AX⟩:=at_ Aa
 have hg:=getD_at (d:=(0:Int)) AX
 refine a2 ?_
 refine co rfl (AD rfl underlying51 Bg vq vq AA (Ac AX)) ?_
 refine ac ?_
 refine ag ?_ ?_<;>intro h2 q2
 refine ac ?_
 refine wk [33,9,8,7,1,0] rfl ?_
 refine a2 ?_
 · exact fG
 refine ag ?_ ?_<;>intro h3 q3
 refine ac ?_
 refine wk [33,9,8,7,1,0] rfl ?_
 refine a2 ?_
 · exact fG
 refine ag ?_ ?_<;>intro h4 q4
 have hk0:0<k:=by simpa using h4
 obtain ⟨y,hy⟩:=at_ (l:=l) (k:=k-1) AA
 have Ke:=getD_at (d:=(0:Int)) hy
 · repeat' first|(refine bool_eq ?_;unfold DN;rw [EP (p:=setAt n l) (k:=k) AA (by unfold setAt;rw [hg,Ke];simp_all;omega)])|(exact Fin.AM (k+1) ⟨⟨Aa,Bo AL (by unfold setAt;rw [hg,Ke];simp_all)⟩,by omega⟩ ⟨⟨_,rfl,AF k⟩,kz⟩)|(refine cy h4 rfl (AD rfl underlying51 Bg vq vq AA FE) ?_)|refine ac ?_|(refine Tr.cn rfl ?_ ?_<;>intro h q)
 have JC:¬0<k:=by simpa using h4
 refine ac ?_
 refine wk [33,9,8,7,1,0] rfl ?_
 refine a2 ?_
 exact Fin.AM (k+1) ⟨⟨Aa,Bo AL (by unfold setAt;rw [hg];simp_all)⟩,by omega⟩ ⟨⟨_,rfl,AF k⟩,kz⟩
 have Az:k=(l).length:=by have:=AJ h1;omega
 subst Az
 refine a3 ?_
 · refine bool_eq ?_;unfold DN;rw [JX AL]
theorem Tu {l:List Int} {v:Int}  :BD prog 92 [ints l,int v] (bool (l.any fun x=>v==x)):=by
 refine fo func92 rfl ⟨rfl,rfl⟩ fun M0 w0=>(Tr.CM 0 rfl fun D4=> ?_)
 refine a2 ?_
 refine Tr.block (Tr.Ax _ (kk [8,7,1] rfl) (fun k:Nat=>[(9,int ((k:Nat):Int))]) (fun k:Nat=>k≤(l).length∧((l.take k).any (fun x=>v==x)=false)) (fun k:Nat=>(l).length-k) 0 (⟨Nat.zero_le _,rfl⟩) kz ?_)
 rintro k ⟨BK,AL⟩
 refine ac ?_
 refine Tr.seq ?_
 refine Tr.cn rfl ?_ ?_<;>intro h1 q1
 have Aa:k<(l).length:=AH h1
 obtain ⟨x,AX⟩:=at_ Aa
 refine ac ?_
 refine Tr.seq (Tr.block (Tr.seq (Tr.Ah (co rfl (AD rfl underlying22 Bg vq vq AA (Ac AX)) ?_))))
 · repeat' first|(refine bool_eq ?_;symm;rw [List.any_eq_true];exact ⟨_,List.mem_of_getElem? AX,by simp_all⟩)|(exact Fin.AM (k+1) ⟨⟨Aa,Yz⟩,by omega⟩ ⟨⟨_,rfl,AF k⟩,kz⟩)|refine ac ?_|(refine Tr.cn rfl ?_ ?_<;>intro h q)
 have Az:k=(l).length:=by have:=AJ h1;omega
 subst Az
 refine a3 ?_
 · exact SZ
def usL:List (Int×Int):=[(2,0),(1,0),(5,2048),(16,128),(3,0),(15,168)]
def Zm (v:Int):Int×Int:=usL[v.toNat]?.getD (2,0)
theorem AAI {v:Int} (h:0≤v∧v<6):(usL.map fun u=>[int u.1,int u.2])[v.toNat]? =some [int (Zm v).1,int (Zm v).2]:=by
 have hl:v.toNat<usL.length:=by show v.toNat<6;omega
 unfold Zm;rw [List.getElem?_map,List.getElem?_eq_getElem hl];rfl
theorem uz:∀u∈usL,Bs u.1 u.2>0:=by decide+kernel
theorem sN (v:Int):Bs (Zm v).1 (Zm v).2>0:=by
 unfold Zm
 cases h:usL[v.toNat]? with
 |none=>decide+kernel
 |some u=>exact uz u (List.mem_of_getElem? h)
def LM:Nat→DS→Int→List VF→List VF×Int×DS
 |0,s,day,l=>(l,day,s)
 |k+1,s,day,l=>LM k s.BV.BV (day+1+s.BV.of [5,30,0,100]) (l++[⟨(Zm (s.val 6)).1,(Zm (s.val 6)).2,day⟩])
abbrev ED (s:DS):List VF×Int×DS:=LM (1+s.BV.BV.BV.val 3).toNat s.BV.BV.BV.BV (s.BV.BV.val 20) []
def Rw (s:DS) (name:List UInt8):NA:=⟨name,1+s.val 2,1+s.BV.val 4,(ED s).1,((ED s).1[0]?.getD EX).day+(ED s).2.2.of [50,300,0,3000]⟩
def AAJ (s:DS):DS:=(ED s).2.2.BV
structure cT (l:List VF) (day:Int):Prop where
 lo:0≤day
 hi:day≤20+101*(l.length:Nat)
 at_:∀j,j<l.length→Eu l j=true
 lt:∀x∈l,x.day<day
theorem VG {l:List VF} {day d:Int} {u:Int×Int} (h:cT l day) (h3:l.length≤3) (hu:Bs u.1 u.2>0) (hd:0≤d∧d≤100):cT (l++[⟨u.1,u.2,day⟩]) (day+1+d):=by
 have h0:=h.lo;have h1:=h.hi
 refine ⟨by omega,by rw [List.length_append];simp;omega,fun j hj=> ?_,fun x hx=> ?_⟩
 ·
  rw [List.length_append] at hj;simp at hj
  rcases Nat.lt_or_ge j l.length with hl|hl
  ·
   have:=h.at_ j hl
   unfold Eu at this ⊢
   rw [List.getElem?_append_left hl,List.getElem?_append_left (show j-1<l.length by omega)];exact this
  ·
   have:j=l.length:=by omega
   subst this
   unfold Eu
   rw [List.getElem?_append_right (Nat.le_refl _),Nat.sub_self]
   rcases Nat.eq_zero_or_pos l.length with hz|hz
   ·
    obtain rfl:=List.eq_nil_of_length_eq_zero hz
    simp [hu];simp at h1;omega
   ·
    obtain ⟨y,hy⟩:=at_ (l:=l) (k:=l.length-1) AA
    rw [List.getElem?_append_left (show l.length-1<l.length by omega),hy]
    have:=h.lt y (List.mem_of_getElem? hy)
    simp [hu];omega
 ·
  rcases List.mem_append.1 hx with hx|hx
  · have:=h.lt x hx;omega
  · simp at hx;subst hx;show day<_;omega
theorem Xa (s:DS):0≤s.of [5,30,0,100]∧s.of [5,30,0,100]≤100:=by have:=s.K4 (l:=[5,30,0,100]) AO;simp at this;omega
theorem jJ (s:DS):0≤s.of [50,300,0,3000]∧s.of [50,300,0,3000]≤3000:=by have:=s.K4 (l:=[50,300,0,3000]) AO;simp at this;omega
theorem Ry:∀(k:Nat) (s:DS) (day:Int) (l:List VF),cT l day→l.length+k≤3→cT (LM k s day l).1 (LM k s day l).2.1∧(LM k s day l).1.length=l.length+k
 |0,s,day,l,h,_=>⟨h,rfl⟩
 |k+1,s,day,l,h,hk=>by
  have:=Ry k s.BV.BV (day+1+s.BV.of [5,30,0,100]) (l++[⟨(Zm (s.val 6)).1,(Zm (s.val 6)).2,day⟩]) (VG h AA (sN _) (Xa _)) B1
  refine ⟨this.1,?_⟩
  show (LM k _ _ _).1.length=_
  rw [this.2];simp;omega
structure Xb (x:NA):Prop where
 ok:GP x=true
 name:x.name.length≤32
 links:x.links.length≤3
theorem Zn {s:DS} {name:List UInt8} (hn:named name=true):Xb (Rw s name):=by
 have h2:=s.Bi (n:=2) AA
 have h4:=s.BV.Bi (n:=4) AA
 have MY:=s.BV.BV.Bi (n:=20) AA
 have h3:=s.BV.BV.BV.Bi (n:=3) AA
 have hI:cT [] (s.BV.BV.val 20):=⟨by omega,by simp;omega,fun j hj=>by simp at hj,fun x hx=>by simp at hx⟩
 obtain ⟨hL,hl⟩:=Ry (1+s.BV.BV.BV.val 3).toNat s.BV.BV.BV.BV (s.BV.BV.val 20) [] hI B1
 simp only [List.length_nil,Nat.zero_add] at hl
 have hlen:(ED s).1.length=(1+s.BV.BV.BV.val 3).toNat:=hl
 have hu:=jJ (ED s).2.2
 obtain ⟨c,hc⟩:=at_ (l:=(ED s).1) (k:=0) AA
 have hg:=getD_at (d:=EX) hc
 have hc1:=hL.lt c (List.mem_of_getElem? hc)
 have hc2:=hL.hi
 refine ⟨FD.2 ⟨hn,?_,?_,?_,?_,?_,hL.at_,?_,?_⟩,KC hn,?_⟩
 · show 1+s.val 2=1∨1+s.val 2=2;omega
 · show 1≤1+s.BV.val 4;omega
 · show 1+s.BV.val 4≤4;omega
 · show 1≤(ED s).1.length;omega
 · show (ED s).1.length≤8;omega
 · show ((ED s).1[0]?.getD EX).day≤((ED s).1[0]?.getD EX).day+_;omega
 · show ((ED s).1[0]?.getD EX).day+_≤40000;rw [hg];omega
 · show (ED s).1.length≤3;omega
theorem Zo {b:Nat} {s:DS} {name:List UInt8}  :BR prog 90 [ptr b 0,str name] (agg (Hu (Rw s name))) (CG b s) (fun _=>CG b (AAJ s)):=by
 refine BR.of func90 rfl rfl Al fun M0 w0 S rs M1 w1=> ?_
 have RW:=s.Bi (n:=2) AA
 have hv4:=s.BV.Bi (n:=4) AA
 have AAK:=s.BV.BV.Bi (n:=20) AA
 have hv3:=s.BV.BV.BV.Bi (n:=3) AA
 refine Tr.seq (Tr.A0 ?_)
 refine Tl rfl rfl rfl rfl bQ gO (fun b1=> ?_)
 refine ao ?_
 refine ao ?_
 refine TO.EV 1 rfl rfl AB (AU rfl rfl AB rfl (A8 AA AA) ⟨ke rfl,ke rfl,trivial⟩) ?_
 refine ao ?_
 refine TO.EV 1 rfl rfl AB (AU rfl rfl AB rfl (A8 AA AA) ⟨ke rfl,ke rfl,trivial⟩) ?_
 refine ao ?_
 refine Tl rfl rfl rfl rfl bQ gO (fun b2=> ?_)
 refine TO.Aj 0 rfl rfl rfl (vl rfl) (Va rfl) rfl Iz rfl rfl ?_
 refine ao ?_
 refine ao ?_
 refine TO.EV 2 rfl rfl AB (AU rfl rfl AB rfl (A8 AA AA) ⟨ke rfl,ke rfl,trivial⟩) ?_
 refine ao ?_
 refine PZ 0 4 5 6 rfl ?_
 refine ao ?_
 refine TO.EV 2 rfl rfl AB (AU rfl rfl AB rfl (A8 AA AA) ⟨ke rfl,ke rfl,trivial⟩) ?_
 refine ao ?_
 refine Tr.block (Tr.HQ 0 [str name,int (1+s.val 2),int (1+s.BV.val 4),Ae (.slice none 0 0) (jB []),is (.int .i64 0)] rfl ⟨Lr,Lr,Lr,Bu rfl,Lr,trivial⟩ (Tr.CB 198 3 ?_))
 refine Tr.Ul [(0,_),(4,_),(5,_)] ⟨ke rfl,ke rfl,ke rfl,trivial⟩ (fun (k:Int) (day:Int) (l:List VF) (s2:DS) v=>[(7,int k),(6,int day)]) (fun (k:Int) (day:Int) (l:List VF) (s2:DS) v=>Hp M0 w0 S (As 198 3 v::AE true b2 135 [str name,int (1+s.val 2),int (1+s.BV.val 4),Ae v (jB l),is (.int .i64 0)]::AE true b1 135 (([.string (ByteArray.mk #[]),.int .i64 0,.int .i64 0,.slice none 0 0,.int .i64 0]:List Value).map is)::CG b s2::Ak M1 w1::rs)) (fun (k:Int) (day:Int) (l:List VF) (s2:DS)=>(0≤k∧k+l.length≤3∧1≤k+l.length∧cT l day)∧LM k.toNat s2 day l=ED s) (fun (k:Int) (day:Int) (l:List VF) (s2:DS)=>k.toNat) (_) (_) ([]) (_) (.slice none 0 0) (⟨⟨by omega,by simp;omega,by simp;omega,⟨by omega,by simp;omega,fun j hj=>by simp at hj,fun x hx=>by simp at hx⟩⟩,rfl⟩) ⟨ke rfl,ke rfl,trivial⟩ (fun _ _ h=>h) ?_
 rintro k day l s2 v ⟨⟨hk0,hk1,hk2,hL⟩,hR⟩
 have hL0:=hL.lo
 have hL1:=hL.hi
 have hof:=Xa s2.BV
 refine an ?_ ?_<;>intro h1 q1
 have hk3:0<k:=of_decide_eq_true h1
 have hv6:=s2.Bi (n:=6) AA
 refine ac ?_
 refine ao ?_
 refine TO.EV 3 rfl rfl AB (AU rfl rfl AB rfl (A8 AA AA) ⟨ke rfl,ke rfl,trivial⟩) ?_
 refine tp rfl (AD rfl underlying143 Dc (Kf rfl) (vl rfl) AA (show (usL.map fun u=>[int u.1,int u.2])[_]? =_ from AAI hv6)) ?_
 refine tp rfl (AK rfl CL Dc (vl rfl) rfl rfl) ?_
 refine Tl rfl rfl rfl rfl JR EB (fun b3=> ?_)
 refine sf 0 8 ⟨rfl,rfl,rfl⟩ rfl rfl rfl rfl ?_
 refine ao ?_
 refine eE 0 4 5 6 7 8 rfl ?_
 refine ao ?_
 refine TO.Ef 0 rfl rfl AB (CN rfl rfl rfl rfl underlying133 HB yO z198 (Kb rfl) (Kf rfl) (BQ BI (Ka rfl))) (fun v1=> ?_)
 refine tp rfl (AY rfl ZV (vl rfl)) (TO.Ee 1 rfl rfl (A9 rfl rfl (vl rfl) (Vo rfl) yD rfl Al rfl) ?_)
 refine ao ?_
 refine Na 0 4 5 6 7 rfl ?_
 refine ao ?_
 refine TO.EV 3 rfl rfl AB (AU rfl rfl AB rfl (Kq (l:=[5,30,0,100]) AO AO) ⟨ke rfl,(Kf rfl),trivial⟩) ?_
 refine ao ?_
 refine ac ?_
 refine Fin.HQ 1 [str name,int (1+s.val 2),int (1+s.BV.val 4),Ae v1 (jB (l++[(⟨(Zm (s2.val 6)).1,(Zm (s2.val 6)).2,day⟩:VF)])),is (.int .i64 0)] rfl ⟨Lr,Lr,Lr,BU Ex,Lr,trivial⟩ ?_
 exact Fin.ZQ (k-1) (_) (l++[(⟨(Zm (s2.val 6)).1,(Zm (s2.val 6)).2,day⟩:VF)]) (_) v1 (⟨⟨⟨by omega,by simp;omega,by simp;omega,VG hL AA (sN _) (Xa _)⟩,by rw [←hR,show k.toNat=(k-1).toNat+1 by omega];rfl⟩,by omega⟩) ⟨⟨_,rfl,int_eq AA⟩,⟨_,rfl,int_eq AA⟩,ke rfl,ke rfl,ke rfl,trivial⟩ (fun _ _ h=>h)
 have hk3:¬0<k:=of_decide_eq_false h1
 obtain rfl:k=0:=by omega
 obtain ⟨c0,hc0⟩:=at_ (l:=l) (k:=0) AA
 have jC:=getD_at (d:=EX) hc0
 have AEw:=hL.lt c0 (List.mem_of_getElem? hc0)
 have AEx:0≤c0.day:=by have h_:=hL.at_ 0 (BP hc0);unfold Eu at h_;rw [jC] at h_;simp at h_;omega
 have AEy:=jJ s2
 have hR1:(ED s).1=l:=by rw [←hR];rfl
 obtain rfl:s2=(ED s).2.2:=by rw [←hR];rfl
 refine ac ?_
 refine Tr.seq (Tr.rx ?_)
 refine ay ?_
 refine xo rfl (fun _=>AD rfl underlying133 HB (Kb rfl) (vl rfl) AA (Ac (k:=0) hc0)) ?_
 refine ay ?_
 refine xo rfl (fun _=>oI) ?_
 refine Cx.ef 3 rfl rfl AB (AU rfl rfl AB rfl (Kq (l:=[50,300,0,3000]) AO AO) ⟨ke rfl,(Kf rfl),trivial⟩) ?_
 refine ay ?_
 refine Cx.nil ⟨by kernel_rfl,?_⟩
 refine BW.done al5 (Fin.go (Ki 4 5 rfl ?_))
 refine ao ?_
 refine TO.Aj 2 rfl rfl rfl (vl rfl) (Va rfl) rfl Iz rfl rfl ?_
 refine ao ?_
 refine Tr.ret (Fin.Cb [_,_,_] rfl (A7.cell 2 rfl rfl TN Iz rfl (Lr)) ?_ (fun _ _ _ _=>rfl))
 · exact Bv ⟨Lr,Lr,Lr,Pr.le_trans (A_ _ _) (Pr.le_of_eq (by show _=jB (ED s).1;rw [hR1])),int_eq (by show _=((ED s).1[0]?.getD EX).day+_;rw [hR1,jC]),trivial⟩
end Go.Proofs.YtmocaapoeefgkaaGreatDoor
