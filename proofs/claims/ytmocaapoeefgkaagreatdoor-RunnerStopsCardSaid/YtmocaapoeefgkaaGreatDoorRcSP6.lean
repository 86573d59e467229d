/-
  Part 6 of the texts that prove this claim, merged.
-/
import Derived.Test.YtmocaapoeefgkaaGreatDoorRcSP5
set_option linter.all false
set_option maxRecDepth 40000
set_option maxHeartbeats 16000000
namespace Cp
open Go Go.RowKit Go.Great
section
variable {P:Program} {L:Lg P} {n:Fm} {fz:Nat} {E:Env} {M0:Av} {w0:World} {S:Nat→Prop} {o:Oper}
def Jv (p:Pr) (v:Value):As:=⟨none,true,fun M w=>p.h M w v,fun M w M' w' he _ h=>p.st M w M' w' v he h⟩
def tu (e:TypeId) (zs:List Value) (v:Value):As:=match v with| .slice (some a) _ _=>AF true a.block e (zs.map is)|_=>Bq
def l_ (R:Value→Value→Value→As) (u:Value):As:=match u with| .tuple t=>R (t.getD 1 undef) (t.getD 2 undef) (t.getD 0 undef)|_=>Bq
def Wo (R:Value→Value→As) (u:Value):As:=match u with| .tuple t=>R (t.getD 1 undef) (t.getD 0 undef)|_=>Bq
theorem Y5 {a:Act} {d s t:Nat} {R:Value→Value→Value→As}:SR.at_ a ⟨.three d s t,l_ R⟩=R (a.tmps.getD s undef) (a.tmps.getD t undef) (a.tmps.getD d undef):=rfl
theorem PR {a:Act} {d s:Nat} {R:Value→Value→As}:SR.at_ a ⟨.two d s,Wo R⟩=R (a.tmps.getD s undef) (a.tmps.getD d undef):=rfl
theorem EA.conv {a:Act} {M:Av} {w:World} {p q:Pr} {j:Nat} {R1 R2:SR} {rs:List As} {r:Result Next} (hq:Pr.le p q) (hR:∀v,R1.at_ (a.put o.dst v)=R2.at_ (a.put o.dst v)) (h:EA P M0 w0 S o a M w p j R1 rs r):EA P M0 w0 S o a M w q j R2 rs r:=by
 cases r with
 |halt x w'=>exact h
 |ok x w'=>
  cases x
  case value v=>obtain ⟨M',g1,g2,g3⟩:=h;exact ⟨M',hq _ _ _ g1,g2,by rw [←hR];exact g3⟩
  case skip=>obtain ⟨M',g1,g2,g3⟩:=h;exact ⟨M',hq _ _ _ g1,g2,by rw [←hR];exact g3⟩
  case enter f args=>
   refine Calls.mono h ?_
   rintro e w'' ⟨v,M',g0,g1,g2,g3⟩
   exact ⟨v,M',g0,hq _ _ _ g1,g2,by rw [←hR];exact g3⟩
  all_goals exact h
theorem It {M:Av} {w:World} {a:Act} (h:CZ M w E o a) (s:Nat) {p0:Pr} (hp0:p0.h M w (a.tmps.getD s undef)):CZ M w ((s,Af (a.tmps.getD s undef) p0)::E) o a:=fun c p hc hp=>by
 simp only [List.lookup] at hp
 by_cases hcs:c=s
 · subst hcs;simp only [beq_self_eq_true,Option.some.injEq] at hp;subst hp;exact ⟨rfl,hp0⟩
 · rw [show (c==s)=false by simpa using hcs] at hp;exact h c p hc hp
theorem wN {j d s t:Nat} {R:SR} {p1 p2 q:Pr} {p:Value→Value→Pr} {R':Value→Value→Value→As} (hd:o.dst=some d) (hs:d≠s) (ht:d≠t) (hq:∀v1 v2,Pr.le (p v1 v2) q) (hg:o.guard=none) (h1:E.lookup s=some p1) (h2:E.lookup t=some p2) (hls:s∈looks o) (hlt:t∈looks o) (h:∀v1 v2,De P M0 w0 S n j R ⟨d,R' v1 v2⟩ o ((s,Af v1 p1)::(t,Af v2 p2)::E) (p v1 v2)):De P M0 w0 S n j R ⟨.three d s t,l_ R'⟩ o E q:=by
 refine ⟨hg,fun M w a rs hsz he hI hj=> ?_⟩
 refine EA.conv (hq _ _) (fun v=> ?_) ((h (a.tmps.getD s undef) (a.tmps.getD t undef)).2 M w a rs hsz (It (It he t (he t p2 hlt h2)) s (he s p1 hls h1)) hI hj)
 rw [Y5,hd,BT (Ne.symm hs),BT (Ne.symm ht)];rfl
theorem Y6 {j d:Nat} {p:Pr} (hg:o.guard=none) (hd:o.dst=some d) (hn:d<n) (h:∀I,Ad P I o E p):De P M0 w0 S n j (SR.c Bq) ⟨d,Jv p⟩ o E p:=by
 refine ⟨hg,fun M w a rs hsz he hI hj=> ?_⟩
 have hj':rs[j]? =some Bq:=hj
 have hat:∀v,SR.at_ (a.put o.dst v) ⟨d,Jv p⟩=Jv p v:=fun v=>by show Jv p ((a.put o.dst v).tmps.getD d undef)=_;rw [hd,Bz Gn]
 have hg2:=h (Hp M0 w0 S rs) M w a he hI
 revert hg2
 generalize (execOp a.eval o).run P w=r
 intro hg2
 have key:∀v w',p.h M w' v→Below w.heap.size w w'→∃M',p.h M' w' v∧Ext M w M' w'∧A7 M0 w0 S (rs.set j (SR.at_ (a.put o.dst v) ⟨d,Jv p⟩)) M' w':=fun v w' hv hb=>by
  refine ⟨M,hv,Ext.below hb,?_⟩
  rw [hat]
  exact A7.C1 ((Hp M0 w0 S rs).st _ _ _ hb hI) hj' rfl rfl hv
 cases r with
 |halt x w'=>exact hg2
 |ok x w'=>
  cases x
  case value v=>exact key v w' hg2.1 hg2.2
  case skip=>exact key undef w' hg2.1 hg2.2
  case enter f args=>
   obtain ⟨hb,hc⟩:=hg2
   refine Calls.mono hc ?_
   rintro e w'' ⟨v,g0,g1,g2⟩
   obtain ⟨M',k1,k2,k3⟩:=key v w'' g1 (Nn hb g2)
   exact ⟨v,M',g0,k1,k2,k3⟩
  all_goals exact hg2
theorem mA {t e:TypeId} {x y:Operand} {d j m dM:Nat} {z:Value} (hg:o.guard=none) (hd:o.dst=some d) (hn:d<n) (ho:o.op= .makeSlice t x y) (ht:P.underlying t=some (.slice e)) (hs:A9 P e=some 1) (hby:Bu P e=some dM) (hz:BX P e=some [z]) (h1:z.oneCell'=true)
  (hx:VL E x (int ((m:Nat):Int))) (hy:VL E y (int ((m:Nat):Int))) (hm:m≤maxLen) (hb:dM*m≤281474976710656):De P M0 w0 S n j (SR.c Bq) ⟨d,tu e (List.replicate m z)⟩ o E (Cp.ex fun b=>is (JH m b)):=by
 refine ⟨hg,fun M w a rs Xw he hI hj=> ?_⟩
 have hx1:a.eval x= .int .i64 m:=hx.ev he Ar
 have hy1:a.eval y= .int .i64 m:=hy.ev he Ar
 have hi:∃i,P.info? e=some i∧i.size=1∧i.bytes=dM∧∃z',i.zero=some z'∧z'.cells= #[z]:=by
  unfold A9 at hs;unfold Bu at hby;unfold BX at hz
  cases hi:P.info? e with
  |none=>rw [hi] at hs;cases hs
  |some i=>
   rw [hi] at hs hby hz
   simp at hs hby hz
   obtain ⟨z',h2,h3⟩:=hz
   exact ⟨i,rfl,hs,hby,z',h2,by rw [←Array.toList_inj,h3]⟩
 obtain ⟨i,hi,hi1,hi2,z',EY,IC⟩:=hi
 have hmk:madeCells z'.cells m=(List.replicate m z).toArray:=by
  rw [IC]
  apply Array.ext
  · simp [madeCells]
  ·
   intro j h1 h2
   simp [madeCells,Nat.mod_one]
 have hrun:=run_make (P:=P) w t e i z' ht hi EY .i64 .i64 (m:Int) (m:Int) AA (Int.le_refl _) (by rw [hi2];have h0:((dM*m:Nat):Int)≤281474976710656:=Int.ofNat_le.2 hb;rw [←Int.natCast_mul];exact h0) Tv
 rw [hi1] at hrun
 simp only [Int.toNat_natCast,Nat.mul_one] at hrun
 rw [hmk] at hrun
 have Er:(execOp a.eval o).run P w= .ok (.value (JH m w.heap.size)) (w.alloc (.cells (List.replicate m z).toArray e)):=by simp [execOp,ho,hx1,hy1,hrun]
 rw [Er]
 have hb:Below w.heap.size w (w.alloc (.cells (List.replicate m z).toArray e)):=(Below.refl _ _).alloc (Nat.le_refl _) _
 have h2:=Ext.below (M:=M) hb
 have Eo:Ext M w (fun b o=>M b o∨b=w.heap.size) (w.alloc (.cells (List.replicate m z).toArray e)):=by
  refine ⟨h2.size,fun a v hc hm=>⟨fun hx=> ?_,(h2.keep a v hc hm).2⟩,fun b o ho hp hm=>⟨fun hx=> ?_,(h2.obj b o ho hp hm).2⟩⟩
  ·
   rcases hx with hx|hx
   · exact CV
   · exact Ey
  ·
   rcases hx with hx|hx
   · exact CV
   · exact Ez
 have hs1:(w.alloc (.cells (List.replicate m z).toArray e)).heap.size=w.heap.size+1:=by simp
 have hat:(SR.at_ (a.put o.dst (JH m w.heap.size)) ⟨d,tu e (List.replicate m z)⟩)=AF true w.heap.size e ((List.replicate m z).map is):=by unfold SR.at_ Slot.val;dsimp only;rw [hd,Bz IB];rfl
 refine ⟨fun b o=>M b o∨b=w.heap.size,⟨_,rfl⟩,Eo,?_⟩
 rw [hat]
 refine hI.replace hj Eo hb.os hb.tape hb.output (fun k hk _=>hb.block k hk) rfl (fun b o hm _=> .inl hm) (fun b o hx=> ?_) ?_ rfl (fun b hbk=> ?_)
 ·
  rcases hx with hx|hx
  · have:=hI.bd _ _ hx;omega
  · omega
 · exact ⟨fun o=> .inr rfl,List.replicate m z,heap_alloc_new w _,Kr _ _ _,fun c hc=>by rw [List.eq_of_mem_replicate hc];exact h1⟩
 ·
  have Ek:some w.heap.size=some b:=hbk
  injection Ek with e1
  subst e1
  exact ⟨by rw [hs1];omega,.inr (Nat.le_refl _)⟩
theorem NY {s:Nat} {op:Op} (h:(Operand.tmp s)∈op.operands.toList) (ho:o.op=op):s∈looks o:=List.mem_filterMap.2 ⟨_,by rw [ho];exact h,rfl⟩
theorem rZ {d j s x y:Nat} {T:TypeId} {ps:Value→Value→List Pr} (hg:o.guard=none) (hd:o.dst=some d) (hn:d<n) (ho:o.op= .box T (.tmp s)) (hx:d≠x) (hy:d≠y):
  De P M0 w0 S n j ⟨.three s x y,l_ fun v1 v2=>Jv (agg (ps v1 v2))⟩ ⟨.three d x y,l_ fun v1 v2=>Ec T (ps v1 v2)⟩ o E (Cp.ex fun b=>ptr b 0):=by
 refine ⟨hg,fun M w a rs hsz he hI hj=> ?_⟩
 have hj':rs[j]? =some (Jv (agg (ps (a.tmps.getD x undef) (a.tmps.getD y undef))) (a.tmps.getD s undef)):=hj
 have hjl:j<rs.length:=by rcases Nat.lt_or_ge j rs.length with h|h;exact h;rw [List.getElem?_eq_none h] at hj';cases hj'
 have hr:=(hI.hold _ (List.mem_of_getElem? hj')).1
 have hI2:A7 M0 w0 S (rs.set j Bq) M w:=A7.C1 hI hj' rfl rfl trivial
 have he2:CZ M w ((s,agg (ps (a.tmps.getD x undef) (a.tmps.getD y undef)))::E) o a:=fun c p hc hp=>by
  simp only [List.lookup] at hp
  by_cases hcs:c=s
  · subst hcs;simp only [beq_self_eq_true,Option.some.injEq] at hp;subst hp;exact hr
  · rw [show (c==s)=false by simpa using hcs] at hp;exact he c p hc hp
 have h:=(rN (P:=P) (M0:=M0) (w0:=w0) (S:=S) (n:=n) (j:=j) (T:=T) (ps:=ps (a.tmps.getD x undef) (a.tmps.getD y undef)) (E:=(s,agg (ps (a.tmps.getD x undef) (a.tmps.getD y undef)))::E) hg hd hn ho (VL.le ⟨_,List.lookup_cons_self,Pr.le_refl _⟩ (Ac _))).2 M w a _ hsz he2 hI2 (by rw [List.getElem?_set_self hjl];rfl)
 have h2:EA P M0 w0 S o a M w (Cp.ex fun b=>ptr b 0) j ⟨d,Ec T (ps (a.tmps.getD x undef) (a.tmps.getD y undef))⟩ rs ((execOp a.eval o).run P w):=by
  revert h
  generalize (execOp a.eval o).run P w=r
  intro h
  cases r with
  |halt x w'=>exact h
  |ok x w'=>
   cases x
   case value v=>simpa only [EA,List.set_set] using h
   case skip=>simpa only [EA,List.set_set] using h
   case enter f args=>simpa only [EA,List.set_set] using h
   all_goals exact h
 refine EA.conv (Pr.le_refl _) (fun v=> ?_) h2
 rw [Y5,hd,BT (Ne.symm hx),BT (Ne.symm hy)];rfl
theorem ez {t:TypeId} {s y:Tmp} {j:Nat} {T:TypeId} {ps:List Pr} {p:Pr} [One p] (hg:o.guard=none) (hd:o.dst=none) (ho:o.op= .store t (.tmp s) (.tmp y)) (hsy:s≠y) (hx:E.lookup s=some (Cp.ex fun b=>ptr b 0)) (hy:E.lookup y=some p)
  (hz:A9 P t=some 1) (hl:ps.length=1):De P M0 w0 S n j ⟨s,Ec T ps⟩ ⟨.two s y,Wo fun v=>Ec T [Af v p]⟩ o E any:=by
 refine ⟨hg,fun M w a rs hsz he hI hj=> ?_⟩
 have hyl:y∈looks o:=NY (op:= .store t (.tmp s) (.tmp y)) (by simp [Op.operands]) ho
 have he2:CZ M w ((y,Af (a.tmps.getD y undef) p)::E) o a:=fun c q hc hq=>by
  simp only [List.lookup] at hq
  by_cases hcs:c=y
  · subst hcs;simp only [beq_self_eq_true,Option.some.injEq] at hq;subst hq;exact ⟨rfl,he _ p hyl hy⟩
  · rw [show (c==y)=false by simpa using hcs] at hq;exact he c q hc hq
 have h:=(Cd (P:=P) (M0:=M0) (w0:=w0) (S:=S) (n:=n) (j:=j) (T:=T) (ps:=ps) (qs:=[Af (a.tmps.getD y undef) p]) (E:=(y,Af (a.tmps.getD y undef) p)::E) hg hd ho Zv (VL.le ⟨_,List.lookup_cons_self,Pr.le_refl _⟩ (Aa _)) hz rfl hl).2 M w a rs hsz he2 hI hj
 refine EA.conv (Pr.le_refl _) (fun v=> ?_) h
 rw [PR,hd];rfl
theorem BH.ng {Q:Exit→Act→World→Prop} {rs:List SR} (s:Nat) {p:Pr} (hs:E.lookup s=some p) (k:∀v,BH n M0 w0 S ((s,Af v p)::E) rs Q):BH n M0 w0 S E rs Q:=by
 rintro a w ⟨M,g1,g2,g3,g4⟩
 refine k (a.tmps.getD s undef) a w ⟨M,g1,g2,fun c z hz=> ?_,g4⟩
 simp only [List.lookup] at hz
 by_cases hcs:c=s
 · subst hcs;simp only [beq_self_eq_true,Option.some.injEq] at hz;subst hz;exact ⟨rfl,g3 c p hs⟩
 · rw [show (c==s)=false by simpa using hcs] at hz;exact g3 c z hz
theorem BH.fix {Q:Exit→Act→World→Prop} {rs:List SR} (j:Nat) {R:SR} (r:As) (hR:rs[j]? =some R) (hs:∀a:Act,(∃M w,FM M w E a)→R.at_ a=r) (k:BH n M0 w0 S E (rs.set j (SR.c r)) Q):BH n M0 w0 S E rs Q:=by
 rintro a w ⟨M,g1,g2,g3,g4⟩
 refine k a w ⟨M,g1,g2,g3,?_⟩
 have e:=hs a ⟨M,w,g3⟩
 have e3:(rs.set j (SR.c r)).map (·.at_ a)=rs.map (·.at_ a):=by
  apply List.ext_getElem?
  intro m
  rw [List.getElem?_map,List.getElem?_map,List.getElem?_set]
  by_cases him:j=m
  ·
   subst him
   have hjl:j<rs.length:=by rcases Nat.lt_or_ge j rs.length with h|h;exact h;rw [List.getElem?_eq_none h] at hR;cases hR
   rw [if_pos rfl,if_pos hjl,hR]
   show some ((SR.c r).at_ a)=some (R.at_ a)
   rw [e];rfl
  · rw [if_neg him]
 rw [e3];exact g4
theorem NZ {M:Av} {w:World} {a:Act} {s:Nat} {v:Value} {p:Pr} (h:FM M w E a) (hs:E.lookup s=some (Af v p)):a.tmps.getD s undef=v:=(h s _ hs).1
theorem BH.rj {Q:Exit→Act→World→Prop} {rs:List SR} (j s:Nat) {f:Value→As} {v:Value} {p:Pr} (hR:rs[j]? =some ⟨s,f⟩) (hs:E.lookup s=some (Af v p)) (k:BH n M0 w0 S E (rs.set j (SR.c (f v))) Q):BH n M0 w0 S E rs Q:=
 BH.fix j _ hR (fun a ⟨_,_,h⟩=>by show f (a.tmps.getD s undef)=_;rw [NZ h hs]) k
theorem BH.mB {Q:Exit→Act→World→Prop} {rs:List SR} (j d s:Nat) {f:Value→Value→As} {u v:Value} {p q:Pr} (hR:rs[j]? =some ⟨.two d s,Wo f⟩) (hd:E.lookup d=some (Af u p)) (hs:E.lookup s=some (Af v q)) (k:BH n M0 w0 S E (rs.set j (SR.c (f v u))) Q):BH n M0 w0 S E rs Q:=
 BH.fix j _ hR (fun a ⟨_,_,h⟩=>by rw [PR,NZ h hs,NZ h hd]) k
theorem BH.AEZ {Q:Exit→Act→World→Prop} {rs:List SR} (j d s t:Nat) {f:Value→Value→Value→As} {u v1 v2:Value} {p q1 q2:Pr} (hR:rs[j]? =some ⟨.three d s t,l_ f⟩) (hd:E.lookup d=some (Af u p)) (hs:E.lookup s=some (Af v1 q1)) (ht:E.lookup t=some (Af v2 q2)) (k:BH n M0 w0 S E (rs.set j (SR.c (f v1 v2 u))) Q):BH n M0 w0 S E rs Q:=
 BH.fix j _ hR (fun a ⟨_,_,h⟩=>by rw [Y5,NZ h hs,NZ h ht,NZ h hd]) k
end
section
variable {P:Program} {L:Lg P} {n:Fm} {fz:Nat} {E:Env} {I:Cb} {M0:Av} {w0:World} {S:Nat→Prop} {rs:List As} {Q:Exit→Act→World→Prop} {c:Code}
theorem Fin.shape {e:Exit} (s:Nat) {v:Value} (form:Nat→Value) (hs:E.lookup s=some (Af v (Cp.ex fun b=>is (form b)))) (k:∀b,v=form b→Fin n ((s,is (form b))::E) (Hp M0 w0 S rs) Q e):Fin n E (Hp M0 w0 S rs) Q e:=by
 intro a w hst
 obtain ⟨M,h1,h2,he,h4⟩:=hst
 obtain ⟨h5,b,h6⟩:=he s _ hs
 have hv:v=form b:=by rw [←h5];exact h6
 refine k b hv a w ⟨M,h1,h2,fun c z hz=> ?_,h4⟩
 simp only [List.lookup] at hz
 by_cases hcs:c=s
 · subst hcs;simp only [beq_self_eq_true,Option.some.injEq] at hz;subst hz;exact h6
 · rw [show (c==s)=false by simpa using hcs] at hz;exact he c z hz
theorem Fin.JA {e:Exit} (j:Nat) {r:As} (r':As) (hi:rs[j]? =some r) (h:r=r') (k:Fin n E (Hp M0 w0 S (rs.set j r')) Q e):Fin n E (Hp M0 w0 S rs) Q e:=by
 subst h
 have hjl:j<rs.length:=by rcases Nat.lt_or_ge j rs.length with h|h;exact h;rw [List.getElem?_eq_none h] at hi;cases hi
 have e1:rs.set j r=rs:=by
  apply List.ext_getElem?
  intro m
  rw [List.getElem?_set]
  by_cases him:j=m
  · subst him;rw [if_pos rfl,if_pos hjl,hi]
  · rw [if_neg him]
 rw [e1] at k;exact k
theorem Tr.ABP {α:Type} (ni:α→Fm) (Ei:α→Env) (Ii:α→Cb) (C:α→Prop) (μ:α→Nat) (x0:α) (hn:ni x0=n) (h0:C x0) (hs:CT E (Ei x0)) (hI:∀M w,I.h M w→(Ii x0).h M w)
  (k:∀x,C x→Tr L (ni x) (Ei x) (Ii x) c (Exit.then (fun a w=>∃y,(C y∧μ y<μ x)∧St (ni y) (Ei y) (Ii y) a w) Q)):Tr L n E I (.loop c) Q:=by
 intro a w hst
 refine L.loop μ (fun x a w=>C x∧St (ni x) (Ei x) (Ii x) a w) (fun x a w ⟨hc,h⟩=> ?_) x0 a w ⟨h0,?_⟩
 ·
  refine L.mono ?_ (k x hc a w h)
  intro e a w hq
  cases e with
  |normal=>obtain ⟨y,⟨h1,h2⟩,h3⟩:=hq;exact ⟨y,h2,h1,h3⟩
  |_=>exact hq
 · rw [hn];exact hst.sub hs hI
theorem Fin.Jw {e:Exit} {rs':List As} (hp:rs.Perm rs') (k:Fin n E (Hp M0 w0 S rs') Q e):Fin n E (Hp M0 w0 S rs) Q e:=fun a w ⟨M,h1,h2,h3,h4⟩=>k a w ⟨M,h1,h2,h3,A7.perm hp h4⟩
theorem Be.ofM {f : FuncId} {g : Func} {ps : List Pr} {res : Pr} {R : As} {R' : Value → As} (hf : P.funcs[f]? = some g) (hb : g.body = some c) (hname : (g.name == "runtime.NumGoroutine") = false) (hlen : ps.length ≤ g.ntmps)
  (h:∀M0 w0 S rs M1 w1,Tr (XR P) g.ntmps (LD 0 ps) (Hp M0 w0 S (R::Ak M1 w1::rs)) c (I_ P g (Nu M0 w0 S rs M1 w1 res R'))):Be P f ps res R R':=by
 refine ⟨⟨g,hf,hname,by rw [hb];rfl⟩,fun M0 w0 S rs M w vs hI hv=> ?_⟩
 refine N_ hf hb (h M0 w0 S rs M w _ _ ⟨M,?_,rfl,Fo hv,?_⟩)
 ·
  have:=hv.length
  simp [this];omega
 · exact Xt
end
section
variable {P:Program} {L:Lg P} {n:Fm} {fz:Nat} {E:Env} {I:Cb} {M0:Av} {w0:World} {S:Nat→Prop} {rs:List As} {Q:Exit→Act→World→Prop} {c:Code}
abbrev Fz (l D:Nat) (rec:Obj) (M1:Av) (w1:World) (rs:List As):List As:=BG l rec::BG D (.deferred (some []))::Ak M1 w1::rs
theorem Tr.wO {α:Type} {p gf:Nat} {g:Operand} {lb:Array Value} {enc:α→Value} {xs:List α} {own:List α→List As} {assign body:Code} (q:Nat) (K:Env) (hK:CT E K) (R:List α→List As)
  (hIt:Mg P gf lb enc xs own) (eg:Entry P gf) (hg:VL E g (is (.func (.func gf) #[] lb))) (OO:rs.Perm (own []++R [])) (hp:K.lookup p=none) (hpn:p<n.sz)
  (hassign:∀l D rec M1 w1 pre x,(pre++[x])<+:xs→Tr (bl P (some l)) ⟨n.sz,[]⟩ ((p,is (enc x))::K) (Hp M0 w0 S (own (pre++[x])++Fz l D rec M1 w1 (R pre))) assign (Exit.then (St ⟨n.sz,[]⟩ ((q,is (enc x))::K) (Hp M0 w0 S (own (pre++[x])++Fz l D rec M1 w1 (R pre)))) (fun _ _ _=>False)))
  (hbody : ∀ l D rec M1 w1 pre x, (pre ++ [x]) <+: xs → Tr (bl P (some l)) ⟨n.sz, []⟩ ((q, is (enc x)) :: K) (Hp M0 w0 S (own (pre ++ [x]) ++ Fz l D rec M1 w1 (R pre))) body
   (Ir M0 w0 S (fun _:Unit=>own (pre++[x])++Fz l D rec M1 w1 (R (pre++[x]))) (fun _ _=>own (pre++[x])++Fz l D rec M1 w1 [CD False])))
  (hdone:∀l D rec M1 w1,Fin ⟨n.sz,mark D::n.df⟩ E (Hp M0 w0 S (own xs++Fz l D rec M1 w1 (R xs))) Q .normal):
  Tr (XR P) n E (Hp M0 w0 S rs) (.rangeFunc g #[p] assign body) Q:=by
 refine Tr.lS (fun x=>(q,is (enc x))::K) (fun pre (_:Unit)=>R pre) (fun _ _ _=>[CD False]) () hIt (fun args w=>D_ eg args w) hg OO ?_ ?_ (fun l D rec M1 w1 _=>hdone l D rec M1 w1) ?_
 ·
  intro l D rec M1 w1 pre x d hpre a hsz hE M w hI
  have hx:Ext M1 w1 M w:=(hI.hold (Ak M1 w1) AV).1
  refine hassign l D rec M1 w1 pre x hpre _ w ⟨M,by simpa using hsz,rfl,fun s z hq=> ?_,hI⟩
  simp only [List.lookup] at hq
  by_cases hs:s=p
  ·
   subst hs
   simp only [beq_self_eq_true,Option.some.injEq] at hq
   subst hq
   show (a.tmps.setIfInBounds s (enc x)).getD s undef=enc x
   simp [Array.getD_eq_getD_getElem?,hsz,hpn]
  ·
   rw [show (s==p)=false by simpa using hs] at hq
   obtain ⟨z',EY,IC⟩:=hK.spec s z hq
   have h2:=z.st _ _ _ _ _ hx (IC _ _ _ (hE s z' EY))
   show z.h M w ((a.tmps.setIfInBounds p (enc x)).getD s undef)
   have e1:(a.tmps.setIfInBounds p (enc x)).getD s undef=a.tmps.getD s undef:=by
    simp only [Array.getD_eq_getD_getElem?]
    rw [Array.getElem?_setIfInBounds_ne (fun e=>hs e.symm)]
   rw [e1];exact h2
 ·
  intro l D rec M1 w1 pre x d hpre
  exact hbody l D rec M1 w1 pre x hpre
 ·
  intro l D rec M1 w1 c pre d hpre a w ⟨M,_,_,_,h⟩
  have h:A7 M0 w0 S (own pre++Fz l D rec M1 w1 [CD False]) M w:=h
  exact ((h.hold (CD False) AV).1).elim
theorem Fin.st {E1:Env} {Q':Exit→Act→World→Prop} (hs:CT E E1):Fin n E I (Exit.then (St n E1 I) Q') .normal:=fun _ _ h=>h.sub hs (fun _ _ h=>h)
theorem Fin.rnd {β:Type} {rr:β→List As} {rx:Code→β→List As} (d:β) (hp:rs.Perm (rr d)):Fin n E (Hp M0 w0 S rs) (Ir M0 w0 S rr rx) .normal:=fun _ _ ⟨M,_,_,_,h⟩=>⟨d,M,A7.perm hp h⟩
theorem Tr.wP {α β:Type} (K:Env) (hK:CT E K) (ni:α→β→Fm) (Ei:α→β→Env) (Ii:α→β→Cb) (C:α→β→Prop) (μ:α→β→Nat) (x0:α) (y0:β) (hn:ni x0 y0=n) (h0:C x0 y0) (hs:CT E (Ei x0 y0)) (hI:∀M w,I.h M w→(Ii x0 y0).h M w)
  (k:∀x y,C x y→Tr L (ni x y) (Ei x y++K) (Ii x y) c (Exit.then (fun a w=>∃x' y',(C x' y'∧μ x' y'<μ x y)∧St (ni x' y') (Ei x' y'++K) (Ii x' y') a w) Q)):Tr L n E I (.loop c) Q:=
 Tr.ABP (fun p : α × β => ni p.1 p.2) (fun p => Ei p.1 p.2 ++ K) (fun p => Ii p.1 p.2) (fun p => C p.1 p.2) (fun p => μ p.1 p.2) (x0, y0) hn h0 (L6 hs hK) hI
  fun ⟨x,y⟩ hC a w hst=>L.mono (fun e a w hq=>by
   cases e with
   |normal=>obtain ⟨x',y',h1,h2⟩:=hq;exact ⟨(x',y'),h1,h2⟩
   |_=>exact hq) (k x y hC a w hst)
theorem Fin.ABQ {α β:Type} {ni:α→β→Fm} {E1:α→β→Env} {I1:α→β→Cb} {C:α→β→Prop} (i:α) (j:β) (hn:ni i j=n) (hC:C i j) (hs:CT E (E1 i j)) (hI:∀M w,I.h M w→(I1 i j).h M w):Fin n E I (Exit.then (fun a w=>∃x y,C x y∧St (ni x y) (E1 x y) (I1 x y) a w) Q) .normal:=
 fun _ _ hst=>⟨i,j,hC,by rw [hn];exact hst.sub hs hI⟩
end
section
variable {P:Program} {fz:Nat} {E:Env} {M0 M1:Av} {w0 w1:World} {S:Nat→Prop} {g:Func} {α β:Type} {xs:List α} {own:List α→List As} {R Rx:List α→β→List As}
theorem Fin.ABR {d:β} (hr:g.results= #[]):Fin ⟨fz,[]⟩ E (Hp M0 w0 S (own xs++Ak M1 w1::R xs d)) (I_ P g fun e w'=>(∃v,e= .returned v)∧∃M' d',Ext M1 w1 M' w'∧(A7 M0 w0 S (own xs++R xs d') M' w'∨∃pre,pre<+:xs∧A7 M0 w0 S (own pre++Rx pre d') M' w')) .normal:=by
 refine Fin.wI (Fin.RJ ?_)
 rintro a w ⟨M,_,hd,he,hi⟩
 obtain ⟨h1,h2⟩:=JK hi
 exact ⟨hd,_,results0 hr,⟨_,rfl⟩,M,d,h1,.inl h2⟩
theorem Fin.wQ {d:β} {pre:List α} (hr:g.results= #[]) (hp:pre<+:xs):Fin ⟨fz,[]⟩ E (Hp M0 w0 S (own pre++Ak M1 w1::Rx pre d)) (I_ P g fun e w'=>(∃v,e= .returned v)∧∃M' d',Ext M1 w1 M' w'∧(A7 M0 w0 S (own xs++R xs d') M' w'∨∃pre,pre<+:xs∧A7 M0 w0 S (own pre++Rx pre d') M' w')) .ret:=by
 refine Fin.RJ ?_
 rintro a w ⟨M,_,hd,he,hi⟩
 obtain ⟨h1,h2⟩:=JK hi
 exact ⟨hd,_,results0 hr,⟨_,rfl⟩,M,d,h1,.inr ⟨pre,hp,h2⟩⟩
theorem Be.wR {f:FuncId} {args:List Pr} {form:Nat→Value} {r':Value→As} (h:Gy P f args [] (fun _=>True) (fun b=>is (form b)) (fun b=>[r' (form b)])):Be P f args (Cp.ex fun b=>is (form b)) Bq r':=by
 refine ⟨h.1,fun M0 w0 S rs M w vs hI hv=>(h.2 M0 w0 S rs M w vs (A7.Ks hI) hv).mono ?_⟩
 rintro e w' ⟨v,M',b,rfl,_,h1,h2,h3⟩
 obtain rfl:v=form b:=h1
 exact ⟨_,M',rfl,⟨b,rfl⟩,h2,h3⟩
end
end Cp
namespace Go.Proofs.YtmocaapoeefgkaaGreatDoor
open Go Go.RowKit Cp Go.Proofs.Tryz
theorem b_ {b:BitVec 32} {i:Nat}  :BC prog 184 [u32 b,int ((i:Nat):Int)] (bool (b.getLsbD i)):=by
 refine fo func184 rfl ⟨rfl,rfl⟩ fun M0 w0=> ?_
 refine a2 ?_
 refine co rfl (lY rfl vq vq (Int.natCast_nonneg _)) ?_
 refine co rfl (RC (c:=1#32) rfl vq vq) ?_
 refine co rfl (wK rfl vq vq) ?_
 refine a2 ?_
 · exact Lr
abbrev PT:TypeId:=181
abbrev e7 (b:Nat):Value:= .func (.func 222) #[] #[.pointer (some ⟨b,0,none⟩)]
def AEa (s:BitVec 32) (v:Value):As:=match v with| .func _ _ #[.pointer (some a)]=>AF true a.block PT [u32 s]|_=>Bq
def Iu (s:BitVec 32) (pre:List Nat):BitVec 32:=pre.foldl eu s
theorem Na (s:BitVec 32) (pre:List Nat) (x:Nat):Iu s (pre++[x])=eu (Iu s pre) x:=by unfold Iu;rw [List.foldl_append];rfl
theorem wS {s:BitVec 32}  :Gy (α:=Nat) prog 181 [u32 s] [] (fun _=>True) (fun b=>is (e7 b)) (fun b=>[AF true b PT [u32 s]]):=by
 refine Gy.of func181 rfl rfl Ao fun M0 w0 S rs M1 w1=>(Tr.seq (Tr.An ?_))
 refine TO.Vi rfl rfl AB rfl N0 (fun b1=> ?_)
 refine ap ?_
 refine Tr.seq (Tr.Aj (co rfl (rY rfl vq) ?_))
 refine ac ?_
 refine Tr.ret (Fin.tR (b1) rfl (AO.tmp rfl Lr) trivial ?_ (List.Perm.refl _))
 · exact Lr
theorem cA {s:BitVec 32}:Be Tryz.prog 181 [u32 s] (Cp.ex fun b=>is (e7 b)) Bq (AEa s):=Be.wR wS
theorem PU {s:BitVec 32} {b:Nat}  :Mg prog 222 #[.pointer (some ⟨b,0,none⟩)] (fun i:Nat=> .int .i64 (i:Int)) (I9 s) (fun pre=>[D6,AF true b PT [u32 (Iu s pre)]]):=by
 refine Mg.of (ps:=[is (.pointer (some ⟨b,0,none⟩))]) func222 rfl Ao (fun _ _=>⟨rfl,trivial⟩) ?_
 intro M0 w0 S l β R Rx M1 w1 hy d
 refine Tr.block (Tr.DE [(0,_),(1,_)] ⟨ke rfl,ke rfl,trivial⟩ (fun (pre:List Nat) (d2:β)=>[]) (fun (pre:List Nat) (d2:β)=>Hp M0 w0 S (D6::AF true b PT [u32 (Iu s pre)]::Ak M1 w1::R pre d2)) (fun (pre:List Nat) (d2:β)=>pre++I9 (Iu s pre)=I9 s) (fun (pre:List Nat) (d2:β)=>(I9 (Iu s pre)).length) ([]) (d)  (rfl) trivial (fun _ _ h=>h) ?_)
 rintro pre d2  hpe
 refine Tr.seq (Tr.seq (Tr.Aj (co rfl (C7 1 rfl (BI rfl ER (vl rfl) rfl)) (co rfl (lz rfl (vl rfl) (vl rfl)) (Ch.nil (Fin.go ?_))))))
 refine Tr.cn rfl ?_ ?_<;>intro h1 q1
 have hne:Iu s pre≠0#32:=by simpa using h1
 have mC:=RF hne
 have Td:=Y2 hne
 have hpx:(pre++[JO (Iu s pre)])<+:I9 s:=⟨I9 (eu (Iu s pre) (JO (Iu s pre))),by rw [←hpe,mC];simp⟩
 refine Tr.skip (Fin.go (Tr.block (Tr.seq (Tr.An (TO.rd 1 rfl rfl rfl AB (BI rfl ER (vl rfl) rfl) (TO.IK 0 rfl rfl AB (Aq rfl rfl AB rfl (wL hne) ⟨ke rfl,trivial⟩) (tm rfl (TO.nil (Fin.go (Tr.seq (Tr.GQ mixed [some (0,1,false,0),none,none,none,some (0,1,true,0)] BS (JP 1 rfl rfl (BI rfl ER (vl rfl) rfl) (xm rfl ?_)))))))))))))
 refine xo rfl (fun _=>Ju (b:=1#32) rfl (vl rfl) (vl rfl) (Int.natCast_nonneg _)) ?_
 refine xo rfl (fun _=>N9 rfl (vl rfl) (vl rfl)) (Cx.Dr 1 rfl rfl (A_ rfl rfl (vl rfl) (Vo rfl) FT rfl Ao rfl) ?_)
 refine Cx.nil ⟨rfl,?_⟩
 refine BH.done (Ax.cons (Ax.cons (Ax.cons (Ax.map _)))) (Fin.go (Tr.seq ?_))
 refine Tr.HC 1 [u32 (Iu s (pre++[JO (Iu s pre)]))] rfl ⟨Pr.le_of_eq (by rw [Na];rfl),trivial⟩ ?_
 refine Tr.l9 (own:=fun pre=>[D6,AF true b PT [u32 (Iu s pre)]]) (pre:=pre) (x:=JO (Iu s pre)) (d:=d2) hy hpx rfl rfl rfl rfl rfl rfl rfl rfl rfl rfl rfl rfl Ao Ao Ao Ao AB rfl rfl rfl rfl rfl (fun d3=> ?_) (fun d3=> ?_)
 refine Fin.go (Tr.cond rfl (fun h=>nomatch h) (fun _=> ?_))
 refine Tr.skip (Fin.block ?_)
 exact Fin.DO (pre++[JO (Iu s pre)]) (d3)  (⟨by rw [Na,List.append_assoc,←hpe,mC];rfl,by rw [Na,mC];simp⟩) ⟨ke rfl,ke rfl,trivial⟩ (fun _ _ h=>h)
 refine Fin.go (Tr.cond rfl (fun _=> ?_) (fun h=>nomatch h))
 refine Tr.ret (Fin.AU (Fin.AE (Fin.AU (Fin.wQ (g:=f222) (own:=fun pre=>[D6,AF true b PT [u32 (Iu s pre)]]) (R:=R) (Rx:=Rx) (d:=d3) rfl hpx))))
 have hz:Iu s pre=0#32:=by simpa using h1
 obtain rfl:pre=I9 s:=by rw [hz,lZ,List.append_nil] at hpe;exact hpe
 refine Tr.exit (Fin.Ag (Fin.Ag (Fin.BD (Fin.ABR (g:=f222) (own:=fun pre=>[D6,AF true b PT [u32 (Iu s pre)]]) (xs:=I9 s) (R:=R) (Rx:=Rx) (d:=d2) rfl))))
theorem PV:Entry Tryz.prog 222:=⟨_,Tryz.func222,rfl,rfl⟩
-- bits as AFi are ABS (behind AFj.lean)
def bvF (p:Nat→Bool):Nat→BitVec 32
 |0=>0#32
 |k+1=>if p k then XW (bvF p k) k else bvF p k
theorem mD (p:Nat→Bool):∀(k:Nat) {j:Nat},k≤32→(bvF p k).getLsbD j=(decide (j<k)&&p j)
 |0,j,_=>by simp [bvF]
 |k+1,j,hk=>by
  have ih:= @mD p k j AA
  unfold bvF
  split
  next h=>
   rw [RD AA,ih]
   by_cases hj:k=j
   · subst hj;simp [h]
   ·
    by_cases h2:j<k
    ·
     have:j<k+1:=by omega
     simp [h2,this,hj]
    ·
     have:¬j<k+1:=by omega
     simp [h2,this,hj]
  next h=>
   rw [ih]
   by_cases hj:k=j
   · subst hj;simp at h;simp [h]
   ·
    by_cases h2:j<k
    ·
     have:j<k+1:=by omega
     simp [h2,this]
    ·
     have:¬j<k+1:=by omega
     simp [h2,this]
def EU (n:Nat) (l:List BO):List (BitVec 32):=(List.range n).map fun b=>bvF (fun a=>Cu l n a b) n
theorem DN (n:Nat) (l:List BO):(EU n l).length=n:=by unfold EU;simp
theorem Fl {n:Nat} {l:List BO} (hn:n≤32):Dq n (EU n l) (Cu l n):=by
 refine ⟨DN n l,fun b x hx a=> ?_⟩
 unfold EU at hx
 rw [List.getElem?_map] at hx
 rcases Nat.lt_or_ge b n with hb|hb
 ·
  rw [List.getElem?_range hb] at hx
  simp only [Option.map_some,Option.some.injEq] at hx
  subst hx
  exact mD _ n hn
 · rw [List.getElem?_eq_none FL] at hx;cases hx
theorem Y7 {n:Nat} {B C:List (BitVec 32)} {M:Nat→Nat→Bool} (h:Dq n B M) (h':Dq n C M):B=C:=by
 apply List.ext_getElem?
 intro b
 rcases Nat.lt_or_ge b n with hb|hb
 ·
  obtain ⟨x,hx⟩:=at_ (l:=B) (k:=b) (by rw [h.1];exact hb)
  obtain ⟨y,hy⟩:=at_ (l:=C) (k:=b) (by rw [h'.1];exact hb)
  rw [hx,hy]
  congr 1
  exact BitVec.eq_of_getLsbD_eq fun i _=>by rw [h.2 b x hx,h'.2 b y hy]
 · rw [List.getElem?_eq_none (by rw [h.1];exact hb),List.getElem?_eq_none (by rw [h'.1];exact hb)]
theorem e_ {l:List BO} {k:Nat} {r:BO} (h:l[k]? =some r) (a b:Nat):GK (l.take (k+1)) a b=(GK (l.take k) a b||(decide (r.fst=(a:Int))&&decide (r.thn=(b:Int)))):=by
 unfold GK;rw [List.take_add_one,h,List.any_append];simp
theorem Y8 {n:Nat} {B:List (BitVec 32)} {l:List BO} {k:Nat} {r:BO} {x:BitVec 32} (h:Dq n B (GK (l.take k))) (hr:l[k]? =some r) (hf:0≤r.fst∧r.fst<n) (ht:0≤r.thn) (hx:B[r.thn.toNat]? =some x) (hn:n≤32):Dq n (B.set r.thn.toNat (XW x r.fst.toNat)) (GK (l.take (k+1))):=by
 refine FZ (Wk h hx (f:=r.fst.toNat) AA hn) fun a b _ _=> ?_
 rw [e_ hr]
 congr 1
 rw [decide_eq_decide.2 (show r.fst.toNat=a↔r.fst=(a:Int) by omega),decide_eq_decide.2 (show r.thn.toNat=b↔r.thn=(b:Int) by omega)]
def G6 (i:Nat) (A:List (BitVec 32)) (k:Nat):List (BitVec 32):=A.set k (XW (A.getD k 0#32) i)
def Gg (B:List (BitVec 32)):Nat→List (BitVec 32)
 |0=>List.replicate B.length 0#32
 |i+1=>(I9 (B.getD i 0#32)).foldl (G6 i) (Gg B i)
theorem Nc (i:Nat):∀(ks:List Nat) (A:List (BitVec 32)),(ks.foldl (G6 i) A).length=A.length
 |[],_=>rfl
 |k::ks,A=>by rw [List.foldl_cons,Nc i ks];unfold G6;rw [List.length_set]
theorem H8 (B:List (BitVec 32)):∀i,(Gg B i).length=B.length
 |0=>List.length_replicate
 |i+1=>by unfold Gg;rw [Nc,H8 B i]
theorem S5 {B:List (BitVec 32)} {i:Nat} {x:BitVec 32} (h:B[i]? =some x):Gg B (i+1)=(I9 x).foldl (G6 i) (Gg B i):=by
 rw [Gg,List.getD_eq_getElem?_getD,h];rfl
theorem RK {n i:Nat} (hi:i<n) (hn:n≤32):∀(ks:List Nat) {A:List (BitVec 32)} {M:Nat→Nat→Bool},Dq n A M→(∀k∈ks,k<n)→Dq n (ks.foldl (G6 i) A) (fun b a=>M b a||(decide (b=i)&&ks.contains a))
 |[],A,M,h,_=>FZ h fun a b _ _=>by simp
 |k::ks,A,M,h,hk=>by
  rw [List.foldl_cons]
  obtain ⟨x,hx⟩:=at_ (l:=A) (k:=k) (by rw [h.1];exact hk k AV)
  have h1:Dq n (G6 i A k) (fun b a=>M b a||(decide (i=b)&&decide (k=a))):=by
   unfold G6
   rw [List.getD_eq_getElem?_getD,hx]
   exact Wk h hx hi hn
  refine FZ (RK hi hn ks h1 (fun j hj=>hk j (List.mem_cons_of_mem _ hj))) fun b a _ _=> ?_
  by_cases hb:b=i
  ·
   subst hb
   by_cases ha:k=a
   · subst ha;simp
   ·
    have:¬a=k:=fun e=>ha e.symm
    simp [ha,this]
  ·
   have:¬i=b:=fun e=>hb e.symm
   simp [hb,this]
theorem S6 {n:Nat} {B:List (BitVec 32)} {M:Nat→Nat→Bool} (h:Dq n B M) (hn:n≤32):∀(i:Nat),i≤n→Dq n (Gg B i) (fun b a=>M a b&&decide (b<i))
 |0,_=>by
  rw [Gg,h.1]
  exact FZ (RG n) fun a b _ _=>by simp
 |i+1,hi=>by
  obtain ⟨x,hx⟩:=at_ (l:=B) (k:=i) (by rw [h.1];omega)
  rw [S5 hx]
  have hlt:∀k∈I9 x,k<n:=fun k hk=>by
   have:=FY.1 hk
   rw [h.2 i x hx,Bool.and_eq_true,decide_eq_true_eq] at this
   exact this.1
  refine FZ (RK AA hn (I9 x) (S6 h hn i AA) hlt) fun b a hb ha=> ?_
  by_cases e:b=i
  ·
   subst e
   have hc:(I9 x).contains a=M a b:=by
    rw [Bool.eq_iff_iff,List.contains_iff_mem,FY,h.2 b x hx,Bool.and_eq_true,decide_eq_true_eq]
    exact ⟨fun g=>g.2,fun g=>⟨ha,g⟩⟩
   rw [hc];simp
  ·
   by_cases h2:b<i
   ·
    have:b<i+1:=by omega
    simp [e,h2,this]
   ·
    have:¬b<i+1:=by omega
    simp [e,h2,this]
theorem cB {n:Nat} {l:List BO} (hn:n≤32):AEY n l (EU n l) (Gg (EU n l) n):=
 ⟨Fl hn,FZ (S6 (Fl hn) hn n (Nat.le_refl _)) fun a b ha _=>by simp [ha]⟩
abbrev bits (B:List (BitVec 32)):Pr:=slice 1 (B.map fun x=>[u32 x])
def wT (a b:BO):Int:=orF [YR a.fst b.fst,YR a.thn b.thn]
theorem Uy {a b:BO}:decide (wT a b≥0)= !Ej a b:=by
 unfold wT Ej
 rw [Bool.eq_iff_iff,decide_eq_true_eq]
 simp only [orF,YR]
 repeat' split
 all_goals (simp;try omega)
theorem KV {B:List (BitVec 32)} {i:Int} {x:BitVec 32} (h:B[i.toNat]? =some x):(B.map fun x=>u32 x)[0+i.toNat*1]? =some (u32 x):=by rw [Nat.zero_add,Nat.mul_one,List.getElem?_map,h];rfl
theorem RL {B:List (BitVec 32)} {i:Int} {x y:BitVec 32} (h:B[i.toNat]? =some x):(B.map fun x=>u32 x).take (0+i.toNat*1)++[u32 y]++(B.map fun x=>u32 x).drop (0+i.toNat*1+1)=(B.set i.toNat y).map fun x=>u32 x:=by
 have hl:i.toNat<B.length:=by rcases Nat.lt_or_ge i.toNat B.length with h2|h2;exact h2;rw [List.getElem?_eq_none h2] at h;cases h
 rw [Nat.zero_add,Nat.mul_one,List.set_eq_take_append_cons_drop,if_pos hl]
 simp [List.map_take,List.map_drop]
theorem S7 (B:List (BitVec 32)):(B.map fun x=>u32 x)=(B.map fun x=>[u32 x]).flatten++([]:List Value).map is:=by
 induction B with
 |nil=>rfl
 |cons x B ih=>simp at ih ⊢;exact ih
theorem S8 (n:Nat):(List.replicate n (Value.int .u32 0)).map is=(List.replicate n 0#32).map fun x=>u32 x:=by rw [List.map_replicate,List.map_replicate];rfl
theorem RM {B:List (BitVec 32)} {i:Nat} {x:BitVec 32} (h:B[i]? =some x):(B.map fun x=>[u32 x])[((i:Nat):Int).toNat]? =some [u32 x]:=by rw [Int.toNat_natCast,List.getElem?_map,h];rfl
theorem fA {i k:Nat} {pre:List Nat} {A:List (BitVec 32)} {y:BitVec 32} (h:(pre.foldl (G6 i) A)[k]? =some y):(pre.foldl (G6 i) A).set k (XW y i)=(pre++[k]).foldl (G6 i) A:=by
 rw [List.foldl_append]
 show _=(pre.foldl (G6 i) A).set k (XW ((pre.foldl (G6 i) A).getD k 0#32) i)
 rw [List.getD_eq_getElem?_getD,h];rfl
theorem wU {n:Nat} {r:BO} (h:FJ n r=false):(0≤r.fst∧r.fst<n)∧(0≤r.thn∧r.thn<n)∧r.fst≠r.thn:=by
 unfold FJ at h;rw [decide_eq_false_iff_not] at h;omega
theorem wV {ps qs:List Pr} (h:QE ps qs):Pr.le (ref ps) (ref qs):=fun M w v ⟨a,h1,h2⟩=>⟨a,h1,fun i q hq=>by
 obtain ⟨p,hp,hle⟩:=h.at_ i q hq
 obtain ⟨u,g1,g2⟩:=h2 i p hp
 exact ⟨u,g1,g2.1,g2.2.1,hle _ _ _ g2.2.2⟩⟩
theorem Y9 {xs pre:List Nat} {x:Nat} (h:(pre++[x])<+:xs):x∈xs:=h.subset AV
theorem Y_ {a b:BO}  :BC prog 182 [agg (OI a),agg (OI b)] (int (wT a b)):=by
 refine fo func182 rfl ⟨rfl,rfl⟩ fun M0 w0=> ?_
 refine a2 ?_
 refine co rfl (CK (jt) rfl rfl rfl) ?_
 refine ac ?_
 refine co rfl (CK (jt) rfl rfl rfl) (co rfl (AM (xs:=[.tmp 9,.tmp 14]) (rows:=[[_],[_]]) rfl rfl underlying22 CH z3 rfl AB ⟨⟨Am,N0⟩,⟨⟨Am,N0⟩,trivial⟩⟩ AB) ?_)
 refine co rfl (AR rfl (AAq (l:=[YR a.fst b.fst,YR a.thn b.thn])) ⟨GH,trivial⟩) ?_
 refine ac ?_
 refine wk [4] rfl ?_
 refine ac ?_
 · exact Lr
theorem fB {n:Nat} {l:List BO} (hn:n≤24) (hbd:∀r∈l,FJ n r=false):Be Tryz.prog 183 [int ((n:Nat):Int),reqs l] (ref [int ((n:Nat):Int),bits (EU n l),bits (Gg (EU n l) n)]) (D6) (fun _=>D6):=by
 refine Be.ofM Tryz.func183 rfl rfl Bs fun M0 w0 S rs M1 w1=> ?_
 refine Tr.Cf 1 rfl fun FC=> ?_
 refine Tr.seq ?_
 refine Tr.Aj ?_
 refine Ch.op rfl rfl AB (Cl rfl (vl rfl)) ?_
 refine Ch.nil ?_
 refine Fin.go ?_
 refine Tr.seq ?_
 refine Tr.pad ?_
 refine Tr.pad ?_
 refine Tr.pad ?_
 refine Tr.pad ?_
 refine Tr.GQ mixed [none,none,some (0,0,true,14),none,some (0,1,true,16),some (0,2,true,.three 17 14 16),some (.three 17 14 16,2,true,.three 18 14 16),some (0,3,true,5),some (5,3,true,.two 5 18)] BS ?_
 refine Cx.op rfl rfl AB (fun _=>BK rfl (vl rfl)) ?_
 refine Cx.op rfl rfl AB (fun _=>BK rfl (vl rfl)) ?_
 refine Cx.ef 0 rfl rfl AB (mA rfl rfl AB rfl Tryz.underlying232 FT tB u7 rfl (vl rfl) (vl rfl) Fj AA) ?_
 refine Cx.op rfl rfl AB (fun _=>BK rfl (vl rfl)) ?_
 refine Cx.ef 1 rfl rfl AB (mA rfl rfl AB rfl Tryz.underlying232 FT tB u7 rfl (vl rfl) (vl rfl) Fj AA) ?_
 refine Cx.ef 2 rfl rfl AB (wN (d:=17) (s:=14) (t:=16) (q:=any) rfl AB AB (fun _ _ _ _ _ _=>trivial) rfl rfl rfl AB AB (fun v1 v2=>Y6 rfl rfl AB (fun _=>Al (rows:=[(0,[_]),(1,[_]),(2,[_])]) rfl zP zQ ⟨⟨rfl,VL.le (vl rfl) (Aa _)⟩,⟨⟨rfl,VL.le (vl rfl) (Aa _)⟩,⟨⟨rfl,VL.le (vl rfl) (Aa _)⟩,trivial⟩⟩⟩ rfl))) ?_
 refine Cx.ef 2 rfl rfl AB (rZ rfl rfl AB rfl AB AB) ?_
 refine Cx.ef 3 rfl rfl AB (CB rfl rfl AB rfl ADG zL) ?_
 refine Cx.Dr 3 rfl rfl (ez rfl rfl rfl AB rfl rfl zK rfl) ?_
 refine Cx.nil ⟨rfl,?_⟩
 refine BH.ng 14 rfl (fun v14=> ?_)
 refine BH.ng 16 rfl (fun v16=> ?_)
 refine BH.ng 18 rfl (fun v18=> ?_)
 refine BH.ng 5 rfl (fun v5=> ?_)
 refine BH.rj 0 14 rfl rfl ?_
 refine BH.rj 1 16 rfl rfl ?_
 refine BH.AEZ 2 18 14 16 rfl rfl rfl rfl ?_
 refine BH.mB 3 5 18 rfl rfl rfl ?_
 refine BH.done (Ax.cons (Ax.cons (Ax.cons (Ax.cons (Ax.cons (Ax.cons (Ax.map _))))))) ?_
 refine Fin.shape 14 (fun b=>JH n b) rfl (fun b1 e1=> ?_)
 refine Fin.shape 16 (fun b=>JH n b) rfl (fun b2 e2=> ?_)
 refine Fin.shape 18 (fun b=> .pointer (some ⟨b,0,none⟩)) rfl (fun b3 e3=> ?_)
 refine Fin.shape 5 (fun b=> .pointer (some ⟨b,0,none⟩)) rfl (fun b4 e4=> ?_)
 subst e1 e2 e3 e4
 refine Fin.JA 0 (AF true b1 PT ((List.replicate n 0#32).map fun x=>u32 x)) rfl (by rw [←S8];rfl) ?_
 refine Fin.JA 1 (AF true b2 PT ((List.replicate n 0#32).map fun x=>u32 x)) rfl (by rw [←S8];rfl) ?_
 refine Fin.JA 2 (AF true b3 234 [int ((n:Nat):Int),Af (JH n b1) _,Af (JH n b2) _]) rfl rfl ?_
 refine Fin.HC 2 [int ((n:Nat):Int),is (JH n b1),is (JH n b2)] rfl ⟨Pr.le_refl _,FP _ _,FP _ _,trivial⟩ ?_
 refine Fin.JA 3 (AF true b4 176 [Af (.pointer (some ⟨b3,0,none⟩)) _]) rfl rfl ?_
 refine Fin.HC 3 [ptr b3 0] rfl ⟨FP _ _,trivial⟩ ?_
 refine Fin.go ?_
 refine Tr.seq ?_
 refine Tr.seq ?_
 refine Tr.Aj ?_
 refine Ch.op rfl rfl AB (BK rfl (vl rfl)) ?_
 first
  |refine Ch.op rfl rfl AB (CW rfl Tryz.underlying33 (vl rfl)) ?_
  |refine Ch.op rfl rfl AB (CE rfl Tryz.underlying33 (vl rfl)) ?_
 refine Ch.op rfl rfl AB (BK rfl (vl rfl)) ?_
 refine Ch.nil ?_
 refine Fin.go ?_
 refine Tr.block ?_
 refine Tr.DE [(0,_),(5,_),(19,_),(20,_)] ⟨⟨_,rfl,Pr.le_refl _⟩,⟨_,rfl,Pr.le_refl _⟩,⟨_,rfl,Pr.le_refl _⟩,⟨_,rfl,Pr.le_refl _⟩,trivial⟩ (fun (B:List (BitVec 32)) (m:Nat)=>[(21,int ((m:Nat):Int))]) (fun (B:List (BitVec 32)) (m:Nat)=>Hp M0 w0 S (AF true b1 PT (B.map fun x=>u32 x)::AF true b2 PT ((List.replicate n 0#32).map fun x=>u32 x)::AF true b3 234 [int ((n:Nat):Int),is (JH n b1),is (JH n b2)]::AF true b4 176 [ptr b3 0]::D6::Ak M1 w1::rs)) (fun (B:List (BitVec 32)) (m:Nat)=>m≤l.length∧Dq n B (GK (l.take m))) (fun (B:List (BitVec 32)) (m:Nat)=>l.length-m) (List.replicate n 0#32) (0)  (⟨Nat.zero_le _,FZ (RG n) fun a b _ _=>rfl⟩) ⟨⟨_,rfl,Pr.le_refl _⟩,trivial⟩ (fun _ _ h=>h) ?_
 rintro B m  ⟨hm0,hB⟩
 refine Tr.seq ?_
 refine Tr.Aj ?_
 refine Ch.op rfl rfl AB (ok_int rfl (vl rfl) (vl rfl) rfl) ?_
 refine Ch.nil ?_
 refine Fin.go ?_
 refine Tr.seq ?_
 refine Tr.cond rfl (fun h1=> ?_) (fun h1=> ?_)
 ·
  have q1:=Co.C_ h1
  have hm:m<l.length:=AH h1
  obtain ⟨r,hr⟩:=at_ hm
  obtain ⟨hf,ht,_⟩:=wU (hbd r (List.mem_of_getElem? hr))
  have hBl:=hB.1
  obtain ⟨x,hx⟩:=at_ (l:=B) (k:=r.thn.toNat) AA
  refine Tr.skip ?_
  refine Fin.go ?_
  refine Tr.seq ?_
  refine Tr.block ?_
  refine Tr.seq ?_
  refine Tr.An ?_
  refine TO.op rfl rfl AB (AD rfl Tryz.underlying33 Cg (vl rfl) (vl rfl) AA (AX hr)) ?_
  refine TO.op rfl rfl AB (AL rfl FB Cg (vl rfl) rfl rfl) ?_
  refine TO.alloc rfl rfl AB rfl Rs QN (fun b5=> ?_)
  refine TO.AK 0 rfl rfl rfl (vl rfl) (VL.le (vl rfl) (Ac _)) rfl Cg rfl rfl ?_
  refine TO.freeze 0 7 rfl rfl ?_
  refine TO.nil ?_
  refine Fin.go ?_
  refine Tr.GQ mixed [some (0,3,false,0),none,none,some (0,2,false,0),none,none,none,some (0,0,false,0),none,none,none,none,none,some (0,0,true,0)] BS ?_
  refine Cx.rd 3 rfl rfl rfl AB (BI rfl IV (vl rfl) rfl) ?_
  refine Cx.op rfl rfl AB (fun _=>EB rfl (vl rfl)) ?_
  refine Cx.op rfl rfl AB (fun _=>Ab rfl IX (vl rfl)) ?_
  refine Cx.rd 2 rfl rfl rfl AB (BI rfl IW (vl rfl) rfl) ?_
  refine Cx.op rfl rfl AB (fun _=>Ef rfl YH (vl rfl) rfl) ?_
  refine Cx.op rfl rfl AB (fun _=>Cz rfl DF (vl rfl)) ?_
  refine Cx.op rfl rfl AB (fun _=>Bb rfl Tryz.underlying232 FT (vl rfl) (vl rfl) AA AA) ?_
  refine Cx.rd 0 rfl rfl rfl AB (BI rfl ER (vl rfl) (KV hx)) ?_
  refine Cx.op rfl rfl AB (fun _=>Ef rfl YG (vl rfl) rfl) ?_
  refine Cx.op rfl rfl AB (fun _=>Cz rfl DF (vl rfl)) ?_
  refine Cx.op rfl rfl AB (fun _=>Ju (b:=1#32) rfl (vl rfl) (vl rfl) AA) ?_
  refine Cx.op rfl rfl AB (fun _=>Mh rfl (vl rfl) (vl rfl)) ?_
  refine Cx.op rfl rfl AB (fun _=>Bb rfl Tryz.underlying232 FT (vl rfl) (vl rfl) AA AA) ?_
  refine Cx.Dr 0 rfl rfl (A_ rfl rfl (vl rfl) (VL.le (vl rfl) (Aa _)) FT rfl EM (RL hx)) ?_
  refine Cx.nil ⟨rfl,?_⟩
  refine BH.done (Ax.cons (Ax.cons (Ax.cons (Ax.cons (Ax.cons (Ax.cons (Ax.map _))))))) ?_
  refine Fin.block ?_
  refine Fin.go ?_
  refine Tr.weak [(0,_),(5,_),(19,_),(20,_),(21,_)] ⟨⟨_,rfl,Pr.le_refl _⟩,⟨_,rfl,Pr.le_refl _⟩,⟨_,rfl,Pr.le_refl _⟩,⟨_,rfl,Pr.le_refl _⟩,⟨_,rfl,Pr.le_refl _⟩,trivial⟩ ?_
  refine Tr.Aj ?_
  first
   |(refine Ch.op rfl rfl AB (E5 rfl (vl rfl) (vl rfl) ?hin) ?_;case hin=>unfold OK;omega)
   |refine Ch.op rfl rfl AB (ok_int rfl (vl rfl) (vl rfl) rfl) ?_
  refine Ch.op rfl rfl AB (BK rfl (vl rfl)) ?_
  refine Ch.nil ?_
  exact Fin.DO (B.set r.thn.toNat (XW x r.fst.toNat)) (m+1)  (⟨⟨hm,Y8 hB hr hf ht.1 hx AA⟩,by omega⟩) ⟨⟨_,rfl,AG m⟩,⟨_,rfl,Pr.le_refl _⟩,⟨_,rfl,Pr.le_refl _⟩,⟨_,rfl,Pr.le_refl _⟩,⟨_,rfl,Pr.le_refl _⟩,trivial⟩ (fun _ _ h=>h)
 ·
  have q1:=Co.C_ h1
  have hml:m=l.length:=by have:=AJ h1;omega
  rw [hml,List.take_length] at hB
  refine Tr.exit ?_
  refine Fin.Ag ?_
  refine Fin.Ag ?_
  refine Fin.BD ?_
  refine Fin.go ?_
  refine Tr.seq ?_
  refine Tr.seq ?_
  refine Tr.Aj ?_
  refine Ch.op rfl rfl AB (BK rfl (vl rfl)) ?_
  refine Ch.op rfl rfl AB (BK rfl (vl rfl)) ?_
  refine Ch.nil ?_
  refine Fin.go ?_
  refine Tr.block ?_
  refine Tr.DE [(0,_),(5,_),(39,_)] ⟨⟨_,rfl,Pr.le_refl _⟩,⟨_,rfl,Pr.le_refl _⟩,⟨_,rfl,Pr.le_refl _⟩,trivial⟩ (fun (B2:List (BitVec 32)) (k:Nat)=>[(40,int ((k:Nat):Int))]) (fun (B2:List (BitVec 32)) (k:Nat)=>Hp M0 w0 S (AF true b1 PT (B2.map fun x=>u32 x)::AF true b2 PT ((List.replicate n 0#32).map fun x=>u32 x)::AF true b3 234 [int ((n:Nat):Int),is (JH n b1),is (JH n b2)]::AF true b4 176 [ptr b3 0]::D6::Ak M1 w1::rs)) (fun (B2:List (BitVec 32)) (k:Nat)=>k≤n∧Dq n B2 (Cu l k)) (fun (B2:List (BitVec 32)) (k:Nat)=>n-k) (B) (0)  (⟨Nat.zero_le _,hB⟩) ⟨⟨_,rfl,Pr.le_refl _⟩,trivial⟩ (fun _ _ h=>h) ?_
  rintro B2 k  ⟨hk0,hB2⟩
  refine Tr.seq ?_
  refine Tr.Aj ?_
  refine Ch.op rfl rfl AB (ok_int rfl (vl rfl) (vl rfl) rfl) ?_
  refine Ch.nil ?_
  refine Fin.go ?_
  refine Tr.seq ?_
  refine Tr.cond rfl (fun h2=> ?_) (fun h2=> ?_)
  ·
   have q2:=Co.C_ h2
   have hk:k<n:=AH h2
   refine Tr.skip ?_
   refine Fin.go ?_
   refine Tr.seq ?_
   refine Tr.block ?_
   refine Tr.seq ?_
   refine Tr.Aj ?_
   refine Ch.op rfl rfl AB (BK rfl (vl rfl)) ?_
   refine Ch.op rfl rfl AB (Cl rfl (vl rfl)) ?_
   refine Ch.nil ?_
   refine Fin.go ?_
   refine Tr.seq ?_
   refine Tr.Aj ?_
   refine Ch.op rfl rfl AB (BK rfl (vl rfl)) ?_
   refine Ch.op rfl rfl AB (BK rfl (vl rfl)) ?_
   refine Ch.nil ?_
   refine Fin.go ?_
   refine Tr.block ?_
   refine Tr.DE [(0,_),(5,_),(8,_),(39,_),(40,_),(43,_)] ⟨⟨_,rfl,Pr.le_refl _⟩,⟨_,rfl,Pr.le_refl _⟩,⟨_,rfl,Pr.le_refl _⟩,⟨_,rfl,Pr.le_refl _⟩,⟨_,rfl,Pr.le_refl _⟩,⟨_,rfl,Pr.le_refl _⟩,trivial⟩ (fun (B3:List (BitVec 32)) (i:Nat)=>[(44,int ((i:Nat):Int))]) (fun (B3:List (BitVec 32)) (i:Nat)=>Hp M0 w0 S (AF true b1 PT (B3.map fun x=>u32 x)::AF true b2 PT ((List.replicate n 0#32).map fun x=>u32 x)::AF true b3 234 [int ((n:Nat):Int),is (JH n b1),is (JH n b2)]::AF true b4 176 [ptr b3 0]::D6::Ak M1 w1::rs)) (fun (B3:List (BitVec 32)) (i:Nat)=>i≤n∧Dq n B3 (Ko k (Cu l k) i)) (fun (B3:List (BitVec 32)) (i:Nat)=>n-i) (B2) (0)  (⟨Nat.zero_le _,by rw [wG];exact hB2⟩) ⟨⟨_,rfl,Pr.le_refl _⟩,trivial⟩ (fun _ _ h=>h) ?_
   rintro B3 i  ⟨hi0,hB3⟩
   refine Tr.seq ?_
   refine Tr.Aj ?_
   refine Ch.op rfl rfl AB (ok_int rfl (vl rfl) (vl rfl) rfl) ?_
   refine Ch.nil ?_
   refine Fin.go ?_
   refine Tr.seq ?_
   refine Tr.cond rfl (fun h3=> ?_) (fun h3=> ?_)
   ·
    have q3:=Co.C_ h3
    have hi:i<n:=AH h3
    have hBl:=hB3.1
    obtain ⟨x,hx⟩:=at_ (l:=B3) (k:=i) AA
    obtain ⟨y,hy⟩:=at_ (l:=B3) (k:=k) AA
    refine Tr.skip ?_
    refine Fin.go ?_
    refine Tr.seq ?_
    refine Tr.block ?_
    refine Tr.seq ?_
    refine Tr.Aj ?_
    refine Ch.op rfl rfl AB (BK rfl (vl rfl)) ?_
    refine Ch.op rfl rfl AB (Cl rfl (vl rfl)) ?_
    refine Ch.nil ?_
    refine Fin.go ?_
    refine Tr.seq ?_
    refine Tr.Aj ?_
    refine Ch.op rfl rfl AB (C7 3 rfl (BI rfl IV (vl rfl) rfl)) ?_
    refine Ch.op rfl rfl AB (EB rfl (vl rfl)) ?_
    refine Ch.op rfl rfl AB (Ab rfl IX (vl rfl)) ?_
    refine Ch.op rfl rfl AB (C7 2 rfl (BI rfl IW (vl rfl) rfl)) ?_
    refine Ch.op rfl rfl AB (BK rfl (vl rfl)) ?_
    refine Ch.op rfl rfl AB (Bb rfl Tryz.underlying232 FT (vl rfl) (vl rfl) AA AA) ?_
    refine Ch.op rfl rfl AB (C7 0 rfl (BI rfl ER (vl rfl) (KV hx))) ?_
    refine Ch.op rfl rfl AB (BK rfl (vl rfl)) ?_
    refine Ch.op rfl rfl AB (AR rfl (b_) ⟨⟨_,rfl,Pr.le_refl _⟩,⟨_,rfl,Pr.le_refl _⟩,trivial⟩) ?_
    refine Ch.nil ?_
    refine Fin.go ?_
    refine Tr.weak [(0,_),(5,_),(8,_),(9,_),(39,_),(40,_),(43,_),(44,_),(55,_)] ⟨⟨_,rfl,Pr.le_refl _⟩,⟨_,rfl,Pr.le_refl _⟩,⟨_,rfl,Pr.le_refl _⟩,⟨_,rfl,Pr.le_refl _⟩,⟨_,rfl,Pr.le_refl _⟩,⟨_,rfl,Pr.le_refl _⟩,⟨_,rfl,Pr.le_refl _⟩,⟨_,rfl,Pr.le_refl _⟩,⟨_,rfl,Pr.le_refl _⟩,trivial⟩ ?_
    refine Tr.cond rfl (fun h4=> ?_) (fun h4=> ?_)
    ·
     have q4:=Co.C_ h4
     refine Tr.GQ mixed [some (0,3,false,0),none,none,some (0,2,false,0),none,none,some (0,0,false,0),some (0,3,false,0),none,none,some (0,2,false,0),none,none,some (0,0,false,0),none,none,some (0,0,true,0)] BS ?_
     refine Cx.rd 3 rfl rfl rfl AB (BI rfl IV (vl rfl) rfl) ?_
     refine Cx.op rfl rfl AB (fun _=>EB rfl (vl rfl)) ?_
     refine Cx.op rfl rfl AB (fun _=>Ab rfl IX (vl rfl)) ?_
     refine Cx.rd 2 rfl rfl rfl AB (BI rfl IW (vl rfl) rfl) ?_
     refine Cx.op rfl rfl AB (fun _=>BK rfl (vl rfl)) ?_
     refine Cx.op rfl rfl AB (fun _=>Bb rfl Tryz.underlying232 FT (vl rfl) (vl rfl) AA AA) ?_
     refine Cx.rd 0 rfl rfl rfl AB (BI rfl ER (vl rfl) (KV hx)) ?_
     refine Cx.rd 3 rfl rfl rfl AB (BI rfl IV (vl rfl) rfl) ?_
     refine Cx.op rfl rfl AB (fun _=>EB rfl (vl rfl)) ?_
     refine Cx.op rfl rfl AB (fun _=>Ab rfl IX (vl rfl)) ?_
     refine Cx.rd 2 rfl rfl rfl AB (BI rfl IW (vl rfl) rfl) ?_
     refine Cx.op rfl rfl AB (fun _=>BK rfl (vl rfl)) ?_
     refine Cx.op rfl rfl AB (fun _=>Bb rfl Tryz.underlying232 FT (vl rfl) (vl rfl) AA AA) ?_
     refine Cx.rd 0 rfl rfl rfl AB (BI rfl ER (vl rfl) (KV hy)) ?_
     refine Cx.op rfl rfl AB (fun _=>Mh rfl (vl rfl) (vl rfl)) ?_
     refine Cx.op rfl rfl AB (fun _=>Bb rfl Tryz.underlying232 FT (vl rfl) (vl rfl) AA AA) ?_
     refine Cx.Dr 0 rfl rfl (A_ rfl rfl (vl rfl) (VL.le (vl rfl) (Aa _)) FT rfl EM (RL hx)) ?_
     refine Cx.nil ⟨rfl,?_⟩
     refine BH.done (Ax.cons (Ax.cons (Ax.cons (Ax.cons (Ax.cons (Ax.cons (Ax.map _))))))) ?_
     refine Fin.block ?_
     refine Fin.go ?_
     refine Tr.weak [(0,_),(5,_),(8,_),(39,_),(40,_),(43,_),(44,_)] ⟨⟨_,rfl,Pr.le_refl _⟩,⟨_,rfl,Pr.le_refl _⟩,⟨_,rfl,Pr.le_refl _⟩,⟨_,rfl,Pr.le_refl _⟩,⟨_,rfl,Pr.le_refl _⟩,⟨_,rfl,Pr.le_refl _⟩,⟨_,rfl,Pr.le_refl _⟩,trivial⟩ ?_
     refine Tr.Aj ?_
     first
      |(refine Ch.op rfl rfl AB (E5 rfl (vl rfl) (vl rfl) ?hin) ?_;case hin=>unfold OK;omega)
      |refine Ch.op rfl rfl AB (ok_int rfl (vl rfl) (vl rfl) rfl) ?_
     refine Ch.op rfl rfl AB (BK rfl (vl rfl)) ?_
     refine Ch.nil ?_
     exact Fin.DO (B3.set i (x|||y)) (i+1)  (⟨⟨hi,lq hB3 hx hy (by rw [←Wl hB3 hx hk];exact h4)⟩,by omega⟩) ⟨⟨_,rfl,AG i⟩,⟨_,rfl,Pr.le_refl _⟩,⟨_,rfl,Pr.le_refl _⟩,⟨_,rfl,Pr.le_refl _⟩,⟨_,rfl,Pr.le_refl _⟩,⟨_,rfl,Pr.le_refl _⟩,⟨_,rfl,Pr.le_refl _⟩,trivial⟩ (fun _ _ h=>h)
    ·
     have q4:=Co.C_ h4
     refine Tr.skip ?_
     refine Fin.block ?_
     refine Fin.go ?_
     refine Tr.Aj ?_
     first
      |(refine Ch.op rfl rfl AB (E5 rfl (vl rfl) (vl rfl) ?hin) ?_;case hin=>unfold OK;omega)
      |refine Ch.op rfl rfl AB (ok_int rfl (vl rfl) (vl rfl) rfl) ?_
     refine Ch.op rfl rfl AB (BK rfl (vl rfl)) ?_
     refine Ch.nil ?_
     exact Fin.DO (B3) (i+1)  (⟨⟨hi,rU hB3 (by rw [←Wl hB3 hx hk];exact h4)⟩,by omega⟩) ⟨⟨_,rfl,AG i⟩,⟨_,rfl,Pr.le_refl _⟩,⟨_,rfl,Pr.le_refl _⟩,⟨_,rfl,Pr.le_refl _⟩,⟨_,rfl,Pr.le_refl _⟩,⟨_,rfl,Pr.le_refl _⟩,⟨_,rfl,Pr.le_refl _⟩,trivial⟩ (fun _ _ h=>h)
   ·
    have q3:=Co.C_ h3
    have hin:i=n:=by have:=AJ h3;omega
    rw [hin] at hB3
    refine Tr.exit ?_
    refine Fin.Ag ?_
    refine Fin.Ag ?_
    refine Fin.BD ?_
    refine Fin.block ?_
    refine Fin.go ?_
    refine Tr.Aj ?_
    first
     |(refine Ch.op rfl rfl AB (E5 rfl (vl rfl) (vl rfl) ?hin) ?_;case hin=>unfold OK;omega)
     |refine Ch.op rfl rfl AB (ok_int rfl (vl rfl) (vl rfl) rfl) ?_
    refine Ch.op rfl rfl AB (BK rfl (vl rfl)) ?_
    refine Ch.nil ?_
    exact Fin.DO (B3) (k+1)  (⟨⟨hk,FZ hB3 fun a b _ hb=>lf hb⟩,by omega⟩) ⟨⟨_,rfl,AG k⟩,⟨_,rfl,Pr.le_refl _⟩,⟨_,rfl,Pr.le_refl _⟩,⟨_,rfl,Pr.le_refl _⟩,trivial⟩ (fun _ _ h=>h)
  ·
   have q2:=Co.C_ h2
   have hkn:k=n:=by have:=AJ h2;omega
   rw [hkn] at hB2
   obtain rfl:=Y7 hB2 (Fl AA)
   refine Tr.exit ?_
   refine Fin.Ag ?_
   refine Fin.Ag ?_
   refine Fin.BD ?_
   refine Fin.go ?_
   refine Tr.seq ?_
   refine Tr.seq ?_
   refine Tr.Aj ?_
   refine Ch.op rfl rfl AB (BK rfl (vl rfl)) ?_
   refine Ch.op rfl rfl AB (BK rfl (vl rfl)) ?_
   refine Ch.nil ?_
   refine Fin.go ?_
   refine Tr.block ?_
   refine Tr.wP [(5,_),(74,_)] ⟨⟨_,rfl,Pr.le_refl _⟩,⟨_,rfl,Pr.le_refl _⟩,trivial⟩ (fun Ds i=>⟨_,Ds.map Cp.mark⟩) (fun Ds i=>[(75,int ((i:Nat):Int))]) (fun Ds i=>Hp M0 w0 S (AF true b1 PT ((EU n l).map fun x=>u32 x)::AF true b2 PT ((Gg (EU n l) i).map fun x=>u32 x)::AF true b3 234 [int ((n:Nat):Int),is (JH n b1),is (JH n b2)]::AF true b4 176 [ptr b3 0]::D6::(Ds.map Wn++Ak M1 w1::rs))) (fun Ds i=>i≤(n)) (fun Ds i=>(n)-i) [] 0 rfl (Nat.zero_le _) ⟨⟨_,rfl,Pr.le_refl _⟩,trivial⟩ ((by rw [Gg,DN];exact fun _ _ h=>h)) ?_
   rintro Ds i WR
   refine Tr.seq ?_
   refine Tr.Aj ?_
   refine Ch.op rfl rfl Bs (ok_int rfl (vl rfl) (vl rfl) rfl) ?_
   refine Ch.nil ?_
   refine Fin.go ?_
   refine Tr.seq ?_
   refine Tr.cond rfl (fun h5=> ?_) (fun h5=> ?_)
   ·
    have q5:=Co.C_ h5
    have JM:i<(n):=AH h5
    obtain ⟨x,hx⟩:=at_ (l:=EU n l) (k:=i) (by rw [DN];omega)
    refine Tr.skip ?_
    refine Fin.go ?_
    refine Tr.seq ?_
    refine Tr.block ?_
    refine Tr.seq ?_
    refine Tr.An ?_
    refine TO.op rfl rfl Bs (BK rfl (vl rfl)) ?_
    refine TO.alloc rfl rfl Bs rfl z3 zo3 (fun b6=> ?_)
    refine TO.AK 0 rfl rfl rfl (vl rfl) (VL.le (vl rfl) (Aa _)) rfl CH rfl rfl ?_
    refine TO.freeze 0 10 rfl rfl ?_
    refine TO.nil ?_
    refine Fin.go ?_
    refine Tr.seq ?_
    refine Tr.pad ?_
    refine Tr.GQ mixed [some (0,4,false,0),none,none,some (0,3,false,0),none,none,some (0,1,false,0),some (0,0,true,85)] BS ?_
    refine Cx.rd 4 rfl rfl rfl Bs (BI rfl IV (vl rfl) rfl) ?_
    refine Cx.op rfl rfl Bs (fun _=>EB rfl (vl rfl)) ?_
    refine Cx.op rfl rfl Bs (fun _=>Ab rfl IX (vl rfl)) ?_
    refine Cx.rd 3 rfl rfl rfl Bs (BI rfl IW (vl rfl) rfl) ?_
    refine Cx.op rfl rfl Bs (fun _=>Cz rfl DF (vl rfl)) ?_
    refine Cx.op rfl rfl Bs (fun _=>Bb rfl Tryz.underlying232 FT (vl rfl) (vl rfl) AA AA) ?_
    refine Cx.rd 1 rfl rfl rfl Bs (BI rfl ER (vl rfl) (KV hx)) ?_
    refine Cx.ef 0 rfl rfl Bs (HJ rfl rfl Bs rfl (cA) ⟨⟨_,rfl,Pr.le_refl _⟩,trivial⟩) ?_
    refine Cx.nil ⟨rfl,?_⟩
    refine BH.open_ 0 85 rfl rfl (fun v1=> ?_)
    refine BH.done (Ax.cons (Ax.cons (Ax.cons (Ax.cons (Ax.cons (Ax.cons (Ax.map _))))))) ?_
    refine Fin.shape 85 (fun b=>e7 b) rfl (fun fb7 fe7=> ?_)
    subst fe7
    refine Fin.JA 0 (AF true fb7 PT [_]) rfl rfl ?_
    refine Fin.go ?_
    refine Tr.weak [(5,_),(10,_),(74,_),(75,_),(85,_)] ⟨⟨_,rfl,Pr.le_refl _⟩,⟨_,rfl,Pr.le_refl _⟩,⟨_,rfl,Pr.le_refl _⟩,⟨_,rfl,Pr.le_refl _⟩,⟨_,rfl,Pr.le_refl _⟩,trivial⟩ ?_
    refine Tr.block ?_
    refine Tr.wO 11 [(5,_),(10,_)] ⟨⟨_,rfl,Pr.le_refl _⟩,⟨_,rfl,Pr.le_refl _⟩,trivial⟩ (fun pre=>AF true b1 PT ((EU n l).map fun x=>u32 x)::AF true b2 PT ((pre.foldl (G6 i) (Gg (EU n l) i)).map fun x=>u32 x)::AF true b3 234 [int ((n:Nat):Int),is (JH n b1),is (JH n b2)]::AF true b4 176 [ptr b3 0]::(Ds.map Wn++Ak M1 w1::rs)) (PU (s:=x)) PV (vl rfl) ((Df (j:=5) rfl).trans (List.Perm.cons _ ((Df (j:=0) rfl).trans (List.Perm.cons _ (List.Perm.refl _))))) rfl Bs ?_ ?_ ?_
    ·
     rintro lk Dk rk Mr wr pre y0 hpre
     refine Tr.Aj ?_
     refine Ch.op rfl rfl Bs (Cl rfl (vl rfl)) ?_
     refine Ch.nil ?_
     exact Fin.st ⟨⟨_,rfl,Pr.le_refl _⟩,⟨_,rfl,Pr.le_refl _⟩,⟨_,rfl,Pr.le_refl _⟩,trivial⟩
    ·
     rintro lk Dk rk Mr wr pre y0 hpre
     have hlt:y0<n:=by
      have h_:=FY.1 (Y9 hpre)
      rw [(Fl AA).2 i x hx,Bool.and_eq_true,decide_eq_true_eq] at h_
      exact h_.1
     have hal:(pre.foldl (G6 i) (Gg (EU n l) i)).length=n:=by rw [Nc,H8,DN]
     obtain ⟨y,hy⟩:=at_ (l:=pre.foldl (G6 i) (Gg (EU n l) i)) (k:=y0) AA
     refine Tr.block ?_
     refine Tr.GQ mixed [some (0,8,false,0),none,none,some (0,7,false,0),none,none,some (0,6,false,0),none,none,none,none,some (0,6,true,0)] BS ?_
     refine Cx.rd 8 rfl rfl rfl Bs (BI rfl IV (vl rfl) rfl) ?_
     refine Cx.op rfl rfl Bs (fun _=>EB rfl (vl rfl)) ?_
     refine Cx.op rfl rfl Bs (fun _=>Ab rfl aZ (vl rfl)) ?_
     refine Cx.rd 7 rfl rfl rfl Bs (BI rfl IW (vl rfl) rfl) ?_
     refine Cx.op rfl rfl Bs (fun _=>BK rfl (vl rfl)) ?_
     refine Cx.op rfl rfl Bs (fun _=>Bb rfl Tryz.underlying232 FT (vl rfl) (vl rfl) AA AA) ?_
     refine Cx.rd 6 rfl rfl rfl Bs (BI rfl ER (vl rfl) (KV hy)) ?_
     refine Cx.op rfl rfl Bs (fun _=>Cz rfl DF (vl rfl)) ?_
     refine Cx.op rfl rfl Bs (fun _=>Ju (b:=1#32) rfl (vl rfl) (vl rfl) (Int.natCast_nonneg _)) ?_
     refine Cx.op rfl rfl Bs (fun _=>Mh rfl (vl rfl) (vl rfl)) ?_
     refine Cx.op rfl rfl Bs (fun _=>Bb rfl Tryz.underlying232 FT (vl rfl) (vl rfl) AA AA) ?_
     refine Cx.Dr 6 rfl rfl (A_ rfl rfl (vl rfl) (VL.le (vl rfl) (Aa _)) FT rfl EM ((RL hy).trans (congrArg (fun B:List (BitVec 32)=>B.map fun x=>u32 x) (fA hy)))) ?_
     refine Cx.nil ⟨rfl,?_⟩
     refine BH.done (Ax.cons (Ax.cons (Ax.cons (Ax.cons (Ax.cons (Ax.cons (Ax.cons (Ax.cons (Ax.cons (Ax.map _)))))))))) ?_
     refine Fin.block ?_
     exact Fin.rnd () (List.Perm.refl _)
    ·
     rintro lk Dk rk Mr wr
     refine Fin.drop 1 ?_
     refine Fin.drop 1 ?_
     refine Fin.drop 2 ?_
     refine Fin.Jw (List.Perm.cons _ ((List.perm_middle (l₁:=[_,_,_,_])).symm)) ?_
     refine Fin.Jw (List.perm_middle (l₁:=[_,_,_,_])).symm ?_
     refine Fin.block ?_
     refine Fin.block ?_
     refine Fin.go ?_
     refine Tr.Aj ?_
     first
      |(refine Ch.op rfl rfl Bs (E5 rfl (vl rfl) (vl rfl) ?hin) ?_;case hin=>unfold OK;omega)
      |refine Ch.op rfl rfl Bs (ok_int rfl (vl rfl) (vl rfl) rfl) ?_
     refine Ch.op rfl rfl Bs (BK rfl (vl rfl)) ?_
     refine Ch.nil ?_
     exact Fin.ABQ (_::_) (i+1) rfl (⟨JM,by omega⟩) ⟨⟨_,rfl,AG i⟩,⟨_,rfl,Pr.le_refl _⟩,⟨_,rfl,Pr.le_refl _⟩,trivial⟩ ((by rw [S5 hx];exact fun _ _ h=>h))
   ·
    have q5:=Co.C_ h5
    have OR:i=(n):=by have:=AJ h5;omega
    have wW:=OR.symm
    subst wW
    refine Tr.exit ?_
    refine Fin.Ag ?_
    refine Fin.Ag ?_
    refine Fin.BD ?_
    refine Fin.go ?_
    refine Tr.seq ?_
    refine Tr.nW 0 (((EU n l).map fun x=>[u32 x]).flatten++([]:List Value).map is) rfl (S7 _) ?_
    refine Tr.qG (cap:=n) (sz:=1) ((EU n l).map fun x=>[u32 x]) 0 2 1 rfl rfl AB rfl (Pr.le_of_eq (by rw [List.length_map,DN n l])) (Bl fun _=>rfl) (by rw [List.length_map,DN n l];exact Nat.le_refl _) Fj (by simp [H8,DN]) rfl ?_
    refine Tr.nW 1 (((Gg (EU n l) n).map fun x=>[u32 x]).flatten++([]:List Value).map is) rfl (S7 _) ?_
    refine Tr.qG (cap:=n) (sz:=1) ((Gg (EU n l) n).map fun x=>[u32 x]) 1 2 2 rfl rfl AB rfl (Pr.le_of_eq (by rw [List.length_map,(H8 _ _).trans (DN n l)])) (Bl fun _=>rfl) (by rw [List.length_map,(H8 _ _).trans (DN n l)];exact Nat.le_refl _) Fj (by simp [H8,DN]) rfl ?_
    refine Tr.Aj ?_
    refine Ch.op rfl rfl Bs (C7 3 rfl (BI rfl IV (vl rfl) rfl)) ?_
    refine Ch.op rfl rfl Bs (Cl rfl (vl rfl)) ?_
    refine Ch.nil ?_
    refine Fin.go ?_
    refine Tr.ret ?_
    refine Fin.freeze 2 4 rfl rfl ?_
    refine Fin.drop 0 ?_
    refine Fin.drop 0 ?_
    refine Fin.drop 0 ?_
    refine Fin.Jw List.perm_middle.symm ?_
    refine Fin.bu ?_
    refine Fin.Es rfl rfl ?_ (fun _ _ _ _=>rfl)
    · exact wV ⟨Pr.le_refl _,At _ _,At _ _,trivial⟩
def ZA (n:Int) (l:List BO):Pr:=if BM n l=0 then ref [int n,bits (EU n.toNat l),bits (Gg (EU n.toNat l) n.toNat)] else is (.pointer none)
instance ABT (n:Int) (l:List BO):One (ZA n l):=by
 unfold ZA;split
 · exact aJ _
 · exact aI _
theorem JV {n:Int} {l:List BO} {e:Int} (h:BM n l=e) (he:e≠0):Pr.le (is (.pointer none)) (ZA n l):=by
 unfold ZA;rw [if_neg KB];exact Pr.le_refl _
theorem Uz {n:Int} {l:List BO} (h:BM n l=0):ZA n l=ref [int n,bits (EU n.toNat l),bits (Gg (EU n.toNat l) n.toNat)]:=by
 unfold ZA;rw [if_pos h]
theorem KW {n:Int} {l:List BO} (h:n<0∨24<n):BM n l=2:=by unfold BM;rw [if_pos h]
theorem Po {n:Int} {l:List BO} {k:Nat} {r:BO} (h:0≤n∧n≤24) (hr:l[k]? =some r) (hb:FJ n r=true):BM n l=44:=by
 unfold BM;rw [if_neg AA,if_pos (List.any_eq_true.2 ⟨r,List.mem_of_getElem? hr,hb⟩)]
theorem cC {n:Int} {l:List BO} (h:∀j y,j<l.length→l[j]? =some y→FJ n y=false):∀r∈l,FJ n r=false:=fun r hr=>by
 obtain ⟨j,hj⟩:=List.mem_iff_getElem?.1 hr
 exact h j r Xq hj
theorem ZB {n:Int} {l:List BO} (h:∀r∈l,FJ n r=false):¬l.any (FJ n)=true:=by
 rw [Bool.not_eq_true,List.any_eq_false];exact fun r hr=>by rw [h r hr];decide
theorem U0 {n:Int} {l:List BO} {k:Nat} {a b:BO} (h:0≤n∧n≤24) (hb:∀r∈l,FJ n r=false) (hk:0<k) (ha:l[k-1]? =some a) (hx:l[k]? =some b) (hl:Ej a b=false):BM n l=6:=by
 unfold BM;rw [if_neg AA,if_neg (ZB hb),if_pos]
 cases hs:Dv l with
 |false=>rfl
 |true=>
  have:=Lf.1 hs (k-1) a b ha (by rw [Nat.sub_add_cancel hk];exact hx)
  rw [hl] at this;cases this
theorem RN {n:Nat} {l:List BO} {i:Nat} (h:n≤24) (hb:∀r∈l,FJ n r=false) (hs:Dv l=true) (hi:i<n) (hw:Cu l n i i=true):BM n l=45:=by
 unfold BM;rw [if_neg AA,if_neg (ZB hb),if_neg (by rw [hs];decide),if_pos (show ABJ (n:Int).toNat l=true from List.any_eq_true.2 ⟨i,List.mem_range.2 AA,hw⟩)]
theorem U1 {n:Nat} {l:List BO} (h:n≤24) (hb:∀r∈l,FJ n r=false) (hs:Dv l=true) (hw:∀i,i<n→Cu l n i i=false):BM n l=0:=by
 unfold BM;rw [if_neg AA,if_neg (ZB hb),if_neg (by rw [hs];decide),if_neg]
 intro hc
 obtain ⟨i,hi,h2⟩:=List.any_eq_true.1 hc
 have:=hw i (by simpa using hi)
 rw [show ((n:Int)).toNat=n from rfl] at h2
 rw [this] at h2;cases h2
theorem RO {l:List BO} (h:∀(j:Nat) a b,j+1<l.length→l[j]? =some a→l[j+1]? =some b→Ej a b=true):Dv l=true:=Lf.2 fun j a b ha hb=>h j a b (by rcases Nat.lt_or_ge (j+1) l.length with h2|h2;exact h2;rw [List.getElem?_eq_none h2] at hb;cases hb) ha hb
theorem Jx {l:List BO} {k:Nat} {x:BO} (hx:l[k]? =some x) (hp:∀y,0<k→l[k-1]? =some y→Ej y x=true) (h:∀(j:Nat) a b,j+1<k→l[j]? =some a→l[j+1]? =some b→Ej a b=true):∀(j:Nat) a b,j+1<k+1→l[j]? =some a→l[j+1]? =some b→Ej a b=true:=by
 intro j a b hj ha hb
 by_cases hjk:j+1=k
 · exact Tg
 · exact h j a b AA ha hb
theorem cE {n:Int} {l:List BO}  :Be prog 136 [int n,reqs l] (D7 [ZA n l,int (BM n l)]) (D6) (fun _=>D6):=by
 refine Be.of func136 rfl rfl Ao fun M0 w0 S rs M1 w1=> ?_
 refine Tr.Cf 1 rfl fun FC=> ?_
 refine ac ?_
 refine ag ?_ ?_<;>intro h1 q1
 refine a2 ?_
 refine Tr.ret (Fin.AE (Fin.Fe rfl rfl ?_ rfl ?_))
 · exact JV (KW AA) AB
 · refine int_eq ?_;exact (KW AA).symm
 refine an ?_ ?_<;>intro h2 q2
 refine ac ?_
 refine Tr.ret (Fin.AE (Fin.Fe rfl rfl ?_ rfl ?_))
 · exact JV (KW AA) AB
 · refine int_eq ?_;exact (KW AA).symm
 have Mv:0≤n∧n≤24:=by omega
 obtain ⟨m,hm⟩:∃m:Nat,n=(m:Int):=⟨n.toNat,by omega⟩
 refine a2 ?_
 refine Tr.block (Tr.BE _ (kk [19,18,1,0] rfl) (fun k:Nat=>[(20,int ((k:Nat):Int))]) (fun k:Nat=>k≤(l).length∧(∀j y,j<k→l[j]? =some y→FJ n y=false)) (fun k:Nat=>(l).length-k) 0 (⟨Nat.zero_le _,fun j y hj=>absurd hj AA⟩) kz ?_)
 rintro k ⟨BV,AZ⟩
 refine ac ?_
 refine Tr.seq ?_
 refine Tr.cn rfl ?_ ?_<;>intro h3 q3
 have Ai:k<(l).length:=AH h3
 obtain ⟨x,Ah⟩:=at_ Ai
 refine ac ?_
 refine Tr.seq (Tr.block (Tr.seq (Tr.An (tp rfl (AD rfl underlying33 Cg vq vq AA (AX Ah)) (tp rfl (AL rfl FB Cg vq rfl rfl) ?_)))))
 refine Tl rfl rfl rfl rfl Rs QN (fun b1=> ?_)
 refine sf 0 7 ⟨rfl,rfl,rfl⟩ rfl rfl rfl rfl ?_
 refine ao ?_
 refine ag ?_ ?_<;>intro h4 q4
 refine ac ?_
 refine wk [50,20,19,18,1,0] rfl ?_
 refine ac ?_
 refine Tr.ret (Fin.AU (Fin.AE (Fin.AE (Fin.AU (Fin.AE (Fin.Fe rfl rfl ?_ rfl ?_))))))
 · exact Pp
 · exact Pn
 refine ag ?_ ?_<;>intro h5 q5
 refine ac ?_
 refine wk [50,20,19,18,1,0] rfl ?_
 refine ac ?_
 refine Tr.ret (Fin.AU (Fin.AE (Fin.AE (Fin.AU (Fin.AE (Fin.Fe rfl rfl ?_ rfl ?_))))))
 · exact Pp
 · exact Pn
 refine ag ?_ ?_<;>intro h6 q6
 refine ac ?_
 refine wk [50,20,19,18,1,0] rfl ?_
 refine ac ?_
 refine Tr.ret (Fin.AU (Fin.AE (Fin.AE (Fin.AU (Fin.AE (Fin.Fe rfl rfl ?_ rfl ?_))))))
 · exact Pp
 · exact Pn
 refine ag ?_ ?_<;>intro h7 q7
 refine ac ?_
 refine wk [50,20,19,18,1,0] rfl ?_
 refine ac ?_
 refine Tr.ret (Fin.AU (Fin.AE (Fin.AE (Fin.AU (Fin.AE (Fin.Fe rfl rfl ?_ rfl ?_))))))
 · exact Pp
 · exact Pn
 refine ac ?_
 refine wk [50,20,19,18,1,0] rfl ?_
 refine Tr.cn rfl ?_ ?_<;>intro h8 q8
 refine ac ?_
 refine Tr.ret (Fin.AU (Fin.AE (Fin.AE (Fin.AU (Fin.AE (Fin.Fe rfl rfl ?_ rfl ?_))))))
 · exact Pp
 · exact Pn
 refine a2 ?_
 exact Fin.AP (k+1) ⟨⟨Ai,ED (p:=FJ n) Ah aC AZ⟩,by omega⟩ ⟨⟨_,rfl,AG k⟩,kz⟩
 have BL:k=(l).length:=by have:=AJ h3;omega
 subst BL
 refine ac ?_
 refine Tr.seq (Tr.seq ?_)
 have hall:=cC AZ
 clear AZ
 refine ac ?_
 refine Tr.block (Tr.BE _ (kk [53,1,0] rfl) (fun k:Nat=>[(54,int ((k:Nat):Int))]) (fun k:Nat=>k≤(l).length∧(∀(j:Nat) a b,j+1<k→l[j]? =some a→l[j+1]? =some b→Ej a b=true)) (fun k:Nat=>(l).length-k) 0 (⟨Nat.zero_le _,fun j a b hj=>absurd hj AA⟩) kz ?_)
 rintro k ⟨BV,AZ⟩
 refine ac ?_
 refine Tr.seq ?_
 refine Tr.cn rfl ?_ ?_<;>intro h9 q9
 have Ai:k<(l).length:=AH h9
 obtain ⟨x,Ah⟩:=at_ Ai
 refine a2 ?_
 refine ag ?_ ?_<;>intro h10 PC
 obtain ⟨y,hy⟩:=at_ (l:=l) (k:=k-1) AA
 refine ac ?_
 refine cy h10 rfl (AD rfl underlying33 Cg vq vq AA (QA AA hy)) ?_
 refine ac ?_
 refine cy h10 rfl (AD rfl underlying33 Cg vq vq AA (AX Ah)) (cy h10 rfl (AL rfl FB Cg vq rfl rfl) ?_)
 refine cy h10 rfl (CK (Y_ (a:=y) (b:=x)) rfl rfl rfl) ?_
 refine ac ?_
 refine wk [71,54,53,1,0] rfl ?_
 refine Tr.cn rfl ?_ ?_<;>intro h11 Rt
 refine ac ?_
 refine Tr.ret (Fin.AU (Fin.AE (Fin.AE (Fin.AU (Fin.AE (Fin.Fe rfl rfl ?_ rfl ?_))))))
 · exact JV (U0 Mv hall AA hy Ah (by have h_:=Uy (a:=y) (b:=x);simp_all)) AB
 · refine int_eq ?_;exact (U0 Mv hall AA hy Ah (by have h_:=Uy (a:=y) (b:=x);simp_all)).symm
 refine a2 ?_
 exact Fin.AP (k+1) ⟨⟨Ai,Jx Ah (by intro y2 hk2 hy2;rw [hy] at hy2;cases hy2;have h_:=Uy (a:=y) (b:=x);simp_all) AZ⟩,by omega⟩ ⟨⟨_,rfl,AG k⟩,kz⟩
 refine ac ?_
 refine wk [71,54,53,1,0] rfl ?_
 refine a2 ?_
 exact Fin.AP (k+1) ⟨⟨Ai,Jx Ah (by intro y2 hk2 hy2;omega) AZ⟩,by omega⟩ ⟨⟨_,rfl,AG k⟩,kz⟩
 have BL:k=(l).length:=by have:=AJ h9;omega
 subst BL
 refine ac ?_
 refine Tr.seq ?_
 have ru:=RO AZ
 subst hm
 refine ao ?_
 refine TO.IK 0 rfl rfl AB (Aq rfl rfl AB rfl (fB (n:=m) AA hall) ⟨kq,kz⟩) ?_
 refine ao ?_
 refine Tr.seq (Tr.seq ?_)
 have V3:=DN m l
 refine ac ?_
 refine wk [81,80,79,9] rfl (Tr.block (Tr.BE _ (kk [80,79,9] rfl) (fun i:Nat=>[(81,int ((i:Nat):Int))]) (fun i:Nat=>i≤(EU m l).length∧(∀j,j<i→Cu l m j j=false)) (fun i:Nat=>(EU m l).length-i) 0 (⟨Nat.zero_le _,fun j hj=>absurd hj AA⟩) kz ?_))
 rintro i ⟨WR,En⟩
 refine ac ?_
 refine Tr.seq ?_
 refine Tr.cn rfl ?_ ?_<;>intro h12 VQ
 have JM:i<(EU m l).length:=AH h12
 obtain ⟨x,Kh⟩:=at_ JM
 refine a2 ?_
 refine co rfl (AD rfl underlying232 FT vq vq AA (RM Kh)) ?_
 refine a2 ?_
 refine co rfl (CK (b_) rfl rfl rfl) ?_
 refine an ?_ ?_<;>intro Nv eE
 refine ac ?_
 refine wk [5,4] rfl (Tr.ret (Fin.AU (Fin.AE (Fin.AE (Fin.AU (Fin.AE (Fin.Fe rfl rfl ?_ rfl ?_)))))))
 · exact JV (RN AA hall ru (i:=i) AA Zw) AB
 · refine int_eq ?_;exact (RN AA hall ru (i:=i) AA Zw).symm
 refine a2 ?_
 exact Fin.AP (i+1) ⟨⟨JM,(fun j hj=>by rcases Nat.lt_or_ge j i with h_|h_;exact En j h_;(obtain rfl:j=i:=by omega);have h_:=(Fl (l:=l) (show m≤32 by omega)).2 j x Kh j;simp_all;done)⟩,by omega⟩ ⟨⟨_,rfl,AG i⟩,kz⟩
 have OR:i=(EU m l).length:=by have:=AJ h12;omega
 rw [DN] at OR
 subst OR
 refine a2 ?_
 refine Tr.ret (Fin.Fe rfl rfl ?_ rfl ?_)
 · rw [Uz (U1 AA hall ru En)];exact Lr
 · refine int_eq ?_;exact (U1 AA hall ru En).symm
end Go.Proofs.YtmocaapoeefgkaaGreatDoor
namespace Cp
open Go Go.RowKit Go.Great
section
variable {P:Program} {L:Lg P} {n:Fm} {fz:Nat} {E:Env} {M0:Av} {w0:World} {S:Nat→Prop} {o:Oper}
def mE (T:TypeId) (u v:Value):As:=match v with| .pointer (some a)=>AF true a.block T (u.cells.toList.map is)|_=>Bq
theorem cF {j d s:Nat} {R:SR} {p1 q:Pr} {p:Value→Pr} {R':Value→Value→As} (hd:o.dst=some d) (hs:d≠s) (hq:∀v,Pr.le (p v) q) (hg:o.guard=none) (h1:E.lookup s=some p1) (hls:s∈looks o) (h:∀v,De P M0 w0 S n j R ⟨d,R' v⟩ o ((s,Af v p1)::E) (p v)):De P M0 w0 S n j R ⟨.two d s,Wo R'⟩ o E q:=by
 refine ⟨hg,fun M w a rs hsz he hI hj=> ?_⟩
 refine EA.conv (hq _) (fun v=> ?_) ((h (a.tmps.getD s undef)).2 M w a rs hsz (It he s (he s p1 hls h1)) hI hj)
 rw [PR,hd,BT (Ne.symm hs)];rfl
theorem S9 {t:TypeId} {s y:Tmp} {j m:Nat} {T:TypeId} {ps qs:List Pr} {p:Pr} (hg:o.guard=none) (hd:o.dst=none) (ho:o.op= .store t (.tmp s) (.tmp y)) (hsy:s≠y) (hx:E.lookup s=some (Cp.ex fun b=>ptr b 0)) (hy:E.lookup y=some p) (hp:Pr.le p (DC qs))
  (hz:A9 P t=some m) (hm:qs.length=m) (hl:ps.length=m):De P M0 w0 S n j ⟨s,Ec T ps⟩ ⟨.two s y,Wo fun u v=>mE T u v⟩ o E any:=by
 refine ⟨hg,fun M w a rs hsz he hI hj=> ?_⟩
 have hyl:y∈looks o:=NY (op:= .store t (.tmp s) (.tmp y)) (by simp [Op.operands]) ho
 have hpy:=hp _ _ _ (he y p hyl hy)
 have hle:Pr.le (Af (a.tmps.getD y undef) (DC qs)) (DC ((a.tmps.getD y undef).cells.toList.map is)):=fun M w v h=>by
  obtain ⟨rfl,h2⟩:=h
  obtain ⟨g1,g2⟩:=h2
  exact ⟨Kr _ _ _,g2⟩
 have h:=(Cd (P:=P) (M0:=M0) (w0:=w0) (S:=S) (n:=n) (j:=j) (T:=T) (ps:=ps) (qs:=(a.tmps.getD y undef).cells.toList.map is) (E:=(y,Af (a.tmps.getD y undef) (DC qs))::E) hg hd ho Zv ⟨_,List.lookup_cons_self,hle⟩ hz (by have:=hpy.1.length;rw [List.length_map];omega) hl).2 M w a rs hsz (It he y hpy) hI hj
 refine EA.conv (Pr.le_refl _) (fun v=> ?_) h
 rw [PR,hd];rfl
end
section
variable {P:Program} {L:Lg P} {n:Fm} {fz:Nat} {E:Env} {M0:Av} {w0:World} {S:Nat→Prop} {rs:List As} {Q:Exit→Act→World→Prop}
theorem Wp {M:Av} {w:World}:∀{zs cs:List Value},HL M w (zs.map is) cs→cs=zs
 |[],[],_=>rfl
 |[],_::_,h=>h.elim
 |_::_,[],h=>h.elim
 |z::zs,c::cs,h=>by
  obtain ⟨h1,h2⟩:=h
  rw [Wp h2,show c=z from h1]
theorem Fin.Wq {e:Exit} {T:TypeId} {u:Value} {b:Nat} {ps:List Pr} (i j:Nat) (hi:rs[i]? =some (Jv (agg ps) u)) (hj:rs[j]? =some (mE T u (.pointer (some ⟨b,0,none⟩)))) (k:Fin n E (Hp M0 w0 S (rs.set j (AF true b T ps))) Q e):Fin n E (Hp M0 w0 S rs) Q e:=by
 rintro a w ⟨M,h1,h2,h3,h4⟩
 have h4:A7 M0 w0 S rs M w:=h4
 refine k a w ⟨M,h1,h2,h3,A7.C1 h4 hj rfl rfl ?_⟩
 obtain ⟨cs,rfl,_,hcs⟩:=(h4.hold _ (List.mem_of_getElem? hi)).1
 obtain ⟨g0,cs',g1,g2,g3⟩:=(h4.hold _ (List.mem_of_getElem? hj)).1
 have e1:cs'=cs:=by
  have:=Wp g2
  rw [this];show cs.toArray.toList=cs;simp
 subst e1
 exact ⟨g0,cs',g1,hcs,g3⟩
end
section
variable {P:Program}
theorem Be.ry {f:FuncId} {args:List Pr} {res:Pr} {r:As} (h:Be P f args res r (fun _=>r)) (hb:r.blk=none) (W:World) (vs:List Value) (hr:r.h nV W) (hv:HL nV W args vs):
  Calls P f vs.toArray W fun e w'=>∃v,e= .returned v∧res.h nV w' v∧Below W.heap.size W w':=by
 refine (h.2 nV W Fa [] nV W vs ((A7.begin (uP W)).JE (r:=r) hb hr) hv).mono ?_
 rintro e w' ⟨v,M',rfl,h2,h3,h4⟩
 exact ⟨v,rfl,res.st _ _ _ _ _ (Ext.less h4.m) h2,h4.below⟩
end
section
variable {P:Program} {n:Fm} {E:Env} {M0:Av} {w0:World} {S:Nat→Prop} {rs:List As} {Q:Exit→Act→World→Prop} {p0 p1:Pr} {R:Value→As}
end
section
variable {P:Program} {L:Lg P} {n:Fm} {E:Env} {M0:Av} {w0:World} {S:Nat→Prop} {rs:List As} {Q:Exit→Act→World→Prop} {c:Code}
theorem Tr.ABU {e:TypeId} {sz:Nat} {rows:List (List Pr)} {p:Pr} (s:Nat) (hs:E.lookup s=some p) (hp:Pr.le p (full sz rows)) (k:∀v,Tr L n ((s,Af v (slice sz rows))::E) (Hp M0 w0 S (Au e sz v::rs)) c Q):Tr L n E (Hp M0 w0 S rs) c Q:=by
 intro a w hst
 obtain ⟨M,k1,k2,k3,k4⟩:=hst
 have k4:A7 M0 w0 S rs M w:=k4
 obtain ⟨h1,A,h2⟩:=hp _ _ _ (k3 s p hs)
 refine k (a.tmps.getD s undef) a w ⟨M,k1,k2,fun t q hq=> ?_,A7.JE k4 ?_ ?_⟩
 ·
  simp only [List.lookup] at hq
  split at hq
  ·
   rename_i e1
   have:t=s:=by simpa using e1
   subst this
   simp only [Option.some.injEq] at hq
   subst hq
   exact ⟨rfl,h1⟩
  · exact k3 t q hq
 ·
  rw [h2]
  show DW _=none
  cases A with
  |none=>rfl
  |some x=>simp [DW]
 ·
  intro b m d hv hlt
  rw [h2] at hv
  cases hv
  exact absurd hlt (Nat.lt_irrefl _)
variable {ε:Type}
theorem cH {f:ε→As}:∀{X:List ε} {k:Nat} {x:ε},X[k]? =some x→(HA (fun x=>[f x]) X)[k]? =some (f x)
 |[],_,_,h=>by simp at h
 |a::X,0,x,h=>by simp at h;subst h;rfl
 |a::X,k+1,x,h=>by
  show (HA (fun x=>[f x]) X)[k]? =_
  exact cH Dw
theorem Fin.fold {x:Exit} {res:ε→List As} (Ci:List As) {es:List ε} (y:ε) (OO:rs=res y++(Ci++HA res es)) (k:Fin n E (Hp M0 w0 S (Ci++HA res (es++[y]))) Q x):Fin n E (Hp M0 w0 S rs) Q x:=
 Fin.Jw (by
  subst OO
  rw [V8,←List.append_assoc Ci]
  exact List.perm_append_comm) k
theorem Tr.rz {f:ε→Value} {g:ε→Pr} {X:List ε} {p:Pr} (j s:Nat) (hj:rs[j]? =some (lU f g X)) (hs:E.lookup s=some p) (hp:Pr.le p (slice 1 (X.map fun x=>[is (f x)]))) (k:Tr L n ((s,slice 1 (X.map fun x=>[g x]))::E) (Hp M0 w0 S rs) c Q):Tr L n E (Hp M0 w0 S rs) c Q:=by
 intro a w ha
 obtain ⟨M,k1,k2,k3,k4⟩:=ha
 have k4:A7 M0 w0 S rs M w:=k4
 refine k a w ⟨M,k1,k2,fun t q hq=> ?_,k4⟩
 simp only [List.lookup] at hq
 split at hq
 ·
  rename_i e1
  have:t=s:=by simpa using e1
  subst this
  simp only [Option.some.injEq] at hq
  subst hq
  obtain ⟨ad,cap,h1,h2,h3,h4,h5⟩:=hp _ _ _ (k3 t p hs)
  have hall:=(k4.hold _ (List.mem_of_getElem? hj)).1
  refine ⟨ad,cap,by rw [h1];simp,by simpa using h2,h3,h4,fun i row hr=> ?_⟩
  rw [List.getElem?_map] at hr
  cases hx:X[i]? with
  |none=>rw [hx] at hr;cases hr
  |some x=>
   rw [hx] at hr
   simp only [Option.map_some,Option.some.injEq] at hr
   subst hr
   obtain ⟨_,ad2,h6,h7⟩:=h5 i [is (f x)] Ts
   refine ⟨rfl,ad2,h6,fun q r hr=> ?_⟩
   cases q with
   |zero=>
    simp only [List.getElem?_cons_zero,Option.some.injEq] at hr
    subst hr
    obtain ⟨u,h8,h9,h10,h11⟩:=h7 0 _ rfl
    have hu:u=f x:=h11
    exact ⟨u,h8,h9,h10,by rw [hu];exact hall x (List.mem_of_getElem? hx)⟩
   |succ q=>simp at hr
 · exact k3 t q hq
abbrev G7 (e:TypeId) (x:Nat×List Bool):List As:=[AF true x.1 e (x.2.map fun b=>bool b)]
theorem mF {n:Nat}:(List.replicate n (Value.bool false)).map is=(List.replicate n false).map fun b=>bool b:=by rw [List.map_replicate,List.map_replicate]
theorem Tr.r6 {e:TypeId} {m:Nat} {X:List (Nat×List Bool)} {p:Pr} (Ci:List As) (s:Nat) (OO:rs=Ci++HA (G7 e) X) (hm:m≤maxLen) (hX:∀x∈X,x.2.length=m) (hs:E.lookup s=some p) (hp:Pr.le p (slice 1 (X.map fun x=>[is (JH m x.1)])))
  (k:Tr L n ((s,slice 1 (X.map fun x=>[slice 1 (x.2.map fun b=>[bool b])]))::E) (Hp M0 w0 S (lU (fun x:Nat×List Bool=>JH m x.1) (fun x=>slice 1 (x.2.map fun b=>[bool b])) X::Ci)) c Q):Tr L n E (Hp M0 w0 S rs) c Q:=by
 subst OO
 intro a w hst
 obtain ⟨M,k1,k2,k3,k4⟩:=hst
 have k4:A7 M0 w0 S (Ci++HA (G7 e) X) M w:=k4
 obtain ⟨M1,g1,g2,g3⟩:=A7.UT (w:=w) (Φ:=fun (x:Nat×List Bool) M w=>Row M w ⟨x.1,0,none⟩ 0 (x.2.map fun b=>bool b)) (fun x M M' he h=>Row.st he h) (fun x rs M h=>by
  obtain ⟨M',h1,h2,h3⟩:=A7.aT h
  exact ⟨M',h2,h1,h3⟩) X _ M k4
 refine Tr.rz (f:=fun x:Nat×List Bool=>JH m x.1) (g:=fun x=>slice 1 (x.2.map fun b=>[bool b])) (X:=X) 0 s rfl hs hp k a w ⟨M1,k1,k2,fun t q hq=>q.st _ _ _ _ _ g1 (k3 t q hq),A7.JE g2 rfl fun x hx=> ?_⟩
 have hl:=hX x hx
 refine ⟨some ⟨x.1,0,none⟩,m,by rw [List.length_map,hl],by rw [List.length_map,hl];exact Nat.le_refl _,hm,(fun h=>nomatch h),fun i row hr=> ?_⟩
 rw [List.getElem?_map] at hr
 cases hb:x.2[i]? with
 |none=>rw [hb] at hr;cases hr
 |some b=>
  rw [hb] at hr
  simp only [Option.map_some,Option.some.injEq] at hr
  subst hr
  refine ⟨rfl,_,rfl,fun q r hq=> ?_⟩
  cases q with
  |zero=>
   simp only [List.getElem?_cons_zero,Option.some.injEq] at hq
   subst hq
   have:=g3 x hx i (bool b) (by rw [List.getElem?_map,hb];rfl)
   simpa using this
  |succ q=>simp at hq
end
theorem tv {i m:Nat} (h:i≤m) (hm:m≤40):1≤2 ^ i∧2 ^ i≤2 ^ m∧2 ^ m≤1099511627776:=
 ⟨Nat.one_le_two_pow,Nat.pow_le_pow_right AA h,Nat.le_trans (Nat.pow_le_pow_right (n:=2) AA hm) AB⟩
section
variable {P:Program} {I:Cb} {o:Oper} {E:Env}
theorem cI {t u:TypeId} {x y:Operand} {i:Int} (ho:o.op= .binOp .shl t x y u) (hx:VL E x (int 1)) (hy:VL E y (int i)) (h0:0≤i) (h40:i≤40):Ad P I o E (int ((2 ^ i.toNat:Nat):Int)):=
 Ad.same fun M w a he _=>by
  have h1:a.eval x= .int .i64 1:=hx.ev he Ar
  have h2:a.eval y= .int .i64 i:=hy.ev he Ar
  have hn:¬i<0:=by omega
  have hmin:min i.toNat 64=i.toNat:=by omega
  have e:((2 ^ i.toNat:Nat):Int)=(2:Int) ^ i.toNat:=Int.natCast_pow 2 i.toNat
  obtain ⟨jR,hp2,hp3⟩:=tv (i:=i.toNat) (m:=i.toNat) (Nat.le_refl _) AA
  have hw:IntKind.i64.wrap (2 ^ i.toNat)=2 ^ i.toNat:=by rw [←e];exact Gc KA
  refine ⟨.int .i64 (IntKind.i64.wrap (1*2 ^ (min i.toNat IntKind.i64.bits))),?_,?_⟩
  ·
   simp only [execOp,ho,h1,h2]
   simp [eqGuard,binOp,Op.shift,hn]
   try rw [show min i.toNat IntKind.i64.bits=i.toNat from hmin]
  ·
   show Value.int _ _=Value.int _ _
   rw [show min i.toNat IntKind.i64.bits=i.toNat from hmin,Int.one_mul,hw,e]
theorem wX {t u:TypeId} {x y:Operand} {a b m:Nat} (ho:o.op= .binOp .or t x y u) (hx:VL E x (int (a:Int))) (hy:VL E y (int (b:Int))) (ha:a<2 ^ m) (hb:b<2 ^ m) (hm:m≤40):Ad P I o E (int ((a|||b:Nat):Int)):=
 Ad.same fun M w c he _=>by
  have h1:c.eval x= .int .i64 a:=hx.ev he Ar
  have h2:c.eval y= .int .i64 b:=hy.ev he Ar
  obtain ⟨_,_,hp3⟩:=tv (i:=m) (m:=m) (Nat.le_refl _) hm
  have hab:a|||b<2 ^ m:=Nat.or_lt_two_pow ha hb
  have ea:(BitVec.ofInt 64 (a:Int)).toNat=a:=by rw [BitVec.toNat_ofInt];omega
  have eb:(BitVec.ofInt 64 (b:Int)).toNat=b:=by rw [BitVec.toNat_ofInt];omega
  have er:(BitVec.ofInt 64 (a:Int)|||BitVec.ofInt 64 (b:Int)).toNat=a|||b:=by rw [BitVec.toNat_or,ea,eb]
  refine ⟨_,by simp [execOp,ho,h1,h2,eqGuard,binOp,Op.intBits];rfl,?_⟩
  show Value.int _ _=Value.int _ _
  congr 1
  show IntKind.i64.wrap (((BitVec.ofInt 64 (a:Int)|||BitVec.ofInt 64 (b:Int)).toNat:Nat):Int)=_
  rw [er]
  exact Gc KA
end
section
variable {P:Program} {fz:Nat} {E:Env} {M0:Av} {w0:World} {rs:List As} {g:Func}
theorem results4 {r r' r'' r3:ResultVar} {a:Act} {w:World} {v v' v'' v3:Value} (hr:g.results= #[r,r',r'',r3]) (h:(Gw r a).run P w= .ok v w) (h':(Gw r' a).run P w= .ok v' w) (h'':(Gw r'' a).run P w= .ok v'' w) (h3:(Gw r3 a).run P w= .ok v3 w):(results g a.tmps).run P w= .ok (.tuple #[v,v',v'',v3]) w:=by
 rw [Gx,hr];simp [Sem.run_bind,h,h',h'',h3]
theorem Fin.OA {r r' r'' r3:ResultVar} {p q q' iP q3:Pr} (hr:g.results= #[r,r',r'',r3]) (h:AO P E rs r q) (h':AO P E rs r' q') (h'':AO P E rs r'' iP) (h3:AO P E rs r3 q3) (hl:Pr.le (D7 [q,q',iP,q3]) p):Fin ⟨fz,[]⟩ E (Hp M0 w0 Fa rs) (bodyPost P g (T3 M0 w0 p)) .ret:=by
 rintro a w ⟨M,_,hd,he,hi⟩
 obtain ⟨v,hv,hp⟩:=h M w a he (fun q hq=>(hi.hold q hq).1)
 obtain ⟨v',iy,hp'⟩:=h' M w a he (fun q hq=>(hi.hold q hq).1)
 obtain ⟨v'',iz,i6⟩:=h'' M w a he (fun q hq=>(hi.hold q hq).1)
 obtain ⟨v3,hv3,hp3⟩:=h3 M w a he (fun q hq=>(hi.hold q hq).1)
 obtain ⟨h1,h2⟩:=Bo.Dy M0 w0 M w hi
 exact ⟨hd,_,results4 hr hv iy iz hv3,_,rfl,p.st _ _ _ _ _ (Ext.less h1) (hl _ _ _ ⟨[_,_,_,_],rfl,hp,hp',i6,hp3,trivial⟩),h2⟩
end
def ZC {β:Type} (b:Nat) (e:TypeId) (f:β→List Pr) (φ:β→Prop):As where
 blk:=some b
 new:=true
 h M w:=∃x:β,φ x∧(AF true b e (f x)).h M w
 st M w M' w' he hk h:=let ⟨x,h1,h2⟩:=h;⟨x,h1,(AF true b e (f x)).st M w M' w' he hk h2⟩
def U2 {β:Type} (T:TypeId) (f:β→List Pr) (φ:β→Prop) (v:Value):As:=match v with| .pointer (some a)=>ZC a.block T f φ|_=>Bq
section
variable {P:Program} {L:Lg P} {n:Fm} {E:Env} {M0:Av} {w0:World} {S:Nat→Prop} {rs:List As} {o:Oper} {β:Type} {f:β→List Pr} {φ:β→Prop}
theorem Fin.cJ {Q:Exit→Act→World→Prop} {x:Exit} {b:Nat} {e:TypeId} (j:Nat) (hj:rs[j]? =some (ZC b e f φ)) (k:∀z,φ z→Fin n E (Hp M0 w0 S (rs.set j (AF true b e (f z)))) Q x):Fin n E (Hp M0 w0 S rs) Q x:=by
 intro a w h
 obtain ⟨M,h1,h2,h3,h4⟩:=h
 have h4:A7 M0 w0 S rs M w:=h4
 obtain ⟨z,hp,h8⟩:=(h4.hold _ (List.mem_of_getElem? hj)).1
 exact k z hp a w ⟨M,h1,h2,h3,h4.C1 hj rfl rfl h8⟩
theorem EA.wk {a:Act} {M:Av} {w:World} {p:Pr} {j:Nat} {R1 R2:SR} {rs:List As} {r:Result Next} (hjl:j<rs.length) (hd:o.dst=none) (hb:(R2.at_ a).blk=(R1.at_ a).blk) (hn:(R2.at_ a).new=(R1.at_ a).new) (hh:∀M w,(R1.at_ a).h M w→(R2.at_ a).h M w) (h:EA P M0 w0 S o a M w p j R1 rs r):EA P M0 w0 S o a M w p j R2 rs r:=by
 have key:∀v M' w',A7 M0 w0 S (rs.set j (R1.at_ (a.put o.dst v))) M' w'→A7 M0 w0 S (rs.set j (R2.at_ (a.put o.dst v))) M' w':=by
  intro v M' w' hI
  rw [hd] at hI ⊢
  have hI:A7 M0 w0 S (rs.set j (R1.at_ a)) M' w':=hI
  have h1:(rs.set j (R1.at_ a))[j]? =some (R1.at_ a):=by rw [List.getElem?_set_self hjl]
  have:=hI.C1 (r':=R2.at_ a) h1 hb hn (hh _ _ (hI.hold _ (List.mem_of_getElem? h1)).1)
  rw [List.set_set] at this
  exact this
 cases r with
 |halt x w'=>exact h
 |ok x w'=>
  cases x
  case value v=>obtain ⟨M',g1,g2,g3⟩:=h;exact ⟨M',g1,g2,key _ _ _ g3⟩
  case skip=>obtain ⟨M',g1,g2,g3⟩:=h;exact ⟨M',g1,g2,key _ _ _ g3⟩
  case enter f args=>
   refine Calls.mono h ?_
   rintro e w'' ⟨v,M',g0,g1,g2,g3⟩
   exact ⟨v,M',g0,g1,g2,key _ _ _ g3⟩
  all_goals exact h
theorem KY {t:TypeId} {s y:Tmp} {j m:Nat} {T:TypeId} {ps:List Pr} (hg:o.guard=none) (hd:o.dst=none) (ho:o.op= .store t (.tmp s) (.tmp y)) (hsy:s≠y) (hx:E.lookup s=some (Cp.ex fun b=>ptr b 0)) (hy:E.lookup y=some (Cp.ex fun z:β=>fact (φ z) (agg (f z))))
  (hz:A9 P t=some m) (hm:∀z,(f z).length=m) (hl:ps.length=m):De P M0 w0 S n j ⟨s,Ec T ps⟩ ⟨s,U2 T f φ⟩ o E any:=by
 have hlk:y∈looks o:=NY (op:= .store t (.tmp s) (.tmp y)) (by simp [Op.operands]) ho
 refine De.LI y hg hy hlk fun z=>De.opf y hg (by simp [List.lookup];rfl) hlk fun hφ=> ?_
 have hx':List.lookup s ((y,agg (f z))::(y,fact (φ z) (agg (f z)))::E)=some (Cp.ex fun b=>ptr b 0):=by
  have:(s==y)=false:=by simpa using hsy
  simp only [List.lookup,this];exact hx
 have h:=Cd (P:=P) (M0:=M0) (w0:=w0) (S:=S) (n:=n) (j:=j) (T:=T) (ps:=ps) (qs:=f z) (E:=(y,agg (f z))::(y,fact (φ z) (agg (f z)))::E) hg hd ho hx' ⟨agg (f z),by simp [Cw,List.lookup],Ac _⟩ hz (hm z) hl
 refine ⟨hg,fun M w a rs hsz he hI hj=> ?_⟩
 have hjl:j<rs.length:=by rcases Nat.lt_or_ge j rs.length with h'|h';exact h';rw [List.getElem?_eq_none h'] at hj;cases hj
 have hv:∃b,a.tmps.getD s undef= .pointer (some ⟨b,0,none⟩):=by
  have hxv:VL ((y,agg (f z))::(y,fact (φ z) (agg (f z)))::E) (.tmp s) (Cp.ex fun b=>ptr b 0):=⟨_,hx',Pr.le_refl _⟩
  exact hxv.ev he (show (Operand.tmp s)∈o.op.operands.toList by simp [ho,Op.operands])
 obtain ⟨b,hv⟩:=hv
 have e1:SR.at_ a ⟨s,Ec T (f z)⟩=AF true b T (f z):=by show Ec T (f z) (a.tmps.getD s undef)=_;rw [hv];rfl
 have e2:SR.at_ a ⟨s,U2 T f φ⟩=ZC b T f φ:=by show U2 T f φ (a.tmps.getD s undef)=_;rw [hv];rfl
 refine EA.wk hjl hd ?_ ?_ ?_ (h.2 M w a rs hsz he hI hj)
 · rw [e1,e2];rfl
 · rw [e1,e2];rfl
 · rw [e1,e2];exact fun M w h=>⟨z,hφ,h⟩
end
theorem BC.mG {P:Program} {f:FuncId} {α:Type} {φ:α→Prop} {p:α→Pr} {res:Pr} (pre:List Pr) {post:List Pr} (q:α) (hq:φ q) (h:∀z,φ z→BC P f (pre++p z::post) res):BC P f (pre++(Cp.ex fun z=>fact (φ z) (p z))::post) res:=by
 refine ⟨(h q hq).1,fun M w vs hb hv=> ?_⟩
 have key:∀(pre:List Pr) (vs:List Value),HL M w (pre++(Cp.ex fun z=>fact (φ z) (p z))::post) vs→∃z,φ z∧HL M w (pre++p z::post) vs:=by
  intro pre
  induction pre with
  |nil=>
   intro vs hv
   match vs,hv with
   |u::us,⟨⟨z,hz,h1⟩,h2⟩=>exact ⟨z,hz,h1,h2⟩
  |cons a pre ih=>
   intro vs hv
   match vs,hv with
   |u::us,⟨h1,h2⟩=>
    obtain ⟨z,hz,h3⟩:=ih us h2
    exact ⟨z,hz,h1,h3⟩
 obtain ⟨z,hz,h2⟩:=key pre vs hv
 exact (h z hz).2 M w vs hb h2
section
variable {P:Program} {L:Lg P} {n:Fm} {fz:Nat} {E:Env} {I:Cb} {M0:Av} {w0:World} {S:Nat→Prop} {rs:List As} {Q:Exit→Act→World→Prop} {c:Code}
theorem Tr.mH {α β:Type} {p gf:Nat} {g:Operand} {lb:Array Value} {enc:α→Value} {xs:List α} {own:List α→List As} {assign body:Code} (q:Nat) (K:Env) (hK:CT E K) (R RX:List α→β→List As) (d0:β)
  (hIt:Mg P gf lb enc xs own) (eg:Entry P gf) (hg:VL E g (is (.func (.func gf) #[] lb))) (OO:rs.Perm (own []++R [] d0)) (hp:K.lookup p=none) (hpn:p<n.sz)
  (hassign:∀l D rec M1 w1 pre x d,(pre++[x])<+:xs→Tr (bl P (some l)) ⟨n.sz,[]⟩ ((p,is (enc x))::K) (Hp M0 w0 S (own (pre++[x])++Fz l D rec M1 w1 (R pre d))) assign (Exit.then (St ⟨n.sz,[]⟩ ((q,is (enc x))::K) (Hp M0 w0 S (own (pre++[x])++Fz l D rec M1 w1 (R pre d)))) (fun _ _ _=>False)))
  (hbody : ∀ l D rec M1 w1 pre x d, (pre ++ [x]) <+: xs → Tr (bl P (some l)) ⟨n.sz, []⟩ ((q, is (enc x)) :: K) (Hp M0 w0 S (own (pre ++ [x]) ++ Fz l D rec M1 w1 (R pre d))) body
   (Ir M0 w0 S (fun d:β=>own (pre++[x])++Fz l D rec M1 w1 (R (pre++[x]) d)) (fun c d=>own (pre++[x])++Fz l D rec M1 w1 (CD (c= .ret)::RX (pre++[x]) d))))
  (hdone:∀l D rec M1 w1 d,Fin ⟨n.sz,mark D::n.df⟩ E (Hp M0 w0 S (own xs++Fz l D rec M1 w1 (R xs d))) Q .normal)
  (hstop:∀l D rec M1 w1 pre d,pre<+:xs→Fin ⟨n.sz,mark D::n.df⟩ E (Hp M0 w0 S (own pre++Fz l D rec M1 w1 (RX pre d))) Q .ret):
  Tr (XR P) n E (Hp M0 w0 S rs) (.rangeFunc g #[p] assign body) Q:=by
 refine Tr.lS (fun x=>(q,is (enc x))::K) R (fun c pre d=>CD (c= .ret)::RX pre d) d0 hIt (fun args w=>D_ eg args w) hg OO ?_ ?_ hdone ?_
 ·
  intro l D rec M1 w1 pre x d hpre a hsz hE M w hI
  have hx:Ext M1 w1 M w:=(hI.hold (Ak M1 w1) AV).1
  refine hassign l D rec M1 w1 pre x d hpre _ w ⟨M,by simpa using hsz,rfl,fun s z hq=> ?_,hI⟩
  simp only [List.lookup] at hq
  by_cases hs:s=p
  ·
   subst hs
   simp only [beq_self_eq_true,Option.some.injEq] at hq
   subst hq
   show (a.tmps.setIfInBounds s (enc x)).getD s undef=enc x
   simp [Array.getD_eq_getD_getElem?,hsz,hpn]
  ·
   rw [show (s==p)=false by simpa using hs] at hq
   obtain ⟨z',EY,IC⟩:=hK.spec s z hq
   have h2:=z.st _ _ _ _ _ hx (IC _ _ _ (hE s z' EY))
   show z.h M w ((a.tmps.setIfInBounds p (enc x)).getD s undef)
   have e1:(a.tmps.setIfInBounds p (enc x)).getD s undef=a.tmps.getD s undef:=by
    simp only [Array.getD_eq_getD_getElem?]
    rw [Array.getElem?_setIfInBounds_ne (fun e=>hs e.symm)]
   rw [e1];exact h2
 ·
  intro l D rec M1 w1 pre x d hpre
  exact hbody l D rec M1 w1 pre x d hpre
 ·
  intro l D rec M1 w1 c pre d hpre a w ⟨M,h1,h2,h3,h⟩
  have h:A7 M0 w0 S (own pre++Fz l D rec M1 w1 (CD (c= .ret)::RX pre d)) M w:=h
  have hc:c= .ret:=(h.hold (CD (c= .ret)) AV).1
  subst hc
  have h5:A7 M0 w0 S (CD (Code.ret= .ret)::(own pre++Fz l D rec M1 w1 (RX pre d))) M w:=by
   refine A7.perm ?_ h
   have:=List.perm_middle (a:=CD (Code.ret= .ret)) (l₁:=own pre++[BG l rec,BG D (.deferred (some [])),Ak M1 w1]) (l₂:=RX pre d)
   simpa [Fz] using this
  exact Tr.ret (hstop l D rec M1 w1 pre d hpre) a w ⟨M,h1,h2,h3,A7.Ks h5⟩
theorem Tr.Yy {α β:Type} {p gf:Nat} {g:Operand} {lb:Array Value} {enc:α→Value} {xs:List α} {own:List α→List As} {assign body:Code} (q:Nat) (K:Env) (hK:CT E K) (R:List α→β→List As) (d0:β)
  (hIt:Mg P gf lb enc xs own) (eg:Entry P gf) (hg:VL E g (is (.func (.func gf) #[] lb))) (OO:rs.Perm (own []++R [] d0)) (hp:K.lookup p=none) (hpn:p<n.sz)
  (hassign:∀l D rec M1 w1 pre x d,(pre++[x])<+:xs→Tr (bl P (some l)) ⟨n.sz,[]⟩ ((p,is (enc x))::K) (Hp M0 w0 S (own (pre++[x])++Fz l D rec M1 w1 (R pre d))) assign (Exit.then (St ⟨n.sz,[]⟩ ((q,is (enc x))::K) (Hp M0 w0 S (own (pre++[x])++Fz l D rec M1 w1 (R pre d)))) (fun _ _ _=>False)))
  (hbody : ∀ l D rec M1 w1 pre x d, (pre ++ [x]) <+: xs → Tr (bl P (some l)) ⟨n.sz, []⟩ ((q, is (enc x)) :: K) (Hp M0 w0 S (own (pre ++ [x]) ++ Fz l D rec M1 w1 (R pre d))) body
   (Ir M0 w0 S (fun d:β=>own (pre++[x])++Fz l D rec M1 w1 (R (pre++[x]) d)) (fun c _=>own (pre++[x])++Fz l D rec M1 w1 [CD (c= .ret),CD False])))
  (hdone:∀l D rec M1 w1 d,Fin ⟨n.sz,mark D::n.df⟩ E (Hp M0 w0 S (own xs++Fz l D rec M1 w1 (R xs d))) Q .normal):
  Tr (XR P) n E (Hp M0 w0 S rs) (.rangeFunc g #[p] assign body) Q:=
 Tr.mH q K hK R (fun _ _=>[CD False]) d0 hIt eg hg OO hp hpn hassign hbody hdone fun l D rec M1 w1 pre d _ a w ⟨M,_,_,_,h⟩=>by
  have h:A7 M0 w0 S (own pre++Fz l D rec M1 w1 [CD False]) M w:=h
  exact ((h.hold (CD False) AV).1).elim
theorem Fin.wY {β:Type} {rr:β→List As} {os:List As} {tl:β→List As} {l D:Nat} {rec:Obj} {M1:Av} {w1:World} (d:β) (hp:rs.Perm (os++Fz l D rec M1 w1 (tl d))):Fin n E (Hp M0 w0 S rs) (Ir M0 w0 S rr (fun c d=>os++Fz l D rec M1 w1 (CD (c= .ret)::tl d))) .ret:=by
 rintro a w ⟨M,_,_,_,h⟩
 have h:A7 M0 w0 S rs M w:=h
 refine ⟨d,M,A7.perm ?_ (A7.JE (A7.perm hp h) (r:=CD (Code.ret= .ret)) rfl rfl)⟩
 have:=(List.perm_middle (a:=CD (Code.ret= .ret)) (l₁:=os++[BG l rec,BG D (.deferred (some [])),Ak M1 w1]) (l₂:=tl d)).symm
 simpa [Fz] using this
theorem Fin.prop {e:Exit} {p:Prop} (j:Nat) (hj:rs[j]? =some (CD p)) (k:p→Fin n E (Hp M0 w0 S rs) Q e):Fin n E (Hp M0 w0 S rs) Q e:=fun a w hs=>by
 obtain ⟨M,h1,h2,h3,h4⟩:=hs
 have h4:A7 M0 w0 S rs M w:=h4
 exact k (h4.hold _ (List.mem_of_getElem? hj)).1 a w ⟨M,h1,h2,h3,h4⟩
theorem Fin.mI {e:Exit} {p q:Prop} (j:Nat) (hj:rs[j]? =some (CD p)) (h:p→q) (k:Fin n E (Hp M0 w0 S (rs.set j (CD q))) Q e):Fin n E (Hp M0 w0 S rs) Q e:=fun a w hs=>by
 obtain ⟨M,h1,h2,h3,h4⟩:=hs
 have h4:A7 M0 w0 S rs M w:=h4
 exact k a w ⟨M,h1,h2,h3,h4.C1 hj rfl rfl (h (h4.hold _ (List.mem_of_getElem? hj)).1)⟩
theorem AO.tw (i:Nat) {c:Tmp} {t T:TypeId} {b:Nat} {new:Bool} {q p:Pr} (h:E.lookup c=some (ptr b 0)) (hi:rs[i]? =some (AF new b T [q])) (ht:EN P t=true) (hl:Pr.le q p):AO P E rs (.cell c t) p:=by
 intro M w a he hr
 obtain ⟨_,cs,h4,h5,_⟩:=hr _ (List.mem_of_getElem? hi)
 obtain ⟨v,hv,hh⟩:=h5.at_ 0 q rfl
 have hc:w.cell? ⟨b,0,none⟩=some v:=by simp [World.cell?,h4,hv]
 have h1:(loadVar t ⟨b,0,none⟩).run P w= .ok v w:=by simp [loadVar,EK ht,hc]
 refine ⟨v,?_,hl _ _ _ hh⟩
 have hc2:a.tmps.getD c undef= .pointer (some ⟨b,0,none⟩):=he _ _ h
 unfold Gw
 simp only [hc2,asAddr]
 simpa [Sem.run_bind] using h1
theorem Fin.LM {e:Exit} (T:TypeId) (sz:Nat) (k:Fin n E (Hp M0 w0 S (Bi T sz [] (.slice none 0 0)::rs)) Q e):Fin n E (Hp M0 w0 S rs) Q e:=fun a w hs=>by
 obtain ⟨M,h1,h2,h3,h4⟩:=hs
 have h4:A7 M0 w0 S rs M w:=h4
 exact k a w ⟨M,h1,h2,h3,A7.JE h4 (r:=Bi T sz [] (.slice none 0 0)) rfl (.inl ⟨rfl,rfl⟩)⟩
end
end Cp
namespace Go.Proofs.YtmocaapoeefgkaaGreatDoor
open Go Go.RowKit Cp Go.Proofs.Tryz
-- sets as bits: read, closed, what can be added (behind AFk.lean)
def Mi (l:List Int):BitVec 32:=l.foldl (fun b i=>XW b i.toNat) 0#32
theorem ZD {l:List Int} {k:Nat} {x:Int} (h:l[k]? =some x):Mi (l.take (k+1))=XW (Mi (l.take k)) x.toNat:=by unfold Mi;rw [List.take_add_one,h,List.foldl_append];rfl
theorem cL {n:Nat} (hn:n≤32):∀(l:List Int) (b:BitVec 32) (i:Nat),(∀x∈l,0≤x∧x<n)→((l.foldl (fun b i=>XW b i.toNat) b).getLsbD i=true↔b.getLsbD i=true∨(i:Int)∈l)
 |[],b,i,_=>by simp
 |x::l,b,i,h=>by
  have hx:=h x (List.mem_cons_self ..)
  rw [List.foldl_cons,cL hn l (XW b x.toNat) i (fun y hy=>h y (List.mem_cons_of_mem _ hy)),RD AA,Bool.or_eq_true,decide_eq_true_eq,List.mem_cons]
  constructor
  ·
   rintro ((h1|h1)|h1)
   · exact .inl h1
   · right;left;omega
   · exact .inr (.inr h1)
  ·
   rintro (h1|h1|h1)
   · exact .inl (.inl h1)
   · left;right;omega
   · exact .inr h1
theorem ZE {n:Nat} {l:List Int} (hn:n≤32) (h:∀x∈l,0≤x∧x<n):RH n (Mi l) l:=fun i=>by
 unfold Mi
 rw [cL hn l 0#32 i h]
 simp
def U3 (B:List (BitVec 32)) (s:BitVec 32):Bool:=(I9 s).all fun i=>B.getD i 0#32&&&~~~s==0#32
theorem U4 {n:Int} {l:List BO} {s:BitVec 32} {d:List Int} (hv:BM n l=0) (hs:RH n.toNat s d) (hd:∀x∈d,0≤x∧x<n):U3 (EU n.toNat l) s=Cs l d:=by
 obtain ⟨hn,hb,_,_⟩:=DL hv
 have hB:=Fl (n:=n.toNat) (l:=l) AA
 have hat:∀i,i<n.toNat→(EU n.toNat l)[i]? =some ((EU n.toNat l).getD i 0#32):=fun i hi=>by
  rw [List.getD_eq_getElem?_getD,List.getElem?_eq_getElem (by rw [DN];exact hi)];rfl
 rw [Bool.eq_iff_iff]
 unfold U3
 rw [List.all_eq_true]
 constructor
 ·
  intro h
  refine Dj.2 fun r hr hm=> ?_
  have hbr:=hb r hr
  unfold FJ at hbr;rw [decide_eq_false_iff_not] at hbr
  have e1:((r.thn.toNat:Nat):Int)=r.thn:=by omega
  have e2:((r.fst.toNat:Nat):Int)=r.fst:=by omega
  have h1:s.getLsbD r.thn.toNat=true:=(hs _).2 (by rw [e1];exact hm)
  have h2:=h _ (FY.2 h1)
  rw [beq_iff_eq,Wm] at h2
  have h3:=h2 r.fst.toNat (by
   rw [hB.2 _ _ (hat r.thn.toNat AA)]
   rw [Bool.and_eq_true,decide_eq_true_eq]
   refine ⟨by omega,KS ?_ _⟩
   unfold GK
   exact List.any_eq_true.2 ⟨r,hr,by simp;omega⟩)
  have:=(hs _).1 h3
  rw [e2] at this;exact this
 ·
  intro h i hi
  have h1:=FY.1 hi
  have h2:=(hs i).1 h1
  have h3:=hd _ h2
  rw [beq_iff_eq,Wm]
  intro a ha
  rw [hB.2 _ _ (hat i AA),Bool.and_eq_true] at ha
  exact (hs a).2 (GN h _ ha.2 h2)
theorem mJ {n:Int} {s:List Int} {k:Nat} (hk:k≤s.length) (h:∀j,j<k→setAt n s j=true): -1≤N5 s k:=by
 unfold N5
 split
 · omega
 ·
  have h1:=h (k-1) AA
  unfold setAt at h1
  simp only [Bool.and_eq_true,decide_eq_true_eq] at h1
  omega
theorem KZ {n:Nat} {s:List Int} (h:Dx (n:Int) s=true):∀x∈s,0≤x∧x<(n:Int):=fun x hx=>by
 obtain ⟨i,hi⟩:=List.mem_iff_getElem?.1 hx
 exact PG h hi
theorem U5 {n:Nat} {s:List Int} {b:BitVec 32} (hb:RH n b s) (h:Dx (n:Int) s=true) {i:Nat} (hi:b.getLsbD i=true):i<n:=by
 have:=KZ h _ ((hb i).1 hi);omega
abbrev rdB (n:Nat) (l:List Int):BitVec 32:=if Dx (n:Int) l=true then Mi l else 0#32
abbrev r7 (B:List (BitVec 32)) (s:BitVec 32) (pre:List Nat):Prop:=∀i∈pre,(B.getD i 0#32&&&~~~s==0#32)=true
theorem cM {n:Nat} {B:List (BitVec 32)} {p:Pr} {l:List Int} (hn:n≤24):BC prog 137 [ref [int ((n:Nat):Int),bits B,p],ints l] (D7 [u32 (rdB n l),bool (Dx ((n:Nat):Int) l)]):=by
 refine fo func137 rfl ⟨rfl,rfl⟩ fun M0 w0=>(Tr.Cf 1 rfl fun FC=> ?_)
 iterate 4 refine ac ?_
 refine Tr.block (Tr.BE _ (kk [11,10,0] rfl) (fun k:Nat=>[(12,int ((k:Nat):Int)),(7,int (N5 l k)),(6,u32 (Mi (l.take k)))]) (fun k:Nat=>k≤(l).length∧(∀j,j<k→setAt (n:Nat) l j=true)) (fun k:Nat=>(l).length-k) 0 (⟨Nat.zero_le _,fun j hj=>absurd hj AA⟩) ⟨kq,⟨_,rfl,int_eq rfl⟩,⟨_,rfl,P0⟩,trivial⟩ ?_)
 rintro k ⟨BV,AZ⟩
 refine ac ?_
 refine Tr.seq ?_
 refine Tr.cn rfl ?_ ?_<;>intro h1 q1
 have Ai:k<(l).length:=AH h1
 obtain ⟨i,Ah⟩:=at_ Ai
 have hsl:=Qt AZ Ah
 have hlg:=mJ AA AZ
 refine ac ?_
 refine Tr.seq (Tr.block (Tr.seq (Tr.Aj (co rfl (AD rfl underlying51 CH vq vq AA (AX Ah)) ?_))))
 refine ac ?_
 refine ag ?_ ?_<;>intro h2 q2
 refine ac ?_
 refine wk [26,12,11,10,9,6,0] rfl ?_
 refine ac ?_
 refine Tr.ret (Fin.AE (Fin.AU (Fin.AE (Fin.AE (Fin.AU (Fin.AE (Fin.Dc rfl (Bo.Dy _ _) rfl ?_ rfl ?_)))))))
 · exact Zi
 · exact Z5
 refine ac ?_
 refine wk [26,12,11,10,9,6,0] rfl ?_
 refine Tr.cn rfl ?_ ?_<;>intro h3 q3
 refine ac ?_
 refine Tr.ret (Fin.AE (Fin.AU (Fin.AE (Fin.AE (Fin.AU (Fin.AE (Fin.Dc rfl (Bo.Dy _ _) rfl ?_ rfl ?_)))))))
 · exact Zi
 · exact Z5
 refine a2 ?_
 refine co rfl (Ju (b:=1#32) rfl vq vq AA) ?_
 refine co rfl (Mh rfl vq vq) ?_
 refine a2 ?_
 refine wk [12,11,10,7,6,0] rfl ?_
 refine ac ?_
 exact Fin.AP (k+1) ⟨⟨Ai,Dz AZ (by rw [hsl];simp;omega)⟩,by omega⟩ ⟨⟨_,rfl,AG k⟩,⟨_,rfl,int_eq (by rw [Ym Ah])⟩,⟨_,rfl,Pr.le_of_eq (congrArg u32 (ZD Ah).symm)⟩,kz⟩
 have BL:k=(l).length:=by have:=AJ h1;omega
 subst BL
 have hsb:Dx ((n:Nat):Int) l=true:=B6.2 AZ
 refine a2 ?_
 refine Tr.ret (Fin.Dc rfl (Bo.Dy _ _) rfl ?_ rfl ?_)
 · rw [show rdB n l=Mi l from if_pos hsb,List.take_length];exact Lr
 · refine bool_eq ?_;exact hsb.symm
theorem wZ {B:List (BitVec 32)} {s y:BitVec 32} {x:Nat} (h:x∈I9 s) (hy:B[x]? =some y) (hn:(y&&&~~~s==0#32)=false):U3 B s=false:=by
 unfold U3
 rw [List.all_eq_false]
 exact ⟨x,h,by rw [List.getD_eq_getElem?_getD,hy];simpa using hn⟩
theorem r8 {B:List (BitVec 32)} {s:BitVec 32} (h:r7 B s (I9 s)):U3 B s=true:=by
 unfold U3
 exact List.all_eq_true.2 h
theorem S_ {n:Nat} {B:List (BitVec 32)} {p:Pr} [One p] {s:BitVec 32} (hB:B.length=n) (hs:∀i,s.getLsbD i=true→i<n):Be Tryz.prog 138 [ref [int ((n:Nat):Int),bits B,p],u32 s] (bool (U3 B s)) (D6) (fun _=>D6):=by
 refine Be.ofM Tryz.func138 rfl rfl Bs fun M0 w0 S rs M1 w1=> ?_
 refine Tr.seq ?_
 refine Tr.An ?_
 refine TO.op rfl rfl AB (BZ rfl (VL.le (vl rfl) (Aa _))) ?_
 refine TO.op rfl rfl AB (BZ rfl (VL.le (vl rfl) (Aa _))) ?_
 refine TO.alloc rfl rfl AB rfl z4 zo4 (fun b1=> ?_)
 refine TO.nil ?_
 refine Fin.go ?_
 refine Tr.seq ?_
 refine Tr.seq ?_
 refine Tr.An ?_
 refine TO.op rfl rfl AB (Cz rfl ER (vl rfl)) ?_
 refine TO.pad ?_
 refine TO.DZ 0 rfl rfl AB (HJ rfl rfl AB rfl (cA) ⟨⟨_,rfl,Pr.le_refl _⟩,trivial⟩) (fun v1=> ?_)
 refine TO.nil ?_
 refine Fin.shape 7 (fun b=>e7 b) rfl (fun fb2 fe2=> ?_)
 subst fe2
 refine Fin.JA 0 (AF true fb2 PT [_]) rfl rfl ?_
 refine Fin.go ?_
 refine Tr.block ?_
 refine Tr.bw (p:=r7 B s []) (fun i h=>F1) ?_
 refine Tr.mH 5 [(2,_),(3,_),(4,_)] ⟨⟨_,rfl,Pr.le_refl _⟩,⟨_,rfl,Pr.le_refl _⟩,⟨_,rfl,Pr.le_refl _⟩,trivial⟩ (fun pre (_:Unit)=>CD (r7 B s pre)::AF true b1 4 [bool false]::Ak M1 w1::rs) (fun pre (_:Unit)=>CD (U3 B s=false)::AF true b1 4 [bool false]::Ak M1 w1::rs) () (PU (s:=s)) PV (vl rfl) ((Df (j:=3) rfl).trans (List.Perm.cons _ ((Df (j:=1) rfl).trans (List.Perm.cons _ (List.Perm.refl _))))) rfl Bs ?_ ?_ ?_ ?_
 ·
  rintro lk Dk rk Mr wr pre x _ hpre
  refine Tr.Aj ?_
  refine Ch.op rfl rfl AB (Cl rfl (vl rfl)) ?_
  refine Ch.nil ?_
  exact Fin.st ⟨⟨_,rfl,Pr.le_refl _⟩,⟨_,rfl,Pr.le_refl _⟩,⟨_,rfl,Pr.le_refl _⟩,⟨_,rfl,Pr.le_refl _⟩,trivial⟩
 ·
  rintro lk Dk rk Mr wr pre x _ hpre
  have hsx:s.getLsbD x=true:=FY.1 (Y9 hpre)
  obtain ⟨y,hy⟩:=at_ (l:=B) (k:=x) (by have:=hs x hsx;omega)
  refine Tr.block ?_
  refine Tr.seq ?_
  refine Tr.iO mixed BS ?_
  refine Ch.op rfl rfl AB (Cz rfl IV (vl rfl)) ?_
  first
   |refine Ch.op rfl rfl AB (GP rfl (vl rfl)) ?_
   |refine Ch.op rfl rfl AB (Gt rfl (vl rfl)) ?_
  refine Ch.op rfl rfl AB (Ef rfl IX (vl rfl) rfl) ?_
  refine Ch.op rfl rfl AB (Cz rfl IW (vl rfl)) ?_
  refine Ch.op rfl rfl AB (BK rfl (vl rfl)) ?_
  refine Ch.op rfl rfl AB (AD rfl Tryz.underlying232 FT (vl rfl) (vl rfl) AA (RM hy)) ?_
  refine Ch.op rfl rfl AB (Cz rfl ER (vl rfl)) ?_
  refine Ch.op rfl rfl AB (Cz rfl ER (vl rfl)) ?_
  refine Ch.op rfl rfl AB (N9 rfl (vl rfl) (vl rfl)) ?_
  refine Ch.op rfl rfl AB (lz rfl (vl rfl) (vl rfl)) ?_
  refine Ch.nil ?_
  refine Fin.go ?_
  refine Tr.weak [(4,_),(18,_)] ⟨⟨_,rfl,Pr.le_refl _⟩,⟨_,rfl,Pr.le_refl _⟩,trivial⟩ ?_
  refine Tr.cond rfl (fun h1=> ?_) (fun h1=> ?_)
  ·
   have q1:=Co.C_ h1
   refine Tr.seq ?_
   refine Tr.An ?_
   refine TO.AK 6 rfl rfl rfl (vl rfl) (VL.le (vl rfl) (Aa _)) rfl VO rfl rfl ?_
   refine TO.nil ?_
   refine Fin.go ?_
   refine Tr.ret ?_
   refine Fin.AU ?_
   refine Fin.mI 5 rfl (q:=U3 B s=false) (fun _=>wZ (FY.2 hsx) hy CY) ?_
   exact Fin.wY () (List.Perm.refl _)
  ·
   have q1:=Co.C_ h1
   refine Tr.skip ?_
   refine Fin.block ?_
   refine Fin.mI 5 rfl (q:=r7 B s (pre++[x])) (fun h i hi=>by rcases List.mem_append.1 hi with hi|hi;exact h i hi;(rw [List.mem_singleton] at hi;subst hi;rw [List.getD_eq_getElem?_getD,hy];simp_all)) ?_
   exact Fin.rnd () (List.Perm.refl _)
 ·
  rintro lk Dk rk Mr wr _
  refine Fin.prop 5 rfl fun hok=> ?_
  refine Fin.drop 1 ?_
  refine Fin.drop 1 ?_
  refine Fin.drop 2 ?_
  refine Fin.drop 2 ?_
  refine Fin.block ?_
  refine Fin.go ?_
  refine Tr.seq ?_
  refine Tr.An ?_
  refine TO.AK 2 rfl rfl rfl (vl rfl) (VL.le (vl rfl) (Aa _)) rfl VO rfl rfl ?_
  refine TO.nil ?_
  refine Fin.go ?_
  refine Tr.ret ?_
  refine Fin.Jw (List.perm_middle (l₁:=[_])) ?_
  refine Fin.RI ?_
  refine Fin.RJ ?_
  refine Fin.Jw ((List.perm_middle (l₁:=[_])).symm) ?_
  refine Fin.GG [_] rfl (AO.tw 0 rfl rfl Vu (Pr.le_refl _)) ?_ (fun _ _ _ _=>rfl)
  · exact bool_eq (r8 hok).symm
 ·
  rintro lk Dk rk Mr wr pre _ hpre
  refine Fin.prop 5 rfl fun hno=> ?_
  refine Fin.drop 1 ?_
  refine Fin.drop 1 ?_
  refine Fin.drop 2 ?_
  refine Fin.drop 2 ?_
  refine Fin.AU ?_
  refine Fin.AE ?_
  refine Fin.Jw (List.perm_middle (l₁:=[_])) ?_
  refine Fin.RI ?_
  refine Fin.RJ ?_
  refine Fin.Jw ((List.perm_middle (l₁:=[_])).symm) ?_
  refine Fin.GG [_] rfl (AO.tw 0 rfl rfl Vu (Pr.le_refl _)) ?_ (fun _ _ _ _=>rfl)
  · exact bool_eq hno.symm
theorem r9 {s:BitVec 32}  :Gy (α:=Value) Tryz.prog 180 [u32 s] [D6] (fun _=>True) (fun v=>Af v (lens (((I9 s).map fun i:Nat=>(i:Int)).map (fun n=>[int n])).length)) (fun v=>[D6,Bi 3 1 (((I9 s).map fun i:Nat=>(i:Int)).map (fun n=>[int n])) v]):=by
 refine Gy.ofM Tryz.func180 rfl rfl Bs fun M0 w0 S rs M1 w1=> ?_
 refine Tr.seq ?_
 refine Tr.Aj ?_
 refine Ch.op rfl rfl AB (Cl rfl (vl rfl)) ?_
 refine Ch.nil ?_
 refine Fin.go ?_
 refine Tr.seq ?_
 refine Tr.An ?_
 refine TO.alloc rfl rfl AB rfl z51 yu (fun b1=> ?_)
 refine TO.nil ?_
 refine Fin.go ?_
 refine Tr.seq ?_
 refine Tr.seq ?_
 refine Tr.An ?_
 refine TO.op rfl rfl AB (BK rfl (vl rfl)) ?_
 refine TO.pad ?_
 refine TO.DZ 0 rfl rfl AB (HJ rfl rfl AB rfl (cA) ⟨⟨_,rfl,Pr.le_refl _⟩,trivial⟩) (fun v1=> ?_)
 refine TO.nil ?_
 refine Fin.shape 6 (fun b=>e7 b) rfl (fun fb2 fe2=> ?_)
 subst fe2
 refine Fin.JA 0 (AF true fb2 PT [_]) rfl rfl ?_
 refine Fin.go ?_
 refine Tr.block ?_
 refine Tr.LM 3 1 ?_
 refine Tr.HC 2 [Af (.slice none 0 0) (lens 0)] rfl ⟨JX rfl,trivial⟩ ?_
 refine Tr.Yy 4 [(3,_)] ⟨⟨_,rfl,Pr.le_refl _⟩,trivial⟩ (fun pre vr=>Bi 3 1 ((pre.map fun i:Nat=>(i:Int)).map (fun n=>[int n])) vr::AF true b1 51 [Af vr (lens ((pre.map fun i:Nat=>(i:Int)).map (fun n=>[int n])).length)]::Ak M1 w1::rs) (.slice none 0 0) (PU (s:=s)) PV (vl rfl) ((Df (j:=3) rfl).trans (List.Perm.cons _ ((Df (j:=1) rfl).trans (List.Perm.cons _ (List.Perm.refl _))))) rfl Bs ?_ ?_ ?_
 ·
  rintro lk Dk rk Mr wr pre x vr hpre
  refine Tr.Aj ?_
  refine Ch.op rfl rfl AB (Cl rfl (vl rfl)) ?_
  refine Ch.nil ?_
  exact Fin.st ⟨⟨_,rfl,Pr.le_refl _⟩,⟨_,rfl,Pr.le_refl _⟩,trivial⟩
 ·
  rintro lk Dk rk Mr wr pre x vr hpre
  have hpl:(pre++[x]).length≤32:=Nat.le_trans hpre.length_le (rV s)
  rw [List.length_append,List.length_cons,List.length_nil] at hpl
  refine Tr.block ?_
  refine Tr.An ?_
  refine TO.rd 6 rfl rfl rfl AB (BI rfl aW (vl rfl) rfl) ?_
  refine TO.op rfl rfl AB (BK rfl (vl rfl)) ?_
  refine TO.op rfl rfl AB (AM (xs:=[.tmp 9]) (rows:=[[_]]) rfl rfl Tryz.underlying51 CH z3 rfl AB ⟨⟨Am,(VL.le (vl rfl) (Aa _))⟩,trivial⟩ AB) ?_
  refine TO.DZ 5 rfl rfl AB (Fw rfl rfl AB rfl Tryz.underlying51 CH IQ z3 rfl AB AB (vl rfl) ⟨_,rfl,B0 _ _⟩ (Bl fun _=>rfl) (Nat.zero_lt_succ _) Mu Mw) (fun v2=> ?_)
  refine TO.AK 6 rfl rfl rfl (vl rfl) (VL.le (vl rfl) (Aa _)) rfl Ge rfl rfl ?_
  refine TO.nil ?_
  refine Fin.block ?_
  rw [show (pre.map fun i:Nat=>(i:Int)).map (fun n=>[int n])++[[int ((x:Nat):Int)]]=((pre++[x]).map fun i:Nat=>(i:Int)).map (fun n=>[int n]) by rw [List.map_append,List.map_append];rfl]
  refine Fin.HC 6 [Af v2 (lens (((pre++[x]).map fun i:Nat=>(i:Int)).map (fun n=>[int n])).length)] rfl ⟨C6 AV,trivial⟩ ?_
  exact Fin.rnd v2 (List.Perm.refl _)
 ·
  rintro lk Dk rk Mr wr vr
  refine Fin.drop 1 ?_
  refine Fin.drop 1 ?_
  refine Fin.drop 2 ?_
  refine Fin.block ?_
  refine Fin.go ?_
  refine Tr.seq ?_
  refine Tr.Aj ?_
  refine Ch.op rfl rfl Bs (C7 3 rfl (BI rfl aW (vl rfl) rfl)) ?_
  refine Ch.op rfl rfl Bs (Cl rfl (vl rfl)) ?_
  refine Ch.nil ?_
  refine Fin.go ?_
  refine Tr.ret ?_
  refine Fin.Jw (List.perm_middle (l₁:=[_])) ?_
  refine Fin.RI ?_
  refine Fin.RJ ?_
  refine Fin.drop 2 ?_
  refine Fin.tR (vr) rfl (AO.tmp rfl (Pr.le_refl _)) trivial ?_ (List.Perm.refl _)
  · exact Pr.le_refl _
def Mj (n:Int) (l:List BO) (s:List Int):Int:=if BM n l≠0 then BM n l else if Dx n s=true∧Cs l s=true then 0 else 46
theorem t_ {n:Int} {l:List BO} {s:List Int} (h:BM n l≠0):Mj n l s=BM n l:=by unfold Mj;rw [if_pos h]
theorem mK {n:Int} {l:List BO} {s:List Int} (h:BM n l=0) (hn:¬(Dx n s=true∧Cs l s=true)):Mj n l s=46:=by unfold Mj;rw [if_neg (not_not_intro h),if_neg hn]
theorem ABV {n:Int} {l:List BO} {s:List Int} (h:BM n l=0) (hs:Dx n s=true) (hc:Cs l s=true):Mj n l s=0:=by unfold Mj;rw [if_neg (not_not_intro h),if_pos ⟨hs,hc⟩]
theorem Iv {n:Nat} {s:List Int} (hn:n≤32) (h:Dx (n:Int) s=true):RH n (rdB n s) s:=by
 rw [show rdB n s=Mi s from if_pos h];exact ZE hn (KZ h)
end Go.Proofs.YtmocaapoeefgkaaGreatDoor
namespace Cp
open Go Go.RowKit Go.Great
section
variable {P:Program}
theorem OP.frz {f:FuncId} {args:List Pr} {p0 p1:Pr} {e:TypeId} {sz:Nat} {rows:List (List Pr)} (hl:∀r∈rows,r.length=sz) (h:OP P f args (fun x=>agg [p0,p1,is x]) (fun x=>[Bx e sz rows x])):BC P f args (agg [p0,p1,slice sz rows]):=by
 refine ⟨h.1,fun M w vs hb hv=> ?_⟩
 refine (h.2 M w Fa [] M w vs (A7.begin hb) hv).mono ?_
 rintro e' w' ⟨v,M',x,rfl,_,h1,h2,h3⟩
 obtain ⟨M2,j1,j2,j3⟩:=A7.vG (j:=0) h3 rfl hl
 obtain ⟨cs,hc,g1,g2⟩:=(agg [p0,p1,is x]).st _ _ _ _ _ j1 h1
 refine ⟨v,rfl,?_,j2.below⟩
 exact (agg [p0,p1,slice sz rows]).st _ _ _ _ _ (Ext.less j2.m) ⟨cs,hc,g1,HL.set (k:=2) g2 rfl fun u hu=>by rw [show u=x from hu];exact j3⟩
theorem Gy.dQ {f:FuncId} {args:List Pr} {k:Pr} {e:TypeId} {sz m:Nat} {rows:List (List Pr)} {R:As} (hl:∀r∈rows,r.length=sz) (h:Gy (α:=Value) P f args [R] (fun _=>True) (fun v=>D7 [Af v (lens m),k]) (fun v=>[R,Bi e sz rows v])):Be P f args (D7 [slice sz rows,k]) R (fun _=>R):=by
 refine ⟨h.1,fun M0 w0 S rs M w vs hI hv=>(h.2 M0 w0 S rs M w vs hI hv).mono ?_⟩
 rintro e' w' ⟨v,M',x,rfl,_,h1,h2,h3⟩
 have h3:A7 M0 w0 S (R::Bi e sz rows x::rs) M' w':=h3
 obtain ⟨M2,j1,j2,j3⟩:=A7.dQ (j:=1) h3 rfl hl
 obtain ⟨cs,hc,g2⟩:=(D7 [Af x (lens m),k]).st _ _ _ _ _ j1 h1
 exact ⟨v,M2,rfl,⟨cs,hc,HL.set (k:=0) g2 rfl fun u hu=>by rw [show u=x from hu.1];exact j3⟩,h2.trans j1,(A7.perm (List.Perm.swap _ _ _) j2).Ks⟩
variable {n:Fm} {E:Env} {M0:Av} {w0:World} {S:Nat→Prop} {o:Oper}
theorem mL {f:FuncId} {cx:Operand} {xs:Array Operand} {ts:Array TypeId} {ps caps:List Pr} {res:Pr} {j d:Nat} {R0 R1:As} (hg:o.guard=none) (hd:o.dst=some d) (hn:d<n) (ho:o.op= .call { callee:= .value cx,args:=xs,argTypes:=ts }) (hc:VL E cx (fn (.func f) caps)) (hf:Be P f (ps++caps) res R0 (fun _=>R1))
  (hv:HS E xs.toList ps):De P M0 w0 S n j (SR.c R0) (SR.c R1) o E res:=by
 refine ⟨hg,fun M w a rs hsz he hI hj=> ?_⟩
 have h1:=HS.F4 (o:=o) he (xs:=xs.toList) (fun x hx=>by simp [ho,Op.operands,Call.operands];exact .inr Gb) hv
 obtain ⟨cs,g2,g3⟩:=hc.ev he DV
 have hrun:(execOp a.eval o).run P w= .ok (.enter f ((xs.toList.map a.eval).toArray++cs.toArray)) w:=by
  simp [execOp,ho,resolve,Deferred.ofValue,g2,invoke,D_ hf.1,Hl xs]
 rw [hrun]
 have hj':rs[j]? =some R0:=hj
 have hjl:j<rs.length:=by rcases Nat.lt_or_ge j rs.length with h|h;exact h;rw [List.getElem?_eq_none h] at hj';cases hj'
 have h4:=hf.2 M0 w0 S (rs.eraseIdx j) M w _ (A7.perm (Df hj') hI) (h1.app g3)
 have e1:((xs.toList.map a.eval).toArray++cs.toArray)=((xs.toList.map a.eval)++cs).toArray:=by simp
 rw [e1]
 refine h4.mono ?_
 rintro e w' ⟨v,M',rfl,h2,h3,h4⟩
 exact ⟨v,M',rfl,h2,h3,A7.perm (JZ hjl) h4⟩
end
end Cp
namespace Go.Proofs.YtmocaapoeefgkaaGreatDoor
open Go Go.RowKit Cp Go.Proofs.Tryz
theorem and_zero {x s:BitVec 32}:(x&&&s=0#32)↔∀i,x.getLsbD i=true→s.getLsbD i=false:=by
 constructor
 ·
  intro h i hi
  have h2:=congrArg (fun y=>BitVec.getLsbD y i) h
  simp [hi] at h2
  exact h2
 ·
  intro h
  refine Ux fun i hi=> ?_
  rw [BitVec.getLsbD_and]
  cases hx:x.getLsbD i with
  |false=>rfl
  |true=>rw [h i hx];rfl
theorem r_ {n:Int} {l:List BO} {A:List (BitVec 32)} {s x:BitVec 32} {d:List Int} {i:Nat} (hv:BM n l=0) (hA:Dq n.toNat A (fun b a=>Cu l n.toNat a b)) (hs:RH n.toNat s d) (hd:∀x∈d,0≤x∧x<n) (hc:Cs l d=true) (hx:A[i]? =some x) (hi:i<n.toNat):
  OS l d false i=(s.getLsbD i&&(x&&&s==0#32)):=by
 obtain ⟨h0,h1,h2,h3⟩:=DL hv
 rw [Bool.eq_iff_iff]
 unfold OS
 have e1:(JN d (i:Int) !=false)=s.getLsbD i:=by
  cases hg:s.getLsbD i with
  |true=>have:=(hs i).1 hg;rw [Ew.2 this];rfl
  |false=>
   have:¬(i:Int)∈d:=fun e=>by have:=(hs i).2 e;rw [hg] at this;cases this
   have h4:JN d (i:Int)=false:=by cases h5:JN d (i:Int) with|false=>rfl|true=>exact absurd (Ew.1 h5) this
   rw [h4];rfl
 rw [e1,Bool.and_eq_true,Bool.and_eq_true,beq_iff_eq,and_zero]
 refine and_congr_right fun hin=> ?_
 constructor
 ·
  intro gJ a ha
  rw [hA.2 i x hx a,Bool.and_eq_true,decide_eq_true_eq] at ha
  cases hsa:s.getLsbD a with
  |false=>rfl
  |true=>
   have hai:(a:Int)≠(i:Int):=fun he=>by
    have h6:a=i:=by omega
    subst h6
    have h9:Cu l n.toNat a a=true:=ha.2
    rw [h3 a hi] at h9;cases h9
   have:=GN gJ _ ha.2 (KT.2 ⟨hai,(hs a).1 hsa⟩)
   exact absurd rfl (KT.1 this).1
 ·
  intro h
  rw [Dj]
  intro r hr hm
  obtain ⟨h4,h5⟩:=KT.1 hm
  have h6:=Dj.1 hc r hr h5
  refine KT.2 ⟨fun he=> ?_,h6⟩
  have hr1:=hd _ h5
  have h7:=(hs r.thn.toNat).2 (by rw [Int.toNat_of_nonneg hr1.1];exact h5)
  have h8:=h r.thn.toNat (by
   rw [hA.2 i x hx,Bool.and_eq_true,decide_eq_true_eq]
   refine ⟨by omega,KS ?_ _⟩
   unfold GK
   rw [List.any_eq_true]
   exact ⟨r,hr,by simp;omega⟩)
  rw [h7] at h8;cases h8
def Li (A:List (BitVec 32)) (s:BitVec 32) (pre:List Nat):BitVec 32:=pre.foldl (fun o i=>if (A.getD i 0#32&&&s==0#32)=true then XW o i else o) 0#32
theorem mM {A:List (BitVec 32)} {s y:BitVec 32} {pre:List Nat} {i:Nat} (hy:A[i]? =some y) (h:(y&&&s==0#32)=true):Li A s (pre++[i])=XW (Li A s pre) i:=by
 unfold Li
 rw [List.foldl_append]
 simp only [List.foldl_cons,List.foldl_nil]
 rw [List.getD_eq_getElem?_getD,hy]
 exact if_pos h
theorem sA {A:List (BitVec 32)} {s y:BitVec 32} {pre:List Nat} {i:Nat} (hy:A[i]? =some y) (h:(y&&&s==0#32)=false):Li A s (pre++[i])=Li A s pre:=by
 unfold Li
 rw [List.foldl_append]
 simp only [List.foldl_cons,List.foldl_nil]
 rw [List.getD_eq_getElem?_getD,hy]
 exact if_neg (by rw [show (some y).getD 0#32=y from rfl,h];decide)
theorem mN {A:List (BitVec 32)} {s:BitVec 32}:∀(pre:List Nat) (o:BitVec 32) (j:Nat),(∀i∈pre,i<32)→
  (pre.foldl (fun o i=>if (A.getD i 0#32&&&s==0#32)=true then XW o i else o) o).getLsbD j=(o.getLsbD j||(decide (j∈pre)&&(A.getD j 0#32&&&s==0#32)))
 |[],o,j,_=>by simp
 |a::pre,o,j,h=>by
  rw [List.foldl_cons,mN pre _ j fun i hi=>h i (List.mem_cons_of_mem _ hi)]
  have ha:=h a (List.mem_cons_self ..)
  by_cases hj:j=a
  ·
   subst hj
   cases hb:(A.getD j 0#32&&&s==0#32) with
   |true=>rw [if_pos rfl,RD ha];simp
   |false=>rw [if_neg AB];simp
  ·
   have e:decide (j∈a::pre)=decide (j∈pre):=by simp [hj]
   rw [e]
   split
   · rw [RD ha];simp [Ne.symm hj]
   · rfl
theorem we {n:Int} {l:List BO} {s:BitVec 32} {d:List Int} (hv:BM n l=0) (hs:RH n.toNat s d) (hd:∀x∈d,0≤x∧x<n) (hc:Cs l d=true):
  (I9 (Li (Gg (EU n.toNat l) n.toNat) s (I9 s))).map (fun i:Nat=>(i:Int))=GL n.toNat l d false:=by
 have hn:=(DL hv).1
 have hA:=(cB (n:=n.toNat) (l:=l) AA).aft
 unfold GL
 rw [wH (n:=n.toNat) (p:=OS l d false) (fun j=> ?_) AA]
 unfold Li
 rw [mN _ _ _ fun i hi=>Nat.lt_of_not_le fun h=>by rw [FY,BitVec.getLsbD_of_ge _ _ h] at hi;cases hi]
 have hm:decide (j∈I9 s)=s.getLsbD j:=by rw [Bool.eq_iff_iff,decide_eq_true_eq];exact FY
 rw [hm,show (0#32).getLsbD j=false by simp,Bool.false_or]
 by_cases hj:j<n.toNat
 ·
  obtain ⟨x,hx⟩:=at_ (l:=Gg (EU n.toNat l) n.toNat) (k:=j) (by rw [hA.1];exact hj)
  rw [r_ hv hA hs hd hc hx hj,List.getD_eq_getElem?_getD,hx,decide_eq_true hj,Bool.true_and];rfl
 ·
  rw [decide_eq_false hj,Bool.false_and]
  cases hg:s.getLsbD j with
  |false=>rfl
  |true=>have:=hd _ ((hs j).1 hg);omega
theorem U6 {n:Nat} {A:List (BitVec 32)} {p:Pr} [One p] {s:BitVec 32} (hA:A.length=n) (hs:∀i,s.getLsbD i=true→i<n):Be Tryz.prog 133 [ref [int ((n:Nat):Int),p,bits A],u32 s] (u32 (Li A s (I9 s))) (D6) (fun _=>D6):=by
 refine Be.ofM Tryz.func133 rfl rfl Bs fun M0 w0 S rs M1 w1=> ?_
 refine Tr.seq ?_
 refine Tr.Aj ?_
 refine Ch.op rfl rfl AB (BZ rfl (VL.le (vl rfl) (Aa _))) ?_
 refine Ch.op rfl rfl AB (BZ rfl (VL.le (vl rfl) (Aa _))) ?_
 refine Ch.op rfl rfl AB (Cl rfl (vl rfl)) ?_
 refine Ch.nil ?_
 refine Fin.go ?_
 refine Tr.seq ?_
 refine Tr.An ?_
 refine TO.alloc rfl rfl AB rfl u7 zM (fun b1=> ?_)
 refine TO.nil ?_
 refine Fin.go ?_
 refine Tr.seq ?_
 refine Tr.seq ?_
 refine Tr.An ?_
 refine TO.op rfl rfl AB (Cz rfl ER (vl rfl)) ?_
 refine TO.pad ?_
 refine TO.DZ 0 rfl rfl AB (HJ rfl rfl AB rfl (cA) ⟨⟨_,rfl,Pr.le_refl _⟩,trivial⟩) (fun v1=> ?_)
 refine TO.nil ?_
 refine Fin.shape 8 (fun b=>e7 b) rfl (fun fb2 fe2=> ?_)
 subst fe2
 refine Fin.JA 0 (AF true fb2 PT [_]) rfl rfl ?_
 refine Fin.go ?_
 refine Tr.block ?_
 refine Tr.HC 1 [u32 (Li A s [])] rfl ⟨P0,trivial⟩ ?_
 refine Tr.Yy 6 [(2,_),(3,_),(5,_)] ⟨⟨_,rfl,Pr.le_refl _⟩,⟨_,rfl,Pr.le_refl _⟩,⟨_,rfl,Pr.le_refl _⟩,trivial⟩ (fun pre (_:Unit)=>AF true b1 PT [u32 (Li A s pre)]::Ak M1 w1::rs) () (PU (s:=s)) PV (vl rfl) ((Df (j:=2) rfl).trans (List.Perm.cons _ ((Df (j:=0) rfl).trans (List.Perm.cons _ (List.Perm.refl _))))) rfl Bs ?_ ?_ ?_
 ·
  rintro lk Dk rk Mr wr pre x _ hpre
  refine Tr.Aj ?_
  refine Ch.op rfl rfl AB (Cl rfl (vl rfl)) ?_
  refine Ch.nil ?_
  exact Fin.st ⟨⟨_,rfl,Pr.le_refl _⟩,⟨_,rfl,Pr.le_refl _⟩,⟨_,rfl,Pr.le_refl _⟩,⟨_,rfl,Pr.le_refl _⟩,trivial⟩
 ·
  rintro lk Dk rk Mr wr pre x _ hpre
  have hsx:s.getLsbD x=true:=FY.1 (Y9 hpre)
  obtain ⟨y,hy⟩:=at_ (l:=A) (k:=x) (by have:=hs x hsx;omega)
  refine Tr.block ?_
  refine Tr.seq ?_
  refine Tr.iO mixed BS ?_
  refine Ch.op rfl rfl AB (Cz rfl IV (vl rfl)) ?_
  first
   |refine Ch.op rfl rfl AB (GP rfl (vl rfl)) ?_
   |refine Ch.op rfl rfl AB (Gt rfl (vl rfl)) ?_
  refine Ch.op rfl rfl AB (Ef rfl aZ (vl rfl) rfl) ?_
  refine Ch.op rfl rfl AB (Cz rfl IW (vl rfl)) ?_
  refine Ch.op rfl rfl AB (BK rfl (vl rfl)) ?_
  refine Ch.op rfl rfl AB (AD rfl Tryz.underlying232 FT (vl rfl) (vl rfl) AA (RM hy)) ?_
  refine Ch.op rfl rfl AB (Cz rfl ER (vl rfl)) ?_
  refine Ch.op rfl rfl AB (Cz rfl ER (vl rfl)) ?_
  refine Ch.op rfl rfl AB (RC rfl (vl rfl) (vl rfl)) ?_
  refine Ch.op rfl rfl AB (lu rfl (vl rfl) (vl rfl)) ?_
  refine Ch.nil ?_
  refine Fin.go ?_
  refine Tr.weak [(5,_),(6,_),(19,_)] ⟨⟨_,rfl,Pr.le_refl _⟩,⟨_,rfl,Pr.le_refl _⟩,⟨_,rfl,Pr.le_refl _⟩,trivial⟩ ?_
  refine Tr.cond rfl (fun h1=> ?_) (fun h1=> ?_)
  ·
   have q1:=Co.C_ h1
   refine Tr.GQ mixed [some (0,5,false,0),none,none,none,some (0,5,true,0)] BS ?_
   refine Cx.rd 5 rfl rfl rfl AB (BI rfl ER (vl rfl) rfl) ?_
   refine Cx.op rfl rfl AB (fun _=>BK rfl (vl rfl)) ?_
   refine Cx.op rfl rfl AB (fun _=>Ju (b:=1#32) rfl (vl rfl) (vl rfl) (Int.natCast_nonneg _)) ?_
   refine Cx.op rfl rfl AB (fun _=>Mh rfl (vl rfl) (vl rfl)) ?_
   refine Cx.Dr 5 rfl rfl (A_ rfl rfl (vl rfl) (VL.le (vl rfl) (Aa _)) FT rfl Bs rfl) ?_
   refine Cx.nil ⟨rfl,?_⟩
   refine BH.done (Ax.cons (Ax.cons (Ax.cons (Ax.cons (Ax.cons (Ax.cons (Ax.cons (Ax.map _)))))))) ?_
   refine Fin.block ?_
   refine Fin.HC 5 [u32 (Li A s (pre++[x]))] rfl ⟨Pr.le_of_eq (congrArg u32 (mM hy CY).symm),trivial⟩ ?_
   exact Fin.rnd () (List.Perm.refl _)
  ·
   have q1:=Co.C_ h1
   refine Tr.skip ?_
   refine Fin.block ?_
   refine Fin.HC 5 [u32 (Li A s (pre++[x]))] rfl ⟨Pr.le_of_eq (congrArg u32 (sA hy CY).symm),trivial⟩ ?_
   exact Fin.rnd () (List.Perm.refl _)
 ·
  rintro lk Dk rk Mr wr _
  refine Fin.drop 1 ?_
  refine Fin.drop 1 ?_
  refine Fin.drop 2 ?_
  refine Fin.block ?_
  refine Fin.go ?_
  refine Tr.seq ?_
  refine Tr.Aj ?_
  refine Ch.op rfl rfl Bs (C7 2 rfl (BI rfl ER (vl rfl) rfl)) ?_
  refine Ch.op rfl rfl Bs (Cl rfl (vl rfl)) ?_
  refine Ch.nil ?_
  refine Fin.go ?_
  refine Tr.ret ?_
  refine Fin.Jw (List.perm_middle (l₁:=[_])) ?_
  refine Fin.RI ?_
  refine Fin.RJ ?_
  refine Fin.Jw ((List.perm_middle (l₁:=[_])).symm) ?_
  refine Fin.drop 0 ?_
  refine Fin.Es rfl rfl ?_ (fun _ _ _ _=>rfl)
  · exact Pr.le_refl _
def Mk (n:Int) (l:List BO) (s:List Int):List Int:=if Mj n l s=0 then GL n.toNat l s false else []
theorem U7 {n:Int} {l:List BO} {s:List Int} {e:Int} (h:Mj n l s=e) (he:e≠0):Mk n l s=[]:=by unfold Mk;rw [if_neg KB]
theorem sB {N:Nat} {l:List BO} {s:List Int} {b:BitVec 32} (h:Mj (N:Int) l s=0) (hv:BM (N:Int) l=0) (hs:RH N b s) (hd:∀x∈s,0≤x∧x<(N:Int)) (hc:Cs l s=true):(I9 (Li (Gg (EU N l) N) b (I9 b))).map (fun i:Nat=>(i:Int))=Mk (N:Int) l s:=by
 unfold Mk
 rw [if_pos h]
 have h2:=we (n:=(N:Int)) hv (by rw [Int.toNat_natCast];exact hs) hd hc
 rw [Int.toNat_natCast] at h2 ⊢
 exact h2
def U8 (n:Int) (l:List BO) (s:List Int):Int:=if BM n l≠0 then BM n l else if Dx n s=true then 0 else 46
def U9 (n:Int) (l:List BO) (s:List Int):Bool:=decide (BM n l=0)&&Dx n s&&Cs l s
theorem ABW {n:Int} {l:List BO} {s:List Int} (h:BM n l≠0):U8 n l s=BM n l∧U9 n l s=false:=by unfold U8 U9;rw [if_pos h,decide_eq_false h];exact ⟨rfl,rfl⟩
theorem ABX {n:Int} {l:List BO} {s:List Int} (h:BM n l=0) (hs:Dx n s=false):U8 n l s=46∧U9 n l s=false:=by unfold U8 U9;rw [if_neg (not_not_intro h),if_neg (by rw [hs];decide),hs];simp
theorem uA {n:Int} {l:List BO} {s:List Int} (h:BM n l=0) (hs:Dx n s=true):U8 n l s=0∧U9 n l s=Cs l s:=by unfold U8 U9;rw [if_neg (not_not_intro h),if_pos hs,hs,decide_eq_true h];simp
theorem ZF {n:Int} {l:List BO} {s:List Int}  :Gy (α:=Value) prog 132 [int n,reqs l,ints s,fn (.func 133) []] [D6] (fun _=>True) (fun v=>D7 [Af v (lens ((Mk n l s).map (fun n=>[int n])).length),int (Mj n l s)]) (fun v=>[D6,Bi 3 1 ((Mk n l s).map (fun n=>[int n])) v]):=by
 refine Gy.of func132 rfl rfl Ao fun M0 w0 S rs M1 w1=> ?_
 refine ac ?_
 refine ap ?_
 refine TO.IK 0 rfl rfl AB (Aq rfl rfl AB rfl (cE (n:=n) (l:=l)) ⟨kq,kz⟩) ?_
 refine ap ?_
 refine an ?_ ?_<;>intro h1 q1
 have hv:BM n l≠0:=by simpa using h1
 refine ac ?_
 refine wk [9,8] rfl (Tr.ret (Fin.AE ?_))
 have hno:=U7 (t_ (s:=s) hv) hv
 refine Fin.LM 3 1 (Fin.NL ?_)
 refine Fin.JA 1 (Bi 3 1 ((Mk n l s).map (fun n=>[int n])) (.slice none 0 0)) rfl Ol ?_
 refine Fin.WA ((.slice none 0 0)) rfl (AO.tmp rfl Lr) (AO.tmp rfl Lr) trivial ?_ (List.Perm.refl _)
 · exact A0 ⟨JX Ol,int_eq (t_ (s:=s) hv).symm,trivial⟩
 have hv:BM n l=0:=by simpa using h1
 have Mv:=(DL hv).1
 obtain ⟨N,rfl⟩:∃N:Nat,n=(N:Int):=⟨n.toNat,by omega⟩
 refine Tr.re 10 rfl (Pr.le_of_eq (Uz hv)) ?_
 refine a2 ?_
 refine co rfl (CK (cM (n:=N) (B:=EU N l) (l:=s) AA) rfl rfl rfl) ?_
 refine ac ?_
 refine wk [13,12,10,3] rfl ?_
 refine ap ?_
 refine TO.cases 31 rfl (fun h2=> ?_) (fun h2=> ?_)
 have q2:=Co.C_ h2
 have h46:Mj (N:Int) l s=46:=mK hv (by rintro ⟨g1,g2⟩;simp_all)
 iterate 4 refine TO.UU rfl rfl rfl (VZ h2) rfl AB ?_
 refine ap ?_
 refine ac ?_
 refine wk [9,8] rfl (Tr.ret (Fin.AE ?_))
 have hno:=U7 h46 AB
 refine Fin.LM 3 1 (Fin.NL ?_)
 refine Fin.JA 1 (Bi 3 1 ((Mk ((N:Nat):Int) l s).map (fun n=>[int n])) (.slice none 0 0)) rfl Ol ?_
 refine Fin.WA ((.slice none 0 0)) rfl (AO.tmp rfl Lr) (AO.tmp rfl Lr) trivial ?_ (List.Perm.refl _)
 · exact Z9
 have q2:=Co.C_ h2
 have hsb:Dx ((N:Nat):Int) s=true:=by simpa using h2
 refine TO.FG rfl rfl rfl h2 rfl AB (BK rfl vq) (TO.FG rfl rfl rfl h2 rfl AB (BK rfl vq) ?_)
 refine TO.jX 0 rfl rfl rfl h2 rfl rfl AB (Aq rfl rfl AB rfl (S_ (n:=N) (DN N l) (fun i h=>U5 (Iv AA hsb) hsb h)) ⟨kq,kz⟩) ?_
 refine TO.FG rfl rfl rfl h2 rfl AB (Gs rfl vq) ?_
 refine ap ?_
 refine Tr.cn rfl ?_ ?_<;>intro h3 q3
 have h46:Mj (N:Int) l s=46:=mK hv (by rintro ⟨g1,g2⟩;rw [←U4 (n:=(N:Int)) hv (Iv AA g1) (KZ g1)] at g2;simp_all)
 refine ac ?_
 refine wk [9,8] rfl (Tr.ret (Fin.AE ?_))
 have hno:=U7 h46 AB
 refine Fin.LM 3 1 (Fin.NL ?_)
 refine Fin.JA 1 (Bi 3 1 ((Mk ((N:Nat):Int) l s).map (fun n=>[int n])) (.slice none 0 0)) rfl Ol ?_
 refine Fin.WA ((.slice none 0 0)) rfl (AO.tmp rfl Lr) (AO.tmp rfl Lr) trivial ?_ (List.Perm.refl _)
 · exact Z9
 have gJ:Cs l s=true:=by rw [←U4 (n:=(N:Int)) hv (Iv AA hsb) (KZ hsb)];simpa using h3
 have ha0:=ABV hv hsb gJ
 have ABY:(I9 (Li (Gg (EU N l) N) (rdB N s) (I9 (rdB N s)))).map (fun i:Nat=>(i:Int))=Mk (N:Int) l s:=sB ha0 hv (Iv AA hsb) (KZ hsb) gJ
 refine ac ?_
 refine ap ?_
 refine TO.IK 0 rfl rfl AB (mL rfl rfl AB rfl vq (show Be prog 133 ([_,_]++[]) _ _ _ from U6 (n:=N) (A:=Gg (EU N l) N) (s:=rdB N s) (cB (n:=N) (l:=l) AA).aft.1 (fun i h=>U5 (Iv AA hsb) hsb h)) ⟨kq,kz⟩) ?_
 refine TO.V_ _ rfl rfl AB rfl (r9) kz ((Df (j:=0) rfl).trans (List.Perm.cons _ (List.Perm.refl _))) (fun x1 _=> ?_)
 refine ap ?_
 refine wk [9,8] rfl (Tr.ret (Fin.JA 1 (Bi 3 1 ((Mk ((N:Nat):Int) l s).map (fun n=>[int n])) x1) rfl (by rw [ABY]) (Fin.WA (x1) rfl (AO.tmp rfl Lr) (AO.tmp rfl Lr) trivial ?_ (List.Perm.refl _))))
 · exact A0 ⟨C6 (by rw [ABY]),int_eq ha0.symm,trivial⟩
theorem SA {n:Int} {l:List BO} {s:List Int}  :Gy (α:=Value) prog 74 [int n,reqs l,ints s] [D6] (fun _=>True) (fun v=>D7 [Af v (lens ((Mk n l s).map (fun n=>[int n])).length),int (Mj n l s)]) (fun v=>[D6,Bi 3 1 ((Mk n l s).map (fun n=>[int n])) v]):=by
 refine Gy.of func74 rfl rfl Ao fun M0 w0 S rs M1 w1=> ?_
 refine ac ?_
 refine ap ?_
 refine TO.V_ _ rfl rfl AB rfl (ZF (n:=n) (l:=l) (s:=s)) ⟨kq,kz⟩ ((Df (j:=0) rfl).trans (List.Perm.cons _ (List.Perm.refl _))) (fun x1 _=> ?_)
 refine ap ?_
 refine Tr.ret (Fin.WA (x1) rfl (AO.tmp rfl Lr) (AO.tmp rfl Lr) trivial ?_ (List.Perm.refl _))
 · exact Lr
theorem SB {n:Int} {l:List BO} {s:List Int}:Be Tryz.prog 74 [int n,reqs l,ints s] (D7 [ints (Mk n l s),int (Mj n l s)]) D6 (fun _=>D6):=Gy.dQ (Bl fun _=>rfl) SA
theorem ZG {n:Int} {l:List BO} {s:List Int}  :Be prog 78 [int n,reqs l,ints s] (D7 [bool (U9 n l s),int (U8 n l s)]) (D6) (fun _=>D6):=by
 refine Be.of func78 rfl rfl Ao fun M0 w0 S rs M1 w1=> ?_
 refine ac ?_
 refine ap ?_
 refine TO.IK 0 rfl rfl AB (Aq rfl rfl AB rfl (cE (n:=n) (l:=l)) ⟨kq,kz⟩) ?_
 refine ap ?_
 refine an ?_ ?_<;>intro h1 q1
 have hv:=ABW (s:=s) (n:=n) (l:=l) (by simpa using h1)
 refine ac ?_
 refine wk [7,6] rfl (Tr.ret (Fin.AE (Fin.Fe rfl rfl ?_ rfl ?_)))
 · refine bool_eq ?_;exact hv.2.symm
 · refine int_eq ?_;exact hv.1.symm
 have hv:BM n l=0:=by simpa using h1
 have Mv:=(DL hv).1
 obtain ⟨N,rfl⟩:∃N:Nat,n=(N:Int):=⟨n.toNat,by omega⟩
 refine Tr.re 8 rfl (Pr.le_of_eq (Uz hv)) ?_
 refine a2 ?_
 refine co rfl (CK (cM (n:=N) (B:=EU N l) (l:=s) AA) rfl rfl rfl) ?_
 refine ac ?_
 refine wk [11,10,8] rfl ?_
 refine an ?_ ?_<;>intro h2 q2
 have Vg:=ABX (n:=(N:Int)) hv (by simpa using h2)
 refine ac ?_
 refine Tr.ret (Fin.AE (Fin.Fe rfl rfl ?_ rfl ?_))
 · refine bool_eq ?_;exact Vg.2.symm
 · refine int_eq ?_;exact Vg.1.symm
 have hsb:Dx ((N:Nat):Int) s=true:=by simpa using h2
 have hv3:=uA hv hsb
 refine ac ?_
 refine ap ?_
 refine TO.IK 0 rfl rfl AB (Aq rfl rfl AB rfl (S_ (n:=N) (DN N l) (fun i h=>U5 (Iv AA hsb) hsb h)) ⟨kq,kz⟩) ?_
 refine ap ?_
 refine Tr.ret (Fin.Fe rfl rfl ?_ rfl ?_)
 · refine bool_eq ?_;rw [hv3.2];exact U4 (n:=(N:Int)) hv (Iv AA hsb) (KZ hsb)
 · refine int_eq ?_;exact hv3.1.symm
abbrev Dt (l:List BW):Pr:=slice 8 (l.map DK)
def OJ (c:BP) (x:BW):Bool:=decide (x.AW<0)||decide (x.AW≥c.Il.length)
def RP (c:BP) (x:BW):Int:=c.Il.getD x.AW.toNat 0
def EV (c:BP) (l:List BW):Int:=if 24<l.length then 3 else if l.any (OJ c) then 40 else 0
def RQ (c:BP) (l:List BW):List Int:=if EV c l=0 then l.map (RP c) else []
open Classical in
noncomputable def Jy (e:Da) (c:BP) (l:List BW):Int:=if FH e=false then 31 else if c.check (e.Bp.length:Nat)≠0 then c.check (e.Bp.length:Nat) else EV c l
theorem cN {c:BP} {l:List BW} (h:24<l.length):EV c l=3:=by unfold EV;rw [if_pos h]
theorem VU {c:BP} {l:List BW} {k:Nat} {x:BW} (h:¬24<l.length) (hx:l[k]? =some x) (hb:OJ c x=true):EV c l=40:=by unfold EV;rw [if_neg h,if_pos (List.any_eq_true.2 ⟨x,List.mem_of_getElem? hx,hb⟩)]
theorem cO {c:BP} {l:List BW} (h:¬24<l.length) (hb:∀j y,j<l.length→l[j]? =some y→OJ c y=false):EV c l=0:=by
 unfold EV;rw [if_neg h,if_neg]
 rw [Bool.not_eq_true,List.any_eq_false]
 intro y hy
 obtain ⟨j,hj⟩:=List.mem_iff_getElem?.1 hy
 rw [hb j y Xq hj];decide
theorem VT {c:BP} {l:List BW} {e:Int} (h:EV c l=e) (he:e≠0):RQ c l=[]:=by unfold RQ;rw [if_neg KB]
theorem Wr {c:BP} {l:List BW} (h:EV c l=0):RQ c l=l.map (RP c):=by unfold RQ;rw [if_pos h]
theorem uB {c:BP} {x:BW} (h:0≤x.AW∧x.AW<c.Il.length):c.Il[x.AW.toNat]? =some (RP c x):=by
 unfold RP;rw [List.getD_eq_getElem?_getD,List.getElem?_eq_getElem AA];rfl
theorem mO {c:BP} {l:List BW} {k:Nat} {x:BW} (h:l[k]? =some x):(((l.take k).map (RP c)).map fun n=>[int n])++[[int (RP c x)]]=((l.take (k+1)).map (RP c)).map fun n=>[int n]:=by
 rw [List.take_add_one,h,List.map_append,List.map_append];rfl
theorem fC {l:List BO} (h0:l≠[]) (hl:l.length≤1000000):Be prog 154 [reqs l] (lens (l.map OI).length) (Bq) (fun v=>FV 61 2 (l.map OI) v):=by
 refine Be.of func154 rfl rfl Ao fun M0 w0 S rs M1 w1=> ?_
 have hpos:=MS (f:=OI) h0
 refine a2 ?_
 refine co rfl (FQ rfl underlying33 vq) ?_
 refine ac ?_
 refine Tr.ex 4 rfl (fun z1=>Tr.fact 4 rfl fun EY=> ?_)
 refine Tr.cn rfl ?_ ?_<;>intro h1 q1
 exfalso;have:=EY h1;simp_all
 refine ac ?_
 refine ap ?_
 refine TO.pad ?_
 refine TO.DZ 0 rfl rfl AB (Ia rfl rfl AB rfl underlying33 Cg R3 Rs rfl AB AB vq vq hpos Mz EM) (fun v1=> ?_)
 refine ap ?_
 refine Tr.ret (Fin.drop 1 ?_)
 refine Fin.Es rfl rfl ?_ Oh
 · exact IE
theorem fD   :BC prog 154 [slice 2 []] (full 2 []):=by
 refine fo func154 rfl ⟨rfl,rfl⟩ fun M0 w0=> ?_
 refine a2 ?_
 refine co rfl (FQ rfl underlying33 vq) ?_
 refine ac ?_
 refine Tr.ex 4 rfl (fun z1=>Tr.fact 4 rfl fun EY=> ?_)
 · repeat' first|exact DD 2|exact Lr|refine co rfl (MO rfl underlying33 Cg vq vq) ?_|refine ac ?_|(refine Tr.cn rfl ?_ ?_<;>intro h q)
theorem fE {l:List BO} (hl:l.length≤1000000):BC Tryz.prog 154 [reqs l] (reqs l):=by
 by_cases h0:l=[]
 · subst h0;exact BC.le fD (fun _ _ _ h=>h) (B0 _ _)
 · exact (Be.zg (rows:=l.map OI) (Bl fun _=>rfl) (fC h0 hl)).pure
theorem mP {l:List BW} {r:List BO} {d:List Int} (F6:∀x∈l,x.Cr.small) (hl:l.length≤1000000) (hr:r.length≤1000000) (hd:d.length≤1000000):OP prog 100 [agg [Dt l,reqs r,ints d]] (fun x=>agg [Dt l,reqs r,is x]) (fun x=>[Bx 3 1 (d.map fun n=>[int n]) x]):=by
 refine OP.of func100 rfl rfl Ao fun M0 w0 S rs M1 w1=>(Tr.HT 0 0 rfl rfl fun Io=>(Tr.seq (Tr.An (tp rfl (BZ rfl (Va rfl)) ?_))))
 refine Tl rfl rfl rfl rfl z35 Eu (fun b1=> ?_)
 refine ao ?_
 refine Tr.seq (Tr.pad (Tr.pad (Tr.pad (Tr.rx ?_))))
 refine ax ?_
 refine xo rfl (fun _=>Ck (fE hr) rfl rfl) ?_
 refine ax ?_
 refine Cx.ef 0 rfl rfl AB (HJ rfl rfl AB rfl (dj (l:=d) hd) kz) ?_
 refine Cx.ef 1 rfl rfl AB (cF (d:=12) (s:=11) (p:=fun v=>agg [is (.slice none 0 0),reqs r,Af v (lens d.length)]) (q:=agg [is (.slice none 0 0),reqs r,lens d.length]) rfl AB (fun _=>BR ⟨Lr,Lr,At _ _,trivial⟩) rfl rfl AB (fun v=>Y6 rfl rfl AB (fun _=>Al (rows:=[(1,[_]),(2,[_])]) rfl LJ Eu ⟨⟨rfl,VL.le (vl rfl) (Aa _)⟩,⟨⟨rfl,VL.le (vl rfl) (Aa _)⟩,trivial⟩⟩ rfl))) (Cx.ef 2 rfl rfl AB (CB rfl rfl AB rfl z35 Eu) (Cx.Dr 2 rfl rfl (S9 rfl rfl rfl AB rfl rfl (Ac _) CI rfl rfl) ?_))
 refine Cx.nil ⟨by kernel_rfl,?_⟩
 refine BH.ng 11 rfl (fun v11=> ?_)
 refine BH.ng 12 rfl (fun v12=> ?_)
 refine BH.ng 3 rfl (fun v3=> ?_)
 refine BH.rj 0 11 rfl rfl (BH.mB 1 12 11 rfl rfl rfl (BH.mB 2 3 12 rfl rfl rfl (BH.done al5 (Fin.shape 3 (fun b=> .pointer (some ⟨b,0,none⟩)) rfl (fun b9 e9=> ?_)))))
 subst e9
 refine Fin.Wq 1 2 rfl rfl (Fin.drop 1 (Fin.go (wk [3,2,1] rfl ?_)))
 refine ac ?_
 refine Tr.block (Tr.HC 1 [Af (.slice none 0 0) (Dt (l.take 0)),reqs r,Af v11 (lens d.length)] rfl ⟨Bn rfl,Lr,Lr,trivial⟩ (Tr.B5 86 8 (Tr.El _ (kk [15,14,3,2] rfl) (fun k u=>[(16,int ((k:Nat):Int))]) (fun k u=>Hp M0 w0 S (Au 86 8 u::Bx 3 1 (d.map fun n=>[int n]) v11::AF true b9 35 [Af u (Dt (l.take k)),reqs r,Af v11 (lens d.length)]::AF true b1 35 (([.slice none 0 0,.slice none 0 0,.slice none 0 0]:List Value).map is)::Ak M1 w1::rs)) (fun k:Nat=>k≤(l).length) (fun k:Nat=>(l).length-k) 0 (.slice none 0 0) (Nat.zero_le _) kz (fun _ _ h=>h) ?_)))
 rintro k u BV
 refine ac ?_
 refine Tr.seq ?_
 refine Tr.cn rfl ?_ ?_<;>intro h1 q1
 have Ai:k<(l).length:=AH h1
 obtain ⟨x,Ah⟩:=at_ Ai
 refine ac ?_
 refine Tr.seq (Tr.block (Tr.seq (Tr.An (tp rfl (AD rfl underlying32 C9 (vl rfl) (vl rfl) AA (AX Ah)) (tp rfl (AL rfl GY C9 (vl rfl) rfl rfl) ?_)))))
 refine Tl rfl rfl rfl rfl Nx JI (fun b10=> ?_)
 refine sf 0 5 ⟨rfl,rfl,rfl⟩ rfl rfl rfl rfl ?_
 refine ao ?_
 refine Tr.pad (Tr.rx ?_)
 refine ax ?_
 refine xo rfl (fun _=>Ck (qT (c:=x) (F6 x (List.mem_of_getElem? Ah))) rfl rfl) ?_
 refine xo rfl (fun _=>AM (xs:=[.tmp 23]) (rows:=[_]) rfl rfl underlying32 C9 Nx rfl AB ⟨⟨Am,(Va rfl)⟩,trivial⟩ AB) ?_
 refine Cx.ef 1 rfl rfl AB (B4 rfl rfl rfl rfl underlying32 C9 YI Nx (Kb rfl) (Kf rfl) (Az BJ (Ka rfl))) ?_
 refine xo rfl (fun _=>Ab rfl YB (vl rfl)) (Cx.Dr 3 rfl rfl (Ft rfl rfl rfl (vl rfl) rfl ym Ao) ?_)
 refine Cx.nil ⟨by kernel_rfl,?_⟩
 refine BH.QL 1 3 25 rfl rfl AB rfl (fun v1=> ?_)
 refine BH.done al6 ?_
 refine ac ?_
 refine Tr.drop 0 (wk [16,15,14,3,2] rfl ?_)
 refine ac ?_
 refine Fin.HC 2 [Af v1 (Dt (l.take (k+1))),reqs r,Af v11 (lens d.length)] rfl ⟨BA aB,Lr,Lr,trivial⟩ ?_
 exact Fin.DQ (k+1) v1 (⟨Ai,by omega⟩) ⟨⟨_,rfl,AG k⟩,kz⟩ (fun _ _ h=>h)
 have BL:k=(l).length:=by have:=AJ h1;omega
 subst BL
 rw [List.take_length]
 refine ac ?_
 refine ao ?_
 refine TO.AK 3 rfl rfl rfl (vl rfl) (Va rfl) rfl CI rfl rfl ?_
 refine ao ?_
 refine Tr.ret (Fin.drop 0 (Fin.drop 1 (Fin.NL (Fin.vH v11 [_] rfl (AO.cell 0 rfl rfl Ct CI rfl Lr) ?_ (List.Perm.refl _)))))
 · exact BR ⟨At _ _,Lr,FP _ _,trivial⟩
noncomputable def VV (c:BP) (l:List BW) (r:List BO) (fr:Int):Option (List Int×List Int×List Int):=NW c r (l.map (RP c)) fr l.length (DM l.length r l.length).1
open Classical in
noncomputable def Jz (e:Da) (c:BP) (l:List BW) (r:List BO) (fr:Int):Int:=if Jy e c l≠0 then Jy e c l else if BM (l.length:Nat) r≠0 then BM (l.length:Nat) r else match VV c l r fr with|none=>51|some _=>0
noncomputable def wg (c:BP) (l:List BW) (r:List BO) (fr:Int):List Int:=match VV c l r fr with|none=>[]|some p=>p.1
open Classical in
noncomputable def M4 (e:Da) (c:BP) (l:List BW) (r:List BO) (fr:Int):List BW:=if Jz e c l r fr=0 then l else []
open Classical in
noncomputable def P4 (e:Da) (c:BP) (l:List BW) (r:List BO) (fr:Int):List BO:=if Jz e c l r fr=0 then r else []
open Classical in
noncomputable def To (e:Da) (c:BP) (l:List BW) (r:List BO) (fr:Int):List Int:=if Jz e c l r fr=0 then wg c l r fr else []
noncomputable abbrev mQ (e:Da) (c:BP) (l:List BW) (r:List BO) (fr:Int):List Pr:=[Dt (M4 e c l r fr),reqs (P4 e c l r fr),ints (To e c l r fr)]
section
variable {e:Da} {c:BP} {l:List BW} {r:List BO} {fr:Int}
theorem TC {n:Int} (h:c.check n=0):c.own=0∧(c.Il.length:Int)=n∧∀t∈c.Il,c.has t=true:=by
 have h':=h
 unfold BP.check at h
 split at h
 · cases h
 ·
  split at h
  · cases h
  ·
   split at h
   · cases h
   ·
    split at h
    · cases h
    ·
     split at h
     · cases h
     ·
      split at h
      · cases h
      ·
       rename_i _ _ _ _ _ h6
       rw [not_or,Classical.not_not,Bool.not_eq_true,List.any_eq_false] at h6
       refine ⟨by unfold BP.own;rw [h6.1];exact h',h6.1,fun t ht=>by simpa using h6.2 t ht⟩
theorem RR (h:EV c l=0):l.length≤24∧∀x∈l,OJ c x=false:=by
 unfold EV at h
 by_cases h1:24<l.length
 · rw [if_pos h1] at h;cases h
 ·
  rw [if_neg h1] at h
  refine ⟨by omega,fun x hx=> ?_⟩
  cases hb:OJ c x with
  |false=>rfl
  |true=>rw [if_pos (List.any_eq_true.2 ⟨x,hx,hb⟩)] at h;cases h
theorem sC (h:EV c l=0) (ht:∀t∈c.Il,c.has t=true):∀x∈l.map (RP c),c.has x=true:=fun x hx=>by
 obtain ⟨y,hy,rfl⟩:=List.mem_map.1 hx
 have hb:=(RR h).2 y hy
 unfold OJ at hb
 rw [Bool.or_eq_false_iff,decide_eq_false_iff_not,decide_eq_false_iff_not] at hb
 exact ht _ (List.mem_of_getElem? (uB AA))
theorem TD (h:Jy e c l≠0):Jz e c l r fr=Jy e c l:=by unfold Jz;rw [if_pos h]
theorem uC (h:Jy e c l=0) (hv:BM (l.length:Nat) r≠0):Jz e c l r fr=BM (l.length:Nat) r:=by unfold Jz;rw [if_neg (not_not_intro h),if_pos hv]
theorem mR (h:Jy e c l=0) (hv:BM (l.length:Nat) r=0) (hs:VV c l r fr=none):Jz e c l r fr=51:=by unfold Jz;rw [if_neg (not_not_intro h),if_neg (not_not_intro hv),hs]
theorem uD {p:List Int×List Int×List Int} (h:Jy e c l=0) (hv:BM (l.length:Nat) r=0) (hs:VV c l r fr=some p):Jz e c l r fr=0:=by unfold Jz;rw [if_neg (not_not_intro h),if_neg (not_not_intro hv),hs]
theorem mS (h:Jz e c l r fr≠0):M4 e c l r fr=[]∧P4 e c l r fr=[]∧To e c l r fr=[]:=by unfold M4 P4 To;rw [if_neg h,if_neg h,if_neg h];exact ⟨rfl,rfl,rfl⟩
theorem mT (h:Jz e c l r fr=0):M4 e c l r fr=l∧P4 e c l r fr=r∧To e c l r fr=wg c l r fr:=by unfold M4 P4 To;rw [if_pos h,if_pos h,if_pos h];exact ⟨rfl,rfl,rfl⟩
theorem RS {k:Int} (h:Jz e c l r fr=k) (hk:k≠0):Pr.le (agg [is (.slice none 0 0),is (.slice none 0 0),is (.slice none 0 0)]) (agg (mQ e c l r fr)):=by
 obtain ⟨h1,h2,h3⟩:=mS (e:=e) (c:=c) (l:=l) (r:=r) (fr:=fr) (by rw [h];exact hk)
 unfold mQ;rw [h1,h2,h3];exact BR ⟨AQ 8,AQ 2,AQ 1,trivial⟩
theorem sD {d b y:List Int} (h:Jz e c l r fr=0) (hs:VV c l r fr=some (d,b,y)):Pr.le (agg [Dt l,reqs r,ints d]) (agg (mQ e c l r fr)):=by
 obtain ⟨h1,h2,h3⟩:=mT h
 unfold mQ;rw [h1,h2,h3];unfold wg;rw [hs];exact Pr.le_refl _
theorem RT {q:BO} {m:Nat} {d:List Int} {i:Int} (h:r[m]? =some q):Fh (r.take (m+1)) d i fr=if q.thn=i then max (Fh (r.take m) d i fr) (d.getD q.fst.toNat 0+1) else Fh (r.take m) d i fr:=by
 unfold Fh;rw [List.take_add_one,h,List.foldl_append];rfl
theorem Kc {l:List Int} {i:Nat} (h:i<l.length):l[i]? =some (l.getD i 0):=by rw [List.getD_eq_getElem?_getD,List.getElem?_eq_getElem h];rfl
end
structure Su where
 code:Int
 x1:Int
 x2:Int
 s1:Int
 s2:Int
 c1:Int
 c2:Int
 m1:Int
 m2:Int
 lo:Int
 hi:Int
abbrev AEb:Pr:=Cp.ex fun l:List UInt8=>str l
abbrev TE (s:Su):List Pr:=[int s.code,AEb,int s.x1,int s.x2,int s.s1,int s.s2,int s.c1,int s.c2,int s.m1,int s.m2,int s.lo,int s.hi]
def suT:List Su:=[⟨1,10,0,5,0,14,128,19,0,1,2⟩,⟨2,10,0,5,0,14,128,20,0,1,3⟩,⟨3,10,0,5,0,15,168,20,0,1,3⟩,⟨4,11,1024,6,0,15,168,20,0,1,3⟩,⟨5,11,1024,5,0,15,168,20,0,1,3⟩,⟨6,10,0,5,0,16,128,20,0,1,3⟩,⟨7,11,2048,5,0,16,128,20,0,1,3⟩,⟨8,12,256,5,0,16,128,20,0,1,3⟩,⟨9,12,256,7,0,16,256,21,0,3,3⟩,⟨10,12,256,5,0,17,128,22,0,3,3⟩,⟨11,12,384,7,0,17,256,22,0,3,3⟩,⟨12,12,256,5,0,18,0,22,0,3,3⟩,⟨13,10,0,5,0,17,256,22,0,3,3⟩,⟨14,12,256,0,0,17,128,22,0,4,4⟩,⟨15,12,256,0,0,18,0,22,0,4,4⟩,⟨16,13,768,0,0,17,256,22,0,4,4⟩]
abbrev mU:Su:=⟨0,0,0,0,0,0,0,0,0,0,0⟩
def Rv (code:Int):Bool:=decide (1≤code∧code≤16)
def Pq (code:Int):Su:=if Rv code then suT[(code-1).toNat]?.getD mU else mU
theorem wh {code:Int} (h:1≤code∧code≤16):suT[(code-1).toNat]? =some (Pq code):=by
 obtain ⟨x,hx⟩:=at_ (l:=suT) (k:=(code-1).toNat) (by show _<16;omega)
 unfold Pq Rv;rw [if_pos (decide_eq_true h),hx];rfl
theorem CJ {a l m x1 y1 x2 y2 x3 y3 x4 y4:Int} {s:List UInt8}  :BC prog 267 [int a,str s,agg [int x1,int y1],agg [int x2,int y2],agg [int x3,int y3],agg [int x4,int y4],int l,int m] (agg (TE ⟨a,x1,y1,x2,y2,x3,y3,x4,y4,l,m⟩)):=by
 refine BC.of func267 rfl rfl Ao fun M0 w0=> ?_
 refine Tr.seq (Tr.An ?_)
 iterate 4 refine tp rfl (BZ rfl (Va rfl)) ?_
 refine Tl rfl rfl rfl rfl R5 Hv (fun b1=> ?_)
 refine TO.nil (Fin.go (Tr.seq (Tr.An (tm rfl (tm rfl ?_)))))
 iterate 4 refine tp rfl (AL rfl I5 Kj (vl rfl) rfl rfl) ?_
 refine tm rfl (tm rfl (tp rfl (Al (rows:=[(0,[_]),(1,[_]),(2,_),(3,_),(4,_),(5,_),(6,[_]),(7,[_])]) rfl V1 Hv ⟨⟨rfl,(Vo rfl)⟩,⟨⟨rfl,(Vo rfl)⟩,⟨⟨rfl,(Va rfl)⟩,⟨⟨rfl,(Va rfl)⟩,⟨⟨rfl,(Va rfl)⟩,⟨⟨rfl,(Va rfl)⟩,⟨⟨rfl,(Vo rfl)⟩,⟨⟨rfl,(Vo rfl)⟩,trivial⟩⟩⟩⟩⟩⟩⟩⟩ rfl) (TO.re 25 (agg (TE ⟨a,x1,y1,x2,y2,x3,y3,x4,y4,l,m⟩)) rfl (BR ⟨Lr,Aw _ (Lr),Lr,Lr,Lr,Lr,Lr,Lr,Lr,Lr,Lr,Lr,trivial⟩) (TO.AK 0 rfl rfl rfl (vl rfl) (Va rfl) rfl Ff rfl rfl (TO.nil (Fin.go (NC 16 rfl (Tr.ret (Fin.CR rfl (AO.cell 0 rfl rfl IY Ff rfl (Lr)) ?_)))))))))
 · exact Lr
theorem Ws   :BC prog 227 [] (slice 12 (suT.map TE)):=by
 refine fo func227 rfl ⟨rfl,rfl⟩ fun M0 w0=> ?_
 refine ac ?_
 refine Tr.seq (Tr.An (tp rfl (CK (Bh) rfl rfl rfl) (tp rfl (CK (Bh) rfl rfl rfl) (tp rfl (Al (rows:=[]) rfl uj EP trivial rfl) ?_))))
 refine Tl rfl rfl rfl rfl KI EP (fun b1=> ?_)
 refine Tl rfl rfl rfl rfl KI EP (fun b2=> ?_)
 refine Tl rfl rfl rfl rfl KI EP (fun b3=> ?_)
 refine sf 2 1 ⟨rfl,rfl,rfl⟩ rfl rfl rfl rfl ?_
 refine sf 1 2 ⟨rfl,rfl,rfl⟩ rfl rfl rfl rfl ?_
 refine sf 0 3 ⟨rfl,rfl,rfl⟩ rfl rfl rfl rfl ?_
 refine ao ?_
 refine Tr.seq (Tr.An (tp rfl (CK (Bh) rfl rfl rfl) (tp rfl (CK (Bh) rfl rfl rfl) ?_)))
 refine Tl rfl rfl rfl rfl KI EP (fun b4=> ?_)
 refine Tl rfl rfl rfl rfl KI EP (fun b5=> ?_)
 refine sf 1 4 ⟨rfl,rfl,rfl⟩ rfl rfl rfl rfl ?_
 refine sf 0 5 ⟨rfl,rfl,rfl⟩ rfl rfl rfl rfl ?_
 refine ao ?_
 refine wk [5,4,3,2,1] rfl (Tr.seq (Tr.An (tp rfl (CK (Bh) rfl rfl rfl) (tp rfl (CK (Bh) rfl rfl rfl) (tp rfl (CK (Bh) rfl rfl rfl) ?_)))))
 refine Tl rfl rfl rfl rfl KI EP (fun b6=> ?_)
 refine Tl rfl rfl rfl rfl KI EP (fun b7=> ?_)
 refine Tl rfl rfl rfl rfl KI EP (fun b8=> ?_)
 refine sf 2 6 ⟨rfl,rfl,rfl⟩ rfl rfl rfl rfl ?_
 refine sf 1 7 ⟨rfl,rfl,rfl⟩ rfl rfl rfl rfl ?_
 refine sf 0 8 ⟨rfl,rfl,rfl⟩ rfl rfl rfl rfl ?_
 refine ao ?_
 refine wk [8,7,6,5,4,3,2,1] rfl (Tr.seq (Tr.An ?_))
 iterate 4 refine tp rfl (CK (Bh) rfl rfl rfl) ?_
 refine Tl rfl rfl rfl rfl KI EP (fun b9=> ?_)
 refine Tl rfl rfl rfl rfl KI EP (fun b10=> ?_)
 refine Tl rfl rfl rfl rfl KI EP (fun b11=> ?_)
 refine Tl rfl rfl rfl rfl KI EP (fun b12=> ?_)
 refine sf 3 9 ⟨rfl,rfl,rfl⟩ rfl rfl rfl rfl ?_
 refine sf 2 10 ⟨rfl,rfl,rfl⟩ rfl rfl rfl rfl ?_
 refine sf 1 11 ⟨rfl,rfl,rfl⟩ rfl rfl rfl rfl ?_
 refine sf 0 12 ⟨rfl,rfl,rfl⟩ rfl rfl rfl rfl ?_
 refine ao ?_
 refine wk [12,11,10,9,8,7,6,5,4,3,2,1] rfl (Tr.seq (Tr.An (tp rfl (CK (Bh) rfl rfl rfl) (tp rfl (CK (Bh) rfl rfl rfl) ?_))))
 refine Tl rfl rfl rfl rfl KI EP (fun b13=> ?_)
 refine Tl rfl rfl rfl rfl KI EP (fun b14=> ?_)
 refine sf 1 13 ⟨rfl,rfl,rfl⟩ rfl rfl rfl rfl ?_
 refine sf 0 14 ⟨rfl,rfl,rfl⟩ rfl rfl rfl rfl ?_
 refine ao ?_
 refine wk [14,13,12,11,10,9,8,7,6,5,4,3,2,1] rfl ?_
 refine ac ?_
 refine co rfl (AR rfl (CJ) ⟨kq,kz⟩) ?_
 refine ac ?_
 refine co rfl (AR rfl (CJ) ⟨kq,kz⟩) ?_
 refine ac ?_
 refine co rfl (AR rfl (CJ) ⟨kq,kz⟩) (co rfl (CK (Bh) rfl rfl rfl) (co rfl (CK (Bh) rfl rfl rfl) ?_))
 refine ac ?_
 refine co rfl (AR rfl (CJ) ⟨kq,kz⟩) (co rfl (CK (Bh) rfl rfl rfl) ?_)
 refine ac ?_
 refine co rfl (AR rfl (CJ) ⟨kq,kz⟩) ?_
 refine ac ?_
 refine co rfl (AR rfl (CJ) ⟨kq,kz⟩) (co rfl (CK (Bh) rfl rfl rfl) ?_)
 refine ac ?_
 refine co rfl (AR rfl (CJ) ⟨kq,kz⟩) ?_
 refine ac ?_
 refine co rfl (AR rfl (CJ) ⟨kq,kz⟩) (co rfl (AL rfl I5 Kj vq rfl rfl) (co rfl (CK (Bh) rfl rfl rfl) (co rfl (CK (Bh) rfl rfl rfl) (co rfl (AL rfl I5 Kj vq rfl rfl) (co rfl (AR rfl (CJ) ⟨kq,kz⟩) ?_)))))
 refine ac ?_
 refine co rfl (AR rfl (CJ) ⟨kq,kz⟩) (co rfl (CK (Bh) rfl rfl rfl) (co rfl (CK (Bh) rfl rfl rfl) ?_))
 refine ac ?_
 refine co rfl (AR rfl (CJ) ⟨kq,kz⟩) ?_
 refine ac ?_
 refine co rfl (AR rfl (CJ) ⟨kq,kz⟩) ?_
 refine ac ?_
 refine co rfl (AR rfl (CJ) ⟨kq,kz⟩) ?_
 refine ac ?_
 refine co rfl (AR rfl (CJ) ⟨kq,kz⟩) ?_
 refine ac ?_
 refine co rfl (AR rfl (CJ) ⟨kq,kz⟩) (co rfl (CK (Bh) rfl rfl rfl) ?_)
 refine ac ?_
 refine co rfl (AR rfl (CJ) ⟨kq,kz⟩) (co rfl (AM (xs:=[.tmp 33,.tmp 38,.tmp 43,.tmp 48,.tmp 53,.tmp 58,.tmp 63,.tmp 68,.tmp 73,.tmp 78,.tmp 83,.tmp 88,.tmp 93,.tmp 98,.tmp 103,.tmp 108]) (rows:=(suT.map TE)) rfl rfl underlying287 Ff R5 rfl AB ⟨⟨Am,VL.le vq (Ac _)⟩,⟨⟨Am,VL.le vq (Ac _)⟩,⟨⟨Am,VL.le vq (Ac _)⟩,⟨⟨Am,VL.le vq (Ac _)⟩,⟨⟨Am,VL.le vq (Ac _)⟩,⟨⟨Am,VL.le vq (Ac _)⟩,⟨⟨Am,VL.le vq (Ac _)⟩,⟨⟨Am,VL.le vq (Ac _)⟩,⟨⟨Am,VL.le vq (Ac _)⟩,⟨⟨Am,VL.le vq (Ac _)⟩,⟨⟨Am,VL.le vq (Ac _)⟩,⟨⟨Am,VL.le vq (Ac _)⟩,⟨⟨Am,VL.le vq (Ac _)⟩,⟨⟨Am,VL.le vq (Ac _)⟩,⟨⟨Am,VL.le vq (Ac _)⟩,⟨⟨Am,VL.le vq (Ac _)⟩,trivial⟩⟩⟩⟩⟩⟩⟩⟩⟩⟩⟩⟩⟩⟩⟩⟩ AB) ?_)
 refine ac ?_
 refine wk [0] rfl ?_
 refine ac ?_
 · exact B0 _ _
theorem Lj {code:Int}  :BC prog 192 [int code] (D7 [agg (TE (Pq code)),int (if Rv code then 0 else 8)]):=by
 refine fo func192 rfl ⟨rfl,rfl⟩ fun M0 w0=>(Tr.seq (Tr.An ?_))
 refine Tl rfl rfl rfl rfl R5 Hv (fun b1=> ?_)
 refine ap ?_
 refine ag ?_ ?_<;>intro h1 q1
 refine ac ?_
 refine Tr.cond rfl (fun _=> ?_) (fun h=>nomatch h)
 refine Tr.seq (Tr.An (tp rfl (Al (rows:=[]) rfl V1 Hv trivial rfl) (TO.AK 0 rfl rfl rfl vq Cm rfl Ff rfl rfl (tm rfl (TO.nil (Fin.go (Tr.ret (Fin.AE (Fin.BU rfl (AO.cell 0 rfl rfl IY Ff rfl Lr) (AO.tmp rfl Lr) ?_)))))))))
 · exact gu
 refine an ?_ ?_<;>intro h2 q2
 refine ap ?_
 refine Tr.ret (Fin.AE (Fin.BU rfl (AO.cell 0 rfl rfl IY Ff rfl Lr) (AO.tmp rfl Lr) ?_))
 · exact gu
 have hin:1≤code∧code≤16:=by omega
 refine ac ?_
 refine Tr.seq (Tr.An (tp rfl (kc0 (Ws) rfl) ?_))
 refine ap ?_
 refine tp rfl (AD rfl underlying287 Ff vq vq AA (Bm (f:=TE) (wh AA))) ?_
 refine ap ?_
 refine wk [3,2] rfl (Tr.ret (Fin.BU rfl (AO.cell 0 rfl rfl IY Ff rfl Lr) (AO.tmp rfl Lr) ?_))
 · exact A0 ⟨Lr,int_eq (by unfold Rv;rw [if_pos (decide_eq_true hin)]),trivial⟩
abbrev anyI:Pr:=Cp.ex fun n:Int=>int n
theorem fF:∀r∈Hw,∀x∈r.sizes,0≤x∧x≤40000:=by decide+kernel
theorem Wt {a b k:Int} (h:Kq a b k=true):(0≤a∧a≤40000)∧(0≤b∧b≤40000):=by
 have h1:=(YX h).1
 rw [decide_eq_true_eq] at h1
 unfold Di at h1
 split at h1
 next ha=>
  refine ⟨by omega,?_⟩
  split at h1
  · split at h1<;>omega
  ·
   split at h1
   · split at h1<;>omega
   ·
    split at h1
    ·
     split at h1
     next hc=>
      obtain ⟨x,hx,hb⟩:=List.any_eq_true.1 hc
      simp only [Ze,List.mem_cons,List.not_mem_nil,or_false] at hx
      have:b=x:=by simpa using hb
      omega
     · omega
    ·
     split at h1
     ·
      split at h1
      next hc=>
       have hn:(Ed a).sizes.any (fun x=>b==x)=true:=by
        cases he:(Ed a).sizes.any (fun x=>b==x) with
        |true=>rfl
        |false=>
         have:=UW (fun x=>b==x) (Ed a).sizes
         rw [he] at this;simp at this;omega
       obtain ⟨x,hx,hb⟩:=List.any_eq_true.1 hn
       have:b=x:=by simpa using hb
       subst this
       exact fF _ (dV ha) _ hx
      · omega
     · omega
 · omega
theorem sE {c:HB} (hv:D3 c=true):c.YY:=by
 have h:=I4 hv
 have h1:=Wt h.key
 have h2:=Wt h.hash
 exact ⟨h.s1,h.k1,h1.1,h1.2,h2.1,h2.2⟩
section
variable {P:Program} {I:Cb} {E:Env} {o:Oper}
theorem Iw {t:TypeId} {x:Operand} (ho:o.op= .unOp .not t x) (hx:VL E x EE):Ad P I o E EE:=
 Ad.same fun M w a he _=>by
  obtain ⟨b,h1⟩:=hx.ev he Ar
  have h1:a.eval x= .bool b:=h1
  exact ⟨.bool (!b),by simp [execOp,ho,h1,Op.unary],_,rfl⟩
theorem wj {t u:TypeId} {x y:Operand} (ho:o.op= .binOp .neq t x y u) (hx:VL E x (GU .i64)) (hy:VL E y (GU .i64)):Ad P I o E EE:=
 Ad.same fun M w a he _=>by
  obtain ⟨m,h1⟩:=hx.ev he Ar
  obtain ⟨n,h2⟩:=hy.ev he Ar
  have h1:a.eval x= .int .i64 m:=h1
  have h2:a.eval y= .int .i64 n:=h2
  exact ⟨.bool (m !=n),by simp [execOp,ho,h1,h2,eqGuard,binOp,Op.intCmp],_,rfl⟩
theorem mV {t u:TypeId} {x y:Operand} (ho:o.op= .binOp .eql t x y u) (hx:VL E x (GU .i64)) (hy:VL E y (GU .i64)):Ad P I o E EE:=
 Ad.same fun M w a he _=>by
  obtain ⟨m,h1⟩:=hx.ev he Ar
  obtain ⟨n,h2⟩:=hy.ev he Ar
  have h1:a.eval x= .int .i64 m:=h1
  have h2:a.eval y= .int .i64 n:=h2
  exact ⟨.bool (m==n),by simp [execOp,ho,h1,h2,eqGuard,binOp,Op.intCmp],_,rfl⟩
end
theorem ZH:Pr.le anyI (GU .i64):=fun _ _ _ h=>h
theorem sF:Pr.le (GU .i64) anyI:=fun _ _ _ h=>h
theorem wm:Pr.le vR (GU .i64):=fun _ _ _ ⟨n,_,h⟩=>⟨n,h⟩
theorem ZI {c:HB}  :BC prog 189 [agg (DH c)] (D7 [Ee 3285282,GU .i64]):=by
 refine fo func189 rfl ⟨rfl,rfl⟩ fun M0 w0=> ?_
 refine a2 ?_
 refine co rfl (Ck (LW (c:=c)) rfl rfl) ?_
 refine an ?_ ?_<;>intro h1 q1
 refine ac ?_
 refine Tr.ret (Fin.AE (Fin.Dc rfl (Bo.Dy _ _) rfl ?_ rfl ?_))
 · exact Oa
 · exact C4 _ _
 have hv:D3 c=true:=by cases hb:D3 c with|true=>rfl|false=>exact absurd h1 (by rw [hb];decide)
 refine a2 ?_
 refine co rfl (Ck (WK hv (sE hv)) rfl rfl) (co rfl (Ck (rE2) rfl rfl) ?_)
 refine ac ?_
 refine Tr.ret (Fin.Dc rfl (Bo.Dy _ _) rfl ?_ rfl ?_)
 · exact Lr
 · exact Lr
theorem RU {c:HB} {key:Int}  :BC prog 344 [agg (DH c),int key] (EE):=by
 refine fo func344 rfl ⟨rfl,rfl⟩ fun M0 w0=> ?_
 refine a2 ?_
 refine co rfl (Ck (ZI (c:=c)) rfl rfl) ?_
 refine ac ?_
 refine Tr.seq (Tr.re 6 rfl sF (Tr.ex 6 rfl fun e6=> ?_))
 · repeat' first|exact Lr|exact Aw _ Lr|refine cy h rfl (Ck (BC.Ee fun m hm=>bI AA) rfl rfl) (cy h rfl (mV rfl (VL.le vq (C4 _ _)) (VL.le vq wm)) ?_)|refine ac ?_|(refine Ch.cg rfl rfl rfl ?_ ?_<;>intro h q)
theorem mW {l:List (List UInt8)} {s:List UInt8}  :BC prog 342 [dW l,str s] (EE):=by
 refine fo func342 rfl ⟨rfl,rfl⟩ fun M0 w0=>(Tr.Cf 0 rfl fun EH=> ?_)
 refine a2 ?_
 refine Tr.block (Tr.BE _ (kk [1,0] rfl) (fun k:Nat=>[(5,int ((k:Nat):Int))]) (fun k:Nat=>k≤(l).length) (fun k:Nat=>(l).length-k) 0 (Nat.zero_le _) kz ?_)
 rintro k BV
 refine an ?_ ?_<;>intro h1 q1
 have Ai:k<(l).length:=AH h1
 obtain ⟨x,Ah⟩:=at_ Ai
 · repeat' first|exact Aw _ Lr|exact Fin.AP (k+1) ⟨Ai,by omega⟩ ⟨⟨_,rfl,AG k⟩,kz⟩|refine co rfl (AD rfl underlying127 MF vq vq AA CL) ?_|refine ac ?_|(refine Tr.cn rfl ?_ ?_<;>intro h q)
 have BL:k=(l).length:=by have:=AJ h1;omega
 refine a3 ?_
 · exact BF
theorem mX {l:List HB} {a:Int}  :BC prog 343 [Kz l,int a] (EE):=by
 refine fo func343 rfl ⟨rfl,rfl⟩ fun M0 w0=>(Tr.Cf 0 rfl fun EH=> ?_)
 refine ac ?_
 refine ag ?_ ?_<;>intro h1 q1
 refine a3 ?_
 · exact BF
 refine an ?_ ?_<;>intro h2 q2
 refine a2 ?_
 · exact BF
 refine ac ?_
 refine ag ?_ ?_<;>intro h3 q3
 refine ac ?_
 refine wk [4] rfl ?_
 refine ac ?_
 · exact BF
 refine ac ?_
 refine cy h3 rfl (AD rfl underlying82 C3 vq vq AA (Bm (List.getElem?_eq_getElem (show Int.toNat a<l.length by omega)))) ?_
 refine ag ?_ ?_<;>intro h4 q4
 refine ac ?_
 refine cy h4 rfl (AD rfl underlying82 C3 vq vq AA (Bm (List.getElem?_eq_getElem (show Int.toNat a<l.length by omega)))) ?_
 refine ac ?_
 refine wk [4] rfl ?_
 refine ac ?_
 · exact BF
 refine ac ?_
 refine wk [4] rfl ?_
 refine ac ?_
 · exact BF
theorem fG {e:Int} {l:List HB} {i:Int} {an ha:List Int} {day:Int} {nm:List UInt8} (hi:0≤i∧i<(l.length:Nat)):BC prog 339 [int e,Kz l,int i,ints an,ints ha,int day,str nm] (EE):=by
 refine fo func339 rfl ⟨rfl,rfl⟩ fun M0 w0=>(Tr.Cf 1 rfl fun FC=> ?_)
 obtain ⟨c,hc⟩:=at_ (l:=l) (k:=i.toNat) AA
 refine ac ?_
 refine ao ?_
 refine tp rfl (AD rfl underlying82 C3 (vl rfl) (vl rfl) AA (Bm hc)) ?_
 refine ao ?_
 refine Tl rfl rfl rfl rfl QV Kw (fun b1=> ?_)
 refine sf 0 15 ⟨rfl,rfl,rfl⟩ rfl rfl rfl rfl ?_
 refine ao ?_
 refine oQ 0 1 2 3 4 5 6 15 16 rfl ?_
 refine ac ?_
 refine ac ?_
 refine Tr.cn rfl ?_ ?_<;>intro h1 q1
 refine ac ?_
 refine co rfl (Ck (LW (c:=c)) rfl rfl) ?_
 refine ac ?_
 refine NC 14 rfl ?_
 refine ac ?_
 · exact Cv
 refine ac ?_
 refine UB 1 2 3 4 5 6 15 16 26 32 rfl ?_
 refine Tr.cn rfl ?_ ?_<;>intro h2 q2
 refine ac ?_
 refine Ch.cs 36 rfl ?_ ?_<;>intro h3 q3
 refine ac ?_
 refine cy h3 rfl (CK (mW) rfl rfl rfl) (cy h3 rfl (Iw rfl (vl rfl)) ?_)
 refine ac ?_
 refine NC 14 rfl ?_
 refine ac ?_
 · exact Lr
 refine ac ?_
 refine NC 14 rfl ?_
 refine ac ?_
 · exact Cv
 refine ac ?_
 refine Tr.cn rfl ?_ ?_<;>intro h4 q4
 refine ac ?_
 refine Ch.cs 49 rfl ?_ ?_<;>intro h5 q5
 refine ac ?_
 refine NC 14 rfl ?_
 refine ac ?_
 · exact Cv
 refine ac ?_
 refine NC 14 rfl ?_
 refine ac ?_
 · exact Cv
 refine ac ?_
 refine wk8 1 2 3 4 15 16 26 55 rfl ?_
 refine Tr.cn rfl ?_ ?_<;>intro h6 q6
 refine ac ?_
 refine co rfl (CK (Jl) rfl rfl rfl) ?_
 refine ac ?_
 refine NC 14 rfl ?_
 refine ac ?_
 · exact Cv
 refine ac ?_
 refine Tr.cn rfl ?_ ?_<;>intro h7 q7
 refine ac ?_
 refine Ch.cs 67 rfl ?_ ?_<;>intro h8 q8
 refine ac ?_
 refine cy h8 rfl (AD rfl underlying82 C3 (vl rfl) (vl rfl) AA (Bm (List.getElem?_eq_getElem (show Int.toNat (i+1)<l.length by omega)))) ?_
 refine ac ?_
 refine NC 14 rfl ?_
 refine ac ?_
 · exact Cv
 refine ac ?_
 refine NC 14 rfl ?_
 refine ac ?_
 · exact Cv
 refine ac ?_
 refine Tr.cn rfl ?_ ?_<;>intro h9 q9
 refine ac ?_
 refine co rfl (CK (mX) rfl rfl rfl) (co rfl (Iw rfl (vl rfl)) ?_)
 refine ac ?_
 refine NC 14 rfl ?_
 refine ac ?_
 · exact Lr
 refine ac ?_
 refine wk6 1 2 3 15 16 84 rfl ?_
 refine Tr.cn rfl ?_ ?_<;>intro h10 PC
 refine ac ?_
 refine Tr.cn rfl ?_ ?_<;>intro h11 Rt
 refine ac ?_
 refine co rfl (CK (RU) rfl rfl rfl) (co rfl (Iw rfl (vl rfl)) ?_)
 refine ac ?_
 refine NC 14 rfl ?_
 refine ac ?_
 · exact Lr
 refine ac ?_
 refine ac ?_
 refine co rfl (AD rfl underlying82 C3 (vl rfl) (vl rfl) AA (Bm (List.getElem?_eq_getElem (show Int.toNat (i+1)<l.length by omega)))) ?_
 refine ac ?_
 refine co rfl (CK (RU) rfl rfl rfl) (co rfl (Iw rfl (vl rfl)) ?_)
 refine ac ?_
 refine NC 14 rfl ?_
 refine ac ?_
 · exact Lr
 refine ac ?_
 refine ac ?_
 refine Ch.cs 103 rfl ?_ ?_<;>intro h12 VQ
 refine ac ?_
 refine cy h12 rfl (CK (Jl) rfl rfl rfl) ?_
 refine ac ?_
 refine NC 14 rfl ?_
 refine ac ?_
 · exact Cv
 refine ac ?_
 refine NC 14 rfl ?_
 refine ac ?_
 · exact Cv
abbrev Wu:List Int:=[9,14,13,7,11,15,10,12]
theorem fH {l:List HB} {an ha:List Int} {day:Int} {nm:List UInt8}  :BC prog 332 [Kz l,ints an,ints ha,int day,str nm] (anyI):=by
 refine fo func332 rfl ⟨rfl,rfl⟩ fun M0 w0=>(Tr.Cf 0 rfl fun EH=> ?_)
 refine ac ?_
 refine ac ?_
 refine Tr.cn rfl ?_ ?_<;>intro h1 q1
 refine ac ?_
 refine ac ?_
 · exact Cv
 refine ac ?_
 refine ac ?_
 refine Tr.cn rfl ?_ ?_<;>intro h2 q2
 refine ac ?_
 refine ac ?_
 · exact Cv
 refine ac ?_
 refine Tr.seq (Tr.Aj (co rfl (AM (xs:=[.const (.int .i64 (9)),.const (.int .i64 (14)),.const (.int .i64 (13)),.const (.int .i64 (7)),.const (.int .i64 (11)),.const (.int .i64 (15)),.const (.int .i64 (10)),.const (.int .i64 (12))]) (rows:=(Wu.map fun n=>[int n])) rfl rfl underlying389 ue z43 rfl AB ⟨⟨Am,VL.le (vl rfl) (Aa _)⟩,⟨⟨Am,VL.le (vl rfl) (Aa _)⟩,⟨⟨Am,VL.le (vl rfl) (Aa _)⟩,⟨⟨Am,VL.le (vl rfl) (Aa _)⟩,⟨⟨Am,VL.le (vl rfl) (Aa _)⟩,⟨⟨Am,VL.le (vl rfl) (Aa _)⟩,⟨⟨Am,VL.le (vl rfl) (Aa _)⟩,⟨⟨Am,VL.le (vl rfl) (Aa _)⟩,trivial⟩⟩⟩⟩⟩⟩⟩⟩ AB) ?_))
 refine ac ?_
 refine ac ?_
 refine Tr.block (Tr.BE [(0,_),(1,_),(2,_),(3,_),(4,_),(11,_)] (kk6 rfl) (fun m:Nat=>[(12,int ((m:Nat):Int))]) (fun m:Nat=>m≤(Wu).length) (fun m:Nat=>(Wu).length-m) 0 (Nat.zero_le _) ⟨ke rfl,trivial⟩ ?_)
 rintro m MY
 refine ac ?_
 refine co rfl (CW rfl underlying389 (Kf rfl)) ?_
 refine ac ?_
 refine Tr.cn rfl ?_ ?_<;>intro h3 q3
 have ES:m<(Wu).length:=AH h3
 obtain ⟨x,EX⟩:=at_ ES
 have hm8:m<8:=ES
 refine ac ?_
 refine ac ?_
 refine Tr.block (Tr.BE [(0,_),(1,_),(2,_),(3,_),(4,_),(11,_),(12,_)] (kk7 rfl) (fun k:Nat=>[(13,int ((k:Nat):Int))]) (fun k:Nat=>k≤(l).length) (fun k:Nat=>(l).length-k) 0 (Nat.zero_le _) ⟨ke rfl,trivial⟩ ?_)
 rintro k BV
 refine ac ?_
 refine Tr.cn rfl ?_ ?_<;>intro h4 q4
 have Ai:k<(l).length:=AH h4
 obtain ⟨c,Ah⟩:=at_ Ai
 refine ac ?_
 refine ac ?_
 refine co rfl (AD rfl underlying389 ue (Kf rfl) (vl rfl) AA (AX EX)) ?_
 refine ac ?_
 refine co rfl (AR rfl (fG (e:=x) AA) ⟨ke rfl,ke rfl,ke rfl,ke rfl,ke rfl,ke rfl,ke rfl,trivial⟩) ?_
 refine ac ?_
 refine oQ 0 1 2 3 4 11 12 13 43 rfl (Tr.ex 43 rfl fun AFl=> ?_)
 refine Tr.cn rfl ?_ ?_<;>intro h5 q5
 refine ac ?_
 refine co rfl (AD rfl underlying389 ue (Kf rfl) (vl rfl) AA (AX EX)) ?_
 refine ac ?_
 refine NC 10 rfl ?_
 refine ac ?_
 · exact Cv
 refine ac ?_
 refine ac ?_
 exact Fin.AP (k+1) ⟨Ai,by omega⟩ ⟨⟨_,rfl,AG k⟩,ke rfl,ke rfl,ke rfl,ke rfl,ke rfl,ke rfl,ke rfl,trivial⟩
 have BL:k=(l).length:=by have:=AJ h4;omega
 refine ac ?_
 refine ac ?_
 exact Fin.AP (m+1) ⟨ES,by omega⟩ ⟨⟨_,rfl,AG m⟩,ke rfl,ke rfl,ke rfl,ke rfl,ke rfl,ke rfl,trivial⟩
 have Jm:m=(Wu).length:=by have:=AJ h3;omega
 refine ac ?_
 refine ac ?_
 refine ac ?_
 · exact Cv
def VS (s:Su) (x:JL):Bool:=decide (s.s1=0)||decide (x.CC=s.s1)
def RV (ids:List JL) (code:Int):Int:=if Rv code then idx (VS (Pq code)) ids else -1
def K3 (sv:B7) (offer:List Int) (v code:Int):Bool:=Rv code&&(offer.any fun x=>code==x)&&(sv.Ay.any fun x=>code==x)&&decide ((Pq code).lo≤v)&&decide (v≤(Pq code).hi)&&decide (0≤RV sv.ids code)
theorem HZ {e:B7} {code:Int} (hl:e.ids.length≤1000000):BC prog 319 [agg (Bc e),int code] (D7 [int (RV e.ids code),bool (decide (0≤RV e.ids code))]):=by
 refine fo func319 rfl ⟨rfl,rfl⟩ fun M0 w0=> ?_
 refine ac ?_
 refine ao ?_
 refine tp rfl (Ck (Lj (code:=code)) rfl rfl) ?_
 refine ao ?_
 refine Tl rfl rfl rfl rfl R5 Hv (fun b1=> ?_)
 refine sf 0 6 ⟨rfl,rfl,rfl⟩ rfl rfl rfl rfl ?_
 refine ao ?_
 refine ac ?_
 refine wk [15,6,2] rfl ?_
 refine Tr.cn rfl ?_ ?_<;>intro h1 q1
 have hK:RV e.ids code= -1:=by unfold RV;exact if_neg (fun h_=>by rw [if_pos h_] at h1;exact absurd h1 AB)
 refine ac ?_
 refine Tr.ret (Fin.AE (Fin.Dc rfl (Bo.Dy _ _) rfl ?_ rfl ?_))
 · refine int_eq ?_;exact hK.symm
 · refine bool_eq ?_;rw [hK];rfl
 have hs:Rv code=true:=by cases h_:Rv code with|true=>rfl|false=>exact absurd h1 L2
 have hK:RV e.ids code=idx (VS (Pq code)) e.ids:=by unfold RV;exact if_pos hs
 refine a2 ?_
 refine Tr.block (Tr.BE _ (kk [6,2] rfl) (fun k:Nat=>[(8,int ((k:Nat):Int))]) (fun k:Nat=>k≤(e.ids).length∧(∀j y,j<k→e.ids[j]? =some y→VS (Pq code) y=false)) (fun k:Nat=>(e.ids).length-k) 0 (⟨Nat.zero_le _,fun j y hj=>absurd hj AA⟩) kz ?_)
 rintro k ⟨BV,AZ⟩
 refine an ?_ ?_<;>intro h2 q2
 have Ai:k<(e.ids).length:=AH h2
 obtain ⟨x,Ah⟩:=at_ Ai
 refine ac ?_
 refine ag ?_ ?_<;>intro h3 q3
 refine ac ?_
 refine wk [39,8,6,2] rfl ?_
 refine ac ?_
 refine Tr.ret (Fin.AU (Fin.AE (Fin.AE (Fin.AU (Fin.AE (Fin.Dc rfl (Bo.Dy _ _) rfl ?_ rfl ?_))))))
 · exact Z3
 · exact Zh
 refine ac ?_
 refine cy h3 rfl (AD rfl underlying38 E6 vq vq AA (AX Ah)) ?_
 refine ac ?_
 refine wk [39,8,6,2] rfl ?_
 refine Tr.cn rfl ?_ ?_<;>intro h4 q4
 refine ac ?_
 refine Tr.ret (Fin.AU (Fin.AE (Fin.AE (Fin.AU (Fin.AE (Fin.Dc rfl (Bo.Dy _ _) rfl ?_ rfl ?_))))))
 · exact Z3
 · exact Zh
 refine a2 ?_
 exact Fin.AP (k+1) ⟨⟨Ai,ED (p:=VS (Pq code)) Ah nq AZ⟩,by omega⟩ ⟨⟨_,rfl,AG k⟩,kz⟩
 have BL:k=(e.ids).length:=by have:=AJ h2;omega
 subst BL
 refine a2 ?_
 refine Tr.ret (Fin.Dc rfl (Bo.Dy _ _) rfl ?_ rfl ?_)
 · refine int_eq ?_;rw [hK];exact Gz AZ
 · refine bool_eq ?_;rw [hK,←Gz AZ];rfl
theorem cQ {ids:List JL} {code:Int} (h:0≤RV ids code):∃x,ids[(RV ids code).toNat]? =some x:=by
 unfold RV at h ⊢
 split at h
 ·
  rename_i hs
  rw [if_pos hs]
  unfold idx at h ⊢
  cases hf:ids.findIdx? (VS (Pq code)) with
  |none=>rw [hf] at h;simp at h
  |some i=>
   obtain ⟨hi,_⟩:=List.findIdx?_eq_some_iff_getElem.1 hf
   exact ⟨ids[i],by simp [hi]⟩
 · omega
theorem mY {e:B7} {of:List Int} {v code:Int} (h:K3 e of v code=true):0≤RV e.ids code:=by
 unfold K3 at h
 rw [Bool.and_eq_true,decide_eq_true_eq] at h
 exact h.2
theorem K4 {e:B7} {of:List Int} {v code:Int} (hl:e.ids.length≤1000000):BC prog 323 [agg (Bc e),ints of,int v,int code] (bool (K3 e of v code)):=by
 refine fo func323 rfl ⟨rfl,rfl⟩ fun M0 w0=> ?_
 refine ac ?_
 refine ao ?_
 refine tp rfl (Ck (Lj (code:=code)) rfl rfl) ?_
 refine ao ?_
 refine Tl rfl rfl rfl rfl R5 Hv (fun b1=> ?_)
 refine sf 0 9 ⟨rfl,rfl,rfl⟩ rfl rfl rfl rfl ?_
 refine ao ?_
 refine ac ?_
 refine Ch.cs 20 rfl ?_ ?_<;>intro h1 q1
 refine ac ?_
 refine GF 3 4 44 rfl ?_
 refine ac ?_
 refine ac ?_
 · refine bool_eq ?_;unfold K3;simp_all
 refine ac ?_
 refine cy h1 rfl (CK (Jl) rfl rfl rfl) ?_
 refine ac ?_
 refine Ch.cs 26 rfl ?_ ?_<;>intro h2 q2
 refine ac ?_
 refine GF 3 4 44 rfl ?_
 refine ac ?_
 refine ac ?_
 · refine bool_eq ?_;unfold K3;simp_all;intros;exfalso;exact q2 _ Bt rfl
 refine ac ?_
 refine cy h2 rfl (CK (Jl) rfl rfl rfl) ?_
 refine ac ?_
 refine Ch.cs 33 rfl ?_ ?_<;>intro h3 q3
 refine ac ?_
 refine GF 3 4 44 rfl ?_
 refine ac ?_
 refine ac ?_
 · refine bool_eq ?_;unfold K3;simp_all;intros;exfalso;exact q3 _ Bt rfl
 refine ac ?_
 refine Ch.cs 39 rfl ?_ ?_<;>intro h4 q4
 refine ac ?_
 refine GF 3 4 44 rfl ?_
 refine ac ?_
 refine ac ?_
 · refine bool_eq ?_;unfold K3;simp_all;intros;omega
 refine ac ?_
 refine GF 3 4 44 rfl ?_
 refine Tr.cn rfl ?_ ?_<;>intro h5 q5
 refine ac ?_
 refine ac ?_
 · refine bool_eq ?_;unfold K3;simp_all;intros;omega
 refine ac ?_
 refine ac ?_
 refine co rfl (CK (HZ (e:=e) (code:=code) hl) rfl rfl rfl) ?_
 refine ac ?_
 refine ac ?_
 refine ac ?_
 · refine bool_eq ?_;unfold K3;simp_all
theorem fI {c e:B7} {day most:Int} {su:List Int} (hc:c.small) (he:e.small):BC prog 317 [agg (Bc c),agg (Bc e),int day,int most,ints su] (Cp.ex fun z:Int×Int×Int=>fact True (D7 [agg [int z.1,int z.2.1],int z.2.2])):=by
 refine fo func317 rfl ⟨rfl,rfl⟩ fun M0 w0=>(Tr.Cf 4 rfl fun AFL=> ?_)
 obtain ⟨od,hod⟩:∃od,(if e.own=true then e.Ay else su)=od:=⟨_,rfl⟩
 have hsu:=he.Ay
 have hol:od.length≤9223372036854775807:=by rw [←hod];split<;>omega
 refine Tr.seq (Tr.An (tp rfl (BZ rfl Cm) (tp rfl (BZ rfl Cm) ?_)))
 refine Tl rfl rfl rfl rfl JJ FU (fun b1=> ?_)
 refine ap ?_
 refine ac ?_
 refine co rfl (Ck (FE hc) rfl rfl) ?_
 refine ag ?_ ?_<;>intro h1 q1
 refine ac ?_
 refine Tr.cond rfl (fun _=> ?_) (fun h=>nomatch h)
 refine Tr.seq (Tr.An (tp rfl (Al (rows:=[]) rfl Sf FU trivial rfl) (TO.AK 0 rfl rfl rfl vq Cm rfl B_ rfl rfl (tm rfl (TO.nil (Fin.go (wk [11,10] rfl (Tr.ret (Fin.AE (Fin.BU rfl (AO.cell 0 rfl rfl Cq B_ rfl Lr) (AO.tmp rfl Lr) ?_))))))))))
 · exact EZ
 refine cy h1 rfl (AL rfl Cj CF vq rfl rfl) (cy h1 rfl (Ck (FE he) rfl rfl) ?_)
 refine an ?_ ?_<;>intro h2 q2
 refine ap ?_
 refine wk [11,10] rfl (Tr.ret (Fin.AE (Fin.BU rfl (AO.cell 0 rfl rfl Cq B_ rfl Lr) (AO.tmp rfl Lr) ?_)))
 · exact EZ
 refine ac ?_
 refine ag ?_ ?_<;>intro h3 q3
 refine ac ?_
 refine wk [39,10,6,5,4,3,2] rfl (Tr.cond rfl (fun _=> ?_) (fun h=>nomatch h))
 refine Tr.seq (Tr.An (tp rfl (Al (rows:=[]) rfl Sf FU trivial rfl) (TO.AK 0 rfl rfl rfl vq Cm rfl B_ rfl rfl (tm rfl (TO.nil (Fin.go (Tr.ret (Fin.AE (Fin.BU rfl (AO.cell 0 rfl rfl Cq B_ rfl Lr) (AO.tmp rfl Lr) ?_)))))))))
 · exact EZ
 refine ag ?_ ?_<;>intro h4 q4
 refine ac ?_
 refine wk [39,10,6,5,4,3,2] rfl (Tr.cond rfl (fun _=> ?_) (fun h=>nomatch h))
 refine Tr.seq (Tr.An (tp rfl (Al (rows:=[]) rfl Sf FU trivial rfl) (TO.AK 0 rfl rfl rfl vq Cm rfl B_ rfl rfl (tm rfl (TO.nil (Fin.go (Tr.ret (Fin.AE (Fin.BU rfl (AO.cell 0 rfl rfl Cq B_ rfl Lr) (AO.tmp rfl Lr) ?_)))))))))
 · exact EZ
 refine ag ?_ ?_<;>intro h5 q5
 refine ac ?_
 refine wk [39,10,6,5,4,3,2] rfl (Tr.cond rfl (fun _=> ?_) (fun h=>nomatch h))
 refine Tr.seq (Tr.An (tp rfl (Al (rows:=[]) rfl Sf FU trivial rfl) (TO.AK 0 rfl rfl rfl vq Cm rfl B_ rfl rfl (tm rfl (TO.nil (Fin.go (Tr.ret (Fin.AE (Fin.BU rfl (AO.cell 0 rfl rfl Cq B_ rfl Lr) (AO.tmp rfl Lr) ?_)))))))))
 · exact EZ
 refine ac ?_
 refine wk [39,10,6,5,4,3,2] rfl ?_
 refine Tr.cn rfl ?_ ?_<;>intro h6 q6
 refine ap ?_
 refine Tr.ret (Fin.AE (Fin.BU rfl (AO.cell 0 rfl rfl Cq B_ rfl Lr) (AO.tmp rfl Lr) ?_))
 · exact EZ
 refine a2 ?_
 refine co rfl (Xy rfl vq vq) ?_
 refine ac ?_
 refine ag ?_ ?_<;>intro h7 q7
 refine ac ?_
 refine wk [54,12,10,6,5,4,2] rfl (Tr.cond rfl (fun _=> ?_) (fun h=>nomatch h))
 refine Tr.seq (Tr.An (tp rfl (Al (rows:=[]) rfl Sf FU trivial rfl) (TO.AK 0 rfl rfl rfl vq Cm rfl B_ rfl rfl (tm rfl (TO.nil (Fin.go (Tr.ret (Fin.AE (Fin.BU rfl (AO.cell 0 rfl rfl Cq B_ rfl Lr) (AO.tmp rfl Lr) ?_)))))))))
 · exact EZ
 refine ac ?_
 refine wk [54,12,10,6,5,4,2] rfl ?_
 refine Tr.cn rfl ?_ ?_<;>intro h8 q8
 refine ap ?_
 refine Tr.ret (Fin.AE (Fin.BU rfl (AO.cell 0 rfl rfl Cq B_ rfl Lr) (AO.tmp rfl Lr) ?_))
 · exact EZ
 refine a2 ?_
 refine wk [13,12,10,6,5,4,2] rfl (Tr.Vc [2,4,5,6,10,12] [(13,ints od)] (True) ?_ (fun h9=> ?_))
 refine an ?_ ?_<;>intro h10 PC
 refine ac ?_
 exact Fin.AP () trivial ⟨⟨_,rfl,Pr.le_of_eq (by rw [←hod];simp_all)⟩,kz⟩
 refine Tr.skip ?_
 exact Fin.AP () trivial ⟨⟨_,rfl,Pr.le_of_eq (by rw [←hod];simp_all)⟩,kz⟩
 refine ac ?_
 refine Tr.block (Tr.BE _ (kk [13,12,10,6,5,4,2] rfl) (fun k:Nat=>[(14,int ((k:Nat):Int))]) (fun k:Nat=>k≤(od).length) (fun k:Nat=>(od).length-k) 0 (Nat.zero_le _) kz ?_)
 rintro k BV
 refine an ?_ ?_<;>intro h11 Rt
 have Ai:k<(od).length:=AH h11
 obtain ⟨x,Ah⟩:=at_ Ai
 refine a2 ?_
 refine co rfl (AD rfl underlying22 CH vq vq AA (AX Ah)) (co rfl (GX rfl DF rfl) ?_)
 refine co rfl (gL (K4 (e:=e) he.Xi) rfl rfl rfl rfl rfl) ?_
 refine ac ?_
 refine wk [75,14,13,12,10,6,5,4,2] rfl ?_
 refine Tr.cn rfl ?_ ?_<;>intro h12 VQ
 refine a2 ?_
 exact Fin.AP (k+1) ⟨Ai,by omega⟩ ⟨⟨_,rfl,AG k⟩,kz⟩
 have hp:K3 e su (min most e.most) x=true:=by simpa using h12
 have hp0:=mY hp
 obtain ⟨y,hy⟩:=cQ hp0
 refine a2 ?_
 refine co rfl (AD rfl underlying22 CH vq vq AA (AX Ah)) (co rfl (GX rfl DF rfl) ?_)
 refine co rfl (CK (HZ (e:=e) he.Xi) rfl rfl rfl) ?_
 refine ac ?_
 refine wk [15,14,13,12,10,6,5,2] rfl ?_
 refine ac ?_
 refine co rfl (AD rfl underlying38 E6 vq vq AA (Bm hy)) ?_
 refine ac ?_
 refine co rfl (kc5 (fH) rfl rfl rfl rfl rfl rfl) (co rfl (wj rfl (VL.le vq ZH) (VL.le vq (C4 _ _))) ?_)
 refine ac ?_
 refine wk [99,14,13,12,10] rfl (Tr.ex 99 rfl fun AFm=> ?_)
 refine Tr.cn rfl ?_ ?_<;>intro Nv eE
 refine ap ?_
 refine Tr.ret (Fin.AE (Fin.AU (Fin.AE (Fin.AE (Fin.AU (Fin.AE (Fin.BU rfl (AO.cell 0 rfl rfl Cq B_ rfl Lr) (AO.tmp rfl Lr) ?_)))))))
 · exact EZ
 refine ac ?_
 refine ap ?_
 refine tp rfl (AD rfl underlying22 CH vq vq AA (AX Ah)) ?_
 refine ap ?_
 refine Tr.ret (Fin.AU (Fin.AE (Fin.AE (Fin.AU (Fin.AE (Fin.BU rfl (AO.cell 0 rfl rfl Cq B_ rfl Lr) (AO.tmp rfl Lr) ?_))))))
 · exact EZ
 have BL:k=(od).length:=by have:=AJ h11;omega
 subst BL
 refine ac ?_
 refine ap ?_
 refine wk [11,10] rfl (Tr.ret (Fin.BU rfl (AO.cell 0 rfl rfl Cq B_ rfl Lr) (AO.tmp rfl Lr) ?_))
 · exact EZ
theorem Wv {c e:B7} {day:Int} (hc:c.small) (he:e.small):BC prog 305 [agg (Bc c),agg (Bc e),int day] (Cp.ex fun z:Int×Int×Int=>fact True (D7 [agg [int z.1,int z.2.1],int z.2.2])):=by
 refine fo func305 rfl ⟨rfl,rfl⟩ fun M0 w0=>(Tr.seq (Tr.An (tp rfl (BZ rfl Cm) (tp rfl (BZ rfl Cm) ?_))))
 refine Tl rfl rfl rfl rfl JJ FU (fun b1=> ?_)
 refine ap ?_
 refine ap ?_
 refine tp rfl (Xy rfl vq vq) (tp rfl (M9 rfl vq vq) ?_)
 refine ap ?_
 refine tp rfl (kc5 (fI hc he) rfl rfl rfl rfl rfl rfl) ?_
 refine TO.ex 17 rfl (fun z1=>TO.fact 17 rfl fun EY=> ?_)
 refine ap ?_
 refine wk [7,6] rfl (Tr.ret (Fin.BU rfl (AO.cell 0 rfl rfl Cq B_ rfl Lr) (AO.tmp rfl Lr) ?_))
 · exact EZ
abbrev uses (l:List (Int×Int)):Pr:=slice 2 (l.map fun x=>[int x.1,int x.2])
theorem Nd {e:B7} {a b:Int} (he:e.small):BC prog 312 [agg (Bc e),agg [int a,int b]] (Cp.ex fun z:List (Int×Int)×Int=>fact (z.1.length≤1000) (D7 [uses z.1,int z.2])):=by
 refine fo func312 rfl ⟨rfl,rfl⟩ fun M0 w0=> ?_
 refine a2 ?_
 refine co rfl (Ck (FE he) rfl rfl) ?_
 refine an ?_ ?_<;>intro h1 q1
 refine ac ?_
 refine Tr.ret (Fin.AE (Fin.BU rfl (AO.tmp rfl Lr) (AO.tmp rfl Lr) ?_))
 · exact Pu
 refine ac ?_
 refine ao ?_
 refine tp rfl (Ck (Lj (code:=b)) rfl rfl) ?_
 refine ao ?_
 refine Tl rfl rfl rfl rfl R5 Hv (fun b1=> ?_)
 refine TO.AK 0 rfl rfl rfl vq Cm rfl Ff rfl rfl ?_
 refine ao ?_
 refine wk [7,6,3,2] rfl ?_
 refine an ?_ ?_<;>intro h2 q2
 refine ac ?_
 refine Tr.drop 0 (Tr.ret (Fin.AE (Fin.BU rfl (AO.tmp rfl Lr) (AO.tmp rfl Lr) ?_)))
 · exact Pu
 refine a2 ?_
 refine co rfl (CK (HZ (e:=e) he.Xi) rfl rfl rfl) ?_
 refine ac ?_
 refine wk [9,8,6,2] rfl ?_
 refine an ?_ ?_<;>intro h3 q3
 refine ac ?_
 refine Tr.drop 0 (Tr.ret (Fin.AE (Fin.BU rfl (AO.tmp rfl Lr) (AO.tmp rfl Lr) ?_)))
 · exact Pu
 obtain ⟨y,hy⟩:=cQ (ids:=e.ids) (code:=b) KC
 refine ac ?_
 refine ao ?_
 refine tp rfl (AD rfl underlying38 E6 vq vq AA (Bm hy)) ?_
 refine ao ?_
 refine Tl rfl rfl rfl rfl KI EP (fun b2=> ?_)
 refine sf 0 10 ⟨rfl,rfl,rfl⟩ rfl rfl rfl rfl ?_
 refine ao ?_
 refine wk [10,6] rfl ?_
 refine an ?_ ?_<;>intro h4 q4
 refine ao ?_
 refine TO.Dr 0 rfl rfl (A_ rfl rfl vq N0 CH rfl Ao rfl) ?_
 refine ao ?_
 refine ac ?_
 refine Tr.drop 0 (wk [5,4] rfl (Tr.ret (Fin.BU rfl (AO.tmp rfl Lr) (AO.tmp rfl Lr) ?_)))
 · exact Zn
 refine a2 ?_
 refine Tr.drop 0 (wk [5,4] rfl (Tr.ret (Fin.BU rfl (AO.tmp rfl Lr) (AO.tmp rfl Lr) ?_)))
 · exact Zn
theorem mZ {e:B7} (h:GI e=true):1≤e.least∧e.least≤4∧e.most≤4:=by
 unfold GI at h
 simp only [Bool.and_eq_true,decide_eq_true_eq] at h
 omega
theorem Ww {c e:B7} (hc:c.small) (he:e.small):BC prog 314 [agg (Bc c),agg (Bc e)] (Cp.ex fun z:List (Int×Int)=>fact (z.length≤1000) (uses z)):=by
 refine fo func314 rfl ⟨rfl,rfl⟩ fun M0 w0=> ?_
 refine a2 ?_
 refine co rfl (Ck (FE hc) rfl rfl) ?_
 refine ag ?_ ?_<;>intro h1 q1
 refine a3 ?_
 · exact Aw [] (A8 AV (AQ 2))
 refine cy h1 rfl (AL rfl Cj CF vq rfl rfl) (cy h1 rfl (Ck (FE he) rfl rfl) ?_)
 refine an ?_ ?_<;>intro h2 q2
 refine a2 ?_
 · exact Aw [] (A8 AV (AQ 2))
 obtain ⟨hc1,hc2,hc3⟩:=mZ (e:=c) CY
 obtain ⟨he1,he2,he3⟩:=mZ (e:=e) CY
 refine a3 ?_
 refine co rfl (M9 rfl vq vq) ?_
 refine ac ?_
 refine wk [6,5,3,2] rfl (Tr.block (Tr.B5 268 2 ?_))
 refine Tr.C2 _ (kk [3,2] rfl) (fun (v:Int) (o:List (Int×Int)) u=>[(6,int v),(5,Af u (uses o))]) (fun (v:Int) (o:List (Int×Int)) u=>Hp M0 w0 Fa ([Au 268 2 u])) (fun (v:Int) (o:List (Int×Int))=>1≤v∧v≤5∧(o.length:Int)≤(v-1)*16) (fun (v:Int) (o:List (Int×Int))=>(5-v).toNat) (max c.least e.least) ([]) (.slice none 0 0) (⟨by omega,by omega,by simp;omega⟩) ⟨kq,⟨_,rfl,Bn rfl⟩,trivial⟩ (fun _ _ h=>h) ?_
 rintro v o u ⟨gW,Vg,hol⟩
 refine ac ?_
 refine co rfl (Xy rfl vq vq) ?_
 refine an ?_ ?_<;>intro h3 q3
 have hvm:=h3
 refine a2 ?_
 refine Tr.block (Tr.C2 _ (kk [6,3,2] rfl) (fun (k:Int) (q:List (Int×Int)) u3=>[(7,int k),(5,Af u3 (uses q))]) (fun (k:Int) (q:List (Int×Int)) u3=>Hp M0 w0 Fa ([Au 268 2 u3])) (fun (k:Int) (q:List (Int×Int))=>1≤k∧k≤17∧(q.length:Int)≤(v-1)*16+k-1) (fun (k:Int) (q:List (Int×Int))=>(17-k).toNat) (1) (o) u (⟨by omega,by omega,by omega⟩) ⟨kq,⟨_,rfl,BA rfl⟩,trivial⟩ (fun _ _ h=>h) ?_)
 rintro k q u3 ⟨hk1,hk2,hql⟩
 refine an ?_ ?_<;>intro h4 q4
 have hkm:=h4
 refine a2 ?_
 refine co rfl (gL (K4 (e:=e) he.Xi) rfl rfl rfl rfl rfl) ?_
 refine an ?_ ?_<;>intro h5 q5
 refine ap ?_
 refine TO.DZ 0 rfl rfl AB (B4 rfl rfl rfl rfl underlying331 B_ aa JJ H_ GH (Az BJ Kl)) (fun v1=> ?_)
 refine ap ?_
 refine wk [7,6,5,3,2] rfl ?_
 refine ac ?_
 exact Fin.Bg (k+1) (q++[(v,k)]) v1 (⟨⟨by omega,by omega,by simp;omega⟩,by omega⟩) ⟨kq,⟨_,rfl,BA DB⟩,kz⟩ (fun _ _ h=>h)
 refine a2 ?_
 exact Fin.Bg (k+1) (q) u3 (⟨⟨by omega,by omega,by omega⟩,by omega⟩) ⟨kq,⟨_,rfl,BA rfl⟩,kz⟩ (fun _ _ h=>h)
 have hkm:=h4
 refine a2 ?_
 exact Fin.Bg (v+1) (q) u3 (⟨⟨by omega,by omega,by omega⟩,by omega⟩) ⟨kq,⟨_,rfl,BA AV⟩,kz⟩ (fun _ _ h=>h)
 have hvm:=h3
 refine a3 ?_
 · exact OZ
end Go.Proofs.YtmocaapoeefgkaaGreatDoor
