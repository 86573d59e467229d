/-
  Part 6 of the texts that prove this claim, merged.
-/
import Derived.Test.YtmocaapoeefgkaaGreatDoorRcTP5
set_option linter.all false
set_option maxRecDepth 40000
set_option maxHeartbeats 16000000
namespace Cp
open Go Go.RowKit Go.Great
section
variable {P:Program} {L:Lg P} {n:Fm} {fz:Nat} {E:Env} {M0:Av} {w0:World} {S:Nat→Prop} {o:Oper}
def Kj (p:Pr) (v:Value):Aq:=⟨none,true,fun M w=>p.h M w v,fun M w M' w' he _ h=>p.st M w M' w' v he h⟩
def w9 (e:TypeId) (zs:List Value) (v:Value):Aq:=match v with| .slice (some a) _ _=>AF true a.block e (zs.map is)|_=>Bq
def pU (R:Value→Value→Value→Aq) (u:Value):Aq:=match u with| .tuple t=>R (t.getD 1 undef) (t.getD 2 undef) (t.getD 0 undef)|_=>Bq
def UG (R:Value→Value→Aq) (u:Value):Aq:=match u with| .tuple t=>R (t.getD 1 undef) (t.getD 0 undef)|_=>Bq
theorem aI {a:Act} {d s t:Nat} {R:Value→Value→Value→Aq}:SR.at_ a ⟨.three d s t,pU R⟩=R (a.tmps.getD s undef) (a.tmps.getD t undef) (a.tmps.getD d undef):=rfl
theorem Ng {a:Act} {d s:Nat} {R:Value→Value→Aq}:SR.at_ a ⟨.two d s,UG R⟩=R (a.tmps.getD s undef) (a.tmps.getD d undef):=rfl
theorem D4.conv {a:Act} {M:Av} {w:World} {p q:Pr} {j:Nat} {R1 R2:SR} {rs:List Aq} {r:Result Next} (hq:Pr.le p q) (hR:∀v,R1.at_ (a.put o.dst v)=R2.at_ (a.put o.dst v)) (h:D4 P M0 w0 S o a M w p j R1 rs r):D4 P M0 w0 S o a M w q j R2 rs r:=by
 cases r with
 |halt x w'=>exact h
 |ok x w'=>
  cases x
  case value v=>obtain ⟨M',g1,g2,g3⟩:=h;exact ⟨M',hq _ _ _ g1,g2,by rw [←hR];exact g3⟩
  case skip=>obtain ⟨M',g1,g2,g3⟩:=h;exact ⟨M',hq _ _ _ g1,g2,by rw [←hR];exact g3⟩
  case enter f args=>
   refine Calls.mono h ?_
   rintro e w'' ⟨v,M',g0,g1,g2,g3⟩
   exact ⟨v,M',g0,hq _ _ _ g1,g2,by rw [←hR];exact g3⟩
  all_goals exact h
theorem FQ {M:Av} {w:World} {a:Act} (h:Cg M w E o a) (s:Nat) {p0:Pr} (hp0:p0.h M w (a.tmps.getD s undef)):Cg M w ((s,Aa (a.tmps.getD s undef) p0)::E) o a:=fun c p hc hp=>by
 simp only [List.lookup] at hp
 by_cases hcs:c=s
 · subst hcs;simp only [beq_self_eq_true,Option.some.injEq] at hp;subst hp;exact ⟨rfl,hp0⟩
 · rw [show (c==s)=false by simpa using hcs] at hp;exact h c p hc hp
theorem zN {j d s t:Nat} {R:SR} {p1 p2 q:Pr} {p:Value→Value→Pr} {R':Value→Value→Value→Aq} (hd:o.dst=some d) (hs:d≠s) (ht:d≠t) (hq:∀v1 v2,Pr.le (p v1 v2) q) (hg:o.guard=none) (h1:E.lookup s=some p1) (h2:E.lookup t=some p2) (hls:s∈looks o) (hlt:t∈looks o) (h:∀v1 v2,C_ P M0 w0 S n j R ⟨d,R' v1 v2⟩ o ((s,Aa v1 p1)::(t,Aa v2 p2)::E) (p v1 v2)):C_ P M0 w0 S n j R ⟨.three d s t,pU R'⟩ o E q:=by
 refine ⟨hg,fun M w a rs hsz he hI hj=> ?_⟩
 refine D4.conv (hq _ _) (fun v=> ?_) ((h (a.tmps.getD s undef) (a.tmps.getD t undef)).2 M w a rs hsz (FQ (FQ he t (he t p2 hlt h2)) s (he s p1 hls h1)) hI hj)
 rw [aI,hd,BZ (Ne.symm hs),BZ (Ne.symm ht)];rfl
theorem aJ {j d:Nat} {p:Pr} (hg:o.guard=none) (hd:o.dst=some d) (hn:d<n) (h:∀I,Ae P I o E p):C_ P M0 w0 S n j (SR.c Bq) ⟨d,Kj p⟩ o E p:=by
 refine ⟨hg,fun M w a rs hsz he hI hj=> ?_⟩
 have hj':rs[j]? =some Bq:=hj
 have hat:∀v,SR.at_ (a.put o.dst v) ⟨d,Kj p⟩=Kj p v:=fun v=>by show Kj p ((a.put o.dst v).tmps.getD d undef)=_;rw [hd,B0 Gs]
 have V6:=h (Hp M0 w0 S rs) M w a he hI
 revert V6
 generalize (execOp a.eval o).run P w=r
 intro V6
 have key:∀v w',p.h M w' v→Below w.heap.size w w'→∃M',p.h M' w' v∧Ext M w M' w'∧A8 M0 w0 S (rs.set j (SR.at_ (a.put o.dst v) ⟨d,Kj p⟩)) M' w':=fun v w' hv hb=>by
  refine ⟨M,hv,Ext.below hb,?_⟩
  rw [hat]
  exact A8.CV ((Hp M0 w0 S rs).st _ _ _ hb hI) hj' rfl rfl hv
 cases r with
 |halt x w'=>exact V6
 |ok x w'=>
  cases x
  case value v=>exact key v w' V6.1 V6.2
  case skip=>exact key undef w' V6.1 V6.2
  case enter f args=>
   obtain ⟨hb,hc⟩:=V6
   refine Calls.mono hc ?_
   rintro e w'' ⟨v,g0,g1,g2⟩
   obtain ⟨M',k1,k2,k3⟩:=key v w'' g1 (J_ hb g2)
   exact ⟨v,M',g0,k1,k2,k3⟩
  all_goals exact V6
theorem pV {t e:TypeId} {x y:Operand} {d j m gK:Nat} {z:Value} (hg:o.guard=none) (hd:o.dst=some d) (hn:d<n) (ho:o.op= .makeSlice t x y) (ht:P.underlying t=some (.slice e)) (hs:BA P e=some 1) (hby:B1 P e=some gK) (hz:Bb P e=some [z]) (h1:z.oneCell'=true)
  (hx:VL E x (int ((m:Nat):Int))) (hy:VL E y (int ((m:Nat):Int))) (hm:m≤maxLen) (hb:gK*m≤281474976710656):C_ P M0 w0 S n j (SR.c Bq) ⟨d,w9 e (List.replicate m z)⟩ o E (Cp.ex fun b=>is (Js m b)):=by
 refine ⟨hg,fun M w a rs Wn he hI hj=> ?_⟩
 have hx1:a.eval x= .int .i64 m:=hx.ev he Ar
 have hy1:a.eval y= .int .i64 m:=hy.ev he Ar
 have hi:∃i,P.info? e=some i∧i.size=1∧i.bytes=gK∧∃z',i.zero=some z'∧z'.cells= #[z]:=by
  unfold BA at hs;unfold B1 at hby;unfold Bb at hz
  cases hi:P.info? e with
  |none=>rw [hi] at hs;cases hs
  |some i=>
   rw [hi] at hs hby hz
   simp at hs hby hz
   obtain ⟨z',h2,h3⟩:=hz
   exact ⟨i,rfl,hs,hby,z',h2,by rw [←Array.toList_inj,h3]⟩
 obtain ⟨i,hi,hi1,hi2,z',Eh,I6⟩:=hi
 have hmk:madeCells z'.cells m=(List.replicate m z).toArray:=by
  rw [I6]
  apply Array.ext
  · simp [madeCells]
  ·
   intro j h1 h2
   simp [madeCells,Nat.mod_one]
 have hrun:=run_make (P:=P) w t e i z' ht hi Eh .i64 .i64 (m:Int) (m:Int) AA (Int.le_refl _) (by rw [hi2];have h0:((gK*m:Nat):Int)≤281474976710656:=Int.ofNat_le.2 hb;rw [←Int.natCast_mul];exact h0) U4
 rw [hi1] at hrun
 simp only [Int.toNat_natCast,Nat.mul_one] at hrun
 rw [hmk] at hrun
 have Er:(execOp a.eval o).run P w= .ok (.value (Js m w.heap.size)) (w.alloc (.cells (List.replicate m z).toArray e)):=by simp [execOp,ho,hx1,hy1,hrun]
 rw [Er]
 have hb:Below w.heap.size w (w.alloc (.cells (List.replicate m z).toArray e)):=(Below.refl _ _).alloc (Nat.le_refl _) _
 have h2:=Ext.below (M:=M) hb
 have FA:Ext M w (fun b o=>M b o∨b=w.heap.size) (w.alloc (.cells (List.replicate m z).toArray e)):=by
  refine ⟨h2.size,fun a v hc hm=>⟨fun hx=> ?_,(h2.keep a v hc hm).2⟩,fun b o ho hp hm=>⟨fun hx=> ?_,(h2.obj b o ho hp hm).2⟩⟩
  ·
   rcases hx with hx|hx
   · exact Ce
   · exact FI
  ·
   rcases hx with hx|hx
   · exact Ce
   · exact FJ
 have hs1:(w.alloc (.cells (List.replicate m z).toArray e)).heap.size=w.heap.size+1:=by simp
 have hat:(SR.at_ (a.put o.dst (Js m w.heap.size)) ⟨d,w9 e (List.replicate m z)⟩)=AF true w.heap.size e ((List.replicate m z).map is):=by unfold SR.at_ Slot.val;dsimp only;rw [hd,B0 I3];rfl
 refine ⟨fun b o=>M b o∨b=w.heap.size,⟨_,rfl⟩,FA,?_⟩
 rw [hat]
 refine hI.replace hj FA hb.os hb.tape hb.output (fun k hk _=>hb.block k hk) rfl (fun b o hm _=> .inl hm) (fun b o hx=> ?_) ?_ rfl (fun b hbk=> ?_)
 ·
  rcases hx with hx|hx
  · have:=hI.bd _ _ hx;omega
  · omega
 · exact ⟨fun o=> .inr rfl,List.replicate m z,heap_alloc_new w _,La _ _ _,fun c hc=>by rw [List.eq_of_mem_replicate hc];exact h1⟩
 ·
  have E7:some w.heap.size=some b:=hbk
  injection E7 with e1
  subst e1
  exact ⟨by rw [hs1];omega,.inr (Nat.le_refl _)⟩
theorem OW {s:Nat} {op:Op} (h:(Operand.tmp s)∈op.operands.toList) (ho:o.op=op):s∈looks o:=List.mem_filterMap.2 ⟨_,by rw [ho];exact h,rfl⟩
theorem vC {d j s x y:Nat} {T:TypeId} {ps:Value→Value→List Pr} (hg:o.guard=none) (hd:o.dst=some d) (hn:d<n) (ho:o.op= .box T (.tmp s)) (hx:d≠x) (hy:d≠y):
  C_ P M0 w0 S n j ⟨.three s x y,pU fun v1 v2=>Kj (agg (ps v1 v2))⟩ ⟨.three d x y,pU fun v1 v2=>Et T (ps v1 v2)⟩ o E (Cp.ex fun b=>ptr b 0):=by
 refine ⟨hg,fun M w a rs hsz he hI hj=> ?_⟩
 have hj':rs[j]? =some (Kj (agg (ps (a.tmps.getD x undef) (a.tmps.getD y undef))) (a.tmps.getD s undef)):=hj
 have hjl:j<rs.length:=by rcases Nat.lt_or_ge j rs.length with h|h;exact h;rw [List.getElem?_eq_none h] at hj';cases hj'
 have hr:=(hI.hold _ (List.mem_of_getElem? hj')).1
 have hI2:A8 M0 w0 S (rs.set j Bq) M w:=A8.CV hI hj' rfl rfl trivial
 have he2:Cg M w ((s,agg (ps (a.tmps.getD x undef) (a.tmps.getD y undef)))::E) o a:=fun c p hc hp=>by
  simp only [List.lookup] at hp
  by_cases hcs:c=s
  · subst hcs;simp only [beq_self_eq_true,Option.some.injEq] at hp;subst hp;exact hr
  · rw [show (c==s)=false by simpa using hcs] at hp;exact he c p hc hp
 have h:=(uu (P:=P) (M0:=M0) (w0:=w0) (S:=S) (n:=n) (j:=j) (T:=T) (ps:=ps (a.tmps.getD x undef) (a.tmps.getD y undef)) (E:=(s,agg (ps (a.tmps.getD x undef) (a.tmps.getD y undef)))::E) hg hd hn ho (VL.le ⟨_,List.lookup_cons_self,Pr.le_refl _⟩ (Af _))).2 M w a _ hsz he2 hI2 (by rw [List.getElem?_set_self hjl];rfl)
 have h2:D4 P M0 w0 S o a M w (Cp.ex fun b=>ptr b 0) j ⟨d,Et T (ps (a.tmps.getD x undef) (a.tmps.getD y undef))⟩ rs ((execOp a.eval o).run P w):=by
  revert h
  generalize (execOp a.eval o).run P w=r
  intro h
  cases r with
  |halt x w'=>exact h
  |ok x w'=>
   cases x
   case value v=>simpa only [D4,List.set_set] using h
   case skip=>simpa only [D4,List.set_set] using h
   case enter f args=>simpa only [D4,List.set_set] using h
   all_goals exact h
 refine D4.conv (Pr.le_refl _) (fun v=> ?_) h2
 rw [aI,hd,BZ (Ne.symm hx),BZ (Ne.symm hy)];rfl
theorem iT {t:TypeId} {s y:Tmp} {j:Nat} {T:TypeId} {ps:List Pr} {p:Pr} [One p] (hg:o.guard=none) (hd:o.dst=none) (ho:o.op= .store t (.tmp s) (.tmp y)) (hsy:s≠y) (hx:E.lookup s=some (Cp.ex fun b=>ptr b 0)) (hy:E.lookup y=some p)
  (hz:BA P t=some 1) (hl:ps.length=1):C_ P M0 w0 S n j ⟨s,Et T ps⟩ ⟨.two s y,UG fun v=>Et T [Aa v p]⟩ o E any:=by
 refine ⟨hg,fun M w a rs hsz he hI hj=> ?_⟩
 have hyl:y∈looks o:=OW (op:= .store t (.tmp s) (.tmp y)) (by simp [Op.operands]) ho
 have he2:Cg M w ((y,Aa (a.tmps.getD y undef) p)::E) o a:=fun c q hc hq=>by
  simp only [List.lookup] at hq
  by_cases hcs:c=y
  · subst hcs;simp only [beq_self_eq_true,Option.some.injEq] at hq;subst hq;exact ⟨rfl,he _ p hyl hy⟩
  · rw [show (c==y)=false by simpa using hcs] at hq;exact he c q hc hq
 have h:=(Cc (P:=P) (M0:=M0) (w0:=w0) (S:=S) (n:=n) (j:=j) (T:=T) (ps:=ps) (qs:=[Aa (a.tmps.getD y undef) p]) (E:=(y,Aa (a.tmps.getD y undef) p)::E) hg hd ho bl (VL.le ⟨_,List.lookup_cons_self,Pr.le_refl _⟩ (Ad _)) hz rfl hl).2 M w a rs hsz he2 hI hj
 refine D4.conv (Pr.le_refl _) (fun v=> ?_) h
 rw [Ng,hd];rfl
theorem BI.iU {Q:Exit→Act→World→Prop} {rs:List SR} (s:Nat) {p:Pr} (hs:E.lookup s=some p) (k:∀v,BI n M0 w0 S ((s,Aa v p)::E) rs Q):BI n M0 w0 S E rs Q:=by
 rintro a w ⟨M,g1,g2,g3,g4⟩
 refine k (a.tmps.getD s undef) a w ⟨M,g1,g2,fun c z hz=> ?_,g4⟩
 simp only [List.lookup] at hz
 by_cases hcs:c=s
 · subst hcs;simp only [beq_self_eq_true,Option.some.injEq] at hz;subst hz;exact ⟨rfl,g3 c p hs⟩
 · rw [show (c==s)=false by simpa using hcs] at hz;exact g3 c z hz
theorem BI.fix {Q:Exit→Act→World→Prop} {rs:List SR} (j:Nat) {R:SR} (r:Aq) (hR:rs[j]? =some R) (hs:∀a:Act,(∃M w,Fi M w E a)→R.at_ a=r) (k:BI n M0 w0 S E (rs.set j (SR.c r)) Q):BI n M0 w0 S E rs Q:=by
 rintro a w ⟨M,g1,g2,g3,g4⟩
 refine k a w ⟨M,g1,g2,g3,?_⟩
 have e:=hs a ⟨M,w,g3⟩
 have e3:(rs.set j (SR.c r)).map (·.at_ a)=rs.map (·.at_ a):=by
  apply List.ext_getElem?
  intro m
  rw [List.getElem?_map,List.getElem?_map,List.getElem?_set]
  by_cases him:j=m
  ·
   subst him
   have hjl:j<rs.length:=by rcases Nat.lt_or_ge j rs.length with h|h;exact h;rw [List.getElem?_eq_none h] at hR;cases hR
   rw [if_pos rfl,if_pos hjl,hR]
   show some ((SR.c r).at_ a)=some (R.at_ a)
   rw [e];rfl
  · rw [if_neg him]
 rw [e3];exact g4
theorem OX {M:Av} {w:World} {a:Act} {s:Nat} {v:Value} {p:Pr} (h:Fi M w E a) (hs:E.lookup s=some (Aa v p)):a.tmps.getD s undef=v:=(h s _ hs).1
theorem BI.aK {Q:Exit→Act→World→Prop} {rs:List SR} (j s:Nat) {f:Value→Aq} {v:Value} {p:Pr} (hR:rs[j]? =some ⟨s,f⟩) (hs:E.lookup s=some (Aa v p)) (k:BI n M0 w0 S E (rs.set j (SR.c (f v))) Q):BI n M0 w0 S E rs Q:=
 BI.fix j _ hR (fun a ⟨_,_,h⟩=>by show f (a.tmps.getD s undef)=_;rw [OX h hs]) k
theorem BI.iV {Q:Exit→Act→World→Prop} {rs:List SR} (j d s:Nat) {f:Value→Value→Aq} {u v:Value} {p q:Pr} (hR:rs[j]? =some ⟨.two d s,UG f⟩) (hd:E.lookup d=some (Aa u p)) (hs:E.lookup s=some (Aa v q)) (k:BI n M0 w0 S E (rs.set j (SR.c (f v u))) Q):BI n M0 w0 S E rs Q:=
 BI.fix j _ hR (fun a ⟨_,_,h⟩=>by rw [Ng,OX h hs,OX h hd]) k
theorem BI.AG9 {Q:Exit→Act→World→Prop} {rs:List SR} (j d s t:Nat) {f:Value→Value→Value→Aq} {u v1 v2:Value} {p q1 q2:Pr} (hR:rs[j]? =some ⟨.three d s t,pU f⟩) (hd:E.lookup d=some (Aa u p)) (hs:E.lookup s=some (Aa v1 q1)) (ht:E.lookup t=some (Aa v2 q2)) (k:BI n M0 w0 S E (rs.set j (SR.c (f v1 v2 u))) Q):BI n M0 w0 S E rs Q:=
 BI.fix j _ hR (fun a ⟨_,_,h⟩=>by rw [aI,OX h hs,OX h ht,OX h hd]) k
end
section
variable {P:Program} {L:Lg P} {n:Fm} {fz:Nat} {E:Env} {I:Ck} {M0:Av} {w0:World} {S:Nat→Prop} {rs:List Aq} {Q:Exit→Act→World→Prop} {c:Code}
theorem Fin.shape {e:Exit} (s:Nat) {v:Value} (form:Nat→Value) (hs:E.lookup s=some (Aa v (Cp.ex fun b=>is (form b)))) (k:∀b,v=form b→Fin n ((s,is (form b))::E) (Hp M0 w0 S rs) Q e):Fin n E (Hp M0 w0 S rs) Q e:=by
 intro a w hst
 obtain ⟨M,h1,h2,he,h4⟩:=hst
 obtain ⟨h5,b,h6⟩:=he s _ hs
 have hv:v=form b:=by rw [←h5];exact h6
 refine k b hv a w ⟨M,h1,h2,fun c z hz=> ?_,h4⟩
 simp only [List.lookup] at hz
 by_cases hcs:c=s
 · subst hcs;simp only [beq_self_eq_true,Option.some.injEq] at hz;subst hz;exact h6
 · rw [show (c==s)=false by simpa using hcs] at hz;exact he c z hz
theorem Fin.F4 {e:Exit} (j:Nat) {r:Aq} (r':Aq) (hi:rs[j]? =some r) (h:r=r') (k:Fin n E (Hp M0 w0 S (rs.set j r')) Q e):Fin n E (Hp M0 w0 S rs) Q e:=by
 subst h
 have hjl:j<rs.length:=by rcases Nat.lt_or_ge j rs.length with h|h;exact h;rw [List.getElem?_eq_none h] at hi;cases hi
 have e1:rs.set j r=rs:=by
  apply List.ext_getElem?
  intro m
  rw [List.getElem?_set]
  by_cases him:j=m
  · subst him;rw [if_pos rfl,if_pos hjl,hi]
  · rw [if_neg him]
 rw [e1] at k;exact k
theorem Tr.ADr {α:Type} (ni:α→Fm) (Ei:α→Env) (Ii:α→Ck) (C:α→Prop) (μ:α→Nat) (x0:α) (hn:ni x0=n) (h0:C x0) (hs:CZ E (Ei x0)) (hI:∀M w,I.h M w→(Ii x0).h M w)
  (k:∀x,C x→Tr L (ni x) (Ei x) (Ii x) c (Exit.then (fun a w=>∃y,(C y∧μ y<μ x)∧St (ni y) (Ei y) (Ii y) a w) Q)):Tr L n E I (.loop c) Q:=by
 intro a w hst
 refine L.loop μ (fun x a w=>C x∧St (ni x) (Ei x) (Ii x) a w) (fun x a w ⟨hc,h⟩=> ?_) x0 a w ⟨h0,?_⟩
 ·
  refine L.mono ?_ (k x hc a w h)
  intro e a w hq
  cases e with
  |normal=>obtain ⟨y,⟨h1,h2⟩,h3⟩:=hq;exact ⟨y,h2,h1,h3⟩
  |_=>exact hq
 · rw [hn];exact hst.sub hs hI
theorem Fin.Kk {e:Exit} {rs':List Aq} (hp:rs.Perm rs') (k:Fin n E (Hp M0 w0 S rs') Q e):Fin n E (Hp M0 w0 S rs) Q e:=fun a w ⟨M,h1,h2,h3,h4⟩=>k a w ⟨M,h1,h2,h3,A8.perm hp h4⟩
theorem BS.ofM {f : FuncId} {g : Func} {ps : List Pr} {res : Pr} {R : Aq} {R' : Value → Aq} (hf : P.funcs[f]? = some g) (hb : g.body = some c) (hname : (g.name == "runtime.NumGoroutine") = false) (hlen : ps.length ≤ g.ntmps)
  (h:∀M0 w0 S rs M1 w1,Tr (Yi P) g.ntmps (L3 0 ps) (Hp M0 w0 S (R::Ak M1 w1::rs)) c (Jm P g (Mx M0 w0 S rs M1 w1 res R'))):BS P f ps res R R':=by
 refine ⟨⟨g,hf,hname,by rw [hb];rfl⟩,fun M0 w0 S rs M w vs hI hv=> ?_⟩
 refine O9 hf hb (h M0 w0 S rs M w _ _ ⟨M,?_,rfl,GG hv,?_⟩)
 ·
  have:=hv.length
  simp [this];omega
 · exact Y9
end
section
variable {P:Program} {L:Lg P} {n:Fm} {fz:Nat} {E:Env} {I:Ck} {M0:Av} {w0:World} {S:Nat→Prop} {rs:List Aq} {Q:Exit→Act→World→Prop} {c:Code}
abbrev GU (l D:Nat) (rec:Obj) (M1:Av) (w1:World) (rs:List Aq):List Aq:=BO l rec::BO D (.deferred (some []))::Ak M1 w1::rs
theorem Tr.zO {α:Type} {p gf:Nat} {g:Operand} {lb:Array Value} {enc:α→Value} {xs:List α} {own:List α→List Aq} {assign body:Code} (q:Nat) (K:Env) (hK:CZ E K) (R:List α→List Aq)
  (hIt:Nf P gf lb enc xs own) (eg:Entry P gf) (hg:VL E g (is (.func (.func gf) #[] lb))) (PO:rs.Perm (own []++R [])) (hp:K.lookup p=none) (hpn:p<n.sz)
  (hassign:∀l D rec M1 w1 pre x,(pre++[x])<+:xs→Tr (eT P (some l)) ⟨n.sz,[]⟩ ((p,is (enc x))::K) (Hp M0 w0 S (own (pre++[x])++GU l D rec M1 w1 (R pre))) assign (Exit.then (St ⟨n.sz,[]⟩ ((q,is (enc x))::K) (Hp M0 w0 S (own (pre++[x])++GU l D rec M1 w1 (R pre)))) (fun _ _ _=>False)))
  (hbody : ∀ l D rec M1 w1 pre x, (pre ++ [x]) <+: xs → Tr (eT P (some l)) ⟨n.sz, []⟩ ((q, is (enc x)) :: K) (Hp M0 w0 S (own (pre ++ [x]) ++ GU l D rec M1 w1 (R pre))) body
   (JU M0 w0 S (fun _:Unit=>own (pre++[x])++GU l D rec M1 w1 (R (pre++[x]))) (fun _ _=>own (pre++[x])++GU l D rec M1 w1 [CK False])))
  (hdone:∀l D rec M1 w1,Fin ⟨n.sz,mark D::n.df⟩ E (Hp M0 w0 S (own xs++GU l D rec M1 w1 (R xs))) Q .normal):
  Tr (Yi P) n E (Hp M0 w0 S rs) (.rangeFunc g #[p] assign body) Q:=by
 refine Tr.o_ (fun x=>(q,is (enc x))::K) (fun pre (_:Unit)=>R pre) (fun _ _ _=>[CK False]) () hIt (fun args w=>DL eg args w) hg PO ?_ ?_ (fun l D rec M1 w1 _=>hdone l D rec M1 w1) ?_
 ·
  intro l D rec M1 w1 pre x d hpre a hsz hE M w hI
  have hx:Ext M1 w1 M w:=(hI.hold (Ak M1 w1) AU).1
  refine hassign l D rec M1 w1 pre x hpre _ w ⟨M,by simpa using hsz,rfl,fun s z hq=> ?_,hI⟩
  simp only [List.lookup] at hq
  by_cases hs:s=p
  ·
   subst hs
   simp only [beq_self_eq_true,Option.some.injEq] at hq
   subst hq
   show (a.tmps.setIfInBounds s (enc x)).getD s undef=enc x
   simp [Array.getD_eq_getD_getElem?,hsz,hpn]
  ·
   rw [show (s==p)=false by simpa using hs] at hq
   obtain ⟨z',Eh,I6⟩:=hK.spec s z hq
   have h2:=z.st _ _ _ _ _ hx (I6 _ _ _ (hE s z' Eh))
   show z.h M w ((a.tmps.setIfInBounds p (enc x)).getD s undef)
   have e1:(a.tmps.setIfInBounds p (enc x)).getD s undef=a.tmps.getD s undef:=by
    simp only [Array.getD_eq_getD_getElem?]
    rw [Array.getElem?_setIfInBounds_ne (fun e=>hs e.symm)]
   rw [e1];exact h2
 ·
  intro l D rec M1 w1 pre x d hpre
  exact hbody l D rec M1 w1 pre x hpre
 ·
  intro l D rec M1 w1 c pre d hpre a w ⟨M,_,_,_,h⟩
  have h:A8 M0 w0 S (own pre++GU l D rec M1 w1 [CK False]) M w:=h
  exact ((h.hold (CK False) AU).1).elim
theorem Fin.st {E1:Env} {Q':Exit→Act→World→Prop} (hs:CZ E E1):Fin n E I (Exit.then (St n E1 I) Q') .normal:=fun _ _ h=>h.sub hs (fun _ _ h=>h)
theorem Fin.rnd {β:Type} {rr:β→List Aq} {rx:Code→β→List Aq} (d:β) (hp:rs.Perm (rr d)):Fin n E (Hp M0 w0 S rs) (JU M0 w0 S rr rx) .normal:=fun _ _ ⟨M,_,_,_,h⟩=>⟨d,M,A8.perm hp h⟩
theorem Tr.zP {α β:Type} (K:Env) (hK:CZ E K) (ni:α→β→Fm) (Ei:α→β→Env) (Ii:α→β→Ck) (C:α→β→Prop) (μ:α→β→Nat) (x0:α) (y0:β) (hn:ni x0 y0=n) (h0:C x0 y0) (hs:CZ E (Ei x0 y0)) (hI:∀M w,I.h M w→(Ii x0 y0).h M w)
  (k:∀x y,C x y→Tr L (ni x y) (Ei x y++K) (Ii x y) c (Exit.then (fun a w=>∃x' y',(C x' y'∧μ x' y'<μ x y)∧St (ni x' y') (Ei x' y'++K) (Ii x' y') a w) Q)):Tr L n E I (.loop c) Q:=
 Tr.ADr (fun p : α × β => ni p.1 p.2) (fun p => Ei p.1 p.2 ++ K) (fun p => Ii p.1 p.2) (fun p => C p.1 p.2) (fun p => μ p.1 p.2) (x0, y0) hn h0 (Mu hs hK) hI
  fun ⟨x,y⟩ hC a w hst=>L.mono (fun e a w hq=>by
   cases e with
   |normal=>obtain ⟨x',y',h1,h2⟩:=hq;exact ⟨(x',y'),h1,h2⟩
   |_=>exact hq) (k x y hC a w hst)
theorem Fin.ADs {α β:Type} {ni:α→β→Fm} {E1:α→β→Env} {I1:α→β→Ck} {C:α→β→Prop} (i:α) (j:β) (hn:ni i j=n) (hC:C i j) (hs:CZ E (E1 i j)) (hI:∀M w,I.h M w→(I1 i j).h M w):Fin n E I (Exit.then (fun a w=>∃x y,C x y∧St (ni x y) (E1 x y) (I1 x y) a w) Q) .normal:=
 fun _ _ hst=>⟨i,j,hC,by rw [hn];exact hst.sub hs hI⟩
end
section
variable {P:Program} {fz:Nat} {E:Env} {M0 M1:Av} {w0 w1:World} {S:Nat→Prop} {g:Func} {α β:Type} {xs:List α} {own:List α→List Aq} {R Rx:List α→β→List Aq}
theorem Fin.ADt {d:β} (hr:g.results= #[]):Fin ⟨fz,[]⟩ E (Hp M0 w0 S (own xs++Ak M1 w1::R xs d)) (Jm P g fun e w'=>(∃v,e= .returned v)∧∃M' d',Ext M1 w1 M' w'∧(A8 M0 w0 S (own xs++R xs d') M' w'∨∃pre,pre<+:xs∧A8 M0 w0 S (own pre++Rx pre d') M' w')) .normal:=by
 refine Fin.zI (Fin.SH ?_)
 rintro a w ⟨M,_,hd,he,hi⟩
 obtain ⟨h1,h2⟩:=ID hi
 exact ⟨hd,_,results0 hr,⟨_,rfl⟩,M,d,h1,.inl h2⟩
theorem Fin.zQ {d:β} {pre:List α} (hr:g.results= #[]) (hp:pre<+:xs):Fin ⟨fz,[]⟩ E (Hp M0 w0 S (own pre++Ak M1 w1::Rx pre d)) (Jm P g fun e w'=>(∃v,e= .returned v)∧∃M' d',Ext M1 w1 M' w'∧(A8 M0 w0 S (own xs++R xs d') M' w'∨∃pre,pre<+:xs∧A8 M0 w0 S (own pre++Rx pre d') M' w')) .ret:=by
 refine Fin.SH ?_
 rintro a w ⟨M,_,hd,he,hi⟩
 obtain ⟨h1,h2⟩:=ID hi
 exact ⟨hd,_,results0 hr,⟨_,rfl⟩,M,d,h1,.inr ⟨pre,hp,h2⟩⟩
theorem BS.zR {f:FuncId} {args:List Pr} {form:Nat→Value} {r':Value→Aq} (h:E4 P f args [] (fun _=>True) (fun b=>is (form b)) (fun b=>[r' (form b)])):BS P f args (Cp.ex fun b=>is (form b)) Bq r':=by
 refine ⟨h.1,fun M0 w0 S rs M w vs hI hv=>(h.2 M0 w0 S rs M w vs (A8.KD hI) hv).mono ?_⟩
 rintro e w' ⟨v,M',b,rfl,_,h1,h2,h3⟩
 obtain rfl:v=form b:=h1
 exact ⟨_,M',rfl,⟨b,rfl⟩,h2,h3⟩
end
end Cp
namespace Go.Proofs.YtmocaapoeefgkaaGreatDoor
open Go Go.RowKit Cp Go.Proofs.Tryz
theorem V7 {b:BitVec 32} {i:Nat}  :BF prog 184 [u32 b,int ((i:Nat):Int)] (bool (b.getLsbD i)):=by
 refine fo func184 rfl ⟨rfl,rfl⟩ fun M0 w0=> ?_
 refine a2 ?_
 refine co rfl (pJ rfl vq vq (Int.natCast_nonneg _)) ?_
 refine co rfl (SA (c:=1#32) rfl vq vq) ?_
 refine co rfl (zK rfl vq vq) ?_
 refine a2 ?_
 · exact Lr
abbrev QU:TypeId:=181
abbrev iW (b:Nat):Value:= .func (.func 222) #[] #[.pointer (some ⟨b,0,none⟩)]
def AG_ (s:BitVec 32) (v:Value):Aq:=match v with| .func _ _ #[.pointer (some a)]=>AF true a.block QU [u32 s]|_=>Bq
def JX (s:BitVec 32) (pre:List Nat):BitVec 32:=pre.foldl iR s
theorem OY (s:BitVec 32) (pre:List Nat) (x:Nat):JX s (pre++[x])=iR (JX s pre) x:=by unfold JX;rw [List.foldl_append];rfl
theorem zS {s:BitVec 32}  :E4 (α:=Nat) prog 181 [u32 s] [] (fun _=>True) (fun b=>is (iW b)) (fun b=>[AF true b QU [u32 s]]):=by
 refine E4.of func181 rfl rfl Az fun M0 w0 S rs M1 w1=>(Tr.seq (Tr.Ap ?_))
 refine TO.VG rfl rfl AB rfl Lj (fun b1=> ?_)
 refine ap ?_
 refine Tr.seq (Tr.Al (co rfl (vB rfl vq) ?_))
 refine ac ?_
 refine Tr.ret (Fin.wh (b1) rfl (AL.tmp rfl Lr) trivial ?_ (List.Perm.refl _))
 · exact Lr
theorem ej {s:BitVec 32}:BS Tryz.prog 181 [u32 s] (Cp.ex fun b=>is (iW b)) Bq (AG_ s):=BS.zR zS
theorem QV {s:BitVec 32} {b:Nat}  :Nf prog 222 #[.pointer (some ⟨b,0,none⟩)] (fun i:Nat=> .int .i64 (i:Int)) (Iq s) (fun pre=>[CY,AF true b QU [u32 (JX s pre)]]):=by
 refine Nf.of (ps:=[is (.pointer (some ⟨b,0,none⟩))]) func222 rfl Az (fun _ _=>⟨rfl,trivial⟩) ?_
 intro M0 w0 S l β R Rx M1 w1 hy d
 refine Tr.block (Tr.Cy [(0,_),(1,_)] ⟨ke rfl,ke rfl,trivial⟩ (fun (pre:List Nat) (d2:β)=>[]) (fun (pre:List Nat) (d2:β)=>Hp M0 w0 S (CY::AF true b QU [u32 (JX s pre)]::Ak M1 w1::R pre d2)) (fun (pre:List Nat) (d2:β)=>pre++Iq (JX s pre)=Iq s) (fun (pre:List Nat) (d2:β)=>(Iq (JX s pre)).length) ([]) (d)  (rfl) trivial (fun _ _ h=>h) ?_)
 rintro pre d2  hpe
 refine Tr.seq (Tr.seq (Tr.Al (co rfl (CN 1 rfl (A_ rfl Ec (vl rfl) rfl)) (co rfl (pQ rfl (vl rfl) (vl rfl)) (Ch.nil (Fin.go ?_))))))
 refine Tr.cn rfl ?_ ?_<;>intro h1 q1
 have hne:JX s pre≠0#32:=by simpa using h1
 have pW:=SD hne
 have Sz:=aE hne
 have hpx:(pre++[Jx (JX s pre)])<+:Iq s:=⟨Iq (iR (JX s pre) (Jx (JX s pre))),by rw [←hpe,pW];simp⟩
 refine Tr.skip (Fin.go (Tr.block (Tr.seq (Tr.Ap (TO.rd 1 rfl rfl rfl AB (A_ rfl Ec (vl rfl) rfl) (TO.GK 0 rfl rfl AB (Aj rfl rfl AB rfl (zL hne) ⟨ke rfl,trivial⟩) (tm rfl (TO.nil (Fin.go (Tr.seq (Tr.GI mixed [some (0,1,false,0),none,none,none,some (0,1,true,0)] BV (IZ 1 rfl rfl (A_ rfl Ec (vl rfl) rfl) (xm rfl ?_)))))))))))))
 refine xo rfl (fun _=>Ip (b:=1#32) rfl (vl rfl) (vl rfl) (Int.natCast_nonneg _)) ?_
 refine xo rfl (fun _=>Ki rfl (vl rfl) (vl rfl)) (Cx.DG 1 rfl rfl (Aw rfl rfl (vl rfl) (Vo rfl) FV rfl Az rfl) ?_)
 refine Cx.nil ⟨rfl,?_⟩
 refine BI.done (At.cons (At.cons (At.cons (At.map _)))) (Fin.go (Tr.seq ?_))
 refine Tr.HZ 1 [u32 (JX s (pre++[Jx (JX s pre)]))] rfl ⟨Pr.le_of_eq (by rw [OY];rfl),trivial⟩ ?_
 refine Tr.pT (own:=fun pre=>[CY,AF true b QU [u32 (JX s pre)]]) (pre:=pre) (x:=Jx (JX s pre)) (d:=d2) hy hpx rfl rfl rfl rfl rfl rfl rfl rfl rfl rfl rfl rfl Az Az Az Az AB rfl rfl rfl rfl rfl (fun d3=> ?_) (fun d3=> ?_)
 refine Fin.go (Tr.cond rfl (fun h=>nomatch h) (fun _=> ?_))
 refine Tr.skip (Fin.block ?_)
 exact Fin.Cu (pre++[Jx (JX s pre)]) (d3)  (⟨by rw [OY,List.append_assoc,←hpe,pW];rfl,by rw [OY,pW];simp⟩) ⟨ke rfl,ke rfl,trivial⟩ (fun _ _ h=>h)
 refine Fin.go (Tr.cond rfl (fun _=> ?_) (fun h=>nomatch h))
 refine Tr.ret (Fin.AR (Fin.AE (Fin.AR (Fin.zQ (g:=f222) (own:=fun pre=>[CY,AF true b QU [u32 (JX s pre)]]) (R:=R) (Rx:=Rx) (d:=d3) rfl hpx))))
 have hz:JX s pre=0#32:=by simpa using h1
 obtain rfl:pre=Iq s:=by rw [hz,pK,List.append_nil] at hpe;exact hpe
 refine Tr.exit (Fin.Ac (Fin.Ac (Fin.A0 (Fin.ADt (g:=f222) (own:=fun pre=>[CY,AF true b QU [u32 (JX s pre)]]) (xs:=Iq s) (R:=R) (Rx:=Rx) (d:=d2) rfl))))
theorem QW:Entry Tryz.prog 222:=⟨_,Tryz.func222,rfl,rfl⟩
-- bits as AIO are ADu (behind AIP.lean)
def bvF (p:Nat→Bool):Nat→BitVec 32
 |0=>0#32
 |k+1=>if p k then Wh (bvF p k) k else bvF p k
theorem aL (p:Nat→Bool):∀(k:Nat) {j:Nat},k≤32→(bvF p k).getLsbD j=(decide (j<k)&&p j)
 |0,j,_=>by simp [bvF]
 |k+1,j,hk=>by
  have ih:= @aL p k j AA
  unfold bvF
  split
  next h=>
   rw [SB AA,ih]
   by_cases hj:k=j
   · subst hj;simp [h]
   ·
    by_cases h2:j<k
    ·
     have:j<k+1:=by omega
     simp [h2,this,hj]
    ·
     have:¬j<k+1:=by omega
     simp [h2,this,hj]
  next h=>
   rw [ih]
   by_cases hj:k=j
   · subst hj;simp at h;simp [h]
   ·
    by_cases h2:j<k
    ·
     have:j<k+1:=by omega
     simp [h2,this]
    ·
     have:¬j<k+1:=by omega
     simp [h2,this]
def D8 (n:Nat) (l:List BH):List (BitVec 32):=(List.range n).map fun b=>bvF (fun a=>C8 l n a b) n
theorem C0 (n:Nat) (l:List BH):(D8 n l).length=n:=by unfold D8;simp
theorem FT {n:Nat} {l:List BH} (hn:n≤32):Dx n (D8 n l) (C8 l n):=by
 refine ⟨C0 n l,fun b x hx a=> ?_⟩
 unfold D8 at hx
 rw [List.getElem?_map] at hx
 rcases Nat.lt_or_ge b n with hb|hb
 ·
  rw [List.getElem?_range hb] at hx
  simp only [Option.map_some,Option.some.injEq] at hx
  subst hx
  exact aL _ n hn
 · rw [List.getElem?_eq_none Fg] at hx;cases hx
theorem aM {n:Nat} {B C:List (BitVec 32)} {M:Nat→Nat→Bool} (h:Dx n B M) (h':Dx n C M):B=C:=by
 apply List.ext_getElem?
 intro b
 rcases Nat.lt_or_ge b n with hb|hb
 ·
  obtain ⟨x,hx⟩:=at_ (l:=B) (k:=b) (by rw [h.1];exact hb)
  obtain ⟨y,hy⟩:=at_ (l:=C) (k:=b) (by rw [h'.1];exact hb)
  rw [hx,hy]
  congr 1
  exact BitVec.eq_of_getLsbD_eq fun i _=>by rw [h.2 b x hx,h'.2 b y hy]
 · rw [List.getElem?_eq_none (by rw [h.1];exact hb),List.getElem?_eq_none (by rw [h'.1];exact hb)]
theorem iX {l:List BH} {k:Nat} {r:BH} (h:l[k]? =some r) (a b:Nat):GA (l.take (k+1)) a b=(GA (l.take k) a b||(decide (r.fst=(a:Int))&&decide (r.thn=(b:Int)))):=by
 unfold GA;rw [List.take_add_one,h,List.any_append];simp
theorem aN {n:Nat} {B:List (BitVec 32)} {l:List BH} {k:Nat} {r:BH} {x:BitVec 32} (h:Dx n B (GA (l.take k))) (hr:l[k]? =some r) (hf:0≤r.fst∧r.fst<n) (ht:0≤r.thn) (hx:B[r.thn.toNat]? =some x) (hn:n≤32):Dx n (B.set r.thn.toNat (Wh x r.fst.toNat)) (GA (l.take (k+1))):=by
 refine F3 (Xz h hx (f:=r.fst.toNat) AA hn) fun a b _ _=> ?_
 rw [iX hr]
 congr 1
 rw [decide_eq_decide.2 (show r.fst.toNat=a↔r.fst=(a:Int) by omega),decide_eq_decide.2 (show r.thn.toNat=b↔r.thn=(b:Int) by omega)]
def HV (i:Nat) (A:List (BitVec 32)) (k:Nat):List (BitVec 32):=A.set k (Wh (A.getD k 0#32) i)
def G9 (B:List (BitVec 32)):Nat→List (BitVec 32)
 |0=>List.replicate B.length 0#32
 |i+1=>(Iq (B.getD i 0#32)).foldl (HV i) (G9 B i)
theorem OZ (i:Nat):∀(ks:List Nat) (A:List (BitVec 32)),(ks.foldl (HV i) A).length=A.length
 |[],_=>rfl
 |k::ks,A=>by rw [List.foldl_cons,OZ i ks];unfold HV;rw [List.length_set]
theorem Ir (B:List (BitVec 32)):∀i,(G9 B i).length=B.length
 |0=>List.length_replicate
 |i+1=>by unfold G9;rw [OZ,Ir B i]
theorem UH {B:List (BitVec 32)} {i:Nat} {x:BitVec 32} (h:B[i]? =some x):G9 B (i+1)=(Iq x).foldl (HV i) (G9 B i):=by
 rw [G9,List.getD_eq_getElem?_getD,h];rfl
theorem SI {n i:Nat} (hi:i<n) (hn:n≤32):∀(ks:List Nat) {A:List (BitVec 32)} {M:Nat→Nat→Bool},Dx n A M→(∀k∈ks,k<n)→Dx n (ks.foldl (HV i) A) (fun b a=>M b a||(decide (b=i)&&ks.contains a))
 |[],A,M,h,_=>F3 h fun a b _ _=>by simp
 |k::ks,A,M,h,hk=>by
  rw [List.foldl_cons]
  obtain ⟨x,hx⟩:=at_ (l:=A) (k:=k) (by rw [h.1];exact hk k AU)
  have h1:Dx n (HV i A k) (fun b a=>M b a||(decide (i=b)&&decide (k=a))):=by
   unfold HV
   rw [List.getD_eq_getElem?_getD,hx]
   exact Xz h hx hi hn
  refine F3 (SI hi hn ks h1 (fun j hj=>hk j (List.mem_cons_of_mem _ hj))) fun b a _ _=> ?_
  by_cases hb:b=i
  ·
   subst hb
   by_cases ha:k=a
   · subst ha;simp
   ·
    have:¬a=k:=fun e=>ha e.symm
    simp [ha,this]
  ·
   have:¬i=b:=fun e=>hb e.symm
   simp [hb,this]
theorem UI {n:Nat} {B:List (BitVec 32)} {M:Nat→Nat→Bool} (h:Dx n B M) (hn:n≤32):∀(i:Nat),i≤n→Dx n (G9 B i) (fun b a=>M a b&&decide (b<i))
 |0,_=>by
  rw [G9,h.1]
  exact F3 (SE n) fun a b _ _=>by simp
 |i+1,hi=>by
  obtain ⟨x,hx⟩:=at_ (l:=B) (k:=i) (by rw [h.1];omega)
  rw [UH hx]
  have hlt:∀k∈Iq x,k<n:=fun k hk=>by
   have:=F2.1 hk
   rw [h.2 i x hx,Bool.and_eq_true,decide_eq_true_eq] at this
   exact this.1
  refine F3 (SI AA hn (Iq x) (UI h hn i AA) hlt) fun b a hb ha=> ?_
  by_cases e:b=i
  ·
   subst e
   have hc:(Iq x).contains a=M a b:=by
    rw [Bool.eq_iff_iff,List.contains_iff_mem,F2,h.2 b x hx,Bool.and_eq_true,decide_eq_true_eq]
    exact ⟨fun g=>g.2,fun g=>⟨ha,g⟩⟩
   rw [hc];simp
  ·
   by_cases h2:b<i
   ·
    have:b<i+1:=by omega
    simp [e,h2,this]
   ·
    have:¬b<i+1:=by omega
    simp [e,h2,this]
theorem eo {n:Nat} {l:List BH} (hn:n≤32):ADq n l (D8 n l) (G9 (D8 n l) n):=
 ⟨FT hn,F3 (UI (FT hn) hn n (Nat.le_refl _)) fun a b ha _=>by simp [ha]⟩
def MT (B:List (BitVec 32)) (s:BitVec 32):Nat→BitVec 32
 |0=>0#32
 |k+1=>if (!s.getLsbD k&&(B.getD k 0#32&&&~~~s==0#32))=true then Wh (MT B s k) k else MT B s k
theorem pX {B:List (BitVec 32)} {s x:BitVec 32} {k:Nat} (hx:B[k]? =some x) (h1:s.getLsbD k=false) (h2:(x&&&~~~s==0#32)=true):MT B s (k+1)=Wh (MT B s k) k:=by
 rw [MT,List.getD_eq_getElem?_getD,hx,if_pos];rw [h1];simpa using h2
theorem vD {B:List (BitVec 32)} {s x:BitVec 32} {k:Nat} (hx:B[k]? =some x) (h:s.getLsbD k=true∨(x&&&~~~s==0#32)=false):MT B s (k+1)=MT B s k:=by
 rw [MT,List.getD_eq_getElem?_getD,hx,if_neg]
 intro hc
 rw [Bool.and_eq_true] at hc
 rcases h with h|h
 · rw [h] at hc;cases hc.1
 · have:=hc.2;rw [show (some x).getD 0#32=x from rfl,h] at this;cases this
theorem pY (B:List (BitVec 32)) (s:BitVec 32):∀k,MT B s k=bvF (fun j=> !s.getLsbD j&&(B.getD j 0#32&&&~~~s==0#32)) k
 |0=>rfl
 |k+1=>by unfold MT bvF;rw [pY B s k]
theorem vE {n:Int} {l:List BH} {s:BitVec 32} {d:List Int} (hv:BD n l=0) (hs:Lq n.toNat s d) (hc:CR l d=true) (j:Nat):(MT (D8 n.toNat l) s n.toNat).getLsbD j=(decide (j<n.toNat)&&Jw l d true j):=by
 obtain ⟨h0,_⟩:=Co hv
 rw [pY,aL _ _ AA]
 by_cases hj:j<n.toNat
 ·
  obtain ⟨x,hx⟩:=at_ (l:=D8 n.toNat l) (k:=j) (by rw [C0];exact hj)
  rw [u7 hv (FT AA) hs hc hx hj,List.getD_eq_getElem?_getD,hx];rfl
 · simp [hj]
abbrev bits (B:List (BitVec 32)):Pr:=slice 1 (B.map fun x=>[u32 x])
def zT (a b:BH):Int:=orF [Ju a.fst b.fst,Ju a.thn b.thn]
theorem V8 {a b:BH}:decide (zT a b≥0)= !Ey a b:=by
 unfold zT Ey
 rw [Bool.eq_iff_iff,decide_eq_true_eq]
 simp only [orF,Ju]
 repeat' split
 all_goals (simp;try omega)
theorem LL {B:List (BitVec 32)} {i:Int} {x:BitVec 32} (h:B[i.toNat]? =some x):(B.map fun x=>u32 x)[0+i.toNat*1]? =some (u32 x):=by rw [Nat.zero_add,Nat.mul_one,List.getElem?_map,h];rfl
theorem SJ {B:List (BitVec 32)} {i:Int} {x y:BitVec 32} (h:B[i.toNat]? =some x):(B.map fun x=>u32 x).take (0+i.toNat*1)++[u32 y]++(B.map fun x=>u32 x).drop (0+i.toNat*1+1)=(B.set i.toNat y).map fun x=>u32 x:=by
 have hl:i.toNat<B.length:=by rcases Nat.lt_or_ge i.toNat B.length with h2|h2;exact h2;rw [List.getElem?_eq_none h2] at h;cases h
 rw [Nat.zero_add,Nat.mul_one,List.set_eq_take_append_cons_drop,if_pos hl]
 simp [List.map_take,List.map_drop]
theorem UJ (B:List (BitVec 32)):(B.map fun x=>u32 x)=(B.map fun x=>[u32 x]).flatten++([]:List Value).map is:=by
 induction B with
 |nil=>rfl
 |cons x B ih=>simp at ih ⊢;exact ih
theorem UK (n:Nat):(List.replicate n (Value.int .u32 0)).map is=(List.replicate n 0#32).map fun x=>u32 x:=by rw [List.map_replicate,List.map_replicate];rfl
theorem Nh {B:List (BitVec 32)} {i:Nat} {x:BitVec 32} (h:B[i]? =some x):(B.map fun x=>[u32 x])[((i:Nat):Int).toNat]? =some [u32 x]:=by rw [Int.toNat_natCast,List.getElem?_map,h];rfl
theorem iY {i k:Nat} {pre:List Nat} {A:List (BitVec 32)} {y:BitVec 32} (h:(pre.foldl (HV i) A)[k]? =some y):(pre.foldl (HV i) A).set k (Wh y i)=(pre++[k]).foldl (HV i) A:=by
 rw [List.foldl_append]
 show _=(pre.foldl (HV i) A).set k (Wh ((pre.foldl (HV i) A).getD k 0#32) i)
 rw [List.getD_eq_getElem?_getD,h];rfl
theorem zU {n:Nat} {r:BH} (h:Fa n r=false):(0≤r.fst∧r.fst<n)∧(0≤r.thn∧r.thn<n)∧r.fst≠r.thn:=by
 unfold Fa at h;rw [decide_eq_false_iff_not] at h;omega
theorem zV {ps qs:List Pr} (h:Q_ ps qs):Pr.le (ref ps) (ref qs):=fun M w v ⟨a,h1,h2⟩=>⟨a,h1,fun i q hq=>by
 obtain ⟨p,hp,hle⟩:=h.at_ i q hq
 obtain ⟨u,g1,g2⟩:=h2 i p hp
 exact ⟨u,g1,g2.1,g2.2.1,hle _ _ _ g2.2.2⟩⟩
theorem aO {xs pre:List Nat} {x:Nat} (h:(pre++[x])<+:xs):x∈xs:=h.subset AU
theorem aP {a b:BH}  :BF prog 182 [agg (PJ a),agg (PJ b)] (int (zT a b)):=by
 refine fo func182 rfl ⟨rfl,rfl⟩ fun M0 w0=> ?_
 refine a2 ?_
 refine co rfl (CS (Ze) rfl rfl rfl) ?_
 refine ac ?_
 refine co rfl (CS (Ze) rfl rfl rfl) (co rfl (AP (xs:=[.tmp 9,.tmp 14]) (rows:=[[_],[_]]) rfl rfl underlying22 Bs z3 rfl AB ⟨⟨Ao,Lj⟩,⟨⟨Ao,Lj⟩,trivial⟩⟩ AB) ?_)
 refine co rfl (AV rfl (ADD (l:=[Ju a.fst b.fst,Ju a.thn b.thn])) ⟨Gn,trivial⟩) ?_
 refine ac ?_
 refine wk [4] rfl ?_
 refine ac ?_
 · exact Lr
theorem iZ {n:Nat} {l:List BH} (hn:n≤24) (hbd:∀r∈l,Fa n r=false):BS Tryz.prog 183 [int ((n:Nat):Int),reqs l] (ref [int ((n:Nat):Int),bits (D8 n l),bits (G9 (D8 n l) n)]) (CY) (fun _=>CY):=by
 refine BS.ofM Tryz.func183 rfl rfl Bx fun M0 w0 S rs M1 w1=> ?_
 refine Tr.Cl 1 rfl fun F0=> ?_
 refine Tr.seq ?_
 refine Tr.Al ?_
 refine Ch.op rfl rfl AB (Cq rfl (vl rfl)) ?_
 refine Ch.nil ?_
 refine Fin.go ?_
 refine Tr.seq ?_
 refine Tr.pad ?_
 refine Tr.pad ?_
 refine Tr.pad ?_
 refine Tr.pad ?_
 refine Tr.GI mixed [none,none,some (0,0,true,14),none,some (0,1,true,16),some (0,2,true,.three 17 14 16),some (.three 17 14 16,2,true,.three 18 14 16),some (0,3,true,5),some (5,3,true,.two 5 18)] BV ?_
 refine Cx.op rfl rfl AB (fun _=>BQ rfl (vl rfl)) ?_
 refine Cx.op rfl rfl AB (fun _=>BQ rfl (vl rfl)) ?_
 refine Cx.ef 0 rfl rfl AB (pV rfl rfl AB rfl Tryz.underlying232 FV wO yD rfl (vl rfl) (vl rfl) GF AA) ?_
 refine Cx.op rfl rfl AB (fun _=>BQ rfl (vl rfl)) ?_
 refine Cx.ef 1 rfl rfl AB (pV rfl rfl AB rfl Tryz.underlying232 FV wO yD rfl (vl rfl) (vl rfl) GF AA) ?_
 refine Cx.ef 2 rfl rfl AB (zN (d:=17) (s:=14) (t:=16) (q:=any) rfl AB AB (fun _ _ _ _ _ _=>trivial) rfl rfl rfl AB AB (fun v1 v2=>aJ rfl rfl AB (fun _=>An (rows:=[(0,[_]),(1,[_]),(2,[_])]) rfl AB0 AB1 ⟨⟨rfl,VL.le (vl rfl) (Ad _)⟩,⟨⟨rfl,VL.le (vl rfl) (Ad _)⟩,⟨⟨rfl,VL.le (vl rfl) (Ad _)⟩,trivial⟩⟩⟩ rfl))) ?_
 refine Cx.ef 2 rfl rfl AB (vC rfl rfl AB rfl AB AB) ?_
 refine Cx.ef 3 rfl rfl AB (CA rfl rfl AB rfl AFs ABw) ?_
 refine Cx.DG 3 rfl rfl (iT rfl rfl rfl AB rfl rfl ABv rfl) ?_
 refine Cx.nil ⟨rfl,?_⟩
 refine BI.iU 14 rfl (fun v14=> ?_)
 refine BI.iU 16 rfl (fun v16=> ?_)
 refine BI.iU 18 rfl (fun v18=> ?_)
 refine BI.iU 5 rfl (fun v5=> ?_)
 refine BI.aK 0 14 rfl rfl ?_
 refine BI.aK 1 16 rfl rfl ?_
 refine BI.AG9 2 18 14 16 rfl rfl rfl rfl ?_
 refine BI.iV 3 5 18 rfl rfl rfl ?_
 refine BI.done (At.cons (At.cons (At.cons (At.cons (At.cons (At.cons (At.map _))))))) ?_
 refine Fin.shape 14 (fun b=>Js n b) rfl (fun b1 e1=> ?_)
 refine Fin.shape 16 (fun b=>Js n b) rfl (fun b2 e2=> ?_)
 refine Fin.shape 18 (fun b=> .pointer (some ⟨b,0,none⟩)) rfl (fun b3 e3=> ?_)
 refine Fin.shape 5 (fun b=> .pointer (some ⟨b,0,none⟩)) rfl (fun b4 e4=> ?_)
 subst e1 e2 e3 e4
 refine Fin.F4 0 (AF true b1 QU ((List.replicate n 0#32).map fun x=>u32 x)) rfl (by rw [←UK];rfl) ?_
 refine Fin.F4 1 (AF true b2 QU ((List.replicate n 0#32).map fun x=>u32 x)) rfl (by rw [←UK];rfl) ?_
 refine Fin.F4 2 (AF true b3 234 [int ((n:Nat):Int),Aa (Js n b1) _,Aa (Js n b2) _]) rfl rfl ?_
 refine Fin.HZ 2 [int ((n:Nat):Int),is (Js n b1),is (Js n b2)] rfl ⟨Pr.le_refl _,EC _ _,EC _ _,trivial⟩ ?_
 refine Fin.F4 3 (AF true b4 176 [Aa (.pointer (some ⟨b3,0,none⟩)) _]) rfl rfl ?_
 refine Fin.HZ 3 [ptr b3 0] rfl ⟨EC _ _,trivial⟩ ?_
 refine Fin.go ?_
 refine Tr.seq ?_
 refine Tr.seq ?_
 refine Tr.Al ?_
 refine Ch.op rfl rfl AB (BQ rfl (vl rfl)) ?_
 first
  |refine Ch.op rfl rfl AB (CJ rfl Tryz.underlying33 (vl rfl)) ?_
  |refine Ch.op rfl rfl AB (Ci rfl Tryz.underlying33 (vl rfl)) ?_
 refine Ch.op rfl rfl AB (BQ rfl (vl rfl)) ?_
 refine Ch.nil ?_
 refine Fin.go ?_
 refine Tr.block ?_
 refine Tr.Cy [(0,_),(5,_),(19,_),(20,_)] ⟨⟨_,rfl,Pr.le_refl _⟩,⟨_,rfl,Pr.le_refl _⟩,⟨_,rfl,Pr.le_refl _⟩,⟨_,rfl,Pr.le_refl _⟩,trivial⟩ (fun (B:List (BitVec 32)) (m:Nat)=>[(21,int ((m:Nat):Int))]) (fun (B:List (BitVec 32)) (m:Nat)=>Hp M0 w0 S (AF true b1 QU (B.map fun x=>u32 x)::AF true b2 QU ((List.replicate n 0#32).map fun x=>u32 x)::AF true b3 234 [int ((n:Nat):Int),is (Js n b1),is (Js n b2)]::AF true b4 176 [ptr b3 0]::CY::Ak M1 w1::rs)) (fun (B:List (BitVec 32)) (m:Nat)=>m≤l.length∧Dx n B (GA (l.take m))) (fun (B:List (BitVec 32)) (m:Nat)=>l.length-m) (List.replicate n 0#32) (0)  (⟨Nat.zero_le _,F3 (SE n) fun a b _ _=>rfl⟩) ⟨⟨_,rfl,Pr.le_refl _⟩,trivial⟩ (fun _ _ h=>h) ?_
 rintro B m  ⟨hm0,hB⟩
 refine Tr.seq ?_
 refine Tr.Al ?_
 refine Ch.op rfl rfl AB (ok_int rfl (vl rfl) (vl rfl) rfl) ?_
 refine Ch.nil ?_
 refine Fin.go ?_
 refine Tr.seq ?_
 refine Tr.cond rfl (fun h1=> ?_) (fun h1=> ?_)
 ·
  have q1:=DH.Dp h1
  have hm:m<l.length:=AH h1
  obtain ⟨r,hr⟩:=at_ hm
  obtain ⟨hf,ht,_⟩:=zU (hbd r (List.mem_of_getElem? hr))
  have hBl:=hB.1
  obtain ⟨x,hx⟩:=at_ (l:=B) (k:=r.thn.toNat) AA
  refine Tr.skip ?_
  refine Fin.go ?_
  refine Tr.seq ?_
  refine Tr.block ?_
  refine Tr.seq ?_
  refine Tr.Ap ?_
  refine TO.op rfl rfl AB (AD rfl Tryz.underlying33 C2 (vl rfl) (vl rfl) AA (AZ hr)) ?_
  refine TO.op rfl rfl AB (AM rfl Fx C2 (vl rfl) rfl rfl) ?_
  refine TO.alloc rfl rfl AB rfl Sv RH (fun b5=> ?_)
  refine TO.AK 0 rfl rfl rfl (vl rfl) (VL.le (vl rfl) (Af _)) rfl C2 rfl rfl ?_
  refine TO.freeze 0 7 rfl rfl ?_
  refine TO.nil ?_
  refine Fin.go ?_
  refine Tr.GI mixed [some (0,3,false,0),none,none,some (0,2,false,0),none,none,none,some (0,0,false,0),none,none,none,none,none,some (0,0,true,0)] BV ?_
  refine Cx.rd 3 rfl rfl rfl AB (A_ rfl JF (vl rfl) rfl) ?_
  refine Cx.op rfl rfl AB (fun _=>EP rfl (vl rfl)) ?_
  refine Cx.op rfl rfl AB (fun _=>AW rfl JH (vl rfl)) ?_
  refine Cx.rd 2 rfl rfl rfl AB (A_ rfl JG (vl rfl) rfl) ?_
  refine Cx.op rfl rfl AB (fun _=>E2 rfl ZR (vl rfl) rfl) ?_
  refine Cx.op rfl rfl AB (fun _=>DC rfl Cs (vl rfl)) ?_
  refine Cx.op rfl rfl AB (fun _=>BL rfl Tryz.underlying232 FV (vl rfl) (vl rfl) AA AA) ?_
  refine Cx.rd 0 rfl rfl rfl AB (A_ rfl Ec (vl rfl) (LL hx)) ?_
  refine Cx.op rfl rfl AB (fun _=>E2 rfl ZQ (vl rfl) rfl) ?_
  refine Cx.op rfl rfl AB (fun _=>DC rfl Cs (vl rfl)) ?_
  refine Cx.op rfl rfl AB (fun _=>Ip (b:=1#32) rfl (vl rfl) (vl rfl) AA) ?_
  refine Cx.op rfl rfl AB (fun _=>LK rfl (vl rfl) (vl rfl)) ?_
  refine Cx.op rfl rfl AB (fun _=>BL rfl Tryz.underlying232 FV (vl rfl) (vl rfl) AA AA) ?_
  refine Cx.DG 0 rfl rfl (Aw rfl rfl (vl rfl) (VL.le (vl rfl) (Ad _)) FV rfl C1 (SJ hx)) ?_
  refine Cx.nil ⟨rfl,?_⟩
  refine BI.done (At.cons (At.cons (At.cons (At.cons (At.cons (At.cons (At.map _))))))) ?_
  refine Fin.block ?_
  refine Fin.go ?_
  refine Tr.weak [(0,_),(5,_),(19,_),(20,_),(21,_)] ⟨⟨_,rfl,Pr.le_refl _⟩,⟨_,rfl,Pr.le_refl _⟩,⟨_,rfl,Pr.le_refl _⟩,⟨_,rfl,Pr.le_refl _⟩,⟨_,rfl,Pr.le_refl _⟩,trivial⟩ ?_
  refine Tr.Al ?_
  first
   |(refine Ch.op rfl rfl AB (EO rfl (vl rfl) (vl rfl) ?hin) ?_;case hin=>unfold Mn;omega)
   |refine Ch.op rfl rfl AB (ok_int rfl (vl rfl) (vl rfl) rfl) ?_
  refine Ch.op rfl rfl AB (BQ rfl (vl rfl)) ?_
  refine Ch.nil ?_
  exact Fin.Cu (B.set r.thn.toNat (Wh x r.fst.toNat)) (m+1)  (⟨⟨hm,aN hB hr hf ht.1 hx AA⟩,by omega⟩) ⟨⟨_,rfl,AG m⟩,⟨_,rfl,Pr.le_refl _⟩,⟨_,rfl,Pr.le_refl _⟩,⟨_,rfl,Pr.le_refl _⟩,⟨_,rfl,Pr.le_refl _⟩,trivial⟩ (fun _ _ h=>h)
 ·
  have q1:=DH.Dp h1
  have hml:m=l.length:=by have:=AJ h1;omega
  rw [hml,List.take_length] at hB
  refine Tr.exit ?_
  refine Fin.Ac ?_
  refine Fin.Ac ?_
  refine Fin.A0 ?_
  refine Fin.go ?_
  refine Tr.seq ?_
  refine Tr.seq ?_
  refine Tr.Al ?_
  refine Ch.op rfl rfl AB (BQ rfl (vl rfl)) ?_
  refine Ch.op rfl rfl AB (BQ rfl (vl rfl)) ?_
  refine Ch.nil ?_
  refine Fin.go ?_
  refine Tr.block ?_
  refine Tr.Cy [(0,_),(5,_),(39,_)] ⟨⟨_,rfl,Pr.le_refl _⟩,⟨_,rfl,Pr.le_refl _⟩,⟨_,rfl,Pr.le_refl _⟩,trivial⟩ (fun (B2:List (BitVec 32)) (k:Nat)=>[(40,int ((k:Nat):Int))]) (fun (B2:List (BitVec 32)) (k:Nat)=>Hp M0 w0 S (AF true b1 QU (B2.map fun x=>u32 x)::AF true b2 QU ((List.replicate n 0#32).map fun x=>u32 x)::AF true b3 234 [int ((n:Nat):Int),is (Js n b1),is (Js n b2)]::AF true b4 176 [ptr b3 0]::CY::Ak M1 w1::rs)) (fun (B2:List (BitVec 32)) (k:Nat)=>k≤n∧Dx n B2 (C8 l k)) (fun (B2:List (BitVec 32)) (k:Nat)=>n-k) (B) (0)  (⟨Nat.zero_le _,hB⟩) ⟨⟨_,rfl,Pr.le_refl _⟩,trivial⟩ (fun _ _ h=>h) ?_
  rintro B2 k  ⟨hk0,hB2⟩
  refine Tr.seq ?_
  refine Tr.Al ?_
  refine Ch.op rfl rfl AB (ok_int rfl (vl rfl) (vl rfl) rfl) ?_
  refine Ch.nil ?_
  refine Fin.go ?_
  refine Tr.seq ?_
  refine Tr.cond rfl (fun h2=> ?_) (fun h2=> ?_)
  ·
   have q2:=DH.Dp h2
   have hk:k<n:=AH h2
   refine Tr.skip ?_
   refine Fin.go ?_
   refine Tr.seq ?_
   refine Tr.block ?_
   refine Tr.seq ?_
   refine Tr.Al ?_
   refine Ch.op rfl rfl AB (BQ rfl (vl rfl)) ?_
   refine Ch.op rfl rfl AB (Cq rfl (vl rfl)) ?_
   refine Ch.nil ?_
   refine Fin.go ?_
   refine Tr.seq ?_
   refine Tr.Al ?_
   refine Ch.op rfl rfl AB (BQ rfl (vl rfl)) ?_
   refine Ch.op rfl rfl AB (BQ rfl (vl rfl)) ?_
   refine Ch.nil ?_
   refine Fin.go ?_
   refine Tr.block ?_
   refine Tr.Cy [(0,_),(5,_),(8,_),(39,_),(40,_),(43,_)] ⟨⟨_,rfl,Pr.le_refl _⟩,⟨_,rfl,Pr.le_refl _⟩,⟨_,rfl,Pr.le_refl _⟩,⟨_,rfl,Pr.le_refl _⟩,⟨_,rfl,Pr.le_refl _⟩,⟨_,rfl,Pr.le_refl _⟩,trivial⟩ (fun (B3:List (BitVec 32)) (i:Nat)=>[(44,int ((i:Nat):Int))]) (fun (B3:List (BitVec 32)) (i:Nat)=>Hp M0 w0 S (AF true b1 QU (B3.map fun x=>u32 x)::AF true b2 QU ((List.replicate n 0#32).map fun x=>u32 x)::AF true b3 234 [int ((n:Nat):Int),is (Js n b1),is (Js n b2)]::AF true b4 176 [ptr b3 0]::CY::Ak M1 w1::rs)) (fun (B3:List (BitVec 32)) (i:Nat)=>i≤n∧Dx n B3 (LY k (C8 l k) i)) (fun (B3:List (BitVec 32)) (i:Nat)=>n-i) (B2) (0)  (⟨Nat.zero_le _,by rw [zG];exact hB2⟩) ⟨⟨_,rfl,Pr.le_refl _⟩,trivial⟩ (fun _ _ h=>h) ?_
   rintro B3 i  ⟨hi0,hB3⟩
   refine Tr.seq ?_
   refine Tr.Al ?_
   refine Ch.op rfl rfl AB (ok_int rfl (vl rfl) (vl rfl) rfl) ?_
   refine Ch.nil ?_
   refine Fin.go ?_
   refine Tr.seq ?_
   refine Tr.cond rfl (fun h3=> ?_) (fun h3=> ?_)
   ·
    have q3:=DH.Dp h3
    have hi:i<n:=AH h3
    have hBl:=hB3.1
    obtain ⟨x,hx⟩:=at_ (l:=B3) (k:=i) AA
    obtain ⟨y,hy⟩:=at_ (l:=B3) (k:=k) AA
    refine Tr.skip ?_
    refine Fin.go ?_
    refine Tr.seq ?_
    refine Tr.block ?_
    refine Tr.seq ?_
    refine Tr.Al ?_
    refine Ch.op rfl rfl AB (BQ rfl (vl rfl)) ?_
    refine Ch.op rfl rfl AB (Cq rfl (vl rfl)) ?_
    refine Ch.nil ?_
    refine Fin.go ?_
    refine Tr.seq ?_
    refine Tr.Al ?_
    refine Ch.op rfl rfl AB (CN 3 rfl (A_ rfl JF (vl rfl) rfl)) ?_
    refine Ch.op rfl rfl AB (EP rfl (vl rfl)) ?_
    refine Ch.op rfl rfl AB (AW rfl JH (vl rfl)) ?_
    refine Ch.op rfl rfl AB (CN 2 rfl (A_ rfl JG (vl rfl) rfl)) ?_
    refine Ch.op rfl rfl AB (BQ rfl (vl rfl)) ?_
    refine Ch.op rfl rfl AB (BL rfl Tryz.underlying232 FV (vl rfl) (vl rfl) AA AA) ?_
    refine Ch.op rfl rfl AB (CN 0 rfl (A_ rfl Ec (vl rfl) (LL hx))) ?_
    refine Ch.op rfl rfl AB (BQ rfl (vl rfl)) ?_
    refine Ch.op rfl rfl AB (AV rfl (V7) ⟨⟨_,rfl,Pr.le_refl _⟩,⟨_,rfl,Pr.le_refl _⟩,trivial⟩) ?_
    refine Ch.nil ?_
    refine Fin.go ?_
    refine Tr.weak [(0,_),(5,_),(8,_),(9,_),(39,_),(40,_),(43,_),(44,_),(55,_)] ⟨⟨_,rfl,Pr.le_refl _⟩,⟨_,rfl,Pr.le_refl _⟩,⟨_,rfl,Pr.le_refl _⟩,⟨_,rfl,Pr.le_refl _⟩,⟨_,rfl,Pr.le_refl _⟩,⟨_,rfl,Pr.le_refl _⟩,⟨_,rfl,Pr.le_refl _⟩,⟨_,rfl,Pr.le_refl _⟩,⟨_,rfl,Pr.le_refl _⟩,trivial⟩ ?_
    refine Tr.cond rfl (fun h4=> ?_) (fun h4=> ?_)
    ·
     have q4:=DH.Dp h4
     refine Tr.GI mixed [some (0,3,false,0),none,none,some (0,2,false,0),none,none,some (0,0,false,0),some (0,3,false,0),none,none,some (0,2,false,0),none,none,some (0,0,false,0),none,none,some (0,0,true,0)] BV ?_
     refine Cx.rd 3 rfl rfl rfl AB (A_ rfl JF (vl rfl) rfl) ?_
     refine Cx.op rfl rfl AB (fun _=>EP rfl (vl rfl)) ?_
     refine Cx.op rfl rfl AB (fun _=>AW rfl JH (vl rfl)) ?_
     refine Cx.rd 2 rfl rfl rfl AB (A_ rfl JG (vl rfl) rfl) ?_
     refine Cx.op rfl rfl AB (fun _=>BQ rfl (vl rfl)) ?_
     refine Cx.op rfl rfl AB (fun _=>BL rfl Tryz.underlying232 FV (vl rfl) (vl rfl) AA AA) ?_
     refine Cx.rd 0 rfl rfl rfl AB (A_ rfl Ec (vl rfl) (LL hx)) ?_
     refine Cx.rd 3 rfl rfl rfl AB (A_ rfl JF (vl rfl) rfl) ?_
     refine Cx.op rfl rfl AB (fun _=>EP rfl (vl rfl)) ?_
     refine Cx.op rfl rfl AB (fun _=>AW rfl JH (vl rfl)) ?_
     refine Cx.rd 2 rfl rfl rfl AB (A_ rfl JG (vl rfl) rfl) ?_
     refine Cx.op rfl rfl AB (fun _=>BQ rfl (vl rfl)) ?_
     refine Cx.op rfl rfl AB (fun _=>BL rfl Tryz.underlying232 FV (vl rfl) (vl rfl) AA AA) ?_
     refine Cx.rd 0 rfl rfl rfl AB (A_ rfl Ec (vl rfl) (LL hy)) ?_
     refine Cx.op rfl rfl AB (fun _=>LK rfl (vl rfl) (vl rfl)) ?_
     refine Cx.op rfl rfl AB (fun _=>BL rfl Tryz.underlying232 FV (vl rfl) (vl rfl) AA AA) ?_
     refine Cx.DG 0 rfl rfl (Aw rfl rfl (vl rfl) (VL.le (vl rfl) (Ad _)) FV rfl C1 (SJ hx)) ?_
     refine Cx.nil ⟨rfl,?_⟩
     refine BI.done (At.cons (At.cons (At.cons (At.cons (At.cons (At.cons (At.map _))))))) ?_
     refine Fin.block ?_
     refine Fin.go ?_
     refine Tr.weak [(0,_),(5,_),(8,_),(39,_),(40,_),(43,_),(44,_)] ⟨⟨_,rfl,Pr.le_refl _⟩,⟨_,rfl,Pr.le_refl _⟩,⟨_,rfl,Pr.le_refl _⟩,⟨_,rfl,Pr.le_refl _⟩,⟨_,rfl,Pr.le_refl _⟩,⟨_,rfl,Pr.le_refl _⟩,⟨_,rfl,Pr.le_refl _⟩,trivial⟩ ?_
     refine Tr.Al ?_
     first
      |(refine Ch.op rfl rfl AB (EO rfl (vl rfl) (vl rfl) ?hin) ?_;case hin=>unfold Mn;omega)
      |refine Ch.op rfl rfl AB (ok_int rfl (vl rfl) (vl rfl) rfl) ?_
     refine Ch.op rfl rfl AB (BQ rfl (vl rfl)) ?_
     refine Ch.nil ?_
     exact Fin.Cu (B3.set i (x|||y)) (i+1)  (⟨⟨hi,pO hB3 hx hy (by rw [←X0 hB3 hx hk];exact h4)⟩,by omega⟩) ⟨⟨_,rfl,AG i⟩,⟨_,rfl,Pr.le_refl _⟩,⟨_,rfl,Pr.le_refl _⟩,⟨_,rfl,Pr.le_refl _⟩,⟨_,rfl,Pr.le_refl _⟩,⟨_,rfl,Pr.le_refl _⟩,⟨_,rfl,Pr.le_refl _⟩,trivial⟩ (fun _ _ h=>h)
    ·
     have q4:=DH.Dp h4
     refine Tr.skip ?_
     refine Fin.block ?_
     refine Fin.go ?_
     refine Tr.Al ?_
     first
      |(refine Ch.op rfl rfl AB (EO rfl (vl rfl) (vl rfl) ?hin) ?_;case hin=>unfold Mn;omega)
      |refine Ch.op rfl rfl AB (ok_int rfl (vl rfl) (vl rfl) rfl) ?_
     refine Ch.op rfl rfl AB (BQ rfl (vl rfl)) ?_
     refine Ch.nil ?_
     exact Fin.Cu (B3) (i+1)  (⟨⟨hi,u6 hB3 (by rw [←X0 hB3 hx hk];exact h4)⟩,by omega⟩) ⟨⟨_,rfl,AG i⟩,⟨_,rfl,Pr.le_refl _⟩,⟨_,rfl,Pr.le_refl _⟩,⟨_,rfl,Pr.le_refl _⟩,⟨_,rfl,Pr.le_refl _⟩,⟨_,rfl,Pr.le_refl _⟩,⟨_,rfl,Pr.le_refl _⟩,trivial⟩ (fun _ _ h=>h)
   ·
    have q3:=DH.Dp h3
    have hin:i=n:=by have:=AJ h3;omega
    rw [hin] at hB3
    refine Tr.exit ?_
    refine Fin.Ac ?_
    refine Fin.Ac ?_
    refine Fin.A0 ?_
    refine Fin.block ?_
    refine Fin.go ?_
    refine Tr.Al ?_
    first
     |(refine Ch.op rfl rfl AB (EO rfl (vl rfl) (vl rfl) ?hin) ?_;case hin=>unfold Mn;omega)
     |refine Ch.op rfl rfl AB (ok_int rfl (vl rfl) (vl rfl) rfl) ?_
    refine Ch.op rfl rfl AB (BQ rfl (vl rfl)) ?_
    refine Ch.nil ?_
    exact Fin.Cu (B3) (k+1)  (⟨⟨hk,F3 hB3 fun a b _ hb=>pM hb⟩,by omega⟩) ⟨⟨_,rfl,AG k⟩,⟨_,rfl,Pr.le_refl _⟩,⟨_,rfl,Pr.le_refl _⟩,⟨_,rfl,Pr.le_refl _⟩,trivial⟩ (fun _ _ h=>h)
  ·
   have q2:=DH.Dp h2
   have hkn:k=n:=by have:=AJ h2;omega
   rw [hkn] at hB2
   obtain rfl:=aM hB2 (FT AA)
   refine Tr.exit ?_
   refine Fin.Ac ?_
   refine Fin.Ac ?_
   refine Fin.A0 ?_
   refine Fin.go ?_
   refine Tr.seq ?_
   refine Tr.seq ?_
   refine Tr.Al ?_
   refine Ch.op rfl rfl AB (BQ rfl (vl rfl)) ?_
   refine Ch.op rfl rfl AB (BQ rfl (vl rfl)) ?_
   refine Ch.nil ?_
   refine Fin.go ?_
   refine Tr.block ?_
   refine Tr.zP [(5,_),(74,_)] ⟨⟨_,rfl,Pr.le_refl _⟩,⟨_,rfl,Pr.le_refl _⟩,trivial⟩ (fun Ds i=>⟨_,Ds.map Cp.mark⟩) (fun Ds i=>[(75,int ((i:Nat):Int))]) (fun Ds i=>Hp M0 w0 S (AF true b1 QU ((D8 n l).map fun x=>u32 x)::AF true b2 QU ((G9 (D8 n l) i).map fun x=>u32 x)::AF true b3 234 [int ((n:Nat):Int),is (Js n b1),is (Js n b2)]::AF true b4 176 [ptr b3 0]::CY::(Ds.map X5++Ak M1 w1::rs))) (fun Ds i=>i≤(n)) (fun Ds i=>(n)-i) [] 0 rfl (Nat.zero_le _) ⟨⟨_,rfl,Pr.le_refl _⟩,trivial⟩ ((by rw [G9,C0];exact fun _ _ h=>h)) ?_
   rintro Ds i Xg
   refine Tr.seq ?_
   refine Tr.Al ?_
   refine Ch.op rfl rfl Bx (ok_int rfl (vl rfl) (vl rfl) rfl) ?_
   refine Ch.nil ?_
   refine Fin.go ?_
   refine Tr.seq ?_
   refine Tr.cond rfl (fun h5=> ?_) (fun h5=> ?_)
   ·
    have q5:=DH.Dp h5
    have Jv:i<(n):=AH h5
    obtain ⟨x,hx⟩:=at_ (l:=D8 n l) (k:=i) (by rw [C0];omega)
    refine Tr.skip ?_
    refine Fin.go ?_
    refine Tr.seq ?_
    refine Tr.block ?_
    refine Tr.seq ?_
    refine Tr.Ap ?_
    refine TO.op rfl rfl Bx (BQ rfl (vl rfl)) ?_
    refine TO.alloc rfl rfl Bx rfl z3 zo3 (fun b6=> ?_)
    refine TO.AK 0 rfl rfl rfl (vl rfl) (VL.le (vl rfl) (Ad _)) rfl Bs rfl rfl ?_
    refine TO.freeze 0 10 rfl rfl ?_
    refine TO.nil ?_
    refine Fin.go ?_
    refine Tr.seq ?_
    refine Tr.pad ?_
    refine Tr.GI mixed [some (0,4,false,0),none,none,some (0,3,false,0),none,none,some (0,1,false,0),some (0,0,true,85)] BV ?_
    refine Cx.rd 4 rfl rfl rfl Bx (A_ rfl JF (vl rfl) rfl) ?_
    refine Cx.op rfl rfl Bx (fun _=>EP rfl (vl rfl)) ?_
    refine Cx.op rfl rfl Bx (fun _=>AW rfl JH (vl rfl)) ?_
    refine Cx.rd 3 rfl rfl rfl Bx (A_ rfl JG (vl rfl) rfl) ?_
    refine Cx.op rfl rfl Bx (fun _=>DC rfl Cs (vl rfl)) ?_
    refine Cx.op rfl rfl Bx (fun _=>BL rfl Tryz.underlying232 FV (vl rfl) (vl rfl) AA AA) ?_
    refine Cx.rd 1 rfl rfl rfl Bx (A_ rfl Ec (vl rfl) (LL hx)) ?_
    refine Cx.ef 0 rfl rfl Bx (Fu rfl rfl Bx rfl (ej) ⟨⟨_,rfl,Pr.le_refl _⟩,trivial⟩) ?_
    refine Cx.nil ⟨rfl,?_⟩
    refine BI.open_ 0 85 rfl rfl (fun v1=> ?_)
    refine BI.done (At.cons (At.cons (At.cons (At.cons (At.cons (At.cons (At.map _))))))) ?_
    refine Fin.shape 85 (fun b=>iW b) rfl (fun fb7 fe7=> ?_)
    subst fe7
    refine Fin.F4 0 (AF true fb7 QU [_]) rfl rfl ?_
    refine Fin.go ?_
    refine Tr.weak [(5,_),(10,_),(74,_),(75,_),(85,_)] ⟨⟨_,rfl,Pr.le_refl _⟩,⟨_,rfl,Pr.le_refl _⟩,⟨_,rfl,Pr.le_refl _⟩,⟨_,rfl,Pr.le_refl _⟩,⟨_,rfl,Pr.le_refl _⟩,trivial⟩ ?_
    refine Tr.block ?_
    refine Tr.zO 11 [(5,_),(10,_)] ⟨⟨_,rfl,Pr.le_refl _⟩,⟨_,rfl,Pr.le_refl _⟩,trivial⟩ (fun pre=>AF true b1 QU ((D8 n l).map fun x=>u32 x)::AF true b2 QU ((pre.foldl (HV i) (G9 (D8 n l) i)).map fun x=>u32 x)::AF true b3 234 [int ((n:Nat):Int),is (Js n b1),is (Js n b2)]::AF true b4 176 [ptr b3 0]::(Ds.map X5++Ak M1 w1::rs)) (QV (s:=x)) QW (vl rfl) ((Cm (j:=5) rfl).trans (List.Perm.cons _ ((Cm (j:=0) rfl).trans (List.Perm.cons _ (List.Perm.refl _))))) rfl Bx ?_ ?_ ?_
    ·
     rintro lk Dk rk Mr wr pre y0 hpre
     refine Tr.Al ?_
     refine Ch.op rfl rfl Bx (Cq rfl (vl rfl)) ?_
     refine Ch.nil ?_
     exact Fin.st ⟨⟨_,rfl,Pr.le_refl _⟩,⟨_,rfl,Pr.le_refl _⟩,⟨_,rfl,Pr.le_refl _⟩,trivial⟩
    ·
     rintro lk Dk rk Mr wr pre y0 hpre
     have hlt:y0<n:=by
      have h_:=F2.1 (aO hpre)
      rw [(FT AA).2 i x hx,Bool.and_eq_true,decide_eq_true_eq] at h_
      exact h_.1
     have hal:(pre.foldl (HV i) (G9 (D8 n l) i)).length=n:=by rw [OZ,Ir,C0]
     obtain ⟨y,hy⟩:=at_ (l:=pre.foldl (HV i) (G9 (D8 n l) i)) (k:=y0) AA
     refine Tr.block ?_
     refine Tr.GI mixed [some (0,8,false,0),none,none,some (0,7,false,0),none,none,some (0,6,false,0),none,none,none,none,some (0,6,true,0)] BV ?_
     refine Cx.rd 8 rfl rfl rfl Bx (A_ rfl JF (vl rfl) rfl) ?_
     refine Cx.op rfl rfl Bx (fun _=>EP rfl (vl rfl)) ?_
     refine Cx.op rfl rfl Bx (fun _=>AW rfl dJ (vl rfl)) ?_
     refine Cx.rd 7 rfl rfl rfl Bx (A_ rfl JG (vl rfl) rfl) ?_
     refine Cx.op rfl rfl Bx (fun _=>BQ rfl (vl rfl)) ?_
     refine Cx.op rfl rfl Bx (fun _=>BL rfl Tryz.underlying232 FV (vl rfl) (vl rfl) AA AA) ?_
     refine Cx.rd 6 rfl rfl rfl Bx (A_ rfl Ec (vl rfl) (LL hy)) ?_
     refine Cx.op rfl rfl Bx (fun _=>DC rfl Cs (vl rfl)) ?_
     refine Cx.op rfl rfl Bx (fun _=>Ip (b:=1#32) rfl (vl rfl) (vl rfl) (Int.natCast_nonneg _)) ?_
     refine Cx.op rfl rfl Bx (fun _=>LK rfl (vl rfl) (vl rfl)) ?_
     refine Cx.op rfl rfl Bx (fun _=>BL rfl Tryz.underlying232 FV (vl rfl) (vl rfl) AA AA) ?_
     refine Cx.DG 6 rfl rfl (Aw rfl rfl (vl rfl) (VL.le (vl rfl) (Ad _)) FV rfl C1 ((SJ hy).trans (congrArg (fun B:List (BitVec 32)=>B.map fun x=>u32 x) (iY hy)))) ?_
     refine Cx.nil ⟨rfl,?_⟩
     refine BI.done (At.cons (At.cons (At.cons (At.cons (At.cons (At.cons (At.cons (At.cons (At.cons (At.map _)))))))))) ?_
     refine Fin.block ?_
     exact Fin.rnd () (List.Perm.refl _)
    ·
     rintro lk Dk rk Mr wr
     refine Fin.drop 1 ?_
     refine Fin.drop 1 ?_
     refine Fin.drop 2 ?_
     refine Fin.Kk (List.Perm.cons _ ((List.perm_middle (l₁:=[_,_,_,_])).symm)) ?_
     refine Fin.Kk (List.perm_middle (l₁:=[_,_,_,_])).symm ?_
     refine Fin.block ?_
     refine Fin.block ?_
     refine Fin.go ?_
     refine Tr.Al ?_
     first
      |(refine Ch.op rfl rfl Bx (EO rfl (vl rfl) (vl rfl) ?hin) ?_;case hin=>unfold Mn;omega)
      |refine Ch.op rfl rfl Bx (ok_int rfl (vl rfl) (vl rfl) rfl) ?_
     refine Ch.op rfl rfl Bx (BQ rfl (vl rfl)) ?_
     refine Ch.nil ?_
     exact Fin.ADs (_::_) (i+1) rfl (⟨Jv,by omega⟩) ⟨⟨_,rfl,AG i⟩,⟨_,rfl,Pr.le_refl _⟩,⟨_,rfl,Pr.le_refl _⟩,trivial⟩ ((by rw [UH hx];exact fun _ _ h=>h))
   ·
    have q5:=DH.Dp h5
    have PV:i=(n):=by have:=AJ h5;omega
    have zW:=PV.symm
    subst zW
    refine Tr.exit ?_
    refine Fin.Ac ?_
    refine Fin.Ac ?_
    refine Fin.A0 ?_
    refine Fin.go ?_
    refine Tr.seq ?_
    refine Tr.eqC 0 (((D8 n l).map fun x=>[u32 x]).flatten++([]:List Value).map is) rfl (UJ _) ?_
    refine Tr.tP (cap:=n) (sz:=1) ((D8 n l).map fun x=>[u32 x]) 0 2 1 rfl rfl AB rfl (Pr.le_of_eq (by rw [List.length_map,C0 n l])) (A7 fun _=>rfl) (by rw [List.length_map,C0 n l];exact Nat.le_refl _) GF (by simp [Ir,C0]) rfl ?_
    refine Tr.eqC 1 (((G9 (D8 n l) n).map fun x=>[u32 x]).flatten++([]:List Value).map is) rfl (UJ _) ?_
    refine Tr.tP (cap:=n) (sz:=1) ((G9 (D8 n l) n).map fun x=>[u32 x]) 1 2 2 rfl rfl AB rfl (Pr.le_of_eq (by rw [List.length_map,(Ir _ _).trans (C0 n l)])) (A7 fun _=>rfl) (by rw [List.length_map,(Ir _ _).trans (C0 n l)];exact Nat.le_refl _) GF (by simp [Ir,C0]) rfl ?_
    refine Tr.Al ?_
    refine Ch.op rfl rfl Bx (CN 3 rfl (A_ rfl JF (vl rfl) rfl)) ?_
    refine Ch.op rfl rfl Bx (Cq rfl (vl rfl)) ?_
    refine Ch.nil ?_
    refine Fin.go ?_
    refine Tr.ret ?_
    refine Fin.freeze 2 4 rfl rfl ?_
    refine Fin.drop 0 ?_
    refine Fin.drop 0 ?_
    refine Fin.drop 0 ?_
    refine Fin.Kk List.perm_middle.symm ?_
    refine Fin.eY ?_
    refine Fin.ED rfl rfl ?_ (fun _ _ _ _=>rfl)
    · exact zV ⟨Pr.le_refl _,As _ _,As _ _,trivial⟩
def aQ (n:Int) (l:List BH):Pr:=if BD n l=0 then ref [int n,bits (D8 n.toNat l),bits (G9 (D8 n.toNat l) n.toNat)] else is (.pointer none)
instance ADv (n:Int) (l:List BH):One (aQ n l):=by
 unfold aQ;split
 · exact cX _
 · exact cW _
theorem J8 {n:Int} {l:List BH} {e:Int} (h:BD n l=e) (he:e≠0):Pr.le (is (.pointer none)) (aQ n l):=by
 unfold aQ;rw [if_neg I4];exact Pr.le_refl _
theorem QX {n:Int} {l:List BH} (h:BD n l=0):aQ n l=ref [int n,bits (D8 n.toNat l),bits (G9 (D8 n.toNat l) n.toNat)]:=by
 unfold aQ;rw [if_pos h]
theorem LM {n:Int} {l:List BH} (h:n<0∨24<n):BD n l=2:=by unfold BD;rw [if_pos h]
theorem Qo {n:Int} {l:List BH} {k:Nat} {r:BH} (h:0≤n∧n≤24) (hr:l[k]? =some r) (hb:Fa n r=true):BD n l=44:=by
 unfold BD;rw [if_neg AA,if_pos (List.any_eq_true.2 ⟨r,List.mem_of_getElem? hr,hb⟩)]
theorem eu {n:Int} {l:List BH} (h:∀j y,j<l.length→l[j]? =some y→Fa n y=false):∀r∈l,Fa n r=false:=fun r hr=>by
 obtain ⟨j,hj⟩:=List.mem_iff_getElem?.1 hr
 exact h j r Y6 hj
theorem aR {n:Int} {l:List BH} (h:∀r∈l,Fa n r=false):¬l.any (Fa n)=true:=by
 rw [Bool.not_eq_true,List.any_eq_false];exact fun r hr=>by rw [h r hr];decide
theorem V9 {n:Int} {l:List BH} {k:Nat} {a b:BH} (h:0≤n∧n≤24) (hb:∀r∈l,Fa n r=false) (hk:0<k) (ha:l[k-1]? =some a) (hx:l[k]? =some b) (hl:Ey a b=false):BD n l=6:=by
 unfold BD;rw [if_neg AA,if_neg (aR hb),if_pos]
 cases hs:D_ l with
 |false=>rfl
 |true=>
  have:=MR.1 hs (k-1) a b ha (by rw [Nat.sub_add_cancel hk];exact hx)
  rw [hl] at this;cases this
theorem SK {n:Nat} {l:List BH} {i:Nat} (h:n≤24) (hb:∀r∈l,Fa n r=false) (hs:D_ l=true) (hi:i<n) (hw:C8 l n i i=true):BD n l=45:=by
 unfold BD;rw [if_neg AA,if_neg (aR hb),if_neg (by rw [hs];decide),if_pos (show ADj (n:Int).toNat l=true from List.any_eq_true.2 ⟨i,List.mem_range.2 AA,hw⟩)]
theorem V_ {n:Nat} {l:List BH} (h:n≤24) (hb:∀r∈l,Fa n r=false) (hs:D_ l=true) (hw:∀i,i<n→C8 l n i i=false):BD n l=0:=by
 unfold BD;rw [if_neg AA,if_neg (aR hb),if_neg (by rw [hs];decide),if_neg]
 intro hc
 obtain ⟨i,hi,h2⟩:=List.any_eq_true.1 hc
 have:=hw i (by simpa using hi)
 rw [show ((n:Int)).toNat=n from rfl] at h2
 rw [this] at h2;cases h2
theorem SL {l:List BH} (h:∀(j:Nat) a b,j+1<l.length→l[j]? =some a→l[j+1]? =some b→Ey a b=true):D_ l=true:=MR.2 fun j a b ha hb=>h j a b (by rcases Nat.lt_or_ge (j+1) l.length with h2|h2;exact h2;rw [List.getElem?_eq_none h2] at hb;cases hb) ha hb
theorem Kl {l:List BH} {k:Nat} {x:BH} (hx:l[k]? =some x) (hp:∀y,0<k→l[k-1]? =some y→Ey y x=true) (h:∀(j:Nat) a b,j+1<k→l[j]? =some a→l[j+1]? =some b→Ey a b=true):∀(j:Nat) a b,j+1<k+1→l[j]? =some a→l[j+1]? =some b→Ey a b=true:=by
 intro j a b hj ha hb
 by_cases hjk:j+1=k
 · exact Up
 · exact h j a b AA ha hb
theorem WA {n:Int} {l:List BH}  :BS prog 136 [int n,reqs l] (Dy [aQ n l,int (BD n l)]) (CY) (fun _=>CY):=by
 refine BS.of func136 rfl rfl Az fun M0 w0 S rs M1 w1=> ?_
 refine Tr.Cl 1 rfl fun F0=> ?_
 refine ac ?_
 refine ag ?_ ?_<;>intro h1 q1
 refine a2 ?_
 refine Tr.ret (Fin.AE (Fin.FC rfl rfl ?_ rfl ?_))
 · exact J8 (LM AA) AB
 · refine int_eq ?_;exact (LM AA).symm
 refine an ?_ ?_<;>intro h2 q2
 refine ac ?_
 refine Tr.ret (Fin.AE (Fin.FC rfl rfl ?_ rfl ?_))
 · exact J8 (LM AA) AB
 · refine int_eq ?_;exact (LM AA).symm
 have Ns:0≤n∧n≤24:=by omega
 obtain ⟨m,hm⟩:∃m:Nat,n=(m:Int):=⟨n.toNat,by omega⟩
 refine a2 ?_
 refine Tr.block (Tr.BE _ (kk [19,18,1,0] rfl) (fun k:Nat=>[(20,int ((k:Nat):Int))]) (fun k:Nat=>k≤(l).length∧(∀j y,j<k→l[j]? =some y→Fa n y=false)) (fun k:Nat=>(l).length-k) 0 (⟨Nat.zero_le _,fun j y hj=>absurd hj AA⟩) kz ?_)
 rintro k ⟨BT,AX⟩
 refine ac ?_
 refine Tr.seq ?_
 refine Tr.cn rfl ?_ ?_<;>intro h3 q3
 have Ai:k<(l).length:=AH h3
 obtain ⟨x,Ah⟩:=at_ Ai
 refine ac ?_
 refine Tr.seq (Tr.block (Tr.seq (Tr.Ap (tp rfl (AD rfl underlying33 C2 vq vq AA (AZ Ah)) (tp rfl (AM rfl Fx C2 vq rfl rfl) ?_)))))
 refine Tl rfl rfl rfl rfl Sv RH (fun b1=> ?_)
 refine sf 0 7 ⟨rfl,rfl,rfl⟩ rfl rfl rfl rfl ?_
 refine ao ?_
 refine ag ?_ ?_<;>intro h4 q4
 refine ac ?_
 refine wk [50,20,19,18,1,0] rfl ?_
 refine ac ?_
 refine Tr.ret (Fin.AR (Fin.AE (Fin.AE (Fin.AR (Fin.AE (Fin.FC rfl rfl ?_ rfl ?_))))))
 · exact Qp
 · exact Qn
 refine ag ?_ ?_<;>intro h5 q5
 refine ac ?_
 refine wk [50,20,19,18,1,0] rfl ?_
 refine ac ?_
 refine Tr.ret (Fin.AR (Fin.AE (Fin.AE (Fin.AR (Fin.AE (Fin.FC rfl rfl ?_ rfl ?_))))))
 · exact Qp
 · exact Qn
 refine ag ?_ ?_<;>intro h6 q6
 refine ac ?_
 refine wk [50,20,19,18,1,0] rfl ?_
 refine ac ?_
 refine Tr.ret (Fin.AR (Fin.AE (Fin.AE (Fin.AR (Fin.AE (Fin.FC rfl rfl ?_ rfl ?_))))))
 · exact Qp
 · exact Qn
 refine ag ?_ ?_<;>intro h7 q7
 refine ac ?_
 refine wk [50,20,19,18,1,0] rfl ?_
 refine ac ?_
 refine Tr.ret (Fin.AR (Fin.AE (Fin.AE (Fin.AR (Fin.AE (Fin.FC rfl rfl ?_ rfl ?_))))))
 · exact Qp
 · exact Qn
 refine ac ?_
 refine wk [50,20,19,18,1,0] rfl ?_
 refine Tr.cn rfl ?_ ?_<;>intro h8 q8
 refine ac ?_
 refine Tr.ret (Fin.AR (Fin.AE (Fin.AE (Fin.AR (Fin.AE (Fin.FC rfl rfl ?_ rfl ?_))))))
 · exact Qp
 · exact Qn
 refine a2 ?_
 exact Fin.AO (k+1) ⟨⟨Ai,Db (p:=Fa n) Ah cN AX⟩,by omega⟩ ⟨⟨_,rfl,AG k⟩,kz⟩
 have BP:k=(l).length:=by have:=AJ h3;omega
 subst BP
 refine ac ?_
 refine Tr.seq (Tr.seq ?_)
 have hall:=eu AX
 clear AX
 refine ac ?_
 refine Tr.block (Tr.BE _ (kk [53,1,0] rfl) (fun k:Nat=>[(54,int ((k:Nat):Int))]) (fun k:Nat=>k≤(l).length∧(∀(j:Nat) a b,j+1<k→l[j]? =some a→l[j+1]? =some b→Ey a b=true)) (fun k:Nat=>(l).length-k) 0 (⟨Nat.zero_le _,fun j a b hj=>absurd hj AA⟩) kz ?_)
 rintro k ⟨BT,AX⟩
 refine ac ?_
 refine Tr.seq ?_
 refine Tr.cn rfl ?_ ?_<;>intro h9 q9
 have Ai:k<(l).length:=AH h9
 obtain ⟨x,Ah⟩:=at_ Ai
 refine a2 ?_
 refine ag ?_ ?_<;>intro h10 Sx
 obtain ⟨y,hy⟩:=at_ (l:=l) (k:=k-1) AA
 refine ac ?_
 refine cy h10 rfl (AD rfl underlying33 C2 vq vq AA (Q6 AA hy)) ?_
 refine ac ?_
 refine cy h10 rfl (AD rfl underlying33 C2 vq vq AA (AZ Ah)) (cy h10 rfl (AM rfl Fx C2 vq rfl rfl) ?_)
 refine cy h10 rfl (CS (aP (a:=y) (b:=x)) rfl rfl rfl) ?_
 refine ac ?_
 refine wk [71,54,53,1,0] rfl ?_
 refine Tr.cn rfl ?_ ?_<;>intro h11 Ty
 refine ac ?_
 refine Tr.ret (Fin.AR (Fin.AE (Fin.AE (Fin.AR (Fin.AE (Fin.FC rfl rfl ?_ rfl ?_))))))
 · exact J8 (V9 Ns hall AA hy Ah (by have h_:=V8 (a:=y) (b:=x);simp_all)) AB
 · refine int_eq ?_;exact (V9 Ns hall AA hy Ah (by have h_:=V8 (a:=y) (b:=x);simp_all)).symm
 refine a2 ?_
 exact Fin.AO (k+1) ⟨⟨Ai,Kl Ah (by intro y2 hk2 o9;rw [hy] at o9;cases o9;have h_:=V8 (a:=y) (b:=x);simp_all) AX⟩,by omega⟩ ⟨⟨_,rfl,AG k⟩,kz⟩
 refine ac ?_
 refine wk [71,54,53,1,0] rfl ?_
 refine a2 ?_
 exact Fin.AO (k+1) ⟨⟨Ai,Kl Ah (by intro y2 hk2 o9;omega) AX⟩,by omega⟩ ⟨⟨_,rfl,AG k⟩,kz⟩
 have BP:k=(l).length:=by have:=AJ h9;omega
 subst BP
 refine ac ?_
 refine Tr.seq ?_
 have vF:=SL AX
 subst hm
 refine ao ?_
 refine TO.GK 0 rfl rfl AB (Aj rfl rfl AB rfl (iZ (n:=m) AA hall) ⟨kq,kz⟩) ?_
 refine ao ?_
 refine Tr.seq (Tr.seq ?_)
 have XI:=C0 m l
 refine ac ?_
 refine wk [81,80,79,9] rfl (Tr.block (Tr.BE _ (kk [80,79,9] rfl) (fun i:Nat=>[(81,int ((i:Nat):Int))]) (fun i:Nat=>i≤(D8 m l).length∧(∀j,j<i→C8 l m j j=false)) (fun i:Nat=>(D8 m l).length-i) 0 (⟨Nat.zero_le _,fun j hj=>absurd hj AA⟩) kz ?_))
 rintro i ⟨Xg,E_⟩
 refine ac ?_
 refine Tr.seq ?_
 refine Tr.cn rfl ?_ ?_<;>intro h12 XY
 have Jv:i<(D8 m l).length:=AH h12
 obtain ⟨x,LQ⟩:=at_ Jv
 refine a2 ?_
 refine co rfl (AD rfl underlying232 FV vq vq AA (Nh LQ)) ?_
 refine a2 ?_
 refine co rfl (CS (V7) rfl rfl rfl) ?_
 refine an ?_ ?_<;>intro J0 dY
 refine ac ?_
 refine wk [5,4] rfl (Tr.ret (Fin.AR (Fin.AE (Fin.AE (Fin.AR (Fin.AE (Fin.FC rfl rfl ?_ rfl ?_)))))))
 · exact J8 (SK AA hall vF (i:=i) AA bp) AB
 · refine int_eq ?_;exact (SK AA hall vF (i:=i) AA bp).symm
 refine a2 ?_
 exact Fin.AO (i+1) ⟨⟨Jv,(fun j hj=>by rcases Nat.lt_or_ge j i with h_|h_;exact E_ j h_;(obtain rfl:j=i:=by omega);have h_:=(FT (l:=l) (show m≤32 by omega)).2 j x LQ j;simp_all;done)⟩,by omega⟩ ⟨⟨_,rfl,AG i⟩,kz⟩
 have PV:i=(D8 m l).length:=by have:=AJ h12;omega
 rw [C0] at PV
 subst PV
 refine a2 ?_
 refine Tr.ret (Fin.FC rfl rfl ?_ rfl ?_)
 · rw [QX (V_ AA hall vF E_)];exact Lr
 · refine int_eq ?_;exact (V_ AA hall vF E_).symm
theorem pZ {n:Nat} {B:List (BitVec 32)} {p:Pr} {s:BitVec 32} (hB:B.length=n) (hn:n≤24):BF prog 153 [ref [int ((n:Nat):Int),bits B,p],u32 s] (u32 (MT B s n)):=by
 refine fo func153 rfl ⟨rfl,rfl⟩ fun M0 w0=> ?_
 refine a3 ?_
 refine Tr.block (Tr.BE _ (kk [10,1,0] rfl) (fun k:Nat=>[(11,int ((k:Nat):Int)),(5,u32 (MT B s k))]) (fun k:Nat=>k≤n) (fun k:Nat=>n-k) 0 (Nat.zero_le _) ⟨kq,⟨_,rfl,Mi⟩,trivial⟩ ?_)
 rintro k hk0
 refine ac ?_
 refine Tr.seq ?_
 refine Tr.cn rfl ?_ ?_<;>intro h1 q1
 have hk:k<n:=AH h1
 obtain ⟨x,hx⟩:=at_ (l:=B) (k:=k) AA
 · repeat' first|exact Fin.AO (k+1) ⟨by omega,by omega⟩ ⟨⟨_,rfl,AG k⟩,⟨_,rfl,Pr.le_of_eq (congrArg u32 (pX hx Br Br).symm)⟩,kz⟩|exact Fin.AO (k+1) ⟨by omega,by omega⟩ ⟨⟨_,rfl,AG k⟩,⟨_,rfl,Pr.le_of_eq (congrArg u32 (vD hx Br).symm)⟩,kz⟩|refine co rfl (CS (V7 (b:=s) (i:=k)) rfl rfl rfl) ?_|refine cy h rfl (AD rfl underlying232 FV vq vq AA (Nh hx)) ?_|refine cy h rfl (Ki rfl vq vq) (cy h rfl (aG rfl vq vq) ?_)|refine co rfl (Ip (b:=1#32) rfl vq vq (Int.natCast_nonneg _)) ?_|refine co rfl (LK rfl vq vq) ?_|refine ac ?_|(refine Tr.cn rfl ?_ ?_<;>intro h q)|(refine Ch.cg rfl rfl rfl ?_ ?_<;>intro h q)
 obtain rfl:k=n:=by have:=AJ h1;omega
 refine a3 ?_
 · exact Lr
end Go.Proofs.YtmocaapoeefgkaaGreatDoor
namespace Cp
open Go Go.RowKit Go.Great
section
variable {P:Program} {L:Lg P} {n:Fm} {fz:Nat} {E:Env} {M0:Av} {w0:World} {S:Nat→Prop} {o:Oper}
def pg (T:TypeId) (u v:Value):Aq:=match v with| .pointer (some a)=>AF true a.block T (u.cells.toList.map is)|_=>Bq
theorem ew {j d s:Nat} {R:SR} {p1 q:Pr} {p:Value→Pr} {R':Value→Value→Aq} (hd:o.dst=some d) (hs:d≠s) (hq:∀v,Pr.le (p v) q) (hg:o.guard=none) (h1:E.lookup s=some p1) (hls:s∈looks o) (h:∀v,C_ P M0 w0 S n j R ⟨d,R' v⟩ o ((s,Aa v p1)::E) (p v)):C_ P M0 w0 S n j R ⟨.two d s,UG R'⟩ o E q:=by
 refine ⟨hg,fun M w a rs hsz he hI hj=> ?_⟩
 refine D4.conv (hq _) (fun v=> ?_) ((h (a.tmps.getD s undef)).2 M w a rs hsz (FQ he s (he s p1 hls h1)) hI hj)
 rw [Ng,hd,BZ (Ne.symm hs)];rfl
theorem UL {t:TypeId} {s y:Tmp} {j m:Nat} {T:TypeId} {ps qs:List Pr} {p:Pr} (hg:o.guard=none) (hd:o.dst=none) (ho:o.op= .store t (.tmp s) (.tmp y)) (hsy:s≠y) (hx:E.lookup s=some (Cp.ex fun b=>ptr b 0)) (hy:E.lookup y=some p) (hp:Pr.le p (DR qs))
  (hz:BA P t=some m) (hm:qs.length=m) (hl:ps.length=m):C_ P M0 w0 S n j ⟨s,Et T ps⟩ ⟨.two s y,UG fun u v=>pg T u v⟩ o E any:=by
 refine ⟨hg,fun M w a rs hsz he hI hj=> ?_⟩
 have hyl:y∈looks o:=OW (op:= .store t (.tmp s) (.tmp y)) (by simp [Op.operands]) ho
 have hpy:=hp _ _ _ (he y p hyl hy)
 have hle:Pr.le (Aa (a.tmps.getD y undef) (DR qs)) (DR ((a.tmps.getD y undef).cells.toList.map is)):=fun M w v h=>by
  obtain ⟨rfl,h2⟩:=h
  obtain ⟨g1,g2⟩:=h2
  exact ⟨La _ _ _,g2⟩
 have h:=(Cc (P:=P) (M0:=M0) (w0:=w0) (S:=S) (n:=n) (j:=j) (T:=T) (ps:=ps) (qs:=(a.tmps.getD y undef).cells.toList.map is) (E:=(y,Aa (a.tmps.getD y undef) (DR qs))::E) hg hd ho bl ⟨_,List.lookup_cons_self,hle⟩ hz (by have:=hpy.1.length;rw [List.length_map];omega) hl).2 M w a rs hsz (FQ he y hpy) hI hj
 refine D4.conv (Pr.le_refl _) (fun v=> ?_) h
 rw [Ng,hd];rfl
end
section
variable {P:Program} {L:Lg P} {n:Fm} {fz:Nat} {E:Env} {M0:Av} {w0:World} {S:Nat→Prop} {rs:List Aq} {Q:Exit→Act→World→Prop}
theorem X6 {M:Av} {w:World}:∀{zs cs:List Value},HL M w (zs.map is) cs→cs=zs
 |[],[],_=>rfl
 |[],_::_,h=>h.elim
 |_::_,[],h=>h.elim
 |z::zs,c::cs,h=>by
  obtain ⟨h1,h2⟩:=h
  rw [X6 h2,show c=z from h1]
theorem Fin.X7 {e:Exit} {T:TypeId} {u:Value} {b:Nat} {ps:List Pr} (i j:Nat) (hi:rs[i]? =some (Kj (agg ps) u)) (hj:rs[j]? =some (pg T u (.pointer (some ⟨b,0,none⟩)))) (k:Fin n E (Hp M0 w0 S (rs.set j (AF true b T ps))) Q e):Fin n E (Hp M0 w0 S rs) Q e:=by
 rintro a w ⟨M,h1,h2,h3,h4⟩
 have h4:A8 M0 w0 S rs M w:=h4
 refine k a w ⟨M,h1,h2,h3,A8.CV h4 hj rfl rfl ?_⟩
 obtain ⟨cs,rfl,_,hcs⟩:=(h4.hold _ (List.mem_of_getElem? hi)).1
 obtain ⟨g0,cs',g1,g2,g3⟩:=(h4.hold _ (List.mem_of_getElem? hj)).1
 have e1:cs'=cs:=by
  have:=X6 g2
  rw [this];show cs.toArray.toList=cs;simp
 subst e1
 exact ⟨g0,cs',g1,hcs,g3⟩
end
section
variable {P:Program}
theorem BS.vG {f:FuncId} {args:List Pr} {res:Pr} {r:Aq} (h:BS P f args res r (fun _=>r)) (hb:r.blk=none) (W:World) (vs:List Value) (hr:r.h noM W) (hv:HL noM W args vs):
  Calls P f vs.toArray W fun e w'=>∃v,e= .returned v∧res.h noM w' v∧Below W.heap.size W w':=by
 refine (h.2 noM W Fo [] noM W vs ((A8.begin (xT W)).I0 (r:=r) hb hr) hv).mono ?_
 rintro e w' ⟨v,M',rfl,h2,h3,h4⟩
 exact ⟨v,rfl,res.st _ _ _ _ _ (Ext.less h4.m) h2,h4.below⟩
end
section
variable {P:Program} {n:Fm} {E:Env} {M0:Av} {w0:World} {S:Nat→Prop} {rs:List Aq} {Q:Exit→Act→World→Prop} {p0 p1:Pr} {R:Value→Aq}
end
section
variable {P:Program} {L:Lg P} {n:Fm} {E:Env} {M0:Av} {w0:World} {S:Nat→Prop} {rs:List Aq} {Q:Exit→Act→World→Prop} {c:Code}
theorem Tr.ADw {e:TypeId} {sz:Nat} {rows:List (List Pr)} {p:Pr} (s:Nat) (hs:E.lookup s=some p) (hp:Pr.le p (full sz rows)) (k:∀v,Tr L n ((s,Aa v (slice sz rows))::E) (Hp M0 w0 S (Au e sz v::rs)) c Q):Tr L n E (Hp M0 w0 S rs) c Q:=by
 intro a w hst
 obtain ⟨M,k1,k2,k3,k4⟩:=hst
 have k4:A8 M0 w0 S rs M w:=k4
 obtain ⟨h1,A,h2⟩:=hp _ _ _ (k3 s p hs)
 refine k (a.tmps.getD s undef) a w ⟨M,k1,k2,fun t q hq=> ?_,A8.I0 k4 ?_ ?_⟩
 ·
  simp only [List.lookup] at hq
  split at hq
  ·
   rename_i e1
   have:t=s:=by simpa using e1
   subst this
   simp only [Option.some.injEq] at hq
   subst hq
   exact ⟨rfl,h1⟩
  · exact k3 t q hq
 ·
  rw [h2]
  show Dj _=none
  cases A with
  |none=>rfl
  |some x=>simp [Dj]
 ·
  intro b m d hv hlt
  rw [h2] at hv
  cases hv
  exact absurd hlt (Nat.lt_irrefl _)
variable {ε:Type}
theorem ez {f:ε→Aq}:∀{X:List ε} {k:Nat} {x:ε},X[k]? =some x→(He (fun x=>[f x]) X)[k]? =some (f x)
 |[],_,_,h=>by simp at h
 |a::X,0,x,h=>by simp at h;subst h;rfl
 |a::X,k+1,x,h=>by
  show (He (fun x=>[f x]) X)[k]? =_
  exact ez Dz
theorem Fin.fold {x:Exit} {res:ε→List Aq} (Ct:List Aq) {es:List ε} (y:ε) (PO:rs=res y++(Ct++He res es)) (k:Fin n E (Hp M0 w0 S (Ct++He res (es++[y]))) Q x):Fin n E (Hp M0 w0 S rs) Q x:=
 Fin.Kk (by
  subst PO
  rw [XP,←List.append_assoc Ct]
  exact List.perm_append_comm) k
theorem Tr.vH {f:ε→Value} {g:ε→Pr} {X:List ε} {p:Pr} (j s:Nat) (hj:rs[j]? =some (pF f g X)) (hs:E.lookup s=some p) (hp:Pr.le p (slice 1 (X.map fun x=>[is (f x)]))) (k:Tr L n ((s,slice 1 (X.map fun x=>[g x]))::E) (Hp M0 w0 S rs) c Q):Tr L n E (Hp M0 w0 S rs) c Q:=by
 intro a w ha
 obtain ⟨M,k1,k2,k3,k4⟩:=ha
 have k4:A8 M0 w0 S rs M w:=k4
 refine k a w ⟨M,k1,k2,fun t q hq=> ?_,k4⟩
 simp only [List.lookup] at hq
 split at hq
 ·
  rename_i e1
  have:t=s:=by simpa using e1
  subst this
  simp only [Option.some.injEq] at hq
  subst hq
  obtain ⟨ad,cap,h1,h2,h3,h4,h5⟩:=hp _ _ _ (k3 t p hs)
  have hall:=(k4.hold _ (List.mem_of_getElem? hj)).1
  refine ⟨ad,cap,by rw [h1];simp,by simpa using h2,h3,h4,fun i row hr=> ?_⟩
  rw [List.getElem?_map] at hr
  cases hx:X[i]? with
  |none=>rw [hx] at hr;cases hr
  |some x=>
   rw [hx] at hr
   simp only [Option.map_some,Option.some.injEq] at hr
   subst hr
   obtain ⟨_,ad2,h6,h7⟩:=h5 i [is (f x)] U1
   refine ⟨rfl,ad2,h6,fun q r hr=> ?_⟩
   cases q with
   |zero=>
    simp only [List.getElem?_cons_zero,Option.some.injEq] at hr
    subst hr
    obtain ⟨u,h8,h9,h10,h11⟩:=h7 0 _ rfl
    have hu:u=f x:=h11
    exact ⟨u,h8,h9,h10,by rw [hu];exact hall x (List.mem_of_getElem? hx)⟩
   |succ q=>simp at hr
 · exact k3 t q hq
abbrev HW (e:TypeId) (x:Nat×List Bool):List Aq:=[AF true x.1 e (x.2.map fun b=>bool b)]
theorem pq {n:Nat}:(List.replicate n (Value.bool false)).map is=(List.replicate n false).map fun b=>bool b:=by rw [List.map_replicate,List.map_replicate]
theorem Tr.vI {e:TypeId} {m:Nat} {X:List (Nat×List Bool)} {p:Pr} (Ct:List Aq) (s:Nat) (PO:rs=Ct++He (HW e) X) (hm:m≤maxLen) (hX:∀x∈X,x.2.length=m) (hs:E.lookup s=some p) (hp:Pr.le p (slice 1 (X.map fun x=>[is (Js m x.1)])))
  (k:Tr L n ((s,slice 1 (X.map fun x=>[slice 1 (x.2.map fun b=>[bool b])]))::E) (Hp M0 w0 S (pF (fun x:Nat×List Bool=>Js m x.1) (fun x=>slice 1 (x.2.map fun b=>[bool b])) X::Ct)) c Q):Tr L n E (Hp M0 w0 S rs) c Q:=by
 subst PO
 intro a w hst
 obtain ⟨M,k1,k2,k3,k4⟩:=hst
 have k4:A8 M0 w0 S (Ct++He (HW e) X) M w:=k4
 obtain ⟨M1,g1,g2,g3⟩:=A8.Vd (w:=w) (Φ:=fun (x:Nat×List Bool) M w=>Row M w ⟨x.1,0,none⟩ 0 (x.2.map fun b=>bool b)) (fun x M M' he h=>Row.st he h) (fun x rs M h=>by
  obtain ⟨M',h1,h2,h3⟩:=A8.dA h
  exact ⟨M',h2,h1,h3⟩) X _ M k4
 refine Tr.vH (f:=fun x:Nat×List Bool=>Js m x.1) (g:=fun x=>slice 1 (x.2.map fun b=>[bool b])) (X:=X) 0 s rfl hs hp k a w ⟨M1,k1,k2,fun t q hq=>q.st _ _ _ _ _ g1 (k3 t q hq),A8.I0 g2 rfl fun x hx=> ?_⟩
 have hl:=hX x hx
 refine ⟨some ⟨x.1,0,none⟩,m,by rw [List.length_map,hl],by rw [List.length_map,hl];exact Nat.le_refl _,hm,(fun h=>nomatch h),fun i row hr=> ?_⟩
 rw [List.getElem?_map] at hr
 cases hb:x.2[i]? with
 |none=>rw [hb] at hr;cases hr
 |some b=>
  rw [hb] at hr
  simp only [Option.map_some,Option.some.injEq] at hr
  subst hr
  refine ⟨rfl,_,rfl,fun q r hq=> ?_⟩
  cases q with
  |zero=>
   simp only [List.getElem?_cons_zero,Option.some.injEq] at hq
   subst hq
   have:=g3 x hx i (bool b) (by rw [List.getElem?_map,hb];rfl)
   simpa using this
  |succ q=>simp at hq
end
theorem w_ {i m:Nat} (h:i≤m) (hm:m≤40):1≤2 ^ i∧2 ^ i≤2 ^ m∧2 ^ m≤1099511627776:=
 ⟨Nat.one_le_two_pow,Nat.pow_le_pow_right AA h,Nat.le_trans (Nat.pow_le_pow_right (n:=2) AA hm) AB⟩
section
variable {P:Program} {I:Ck} {o:Oper} {E:Env}
theorem e7 {t u:TypeId} {x y:Operand} {i:Int} (ho:o.op= .binOp .shl t x y u) (hx:VL E x (int 1)) (hy:VL E y (int i)) (h0:0≤i) (h40:i≤40):Ae P I o E (int ((2 ^ i.toNat:Nat):Int)):=
 Ae.same fun M w a he _=>by
  have h1:a.eval x= .int .i64 1:=hx.ev he Ar
  have h2:a.eval y= .int .i64 i:=hy.ev he Ar
  have hn:¬i<0:=by omega
  have hmin:min i.toNat 64=i.toNat:=by omega
  have e:((2 ^ i.toNat:Nat):Int)=(2:Int) ^ i.toNat:=Int.natCast_pow 2 i.toNat
  obtain ⟨P0,hp2,hp3⟩:=w_ (i:=i.toNat) (m:=i.toNat) (Nat.le_refl _) AA
  have hw:IntKind.i64.wrap (2 ^ i.toNat)=2 ^ i.toNat:=by rw [←e];exact G5 K4
  refine ⟨.int .i64 (IntKind.i64.wrap (1*2 ^ (min i.toNat IntKind.i64.bits))),?_,?_⟩
  ·
   simp only [execOp,ho,h1,h2]
   simp [eqGuard,binOp,Op.shift,hn]
   try rw [show min i.toNat IntKind.i64.bits=i.toNat from hmin]
  ·
   show Value.int _ _=Value.int _ _
   rw [show min i.toNat IntKind.i64.bits=i.toNat from hmin,Int.one_mul,hw,e]
theorem zX {t u:TypeId} {x y:Operand} {a b m:Nat} (ho:o.op= .binOp .or t x y u) (hx:VL E x (int (a:Int))) (hy:VL E y (int (b:Int))) (ha:a<2 ^ m) (hb:b<2 ^ m) (hm:m≤40):Ae P I o E (int ((a|||b:Nat):Int)):=
 Ae.same fun M w c he _=>by
  have h1:c.eval x= .int .i64 a:=hx.ev he Ar
  have h2:c.eval y= .int .i64 b:=hy.ev he Ar
  obtain ⟨_,_,hp3⟩:=w_ (i:=m) (m:=m) (Nat.le_refl _) hm
  have hab:a|||b<2 ^ m:=Nat.or_lt_two_pow ha hb
  have ea:(BitVec.ofInt 64 (a:Int)).toNat=a:=by rw [BitVec.toNat_ofInt];omega
  have eb:(BitVec.ofInt 64 (b:Int)).toNat=b:=by rw [BitVec.toNat_ofInt];omega
  have er:(BitVec.ofInt 64 (a:Int)|||BitVec.ofInt 64 (b:Int)).toNat=a|||b:=by rw [BitVec.toNat_or,ea,eb]
  refine ⟨_,by simp [execOp,ho,h1,h2,eqGuard,binOp,Op.intBits];rfl,?_⟩
  show Value.int _ _=Value.int _ _
  congr 1
  show IntKind.i64.wrap (((BitVec.ofInt 64 (a:Int)|||BitVec.ofInt 64 (b:Int)).toNat:Nat):Int)=_
  rw [er]
  exact G5 K4
end
section
variable {P:Program} {fz:Nat} {E:Env} {M0:Av} {w0:World} {rs:List Aq} {g:Func}
theorem results4 {r r' r'' r3:ResultVar} {a:Act} {w:World} {v v' v'' v3:Value} (hr:g.results= #[r,r',r'',r3]) (h:(HM r a).run P w= .ok v w) (h':(HM r' a).run P w= .ok v' w) (h'':(HM r'' a).run P w= .ok v'' w) (h3:(HM r3 a).run P w= .ok v3 w):(results g a.tmps).run P w= .ok (.tuple #[v,v',v'',v3]) w:=by
 rw [HN,hr];simp [Sem.run_bind,h,h',h'',h3]
theorem Fin.O_ {r r' r'' r3:ResultVar} {p q q' k8 q3:Pr} (hr:g.results= #[r,r',r'',r3]) (h:AL P E rs r q) (h':AL P E rs r' q') (h'':AL P E rs r'' k8) (h3:AL P E rs r3 q3) (hl:Pr.le (Dy [q,q',k8,q3]) p):Fin ⟨fz,[]⟩ E (Hp M0 w0 Fo rs) (bodyPost P g (S0 M0 w0 p)) .ret:=by
 rintro a w ⟨M,_,hd,he,hi⟩
 obtain ⟨v,hv,hp⟩:=h M w a he (fun q hq=>(hi.hold q hq).1)
 obtain ⟨v',lO,hp'⟩:=h' M w a he (fun q hq=>(hi.hold q hq).1)
 obtain ⟨v'',lP,lQ⟩:=h'' M w a he (fun q hq=>(hi.hold q hq).1)
 obtain ⟨v3,hv3,hp3⟩:=h3 M w a he (fun q hq=>(hi.hold q hq).1)
 obtain ⟨h1,h2⟩:=Bt.EB M0 w0 M w hi
 exact ⟨hd,_,results4 hr hv lO lP hv3,_,rfl,p.st _ _ _ _ _ (Ext.less h1) (hl _ _ _ ⟨[_,_,_,_],rfl,hp,hp',lQ,hp3,trivial⟩),h2⟩
end
def aS {β:Type} (b:Nat) (e:TypeId) (f:β→List Pr) (φ:β→Prop):Aq where
 blk:=some b
 new:=true
 h M w:=∃x:β,φ x∧(AF true b e (f x)).h M w
 st M w M' w' he hk h:=let ⟨x,h1,h2⟩:=h;⟨x,h1,(AF true b e (f x)).st M w M' w' he hk h2⟩
def WB {β:Type} (T:TypeId) (f:β→List Pr) (φ:β→Prop) (v:Value):Aq:=match v with| .pointer (some a)=>aS a.block T f φ|_=>Bq
section
variable {P:Program} {L:Lg P} {n:Fm} {E:Env} {M0:Av} {w0:World} {S:Nat→Prop} {rs:List Aq} {o:Oper} {β:Type} {f:β→List Pr} {φ:β→Prop}
theorem Fin.e_ {Q:Exit→Act→World→Prop} {x:Exit} {b:Nat} {e:TypeId} (j:Nat) (hj:rs[j]? =some (aS b e f φ)) (k:∀z,φ z→Fin n E (Hp M0 w0 S (rs.set j (AF true b e (f z)))) Q x):Fin n E (Hp M0 w0 S rs) Q x:=by
 intro a w h
 obtain ⟨M,h1,h2,h3,h4⟩:=h
 have h4:A8 M0 w0 S rs M w:=h4
 obtain ⟨z,hp,h8⟩:=(h4.hold _ (List.mem_of_getElem? hj)).1
 exact k z hp a w ⟨M,h1,h2,h3,h4.CV hj rfl rfl h8⟩
theorem D4.wk {a:Act} {M:Av} {w:World} {p:Pr} {j:Nat} {R1 R2:SR} {rs:List Aq} {r:Result Next} (hjl:j<rs.length) (hd:o.dst=none) (hb:(R2.at_ a).blk=(R1.at_ a).blk) (hn:(R2.at_ a).new=(R1.at_ a).new) (hh:∀M w,(R1.at_ a).h M w→(R2.at_ a).h M w) (h:D4 P M0 w0 S o a M w p j R1 rs r):D4 P M0 w0 S o a M w p j R2 rs r:=by
 have key:∀v M' w',A8 M0 w0 S (rs.set j (R1.at_ (a.put o.dst v))) M' w'→A8 M0 w0 S (rs.set j (R2.at_ (a.put o.dst v))) M' w':=by
  intro v M' w' hI
  rw [hd] at hI ⊢
  have hI:A8 M0 w0 S (rs.set j (R1.at_ a)) M' w':=hI
  have h1:(rs.set j (R1.at_ a))[j]? =some (R1.at_ a):=by rw [List.getElem?_set_self hjl]
  have:=hI.CV (r':=R2.at_ a) h1 hb hn (hh _ _ (hI.hold _ (List.mem_of_getElem? h1)).1)
  rw [List.set_set] at this
  exact this
 cases r with
 |halt x w'=>exact h
 |ok x w'=>
  cases x
  case value v=>obtain ⟨M',g1,g2,g3⟩:=h;exact ⟨M',g1,g2,key _ _ _ g3⟩
  case skip=>obtain ⟨M',g1,g2,g3⟩:=h;exact ⟨M',g1,g2,key _ _ _ g3⟩
  case enter f args=>
   refine Calls.mono h ?_
   rintro e w'' ⟨v,M',g0,g1,g2,g3⟩
   exact ⟨v,M',g0,g1,g2,key _ _ _ g3⟩
  all_goals exact h
theorem LN {t:TypeId} {s y:Tmp} {j m:Nat} {T:TypeId} {ps:List Pr} (hg:o.guard=none) (hd:o.dst=none) (ho:o.op= .store t (.tmp s) (.tmp y)) (hsy:s≠y) (hx:E.lookup s=some (Cp.ex fun b=>ptr b 0)) (hy:E.lookup y=some (Cp.ex fun z:β=>fact (φ z) (agg (f z))))
  (hz:BA P t=some m) (hm:∀z,(f z).length=m) (hl:ps.length=m):C_ P M0 w0 S n j ⟨s,Et T ps⟩ ⟨s,WB T f φ⟩ o E any:=by
 have hlk:y∈looks o:=OW (op:= .store t (.tmp s) (.tmp y)) (by simp [Op.operands]) ho
 refine C_.Le y hg hy hlk fun z=>C_.opf y hg (by simp [List.lookup];rfl) hlk fun hφ=> ?_
 have hx':List.lookup s ((y,agg (f z))::(y,fact (φ z) (agg (f z)))::E)=some (Cp.ex fun b=>ptr b 0):=by
  have:(s==y)=false:=by simpa using hsy
  simp only [List.lookup,this];exact hx
 have h:=Cc (P:=P) (M0:=M0) (w0:=w0) (S:=S) (n:=n) (j:=j) (T:=T) (ps:=ps) (qs:=f z) (E:=(y,agg (f z))::(y,fact (φ z) (agg (f z)))::E) hg hd ho hx' ⟨agg (f z),by simp [DA,List.lookup],Af _⟩ hz (hm z) hl
 refine ⟨hg,fun M w a rs hsz he hI hj=> ?_⟩
 have hjl:j<rs.length:=by rcases Nat.lt_or_ge j rs.length with h'|h';exact h';rw [List.getElem?_eq_none h'] at hj;cases hj
 have hv:∃b,a.tmps.getD s undef= .pointer (some ⟨b,0,none⟩):=by
  have hxv:VL ((y,agg (f z))::(y,fact (φ z) (agg (f z)))::E) (.tmp s) (Cp.ex fun b=>ptr b 0):=⟨_,hx',Pr.le_refl _⟩
  exact hxv.ev he (show (Operand.tmp s)∈o.op.operands.toList by simp [ho,Op.operands])
 obtain ⟨b,hv⟩:=hv
 have e1:SR.at_ a ⟨s,Et T (f z)⟩=AF true b T (f z):=by show Et T (f z) (a.tmps.getD s undef)=_;rw [hv];rfl
 have e2:SR.at_ a ⟨s,WB T f φ⟩=aS b T f φ:=by show WB T f φ (a.tmps.getD s undef)=_;rw [hv];rfl
 refine D4.wk hjl hd ?_ ?_ ?_ (h.2 M w a rs hsz he hI hj)
 · rw [e1,e2];rfl
 · rw [e1,e2];rfl
 · rw [e1,e2];exact fun M w h=>⟨z,hφ,h⟩
end
theorem BF.pz {P:Program} {f:FuncId} {α:Type} {φ:α→Prop} {p:α→Pr} {res:Pr} (pre:List Pr) {post:List Pr} (q:α) (hq:φ q) (h:∀z,φ z→BF P f (pre++p z::post) res):BF P f (pre++(Cp.ex fun z=>fact (φ z) (p z))::post) res:=by
 refine ⟨(h q hq).1,fun M w vs hb hv=> ?_⟩
 have key:∀(pre:List Pr) (vs:List Value),HL M w (pre++(Cp.ex fun z=>fact (φ z) (p z))::post) vs→∃z,φ z∧HL M w (pre++p z::post) vs:=by
  intro pre
  induction pre with
  |nil=>
   intro vs hv
   match vs,hv with
   |u::us,⟨⟨z,hz,h1⟩,h2⟩=>exact ⟨z,hz,h1,h2⟩
  |cons a pre ih=>
   intro vs hv
   match vs,hv with
   |u::us,⟨h1,h2⟩=>
    obtain ⟨z,hz,h3⟩:=ih us h2
    exact ⟨z,hz,h1,h3⟩
 obtain ⟨z,hz,h2⟩:=key pre vs hv
 exact (h z hz).2 M w vs hb h2
section
variable {P:Program} {L:Lg P} {n:Fm} {fz:Nat} {E:Env} {I:Ck} {M0:Av} {w0:World} {S:Nat→Prop} {rs:List Aq} {Q:Exit→Act→World→Prop} {c:Code}
theorem Tr.p_ {α β:Type} {p gf:Nat} {g:Operand} {lb:Array Value} {enc:α→Value} {xs:List α} {own:List α→List Aq} {assign body:Code} (q:Nat) (K:Env) (hK:CZ E K) (R RX:List α→β→List Aq) (d0:β)
  (hIt:Nf P gf lb enc xs own) (eg:Entry P gf) (hg:VL E g (is (.func (.func gf) #[] lb))) (PO:rs.Perm (own []++R [] d0)) (hp:K.lookup p=none) (hpn:p<n.sz)
  (hassign:∀l D rec M1 w1 pre x d,(pre++[x])<+:xs→Tr (eT P (some l)) ⟨n.sz,[]⟩ ((p,is (enc x))::K) (Hp M0 w0 S (own (pre++[x])++GU l D rec M1 w1 (R pre d))) assign (Exit.then (St ⟨n.sz,[]⟩ ((q,is (enc x))::K) (Hp M0 w0 S (own (pre++[x])++GU l D rec M1 w1 (R pre d)))) (fun _ _ _=>False)))
  (hbody : ∀ l D rec M1 w1 pre x d, (pre ++ [x]) <+: xs → Tr (eT P (some l)) ⟨n.sz, []⟩ ((q, is (enc x)) :: K) (Hp M0 w0 S (own (pre ++ [x]) ++ GU l D rec M1 w1 (R pre d))) body
   (JU M0 w0 S (fun d:β=>own (pre++[x])++GU l D rec M1 w1 (R (pre++[x]) d)) (fun c d=>own (pre++[x])++GU l D rec M1 w1 (CK (c= .ret)::RX (pre++[x]) d))))
  (hdone:∀l D rec M1 w1 d,Fin ⟨n.sz,mark D::n.df⟩ E (Hp M0 w0 S (own xs++GU l D rec M1 w1 (R xs d))) Q .normal)
  (hstop:∀l D rec M1 w1 pre d,pre<+:xs→Fin ⟨n.sz,mark D::n.df⟩ E (Hp M0 w0 S (own pre++GU l D rec M1 w1 (RX pre d))) Q .ret):
  Tr (Yi P) n E (Hp M0 w0 S rs) (.rangeFunc g #[p] assign body) Q:=by
 refine Tr.o_ (fun x=>(q,is (enc x))::K) R (fun c pre d=>CK (c= .ret)::RX pre d) d0 hIt (fun args w=>DL eg args w) hg PO ?_ ?_ hdone ?_
 ·
  intro l D rec M1 w1 pre x d hpre a hsz hE M w hI
  have hx:Ext M1 w1 M w:=(hI.hold (Ak M1 w1) AU).1
  refine hassign l D rec M1 w1 pre x d hpre _ w ⟨M,by simpa using hsz,rfl,fun s z hq=> ?_,hI⟩
  simp only [List.lookup] at hq
  by_cases hs:s=p
  ·
   subst hs
   simp only [beq_self_eq_true,Option.some.injEq] at hq
   subst hq
   show (a.tmps.setIfInBounds s (enc x)).getD s undef=enc x
   simp [Array.getD_eq_getD_getElem?,hsz,hpn]
  ·
   rw [show (s==p)=false by simpa using hs] at hq
   obtain ⟨z',Eh,I6⟩:=hK.spec s z hq
   have h2:=z.st _ _ _ _ _ hx (I6 _ _ _ (hE s z' Eh))
   show z.h M w ((a.tmps.setIfInBounds p (enc x)).getD s undef)
   have e1:(a.tmps.setIfInBounds p (enc x)).getD s undef=a.tmps.getD s undef:=by
    simp only [Array.getD_eq_getD_getElem?]
    rw [Array.getElem?_setIfInBounds_ne (fun e=>hs e.symm)]
   rw [e1];exact h2
 ·
  intro l D rec M1 w1 pre x d hpre
  exact hbody l D rec M1 w1 pre x d hpre
 ·
  intro l D rec M1 w1 c pre d hpre a w ⟨M,h1,h2,h3,h⟩
  have h:A8 M0 w0 S (own pre++GU l D rec M1 w1 (CK (c= .ret)::RX pre d)) M w:=h
  have hc:c= .ret:=(h.hold (CK (c= .ret)) AU).1
  subst hc
  have h5:A8 M0 w0 S (CK (Code.ret= .ret)::(own pre++GU l D rec M1 w1 (RX pre d))) M w:=by
   refine A8.perm ?_ h
   have:=List.perm_middle (a:=CK (Code.ret= .ret)) (l₁:=own pre++[BO l rec,BO D (.deferred (some [])),Ak M1 w1]) (l₂:=RX pre d)
   simpa [GU] using this
  exact Tr.ret (hstop l D rec M1 w1 pre d hpre) a w ⟨M,h1,h2,h3,A8.KD h5⟩
theorem Tr.aB {α β:Type} {p gf:Nat} {g:Operand} {lb:Array Value} {enc:α→Value} {xs:List α} {own:List α→List Aq} {assign body:Code} (q:Nat) (K:Env) (hK:CZ E K) (R:List α→β→List Aq) (d0:β)
  (hIt:Nf P gf lb enc xs own) (eg:Entry P gf) (hg:VL E g (is (.func (.func gf) #[] lb))) (PO:rs.Perm (own []++R [] d0)) (hp:K.lookup p=none) (hpn:p<n.sz)
  (hassign:∀l D rec M1 w1 pre x d,(pre++[x])<+:xs→Tr (eT P (some l)) ⟨n.sz,[]⟩ ((p,is (enc x))::K) (Hp M0 w0 S (own (pre++[x])++GU l D rec M1 w1 (R pre d))) assign (Exit.then (St ⟨n.sz,[]⟩ ((q,is (enc x))::K) (Hp M0 w0 S (own (pre++[x])++GU l D rec M1 w1 (R pre d)))) (fun _ _ _=>False)))
  (hbody : ∀ l D rec M1 w1 pre x d, (pre ++ [x]) <+: xs → Tr (eT P (some l)) ⟨n.sz, []⟩ ((q, is (enc x)) :: K) (Hp M0 w0 S (own (pre ++ [x]) ++ GU l D rec M1 w1 (R pre d))) body
   (JU M0 w0 S (fun d:β=>own (pre++[x])++GU l D rec M1 w1 (R (pre++[x]) d)) (fun c _=>own (pre++[x])++GU l D rec M1 w1 [CK (c= .ret),CK False])))
  (hdone:∀l D rec M1 w1 d,Fin ⟨n.sz,mark D::n.df⟩ E (Hp M0 w0 S (own xs++GU l D rec M1 w1 (R xs d))) Q .normal):
  Tr (Yi P) n E (Hp M0 w0 S rs) (.rangeFunc g #[p] assign body) Q:=
 Tr.p_ q K hK R (fun _ _=>[CK False]) d0 hIt eg hg PO hp hpn hassign hbody hdone fun l D rec M1 w1 pre d _ a w ⟨M,_,_,_,h⟩=>by
  have h:A8 M0 w0 S (own pre++GU l D rec M1 w1 [CK False]) M w:=h
  exact ((h.hold (CK False) AU).1).elim
theorem Fin.zY {β:Type} {rr:β→List Aq} {os:List Aq} {tl:β→List Aq} {l D:Nat} {rec:Obj} {M1:Av} {w1:World} (d:β) (hp:rs.Perm (os++GU l D rec M1 w1 (tl d))):Fin n E (Hp M0 w0 S rs) (JU M0 w0 S rr (fun c d=>os++GU l D rec M1 w1 (CK (c= .ret)::tl d))) .ret:=by
 rintro a w ⟨M,_,_,_,h⟩
 have h:A8 M0 w0 S rs M w:=h
 refine ⟨d,M,A8.perm ?_ (A8.I0 (A8.perm hp h) (r:=CK (Code.ret= .ret)) rfl rfl)⟩
 have:=(List.perm_middle (a:=CK (Code.ret= .ret)) (l₁:=os++[BO l rec,BO D (.deferred (some [])),Ak M1 w1]) (l₂:=tl d)).symm
 simpa [GU] using this
theorem Fin.prop {e:Exit} {p:Prop} (j:Nat) (hj:rs[j]? =some (CK p)) (k:p→Fin n E (Hp M0 w0 S rs) Q e):Fin n E (Hp M0 w0 S rs) Q e:=fun a w hs=>by
 obtain ⟨M,h1,h2,h3,h4⟩:=hs
 have h4:A8 M0 w0 S rs M w:=h4
 exact k (h4.hold _ (List.mem_of_getElem? hj)).1 a w ⟨M,h1,h2,h3,h4⟩
theorem Fin.qA {e:Exit} {p q:Prop} (j:Nat) (hj:rs[j]? =some (CK p)) (h:p→q) (k:Fin n E (Hp M0 w0 S (rs.set j (CK q))) Q e):Fin n E (Hp M0 w0 S rs) Q e:=fun a w hs=>by
 obtain ⟨M,h1,h2,h3,h4⟩:=hs
 have h4:A8 M0 w0 S rs M w:=h4
 exact k a w ⟨M,h1,h2,h3,h4.CV hj rfl rfl (h (h4.hold _ (List.mem_of_getElem? hj)).1)⟩
theorem AL.xA (i:Nat) {c:Tmp} {t T:TypeId} {b:Nat} {new:Bool} {q p:Pr} (h:E.lookup c=some (ptr b 0)) (hi:rs[i]? =some (AF new b T [q])) (ht:Ea P t=true) (hl:Pr.le q p):AL P E rs (.cell c t) p:=by
 intro M w a he hr
 obtain ⟨_,cs,h4,h5,_⟩:=hr _ (List.mem_of_getElem? hi)
 obtain ⟨v,hv,hh⟩:=h5.at_ 0 q rfl
 have hc:w.cell? ⟨b,0,none⟩=some v:=by simp [World.cell?,h4,hv]
 have h1:(loadVar t ⟨b,0,none⟩).run P w= .ok v w:=by simp [loadVar,EY ht,hc]
 refine ⟨v,?_,hl _ _ _ hh⟩
 have hc2:a.tmps.getD c undef= .pointer (some ⟨b,0,none⟩):=he _ _ h
 unfold HM
 simp only [hc2,asAddr]
 simpa [Sem.run_bind] using h1
theorem Tr.X8 {T:TypeId} {sz:Nat} {rows:List (List Pr)} {v:Value} (j:Nat) (hj:rs[j]? =some (BG T sz rows v)) (k0:rows=[]→v= .slice none 0 0→Tr L n E (Hp M0 w0 S (rs.set j Bq)) c Q) (k1:Tr L n E (Hp M0 w0 S (rs.set j (EF T sz rows v))) c Q):Tr L n E (Hp M0 w0 S rs) c Q:=fun a w hs=>by
 obtain ⟨M,h1,h2,h3,h4⟩:=hs
 have h4:A8 M0 w0 S rs M w:=h4
 rcases (h4.hold _ (List.mem_of_getElem? hj)).1 with ⟨e1,e2⟩|hm
 · exact k0 e1 e2 a w ⟨M,h1,h2,h3,h4.CV (r':=Bq) hj (by rw [e2];rfl) rfl trivial⟩
 · exact k1 a w ⟨M,h1,h2,h3,h4.CV (r':=EF T sz rows v) hj rfl rfl hm⟩
theorem Fin.GO {e:Exit} (T:TypeId) (sz:Nat) (k:Fin n E (Hp M0 w0 S (BG T sz [] (.slice none 0 0)::rs)) Q e):Fin n E (Hp M0 w0 S rs) Q e:=fun a w hs=>by
 obtain ⟨M,h1,h2,h3,h4⟩:=hs
 have h4:A8 M0 w0 S rs M w:=h4
 exact k a w ⟨M,h1,h2,h3,A8.I0 h4 (r:=BG T sz [] (.slice none 0 0)) rfl (.inl ⟨rfl,rfl⟩)⟩
end
end Cp
namespace Go.Proofs.YtmocaapoeefgkaaGreatDoor
open Go Go.RowKit Cp Go.Proofs.Tryz
-- sets as bits: read, closed, what can be added (behind AIQ.lean)
def Ni (l:List Int):BitVec 32:=l.foldl (fun b i=>Wh b i.toNat) 0#32
theorem aT {l:List Int} {k:Nat} {x:Int} (h:l[k]? =some x):Ni (l.take (k+1))=Wh (Ni (l.take k)) x.toNat:=by unfold Ni;rw [List.take_add_one,h,List.foldl_append];rfl
theorem fA {n:Nat} (hn:n≤32):∀(l:List Int) (b:BitVec 32) (i:Nat),(∀x∈l,0≤x∧x<n)→((l.foldl (fun b i=>Wh b i.toNat) b).getLsbD i=true↔b.getLsbD i=true∨(i:Int)∈l)
 |[],b,i,_=>by simp
 |x::l,b,i,h=>by
  have hx:=h x (List.mem_cons_self ..)
  rw [List.foldl_cons,fA hn l (Wh b x.toNat) i (fun y hy=>h y (List.mem_cons_of_mem _ hy)),SB AA,Bool.or_eq_true,decide_eq_true_eq,List.mem_cons]
  constructor
  ·
   rintro ((h1|h1)|h1)
   · exact .inl h1
   · right;left;omega
   · exact .inr (.inr h1)
  ·
   rintro (h1|h1|h1)
   · exact .inl (.inl h1)
   · left;right;omega
   · exact .inr h1
theorem aU {n:Nat} {l:List Int} (hn:n≤32) (h:∀x∈l,0≤x∧x<n):Lq n (Ni l) l:=fun i=>by
 unfold Ni
 rw [fA hn l 0#32 i h]
 simp
def WC (B:List (BitVec 32)) (s:BitVec 32):Bool:=(Iq s).all fun i=>B.getD i 0#32&&&~~~s==0#32
theorem PX {n:Int} {l:List BH} {s:BitVec 32} {d:List Int} (hv:BD n l=0) (hs:Lq n.toNat s d) (hd:∀x∈d,0≤x∧x<n):WC (D8 n.toNat l) s=CR l d:=by
 obtain ⟨hn,hb,_,_⟩:=Co hv
 have hB:=FT (n:=n.toNat) (l:=l) AA
 have hat:∀i,i<n.toNat→(D8 n.toNat l)[i]? =some ((D8 n.toNat l).getD i 0#32):=fun i hi=>by
  rw [List.getD_eq_getElem?_getD,List.getElem?_eq_getElem (by rw [C0];exact hi)];rfl
 rw [Bool.eq_iff_iff]
 unfold WC
 rw [List.all_eq_true]
 constructor
 ·
  intro h
  refine Cd.2 fun r hr hm=> ?_
  have hbr:=hb r hr
  unfold Fa at hbr;rw [decide_eq_false_iff_not] at hbr
  have e1:((r.thn.toNat:Nat):Int)=r.thn:=by omega
  have e2:((r.fst.toNat:Nat):Int)=r.fst:=by omega
  have h1:s.getLsbD r.thn.toNat=true:=(hs _).2 (by rw [e1];exact hm)
  have h2:=h _ (F2.2 h1)
  rw [beq_iff_eq,SF] at h2
  have h3:=h2 r.fst.toNat (by
   rw [hB.2 _ _ (hat r.thn.toNat AA)]
   rw [Bool.and_eq_true,decide_eq_true_eq]
   refine ⟨by omega,Io ?_ _⟩
   unfold GA
   exact List.any_eq_true.2 ⟨r,hr,by simp;omega⟩)
  have:=(hs _).1 h3
  rw [e2] at this;exact this
 ·
  intro h i hi
  have h1:=F2.1 hi
  have h2:=(hs i).1 h1
  have h3:=hd _ h2
  rw [beq_iff_eq,SF]
  intro a ha
  rw [hB.2 _ _ (hat i AA),Bool.and_eq_true] at ha
  exact (hs a).2 (FZ h _ ha.2 h2)
theorem qB {n:Int} {s:List Int} {k:Nat} (hk:k≤s.length) (h:∀j,j<k→setAt n s j=true): -1≤O5 s k:=by
 unfold O5
 split
 · omega
 ·
  have h1:=h (k-1) AA
  unfold setAt at h1
  simp only [Bool.and_eq_true,decide_eq_true_eq] at h1
  omega
theorem I2 {n:Nat} {s:List Int} (h:Dc (n:Int) s=true):∀x∈s,0≤x∧x<(n:Int):=fun x hx=>by
 obtain ⟨i,hi⟩:=List.mem_iff_getElem?.1 hx
 exact QJ h hi
theorem QY {n:Nat} {s:List Int} {b:BitVec 32} (hb:Lq n b s) (h:Dc (n:Int) s=true) {i:Nat} (hi:b.getLsbD i=true):i<n:=by
 have:=I2 h _ ((hb i).1 hi);omega
abbrev rdB (n:Nat) (l:List Int):BitVec 32:=if Dc (n:Int) l=true then Ni l else 0#32
abbrev vJ (B:List (BitVec 32)) (s:BitVec 32) (pre:List Nat):Prop:=∀i∈pre,(B.getD i 0#32&&&~~~s==0#32)=true
theorem WD {n:Nat} {B:List (BitVec 32)} {p:Pr} {l:List Int} (hn:n≤24):BF prog 137 [ref [int ((n:Nat):Int),bits B,p],ints l] (Dy [u32 (rdB n l),bool (Dc ((n:Nat):Int) l)]):=by
 refine fo func137 rfl ⟨rfl,rfl⟩ fun M0 w0=>(Tr.Cl 1 rfl fun F0=> ?_)
 iterate 4 refine ac ?_
 refine Tr.block (Tr.BE _ (kk [11,10,0] rfl) (fun k:Nat=>[(12,int ((k:Nat):Int)),(7,int (O5 l k)),(6,u32 (Ni (l.take k)))]) (fun k:Nat=>k≤(l).length∧(∀j,j<k→setAt (n:Nat) l j=true)) (fun k:Nat=>(l).length-k) 0 (⟨Nat.zero_le _,fun j hj=>absurd hj AA⟩) ⟨kq,⟨_,rfl,int_eq rfl⟩,⟨_,rfl,Mi⟩,trivial⟩ ?_)
 rintro k ⟨BT,AX⟩
 refine ac ?_
 refine Tr.seq ?_
 refine Tr.cn rfl ?_ ?_<;>intro h1 q1
 have Ai:k<(l).length:=AH h1
 obtain ⟨i,Ah⟩:=at_ Ai
 have Z_:=Rm AX Ah
 have hlg:=qB AA AX
 refine ac ?_
 refine Tr.seq (Tr.block (Tr.seq (Tr.Al (co rfl (AD rfl underlying51 Bs vq vq AA (AZ Ah)) ?_))))
 refine ac ?_
 refine ag ?_ ?_<;>intro h2 q2
 refine ac ?_
 refine wk [26,12,11,10,9,6,0] rfl ?_
 refine ac ?_
 refine Tr.ret (Fin.AE (Fin.AR (Fin.AE (Fin.AE (Fin.AR (Fin.AE (Fin.D3 rfl (Bt.EB _ _) rfl ?_ rfl ?_)))))))
 · exact bQ
 · exact cC
 refine ac ?_
 refine wk [26,12,11,10,9,6,0] rfl ?_
 refine Tr.cn rfl ?_ ?_<;>intro h3 q3
 refine ac ?_
 refine Tr.ret (Fin.AE (Fin.AR (Fin.AE (Fin.AE (Fin.AR (Fin.AE (Fin.D3 rfl (Bt.EB _ _) rfl ?_ rfl ?_)))))))
 · exact bQ
 · exact cC
 refine a2 ?_
 refine co rfl (Ip (b:=1#32) rfl vq vq AA) ?_
 refine co rfl (LK rfl vq vq) ?_
 refine a2 ?_
 refine wk [12,11,10,7,6,0] rfl ?_
 refine ac ?_
 exact Fin.AO (k+1) ⟨⟨Ai,EG AX (by rw [Z_];simp;omega)⟩,by omega⟩ ⟨⟨_,rfl,AG k⟩,⟨_,rfl,int_eq (by rw [Zy Ah])⟩,⟨_,rfl,Pr.le_of_eq (congrArg u32 (aT Ah).symm)⟩,kz⟩
 have BP:k=(l).length:=by have:=AJ h1;omega
 subst BP
 have hsb:Dc ((n:Nat):Int) l=true:=B_.2 AX
 refine a2 ?_
 refine Tr.ret (Fin.D3 rfl (Bt.EB _ _) rfl ?_ rfl ?_)
 · rw [show rdB n l=Ni l from if_pos hsb,List.take_length];exact Lr
 · refine bool_eq ?_;exact hsb.symm
theorem zZ {B:List (BitVec 32)} {s y:BitVec 32} {x:Nat} (h:x∈Iq s) (hy:B[x]? =some y) (hn:(y&&&~~~s==0#32)=false):WC B s=false:=by
 unfold WC
 rw [List.all_eq_false]
 exact ⟨x,h,by rw [List.getD_eq_getElem?_getD,hy];simpa using hn⟩
theorem vK {B:List (BitVec 32)} {s:BitVec 32} (h:vJ B s (Iq s)):WC B s=true:=by
 unfold WC
 exact List.all_eq_true.2 h
theorem Oa {n:Nat} {B:List (BitVec 32)} {p:Pr} [One p] {s:BitVec 32} (hB:B.length=n) (hs:∀i,s.getLsbD i=true→i<n):BS Tryz.prog 138 [ref [int ((n:Nat):Int),bits B,p],u32 s] (bool (WC B s)) (CY) (fun _=>CY):=by
 refine BS.ofM Tryz.func138 rfl rfl Bx fun M0 w0 S rs M1 w1=> ?_
 refine Tr.seq ?_
 refine Tr.Ap ?_
 refine TO.op rfl rfl AB (Bh rfl (VL.le (vl rfl) (Ad _))) ?_
 refine TO.op rfl rfl AB (Bh rfl (VL.le (vl rfl) (Ad _))) ?_
 refine TO.alloc rfl rfl AB rfl z4 zo4 (fun b1=> ?_)
 refine TO.nil ?_
 refine Fin.go ?_
 refine Tr.seq ?_
 refine Tr.seq ?_
 refine Tr.Ap ?_
 refine TO.op rfl rfl AB (DC rfl Ec (vl rfl)) ?_
 refine TO.pad ?_
 refine TO.Dl 0 rfl rfl AB (Fu rfl rfl AB rfl (ej) ⟨⟨_,rfl,Pr.le_refl _⟩,trivial⟩) (fun v1=> ?_)
 refine TO.nil ?_
 refine Fin.shape 7 (fun b=>iW b) rfl (fun fb2 fe2=> ?_)
 subst fe2
 refine Fin.F4 0 (AF true fb2 QU [_]) rfl rfl ?_
 refine Fin.go ?_
 refine Tr.block ?_
 refine Tr.eZ (p:=vJ B s []) (fun i h=>GX) ?_
 refine Tr.p_ 5 [(2,_),(3,_),(4,_)] ⟨⟨_,rfl,Pr.le_refl _⟩,⟨_,rfl,Pr.le_refl _⟩,⟨_,rfl,Pr.le_refl _⟩,trivial⟩ (fun pre (_:Unit)=>CK (vJ B s pre)::AF true b1 4 [bool false]::Ak M1 w1::rs) (fun pre (_:Unit)=>CK (WC B s=false)::AF true b1 4 [bool false]::Ak M1 w1::rs) () (QV (s:=s)) QW (vl rfl) ((Cm (j:=3) rfl).trans (List.Perm.cons _ ((Cm (j:=1) rfl).trans (List.Perm.cons _ (List.Perm.refl _))))) rfl Bx ?_ ?_ ?_ ?_
 ·
  rintro lk Dk rk Mr wr pre x _ hpre
  refine Tr.Al ?_
  refine Ch.op rfl rfl AB (Cq rfl (vl rfl)) ?_
  refine Ch.nil ?_
  exact Fin.st ⟨⟨_,rfl,Pr.le_refl _⟩,⟨_,rfl,Pr.le_refl _⟩,⟨_,rfl,Pr.le_refl _⟩,⟨_,rfl,Pr.le_refl _⟩,trivial⟩
 ·
  rintro lk Dk rk Mr wr pre x _ hpre
  have hsx:s.getLsbD x=true:=F2.1 (aO hpre)
  obtain ⟨y,hy⟩:=at_ (l:=B) (k:=x) (by have:=hs x hsx;omega)
  refine Tr.block ?_
  refine Tr.seq ?_
  refine Tr.k7 mixed BV ?_
  refine Ch.op rfl rfl AB (DC rfl JF (vl rfl)) ?_
  first
   |refine Ch.op rfl rfl AB (Gt rfl (vl rfl)) ?_
   |refine Ch.op rfl rfl AB (HI rfl (vl rfl)) ?_
  refine Ch.op rfl rfl AB (E2 rfl JH (vl rfl) rfl) ?_
  refine Ch.op rfl rfl AB (DC rfl JG (vl rfl)) ?_
  refine Ch.op rfl rfl AB (BQ rfl (vl rfl)) ?_
  refine Ch.op rfl rfl AB (AD rfl Tryz.underlying232 FV (vl rfl) (vl rfl) AA (Nh hy)) ?_
  refine Ch.op rfl rfl AB (DC rfl Ec (vl rfl)) ?_
  refine Ch.op rfl rfl AB (DC rfl Ec (vl rfl)) ?_
  refine Ch.op rfl rfl AB (Ki rfl (vl rfl) (vl rfl)) ?_
  refine Ch.op rfl rfl AB (pQ rfl (vl rfl) (vl rfl)) ?_
  refine Ch.nil ?_
  refine Fin.go ?_
  refine Tr.weak [(4,_),(18,_)] ⟨⟨_,rfl,Pr.le_refl _⟩,⟨_,rfl,Pr.le_refl _⟩,trivial⟩ ?_
  refine Tr.cond rfl (fun h1=> ?_) (fun h1=> ?_)
  ·
   have q1:=DH.Dp h1
   refine Tr.seq ?_
   refine Tr.Ap ?_
   refine TO.AK 6 rfl rfl rfl (vl rfl) (VL.le (vl rfl) (Ad _)) rfl Tp rfl rfl ?_
   refine TO.nil ?_
   refine Fin.go ?_
   refine Tr.ret ?_
   refine Fin.AR ?_
   refine Fin.qA 5 rfl (q:=WC B s=false) (fun _=>zZ (F2.2 hsx) hy Br) ?_
   exact Fin.zY () (List.Perm.refl _)
  ·
   have q1:=DH.Dp h1
   refine Tr.skip ?_
   refine Fin.block ?_
   refine Fin.qA 5 rfl (q:=vJ B s (pre++[x])) (fun h i hi=>by rcases List.mem_append.1 hi with hi|hi;exact h i hi;(rw [List.mem_singleton] at hi;subst hi;rw [List.getD_eq_getElem?_getD,hy];simp_all)) ?_
   exact Fin.rnd () (List.Perm.refl _)
 ·
  rintro lk Dk rk Mr wr _
  refine Fin.prop 5 rfl fun hok=> ?_
  refine Fin.drop 1 ?_
  refine Fin.drop 1 ?_
  refine Fin.drop 2 ?_
  refine Fin.drop 2 ?_
  refine Fin.block ?_
  refine Fin.go ?_
  refine Tr.seq ?_
  refine Tr.Ap ?_
  refine TO.AK 2 rfl rfl rfl (vl rfl) (VL.le (vl rfl) (Ad _)) rfl Tp rfl rfl ?_
  refine TO.nil ?_
  refine Fin.go ?_
  refine Tr.ret ?_
  refine Fin.Kk (List.perm_middle (l₁:=[_])) ?_
  refine Fin.SG ?_
  refine Fin.SH ?_
  refine Fin.Kk ((List.perm_middle (l₁:=[_])).symm) ?_
  refine Fin.Gl [_] rfl (AL.xA 0 rfl rfl XA (Pr.le_refl _)) ?_ (fun _ _ _ _=>rfl)
  · exact bool_eq (vK hok).symm
 ·
  rintro lk Dk rk Mr wr pre _ hpre
  refine Fin.prop 5 rfl fun hno=> ?_
  refine Fin.drop 1 ?_
  refine Fin.drop 1 ?_
  refine Fin.drop 2 ?_
  refine Fin.drop 2 ?_
  refine Fin.AR ?_
  refine Fin.AE ?_
  refine Fin.Kk (List.perm_middle (l₁:=[_])) ?_
  refine Fin.SG ?_
  refine Fin.SH ?_
  refine Fin.Kk ((List.perm_middle (l₁:=[_])).symm) ?_
  refine Fin.Gl [_] rfl (AL.xA 0 rfl rfl XA (Pr.le_refl _)) ?_ (fun _ _ _ _=>rfl)
  · exact bool_eq hno.symm
theorem fB {s:BitVec 32}  :E4 (α:=Value) Tryz.prog 180 [u32 s] [CY] (fun _=>True) (fun v=>Aa v (lens (((Iq s).map fun i:Nat=>(i:Int)).map (fun n=>[int n])).length)) (fun v=>[CY,BG 3 1 (((Iq s).map fun i:Nat=>(i:Int)).map (fun n=>[int n])) v]):=by
 refine E4.ofM Tryz.func180 rfl rfl Bx fun M0 w0 S rs M1 w1=> ?_
 refine Tr.seq ?_
 refine Tr.Al ?_
 refine Ch.op rfl rfl AB (Cq rfl (vl rfl)) ?_
 refine Ch.nil ?_
 refine Fin.go ?_
 refine Tr.seq ?_
 refine Tr.Ap ?_
 refine TO.alloc rfl rfl AB rfl z51 ABb (fun b1=> ?_)
 refine TO.nil ?_
 refine Fin.go ?_
 refine Tr.seq ?_
 refine Tr.seq ?_
 refine Tr.Ap ?_
 refine TO.op rfl rfl AB (BQ rfl (vl rfl)) ?_
 refine TO.pad ?_
 refine TO.Dl 0 rfl rfl AB (Fu rfl rfl AB rfl (ej) ⟨⟨_,rfl,Pr.le_refl _⟩,trivial⟩) (fun v1=> ?_)
 refine TO.nil ?_
 refine Fin.shape 6 (fun b=>iW b) rfl (fun fb2 fe2=> ?_)
 subst fe2
 refine Fin.F4 0 (AF true fb2 QU [_]) rfl rfl ?_
 refine Fin.go ?_
 refine Tr.block ?_
 refine Tr.GO 3 1 ?_
 refine Tr.HZ 2 [Aa (.slice none 0 0) (lens 0)] rfl ⟨Gh rfl,trivial⟩ ?_
 refine Tr.aB 4 [(3,_)] ⟨⟨_,rfl,Pr.le_refl _⟩,trivial⟩ (fun pre vr=>BG 3 1 ((pre.map fun i:Nat=>(i:Int)).map (fun n=>[int n])) vr::AF true b1 51 [Aa vr (lens ((pre.map fun i:Nat=>(i:Int)).map (fun n=>[int n])).length)]::Ak M1 w1::rs) (.slice none 0 0) (QV (s:=s)) QW (vl rfl) ((Cm (j:=3) rfl).trans (List.Perm.cons _ ((Cm (j:=1) rfl).trans (List.Perm.cons _ (List.Perm.refl _))))) rfl Bx ?_ ?_ ?_
 ·
  rintro lk Dk rk Mr wr pre x vr hpre
  refine Tr.Al ?_
  refine Ch.op rfl rfl AB (Cq rfl (vl rfl)) ?_
  refine Ch.nil ?_
  exact Fin.st ⟨⟨_,rfl,Pr.le_refl _⟩,⟨_,rfl,Pr.le_refl _⟩,trivial⟩
 ·
  rintro lk Dk rk Mr wr pre x vr hpre
  have hpl:(pre++[x]).length≤32:=Nat.le_trans hpre.length_le (u9 s)
  rw [List.length_append,List.length_cons,List.length_nil] at hpl
  refine Tr.block ?_
  refine Tr.Ap ?_
  refine TO.rd 6 rfl rfl rfl AB (A_ rfl dG (vl rfl) rfl) ?_
  refine TO.op rfl rfl AB (BQ rfl (vl rfl)) ?_
  refine TO.op rfl rfl AB (AP (xs:=[.tmp 9]) (rows:=[[_]]) rfl rfl Tryz.underlying51 Bs z3 rfl AB ⟨⟨Ao,(VL.le (vl rfl) (Ad _))⟩,trivial⟩ AB) ?_
  refine TO.Dl 5 rfl rfl AB (FW rfl rfl AB rfl Tryz.underlying51 Bs Iw z3 rfl AB AB (vl rfl) ⟨_,rfl,B8 _ _⟩ (A7 fun _=>rfl) (Nat.zero_lt_succ _) Nz N0) (fun v2=> ?_)
  refine TO.AK 6 rfl rfl rfl (vl rfl) (VL.le (vl rfl) (Ad _)) rfl G6 rfl rfl ?_
  refine TO.nil ?_
  refine Fin.block ?_
  rw [show (pre.map fun i:Nat=>(i:Int)).map (fun n=>[int n])++[[int ((x:Nat):Int)]]=((pre++[x]).map fun i:Nat=>(i:Int)).map (fun n=>[int n]) by rw [List.map_append,List.map_append];rfl]
  refine Fin.HZ 6 [Aa v2 (lens (((pre++[x]).map fun i:Nat=>(i:Int)).map (fun n=>[int n])).length)] rfl ⟨C5 AU,trivial⟩ ?_
  exact Fin.rnd v2 (List.Perm.refl _)
 ·
  rintro lk Dk rk Mr wr vr
  refine Fin.drop 1 ?_
  refine Fin.drop 1 ?_
  refine Fin.drop 2 ?_
  refine Fin.block ?_
  refine Fin.go ?_
  refine Tr.seq ?_
  refine Tr.Al ?_
  refine Ch.op rfl rfl Bx (CN 3 rfl (A_ rfl dG (vl rfl) rfl)) ?_
  refine Ch.op rfl rfl Bx (Cq rfl (vl rfl)) ?_
  refine Ch.nil ?_
  refine Fin.go ?_
  refine Tr.ret ?_
  refine Fin.Kk (List.perm_middle (l₁:=[_])) ?_
  refine Fin.SG ?_
  refine Fin.SH ?_
  refine Fin.drop 2 ?_
  refine Fin.wh (vr) rfl (AL.tmp rfl (Pr.le_refl _)) trivial ?_ (List.Perm.refl _)
  · exact Pr.le_refl _
def Gz (n:Int) (l:List BH) (s:List Int):Int:=if BD n l≠0 then BD n l else if Dc n s=true∧CR l s=true then 0 else 46
def JY (n:Int) (l:List BH) (s:List Int):List Int:=if Gz n l s=0 then EU n.toNat l s true else []
theorem kj {n:Int} {l:List BH} {s:List Int} (h:BD n l≠0):Gz n l s=BD n l:=by unfold Gz;rw [if_pos h]
theorem WE {n:Int} {l:List BH} {s:List Int} (h:BD n l=0) (hn:¬(Dc n s=true∧CR l s=true)):Gz n l s=46:=by unfold Gz;rw [if_neg (not_not_intro h),if_neg hn]
theorem qC {n:Int} {l:List BH} {s:List Int} (h:BD n l=0) (hs:Dc n s=true) (hc:CR l s=true):Gz n l s=0:=by unfold Gz;rw [if_neg (not_not_intro h),if_pos ⟨hs,hc⟩]
theorem WG {n:Int} {l:List BH} {s:List Int} {e:Int} (h:Gz n l s=e) (he:e≠0):JY n l s=[]:=by unfold JY;rw [if_neg I4]
theorem za {n:Int} {l:List BH} {s:List Int} {b:BitVec 32} (h:Gz n l s=0) (hv:BD n l=0) (hs:Lq n.toNat b s) (hc:CR l s=true):(Iq (MT (D8 n.toNat l) b n.toNat)).map (fun i:Nat=>(i:Int))=JY n l s:=by
 unfold JY
 rw [if_pos h]
 have hn:=(Co hv).1
 exact (zH (fun j=>vE hv hs hc j) AA).symm
theorem GW {n:Nat} {s:List Int} (hn:n≤32) (h:Dc (n:Int) s=true):Lq n (rdB n s) s:=by
 rw [show rdB n s=Ni s from if_pos h];exact aU hn (I2 h)
theorem ia {n:Int} {l:List BH} {s:List Int}  :E4 (α:=Value) prog 132 [int n,reqs l,ints s,fn (.func 153) []] [CY] (fun _=>True) (fun v=>Dy [Aa v (lens ((JY n l s).map (fun n=>[int n])).length),int (Gz n l s)]) (fun v=>[CY,BG 3 1 ((JY n l s).map (fun n=>[int n])) v]):=by
 refine E4.of func132 rfl rfl Az fun M0 w0 S rs M1 w1=> ?_
 refine ac ?_
 refine ap ?_
 refine TO.GK 0 rfl rfl AB (Aj rfl rfl AB rfl (WA (n:=n) (l:=l)) ⟨kq,kz⟩) ?_
 refine ap ?_
 refine an ?_ ?_<;>intro h1 q1
 have hv:BD n l≠0:=by simpa using h1
 refine ac ?_
 refine wk [9,8] rfl (Tr.ret (Fin.AE ?_))
 have hno:=WG (kj (s:=s) hv) hv
 refine Fin.GO 3 1 (Fin.HO ?_)
 refine Fin.F4 1 (BG 3 1 ((JY n l s).map (fun n=>[int n])) (.slice none 0 0)) rfl K0 ?_
 refine Fin.Ie ((.slice none 0 0)) rfl (AL.tmp rfl Lr) (AL.tmp rfl Lr) trivial ?_ (List.Perm.refl _)
 · exact bn
 have hv:BD n l=0:=by simpa using h1
 have Ns:=(Co hv).1
 obtain ⟨N,rfl⟩:∃N:Nat,n=(N:Int):=⟨n.toNat,by omega⟩
 refine Tr.re 10 rfl (Pr.le_of_eq (QX hv)) ?_
 refine a2 ?_
 refine co rfl (CS (WD (n:=N) (B:=D8 N l) (l:=s) AA) rfl rfl rfl) ?_
 refine ac ?_
 refine wk [13,12,10,3] rfl ?_
 refine ap ?_
 refine TO.cases 31 rfl (fun h2=> ?_) (fun h2=> ?_)
 have q2:=DH.Dp h2
 have h46:Gz (N:Int) l s=46:=WE hv (by rintro ⟨g1,g2⟩;simp_all)
 iterate 4 refine TO.Rc rfl rfl rfl (IU h2) rfl AB ?_
 refine ap ?_
 refine ac ?_
 refine wk [9,8] rfl (Tr.ret (Fin.AE ?_))
 have hno:=WG h46 AB
 refine Fin.GO 3 1 (Fin.HO ?_)
 refine Fin.F4 1 (BG 3 1 ((JY ((N:Nat):Int) l s).map (fun n=>[int n])) (.slice none 0 0)) rfl K0 ?_
 refine Fin.Ie ((.slice none 0 0)) rfl (AL.tmp rfl Lr) (AL.tmp rfl Lr) trivial ?_ (List.Perm.refl _)
 · exact Ul
 have q2:=DH.Dp h2
 have hsb:Dc ((N:Nat):Int) s=true:=by simpa using h2
 refine TO.HP rfl rfl rfl h2 rfl AB (BQ rfl vq) (TO.HP rfl rfl rfl h2 rfl AB (BQ rfl vq) ?_)
 refine TO.Zc 0 rfl rfl rfl h2 rfl rfl AB (Aj rfl rfl AB rfl (Oa (n:=N) (C0 N l) (fun i h=>QY (GW AA hsb) hsb h)) ⟨kq,kz⟩) ?_
 refine TO.HP rfl rfl rfl h2 rfl AB (Fp rfl vq) ?_
 refine ap ?_
 refine Tr.cn rfl ?_ ?_<;>intro h3 q3
 have h46:Gz (N:Int) l s=46:=WE hv kf
 refine ac ?_
 refine wk [9,8] rfl (Tr.ret (Fin.AE ?_))
 have hno:=WG h46 AB
 refine Fin.GO 3 1 (Fin.HO ?_)
 refine Fin.F4 1 (BG 3 1 ((JY ((N:Nat):Int) l s).map (fun n=>[int n])) (.slice none 0 0)) rfl K0 ?_
 refine Fin.Ie ((.slice none 0 0)) rfl (AL.tmp rfl Lr) (AL.tmp rfl Lr) trivial ?_ (List.Perm.refl _)
 · exact Ul
 have Wy:CR l s=true:=by rw [←PX (n:=(N:Int)) hv (GW AA hsb) (I2 hsb)];simpa using h3
 have ha0:=qC hv hsb Wy
 have qD:(Iq (MT (D8 N l) (rdB N s) N)).map (fun i:Nat=>(i:Int))=JY (N:Int) l s:=za ha0 hv (GW AA hsb) Wy
 refine ac ?_
 refine ap ?_
 refine tp rfl (mJ rfl vq (show BF prog 153 ([_,_]++[]) _ from pZ (n:=N) (B:=D8 N l) (s:=rdB N s) (C0 N l) AA) ⟨kq,kz⟩) ?_
 refine TO.NK _ rfl rfl AB rfl (fB) kz ((Cm (j:=0) rfl).trans (List.Perm.cons _ (List.Perm.refl _))) (fun x1 _=> ?_)
 refine ap ?_
 refine wk [9,8] rfl (Tr.ret (Fin.F4 1 (BG 3 1 ((JY ((N:Nat):Int) l s).map (fun n=>[int n])) x1) rfl (by rw [qD]) (Fin.Ie (x1) rfl (AL.tmp rfl Lr) (AL.tmp rfl Lr) trivial ?_ (List.Perm.refl _))))
 · exact Ay ⟨C5 (by rw [qD]),int_eq ha0.symm,trivial⟩
theorem ig {n:Int} {l:List BH} {s:List Int}  :E4 (α:=Value) prog 117 [int n,reqs l,ints s] [CY] (fun _=>True) (fun v=>Dy [Aa v (lens ((JY n l s).map (fun n=>[int n])).length),int (Gz n l s)]) (fun v=>[CY,BG 3 1 ((JY n l s).map (fun n=>[int n])) v]):=by
 refine E4.of func117 rfl rfl Az fun M0 w0 S rs M1 w1=> ?_
 refine ac ?_
 refine ap ?_
 refine TO.NK _ rfl rfl AB rfl (ia (n:=n) (l:=l) (s:=s)) ⟨kq,kz⟩ ((Cm (j:=0) rfl).trans (List.Perm.cons _ (List.Perm.refl _))) (fun x1 _=> ?_)
 refine ap ?_
 refine Tr.ret (Fin.Ie (x1) rfl (AL.tmp rfl Lr) (AL.tmp rfl Lr) trivial ?_ (List.Perm.refl _))
 · exact Lr
end Go.Proofs.YtmocaapoeefgkaaGreatDoor
namespace Cp
open Go Go.RowKit Go.Great
section
variable {P:Program}
theorem PR.frz {f:FuncId} {args:List Pr} {p0 p1:Pr} {e:TypeId} {sz:Nat} {rows:List (List Pr)} (hl:∀r∈rows,r.length=sz) (h:PR P f args (fun x=>agg [p0,p1,is x]) (fun x=>[Bz e sz rows x])):BF P f args (agg [p0,p1,slice sz rows]):=by
 refine ⟨h.1,fun M w vs hb hv=> ?_⟩
 refine (h.2 M w Fo [] M w vs (A8.begin hb) hv).mono ?_
 rintro e' w' ⟨v,M',x,rfl,_,h1,h2,h3⟩
 obtain ⟨M2,j1,j2,j3⟩:=A8.yN (j:=0) h3 rfl hl
 obtain ⟨cs,hc,g1,g2⟩:=(agg [p0,p1,is x]).st _ _ _ _ _ j1 h1
 refine ⟨v,rfl,?_,j2.below⟩
 exact (agg [p0,p1,slice sz rows]).st _ _ _ _ _ (Ext.less j2.m) ⟨cs,hc,g1,HL.set (k:=2) g2 rfl fun u hu=>by rw [show u=x from hu];exact j3⟩
theorem E4.ZY {f:FuncId} {args:List Pr} {k:Pr} {e:TypeId} {sz m:Nat} {rows:List (List Pr)} {R:Aq} (hl:∀r∈rows,r.length=sz) (h:E4 (α:=Value) P f args [R] (fun _=>True) (fun v=>Dy [Aa v (lens m),k]) (fun v=>[R,BG e sz rows v])):BS P f args (Dy [slice sz rows,k]) R (fun _=>R):=by
 refine ⟨h.1,fun M0 w0 S rs M w vs hI hv=>(h.2 M0 w0 S rs M w vs hI hv).mono ?_⟩
 rintro e' w' ⟨v,M',x,rfl,_,h1,h2,h3⟩
 have h3:A8 M0 w0 S (R::BG e sz rows x::rs) M' w':=h3
 obtain ⟨M2,j1,j2,j3⟩:=A8.ZY (j:=1) h3 rfl hl
 obtain ⟨cs,hc,g2⟩:=(Dy [Aa x (lens m),k]).st _ _ _ _ _ j1 h1
 exact ⟨v,M2,rfl,⟨cs,hc,HL.set (k:=0) g2 rfl fun u hu=>by rw [show u=x from hu.1];exact j3⟩,h2.trans j1,(A8.perm (List.Perm.swap _ _ _) j2).KD⟩
variable {n:Fm} {E:Env} {M0:Av} {w0:World} {S:Nat→Prop} {o:Oper}
theorem qE {f:FuncId} {cx:Operand} {xs:Array Operand} {ts:Array TypeId} {ps caps:List Pr} {res:Pr} {j d:Nat} {R0 R1:Aq} (hg:o.guard=none) (hd:o.dst=some d) (hn:d<n) (ho:o.op= .call { callee:= .value cx,args:=xs,argTypes:=ts }) (hc:VL E cx (fn (.func f) caps)) (hf:BS P f (ps++caps) res R0 (fun _=>R1))
  (hv:HF E xs.toList ps):C_ P M0 w0 S n j (SR.c R0) (SR.c R1) o E res:=by
 refine ⟨hg,fun M w a rs hsz he hI hj=> ?_⟩
 have h1:=HF.Fj (o:=o) he (xs:=xs.toList) (fun x hx=>by simp [ho,Op.operands,Call.operands];exact .inr Fh) hv
 obtain ⟨cs,g2,g3⟩:=hc.ev he DK
 have hrun:(execOp a.eval o).run P w= .ok (.enter f ((xs.toList.map a.eval).toArray++cs.toArray)) w:=by
  simp [execOp,ho,resolve,Deferred.ofValue,g2,invoke,DL hf.1,Gj xs]
 rw [hrun]
 have hj':rs[j]? =some R0:=hj
 have hjl:j<rs.length:=by rcases Nat.lt_or_ge j rs.length with h|h;exact h;rw [List.getElem?_eq_none h] at hj';cases hj'
 have h4:=hf.2 M0 w0 S (rs.eraseIdx j) M w _ (A8.perm (Cm hj') hI) (h1.app g3)
 have e1:((xs.toList.map a.eval).toArray++cs.toArray)=((xs.toList.map a.eval)++cs).toArray:=by simp
 rw [e1]
 refine h4.mono ?_
 rintro e w' ⟨v,M',rfl,h2,h3,h4⟩
 exact ⟨v,M',rfl,h2,h3,A8.perm (KC hjl) h4⟩
end
end Cp
namespace Go.Proofs.YtmocaapoeefgkaaGreatDoor
open Go Go.RowKit Cp Go.Proofs.Tryz
theorem and_zero {x s:BitVec 32}:(x&&&s=0#32)↔∀i,x.getLsbD i=true→s.getLsbD i=false:=by
 constructor
 ·
  intro h i hi
  have h2:=congrArg (fun y=>BitVec.getLsbD y i) h
  simp [hi] at h2
  exact h2
 ·
  intro h
  refine V5 fun i hi=> ?_
  rw [BitVec.getLsbD_and]
  cases hx:x.getLsbD i with
  |false=>rfl
  |true=>rw [h i hx];rfl
theorem vL {n:Int} {l:List BH} {A:List (BitVec 32)} {s x:BitVec 32} {d:List Int} {i:Nat} (hv:BD n l=0) (hA:Dx n.toNat A (fun b a=>C8 l n.toNat a b)) (hs:Lq n.toNat s d) (hd:∀x∈d,0≤x∧x<n) (hc:CR l d=true) (hx:A[i]? =some x) (hi:i<n.toNat):
  Jw l d false i=(s.getLsbD i&&(x&&&s==0#32)):=by
 obtain ⟨h0,h1,h2,h3⟩:=Co hv
 rw [Bool.eq_iff_iff]
 unfold Jw
 have e1:(II d (i:Int) !=false)=s.getLsbD i:=by
  cases hg:s.getLsbD i with
  |true=>have:=(hs i).1 hg;rw [Dv.2 this];rfl
  |false=>
   have:¬(i:Int)∈d:=fun e=>by have:=(hs i).2 e;rw [hg] at this;cases this
   have h4:II d (i:Int)=false:=by cases h5:II d (i:Int) with|false=>rfl|true=>exact absurd (Dv.1 h5) this
   rw [h4];rfl
 rw [e1,Bool.and_eq_true,Bool.and_eq_true,beq_iff_eq,and_zero]
 refine and_congr_right fun hin=> ?_
 constructor
 ·
  intro Wy a ha
  rw [hA.2 i x hx a,Bool.and_eq_true,decide_eq_true_eq] at ha
  cases hsa:s.getLsbD a with
  |false=>rfl
  |true=>
   have hai:(a:Int)≠(i:Int):=fun he=>by
    have h6:a=i:=by omega
    subst h6
    have h9:C8 l n.toNat a a=true:=ha.2
    rw [h3 a hi] at h9;cases h9
   have:=FZ Wy _ ha.2 (LH.2 ⟨hai,(hs a).1 hsa⟩)
   exact absurd rfl (LH.1 this).1
 ·
  intro h
  rw [Cd]
  intro r hr hm
  obtain ⟨h4,h5⟩:=LH.1 hm
  have h6:=Cd.1 hc r hr h5
  refine LH.2 ⟨fun he=> ?_,h6⟩
  have hr1:=hd _ h5
  have h7:=(hs r.thn.toNat).2 (by rw [Int.toNat_of_nonneg hr1.1];exact h5)
  have h8:=h r.thn.toNat (by
   rw [hA.2 i x hx,Bool.and_eq_true,decide_eq_true_eq]
   refine ⟨by omega,Io ?_ _⟩
   unfold GA
   rw [List.any_eq_true]
   exact ⟨r,hr,by simp;omega⟩)
  rw [h7] at h8;cases h8
def MU (A:List (BitVec 32)) (s:BitVec 32) (pre:List Nat):BitVec 32:=pre.foldl (fun o i=>if (A.getD i 0#32&&&s==0#32)=true then Wh o i else o) 0#32
theorem qF {A:List (BitVec 32)} {s y:BitVec 32} {pre:List Nat} {i:Nat} (hy:A[i]? =some y) (h:(y&&&s==0#32)=true):MU A s (pre++[i])=Wh (MU A s pre) i:=by
 unfold MU
 rw [List.foldl_append]
 simp only [List.foldl_cons,List.foldl_nil]
 rw [List.getD_eq_getElem?_getD,hy]
 exact if_pos h
theorem vM {A:List (BitVec 32)} {s y:BitVec 32} {pre:List Nat} {i:Nat} (hy:A[i]? =some y) (h:(y&&&s==0#32)=false):MU A s (pre++[i])=MU A s pre:=by
 unfold MU
 rw [List.foldl_append]
 simp only [List.foldl_cons,List.foldl_nil]
 rw [List.getD_eq_getElem?_getD,hy]
 exact if_neg (by rw [show (some y).getD 0#32=y from rfl,h];decide)
theorem qG {A:List (BitVec 32)} {s:BitVec 32}:∀(pre:List Nat) (o:BitVec 32) (j:Nat),(∀i∈pre,i<32)→
  (pre.foldl (fun o i=>if (A.getD i 0#32&&&s==0#32)=true then Wh o i else o) o).getLsbD j=(o.getLsbD j||(decide (j∈pre)&&(A.getD j 0#32&&&s==0#32)))
 |[],o,j,_=>by simp
 |a::pre,o,j,h=>by
  rw [List.foldl_cons,qG pre _ j fun i hi=>h i (List.mem_cons_of_mem _ hi)]
  have ha:=h a (List.mem_cons_self ..)
  by_cases hj:j=a
  ·
   subst hj
   cases hb:(A.getD j 0#32&&&s==0#32) with
   |true=>rw [if_pos rfl,SB ha];simp
   |false=>rw [if_neg AB];simp
  ·
   have e:decide (j∈a::pre)=decide (j∈pre):=by simp [hj]
   rw [e]
   split
   · rw [SB ha];simp [Ne.symm hj]
   · rfl
theorem zb {n:Int} {l:List BH} {s:BitVec 32} {d:List Int} (hv:BD n l=0) (hs:Lq n.toNat s d) (hd:∀x∈d,0≤x∧x<n) (hc:CR l d=true):
  (Iq (MU (G9 (D8 n.toNat l) n.toNat) s (Iq s))).map (fun i:Nat=>(i:Int))=EU n.toNat l d false:=by
 have hn:=(Co hv).1
 have hA:=(eo (n:=n.toNat) (l:=l) AA).aft
 unfold EU
 rw [pP (n:=n.toNat) (p:=Jw l d false) (fun j=> ?_) AA]
 unfold MU
 rw [qG _ _ _ fun i hi=>Nat.lt_of_not_le fun h=>by rw [F2,BitVec.getLsbD_of_ge _ _ h] at hi;cases hi]
 have hm:decide (j∈Iq s)=s.getLsbD j:=by rw [Bool.eq_iff_iff,decide_eq_true_eq];exact F2
 rw [hm,show (0#32).getLsbD j=false by simp,Bool.false_or]
 by_cases hj:j<n.toNat
 ·
  obtain ⟨x,hx⟩:=at_ (l:=G9 (D8 n.toNat l) n.toNat) (k:=j) (by rw [hA.1];exact hj)
  rw [vL hv hA hs hd hc hx hj,List.getD_eq_getElem?_getD,hx,decide_eq_true hj,Bool.true_and];rfl
 ·
  rw [decide_eq_false hj,Bool.false_and]
  cases hg:s.getLsbD j with
  |false=>rfl
  |true=>have:=hd _ ((hs j).1 hg);omega
theorem WH {n:Nat} {A:List (BitVec 32)} {p:Pr} [One p] {s:BitVec 32} (hA:A.length=n) (hs:∀i,s.getLsbD i=true→i<n):BS Tryz.prog 133 [ref [int ((n:Nat):Int),p,bits A],u32 s] (u32 (MU A s (Iq s))) (CY) (fun _=>CY):=by
 refine BS.ofM Tryz.func133 rfl rfl Bx fun M0 w0 S rs M1 w1=> ?_
 refine Tr.seq ?_
 refine Tr.Al ?_
 refine Ch.op rfl rfl AB (Bh rfl (VL.le (vl rfl) (Ad _))) ?_
 refine Ch.op rfl rfl AB (Bh rfl (VL.le (vl rfl) (Ad _))) ?_
 refine Ch.op rfl rfl AB (Cq rfl (vl rfl)) ?_
 refine Ch.nil ?_
 refine Fin.go ?_
 refine Tr.seq ?_
 refine Tr.Ap ?_
 refine TO.alloc rfl rfl AB rfl yD ABx (fun b1=> ?_)
 refine TO.nil ?_
 refine Fin.go ?_
 refine Tr.seq ?_
 refine Tr.seq ?_
 refine Tr.Ap ?_
 refine TO.op rfl rfl AB (DC rfl Ec (vl rfl)) ?_
 refine TO.pad ?_
 refine TO.Dl 0 rfl rfl AB (Fu rfl rfl AB rfl (ej) ⟨⟨_,rfl,Pr.le_refl _⟩,trivial⟩) (fun v1=> ?_)
 refine TO.nil ?_
 refine Fin.shape 8 (fun b=>iW b) rfl (fun fb2 fe2=> ?_)
 subst fe2
 refine Fin.F4 0 (AF true fb2 QU [_]) rfl rfl ?_
 refine Fin.go ?_
 refine Tr.block ?_
 refine Tr.HZ 1 [u32 (MU A s [])] rfl ⟨Mi,trivial⟩ ?_
 refine Tr.aB 6 [(2,_),(3,_),(5,_)] ⟨⟨_,rfl,Pr.le_refl _⟩,⟨_,rfl,Pr.le_refl _⟩,⟨_,rfl,Pr.le_refl _⟩,trivial⟩ (fun pre (_:Unit)=>AF true b1 QU [u32 (MU A s pre)]::Ak M1 w1::rs) () (QV (s:=s)) QW (vl rfl) ((Cm (j:=2) rfl).trans (List.Perm.cons _ ((Cm (j:=0) rfl).trans (List.Perm.cons _ (List.Perm.refl _))))) rfl Bx ?_ ?_ ?_
 ·
  rintro lk Dk rk Mr wr pre x _ hpre
  refine Tr.Al ?_
  refine Ch.op rfl rfl AB (Cq rfl (vl rfl)) ?_
  refine Ch.nil ?_
  exact Fin.st ⟨⟨_,rfl,Pr.le_refl _⟩,⟨_,rfl,Pr.le_refl _⟩,⟨_,rfl,Pr.le_refl _⟩,⟨_,rfl,Pr.le_refl _⟩,trivial⟩
 ·
  rintro lk Dk rk Mr wr pre x _ hpre
  have hsx:s.getLsbD x=true:=F2.1 (aO hpre)
  obtain ⟨y,hy⟩:=at_ (l:=A) (k:=x) (by have:=hs x hsx;omega)
  refine Tr.block ?_
  refine Tr.seq ?_
  refine Tr.k7 mixed BV ?_
  refine Ch.op rfl rfl AB (DC rfl JF (vl rfl)) ?_
  first
   |refine Ch.op rfl rfl AB (Gt rfl (vl rfl)) ?_
   |refine Ch.op rfl rfl AB (HI rfl (vl rfl)) ?_
  refine Ch.op rfl rfl AB (E2 rfl dJ (vl rfl) rfl) ?_
  refine Ch.op rfl rfl AB (DC rfl JG (vl rfl)) ?_
  refine Ch.op rfl rfl AB (BQ rfl (vl rfl)) ?_
  refine Ch.op rfl rfl AB (AD rfl Tryz.underlying232 FV (vl rfl) (vl rfl) AA (Nh hy)) ?_
  refine Ch.op rfl rfl AB (DC rfl Ec (vl rfl)) ?_
  refine Ch.op rfl rfl AB (DC rfl Ec (vl rfl)) ?_
  refine Ch.op rfl rfl AB (SA rfl (vl rfl) (vl rfl)) ?_
  refine Ch.op rfl rfl AB (aG rfl (vl rfl) (vl rfl)) ?_
  refine Ch.nil ?_
  refine Fin.go ?_
  refine Tr.weak [(5,_),(6,_),(19,_)] ⟨⟨_,rfl,Pr.le_refl _⟩,⟨_,rfl,Pr.le_refl _⟩,⟨_,rfl,Pr.le_refl _⟩,trivial⟩ ?_
  refine Tr.cond rfl (fun h1=> ?_) (fun h1=> ?_)
  ·
   have q1:=DH.Dp h1
   refine Tr.GI mixed [some (0,5,false,0),none,none,none,some (0,5,true,0)] BV ?_
   refine Cx.rd 5 rfl rfl rfl AB (A_ rfl Ec (vl rfl) rfl) ?_
   refine Cx.op rfl rfl AB (fun _=>BQ rfl (vl rfl)) ?_
   refine Cx.op rfl rfl AB (fun _=>Ip (b:=1#32) rfl (vl rfl) (vl rfl) (Int.natCast_nonneg _)) ?_
   refine Cx.op rfl rfl AB (fun _=>LK rfl (vl rfl) (vl rfl)) ?_
   refine Cx.DG 5 rfl rfl (Aw rfl rfl (vl rfl) (VL.le (vl rfl) (Ad _)) FV rfl Bx rfl) ?_
   refine Cx.nil ⟨rfl,?_⟩
   refine BI.done (At.cons (At.cons (At.cons (At.cons (At.cons (At.cons (At.cons (At.map _)))))))) ?_
   refine Fin.block ?_
   refine Fin.HZ 5 [u32 (MU A s (pre++[x]))] rfl ⟨Pr.le_of_eq (congrArg u32 (qF hy Br).symm),trivial⟩ ?_
   exact Fin.rnd () (List.Perm.refl _)
  ·
   have q1:=DH.Dp h1
   refine Tr.skip ?_
   refine Fin.block ?_
   refine Fin.HZ 5 [u32 (MU A s (pre++[x]))] rfl ⟨Pr.le_of_eq (congrArg u32 (vM hy Br).symm),trivial⟩ ?_
   exact Fin.rnd () (List.Perm.refl _)
 ·
  rintro lk Dk rk Mr wr _
  refine Fin.drop 1 ?_
  refine Fin.drop 1 ?_
  refine Fin.drop 2 ?_
  refine Fin.block ?_
  refine Fin.go ?_
  refine Tr.seq ?_
  refine Tr.Al ?_
  refine Ch.op rfl rfl Bx (CN 2 rfl (A_ rfl Ec (vl rfl) rfl)) ?_
  refine Ch.op rfl rfl Bx (Cq rfl (vl rfl)) ?_
  refine Ch.nil ?_
  refine Fin.go ?_
  refine Tr.ret ?_
  refine Fin.Kk (List.perm_middle (l₁:=[_])) ?_
  refine Fin.SG ?_
  refine Fin.SH ?_
  refine Fin.Kk ((List.perm_middle (l₁:=[_])).symm) ?_
  refine Fin.drop 0 ?_
  refine Fin.ED rfl rfl ?_ (fun _ _ _ _=>rfl)
  · exact Pr.le_refl _
def Nj (n:Int) (l:List BH) (s:List Int):List Int:=if Gz n l s=0 then EU n.toNat l s false else []
theorem WI {n:Int} {l:List BH} {s:List Int} {e:Int} (h:Gz n l s=e) (he:e≠0):Nj n l s=[]:=by unfold Nj;rw [if_neg I4]
theorem vN {N:Nat} {l:List BH} {s:List Int} {b:BitVec 32} (h:Gz (N:Int) l s=0) (hv:BD (N:Int) l=0) (hs:Lq N b s) (hd:∀x∈s,0≤x∧x<(N:Int)) (hc:CR l s=true):(Iq (MU (G9 (D8 N l) N) b (Iq b))).map (fun i:Nat=>(i:Int))=Nj (N:Int) l s:=by
 unfold Nj
 rw [if_pos h]
 have h2:=zb (n:=(N:Int)) hv (by rw [Int.toNat_natCast];exact hs) hd hc
 rw [Int.toNat_natCast] at h2 ⊢
 exact h2
def WJ (n:Int) (l:List BH) (s:List Int):Int:=if BD n l≠0 then BD n l else if Dc n s=true then 0 else 46
def WK (n:Int) (l:List BH) (s:List Int):Bool:=decide (BD n l=0)&&Dc n s&&CR l s
theorem ADx {n:Int} {l:List BH} {s:List Int} (h:BD n l≠0):WJ n l s=BD n l∧WK n l s=false:=by unfold WJ WK;rw [if_pos h,decide_eq_false h];exact ⟨rfl,rfl⟩
theorem ADy {n:Int} {l:List BH} {s:List Int} (h:BD n l=0) (hs:Dc n s=false):WJ n l s=46∧WK n l s=false:=by unfold WJ WK;rw [if_neg (not_not_intro h),if_neg (by rw [hs];decide),hs];simp
theorem qH {n:Int} {l:List BH} {s:List Int} (h:BD n l=0) (hs:Dc n s=true):WJ n l s=0∧WK n l s=CR l s:=by unfold WJ WK;rw [if_neg (not_not_intro h),if_pos hs,hs,decide_eq_true h];simp
theorem aV {n:Int} {l:List BH} {s:List Int}  :E4 (α:=Value) prog 132 [int n,reqs l,ints s,fn (.func 133) []] [CY] (fun _=>True) (fun v=>Dy [Aa v (lens ((Nj n l s).map (fun n=>[int n])).length),int (Gz n l s)]) (fun v=>[CY,BG 3 1 ((Nj n l s).map (fun n=>[int n])) v]):=by
 refine E4.of func132 rfl rfl Az fun M0 w0 S rs M1 w1=> ?_
 refine ac ?_
 refine ap ?_
 refine TO.GK 0 rfl rfl AB (Aj rfl rfl AB rfl (WA (n:=n) (l:=l)) ⟨kq,kz⟩) ?_
 refine ap ?_
 refine an ?_ ?_<;>intro h1 q1
 have hv:BD n l≠0:=by simpa using h1
 refine ac ?_
 refine wk [9,8] rfl (Tr.ret (Fin.AE ?_))
 have hno:=WI (kj (s:=s) hv) hv
 refine Fin.GO 3 1 (Fin.HO ?_)
 refine Fin.F4 1 (BG 3 1 ((Nj n l s).map (fun n=>[int n])) (.slice none 0 0)) rfl K0 ?_
 refine Fin.Ie ((.slice none 0 0)) rfl (AL.tmp rfl Lr) (AL.tmp rfl Lr) trivial ?_ (List.Perm.refl _)
 · exact bn
 have hv:BD n l=0:=by simpa using h1
 have Ns:=(Co hv).1
 obtain ⟨N,rfl⟩:∃N:Nat,n=(N:Int):=⟨n.toNat,by omega⟩
 refine Tr.re 10 rfl (Pr.le_of_eq (QX hv)) ?_
 refine a2 ?_
 refine co rfl (CS (WD (n:=N) (B:=D8 N l) (l:=s) AA) rfl rfl rfl) ?_
 refine ac ?_
 refine wk [13,12,10,3] rfl ?_
 refine ap ?_
 refine TO.cases 31 rfl (fun h2=> ?_) (fun h2=> ?_)
 have q2:=DH.Dp h2
 have h46:Gz (N:Int) l s=46:=WE hv (by rintro ⟨g1,g2⟩;simp_all)
 iterate 4 refine TO.Rc rfl rfl rfl (IU h2) rfl AB ?_
 refine ap ?_
 refine ac ?_
 refine wk [9,8] rfl (Tr.ret (Fin.AE ?_))
 have hno:=WI h46 AB
 refine Fin.GO 3 1 (Fin.HO ?_)
 refine Fin.F4 1 (BG 3 1 ((Nj ((N:Nat):Int) l s).map (fun n=>[int n])) (.slice none 0 0)) rfl K0 ?_
 refine Fin.Ie ((.slice none 0 0)) rfl (AL.tmp rfl Lr) (AL.tmp rfl Lr) trivial ?_ (List.Perm.refl _)
 · exact Ul
 have q2:=DH.Dp h2
 have hsb:Dc ((N:Nat):Int) s=true:=by simpa using h2
 refine TO.HP rfl rfl rfl h2 rfl AB (BQ rfl vq) (TO.HP rfl rfl rfl h2 rfl AB (BQ rfl vq) ?_)
 refine TO.Zc 0 rfl rfl rfl h2 rfl rfl AB (Aj rfl rfl AB rfl (Oa (n:=N) (C0 N l) (fun i h=>QY (GW AA hsb) hsb h)) ⟨kq,kz⟩) ?_
 refine TO.HP rfl rfl rfl h2 rfl AB (Fp rfl vq) ?_
 refine ap ?_
 refine Tr.cn rfl ?_ ?_<;>intro h3 q3
 have h46:Gz (N:Int) l s=46:=WE hv kf
 refine ac ?_
 refine wk [9,8] rfl (Tr.ret (Fin.AE ?_))
 have hno:=WI h46 AB
 refine Fin.GO 3 1 (Fin.HO ?_)
 refine Fin.F4 1 (BG 3 1 ((Nj ((N:Nat):Int) l s).map (fun n=>[int n])) (.slice none 0 0)) rfl K0 ?_
 refine Fin.Ie ((.slice none 0 0)) rfl (AL.tmp rfl Lr) (AL.tmp rfl Lr) trivial ?_ (List.Perm.refl _)
 · exact Ul
 have Wy:CR l s=true:=by rw [←PX (n:=(N:Int)) hv (GW AA hsb) (I2 hsb)];simpa using h3
 have ha0:=qC hv hsb Wy
 have qD:(Iq (MU (G9 (D8 N l) N) (rdB N s) (Iq (rdB N s)))).map (fun i:Nat=>(i:Int))=Nj (N:Int) l s:=vN ha0 hv (GW AA hsb) (I2 hsb) Wy
 refine ac ?_
 refine ap ?_
 refine TO.GK 0 rfl rfl AB (qE rfl rfl AB rfl vq (show BS prog 133 ([_,_]++[]) _ _ _ from WH (n:=N) (A:=G9 (D8 N l) N) (s:=rdB N s) (eo (n:=N) (l:=l) AA).aft.1 (fun i h=>QY (GW AA hsb) hsb h)) ⟨kq,kz⟩) ?_
 refine TO.NK _ rfl rfl AB rfl (fB) kz ((Cm (j:=0) rfl).trans (List.Perm.cons _ (List.Perm.refl _))) (fun x1 _=> ?_)
 refine ap ?_
 refine wk [9,8] rfl (Tr.ret (Fin.F4 1 (BG 3 1 ((Nj ((N:Nat):Int) l s).map (fun n=>[int n])) x1) rfl (by rw [qD]) (Fin.Ie (x1) rfl (AL.tmp rfl Lr) (AL.tmp rfl Lr) trivial ?_ (List.Perm.refl _))))
 · exact Ay ⟨C5 (by rw [qD]),int_eq ha0.symm,trivial⟩
theorem TE {n:Int} {l:List BH} {s:List Int}  :E4 (α:=Value) prog 74 [int n,reqs l,ints s] [CY] (fun _=>True) (fun v=>Dy [Aa v (lens ((Nj n l s).map (fun n=>[int n])).length),int (Gz n l s)]) (fun v=>[CY,BG 3 1 ((Nj n l s).map (fun n=>[int n])) v]):=by
 refine E4.of func74 rfl rfl Az fun M0 w0 S rs M1 w1=> ?_
 refine ac ?_
 refine ap ?_
 refine TO.NK _ rfl rfl AB rfl (aV (n:=n) (l:=l) (s:=s)) ⟨kq,kz⟩ ((Cm (j:=0) rfl).trans (List.Perm.cons _ (List.Perm.refl _))) (fun x1 _=> ?_)
 refine ap ?_
 refine Tr.ret (Fin.Ie (x1) rfl (AL.tmp rfl Lr) (AL.tmp rfl Lr) trivial ?_ (List.Perm.refl _))
 · exact Lr
theorem TG {n:Int} {l:List BH} {s:List Int}:BS Tryz.prog 74 [int n,reqs l,ints s] (Dy [ints (Nj n l s),int (Gz n l s)]) CY (fun _=>CY):=E4.ZY (A7 fun _=>rfl) TE
theorem aW {n:Int} {l:List BH} {s:List Int}  :BS prog 78 [int n,reqs l,ints s] (Dy [bool (WK n l s),int (WJ n l s)]) (CY) (fun _=>CY):=by
 refine BS.of func78 rfl rfl Az fun M0 w0 S rs M1 w1=> ?_
 refine ac ?_
 refine ap ?_
 refine TO.GK 0 rfl rfl AB (Aj rfl rfl AB rfl (WA (n:=n) (l:=l)) ⟨kq,kz⟩) ?_
 refine ap ?_
 refine an ?_ ?_<;>intro h1 q1
 have hv:=ADx (s:=s) (n:=n) (l:=l) I5
 refine ac ?_
 refine wk [7,6] rfl (Tr.ret (Fin.AE (Fin.FC rfl rfl ?_ rfl ?_)))
 · refine bool_eq ?_;exact hv.2.symm
 · refine int_eq ?_;exact hv.1.symm
 have hv:BD n l=0:=by simpa using h1
 have Ns:=(Co hv).1
 obtain ⟨N,rfl⟩:∃N:Nat,n=(N:Int):=⟨n.toNat,by omega⟩
 refine Tr.re 8 rfl (Pr.le_of_eq (QX hv)) ?_
 refine a2 ?_
 refine co rfl (CS (WD (n:=N) (B:=D8 N l) (l:=s) AA) rfl rfl rfl) ?_
 refine ac ?_
 refine wk [11,10,8] rfl ?_
 refine an ?_ ?_<;>intro h2 q2
 have Ww:=ADy (n:=(N:Int)) hv Mq
 refine ac ?_
 refine Tr.ret (Fin.AE (Fin.FC rfl rfl ?_ rfl ?_))
 · refine bool_eq ?_;exact Ww.2.symm
 · refine int_eq ?_;exact Ww.1.symm
 have hsb:Dc ((N:Nat):Int) s=true:=by simpa using h2
 have hv3:=qH hv hsb
 refine ac ?_
 refine ap ?_
 refine TO.GK 0 rfl rfl AB (Aj rfl rfl AB rfl (Oa (n:=N) (C0 N l) (fun i h=>QY (GW AA hsb) hsb h)) ⟨kq,kz⟩) ?_
 refine ap ?_
 refine Tr.ret (Fin.FC rfl rfl ?_ rfl ?_)
 · refine bool_eq ?_;rw [hv3.2];exact PX (n:=(N:Int)) hv (GW AA hsb) (I2 hsb)
 · refine int_eq ?_;exact hv3.1.symm
abbrev Da (l:List Ba):Pr:=slice 8 (l.map Ew)
def PK (c:BW) (x:Ba):Bool:=decide (x.AY<0)||decide (x.AY≥c.JP.length)
def SM (c:BW) (x:Ba):Int:=c.JP.getD x.AY.toNat 0
def Eg (c:BW) (l:List Ba):Int:=if 24<l.length then 3 else if l.any (PK c) then 40 else 0
def SN (c:BW) (l:List Ba):List Int:=if Eg c l=0 then l.map (SM c) else []
open Classical in
noncomputable def Km (e:Dn) (c:BW) (l:List Ba):Int:=if Fc e=false then 31 else if c.check (e.Bu.length:Nat)≠0 then c.check (e.Bu.length:Nat) else Eg c l
theorem fC {c:BW} {l:List Ba} (h:24<l.length):Eg c l=3:=by unfold Eg;rw [if_pos h]
theorem Wm {c:BW} {l:List Ba} {k:Nat} {x:Ba} (h:¬24<l.length) (hx:l[k]? =some x) (hb:PK c x=true):Eg c l=40:=by unfold Eg;rw [if_neg h,if_pos (List.any_eq_true.2 ⟨x,List.mem_of_getElem? hx,hb⟩)]
theorem fD {c:BW} {l:List Ba} (h:¬24<l.length) (hb:∀j y,j<l.length→l[j]? =some y→PK c y=false):Eg c l=0:=by
 unfold Eg;rw [if_neg h,if_neg]
 rw [Bool.not_eq_true,List.any_eq_false]
 intro y hy
 obtain ⟨j,hj⟩:=List.mem_iff_getElem?.1 hy
 rw [hb j y Y6 hj];decide
theorem Wl {c:BW} {l:List Ba} {e:Int} (h:Eg c l=e) (he:e≠0):SN c l=[]:=by unfold SN;rw [if_neg I4]
theorem X9 {c:BW} {l:List Ba} (h:Eg c l=0):SN c l=l.map (SM c):=by unfold SN;rw [if_pos h]
theorem xB {c:BW} {x:Ba} (h:0≤x.AY∧x.AY<c.JP.length):c.JP[x.AY.toNat]? =some (SM c x):=by
 unfold SM;rw [List.getD_eq_getElem?_getD,List.getElem?_eq_getElem AA];rfl
theorem qI {c:BW} {l:List Ba} {k:Nat} {x:Ba} (h:l[k]? =some x):(((l.take k).map (SM c)).map fun n=>[int n])++[[int (SM c x)]]=((l.take (k+1)).map (SM c)).map fun n=>[int n]:=by
 rw [List.take_add_one,h,List.map_append,List.map_append];rfl
def Ez (l:List Int):Int:=l.foldl max (-1)
theorem ij {l:List BH} (h0:l≠[]) (hl:l.length≤1000000):BS prog 154 [reqs l] (lens (l.map PJ).length) (Bq) (fun v=>EF 61 2 (l.map PJ) v):=by
 refine BS.of func154 rfl rfl Az fun M0 w0 S rs M1 w1=> ?_
 have hpos:=NP (f:=PJ) h0
 refine a2 ?_
 refine co rfl (Fv rfl underlying33 vq) ?_
 refine ac ?_
 refine Tr.ex 4 rfl (fun z1=>Tr.fact 4 rfl fun Eh=> ?_)
 refine Tr.cn rfl ?_ ?_<;>intro h1 q1
 exfalso;have:=Eh h1;simp_all
 refine ac ?_
 refine ap ?_
 refine TO.pad ?_
 refine TO.Dl 0 rfl rfl AB (JJ rfl rfl AB rfl underlying33 C2 S4 Sv rfl AB AB vq vq hpos N3 C1) (fun v1=> ?_)
 refine ap ?_
 refine Tr.ret (Fin.drop 1 ?_)
 refine Fin.ED rfl rfl ?_ Pn
 · exact I8
theorem iq   :BF prog 154 [slice 2 []] (full 2 []):=by
 refine fo func154 rfl ⟨rfl,rfl⟩ fun M0 w0=> ?_
 refine a2 ?_
 refine co rfl (Fv rfl underlying33 vq) ?_
 refine ac ?_
 refine Tr.ex 4 rfl (fun z1=>Tr.fact 4 rfl fun Eh=> ?_)
 · repeat' first|exact DT 2|exact Lr|refine co rfl (NL rfl underlying33 C2 vq vq) ?_|refine ac ?_|(refine Tr.cn rfl ?_ ?_<;>intro h q)
theorem ir {l:List BH} (hl:l.length≤1000000):BF Tryz.prog 154 [reqs l] (reqs l):=by
 by_cases h0:l=[]
 · subst h0;exact BF.le iq (fun _ _ _ h=>h) (B8 _ _)
 · exact (BS.ACE (rows:=l.map PJ) (A7 fun _=>rfl) (ij h0 hl)).pure
theorem qJ {l:List Ba} {r:List BH} {d:List Int} (Gb:∀x∈l,x.C6.small) (hl:l.length≤1000000) (hr:r.length≤1000000) (hd:d.length≤1000000):PR prog 100 [agg [Da l,reqs r,ints d]] (fun x=>agg [Da l,reqs r,is x]) (fun x=>[Bz 3 1 (d.map fun n=>[int n]) x]):=by
 refine PR.of func100 rfl rfl Az fun M0 w0 S rs M1 w1=>(Tr.Hg 0 0 rfl rfl fun JR=>(Tr.seq (Tr.Ap (tp rfl (Bh rfl (Va rfl)) ?_))))
 refine Tl rfl rfl rfl rfl z35 FE (fun b1=> ?_)
 refine ao ?_
 refine Tr.seq (Tr.pad (Tr.pad (Tr.pad (Tr.rx ?_))))
 refine ax ?_
 refine xo rfl (fun _=>Cz (ir hr) rfl rfl) ?_
 refine ax ?_
 refine Cx.ef 0 rfl rfl AB (Fu rfl rfl AB rfl (OL (l:=d) hd) kz) ?_
 refine Cx.ef 1 rfl rfl AB (ew (d:=12) (s:=11) (p:=fun v=>agg [is (.slice none 0 0),reqs r,Aa v (lens d.length)]) (q:=agg [is (.slice none 0 0),reqs r,lens d.length]) rfl AB (fun _=>BU ⟨Lr,Lr,As _ _,trivial⟩) rfl rfl AB (fun v=>aJ rfl rfl AB (fun _=>An (rows:=[(1,[_]),(2,[_])]) rfl L8 FE ⟨⟨rfl,VL.le (vl rfl) (Ad _)⟩,⟨⟨rfl,VL.le (vl rfl) (Ad _)⟩,trivial⟩⟩ rfl))) (Cx.ef 2 rfl rfl AB (CA rfl rfl AB rfl z35 FE) (Cx.DG 2 rfl rfl (UL rfl rfl rfl AB rfl rfl (Af _) CL rfl rfl) ?_))
 refine Cx.nil ⟨by kernel_rfl,?_⟩
 refine BI.iU 11 rfl (fun v11=> ?_)
 refine BI.iU 12 rfl (fun v12=> ?_)
 refine BI.iU 3 rfl (fun v3=> ?_)
 refine BI.aK 0 11 rfl rfl (BI.iV 1 12 11 rfl rfl rfl (BI.iV 2 3 12 rfl rfl rfl (BI.done al5 (Fin.shape 3 (fun b=> .pointer (some ⟨b,0,none⟩)) rfl (fun b9 e9=> ?_)))))
 subst e9
 refine Fin.X7 1 2 rfl rfl (Fin.drop 1 (Fin.go (wk [3,2,1] rfl ?_)))
 refine ac ?_
 refine Tr.block (Tr.HZ 1 [Aa (.slice none 0 0) (Da (l.take 0)),reqs r,Aa v11 (lens d.length)] rfl ⟨Bp rfl,Lr,Lr,trivial⟩ (Tr.CC 86 8 (Tr.Es _ (kk [15,14,3,2] rfl) (fun k u=>[(16,int ((k:Nat):Int))]) (fun k u=>Hp M0 w0 S (Au 86 8 u::Bz 3 1 (d.map fun n=>[int n]) v11::AF true b9 35 [Aa u (Da (l.take k)),reqs r,Aa v11 (lens d.length)]::AF true b1 35 (([.slice none 0 0,.slice none 0 0,.slice none 0 0]:List Value).map is)::Ak M1 w1::rs)) (fun k:Nat=>k≤(l).length) (fun k:Nat=>(l).length-k) 0 (.slice none 0 0) (Nat.zero_le _) kz (fun _ _ h=>h) ?_)))
 rintro k u BT
 refine ac ?_
 refine Tr.seq ?_
 refine Tr.cn rfl ?_ ?_<;>intro h1 q1
 have Ai:k<(l).length:=AH h1
 obtain ⟨x,Ah⟩:=at_ Ai
 refine ac ?_
 refine Tr.seq (Tr.block (Tr.seq (Tr.Ap (tp rfl (AD rfl underlying32 Dr (vl rfl) (vl rfl) AA (AZ Ah)) (tp rfl (AM rfl Hw Dr (vl rfl) rfl rfl) ?_)))))
 refine Tl rfl rfl rfl rfl Py LU (fun b10=> ?_)
 refine sf 0 5 ⟨rfl,rfl,rfl⟩ rfl rfl rfl rfl ?_
 refine ao ?_
 refine Tr.pad (Tr.rx ?_)
 refine ax ?_
 refine xo rfl (fun _=>Cz (tq (c:=x) (Gb x (List.mem_of_getElem? Ah))) rfl rfl) ?_
 refine xo rfl (fun _=>AP (xs:=[.tmp 23]) (rows:=[_]) rfl rfl underlying32 Dr Py rfl AB ⟨⟨Ao,(Va rfl)⟩,trivial⟩ AB) ?_
 refine Cx.ef 1 rfl rfl AB (CB rfl rfl rfl rfl underlying32 Dr ZS Py (Kb rfl) (Kf rfl) (BC BR (Ka rfl))) ?_
 refine xo rfl (fun _=>AW rfl OE (vl rfl)) (Cx.DG 3 rfl rfl (GL rfl rfl rfl (vl rfl) rfl ABY Az) ?_)
 refine Cx.nil ⟨by kernel_rfl,?_⟩
 refine BI.RE 1 3 25 rfl rfl AB rfl (fun v1=> ?_)
 refine BI.done al6 ?_
 refine ac ?_
 refine Tr.drop 0 (wk [16,15,14,3,2] rfl ?_)
 refine ac ?_
 refine Fin.HZ 2 [Aa v1 (Da (l.take (k+1))),reqs r,Aa v11 (lens d.length)] rfl ⟨BJ cM,Lr,Lr,trivial⟩ ?_
 exact Fin.DU (k+1) v1 (⟨Ai,by omega⟩) ⟨⟨_,rfl,AG k⟩,kz⟩ (fun _ _ h=>h)
 have BP:k=(l).length:=by have:=AJ h1;omega
 subst BP
 rw [List.take_length]
 refine ac ?_
 refine ao ?_
 refine TO.AK 3 rfl rfl rfl (vl rfl) (Va rfl) rfl CL rfl rfl ?_
 refine ao ?_
 refine Tr.ret (Fin.drop 0 (Fin.drop 1 (Fin.HO (Fin.yO v11 [_] rfl (AL.cell 0 rfl rfl C4 CL rfl Lr) ?_ (List.Perm.refl _)))))
 · exact BU ⟨As _ _,Lr,EC _ _,trivial⟩
noncomputable def Wo (c:BW) (l:List Ba) (r:List BH) (fr:Int):Option (List Int×List Int×List Int):=OU c r (l.map (SM c)) fr l.length (DZ l.length r l.length).1
open Classical in
noncomputable def Kn (e:Dn) (c:BW) (l:List Ba) (r:List BH) (fr:Int):Int:=if Km e c l≠0 then Km e c l else if BD (l.length:Nat) r≠0 then BD (l.length:Nat) r else match Wo c l r fr with|none=>51|some _=>0
noncomputable def ze (c:BW) (l:List Ba) (r:List BH) (fr:Int):List Int:=match Wo c l r fr with|none=>[]|some p=>p.1
open Classical in
noncomputable def N4 (e:Dn) (c:BW) (l:List Ba) (r:List BH) (fr:Int):List Ba:=if Kn e c l r fr=0 then l else []
open Classical in
noncomputable def Qy (e:Dn) (c:BW) (l:List Ba) (r:List BH) (fr:Int):List BH:=if Kn e c l r fr=0 then r else []
open Classical in
noncomputable def Uw (e:Dn) (c:BW) (l:List Ba) (r:List BH) (fr:Int):List Int:=if Kn e c l r fr=0 then ze c l r fr else []
noncomputable abbrev qK (e:Dn) (c:BW) (l:List Ba) (r:List BH) (fr:Int):List Pr:=[Da (N4 e c l r fr),reqs (Qy e c l r fr),ints (Uw e c l r fr)]
section
variable {e:Dn} {c:BW} {l:List Ba} {r:List BH} {fr:Int}
theorem UM {n:Int} (h:c.check n=0):c.own=0∧(c.JP.length:Int)=n∧∀t∈c.JP,c.has t=true:=by
 have h':=h
 unfold BW.check at h
 split at h
 · cases h
 ·
  split at h
  · cases h
  ·
   split at h
   · cases h
   ·
    split at h
    · cases h
    ·
     split at h
     · cases h
     ·
      split at h
      · cases h
      ·
       rename_i _ _ _ _ _ h6
       rw [not_or,Classical.not_not,Bool.not_eq_true,List.any_eq_false] at h6
       refine ⟨by unfold BW.own;rw [h6.1];exact h',h6.1,fun t ht=>by simpa using h6.2 t ht⟩
theorem SO (h:Eg c l=0):l.length≤24∧∀x∈l,PK c x=false:=by
 unfold Eg at h
 by_cases h1:24<l.length
 · rw [if_pos h1] at h;cases h
 ·
  rw [if_neg h1] at h
  refine ⟨by omega,fun x hx=> ?_⟩
  cases hb:PK c x with
  |false=>rfl
  |true=>rw [if_pos (List.any_eq_true.2 ⟨x,hx,hb⟩)] at h;cases h
theorem vO (h:Eg c l=0) (ht:∀t∈c.JP,c.has t=true):∀x∈l.map (SM c),c.has x=true:=fun x hx=>by
 obtain ⟨y,hy,rfl⟩:=List.mem_map.1 hx
 have hb:=(SO h).2 y hy
 unfold PK at hb
 rw [Bool.or_eq_false_iff,decide_eq_false_iff_not,decide_eq_false_iff_not] at hb
 exact ht _ (List.mem_of_getElem? (xB AA))
theorem UN (h:Km e c l≠0):Kn e c l r fr=Km e c l:=by unfold Kn;rw [if_pos h]
theorem xC (h:Km e c l=0) (hv:BD (l.length:Nat) r≠0):Kn e c l r fr=BD (l.length:Nat) r:=by unfold Kn;rw [if_neg (not_not_intro h),if_pos hv]
theorem qL (h:Km e c l=0) (hv:BD (l.length:Nat) r=0) (hs:Wo c l r fr=none):Kn e c l r fr=51:=by unfold Kn;rw [if_neg (not_not_intro h),if_neg (not_not_intro hv),hs]
theorem xD {p:List Int×List Int×List Int} (h:Km e c l=0) (hv:BD (l.length:Nat) r=0) (hs:Wo c l r fr=some p):Kn e c l r fr=0:=by unfold Kn;rw [if_neg (not_not_intro h),if_neg (not_not_intro hv),hs]
theorem qM (h:Kn e c l r fr≠0):N4 e c l r fr=[]∧Qy e c l r fr=[]∧Uw e c l r fr=[]:=by unfold N4 Qy Uw;rw [if_neg h,if_neg h,if_neg h];exact ⟨rfl,rfl,rfl⟩
theorem qN (h:Kn e c l r fr=0):N4 e c l r fr=l∧Qy e c l r fr=r∧Uw e c l r fr=ze c l r fr:=by unfold N4 Qy Uw;rw [if_pos h,if_pos h,if_pos h];exact ⟨rfl,rfl,rfl⟩
theorem SP {k:Int} (h:Kn e c l r fr=k) (hk:k≠0):Pr.le (agg [is (.slice none 0 0),is (.slice none 0 0),is (.slice none 0 0)]) (agg (qK e c l r fr)):=by
 obtain ⟨h1,h2,h3⟩:=qM (e:=e) (c:=c) (l:=l) (r:=r) (fr:=fr) (by rw [h];exact hk)
 unfold qK;rw [h1,h2,h3];exact BU ⟨AQ 8,AQ 2,AQ 1,trivial⟩
theorem vP {d b y:List Int} (h:Kn e c l r fr=0) (hs:Wo c l r fr=some (d,b,y)):Pr.le (agg [Da l,reqs r,ints d]) (agg (qK e c l r fr)):=by
 obtain ⟨h1,h2,h3⟩:=qN h
 unfold qK;rw [h1,h2,h3];unfold ze;rw [hs];exact Pr.le_refl _
theorem SQ {q:BH} {m:Nat} {d:List Int} {i:Int} (h:r[m]? =some q):GC (r.take (m+1)) d i fr=if q.thn=i then max (GC (r.take m) d i fr) (d.getD q.fst.toNat 0+1) else GC (r.take m) d i fr:=by
 unfold GC;rw [List.take_add_one,h,List.foldl_append];rfl
theorem FL {l:List Int} {i:Nat} (h:i<l.length):l[i]? =some (l.getD i 0):=by rw [List.getD_eq_getElem?_getD,List.getElem?_eq_getElem h];rfl
end
structure Su where
 code:Int
 x1:Int
 x2:Int
 s1:Int
 s2:Int
 c1:Int
 c2:Int
 m1:Int
 m2:Int
 lo:Int
 hi:Int
abbrev AHA:Pr:=Cp.ex fun l:List UInt8=>str l
abbrev UO (s:Su):List Pr:=[int s.code,AHA,int s.x1,int s.x2,int s.s1,int s.s2,int s.c1,int s.c2,int s.m1,int s.m2,int s.lo,int s.hi]
def suT:List Su:=[⟨1,10,0,5,0,14,128,19,0,1,2⟩,⟨2,10,0,5,0,14,128,20,0,1,3⟩,⟨3,10,0,5,0,15,168,20,0,1,3⟩,⟨4,11,1024,6,0,15,168,20,0,1,3⟩,⟨5,11,1024,5,0,15,168,20,0,1,3⟩,⟨6,10,0,5,0,16,128,20,0,1,3⟩,⟨7,11,2048,5,0,16,128,20,0,1,3⟩,⟨8,12,256,5,0,16,128,20,0,1,3⟩,⟨9,12,256,7,0,16,256,21,0,3,3⟩,⟨10,12,256,5,0,17,128,22,0,3,3⟩,⟨11,12,384,7,0,17,256,22,0,3,3⟩,⟨12,12,256,5,0,18,0,22,0,3,3⟩,⟨13,10,0,5,0,17,256,22,0,3,3⟩,⟨14,12,256,0,0,17,128,22,0,4,4⟩,⟨15,12,256,0,0,18,0,22,0,4,4⟩,⟨16,13,768,0,0,17,256,22,0,4,4⟩]
abbrev qO:Su:=⟨0,0,0,0,0,0,0,0,0,0,0⟩
def Sy (code:Int):Bool:=decide (1≤code∧code≤16)
def Qq (code:Int):Su:=if Sy code then suT[(code-1).toNat]?.getD qO else qO
theorem zf {code:Int} (h:1≤code∧code≤16):suT[(code-1).toNat]? =some (Qq code):=by
 obtain ⟨x,hx⟩:=at_ (l:=suT) (k:=(code-1).toNat) (by show _<16;omega)
 unfold Qq Sy;rw [if_pos (decide_eq_true h),hx];rfl
theorem CT {a l m x1 y1 x2 y2 x3 y3 x4 y4:Int} {s:List UInt8}  :BF prog 267 [int a,str s,agg [int x1,int y1],agg [int x2,int y2],agg [int x3,int y3],agg [int x4,int y4],int l,int m] (agg (UO ⟨a,x1,y1,x2,y2,x3,y3,x4,y4,l,m⟩)):=by
 refine BF.of func267 rfl rfl Az fun M0 w0=> ?_
 refine Tr.seq (Tr.Ap ?_)
 iterate 4 refine tp rfl (Bh rfl (Va rfl)) ?_
 refine Tl rfl rfl rfl rfl S6 Ic (fun b1=> ?_)
 refine TO.nil (Fin.go (Tr.seq (Tr.Ap (tm rfl (tm rfl ?_)))))
 iterate 4 refine tp rfl (AM rfl Jh LS (vl rfl) rfl rfl) ?_
 refine tm rfl (tm rfl (tp rfl (An (rows:=[(0,[_]),(1,[_]),(2,_),(3,_),(4,_),(5,_),(6,[_]),(7,[_])]) rfl XH Ic ⟨⟨rfl,(Vo rfl)⟩,⟨⟨rfl,(Vo rfl)⟩,⟨⟨rfl,(Va rfl)⟩,⟨⟨rfl,(Va rfl)⟩,⟨⟨rfl,(Va rfl)⟩,⟨⟨rfl,(Va rfl)⟩,⟨⟨rfl,(Vo rfl)⟩,⟨⟨rfl,(Vo rfl)⟩,trivial⟩⟩⟩⟩⟩⟩⟩⟩ rfl) (TO.re 25 (agg (UO ⟨a,x1,y1,x2,y2,x3,y3,x4,y4,l,m⟩)) rfl (BU ⟨Lr,Ax _ (Lr),Lr,Lr,Lr,Lr,Lr,Lr,Lr,Lr,Lr,Lr,trivial⟩) (TO.AK 0 rfl rfl rfl (vl rfl) (Va rfl) rfl F9 rfl rfl (TO.nil (Fin.go (Nu 16 rfl (Tr.ret (Fin.Cb rfl (AL.cell 0 rfl rfl JI F9 rfl (Lr)) ?_)))))))))
 · exact Lr
theorem X_   :BF prog 227 [] (slice 12 (suT.map UO)):=by
 refine fo func227 rfl ⟨rfl,rfl⟩ fun M0 w0=> ?_
 refine ac ?_
 refine Tr.seq (Tr.Ap (tp rfl (CS (Bl) rfl rfl rfl) (tp rfl (CS (Bl) rfl rfl rfl) (tp rfl (An (rows:=[]) rfl xp Eb trivial rfl) ?_))))
 refine Tl rfl rfl rfl rfl K9 Eb (fun b1=> ?_)
 refine Tl rfl rfl rfl rfl K9 Eb (fun b2=> ?_)
 refine Tl rfl rfl rfl rfl K9 Eb (fun b3=> ?_)
 refine sf 2 1 ⟨rfl,rfl,rfl⟩ rfl rfl rfl rfl ?_
 refine sf 1 2 ⟨rfl,rfl,rfl⟩ rfl rfl rfl rfl ?_
 refine sf 0 3 ⟨rfl,rfl,rfl⟩ rfl rfl rfl rfl ?_
 refine ao ?_
 refine Tr.seq (Tr.Ap (tp rfl (CS (Bl) rfl rfl rfl) (tp rfl (CS (Bl) rfl rfl rfl) ?_)))
 refine Tl rfl rfl rfl rfl K9 Eb (fun b4=> ?_)
 refine Tl rfl rfl rfl rfl K9 Eb (fun b5=> ?_)
 refine sf 1 4 ⟨rfl,rfl,rfl⟩ rfl rfl rfl rfl ?_
 refine sf 0 5 ⟨rfl,rfl,rfl⟩ rfl rfl rfl rfl ?_
 refine ao ?_
 refine wk [5,4,3,2,1] rfl (Tr.seq (Tr.Ap (tp rfl (CS (Bl) rfl rfl rfl) (tp rfl (CS (Bl) rfl rfl rfl) (tp rfl (CS (Bl) rfl rfl rfl) ?_)))))
 refine Tl rfl rfl rfl rfl K9 Eb (fun b6=> ?_)
 refine Tl rfl rfl rfl rfl K9 Eb (fun b7=> ?_)
 refine Tl rfl rfl rfl rfl K9 Eb (fun b8=> ?_)
 refine sf 2 6 ⟨rfl,rfl,rfl⟩ rfl rfl rfl rfl ?_
 refine sf 1 7 ⟨rfl,rfl,rfl⟩ rfl rfl rfl rfl ?_
 refine sf 0 8 ⟨rfl,rfl,rfl⟩ rfl rfl rfl rfl ?_
 refine ao ?_
 refine wk [8,7,6,5,4,3,2,1] rfl (Tr.seq (Tr.Ap ?_))
 iterate 4 refine tp rfl (CS (Bl) rfl rfl rfl) ?_
 refine Tl rfl rfl rfl rfl K9 Eb (fun b9=> ?_)
 refine Tl rfl rfl rfl rfl K9 Eb (fun b10=> ?_)
 refine Tl rfl rfl rfl rfl K9 Eb (fun b11=> ?_)
 refine Tl rfl rfl rfl rfl K9 Eb (fun b12=> ?_)
 refine sf 3 9 ⟨rfl,rfl,rfl⟩ rfl rfl rfl rfl ?_
 refine sf 2 10 ⟨rfl,rfl,rfl⟩ rfl rfl rfl rfl ?_
 refine sf 1 11 ⟨rfl,rfl,rfl⟩ rfl rfl rfl rfl ?_
 refine sf 0 12 ⟨rfl,rfl,rfl⟩ rfl rfl rfl rfl ?_
 refine ao ?_
 refine wk [12,11,10,9,8,7,6,5,4,3,2,1] rfl (Tr.seq (Tr.Ap (tp rfl (CS (Bl) rfl rfl rfl) (tp rfl (CS (Bl) rfl rfl rfl) ?_))))
 refine Tl rfl rfl rfl rfl K9 Eb (fun b13=> ?_)
 refine Tl rfl rfl rfl rfl K9 Eb (fun b14=> ?_)
 refine sf 1 13 ⟨rfl,rfl,rfl⟩ rfl rfl rfl rfl ?_
 refine sf 0 14 ⟨rfl,rfl,rfl⟩ rfl rfl rfl rfl ?_
 refine ao ?_
 refine wk [14,13,12,11,10,9,8,7,6,5,4,3,2,1] rfl ?_
 refine ac ?_
 refine co rfl (AV rfl (CT) ⟨kq,kz⟩) ?_
 refine ac ?_
 refine co rfl (AV rfl (CT) ⟨kq,kz⟩) ?_
 refine ac ?_
 refine co rfl (AV rfl (CT) ⟨kq,kz⟩) (co rfl (CS (Bl) rfl rfl rfl) (co rfl (CS (Bl) rfl rfl rfl) ?_))
 refine ac ?_
 refine co rfl (AV rfl (CT) ⟨kq,kz⟩) (co rfl (CS (Bl) rfl rfl rfl) ?_)
 refine ac ?_
 refine co rfl (AV rfl (CT) ⟨kq,kz⟩) ?_
 refine ac ?_
 refine co rfl (AV rfl (CT) ⟨kq,kz⟩) (co rfl (CS (Bl) rfl rfl rfl) ?_)
 refine ac ?_
 refine co rfl (AV rfl (CT) ⟨kq,kz⟩) ?_
 refine ac ?_
 refine co rfl (AV rfl (CT) ⟨kq,kz⟩) (co rfl (AM rfl Jh LS vq rfl rfl) (co rfl (CS (Bl) rfl rfl rfl) (co rfl (CS (Bl) rfl rfl rfl) (co rfl (AM rfl Jh LS vq rfl rfl) (co rfl (AV rfl (CT) ⟨kq,kz⟩) ?_)))))
 refine ac ?_
 refine co rfl (AV rfl (CT) ⟨kq,kz⟩) (co rfl (CS (Bl) rfl rfl rfl) (co rfl (CS (Bl) rfl rfl rfl) ?_))
 refine ac ?_
 refine co rfl (AV rfl (CT) ⟨kq,kz⟩) ?_
 refine ac ?_
 refine co rfl (AV rfl (CT) ⟨kq,kz⟩) ?_
 refine ac ?_
 refine co rfl (AV rfl (CT) ⟨kq,kz⟩) ?_
 refine ac ?_
 refine co rfl (AV rfl (CT) ⟨kq,kz⟩) ?_
 refine ac ?_
 refine co rfl (AV rfl (CT) ⟨kq,kz⟩) (co rfl (CS (Bl) rfl rfl rfl) ?_)
 refine ac ?_
 refine co rfl (AV rfl (CT) ⟨kq,kz⟩) (co rfl (AP (xs:=[.tmp 33,.tmp 38,.tmp 43,.tmp 48,.tmp 53,.tmp 58,.tmp 63,.tmp 68,.tmp 73,.tmp 78,.tmp 83,.tmp 88,.tmp 93,.tmp 98,.tmp 103,.tmp 108]) (rows:=(suT.map UO)) rfl rfl underlying287 F9 S6 rfl AB ⟨⟨Ao,VL.le vq (Af _)⟩,⟨⟨Ao,VL.le vq (Af _)⟩,⟨⟨Ao,VL.le vq (Af _)⟩,⟨⟨Ao,VL.le vq (Af _)⟩,⟨⟨Ao,VL.le vq (Af _)⟩,⟨⟨Ao,VL.le vq (Af _)⟩,⟨⟨Ao,VL.le vq (Af _)⟩,⟨⟨Ao,VL.le vq (Af _)⟩,⟨⟨Ao,VL.le vq (Af _)⟩,⟨⟨Ao,VL.le vq (Af _)⟩,⟨⟨Ao,VL.le vq (Af _)⟩,⟨⟨Ao,VL.le vq (Af _)⟩,⟨⟨Ao,VL.le vq (Af _)⟩,⟨⟨Ao,VL.le vq (Af _)⟩,⟨⟨Ao,VL.le vq (Af _)⟩,⟨⟨Ao,VL.le vq (Af _)⟩,trivial⟩⟩⟩⟩⟩⟩⟩⟩⟩⟩⟩⟩⟩⟩⟩⟩ AB) ?_)
 refine ac ?_
 refine wk [0] rfl ?_
 refine ac ?_
 · exact B8 _ _
theorem MV {code:Int}  :BF prog 192 [int code] (Dy [agg (UO (Qq code)),int (if Sy code then 0 else 8)]):=by
 refine fo func192 rfl ⟨rfl,rfl⟩ fun M0 w0=>(Tr.seq (Tr.Ap ?_))
 refine Tl rfl rfl rfl rfl S6 Ic (fun b1=> ?_)
 refine ap ?_
 refine ag ?_ ?_<;>intro h1 q1
 refine ac ?_
 refine Tr.cond rfl (fun _=> ?_) (fun h=>nomatch h)
 refine Tr.seq (Tr.Ap (tp rfl (An (rows:=[]) rfl XH Ic trivial rfl) (TO.AK 0 rfl rfl rfl vq C3 rfl F9 rfl rfl (tm rfl (TO.nil (Fin.go (Tr.ret (Fin.AE (Fin.Bc rfl (AL.cell 0 rfl rfl JI F9 rfl Lr) (AL.tmp rfl Lr) ?_)))))))))
 · exact kK
 refine an ?_ ?_<;>intro h2 q2
 refine ap ?_
 refine Tr.ret (Fin.AE (Fin.Bc rfl (AL.cell 0 rfl rfl JI F9 rfl Lr) (AL.tmp rfl Lr) ?_))
 · exact kK
 have hin:1≤code∧code≤16:=by omega
 refine ac ?_
 refine Tr.seq (Tr.Ap (tp rfl (kc0 (X_) rfl) ?_))
 refine ap ?_
 refine tp rfl (AD rfl underlying287 F9 vq vq AA (Bf (f:=UO) (zf AA))) ?_
 refine ap ?_
 refine wk [3,2] rfl (Tr.ret (Fin.Bc rfl (AL.cell 0 rfl rfl JI F9 rfl Lr) (AL.tmp rfl Lr) ?_))
 · exact Ay ⟨Lr,int_eq (by unfold Sy;rw [if_pos (decide_eq_true hin)]),trivial⟩
abbrev anyI:Pr:=Cp.ex fun n:Int=>int n
theorem iw:∀r∈Ig,∀x∈r.sizes,0≤x∧x≤40000:=by decide+kernel
theorem YA {a b k:Int} (h:LZ a b k=true):(0≤a∧a≤40000)∧(0≤b∧b≤40000):=by
 have h1:=(Zj h).1
 rw [decide_eq_true_eq] at h1
 unfold Du at h1
 split at h1
 next ha=>
  refine ⟨by omega,?_⟩
  split at h1
  · split at h1<;>omega
  ·
   split at h1
   · split at h1<;>omega
   ·
    split at h1
    ·
     split at h1
     next hc=>
      obtain ⟨x,hx,hb⟩:=List.any_eq_true.1 hc
      simp only [bM,List.mem_cons,List.not_mem_nil,or_false] at hx
      have:b=x:=by simpa using hb
      omega
     · omega
    ·
     split at h1
     ·
      split at h1
      next hc=>
       have hn:(Ev a).sizes.any (fun x=>b==x)=true:=by
        cases he:(Ev a).sizes.any (fun x=>b==x) with
        |true=>rfl
        |false=>
         have:=P3 (fun x=>b==x) (Ev a).sizes
         rw [he] at this;simp at this;omega
       obtain ⟨x,hx,hb⟩:=List.any_eq_true.1 hn
       have:b=x:=by simpa using hb
       subst this
       exact iw _ (gR ha) _ hx
      · omega
     · omega
 · omega
theorem vQ {c:Hf} (hv:EI c=true):c.Zk:=by
 have h:=Jf hv
 have h1:=YA h.key
 have h2:=YA h.hash
 exact ⟨h.s1,h.k1,h1.1,h1.2,h2.1,h2.2⟩
section
variable {P:Program} {I:Ck} {E:Env} {o:Oper}
theorem JZ {t:TypeId} {x:Operand} (ho:o.op= .unOp .not t x) (hx:VL E x ES):Ae P I o E ES:=
 Ae.same fun M w a he _=>by
  obtain ⟨b,h1⟩:=hx.ev he Ar
  have h1:a.eval x= .bool b:=h1
  exact ⟨.bool (!b),by simp [execOp,ho,h1,Op.unary],_,rfl⟩
theorem zg {t u:TypeId} {x y:Operand} (ho:o.op= .binOp .neq t x y u) (hx:VL E x (Gw .i64)) (hy:VL E y (Gw .i64)):Ae P I o E ES:=
 Ae.same fun M w a he _=>by
  obtain ⟨m,h1⟩:=hx.ev he Ar
  obtain ⟨n,h2⟩:=hy.ev he Ar
  have h1:a.eval x= .int .i64 m:=h1
  have h2:a.eval y= .int .i64 n:=h2
  exact ⟨.bool (m !=n),by simp [execOp,ho,h1,h2,eqGuard,binOp,Op.intCmp],_,rfl⟩
theorem qP {t u:TypeId} {x y:Operand} (ho:o.op= .binOp .eql t x y u) (hx:VL E x (Gw .i64)) (hy:VL E y (Gw .i64)):Ae P I o E ES:=
 Ae.same fun M w a he _=>by
  obtain ⟨m,h1⟩:=hx.ev he Ar
  obtain ⟨n,h2⟩:=hy.ev he Ar
  have h1:a.eval x= .int .i64 m:=h1
  have h2:a.eval y= .int .i64 n:=h2
  exact ⟨.bool (m==n),by simp [execOp,ho,h1,h2,eqGuard,binOp,Op.intCmp],_,rfl⟩
end
theorem aX:Pr.le anyI (Gw .i64):=fun _ _ _ h=>h
theorem vR:Pr.le (Gw .i64) anyI:=fun _ _ _ h=>h
theorem zh:Pr.le yZ (Gw .i64):=fun _ _ _ ⟨n,_,h⟩=>⟨n,h⟩
theorem aY {c:Hf}  :BF prog 189 [agg (DW c)] (Dy [Ex 3285282,Gw .i64]):=by
 refine fo func189 rfl ⟨rfl,rfl⟩ fun M0 w0=> ?_
 refine a2 ?_
 refine co rfl (Cz (MI (c:=c)) rfl rfl) ?_
 refine an ?_ ?_<;>intro h1 q1
 refine ac ?_
 refine Tr.ret (Fin.AE (Fin.D3 rfl (Bt.EB _ _) rfl ?_ rfl ?_))
 · exact Pg
 · exact DI _ _
 have hv:EI c=true:=by cases hb:EI c with|true=>rfl|false=>exact absurd h1 (by rw [hb];decide)
 refine a2 ?_
 refine co rfl (Cz (Xa hv (vQ hv)) rfl rfl) (co rfl (Cz (rE2) rfl rfl) ?_)
 refine ac ?_
 refine Tr.ret (Fin.D3 rfl (Bt.EB _ _) rfl ?_ rfl ?_)
 · exact Lr
 · exact Lr
theorem SS {c:Hf} {key:Int}  :BF prog 344 [agg (DW c),int key] (ES):=by
 refine fo func344 rfl ⟨rfl,rfl⟩ fun M0 w0=> ?_
 refine a2 ?_
 refine co rfl (Cz (aY (c:=c)) rfl rfl) ?_
 refine ac ?_
 refine Tr.seq (Tr.re 6 rfl vR (Tr.ex 6 rfl fun e6=> ?_))
 · repeat' first|exact Lr|exact Ax _ Lr|refine cy h rfl (Cz (BF.Ex fun m hm=>dm AA) rfl rfl) (cy h rfl (qP rfl (VL.le vq (DI _ _)) (VL.le vq zh)) ?_)|refine ac ?_|(refine Ch.cg rfl rfl rfl ?_ ?_<;>intro h q)
theorem qQ {l:List (List UInt8)} {s:List UInt8}  :BF prog 342 [gU l,str s] (ES):=by
 refine fo func342 rfl ⟨rfl,rfl⟩ fun M0 w0=>(Tr.Cl 0 rfl fun EH=> ?_)
 refine a2 ?_
 refine Tr.block (Tr.BE _ (kk [1,0] rfl) (fun k:Nat=>[(5,int ((k:Nat):Int))]) (fun k:Nat=>k≤(l).length) (fun k:Nat=>(l).length-k) 0 (Nat.zero_le _) kz ?_)
 rintro k BT
 refine an ?_ ?_<;>intro h1 q1
 have Ai:k<(l).length:=AH h1
 obtain ⟨x,Ah⟩:=at_ Ai
 · repeat' first|exact Ax _ Lr|exact Fin.AO (k+1) ⟨Ai,by omega⟩ ⟨⟨_,rfl,AG k⟩,kz⟩|refine co rfl (AD rfl underlying127 NC vq vq AA CO) ?_|refine ac ?_|(refine Tr.cn rfl ?_ ?_<;>intro h q)
 have BP:k=(l).length:=by have:=AJ h1;omega
 refine a3 ?_
 · exact BN
theorem qR {l:List Hf} {a:Int}  :BF prog 343 [Ll l,int a] (ES):=by
 refine fo func343 rfl ⟨rfl,rfl⟩ fun M0 w0=>(Tr.Cl 0 rfl fun EH=> ?_)
 refine ac ?_
 refine ag ?_ ?_<;>intro h1 q1
 refine a3 ?_
 · exact BN
 refine an ?_ ?_<;>intro h2 q2
 refine a2 ?_
 · exact BN
 refine ac ?_
 refine ag ?_ ?_<;>intro h3 q3
 refine ac ?_
 refine wk [4] rfl ?_
 refine ac ?_
 · exact BN
 refine ac ?_
 refine cy h3 rfl (AD rfl underlying82 DF vq vq AA (Bf (List.getElem?_eq_getElem (show Int.toNat a<l.length by omega)))) ?_
 refine ag ?_ ?_<;>intro h4 q4
 refine ac ?_
 refine cy h4 rfl (AD rfl underlying82 DF vq vq AA (Bf (List.getElem?_eq_getElem (show Int.toNat a<l.length by omega)))) ?_
 refine ac ?_
 refine wk [4] rfl ?_
 refine ac ?_
 · exact BN
 refine ac ?_
 refine wk [4] rfl ?_
 refine ac ?_
 · exact BN
theorem iy {e:Int} {l:List Hf} {i:Int} {an ha:List Int} {day:Int} {nm:List UInt8} (hi:0≤i∧i<(l.length:Nat)):BF prog 339 [int e,Ll l,int i,ints an,ints ha,int day,str nm] (ES):=by
 refine fo func339 rfl ⟨rfl,rfl⟩ fun M0 w0=>(Tr.Cl 1 rfl fun F0=> ?_)
 obtain ⟨c,hc⟩:=at_ (l:=l) (k:=i.toNat) AA
 refine ac ?_
 refine ao ?_
 refine tp rfl (AD rfl underlying82 DF (vl rfl) (vl rfl) AA (Bf hc)) ?_
 refine ao ?_
 refine Tl rfl rfl rfl rfl RM Lh (fun b1=> ?_)
 refine sf 0 15 ⟨rfl,rfl,rfl⟩ rfl rfl rfl rfl ?_
 refine ao ?_
 refine wk9 0 1 2 3 4 5 6 15 16 rfl ?_
 refine ac ?_
 refine ac ?_
 refine Tr.cn rfl ?_ ?_<;>intro h1 q1
 refine ac ?_
 refine co rfl (Cz (MI (c:=c)) rfl rfl) ?_
 refine ac ?_
 refine Nu 14 rfl ?_
 refine ac ?_
 · exact C9
 refine ac ?_
 refine VH 1 2 3 4 5 6 15 16 26 32 rfl ?_
 refine Tr.cn rfl ?_ ?_<;>intro h2 q2
 refine ac ?_
 refine Ch.cs 36 rfl ?_ ?_<;>intro h3 q3
 refine ac ?_
 refine cy h3 rfl (CS (qQ) rfl rfl rfl) (cy h3 rfl (JZ rfl (vl rfl)) ?_)
 refine ac ?_
 refine Nu 14 rfl ?_
 refine ac ?_
 · exact Lr
 refine ac ?_
 refine Nu 14 rfl ?_
 refine ac ?_
 · exact C9
 refine ac ?_
 refine Tr.cn rfl ?_ ?_<;>intro h4 q4
 refine ac ?_
 refine Ch.cs 49 rfl ?_ ?_<;>intro h5 q5
 refine ac ?_
 refine Nu 14 rfl ?_
 refine ac ?_
 · exact C9
 refine ac ?_
 refine Nu 14 rfl ?_
 refine ac ?_
 · exact C9
 refine ac ?_
 refine wk8 1 2 3 4 15 16 26 55 rfl ?_
 refine Tr.cn rfl ?_ ?_<;>intro h6 q6
 refine ac ?_
 refine co rfl (CS (KU) rfl rfl rfl) ?_
 refine ac ?_
 refine Nu 14 rfl ?_
 refine ac ?_
 · exact C9
 refine ac ?_
 refine Tr.cn rfl ?_ ?_<;>intro h7 q7
 refine ac ?_
 refine Ch.cs 67 rfl ?_ ?_<;>intro h8 q8
 refine ac ?_
 refine cy h8 rfl (AD rfl underlying82 DF (vl rfl) (vl rfl) AA (Bf (List.getElem?_eq_getElem (show Int.toNat (i+1)<l.length by omega)))) ?_
 refine ac ?_
 refine Nu 14 rfl ?_
 refine ac ?_
 · exact C9
 refine ac ?_
 refine Nu 14 rfl ?_
 refine ac ?_
 · exact C9
 refine ac ?_
 refine Tr.cn rfl ?_ ?_<;>intro h9 q9
 refine ac ?_
 refine co rfl (CS (qR) rfl rfl rfl) (co rfl (JZ rfl (vl rfl)) ?_)
 refine ac ?_
 refine Nu 14 rfl ?_
 refine ac ?_
 · exact Lr
 refine ac ?_
 refine wk6 1 2 3 15 16 84 rfl ?_
 refine Tr.cn rfl ?_ ?_<;>intro h10 Sx
 refine ac ?_
 refine Tr.cn rfl ?_ ?_<;>intro h11 Ty
 refine ac ?_
 refine co rfl (CS (SS) rfl rfl rfl) (co rfl (JZ rfl (vl rfl)) ?_)
 refine ac ?_
 refine Nu 14 rfl ?_
 refine ac ?_
 · exact Lr
 refine ac ?_
 refine ac ?_
 refine co rfl (AD rfl underlying82 DF (vl rfl) (vl rfl) AA (Bf (List.getElem?_eq_getElem (show Int.toNat (i+1)<l.length by omega)))) ?_
 refine ac ?_
 refine co rfl (CS (SS) rfl rfl rfl) (co rfl (JZ rfl (vl rfl)) ?_)
 refine ac ?_
 refine Nu 14 rfl ?_
 refine ac ?_
 · exact Lr
 refine ac ?_
 refine ac ?_
 refine Ch.cs 103 rfl ?_ ?_<;>intro h12 XY
 refine ac ?_
 refine cy h12 rfl (CS (KU) rfl rfl rfl) ?_
 refine ac ?_
 refine Nu 14 rfl ?_
 refine ac ?_
 · exact C9
 refine ac ?_
 refine Nu 14 rfl ?_
 refine ac ?_
 · exact C9
abbrev YB:List Int:=[9,14,13,7,11,15,10,12]
theorem iz {l:List Hf} {an ha:List Int} {day:Int} {nm:List UInt8}  :BF prog 332 [Ll l,ints an,ints ha,int day,str nm] (anyI):=by
 refine fo func332 rfl ⟨rfl,rfl⟩ fun M0 w0=>(Tr.Cl 0 rfl fun EH=> ?_)
 refine ac ?_
 refine ac ?_
 refine Tr.cn rfl ?_ ?_<;>intro h1 q1
 refine ac ?_
 refine ac ?_
 · exact C9
 refine ac ?_
 refine ac ?_
 refine Tr.cn rfl ?_ ?_<;>intro h2 q2
 refine ac ?_
 refine ac ?_
 · exact C9
 refine ac ?_
 refine Tr.seq (Tr.Al (co rfl (AP (xs:=[.const (.int .i64 (9)),.const (.int .i64 (14)),.const (.int .i64 (13)),.const (.int .i64 (7)),.const (.int .i64 (11)),.const (.int .i64 (15)),.const (.int .i64 (10)),.const (.int .i64 (12))]) (rows:=(YB.map fun n=>[int n])) rfl rfl underlying389 xg z43 rfl AB ⟨⟨Ao,VL.le (vl rfl) (Ad _)⟩,⟨⟨Ao,VL.le (vl rfl) (Ad _)⟩,⟨⟨Ao,VL.le (vl rfl) (Ad _)⟩,⟨⟨Ao,VL.le (vl rfl) (Ad _)⟩,⟨⟨Ao,VL.le (vl rfl) (Ad _)⟩,⟨⟨Ao,VL.le (vl rfl) (Ad _)⟩,⟨⟨Ao,VL.le (vl rfl) (Ad _)⟩,⟨⟨Ao,VL.le (vl rfl) (Ad _)⟩,trivial⟩⟩⟩⟩⟩⟩⟩⟩ AB) ?_))
 refine ac ?_
 refine ac ?_
 refine Tr.block (Tr.BE [(0,_),(1,_),(2,_),(3,_),(4,_),(11,_)] (kk6 rfl) (fun m:Nat=>[(12,int ((m:Nat):Int))]) (fun m:Nat=>m≤(YB).length) (fun m:Nat=>(YB).length-m) 0 (Nat.zero_le _) ⟨ke rfl,trivial⟩ ?_)
 rintro m NW
 refine ac ?_
 refine co rfl (CJ rfl underlying389 (Kf rfl)) ?_
 refine ac ?_
 refine Tr.cn rfl ?_ ?_<;>intro h3 q3
 have Ee:m<(YB).length:=AH h3
 obtain ⟨x,Em⟩:=at_ Ee
 have hm8:m<8:=Ee
 refine ac ?_
 refine ac ?_
 refine Tr.block (Tr.BE [(0,_),(1,_),(2,_),(3,_),(4,_),(11,_),(12,_)] (kk7 rfl) (fun k:Nat=>[(13,int ((k:Nat):Int))]) (fun k:Nat=>k≤(l).length) (fun k:Nat=>(l).length-k) 0 (Nat.zero_le _) ⟨ke rfl,trivial⟩ ?_)
 rintro k BT
 refine ac ?_
 refine Tr.cn rfl ?_ ?_<;>intro h4 q4
 have Ai:k<(l).length:=AH h4
 obtain ⟨c,Ah⟩:=at_ Ai
 refine ac ?_
 refine ac ?_
 refine co rfl (AD rfl underlying389 xg (Kf rfl) (vl rfl) AA (AZ Em)) ?_
 refine ac ?_
 refine co rfl (AV rfl (iy (e:=x) AA) ⟨ke rfl,ke rfl,ke rfl,ke rfl,ke rfl,ke rfl,ke rfl,trivial⟩) ?_
 refine ac ?_
 refine wk9 0 1 2 3 4 11 12 13 43 rfl (Tr.ex 43 rfl fun AIR=> ?_)
 refine Tr.cn rfl ?_ ?_<;>intro h5 q5
 refine ac ?_
 refine co rfl (AD rfl underlying389 xg (Kf rfl) (vl rfl) AA (AZ Em)) ?_
 refine ac ?_
 refine Nu 10 rfl ?_
 refine ac ?_
 · exact C9
 refine ac ?_
 refine ac ?_
 exact Fin.AO (k+1) ⟨Ai,by omega⟩ ⟨⟨_,rfl,AG k⟩,ke rfl,ke rfl,ke rfl,ke rfl,ke rfl,ke rfl,ke rfl,trivial⟩
 have BP:k=(l).length:=by have:=AJ h4;omega
 refine ac ?_
 refine ac ?_
 exact Fin.AO (m+1) ⟨Ee,by omega⟩ ⟨⟨_,rfl,AG m⟩,ke rfl,ke rfl,ke rfl,ke rfl,ke rfl,ke rfl,trivial⟩
 have KV:m=(YB).length:=by have:=AJ h3;omega
 refine ac ?_
 refine ac ?_
 refine ac ?_
 · exact C9
def Wk (s:Su) (x:IF):Bool:=decide (s.s1=0)||decide (x.CG=s.s1)
def SU (ids:List IF) (code:Int):Int:=if Sy code then idx (Wk (Qq code)) ids else -1
def Ls (sv:B7) (offer:List Int) (v code:Int):Bool:=Sy code&&(offer.any fun x=>code==x)&&(sv.A9.any fun x=>code==x)&&decide ((Qq code).lo≤v)&&decide (v≤(Qq code).hi)&&decide (0≤SU sv.ids code)
theorem IJ {e:B7} {code:Int} (hl:e.ids.length≤1000000):BF prog 319 [agg (Be e),int code] (Dy [int (SU e.ids code),bool (decide (0≤SU e.ids code))]):=by
 refine fo func319 rfl ⟨rfl,rfl⟩ fun M0 w0=> ?_
 refine ac ?_
 refine ao ?_
 refine tp rfl (Cz (MV (code:=code)) rfl rfl) ?_
 refine ao ?_
 refine Tl rfl rfl rfl rfl S6 Ic (fun b1=> ?_)
 refine sf 0 6 ⟨rfl,rfl,rfl⟩ rfl rfl rfl rfl ?_
 refine ao ?_
 refine ac ?_
 refine wk [15,6,2] rfl ?_
 refine Tr.cn rfl ?_ ?_<;>intro h1 q1
 have hK:SU e.ids code= -1:=by unfold SU;exact if_neg (fun h_=>by rw [if_pos h_] at h1;exact absurd h1 AB)
 refine ac ?_
 refine Tr.ret (Fin.AE (Fin.D3 rfl (Bt.EB _ _) rfl ?_ rfl ?_))
 · refine int_eq ?_;exact hK.symm
 · refine bool_eq ?_;rw [hK];rfl
 have hs:Sy code=true:=by cases h_:Sy code with|true=>rfl|false=>exact absurd h1 Mo
 have hK:SU e.ids code=idx (Wk (Qq code)) e.ids:=by unfold SU;exact if_pos hs
 refine a2 ?_
 refine Tr.block (Tr.BE _ (kk [6,2] rfl) (fun k:Nat=>[(8,int ((k:Nat):Int))]) (fun k:Nat=>k≤(e.ids).length∧(∀j y,j<k→e.ids[j]? =some y→Wk (Qq code) y=false)) (fun k:Nat=>(e.ids).length-k) 0 (⟨Nat.zero_le _,fun j y hj=>absurd hj AA⟩) kz ?_)
 rintro k ⟨BT,AX⟩
 refine an ?_ ?_<;>intro h2 q2
 have Ai:k<(e.ids).length:=AH h2
 obtain ⟨x,Ah⟩:=at_ Ai
 refine ac ?_
 refine ag ?_ ?_<;>intro h3 q3
 refine ac ?_
 refine wk [39,8,6,2] rfl ?_
 refine ac ?_
 refine Tr.ret (Fin.AR (Fin.AE (Fin.AE (Fin.AR (Fin.AE (Fin.D3 rfl (Bt.EB _ _) rfl ?_ rfl ?_))))))
 · exact cA
 · exact bP
 refine ac ?_
 refine cy h3 rfl (AD rfl underlying38 E8 vq vq AA (AZ Ah)) ?_
 refine ac ?_
 refine wk [39,8,6,2] rfl ?_
 refine Tr.cn rfl ?_ ?_<;>intro h4 q4
 refine ac ?_
 refine Tr.ret (Fin.AR (Fin.AE (Fin.AE (Fin.AR (Fin.AE (Fin.D3 rfl (Bt.EB _ _) rfl ?_ rfl ?_))))))
 · exact cA
 · exact bP
 refine a2 ?_
 exact Fin.AO (k+1) ⟨⟨Ai,Db (p:=Wk (Qq code)) Ah rW AX⟩,by omega⟩ ⟨⟨_,rfl,AG k⟩,kz⟩
 have BP:k=(e.ids).length:=by have:=AJ h2;omega
 subst BP
 refine a2 ?_
 refine Tr.ret (Fin.D3 rfl (Bt.EB _ _) rfl ?_ rfl ?_)
 · refine int_eq ?_;rw [hK];exact Fz AX
 · refine bool_eq ?_;rw [hK,←Fz AX];rfl
theorem fE {ids:List IF} {code:Int} (h:0≤SU ids code):∃x,ids[(SU ids code).toNat]? =some x:=by
 unfold SU at h ⊢
 split at h
 ·
  rename_i hs
  rw [if_pos hs]
  unfold idx at h ⊢
  cases hf:ids.findIdx? (Wk (Qq code)) with
  |none=>rw [hf] at h;simp at h
  |some i=>
   obtain ⟨hi,_⟩:=List.findIdx?_eq_some_iff_getElem.1 hf
   exact ⟨ids[i],by simp [hi]⟩
 · omega
theorem qS {e:B7} {of:List Int} {v code:Int} (h:Ls e of v code=true):0≤SU e.ids code:=by
 unfold Ls at h
 rw [Bool.and_eq_true,decide_eq_true_eq] at h
 exact h.2
theorem Lt {e:B7} {of:List Int} {v code:Int} (hl:e.ids.length≤1000000):BF prog 323 [agg (Be e),ints of,int v,int code] (bool (Ls e of v code)):=by
 refine fo func323 rfl ⟨rfl,rfl⟩ fun M0 w0=> ?_
 refine ac ?_
 refine ao ?_
 refine tp rfl (Cz (MV (code:=code)) rfl rfl) ?_
 refine ao ?_
 refine Tl rfl rfl rfl rfl S6 Ic (fun b1=> ?_)
 refine sf 0 9 ⟨rfl,rfl,rfl⟩ rfl rfl rfl rfl ?_
 refine ao ?_
 refine ac ?_
 refine Ch.cs 20 rfl ?_ ?_<;>intro h1 q1
 refine ac ?_
 refine Gk 3 4 44 rfl ?_
 refine ac ?_
 refine ac ?_
 · refine bool_eq ?_;unfold Ls;simp_all
 refine ac ?_
 refine cy h1 rfl (CS (KU) rfl rfl rfl) ?_
 refine ac ?_
 refine Ch.cs 26 rfl ?_ ?_<;>intro h2 q2
 refine ac ?_
 refine Gk 3 4 44 rfl ?_
 refine ac ?_
 refine ac ?_
 · refine bool_eq ?_;unfold Ls;simp_all;intros;exfalso;exact q2 _ Bi rfl
 refine ac ?_
 refine cy h2 rfl (CS (KU) rfl rfl rfl) ?_
 refine ac ?_
 refine Ch.cs 33 rfl ?_ ?_<;>intro h3 q3
 refine ac ?_
 refine Gk 3 4 44 rfl ?_
 refine ac ?_
 refine ac ?_
 · refine bool_eq ?_;unfold Ls;simp_all;intros;exfalso;exact q3 _ Bi rfl
 refine ac ?_
 refine Ch.cs 39 rfl ?_ ?_<;>intro h4 q4
 refine ac ?_
 refine Gk 3 4 44 rfl ?_
 refine ac ?_
 refine ac ?_
 · refine bool_eq ?_;unfold Ls;simp_all;intros;omega
 refine ac ?_
 refine Gk 3 4 44 rfl ?_
 refine Tr.cn rfl ?_ ?_<;>intro h5 q5
 refine ac ?_
 refine ac ?_
 · refine bool_eq ?_;unfold Ls;simp_all;intros;omega
 refine ac ?_
 refine ac ?_
 refine co rfl (CS (IJ (e:=e) (code:=code) hl) rfl rfl rfl) ?_
 refine ac ?_
 refine ac ?_
 refine ac ?_
 · refine bool_eq ?_;unfold Ls;simp_all
theorem i6 {c e:B7} {day most:Int} {su:List Int} (hc:c.small) (he:e.small):BF prog 317 [agg (Be c),agg (Be e),int day,int most,ints su] (Cp.ex fun z:Int×Int×Int=>fact True (Dy [agg [int z.1,int z.2.1],int z.2.2])):=by
 refine fo func317 rfl ⟨rfl,rfl⟩ fun M0 w0=>(Tr.Cl 4 rfl fun AH1=> ?_)
 obtain ⟨od,hod⟩:∃od,(if e.own=true then e.A9 else su)=od:=⟨_,rfl⟩
 have hsu:=he.A9
 have hol:od.length≤9223372036854775807:=by rw [←hod];split<;>omega
 refine Tr.seq (Tr.Ap (tp rfl (Bh rfl C3) (tp rfl (Bh rfl C3) ?_)))
 refine Tl rfl rfl rfl rfl Jt Fy (fun b1=> ?_)
 refine ap ?_
 refine ac ?_
 refine co rfl (Cz (FY hc) rfl rfl) ?_
 refine ag ?_ ?_<;>intro h1 q1
 refine ac ?_
 refine Tr.cond rfl (fun _=> ?_) (fun h=>nomatch h)
 refine Tr.seq (Tr.Ap (tp rfl (An (rows:=[]) rfl Ts Fy trivial rfl) (TO.AK 0 rfl rfl rfl vq C3 rfl CH rfl rfl (tm rfl (TO.nil (Fin.go (wk [11,10] rfl (Tr.ret (Fin.AE (Fin.Bc rfl (AL.cell 0 rfl rfl C7 CH rfl Lr) (AL.tmp rfl Lr) ?_))))))))))
 · exact En
 refine cy h1 rfl (AM rfl CD Bw vq rfl rfl) (cy h1 rfl (Cz (FY he) rfl rfl) ?_)
 refine an ?_ ?_<;>intro h2 q2
 refine ap ?_
 refine wk [11,10] rfl (Tr.ret (Fin.AE (Fin.Bc rfl (AL.cell 0 rfl rfl C7 CH rfl Lr) (AL.tmp rfl Lr) ?_)))
 · exact En
 refine ac ?_
 refine ag ?_ ?_<;>intro h3 q3
 refine ac ?_
 refine wk [39,10,6,5,4,3,2] rfl (Tr.cond rfl (fun _=> ?_) (fun h=>nomatch h))
 refine Tr.seq (Tr.Ap (tp rfl (An (rows:=[]) rfl Ts Fy trivial rfl) (TO.AK 0 rfl rfl rfl vq C3 rfl CH rfl rfl (tm rfl (TO.nil (Fin.go (Tr.ret (Fin.AE (Fin.Bc rfl (AL.cell 0 rfl rfl C7 CH rfl Lr) (AL.tmp rfl Lr) ?_)))))))))
 · exact En
 refine ag ?_ ?_<;>intro h4 q4
 refine ac ?_
 refine wk [39,10,6,5,4,3,2] rfl (Tr.cond rfl (fun _=> ?_) (fun h=>nomatch h))
 refine Tr.seq (Tr.Ap (tp rfl (An (rows:=[]) rfl Ts Fy trivial rfl) (TO.AK 0 rfl rfl rfl vq C3 rfl CH rfl rfl (tm rfl (TO.nil (Fin.go (Tr.ret (Fin.AE (Fin.Bc rfl (AL.cell 0 rfl rfl C7 CH rfl Lr) (AL.tmp rfl Lr) ?_)))))))))
 · exact En
 refine ag ?_ ?_<;>intro h5 q5
 refine ac ?_
 refine wk [39,10,6,5,4,3,2] rfl (Tr.cond rfl (fun _=> ?_) (fun h=>nomatch h))
 refine Tr.seq (Tr.Ap (tp rfl (An (rows:=[]) rfl Ts Fy trivial rfl) (TO.AK 0 rfl rfl rfl vq C3 rfl CH rfl rfl (tm rfl (TO.nil (Fin.go (Tr.ret (Fin.AE (Fin.Bc rfl (AL.cell 0 rfl rfl C7 CH rfl Lr) (AL.tmp rfl Lr) ?_)))))))))
 · exact En
 refine ac ?_
 refine wk [39,10,6,5,4,3,2] rfl ?_
 refine Tr.cn rfl ?_ ?_<;>intro h6 q6
 refine ap ?_
 refine Tr.ret (Fin.AE (Fin.Bc rfl (AL.cell 0 rfl rfl C7 CH rfl Lr) (AL.tmp rfl Lr) ?_))
 · exact En
 refine a2 ?_
 refine co rfl (ZC rfl vq vq) ?_
 refine ac ?_
 refine ag ?_ ?_<;>intro h7 q7
 refine ac ?_
 refine wk [54,12,10,6,5,4,2] rfl (Tr.cond rfl (fun _=> ?_) (fun h=>nomatch h))
 refine Tr.seq (Tr.Ap (tp rfl (An (rows:=[]) rfl Ts Fy trivial rfl) (TO.AK 0 rfl rfl rfl vq C3 rfl CH rfl rfl (tm rfl (TO.nil (Fin.go (Tr.ret (Fin.AE (Fin.Bc rfl (AL.cell 0 rfl rfl C7 CH rfl Lr) (AL.tmp rfl Lr) ?_)))))))))
 · exact En
 refine ac ?_
 refine wk [54,12,10,6,5,4,2] rfl ?_
 refine Tr.cn rfl ?_ ?_<;>intro h8 q8
 refine ap ?_
 refine Tr.ret (Fin.AE (Fin.Bc rfl (AL.cell 0 rfl rfl C7 CH rfl Lr) (AL.tmp rfl Lr) ?_))
 · exact En
 refine a2 ?_
 refine wk [13,12,10,6,5,4,2] rfl (Tr.Q5 [2,4,5,6,10,12] [(13,ints od)] (True) ?_ (fun h9=> ?_))
 refine an ?_ ?_<;>intro h10 Sx
 refine ac ?_
 exact Fin.AO () trivial ⟨⟨_,rfl,Pr.le_of_eq (by rw [←hod];simp_all)⟩,kz⟩
 refine Tr.skip ?_
 exact Fin.AO () trivial ⟨⟨_,rfl,Pr.le_of_eq (by rw [←hod];simp_all)⟩,kz⟩
 refine ac ?_
 refine Tr.block (Tr.BE _ (kk [13,12,10,6,5,4,2] rfl) (fun k:Nat=>[(14,int ((k:Nat):Int))]) (fun k:Nat=>k≤(od).length) (fun k:Nat=>(od).length-k) 0 (Nat.zero_le _) kz ?_)
 rintro k BT
 refine an ?_ ?_<;>intro h11 Ty
 have Ai:k<(od).length:=AH h11
 obtain ⟨x,Ah⟩:=at_ Ai
 refine a2 ?_
 refine co rfl (AD rfl underlying22 Bs vq vq AA (AZ Ah)) (co rfl (F5 rfl Cs rfl) ?_)
 refine co rfl (ju (Lt (e:=e) he.Yy) rfl rfl rfl rfl rfl) ?_
 refine ac ?_
 refine wk [75,14,13,12,10,6,5,4,2] rfl ?_
 refine Tr.cn rfl ?_ ?_<;>intro h12 XY
 refine a2 ?_
 exact Fin.AO (k+1) ⟨Ai,by omega⟩ ⟨⟨_,rfl,AG k⟩,kz⟩
 have hp:Ls e su (min most e.most) x=true:=by simpa using h12
 have hp0:=qS hp
 obtain ⟨y,hy⟩:=fE hp0
 refine a2 ?_
 refine co rfl (AD rfl underlying22 Bs vq vq AA (AZ Ah)) (co rfl (F5 rfl Cs rfl) ?_)
 refine co rfl (CS (IJ (e:=e) he.Yy) rfl rfl rfl) ?_
 refine ac ?_
 refine wk [15,14,13,12,10,6,5,2] rfl ?_
 refine ac ?_
 refine co rfl (AD rfl underlying38 E8 vq vq AA (Bf hy)) ?_
 refine ac ?_
 refine co rfl (kc5 (iz) rfl rfl rfl rfl rfl rfl) (co rfl (zg rfl (VL.le vq aX) (VL.le vq (DI _ _))) ?_)
 refine ac ?_
 refine wk [99,14,13,12,10] rfl (Tr.ex 99 rfl fun AIS=> ?_)
 refine Tr.cn rfl ?_ ?_<;>intro J0 dY
 refine ap ?_
 refine Tr.ret (Fin.AE (Fin.AR (Fin.AE (Fin.AE (Fin.AR (Fin.AE (Fin.Bc rfl (AL.cell 0 rfl rfl C7 CH rfl Lr) (AL.tmp rfl Lr) ?_)))))))
 · exact En
 refine ac ?_
 refine ap ?_
 refine tp rfl (AD rfl underlying22 Bs vq vq AA (AZ Ah)) ?_
 refine ap ?_
 refine Tr.ret (Fin.AR (Fin.AE (Fin.AE (Fin.AR (Fin.AE (Fin.Bc rfl (AL.cell 0 rfl rfl C7 CH rfl Lr) (AL.tmp rfl Lr) ?_))))))
 · exact En
 have BP:k=(od).length:=by have:=AJ h11;omega
 subst BP
 refine ac ?_
 refine ap ?_
 refine wk [11,10] rfl (Tr.ret (Fin.Bc rfl (AL.cell 0 rfl rfl C7 CH rfl Lr) (AL.tmp rfl Lr) ?_))
 · exact En
theorem YC {c e:B7} {day:Int} (hc:c.small) (he:e.small):BF prog 305 [agg (Be c),agg (Be e),int day] (Cp.ex fun z:Int×Int×Int=>fact True (Dy [agg [int z.1,int z.2.1],int z.2.2])):=by
 refine fo func305 rfl ⟨rfl,rfl⟩ fun M0 w0=>(Tr.seq (Tr.Ap (tp rfl (Bh rfl C3) (tp rfl (Bh rfl C3) ?_))))
 refine Tl rfl rfl rfl rfl Jt Fy (fun b1=> ?_)
 refine ap ?_
 refine ap ?_
 refine tp rfl (ZC rfl vq vq) (tp rfl (L4 rfl vq vq) ?_)
 refine ap ?_
 refine tp rfl (kc5 (i6 hc he) rfl rfl rfl rfl rfl rfl) ?_
 refine TO.ex 17 rfl (fun z1=>TO.fact 17 rfl fun Eh=> ?_)
 refine ap ?_
 refine wk [7,6] rfl (Tr.ret (Fin.Bc rfl (AL.cell 0 rfl rfl C7 CH rfl Lr) (AL.tmp rfl Lr) ?_))
 · exact En
abbrev uses (l:List (Int×Int)):Pr:=slice 2 (l.map fun x=>[int x.1,int x.2])
theorem Ob {e:B7} {a b:Int} (he:e.small):BF prog 312 [agg (Be e),agg [int a,int b]] (Cp.ex fun z:List (Int×Int)×Int=>fact (z.1.length≤1000) (Dy [uses z.1,int z.2])):=by
 refine fo func312 rfl ⟨rfl,rfl⟩ fun M0 w0=> ?_
 refine a2 ?_
 refine co rfl (Cz (FY he) rfl rfl) ?_
 refine an ?_ ?_<;>intro h1 q1
 refine ac ?_
 refine Tr.ret (Fin.AE (Fin.Bc rfl (AL.tmp rfl Lr) (AL.tmp rfl Lr) ?_))
 · exact Qs
 refine ac ?_
 refine ao ?_
 refine tp rfl (Cz (MV (code:=b)) rfl rfl) ?_
 refine ao ?_
 refine Tl rfl rfl rfl rfl S6 Ic (fun b1=> ?_)
 refine TO.AK 0 rfl rfl rfl vq C3 rfl F9 rfl rfl ?_
 refine ao ?_
 refine wk [7,6,3,2] rfl ?_
 refine an ?_ ?_<;>intro h2 q2
 refine ac ?_
 refine Tr.drop 0 (Tr.ret (Fin.AE (Fin.Bc rfl (AL.tmp rfl Lr) (AL.tmp rfl Lr) ?_)))
 · exact Qs
 refine a2 ?_
 refine co rfl (CS (IJ (e:=e) he.Yy) rfl rfl rfl) ?_
 refine ac ?_
 refine wk [9,8,6,2] rfl ?_
 refine an ?_ ?_<;>intro h3 q3
 refine ac ?_
 refine Tr.drop 0 (Tr.ret (Fin.AE (Fin.Bc rfl (AL.tmp rfl Lr) (AL.tmp rfl Lr) ?_)))
 · exact Qs
 obtain ⟨y,hy⟩:=fE (ids:=e.ids) (code:=b) K5
 refine ac ?_
 refine ao ?_
 refine tp rfl (AD rfl underlying38 E8 vq vq AA (Bf hy)) ?_
 refine ao ?_
 refine Tl rfl rfl rfl rfl K9 Eb (fun b2=> ?_)
 refine sf 0 10 ⟨rfl,rfl,rfl⟩ rfl rfl rfl rfl ?_
 refine ao ?_
 refine wk [10,6] rfl ?_
 refine an ?_ ?_<;>intro h4 q4
 refine ao ?_
 refine TO.DG 0 rfl rfl (Aw rfl rfl vq Lj Bs rfl Az rfl) ?_
 refine ao ?_
 refine ac ?_
 refine Tr.drop 0 (wk [5,4] rfl (Tr.ret (Fin.Bc rfl (AL.tmp rfl Lr) (AL.tmp rfl Lr) ?_)))
 · exact bV
 refine a2 ?_
 refine Tr.drop 0 (wk [5,4] rfl (Tr.ret (Fin.Bc rfl (AL.tmp rfl Lr) (AL.tmp rfl Lr) ?_)))
 · exact bV
theorem qT {e:B7} (h:Gp e=true):1≤e.least∧e.least≤4∧e.most≤4:=by
 unfold Gp at h
 simp only [Bool.and_eq_true,decide_eq_true_eq] at h
 omega
theorem YD {c e:B7} (hc:c.small) (he:e.small):BF prog 314 [agg (Be c),agg (Be e)] (Cp.ex fun z:List (Int×Int)=>fact (z.length≤1000) (uses z)):=by
 refine fo func314 rfl ⟨rfl,rfl⟩ fun M0 w0=> ?_
 refine a2 ?_
 refine co rfl (Cz (FY hc) rfl rfl) ?_
 refine ag ?_ ?_<;>intro h1 q1
 refine a3 ?_
 · exact Ax [] (BB AU (AQ 2))
 refine cy h1 rfl (AM rfl CD Bw vq rfl rfl) (cy h1 rfl (Cz (FY he) rfl rfl) ?_)
 refine an ?_ ?_<;>intro h2 q2
 refine a2 ?_
 · exact Ax [] (BB AU (AQ 2))
 obtain ⟨hc1,hc2,hc3⟩:=qT (e:=c) Br
 obtain ⟨he1,he2,he3⟩:=qT (e:=e) Br
 refine a3 ?_
 refine co rfl (L4 rfl vq vq) ?_
 refine ac ?_
 refine wk [6,5,3,2] rfl (Tr.block (Tr.CC 268 2 ?_))
 refine Tr.DE _ (kk [3,2] rfl) (fun (v:Int) (o:List (Int×Int)) u=>[(6,int v),(5,Aa u (uses o))]) (fun (v:Int) (o:List (Int×Int)) u=>Hp M0 w0 Fo ([Au 268 2 u])) (fun (v:Int) (o:List (Int×Int))=>1≤v∧v≤5∧(o.length:Int)≤(v-1)*16) (fun (v:Int) (o:List (Int×Int))=>(5-v).toNat) (max c.least e.least) ([]) (.slice none 0 0) (⟨by omega,by omega,by simp;omega⟩) ⟨kq,⟨_,rfl,Bp rfl⟩,trivial⟩ (fun _ _ h=>h) ?_
 rintro v o u ⟨Yk,Ww,hol⟩
 refine ac ?_
 refine co rfl (ZC rfl vq vq) ?_
 refine an ?_ ?_<;>intro h3 q3
 have hvm:=h3
 refine a2 ?_
 refine Tr.block (Tr.DE _ (kk [6,3,2] rfl) (fun (k:Int) (q:List (Int×Int)) u3=>[(7,int k),(5,Aa u3 (uses q))]) (fun (k:Int) (q:List (Int×Int)) u3=>Hp M0 w0 Fo ([Au 268 2 u3])) (fun (k:Int) (q:List (Int×Int))=>1≤k∧k≤17∧(q.length:Int)≤(v-1)*16+k-1) (fun (k:Int) (q:List (Int×Int))=>(17-k).toNat) (1) (o) u (⟨by omega,by omega,by omega⟩) ⟨kq,⟨_,rfl,BJ rfl⟩,trivial⟩ (fun _ _ h=>h) ?_)
 rintro k q u3 ⟨hk1,hk2,hql⟩
 refine an ?_ ?_<;>intro h4 q4
 have hkm:=h4
 refine a2 ?_
 refine co rfl (ju (Lt (e:=e) he.Yy) rfl rfl rfl rfl rfl) ?_
 refine an ?_ ?_<;>intro h5 q5
 refine ap ?_
 refine TO.Dl 0 rfl rfl AB (CB rfl rfl rfl rfl underlying331 CH dK Jt Iy Gn (BC BR KJ)) (fun v1=> ?_)
 refine ap ?_
 refine wk [7,6,5,3,2] rfl ?_
 refine ac ?_
 exact Fin.Bk (k+1) (q++[(v,k)]) v1 (⟨⟨by omega,by omega,by simp;omega⟩,by omega⟩) ⟨kq,⟨_,rfl,BJ DQ⟩,kz⟩ (fun _ _ h=>h)
 refine a2 ?_
 exact Fin.Bk (k+1) (q) u3 (⟨⟨by omega,by omega,by omega⟩,by omega⟩) ⟨kq,⟨_,rfl,BJ rfl⟩,kz⟩ (fun _ _ h=>h)
 have hkm:=h4
 refine a2 ?_
 exact Fin.Bk (v+1) (q) u3 (⟨⟨by omega,by omega,by omega⟩,by omega⟩) ⟨kq,⟨_,rfl,BJ AU⟩,kz⟩ (fun _ _ h=>h)
 have hvm:=h3
 refine a3 ?_
 · exact Pf
end Go.Proofs.YtmocaapoeefgkaaGreatDoor
