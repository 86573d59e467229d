/-
  Part 6 of the texts that prove this claim, merged.
-/
import Derived.Test.YtmocaapoeefgkaaGreatDoorRcFP5
set_option linter.all false
set_option maxRecDepth 40000
set_option maxHeartbeats 16000000
namespace Cp
open Go Go.RowKit Go.Great
section
variable {P:Program} {L:Lg P} {n:Fm} {fz:Nat} {E:Env} {M0:Av} {w0:World} {S:Nat→Prop} {o:Oper}
def KS (p:Pr) (v:Value):Ap:=⟨none,true,fun M w=>p.h M w v,fun M w M' w' he _ h=>p.st M w M' w' v he h⟩
def wV (e:TypeId) (zs:List Value) (v:Value):Ap:=match v with| .slice (some a) _ _=>AE true a.block e (zs.map is)|_=>Bp
def oa (R:Value→Value→Value→Ap) (u:Value):Ap:=match u with| .tuple t=>R (t.getD 1 undef) (t.getD 2 undef) (t.getD 0 undef)|_=>Bp
def Tz (R:Value→Value→Ap) (u:Value):Ap:=match u with| .tuple t=>R (t.getD 1 undef) (t.getD 0 undef)|_=>Bp
theorem Zv {a:Act} {d s t:Nat} {R:Value→Value→Value→Ap}:SR.at_ a ⟨.three d s t,oa R⟩=R (a.tmps.getD s undef) (a.tmps.getD t undef) (a.tmps.getD d undef):=rfl
theorem NO {a:Act} {d s:Nat} {R:Value→Value→Ap}:SR.at_ a ⟨.two d s,Tz R⟩=R (a.tmps.getD s undef) (a.tmps.getD d undef):=rfl
theorem Dv.conv {a:Act} {M:Av} {w:World} {p q:Pr} {j:Nat} {R1 R2:SR} {rs:List Ap} {r:Result Next} (hq:Pr.le p q) (hR:∀v,R1.at_ (a.put o.dst v)=R2.at_ (a.put o.dst v)) (h:Dv P M0 w0 S o a M w p j R1 rs r):Dv P M0 w0 S o a M w q j R2 rs r:=by
 cases r with
 |halt x w'=>exact h
 |ok x w'=>
  cases x
  case value v=>obtain ⟨M',g1,g2,g3⟩:=h;exact ⟨M',hq _ _ _ g1,g2,by rw [←hR];exact g3⟩
  case skip=>obtain ⟨M',g1,g2,g3⟩:=h;exact ⟨M',hq _ _ _ g1,g2,by rw [←hR];exact g3⟩
  case enter f args=>
   refine Calls.mono h ?_
   rintro e w'' ⟨v,M',g0,g1,g2,g3⟩
   exact ⟨v,M',g0,hq _ _ _ g1,g2,by rw [←hR];exact g3⟩
  all_goals exact h
theorem GF {M:Av} {w:World} {a:Act} (h:Cb M w E o a) (s:Nat) {p0:Pr} (hp0:p0.h M w (a.tmps.getD s undef)):Cb M w ((s,Ac (a.tmps.getD s undef) p0)::E) o a:=fun c p hc hp=>by
 simp only [List.lookup] at hp
 by_cases hcs:c=s
 · subst hcs;simp only [beq_self_eq_true,Option.some.injEq] at hp;subst hp;exact ⟨rfl,hp0⟩
 · rw [show (c==s)=false by simpa using hcs] at hp;exact h c p hc hp
theorem y5 {j d s t:Nat} {R:SR} {p1 p2 q:Pr} {p:Value→Value→Pr} {R':Value→Value→Value→Ap} (hd:o.dst=some d) (hs:d≠s) (ht:d≠t) (hq:∀v1 v2,Pr.le (p v1 v2) q) (hg:o.guard=none) (h1:E.lookup s=some p1) (h2:E.lookup t=some p2) (hls:s∈looks o) (hlt:t∈looks o) (h:∀v1 v2,DC P M0 w0 S n j R ⟨d,R' v1 v2⟩ o ((s,Ac v1 p1)::(t,Ac v2 p2)::E) (p v1 v2)):DC P M0 w0 S n j R ⟨.three d s t,oa R'⟩ o E q:=by
 refine ⟨hg,fun M w a rs hsz he hI hj=> ?_⟩
 refine Dv.conv (hq _ _) (fun v=> ?_) ((h (a.tmps.getD s undef) (a.tmps.getD t undef)).2 M w a rs hsz (GF (GF he t (he t p2 hlt h2)) s (he s p1 hls h1)) hI hj)
 rw [Zv,hd,BW (Ne.symm hs),BW (Ne.symm ht)];rfl
theorem Zw {j d:Nat} {p:Pr} (hg:o.guard=none) (hd:o.dst=some d) (hn:d<n) (h:∀I,Ae P I o E p):DC P M0 w0 S n j (SR.c Bp) ⟨d,KS p⟩ o E p:=by
 refine ⟨hg,fun M w a rs hsz he hI hj=> ?_⟩
 have hj':rs[j]? =some Bp:=hj
 have hat:∀v,SR.at_ (a.put o.dst v) ⟨d,KS p⟩=KS p v:=fun v=>by show KS p ((a.put o.dst v).tmps.getD d undef)=_;rw [hd,B1 Gx]
 have hg2:=h (Hp M0 w0 S rs) M w a he hI
 revert hg2
 generalize (execOp a.eval o).run P w=r
 intro hg2
 have key:∀v w',p.h M w' v→Below w.heap.size w w'→∃M',p.h M' w' v∧Ext M w M' w'∧Az M0 w0 S (rs.set j (SR.at_ (a.put o.dst v) ⟨d,KS p⟩)) M' w':=fun v w' hv hb=>by
  refine ⟨M,hv,Ext.below hb,?_⟩
  rw [hat]
  exact Az.CU ((Hp M0 w0 S rs).st _ _ _ hb hI) hj' rfl rfl hv
 cases r with
 |halt x w'=>exact hg2
 |ok x w'=>
  cases x
  case value v=>exact key v w' hg2.1 hg2.2
  case skip=>exact key undef w' hg2.1 hg2.2
  case enter f args=>
   obtain ⟨hb,hc⟩:=hg2
   refine Calls.mono hc ?_
   rintro e w'' ⟨v,g0,g1,g2⟩
   obtain ⟨M',k1,k2,k3⟩:=key v w'' g1 (Od hb g2)
   exact ⟨v,M',g0,k1,k2,k3⟩
  all_goals exact hg2
theorem og {t e:TypeId} {x y:Operand} {d j m fJ:Nat} {z:Value} (hg:o.guard=none) (hd:o.dst=some d) (hn:d<n) (ho:o.op= .makeSlice t x y) (ht:P.underlying t=some (.slice e)) (hs:A8 P e=some 1) (hby:Bx P e=some fJ) (hz:Bc P e=some [z]) (h1:z.oneCell'=true)
  (hx:VL E x (int ((m:Nat):Int))) (hy:VL E y (int ((m:Nat):Int))) (hm:m≤maxLen) (hb:fJ*m≤281474976710656):DC P M0 w0 S n j (SR.c Bp) ⟨d,wV e (List.replicate m z)⟩ o E (Cp.ex fun b=>is (JY m b)):=by
 refine ⟨hg,fun M w a rs WK he hI hj=> ?_⟩
 have hx1:a.eval x= .int .i64 m:=hx.ev he Ar
 have hy1:a.eval y= .int .i64 m:=hy.ev he Ar
 have hi:∃i,P.info? e=some i∧i.size=1∧i.bytes=fJ∧∃z',i.zero=some z'∧z'.cells= #[z]:=by
  unfold A8 at hs;unfold Bx at hby;unfold Bc at hz
  cases hi:P.info? e with
  |none=>rw [hi] at hs;cases hs
  |some i=>
   rw [hi] at hs hby hz
   simp at hs hby hz
   obtain ⟨z',h2,h3⟩:=hz
   exact ⟨i,rfl,hs,hby,z',h2,by rw [←Array.toList_inj,h3]⟩
 obtain ⟨i,hi,hi1,hi2,z',Eh,Ig⟩:=hi
 have hmk:madeCells z'.cells m=(List.replicate m z).toArray:=by
  rw [Ig]
  apply Array.ext
  · simp [madeCells]
  ·
   intro j h1 h2
   simp [madeCells,Nat.mod_one]
 have hrun:=run_make (P:=P) w t e i z' ht hi Eh .i64 .i64 (m:Int) (m:Int) AA (Int.le_refl _) (by rw [hi2];have h0:((fJ*m:Nat):Int)≤281474976710656:=Int.ofNat_le.2 hb;rw [←Int.natCast_mul];exact h0) Ui
 rw [hi1] at hrun
 simp only [Int.toNat_natCast,Nat.mul_one] at hrun
 rw [hmk] at hrun
 have En:(execOp a.eval o).run P w= .ok (.value (JY m w.heap.size)) (w.alloc (.cells (List.replicate m z).toArray e)):=by simp [execOp,ho,hx1,hy1,hrun]
 rw [En]
 have hb:Below w.heap.size w (w.alloc (.cells (List.replicate m z).toArray e)):=(Below.refl _ _).alloc (Nat.le_refl _) _
 have h2:=Ext.below (M:=M) hb
 have E6:Ext M w (fun b o=>M b o∨b=w.heap.size) (w.alloc (.cells (List.replicate m z).toArray e)):=by
  refine ⟨h2.size,fun a v hc hm=>⟨fun hx=> ?_,(h2.keep a v hc hm).2⟩,fun b o ho hp hm=>⟨fun hx=> ?_,(h2.obj b o ho hp hm).2⟩⟩
  ·
   rcases hx with hx|hx
   · exact CZ
   · exact FD
  ·
   rcases hx with hx|hx
   · exact CZ
   · exact FE
 have hs1:(w.alloc (.cells (List.replicate m z).toArray e)).heap.size=w.heap.size+1:=by simp
 have hat:(SR.at_ (a.put o.dst (JY m w.heap.size)) ⟨d,wV e (List.replicate m z)⟩)=AE true w.heap.size e ((List.replicate m z).map is):=by unfold SR.at_ Slot.val;dsimp only;rw [hd,B1 Ic];rfl
 refine ⟨fun b o=>M b o∨b=w.heap.size,⟨_,rfl⟩,E6,?_⟩
 rw [hat]
 refine hI.replace hj E6 hb.os hb.tape hb.output (fun k hk _=>hb.block k hk) rfl (fun b o hm _=> .inl hm) (fun b o hx=> ?_) ?_ rfl (fun b hbk=> ?_)
 ·
  rcases hx with hx|hx
  · have:=hI.bd _ _ hx;omega
  · omega
 · exact ⟨fun o=> .inr rfl,List.replicate m z,heap_alloc_new w _,LP _ _ _,fun c hc=>by rw [List.eq_of_mem_replicate hc];exact h1⟩
 ·
  have E2:some w.heap.size=some b:=hbk
  injection E2 with e1
  subst e1
  exact ⟨by rw [hs1];omega,.inr (Nat.le_refl _)⟩
theorem OK {s:Nat} {op:Op} (h:(Operand.tmp s)∈op.operands.toList) (ho:o.op=op):s∈looks o:=List.mem_filterMap.2 ⟨_,by rw [ho];exact h,rfl⟩
theorem uf {d j s x y:Nat} {T:TypeId} {ps:Value→Value→List Pr} (hg:o.guard=none) (hd:o.dst=some d) (hn:d<n) (ho:o.op= .box T (.tmp s)) (hx:d≠x) (hy:d≠y):
  DC P M0 w0 S n j ⟨.three s x y,oa fun v1 v2=>KS (agg (ps v1 v2))⟩ ⟨.three d x y,oa fun v1 v2=>Er T (ps v1 v2)⟩ o E (Cp.ex fun b=>ptr b 0):=by
 refine ⟨hg,fun M w a rs hsz he hI hj=> ?_⟩
 have hj':rs[j]? =some (KS (agg (ps (a.tmps.getD x undef) (a.tmps.getD y undef))) (a.tmps.getD s undef)):=hj
 have hjl:j<rs.length:=by rcases Nat.lt_or_ge j rs.length with h|h;exact h;rw [List.getElem?_eq_none h] at hj';cases hj'
 have hr:=(hI.hold _ (List.mem_of_getElem? hj')).1
 have hI2:Az M0 w0 S (rs.set j Bp) M w:=Az.CU hI hj' rfl rfl trivial
 have he2:Cb M w ((s,agg (ps (a.tmps.getD x undef) (a.tmps.getD y undef)))::E) o a:=fun c p hc hp=>by
  simp only [List.lookup] at hp
  by_cases hcs:c=s
  · subst hcs;simp only [beq_self_eq_true,Option.some.injEq] at hp;subst hp;exact hr
  · rw [show (c==s)=false by simpa using hcs] at hp;exact he c p hc hp
 have h:=(uQ (P:=P) (M0:=M0) (w0:=w0) (S:=S) (n:=n) (j:=j) (T:=T) (ps:=ps (a.tmps.getD x undef) (a.tmps.getD y undef)) (E:=(s,agg (ps (a.tmps.getD x undef) (a.tmps.getD y undef)))::E) hg hd hn ho (VL.le ⟨_,List.lookup_cons_self,Pr.le_refl _⟩ (Ad _))).2 M w a _ hsz he2 hI2 (by rw [List.getElem?_set_self hjl];rfl)
 have h2:Dv P M0 w0 S o a M w (Cp.ex fun b=>ptr b 0) j ⟨d,Er T (ps (a.tmps.getD x undef) (a.tmps.getD y undef))⟩ rs ((execOp a.eval o).run P w):=by
  revert h
  generalize (execOp a.eval o).run P w=r
  intro h
  cases r with
  |halt x w'=>exact h
  |ok x w'=>
   cases x
   case value v=>simpa only [Dv,List.set_set] using h
   case skip=>simpa only [Dv,List.set_set] using h
   case enter f args=>simpa only [Dv,List.set_set] using h
   all_goals exact h
 refine Dv.conv (Pr.le_refl _) (fun v=> ?_) h2
 rw [Zv,hd,BW (Ne.symm hx),BW (Ne.symm hy)];rfl
theorem gb {t:TypeId} {s y:Tmp} {j:Nat} {T:TypeId} {ps:List Pr} {p:Pr} [One p] (hg:o.guard=none) (hd:o.dst=none) (ho:o.op= .store t (.tmp s) (.tmp y)) (hsy:s≠y) (hx:E.lookup s=some (Cp.ex fun b=>ptr b 0)) (hy:E.lookup y=some p)
  (hz:A8 P t=some 1) (hl:ps.length=1):DC P M0 w0 S n j ⟨s,Er T ps⟩ ⟨.two s y,Tz fun v=>Er T [Ac v p]⟩ o E any:=by
 refine ⟨hg,fun M w a rs hsz he hI hj=> ?_⟩
 have hyl:y∈looks o:=OK (op:= .store t (.tmp s) (.tmp y)) (by simp [Op.operands]) ho
 have he2:Cb M w ((y,Ac (a.tmps.getD y undef) p)::E) o a:=fun c q hc hq=>by
  simp only [List.lookup] at hq
  by_cases hcs:c=y
  · subst hcs;simp only [beq_self_eq_true,Option.some.injEq] at hq;subst hq;exact ⟨rfl,he _ p hyl hy⟩
  · rw [show (c==y)=false by simpa using hcs] at hq;exact he c q hc hq
 have h:=(Cs (P:=P) (M0:=M0) (w0:=w0) (S:=S) (n:=n) (j:=j) (T:=T) (ps:=ps) (qs:=[Ac (a.tmps.getD y undef) p]) (E:=(y,Ac (a.tmps.getD y undef) p)::E) hg hd ho bE (VL.le ⟨_,List.lookup_cons_self,Pr.le_refl _⟩ (Af _)) hz rfl hl).2 M w a rs hsz he2 hI hj
 refine Dv.conv (Pr.le_refl _) (fun v=> ?_) h
 rw [NO,hd];rfl
theorem BJ.jY {Q:Exit→Act→World→Prop} {rs:List SR} (s:Nat) {p:Pr} (hs:E.lookup s=some p) (k:∀v,BJ n M0 w0 S ((s,Ac v p)::E) rs Q):BJ n M0 w0 S E rs Q:=by
 rintro a w ⟨M,g1,g2,g3,g4⟩
 refine k (a.tmps.getD s undef) a w ⟨M,g1,g2,fun c z hz=> ?_,g4⟩
 simp only [List.lookup] at hz
 by_cases hcs:c=s
 · subst hcs;simp only [beq_self_eq_true,Option.some.injEq] at hz;subst hz;exact ⟨rfl,g3 c p hs⟩
 · rw [show (c==s)=false by simpa using hcs] at hz;exact g3 c z hz
theorem BJ.fix {Q:Exit→Act→World→Prop} {rs:List SR} (j:Nat) {R:SR} (r:Ap) (hR:rs[j]? =some R) (hs:∀a:Act,(∃M w,FY M w E a)→R.at_ a=r) (k:BJ n M0 w0 S E (rs.set j (SR.c r)) Q):BJ n M0 w0 S E rs Q:=by
 rintro a w ⟨M,g1,g2,g3,g4⟩
 refine k a w ⟨M,g1,g2,g3,?_⟩
 have e:=hs a ⟨M,w,g3⟩
 have e3:(rs.set j (SR.c r)).map (·.at_ a)=rs.map (·.at_ a):=by
  apply List.ext_getElem?
  intro m
  rw [List.getElem?_map,List.getElem?_map,List.getElem?_set]
  by_cases him:j=m
  ·
   subst him
   have hjl:j<rs.length:=by rcases Nat.lt_or_ge j rs.length with h|h;exact h;rw [List.getElem?_eq_none h] at hR;cases hR
   rw [if_pos rfl,if_pos hjl,hR]
   show some ((SR.c r).at_ a)=some (R.at_ a)
   rw [e];rfl
  · rw [if_neg him]
 rw [e3];exact g4
theorem OL {M:Av} {w:World} {a:Act} {s:Nat} {v:Value} {p:Pr} (h:FY M w E a) (hs:E.lookup s=some (Ac v p)):a.tmps.getD s undef=v:=(h s _ hs).1
theorem BJ.gh {Q:Exit→Act→World→Prop} {rs:List SR} (j s:Nat) {f:Value→Ap} {v:Value} {p:Pr} (hR:rs[j]? =some ⟨s,f⟩) (hs:E.lookup s=some (Ac v p)) (k:BJ n M0 w0 S E (rs.set j (SR.c (f v))) Q):BJ n M0 w0 S E rs Q:=
 BJ.fix j _ hR (fun a ⟨_,_,h⟩=>by show f (a.tmps.getD s undef)=_;rw [OL h hs]) k
theorem BJ.gj {Q:Exit→Act→World→Prop} {rs:List SR} (j d s:Nat) {f:Value→Value→Ap} {u v:Value} {p q:Pr} (hR:rs[j]? =some ⟨.two d s,Tz f⟩) (hd:E.lookup d=some (Ac u p)) (hs:E.lookup s=some (Ac v q)) (k:BJ n M0 w0 S E (rs.set j (SR.c (f v u))) Q):BJ n M0 w0 S E rs Q:=
 BJ.fix j _ hR (fun a ⟨_,_,h⟩=>by rw [NO,OL h hs,OL h hd]) k
theorem BJ.AGg {Q:Exit→Act→World→Prop} {rs:List SR} (j d s t:Nat) {f:Value→Value→Value→Ap} {u v1 v2:Value} {p q1 q2:Pr} (hR:rs[j]? =some ⟨.three d s t,oa f⟩) (hd:E.lookup d=some (Ac u p)) (hs:E.lookup s=some (Ac v1 q1)) (ht:E.lookup t=some (Ac v2 q2)) (k:BJ n M0 w0 S E (rs.set j (SR.c (f v1 v2 u))) Q):BJ n M0 w0 S E rs Q:=
 BJ.fix j _ hR (fun a ⟨_,_,h⟩=>by rw [Zv,OL h hs,OL h ht,OL h hd]) k
end
section
variable {P:Program} {L:Lg P} {n:Fm} {fz:Nat} {E:Env} {I:Ce} {M0:Av} {w0:World} {S:Nat→Prop} {rs:List Ap} {Q:Exit→Act→World→Prop} {c:Code}
theorem Fin.shape {e:Exit} (s:Nat) {v:Value} (form:Nat→Value) (hs:E.lookup s=some (Ac v (Cp.ex fun b=>is (form b)))) (k:∀b,v=form b→Fin n ((s,is (form b))::E) (Hp M0 w0 S rs) Q e):Fin n E (Hp M0 w0 S rs) Q e:=by
 intro a w hst
 obtain ⟨M,h1,h2,he,h4⟩:=hst
 obtain ⟨h5,b,h6⟩:=he s _ hs
 have hv:v=form b:=by rw [←h5];exact h6
 refine k b hv a w ⟨M,h1,h2,fun c z hz=> ?_,h4⟩
 simp only [List.lookup] at hz
 by_cases hcs:c=s
 · subst hcs;simp only [beq_self_eq_true,Option.some.injEq] at hz;subst hz;exact h6
 · rw [show (c==s)=false by simpa using hcs] at hz;exact he c z hz
theorem Fin.Hh {e:Exit} (j:Nat) {r:Ap} (r':Ap) (hi:rs[j]? =some r) (h:r=r') (k:Fin n E (Hp M0 w0 S (rs.set j r')) Q e):Fin n E (Hp M0 w0 S rs) Q e:=by
 subst h
 have hjl:j<rs.length:=by rcases Nat.lt_or_ge j rs.length with h|h;exact h;rw [List.getElem?_eq_none h] at hi;cases hi
 have e1:rs.set j r=rs:=by
  apply List.ext_getElem?
  intro m
  rw [List.getElem?_set]
  by_cases him:j=m
  · subst him;rw [if_pos rfl,if_pos hjl,hi]
  · rw [if_neg him]
 rw [e1] at k;exact k
theorem Tr.ADP {α:Type} (ni:α→Fm) (Ei:α→Env) (Ii:α→Ce) (C:α→Prop) (μ:α→Nat) (x0:α) (hn:ni x0=n) (h0:C x0) (hs:CV E (Ei x0)) (hI:∀M w,I.h M w→(Ii x0).h M w)
  (k:∀x,C x→Tr L (ni x) (Ei x) (Ii x) c (Exit.then (fun a w=>∃y,(C y∧μ y<μ x)∧St (ni y) (Ei y) (Ii y) a w) Q)):Tr L n E I (.loop c) Q:=by
 intro a w hst
 refine L.loop μ (fun x a w=>C x∧St (ni x) (Ei x) (Ii x) a w) (fun x a w ⟨hc,h⟩=> ?_) x0 a w ⟨h0,?_⟩
 ·
  refine L.mono ?_ (k x hc a w h)
  intro e a w hq
  cases e with
  |normal=>obtain ⟨y,⟨h1,h2⟩,h3⟩:=hq;exact ⟨y,h2,h1,h3⟩
  |_=>exact hq
 · rw [hn];exact hst.sub hs hI
theorem Fin.NP {e:Exit} {rs':List Ap} (hp:rs.Perm rs') (k:Fin n E (Hp M0 w0 S rs') Q e):Fin n E (Hp M0 w0 S rs) Q e:=fun a w ⟨M,h1,h2,h3,h4⟩=>k a w ⟨M,h1,h2,h3,Az.perm hp h4⟩
theorem Ba.ofM {f : FuncId} {g : Func} {ps : List Pr} {res : Pr} {R : Ap} {R' : Value → Ap} (hf : P.funcs[f]? = some g) (hb : g.body = some c) (hname : (g.name == "runtime.NumGoroutine") = false) (hlen : ps.length ≤ g.ntmps)
  (h:∀M0 w0 S rs M1 w1,Tr (YK P) g.ntmps (Ln 0 ps) (Hp M0 w0 S (R::Ak M1 w1::rs)) c (JR P g (Mi M0 w0 S rs M1 w1 res R'))):Ba P f ps res R R':=by
 refine ⟨⟨g,hf,hname,by rw [hb];rfl⟩,fun M0 w0 S rs M w vs hI hv=> ?_⟩
 refine O4 hf hb (h M0 w0 S rs M w _ _ ⟨M,?_,rfl,F0 hv,?_⟩)
 ·
  have:=hv.length
  simp [this];omega
 · exact Yk
end
section
variable {P:Program} {L:Lg P} {n:Fm} {fz:Nat} {E:Env} {I:Ce} {M0:Av} {w0:World} {S:Nat→Prop} {rs:List Ap} {Q:Exit→Act→World→Prop} {c:Code}
abbrev GG (l D:Nat) (rec:Obj) (M1:Av) (w1:World) (rs:List Ap):List Ap:=BL l rec::BL D (.deferred (some []))::Ak M1 w1::rs
theorem Tr.y7 {α:Type} {p gf:Nat} {g:Operand} {lb:Array Value} {enc:α→Value} {xs:List α} {own:List α→List Ap} {assign body:Code} (q:Nat) (K:Env) (hK:CV E K) (R:List α→List Ap)
  (hIt:NL P gf lb enc xs own) (eg:Entry P gf) (hg:VL E g (is (.func (.func gf) #[] lb))) (PO:rs.Perm (own []++R [])) (hp:K.lookup p=none) (hpn:p<n.sz)
  (hassign:∀l D rec M1 w1 pre x,(pre++[x])<+:xs→Tr (dU P (some l)) ⟨n.sz,[]⟩ ((p,is (enc x))::K) (Hp M0 w0 S (own (pre++[x])++GG l D rec M1 w1 (R pre))) assign (Exit.then (St ⟨n.sz,[]⟩ ((q,is (enc x))::K) (Hp M0 w0 S (own (pre++[x])++GG l D rec M1 w1 (R pre)))) (fun _ _ _=>False)))
  (hbody : ∀ l D rec M1 w1 pre x, (pre ++ [x]) <+: xs → Tr (dU P (some l)) ⟨n.sz, []⟩ ((q, is (enc x)) :: K) (Hp M0 w0 S (own (pre ++ [x]) ++ GG l D rec M1 w1 (R pre))) body
   (I8 M0 w0 S (fun _:Unit=>own (pre++[x])++GG l D rec M1 w1 (R (pre++[x]))) (fun _ _=>own (pre++[x])++GG l D rec M1 w1 [CI False])))
  (hdone:∀l D rec M1 w1,Fin ⟨n.sz,mark D::n.df⟩ E (Hp M0 w0 S (own xs++GG l D rec M1 w1 (R xs))) Q .normal):
  Tr (YK P) n E (Hp M0 w0 S rs) (.rangeFunc g #[p] assign body) Q:=by
 refine Tr.nr (fun x=>(q,is (enc x))::K) (fun pre (_:Unit)=>R pre) (fun _ _ _=>[CI False]) () hIt (fun args w=>DB eg args w) hg PO ?_ ?_ (fun l D rec M1 w1 _=>hdone l D rec M1 w1) ?_
 ·
  intro l D rec M1 w1 pre x d hpre a hsz hE M w hI
  have hx:Ext M1 w1 M w:=(hI.hold (Ak M1 w1) AV).1
  refine hassign l D rec M1 w1 pre x hpre _ w ⟨M,by simpa using hsz,rfl,fun s z hq=> ?_,hI⟩
  simp only [List.lookup] at hq
  by_cases hs:s=p
  ·
   subst hs
   simp only [beq_self_eq_true,Option.some.injEq] at hq
   subst hq
   show (a.tmps.setIfInBounds s (enc x)).getD s undef=enc x
   simp [Array.getD_eq_getD_getElem?,hsz,hpn]
  ·
   rw [show (s==p)=false by simpa using hs] at hq
   obtain ⟨z',Eh,Ig⟩:=hK.spec s z hq
   have h2:=z.st _ _ _ _ _ hx (Ig _ _ _ (hE s z' Eh))
   show z.h M w ((a.tmps.setIfInBounds p (enc x)).getD s undef)
   have e1:(a.tmps.setIfInBounds p (enc x)).getD s undef=a.tmps.getD s undef:=by
    simp only [Array.getD_eq_getD_getElem?]
    rw [Array.getElem?_setIfInBounds_ne (fun e=>hs e.symm)]
   rw [e1];exact h2
 ·
  intro l D rec M1 w1 pre x d hpre
  exact hbody l D rec M1 w1 pre x hpre
 ·
  intro l D rec M1 w1 c pre d hpre a w ⟨M,_,_,_,h⟩
  have h:Az M0 w0 S (own pre++GG l D rec M1 w1 [CI False]) M w:=h
  exact ((h.hold (CI False) AV).1).elim
theorem Fin.st {E1:Env} {Q':Exit→Act→World→Prop} (hs:CV E E1):Fin n E I (Exit.then (St n E1 I) Q') .normal:=fun _ _ h=>h.sub hs (fun _ _ h=>h)
theorem Fin.rnd {β:Type} {rr:β→List Ap} {rx:Code→β→List Ap} (d:β) (hp:rs.Perm (rr d)):Fin n E (Hp M0 w0 S rs) (I8 M0 w0 S rr rx) .normal:=fun _ _ ⟨M,_,_,_,h⟩=>⟨d,M,Az.perm hp h⟩
theorem Tr.y8 {α β:Type} (K:Env) (hK:CV E K) (ni:α→β→Fm) (Ei:α→β→Env) (Ii:α→β→Ce) (C:α→β→Prop) (μ:α→β→Nat) (x0:α) (y0:β) (hn:ni x0 y0=n) (h0:C x0 y0) (hs:CV E (Ei x0 y0)) (hI:∀M w,I.h M w→(Ii x0 y0).h M w)
  (k:∀x y,C x y→Tr L (ni x y) (Ei x y++K) (Ii x y) c (Exit.then (fun a w=>∃x' y',(C x' y'∧μ x' y'<μ x y)∧St (ni x' y') (Ei x' y'++K) (Ii x' y') a w) Q)):Tr L n E I (.loop c) Q:=
 Tr.ADP (fun p : α × β => ni p.1 p.2) (fun p => Ei p.1 p.2 ++ K) (fun p => Ii p.1 p.2) (fun p => C p.1 p.2) (fun p => μ p.1 p.2) (x0, y0) hn h0 (Me hs hK) hI
  fun ⟨x,y⟩ hC a w hst=>L.mono (fun e a w hq=>by
   cases e with
   |normal=>obtain ⟨x',y',h1,h2⟩:=hq;exact ⟨(x',y'),h1,h2⟩
   |_=>exact hq) (k x y hC a w hst)
theorem Fin.ADQ {α β:Type} {ni:α→β→Fm} {E1:α→β→Env} {I1:α→β→Ce} {C:α→β→Prop} (i:α) (j:β) (hn:ni i j=n) (hC:C i j) (hs:CV E (E1 i j)) (hI:∀M w,I.h M w→(I1 i j).h M w):Fin n E I (Exit.then (fun a w=>∃x y,C x y∧St (ni x y) (E1 x y) (I1 x y) a w) Q) .normal:=
 fun _ _ hst=>⟨i,j,hC,by rw [hn];exact hst.sub hs hI⟩
end
section
variable {P:Program} {fz:Nat} {E:Env} {M0 M1:Av} {w0 w1:World} {S:Nat→Prop} {g:Func} {α β:Type} {xs:List α} {own:List α→List Ap} {R Rx:List α→β→List Ap}
theorem Fin.ADR {d:β} (hr:g.results= #[]):Fin ⟨fz,[]⟩ E (Hp M0 w0 S (own xs++Ak M1 w1::R xs d)) (JR P g fun e w'=>(∃v,e= .returned v)∧∃M' d',Ext M1 w1 M' w'∧(Az M0 w0 S (own xs++R xs d') M' w'∨∃pre,pre<+:xs∧Az M0 w0 S (own pre++Rx pre d') M' w')) .normal:=by
 refine Fin.yu (Fin.Ty ?_)
 rintro a w ⟨M,_,hd,he,hi⟩
 obtain ⟨h1,h2⟩:=Hu hi
 exact ⟨hd,_,results0 hr,⟨_,rfl⟩,M,d,h1,.inl h2⟩
theorem Fin.y9 {d:β} {pre:List α} (hr:g.results= #[]) (hp:pre<+:xs):Fin ⟨fz,[]⟩ E (Hp M0 w0 S (own pre++Ak M1 w1::Rx pre d)) (JR P g fun e w'=>(∃v,e= .returned v)∧∃M' d',Ext M1 w1 M' w'∧(Az M0 w0 S (own xs++R xs d') M' w'∨∃pre,pre<+:xs∧Az M0 w0 S (own pre++Rx pre d') M' w')) .ret:=by
 refine Fin.Ty ?_
 rintro a w ⟨M,_,hd,he,hi⟩
 obtain ⟨h1,h2⟩:=Hu hi
 exact ⟨hd,_,results0 hr,⟨_,rfl⟩,M,d,h1,.inr ⟨pre,hp,h2⟩⟩
theorem Ba.y_ {f:FuncId} {args:List Pr} {form:Nat→Value} {r':Value→Ap} (h:Fj P f args [] (fun _=>True) (fun b=>is (form b)) (fun b=>[r' (form b)])):Ba P f args (Cp.ex fun b=>is (form b)) Bp r':=by
 refine ⟨h.1,fun M0 w0 S rs M w vs hI hv=>(h.2 M0 w0 S rs M w vs (Az.JK hI) hv).mono ?_⟩
 rintro e w' ⟨v,M',b,rfl,_,h1,h2,h3⟩
 obtain rfl:v=form b:=h1
 exact ⟨_,M',rfl,⟨b,rfl⟩,h2,h3⟩
end
end Cp
namespace Go.Proofs.YtmocaapoeefgkaaGreatDoor
open Go Go.RowKit Cp Go.Proofs.Tryz
theorem Vl {b:BitVec 32} {i:Nat}  :BC prog 184 [u32 b,int ((i:Nat):Int)] (bool (b.getLsbD i)):=by
 refine fo func184 rfl ⟨rfl,rfl⟩ fun M0 w0=> ?_
 refine a2 ?_
 refine co rfl (n9 rfl vq vq (Int.natCast_nonneg _)) ?_
 refine co rfl (XY (c:=1#32) rfl vq vq) ?_
 refine co rfl (yx rfl vq vq) ?_
 refine a2 ?_
 · exact Lr
abbrev Sf:TypeId:=181
abbrev oh (b:Nat):Value:= .func (.func 222) #[] #[.pointer (some ⟨b,0,none⟩)]
def AGh (s:BitVec 32) (v:Value):Ap:=match v with| .func _ _ #[.pointer (some a)]=>AE true a.block Sf [u32 s]|_=>Bp
def I_ (s:BitVec 32) (pre:List Nat):BitVec 32:=pre.foldl gZ s
theorem OM (s:BitVec 32) (pre:List Nat) (x:Nat):I_ s (pre++[x])=gZ (I_ s pre) x:=by unfold I_;rw [List.foldl_append];rfl
theorem zA {s:BitVec 32}  :Fj (α:=Nat) prog 181 [u32 s] [] (fun _=>True) (fun b=>is (oh b)) (fun b=>[AE true b Sf [u32 s]]):=by
 refine Fj.of func181 rfl rfl BA fun M0 w0 S rs M1 w1=>(Tr.seq (Tr.Ao ?_))
 refine TO.Uv rfl rfl AB rfl Ni (fun b1=> ?_)
 refine ap ?_
 refine Tr.seq (Tr.Aj (co rfl (ue rfl vq) ?_))
 refine ac ?_
 refine Tr.ret (Fin.wJ (b1) rfl (AM.tmp rfl Lr) trivial ?_ (List.Perm.refl _))
 · exact Lr
theorem om {s:BitVec 32}:Ba Tryz.prog 181 [u32 s] (Cp.ex fun b=>is (oh b)) Bp (AGh s):=Ba.y_ zA
theorem Vm {s:BitVec 32} {b:Nat}  :NL prog 222 #[.pointer (some ⟨b,0,none⟩)] (fun i:Nat=> .int .i64 (i:Int)) (MO s) (fun pre=>[Da,AE true b Sf [u32 (I_ s pre)]]):=by
 refine NL.of (ps:=[is (.pointer (some ⟨b,0,none⟩))]) func222 rfl BA (fun _ _=>⟨rfl,trivial⟩) ?_
 intro M0 w0 S l β R Rx M1 w1 hy d
 refine Tr.block (Tr.Co [(0,_),(1,_)] ⟨ke rfl,ke rfl,trivial⟩ (fun (pre:List Nat) (d2:β)=>[]) (fun (pre:List Nat) (d2:β)=>Hp M0 w0 S (Da::AE true b Sf [u32 (I_ s pre)]::Ak M1 w1::R pre d2)) (fun (pre:List Nat) (d2:β)=>pre++MO (I_ s pre)=MO s) (fun (pre:List Nat) (d2:β)=>(MO (I_ s pre)).length) ([]) (d)  (rfl) trivial (fun _ _ h=>h) ?_)
 rintro pre d2  hpe
 refine Tr.seq (Tr.seq (Tr.Aj (co rfl (Ck 1 rfl (BB rfl F9 (vl rfl) rfl)) (co rfl (oW rfl (vl rfl) (vl rfl)) (Ch.nil (Fin.go ?_))))))
 refine Tr.cn rfl ?_ ?_<;>intro h1 q1
 have hne:I_ s pre≠0#32:=by simpa using h1
 have oo:=R9 hne
 have Sh:=Zr hne
 have hpx:(pre++[Je (I_ s pre)])<+:MO s:=⟨MO (gZ (I_ s pre) (Je (I_ s pre))),by rw [←hpe,oo];simp⟩
 refine Tr.skip (Fin.go (Tr.block (Tr.seq (Tr.Ao (TO.rd 1 rfl rfl rfl AB (BB rfl F9 (vl rfl) rfl) (TO.G4 0 rfl rfl AB (An rfl rfl AB rfl (yy hne) ⟨ke rfl,trivial⟩) (tm rfl (TO.nil (Fin.go (Tr.seq (Tr.GV mixed [some (0,1,false,0),none,none,none,some (0,1,true,0)] BV (IF 1 rfl rfl (BB rfl F9 (vl rfl) rfl) (xm rfl ?_)))))))))))))
 refine xo rfl (fun _=>KQ (b:=1#32) rfl (vl rfl) (vl rfl) (Int.natCast_nonneg _)) ?_
 refine xo rfl (fun _=>KR rfl (vl rfl) (vl rfl)) (Cx.DY 1 rfl rfl (Ay rfl rfl (vl rfl) (Vo rfl) Fu rfl BA rfl) ?_)
 refine Cx.nil ⟨rfl,?_⟩
 refine BJ.done (Aw.cons (Aw.cons (Aw.cons (Aw.map _)))) (Fin.go (Tr.seq ?_))
 refine Tr.H8 1 [u32 (I_ s (pre++[Je (I_ s pre)]))] rfl ⟨Pr.le_of_eq (by rw [OM];rfl),trivial⟩ ?_
 refine Tr.oZ (own:=fun pre=>[Da,AE true b Sf [u32 (I_ s pre)]]) (pre:=pre) (x:=Je (I_ s pre)) (d:=d2) hy hpx rfl rfl rfl rfl rfl rfl rfl rfl rfl rfl rfl rfl BA BA BA BA AB rfl rfl rfl rfl rfl (fun d3=> ?_) (fun d3=> ?_)
 refine Fin.go (Tr.cond rfl (fun h=>nomatch h) (fun _=> ?_))
 refine Tr.skip (Fin.block ?_)
 exact Fin.Cm (pre++[Je (I_ s pre)]) (d3)  (⟨by rw [OM,List.append_assoc,←hpe,oo];rfl,by rw [OM,oo];simp⟩) ⟨ke rfl,ke rfl,trivial⟩ (fun _ _ h=>h)
 refine Fin.go (Tr.cond rfl (fun _=> ?_) (fun h=>nomatch h))
 refine Tr.ret (Fin.AU (Fin.AF (Fin.AU (Fin.y9 (g:=f222) (own:=fun pre=>[Da,AE true b Sf [u32 (I_ s pre)]]) (R:=R) (Rx:=Rx) (d:=d3) rfl hpx))))
 have hz:I_ s pre=0#32:=by simpa using h1
 obtain rfl:pre=MO s:=by rw [hz,n_,List.append_nil] at hpe;exact hpe
 refine Tr.exit (Fin.AY (Fin.AY (Fin.Au (Fin.ADR (g:=f222) (own:=fun pre=>[Da,AE true b Sf [u32 (I_ s pre)]]) (xs:=MO s) (R:=R) (Rx:=Rx) (d:=d2) rfl))))
theorem Vn:Entry Tryz.prog 222:=⟨_,Tryz.func222,rfl,rfl⟩
-- bits as AHx are ADS (behind AHy.lean)
def bvF (p:Nat→Bool):Nat→BitVec 32
 |0=>0#32
 |k+1=>if p k then Zo (bvF p k) k else bvF p k
theorem Zx (p:Nat→Bool):∀(k:Nat) {j:Nat},k≤32→(bvF p k).getLsbD j=(decide (j<k)&&p j)
 |0,j,_=>by simp [bvF]
 |k+1,j,hk=>by
  have ih:= @Zx p k j AA
  unfold bvF
  split
  next h=>
   rw [Zq AA,ih]
   by_cases hj:k=j
   · subst hj;simp [h]
   ·
    by_cases h2:j<k
    ·
     have:j<k+1:=by omega
     simp [h2,this,hj]
    ·
     have:¬j<k+1:=by omega
     simp [h2,this,hj]
  next h=>
   rw [ih]
   by_cases hj:k=j
   · subst hj;simp at h;simp [h]
   ·
    by_cases h2:j<k
    ·
     have:j<k+1:=by omega
     simp [h2,this]
    ·
     have:¬j<k+1:=by omega
     simp [h2,this]
def Ex (n:Nat) (l:List BI):List (BitVec 32):=(List.range n).map fun b=>bvF (fun a=>C9 l n a b) n
theorem C0 (n:Nat) (l:List BI):(Ex n l).length=n:=by unfold Ex;simp
theorem Gs {n:Nat} {l:List BI} (hn:n≤32):Ew n (Ex n l) (C9 l n):=by
 refine ⟨C0 n l,fun b x hx a=> ?_⟩
 unfold Ex at hx
 rw [List.getElem?_map] at hx
 rcases Nat.lt_or_ge b n with hb|hb
 ·
  rw [List.getElem?_range hb] at hx
  simp only [Option.map_some,Option.some.injEq] at hx
  subst hx
  exact Zx _ n hn
 · rw [List.getElem?_eq_none FW] at hx;cases hx
theorem Zy {n:Nat} {B C:List (BitVec 32)} {M:Nat→Nat→Bool} (h:Ew n B M) (h':Ew n C M):B=C:=by
 apply List.ext_getElem?
 intro b
 rcases Nat.lt_or_ge b n with hb|hb
 ·
  obtain ⟨x,hx⟩:=at_ (l:=B) (k:=b) (by rw [h.1];exact hb)
  obtain ⟨y,hy⟩:=at_ (l:=C) (k:=b) (by rw [h'.1];exact hb)
  rw [hx,hy]
  congr 1
  exact BitVec.eq_of_getLsbD_eq fun i _=>by rw [h.2 b x hx,h'.2 b y hy]
 · rw [List.getElem?_eq_none (by rw [h.1];exact hb),List.getElem?_eq_none (by rw [h'.1];exact hb)]
theorem gl {l:List BI} {k:Nat} {r:BI} (h:l[k]? =some r) (a b:Nat):Ga (l.take (k+1)) a b=(Ga (l.take k) a b||(decide (r.fst=(a:Int))&&decide (r.thn=(b:Int)))):=by
 unfold Ga;rw [List.take_add_one,h,List.any_append];simp
theorem Zz {n:Nat} {B:List (BitVec 32)} {l:List BI} {k:Nat} {r:BI} {x:BitVec 32} (h:Ew n B (Ga (l.take k))) (hr:l[k]? =some r) (hf:0≤r.fst∧r.fst<n) (ht:0≤r.thn) (hx:B[r.thn.toNat]? =some x) (hn:n≤32):Ew n (B.set r.thn.toNat (Zo x r.fst.toNat)) (Ga (l.take (k+1))):=by
 refine NN (oH h hx (f:=r.fst.toNat) AA hn) fun a b _ _=> ?_
 rw [gl hr]
 congr 1
 rw [decide_eq_decide.2 (show r.fst.toNat=a↔r.fst=(a:Int) by omega),decide_eq_decide.2 (show r.thn.toNat=b↔r.thn=(b:Int) by omega)]
def JS (i:Nat) (A:List (BitVec 32)) (k:Nat):List (BitVec 32):=A.set k (Zo (A.getD k 0#32) i)
def LN (B:List (BitVec 32)):Nat→List (BitVec 32)
 |0=>List.replicate B.length 0#32
 |i+1=>(MO (B.getD i 0#32)).foldl (JS i) (LN B i)
theorem ON (i:Nat):∀(ks:List Nat) (A:List (BitVec 32)),(ks.foldl (JS i) A).length=A.length
 |[],_=>rfl
 |k::ks,A=>by rw [List.foldl_cons,ON i ks];unfold JS;rw [List.length_set]
theorem IV (B:List (BitVec 32)):∀i,(LN B i).length=B.length
 |0=>List.length_replicate
 |i+1=>by unfold LN;rw [ON,IV B i]
theorem gm {B:List (BitVec 32)} {i:Nat} {x:BitVec 32} (h:B[i]? =some x):LN B (i+1)=(MO x).foldl (JS i) (LN B i):=by
 rw [LN,List.getD_eq_getElem?_getD,h];rfl
def MH (B:List (BitVec 32)) (s:BitVec 32):Nat→BitVec 32
 |0=>0#32
 |k+1=>if (!s.getLsbD k&&(B.getD k 0#32&&&~~~s==0#32))=true then Zo (MH B s k) k else MH B s k
theorem oq {B:List (BitVec 32)} {s x:BitVec 32} {k:Nat} (hx:B[k]? =some x) (h1:s.getLsbD k=false) (h2:(x&&&~~~s==0#32)=true):MH B s (k+1)=Zo (MH B s k) k:=by
 rw [MH,List.getD_eq_getElem?_getD,hx,if_pos];rw [h1];simpa using h2
theorem ug {B:List (BitVec 32)} {s x:BitVec 32} {k:Nat} (hx:B[k]? =some x) (h:s.getLsbD k=true∨(x&&&~~~s==0#32)=false):MH B s (k+1)=MH B s k:=by
 rw [MH,List.getD_eq_getElem?_getD,hx,if_neg]
 intro hc
 rw [Bool.and_eq_true] at hc
 rcases h with h|h
 · rw [h] at hc;cases hc.1
 · have:=hc.2;rw [show (some x).getD 0#32=x from rfl,h] at this;cases this
theorem ot (B:List (BitVec 32)) (s:BitVec 32):∀k,MH B s k=bvF (fun j=> !s.getLsbD j&&(B.getD j 0#32&&&~~~s==0#32)) k
 |0=>rfl
 |k+1=>by unfold MH bvF;rw [ot B s k]
theorem uh {n:Int} {l:List BI} {s:BitVec 32} {d:List Int} (hv:BG n l=0) (hs:R_ n.toNat s d) (hc:CY l d=true) (j:Nat):(MH (Ex n.toNat l) s n.toNat).getLsbD j=(decide (j<n.toNat)&&ME l d true j):=by
 obtain ⟨h0,_⟩:=C_ hv
 rw [ot,Zx _ _ AA]
 by_cases hj:j<n.toNat
 ·
  obtain ⟨x,hx⟩:=at_ (l:=Ex n.toNat l) (k:=j) (by rw [C0];exact hj)
  rw [uY hv (Gs AA) hs hc hx hj,List.getD_eq_getElem?_getD,hx];rfl
 · simp [hj]
abbrev bits (B:List (BitVec 32)):Pr:=slice 1 (B.map fun x=>[u32 x])
def zB (a b:BI):Int:=orF [Jb a.fst b.fst,Jb a.thn b.thn]
theorem Vp {a b:BI}:decide (zB a b≥0)= !Ev a b:=by
 unfold zB Ev
 rw [Bool.eq_iff_iff,decide_eq_true_eq]
 simp only [orF,Jb]
 repeat' split
 all_goals (simp;try omega)
theorem K8 {B:List (BitVec 32)} {i:Int} {x:BitVec 32} (h:B[i.toNat]? =some x):(B.map fun x=>u32 x)[0+i.toNat*1]? =some (u32 x):=by rw [Nat.zero_add,Nat.mul_one,List.getElem?_map,h];rfl
theorem SB {B:List (BitVec 32)} {i:Int} {x y:BitVec 32} (h:B[i.toNat]? =some x):(B.map fun x=>u32 x).take (0+i.toNat*1)++[u32 y]++(B.map fun x=>u32 x).drop (0+i.toNat*1+1)=(B.set i.toNat y).map fun x=>u32 x:=by
 have hl:i.toNat<B.length:=by rcases Nat.lt_or_ge i.toNat B.length with h2|h2;exact h2;rw [List.getElem?_eq_none h2] at h;cases h
 rw [Nat.zero_add,Nat.mul_one,List.set_eq_take_append_cons_drop,if_pos hl]
 simp [List.map_take,List.map_drop]
theorem T0 (B:List (BitVec 32)):(B.map fun x=>u32 x)=(B.map fun x=>[u32 x]).flatten++([]:List Value).map is:=by
 induction B with
 |nil=>rfl
 |cons x B ih=>simp at ih ⊢;exact ih
theorem T2 (n:Nat):(List.replicate n (Value.int .u32 0)).map is=(List.replicate n 0#32).map fun x=>u32 x:=by rw [List.map_replicate,List.map_replicate];rfl
theorem SC {B:List (BitVec 32)} {i:Nat} {x:BitVec 32} (h:B[i]? =some x):(B.map fun x=>[u32 x])[((i:Nat):Int).toNat]? =some [u32 x]:=by rw [Int.toNat_natCast,List.getElem?_map,h];rfl
theorem gp {i k:Nat} {pre:List Nat} {A:List (BitVec 32)} {y:BitVec 32} (h:(pre.foldl (JS i) A)[k]? =some y):(pre.foldl (JS i) A).set k (Zo y i)=(pre++[k]).foldl (JS i) A:=by
 rw [List.foldl_append]
 show _=(pre.foldl (JS i) A).set k (Zo ((pre.foldl (JS i) A).getD k 0#32) i)
 rw [List.getD_eq_getElem?_getD,h];rfl
theorem zC {n:Nat} {r:BI} (h:FP n r=false):(0≤r.fst∧r.fst<n)∧(0≤r.thn∧r.thn<n)∧r.fst≠r.thn:=by
 unfold FP at h;rw [decide_eq_false_iff_not] at h;omega
theorem zD {ps qs:List Pr} (h:Q7 ps qs):Pr.le (ref ps) (ref qs):=fun M w v ⟨a,h1,h2⟩=>⟨a,h1,fun i q hq=>by
 obtain ⟨p,hp,hle⟩:=h.at_ i q hq
 obtain ⟨u,g1,g2⟩:=h2 i p hp
 exact ⟨u,g1,g2.1,g2.2.1,hle _ _ _ g2.2.2⟩⟩
theorem ow {xs pre:List Nat} {x:Nat} (h:(pre++[x])<+:xs):x∈xs:=h.subset AV
theorem Z0 {a b:BI}  :BC prog 182 [agg (PG a),agg (PG b)] (int (zB a b)):=by
 refine fo func182 rfl ⟨rfl,rfl⟩ fun M0 w0=> ?_
 refine a2 ?_
 refine co rfl (CL (ZF) rfl rfl rfl) ?_
 refine ac ?_
 refine co rfl (CL (ZF) rfl rfl rfl) (co rfl (AO (xs:=[.tmp 9,.tmp 14]) (rows:=[[_],[_]]) rfl rfl underlying22 Bw z3 rfl AB ⟨⟨Am,Ni⟩,⟨⟨Am,Ni⟩,trivial⟩⟩ AB) ?_)
 refine co rfl (AR rfl (ACn (l:=[Jb a.fst b.fst,Jb a.thn b.thn])) ⟨GX,trivial⟩) ?_
 refine ac ?_
 refine wk [4] rfl ?_
 refine ac ?_
 · exact Lr
theorem gq {n:Nat} {l:List BI} (hn:n≤24) (hbd:∀r∈l,FP n r=false):Ba Tryz.prog 183 [int ((n:Nat):Int),reqs l] (ref [int ((n:Nat):Int),bits (Ex n l),bits (LN (Ex n l) n)]) (Da) (fun _=>Da):=by
 refine Ba.ofM Tryz.func183 rfl rfl B9 fun M0 w0 S rs M1 w1=> ?_
 refine Tr.Cf 1 rfl fun Fl=> ?_
 refine Tr.seq ?_
 refine Tr.Aj ?_
 refine Ch.op rfl rfl AB (Di rfl (vl rfl)) ?_
 refine Ch.nil ?_
 refine Fin.go ?_
 refine Tr.seq ?_
 refine Tr.pad ?_
 refine Tr.pad ?_
 refine Tr.pad ?_
 refine Tr.pad ?_
 refine Tr.GV mixed [none,none,some (0,0,true,14),none,some (0,1,true,16),some (0,2,true,.three 17 14 16),some (.three 17 14 16,2,true,.three 18 14 16),some (0,3,true,5),some (5,3,true,.two 5 18)] BV ?_
 refine Cx.op rfl rfl AB (fun _=>BX rfl (vl rfl)) ?_
 refine Cx.op rfl rfl AB (fun _=>BX rfl (vl rfl)) ?_
 refine Cx.ef 0 rfl rfl AB (og rfl rfl AB rfl Tryz.underlying232 Fu vp ABW rfl (vl rfl) (vl rfl) Fz AA) ?_
 refine Cx.op rfl rfl AB (fun _=>BX rfl (vl rfl)) ?_
 refine Cx.ef 1 rfl rfl AB (og rfl rfl AB rfl Tryz.underlying232 Fu vp ABW rfl (vl rfl) (vl rfl) Fz AA) ?_
 refine Cx.ef 2 rfl rfl AB (y5 (d:=17) (s:=14) (t:=16) (q:=any) rfl AB AB (fun _ _ _ _ _ _=>trivial) rfl rfl rfl AB AB (fun v1 v2=>Zw rfl rfl AB (fun _=>Al (rows:=[(0,[_]),(1,[_]),(2,[_])]) rfl ABZ ABa ⟨⟨rfl,VL.le (vl rfl) (Af _)⟩,⟨⟨rfl,VL.le (vl rfl) (Af _)⟩,⟨⟨rfl,VL.le (vl rfl) (Af _)⟩,trivial⟩⟩⟩ rfl))) ?_
 refine Cx.ef 2 rfl rfl AB (uf rfl rfl AB rfl AB AB) ?_
 refine Cx.ef 3 rfl rfl AB (CN rfl rfl AB rfl AFO ABV) ?_
 refine Cx.DY 3 rfl rfl (gb rfl rfl rfl AB rfl rfl ABU rfl) ?_
 refine Cx.nil ⟨rfl,?_⟩
 refine BJ.jY 14 rfl (fun v14=> ?_)
 refine BJ.jY 16 rfl (fun v16=> ?_)
 refine BJ.jY 18 rfl (fun v18=> ?_)
 refine BJ.jY 5 rfl (fun v5=> ?_)
 refine BJ.gh 0 14 rfl rfl ?_
 refine BJ.gh 1 16 rfl rfl ?_
 refine BJ.AGg 2 18 14 16 rfl rfl rfl rfl ?_
 refine BJ.gj 3 5 18 rfl rfl rfl ?_
 refine BJ.done (Aw.cons (Aw.cons (Aw.cons (Aw.cons (Aw.cons (Aw.cons (Aw.map _))))))) ?_
 refine Fin.shape 14 (fun b=>JY n b) rfl (fun b1 e1=> ?_)
 refine Fin.shape 16 (fun b=>JY n b) rfl (fun b2 e2=> ?_)
 refine Fin.shape 18 (fun b=> .pointer (some ⟨b,0,none⟩)) rfl (fun b3 e3=> ?_)
 refine Fin.shape 5 (fun b=> .pointer (some ⟨b,0,none⟩)) rfl (fun b4 e4=> ?_)
 subst e1 e2 e3 e4
 refine Fin.Hh 0 (AE true b1 Sf ((List.replicate n 0#32).map fun x=>u32 x)) rfl (by rw [←T2];rfl) ?_
 refine Fin.Hh 1 (AE true b2 Sf ((List.replicate n 0#32).map fun x=>u32 x)) rfl (by rw [←T2];rfl) ?_
 refine Fin.Hh 2 (AE true b3 234 [int ((n:Nat):Int),Ac (JY n b1) _,Ac (JY n b2) _]) rfl rfl ?_
 refine Fin.H8 2 [int ((n:Nat):Int),is (JY n b1),is (JY n b2)] rfl ⟨Pr.le_refl _,EK _ _,EK _ _,trivial⟩ ?_
 refine Fin.Hh 3 (AE true b4 176 [Ac (.pointer (some ⟨b3,0,none⟩)) _]) rfl rfl ?_
 refine Fin.H8 3 [ptr b3 0] rfl ⟨EK _ _,trivial⟩ ?_
 refine Fin.go ?_
 refine Tr.seq ?_
 refine Tr.seq ?_
 refine Tr.Aj ?_
 refine Ch.op rfl rfl AB (BX rfl (vl rfl)) ?_
 first
  |refine Ch.op rfl rfl AB (CB rfl Tryz.underlying33 (vl rfl)) ?_
  |refine Ch.op rfl rfl AB (Cc rfl Tryz.underlying33 (vl rfl)) ?_
 refine Ch.op rfl rfl AB (BX rfl (vl rfl)) ?_
 refine Ch.nil ?_
 refine Fin.go ?_
 refine Tr.block ?_
 refine Tr.Co [(0,_),(5,_),(19,_),(20,_)] ⟨⟨_,rfl,Pr.le_refl _⟩,⟨_,rfl,Pr.le_refl _⟩,⟨_,rfl,Pr.le_refl _⟩,⟨_,rfl,Pr.le_refl _⟩,trivial⟩ (fun (B:List (BitVec 32)) (m:Nat)=>[(21,int ((m:Nat):Int))]) (fun (B:List (BitVec 32)) (m:Nat)=>Hp M0 w0 S (AE true b1 Sf (B.map fun x=>u32 x)::AE true b2 Sf ((List.replicate n 0#32).map fun x=>u32 x)::AE true b3 234 [int ((n:Nat):Int),is (JY n b1),is (JY n b2)]::AE true b4 176 [ptr b3 0]::Da::Ak M1 w1::rs)) (fun (B:List (BitVec 32)) (m:Nat)=>m≤l.length∧Ew n B (Ga (l.take m))) (fun (B:List (BitVec 32)) (m:Nat)=>l.length-m) (List.replicate n 0#32) (0)  (⟨Nat.zero_le _,NN (Zs n) fun a b _ _=>rfl⟩) ⟨⟨_,rfl,Pr.le_refl _⟩,trivial⟩ (fun _ _ h=>h) ?_
 rintro B m  ⟨hm0,hB⟩
 refine Tr.seq ?_
 refine Tr.Aj ?_
 refine Ch.op rfl rfl AB (ok_int rfl (vl rfl) (vl rfl) rfl) ?_
 refine Ch.nil ?_
 refine Fin.go ?_
 refine Tr.seq ?_
 refine Tr.cond rfl (fun h1=> ?_) (fun h1=> ?_)
 ·
  have q1:=DU.D7 h1
  have hm:m<l.length:=AH h1
  obtain ⟨r,hr⟩:=at_ hm
  obtain ⟨hf,ht,_⟩:=zC (hbd r (List.mem_of_getElem? hr))
  have hBl:=hB.1
  obtain ⟨x,hx⟩:=at_ (l:=B) (k:=r.thn.toNat) AA
  refine Tr.skip ?_
  refine Fin.go ?_
  refine Tr.seq ?_
  refine Tr.block ?_
  refine Tr.seq ?_
  refine Tr.Ao ?_
  refine TO.op rfl rfl AB (AD rfl Tryz.underlying33 Cr (vl rfl) (vl rfl) AA (Aa hr)) ?_
  refine TO.op rfl rfl AB (AP rfl Fh Cr (vl rfl) rfl rfl) ?_
  refine TO.alloc rfl rfl AB rfl Sc RE (fun b5=> ?_)
  refine TO.AK 0 rfl rfl rfl (vl rfl) (VL.le (vl rfl) (Ad _)) rfl Cr rfl rfl ?_
  refine TO.freeze 0 7 rfl rfl ?_
  refine TO.nil ?_
  refine Fin.go ?_
  refine Tr.GV mixed [some (0,3,false,0),none,none,some (0,2,false,0),none,none,none,some (0,0,false,0),none,none,none,none,none,some (0,0,true,0)] BV ?_
  refine Cx.rd 3 rfl rfl rfl AB (BB rfl J1 (vl rfl) rfl) ?_
  refine Cx.op rfl rfl AB (fun _=>EF rfl (vl rfl)) ?_
  refine Cx.op rfl rfl AB (fun _=>AW rfl It (vl rfl)) ?_
  refine Cx.rd 2 rfl rfl rfl AB (BB rfl J3 (vl rfl) rfl) ?_
  refine Cx.op rfl rfl AB (fun _=>Fc rfl Y6 (vl rfl) rfl) ?_
  refine Cx.op rfl rfl AB (fun _=>Em rfl Cq (vl rfl)) ?_
  refine Cx.op rfl rfl AB (fun _=>BH rfl Tryz.underlying232 Fu (vl rfl) (vl rfl) AA AA) ?_
  refine Cx.rd 0 rfl rfl rfl AB (BB rfl F9 (vl rfl) (K8 hx)) ?_
  refine Cx.op rfl rfl AB (fun _=>Fc rfl Y5 (vl rfl) rfl) ?_
  refine Cx.op rfl rfl AB (fun _=>Em rfl Cq (vl rfl)) ?_
  refine Cx.op rfl rfl AB (fun _=>KQ (b:=1#32) rfl (vl rfl) (vl rfl) AA) ?_
  refine Cx.op rfl rfl AB (fun _=>NM rfl (vl rfl) (vl rfl)) ?_
  refine Cx.op rfl rfl AB (fun _=>BH rfl Tryz.underlying232 Fu (vl rfl) (vl rfl) AA AA) ?_
  refine Cx.DY 0 rfl rfl (Ay rfl rfl (vl rfl) (VL.le (vl rfl) (Af _)) Fu rfl Df (SB hx)) ?_
  refine Cx.nil ⟨rfl,?_⟩
  refine BJ.done (Aw.cons (Aw.cons (Aw.cons (Aw.cons (Aw.cons (Aw.cons (Aw.map _))))))) ?_
  refine Fin.block ?_
  refine Fin.go ?_
  refine Tr.weak [(0,_),(5,_),(19,_),(20,_),(21,_)] ⟨⟨_,rfl,Pr.le_refl _⟩,⟨_,rfl,Pr.le_refl _⟩,⟨_,rfl,Pr.le_refl _⟩,⟨_,rfl,Pr.le_refl _⟩,⟨_,rfl,Pr.le_refl _⟩,trivial⟩ ?_
  refine Tr.Aj ?_
  first
   |(refine Ch.op rfl rfl AB (E0 rfl (vl rfl) (vl rfl) ?hin) ?_;case hin=>unfold Oc;omega)
   |refine Ch.op rfl rfl AB (ok_int rfl (vl rfl) (vl rfl) rfl) ?_
  refine Ch.op rfl rfl AB (BX rfl (vl rfl)) ?_
  refine Ch.nil ?_
  exact Fin.Cm (B.set r.thn.toNat (Zo x r.fst.toNat)) (m+1)  (⟨⟨hm,Zz hB hr hf ht.1 hx AA⟩,by omega⟩) ⟨⟨_,rfl,AG m⟩,⟨_,rfl,Pr.le_refl _⟩,⟨_,rfl,Pr.le_refl _⟩,⟨_,rfl,Pr.le_refl _⟩,⟨_,rfl,Pr.le_refl _⟩,trivial⟩ (fun _ _ h=>h)
 ·
  have q1:=DU.D7 h1
  have hml:m=l.length:=by have:=AJ h1;omega
  rw [hml,List.take_length] at hB
  refine Tr.exit ?_
  refine Fin.AY ?_
  refine Fin.AY ?_
  refine Fin.Au ?_
  refine Fin.go ?_
  refine Tr.seq ?_
  refine Tr.seq ?_
  refine Tr.Aj ?_
  refine Ch.op rfl rfl AB (BX rfl (vl rfl)) ?_
  refine Ch.op rfl rfl AB (BX rfl (vl rfl)) ?_
  refine Ch.nil ?_
  refine Fin.go ?_
  refine Tr.block ?_
  refine Tr.Co [(0,_),(5,_),(39,_)] ⟨⟨_,rfl,Pr.le_refl _⟩,⟨_,rfl,Pr.le_refl _⟩,⟨_,rfl,Pr.le_refl _⟩,trivial⟩ (fun (B2:List (BitVec 32)) (k:Nat)=>[(40,int ((k:Nat):Int))]) (fun (B2:List (BitVec 32)) (k:Nat)=>Hp M0 w0 S (AE true b1 Sf (B2.map fun x=>u32 x)::AE true b2 Sf ((List.replicate n 0#32).map fun x=>u32 x)::AE true b3 234 [int ((n:Nat):Int),is (JY n b1),is (JY n b2)]::AE true b4 176 [ptr b3 0]::Da::Ak M1 w1::rs)) (fun (B2:List (BitVec 32)) (k:Nat)=>k≤n∧Ew n B2 (C9 l k)) (fun (B2:List (BitVec 32)) (k:Nat)=>n-k) (B) (0)  (⟨Nat.zero_le _,hB⟩) ⟨⟨_,rfl,Pr.le_refl _⟩,trivial⟩ (fun _ _ h=>h) ?_
  rintro B2 k  ⟨hk0,hB2⟩
  refine Tr.seq ?_
  refine Tr.Aj ?_
  refine Ch.op rfl rfl AB (ok_int rfl (vl rfl) (vl rfl) rfl) ?_
  refine Ch.nil ?_
  refine Fin.go ?_
  refine Tr.seq ?_
  refine Tr.cond rfl (fun h2=> ?_) (fun h2=> ?_)
  ·
   have q2:=DU.D7 h2
   have hk:k<n:=AH h2
   refine Tr.skip ?_
   refine Fin.go ?_
   refine Tr.seq ?_
   refine Tr.block ?_
   refine Tr.seq ?_
   refine Tr.Aj ?_
   refine Ch.op rfl rfl AB (BX rfl (vl rfl)) ?_
   refine Ch.op rfl rfl AB (Di rfl (vl rfl)) ?_
   refine Ch.nil ?_
   refine Fin.go ?_
   refine Tr.seq ?_
   refine Tr.Aj ?_
   refine Ch.op rfl rfl AB (BX rfl (vl rfl)) ?_
   refine Ch.op rfl rfl AB (BX rfl (vl rfl)) ?_
   refine Ch.nil ?_
   refine Fin.go ?_
   refine Tr.block ?_
   refine Tr.Co [(0,_),(5,_),(8,_),(39,_),(40,_),(43,_)] ⟨⟨_,rfl,Pr.le_refl _⟩,⟨_,rfl,Pr.le_refl _⟩,⟨_,rfl,Pr.le_refl _⟩,⟨_,rfl,Pr.le_refl _⟩,⟨_,rfl,Pr.le_refl _⟩,⟨_,rfl,Pr.le_refl _⟩,trivial⟩ (fun (B3:List (BitVec 32)) (i:Nat)=>[(44,int ((i:Nat):Int))]) (fun (B3:List (BitVec 32)) (i:Nat)=>Hp M0 w0 S (AE true b1 Sf (B3.map fun x=>u32 x)::AE true b2 Sf ((List.replicate n 0#32).map fun x=>u32 x)::AE true b3 234 [int ((n:Nat):Int),is (JY n b1),is (JY n b2)]::AE true b4 176 [ptr b3 0]::Da::Ak M1 w1::rs)) (fun (B3:List (BitVec 32)) (i:Nat)=>i≤n∧Ew n B3 (LM k (C9 l k) i)) (fun (B3:List (BitVec 32)) (i:Nat)=>n-i) (B2) (0)  (⟨Nat.zero_le _,by rw [yp];exact hB2⟩) ⟨⟨_,rfl,Pr.le_refl _⟩,trivial⟩ (fun _ _ h=>h) ?_
   rintro B3 i  ⟨hi0,hB3⟩
   refine Tr.seq ?_
   refine Tr.Aj ?_
   refine Ch.op rfl rfl AB (ok_int rfl (vl rfl) (vl rfl) rfl) ?_
   refine Ch.nil ?_
   refine Fin.go ?_
   refine Tr.seq ?_
   refine Tr.cond rfl (fun h3=> ?_) (fun h3=> ?_)
   ·
    have q3:=DU.D7 h3
    have hi:i<n:=AH h3
    have hBl:=hB3.1
    obtain ⟨x,hx⟩:=at_ (l:=B3) (k:=i) AA
    obtain ⟨y,hy⟩:=at_ (l:=B3) (k:=k) AA
    refine Tr.skip ?_
    refine Fin.go ?_
    refine Tr.seq ?_
    refine Tr.block ?_
    refine Tr.seq ?_
    refine Tr.Aj ?_
    refine Ch.op rfl rfl AB (BX rfl (vl rfl)) ?_
    refine Ch.op rfl rfl AB (Di rfl (vl rfl)) ?_
    refine Ch.nil ?_
    refine Fin.go ?_
    refine Tr.seq ?_
    refine Tr.Aj ?_
    refine Ch.op rfl rfl AB (Ck 3 rfl (BB rfl J1 (vl rfl) rfl)) ?_
    refine Ch.op rfl rfl AB (EF rfl (vl rfl)) ?_
    refine Ch.op rfl rfl AB (AW rfl It (vl rfl)) ?_
    refine Ch.op rfl rfl AB (Ck 2 rfl (BB rfl J3 (vl rfl) rfl)) ?_
    refine Ch.op rfl rfl AB (BX rfl (vl rfl)) ?_
    refine Ch.op rfl rfl AB (BH rfl Tryz.underlying232 Fu (vl rfl) (vl rfl) AA AA) ?_
    refine Ch.op rfl rfl AB (Ck 0 rfl (BB rfl F9 (vl rfl) (K8 hx))) ?_
    refine Ch.op rfl rfl AB (BX rfl (vl rfl)) ?_
    refine Ch.op rfl rfl AB (AR rfl (Vl) ⟨⟨_,rfl,Pr.le_refl _⟩,⟨_,rfl,Pr.le_refl _⟩,trivial⟩) ?_
    refine Ch.nil ?_
    refine Fin.go ?_
    refine Tr.weak [(0,_),(5,_),(8,_),(9,_),(39,_),(40,_),(43,_),(44,_),(55,_)] ⟨⟨_,rfl,Pr.le_refl _⟩,⟨_,rfl,Pr.le_refl _⟩,⟨_,rfl,Pr.le_refl _⟩,⟨_,rfl,Pr.le_refl _⟩,⟨_,rfl,Pr.le_refl _⟩,⟨_,rfl,Pr.le_refl _⟩,⟨_,rfl,Pr.le_refl _⟩,⟨_,rfl,Pr.le_refl _⟩,⟨_,rfl,Pr.le_refl _⟩,trivial⟩ ?_
    refine Tr.cond rfl (fun h4=> ?_) (fun h4=> ?_)
    ·
     have q4:=DU.D7 h4
     refine Tr.GV mixed [some (0,3,false,0),none,none,some (0,2,false,0),none,none,some (0,0,false,0),some (0,3,false,0),none,none,some (0,2,false,0),none,none,some (0,0,false,0),none,none,some (0,0,true,0)] BV ?_
     refine Cx.rd 3 rfl rfl rfl AB (BB rfl J1 (vl rfl) rfl) ?_
     refine Cx.op rfl rfl AB (fun _=>EF rfl (vl rfl)) ?_
     refine Cx.op rfl rfl AB (fun _=>AW rfl It (vl rfl)) ?_
     refine Cx.rd 2 rfl rfl rfl AB (BB rfl J3 (vl rfl) rfl) ?_
     refine Cx.op rfl rfl AB (fun _=>BX rfl (vl rfl)) ?_
     refine Cx.op rfl rfl AB (fun _=>BH rfl Tryz.underlying232 Fu (vl rfl) (vl rfl) AA AA) ?_
     refine Cx.rd 0 rfl rfl rfl AB (BB rfl F9 (vl rfl) (K8 hx)) ?_
     refine Cx.rd 3 rfl rfl rfl AB (BB rfl J1 (vl rfl) rfl) ?_
     refine Cx.op rfl rfl AB (fun _=>EF rfl (vl rfl)) ?_
     refine Cx.op rfl rfl AB (fun _=>AW rfl It (vl rfl)) ?_
     refine Cx.rd 2 rfl rfl rfl AB (BB rfl J3 (vl rfl) rfl) ?_
     refine Cx.op rfl rfl AB (fun _=>BX rfl (vl rfl)) ?_
     refine Cx.op rfl rfl AB (fun _=>BH rfl Tryz.underlying232 Fu (vl rfl) (vl rfl) AA AA) ?_
     refine Cx.rd 0 rfl rfl rfl AB (BB rfl F9 (vl rfl) (K8 hy)) ?_
     refine Cx.op rfl rfl AB (fun _=>NM rfl (vl rfl) (vl rfl)) ?_
     refine Cx.op rfl rfl AB (fun _=>BH rfl Tryz.underlying232 Fu (vl rfl) (vl rfl) AA AA) ?_
     refine Cx.DY 0 rfl rfl (Ay rfl rfl (vl rfl) (VL.le (vl rfl) (Af _)) Fu rfl Df (SB hx)) ?_
     refine Cx.nil ⟨rfl,?_⟩
     refine BJ.done (Aw.cons (Aw.cons (Aw.cons (Aw.cons (Aw.cons (Aw.cons (Aw.map _))))))) ?_
     refine Fin.block ?_
     refine Fin.go ?_
     refine Tr.weak [(0,_),(5,_),(8,_),(39,_),(40,_),(43,_),(44,_)] ⟨⟨_,rfl,Pr.le_refl _⟩,⟨_,rfl,Pr.le_refl _⟩,⟨_,rfl,Pr.le_refl _⟩,⟨_,rfl,Pr.le_refl _⟩,⟨_,rfl,Pr.le_refl _⟩,⟨_,rfl,Pr.le_refl _⟩,⟨_,rfl,Pr.le_refl _⟩,trivial⟩ ?_
     refine Tr.Aj ?_
     first
      |(refine Ch.op rfl rfl AB (E0 rfl (vl rfl) (vl rfl) ?hin) ?_;case hin=>unfold Oc;omega)
      |refine Ch.op rfl rfl AB (ok_int rfl (vl rfl) (vl rfl) rfl) ?_
     refine Ch.op rfl rfl AB (BX rfl (vl rfl)) ?_
     refine Ch.nil ?_
     exact Fin.Cm (B3.set i (x|||y)) (i+1)  (⟨⟨hi,oQ hB3 hx hy (by rw [←Xb hB3 hx hk];exact h4)⟩,by omega⟩) ⟨⟨_,rfl,AG i⟩,⟨_,rfl,Pr.le_refl _⟩,⟨_,rfl,Pr.le_refl _⟩,⟨_,rfl,Pr.le_refl _⟩,⟨_,rfl,Pr.le_refl _⟩,⟨_,rfl,Pr.le_refl _⟩,⟨_,rfl,Pr.le_refl _⟩,trivial⟩ (fun _ _ h=>h)
    ·
     have q4:=DU.D7 h4
     refine Tr.skip ?_
     refine Fin.block ?_
     refine Fin.go ?_
     refine Tr.Aj ?_
     first
      |(refine Ch.op rfl rfl AB (E0 rfl (vl rfl) (vl rfl) ?hin) ?_;case hin=>unfold Oc;omega)
      |refine Ch.op rfl rfl AB (ok_int rfl (vl rfl) (vl rfl) rfl) ?_
     refine Ch.op rfl rfl AB (BX rfl (vl rfl)) ?_
     refine Ch.nil ?_
     exact Fin.Cm (B3) (i+1)  (⟨⟨hi,uX hB3 (by rw [←Xb hB3 hx hk];exact h4)⟩,by omega⟩) ⟨⟨_,rfl,AG i⟩,⟨_,rfl,Pr.le_refl _⟩,⟨_,rfl,Pr.le_refl _⟩,⟨_,rfl,Pr.le_refl _⟩,⟨_,rfl,Pr.le_refl _⟩,⟨_,rfl,Pr.le_refl _⟩,⟨_,rfl,Pr.le_refl _⟩,trivial⟩ (fun _ _ h=>h)
   ·
    have q3:=DU.D7 h3
    have hin:i=n:=by have:=AJ h3;omega
    rw [hin] at hB3
    refine Tr.exit ?_
    refine Fin.AY ?_
    refine Fin.AY ?_
    refine Fin.Au ?_
    refine Fin.block ?_
    refine Fin.go ?_
    refine Tr.Aj ?_
    first
     |(refine Ch.op rfl rfl AB (E0 rfl (vl rfl) (vl rfl) ?hin) ?_;case hin=>unfold Oc;omega)
     |refine Ch.op rfl rfl AB (ok_int rfl (vl rfl) (vl rfl) rfl) ?_
    refine Ch.op rfl rfl AB (BX rfl (vl rfl)) ?_
    refine Ch.nil ?_
    exact Fin.Cm (B3) (k+1)  (⟨⟨hk,NN hB3 fun a b _ hb=>oJ hb⟩,by omega⟩) ⟨⟨_,rfl,AG k⟩,⟨_,rfl,Pr.le_refl _⟩,⟨_,rfl,Pr.le_refl _⟩,⟨_,rfl,Pr.le_refl _⟩,trivial⟩ (fun _ _ h=>h)
  ·
   have q2:=DU.D7 h2
   have hkn:k=n:=by have:=AJ h2;omega
   rw [hkn] at hB2
   obtain rfl:=Zy hB2 (Gs AA)
   refine Tr.exit ?_
   refine Fin.AY ?_
   refine Fin.AY ?_
   refine Fin.Au ?_
   refine Fin.go ?_
   refine Tr.seq ?_
   refine Tr.seq ?_
   refine Tr.Aj ?_
   refine Ch.op rfl rfl AB (BX rfl (vl rfl)) ?_
   refine Ch.op rfl rfl AB (BX rfl (vl rfl)) ?_
   refine Ch.nil ?_
   refine Fin.go ?_
   refine Tr.block ?_
   refine Tr.y8 [(5,_),(74,_)] ⟨⟨_,rfl,Pr.le_refl _⟩,⟨_,rfl,Pr.le_refl _⟩,trivial⟩ (fun Ds i=>⟨_,Ds.map Cp.mark⟩) (fun Ds i=>[(75,int ((i:Nat):Int))]) (fun Ds i=>Hp M0 w0 S (AE true b1 Sf ((Ex n l).map fun x=>u32 x)::AE true b2 Sf ((LN (Ex n l) i).map fun x=>u32 x)::AE true b3 234 [int ((n:Nat):Int),is (JY n b1),is (JY n b2)]::AE true b4 176 [ptr b3 0]::Da::(Ds.map Xc++Ak M1 w1::rs))) (fun Ds i=>i≤(n)) (fun Ds i=>(n)-i) [] 0 rfl (Nat.zero_le _) ⟨⟨_,rfl,Pr.le_refl _⟩,trivial⟩ ((by rw [LN,C0];exact fun _ _ h=>h)) ?_
   rintro Ds i XH
   refine Tr.seq ?_
   refine Tr.Aj ?_
   refine Ch.op rfl rfl B9 (ok_int rfl (vl rfl) (vl rfl) rfl) ?_
   refine Ch.nil ?_
   refine Fin.go ?_
   refine Tr.seq ?_
   refine Tr.cond rfl (fun h5=> ?_) (fun h5=> ?_)
   ·
    have q5:=DU.D7 h5
    have Jc:i<(n):=AH h5
    obtain ⟨x,hx⟩:=at_ (l:=Ex n l) (k:=i) (by rw [C0];omega)
    refine Tr.skip ?_
    refine Fin.go ?_
    refine Tr.seq ?_
    refine Tr.block ?_
    refine Tr.seq ?_
    refine Tr.Ao ?_
    refine TO.op rfl rfl B9 (BX rfl (vl rfl)) ?_
    refine TO.alloc rfl rfl B9 rfl z3 zo3 (fun b6=> ?_)
    refine TO.AK 0 rfl rfl rfl (vl rfl) (VL.le (vl rfl) (Af _)) rfl Bw rfl rfl ?_
    refine TO.freeze 0 10 rfl rfl ?_
    refine TO.nil ?_
    refine Fin.go ?_
    refine Tr.seq ?_
    refine Tr.pad ?_
    refine Tr.GV mixed [some (0,4,false,0),none,none,some (0,3,false,0),none,none,some (0,1,false,0),some (0,0,true,85)] BV ?_
    refine Cx.rd 4 rfl rfl rfl B9 (BB rfl J1 (vl rfl) rfl) ?_
    refine Cx.op rfl rfl B9 (fun _=>EF rfl (vl rfl)) ?_
    refine Cx.op rfl rfl B9 (fun _=>AW rfl It (vl rfl)) ?_
    refine Cx.rd 3 rfl rfl rfl B9 (BB rfl J3 (vl rfl) rfl) ?_
    refine Cx.op rfl rfl B9 (fun _=>Em rfl Cq (vl rfl)) ?_
    refine Cx.op rfl rfl B9 (fun _=>BH rfl Tryz.underlying232 Fu (vl rfl) (vl rfl) AA AA) ?_
    refine Cx.rd 1 rfl rfl rfl B9 (BB rfl F9 (vl rfl) (K8 hx)) ?_
    refine Cx.ef 0 rfl rfl B9 (Gm rfl rfl B9 rfl (om) ⟨⟨_,rfl,Pr.le_refl _⟩,trivial⟩) ?_
    refine Cx.nil ⟨rfl,?_⟩
    refine BJ.open_ 0 85 rfl rfl (fun v1=> ?_)
    refine BJ.done (Aw.cons (Aw.cons (Aw.cons (Aw.cons (Aw.cons (Aw.cons (Aw.map _))))))) ?_
    refine Fin.shape 85 (fun b=>oh b) rfl (fun fb7 fe7=> ?_)
    subst fe7
    refine Fin.Hh 0 (AE true fb7 Sf [_]) rfl rfl ?_
    refine Fin.go ?_
    refine Tr.weak [(5,_),(10,_),(74,_),(75,_),(85,_)] ⟨⟨_,rfl,Pr.le_refl _⟩,⟨_,rfl,Pr.le_refl _⟩,⟨_,rfl,Pr.le_refl _⟩,⟨_,rfl,Pr.le_refl _⟩,⟨_,rfl,Pr.le_refl _⟩,trivial⟩ ?_
    refine Tr.block ?_
    refine Tr.y7 11 [(5,_),(10,_)] ⟨⟨_,rfl,Pr.le_refl _⟩,⟨_,rfl,Pr.le_refl _⟩,trivial⟩ (fun pre=>AE true b1 Sf ((Ex n l).map fun x=>u32 x)::AE true b2 Sf ((pre.foldl (JS i) (LN (Ex n l) i)).map fun x=>u32 x)::AE true b3 234 [int ((n:Nat):Int),is (JY n b1),is (JY n b2)]::AE true b4 176 [ptr b3 0]::(Ds.map Xc++Ak M1 w1::rs)) (Vm (s:=x)) Vn (vl rfl) ((DT (j:=5) rfl).trans (List.Perm.cons _ ((DT (j:=0) rfl).trans (List.Perm.cons _ (List.Perm.refl _))))) rfl B9 ?_ ?_ ?_
    ·
     rintro lk Dk rk Mr wr pre y0 hpre
     refine Tr.Aj ?_
     refine Ch.op rfl rfl B9 (Di rfl (vl rfl)) ?_
     refine Ch.nil ?_
     exact Fin.st ⟨⟨_,rfl,Pr.le_refl _⟩,⟨_,rfl,Pr.le_refl _⟩,⟨_,rfl,Pr.le_refl _⟩,trivial⟩
    ·
     rintro lk Dk rk Mr wr pre y0 hpre
     have hlt:y0<n:=by
      have h_:=K7.1 (ow hpre)
      rw [(Gs AA).2 i x hx,Bool.and_eq_true,decide_eq_true_eq] at h_
      exact h_.1
     have hal:(pre.foldl (JS i) (LN (Ex n l) i)).length=n:=by rw [ON,IV,C0]
     obtain ⟨y,hy⟩:=at_ (l:=pre.foldl (JS i) (LN (Ex n l) i)) (k:=y0) AA
     refine Tr.block ?_
     refine Tr.GV mixed [some (0,8,false,0),none,none,some (0,7,false,0),none,none,some (0,6,false,0),none,none,none,none,some (0,6,true,0)] BV ?_
     refine Cx.rd 8 rfl rfl rfl B9 (BB rfl J1 (vl rfl) rfl) ?_
     refine Cx.op rfl rfl B9 (fun _=>EF rfl (vl rfl)) ?_
     refine Cx.op rfl rfl B9 (fun _=>AW rfl sJ (vl rfl)) ?_
     refine Cx.rd 7 rfl rfl rfl B9 (BB rfl J3 (vl rfl) rfl) ?_
     refine Cx.op rfl rfl B9 (fun _=>BX rfl (vl rfl)) ?_
     refine Cx.op rfl rfl B9 (fun _=>BH rfl Tryz.underlying232 Fu (vl rfl) (vl rfl) AA AA) ?_
     refine Cx.rd 6 rfl rfl rfl B9 (BB rfl F9 (vl rfl) (K8 hy)) ?_
     refine Cx.op rfl rfl B9 (fun _=>Em rfl Cq (vl rfl)) ?_
     refine Cx.op rfl rfl B9 (fun _=>KQ (b:=1#32) rfl (vl rfl) (vl rfl) (Int.natCast_nonneg _)) ?_
     refine Cx.op rfl rfl B9 (fun _=>NM rfl (vl rfl) (vl rfl)) ?_
     refine Cx.op rfl rfl B9 (fun _=>BH rfl Tryz.underlying232 Fu (vl rfl) (vl rfl) AA AA) ?_
     refine Cx.DY 6 rfl rfl (Ay rfl rfl (vl rfl) (VL.le (vl rfl) (Af _)) Fu rfl Df ((SB hy).trans (congrArg (fun B:List (BitVec 32)=>B.map fun x=>u32 x) (gp hy)))) ?_
     refine Cx.nil ⟨rfl,?_⟩
     refine BJ.done (Aw.cons (Aw.cons (Aw.cons (Aw.cons (Aw.cons (Aw.cons (Aw.cons (Aw.cons (Aw.cons (Aw.map _)))))))))) ?_
     refine Fin.block ?_
     exact Fin.rnd () (List.Perm.refl _)
    ·
     rintro lk Dk rk Mr wr
     refine Fin.drop 1 ?_
     refine Fin.drop 1 ?_
     refine Fin.drop 2 ?_
     refine Fin.NP (List.Perm.cons _ ((List.perm_middle (l₁:=[_,_,_,_])).symm)) ?_
     refine Fin.NP (List.perm_middle (l₁:=[_,_,_,_])).symm ?_
     refine Fin.block ?_
     refine Fin.block ?_
     refine Fin.go ?_
     refine Tr.Aj ?_
     first
      |(refine Ch.op rfl rfl B9 (E0 rfl (vl rfl) (vl rfl) ?hin) ?_;case hin=>unfold Oc;omega)
      |refine Ch.op rfl rfl B9 (ok_int rfl (vl rfl) (vl rfl) rfl) ?_
     refine Ch.op rfl rfl B9 (BX rfl (vl rfl)) ?_
     refine Ch.nil ?_
     exact Fin.ADQ (_::_) (i+1) rfl (⟨Jc,by omega⟩) ⟨⟨_,rfl,AG i⟩,⟨_,rfl,Pr.le_refl _⟩,⟨_,rfl,Pr.le_refl _⟩,trivial⟩ ((by rw [gm hx];exact fun _ _ h=>h))
   ·
    have q5:=DU.D7 h5
    have PW:i=(n):=by have:=AJ h5;omega
    have zE:=PW.symm
    subst zE
    refine Tr.exit ?_
    refine Fin.AY ?_
    refine Fin.AY ?_
    refine Fin.Au ?_
    refine Fin.go ?_
    refine Tr.seq ?_
    refine Tr.eqC 0 (((Ex n l).map fun x=>[u32 x]).flatten++([]:List Value).map is) rfl (T0 _) ?_
    refine Tr.sY (cap:=n) (sz:=1) ((Ex n l).map fun x=>[u32 x]) 0 2 1 rfl rfl AB rfl (Pr.le_of_eq (by rw [List.length_map,C0 n l])) (BP fun _=>rfl) (by rw [List.length_map,C0 n l];exact Nat.le_refl _) Fz (by simp [IV,C0]) rfl ?_
    refine Tr.eqC 1 (((LN (Ex n l) n).map fun x=>[u32 x]).flatten++([]:List Value).map is) rfl (T0 _) ?_
    refine Tr.sY (cap:=n) (sz:=1) ((LN (Ex n l) n).map fun x=>[u32 x]) 1 2 2 rfl rfl AB rfl (Pr.le_of_eq (by rw [List.length_map,(IV _ _).trans (C0 n l)])) (BP fun _=>rfl) (by rw [List.length_map,(IV _ _).trans (C0 n l)];exact Nat.le_refl _) Fz (by simp [IV,C0]) rfl ?_
    refine Tr.Aj ?_
    refine Ch.op rfl rfl B9 (Ck 3 rfl (BB rfl J1 (vl rfl) rfl)) ?_
    refine Ch.op rfl rfl B9 (Di rfl (vl rfl)) ?_
    refine Ch.nil ?_
    refine Fin.go ?_
    refine Tr.ret ?_
    refine Fin.freeze 2 4 rfl rfl ?_
    refine Fin.drop 0 ?_
    refine Fin.drop 0 ?_
    refine Fin.drop 0 ?_
    refine Fin.NP List.perm_middle.symm ?_
    refine Fin.dc ?_
    refine Fin.Eo rfl rfl ?_ (fun _ _ _ _=>rfl)
    · exact zD ⟨Pr.le_refl _,As _ _,As _ _,trivial⟩
def Z1 (n:Int) (l:List BI):Pr:=if BG n l=0 then ref [int n,bits (Ex n.toNat l),bits (LN (Ex n.toNat l) n.toNat)] else is (.pointer none)
instance ADT (n:Int) (l:List BI):One (Z1 n l):=by
 unfold Z1;split
 · exact bl _
 · exact bk _
theorem Js {n:Int} {l:List BI} {e:Int} (h:BG n l=e) (he:e≠0):Pr.le (is (.pointer none)) (Z1 n l):=by
 unfold Z1;rw [if_neg Kr];exact Pr.le_refl _
theorem Vq {n:Int} {l:List BI} (h:BG n l=0):Z1 n l=ref [int n,bits (Ex n.toNat l),bits (LN (Ex n.toNat l) n.toNat)]:=by
 unfold Z1;rw [if_pos h]
theorem K9 {n:Int} {l:List BI} (h:n<0∨24<n):BG n l=2:=by unfold BG;rw [if_pos h]
theorem Ql {n:Int} {l:List BI} {k:Nat} {r:BI} (h:0≤n∧n≤24) (hr:l[k]? =some r) (hb:FP n r=true):BG n l=44:=by
 unfold BG;rw [if_neg AA,if_pos (List.any_eq_true.2 ⟨r,List.mem_of_getElem? hr,hb⟩)]
theorem dm {n:Int} {l:List BI} (h:∀j y,j<l.length→l[j]? =some y→FP n y=false):∀r∈l,FP n r=false:=fun r hr=>by
 obtain ⟨j,hj⟩:=List.mem_iff_getElem?.1 hr
 exact h j r Yh hj
theorem Z2 {n:Int} {l:List BI} (h:∀r∈l,FP n r=false):¬l.any (FP n)=true:=by
 rw [Bool.not_eq_true,List.any_eq_false];exact fun r hr=>by rw [h r hr];decide
theorem Vr {n:Int} {l:List BI} {k:Nat} {a b:BI} (h:0≤n∧n≤24) (hb:∀r∈l,FP n r=false) (hk:0<k) (ha:l[k-1]? =some a) (hx:l[k]? =some b) (hl:Ev a b=false):BG n l=6:=by
 unfold BG;rw [if_neg AA,if_neg (Z2 hb),if_pos]
 cases hs:D5 l with
 |false=>rfl
 |true=>
  have:=MF.1 hs (k-1) a b ha (by rw [Nat.sub_add_cancel hk];exact hx)
  rw [hl] at this;cases this
theorem SD {n:Nat} {l:List BI} {i:Nat} (h:n≤24) (hb:∀r∈l,FP n r=false) (hs:D5 l=true) (hi:i<n) (hw:C9 l n i i=true):BG n l=45:=by
 unfold BG;rw [if_neg AA,if_neg (Z2 hb),if_neg Px,if_pos (show ADI (n:Int).toNat l=true from List.any_eq_true.2 ⟨i,List.mem_range.2 AA,hw⟩)]
theorem Vs {n:Nat} {l:List BI} (h:n≤24) (hb:∀r∈l,FP n r=false) (hs:D5 l=true) (hw:∀i,i<n→C9 l n i i=false):BG n l=0:=by
 unfold BG;rw [if_neg AA,if_neg (Z2 hb),if_neg Px,if_neg]
 intro hc
 obtain ⟨i,hi,h2⟩:=List.any_eq_true.1 hc
 have:=hw i (by simpa using hi)
 rw [show ((n:Int)).toNat=n from rfl] at h2
 rw [this] at h2;cases h2
theorem SE {l:List BI} (h:∀(j:Nat) a b,j+1<l.length→l[j]? =some a→l[j+1]? =some b→Ev a b=true):D5 l=true:=MF.2 fun j a b ha hb=>h j a b (by rcases Nat.lt_or_ge (j+1) l.length with h2|h2;exact h2;rw [List.getElem?_eq_none h2] at hb;cases hb) ha hb
theorem KT {l:List BI} {k:Nat} {x:BI} (hx:l[k]? =some x) (hp:∀y,0<k→l[k-1]? =some y→Ev y x=true) (h:∀(j:Nat) a b,j+1<k→l[j]? =some a→l[j+1]? =some b→Ev a b=true):∀(j:Nat) a b,j+1<k+1→l[j]? =some a→l[j+1]? =some b→Ev a b=true:=by
 intro j a b hj ha hb
 by_cases hjk:j+1=k
 · exact US
 · exact h j a b AA ha hb
theorem dw {n:Int} {l:List BI}  :Ba prog 136 [int n,reqs l] (D6 [Z1 n l,int (BG n l)]) (Da) (fun _=>Da):=by
 refine Ba.of func136 rfl rfl BA fun M0 w0 S rs M1 w1=> ?_
 refine Tr.Cf 1 rfl fun Fl=> ?_
 refine ac ?_
 refine ag ?_ ?_<;>intro h1 q1
 refine a2 ?_
 refine Tr.ret (Fin.AF (Fin.FK rfl rfl ?_ rfl ?_))
 · exact Js (K9 AA) AB
 · refine int_eq ?_;exact (K9 AA).symm
 refine an ?_ ?_<;>intro h2 q2
 refine ac ?_
 refine Tr.ret (Fin.AF (Fin.FK rfl rfl ?_ rfl ?_))
 · exact Js (K9 AA) AB
 · refine int_eq ?_;exact (K9 AA).symm
 have Np:0≤n∧n≤24:=by omega
 obtain ⟨m,hm⟩:∃m:Nat,n=(m:Int):=⟨n.toNat,by omega⟩
 refine a2 ?_
 refine Tr.block (Tr.BD _ (kk [19,18,1,0] rfl) (fun k:Nat=>[(20,int ((k:Nat):Int))]) (fun k:Nat=>k≤(l).length∧(∀j y,j<k→l[j]? =some y→FP n y=false)) (fun k:Nat=>(l).length-k) 0 (⟨Nat.zero_le _,fun j y hj=>absurd hj AA⟩) kz ?_)
 rintro k ⟨BR,AX⟩
 refine ac ?_
 refine Tr.seq ?_
 refine Tr.cn rfl ?_ ?_<;>intro h3 q3
 have Ai:k<(l).length:=AH h3
 obtain ⟨x,Ah⟩:=at_ Ai
 refine ac ?_
 refine Tr.seq (Tr.block (Tr.seq (Tr.Ao (tp rfl (AD rfl underlying33 Cr vq vq AA (Aa Ah)) (tp rfl (AP rfl Fh Cr vq rfl rfl) ?_)))))
 refine Tl rfl rfl rfl rfl Sc RE (fun b1=> ?_)
 refine sf 0 7 ⟨rfl,rfl,rfl⟩ rfl rfl rfl rfl ?_
 refine ao ?_
 refine ag ?_ ?_<;>intro h4 q4
 refine ac ?_
 refine wk [50,20,19,18,1,0] rfl ?_
 refine ac ?_
 refine Tr.ret (Fin.AU (Fin.AF (Fin.AF (Fin.AU (Fin.AF (Fin.FK rfl rfl ?_ rfl ?_))))))
 · exact Qm
 · exact Qk
 refine ag ?_ ?_<;>intro h5 q5
 refine ac ?_
 refine wk [50,20,19,18,1,0] rfl ?_
 refine ac ?_
 refine Tr.ret (Fin.AU (Fin.AF (Fin.AF (Fin.AU (Fin.AF (Fin.FK rfl rfl ?_ rfl ?_))))))
 · exact Qm
 · exact Qk
 refine ag ?_ ?_<;>intro h6 q6
 refine ac ?_
 refine wk [50,20,19,18,1,0] rfl ?_
 refine ac ?_
 refine Tr.ret (Fin.AU (Fin.AF (Fin.AF (Fin.AU (Fin.AF (Fin.FK rfl rfl ?_ rfl ?_))))))
 · exact Qm
 · exact Qk
 refine ag ?_ ?_<;>intro h7 q7
 refine ac ?_
 refine wk [50,20,19,18,1,0] rfl ?_
 refine ac ?_
 refine Tr.ret (Fin.AU (Fin.AF (Fin.AF (Fin.AU (Fin.AF (Fin.FK rfl rfl ?_ rfl ?_))))))
 · exact Qm
 · exact Qk
 refine ac ?_
 refine wk [50,20,19,18,1,0] rfl ?_
 refine Tr.cn rfl ?_ ?_<;>intro h8 q8
 refine ac ?_
 refine Tr.ret (Fin.AU (Fin.AF (Fin.AF (Fin.AU (Fin.AF (Fin.FK rfl rfl ?_ rfl ?_))))))
 · exact Qm
 · exact Qk
 refine a2 ?_
 exact Fin.AL (k+1) ⟨⟨Ai,DV (p:=FP n) Ah bX AX⟩,by omega⟩ ⟨⟨_,rfl,AG k⟩,kz⟩
 have BM:k=(l).length:=by have:=AJ h3;omega
 subst BM
 refine ac ?_
 refine Tr.seq (Tr.seq ?_)
 have hall:=dm AX
 clear AX
 refine ac ?_
 refine Tr.block (Tr.BD _ (kk [53,1,0] rfl) (fun k:Nat=>[(54,int ((k:Nat):Int))]) (fun k:Nat=>k≤(l).length∧(∀(j:Nat) a b,j+1<k→l[j]? =some a→l[j+1]? =some b→Ev a b=true)) (fun k:Nat=>(l).length-k) 0 (⟨Nat.zero_le _,fun j a b hj=>absurd hj AA⟩) kz ?_)
 rintro k ⟨BR,AX⟩
 refine ac ?_
 refine Tr.seq ?_
 refine Tr.cn rfl ?_ ?_<;>intro h9 q9
 have Ai:k<(l).length:=AH h9
 obtain ⟨x,Ah⟩:=at_ Ai
 refine a2 ?_
 refine ag ?_ ?_<;>intro h10 Re
 obtain ⟨y,hy⟩:=at_ (l:=l) (k:=k-1) AA
 refine ac ?_
 refine cy h10 rfl (AD rfl underlying33 Cr vq vq AA (Q3 AA hy)) ?_
 refine ac ?_
 refine cy h10 rfl (AD rfl underlying33 Cr vq vq AA (Aa Ah)) (cy h10 rfl (AP rfl Fh Cr vq rfl rfl) ?_)
 refine cy h10 rfl (CL (Z0 (a:=y) (b:=x)) rfl rfl rfl) ?_
 refine ac ?_
 refine wk [71,54,53,1,0] rfl ?_
 refine Tr.cn rfl ?_ ?_<;>intro h11 Sw
 refine ac ?_
 refine Tr.ret (Fin.AU (Fin.AF (Fin.AF (Fin.AU (Fin.AF (Fin.FK rfl rfl ?_ rfl ?_))))))
 · exact Js (Vr Np hall AA hy Ah (by have h_:=Vp (a:=y) (b:=x);simp_all)) AB
 · refine int_eq ?_;exact (Vr Np hall AA hy Ah (by have h_:=Vp (a:=y) (b:=x);simp_all)).symm
 refine a2 ?_
 exact Fin.AL (k+1) ⟨⟨Ai,KT Ah (by intro y2 hk2 nq;rw [hy] at nq;cases nq;have h_:=Vp (a:=y) (b:=x);simp_all) AX⟩,by omega⟩ ⟨⟨_,rfl,AG k⟩,kz⟩
 refine ac ?_
 refine wk [71,54,53,1,0] rfl ?_
 refine a2 ?_
 exact Fin.AL (k+1) ⟨⟨Ai,KT Ah (by intro y2 hk2 nq;omega) AX⟩,by omega⟩ ⟨⟨_,rfl,AG k⟩,kz⟩
 have BM:k=(l).length:=by have:=AJ h9;omega
 subst BM
 refine ac ?_
 refine Tr.seq ?_
 have uj:=SE AX
 subst hm
 refine ao ?_
 refine TO.G4 0 rfl rfl AB (An rfl rfl AB rfl (gq (n:=m) AA hall) ⟨kq,kz⟩) ?_
 refine ao ?_
 refine Tr.seq (Tr.seq ?_)
 have Wr:=C0 m l
 refine ac ?_
 refine wk [81,80,79,9] rfl (Tr.block (Tr.BD _ (kk [80,79,9] rfl) (fun i:Nat=>[(81,int ((i:Nat):Int))]) (fun i:Nat=>i≤(Ex m l).length∧(∀j,j<i→C9 l m j j=false)) (fun i:Nat=>(Ex m l).length-i) 0 (⟨Nat.zero_le _,fun j hj=>absurd hj AA⟩) kz ?_))
 rintro i ⟨XH,E5⟩
 refine ac ?_
 refine Tr.seq ?_
 refine Tr.cn rfl ?_ ?_<;>intro h12 WE
 have Jc:i<(Ex m l).length:=AH h12
 obtain ⟨x,LD⟩:=at_ Jc
 refine a2 ?_
 refine co rfl (AD rfl underlying232 Fu vq vq AA (SC LD)) ?_
 refine a2 ?_
 refine co rfl (CL (Vl) rfl rfl rfl) ?_
 refine an ?_ ?_<;>intro Nf cZ
 refine ac ?_
 refine wk [5,4] rfl (Tr.ret (Fin.AU (Fin.AF (Fin.AF (Fin.AU (Fin.AF (Fin.FK rfl rfl ?_ rfl ?_)))))))
 · exact Js (SD AA hall uj (i:=i) AA bF) AB
 · refine int_eq ?_;exact (SD AA hall uj (i:=i) AA bF).symm
 refine a2 ?_
 exact Fin.AL (i+1) ⟨⟨Jc,(fun j hj=>by rcases Nat.lt_or_ge j i with h_|h_;exact E5 j h_;(obtain rfl:j=i:=by omega);have h_:=(Gs (l:=l) (show m≤32 by omega)).2 j x LD j;simp_all;done)⟩,by omega⟩ ⟨⟨_,rfl,AG i⟩,kz⟩
 have PW:i=(Ex m l).length:=by have:=AJ h12;omega
 rw [C0] at PW
 subst PW
 refine a2 ?_
 refine Tr.ret (Fin.FK rfl rfl ?_ rfl ?_)
 · rw [Vq (Vs AA hall uj E5)];exact Lr
 · refine int_eq ?_;exact (Vs AA hall uj E5).symm
theorem ox {n:Nat} {B:List (BitVec 32)} {p:Pr} {s:BitVec 32} (hB:B.length=n) (hn:n≤24):BC prog 153 [ref [int ((n:Nat):Int),bits B,p],u32 s] (u32 (MH B s n)):=by
 refine fo func153 rfl ⟨rfl,rfl⟩ fun M0 w0=> ?_
 refine a3 ?_
 refine Tr.block (Tr.BD _ (kk [10,1,0] rfl) (fun k:Nat=>[(11,int ((k:Nat):Int)),(5,u32 (MH B s k))]) (fun k:Nat=>k≤n) (fun k:Nat=>n-k) 0 (Nat.zero_le _) ⟨kq,⟨_,rfl,Qu⟩,trivial⟩ ?_)
 rintro k hk0
 refine ac ?_
 refine Tr.seq ?_
 refine Tr.cn rfl ?_ ?_<;>intro h1 q1
 have hk:k<n:=AH h1
 obtain ⟨x,hx⟩:=at_ (l:=B) (k:=k) AA
 · repeat' first|exact Fin.AL (k+1) ⟨by omega,by omega⟩ ⟨⟨_,rfl,AG k⟩,⟨_,rfl,Pr.le_of_eq (congrArg u32 (oq hx Bv Bv).symm)⟩,kz⟩|exact Fin.AL (k+1) ⟨by omega,by omega⟩ ⟨⟨_,rfl,AG k⟩,⟨_,rfl,Pr.le_of_eq (congrArg u32 (ug hx Bv).symm)⟩,kz⟩|refine co rfl (CL (Vl (b:=s) (i:=k)) rfl rfl rfl) ?_|refine cy h rfl (AD rfl underlying232 Fu vq vq AA (SC hx)) ?_|refine cy h rfl (KR rfl vq vq) (cy h rfl (oV rfl vq vq) ?_)|refine co rfl (KQ (b:=1#32) rfl vq vq (Int.natCast_nonneg _)) ?_|refine co rfl (NM rfl vq vq) ?_|refine ac ?_|(refine Tr.cn rfl ?_ ?_<;>intro h q)|(refine Ch.cg rfl rfl rfl ?_ ?_<;>intro h q)
 obtain rfl:k=n:=by have:=AJ h1;omega
 refine a3 ?_
 · exact Lr
end Go.Proofs.YtmocaapoeefgkaaGreatDoor
namespace Cp
open Go Go.RowKit Go.Great
section
variable {P:Program} {L:Lg P} {n:Fm} {fz:Nat} {E:Env} {M0:Av} {w0:World} {S:Nat→Prop} {o:Oper}
def oy (T:TypeId) (u v:Value):Ap:=match v with| .pointer (some a)=>AE true a.block T (u.cells.toList.map is)|_=>Bp
theorem dx {j d s:Nat} {R:SR} {p1 q:Pr} {p:Value→Pr} {R':Value→Value→Ap} (hd:o.dst=some d) (hs:d≠s) (hq:∀v,Pr.le (p v) q) (hg:o.guard=none) (h1:E.lookup s=some p1) (hls:s∈looks o) (h:∀v,DC P M0 w0 S n j R ⟨d,R' v⟩ o ((s,Ac v p1)::E) (p v)):DC P M0 w0 S n j R ⟨.two d s,Tz R'⟩ o E q:=by
 refine ⟨hg,fun M w a rs hsz he hI hj=> ?_⟩
 refine Dv.conv (hq _) (fun v=> ?_) ((h (a.tmps.getD s undef)).2 M w a rs hsz (GF he s (he s p1 hls h1)) hI hj)
 rw [NO,hd,BW (Ne.symm hs)];rfl
theorem T3 {t:TypeId} {s y:Tmp} {j m:Nat} {T:TypeId} {ps qs:List Pr} {p:Pr} (hg:o.guard=none) (hd:o.dst=none) (ho:o.op= .store t (.tmp s) (.tmp y)) (hsy:s≠y) (hx:E.lookup s=some (Cp.ex fun b=>ptr b 0)) (hy:E.lookup y=some p) (hp:Pr.le p (DK qs))
  (hz:A8 P t=some m) (hm:qs.length=m) (hl:ps.length=m):DC P M0 w0 S n j ⟨s,Er T ps⟩ ⟨.two s y,Tz fun u v=>oy T u v⟩ o E any:=by
 refine ⟨hg,fun M w a rs hsz he hI hj=> ?_⟩
 have hyl:y∈looks o:=OK (op:= .store t (.tmp s) (.tmp y)) (by simp [Op.operands]) ho
 have hpy:=hp _ _ _ (he y p hyl hy)
 have hle:Pr.le (Ac (a.tmps.getD y undef) (DK qs)) (DK ((a.tmps.getD y undef).cells.toList.map is)):=fun M w v h=>by
  obtain ⟨rfl,h2⟩:=h
  obtain ⟨g1,g2⟩:=h2
  exact ⟨LP _ _ _,g2⟩
 have h:=(Cs (P:=P) (M0:=M0) (w0:=w0) (S:=S) (n:=n) (j:=j) (T:=T) (ps:=ps) (qs:=(a.tmps.getD y undef).cells.toList.map is) (E:=(y,Ac (a.tmps.getD y undef) (DK qs))::E) hg hd ho bE ⟨_,List.lookup_cons_self,hle⟩ hz (by have:=hpy.1.length;rw [List.length_map];omega) hl).2 M w a rs hsz (GF he y hpy) hI hj
 refine Dv.conv (Pr.le_refl _) (fun v=> ?_) h
 rw [NO,hd];rfl
end
section
variable {P:Program} {L:Lg P} {n:Fm} {fz:Nat} {E:Env} {M0:Av} {w0:World} {S:Nat→Prop} {rs:List Ap} {Q:Exit→Act→World→Prop}
theorem Xd {M:Av} {w:World}:∀{zs cs:List Value},HL M w (zs.map is) cs→cs=zs
 |[],[],_=>rfl
 |[],_::_,h=>h.elim
 |_::_,[],h=>h.elim
 |z::zs,c::cs,h=>by
  obtain ⟨h1,h2⟩:=h
  rw [Xd h2,show c=z from h1]
theorem Fin.Xe {e:Exit} {T:TypeId} {u:Value} {b:Nat} {ps:List Pr} (i j:Nat) (hi:rs[i]? =some (KS (agg ps) u)) (hj:rs[j]? =some (oy T u (.pointer (some ⟨b,0,none⟩)))) (k:Fin n E (Hp M0 w0 S (rs.set j (AE true b T ps))) Q e):Fin n E (Hp M0 w0 S rs) Q e:=by
 rintro a w ⟨M,h1,h2,h3,h4⟩
 have h4:Az M0 w0 S rs M w:=h4
 refine k a w ⟨M,h1,h2,h3,Az.CU h4 hj rfl rfl ?_⟩
 obtain ⟨cs,rfl,_,hcs⟩:=(h4.hold _ (List.mem_of_getElem? hi)).1
 obtain ⟨g0,cs',g1,g2,g3⟩:=(h4.hold _ (List.mem_of_getElem? hj)).1
 have e1:cs'=cs:=by
  have:=Xd g2
  rw [this];show cs.toArray.toList=cs;simp
 subst e1
 exact ⟨g0,cs',g1,hcs,g3⟩
end
section
variable {P:Program}
theorem Ba.uk {f:FuncId} {args:List Pr} {res:Pr} {r:Ap} (h:Ba P f args res r (fun _=>r)) (hb:r.blk=none) (W:World) (vs:List Value) (hr:r.h noM W) (hv:HL noM W args vs):
  Calls P f vs.toArray W fun e w'=>∃v,e= .returned v∧res.h noM w' v∧Below W.heap.size W w':=by
 refine (h.2 noM W FT [] noM W vs ((Az.begin (w_ W)).Ib (r:=r) hb hr) hv).mono ?_
 rintro e w' ⟨v,M',rfl,h2,h3,h4⟩
 exact ⟨v,rfl,res.st _ _ _ _ _ (Ext.less h4.m) h2,h4.below⟩
end
section
variable {P:Program} {n:Fm} {E:Env} {M0:Av} {w0:World} {S:Nat→Prop} {rs:List Ap} {Q:Exit→Act→World→Prop} {p0 p1:Pr} {R:Value→Ap}
end
section
variable {P:Program} {L:Lg P} {n:Fm} {E:Env} {M0:Av} {w0:World} {S:Nat→Prop} {rs:List Ap} {Q:Exit→Act→World→Prop} {c:Code}
theorem Tr.ADU {e:TypeId} {sz:Nat} {rows:List (List Pr)} {p:Pr} (s:Nat) (hs:E.lookup s=some p) (hp:Pr.le p (full sz rows)) (k:∀v,Tr L n ((s,Ac v (slice sz rows))::E) (Hp M0 w0 S (At e sz v::rs)) c Q):Tr L n E (Hp M0 w0 S rs) c Q:=by
 intro a w hst
 obtain ⟨M,k1,k2,k3,k4⟩:=hst
 have k4:Az M0 w0 S rs M w:=k4
 obtain ⟨h1,A,h2⟩:=hp _ _ _ (k3 s p hs)
 refine k (a.tmps.getD s undef) a w ⟨M,k1,k2,fun t q hq=> ?_,Az.Ib k4 ?_ ?_⟩
 ·
  simp only [List.lookup] at hq
  split at hq
  ·
   rename_i e1
   have:t=s:=by simpa using e1
   subst this
   simp only [Option.some.injEq] at hq
   subst hq
   exact ⟨rfl,h1⟩
  · exact k3 t q hq
 ·
  rw [h2]
  show Dg _=none
  cases A with
  |none=>rfl
  |some x=>simp [Dg]
 ·
  intro b m d hv hlt
  rw [h2] at hv
  cases hv
  exact absurd hlt (Nat.lt_irrefl _)
variable {ε:Type}
theorem dz {f:ε→Ap}:∀{X:List ε} {k:Nat} {x:ε},X[k]? =some x→(HI (fun x=>[f x]) X)[k]? =some (f x)
 |[],_,_,h=>by simp at h
 |a::X,0,x,h=>by simp at h;subst h;rfl
 |a::X,k+1,x,h=>by
  show (HI (fun x=>[f x]) X)[k]? =_
  exact dz Du
theorem Fin.fold {x:Exit} {res:ε→List Ap} (Cl:List Ap) {es:List ε} (y:ε) (PO:rs=res y++(Cl++HI res es)) (k:Fin n E (Hp M0 w0 S (Cl++HI res (es++[y]))) Q x):Fin n E (Hp M0 w0 S rs) Q x:=
 Fin.NP (by
  subst PO
  rw [Wy,←List.append_assoc Cl]
  exact List.perm_append_comm) k
theorem Tr.um {f:ε→Value} {g:ε→Pr} {X:List ε} {p:Pr} (j s:Nat) (hj:rs[j]? =some (nw f g X)) (hs:E.lookup s=some p) (hp:Pr.le p (slice 1 (X.map fun x=>[is (f x)]))) (k:Tr L n ((s,slice 1 (X.map fun x=>[g x]))::E) (Hp M0 w0 S rs) c Q):Tr L n E (Hp M0 w0 S rs) c Q:=by
 intro a w ha
 obtain ⟨M,k1,k2,k3,k4⟩:=ha
 have k4:Az M0 w0 S rs M w:=k4
 refine k a w ⟨M,k1,k2,fun t q hq=> ?_,k4⟩
 simp only [List.lookup] at hq
 split at hq
 ·
  rename_i e1
  have:t=s:=by simpa using e1
  subst this
  simp only [Option.some.injEq] at hq
  subst hq
  obtain ⟨ad,cap,h1,h2,h3,h4,h5⟩:=hp _ _ _ (k3 t p hs)
  have hall:=(k4.hold _ (List.mem_of_getElem? hj)).1
  refine ⟨ad,cap,by rw [h1];simp,by simpa using h2,h3,h4,fun i row hr=> ?_⟩
  rw [List.getElem?_map] at hr
  cases hx:X[i]? with
  |none=>rw [hx] at hr;cases hr
  |some x=>
   rw [hx] at hr
   simp only [Option.map_some,Option.some.injEq] at hr
   subst hr
   obtain ⟨_,ad2,h6,h7⟩:=h5 i [is (f x)] Uf
   refine ⟨rfl,ad2,h6,fun q r hr=> ?_⟩
   cases q with
   |zero=>
    simp only [List.getElem?_cons_zero,Option.some.injEq] at hr
    subst hr
    obtain ⟨u,h8,h9,h10,h11⟩:=h7 0 _ rfl
    have hu:u=f x:=h11
    exact ⟨u,h8,h9,h10,by rw [hu];exact hall x (List.mem_of_getElem? hx)⟩
   |succ q=>simp at hr
 · exact k3 t q hq
abbrev HE (e:TypeId) (x:Nat×List Bool):List Ap:=[AE true x.1 e (x.2.map fun b=>bool b)]
theorem oz {n:Nat}:(List.replicate n (Value.bool false)).map is=(List.replicate n false).map fun b=>bool b:=by rw [List.map_replicate,List.map_replicate]
theorem Tr.uo {e:TypeId} {m:Nat} {X:List (Nat×List Bool)} {p:Pr} (Cl:List Ap) (s:Nat) (PO:rs=Cl++HI (HE e) X) (hm:m≤maxLen) (hX:∀x∈X,x.2.length=m) (hs:E.lookup s=some p) (hp:Pr.le p (slice 1 (X.map fun x=>[is (JY m x.1)])))
  (k:Tr L n ((s,slice 1 (X.map fun x=>[slice 1 (x.2.map fun b=>[bool b])]))::E) (Hp M0 w0 S (nw (fun x:Nat×List Bool=>JY m x.1) (fun x=>slice 1 (x.2.map fun b=>[bool b])) X::Cl)) c Q):Tr L n E (Hp M0 w0 S rs) c Q:=by
 subst PO
 intro a w hst
 obtain ⟨M,k1,k2,k3,k4⟩:=hst
 have k4:Az M0 w0 S (Cl++HI (HE e) X) M w:=k4
 obtain ⟨M1,g1,g2,g3⟩:=Az.VF (w:=w) (Φ:=fun (x:Nat×List Bool) M w=>Row M w ⟨x.1,0,none⟩ 0 (x.2.map fun b=>bool b)) (fun x M M' he h=>Row.st he h) (fun x rs M h=>by
  obtain ⟨M',h1,h2,h3⟩:=Az.P4 h
  exact ⟨M',h2,h1,h3⟩) X _ M k4
 refine Tr.um (f:=fun x:Nat×List Bool=>JY m x.1) (g:=fun x=>slice 1 (x.2.map fun b=>[bool b])) (X:=X) 0 s rfl hs hp k a w ⟨M1,k1,k2,fun t q hq=>q.st _ _ _ _ _ g1 (k3 t q hq),Az.Ib g2 rfl fun x hx=> ?_⟩
 have hl:=hX x hx
 refine ⟨some ⟨x.1,0,none⟩,m,by rw [List.length_map,hl],by rw [List.length_map,hl];exact Nat.le_refl _,hm,(fun h=>nomatch h),fun i row hr=> ?_⟩
 rw [List.getElem?_map] at hr
 cases hb:x.2[i]? with
 |none=>rw [hb] at hr;cases hr
 |some b=>
  rw [hb] at hr
  simp only [Option.map_some,Option.some.injEq] at hr
  subst hr
  refine ⟨rfl,_,rfl,fun q r hq=> ?_⟩
  cases q with
  |zero=>
   simp only [List.getElem?_cons_zero,Option.some.injEq] at hq
   subst hq
   have:=g3 x hx i (bool b) (by rw [List.getElem?_map,hb];rfl)
   simpa using this
  |succ q=>simp at hq
end
theorem wW {i m:Nat} (h:i≤m) (hm:m≤40):1≤2 ^ i∧2 ^ i≤2 ^ m∧2 ^ m≤1099511627776:=
 ⟨Nat.one_le_two_pow,Nat.pow_le_pow_right AA h,Nat.le_trans (Nat.pow_le_pow_right (n:=2) AA hm) AB⟩
section
variable {P:Program} {I:Ce} {o:Oper} {E:Env}
theorem d_ {t u:TypeId} {x y:Operand} {i:Int} (ho:o.op= .binOp .shl t x y u) (hx:VL E x (int 1)) (hy:VL E y (int i)) (h0:0≤i) (h40:i≤40):Ae P I o E (int ((2 ^ i.toNat:Nat):Int)):=
 Ae.same fun M w a he _=>by
  have h1:a.eval x= .int .i64 1:=hx.ev he Ar
  have h2:a.eval y= .int .i64 i:=hy.ev he Ar
  have hn:¬i<0:=by omega
  have hmin:min i.toNat 64=i.toNat:=by omega
  have e:((2 ^ i.toNat:Nat):Int)=(2:Int) ^ i.toNat:=Int.natCast_pow 2 i.toNat
  obtain ⟨PR,hp2,hp3⟩:=wW (i:=i.toNat) (m:=i.toNat) (Nat.le_refl _) AA
  have hw:IntKind.i64.wrap (2 ^ i.toNat)=2 ^ i.toNat:=by rw [←e];exact Gl Kq
  refine ⟨.int .i64 (IntKind.i64.wrap (1*2 ^ (min i.toNat IntKind.i64.bits))),?_,?_⟩
  ·
   simp only [execOp,ho,h1,h2]
   simp [eqGuard,binOp,Op.shift,hn]
   try rw [show min i.toNat IntKind.i64.bits=i.toNat from hmin]
  ·
   show Value.int _ _=Value.int _ _
   rw [show min i.toNat IntKind.i64.bits=i.toNat from hmin,Int.one_mul,hw,e]
theorem zF {t u:TypeId} {x y:Operand} {a b m:Nat} (ho:o.op= .binOp .or t x y u) (hx:VL E x (int (a:Int))) (hy:VL E y (int (b:Int))) (ha:a<2 ^ m) (hb:b<2 ^ m) (hm:m≤40):Ae P I o E (int ((a|||b:Nat):Int)):=
 Ae.same fun M w c he _=>by
  have h1:c.eval x= .int .i64 a:=hx.ev he Ar
  have h2:c.eval y= .int .i64 b:=hy.ev he Ar
  obtain ⟨_,_,hp3⟩:=wW (i:=m) (m:=m) (Nat.le_refl _) hm
  have hab:a|||b<2 ^ m:=Nat.or_lt_two_pow ha hb
  have ea:(BitVec.ofInt 64 (a:Int)).toNat=a:=by rw [BitVec.toNat_ofInt];omega
  have eb:(BitVec.ofInt 64 (b:Int)).toNat=b:=by rw [BitVec.toNat_ofInt];omega
  have er:(BitVec.ofInt 64 (a:Int)|||BitVec.ofInt 64 (b:Int)).toNat=a|||b:=by rw [BitVec.toNat_or,ea,eb]
  refine ⟨_,by simp [execOp,ho,h1,h2,eqGuard,binOp,Op.intBits];rfl,?_⟩
  show Value.int _ _=Value.int _ _
  congr 1
  show IntKind.i64.wrap (((BitVec.ofInt 64 (a:Int)|||BitVec.ofInt 64 (b:Int)).toNat:Nat):Int)=_
  rw [er]
  exact Gl Kq
end
section
variable {P:Program} {fz:Nat} {E:Env} {M0:Av} {w0:World} {rs:List Ap} {g:Func}
theorem results4 {r r' r'' r3:ResultVar} {a:Act} {w:World} {v v' v'' v3:Value} (hr:g.results= #[r,r',r'',r3]) (h:(G6 r a).run P w= .ok v w) (h':(G6 r' a).run P w= .ok v' w) (h'':(G6 r'' a).run P w= .ok v'' w) (h3:(G6 r3 a).run P w= .ok v3 w):(results g a.tmps).run P w= .ok (.tuple #[v,v',v'',v3]) w:=by
 rw [G7,hr];simp [Sem.run_bind,h,h',h'',h3]
theorem Fin.O5 {r r' r'' r3:ResultVar} {p q q' kE q3:Pr} (hr:g.results= #[r,r',r'',r3]) (h:AM P E rs r q) (h':AM P E rs r' q') (h'':AM P E rs r'' kE) (h3:AM P E rs r3 q3) (hl:Pr.le (D6 [q,q',kE,q3]) p):Fin ⟨fz,[]⟩ E (Hp M0 w0 FT rs) (bodyPost P g (Sj M0 w0 p)) .ret:=by
 rintro a w ⟨M,_,hd,he,hi⟩
 obtain ⟨v,hv,hp⟩:=h M w a he (fun q hq=>(hi.hold q hq).1)
 obtain ⟨v',kW,hp'⟩:=h' M w a he (fun q hq=>(hi.hold q hq).1)
 obtain ⟨v'',kX,kY⟩:=h'' M w a he (fun q hq=>(hi.hold q hq).1)
 obtain ⟨v3,hv3,hp3⟩:=h3 M w a he (fun q hq=>(hi.hold q hq).1)
 obtain ⟨h1,h2⟩:=Br.D4 M0 w0 M w hi
 exact ⟨hd,_,results4 hr hv kW kX hv3,_,rfl,p.st _ _ _ _ _ (Ext.less h1) (hl _ _ _ ⟨[_,_,_,_],rfl,hp,hp',kY,hp3,trivial⟩),h2⟩
end
def Z3 {β:Type} (b:Nat) (e:TypeId) (f:β→List Pr) (φ:β→Prop):Ap where
 blk:=some b
 new:=true
 h M w:=∃x:β,φ x∧(AE true b e (f x)).h M w
 st M w M' w' he hk h:=let ⟨x,h1,h2⟩:=h;⟨x,h1,(AE true b e (f x)).st M w M' w' he hk h2⟩
def Vt {β:Type} (T:TypeId) (f:β→List Pr) (φ:β→Prop) (v:Value):Ap:=match v with| .pointer (some a)=>Z3 a.block T f φ|_=>Bp
section
variable {P:Program} {L:Lg P} {n:Fm} {E:Env} {M0:Av} {w0:World} {S:Nat→Prop} {rs:List Ap} {o:Oper} {β:Type} {f:β→List Pr} {φ:β→Prop}
theorem Fin.eA {Q:Exit→Act→World→Prop} {x:Exit} {b:Nat} {e:TypeId} (j:Nat) (hj:rs[j]? =some (Z3 b e f φ)) (k:∀z,φ z→Fin n E (Hp M0 w0 S (rs.set j (AE true b e (f z)))) Q x):Fin n E (Hp M0 w0 S rs) Q x:=by
 intro a w h
 obtain ⟨M,h1,h2,h3,h4⟩:=h
 have h4:Az M0 w0 S rs M w:=h4
 obtain ⟨z,hp,h8⟩:=(h4.hold _ (List.mem_of_getElem? hj)).1
 exact k z hp a w ⟨M,h1,h2,h3,h4.CU hj rfl rfl h8⟩
theorem Dv.wk {a:Act} {M:Av} {w:World} {p:Pr} {j:Nat} {R1 R2:SR} {rs:List Ap} {r:Result Next} (hjl:j<rs.length) (hd:o.dst=none) (hb:(R2.at_ a).blk=(R1.at_ a).blk) (hn:(R2.at_ a).new=(R1.at_ a).new) (hh:∀M w,(R1.at_ a).h M w→(R2.at_ a).h M w) (h:Dv P M0 w0 S o a M w p j R1 rs r):Dv P M0 w0 S o a M w p j R2 rs r:=by
 have key:∀v M' w',Az M0 w0 S (rs.set j (R1.at_ (a.put o.dst v))) M' w'→Az M0 w0 S (rs.set j (R2.at_ (a.put o.dst v))) M' w':=by
  intro v M' w' hI
  rw [hd] at hI ⊢
  have hI:Az M0 w0 S (rs.set j (R1.at_ a)) M' w':=hI
  have h1:(rs.set j (R1.at_ a))[j]? =some (R1.at_ a):=by rw [List.getElem?_set_self hjl]
  have:=hI.CU (r':=R2.at_ a) h1 hb hn (hh _ _ (hI.hold _ (List.mem_of_getElem? h1)).1)
  rw [List.set_set] at this
  exact this
 cases r with
 |halt x w'=>exact h
 |ok x w'=>
  cases x
  case value v=>obtain ⟨M',g1,g2,g3⟩:=h;exact ⟨M',g1,g2,key _ _ _ g3⟩
  case skip=>obtain ⟨M',g1,g2,g3⟩:=h;exact ⟨M',g1,g2,key _ _ _ g3⟩
  case enter f args=>
   refine Calls.mono h ?_
   rintro e w'' ⟨v,M',g0,g1,g2,g3⟩
   exact ⟨v,M',g0,g1,g2,key _ _ _ g3⟩
  all_goals exact h
theorem K_ {t:TypeId} {s y:Tmp} {j m:Nat} {T:TypeId} {ps:List Pr} (hg:o.guard=none) (hd:o.dst=none) (ho:o.op= .store t (.tmp s) (.tmp y)) (hsy:s≠y) (hx:E.lookup s=some (Cp.ex fun b=>ptr b 0)) (hy:E.lookup y=some (Cp.ex fun z:β=>fact (φ z) (agg (f z))))
  (hz:A8 P t=some m) (hm:∀z,(f z).length=m) (hl:ps.length=m):DC P M0 w0 S n j ⟨s,Er T ps⟩ ⟨s,Vt T f φ⟩ o E any:=by
 have hlk:y∈looks o:=OK (op:= .store t (.tmp s) (.tmp y)) (by simp [Op.operands]) ho
 refine DC.MN y hg hy hlk fun z=>DC.opf y hg (by simp [List.lookup];rfl) hlk fun hφ=> ?_
 have hx':List.lookup s ((y,agg (f z))::(y,fact (φ z) (agg (f z)))::E)=some (Cp.ex fun b=>ptr b 0):=by
  have:(s==y)=false:=by simpa using hsy
  simp only [List.lookup,this];exact hx
 have h:=Cs (P:=P) (M0:=M0) (w0:=w0) (S:=S) (n:=n) (j:=j) (T:=T) (ps:=ps) (qs:=f z) (E:=(y,agg (f z))::(y,fact (φ z) (agg (f z)))::E) hg hd ho hx' ⟨agg (f z),by simp [C4,List.lookup],Ad _⟩ hz (hm z) hl
 refine ⟨hg,fun M w a rs hsz he hI hj=> ?_⟩
 have hjl:j<rs.length:=by rcases Nat.lt_or_ge j rs.length with h'|h';exact h';rw [List.getElem?_eq_none h'] at hj;cases hj
 have hv:∃b,a.tmps.getD s undef= .pointer (some ⟨b,0,none⟩):=by
  have hxv:VL ((y,agg (f z))::(y,fact (φ z) (agg (f z)))::E) (.tmp s) (Cp.ex fun b=>ptr b 0):=⟨_,hx',Pr.le_refl _⟩
  exact hxv.ev he (show (Operand.tmp s)∈o.op.operands.toList by simp [ho,Op.operands])
 obtain ⟨b,hv⟩:=hv
 have e1:SR.at_ a ⟨s,Er T (f z)⟩=AE true b T (f z):=by show Er T (f z) (a.tmps.getD s undef)=_;rw [hv];rfl
 have e2:SR.at_ a ⟨s,Vt T f φ⟩=Z3 b T f φ:=by show Vt T f φ (a.tmps.getD s undef)=_;rw [hv];rfl
 refine Dv.wk hjl hd ?_ ?_ ?_ (h.2 M w a rs hsz he hI hj)
 · rw [e1,e2];rfl
 · rw [e1,e2];rfl
 · rw [e1,e2];exact fun M w h=>⟨z,hφ,h⟩
end
theorem BC.o9 {P:Program} {f:FuncId} {α:Type} {φ:α→Prop} {p:α→Pr} {res:Pr} (pre:List Pr) {post:List Pr} (q:α) (hq:φ q) (h:∀z,φ z→BC P f (pre++p z::post) res):BC P f (pre++(Cp.ex fun z=>fact (φ z) (p z))::post) res:=by
 refine ⟨(h q hq).1,fun M w vs hb hv=> ?_⟩
 have key:∀(pre:List Pr) (vs:List Value),HL M w (pre++(Cp.ex fun z=>fact (φ z) (p z))::post) vs→∃z,φ z∧HL M w (pre++p z::post) vs:=by
  intro pre
  induction pre with
  |nil=>
   intro vs hv
   match vs,hv with
   |u::us,⟨⟨z,hz,h1⟩,h2⟩=>exact ⟨z,hz,h1,h2⟩
  |cons a pre ih=>
   intro vs hv
   match vs,hv with
   |u::us,⟨h1,h2⟩=>
    obtain ⟨z,hz,h3⟩:=ih us h2
    exact ⟨z,hz,h1,h3⟩
 obtain ⟨z,hz,h2⟩:=key pre vs hv
 exact (h z hz).2 M w vs hb h2
section
variable {P:Program} {L:Lg P} {n:Fm} {fz:Nat} {E:Env} {I:Ce} {M0:Av} {w0:World} {S:Nat→Prop} {rs:List Ap} {Q:Exit→Act→World→Prop} {c:Code}
theorem Tr.o_ {α β:Type} {p gf:Nat} {g:Operand} {lb:Array Value} {enc:α→Value} {xs:List α} {own:List α→List Ap} {assign body:Code} (q:Nat) (K:Env) (hK:CV E K) (R RX:List α→β→List Ap) (d0:β)
  (hIt:NL P gf lb enc xs own) (eg:Entry P gf) (hg:VL E g (is (.func (.func gf) #[] lb))) (PO:rs.Perm (own []++R [] d0)) (hp:K.lookup p=none) (hpn:p<n.sz)
  (hassign:∀l D rec M1 w1 pre x d,(pre++[x])<+:xs→Tr (dU P (some l)) ⟨n.sz,[]⟩ ((p,is (enc x))::K) (Hp M0 w0 S (own (pre++[x])++GG l D rec M1 w1 (R pre d))) assign (Exit.then (St ⟨n.sz,[]⟩ ((q,is (enc x))::K) (Hp M0 w0 S (own (pre++[x])++GG l D rec M1 w1 (R pre d)))) (fun _ _ _=>False)))
  (hbody : ∀ l D rec M1 w1 pre x d, (pre ++ [x]) <+: xs → Tr (dU P (some l)) ⟨n.sz, []⟩ ((q, is (enc x)) :: K) (Hp M0 w0 S (own (pre ++ [x]) ++ GG l D rec M1 w1 (R pre d))) body
   (I8 M0 w0 S (fun d:β=>own (pre++[x])++GG l D rec M1 w1 (R (pre++[x]) d)) (fun c d=>own (pre++[x])++GG l D rec M1 w1 (CI (c= .ret)::RX (pre++[x]) d))))
  (hdone:∀l D rec M1 w1 d,Fin ⟨n.sz,mark D::n.df⟩ E (Hp M0 w0 S (own xs++GG l D rec M1 w1 (R xs d))) Q .normal)
  (hstop:∀l D rec M1 w1 pre d,pre<+:xs→Fin ⟨n.sz,mark D::n.df⟩ E (Hp M0 w0 S (own pre++GG l D rec M1 w1 (RX pre d))) Q .ret):
  Tr (YK P) n E (Hp M0 w0 S rs) (.rangeFunc g #[p] assign body) Q:=by
 refine Tr.nr (fun x=>(q,is (enc x))::K) R (fun c pre d=>CI (c= .ret)::RX pre d) d0 hIt (fun args w=>DB eg args w) hg PO ?_ ?_ hdone ?_
 ·
  intro l D rec M1 w1 pre x d hpre a hsz hE M w hI
  have hx:Ext M1 w1 M w:=(hI.hold (Ak M1 w1) AV).1
  refine hassign l D rec M1 w1 pre x d hpre _ w ⟨M,by simpa using hsz,rfl,fun s z hq=> ?_,hI⟩
  simp only [List.lookup] at hq
  by_cases hs:s=p
  ·
   subst hs
   simp only [beq_self_eq_true,Option.some.injEq] at hq
   subst hq
   show (a.tmps.setIfInBounds s (enc x)).getD s undef=enc x
   simp [Array.getD_eq_getD_getElem?,hsz,hpn]
  ·
   rw [show (s==p)=false by simpa using hs] at hq
   obtain ⟨z',Eh,Ig⟩:=hK.spec s z hq
   have h2:=z.st _ _ _ _ _ hx (Ig _ _ _ (hE s z' Eh))
   show z.h M w ((a.tmps.setIfInBounds p (enc x)).getD s undef)
   have e1:(a.tmps.setIfInBounds p (enc x)).getD s undef=a.tmps.getD s undef:=by
    simp only [Array.getD_eq_getD_getElem?]
    rw [Array.getElem?_setIfInBounds_ne (fun e=>hs e.symm)]
   rw [e1];exact h2
 ·
  intro l D rec M1 w1 pre x d hpre
  exact hbody l D rec M1 w1 pre x d hpre
 ·
  intro l D rec M1 w1 c pre d hpre a w ⟨M,h1,h2,h3,h⟩
  have h:Az M0 w0 S (own pre++GG l D rec M1 w1 (CI (c= .ret)::RX pre d)) M w:=h
  have hc:c= .ret:=(h.hold (CI (c= .ret)) AV).1
  subst hc
  have h5:Az M0 w0 S (CI (Code.ret= .ret)::(own pre++GG l D rec M1 w1 (RX pre d))) M w:=by
   refine Az.perm ?_ h
   have:=List.perm_middle (a:=CI (Code.ret= .ret)) (l₁:=own pre++[BL l rec,BL D (.deferred (some [])),Ak M1 w1]) (l₂:=RX pre d)
   simpa [GG] using this
  exact Tr.ret (hstop l D rec M1 w1 pre d hpre) a w ⟨M,h1,h2,h3,Az.JK h5⟩
theorem Tr.nv {α β:Type} {p gf:Nat} {g:Operand} {lb:Array Value} {enc:α→Value} {xs:List α} {own:List α→List Ap} {assign body:Code} (q:Nat) (K:Env) (hK:CV E K) (R:List α→β→List Ap) (d0:β)
  (hIt:NL P gf lb enc xs own) (eg:Entry P gf) (hg:VL E g (is (.func (.func gf) #[] lb))) (PO:rs.Perm (own []++R [] d0)) (hp:K.lookup p=none) (hpn:p<n.sz)
  (hassign:∀l D rec M1 w1 pre x d,(pre++[x])<+:xs→Tr (dU P (some l)) ⟨n.sz,[]⟩ ((p,is (enc x))::K) (Hp M0 w0 S (own (pre++[x])++GG l D rec M1 w1 (R pre d))) assign (Exit.then (St ⟨n.sz,[]⟩ ((q,is (enc x))::K) (Hp M0 w0 S (own (pre++[x])++GG l D rec M1 w1 (R pre d)))) (fun _ _ _=>False)))
  (hbody : ∀ l D rec M1 w1 pre x d, (pre ++ [x]) <+: xs → Tr (dU P (some l)) ⟨n.sz, []⟩ ((q, is (enc x)) :: K) (Hp M0 w0 S (own (pre ++ [x]) ++ GG l D rec M1 w1 (R pre d))) body
   (I8 M0 w0 S (fun d:β=>own (pre++[x])++GG l D rec M1 w1 (R (pre++[x]) d)) (fun c _=>own (pre++[x])++GG l D rec M1 w1 [CI (c= .ret),CI False])))
  (hdone:∀l D rec M1 w1 d,Fin ⟨n.sz,mark D::n.df⟩ E (Hp M0 w0 S (own xs++GG l D rec M1 w1 (R xs d))) Q .normal):
  Tr (YK P) n E (Hp M0 w0 S rs) (.rangeFunc g #[p] assign body) Q:=
 Tr.o_ q K hK R (fun _ _=>[CI False]) d0 hIt eg hg PO hp hpn hassign hbody hdone fun l D rec M1 w1 pre d _ a w ⟨M,_,_,_,h⟩=>by
  have h:Az M0 w0 S (own pre++GG l D rec M1 w1 [CI False]) M w:=h
  exact ((h.hold (CI False) AV).1).elim
theorem Fin.zG {β:Type} {rr:β→List Ap} {os:List Ap} {tl:β→List Ap} {l D:Nat} {rec:Obj} {M1:Av} {w1:World} (d:β) (hp:rs.Perm (os++GG l D rec M1 w1 (tl d))):Fin n E (Hp M0 w0 S rs) (I8 M0 w0 S rr (fun c d=>os++GG l D rec M1 w1 (CI (c= .ret)::tl d))) .ret:=by
 rintro a w ⟨M,_,_,_,h⟩
 have h:Az M0 w0 S rs M w:=h
 refine ⟨d,M,Az.perm ?_ (Az.Ib (Az.perm hp h) (r:=CI (Code.ret= .ret)) rfl rfl)⟩
 have:=(List.perm_middle (a:=CI (Code.ret= .ret)) (l₁:=os++[BL l rec,BL D (.deferred (some [])),Ak M1 w1]) (l₂:=tl d)).symm
 simpa [GG] using this
theorem Fin.prop {e:Exit} {p:Prop} (j:Nat) (hj:rs[j]? =some (CI p)) (k:p→Fin n E (Hp M0 w0 S rs) Q e):Fin n E (Hp M0 w0 S rs) Q e:=fun a w hs=>by
 obtain ⟨M,h1,h2,h3,h4⟩:=hs
 have h4:Az M0 w0 S rs M w:=h4
 exact k (h4.hold _ (List.mem_of_getElem? hj)).1 a w ⟨M,h1,h2,h3,h4⟩
theorem Fin.pE {e:Exit} {p q:Prop} (j:Nat) (hj:rs[j]? =some (CI p)) (h:p→q) (k:Fin n E (Hp M0 w0 S (rs.set j (CI q))) Q e):Fin n E (Hp M0 w0 S rs) Q e:=fun a w hs=>by
 obtain ⟨M,h1,h2,h3,h4⟩:=hs
 have h4:Az M0 w0 S rs M w:=h4
 exact k a w ⟨M,h1,h2,h3,h4.CU hj rfl rfl (h (h4.hold _ (List.mem_of_getElem? hj)).1)⟩
theorem AM.wX (i:Nat) {c:Tmp} {t T:TypeId} {b:Nat} {new:Bool} {q p:Pr} (h:E.lookup c=some (ptr b 0)) (hi:rs[i]? =some (AE new b T [q])) (ht:ES P t=true) (hl:Pr.le q p):AM P E rs (.cell c t) p:=by
 intro M w a he hr
 obtain ⟨_,cs,h4,h5,_⟩:=hr _ (List.mem_of_getElem? hi)
 obtain ⟨v,hv,hh⟩:=h5.at_ 0 q rfl
 have hc:w.cell? ⟨b,0,none⟩=some v:=by simp [World.cell?,h4,hv]
 have h1:(loadVar t ⟨b,0,none⟩).run P w= .ok v w:=by simp [loadVar,EP ht,hc]
 refine ⟨v,?_,hl _ _ _ hh⟩
 have hc2:a.tmps.getD c undef= .pointer (some ⟨b,0,none⟩):=he _ _ h
 unfold G6
 simp only [hc2,asAddr]
 simpa [Sem.run_bind] using h1
theorem Tr.pF {T:TypeId} {sz:Nat} {rows:List (List Pr)} {v:Value} (j:Nat) (hj:rs[j]? =some (BQ T sz rows v)) (k0:rows=[]→v= .slice none 0 0→Tr L n E (Hp M0 w0 S (rs.set j Bp)) c Q) (k1:Tr L n E (Hp M0 w0 S (rs.set j (D8 T sz rows v))) c Q):Tr L n E (Hp M0 w0 S rs) c Q:=fun a w hs=>by
 obtain ⟨M,h1,h2,h3,h4⟩:=hs
 have h4:Az M0 w0 S rs M w:=h4
 rcases (h4.hold _ (List.mem_of_getElem? hj)).1 with ⟨e1,e2⟩|hm
 · exact k0 e1 e2 a w ⟨M,h1,h2,h3,h4.CU (r':=Bp) hj (by rw [e2];rfl) rfl trivial⟩
 · exact k1 a w ⟨M,h1,h2,h3,h4.CU (r':=D8 T sz rows v) hj rfl rfl hm⟩
theorem Fin.Ht {e:Exit} (T:TypeId) (sz:Nat) (k:Fin n E (Hp M0 w0 S (BQ T sz [] (.slice none 0 0)::rs)) Q e):Fin n E (Hp M0 w0 S rs) Q e:=fun a w hs=>by
 obtain ⟨M,h1,h2,h3,h4⟩:=hs
 have h4:Az M0 w0 S rs M w:=h4
 exact k a w ⟨M,h1,h2,h3,Az.Ib h4 (r:=BQ T sz [] (.slice none 0 0)) rfl (.inl ⟨rfl,rfl⟩)⟩
end
end Cp
namespace Go.Proofs.YtmocaapoeefgkaaGreatDoor
open Go Go.RowKit Cp Go.Proofs.Tryz
-- sets as bits: read, closed, what can be added (behind AHz.lean)
def NQ (l:List Int):BitVec 32:=l.foldl (fun b i=>Zo b i.toNat) 0#32
theorem Z4 {l:List Int} {k:Nat} {x:Int} (h:l[k]? =some x):NQ (l.take (k+1))=Zo (NQ (l.take k)) x.toNat:=by unfold NQ;rw [List.take_add_one,h,List.foldl_append];rfl
theorem eB {n:Nat} (hn:n≤32):∀(l:List Int) (b:BitVec 32) (i:Nat),(∀x∈l,0≤x∧x<n)→((l.foldl (fun b i=>Zo b i.toNat) b).getLsbD i=true↔b.getLsbD i=true∨(i:Int)∈l)
 |[],b,i,_=>by simp
 |x::l,b,i,h=>by
  have hx:=h x (List.mem_cons_self ..)
  rw [List.foldl_cons,eB hn l (Zo b x.toNat) i (fun y hy=>h y (List.mem_cons_of_mem _ hy)),Zq AA,Bool.or_eq_true,decide_eq_true_eq,List.mem_cons]
  constructor
  ·
   rintro ((h1|h1)|h1)
   · exact .inl h1
   · right;left;omega
   · exact .inr (.inr h1)
  ·
   rintro (h1|h1|h1)
   · exact .inl (.inl h1)
   · left;right;omega
   · exact .inr h1
theorem Z5 {n:Nat} {l:List Int} (hn:n≤32) (h:∀x∈l,0≤x∧x<n):R_ n (NQ l) l:=fun i=>by
 unfold NQ
 rw [eB hn l 0#32 i h]
 simp
def Vu (B:List (BitVec 32)) (s:BitVec 32):Bool:=(MO s).all fun i=>B.getD i 0#32&&&~~~s==0#32
theorem Vv {n:Int} {l:List BI} {s:BitVec 32} {d:List Int} (hv:BG n l=0) (hs:R_ n.toNat s d) (hd:∀x∈d,0≤x∧x<n):Vu (Ex n.toNat l) s=CY l d:=by
 obtain ⟨hn,hb,_,_⟩:=C_ hv
 have hB:=Gs (n:=n.toNat) (l:=l) AA
 have hat:∀i,i<n.toNat→(Ex n.toNat l)[i]? =some ((Ex n.toNat l).getD i 0#32):=fun i hi=>by
  rw [List.getD_eq_getElem?_getD,List.getElem?_eq_getElem (by rw [C0];exact hi)];rfl
 rw [Bool.eq_iff_iff]
 unfold Vu
 rw [List.all_eq_true]
 constructor
 ·
  intro h
  refine Cz.2 fun r hr hm=> ?_
  have hbr:=hb r hr
  unfold FP at hbr;rw [decide_eq_false_iff_not] at hbr
  have e1:((r.thn.toNat:Nat):Int)=r.thn:=by omega
  have e2:((r.fst.toNat:Nat):Int)=r.fst:=by omega
  have h1:s.getLsbD r.thn.toNat=true:=(hs _).2 (by rw [e1];exact hm)
  have h2:=h _ (K7.2 h1)
  rw [beq_iff_eq,SA] at h2
  have h3:=h2 r.fst.toNat (by
   rw [hB.2 _ _ (hat r.thn.toNat AA)]
   rw [Bool.and_eq_true,decide_eq_true_eq]
   refine ⟨by omega,K4 ?_ _⟩
   unfold Ga
   exact List.any_eq_true.2 ⟨r,hr,by simp;omega⟩)
  have:=(hs _).1 h3
  rw [e2] at this;exact this
 ·
  intro h i hi
  have h1:=K7.1 hi
  have h2:=(hs i).1 h1
  have h3:=hd _ h2
  rw [beq_iff_eq,SA]
  intro a ha
  rw [hB.2 _ _ (hat i AA),Bool.and_eq_true] at ha
  exact (hs a).2 (Gc h _ ha.2 h2)
theorem pG {n:Int} {s:List Int} {k:Nat} (hk:k≤s.length) (h:∀j,j<k→setAt n s j=true): -1≤Oz s k:=by
 unfold Oz
 split
 · omega
 ·
  have h1:=h (k-1) AA
  unfold setAt at h1
  simp only [Bool.and_eq_true,decide_eq_true_eq] at h1
  omega
theorem NR {n:Nat} {s:List Int} (h:DW (n:Int) s=true):∀x∈s,0≤x∧x<(n:Int):=fun x hx=>by
 obtain ⟨i,hi⟩:=List.mem_iff_getElem?.1 hx
 exact QN h hi
theorem eC {n:Nat} {s:List Int} {b:BitVec 32} (hb:R_ n b s) (h:DW (n:Int) s=true) {i:Nat} (hi:b.getLsbD i=true):i<n:=by
 have:=NR h _ ((hb i).1 hi);omega
abbrev rdB (n:Nat) (l:List Int):BitVec 32:=if DW (n:Int) l=true then NQ l else 0#32
abbrev uq (B:List (BitVec 32)) (s:BitVec 32) (pre:List Nat):Prop:=∀i∈pre,(B.getD i 0#32&&&~~~s==0#32)=true
theorem eD {n:Nat} {B:List (BitVec 32)} {p:Pr} {l:List Int} (hn:n≤24):BC prog 137 [ref [int ((n:Nat):Int),bits B,p],ints l] (D6 [u32 (rdB n l),bool (DW ((n:Nat):Int) l)]):=by
 refine fo func137 rfl ⟨rfl,rfl⟩ fun M0 w0=>(Tr.Cf 1 rfl fun Fl=> ?_)
 iterate 4 refine ac ?_
 refine Tr.block (Tr.BD _ (kk [11,10,0] rfl) (fun k:Nat=>[(12,int ((k:Nat):Int)),(7,int (Oz l k)),(6,u32 (NQ (l.take k)))]) (fun k:Nat=>k≤(l).length∧(∀j,j<k→setAt (n:Nat) l j=true)) (fun k:Nat=>(l).length-k) 0 (⟨Nat.zero_le _,fun j hj=>absurd hj AA⟩) ⟨kq,⟨_,rfl,int_eq rfl⟩,⟨_,rfl,Qu⟩,trivial⟩ ?_)
 rintro k ⟨BR,AX⟩
 refine ac ?_
 refine Tr.seq ?_
 refine Tr.cn rfl ?_ ?_<;>intro h1 q1
 have Ai:k<(l).length:=AH h1
 obtain ⟨i,Ah⟩:=at_ Ai
 have Zl:=Rk AX Ah
 have hlg:=pG AA AX
 refine ac ?_
 refine Tr.seq (Tr.block (Tr.seq (Tr.Aj (co rfl (AD rfl underlying51 Bw vq vq AA (Aa Ah)) ?_))))
 refine ac ?_
 refine ag ?_ ?_<;>intro h2 q2
 refine ac ?_
 refine wk [26,12,11,10,9,6,0] rfl ?_
 refine ac ?_
 refine Tr.ret (Fin.AF (Fin.AU (Fin.AF (Fin.AF (Fin.AU (Fin.AF (Fin.Dm rfl (Br.D4 _ _) rfl ?_ rfl ?_)))))))
 · exact aa
 · exact bO
 refine ac ?_
 refine wk [26,12,11,10,9,6,0] rfl ?_
 refine Tr.cn rfl ?_ ?_<;>intro h3 q3
 refine ac ?_
 refine Tr.ret (Fin.AF (Fin.AU (Fin.AF (Fin.AF (Fin.AU (Fin.AF (Fin.Dm rfl (Br.D4 _ _) rfl ?_ rfl ?_)))))))
 · exact aa
 · exact bO
 refine a2 ?_
 refine co rfl (KQ (b:=1#32) rfl vq vq AA) ?_
 refine co rfl (NM rfl vq vq) ?_
 refine a2 ?_
 refine wk [12,11,10,7,6,0] rfl ?_
 refine ac ?_
 exact Fin.AL (k+1) ⟨⟨Ai,D9 AX (by rw [Zl];simp;omega)⟩,by omega⟩ ⟨⟨_,rfl,AG k⟩,⟨_,rfl,int_eq (by rw [ZZ Ah])⟩,⟨_,rfl,Pr.le_of_eq (congrArg u32 (Z4 Ah).symm)⟩,kz⟩
 have BM:k=(l).length:=by have:=AJ h1;omega
 subst BM
 have hsb:DW ((n:Nat):Int) l=true:=B7.2 AX
 refine a2 ?_
 refine Tr.ret (Fin.Dm rfl (Br.D4 _ _) rfl ?_ rfl ?_)
 · rw [show rdB n l=NQ l from if_pos hsb,List.take_length];exact Lr
 · refine bool_eq ?_;exact hsb.symm
theorem zH {B:List (BitVec 32)} {s y:BitVec 32} {x:Nat} (h:x∈MO s) (hy:B[x]? =some y) (hn:(y&&&~~~s==0#32)=false):Vu B s=false:=by
 unfold Vu
 rw [List.all_eq_false]
 exact ⟨x,h,by rw [List.getD_eq_getElem?_getD,hy];simpa using hn⟩
theorem ur {B:List (BitVec 32)} {s:BitVec 32} (h:uq B s (MO s)):Vu B s=true:=by
 unfold Vu
 exact List.all_eq_true.2 h
theorem T4 {n:Nat} {B:List (BitVec 32)} {p:Pr} [One p] {s:BitVec 32} (hB:B.length=n) (hs:∀i,s.getLsbD i=true→i<n):Ba Tryz.prog 138 [ref [int ((n:Nat):Int),bits B,p],u32 s] (bool (Vu B s)) (Da) (fun _=>Da):=by
 refine Ba.ofM Tryz.func138 rfl rfl B9 fun M0 w0 S rs M1 w1=> ?_
 refine Tr.seq ?_
 refine Tr.Ao ?_
 refine TO.op rfl rfl AB (Bj rfl (VL.le (vl rfl) (Af _))) ?_
 refine TO.op rfl rfl AB (Bj rfl (VL.le (vl rfl) (Af _))) ?_
 refine TO.alloc rfl rfl AB rfl z4 zo4 (fun b1=> ?_)
 refine TO.nil ?_
 refine Fin.go ?_
 refine Tr.seq ?_
 refine Tr.seq ?_
 refine Tr.Ao ?_
 refine TO.op rfl rfl AB (Em rfl F9 (vl rfl)) ?_
 refine TO.pad ?_
 refine TO.Dj 0 rfl rfl AB (Gm rfl rfl AB rfl (om) ⟨⟨_,rfl,Pr.le_refl _⟩,trivial⟩) (fun v1=> ?_)
 refine TO.nil ?_
 refine Fin.shape 7 (fun b=>oh b) rfl (fun fb2 fe2=> ?_)
 subst fe2
 refine Fin.Hh 0 (AE true fb2 Sf [_]) rfl rfl ?_
 refine Fin.go ?_
 refine Tr.block ?_
 refine Tr.dh (p:=uq B s []) (fun i h=>GI) ?_
 refine Tr.o_ 5 [(2,_),(3,_),(4,_)] ⟨⟨_,rfl,Pr.le_refl _⟩,⟨_,rfl,Pr.le_refl _⟩,⟨_,rfl,Pr.le_refl _⟩,trivial⟩ (fun pre (_:Unit)=>CI (uq B s pre)::AE true b1 4 [bool false]::Ak M1 w1::rs) (fun pre (_:Unit)=>CI (Vu B s=false)::AE true b1 4 [bool false]::Ak M1 w1::rs) () (Vm (s:=s)) Vn (vl rfl) ((DT (j:=3) rfl).trans (List.Perm.cons _ ((DT (j:=1) rfl).trans (List.Perm.cons _ (List.Perm.refl _))))) rfl B9 ?_ ?_ ?_ ?_
 ·
  rintro lk Dk rk Mr wr pre x _ hpre
  refine Tr.Aj ?_
  refine Ch.op rfl rfl AB (Di rfl (vl rfl)) ?_
  refine Ch.nil ?_
  exact Fin.st ⟨⟨_,rfl,Pr.le_refl _⟩,⟨_,rfl,Pr.le_refl _⟩,⟨_,rfl,Pr.le_refl _⟩,⟨_,rfl,Pr.le_refl _⟩,trivial⟩
 ·
  rintro lk Dk rk Mr wr pre x _ hpre
  have hsx:s.getLsbD x=true:=K7.1 (ow hpre)
  obtain ⟨y,hy⟩:=at_ (l:=B) (k:=x) (by have:=hs x hsx;omega)
  refine Tr.block ?_
  refine Tr.seq ?_
  refine Tr.kD mixed BV ?_
  refine Ch.op rfl rfl AB (Em rfl J1 (vl rfl)) ?_
  first
   |refine Ch.op rfl rfl AB (JJ rfl (vl rfl)) ?_
   |refine Ch.op rfl rfl AB (Jx rfl (vl rfl)) ?_
  refine Ch.op rfl rfl AB (Fc rfl It (vl rfl) rfl) ?_
  refine Ch.op rfl rfl AB (Em rfl J3 (vl rfl)) ?_
  refine Ch.op rfl rfl AB (BX rfl (vl rfl)) ?_
  refine Ch.op rfl rfl AB (AD rfl Tryz.underlying232 Fu (vl rfl) (vl rfl) AA (SC hy)) ?_
  refine Ch.op rfl rfl AB (Em rfl F9 (vl rfl)) ?_
  refine Ch.op rfl rfl AB (Em rfl F9 (vl rfl)) ?_
  refine Ch.op rfl rfl AB (KR rfl (vl rfl) (vl rfl)) ?_
  refine Ch.op rfl rfl AB (oW rfl (vl rfl) (vl rfl)) ?_
  refine Ch.nil ?_
  refine Fin.go ?_
  refine Tr.weak [(4,_),(18,_)] ⟨⟨_,rfl,Pr.le_refl _⟩,⟨_,rfl,Pr.le_refl _⟩,trivial⟩ ?_
  refine Tr.cond rfl (fun h1=> ?_) (fun h1=> ?_)
  ·
   have q1:=DU.D7 h1
   refine Tr.seq ?_
   refine Tr.Ao ?_
   refine TO.AK 6 rfl rfl rfl (vl rfl) (VL.le (vl rfl) (Af _)) rfl U0 rfl rfl ?_
   refine TO.nil ?_
   refine Fin.go ?_
   refine Tr.ret ?_
   refine Fin.AU ?_
   refine Fin.pE 5 rfl (q:=Vu B s=false) (fun _=>zH (K7.2 hsx) hy Bv) ?_
   exact Fin.zG () (List.Perm.refl _)
  ·
   have q1:=DU.D7 h1
   refine Tr.skip ?_
   refine Fin.block ?_
   refine Fin.pE 5 rfl (q:=uq B s (pre++[x])) (fun h i hi=>by rcases List.mem_append.1 hi with hi|hi;exact h i hi;(rw [List.mem_singleton] at hi;subst hi;rw [List.getD_eq_getElem?_getD,hy];simp_all)) ?_
   exact Fin.rnd () (List.Perm.refl _)
 ·
  rintro lk Dk rk Mr wr _
  refine Fin.prop 5 rfl fun hok=> ?_
  refine Fin.drop 1 ?_
  refine Fin.drop 1 ?_
  refine Fin.drop 2 ?_
  refine Fin.drop 2 ?_
  refine Fin.block ?_
  refine Fin.go ?_
  refine Tr.seq ?_
  refine Tr.Ao ?_
  refine TO.AK 2 rfl rfl rfl (vl rfl) (VL.le (vl rfl) (Af _)) rfl U0 rfl rfl ?_
  refine TO.nil ?_
  refine Fin.go ?_
  refine Tr.ret ?_
  refine Fin.NP (List.perm_middle (l₁:=[_])) ?_
  refine Fin.Vk ?_
  refine Fin.Ty ?_
  refine Fin.NP ((List.perm_middle (l₁:=[_])).symm) ?_
  refine Fin.GW [_] rfl (AM.wX 0 rfl rfl Yz (Pr.le_refl _)) ?_ (fun _ _ _ _=>rfl)
  · exact bool_eq (ur hok).symm
 ·
  rintro lk Dk rk Mr wr pre _ hpre
  refine Fin.prop 5 rfl fun hno=> ?_
  refine Fin.drop 1 ?_
  refine Fin.drop 1 ?_
  refine Fin.drop 2 ?_
  refine Fin.drop 2 ?_
  refine Fin.AU ?_
  refine Fin.AF ?_
  refine Fin.NP (List.perm_middle (l₁:=[_])) ?_
  refine Fin.Vk ?_
  refine Fin.Ty ?_
  refine Fin.NP ((List.perm_middle (l₁:=[_])).symm) ?_
  refine Fin.GW [_] rfl (AM.wX 0 rfl rfl Yz (Pr.le_refl _)) ?_ (fun _ _ _ _=>rfl)
  · exact bool_eq hno.symm
theorem uu {s:BitVec 32}  :Fj (α:=Value) Tryz.prog 180 [u32 s] [Da] (fun _=>True) (fun v=>Ac v (lens (((MO s).map fun i:Nat=>(i:Int)).map (fun n=>[int n])).length)) (fun v=>[Da,BQ 3 1 (((MO s).map fun i:Nat=>(i:Int)).map (fun n=>[int n])) v]):=by
 refine Fj.ofM Tryz.func180 rfl rfl B9 fun M0 w0 S rs M1 w1=> ?_
 refine Tr.seq ?_
 refine Tr.Aj ?_
 refine Ch.op rfl rfl AB (Di rfl (vl rfl)) ?_
 refine Ch.nil ?_
 refine Fin.go ?_
 refine Tr.seq ?_
 refine Tr.Ao ?_
 refine TO.alloc rfl rfl AB rfl z51 ABA (fun b1=> ?_)
 refine TO.nil ?_
 refine Fin.go ?_
 refine Tr.seq ?_
 refine Tr.seq ?_
 refine Tr.Ao ?_
 refine TO.op rfl rfl AB (BX rfl (vl rfl)) ?_
 refine TO.pad ?_
 refine TO.Dj 0 rfl rfl AB (Gm rfl rfl AB rfl (om) ⟨⟨_,rfl,Pr.le_refl _⟩,trivial⟩) (fun v1=> ?_)
 refine TO.nil ?_
 refine Fin.shape 6 (fun b=>oh b) rfl (fun fb2 fe2=> ?_)
 subst fe2
 refine Fin.Hh 0 (AE true fb2 Sf [_]) rfl rfl ?_
 refine Fin.go ?_
 refine Tr.block ?_
 refine Tr.Ht 3 1 ?_
 refine Tr.H8 2 [Ac (.slice none 0 0) (lens 0)] rfl ⟨GR rfl,trivial⟩ ?_
 refine Tr.nv 4 [(3,_)] ⟨⟨_,rfl,Pr.le_refl _⟩,trivial⟩ (fun pre vr=>BQ 3 1 ((pre.map fun i:Nat=>(i:Int)).map (fun n=>[int n])) vr::AE true b1 51 [Ac vr (lens ((pre.map fun i:Nat=>(i:Int)).map (fun n=>[int n])).length)]::Ak M1 w1::rs) (.slice none 0 0) (Vm (s:=s)) Vn (vl rfl) ((DT (j:=3) rfl).trans (List.Perm.cons _ ((DT (j:=1) rfl).trans (List.Perm.cons _ (List.Perm.refl _))))) rfl B9 ?_ ?_ ?_
 ·
  rintro lk Dk rk Mr wr pre x vr hpre
  refine Tr.Aj ?_
  refine Ch.op rfl rfl AB (Di rfl (vl rfl)) ?_
  refine Ch.nil ?_
  exact Fin.st ⟨⟨_,rfl,Pr.le_refl _⟩,⟨_,rfl,Pr.le_refl _⟩,trivial⟩
 ·
  rintro lk Dk rk Mr wr pre x vr hpre
  have hpl:(pre++[x]).length≤32:=Nat.le_trans hpre.length_le (uZ s)
  rw [List.length_append,List.length_cons,List.length_nil] at hpl
  refine Tr.block ?_
  refine Tr.Ao ?_
  refine TO.rd 6 rfl rfl rfl AB (BB rfl cF (vl rfl) rfl) ?_
  refine TO.op rfl rfl AB (BX rfl (vl rfl)) ?_
  refine TO.op rfl rfl AB (AO (xs:=[.tmp 9]) (rows:=[[_]]) rfl rfl Tryz.underlying51 Bw z3 rfl AB ⟨⟨Am,(VL.le (vl rfl) (Af _))⟩,trivial⟩ AB) ?_
  refine TO.Dj 5 rfl rfl AB (FM rfl rfl AB rfl Tryz.underlying51 Bw IY z3 rfl AB AB (vl rfl) ⟨_,rfl,B5 _ _⟩ (BP fun _=>rfl) (Nat.zero_lt_succ _) Nn Nq) (fun v2=> ?_)
  refine TO.AK 6 rfl rfl rfl (vl rfl) (VL.le (vl rfl) (Af _)) rfl Gn rfl rfl ?_
  refine TO.nil ?_
  refine Fin.block ?_
  rw [show (pre.map fun i:Nat=>(i:Int)).map (fun n=>[int n])++[[int ((x:Nat):Int)]]=((pre++[x]).map fun i:Nat=>(i:Int)).map (fun n=>[int n]) by rw [List.map_append,List.map_append];rfl]
  refine Fin.H8 6 [Ac v2 (lens (((pre++[x]).map fun i:Nat=>(i:Int)).map (fun n=>[int n])).length)] rfl ⟨C2 AV,trivial⟩ ?_
  exact Fin.rnd v2 (List.Perm.refl _)
 ·
  rintro lk Dk rk Mr wr vr
  refine Fin.drop 1 ?_
  refine Fin.drop 1 ?_
  refine Fin.drop 2 ?_
  refine Fin.block ?_
  refine Fin.go ?_
  refine Tr.seq ?_
  refine Tr.Aj ?_
  refine Ch.op rfl rfl B9 (Ck 3 rfl (BB rfl cF (vl rfl) rfl)) ?_
  refine Ch.op rfl rfl B9 (Di rfl (vl rfl)) ?_
  refine Ch.nil ?_
  refine Fin.go ?_
  refine Tr.ret ?_
  refine Fin.NP (List.perm_middle (l₁:=[_])) ?_
  refine Fin.Vk ?_
  refine Fin.Ty ?_
  refine Fin.drop 2 ?_
  refine Fin.wJ (vr) rfl (AM.tmp rfl (Pr.le_refl _)) trivial ?_ (List.Perm.refl _)
  · exact Pr.le_refl _
def KU (n:Int) (l:List BI) (s:List Int):Int:=if BG n l≠0 then BG n l else if DW n s=true∧CY l s=true then 0 else 46
def JA (n:Int) (l:List BI) (s:List Int):List Int:=if KU n l s=0 then Eg n.toNat l s true else []
theorem wY {n:Int} {l:List BI} {s:List Int} (h:BG n l≠0):KU n l s=BG n l:=by unfold KU;rw [if_pos h]
theorem pH {n:Int} {l:List BI} {s:List Int} (h:BG n l=0) (hn:¬(DW n s=true∧CY l s=true)):KU n l s=46:=by unfold KU;rw [if_neg (not_not_intro h),if_neg hn]
theorem wZ {n:Int} {l:List BI} {s:List Int} (h:BG n l=0) (hs:DW n s=true) (hc:CY l s=true):KU n l s=0:=by unfold KU;rw [if_neg (not_not_intro h),if_pos ⟨hs,hc⟩]
theorem Vw {n:Int} {l:List BI} {s:List Int} {e:Int} (h:KU n l s=e) (he:e≠0):JA n l s=[]:=by unfold JA;rw [if_neg Kr]
theorem zI {n:Int} {l:List BI} {s:List Int} {b:BitVec 32} (h:KU n l s=0) (hv:BG n l=0) (hs:R_ n.toNat b s) (hc:CY l s=true):(MO (MH (Ex n.toNat l) b n.toNat)).map (fun i:Nat=>(i:Int))=JA n l s:=by
 unfold JA
 rw [if_pos h]
 have hn:=(C_ hv).1
 exact (yt (fun j=>uh hv hs hc j) AA).symm
theorem LA {n:Nat} {s:List Int} (hn:n≤32) (h:DW (n:Int) s=true):R_ n (rdB n s) s:=by
 rw [show rdB n s=NQ s from if_pos h];exact Z5 hn (NR h)
theorem gr {n:Int} {l:List BI} {s:List Int}  :Fj (α:=Value) prog 132 [int n,reqs l,ints s,fn (.func 153) []] [Da] (fun _=>True) (fun v=>D6 [Ac v (lens ((JA n l s).map (fun n=>[int n])).length),int (KU n l s)]) (fun v=>[Da,BQ 3 1 ((JA n l s).map (fun n=>[int n])) v]):=by
 refine Fj.of func132 rfl rfl BA fun M0 w0 S rs M1 w1=> ?_
 refine ac ?_
 refine ap ?_
 refine TO.G4 0 rfl rfl AB (An rfl rfl AB rfl (dw (n:=n) (l:=l)) ⟨kq,kz⟩) ?_
 refine ap ?_
 refine an ?_ ?_<;>intro h1 q1
 have hv:BG n l≠0:=by simpa using h1
 refine ac ?_
 refine wk [9,8] rfl (Tr.ret (Fin.AF ?_))
 have hno:=Vw (wY (s:=s) hv) hv
 refine Fin.Ht 3 1 (Fin.J7 ?_)
 refine Fin.Hh 1 (BQ 3 1 ((JA n l s).map (fun n=>[int n])) (.slice none 0 0)) rfl Pt ?_
 refine Fin.Ou ((.slice none 0 0)) rfl (AM.tmp rfl Lr) (AM.tmp rfl Lr) trivial ?_ (List.Perm.refl _)
 · exact A7 ⟨GR Pt,int_eq (wY (s:=s) hv).symm,trivial⟩
 have hv:BG n l=0:=by simpa using h1
 have Np:=(C_ hv).1
 obtain ⟨N,rfl⟩:∃N:Nat,n=(N:Int):=⟨n.toNat,by omega⟩
 refine Tr.re 10 rfl (Pr.le_of_eq (Vq hv)) ?_
 refine a2 ?_
 refine co rfl (CL (eD (n:=N) (B:=Ex N l) (l:=s) AA) rfl rfl rfl) ?_
 refine ac ?_
 refine wk [13,12,10,3] rfl ?_
 refine ap ?_
 refine TO.cases 31 rfl (fun h2=> ?_) (fun h2=> ?_)
 have q2:=DU.D7 h2
 have h46:KU (N:Int) l s=46:=pH hv (by rintro ⟨g1,g2⟩;simp_all)
 iterate 4 refine TO.VG rfl rfl rfl (WQ h2) rfl AB ?_
 refine ap ?_
 refine ac ?_
 refine wk [9,8] rfl (Tr.ret (Fin.AF ?_))
 have hno:=Vw h46 AB
 refine Fin.Ht 3 1 (Fin.J7 ?_)
 refine Fin.Hh 1 (BQ 3 1 ((JA ((N:Nat):Int) l s).map (fun n=>[int n])) (.slice none 0 0)) rfl Pt ?_
 refine Fin.Ou ((.slice none 0 0)) rfl (AM.tmp rfl Lr) (AM.tmp rfl Lr) trivial ?_ (List.Perm.refl _)
 · exact bT
 have q2:=DU.D7 h2
 have hsb:DW ((N:Nat):Int) s=true:=by simpa using h2
 refine TO.Hv rfl rfl rfl h2 rfl AB (BX rfl vq) (TO.Hv rfl rfl rfl h2 rfl AB (BX rfl vq) ?_)
 refine TO.lU 0 rfl rfl rfl h2 rfl rfl AB (An rfl rfl AB rfl (T4 (n:=N) (C0 N l) (fun i h=>eC (LA AA hsb) hsb h)) ⟨kq,kz⟩) ?_
 refine TO.Hv rfl rfl rfl h2 rfl AB (F2 rfl vq) ?_
 refine ap ?_
 refine Tr.cn rfl ?_ ?_<;>intro h3 q3
 have h46:KU (N:Int) l s=46:=pH hv (by rintro ⟨g1,g2⟩;rw [←Vv (n:=(N:Int)) hv (LA AA g1) (NR g1)] at g2;simp_all)
 refine ac ?_
 refine wk [9,8] rfl (Tr.ret (Fin.AF ?_))
 have hno:=Vw h46 AB
 refine Fin.Ht 3 1 (Fin.J7 ?_)
 refine Fin.Hh 1 (BQ 3 1 ((JA ((N:Nat):Int) l s).map (fun n=>[int n])) (.slice none 0 0)) rfl Pt ?_
 refine Fin.Ou ((.slice none 0 0)) rfl (AM.tmp rfl Lr) (AM.tmp rfl Lr) trivial ?_ (List.Perm.refl _)
 · exact bT
 have jH:CY l s=true:=by rw [←Vv (n:=(N:Int)) hv (LA AA hsb) (NR hsb)];simpa using h3
 have ha0:=wZ hv hsb jH
 have ADV:(MO (MH (Ex N l) (rdB N s) N)).map (fun i:Nat=>(i:Int))=JA (N:Int) l s:=zI ha0 hv (LA AA hsb) jH
 refine ac ?_
 refine ap ?_
 refine tp rfl (lP rfl vq (show BC prog 153 ([_,_]++[]) _ from ox (n:=N) (B:=Ex N l) (s:=rdB N s) (C0 N l) AA) ⟨kq,kz⟩) ?_
 refine TO.RY _ rfl rfl AB rfl (uu) kz ((DT (j:=0) rfl).trans (List.Perm.cons _ (List.Perm.refl _))) (fun x1 _=> ?_)
 refine ap ?_
 refine wk [9,8] rfl (Tr.ret (Fin.Hh 1 (BQ 3 1 ((JA ((N:Nat):Int) l s).map (fun n=>[int n])) x1) rfl (by rw [ADV]) (Fin.Ou (x1) rfl (AM.tmp rfl Lr) (AM.tmp rfl Lr) trivial ?_ (List.Perm.refl _))))
 · exact A7 ⟨C2 (by rw [ADV]),int_eq ha0.symm,trivial⟩
theorem gu {n:Int} {l:List BI} {s:List Int}  :Fj (α:=Value) prog 117 [int n,reqs l,ints s] [Da] (fun _=>True) (fun v=>D6 [Ac v (lens ((JA n l s).map (fun n=>[int n])).length),int (KU n l s)]) (fun v=>[Da,BQ 3 1 ((JA n l s).map (fun n=>[int n])) v]):=by
 refine Fj.of func117 rfl rfl BA fun M0 w0 S rs M1 w1=> ?_
 refine ac ?_
 refine ap ?_
 refine TO.RY _ rfl rfl AB rfl (gr (n:=n) (l:=l) (s:=s)) ⟨kq,kz⟩ ((DT (j:=0) rfl).trans (List.Perm.cons _ (List.Perm.refl _))) (fun x1 _=> ?_)
 refine ap ?_
 refine Tr.ret (Fin.Ou (x1) rfl (AM.tmp rfl Lr) (AM.tmp rfl Lr) trivial ?_ (List.Perm.refl _))
 · exact Lr
end Go.Proofs.YtmocaapoeefgkaaGreatDoor
namespace Cp
open Go Go.RowKit Go.Great
section
variable {P:Program}
theorem PT.frz {f:FuncId} {args:List Pr} {p0 p1:Pr} {e:TypeId} {sz:Nat} {rows:List (List Pr)} (hl:∀r∈rows,r.length=sz) (h:PT P f args (fun x=>agg [p0,p1,is x]) (fun x=>[Bs e sz rows x])):BC P f args (agg [p0,p1,slice sz rows]):=by
 refine ⟨h.1,fun M w vs hb hv=> ?_⟩
 refine (h.2 M w FT [] M w vs (Az.begin hb) hv).mono ?_
 rintro e' w' ⟨v,M',x,rfl,_,h1,h2,h3⟩
 obtain ⟨M2,j1,j2,j3⟩:=Az.xy (j:=0) h3 rfl hl
 obtain ⟨cs,hc,g1,g2⟩:=(agg [p0,p1,is x]).st _ _ _ _ _ j1 h1
 refine ⟨v,rfl,?_,j2.below⟩
 exact (agg [p0,p1,slice sz rows]).st _ _ _ _ _ (Ext.less j2.m) ⟨cs,hc,g1,HL.set (k:=2) g2 rfl fun u hu=>by rw [show u=x from hu];exact j3⟩
theorem Fj.ZA {f:FuncId} {args:List Pr} {k:Pr} {e:TypeId} {sz m:Nat} {rows:List (List Pr)} {R:Ap} (hl:∀r∈rows,r.length=sz) (h:Fj (α:=Value) P f args [R] (fun _=>True) (fun v=>D6 [Ac v (lens m),k]) (fun v=>[R,BQ e sz rows v])):Ba P f args (D6 [slice sz rows,k]) R (fun _=>R):=by
 refine ⟨h.1,fun M0 w0 S rs M w vs hI hv=>(h.2 M0 w0 S rs M w vs hI hv).mono ?_⟩
 rintro e' w' ⟨v,M',x,rfl,_,h1,h2,h3⟩
 have h3:Az M0 w0 S (R::BQ e sz rows x::rs) M' w':=h3
 obtain ⟨M2,j1,j2,j3⟩:=Az.ZA (j:=1) h3 rfl hl
 obtain ⟨cs,hc,g2⟩:=(D6 [Ac x (lens m),k]).st _ _ _ _ _ j1 h1
 exact ⟨v,M2,rfl,⟨cs,hc,HL.set (k:=0) g2 rfl fun u hu=>by rw [show u=x from hu.1];exact j3⟩,h2.trans j1,(Az.perm (List.Perm.swap _ _ _) j2).JK⟩
variable {n:Fm} {E:Env} {M0:Av} {w0:World} {S:Nat→Prop} {o:Oper}
end
end Cp
namespace Go.Proofs.YtmocaapoeefgkaaGreatDoor
open Go Go.RowKit Cp Go.Proofs.Tryz
def Vx (n:Int) (l:List BI) (s:List Int):Int:=if BG n l≠0 then BG n l else if DW n s=true then 0 else 46
def Vy (n:Int) (l:List BI) (s:List Int):Bool:=decide (BG n l=0)&&DW n s&&CY l s
theorem ADW {n:Int} {l:List BI} {s:List Int} (h:BG n l≠0):Vx n l s=BG n l∧Vy n l s=false:=by unfold Vx Vy;rw [if_pos h,decide_eq_false h];exact ⟨rfl,rfl⟩
theorem ADX {n:Int} {l:List BI} {s:List Int} (h:BG n l=0) (hs:DW n s=false):Vx n l s=46∧Vy n l s=false:=by unfold Vx Vy;rw [if_neg (not_not_intro h),if_neg Px,hs];simp
theorem pI {n:Int} {l:List BI} {s:List Int} (h:BG n l=0) (hs:DW n s=true):Vx n l s=0∧Vy n l s=CY l s:=by unfold Vx Vy;rw [if_neg (not_not_intro h),if_pos hs,hs,decide_eq_true h];simp
theorem Z6 {n:Int} {l:List BI} {s:List Int}  :Ba prog 78 [int n,reqs l,ints s] (D6 [bool (Vy n l s),int (Vx n l s)]) (Da) (fun _=>Da):=by
 refine Ba.of func78 rfl rfl BA fun M0 w0 S rs M1 w1=> ?_
 refine ac ?_
 refine ap ?_
 refine TO.G4 0 rfl rfl AB (An rfl rfl AB rfl (dw (n:=n) (l:=l)) ⟨kq,kz⟩) ?_
 refine ap ?_
 refine an ?_ ?_<;>intro h1 q1
 have hv:=ADW (s:=s) (n:=n) (l:=l) Ie
 refine ac ?_
 refine wk [7,6] rfl (Tr.ret (Fin.AF (Fin.FK rfl rfl ?_ rfl ?_)))
 · refine bool_eq ?_;exact hv.2.symm
 · refine int_eq ?_;exact hv.1.symm
 have hv:BG n l=0:=by simpa using h1
 have Np:=(C_ hv).1
 obtain ⟨N,rfl⟩:∃N:Nat,n=(N:Int):=⟨n.toNat,by omega⟩
 refine Tr.re 8 rfl (Pr.le_of_eq (Vq hv)) ?_
 refine a2 ?_
 refine co rfl (CL (eD (n:=N) (B:=Ex N l) (l:=s) AA) rfl rfl rfl) ?_
 refine ac ?_
 refine wk [11,10,8] rfl ?_
 refine an ?_ ?_<;>intro h2 q2
 have Ur:=ADX (n:=(N:Int)) hv MY
 refine ac ?_
 refine Tr.ret (Fin.AF (Fin.FK rfl rfl ?_ rfl ?_))
 · refine bool_eq ?_;exact Ur.2.symm
 · refine int_eq ?_;exact Ur.1.symm
 have hsb:DW ((N:Nat):Int) s=true:=by simpa using h2
 have hv3:=pI hv hsb
 refine ac ?_
 refine ap ?_
 refine TO.G4 0 rfl rfl AB (An rfl rfl AB rfl (T4 (n:=N) (C0 N l) (fun i h=>eC (LA AA hsb) hsb h)) ⟨kq,kz⟩) ?_
 refine ap ?_
 refine Tr.ret (Fin.FK rfl rfl ?_ rfl ?_)
 · refine bool_eq ?_;rw [hv3.2];exact Vv (n:=(N:Int)) hv (LA AA hsb) (NR hsb)
 · refine int_eq ?_;exact hv3.1.symm
abbrev DR (l:List Bb):Pr:=slice 8 (l.map Et)
def PI (c:BT) (x:Bb):Bool:=decide (x.AZ<0)||decide (x.AZ≥c.I3.length)
def SF (c:BT) (x:Bb):Int:=c.I3.getD x.AZ.toNat 0
def EY (c:BT) (l:List Bb):Int:=if 24<l.length then 3 else if l.any (PI c) then 40 else 0
def SG (c:BT) (l:List Bb):List Int:=if EY c l=0 then l.map (SF c) else []
open Classical in
noncomputable def KV (e:Dl) (c:BT) (l:List Bb):Int:=if FR e=false then 31 else if c.check (e.Bt.length:Nat)≠0 then c.check (e.Bt.length:Nat) else EY c l
theorem eE {c:BT} {l:List Bb} (h:24<l.length):EY c l=3:=by unfold EY;rw [if_pos h]
theorem WJ {c:BT} {l:List Bb} {k:Nat} {x:Bb} (h:¬24<l.length) (hx:l[k]? =some x) (hb:PI c x=true):EY c l=40:=by unfold EY;rw [if_neg h,if_pos (List.any_eq_true.2 ⟨x,List.mem_of_getElem? hx,hb⟩)]
theorem eF {c:BT} {l:List Bb} (h:¬24<l.length) (hb:∀j y,j<l.length→l[j]? =some y→PI c y=false):EY c l=0:=by
 unfold EY;rw [if_neg h,if_neg]
 rw [Bool.not_eq_true,List.any_eq_false]
 intro y hy
 obtain ⟨j,hj⟩:=List.mem_iff_getElem?.1 hy
 rw [hb j y Yh hj];decide
theorem WI {c:BT} {l:List Bb} {e:Int} (h:EY c l=e) (he:e≠0):SG c l=[]:=by unfold SG;rw [if_neg Kr]
theorem Xf {c:BT} {l:List Bb} (h:EY c l=0):SG c l=l.map (SF c):=by unfold SG;rw [if_pos h]
theorem we {c:BT} {x:Bb} (h:0≤x.AZ∧x.AZ<c.I3.length):c.I3[x.AZ.toNat]? =some (SF c x):=by
 unfold SF;rw [List.getD_eq_getElem?_getD,List.getElem?_eq_getElem AA];rfl
theorem pJ {c:BT} {l:List Bb} {k:Nat} {x:Bb} (h:l[k]? =some x):(((l.take k).map (SF c)).map fun n=>[int n])++[[int (SF c x)]]=((l.take (k+1)).map (SF c)).map fun n=>[int n]:=by
 rw [List.take_add_one,h,List.map_append,List.map_append];rfl
def O6 (l:List Int):Int:=l.foldl max (-1)
theorem gv {l:List BI} (h0:l≠[]) (hl:l.length≤1000000):Ba prog 154 [reqs l] (lens (l.map PG).length) (Bp) (fun v=>D8 61 2 (l.map PG) v):=by
 refine Ba.of func154 rfl rfl BA fun M0 w0 S rs M1 w1=> ?_
 have hpos:=M8 (f:=PG) h0
 refine a2 ?_
 refine co rfl (Ff rfl underlying33 vq) ?_
 refine ac ?_
 refine Tr.ex 4 rfl (fun z1=>Tr.fact 4 rfl fun Eh=> ?_)
 refine Tr.cn rfl ?_ ?_<;>intro h1 q1
 exfalso;have:=Eh h1;simp_all
 refine ac ?_
 refine ap ?_
 refine TO.pad ?_
 refine TO.Dj 0 rfl rfl AB (Iv rfl rfl AB rfl underlying33 Cr Sn Sc rfl AB AB vq vq hpos Nt Df) (fun v1=> ?_)
 refine ap ?_
 refine Tr.ret (Fin.drop 1 ?_)
 refine Fin.Eo rfl rfl ?_ Po
 · exact Ij
theorem gw   :BC prog 154 [slice 2 []] (full 2 []):=by
 refine fo func154 rfl ⟨rfl,rfl⟩ fun M0 w0=> ?_
 refine a2 ?_
 refine co rfl (Ff rfl underlying33 vq) ?_
 refine ac ?_
 refine Tr.ex 4 rfl (fun z1=>Tr.fact 4 rfl fun Eh=> ?_)
 · repeat' first|exact DL 2|exact Lr|refine co rfl (Mz rfl underlying33 Cr vq vq) ?_|refine ac ?_|(refine Tr.cn rfl ?_ ?_<;>intro h q)
theorem gy {l:List BI} (hl:l.length≤1000000):BC Tryz.prog 154 [reqs l] (reqs l):=by
 by_cases h0:l=[]
 · subst h0;exact BC.le gw (fun _ _ _ h=>h) (B5 _ _)
 · exact (Ba.ABo (rows:=l.map PG) (BP fun _=>rfl) (gv h0 hl)).pure
theorem pK {l:List Bb} {r:List BI} {d:List Int} (G2:∀x∈l,x.C1.small) (hl:l.length≤1000000) (hr:r.length≤1000000) (hd:d.length≤1000000):PT prog 100 [agg [DR l,reqs r,ints d]] (fun x=>agg [DR l,reqs r,is x]) (fun x=>[Bs 3 1 (d.map fun n=>[int n]) x]):=by
 refine PT.of func100 rfl rfl BA fun M0 w0 S rs M1 w1=>(Tr.HK 0 0 rfl rfl fun I5=>(Tr.seq (Tr.Ao (tp rfl (Bj rfl (Va rfl)) ?_))))
 refine Tl rfl rfl rfl rfl z35 E9 (fun b1=> ?_)
 refine ao ?_
 refine Tr.seq (Tr.pad (Tr.pad (Tr.pad (Tr.rx ?_))))
 refine ax ?_
 refine xo rfl (fun _=>Ct (gy hr) rfl rfl) ?_
 refine ax ?_
 refine Cx.ef 0 rfl rfl AB (Gm rfl rfl AB rfl (N9 (l:=d) hd) kz) ?_
 refine Cx.ef 1 rfl rfl AB (dx (d:=12) (s:=11) (p:=fun v=>agg [is (.slice none 0 0),reqs r,Ac v (lens d.length)]) (q:=agg [is (.slice none 0 0),reqs r,lens d.length]) rfl AB (fun _=>BS ⟨Lr,Lr,As _ _,trivial⟩) rfl rfl AB (fun v=>Zw rfl rfl AB (fun _=>Al (rows:=[(1,[_]),(2,[_])]) rfl Lt E9 ⟨⟨rfl,VL.le (vl rfl) (Af _)⟩,⟨⟨rfl,VL.le (vl rfl) (Af _)⟩,trivial⟩⟩ rfl))) (Cx.ef 2 rfl rfl AB (CN rfl rfl AB rfl z35 E9) (Cx.DY 2 rfl rfl (T3 rfl rfl rfl AB rfl rfl (Ad _) CJ rfl rfl) ?_))
 refine Cx.nil ⟨by kernel_rfl,?_⟩
 refine BJ.jY 11 rfl (fun v11=> ?_)
 refine BJ.jY 12 rfl (fun v12=> ?_)
 refine BJ.jY 3 rfl (fun v3=> ?_)
 refine BJ.gh 0 11 rfl rfl (BJ.gj 1 12 11 rfl rfl rfl (BJ.gj 2 3 12 rfl rfl rfl (BJ.done al5 (Fin.shape 3 (fun b=> .pointer (some ⟨b,0,none⟩)) rfl (fun b9 e9=> ?_)))))
 subst e9
 refine Fin.Xe 1 2 rfl rfl (Fin.drop 1 (Fin.go (wk [3,2,1] rfl ?_)))
 refine ac ?_
 refine Tr.block (Tr.H8 1 [Ac (.slice none 0 0) (DR (l.take 0)),reqs r,Ac v11 (lens d.length)] rfl ⟨Bq rfl,Lr,Lr,trivial⟩ (Tr.B_ 86 8 (Tr.Ep _ (kk [15,14,3,2] rfl) (fun k u=>[(16,int ((k:Nat):Int))]) (fun k u=>Hp M0 w0 S (At 86 8 u::Bs 3 1 (d.map fun n=>[int n]) v11::AE true b9 35 [Ac u (DR (l.take k)),reqs r,Ac v11 (lens d.length)]::AE true b1 35 (([.slice none 0 0,.slice none 0 0,.slice none 0 0]:List Value).map is)::Ak M1 w1::rs)) (fun k:Nat=>k≤(l).length) (fun k:Nat=>(l).length-k) 0 (.slice none 0 0) (Nat.zero_le _) kz (fun _ _ h=>h) ?_)))
 rintro k u BR
 refine ac ?_
 refine Tr.seq ?_
 refine Tr.cn rfl ?_ ?_<;>intro h1 q1
 have Ai:k<(l).length:=AH h1
 obtain ⟨x,Ah⟩:=at_ Ai
 refine ac ?_
 refine Tr.seq (Tr.block (Tr.seq (Tr.Ao (tp rfl (AD rfl underlying32 Dp (vl rfl) (vl rfl) AA (Aa Ah)) (tp rfl (AP rfl HW Dp (vl rfl) rfl rfl) ?_)))))
 refine Tl rfl rfl rfl rfl P5 LH (fun b10=> ?_)
 refine sf 0 5 ⟨rfl,rfl,rfl⟩ rfl rfl rfl rfl ?_
 refine ao ?_
 refine Tr.pad (Tr.rx ?_)
 refine ax ?_
 refine xo rfl (fun _=>Ct (tF (c:=x) (G2 x (List.mem_of_getElem? Ah))) rfl rfl) ?_
 refine xo rfl (fun _=>AO (xs:=[.tmp 23]) (rows:=[_]) rfl rfl underlying32 Dp P5 rfl AB ⟨⟨Am,(Va rfl)⟩,trivial⟩ AB) ?_
 refine Cx.ef 1 rfl rfl AB (B8 rfl rfl rfl rfl underlying32 Dp Y7 P5 (Kb rfl) (Kf rfl) (A_ BO (Ka rfl))) ?_
 refine xo rfl (fun _=>AW rfl Lu (vl rfl)) (Cx.DY 3 rfl rfl (F7 rfl rfl rfl (vl rfl) rfl AA9 BA) ?_)
 refine Cx.nil ⟨by kernel_rfl,?_⟩
 refine BJ.RC 1 3 25 rfl rfl AB rfl (fun v1=> ?_)
 refine BJ.done al6 ?_
 refine ac ?_
 refine Tr.drop 0 (wk [16,15,14,3,2] rfl ?_)
 refine ac ?_
 refine Fin.H8 2 [Ac v1 (DR (l.take (k+1))),reqs r,Ac v11 (lens d.length)] rfl ⟨BE bW,Lr,Lr,trivial⟩ ?_
 exact Fin.DM (k+1) v1 (⟨Ai,by omega⟩) ⟨⟨_,rfl,AG k⟩,kz⟩ (fun _ _ h=>h)
 have BM:k=(l).length:=by have:=AJ h1;omega
 subst BM
 rw [List.take_length]
 refine ac ?_
 refine ao ?_
 refine TO.AK 3 rfl rfl rfl (vl rfl) (Va rfl) rfl CJ rfl rfl ?_
 refine ao ?_
 refine Tr.ret (Fin.drop 0 (Fin.drop 1 (Fin.J7 (Fin.xz v11 [_] rfl (AM.cell 0 rfl rfl Cu CJ rfl Lr) ?_ (List.Perm.refl _)))))
 · exact BS ⟨As _ _,Lr,EK _ _,trivial⟩
noncomputable def WL (c:BT) (l:List Bb) (r:List BI) (fr:Int):Option (List Int×List Int×List Int):=OI c r (l.map (SF c)) fr l.length (DQ l.length r l.length).1
open Classical in
noncomputable def KW (e:Dl) (c:BT) (l:List Bb) (r:List BI) (fr:Int):Int:=if KV e c l≠0 then KV e c l else if BG (l.length:Nat) r≠0 then BG (l.length:Nat) r else match WL c l r fr with|none=>51|some _=>0
noncomputable def zJ (c:BT) (l:List Bb) (r:List BI) (fr:Int):List Int:=match WL c l r fr with|none=>[]|some p=>p.1
open Classical in
noncomputable def Nu (e:Dl) (c:BT) (l:List Bb) (r:List BI) (fr:Int):List Bb:=if KW e c l r fr=0 then l else []
open Classical in
noncomputable def Qw (e:Dl) (c:BT) (l:List Bb) (r:List BI) (fr:Int):List BI:=if KW e c l r fr=0 then r else []
open Classical in
noncomputable def Ua (e:Dl) (c:BT) (l:List Bb) (r:List BI) (fr:Int):List Int:=if KW e c l r fr=0 then zJ c l r fr else []
noncomputable abbrev pL (e:Dl) (c:BT) (l:List Bb) (r:List BI) (fr:Int):List Pr:=[DR (Nu e c l r fr),reqs (Qw e c l r fr),ints (Ua e c l r fr)]
section
variable {e:Dl} {c:BT} {l:List Bb} {r:List BI} {fr:Int}
theorem T5 {n:Int} (h:c.check n=0):c.own=0∧(c.I3.length:Int)=n∧∀t∈c.I3,c.has t=true:=by
 have h':=h
 unfold BT.check at h
 split at h
 · cases h
 ·
  split at h
  · cases h
  ·
   split at h
   · cases h
   ·
    split at h
    · cases h
    ·
     split at h
     · cases h
     ·
      split at h
      · cases h
      ·
       rename_i _ _ _ _ _ h6
       rw [not_or,Classical.not_not,Bool.not_eq_true,List.any_eq_false] at h6
       refine ⟨by unfold BT.own;rw [h6.1];exact h',h6.1,fun t ht=>by simpa using h6.2 t ht⟩
theorem SH (h:EY c l=0):l.length≤24∧∀x∈l,PI c x=false:=by
 unfold EY at h
 by_cases h1:24<l.length
 · rw [if_pos h1] at h;cases h
 ·
  rw [if_neg h1] at h
  refine ⟨by omega,fun x hx=> ?_⟩
  cases hb:PI c x with
  |false=>rfl
  |true=>rw [if_pos (List.any_eq_true.2 ⟨x,hx,hb⟩)] at h;cases h
theorem uv (h:EY c l=0) (ht:∀t∈c.I3,c.has t=true):∀x∈l.map (SF c),c.has x=true:=fun x hx=>by
 obtain ⟨y,hy,rfl⟩:=List.mem_map.1 hx
 have hb:=(SH h).2 y hy
 unfold PI at hb
 rw [Bool.or_eq_false_iff,decide_eq_false_iff_not,decide_eq_false_iff_not] at hb
 exact ht _ (List.mem_of_getElem? (we AA))
theorem T6 (h:KV e c l≠0):KW e c l r fr=KV e c l:=by unfold KW;rw [if_pos h]
theorem wg (h:KV e c l=0) (hv:BG (l.length:Nat) r≠0):KW e c l r fr=BG (l.length:Nat) r:=by unfold KW;rw [if_neg (not_not_intro h),if_pos hv]
theorem pM (h:KV e c l=0) (hv:BG (l.length:Nat) r=0) (hs:WL c l r fr=none):KW e c l r fr=51:=by unfold KW;rw [if_neg (not_not_intro h),if_neg (not_not_intro hv),hs]
theorem wh {p:List Int×List Int×List Int} (h:KV e c l=0) (hv:BG (l.length:Nat) r=0) (hs:WL c l r fr=some p):KW e c l r fr=0:=by unfold KW;rw [if_neg (not_not_intro h),if_neg (not_not_intro hv),hs]
theorem pN (h:KW e c l r fr≠0):Nu e c l r fr=[]∧Qw e c l r fr=[]∧Ua e c l r fr=[]:=by unfold Nu Qw Ua;rw [if_neg h,if_neg h,if_neg h];exact ⟨rfl,rfl,rfl⟩
theorem pO (h:KW e c l r fr=0):Nu e c l r fr=l∧Qw e c l r fr=r∧Ua e c l r fr=zJ c l r fr:=by unfold Nu Qw Ua;rw [if_pos h,if_pos h,if_pos h];exact ⟨rfl,rfl,rfl⟩
theorem SI {k:Int} (h:KW e c l r fr=k) (hk:k≠0):Pr.le (agg [is (.slice none 0 0),is (.slice none 0 0),is (.slice none 0 0)]) (agg (pL e c l r fr)):=by
 obtain ⟨h1,h2,h3⟩:=pN (e:=e) (c:=c) (l:=l) (r:=r) (fr:=fr) (by rw [h];exact hk)
 unfold pL;rw [h1,h2,h3];exact BS ⟨AQ 8,AQ 2,AQ 1,trivial⟩
theorem uw {d b y:List Int} (h:KW e c l r fr=0) (hs:WL c l r fr=some (d,b,y)):Pr.le (agg [DR l,reqs r,ints d]) (agg (pL e c l r fr)):=by
 obtain ⟨h1,h2,h3⟩:=pO h
 unfold pL;rw [h1,h2,h3];unfold zJ;rw [hs];exact Pr.le_refl _
theorem SJ {q:BI} {m:Nat} {d:List Int} {i:Int} (h:r[m]? =some q):Fx (r.take (m+1)) d i fr=if q.thn=i then max (Fx (r.take m) d i fr) (d.getD q.fst.toNat 0+1) else Fx (r.take m) d i fr:=by
 unfold Fx;rw [List.take_add_one,h,List.foldl_append];rfl
theorem Ec {l:List Int} {i:Nat} (h:i<l.length):l[i]? =some (l.getD i 0):=by rw [List.getD_eq_getElem?_getD,List.getElem?_eq_getElem h];rfl
end
structure Su where
 code:Int
 x1:Int
 x2:Int
 s1:Int
 s2:Int
 c1:Int
 c2:Int
 m1:Int
 m2:Int
 lo:Int
 hi:Int
abbrev AGi:Pr:=Cp.ex fun l:List UInt8=>str l
abbrev T7 (s:Su):List Pr:=[int s.code,AGi,int s.x1,int s.x2,int s.s1,int s.s2,int s.c1,int s.c2,int s.m1,int s.m2,int s.lo,int s.hi]
def suT:List Su:=[⟨1,10,0,5,0,14,128,19,0,1,2⟩,⟨2,10,0,5,0,14,128,20,0,1,3⟩,⟨3,10,0,5,0,15,168,20,0,1,3⟩,⟨4,11,1024,6,0,15,168,20,0,1,3⟩,⟨5,11,1024,5,0,15,168,20,0,1,3⟩,⟨6,10,0,5,0,16,128,20,0,1,3⟩,⟨7,11,2048,5,0,16,128,20,0,1,3⟩,⟨8,12,256,5,0,16,128,20,0,1,3⟩,⟨9,12,256,7,0,16,256,21,0,3,3⟩,⟨10,12,256,5,0,17,128,22,0,3,3⟩,⟨11,12,384,7,0,17,256,22,0,3,3⟩,⟨12,12,256,5,0,18,0,22,0,3,3⟩,⟨13,10,0,5,0,17,256,22,0,3,3⟩,⟨14,12,256,0,0,17,128,22,0,4,4⟩,⟨15,12,256,0,0,18,0,22,0,4,4⟩,⟨16,13,768,0,0,17,256,22,0,4,4⟩]
abbrev pP:Su:=⟨0,0,0,0,0,0,0,0,0,0,0⟩
def Sg (code:Int):Bool:=decide (1≤code∧code≤16)
def Qn (code:Int):Su:=if Sg code then suT[(code-1).toNat]?.getD pP else pP
theorem zK {code:Int} (h:1≤code∧code≤16):suT[(code-1).toNat]? =some (Qn code):=by
 obtain ⟨x,hx⟩:=at_ (l:=suT) (k:=(code-1).toNat) (by show _<16;omega)
 unfold Qn Sg;rw [if_pos (decide_eq_true h),hx];rfl
theorem CO {a l m x1 y1 x2 y2 x3 y3 x4 y4:Int} {s:List UInt8}  :BC prog 267 [int a,str s,agg [int x1,int y1],agg [int x2,int y2],agg [int x3,int y3],agg [int x4,int y4],int l,int m] (agg (T7 ⟨a,x1,y1,x2,y2,x3,y3,x4,y4,l,m⟩)):=by
 refine BC.of func267 rfl rfl BA fun M0 w0=> ?_
 refine Tr.seq (Tr.Ao ?_)
 iterate 4 refine tp rfl (Bj rfl (Va rfl)) ?_
 refine Tl rfl rfl rfl rfl Sq IJ (fun b1=> ?_)
 refine TO.nil (Fin.go (Tr.seq (Tr.Ao (tm rfl (tm rfl ?_)))))
 iterate 4 refine tp rfl (AP rfl JL LG (vl rfl) rfl rfl) ?_
 refine tm rfl (tm rfl (tp rfl (Al (rows:=[(0,[_]),(1,[_]),(2,_),(3,_),(4,_),(5,_),(6,[_]),(7,[_])]) rfl Wq IJ ⟨⟨rfl,(Vo rfl)⟩,⟨⟨rfl,(Vo rfl)⟩,⟨⟨rfl,(Va rfl)⟩,⟨⟨rfl,(Va rfl)⟩,⟨⟨rfl,(Va rfl)⟩,⟨⟨rfl,(Va rfl)⟩,⟨⟨rfl,(Vo rfl)⟩,⟨⟨rfl,(Vo rfl)⟩,trivial⟩⟩⟩⟩⟩⟩⟩⟩ rfl) (TO.re 25 (agg (T7 ⟨a,x1,y1,x2,y2,x3,y3,x4,y4,l,m⟩)) rfl (BS ⟨Lr,Ax _ (Lr),Lr,Lr,Lr,Lr,Lr,Lr,Lr,Lr,Lr,Lr,trivial⟩) (TO.AK 0 rfl rfl rfl (vl rfl) (Va rfl) rfl Fv rfl rfl (TO.nil (Fin.go (N0 16 rfl (Tr.ret (Fin.CX rfl (AM.cell 0 rfl rfl Iu Fv rfl (Lr)) ?_)))))))))
 · exact Lr
theorem Xg   :BC prog 227 [] (slice 12 (suT.map T7)):=by
 refine fo func227 rfl ⟨rfl,rfl⟩ fun M0 w0=> ?_
 refine ac ?_
 refine Tr.seq (Tr.Ao (tp rfl (CL (Bm) rfl rfl rfl) (tp rfl (CL (Bm) rfl rfl rfl) (tp rfl (Al (rows:=[]) rfl xO EU trivial rfl) ?_))))
 refine Tl rfl rfl rfl rfl Kv EU (fun b1=> ?_)
 refine Tl rfl rfl rfl rfl Kv EU (fun b2=> ?_)
 refine Tl rfl rfl rfl rfl Kv EU (fun b3=> ?_)
 refine sf 2 1 ⟨rfl,rfl,rfl⟩ rfl rfl rfl rfl ?_
 refine sf 1 2 ⟨rfl,rfl,rfl⟩ rfl rfl rfl rfl ?_
 refine sf 0 3 ⟨rfl,rfl,rfl⟩ rfl rfl rfl rfl ?_
 refine ao ?_
 refine Tr.seq (Tr.Ao (tp rfl (CL (Bm) rfl rfl rfl) (tp rfl (CL (Bm) rfl rfl rfl) ?_)))
 refine Tl rfl rfl rfl rfl Kv EU (fun b4=> ?_)
 refine Tl rfl rfl rfl rfl Kv EU (fun b5=> ?_)
 refine sf 1 4 ⟨rfl,rfl,rfl⟩ rfl rfl rfl rfl ?_
 refine sf 0 5 ⟨rfl,rfl,rfl⟩ rfl rfl rfl rfl ?_
 refine ao ?_
 refine wk [5,4,3,2,1] rfl (Tr.seq (Tr.Ao (tp rfl (CL (Bm) rfl rfl rfl) (tp rfl (CL (Bm) rfl rfl rfl) (tp rfl (CL (Bm) rfl rfl rfl) ?_)))))
 refine Tl rfl rfl rfl rfl Kv EU (fun b6=> ?_)
 refine Tl rfl rfl rfl rfl Kv EU (fun b7=> ?_)
 refine Tl rfl rfl rfl rfl Kv EU (fun b8=> ?_)
 refine sf 2 6 ⟨rfl,rfl,rfl⟩ rfl rfl rfl rfl ?_
 refine sf 1 7 ⟨rfl,rfl,rfl⟩ rfl rfl rfl rfl ?_
 refine sf 0 8 ⟨rfl,rfl,rfl⟩ rfl rfl rfl rfl ?_
 refine ao ?_
 refine wk [8,7,6,5,4,3,2,1] rfl (Tr.seq (Tr.Ao ?_))
 iterate 4 refine tp rfl (CL (Bm) rfl rfl rfl) ?_
 refine Tl rfl rfl rfl rfl Kv EU (fun b9=> ?_)
 refine Tl rfl rfl rfl rfl Kv EU (fun b10=> ?_)
 refine Tl rfl rfl rfl rfl Kv EU (fun b11=> ?_)
 refine Tl rfl rfl rfl rfl Kv EU (fun b12=> ?_)
 refine sf 3 9 ⟨rfl,rfl,rfl⟩ rfl rfl rfl rfl ?_
 refine sf 2 10 ⟨rfl,rfl,rfl⟩ rfl rfl rfl rfl ?_
 refine sf 1 11 ⟨rfl,rfl,rfl⟩ rfl rfl rfl rfl ?_
 refine sf 0 12 ⟨rfl,rfl,rfl⟩ rfl rfl rfl rfl ?_
 refine ao ?_
 refine wk [12,11,10,9,8,7,6,5,4,3,2,1] rfl (Tr.seq (Tr.Ao (tp rfl (CL (Bm) rfl rfl rfl) (tp rfl (CL (Bm) rfl rfl rfl) ?_))))
 refine Tl rfl rfl rfl rfl Kv EU (fun b13=> ?_)
 refine Tl rfl rfl rfl rfl Kv EU (fun b14=> ?_)
 refine sf 1 13 ⟨rfl,rfl,rfl⟩ rfl rfl rfl rfl ?_
 refine sf 0 14 ⟨rfl,rfl,rfl⟩ rfl rfl rfl rfl ?_
 refine ao ?_
 refine wk [14,13,12,11,10,9,8,7,6,5,4,3,2,1] rfl ?_
 refine ac ?_
 refine co rfl (AR rfl (CO) ⟨kq,kz⟩) ?_
 refine ac ?_
 refine co rfl (AR rfl (CO) ⟨kq,kz⟩) ?_
 refine ac ?_
 refine co rfl (AR rfl (CO) ⟨kq,kz⟩) (co rfl (CL (Bm) rfl rfl rfl) (co rfl (CL (Bm) rfl rfl rfl) ?_))
 refine ac ?_
 refine co rfl (AR rfl (CO) ⟨kq,kz⟩) (co rfl (CL (Bm) rfl rfl rfl) ?_)
 refine ac ?_
 refine co rfl (AR rfl (CO) ⟨kq,kz⟩) ?_
 refine ac ?_
 refine co rfl (AR rfl (CO) ⟨kq,kz⟩) (co rfl (CL (Bm) rfl rfl rfl) ?_)
 refine ac ?_
 refine co rfl (AR rfl (CO) ⟨kq,kz⟩) ?_
 refine ac ?_
 refine co rfl (AR rfl (CO) ⟨kq,kz⟩) (co rfl (AP rfl JL LG vq rfl rfl) (co rfl (CL (Bm) rfl rfl rfl) (co rfl (CL (Bm) rfl rfl rfl) (co rfl (AP rfl JL LG vq rfl rfl) (co rfl (AR rfl (CO) ⟨kq,kz⟩) ?_)))))
 refine ac ?_
 refine co rfl (AR rfl (CO) ⟨kq,kz⟩) (co rfl (CL (Bm) rfl rfl rfl) (co rfl (CL (Bm) rfl rfl rfl) ?_))
 refine ac ?_
 refine co rfl (AR rfl (CO) ⟨kq,kz⟩) ?_
 refine ac ?_
 refine co rfl (AR rfl (CO) ⟨kq,kz⟩) ?_
 refine ac ?_
 refine co rfl (AR rfl (CO) ⟨kq,kz⟩) ?_
 refine ac ?_
 refine co rfl (AR rfl (CO) ⟨kq,kz⟩) ?_
 refine ac ?_
 refine co rfl (AR rfl (CO) ⟨kq,kz⟩) (co rfl (CL (Bm) rfl rfl rfl) ?_)
 refine ac ?_
 refine co rfl (AR rfl (CO) ⟨kq,kz⟩) (co rfl (AO (xs:=[.tmp 33,.tmp 38,.tmp 43,.tmp 48,.tmp 53,.tmp 58,.tmp 63,.tmp 68,.tmp 73,.tmp 78,.tmp 83,.tmp 88,.tmp 93,.tmp 98,.tmp 103,.tmp 108]) (rows:=(suT.map T7)) rfl rfl underlying287 Fv Sq rfl AB ⟨⟨Am,VL.le vq (Ad _)⟩,⟨⟨Am,VL.le vq (Ad _)⟩,⟨⟨Am,VL.le vq (Ad _)⟩,⟨⟨Am,VL.le vq (Ad _)⟩,⟨⟨Am,VL.le vq (Ad _)⟩,⟨⟨Am,VL.le vq (Ad _)⟩,⟨⟨Am,VL.le vq (Ad _)⟩,⟨⟨Am,VL.le vq (Ad _)⟩,⟨⟨Am,VL.le vq (Ad _)⟩,⟨⟨Am,VL.le vq (Ad _)⟩,⟨⟨Am,VL.le vq (Ad _)⟩,⟨⟨Am,VL.le vq (Ad _)⟩,⟨⟨Am,VL.le vq (Ad _)⟩,⟨⟨Am,VL.le vq (Ad _)⟩,⟨⟨Am,VL.le vq (Ad _)⟩,⟨⟨Am,VL.le vq (Ad _)⟩,trivial⟩⟩⟩⟩⟩⟩⟩⟩⟩⟩⟩⟩⟩⟩⟩⟩ AB) ?_)
 refine ac ?_
 refine wk [0] rfl ?_
 refine ac ?_
 · exact B5 _ _
theorem MI {code:Int}  :BC prog 192 [int code] (D6 [agg (T7 (Qn code)),int (if Sg code then 0 else 8)]):=by
 refine fo func192 rfl ⟨rfl,rfl⟩ fun M0 w0=>(Tr.seq (Tr.Ao ?_))
 refine Tl rfl rfl rfl rfl Sq IJ (fun b1=> ?_)
 refine ap ?_
 refine ag ?_ ?_<;>intro h1 q1
 refine ac ?_
 refine Tr.cond rfl (fun _=> ?_) (fun h=>nomatch h)
 refine Tr.seq (Tr.Ao (tp rfl (Al (rows:=[]) rfl Wq IJ trivial rfl) (TO.AK 0 rfl rfl rfl vq Cv rfl Fv rfl rfl (tm rfl (TO.nil (Fin.go (Tr.ret (Fin.AF (Fin.BZ rfl (AM.cell 0 rfl rfl Iu Fv rfl Lr) (AM.tmp rfl Lr) ?_)))))))))
 · exact jl
 refine an ?_ ?_<;>intro h2 q2
 refine ap ?_
 refine Tr.ret (Fin.AF (Fin.BZ rfl (AM.cell 0 rfl rfl Iu Fv rfl Lr) (AM.tmp rfl Lr) ?_))
 · exact jl
 have hin:1≤code∧code≤16:=by omega
 refine ac ?_
 refine Tr.seq (Tr.Ao (tp rfl (kc0 (Xg) rfl) ?_))
 refine ap ?_
 refine tp rfl (AD rfl underlying287 Fv vq vq AA (Bf (f:=T7) (zK AA))) ?_
 refine ap ?_
 refine wk [3,2] rfl (Tr.ret (Fin.BZ rfl (AM.cell 0 rfl rfl Iu Fv rfl Lr) (AM.tmp rfl Lr) ?_))
 · exact A7 ⟨Lr,int_eq (by unfold Sg;rw [if_pos (decide_eq_true hin)]),trivial⟩
abbrev anyI:Pr:=Cp.ex fun n:Int=>int n
theorem gz:∀r∈IK,∀x∈r.sizes,0≤x∧x≤40000:=by decide+kernel
theorem Xh {a b k:Int} (h:LO a b k=true):(0≤a∧a≤40000)∧(0≤b∧b≤40000):=by
 have h1:=(ZK h).1
 rw [decide_eq_true_eq] at h1
 unfold Dr at h1
 split at h1
 next ha=>
  refine ⟨by omega,?_⟩
  split at h1
  · split at h1<;>omega
  ·
   split at h1
   · split at h1<;>omega
   ·
    split at h1
    ·
     split at h1
     next hc=>
      obtain ⟨x,hx,hb⟩:=List.any_eq_true.1 hc
      simp only [aX,List.mem_cons,List.not_mem_nil,or_false] at hx
      have:b=x:=by simpa using hb
      omega
     · omega
    ·
     split at h1
     ·
      split at h1
      next hc=>
       have hn:(Es a).sizes.any (fun x=>b==x)=true:=by
        cases he:(Es a).sizes.any (fun x=>b==x) with
        |true=>rfl
        |false=>
         have:=P7 (fun x=>b==x) (Es a).sizes
         rw [he] at this;simp at this;omega
       obtain ⟨x,hx,hb⟩:=List.any_eq_true.1 hn
       have:b=x:=by simpa using hb
       subst this
       exact gz _ (fR ha) _ hx
      · omega
     · omega
 · omega
theorem ux {c:HJ} (hv:EA c=true):c.ZL:=by
 have h:=JI hv
 have h1:=Xh h.key
 have h2:=Xh h.hash
 exact ⟨h.s1,h.k1,h1.1,h1.2,h2.1,h2.2⟩
section
variable {P:Program} {I:Ce} {E:Env} {o:Oper}
theorem JB {t:TypeId} {x:Operand} (ho:o.op= .unOp .not t x) (hx:VL E x EH):Ae P I o E EH:=
 Ae.same fun M w a he _=>by
  obtain ⟨b,h1⟩:=hx.ev he Ar
  have h1:a.eval x= .bool b:=h1
  exact ⟨.bool (!b),by simp [execOp,ho,h1,Op.unary],_,rfl⟩
theorem zL {t u:TypeId} {x y:Operand} (ho:o.op= .binOp .neq t x y u) (hx:VL E x (Ge .i64)) (hy:VL E y (Ge .i64)):Ae P I o E EH:=
 Ae.same fun M w a he _=>by
  obtain ⟨m,h1⟩:=hx.ev he Ar
  obtain ⟨n,h2⟩:=hy.ev he Ar
  have h1:a.eval x= .int .i64 m:=h1
  have h2:a.eval y= .int .i64 n:=h2
  exact ⟨.bool (m !=n),by simp [execOp,ho,h1,h2,eqGuard,binOp,Op.intCmp],_,rfl⟩
theorem pQ {t u:TypeId} {x y:Operand} (ho:o.op= .binOp .eql t x y u) (hx:VL E x (Ge .i64)) (hy:VL E y (Ge .i64)):Ae P I o E EH:=
 Ae.same fun M w a he _=>by
  obtain ⟨m,h1⟩:=hx.ev he Ar
  obtain ⟨n,h2⟩:=hy.ev he Ar
  have h1:a.eval x= .int .i64 m:=h1
  have h2:a.eval y= .int .i64 n:=h2
  exact ⟨.bool (m==n),by simp [execOp,ho,h1,h2,eqGuard,binOp,Op.intCmp],_,rfl⟩
end
theorem Z7:Pr.le anyI (Ge .i64):=fun _ _ _ h=>h
theorem uy:Pr.le (Ge .i64) anyI:=fun _ _ _ h=>h
theorem zM:Pr.le yG (Ge .i64):=fun _ _ _ ⟨n,_,h⟩=>⟨n,h⟩
theorem Z8 {c:HJ}  :BC prog 189 [agg (DO c)] (D6 [Eu 3285282,Ge .i64]):=by
 refine fo func189 rfl ⟨rfl,rfl⟩ fun M0 w0=> ?_
 refine a2 ?_
 refine co rfl (Ct (L5 (c:=c)) rfl rfl) ?_
 refine an ?_ ?_<;>intro h1 q1
 refine ac ?_
 refine Tr.ret (Fin.AF (Fin.Dm rfl (Br.D4 _ _) rfl ?_ rfl ?_))
 · exact Ph
 · exact DA _ _
 have hv:EA c=true:=by cases hb:EA c with|true=>rfl|false=>exact absurd h1 (by rw [hb];decide)
 refine a2 ?_
 refine co rfl (Ct (XB hv (ux hv)) rfl rfl) (co rfl (Ct (rE2) rfl rfl) ?_)
 refine ac ?_
 refine Tr.ret (Fin.Dm rfl (Br.D4 _ _) rfl ?_ rfl ?_)
 · exact Lr
 · exact Lr
theorem SK {c:HJ} {key:Int}  :BC prog 344 [agg (DO c),int key] (EH):=by
 refine fo func344 rfl ⟨rfl,rfl⟩ fun M0 w0=> ?_
 refine a2 ?_
 refine co rfl (Ct (Z8 (c:=c)) rfl rfl) ?_
 refine ac ?_
 refine Tr.seq (Tr.re 6 rfl uy (Tr.ex 6 rfl fun e6=> ?_))
 · repeat' first|exact Lr|exact Ax _ Lr|refine cy h rfl (Ct (BC.Eu fun m hm=>cv AA) rfl rfl) (cy h rfl (pQ rfl (VL.le vq (DA _ _)) (VL.le vq zM)) ?_)|refine ac ?_|(refine Ch.cg rfl rfl rfl ?_ ?_<;>intro h q)
theorem pR {l:List (List UInt8)} {s:List UInt8}  :BC prog 342 [fU l,str s] (EH):=by
 refine fo func342 rfl ⟨rfl,rfl⟩ fun M0 w0=>(Tr.Cf 0 rfl fun D_=> ?_)
 refine a2 ?_
 refine Tr.block (Tr.BD _ (kk [1,0] rfl) (fun k:Nat=>[(5,int ((k:Nat):Int))]) (fun k:Nat=>k≤(l).length) (fun k:Nat=>(l).length-k) 0 (Nat.zero_le _) kz ?_)
 rintro k BR
 refine an ?_ ?_<;>intro h1 q1
 have Ai:k<(l).length:=AH h1
 obtain ⟨x,Ah⟩:=at_ Ai
 · repeat' first|exact Ax _ Lr|exact Fin.AL (k+1) ⟨Ai,by omega⟩ ⟨⟨_,rfl,AG k⟩,kz⟩|refine co rfl (AD rfl underlying127 Ms vq vq AA CM) ?_|refine ac ?_|(refine Tr.cn rfl ?_ ?_<;>intro h q)
 have BM:k=(l).length:=by have:=AJ h1;omega
 refine a3 ?_
 · exact BK
theorem pS {l:List HJ} {a:Int}  :BC prog 343 [LW l,int a] (EH):=by
 refine fo func343 rfl ⟨rfl,rfl⟩ fun M0 w0=>(Tr.Cf 0 rfl fun D_=> ?_)
 refine ac ?_
 refine ag ?_ ?_<;>intro h1 q1
 refine a3 ?_
 · exact BK
 refine an ?_ ?_<;>intro h2 q2
 refine a2 ?_
 · exact BK
 refine ac ?_
 refine ag ?_ ?_<;>intro h3 q3
 refine ac ?_
 refine wk [4] rfl ?_
 refine ac ?_
 · exact BK
 refine ac ?_
 refine cy h3 rfl (AD rfl underlying82 C8 vq vq AA (Bf (List.getElem?_eq_getElem (show Int.toNat a<l.length by omega)))) ?_
 refine ag ?_ ?_<;>intro h4 q4
 refine ac ?_
 refine cy h4 rfl (AD rfl underlying82 C8 vq vq AA (Bf (List.getElem?_eq_getElem (show Int.toNat a<l.length by omega)))) ?_
 refine ac ?_
 refine wk [4] rfl ?_
 refine ac ?_
 · exact BK
 refine ac ?_
 refine wk [4] rfl ?_
 refine ac ?_
 · exact BK
theorem g_ {e:Int} {l:List HJ} {i:Int} {an ha:List Int} {day:Int} {nm:List UInt8} (hi:0≤i∧i<(l.length:Nat)):BC prog 339 [int e,LW l,int i,ints an,ints ha,int day,str nm] (EH):=by
 refine fo func339 rfl ⟨rfl,rfl⟩ fun M0 w0=>(Tr.Cf 1 rfl fun Fl=> ?_)
 obtain ⟨c,hc⟩:=at_ (l:=l) (k:=i.toNat) AA
 refine ac ?_
 refine ao ?_
 refine tp rfl (AD rfl underlying82 C8 (vl rfl) (vl rfl) AA (Bf hc)) ?_
 refine ao ?_
 refine Tl rfl rfl rfl rfl RJ LU (fun b1=> ?_)
 refine sf 0 15 ⟨rfl,rfl,rfl⟩ rfl rfl rfl rfl ?_
 refine ao ?_
 refine jJ 0 1 2 3 4 5 6 15 16 rfl ?_
 refine ac ?_
 refine ac ?_
 refine Tr.cn rfl ?_ ?_<;>intro h1 q1
 refine ac ?_
 refine co rfl (Ct (L5 (c:=c)) rfl rfl) ?_
 refine ac ?_
 refine N0 14 rfl ?_
 refine ac ?_
 · exact C3
 refine ac ?_
 refine Wa 1 2 3 4 5 6 15 16 26 32 rfl ?_
 refine Tr.cn rfl ?_ ?_<;>intro h2 q2
 refine ac ?_
 refine Ch.cs 36 rfl ?_ ?_<;>intro h3 q3
 refine ac ?_
 refine cy h3 rfl (CL (pR) rfl rfl rfl) (cy h3 rfl (JB rfl (vl rfl)) ?_)
 refine ac ?_
 refine N0 14 rfl ?_
 refine ac ?_
 · exact Lr
 refine ac ?_
 refine N0 14 rfl ?_
 refine ac ?_
 · exact C3
 refine ac ?_
 refine Tr.cn rfl ?_ ?_<;>intro h4 q4
 refine ac ?_
 refine Ch.cs 49 rfl ?_ ?_<;>intro h5 q5
 refine ac ?_
 refine N0 14 rfl ?_
 refine ac ?_
 · exact C3
 refine ac ?_
 refine N0 14 rfl ?_
 refine ac ?_
 · exact C3
 refine ac ?_
 refine wk8 1 2 3 4 15 16 26 55 rfl ?_
 refine Tr.cn rfl ?_ ?_<;>intro h6 q6
 refine ac ?_
 refine co rfl (CL (KG) rfl rfl rfl) ?_
 refine ac ?_
 refine N0 14 rfl ?_
 refine ac ?_
 · exact C3
 refine ac ?_
 refine Tr.cn rfl ?_ ?_<;>intro h7 q7
 refine ac ?_
 refine Ch.cs 67 rfl ?_ ?_<;>intro h8 q8
 refine ac ?_
 refine cy h8 rfl (AD rfl underlying82 C8 (vl rfl) (vl rfl) AA (Bf (List.getElem?_eq_getElem (show Int.toNat (i+1)<l.length by omega)))) ?_
 refine ac ?_
 refine N0 14 rfl ?_
 refine ac ?_
 · exact C3
 refine ac ?_
 refine N0 14 rfl ?_
 refine ac ?_
 · exact C3
 refine ac ?_
 refine Tr.cn rfl ?_ ?_<;>intro h9 q9
 refine ac ?_
 refine co rfl (CL (pS) rfl rfl rfl) (co rfl (JB rfl (vl rfl)) ?_)
 refine ac ?_
 refine N0 14 rfl ?_
 refine ac ?_
 · exact Lr
 refine ac ?_
 refine wk6 1 2 3 15 16 84 rfl ?_
 refine Tr.cn rfl ?_ ?_<;>intro h10 Re
 refine ac ?_
 refine Tr.cn rfl ?_ ?_<;>intro h11 Sw
 refine ac ?_
 refine co rfl (CL (SK) rfl rfl rfl) (co rfl (JB rfl (vl rfl)) ?_)
 refine ac ?_
 refine N0 14 rfl ?_
 refine ac ?_
 · exact Lr
 refine ac ?_
 refine ac ?_
 refine co rfl (AD rfl underlying82 C8 (vl rfl) (vl rfl) AA (Bf (List.getElem?_eq_getElem (show Int.toNat (i+1)<l.length by omega)))) ?_
 refine ac ?_
 refine co rfl (CL (SK) rfl rfl rfl) (co rfl (JB rfl (vl rfl)) ?_)
 refine ac ?_
 refine N0 14 rfl ?_
 refine ac ?_
 · exact Lr
 refine ac ?_
 refine ac ?_
 refine Ch.cs 103 rfl ?_ ?_<;>intro h12 WE
 refine ac ?_
 refine cy h12 rfl (CL (KG) rfl rfl rfl) ?_
 refine ac ?_
 refine N0 14 rfl ?_
 refine ac ?_
 · exact C3
 refine ac ?_
 refine N0 14 rfl ?_
 refine ac ?_
 · exact C3
abbrev Xi:List Int:=[9,14,13,7,11,15,10,12]
theorem hO {l:List HJ} {an ha:List Int} {day:Int} {nm:List UInt8}  :BC prog 332 [LW l,ints an,ints ha,int day,str nm] (anyI):=by
 refine fo func332 rfl ⟨rfl,rfl⟩ fun M0 w0=>(Tr.Cf 0 rfl fun D_=> ?_)
 refine ac ?_
 refine ac ?_
 refine Tr.cn rfl ?_ ?_<;>intro h1 q1
 refine ac ?_
 refine ac ?_
 · exact C3
 refine ac ?_
 refine ac ?_
 refine Tr.cn rfl ?_ ?_<;>intro h2 q2
 refine ac ?_
 refine ac ?_
 · exact C3
 refine ac ?_
 refine Tr.seq (Tr.Aj (co rfl (AO (xs:=[.const (.int .i64 (9)),.const (.int .i64 (14)),.const (.int .i64 (13)),.const (.int .i64 (7)),.const (.int .i64 (11)),.const (.int .i64 (15)),.const (.int .i64 (10)),.const (.int .i64 (12))]) (rows:=(Xi.map fun n=>[int n])) rfl rfl underlying389 xJ z43 rfl AB ⟨⟨Am,VL.le (vl rfl) (Af _)⟩,⟨⟨Am,VL.le (vl rfl) (Af _)⟩,⟨⟨Am,VL.le (vl rfl) (Af _)⟩,⟨⟨Am,VL.le (vl rfl) (Af _)⟩,⟨⟨Am,VL.le (vl rfl) (Af _)⟩,⟨⟨Am,VL.le (vl rfl) (Af _)⟩,⟨⟨Am,VL.le (vl rfl) (Af _)⟩,⟨⟨Am,VL.le (vl rfl) (Af _)⟩,trivial⟩⟩⟩⟩⟩⟩⟩⟩ AB) ?_))
 refine ac ?_
 refine ac ?_
 refine Tr.block (Tr.BD [(0,_),(1,_),(2,_),(3,_),(4,_),(11,_)] (kk6 rfl) (fun m:Nat=>[(12,int ((m:Nat):Int))]) (fun m:Nat=>m≤(Xi).length) (fun m:Nat=>(Xi).length-m) 0 (Nat.zero_le _) ⟨ke rfl,trivial⟩ ?_)
 rintro m ND
 refine ac ?_
 refine co rfl (CB rfl underlying389 (Kf rfl)) ?_
 refine ac ?_
 refine Tr.cn rfl ?_ ?_<;>intro h3 q3
 have EW:m<(Xi).length:=AH h3
 obtain ⟨x,Ef⟩:=at_ EW
 have hm8:m<8:=EW
 refine ac ?_
 refine ac ?_
 refine Tr.block (Tr.BD [(0,_),(1,_),(2,_),(3,_),(4,_),(11,_),(12,_)] (kk7 rfl) (fun k:Nat=>[(13,int ((k:Nat):Int))]) (fun k:Nat=>k≤(l).length) (fun k:Nat=>(l).length-k) 0 (Nat.zero_le _) ⟨ke rfl,trivial⟩ ?_)
 rintro k BR
 refine ac ?_
 refine Tr.cn rfl ?_ ?_<;>intro h4 q4
 have Ai:k<(l).length:=AH h4
 obtain ⟨c,Ah⟩:=at_ Ai
 refine ac ?_
 refine ac ?_
 refine co rfl (AD rfl underlying389 xJ (Kf rfl) (vl rfl) AA (Aa Ef)) ?_
 refine ac ?_
 refine co rfl (AR rfl (g_ (e:=x) AA) ⟨ke rfl,ke rfl,ke rfl,ke rfl,ke rfl,ke rfl,ke rfl,trivial⟩) ?_
 refine ac ?_
 refine jJ 0 1 2 3 4 11 12 13 43 rfl (Tr.ex 43 rfl fun AH0=> ?_)
 refine Tr.cn rfl ?_ ?_<;>intro h5 q5
 refine ac ?_
 refine co rfl (AD rfl underlying389 xJ (Kf rfl) (vl rfl) AA (Aa Ef)) ?_
 refine ac ?_
 refine N0 10 rfl ?_
 refine ac ?_
 · exact C3
 refine ac ?_
 refine ac ?_
 exact Fin.AL (k+1) ⟨Ai,by omega⟩ ⟨⟨_,rfl,AG k⟩,ke rfl,ke rfl,ke rfl,ke rfl,ke rfl,ke rfl,ke rfl,trivial⟩
 have BM:k=(l).length:=by have:=AJ h4;omega
 refine ac ?_
 refine ac ?_
 exact Fin.AL (m+1) ⟨EW,by omega⟩ ⟨⟨_,rfl,AG m⟩,ke rfl,ke rfl,ke rfl,ke rfl,ke rfl,ke rfl,trivial⟩
 have KH:m=(Xi).length:=by have:=AJ h3;omega
 refine ac ?_
 refine ac ?_
 refine ac ?_
 · exact C3
def WH (s:Su) (x:Hx):Bool:=decide (s.s1=0)||decide (x.CF=s.s1)
def SL (ids:List Hx) (code:Int):Int:=if Sg code then idx (WH (Qn code)) ids else -1
def La (sv:CA) (offer:List Int) (v code:Int):Bool:=Sg code&&(offer.any fun x=>code==x)&&(sv.A0.any fun x=>code==x)&&decide ((Qn code).lo≤v)&&decide (v≤(Qn code).hi)&&decide (0≤SL sv.ids code)
theorem Hz {e:CA} {code:Int} (hl:e.ids.length≤1000000):BC prog 319 [agg (Bg e),int code] (D6 [int (SL e.ids code),bool (decide (0≤SL e.ids code))]):=by
 refine fo func319 rfl ⟨rfl,rfl⟩ fun M0 w0=> ?_
 refine ac ?_
 refine ao ?_
 refine tp rfl (Ct (MI (code:=code)) rfl rfl) ?_
 refine ao ?_
 refine Tl rfl rfl rfl rfl Sq IJ (fun b1=> ?_)
 refine sf 0 6 ⟨rfl,rfl,rfl⟩ rfl rfl rfl rfl ?_
 refine ao ?_
 refine ac ?_
 refine wk [15,6,2] rfl ?_
 refine Tr.cn rfl ?_ ?_<;>intro h1 q1
 have hK:SL e.ids code= -1:=by unfold SL;exact if_neg (fun h_=>by rw [if_pos h_] at h1;exact absurd h1 AB)
 refine ac ?_
 refine Tr.ret (Fin.AF (Fin.Dm rfl (Br.D4 _ _) rfl ?_ rfl ?_))
 · refine int_eq ?_;exact hK.symm
 · refine bool_eq ?_;rw [hK];rfl
 have hs:Sg code=true:=by cases h_:Sg code with|true=>rfl|false=>exact absurd h1 MW
 have hK:SL e.ids code=idx (WH (Qn code)) e.ids:=by unfold SL;exact if_pos hs
 refine a2 ?_
 refine Tr.block (Tr.BD _ (kk [6,2] rfl) (fun k:Nat=>[(8,int ((k:Nat):Int))]) (fun k:Nat=>k≤(e.ids).length∧(∀j y,j<k→e.ids[j]? =some y→WH (Qn code) y=false)) (fun k:Nat=>(e.ids).length-k) 0 (⟨Nat.zero_le _,fun j y hj=>absurd hj AA⟩) kz ?_)
 rintro k ⟨BR,AX⟩
 refine an ?_ ?_<;>intro h2 q2
 have Ai:k<(e.ids).length:=AH h2
 obtain ⟨x,Ah⟩:=at_ Ai
 refine ac ?_
 refine ag ?_ ?_<;>intro h3 q3
 refine ac ?_
 refine wk [39,8,6,2] rfl ?_
 refine ac ?_
 refine Tr.ret (Fin.AU (Fin.AF (Fin.AF (Fin.AU (Fin.AF (Fin.Dm rfl (Br.D4 _ _) rfl ?_ rfl ?_))))))
 · exact bM
 · exact aZ
 refine ac ?_
 refine cy h3 rfl (AD rfl underlying38 E3 vq vq AA (Aa Ah)) ?_
 refine ac ?_
 refine wk [39,8,6,2] rfl ?_
 refine Tr.cn rfl ?_ ?_<;>intro h4 q4
 refine ac ?_
 refine Tr.ret (Fin.AU (Fin.AF (Fin.AF (Fin.AU (Fin.AF (Fin.Dm rfl (Br.D4 _ _) rfl ?_ rfl ?_))))))
 · exact bM
 · exact aZ
 refine a2 ?_
 exact Fin.AL (k+1) ⟨⟨Ai,DV (p:=WH (Qn code)) Ah qz AX⟩,by omega⟩ ⟨⟨_,rfl,AG k⟩,kz⟩
 have BM:k=(e.ids).length:=by have:=AJ h2;omega
 subst BM
 refine a2 ?_
 refine Tr.ret (Fin.Dm rfl (Br.D4 _ _) rfl ?_ rfl ?_)
 · refine int_eq ?_;rw [hK];exact FA AX
 · refine bool_eq ?_;rw [hK,←FA AX];rfl
theorem eG {ids:List Hx} {code:Int} (h:0≤SL ids code):∃x,ids[(SL ids code).toNat]? =some x:=by
 unfold SL at h ⊢
 split at h
 ·
  rename_i hs
  rw [if_pos hs]
  unfold idx at h ⊢
  cases hf:ids.findIdx? (WH (Qn code)) with
  |none=>rw [hf] at h;simp at h
  |some i=>
   obtain ⟨hi,_⟩:=List.findIdx?_eq_some_iff_getElem.1 hf
   exact ⟨ids[i],by simp [hi]⟩
 · omega
theorem pT {e:CA} {of:List Int} {v code:Int} (h:La e of v code=true):0≤SL e.ids code:=by
 unfold La at h
 rw [Bool.and_eq_true,decide_eq_true_eq] at h
 exact h.2
theorem Lb {e:CA} {of:List Int} {v code:Int} (hl:e.ids.length≤1000000):BC prog 323 [agg (Bg e),ints of,int v,int code] (bool (La e of v code)):=by
 refine fo func323 rfl ⟨rfl,rfl⟩ fun M0 w0=> ?_
 refine ac ?_
 refine ao ?_
 refine tp rfl (Ct (MI (code:=code)) rfl rfl) ?_
 refine ao ?_
 refine Tl rfl rfl rfl rfl Sq IJ (fun b1=> ?_)
 refine sf 0 9 ⟨rfl,rfl,rfl⟩ rfl rfl rfl rfl ?_
 refine ao ?_
 refine ac ?_
 refine Ch.cs 20 rfl ?_ ?_<;>intro h1 q1
 refine ac ?_
 refine F6 3 4 44 rfl ?_
 refine ac ?_
 refine ac ?_
 · refine bool_eq ?_;unfold La;simp_all
 refine ac ?_
 refine cy h1 rfl (CL (KG) rfl rfl rfl) ?_
 refine ac ?_
 refine Ch.cs 26 rfl ?_ ?_<;>intro h2 q2
 refine ac ?_
 refine F6 3 4 44 rfl ?_
 refine ac ?_
 refine ac ?_
 · refine bool_eq ?_;unfold La;simp_all;intros;exfalso;exact q2 _ Bh rfl
 refine ac ?_
 refine cy h2 rfl (CL (KG) rfl rfl rfl) ?_
 refine ac ?_
 refine Ch.cs 33 rfl ?_ ?_<;>intro h3 q3
 refine ac ?_
 refine F6 3 4 44 rfl ?_
 refine ac ?_
 refine ac ?_
 · refine bool_eq ?_;unfold La;simp_all;intros;exfalso;exact q3 _ Bh rfl
 refine ac ?_
 refine Ch.cs 39 rfl ?_ ?_<;>intro h4 q4
 refine ac ?_
 refine F6 3 4 44 rfl ?_
 refine ac ?_
 refine ac ?_
 · refine bool_eq ?_;unfold La;simp_all;intros;omega
 refine ac ?_
 refine F6 3 4 44 rfl ?_
 refine Tr.cn rfl ?_ ?_<;>intro h5 q5
 refine ac ?_
 refine ac ?_
 · refine bool_eq ?_;unfold La;simp_all;intros;omega
 refine ac ?_
 refine ac ?_
 refine co rfl (CL (Hz (e:=e) (code:=code) hl) rfl rfl rfl) ?_
 refine ac ?_
 refine ac ?_
 refine ac ?_
 · refine bool_eq ?_;unfold La;simp_all
theorem iA {c e:CA} {day most:Int} {su:List Int} (hc:c.small) (he:e.small):BC prog 317 [agg (Bg c),agg (Bg e),int day,int most,ints su] (Cp.ex fun z:Int×Int×Int=>fact True (D6 [agg [int z.1,int z.2.1],int z.2.2])):=by
 refine fo func317 rfl ⟨rfl,rfl⟩ fun M0 w0=>(Tr.Cf 4 rfl fun AHa=> ?_)
 obtain ⟨od,hod⟩:∃od,(if e.own=true then e.A0 else su)=od:=⟨_,rfl⟩
 have hsu:=he.A0
 have hol:od.length≤9223372036854775807:=by rw [←hod];split<;>omega
 refine Tr.seq (Tr.Ao (tp rfl (Bj rfl Cv) (tp rfl (Bj rfl Cv) ?_)))
 refine Tl rfl rfl rfl rfl JZ Fi (fun b1=> ?_)
 refine ap ?_
 refine ac ?_
 refine co rfl (Ct (FO hc) rfl rfl) ?_
 refine ag ?_ ?_<;>intro h1 q1
 refine ac ?_
 refine Tr.cond rfl (fun _=> ?_) (fun h=>nomatch h)
 refine Tr.seq (Tr.Ao (tp rfl (Al (rows:=[]) rfl TW Fi trivial rfl) (TO.AK 0 rfl rfl rfl vq Cv rfl CG rfl rfl (tm rfl (TO.nil (Fin.go (wk [11,10] rfl (Tr.ret (Fin.AF (Fin.BZ rfl (AM.cell 0 rfl rfl Cy CG rfl Lr) (AM.tmp rfl Lr) ?_))))))))))
 · exact Ej
 refine cy h1 rfl (AP rfl Cg CC vq rfl rfl) (cy h1 rfl (Ct (FO he) rfl rfl) ?_)
 refine an ?_ ?_<;>intro h2 q2
 refine ap ?_
 refine wk [11,10] rfl (Tr.ret (Fin.AF (Fin.BZ rfl (AM.cell 0 rfl rfl Cy CG rfl Lr) (AM.tmp rfl Lr) ?_)))
 · exact Ej
 refine ac ?_
 refine ag ?_ ?_<;>intro h3 q3
 refine ac ?_
 refine wk [39,10,6,5,4,3,2] rfl (Tr.cond rfl (fun _=> ?_) (fun h=>nomatch h))
 refine Tr.seq (Tr.Ao (tp rfl (Al (rows:=[]) rfl TW Fi trivial rfl) (TO.AK 0 rfl rfl rfl vq Cv rfl CG rfl rfl (tm rfl (TO.nil (Fin.go (Tr.ret (Fin.AF (Fin.BZ rfl (AM.cell 0 rfl rfl Cy CG rfl Lr) (AM.tmp rfl Lr) ?_)))))))))
 · exact Ej
 refine ag ?_ ?_<;>intro h4 q4
 refine ac ?_
 refine wk [39,10,6,5,4,3,2] rfl (Tr.cond rfl (fun _=> ?_) (fun h=>nomatch h))
 refine Tr.seq (Tr.Ao (tp rfl (Al (rows:=[]) rfl TW Fi trivial rfl) (TO.AK 0 rfl rfl rfl vq Cv rfl CG rfl rfl (tm rfl (TO.nil (Fin.go (Tr.ret (Fin.AF (Fin.BZ rfl (AM.cell 0 rfl rfl Cy CG rfl Lr) (AM.tmp rfl Lr) ?_)))))))))
 · exact Ej
 refine ag ?_ ?_<;>intro h5 q5
 refine ac ?_
 refine wk [39,10,6,5,4,3,2] rfl (Tr.cond rfl (fun _=> ?_) (fun h=>nomatch h))
 refine Tr.seq (Tr.Ao (tp rfl (Al (rows:=[]) rfl TW Fi trivial rfl) (TO.AK 0 rfl rfl rfl vq Cv rfl CG rfl rfl (tm rfl (TO.nil (Fin.go (Tr.ret (Fin.AF (Fin.BZ rfl (AM.cell 0 rfl rfl Cy CG rfl Lr) (AM.tmp rfl Lr) ?_)))))))))
 · exact Ej
 refine ac ?_
 refine wk [39,10,6,5,4,3,2] rfl ?_
 refine Tr.cn rfl ?_ ?_<;>intro h6 q6
 refine ap ?_
 refine Tr.ret (Fin.AF (Fin.BZ rfl (AM.cell 0 rfl rfl Cy CG rfl Lr) (AM.tmp rfl Lr) ?_))
 · exact Ej
 refine a2 ?_
 refine co rfl (Yp rfl vq vq) ?_
 refine ac ?_
 refine ag ?_ ?_<;>intro h7 q7
 refine ac ?_
 refine wk [54,12,10,6,5,4,2] rfl (Tr.cond rfl (fun _=> ?_) (fun h=>nomatch h))
 refine Tr.seq (Tr.Ao (tp rfl (Al (rows:=[]) rfl TW Fi trivial rfl) (TO.AK 0 rfl rfl rfl vq Cv rfl CG rfl rfl (tm rfl (TO.nil (Fin.go (Tr.ret (Fin.AF (Fin.BZ rfl (AM.cell 0 rfl rfl Cy CG rfl Lr) (AM.tmp rfl Lr) ?_)))))))))
 · exact Ej
 refine ac ?_
 refine wk [54,12,10,6,5,4,2] rfl ?_
 refine Tr.cn rfl ?_ ?_<;>intro h8 q8
 refine ap ?_
 refine Tr.ret (Fin.AF (Fin.BZ rfl (AM.cell 0 rfl rfl Cy CG rfl Lr) (AM.tmp rfl Lr) ?_))
 · exact Ej
 refine a2 ?_
 refine wk [13,12,10,6,5,4,2] rfl (Tr.Q2 [2,4,5,6,10,12] [(13,ints od)] (True) ?_ (fun h9=> ?_))
 refine an ?_ ?_<;>intro h10 Re
 refine ac ?_
 exact Fin.AL () trivial ⟨⟨_,rfl,Pr.le_of_eq (by rw [←hod];simp_all)⟩,kz⟩
 refine Tr.skip ?_
 exact Fin.AL () trivial ⟨⟨_,rfl,Pr.le_of_eq (by rw [←hod];simp_all)⟩,kz⟩
 refine ac ?_
 refine Tr.block (Tr.BD _ (kk [13,12,10,6,5,4,2] rfl) (fun k:Nat=>[(14,int ((k:Nat):Int))]) (fun k:Nat=>k≤(od).length) (fun k:Nat=>(od).length-k) 0 (Nat.zero_le _) kz ?_)
 rintro k BR
 refine an ?_ ?_<;>intro h11 Sw
 have Ai:k<(od).length:=AH h11
 obtain ⟨x,Ah⟩:=at_ Ai
 refine a2 ?_
 refine co rfl (AD rfl underlying22 Bw vq vq AA (Aa Ah)) (co rfl (F5 rfl Cq rfl) ?_)
 refine co rfl (jL (Lb (e:=e) he.YZ) rfl rfl rfl rfl rfl) ?_
 refine ac ?_
 refine wk [75,14,13,12,10,6,5,4,2] rfl ?_
 refine Tr.cn rfl ?_ ?_<;>intro h12 WE
 refine a2 ?_
 exact Fin.AL (k+1) ⟨Ai,by omega⟩ ⟨⟨_,rfl,AG k⟩,kz⟩
 have hp:La e su (min most e.most) x=true:=by simpa using h12
 have hp0:=pT hp
 obtain ⟨y,hy⟩:=eG hp0
 refine a2 ?_
 refine co rfl (AD rfl underlying22 Bw vq vq AA (Aa Ah)) (co rfl (F5 rfl Cq rfl) ?_)
 refine co rfl (CL (Hz (e:=e) he.YZ) rfl rfl rfl) ?_
 refine ac ?_
 refine wk [15,14,13,12,10,6,5,2] rfl ?_
 refine ac ?_
 refine co rfl (AD rfl underlying38 E3 vq vq AA (Bf hy)) ?_
 refine ac ?_
 refine co rfl (kc5 (hO) rfl rfl rfl rfl rfl rfl) (co rfl (zL rfl (VL.le vq Z7) (VL.le vq (DA _ _))) ?_)
 refine ac ?_
 refine wk [99,14,13,12,10] rfl (Tr.ex 99 rfl fun AH1=> ?_)
 refine Tr.cn rfl ?_ ?_<;>intro Nf cZ
 refine ap ?_
 refine Tr.ret (Fin.AF (Fin.AU (Fin.AF (Fin.AF (Fin.AU (Fin.AF (Fin.BZ rfl (AM.cell 0 rfl rfl Cy CG rfl Lr) (AM.tmp rfl Lr) ?_)))))))
 · exact Ej
 refine ac ?_
 refine ap ?_
 refine tp rfl (AD rfl underlying22 Bw vq vq AA (Aa Ah)) ?_
 refine ap ?_
 refine Tr.ret (Fin.AU (Fin.AF (Fin.AF (Fin.AU (Fin.AF (Fin.BZ rfl (AM.cell 0 rfl rfl Cy CG rfl Lr) (AM.tmp rfl Lr) ?_))))))
 · exact Ej
 have BM:k=(od).length:=by have:=AJ h11;omega
 subst BM
 refine ac ?_
 refine ap ?_
 refine wk [11,10] rfl (Tr.ret (Fin.BZ rfl (AM.cell 0 rfl rfl Cy CG rfl Lr) (AM.tmp rfl Lr) ?_))
 · exact Ej
theorem Xj {c e:CA} {day:Int} (hc:c.small) (he:e.small):BC prog 305 [agg (Bg c),agg (Bg e),int day] (Cp.ex fun z:Int×Int×Int=>fact True (D6 [agg [int z.1,int z.2.1],int z.2.2])):=by
 refine fo func305 rfl ⟨rfl,rfl⟩ fun M0 w0=>(Tr.seq (Tr.Ao (tp rfl (Bj rfl Cv) (tp rfl (Bj rfl Cv) ?_))))
 refine Tl rfl rfl rfl rfl JZ Fi (fun b1=> ?_)
 refine ap ?_
 refine ap ?_
 refine tp rfl (Yp rfl vq vq) (tp rfl (Jv rfl vq vq) ?_)
 refine ap ?_
 refine tp rfl (kc5 (iA hc he) rfl rfl rfl rfl rfl rfl) ?_
 refine TO.ex 17 rfl (fun z1=>TO.fact 17 rfl fun Eh=> ?_)
 refine ap ?_
 refine wk [7,6] rfl (Tr.ret (Fin.BZ rfl (AM.cell 0 rfl rfl Cy CG rfl Lr) (AM.tmp rfl Lr) ?_))
 · exact Ej
abbrev uses (l:List (Int×Int)):Pr:=slice 2 (l.map fun x=>[int x.1,int x.2])
theorem OO {e:CA} {a b:Int} (he:e.small):BC prog 312 [agg (Bg e),agg [int a,int b]] (Cp.ex fun z:List (Int×Int)×Int=>fact (z.1.length≤1000) (D6 [uses z.1,int z.2])):=by
 refine fo func312 rfl ⟨rfl,rfl⟩ fun M0 w0=> ?_
 refine a2 ?_
 refine co rfl (Ct (FO he) rfl rfl) ?_
 refine an ?_ ?_<;>intro h1 q1
 refine ac ?_
 refine Tr.ret (Fin.AF (Fin.BZ rfl (AM.tmp rfl Lr) (AM.tmp rfl Lr) ?_))
 · exact Qp
 refine ac ?_
 refine ao ?_
 refine tp rfl (Ct (MI (code:=b)) rfl rfl) ?_
 refine ao ?_
 refine Tl rfl rfl rfl rfl Sq IJ (fun b1=> ?_)
 refine TO.AK 0 rfl rfl rfl vq Cv rfl Fv rfl rfl ?_
 refine ao ?_
 refine wk [7,6,3,2] rfl ?_
 refine an ?_ ?_<;>intro h2 q2
 refine ac ?_
 refine Tr.drop 0 (Tr.ret (Fin.AF (Fin.BZ rfl (AM.tmp rfl Lr) (AM.tmp rfl Lr) ?_)))
 · exact Qp
 refine a2 ?_
 refine co rfl (CL (Hz (e:=e) he.YZ) rfl rfl rfl) ?_
 refine ac ?_
 refine wk [9,8,6,2] rfl ?_
 refine an ?_ ?_<;>intro h3 q3
 refine ac ?_
 refine Tr.drop 0 (Tr.ret (Fin.AF (Fin.BZ rfl (AM.tmp rfl Lr) (AM.tmp rfl Lr) ?_)))
 · exact Qp
 obtain ⟨y,hy⟩:=eG (ids:=e.ids) (code:=b) Ks
 refine ac ?_
 refine ao ?_
 refine tp rfl (AD rfl underlying38 E3 vq vq AA (Bf hy)) ?_
 refine ao ?_
 refine Tl rfl rfl rfl rfl Kv EU (fun b2=> ?_)
 refine sf 0 10 ⟨rfl,rfl,rfl⟩ rfl rfl rfl rfl ?_
 refine ao ?_
 refine wk [10,6] rfl ?_
 refine an ?_ ?_<;>intro h4 q4
 refine ao ?_
 refine TO.DY 0 rfl rfl (Ay rfl rfl vq Ni Bw rfl BA rfl) ?_
 refine ao ?_
 refine ac ?_
 refine Tr.drop 0 (wk [5,4] rfl (Tr.ret (Fin.BZ rfl (AM.tmp rfl Lr) (AM.tmp rfl Lr) ?_)))
 · exact aq
 refine a2 ?_
 refine Tr.drop 0 (wk [5,4] rfl (Tr.ret (Fin.BZ rfl (AM.tmp rfl Lr) (AM.tmp rfl Lr) ?_)))
 · exact aq
theorem pU {e:CA} (h:GY e=true):1≤e.least∧e.least≤4∧e.most≤4:=by
 unfold GY at h
 simp only [Bool.and_eq_true,decide_eq_true_eq] at h
 omega
theorem Xk {c e:CA} (hc:c.small) (he:e.small):BC prog 314 [agg (Bg c),agg (Bg e)] (Cp.ex fun z:List (Int×Int)=>fact (z.length≤1000) (uses z)):=by
 refine fo func314 rfl ⟨rfl,rfl⟩ fun M0 w0=> ?_
 refine a2 ?_
 refine co rfl (Ct (FO hc) rfl rfl) ?_
 refine ag ?_ ?_<;>intro h1 q1
 refine a3 ?_
 · exact Ax [] (A9 AV (AQ 2))
 refine cy h1 rfl (AP rfl Cg CC vq rfl rfl) (cy h1 rfl (Ct (FO he) rfl rfl) ?_)
 refine an ?_ ?_<;>intro h2 q2
 refine a2 ?_
 · exact Ax [] (A9 AV (AQ 2))
 obtain ⟨hc1,hc2,hc3⟩:=pU (e:=c) Bv
 obtain ⟨he1,he2,he3⟩:=pU (e:=e) Bv
 refine a3 ?_
 refine co rfl (Jv rfl vq vq) ?_
 refine ac ?_
 refine wk [6,5,3,2] rfl (Tr.block (Tr.B_ 268 2 ?_))
 refine Tr.C7 _ (kk [3,2] rfl) (fun (v:Int) (o:List (Int×Int)) u=>[(6,int v),(5,Ac u (uses o))]) (fun (v:Int) (o:List (Int×Int)) u=>Hp M0 w0 FT ([At 268 2 u])) (fun (v:Int) (o:List (Int×Int))=>1≤v∧v≤5∧(o.length:Int)≤(v-1)*16) (fun (v:Int) (o:List (Int×Int))=>(5-v).toNat) (max c.least e.least) ([]) (.slice none 0 0) (⟨by omega,by omega,by simp;omega⟩) ⟨kq,⟨_,rfl,Bq rfl⟩,trivial⟩ (fun _ _ h=>h) ?_
 rintro v o u ⟨YL,Ur,hol⟩
 refine ac ?_
 refine co rfl (Yp rfl vq vq) ?_
 refine an ?_ ?_<;>intro h3 q3
 have hvm:=h3
 refine a2 ?_
 refine Tr.block (Tr.C7 _ (kk [6,3,2] rfl) (fun (k:Int) (q:List (Int×Int)) u3=>[(7,int k),(5,Ac u3 (uses q))]) (fun (k:Int) (q:List (Int×Int)) u3=>Hp M0 w0 FT ([At 268 2 u3])) (fun (k:Int) (q:List (Int×Int))=>1≤k∧k≤17∧(q.length:Int)≤(v-1)*16+k-1) (fun (k:Int) (q:List (Int×Int))=>(17-k).toNat) (1) (o) u (⟨by omega,by omega,by omega⟩) ⟨kq,⟨_,rfl,BE rfl⟩,trivial⟩ (fun _ _ h=>h) ?_)
 rintro k q u3 ⟨hk1,hk2,hql⟩
 refine an ?_ ?_<;>intro h4 q4
 have hkm:=h4
 refine a2 ?_
 refine co rfl (jL (Lb (e:=e) he.YZ) rfl rfl rfl rfl rfl) ?_
 refine an ?_ ?_<;>intro h5 q5
 refine ap ?_
 refine TO.Dj 0 rfl rfl AB (B8 rfl rfl rfl rfl underlying331 CG cJ JZ IZ GX (A_ BO Kx)) (fun v1=> ?_)
 refine ap ?_
 refine wk [7,6,5,3,2] rfl ?_
 refine ac ?_
 exact Fin.Bl (k+1) (q++[(v,k)]) v1 (⟨⟨by omega,by omega,by simp;omega⟩,by omega⟩) ⟨kq,⟨_,rfl,BE DI⟩,kz⟩ (fun _ _ h=>h)
 refine a2 ?_
 exact Fin.Bl (k+1) (q) u3 (⟨⟨by omega,by omega,by omega⟩,by omega⟩) ⟨kq,⟨_,rfl,BE rfl⟩,kz⟩ (fun _ _ h=>h)
 have hkm:=h4
 refine a2 ?_
 exact Fin.Bl (v+1) (q) u3 (⟨⟨by omega,by omega,by omega⟩,by omega⟩) ⟨kq,⟨_,rfl,BE AV⟩,kz⟩ (fun _ _ h=>h)
 have hvm:=h3
 refine a3 ?_
 · exact Pg
theorem pV {e:Dl} {i:Nat} {x:Ia} (h:FR e=true) (hx:e.BU[i]? =some x):(0≤x.client∧x.client<(e.Bt.length:Nat))∧(0≤x.server∧x.server<(e.Bt.length:Nat)):=by
 have h1:=(FU.1 h).ed i (by rcases Nat.lt_or_ge i e.BU.length with h'|h';exact h';rw [List.getElem?_eq_none h'] at hx;cases hx)
 unfold Ek at h1
 rw [hx] at h1
 simp only [Option.getD_some,Bool.and_eq_true,decide_eq_true_eq] at h1
 omega
theorem iB {e:Dl} {i:Int} (hf:e.fits):BC prog 304 [agg (CK e),int i] (Cp.ex fun z:CA×CA×Int=>fact (z.2.2=0→z.1∈e.Bt∧z.2.1∈e.Bt) (D6 [agg (Bg z.1),agg (Bg z.2.1),int z.2.2])):=by
 refine fo func304 rfl ⟨rfl,rfl⟩ fun M0 w0=>(Tr.seq (Tr.Ao (tp rfl (Bj rfl Cv) ?_)))
 refine Tl rfl rfl rfl rfl z40 Hs (fun b1=> ?_)
 refine Tl rfl rfl rfl rfl z40 Hs (fun b2=> ?_)
 refine ap ?_
 refine ac ?_
 refine co rfl (Ct (Dy hf) rfl rfl) ?_
 refine an ?_ ?_<;>intro h1 q1
 refine ap ?_
 refine Tr.ret (Fin.AF (Fin.FL rfl (AM.cell 1 rfl rfl Cg CC rfl Lr) (AM.cell 0 rfl rfl Cg CC rfl Lr) (AM.tmp rfl Lr) ?_))
 · exact Yb
 have VB:FR e=true:=by cases h_:FR e with|true=>rfl|false=>exact absurd h1 MW
 refine ac ?_
 refine ag ?_ ?_<;>intro h2 q2
 refine ac ?_
 refine wk [20,5,4,2,1] rfl (Tr.cond rfl (fun _=> ?_) (fun h=>nomatch h))
 refine Tr.seq (Tr.Ao (tp rfl (Al (rows:=[]) rfl rO Hs trivial rfl) (tp rfl (Al (rows:=[]) rfl rO Hs trivial rfl) (TO.AK 1 rfl rfl rfl vq Cv rfl CC rfl rfl (TO.AK 0 rfl rfl rfl vq Cv rfl CC rfl rfl (tm rfl (TO.nil (Fin.go (Tr.ret (Fin.AF (Fin.FL rfl (AM.cell 1 rfl rfl Cg CC rfl Lr) (AM.cell 0 rfl rfl Cg CC rfl Lr) (AM.tmp rfl Lr) ?_)))))))))))
 · exact Yb
 refine ac ?_
 refine wk [20,5,4,2,1] rfl ?_
 refine Tr.cn rfl ?_ ?_<;>intro h3 q3
 refine ap ?_
 refine Tr.ret (Fin.AF (Fin.FL rfl (AM.cell 1 rfl rfl Cg CC rfl Lr) (AM.cell 0 rfl rfl Cg CC rfl Lr) (AM.tmp rfl Lr) ?_))
 · exact Yb
 obtain ⟨x,hx⟩:=at_ (l:=e.BU) (k:=i.toNat) AA
 obtain ⟨hxc,hxs⟩:=pV VB hx
 obtain ⟨c,hc⟩:=at_ (l:=e.Bt) (k:=x.client.toNat) AA
 obtain ⟨y,hy⟩:=at_ (l:=e.Bt) (k:=x.server.toNat) AA
 refine ac ?_
 refine Tr.seq (Tr.rx ?_)
 refine ay ?_
 refine xo rfl (fun _=>AD rfl underlying28 Ez vq vq AA (Bf hx)) ?_
 refine ay ?_
 refine xo rfl (fun _=>AD rfl underlying27 CC vq vq AA (Bf hc)) ?_
 refine ay ?_
 refine xo rfl (fun _=>AD rfl underlying28 Ez vq vq AA (Bf hx)) ?_
 refine ay ?_
 refine xo rfl (fun _=>AD rfl underlying27 CC vq vq AA (Bf hy)) ?_
 refine ay ?_
 refine Cx.nil ⟨by kernel_rfl,?_⟩
 refine BJ.done W7 (Fin.go (wk [6,5,4] rfl (Tr.ret (Fin.FL rfl (AM.cell 1 rfl rfl Cg CC rfl Lr) (AM.cell 0 rfl rfl Cg CC rfl Lr) (AM.tmp rfl Lr) ?_))))
 · exact Ax (c,y,_) (A9 (fun _=>⟨List.mem_of_getElem? hc,List.mem_of_getElem? hy⟩) Lr)
theorem SM {e:Dl} {i day:Int} (hf:e.fits):BC prog 288 [agg (CK e),int i,int day] (Cp.ex fun z:Int×Int×Int=>fact True (D6 [agg [int z.1,int z.2.1],int z.2.2])):=by
 refine fo func288 rfl ⟨rfl,rfl⟩ fun M0 w0=>(Tr.seq (Tr.Ao (tp rfl (Bj rfl Cv) ?_)))
 refine Tl rfl rfl rfl rfl JZ Fi (fun b1=> ?_)
 refine ao ?_
 refine ao ?_
 refine tp rfl (CL (iB hf) rfl rfl rfl) ?_
 refine TO.ex 14 rfl (fun z1=>TO.fact 14 rfl fun Eh=> ?_)
 refine ao ?_
 refine Tl rfl rfl rfl rfl z40 Hs (fun b2=> ?_)
 refine Tl rfl rfl rfl rfl z40 Hs (fun b3=> ?_)
 refine sf 1 8 ⟨rfl,rfl,rfl⟩ rfl rfl rfl rfl ?_
 refine sf 0 9 ⟨rfl,rfl,rfl⟩ rfl rfl rfl rfl ?_
 refine ao ?_
 refine wk [10,9,8,6,2] rfl ?_
 refine an ?_ ?_<;>intro h1 q1
 refine ao ?_
 refine TO.AK 0 rfl rfl rfl vq Cv rfl CG rfl rfl ?_
 refine ao ?_
 refine Tr.ret (Fin.AF (Fin.BZ rfl (AM.cell 0 rfl rfl Cy CG rfl Lr) (AM.tmp rfl Lr) ?_))
 · exact Ej
 have hz0:z1.2.2=0:=by have:=q1;omega
 refine ac ?_
 refine ao ?_
 refine tp rfl (LI (Xj (hf.Bt _ (Eh hz0).1).2 (hf.Bt _ (Eh hz0).2).2) rfl rfl rfl rfl) ?_
 refine TO.ex 25 rfl (fun z2=>TO.fact 25 rfl fun Ig=> ?_)
 refine ao ?_
 refine TO.AK 0 rfl rfl rfl vq Cv rfl CG rfl rfl ?_
 refine ao ?_
 refine wk [7,6] rfl (Tr.ret (Fin.BZ rfl (AM.cell 0 rfl rfl Cy CG rfl Lr) (AM.tmp rfl Lr) ?_))
 · exact Ej
theorem O7 {e:Dl} {i from_ N8:Int} (hf:e.fits):BC prog 256 [agg (CK e),int i,int from_,int N8] (Cp.ex fun z:Int×Int×Int=>fact True (D6 [agg [int z.1,int z.2.1],int z.2.2])):=by
 refine fo func256 rfl ⟨rfl,rfl⟩ fun M0 w0=>(Tr.seq (Tr.Ao (tp rfl (Bj rfl Cv) ?_)))
 refine Tl rfl rfl rfl rfl JZ Fi (fun b1=> ?_)
 refine ao ?_
 refine ao ?_
 refine tp rfl (LI (SM hf) rfl rfl rfl rfl) ?_
 refine TO.ex 16 rfl (fun z1=>TO.fact 16 rfl fun Eh=> ?_)
 refine ao ?_
 refine Tl rfl rfl rfl rfl JZ Fi (fun b2=> ?_)
 refine sf 0 10 ⟨rfl,rfl,rfl⟩ rfl rfl rfl rfl ?_
 refine ao ?_
 refine wk [11,10,8,4,3,2,1] rfl ?_
 refine an ?_ ?_<;>intro h1 q1
 refine ao ?_
 refine TO.AK 0 rfl rfl rfl vq Cv rfl CG rfl rfl ?_
 refine ao ?_
 refine Tr.ret (Fin.AF (Fin.BZ rfl (AM.cell 0 rfl rfl Cy CG rfl Lr) (AM.tmp rfl Lr) ?_))
 · exact Ej
 refine ac ?_
 refine ao ?_
 refine tp rfl (LI (SM hf) rfl rfl rfl rfl) ?_
 refine TO.ex 27 rfl (fun z2=>TO.fact 27 rfl fun Ig=> ?_)
 refine ao ?_
 refine wk [11,10,8,3,2] rfl ?_
 refine an ?_ ?_<;>intro h2 q2
 refine ao ?_
 refine TO.AK 0 rfl rfl rfl vq Cv rfl CG rfl rfl ?_
 refine ao ?_
 refine Tr.ret (Fin.AF (Fin.BZ rfl (AM.cell 0 rfl rfl Cy CG rfl Lr) (AM.tmp rfl Lr) ?_))
 · exact Ej
 refine ac ?_
 refine an ?_ ?_<;>intro h3 q3
 refine ao ?_
 refine TO.AK 0 rfl rfl rfl vq Cv rfl CG rfl rfl ?_
 refine ao ?_
 refine Tr.ret (Fin.AF (Fin.BZ rfl (AM.cell 0 rfl rfl Cy CG rfl Lr) (AM.tmp rfl Lr) ?_))
 · exact Ej
 refine ac ?_
 refine ao ?_
 refine TO.AK 0 rfl rfl rfl vq Cv rfl CG rfl rfl ?_
 refine ao ?_
 refine Tr.ret (Fin.BZ rfl (AM.cell 0 rfl rfl Cy CG rfl Lr) (AM.tmp rfl Lr) ?_)
 · exact Ax (z1.1,z1.2.1,0) (A9 trivial Lr)
abbrev SN:Pr:=slice 7 []
abbrev NS:Pr:=agg [slice 6 [],slice 2 []]
abbrev Vz:Pr:=agg [slice 1 [],int 0]
theorem O8   :BC prog 174 [NS] (int 0):=by
 refine BC.of func174 rfl rfl BA fun M0 w0=> ?_
 refine Tr.seq (Tr.Aj (co rfl (Bj rfl (Va rfl)) (cm rfl (Ch.nil (Fin.go (Tr.seq (Tr.seq (Tr.Aj (co rfl (PK rfl U2 rfl rfl) (co rfl (F5 rfl Y8 rfl) (co rfl (Cc rfl underlying111 (vl rfl)) (co rfl (ki rfl rfl rfl rfl) (cm rfl ?_)))))))))))))
 refine Ch.cs 9 rfl ?_ ?_<;>intro h1 q1
 iterate 4 refine cnf h1 rfl ?_
 refine co rfl (Q9 rfl rfl h1 rfl) (Ch.nil (Fin.go (Tr.cond rfl (fun _=> ?_) (fun h=>nomatch h))))
 refine Tr.seq (Tr.Aj (cm rfl (Ch.nil (Fin.go (Tr.ret (Fin.AF (Fin.LF rfl (Br.D4 _ _) rfl ?_)))))))
 · refine int_eq ?_;simp_all
 refine cy h1 rfl (PK rfl cI rfl rfl) (cy h1 rfl (F5 rfl k8 rfl) (cy h1 rfl (Cc rfl underlying112 (vl rfl)) (cy h1 rfl (ki rfl rfl rfl rfl) (co rfl (Mk rfl rfl h1 rfl) (Ch.nil (Fin.go ?_))))))
 refine Tr.cn rfl ?_ ?_<;>intro h2 q2
 exact absurd h2 AB
 refine Tr.skip (Fin.go (Tr.seq (Tr.seq (Tr.Aj (cm rfl (Ch.nil (Fin.go (Tr.block (Tr.BD [(1,_)] ⟨ke rfl,trivial⟩ (fun k:Nat=>[(3,int ((k:Nat):Int))]) (fun k:Nat=>k=0) (fun k:Nat=>0) 0 (rfl) ⟨ke rfl,trivial⟩ ?_)))))))))
 rintro k hk0
 refine Tr.seq (Tr.seq (Tr.Aj (cm rfl (co rfl (PK rfl U2 rfl rfl) (co rfl (F5 rfl Y8 rfl) (co rfl (Cc rfl underlying111 (vl rfl)) (co rfl (ki rfl rfl rfl rfl) (Ch.nil (Fin.go ?_)))))))))
 refine Tr.cn rfl ?_ ?_<;>intro h3 q3
 exfalso;have Se:=DU.D7 h3;subst hk0;simp at Se
 have YJ:=h3
 refine Tr.exit (Fin.AY (Fin.AY (Fin.Au (Fin.go (Tr.seq (Tr.seq (Tr.Aj (cm rfl (Ch.nil (Fin.go (Tr.block (Tr.BD [(1,_)] ⟨ke rfl,trivial⟩ (fun k:Nat=>[(4,int ((k:Nat):Int))]) (fun k:Nat=>k=0) (fun k:Nat=>0) 0 (rfl) ⟨ke rfl,trivial⟩ ?_))))))))))))
 rintro k hk0
 refine Tr.seq (Tr.seq (Tr.Aj (cm rfl (co rfl (PK rfl cI rfl rfl) (co rfl (F5 rfl k8 rfl) (co rfl (Cc rfl underlying112 (vl rfl)) (co rfl (ki rfl rfl rfl rfl) (Ch.nil (Fin.go ?_)))))))))
 refine Tr.cn rfl ?_ ?_<;>intro h4 q4
 exfalso;have Se:=DU.D7 h4;subst hk0;simp at Se
 have YJ:=h4
 refine Tr.exit (Fin.AY (Fin.AY (Fin.Au (Fin.go (Tr.seq (Tr.Aj (cm rfl (Ch.nil (Fin.go (Tr.ret (Fin.LF rfl (Br.D4 _ _) rfl ?_)))))))))))
 · exact Lr
theorem Xl {a b p:Int}  :BC prog 333 [NS,agg [int a,int b],int p] (anyI):=by
 refine fo func333 rfl ⟨rfl,rfl⟩ fun M0 w0=> ?_
 · repeat' first|exact absurd h AB|exact Ax _ Lr|refine co rfl (Ct (O8) rfl rfl) ?_|refine co rfl (Ct (J_ (CF:=a) (bits:=b)) rfl rfl) ?_|refine ac ?_|(refine Tr.cn rfl ?_ ?_<;>intro h q)|(refine Ch.cg rfl rfl rfl ?_ ?_<;>intro h q)
theorem Lc {a b p d:Int}  :BC prog 335 [NS,agg [int a,int b],int p,int d] (int (-1)):=by
 refine fo func335 rfl ⟨rfl,rfl⟩ fun M0 w0=> ?_
 refine a2 ?_
 refine co rfl (Cc rfl underlying111 vq) ?_
 refine ac ?_
 refine Tr.block (Tr.BD _ (kk [5,4,3,2] rfl) (fun k:Nat=>[(9,int (-1))]) (fun k:Nat=>True) (fun k:Nat=>0) 0 (trivial) kz ?_)
 rintro k _
 refine an ?_ ?_<;>intro h1 q1
 exact absurd h1 AB
 have YJ:=h1
 refine a3 ?_
 · exact Lr
theorem S0 {a b p d:Int}  :BC prog 334 [NS,agg [int a,int b],int p,int d] (bool true):=by
 refine fo func334 rfl ⟨rfl,rfl⟩ fun M0 w0=> ?_
 · repeat' first|exact Lr|exact absurd h AB|refine co rfl (jL (Lc) rfl rfl rfl rfl rfl) ?_|refine ac ?_|(refine Ch.cg rfl rfl rfl ?_ ?_<;>intro h q)
theorem S1 {a b p d:Int}  :BC prog 320 [NS,agg [int a,int b],int p,int d] (D6 [EH,anyI,anyI]):=by
 refine fo func320 rfl ⟨rfl,rfl⟩ fun M0 w0=> ?_
 refine a2 ?_
 refine co rfl (LI (Xl) rfl rfl rfl rfl) ?_
 refine ac ?_
 refine Tr.seq (Tr.ex 11 rfl fun x11=> ?_)
 refine an ?_ ?_<;>intro h1 q1
 refine ac ?_
 refine wk [10,9,8] rfl (Tr.ret (Fin.AF (Fin.Im rfl (Br.D4 _ _) rfl ?_ rfl ?_ rfl ?_)))
 · exact BK
 · exact BK
 · exact BK
 refine ac ?_
 refine ag ?_ ?_<;>intro h2 q2
 refine ac ?_
 refine wk [24,5,4,3,2] rfl ?_
 refine ac ?_
 refine Tr.ret (Fin.AF (Fin.Im rfl (Br.D4 _ _) rfl ?_ rfl ?_ rfl ?_))
 · exact BK
 · exact BK
 · exact BK
 refine ac ?_
 refine wk [24,5,4,3,2] rfl ?_
 refine Tr.cn rfl ?_ ?_<;>intro h3 q3
 refine ac ?_
 refine Tr.ret (Fin.AF (Fin.Im rfl (Br.D4 _ _) rfl ?_ rfl ?_ rfl ?_))
 · exact BK
 · exact BK
 · exact BK
 refine a2 ?_
 refine co rfl (jL (S0) rfl rfl rfl rfl rfl) ?_
 refine ac ?_
 refine co rfl (jL (Lc) rfl rfl rfl rfl rfl) ?_
 refine ac ?_
 refine wk [10,9,8] rfl (Tr.ret (Fin.Im rfl (Br.D4 _ _) rfl ?_ rfl ?_ rfl ?_))
 · exact BK
 · exact BK
 · exact BK
theorem iC   :BC prog 321 [SN] (int 0):=by
 refine fo func321 rfl ⟨rfl,rfl⟩ fun M0 w0=> ?_
 refine a2 ?_
 refine Tr.block (Tr.BD _ (kk [0] rfl) (fun k:Nat=>[(3,int ((k:Nat):Int))]) (fun k:Nat=>k=0) (fun k:Nat=>0) 0 (rfl) kz ?_)
 rintro k hk0
 refine ac ?_
 refine co rfl (Cc rfl underlying162 vq) ?_
 refine an ?_ ?_<;>intro h1 q1
 exfalso;have Se:=DU.D7 h1;subst hk0;simp at Se
 have YJ:=h1
 refine a3 ?_
 · exact Lr
theorem iD {a b p d:Int} {s:List UInt8}  :BC prog 322 [SN,Vz,agg [int a,int b],int p,str s,int d] (bool false):=by
 refine fo func322 rfl ⟨rfl,rfl⟩ fun M0 w0=> ?_
 refine a2 ?_
 refine Tr.block (Tr.BD _ (kk [8,7,5,4,3,0] rfl) (fun k:Nat=>[(13,int ((k:Nat):Int))]) (fun k:Nat=>k=0) (fun k:Nat=>0) 0 (rfl) kz ?_)
 rintro k hk0
 refine ac ?_
 refine co rfl (Cc rfl underlying162 vq) ?_
 refine an ?_ ?_<;>intro h1 q1
 exfalso;have Se:=DU.D7 h1;subst hk0;simp at Se
 have YJ:=h1
 refine a3 ?_
 · exact Lr
theorem S2 {a b p d:Int} {s:List UInt8}  :BC prog 313 [NS,SN,Vz,agg [int a,int b],int p,str s,int d] (D6 [EH,anyI]):=by
 refine fo func313 rfl ⟨rfl,rfl⟩ fun M0 w0=> ?_
 refine a2 ?_
 refine co rfl (jL (S1) rfl rfl rfl rfl rfl) ?_
 refine ac ?_
 refine wk [18,16,10,9,6,5,4,1] rfl (Tr.seq (Tr.seq (Tr.ex 18 rfl fun x18=>(Tr.ex 16 rfl fun x16=> ?_))))
 refine an ?_ ?_<;>intro h1 q1
 refine ac ?_
 refine Tr.ret (Fin.AF (Fin.Dm rfl (Br.D4 _ _) rfl ?_ rfl ?_))
 · exact BK
 · exact BK
 refine a2 ?_
 refine co rfl (Ct (iC) rfl rfl) ?_
 refine a2 ?_
 refine wk [35,19,16,10,9,6,5,4,1] rfl ?_
 refine Tr.cn rfl ?_ ?_<;>intro h2 q2
 exact absurd h2 AB
 refine ac ?_
 refine ag ?_ ?_<;>intro h3 q3
 refine ac ?_
 refine wk [15,14] rfl (Tr.ret (Fin.Dm rfl (Br.D4 _ _) rfl ?_ rfl ?_))
 · exact BK
 · exact BK
 refine ac ?_
 refine cy h3 rfl (AR rfl (iD) ⟨kq,kz⟩) ?_
 refine ac ?_
 refine wk [15,14] rfl (Tr.ret (Fin.Dm rfl (Br.D4 _ _) rfl ?_ rfl ?_))
 · exact BK
 · exact BK
theorem Z9 {e:CA} {a b d:Int} (he:e.small):BC prog 299 [NS,SN,Vz,agg (Bg e),agg [int a,int b],int d] (D6 [EH,anyI]):=by
 refine fo func299 rfl ⟨rfl,rfl⟩ fun M0 w0=> ?_
 refine ac ?_
 refine ap ?_
 refine tp rfl (CL (OO he) rfl rfl rfl) ?_
 refine TO.ex 23 rfl (fun z1=>TO.fact 23 rfl fun Eh=> ?_)
 refine ap ?_
 refine wk [15,14,9,8,6,5,1] rfl ?_
 refine an ?_ ?_<;>intro h1 q1
 refine ac ?_
 refine Tr.ret (Fin.AF (Fin.Dm rfl (Br.D4 _ _) rfl ?_ rfl ?_))
 · exact BK
 · exact BK
 refine a3 ?_
 refine Tr.block (Tr.BD _ (kk [14,9,8,6,5,1] rfl) (fun k:Nat=>[(17,int ((k:Nat):Int)),(16,EH)]) (fun k:Nat=>k≤(z1.1).length) (fun k:Nat=>(z1.1).length-k) 0 (Nat.zero_le _) ⟨kq,⟨_,rfl,Ax _ Lr⟩,trivial⟩ ?_)
 rintro k BR
 refine Tr.ex 16 rfl fun x16=> ?_
 refine an ?_ ?_<;>intro h2 q2
 have Ai:k<(z1.1).length:=AH h2
 obtain ⟨x,Ah⟩:=at_ Ai
 refine a2 ?_
 refine co rfl (AD rfl underlying143 LG vq vq AA (Aa Ah)) ?_
 refine ac ?_
 refine co rfl (AR rfl (S2 (a:=x.1) (b:=x.2)) ⟨kq,kz⟩) ?_
 refine ac ?_
 refine wk [19,18,17,16,14,9,8,6,5,1] rfl (Tr.seq (Tr.seq (Tr.ex 19 rfl fun x19=>(Tr.ex 18 rfl fun x18=> ?_))))
 refine an ?_ ?_<;>intro h3 q3
 refine ac ?_
 refine wk [13,12] rfl (Tr.ret (Fin.AF (Fin.AU (Fin.AF (Fin.AF (Fin.AU (Fin.AF (Fin.Dm rfl (Br.D4 _ _) rfl ?_ rfl ?_))))))))
 · exact BK
 · exact BK
 · repeat' first|exact Fin.AL (k+1) ⟨Ai,by omega⟩ ⟨⟨_,rfl,AG k⟩,⟨_,rfl,Ax _ Lr⟩,kz⟩|refine ac ?_|(refine Ch.cg rfl rfl rfl ?_ ?_<;>intro h q)
 have BM:k=(z1.1).length:=by have:=AJ h2;omega
 subst BM
 refine a2 ?_
 refine wk [13,12] rfl (Tr.ret (Fin.Dm rfl (Br.D4 _ _) rfl ?_ rfl ?_))
 · exact BK
 · exact BK
theorem KY {d:Int}  :BC prog 122 [NS,SN,int d] (anyI):=by
 refine fo func122 rfl ⟨rfl,rfl⟩ fun M0 w0=> ?_
 refine a2 ?_
 refine co rfl (Ct (O8) rfl rfl) ?_
 refine an ?_ ?_<;>intro h1 q1
 exact absurd h1 AB
 refine a2 ?_
 refine co rfl (Cc rfl underlying162 vq) ?_
 refine ac ?_
 refine Tr.block (Tr.BD _ (kk [13,12,2] rfl) (fun k:Nat=>[(14,int ((k:Nat):Int))]) (fun k:Nat=>k=0) (fun k:Nat=>0) 0 (rfl) kz ?_)
 rintro k hk0
 refine ac ?_
 refine Tr.seq ?_
 refine Tr.cn rfl ?_ ?_<;>intro h2 q2
 exfalso;have Se:=DU.D7 h2;subst hk0;simp at Se
 have YJ:=h2
 · repeat' first|exact Ax _ Lr|refine ac ?_|(refine Tr.cn rfl ?_ ?_<;>intro h q)|(refine Ch.cg rfl rfl rfl ?_ ?_<;>intro h q)
abbrev eH:Pr:=Cp.ex fun z:List (Int×Int)=>fact (z.length≤1000) (uses z)
structure KZ (e:Dl) (i:Int) (x:Ia) (c s:CA):Prop where
 i0:0≤i
 hx:e.BU[i.toNat]? =some x
 c0:0≤x.client
 s0:0≤x.server
 hc:e.Bt[x.client.toNat]? =some c
 hs:e.Bt[x.server.toNat]? =some s
 cs:c.small
 ss:s.small
theorem pW {e:Dl} {i:Int} (hf:e.fits) (VB:FR e=true) (h0:0≤i) (hi:i.toNat<e.BU.length):∃x c s,KZ e i x c s:=by
 obtain ⟨x,hx⟩:=at_ hi
 obtain ⟨hxc,hxs⟩:=pV VB hx
 obtain ⟨c,hc⟩:=at_ (l:=e.Bt) (k:=x.client.toNat) AA
 obtain ⟨y,hy⟩:=at_ (l:=e.Bt) (k:=x.server.toNat) AA
 exact ⟨x,c,y,h0,hx,hxc.1,hxs.1,hc,hy,(hf.Bt _ (List.mem_of_getElem? hc)).2,(hf.Bt _ (List.mem_of_getElem? hy)).2⟩
theorem KZ.li {e:Dl} {i:Int} {x:Ia} {c s:CA} (h:KZ e i x c s):i.toNat<e.BU.length:=by
 have:=h.hx
 rcases Nat.lt_or_ge i.toNat e.BU.length with h'|h'
 · exact h'
 · rw [List.getElem?_eq_none h'] at this;cases this
theorem KZ.lc {e:Dl} {i:Int} {x:Ia} {c s:CA} (h:KZ e i x c s):x.client.toNat<e.Bt.length:=by
 have:=h.hc
 rcases Nat.lt_or_ge x.client.toNat e.Bt.length with h'|h'
 · exact h'
 · rw [List.getElem?_eq_none h'] at this;cases this
theorem KZ.ls {e:Dl} {i:Int} {x:Ia} {c s:CA} (h:KZ e i x c s):x.server.toNat<e.Bt.length:=by
 have:=h.hs
 rcases Nat.lt_or_ge x.server.toNat e.Bt.length with h'|h'
 · exact h'
 · rw [List.getElem?_eq_none h'] at this;cases this
theorem Kc {e:Dl} {i:Int} {x:Ia} {c s:CA} (he:KZ e i x c s):BC prog 284 [agg (CK e),int i] (agg (Bg s)):=by
 refine fo func284 rfl ⟨rfl,rfl⟩ fun M0 w0=> ?_
 have e1:=he.i0
 have e2:=he.c0
 have e3:=he.s0
 have e4:=he.li
 have e5:=he.lc
 have e6:=he.ls
 refine Tr.seq (Tr.Ao (tp rfl (Bj rfl Cv) ?_))
 refine Tl rfl rfl rfl rfl z40 Hs (fun b1=> ?_)
 refine ap ?_
 refine Tr.seq (Tr.rx ?_)
 refine ay ?_
 refine xo rfl (fun _=>AD rfl underlying28 Ez vq vq AA (Bf he.hx)) ?_
 refine ay ?_
 refine xo rfl (fun _=>AD rfl underlying27 CC vq vq AA (Bf he.hs)) ?_
 refine ay ?_
 refine Cx.nil ⟨by kernel_rfl,?_⟩
 refine BJ.done al1 (Fin.go (Tr.ret (Fin.CX rfl (AM.cell 0 rfl rfl Cg CC rfl Lr) ?_)))
 · exact Lr
theorem O9 {e:Dl} {i:Int} {x:Ia} {c s:CA} (he:KZ e i x c s):BC prog 300 [agg (CK e),int i] (eH):=by
 refine fo func300 rfl ⟨rfl,rfl⟩ fun M0 w0=> ?_
 have e1:=he.i0
 have e2:=he.c0
 have e3:=he.s0
 have e4:=he.li
 have e5:=he.lc
 have e6:=he.ls
 refine ac ?_
 refine ao ?_
 refine tp rfl (AD rfl underlying28 Ez vq vq AA (Bf he.hx)) (tp rfl (AP rfl RG Ez vq rfl rfl) ?_)
 refine Tl rfl rfl rfl rfl Y9 Wn (fun b1=> ?_)
 refine sf 0 5 ⟨rfl,rfl,rfl⟩ rfl rfl rfl rfl ?_
 refine ao ?_
 refine ac ?_
 refine co rfl (AD rfl underlying27 CC vq vq AA (Bf he.hc)) ?_
 refine ac ?_
 refine co rfl (AD rfl underlying27 CC vq vq AA (Bf he.hs)) (co rfl (AP rfl Cg CC vq rfl rfl) (co rfl (CL (Xk he.cs he.ss) rfl rfl rfl) ?_))
 refine ac ?_
 refine wk [4] rfl ?_
 refine ac ?_
 · exact Lr
theorem Z_ {a b:CA} {x y:Int} (ha:a.small) (hb:b.small):BC prog 301 [agg (Bg a),agg (Bg b),agg [int x,int y]] (EH):=by
 refine fo func301 rfl ⟨rfl,rfl⟩ fun M0 w0=> ?_
 refine ac ?_
 refine ap ?_
 refine tp rfl (CL (OO ha) rfl rfl rfl) ?_
 refine TO.ex 15 rfl (fun z1=>TO.fact 15 rfl fun Eh=> ?_)
 refine ap ?_
 refine wk [7,5,4] rfl ?_
 refine ap ?_
 refine tp rfl (CL (OO hb) rfl rfl rfl) ?_
 refine TO.ex 21 rfl (fun z2=>TO.fact 21 rfl fun Ig=> ?_)
 refine ap ?_
 refine ac ?_
 refine wk [28,9,7] rfl ?_
 refine Tr.cn rfl ?_ ?_<;>intro h1 q1
 refine a2 ?_
 · exact BK
 have Sh:z1.1.length=z2.1.length:=by have h_:=q1;omega
 refine a2 ?_
 refine Tr.block (Tr.BD _ (kk [30,9,7] rfl) (fun k:Nat=>[(31,int ((k:Nat):Int))]) (fun k:Nat=>k≤(z1.1).length) (fun k:Nat=>(z1.1).length-k) 0 (Nat.zero_le _) kz ?_)
 rintro k BR
 refine ac ?_
 refine Tr.seq ?_
 refine Tr.cn rfl ?_ ?_<;>intro h2 q2
 have Ai:k<(z1.1).length:=AH h2
 obtain ⟨x,Ah⟩:=at_ Ai
 obtain ⟨y2,nq⟩:=at_ (l:=z2.1) (k:=k) AA
 · repeat' first|exact Ax _ Lr|exact Fin.AL (k+1) ⟨Ai,by omega⟩ ⟨⟨_,rfl,AG k⟩,kz⟩|refine co rfl (AD rfl underlying143 LG vq vq AA (Aa Ah)) ?_|refine co rfl (AD rfl underlying143 LG vq vq AA (Aa nq)) (co rfl (AP rfl JL LG vq rfl rfl) (co rfl (P9 rfl vq vq) ?_))|refine ac ?_|(refine Tr.cn rfl ?_ ?_<;>intro h q)
 have BM:k=(z1.1).length:=by have:=AJ h2;omega
 subst BM
 refine a3 ?_
 · exact BK
theorem iE {a b:Dl} (ha:a.fits) (hb:b.fits):BC prog 282 [agg (CK a),agg (CK b)] (Cp.ex fun z:Int=>fact (z=0→FR a=true∧FR b=true∧a.BU.length=b.BU.length) (int z)):=by
 refine fo func282 rfl ⟨rfl,rfl⟩ fun M0 w0=>(Tr.HK 0 1 rfl rfl fun K3=>(Tr.HK 1 1 rfl rfl fun AEx=> ?_))
 refine a2 ?_
 refine co rfl (Ct (Dy ha) rfl rfl) ?_
 refine ag ?_ ?_<;>intro h1 q1
 refine a3 ?_
 · exact PZ
 refine cy h1 rfl (AP rfl Db DZ vq rfl rfl) (cy h1 rfl (Ct (Dy hb) rfl rfl) ?_)
 refine an ?_ ?_<;>intro h2 q2
 refine a2 ?_
 · exact PZ
 refine a2 ?_
 refine wk [20,3,2] rfl ?_
 refine Tr.cn rfl ?_ ?_<;>intro h3 q3
 refine a2 ?_
 · exact PZ
 have Sh:a.BU.length=b.BU.length:=by have h_:=q3;omega
 refine a2 ?_
 refine Tr.block (Tr.BD _ (kk [23,3,2] rfl) (fun k:Nat=>[(24,int ((k:Nat):Int))]) (fun k:Nat=>k≤(a.BU).length) (fun k:Nat=>(a.BU).length-k) 0 (Nat.zero_le _) kz ?_)
 rintro k BR
 refine ac ?_
 refine Tr.seq ?_
 refine Tr.cn rfl ?_ ?_<;>intro h4 q4
 have Ai:k<(a.BU).length:=AH h4
 obtain ⟨x,Ah⟩:=at_ Ai
 obtain ⟨y2,nq⟩:=at_ (l:=b.BU) (k:=k) AA
 · repeat' first|exact Ax _ (A9 (fun h_=>absurd h_ AB) Lr)|exact Fin.AL (k+1) ⟨Ai,by omega⟩ ⟨⟨_,rfl,AG k⟩,kz⟩|refine co rfl (AD rfl underlying28 Ez vq vq AA (Aa Ah)) ?_|refine co rfl (AD rfl underlying28 Ez vq vq AA (Aa nq)) (co rfl (AP rfl RG Ez vq rfl rfl) (co rfl (mg rfl vq vq) ?_))|refine ac ?_|(refine Tr.cn rfl ?_ ?_<;>intro h q)
 have BM:k=(a.BU).length:=by have:=AJ h4;omega
 subst BM
 refine a3 ?_
 · exact Ax 0 (A9 (fun _=>⟨by simp_all,by simp_all,Sh⟩) Lr)
theorem zN {d:Nat} {w:World} {x0 y0:Int} {x1 y1:Int}:(Op.equalIn (d+2) 268 (.agg #[.int .i64 x0,.int .i64 x1]) (.agg #[.int .i64 y0,.int .i64 y1])).run Tryz.prog w= .ok (decide (x0=y0∧x1=y1)) w:=by
 have h:=eqS (w:=w) (d:=d+1) (xs:= #[.int .i64 x0,.int .i64 x1]) (ys:= #[.int .i64 y0,.int .i64 y1]) Tryz.underlying268 BV (E_ AB (CH Cq rfl) (CH Cq rfl) (GN (d:=d+0) Tryz.underlying3) (E_ AB (CH Cq rfl) (CH Cq rfl) (GN (d:=d+0) Tryz.underlying3) (Mw)))
 refine h.trans (congrArg (fun b=>Result.ok b w) ?_)
 rw [Bool.eq_iff_iff];simp [and_assoc]
theorem pX {E:Env} {I:Ce} {o:Oper} {u:TypeId} {x y:Operand} {x0 y0:Int} {x1 y1:Int} (ho:o.op= .binOp .eql 268 x y u) (hx:VL E x (agg [is (.int .i64 x0),is (.int .i64 x1)])) (hy:VL E y (agg [is (.int .i64 y0),is (.int .i64 y1)])):Ae Tryz.prog I o E (bool (decide (x0=y0∧x1=y1))):=
 Mv [.int .i64 x0,.int .i64 x1] [.int .i64 y0,.int .i64 y1] ho hx hy BV (fun w=>by rw [show Op.equal 268 _ _=Op.equalIn (9998+2) 268 _ _ from rfl];exact zN)
theorem BC.outs {P:Program} {f:FuncId} {p0:Pr} {ps:List Pr} {res:Pr} (h:∀z:List (Int×Int),z.length≤1000→BC P f (p0::uses z::ps) res):BC P f (p0::Go.Proofs.YtmocaapoeefgkaaGreatDoor.eH::ps) res:=by
 refine ⟨(h [] (Nat.zero_le _)).1,fun M w vs hb hv=> ?_⟩
 match vs,hv with
 |u0::u1::us,⟨h0,⟨z,hz,h1⟩,h2⟩=>exact (h z hz).2 M w (u0::u1::us) hb ⟨h0,h1,h2⟩
section
variable {P:Program} {I:Ce} {E:Env} {o:Oper}
theorem zO {t u:TypeId} {x y:Operand} (ho:o.op= .binOp .gtr t x y u) (hx:VL E x (Ge .i64)) (hy:VL E y (Ge .i64)):Ae P I o E EH:=
 Ae.same fun M w a he _=>by
  obtain ⟨m,h1⟩:=hx.ev he Ar
  obtain ⟨n,h2⟩:=hy.ev he Ar
  have h1:a.eval x= .int .i64 m:=h1
  have h2:a.eval y= .int .i64 n:=h2
  exact ⟨.bool (decide (m>n)),by simp [execOp,ho,h1,h2,eqGuard,binOp,Op.intCmp],_,rfl⟩
end
theorem iF {e:CA} {all:List (Int×Int)} {d:Int} (he:e.small) (hl:all.length≤1000):BC prog 283 [agg (Bg e),uses all,NS,SN,Vz,int d] (eH):=by
 refine fo func283 rfl ⟨rfl,rfl⟩ fun M0 w0=> ?_
 refine a3 ?_
 refine Tr.block (Tr.B_ 268 2 (Tr.C7 _ (kk [19,18,10,8,6,5,3] rfl) (fun (o:List (Int×Int)) (k:Nat) u=>[(20,int ((k:Nat):Int)),(13,Ac u (uses o))]) (fun (o:List (Int×Int)) (k:Nat) u=>Hp M0 w0 FT ([At 268 2 u])) (fun (o:List (Int×Int)) (k:Nat)=>k≤all.length∧o.length≤k) (fun (o:List (Int×Int)) (k:Nat)=>all.length-k) ([]) (0) (.slice none 0 0) (⟨Nat.zero_le _,by simp⟩) ⟨kq,⟨_,rfl,Bq rfl⟩,trivial⟩ (fun _ _ h=>h) ?_))
 rintro o k u ⟨hk0,hol⟩
 refine ac ?_
 refine Tr.seq ?_
 refine Tr.cn rfl ?_ ?_<;>intro h1 q1
 have hk:k<all.length:=AH h1
 obtain ⟨y,hy⟩:=at_ hk
 refine ac ?_
 refine Tr.seq (Tr.block (Tr.seq (Tr.Ao (tp rfl (AD rfl underlying331 CG vq vq AA (Aa hy)) (tp rfl (AP rfl Cy CG vq rfl rfl) ?_)))))
 refine Tl rfl rfl rfl rfl JZ Fi (fun b1=> ?_)
 refine sf 0 15 ⟨rfl,rfl,rfl⟩ rfl rfl rfl rfl ?_
 refine ao ?_
 refine wk [20,19,18,15,13,10,8,6,5,3] rfl ?_
 refine ac ?_
 refine co rfl (AR rfl (Z9 he) ⟨kq,kz⟩) ?_
 refine ac ?_
 refine wk [20,19,18,17,16,15,13,10,8,6,5,3] rfl (Tr.seq (Tr.ex 17 rfl fun x17=>(Tr.ex 16 rfl fun x16=> ?_)))
 refine ag ?_ ?_<;>intro h2 q2
 refine ac ?_
 refine wk [38,20,19,18,15,13,10,8,6,5,3] rfl ?_
 refine Tr.cn rfl ?_ ?_<;>intro h3 q3
 refine ao ?_
 refine TO.Dj 0 rfl rfl AB (B8 rfl rfl rfl rfl underlying331 CG cJ JZ IZ GX (A_ BO Kx)) (fun v1=> ?_)
 refine ao ?_
 refine wk [20,19,18,13,10,8,6,5,3] rfl ?_
 refine ac ?_
 exact Fin.Bl (o++[(y.1,y.2)]) (k+1) v1 (⟨⟨by omega,by simp;omega⟩,by omega⟩) ⟨⟨_,rfl,AG k⟩,⟨_,rfl,BE DI⟩,kz⟩ (fun _ _ h=>h)
 refine a2 ?_
 exact Fin.Bl (o) (k+1) u (⟨⟨by omega,by omega⟩,by omega⟩) ⟨⟨_,rfl,AG k⟩,⟨_,rfl,BE rfl⟩,kz⟩ (fun _ _ h=>h)
 refine ac ?_
 refine wk [38,20,19,18,15,13,10,8,6,5,3] rfl ?_
 refine a2 ?_
 exact Fin.Bl (o) (k+1) u (⟨⟨by omega,by omega⟩,by omega⟩) ⟨⟨_,rfl,AG k⟩,⟨_,rfl,BE rfl⟩,kz⟩ (fun _ _ h=>h)
 have hk:=AJ h1
 refine a3 ?_
 · exact Pg
theorem V0 {a b:Dl} {i:Int} {x x2:Ia} {c s c2 s2:CA} (ha:KZ a i x c s) (hb:KZ b i x2 c2 s2):BC prog 285 [agg (CK a),agg (CK b),int i] (eH):=by
 refine fo func285 rfl ⟨rfl,rfl⟩ fun M0 w0=> ?_
 refine ac ?_
 refine ao ?_
 refine tp rfl (CL (O9 ha) rfl rfl rfl) ?_
 refine TO.ex 16 rfl (fun z1=>TO.fact 16 rfl fun Eh=> ?_)
 refine ao ?_
 refine ac ?_
 refine ao ?_
 refine tp rfl (CL (O9 hb) rfl rfl rfl) ?_
 refine TO.ex 19 rfl (fun z2=>TO.fact 19 rfl fun Ig=> ?_)
 refine ao ?_
 refine wk [21,20,19,8,7,4,3,2] rfl (Tr.block (Tr.B_ 268 2 (Tr.C7 _ (kk [20,19,7,4,3,2] rfl) (fun (o:List (Int×Int)) (k:Nat) u=>[(21,int ((k:Nat):Int)),(8,Ac u (uses o))]) (fun (o:List (Int×Int)) (k:Nat) u=>Hp M0 w0 FT ([At 268 2 u])) (fun (o:List (Int×Int)) (k:Nat)=>k≤z2.length∧o.length≤k) (fun (o:List (Int×Int)) (k:Nat)=>z2.length-k) ([]) (0) (.slice none 0 0) (⟨Nat.zero_le _,by simp⟩) ⟨ke rfl,⟨_,rfl,Bq rfl⟩,trivial⟩ (fun _ _ h=>h) ?_)))
 rintro o k u ⟨hk0,hol⟩
 refine ac ?_
 refine Tr.seq ?_
 refine Tr.cn rfl ?_ ?_<;>intro h1 q1
 have hk:k<z2.length:=AH h1
 obtain ⟨y,hy⟩:=at_ hk
 refine ac ?_
 refine Tr.seq (Tr.block (Tr.seq (Tr.Ao (tp rfl (AD rfl underlying331 CG (vl rfl) (vl rfl) AA (Aa hy)) (tp rfl (AP rfl Cy CG (vl rfl) rfl rfl) ?_)))))
 refine Tl rfl rfl rfl rfl JZ Fi (fun b1=> ?_)
 refine sf 0 10 ⟨rfl,rfl,rfl⟩ rfl rfl rfl rfl ?_
 refine ao ?_
 refine wk [21,20,19,10,8,7,4,3,2] rfl ?_
 refine a2 ?_
 refine Tr.block (Tr.BD _ (kk [26,25,21,20,19,10,8,7,4,3,2] rfl) (fun m:Nat=>[(27,int ((m:Nat):Int)),(11,EH)]) (fun m:Nat=>m≤(z1).length) (fun m:Nat=>(z1).length-m) 0 (Nat.zero_le _) ⟨ke rfl,⟨_,rfl,Ax _ Lr⟩,trivial⟩ ?_)
 rintro m ND
 refine Tr.ex 11 rfl fun x11=> ?_
 refine ac ?_
 refine wk [28,27,26,25,21,20,19,11,10,8,7,4,3,2] rfl (Tr.seq ?_)
 refine Tr.cn rfl ?_ ?_<;>intro h2 q2
 have EW:m<(z1).length:=AH h2
 obtain ⟨w,Ef⟩:=at_ EW
 refine ac ?_
 refine wk [27,26,25,21,20,19,11,10,8,7,4,3,2] rfl (Tr.seq (Tr.block (Tr.seq (Tr.Ao (tp rfl (AD rfl underlying331 CG (vl rfl) (vl rfl) AA (Aa Ef)) (tp rfl (AP rfl Cy CG (vl rfl) rfl rfl) ?_))))))
 refine Tl rfl rfl rfl rfl JZ Fi (fun b2=> ?_)
 refine sf 0 13 ⟨rfl,rfl,rfl⟩ rfl rfl rfl rfl ?_
 refine ao ?_
 · repeat' first|exact Fin.AL (m+1) ⟨EW,by omega⟩ ⟨⟨_,rfl,AG m⟩,⟨_,rfl,Ax _ Lr⟩,kz⟩|refine cy h rfl (pX rfl (vl rfl) (vl rfl)) ?_|refine ac ?_|(refine Ch.cg rfl rfl rfl ?_ ?_<;>intro h q)
 have KH:m=(z1).length:=by have:=AJ h2;omega
 subst KH
 refine ac ?_
 refine wk [21,20,19,11,10,8,7,4,3,2] rfl ?_
 refine ag ?_ ?_<;>intro h4 q4
 refine ac ?_
 refine wk [50,21,20,19,10,8,7,4,3,2] rfl (Tr.cond rfl (fun _=> ?_) (fun h=>nomatch h))
 refine Tr.Ao (tm rfl (tp rfl (AP rfl Cy CG (vl rfl) rfl rfl) (tp rfl (AO (xs:=[.tmp 52]) (rows:=[_]) rfl rfl underlying331 CG JZ rfl AB ⟨⟨Am,(Va rfl)⟩,trivial⟩ AB) ?_)))
 refine TO.Dj 0 rfl rfl AB (B8 rfl rfl rfl rfl underlying331 CG cJ JZ (Kb rfl) (Kf rfl) (A_ BO (Ka rfl))) (fun v1=> ?_)
 refine ao ?_
 refine wk [21,20,19,8,7,4,3,2] rfl ?_
 refine ac ?_
 exact Fin.Bl (o++[(y.1,y.2)]) (k+1) v1 (⟨⟨by omega,by simp;omega⟩,by omega⟩) ⟨⟨_,rfl,AG k⟩,⟨_,rfl,BE DI⟩,kz⟩ (fun _ _ h=>h)
 refine ac ?_
 refine cy h4 rfl (CL (Kc ha) rfl rfl rfl) ?_
 refine ac ?_
 refine cy h4 rfl (CL (Kc hb) rfl rfl rfl) (cy h4 rfl (AP rfl Cy CG (vl rfl) rfl rfl) (cy h4 rfl (LI (Z_ ha.ss hb.ss) rfl rfl rfl rfl) (cy h4 rfl (JB rfl (vl rfl)) ?_)))
 refine ac ?_
 refine wk [50,21,20,19,10,8,7,4,3,2] rfl (Tr.ex 50 rfl fun AGj=> ?_)
 refine Tr.cn rfl ?_ ?_<;>intro h5 q5
 refine ao ?_
 refine TO.Dj 0 rfl rfl AB (B8 rfl rfl rfl rfl underlying331 CG cJ JZ (Kb rfl) (Kf rfl) (A_ BO (Ka rfl))) (fun v2=> ?_)
 refine ao ?_
 refine wk [21,20,19,8,7,4,3,2] rfl ?_
 refine ac ?_
 exact Fin.Bl (o++[(y.1,y.2)]) (k+1) v2 (⟨⟨by omega,by simp;omega⟩,by omega⟩) ⟨⟨_,rfl,AG k⟩,⟨_,rfl,BE DI⟩,kz⟩ (fun _ _ h=>h)
 refine a2 ?_
 exact Fin.Bl (o) (k+1) u (⟨⟨by omega,by omega⟩,by omega⟩) ⟨⟨_,rfl,AG k⟩,⟨_,rfl,BE rfl⟩,kz⟩ (fun _ _ h=>h)
 have hk:=AJ h1
 refine a3 ?_
 · exact Pg
theorem iG {a b:Dl} {d:Int} (ha:a.fits) (hb:b.fits):BC prog 254 [agg (CK a),agg (CK b),NS,SN,Vz,int d] (Cp.ex fun z:List Int×Int=>fact (z.1.length≤1000) (D6 [ints z.1,int z.2])):=by
 refine fo func254 rfl ⟨rfl,rfl⟩ fun M0 w0=>(Tr.HK 0 1 rfl rfl fun K3=> ?_)
 refine ac ?_
 refine ap ?_
 refine tp rfl (CL (iE ha hb) rfl rfl rfl) ?_
 refine TO.ex 20 rfl (fun z1=>TO.fact 20 rfl fun Eh=> ?_)
 refine ap ?_
 refine ac ?_
 refine wk [22,14,10,8,7,6,5,3] rfl ?_
 refine Tr.cn rfl ?_ ?_<;>intro h1 q1
 refine ac ?_
 refine Tr.ret (Fin.AF (Fin.BZ rfl (AM.tmp rfl Lr) (AM.tmp rfl Lr) ?_))
 · exact Qo
 obtain ⟨hAe,hBe,Sh⟩:=Eh (by have:=q1;omega)
 have h40:=(FU.1 hAe).e40
 refine a2 ?_
 refine co rfl (LI (KY) rfl rfl rfl rfl) ?_
 refine ac ?_
 refine Tr.seq (Tr.ex 15 rfl fun x15=> ?_)
 refine ac ?_
 refine wk [29,15,10,8,7,6,5,3] rfl ?_
 refine Tr.cn rfl ?_ ?_<;>intro h2 q2
 refine ac ?_
 refine Tr.ret (Fin.AF (Fin.BZ rfl (AM.tmp rfl Lr) (AM.tmp rfl Lr) ?_))
 · exact Qo
 refine a3 ?_
 refine Tr.block (Tr.B_ 3 1 (Tr.C7 _ (kk [33,10,8,7,6,5,3] rfl) (fun (o:List Int) (k:Nat) u=>[(34,int ((k:Nat):Int)),(16,Ac u (ints o))]) (fun (o:List Int) (k:Nat) u=>Hp M0 w0 FT ([At 3 1 u])) (fun (o:List Int) (k:Nat)=>k≤a.BU.length∧o.length≤k) (fun (o:List Int) (k:Nat)=>a.BU.length-k) ([]) (0) (.slice none 0 0) (⟨Nat.zero_le _,by simp⟩) ⟨kq,⟨_,rfl,Bq rfl⟩,trivial⟩ (fun _ _ h=>h) ?_))
 rintro o k u ⟨hk0,hol⟩
 refine ac ?_
 refine Tr.seq ?_
 refine Tr.cn rfl ?_ ?_<;>intro h3 q3
 have hk:k<a.BU.length:=AH h3
 obtain ⟨_,_,_,hea⟩:=pW (i:=((k:Nat):Int)) ha hAe AA AA
 obtain ⟨_,_,_,heb⟩:=pW (i:=((k:Nat):Int)) hb hBe AA AA
 refine a3 ?_
 refine co rfl (CL (Kc heb) rfl rfl rfl) ?_
 refine ac ?_
 refine co rfl (LI (V0 hea heb) rfl rfl rfl rfl) ?_
 refine ac ?_
 refine co rfl (AR rfl (BC.outs fun z hz=>iF heb.ss hz) ⟨kq,kz⟩) (co rfl (Ae.MN 48 rfl AB fun z=>Ae.opf 48 rfl AB fun _=>Ae.le (Cc rfl underlying331 vq) (Ax _ Lr)) (co rfl (zO rfl (VL.le vq Z7) (VL.le vq (DA _ _))) ?_))
 refine ac ?_
 refine wk [50,34,33,17,16,10,8,7,6,5,3] rfl (Tr.ex 50 rfl fun AGj=> ?_)
 refine Tr.cn rfl ?_ ?_<;>intro h4 q4
 refine ap ?_
 refine TO.Dj 0 rfl rfl AB (B8 rfl rfl rfl rfl underlying22 Bw IY z3 IZ GX (A_ BO Kx)) (fun v1=> ?_)
 refine ap ?_
 refine wk [34,33,16,10,8,7,6,5,3] rfl ?_
 refine ac ?_
 exact Fin.Bl (o++[((k:Nat):Int)]) (k+1) v1 (⟨⟨by omega,by simp;omega⟩,by omega⟩) ⟨⟨_,rfl,AG k⟩,⟨_,rfl,BE DI⟩,kz⟩ (fun _ _ h=>h)
 refine a2 ?_
 exact Fin.Bl (o) (k+1) u (⟨⟨by omega,by omega⟩,by omega⟩) ⟨⟨_,rfl,AG k⟩,⟨_,rfl,BE rfl⟩,kz⟩ (fun _ _ h=>h)
 have hk:=AJ h3
 refine a2 ?_
 refine Tr.ret (Fin.BZ rfl (AM.tmp rfl Lr) (AM.tmp rfl Lr) ?_)
 · exact Yi
end Go.Proofs.YtmocaapoeefgkaaGreatDoor
