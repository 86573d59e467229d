/-
  Part 6 of the texts that prove this claim, merged.
-/
import Derived.Test.YtmocaapoeefgkaaGreatDoorRcDP5
set_option linter.all false
set_option maxRecDepth 40000
set_option maxHeartbeats 16000000
namespace Cp
open Go Go.RowKit Go.Great
section
variable {P:Program} {L:Lg P} {n:Fm} {fz:Nat} {E:Env} {M0:Av} {w0:World} {S:Nat→Prop} {o:Oper}
def KA (p:Pr) (v:Value):At:=⟨none,true,fun M w=>p.h M w v,fun M w M' w' he _ h=>p.st M w M' w' v he h⟩
def vp (e:TypeId) (zs:List Value) (v:Value):At:=match v with| .slice (some a) _ _=>AF true a.block e (zs.map is)|_=>Bp
def nT (R:Value→Value→Value→At) (u:Value):At:=match u with| .tuple t=>R (t.getD 1 undef) (t.getD 2 undef) (t.getD 0 undef)|_=>Bp
def XI (R:Value→Value→At) (u:Value):At:=match u with| .tuple t=>R (t.getD 1 undef) (t.getD 0 undef)|_=>Bp
theorem ZW {a:Act} {d s t:Nat} {R:Value→Value→Value→At}:SR.at_ a ⟨.three d s t,nT R⟩=R (a.tmps.getD s undef) (a.tmps.getD t undef) (a.tmps.getD d undef):=rfl
theorem Pn {a:Act} {d s:Nat} {R:Value→Value→At}:SR.at_ a ⟨.two d s,XI R⟩=R (a.tmps.getD s undef) (a.tmps.getD d undef):=rfl
theorem EF.conv {a:Act} {M:Av} {w:World} {p q:Pr} {j:Nat} {R1 R2:SR} {rs:List At} {r:Result Next} (hq:Pr.le p q) (hR:∀v,R1.at_ (a.put o.dst v)=R2.at_ (a.put o.dst v)) (h:EF P M0 w0 S o a M w p j R1 rs r):EF P M0 w0 S o a M w q j R2 rs r:=by
 cases r with
 |halt x w'=>exact h
 |ok x w'=>
  cases x
  case value v=>obtain ⟨M',g1,g2,g3⟩:=h;exact ⟨M',hq _ _ _ g1,g2,by rw [←hR];exact g3⟩
  case skip=>obtain ⟨M',g1,g2,g3⟩:=h;exact ⟨M',hq _ _ _ g1,g2,by rw [←hR];exact g3⟩
  case enter f args=>
   refine Calls.mono h ?_
   rintro e w'' ⟨v,M',g0,g1,g2,g3⟩
   exact ⟨v,M',g0,hq _ _ _ g1,g2,by rw [←hR];exact g3⟩
  all_goals exact h
theorem I0 {M:Av} {w:World} {a:Act} (h:CZ M w E o a) (s:Nat) {p0:Pr} (hp0:p0.h M w (a.tmps.getD s undef)):CZ M w ((s,Ab (a.tmps.getD s undef) p0)::E) o a:=fun c p hc hp=>by
 simp only [List.lookup] at hp
 by_cases hcs:c=s
 · subst hcs;simp only [beq_self_eq_true,Option.some.injEq] at hp;subst hp;exact ⟨rfl,hp0⟩
 · rw [show (c==s)=false by simpa using hcs] at hp;exact h c p hc hp
theorem yU {j d s t:Nat} {R:SR} {p1 p2 q:Pr} {p:Value→Value→Pr} {R':Value→Value→Value→At} (hd:o.dst=some d) (hs:d≠s) (ht:d≠t) (hq:∀v1 v2,Pr.le (p v1 v2) q) (hg:o.guard=none) (h1:E.lookup s=some p1) (h2:E.lookup t=some p2) (hls:s∈looks o) (hlt:t∈looks o) (h:∀v1 v2,DW P M0 w0 S n j R ⟨d,R' v1 v2⟩ o ((s,Ab v1 p1)::(t,Ab v2 p2)::E) (p v1 v2)):DW P M0 w0 S n j R ⟨.three d s t,nT R'⟩ o E q:=by
 refine ⟨hg,fun M w a rs hsz he hI hj=> ?_⟩
 refine EF.conv (hq _ _) (fun v=> ?_) ((h (a.tmps.getD s undef) (a.tmps.getD t undef)).2 M w a rs hsz (I0 (I0 he t (he t p2 hlt h2)) s (he s p1 hls h1)) hI hj)
 rw [ZW,hd,BU (Ne.symm hs),BU (Ne.symm ht)];rfl
theorem ZX {j d:Nat} {p:Pr} (hg:o.guard=none) (hd:o.dst=some d) (hn:d<n) (h:∀I,Ae P I o E p):DW P M0 w0 S n j (SR.c Bp) ⟨d,KA p⟩ o E p:=by
 refine ⟨hg,fun M w a rs hsz he hI hj=> ?_⟩
 have hj':rs[j]? =some Bp:=hj
 have hat:∀v,SR.at_ (a.put o.dst v) ⟨d,KA p⟩=KA p v:=fun v=>by show KA p ((a.put o.dst v).tmps.getD d undef)=_;rw [hd,Bz Gp]
 have hg2:=h (Hp M0 w0 S rs) M w a he hI
 revert hg2
 generalize (execOp a.eval o).run P w=r
 intro hg2
 have key:∀v w',p.h M w' v→Below w.heap.size w w'→∃M',p.h M' w' v∧Ext M w M' w'∧Ay M0 w0 S (rs.set j (SR.at_ (a.put o.dst v) ⟨d,KA p⟩)) M' w':=fun v w' hv hb=>by
  refine ⟨M,hv,Ext.below hb,?_⟩
  rw [hat]
  exact Ay.CR ((Hp M0 w0 S rs).st _ _ _ hb hI) hj' rfl rfl hv
 cases r with
 |halt x w'=>exact hg2
 |ok x w'=>
  cases x
  case value v=>exact key v w' hg2.1 hg2.2
  case skip=>exact key undef w' hg2.1 hg2.2
  case enter f args=>
   obtain ⟨hb,hc⟩:=hg2
   refine Calls.mono hc ?_
   rintro e w'' ⟨v,g0,g1,g2⟩
   obtain ⟨M',k1,k2,k3⟩:=key v w'' g1 (N5 hb g2)
   exact ⟨v,M',g0,k1,k2,k3⟩
  all_goals exact hg2
theorem nU {t e:TypeId} {x y:Operand} {d j m eX:Nat} {z:Value} (hg:o.guard=none) (hd:o.dst=some d) (hn:d<n) (ho:o.op= .makeSlice t x y) (ht:P.underlying t=some (.slice e)) (hs:A0 P e=some 1) (hby:Bu P e=some eX) (hz:BW P e=some [z]) (h1:z.oneCell'=true)
  (hx:VL E x (int ((m:Nat):Int))) (hy:VL E y (int ((m:Nat):Int))) (hm:m≤maxLen) (hb:eX*m≤281474976710656):DW P M0 w0 S n j (SR.c Bp) ⟨d,vp e (List.replicate m z)⟩ o E (Cp.ex fun b=>is (JQ m b)):=by
 refine ⟨hg,fun M w a rs Vy he hI hj=> ?_⟩
 have hx1:a.eval x= .int .i64 m:=hx.ev he Ar
 have hy1:a.eval y= .int .i64 m:=hy.ev he Ar
 have hi:∃i,P.info? e=some i∧i.size=1∧i.bytes=eX∧∃z',i.zero=some z'∧z'.cells= #[z]:=by
  unfold A0 at hs;unfold Bu at hby;unfold BW at hz
  cases hi:P.info? e with
  |none=>rw [hi] at hs;cases hs
  |some i=>
   rw [hi] at hs hby hz
   simp at hs hby hz
   obtain ⟨z',h2,h3⟩:=hz
   exact ⟨i,rfl,hs,hby,z',h2,by rw [←Array.toList_inj,h3]⟩
 obtain ⟨i,hi,hi1,hi2,z',Eg,IL⟩:=hi
 have hmk:madeCells z'.cells m=(List.replicate m z).toArray:=by
  rw [IL]
  apply Array.ext
  · simp [madeCells]
  ·
   intro j h1 h2
   simp [madeCells,Nat.mod_one]
 have hrun:=run_make (P:=P) w t e i z' ht hi Eg .i64 .i64 (m:Int) (m:Int) AA (Int.le_refl _) (by rw [hi2];have h0:((eX*m:Nat):Int)≤281474976710656:=Int.ofNat_le.2 hb;rw [←Int.natCast_mul];exact h0) UJ
 rw [hi1] at hrun
 simp only [Int.toNat_natCast,Nat.mul_one] at hrun
 rw [hmk] at hrun
 have Eh:(execOp a.eval o).run P w= .ok (.value (JQ m w.heap.size)) (w.alloc (.cells (List.replicate m z).toArray e)):=by simp [execOp,ho,hx1,hy1,hrun]
 rw [Eh]
 have hb:Below w.heap.size w (w.alloc (.cells (List.replicate m z).toArray e)):=(Below.refl _ _).alloc (Nat.le_refl _) _
 have h2:=Ext.below (M:=M) hb
 have Ey:Ext M w (fun b o=>M b o∨b=w.heap.size) (w.alloc (.cells (List.replicate m z).toArray e)):=by
  refine ⟨h2.size,fun a v hc hm=>⟨fun hx=> ?_,(h2.keep a v hc hm).2⟩,fun b o ho hp hm=>⟨fun hx=> ?_,(h2.obj b o ho hp hm).2⟩⟩
  ·
   rcases hx with hx|hx
   · exact CX
   · exact E7
  ·
   rcases hx with hx|hx
   · exact CX
   · exact E8
 have hs1:(w.alloc (.cells (List.replicate m z).toArray e)).heap.size=w.heap.size+1:=by simp
 have hat:(SR.at_ (a.put o.dst (JQ m w.heap.size)) ⟨d,vp e (List.replicate m z)⟩)=AF true w.heap.size e ((List.replicate m z).map is):=by unfold SR.at_ Slot.val;dsimp only;rw [hd,Bz II];rfl
 refine ⟨fun b o=>M b o∨b=w.heap.size,⟨_,rfl⟩,Ey,?_⟩
 rw [hat]
 refine hI.replace hj Ey hb.os hb.tape hb.output (fun k hk _=>hb.block k hk) rfl (fun b o hm _=> .inl hm) (fun b o hx=> ?_) ?_ rfl (fun b hbk=> ?_)
 ·
  rcases hx with hx|hx
  · have:=hI.bd _ _ hx;omega
  · omega
 · exact ⟨fun o=> .inr rfl,List.replicate m z,heap_alloc_new w _,K8 _ _ _,fun c hc=>by rw [List.eq_of_mem_replicate hc];exact h1⟩
 ·
  have Ev:some w.heap.size=some b:=hbk
  injection Ev with e1
  subst e1
  exact ⟨by rw [hs1];omega,.inr (Nat.le_refl _)⟩
theorem Ns {s:Nat} {op:Op} (h:(Operand.tmp s)∈op.operands.toList) (ho:o.op=op):s∈looks o:=List.mem_filterMap.2 ⟨_,by rw [ho];exact h,rfl⟩
theorem uA {d j s x y:Nat} {T:TypeId} {ps:Value→Value→List Pr} (hg:o.guard=none) (hd:o.dst=some d) (hn:d<n) (ho:o.op= .box T (.tmp s)) (hx:d≠x) (hy:d≠y):
  DW P M0 w0 S n j ⟨.three s x y,nT fun v1 v2=>KA (agg (ps v1 v2))⟩ ⟨.three d x y,nT fun v1 v2=>Ej T (ps v1 v2)⟩ o E (Cp.ex fun b=>ptr b 0):=by
 refine ⟨hg,fun M w a rs hsz he hI hj=> ?_⟩
 have hj':rs[j]? =some (KA (agg (ps (a.tmps.getD x undef) (a.tmps.getD y undef))) (a.tmps.getD s undef)):=hj
 have hjl:j<rs.length:=by rcases Nat.lt_or_ge j rs.length with h|h;exact h;rw [List.getElem?_eq_none h] at hj';cases hj'
 have hr:=(hI.hold _ (List.mem_of_getElem? hj')).1
 have hI2:Ay M0 w0 S (rs.set j Bp) M w:=Ay.CR hI hj' rfl rfl trivial
 have he2:CZ M w ((s,agg (ps (a.tmps.getD x undef) (a.tmps.getD y undef)))::E) o a:=fun c p hc hp=>by
  simp only [List.lookup] at hp
  by_cases hcs:c=s
  · subst hcs;simp only [beq_self_eq_true,Option.some.injEq] at hp;subst hp;exact hr
  · rw [show (c==s)=false by simpa using hcs] at hp;exact he c p hc hp
 have h:=(tW (P:=P) (M0:=M0) (w0:=w0) (S:=S) (n:=n) (j:=j) (T:=T) (ps:=ps (a.tmps.getD x undef) (a.tmps.getD y undef)) (E:=(s,agg (ps (a.tmps.getD x undef) (a.tmps.getD y undef)))::E) hg hd hn ho (VL.le ⟨_,List.lookup_cons_self,Pr.le_refl _⟩ (Ad _))).2 M w a _ hsz he2 hI2 (by rw [List.getElem?_set_self hjl];rfl)
 have h2:EF P M0 w0 S o a M w (Cp.ex fun b=>ptr b 0) j ⟨d,Ej T (ps (a.tmps.getD x undef) (a.tmps.getD y undef))⟩ rs ((execOp a.eval o).run P w):=by
  revert h
  generalize (execOp a.eval o).run P w=r
  intro h
  cases r with
  |halt x w'=>exact h
  |ok x w'=>
   cases x
   case value v=>simpa only [EF,List.set_set] using h
   case skip=>simpa only [EF,List.set_set] using h
   case enter f args=>simpa only [EF,List.set_set] using h
   all_goals exact h
 refine EF.conv (Pr.le_refl _) (fun v=> ?_) h2
 rw [ZW,hd,BU (Ne.symm hx),BU (Ne.symm hy)];rfl
theorem gG {t:TypeId} {s y:Tmp} {j:Nat} {T:TypeId} {ps:List Pr} {p:Pr} [One p] (hg:o.guard=none) (hd:o.dst=none) (ho:o.op= .store t (.tmp s) (.tmp y)) (hsy:s≠y) (hx:E.lookup s=some (Cp.ex fun b=>ptr b 0)) (hy:E.lookup y=some p)
  (hz:A0 P t=some 1) (hl:ps.length=1):DW P M0 w0 S n j ⟨s,Ej T ps⟩ ⟨.two s y,XI fun v=>Ej T [Ab v p]⟩ o E any:=by
 refine ⟨hg,fun M w a rs hsz he hI hj=> ?_⟩
 have hyl:y∈looks o:=Ns (op:= .store t (.tmp s) (.tmp y)) (by simp [Op.operands]) ho
 have he2:CZ M w ((y,Ab (a.tmps.getD y undef) p)::E) o a:=fun c q hc hq=>by
  simp only [List.lookup] at hq
  by_cases hcs:c=y
  · subst hcs;simp only [beq_self_eq_true,Option.some.injEq] at hq;subst hq;exact ⟨rfl,he _ p hyl hy⟩
  · rw [show (c==y)=false by simpa using hcs] at hq;exact he c q hc hq
 have h:=(DF (P:=P) (M0:=M0) (w0:=w0) (S:=S) (n:=n) (j:=j) (T:=T) (ps:=ps) (qs:=[Ab (a.tmps.getD y undef) p]) (E:=(y,Ab (a.tmps.getD y undef) p)::E) hg hd ho aO (VL.le ⟨_,List.lookup_cons_self,Pr.le_refl _⟩ (Af _)) hz rfl hl).2 M w a rs hsz he2 hI hj
 refine EF.conv (Pr.le_refl _) (fun v=> ?_) h
 rw [Pn,hd];rfl
theorem BO.pin {Q:Exit→Act→World→Prop} {rs:List SR} (s:Nat) {p:Pr} (hs:E.lookup s=some p) (k:∀v,BO n M0 w0 S ((s,Ab v p)::E) rs Q):BO n M0 w0 S E rs Q:=by
 rintro a w ⟨M,g1,g2,g3,g4⟩
 refine k (a.tmps.getD s undef) a w ⟨M,g1,g2,fun c z hz=> ?_,g4⟩
 simp only [List.lookup] at hz
 by_cases hcs:c=s
 · subst hcs;simp only [beq_self_eq_true,Option.some.injEq] at hz;subst hz;exact ⟨rfl,g3 c p hs⟩
 · rw [show (c==s)=false by simpa using hcs] at hz;exact g3 c z hz
theorem BO.fix {Q:Exit→Act→World→Prop} {rs:List SR} (j:Nat) {R:SR} (r:At) (hR:rs[j]? =some R) (hs:∀a:Act,(∃M w,FU M w E a)→R.at_ a=r) (k:BO n M0 w0 S E (rs.set j (SR.c r)) Q):BO n M0 w0 S E rs Q:=by
 rintro a w ⟨M,g1,g2,g3,g4⟩
 refine k a w ⟨M,g1,g2,g3,?_⟩
 have e:=hs a ⟨M,w,g3⟩
 have e3:(rs.set j (SR.c r)).map (·.at_ a)=rs.map (·.at_ a):=by
  apply List.ext_getElem?
  intro m
  rw [List.getElem?_map,List.getElem?_map,List.getElem?_set]
  by_cases him:j=m
  ·
   subst him
   have hjl:j<rs.length:=by rcases Nat.lt_or_ge j rs.length with h|h;exact h;rw [List.getElem?_eq_none h] at hR;cases hR
   rw [if_pos rfl,if_pos hjl,hR]
   show some ((SR.c r).at_ a)=some (R.at_ a)
   rw [e];rfl
  · rw [if_neg him]
 rw [e3];exact g4
theorem Nt {M:Av} {w:World} {a:Act} {s:Nat} {v:Value} {p:Pr} (h:FU M w E a) (hs:E.lookup s=some (Ab v p)):a.tmps.getD s undef=v:=(h s _ hs).1
theorem BO.uB {Q:Exit→Act→World→Prop} {rs:List SR} (j s:Nat) {f:Value→At} {v:Value} {p:Pr} (hR:rs[j]? =some ⟨s,f⟩) (hs:E.lookup s=some (Ab v p)) (k:BO n M0 w0 S E (rs.set j (SR.c (f v))) Q):BO n M0 w0 S E rs Q:=
 BO.fix j _ hR (fun a ⟨_,_,h⟩=>by show f (a.tmps.getD s undef)=_;rw [Nt h hs]) k
theorem BO.nV {Q:Exit→Act→World→Prop} {rs:List SR} (j d s:Nat) {f:Value→Value→At} {u v:Value} {p q:Pr} (hR:rs[j]? =some ⟨.two d s,XI f⟩) (hd:E.lookup d=some (Ab u p)) (hs:E.lookup s=some (Ab v q)) (k:BO n M0 w0 S E (rs.set j (SR.c (f v u))) Q):BO n M0 w0 S E rs Q:=
 BO.fix j _ hR (fun a ⟨_,_,h⟩=>by rw [Pn,Nt h hs,Nt h hd]) k
theorem BO.AGG {Q:Exit→Act→World→Prop} {rs:List SR} (j d s t:Nat) {f:Value→Value→Value→At} {u v1 v2:Value} {p q1 q2:Pr} (hR:rs[j]? =some ⟨.three d s t,nT f⟩) (hd:E.lookup d=some (Ab u p)) (hs:E.lookup s=some (Ab v1 q1)) (ht:E.lookup t=some (Ab v2 q2)) (k:BO n M0 w0 S E (rs.set j (SR.c (f v1 v2 u))) Q):BO n M0 w0 S E rs Q:=
 BO.fix j _ hR (fun a ⟨_,_,h⟩=>by rw [ZW,Nt h hs,Nt h ht,Nt h hd]) k
end
section
variable {P:Program} {L:Lg P} {n:Fm} {fz:Nat} {E:Env} {I:Cd} {M0:Av} {w0:World} {S:Nat→Prop} {rs:List At} {Q:Exit→Act→World→Prop} {c:Code}
theorem Fin.shape {e:Exit} (s:Nat) {v:Value} (form:Nat→Value) (hs:E.lookup s=some (Ab v (Cp.ex fun b=>is (form b)))) (k:∀b,v=form b→Fin n ((s,is (form b))::E) (Hp M0 w0 S rs) Q e):Fin n E (Hp M0 w0 S rs) Q e:=by
 intro a w hst
 obtain ⟨M,h1,h2,he,h4⟩:=hst
 obtain ⟨h5,b,h6⟩:=he s _ hs
 have hv:v=form b:=by rw [←h5];exact h6
 refine k b hv a w ⟨M,h1,h2,fun c z hz=> ?_,h4⟩
 simp only [List.lookup] at hz
 by_cases hcs:c=s
 · subst hcs;simp only [beq_self_eq_true,Option.some.injEq] at hz;subst hz;exact h6
 · rw [show (c==s)=false by simpa using hcs] at hz;exact he c z hz
theorem Fin.HS {e:Exit} (j:Nat) {r:At} (r':At) (hi:rs[j]? =some r) (h:r=r') (k:Fin n E (Hp M0 w0 S (rs.set j r')) Q e):Fin n E (Hp M0 w0 S rs) Q e:=by
 subst h
 have hjl:j<rs.length:=by rcases Nat.lt_or_ge j rs.length with h|h;exact h;rw [List.getElem?_eq_none h] at hi;cases hi
 have e1:rs.set j r=rs:=by
  apply List.ext_getElem?
  intro m
  rw [List.getElem?_set]
  by_cases him:j=m
  · subst him;rw [if_pos rfl,if_pos hjl,hi]
  · rw [if_neg him]
 rw [e1] at k;exact k
theorem Tr.AC0 {α:Type} (ni:α→Fm) (Ei:α→Env) (Ii:α→Cd) (C:α→Prop) (μ:α→Nat) (x0:α) (hn:ni x0=n) (h0:C x0) (hs:CO E (Ei x0)) (hI:∀M w,I.h M w→(Ii x0).h M w)
  (k:∀x,C x→Tr L (ni x) (Ei x) (Ii x) c (Exit.then (fun a w=>∃y,(C y∧μ y<μ x)∧St (ni y) (Ei y) (Ii y) a w) Q)):Tr L n E I (.loop c) Q:=by
 intro a w hst
 refine L.loop μ (fun x a w=>C x∧St (ni x) (Ei x) (Ii x) a w) (fun x a w ⟨hc,h⟩=> ?_) x0 a w ⟨h0,?_⟩
 ·
  refine L.mono ?_ (k x hc a w h)
  intro e a w hq
  cases e with
  |normal=>obtain ⟨y,⟨h1,h2⟩,h3⟩:=hq;exact ⟨y,h2,h1,h3⟩
  |_=>exact hq
 · rw [hn];exact hst.sub hs hI
theorem Fin.Mt {e:Exit} {rs':List At} (hp:rs.Perm rs') (k:Fin n E (Hp M0 w0 S rs') Q e):Fin n E (Hp M0 w0 S rs) Q e:=fun a w ⟨M,h1,h2,h3,h4⟩=>k a w ⟨M,h1,h2,h3,Ay.perm hp h4⟩
theorem BZ.ofM {f : FuncId} {g : Func} {ps : List Pr} {res : Pr} {R : At} {R' : Value → At} (hf : P.funcs[f]? = some g) (hb : g.body = some c) (hname : (g.name == "runtime.NumGoroutine") = false) (hlen : ps.length ≤ g.ntmps)
  (h:∀M0 w0 S rs M1 w1,Tr (Xu P) g.ntmps (LP 0 ps) (Hp M0 w0 S (R::Ak M1 w1::rs)) c (JI P g (MJ M0 w0 S rs M1 w1 res R'))):BZ P f ps res R R':=by
 refine ⟨⟨g,hf,hname,by rw [hb];rfl⟩,fun M0 w0 S rs M w vs hI hv=> ?_⟩
 refine OT hf hb (h M0 w0 S rs M w _ _ ⟨M,?_,rfl,Fw hv,?_⟩)
 ·
  have:=hv.length
  simp [this];omega
 · exact YP
end
section
variable {P:Program} {L:Lg P} {n:Fm} {fz:Nat} {E:Env} {I:Cd} {M0:Av} {w0:World} {S:Nat→Prop} {rs:List At} {Q:Exit→Act→World→Prop} {c:Code}
abbrev F6 (l D:Nat) (rec:Obj) (M1:Av) (w1:World) (rs:List At):List At:=BL l rec::BL D (.deferred (some []))::Ak M1 w1::rs
theorem Tr.yV {α:Type} {p gf:Nat} {g:Operand} {lb:Array Value} {enc:α→Value} {xs:List α} {own:List α→List At} {assign body:Code} (q:Nat) (K:Env) (hK:CO E K) (R:List α→List At)
  (hIt:Mp P gf lb enc xs own) (eg:Entry P gf) (hg:VL E g (is (.func (.func gf) #[] lb))) (Ol:rs.Perm (own []++R [])) (hp:K.lookup p=none) (hpn:p<n.sz)
  (hassign:∀l D rec M1 w1 pre x,(pre++[x])<+:xs→Tr (cr P (some l)) ⟨n.sz,[]⟩ ((p,is (enc x))::K) (Hp M0 w0 S (own (pre++[x])++F6 l D rec M1 w1 (R pre))) assign (Exit.then (St ⟨n.sz,[]⟩ ((q,is (enc x))::K) (Hp M0 w0 S (own (pre++[x])++F6 l D rec M1 w1 (R pre)))) (fun _ _ _=>False)))
  (hbody : ∀ l D rec M1 w1 pre x, (pre ++ [x]) <+: xs → Tr (cr P (some l)) ⟨n.sz, []⟩ ((q, is (enc x)) :: K) (Hp M0 w0 S (own (pre ++ [x]) ++ F6 l D rec M1 w1 (R pre))) body
   (Iy M0 w0 S (fun _:Unit=>own (pre++[x])++F6 l D rec M1 w1 (R (pre++[x]))) (fun _ _=>own (pre++[x])++F6 l D rec M1 w1 [CD False])))
  (hdone:∀l D rec M1 w1,Fin ⟨n.sz,mark D::n.df⟩ E (Hp M0 w0 S (own xs++F6 l D rec M1 w1 (R xs))) Q .normal):
  Tr (Xu P) n E (Hp M0 w0 S rs) (.rangeFunc g #[p] assign body) Q:=by
 refine Tr.nA (fun x=>(q,is (enc x))::K) (fun pre (_:Unit)=>R pre) (fun _ _ _=>[CD False]) () hIt (fun args w=>Df eg args w) hg Ol ?_ ?_ (fun l D rec M1 w1 _=>hdone l D rec M1 w1) ?_
 ·
  intro l D rec M1 w1 pre x d hpre a hsz hE M w hI
  have hx:Ext M1 w1 M w:=(hI.hold (Ak M1 w1) AU).1
  refine hassign l D rec M1 w1 pre x hpre _ w ⟨M,by simpa using hsz,rfl,fun s z hq=> ?_,hI⟩
  simp only [List.lookup] at hq
  by_cases hs:s=p
  ·
   subst hs
   simp only [beq_self_eq_true,Option.some.injEq] at hq
   subst hq
   show (a.tmps.setIfInBounds s (enc x)).getD s undef=enc x
   simp [Array.getD_eq_getD_getElem?,hsz,hpn]
  ·
   rw [show (s==p)=false by simpa using hs] at hq
   obtain ⟨z',Eg,IL⟩:=hK.spec s z hq
   have h2:=z.st _ _ _ _ _ hx (IL _ _ _ (hE s z' Eg))
   show z.h M w ((a.tmps.setIfInBounds p (enc x)).getD s undef)
   have e1:(a.tmps.setIfInBounds p (enc x)).getD s undef=a.tmps.getD s undef:=by
    simp only [Array.getD_eq_getD_getElem?]
    rw [Array.getElem?_setIfInBounds_ne (fun e=>hs e.symm)]
   rw [e1];exact h2
 ·
  intro l D rec M1 w1 pre x d hpre
  exact hbody l D rec M1 w1 pre x hpre
 ·
  intro l D rec M1 w1 c pre d hpre a w ⟨M,_,_,_,h⟩
  have h:Ay M0 w0 S (own pre++F6 l D rec M1 w1 [CD False]) M w:=h
  exact ((h.hold (CD False) AU).1).elim
theorem Fin.st {E1:Env} {Q':Exit→Act→World→Prop} (hs:CO E E1):Fin n E I (Exit.then (St n E1 I) Q') .normal:=fun _ _ h=>h.sub hs (fun _ _ h=>h)
theorem Fin.rnd {β:Type} {rr:β→List At} {rx:Code→β→List At} (d:β) (hp:rs.Perm (rr d)):Fin n E (Hp M0 w0 S rs) (Iy M0 w0 S rr rx) .normal:=fun _ _ ⟨M,_,_,_,h⟩=>⟨d,M,Ay.perm hp h⟩
theorem Tr.yW {α β:Type} (K:Env) (hK:CO E K) (ni:α→β→Fm) (Ei:α→β→Env) (Ii:α→β→Cd) (C:α→β→Prop) (μ:α→β→Nat) (x0:α) (y0:β) (hn:ni x0 y0=n) (h0:C x0 y0) (hs:CO E (Ei x0 y0)) (hI:∀M w,I.h M w→(Ii x0 y0).h M w)
  (k:∀x y,C x y→Tr L (ni x y) (Ei x y++K) (Ii x y) c (Exit.then (fun a w=>∃x' y',(C x' y'∧μ x' y'<μ x y)∧St (ni x' y') (Ei x' y'++K) (Ii x' y') a w) Q)):Tr L n E I (.loop c) Q:=
 Tr.AC0 (fun p : α × β => ni p.1 p.2) (fun p => Ei p.1 p.2 ++ K) (fun p => Ii p.1 p.2) (fun p => C p.1 p.2) (fun p => μ p.1 p.2) (x0, y0) hn h0 (MF hs hK) hI
  fun ⟨x,y⟩ hC a w hst=>L.mono (fun e a w hq=>by
   cases e with
   |normal=>obtain ⟨x',y',h1,h2⟩:=hq;exact ⟨(x',y'),h1,h2⟩
   |_=>exact hq) (k x y hC a w hst)
theorem Fin.AC1 {α β:Type} {ni:α→β→Fm} {E1:α→β→Env} {I1:α→β→Cd} {C:α→β→Prop} (i:α) (j:β) (hn:ni i j=n) (hC:C i j) (hs:CO E (E1 i j)) (hI:∀M w,I.h M w→(I1 i j).h M w):Fin n E I (Exit.then (fun a w=>∃x y,C x y∧St (ni x y) (E1 x y) (I1 x y) a w) Q) .normal:=
 fun _ _ hst=>⟨i,j,hC,by rw [hn];exact hst.sub hs hI⟩
end
section
variable {P:Program} {fz:Nat} {E:Env} {M0 M1:Av} {w0 w1:World} {S:Nat→Prop} {g:Func} {α β:Type} {xs:List α} {own:List α→List At} {R Rx:List α→β→List At}
theorem Fin.AC2 {d:β} (hr:g.results= #[]):Fin ⟨fz,[]⟩ E (Hp M0 w0 S (own xs++Ak M1 w1::R xs d)) (JI P g fun e w'=>(∃v,e= .returned v)∧∃M' d',Ext M1 w1 M' w'∧(Ay M0 w0 S (own xs++R xs d') M' w'∨∃pre,pre<+:xs∧Ay M0 w0 S (own pre++Rx pre d') M' w')) .normal:=by
 refine Fin.yP (Fin.TX ?_)
 rintro a w ⟨M,_,hd,he,hi⟩
 obtain ⟨h1,h2⟩:=JT hi
 exact ⟨hd,_,results0 hr,⟨_,rfl⟩,M,d,h1,.inl h2⟩
theorem Fin.yX {d:β} {pre:List α} (hr:g.results= #[]) (hp:pre<+:xs):Fin ⟨fz,[]⟩ E (Hp M0 w0 S (own pre++Ak M1 w1::Rx pre d)) (JI P g fun e w'=>(∃v,e= .returned v)∧∃M' d',Ext M1 w1 M' w'∧(Ay M0 w0 S (own xs++R xs d') M' w'∨∃pre,pre<+:xs∧Ay M0 w0 S (own pre++Rx pre d') M' w')) .ret:=by
 refine Fin.TX ?_
 rintro a w ⟨M,_,hd,he,hi⟩
 obtain ⟨h1,h2⟩:=JT hi
 exact ⟨hd,_,results0 hr,⟨_,rfl⟩,M,d,h1,.inr ⟨pre,hp,h2⟩⟩
theorem BZ.yY {f:FuncId} {args:List Pr} {form:Nat→Value} {r':Value→At} (h:F3 P f args [] (fun _=>True) (fun b=>is (form b)) (fun b=>[r' (form b)])):BZ P f args (Cp.ex fun b=>is (form b)) Bp r':=by
 refine ⟨h.1,fun M0 w0 S rs M w vs hI hv=>(h.2 M0 w0 S rs M w vs (Ay.Jj hI) hv).mono ?_⟩
 rintro e w' ⟨v,M',b,rfl,_,h1,h2,h3⟩
 obtain rfl:v=form b:=h1
 exact ⟨_,M',rfl,⟨b,rfl⟩,h2,h3⟩
end
end Cp
namespace Go.Proofs.YtmocaapoeefgkaaGreatDoor
open Go Go.RowKit Cp Go.Proofs.Tryz
theorem VK {b:BitVec 32} {i:Nat}  :BD prog 184 [u32 b,int ((i:Nat):Int)] (bool (b.getLsbD i)):=by
 refine fo func184 rfl ⟨rfl,rfl⟩ fun M0 w0=> ?_
 refine a2 ?_
 refine co rfl (nH rfl vq vq (Int.natCast_nonneg _)) ?_
 refine co rfl (XD (c:=1#32) rfl vq vq) ?_
 refine co rfl (yR rfl vq vq) ?_
 refine a2 ?_
 · exact Lr
abbrev R9:TypeId:=181
abbrev nW (b:Nat):Value:= .func (.func 222) #[] #[.pointer (some ⟨b,0,none⟩)]
def AGH (s:BitVec 32) (v:Value):At:=match v with| .func _ _ #[.pointer (some a)]=>AF true a.block R9 [u32 s]|_=>Bp
def I2 (s:BitVec 32) (pre:List Nat):BitVec 32:=pre.foldl gE s
theorem Nu (s:BitVec 32) (pre:List Nat) (x:Nat):I2 s (pre++[x])=gE (I2 s pre) x:=by unfold I2;rw [List.foldl_append];rfl
theorem yZ {s:BitVec 32}  :F3 (α:=Nat) prog 181 [u32 s] [] (fun _=>True) (fun b=>is (nW b)) (fun b=>[AF true b R9 [u32 s]]):=by
 refine F3.of func181 rfl rfl Ao fun M0 w0 S rs M1 w1=>(Tr.seq (Tr.Ap ?_))
 refine TO.V9 rfl rfl AB rfl OJ (fun b1=> ?_)
 refine ap ?_
 refine Tr.seq (Tr.Aj (co rfl (t_ rfl vq) ?_))
 refine ac ?_
 refine Tr.ret (Fin.vU (b1) rfl (AO.tmp rfl Lr) trivial ?_ (List.Perm.refl _))
 · exact Lr
theorem nX {s:BitVec 32}:BZ Tryz.prog 181 [u32 s] (Cp.ex fun b=>is (nW b)) Bp (AGH s):=BZ.yY yZ
theorem VM {s:BitVec 32} {b:Nat}  :Mp prog 222 #[.pointer (some ⟨b,0,none⟩)] (fun i:Nat=> .int .i64 (i:Int)) (L3 s) (fun pre=>[Dw,AF true b R9 [u32 (I2 s pre)]]):=by
 refine Mp.of (ps:=[is (.pointer (some ⟨b,0,none⟩))]) func222 rfl Ao (fun _ _=>⟨rfl,trivial⟩) ?_
 intro M0 w0 S l β R Rx M1 w1 hy d
 refine Tr.block (Tr.Cr [(0,_),(1,_)] ⟨ke rfl,ke rfl,trivial⟩ (fun (pre:List Nat) (d2:β)=>[]) (fun (pre:List Nat) (d2:β)=>Hp M0 w0 S (Dw::AF true b R9 [u32 (I2 s pre)]::Ak M1 w1::R pre d2)) (fun (pre:List Nat) (d2:β)=>pre++L3 (I2 s pre)=L3 s) (fun (pre:List Nat) (d2:β)=>(L3 (I2 s pre)).length) ([]) (d)  (rfl) trivial (fun _ _ h=>h) ?_)
 rintro pre d2  hpe
 refine Tr.seq (Tr.seq (Tr.Aj (co rfl (Cw 1 rfl (BE rfl F1 (vl rfl) rfl)) (co rfl (nP rfl (vl rfl) (vl rfl)) (Ch.nil (Fin.go ?_))))))
 refine Tr.cn rfl ?_ ?_<;>intro h1 q1
 have hne:I2 s pre≠0#32:=by simpa using h1
 have nY:=RT hne
 have Xx:=ZS hne
 have hpx:(pre++[JY (I2 s pre)])<+:L3 s:=⟨L3 (gE (I2 s pre) (JY (I2 s pre))),by rw [←hpe,nY];simp⟩
 refine Tr.skip (Fin.go (Tr.block (Tr.seq (Tr.Ap (TO.rd 1 rfl rfl rfl AB (BE rfl F1 (vl rfl) rfl) (TO.HJ 0 rfl rfl AB (An rfl rfl AB rfl (yS hne) ⟨ke rfl,trivial⟩) (tm rfl (TO.nil (Fin.go (Tr.seq (Tr.Gu mixed [some (0,1,false,0),none,none,none,some (0,1,true,0)] Be (JC 1 rfl rfl (BE rfl F1 (vl rfl) rfl) (xm rfl ?_)))))))))))))
 refine xo rfl (fun _=>J9 (b:=1#32) rfl (vl rfl) (vl rfl) (Int.natCast_nonneg _)) ?_
 refine xo rfl (fun _=>J_ rfl (vl rfl) (vl rfl)) (Cx.Dv 1 rfl rfl (A9 rfl rfl (vl rfl) (Vo rfl) Fl rfl Ao rfl) ?_)
 refine Cx.nil ⟨rfl,?_⟩
 refine BO.done (A8.cons (A8.cons (A8.cons (A8.map _)))) (Fin.go (Tr.seq ?_))
 refine Tr.Ho 1 [u32 (I2 s (pre++[JY (I2 s pre)]))] rfl ⟨Pr.le_of_eq (by rw [Nu];rfl),trivial⟩ ?_
 refine Tr.nS (own:=fun pre=>[Dw,AF true b R9 [u32 (I2 s pre)]]) (pre:=pre) (x:=JY (I2 s pre)) (d:=d2) hy hpx rfl rfl rfl rfl rfl rfl rfl rfl rfl rfl rfl rfl Ao Ao Ao Ao AB rfl rfl rfl rfl rfl (fun d3=> ?_) (fun d3=> ?_)
 refine Fin.go (Tr.cond rfl (fun h=>nomatch h) (fun _=> ?_))
 refine Tr.skip (Fin.block ?_)
 exact Fin.Co (pre++[JY (I2 s pre)]) (d3)  (⟨by rw [Nu,List.append_assoc,←hpe,nY];rfl,by rw [Nu,nY];simp⟩) ⟨ke rfl,ke rfl,trivial⟩ (fun _ _ h=>h)
 refine Fin.go (Tr.cond rfl (fun _=> ?_) (fun h=>nomatch h))
 refine Tr.ret (Fin.AR (Fin.AE (Fin.AR (Fin.yX (g:=f222) (own:=fun pre=>[Dw,AF true b R9 [u32 (I2 s pre)]]) (R:=R) (Rx:=Rx) (d:=d3) rfl hpx))))
 have hz:I2 s pre=0#32:=by simpa using h1
 obtain rfl:pre=L3 s:=by rw [hz,nI,List.append_nil] at hpe;exact hpe
 refine Tr.exit (Fin.AW (Fin.AW (Fin.Au (Fin.AC2 (g:=f222) (own:=fun pre=>[Dw,AF true b R9 [u32 (I2 s pre)]]) (xs:=L3 s) (R:=R) (Rx:=Rx) (d:=d2) rfl))))
theorem VN:Entry Tryz.prog 222:=⟨_,Tryz.func222,rfl,rfl⟩
-- bits as AHW are AC3 (behind AHX.lean)
def bvF (p:Nat→Bool):Nat→BitVec 32
 |0=>0#32
 |k+1=>if p k then ZP (bvF p k) k else bvF p k
theorem ZY (p:Nat→Bool):∀(k:Nat) {j:Nat},k≤32→(bvF p k).getLsbD j=(decide (j<k)&&p j)
 |0,j,_=>by simp [bvF]
 |k+1,j,hk=>by
  have ih:= @ZY p k j AA
  unfold bvF
  split
  next h=>
   rw [ZR AA,ih]
   by_cases hj:k=j
   · subst hj;simp [h]
   ·
    by_cases h2:j<k
    ·
     have:j<k+1:=by omega
     simp [h2,this,hj]
    ·
     have:¬j<k+1:=by omega
     simp [h2,this,hj]
  next h=>
   rw [ih]
   by_cases hj:k=j
   · subst hj;simp at h;simp [h]
   ·
    by_cases h2:j<k
    ·
     have:j<k+1:=by omega
     simp [h2,this]
    ·
     have:¬j<k+1:=by omega
     simp [h2,this]
def Ep (n:Nat) (l:List BK):List (BitVec 32):=(List.range n).map fun b=>bvF (fun a=>C_ l n a b) n
theorem Cv (n:Nat) (l:List BK):(Ep n l).length=n:=by unfold Ep;simp
theorem Gi {n:Nat} {l:List BK} (hn:n≤32):Eo n (Ep n l) (C_ l n):=by
 refine ⟨Cv n l,fun b x hx a=> ?_⟩
 unfold Ep at hx
 rw [List.getElem?_map] at hx
 rcases Nat.lt_or_ge b n with hb|hb
 ·
  rw [List.getElem?_range hb] at hx
  simp only [Option.map_some,Option.some.injEq] at hx
  subst hx
  exact ZY _ n hn
 · rw [List.getElem?_eq_none FT] at hx;cases hx
theorem ZZ {n:Nat} {B C:List (BitVec 32)} {M:Nat→Nat→Bool} (h:Eo n B M) (h':Eo n C M):B=C:=by
 apply List.ext_getElem?
 intro b
 rcases Nat.lt_or_ge b n with hb|hb
 ·
  obtain ⟨x,hx⟩:=at_ (l:=B) (k:=b) (by rw [h.1];exact hb)
  obtain ⟨y,hy⟩:=at_ (l:=C) (k:=b) (by rw [h'.1];exact hb)
  rw [hx,hy]
  congr 1
  exact BitVec.eq_of_getLsbD_eq fun i _=>by rw [h.2 b x hx,h'.2 b y hy]
 · rw [List.getElem?_eq_none (by rw [h.1];exact hb),List.getElem?_eq_none (by rw [h'.1];exact hb)]
theorem gH {l:List BK} {k:Nat} {r:BK} (h:l[k]? =some r) (a b:Nat):GQ (l.take (k+1)) a b=(GQ (l.take k) a b||(decide (r.fst=(a:Int))&&decide (r.thn=(b:Int)))):=by
 unfold GQ;rw [List.take_add_one,h,List.any_append];simp
theorem Za {n:Nat} {B:List (BitVec 32)} {l:List BK} {k:Nat} {r:BK} {x:BitVec 32} (h:Eo n B (GQ (l.take k))) (hr:l[k]? =some r) (hf:0≤r.fst∧r.fst<n) (ht:0≤r.thn) (hx:B[r.thn.toNat]? =some x) (hn:n≤32):Eo n (B.set r.thn.toNat (ZP x r.fst.toNat)) (GQ (l.take (k+1))):=by
 refine Ms (nK h hx (f:=r.fst.toNat) AA hn) fun a b _ _=> ?_
 rw [gH hr]
 congr 1
 rw [decide_eq_decide.2 (show r.fst.toNat=a↔r.fst=(a:Int) by omega),decide_eq_decide.2 (show r.thn.toNat=b↔r.thn=(b:Int) by omega)]
def JJ (i:Nat) (A:List (BitVec 32)) (k:Nat):List (BitVec 32):=A.set k (ZP (A.getD k 0#32) i)
def K5 (B:List (BitVec 32)):Nat→List (BitVec 32)
 |0=>List.replicate B.length 0#32
 |i+1=>(L3 (B.getD i 0#32)).foldl (JJ i) (K5 B i)
theorem Nv (i:Nat):∀(ks:List Nat) (A:List (BitVec 32)),(ks.foldl (JJ i) A).length=A.length
 |[],_=>rfl
 |k::ks,A=>by rw [List.foldl_cons,Nv i ks];unfold JJ;rw [List.length_set]
theorem IB (B:List (BitVec 32)):∀i,(K5 B i).length=B.length
 |0=>List.length_replicate
 |i+1=>by unfold K5;rw [Nv,IB B i]
theorem gI {B:List (BitVec 32)} {i:Nat} {x:BitVec 32} (h:B[i]? =some x):K5 B (i+1)=(L3 x).foldl (JJ i) (K5 B i):=by
 rw [K5,List.getD_eq_getElem?_getD,h];rfl
def Lu (B:List (BitVec 32)) (s:BitVec 32):Nat→BitVec 32
 |0=>0#32
 |k+1=>if (!s.getLsbD k&&(B.getD k 0#32&&&~~~s==0#32))=true then ZP (Lu B s k) k else Lu B s k
theorem nZ {B:List (BitVec 32)} {s x:BitVec 32} {k:Nat} (hx:B[k]? =some x) (h1:s.getLsbD k=false) (h2:(x&&&~~~s==0#32)=true):Lu B s (k+1)=ZP (Lu B s k) k:=by
 rw [Lu,List.getD_eq_getElem?_getD,hx,if_pos];rw [h1];simpa using h2
theorem uC {B:List (BitVec 32)} {s x:BitVec 32} {k:Nat} (hx:B[k]? =some x) (h:s.getLsbD k=true∨(x&&&~~~s==0#32)=false):Lu B s (k+1)=Lu B s k:=by
 rw [Lu,List.getD_eq_getElem?_getD,hx,if_neg]
 intro hc
 rw [Bool.and_eq_true] at hc
 rcases h with h|h
 · rw [h] at hc;cases hc.1
 · have:=hc.2;rw [show (some x).getD 0#32=x from rfl,h] at this;cases this
theorem ng (B:List (BitVec 32)) (s:BitVec 32):∀k,Lu B s k=bvF (fun j=> !s.getLsbD j&&(B.getD j 0#32&&&~~~s==0#32)) k
 |0=>rfl
 |k+1=>by unfold Lu bvF;rw [ng B s k]
theorem uD {n:Int} {l:List BK} {s:BitVec 32} {d:List Int} (hv:BH n l=0) (hs:RU n.toNat s d) (hc:Ck l d=true) (j:Nat):(Lu (Ep n.toNat l) s n.toNat).getLsbD j=(decide (j<n.toNat)&&K3 l d true j):=by
 obtain ⟨h0,_⟩:=Cu hv
 rw [ng,ZY _ _ AA]
 by_cases hj:j<n.toNat
 ·
  obtain ⟨x,hx⟩:=at_ (l:=Ep n.toNat l) (k:=j) (by rw [Cv];exact hj)
  rw [tq hv (Gi AA) hs hc hx hj,List.getD_eq_getElem?_getD,hx];rfl
 · simp [hj]
abbrev bits (B:List (BitVec 32)):Pr:=slice 1 (B.map fun x=>[u32 x])
def ya (a b:BK):Int:=orF [JU a.fst b.fst,JU a.thn b.thn]
theorem VO {a b:BK}:decide (ya a b≥0)= !En a b:=by
 unfold ya En
 rw [Bool.eq_iff_iff,decide_eq_true_eq]
 simp only [orF,JU]
 repeat' split
 all_goals (simp;try omega)
theorem Ko {B:List (BitVec 32)} {i:Int} {x:BitVec 32} (h:B[i.toNat]? =some x):(B.map fun x=>u32 x)[0+i.toNat*1]? =some (u32 x):=by rw [Nat.zero_add,Nat.mul_one,List.getElem?_map,h];rfl
theorem RW {B:List (BitVec 32)} {i:Int} {x y:BitVec 32} (h:B[i.toNat]? =some x):(B.map fun x=>u32 x).take (0+i.toNat*1)++[u32 y]++(B.map fun x=>u32 x).drop (0+i.toNat*1+1)=(B.set i.toNat y).map fun x=>u32 x:=by
 have hl:i.toNat<B.length:=by rcases Nat.lt_or_ge i.toNat B.length with h2|h2;exact h2;rw [List.getElem?_eq_none h2] at h;cases h
 rw [Nat.zero_add,Nat.mul_one,List.set_eq_take_append_cons_drop,if_pos hl]
 simp [List.map_take,List.map_drop]
theorem TY (B:List (BitVec 32)):(B.map fun x=>u32 x)=(B.map fun x=>[u32 x]).flatten++([]:List Value).map is:=by
 induction B with
 |nil=>rfl
 |cons x B ih=>simp at ih ⊢;exact ih
theorem Ta (n:Nat):(List.replicate n (Value.int .u32 0)).map is=(List.replicate n 0#32).map fun x=>u32 x:=by rw [List.map_replicate,List.map_replicate];rfl
theorem RY {B:List (BitVec 32)} {i:Nat} {x:BitVec 32} (h:B[i]? =some x):(B.map fun x=>[u32 x])[((i:Nat):Int).toNat]? =some [u32 x]:=by rw [Int.toNat_natCast,List.getElem?_map,h];rfl
theorem gJ {i k:Nat} {pre:List Nat} {A:List (BitVec 32)} {y:BitVec 32} (h:(pre.foldl (JJ i) A)[k]? =some y):(pre.foldl (JJ i) A).set k (ZP y i)=(pre++[k]).foldl (JJ i) A:=by
 rw [List.foldl_append]
 show _=(pre.foldl (JJ i) A).set k (ZP ((pre.foldl (JJ i) A).getD k 0#32) i)
 rw [List.getD_eq_getElem?_getD,h];rfl
theorem yc {n:Nat} {r:BK} (h:FC n r=false):(0≤r.fst∧r.fst<n)∧(0≤r.thn∧r.thn<n)∧r.fst≠r.thn:=by
 unfold FC at h;rw [decide_eq_false_iff_not] at h;omega
theorem yd {ps qs:List Pr} (h:QV ps qs):Pr.le (ref ps) (ref qs):=fun M w v ⟨a,h1,h2⟩=>⟨a,h1,fun i q hq=>by
 obtain ⟨p,hp,hle⟩:=h.at_ i q hq
 obtain ⟨u,g1,g2⟩:=h2 i p hp
 exact ⟨u,g1,g2.1,g2.2.1,hle _ _ _ g2.2.2⟩⟩
theorem nh {xs pre:List Nat} {x:Nat} (h:(pre++[x])<+:xs):x∈xs:=h.subset AU
theorem Zb {a b:BK}  :BD prog 182 [agg (Oc a),agg (Oc b)] (int (ya a b)):=by
 refine fo func182 rfl ⟨rfl,rfl⟩ fun M0 w0=> ?_
 refine a2 ?_
 refine co rfl (CK (Yq) rfl rfl rfl) ?_
 refine ac ?_
 refine co rfl (CK (Yq) rfl rfl rfl) (co rfl (AM (xs:=[.tmp 9,.tmp 14]) (rows:=[[_],[_]]) rfl rfl underlying22 Bt z3 rfl AB ⟨⟨Am,OJ⟩,⟨⟨Am,OJ⟩,trivial⟩⟩ AB) ?_)
 refine co rfl (AV rfl (ACP (l:=[JU a.fst b.fst,JU a.thn b.thn])) ⟨GG,trivial⟩) ?_
 refine ac ?_
 refine wk [4] rfl ?_
 refine ac ?_
 · exact Lr
theorem gK {n:Nat} {l:List BK} (hn:n≤24) (hbd:∀r∈l,FC n r=false):BZ Tryz.prog 183 [int ((n:Nat):Int),reqs l] (ref [int ((n:Nat):Int),bits (Ep n l),bits (K5 (Ep n l) n)]) (Dw) (fun _=>Dw):=by
 refine BZ.ofM Tryz.func183 rfl rfl B8 fun M0 w0 S rs M1 w1=> ?_
 refine Tr.C6 1 rfl fun G2=> ?_
 refine Tr.seq ?_
 refine Tr.Aj ?_
 refine Ch.op rfl rfl AB (Db rfl (vl rfl)) ?_
 refine Ch.nil ?_
 refine Fin.go ?_
 refine Tr.seq ?_
 refine Tr.pad ?_
 refine Tr.pad ?_
 refine Tr.pad ?_
 refine Tr.pad ?_
 refine Tr.Gu mixed [none,none,some (0,0,true,14),none,some (0,1,true,16),some (0,2,true,.three 17 14 16),some (.three 17 14 16,2,true,.three 18 14 16),some (0,3,true,5),some (5,3,true,.two 5 18)] Be ?_
 refine Cx.op rfl rfl AB (fun _=>BM rfl (vl rfl)) ?_
 refine Cx.op rfl rfl AB (fun _=>BM rfl (vl rfl)) ?_
 refine Cx.ef 0 rfl rfl AB (nU rfl rfl AB rfl Tryz.underlying232 Fl vG AA9 rfl (vl rfl) (vl rfl) Fu AA) ?_
 refine Cx.op rfl rfl AB (fun _=>BM rfl (vl rfl)) ?_
 refine Cx.ef 1 rfl rfl AB (nU rfl rfl AB rfl Tryz.underlying232 Fl vG AA9 rfl (vl rfl) (vl rfl) Fu AA) ?_
 refine Cx.ef 2 rfl rfl AB (yU (d:=17) (s:=14) (t:=16) (q:=any) rfl AB AB (fun _ _ _ _ _ _=>trivial) rfl rfl rfl AB AB (fun v1 v2=>ZX rfl rfl AB (fun _=>Al (rows:=[(0,[_]),(1,[_]),(2,[_])]) rfl ABB ABC ⟨⟨rfl,VL.le (vl rfl) (Af _)⟩,⟨⟨rfl,VL.le (vl rfl) (Af _)⟩,⟨⟨rfl,VL.le (vl rfl) (Af _)⟩,trivial⟩⟩⟩ rfl))) ?_
 refine Cx.ef 2 rfl rfl AB (uA rfl rfl AB rfl AB AB) ?_
 refine Cx.ef 3 rfl rfl AB (CW rfl rfl AB rfl AEy AA8) ?_
 refine Cx.Dv 3 rfl rfl (gG rfl rfl rfl AB rfl rfl AA7 rfl) ?_
 refine Cx.nil ⟨rfl,?_⟩
 refine BO.pin 14 rfl (fun v14=> ?_)
 refine BO.pin 16 rfl (fun v16=> ?_)
 refine BO.pin 18 rfl (fun v18=> ?_)
 refine BO.pin 5 rfl (fun v5=> ?_)
 refine BO.uB 0 14 rfl rfl ?_
 refine BO.uB 1 16 rfl rfl ?_
 refine BO.AGG 2 18 14 16 rfl rfl rfl rfl ?_
 refine BO.nV 3 5 18 rfl rfl rfl ?_
 refine BO.done (A8.cons (A8.cons (A8.cons (A8.cons (A8.cons (A8.cons (A8.map _))))))) ?_
 refine Fin.shape 14 (fun b=>JQ n b) rfl (fun b1 e1=> ?_)
 refine Fin.shape 16 (fun b=>JQ n b) rfl (fun b2 e2=> ?_)
 refine Fin.shape 18 (fun b=> .pointer (some ⟨b,0,none⟩)) rfl (fun b3 e3=> ?_)
 refine Fin.shape 5 (fun b=> .pointer (some ⟨b,0,none⟩)) rfl (fun b4 e4=> ?_)
 subst e1 e2 e3 e4
 refine Fin.HS 0 (AF true b1 R9 ((List.replicate n 0#32).map fun x=>u32 x)) rfl (by rw [←Ta];rfl) ?_
 refine Fin.HS 1 (AF true b2 R9 ((List.replicate n 0#32).map fun x=>u32 x)) rfl (by rw [←Ta];rfl) ?_
 refine Fin.HS 2 (AF true b3 234 [int ((n:Nat):Int),Ab (JQ n b1) _,Ab (JQ n b2) _]) rfl rfl ?_
 refine Fin.Ho 2 [int ((n:Nat):Int),is (JQ n b1),is (JQ n b2)] rfl ⟨Pr.le_refl _,E0 _ _,E0 _ _,trivial⟩ ?_
 refine Fin.HS 3 (AF true b4 176 [Ab (.pointer (some ⟨b3,0,none⟩)) _]) rfl rfl ?_
 refine Fin.Ho 3 [ptr b3 0] rfl ⟨E0 _ _,trivial⟩ ?_
 refine Fin.go ?_
 refine Tr.seq ?_
 refine Tr.seq ?_
 refine Tr.Aj ?_
 refine Ch.op rfl rfl AB (BM rfl (vl rfl)) ?_
 first
  |refine Ch.op rfl rfl AB (CH rfl Tryz.underlying33 (vl rfl)) ?_
  |refine Ch.op rfl rfl AB (Ca rfl Tryz.underlying33 (vl rfl)) ?_
 refine Ch.op rfl rfl AB (BM rfl (vl rfl)) ?_
 refine Ch.nil ?_
 refine Fin.go ?_
 refine Tr.block ?_
 refine Tr.Cr [(0,_),(5,_),(19,_),(20,_)] ⟨⟨_,rfl,Pr.le_refl _⟩,⟨_,rfl,Pr.le_refl _⟩,⟨_,rfl,Pr.le_refl _⟩,⟨_,rfl,Pr.le_refl _⟩,trivial⟩ (fun (B:List (BitVec 32)) (m:Nat)=>[(21,int ((m:Nat):Int))]) (fun (B:List (BitVec 32)) (m:Nat)=>Hp M0 w0 S (AF true b1 R9 (B.map fun x=>u32 x)::AF true b2 R9 ((List.replicate n 0#32).map fun x=>u32 x)::AF true b3 234 [int ((n:Nat):Int),is (JQ n b1),is (JQ n b2)]::AF true b4 176 [ptr b3 0]::Dw::Ak M1 w1::rs)) (fun (B:List (BitVec 32)) (m:Nat)=>m≤l.length∧Eo n B (GQ (l.take m))) (fun (B:List (BitVec 32)) (m:Nat)=>l.length-m) (List.replicate n 0#32) (0)  (⟨Nat.zero_le _,Ms (ZT n) fun a b _ _=>rfl⟩) ⟨⟨_,rfl,Pr.le_refl _⟩,trivial⟩ (fun _ _ h=>h) ?_
 rintro B m  ⟨hm0,hB⟩
 refine Tr.seq ?_
 refine Tr.Aj ?_
 refine Ch.op rfl rfl AB (ok_int rfl (vl rfl) (vl rfl) rfl) ?_
 refine Ch.nil ?_
 refine Fin.go ?_
 refine Tr.seq ?_
 refine Tr.cond rfl (fun h1=> ?_) (fun h1=> ?_)
 ·
  have q1:=C3.DZ h1
  have hm:m<l.length:=AH h1
  obtain ⟨r,hr⟩:=at_ hm
  obtain ⟨hf,ht,_⟩:=yc (hbd r (List.mem_of_getElem? hr))
  have hBl:=hB.1
  obtain ⟨x,hx⟩:=at_ (l:=B) (k:=r.thn.toNat) AA
  refine Tr.skip ?_
  refine Fin.go ?_
  refine Tr.seq ?_
  refine Tr.block ?_
  refine Tr.seq ?_
  refine Tr.Ap ?_
  refine TO.op rfl rfl AB (AD rfl Tryz.underlying33 Cf (vl rfl) (vl rfl) AA (Aa hr)) ?_
  refine TO.op rfl rfl AB (AQ rfl FH Cf (vl rfl) rfl rfl) ?_
  refine TO.alloc rfl rfl AB rfl Qd Oi (fun b5=> ?_)
  refine TO.AK 0 rfl rfl rfl (vl rfl) (VL.le (vl rfl) (Ad _)) rfl Cf rfl rfl ?_
  refine TO.freeze 0 7 rfl rfl ?_
  refine TO.nil ?_
  refine Fin.go ?_
  refine Tr.Gu mixed [some (0,3,false,0),none,none,some (0,2,false,0),none,none,none,some (0,0,false,0),none,none,none,none,none,some (0,0,true,0)] Be ?_
  refine Cx.rd 3 rfl rfl rfl AB (BE rfl Jn (vl rfl) rfl) ?_
  refine Cx.op rfl rfl AB (fun _=>EH rfl (vl rfl)) ?_
  refine Cx.op rfl rfl AB (fun _=>Ac rfl Ig (vl rfl)) ?_
  refine Cx.rd 2 rfl rfl rfl AB (BE rfl Jp (vl rfl) rfl) ?_
  refine Cx.op rfl rfl AB (fun _=>FX rfl Ue (vl rfl) rfl) ?_
  refine Cx.op rfl rfl AB (fun _=>Ef rfl Cj (vl rfl)) ?_
  refine Cx.op rfl rfl AB (fun _=>BG rfl Tryz.underlying232 Fl (vl rfl) (vl rfl) AA AA) ?_
  refine Cx.rd 0 rfl rfl rfl AB (BE rfl F1 (vl rfl) (Ko hx)) ?_
  refine Cx.op rfl rfl AB (fun _=>FX rfl Yf (vl rfl) rfl) ?_
  refine Cx.op rfl rfl AB (fun _=>Ef rfl Cj (vl rfl)) ?_
  refine Cx.op rfl rfl AB (fun _=>J9 (b:=1#32) rfl (vl rfl) (vl rfl) AA) ?_
  refine Cx.op rfl rfl AB (fun _=>Mq rfl (vl rfl) (vl rfl)) ?_
  refine Cx.op rfl rfl AB (fun _=>BG rfl Tryz.underlying232 Fl (vl rfl) (vl rfl) AA AA) ?_
  refine Cx.Dv 0 rfl rfl (A9 rfl rfl (vl rfl) (VL.le (vl rfl) (Af _)) Fl rfl EE (RW hx)) ?_
  refine Cx.nil ⟨rfl,?_⟩
  refine BO.done (A8.cons (A8.cons (A8.cons (A8.cons (A8.cons (A8.cons (A8.map _))))))) ?_
  refine Fin.block ?_
  refine Fin.go ?_
  refine Tr.weak [(0,_),(5,_),(19,_),(20,_),(21,_)] ⟨⟨_,rfl,Pr.le_refl _⟩,⟨_,rfl,Pr.le_refl _⟩,⟨_,rfl,Pr.le_refl _⟩,⟨_,rfl,Pr.le_refl _⟩,⟨_,rfl,Pr.le_refl _⟩,trivial⟩ ?_
  refine Tr.Aj ?_
  first
   |(refine Ch.op rfl rfl AB (FE rfl (vl rfl) (vl rfl) ?hin) ?_;case hin=>unfold Oe;omega)
   |refine Ch.op rfl rfl AB (ok_int rfl (vl rfl) (vl rfl) rfl) ?_
  refine Ch.op rfl rfl AB (BM rfl (vl rfl)) ?_
  refine Ch.nil ?_
  exact Fin.Co (B.set r.thn.toNat (ZP x r.fst.toNat)) (m+1)  (⟨⟨hm,Za hB hr hf ht.1 hx AA⟩,by omega⟩) ⟨⟨_,rfl,AG m⟩,⟨_,rfl,Pr.le_refl _⟩,⟨_,rfl,Pr.le_refl _⟩,⟨_,rfl,Pr.le_refl _⟩,⟨_,rfl,Pr.le_refl _⟩,trivial⟩ (fun _ _ h=>h)
 ·
  have q1:=C3.DZ h1
  have hml:m=l.length:=by have:=AJ h1;omega
  rw [hml,List.take_length] at hB
  refine Tr.exit ?_
  refine Fin.AW ?_
  refine Fin.AW ?_
  refine Fin.Au ?_
  refine Fin.go ?_
  refine Tr.seq ?_
  refine Tr.seq ?_
  refine Tr.Aj ?_
  refine Ch.op rfl rfl AB (BM rfl (vl rfl)) ?_
  refine Ch.op rfl rfl AB (BM rfl (vl rfl)) ?_
  refine Ch.nil ?_
  refine Fin.go ?_
  refine Tr.block ?_
  refine Tr.Cr [(0,_),(5,_),(39,_)] ⟨⟨_,rfl,Pr.le_refl _⟩,⟨_,rfl,Pr.le_refl _⟩,⟨_,rfl,Pr.le_refl _⟩,trivial⟩ (fun (B2:List (BitVec 32)) (k:Nat)=>[(40,int ((k:Nat):Int))]) (fun (B2:List (BitVec 32)) (k:Nat)=>Hp M0 w0 S (AF true b1 R9 (B2.map fun x=>u32 x)::AF true b2 R9 ((List.replicate n 0#32).map fun x=>u32 x)::AF true b3 234 [int ((n:Nat):Int),is (JQ n b1),is (JQ n b2)]::AF true b4 176 [ptr b3 0]::Dw::Ak M1 w1::rs)) (fun (B2:List (BitVec 32)) (k:Nat)=>k≤n∧Eo n B2 (C_ l k)) (fun (B2:List (BitVec 32)) (k:Nat)=>n-k) (B) (0)  (⟨Nat.zero_le _,hB⟩) ⟨⟨_,rfl,Pr.le_refl _⟩,trivial⟩ (fun _ _ h=>h) ?_
  rintro B2 k  ⟨hk0,hB2⟩
  refine Tr.seq ?_
  refine Tr.Aj ?_
  refine Ch.op rfl rfl AB (ok_int rfl (vl rfl) (vl rfl) rfl) ?_
  refine Ch.nil ?_
  refine Fin.go ?_
  refine Tr.seq ?_
  refine Tr.cond rfl (fun h2=> ?_) (fun h2=> ?_)
  ·
   have q2:=C3.DZ h2
   have hk:k<n:=AH h2
   refine Tr.skip ?_
   refine Fin.go ?_
   refine Tr.seq ?_
   refine Tr.block ?_
   refine Tr.seq ?_
   refine Tr.Aj ?_
   refine Ch.op rfl rfl AB (BM rfl (vl rfl)) ?_
   refine Ch.op rfl rfl AB (Db rfl (vl rfl)) ?_
   refine Ch.nil ?_
   refine Fin.go ?_
   refine Tr.seq ?_
   refine Tr.Aj ?_
   refine Ch.op rfl rfl AB (BM rfl (vl rfl)) ?_
   refine Ch.op rfl rfl AB (BM rfl (vl rfl)) ?_
   refine Ch.nil ?_
   refine Fin.go ?_
   refine Tr.block ?_
   refine Tr.Cr [(0,_),(5,_),(8,_),(39,_),(40,_),(43,_)] ⟨⟨_,rfl,Pr.le_refl _⟩,⟨_,rfl,Pr.le_refl _⟩,⟨_,rfl,Pr.le_refl _⟩,⟨_,rfl,Pr.le_refl _⟩,⟨_,rfl,Pr.le_refl _⟩,⟨_,rfl,Pr.le_refl _⟩,trivial⟩ (fun (B3:List (BitVec 32)) (i:Nat)=>[(44,int ((i:Nat):Int))]) (fun (B3:List (BitVec 32)) (i:Nat)=>Hp M0 w0 S (AF true b1 R9 (B3.map fun x=>u32 x)::AF true b2 R9 ((List.replicate n 0#32).map fun x=>u32 x)::AF true b3 234 [int ((n:Nat):Int),is (JQ n b1),is (JQ n b2)]::AF true b4 176 [ptr b3 0]::Dw::Ak M1 w1::rs)) (fun (B3:List (BitVec 32)) (i:Nat)=>i≤n∧Eo n B3 (K4 k (C_ l k) i)) (fun (B3:List (BitVec 32)) (i:Nat)=>n-i) (B2) (0)  (⟨Nat.zero_le _,by rw [yM];exact hB2⟩) ⟨⟨_,rfl,Pr.le_refl _⟩,trivial⟩ (fun _ _ h=>h) ?_
   rintro B3 i  ⟨hi0,hB3⟩
   refine Tr.seq ?_
   refine Tr.Aj ?_
   refine Ch.op rfl rfl AB (ok_int rfl (vl rfl) (vl rfl) rfl) ?_
   refine Ch.nil ?_
   refine Fin.go ?_
   refine Tr.seq ?_
   refine Tr.cond rfl (fun h3=> ?_) (fun h3=> ?_)
   ·
    have q3:=C3.DZ h3
    have hi:i<n:=AH h3
    have hBl:=hB3.1
    obtain ⟨x,hx⟩:=at_ (l:=B3) (k:=i) AA
    obtain ⟨y,hy⟩:=at_ (l:=B3) (k:=k) AA
    refine Tr.skip ?_
    refine Fin.go ?_
    refine Tr.seq ?_
    refine Tr.block ?_
    refine Tr.seq ?_
    refine Tr.Aj ?_
    refine Ch.op rfl rfl AB (BM rfl (vl rfl)) ?_
    refine Ch.op rfl rfl AB (Db rfl (vl rfl)) ?_
    refine Ch.nil ?_
    refine Fin.go ?_
    refine Tr.seq ?_
    refine Tr.Aj ?_
    refine Ch.op rfl rfl AB (Cw 3 rfl (BE rfl Jn (vl rfl) rfl)) ?_
    refine Ch.op rfl rfl AB (EH rfl (vl rfl)) ?_
    refine Ch.op rfl rfl AB (Ac rfl Ig (vl rfl)) ?_
    refine Ch.op rfl rfl AB (Cw 2 rfl (BE rfl Jp (vl rfl) rfl)) ?_
    refine Ch.op rfl rfl AB (BM rfl (vl rfl)) ?_
    refine Ch.op rfl rfl AB (BG rfl Tryz.underlying232 Fl (vl rfl) (vl rfl) AA AA) ?_
    refine Ch.op rfl rfl AB (Cw 0 rfl (BE rfl F1 (vl rfl) (Ko hx))) ?_
    refine Ch.op rfl rfl AB (BM rfl (vl rfl)) ?_
    refine Ch.op rfl rfl AB (AV rfl (VK) ⟨⟨_,rfl,Pr.le_refl _⟩,⟨_,rfl,Pr.le_refl _⟩,trivial⟩) ?_
    refine Ch.nil ?_
    refine Fin.go ?_
    refine Tr.weak [(0,_),(5,_),(8,_),(9,_),(39,_),(40,_),(43,_),(44,_),(55,_)] ⟨⟨_,rfl,Pr.le_refl _⟩,⟨_,rfl,Pr.le_refl _⟩,⟨_,rfl,Pr.le_refl _⟩,⟨_,rfl,Pr.le_refl _⟩,⟨_,rfl,Pr.le_refl _⟩,⟨_,rfl,Pr.le_refl _⟩,⟨_,rfl,Pr.le_refl _⟩,⟨_,rfl,Pr.le_refl _⟩,⟨_,rfl,Pr.le_refl _⟩,trivial⟩ ?_
    refine Tr.cond rfl (fun h4=> ?_) (fun h4=> ?_)
    ·
     have q4:=C3.DZ h4
     refine Tr.Gu mixed [some (0,3,false,0),none,none,some (0,2,false,0),none,none,some (0,0,false,0),some (0,3,false,0),none,none,some (0,2,false,0),none,none,some (0,0,false,0),none,none,some (0,0,true,0)] Be ?_
     refine Cx.rd 3 rfl rfl rfl AB (BE rfl Jn (vl rfl) rfl) ?_
     refine Cx.op rfl rfl AB (fun _=>EH rfl (vl rfl)) ?_
     refine Cx.op rfl rfl AB (fun _=>Ac rfl Ig (vl rfl)) ?_
     refine Cx.rd 2 rfl rfl rfl AB (BE rfl Jp (vl rfl) rfl) ?_
     refine Cx.op rfl rfl AB (fun _=>BM rfl (vl rfl)) ?_
     refine Cx.op rfl rfl AB (fun _=>BG rfl Tryz.underlying232 Fl (vl rfl) (vl rfl) AA AA) ?_
     refine Cx.rd 0 rfl rfl rfl AB (BE rfl F1 (vl rfl) (Ko hx)) ?_
     refine Cx.rd 3 rfl rfl rfl AB (BE rfl Jn (vl rfl) rfl) ?_
     refine Cx.op rfl rfl AB (fun _=>EH rfl (vl rfl)) ?_
     refine Cx.op rfl rfl AB (fun _=>Ac rfl Ig (vl rfl)) ?_
     refine Cx.rd 2 rfl rfl rfl AB (BE rfl Jp (vl rfl) rfl) ?_
     refine Cx.op rfl rfl AB (fun _=>BM rfl (vl rfl)) ?_
     refine Cx.op rfl rfl AB (fun _=>BG rfl Tryz.underlying232 Fl (vl rfl) (vl rfl) AA AA) ?_
     refine Cx.rd 0 rfl rfl rfl AB (BE rfl F1 (vl rfl) (Ko hy)) ?_
     refine Cx.op rfl rfl AB (fun _=>Mq rfl (vl rfl) (vl rfl)) ?_
     refine Cx.op rfl rfl AB (fun _=>BG rfl Tryz.underlying232 Fl (vl rfl) (vl rfl) AA AA) ?_
     refine Cx.Dv 0 rfl rfl (A9 rfl rfl (vl rfl) (VL.le (vl rfl) (Af _)) Fl rfl EE (RW hx)) ?_
     refine Cx.nil ⟨rfl,?_⟩
     refine BO.done (A8.cons (A8.cons (A8.cons (A8.cons (A8.cons (A8.cons (A8.map _))))))) ?_
     refine Fin.block ?_
     refine Fin.go ?_
     refine Tr.weak [(0,_),(5,_),(8,_),(39,_),(40,_),(43,_),(44,_)] ⟨⟨_,rfl,Pr.le_refl _⟩,⟨_,rfl,Pr.le_refl _⟩,⟨_,rfl,Pr.le_refl _⟩,⟨_,rfl,Pr.le_refl _⟩,⟨_,rfl,Pr.le_refl _⟩,⟨_,rfl,Pr.le_refl _⟩,⟨_,rfl,Pr.le_refl _⟩,trivial⟩ ?_
     refine Tr.Aj ?_
     first
      |(refine Ch.op rfl rfl AB (FE rfl (vl rfl) (vl rfl) ?hin) ?_;case hin=>unfold Oe;omega)
      |refine Ch.op rfl rfl AB (ok_int rfl (vl rfl) (vl rfl) rfl) ?_
     refine Ch.op rfl rfl AB (BM rfl (vl rfl)) ?_
     refine Ch.nil ?_
     exact Fin.Co (B3.set i (x|||y)) (i+1)  (⟨⟨hi,nN hB3 hx hy (by rw [←XG hB3 hx hk];exact h4)⟩,by omega⟩) ⟨⟨_,rfl,AG i⟩,⟨_,rfl,Pr.le_refl _⟩,⟨_,rfl,Pr.le_refl _⟩,⟨_,rfl,Pr.le_refl _⟩,⟨_,rfl,Pr.le_refl _⟩,⟨_,rfl,Pr.le_refl _⟩,⟨_,rfl,Pr.le_refl _⟩,trivial⟩ (fun _ _ h=>h)
    ·
     have q4:=C3.DZ h4
     refine Tr.skip ?_
     refine Fin.block ?_
     refine Fin.go ?_
     refine Tr.Aj ?_
     first
      |(refine Ch.op rfl rfl AB (FE rfl (vl rfl) (vl rfl) ?hin) ?_;case hin=>unfold Oe;omega)
      |refine Ch.op rfl rfl AB (ok_int rfl (vl rfl) (vl rfl) rfl) ?_
     refine Ch.op rfl rfl AB (BM rfl (vl rfl)) ?_
     refine Ch.nil ?_
     exact Fin.Co (B3) (i+1)  (⟨⟨hi,tj hB3 (by rw [←XG hB3 hx hk];exact h4)⟩,by omega⟩) ⟨⟨_,rfl,AG i⟩,⟨_,rfl,Pr.le_refl _⟩,⟨_,rfl,Pr.le_refl _⟩,⟨_,rfl,Pr.le_refl _⟩,⟨_,rfl,Pr.le_refl _⟩,⟨_,rfl,Pr.le_refl _⟩,⟨_,rfl,Pr.le_refl _⟩,trivial⟩ (fun _ _ h=>h)
   ·
    have q3:=C3.DZ h3
    have hin:i=n:=by have:=AJ h3;omega
    rw [hin] at hB3
    refine Tr.exit ?_
    refine Fin.AW ?_
    refine Fin.AW ?_
    refine Fin.Au ?_
    refine Fin.block ?_
    refine Fin.go ?_
    refine Tr.Aj ?_
    first
     |(refine Ch.op rfl rfl AB (FE rfl (vl rfl) (vl rfl) ?hin) ?_;case hin=>unfold Oe;omega)
     |refine Ch.op rfl rfl AB (ok_int rfl (vl rfl) (vl rfl) rfl) ?_
    refine Ch.op rfl rfl AB (BM rfl (vl rfl)) ?_
    refine Ch.nil ?_
    exact Fin.Co (B3) (k+1)  (⟨⟨hk,Ms hB3 fun a b _ hb=>nL hb⟩,by omega⟩) ⟨⟨_,rfl,AG k⟩,⟨_,rfl,Pr.le_refl _⟩,⟨_,rfl,Pr.le_refl _⟩,⟨_,rfl,Pr.le_refl _⟩,trivial⟩ (fun _ _ h=>h)
  ·
   have q2:=C3.DZ h2
   have hkn:k=n:=by have:=AJ h2;omega
   rw [hkn] at hB2
   obtain rfl:=ZZ hB2 (Gi AA)
   refine Tr.exit ?_
   refine Fin.AW ?_
   refine Fin.AW ?_
   refine Fin.Au ?_
   refine Fin.go ?_
   refine Tr.seq ?_
   refine Tr.seq ?_
   refine Tr.Aj ?_
   refine Ch.op rfl rfl AB (BM rfl (vl rfl)) ?_
   refine Ch.op rfl rfl AB (BM rfl (vl rfl)) ?_
   refine Ch.nil ?_
   refine Fin.go ?_
   refine Tr.block ?_
   refine Tr.yW [(5,_),(74,_)] ⟨⟨_,rfl,Pr.le_refl _⟩,⟨_,rfl,Pr.le_refl _⟩,trivial⟩ (fun Ds i=>⟨_,Ds.map Cp.mark⟩) (fun Ds i=>[(75,int ((i:Nat):Int))]) (fun Ds i=>Hp M0 w0 S (AF true b1 R9 ((Ep n l).map fun x=>u32 x)::AF true b2 R9 ((K5 (Ep n l) i).map fun x=>u32 x)::AF true b3 234 [int ((n:Nat):Int),is (JQ n b1),is (JQ n b2)]::AF true b4 176 [ptr b3 0]::Dw::(Ds.map XH++Ak M1 w1::rs))) (fun Ds i=>i≤(n)) (fun Ds i=>(n)-i) [] 0 rfl (Nat.zero_le _) ⟨⟨_,rfl,Pr.le_refl _⟩,trivial⟩ ((by rw [K5,Cv];exact fun _ _ h=>h)) ?_
   rintro Ds i Ws
   refine Tr.seq ?_
   refine Tr.Aj ?_
   refine Ch.op rfl rfl B8 (ok_int rfl (vl rfl) (vl rfl) rfl) ?_
   refine Ch.nil ?_
   refine Fin.go ?_
   refine Tr.seq ?_
   refine Tr.cond rfl (fun h5=> ?_) (fun h5=> ?_)
   ·
    have q5:=C3.DZ h5
    have JW:i<(n):=AH h5
    obtain ⟨x,hx⟩:=at_ (l:=Ep n l) (k:=i) (by rw [Cv];omega)
    refine Tr.skip ?_
    refine Fin.go ?_
    refine Tr.seq ?_
    refine Tr.block ?_
    refine Tr.seq ?_
    refine Tr.Ap ?_
    refine TO.op rfl rfl B8 (BM rfl (vl rfl)) ?_
    refine TO.alloc rfl rfl B8 rfl z3 zo3 (fun b6=> ?_)
    refine TO.AK 0 rfl rfl rfl (vl rfl) (VL.le (vl rfl) (Af _)) rfl Bt rfl rfl ?_
    refine TO.freeze 0 10 rfl rfl ?_
    refine TO.nil ?_
    refine Fin.go ?_
    refine Tr.seq ?_
    refine Tr.pad ?_
    refine Tr.Gu mixed [some (0,4,false,0),none,none,some (0,3,false,0),none,none,some (0,1,false,0),some (0,0,true,85)] Be ?_
    refine Cx.rd 4 rfl rfl rfl B8 (BE rfl Jn (vl rfl) rfl) ?_
    refine Cx.op rfl rfl B8 (fun _=>EH rfl (vl rfl)) ?_
    refine Cx.op rfl rfl B8 (fun _=>Ac rfl Ig (vl rfl)) ?_
    refine Cx.rd 3 rfl rfl rfl B8 (BE rfl Jp (vl rfl) rfl) ?_
    refine Cx.op rfl rfl B8 (fun _=>Ef rfl Cj (vl rfl)) ?_
    refine Cx.op rfl rfl B8 (fun _=>BG rfl Tryz.underlying232 Fl (vl rfl) (vl rfl) AA AA) ?_
    refine Cx.rd 1 rfl rfl rfl B8 (BE rfl F1 (vl rfl) (Ko hx)) ?_
    refine Cx.ef 0 rfl rfl B8 (IY rfl rfl B8 rfl (nX) ⟨⟨_,rfl,Pr.le_refl _⟩,trivial⟩) ?_
    refine Cx.nil ⟨rfl,?_⟩
    refine BO.open_ 0 85 rfl rfl (fun v1=> ?_)
    refine BO.done (A8.cons (A8.cons (A8.cons (A8.cons (A8.cons (A8.cons (A8.map _))))))) ?_
    refine Fin.shape 85 (fun b=>nW b) rfl (fun fb7 fe7=> ?_)
    subst fe7
    refine Fin.HS 0 (AF true fb7 R9 [_]) rfl rfl ?_
    refine Fin.go ?_
    refine Tr.weak [(5,_),(10,_),(74,_),(75,_),(85,_)] ⟨⟨_,rfl,Pr.le_refl _⟩,⟨_,rfl,Pr.le_refl _⟩,⟨_,rfl,Pr.le_refl _⟩,⟨_,rfl,Pr.le_refl _⟩,⟨_,rfl,Pr.le_refl _⟩,trivial⟩ ?_
    refine Tr.block ?_
    refine Tr.yV 11 [(5,_),(10,_)] ⟨⟨_,rfl,Pr.le_refl _⟩,⟨_,rfl,Pr.le_refl _⟩,trivial⟩ (fun pre=>AF true b1 R9 ((Ep n l).map fun x=>u32 x)::AF true b2 R9 ((pre.foldl (JJ i) (K5 (Ep n l) i)).map fun x=>u32 x)::AF true b3 234 [int ((n:Nat):Int),is (JQ n b1),is (JQ n b2)]::AF true b4 176 [ptr b3 0]::(Ds.map XH++Ak M1 w1::rs)) (VM (s:=x)) VN (vl rfl) ((EG (j:=5) rfl).trans (List.Perm.cons _ ((EG (j:=0) rfl).trans (List.Perm.cons _ (List.Perm.refl _))))) rfl B8 ?_ ?_ ?_
    ·
     rintro lk Dk rk Mr wr pre y0 hpre
     refine Tr.Aj ?_
     refine Ch.op rfl rfl B8 (Db rfl (vl rfl)) ?_
     refine Ch.nil ?_
     exact Fin.st ⟨⟨_,rfl,Pr.le_refl _⟩,⟨_,rfl,Pr.le_refl _⟩,⟨_,rfl,Pr.le_refl _⟩,trivial⟩
    ·
     rintro lk Dk rk Mr wr pre y0 hpre
     have hlt:y0<n:=by
      have h_:=Kn.1 (nh hpre)
      rw [(Gi AA).2 i x hx,Bool.and_eq_true,decide_eq_true_eq] at h_
      exact h_.1
     have hal:(pre.foldl (JJ i) (K5 (Ep n l) i)).length=n:=by rw [Nv,IB,Cv]
     obtain ⟨y,hy⟩:=at_ (l:=pre.foldl (JJ i) (K5 (Ep n l) i)) (k:=y0) AA
     refine Tr.block ?_
     refine Tr.Gu mixed [some (0,8,false,0),none,none,some (0,7,false,0),none,none,some (0,6,false,0),none,none,none,none,some (0,6,true,0)] Be ?_
     refine Cx.rd 8 rfl rfl rfl B8 (BE rfl Jn (vl rfl) rfl) ?_
     refine Cx.op rfl rfl B8 (fun _=>EH rfl (vl rfl)) ?_
     refine Cx.op rfl rfl B8 (fun _=>Ac rfl rO (vl rfl)) ?_
     refine Cx.rd 7 rfl rfl rfl B8 (BE rfl Jp (vl rfl) rfl) ?_
     refine Cx.op rfl rfl B8 (fun _=>BM rfl (vl rfl)) ?_
     refine Cx.op rfl rfl B8 (fun _=>BG rfl Tryz.underlying232 Fl (vl rfl) (vl rfl) AA AA) ?_
     refine Cx.rd 6 rfl rfl rfl B8 (BE rfl F1 (vl rfl) (Ko hy)) ?_
     refine Cx.op rfl rfl B8 (fun _=>Ef rfl Cj (vl rfl)) ?_
     refine Cx.op rfl rfl B8 (fun _=>J9 (b:=1#32) rfl (vl rfl) (vl rfl) (Int.natCast_nonneg _)) ?_
     refine Cx.op rfl rfl B8 (fun _=>Mq rfl (vl rfl) (vl rfl)) ?_
     refine Cx.op rfl rfl B8 (fun _=>BG rfl Tryz.underlying232 Fl (vl rfl) (vl rfl) AA AA) ?_
     refine Cx.Dv 6 rfl rfl (A9 rfl rfl (vl rfl) (VL.le (vl rfl) (Af _)) Fl rfl EE ((RW hy).trans (congrArg (fun B:List (BitVec 32)=>B.map fun x=>u32 x) (gJ hy)))) ?_
     refine Cx.nil ⟨rfl,?_⟩
     refine BO.done (A8.cons (A8.cons (A8.cons (A8.cons (A8.cons (A8.cons (A8.cons (A8.cons (A8.cons (A8.map _)))))))))) ?_
     refine Fin.block ?_
     exact Fin.rnd () (List.Perm.refl _)
    ·
     rintro lk Dk rk Mr wr
     refine Fin.drop 1 ?_
     refine Fin.drop 1 ?_
     refine Fin.drop 2 ?_
     refine Fin.Mt (List.Perm.cons _ ((List.perm_middle (l₁:=[_,_,_,_])).symm)) ?_
     refine Fin.Mt (List.perm_middle (l₁:=[_,_,_,_])).symm ?_
     refine Fin.block ?_
     refine Fin.block ?_
     refine Fin.go ?_
     refine Tr.Aj ?_
     first
      |(refine Ch.op rfl rfl B8 (FE rfl (vl rfl) (vl rfl) ?hin) ?_;case hin=>unfold Oe;omega)
      |refine Ch.op rfl rfl B8 (ok_int rfl (vl rfl) (vl rfl) rfl) ?_
     refine Ch.op rfl rfl B8 (BM rfl (vl rfl)) ?_
     refine Ch.nil ?_
     exact Fin.AC1 (_::_) (i+1) rfl (⟨JW,by omega⟩) ⟨⟨_,rfl,AG i⟩,⟨_,rfl,Pr.le_refl _⟩,⟨_,rfl,Pr.le_refl _⟩,trivial⟩ ((by rw [gI hx];exact fun _ _ h=>h))
   ·
    have q5:=C3.DZ h5
    have Oo:i=(n):=by have:=AJ h5;omega
    have yf:=Oo.symm
    subst yf
    refine Tr.exit ?_
    refine Fin.AW ?_
    refine Fin.AW ?_
    refine Fin.Au ?_
    refine Fin.go ?_
    refine Tr.seq ?_
    refine Tr.eqC 0 (((Ep n l).map fun x=>[u32 x]).flatten++([]:List Value).map is) rfl (TY _) ?_
    refine Tr.ru (cap:=n) (sz:=1) ((Ep n l).map fun x=>[u32 x]) 0 2 1 rfl rfl AB rfl (Pr.le_of_eq (by rw [List.length_map,Cv n l])) (Bb fun _=>rfl) (by rw [List.length_map,Cv n l];exact Nat.le_refl _) Fu (by simp [IB,Cv]) rfl ?_
    refine Tr.eqC 1 (((K5 (Ep n l) n).map fun x=>[u32 x]).flatten++([]:List Value).map is) rfl (TY _) ?_
    refine Tr.ru (cap:=n) (sz:=1) ((K5 (Ep n l) n).map fun x=>[u32 x]) 1 2 2 rfl rfl AB rfl (Pr.le_of_eq (by rw [List.length_map,(IB _ _).trans (Cv n l)])) (Bb fun _=>rfl) (by rw [List.length_map,(IB _ _).trans (Cv n l)];exact Nat.le_refl _) Fu (by simp [IB,Cv]) rfl ?_
    refine Tr.Aj ?_
    refine Ch.op rfl rfl B8 (Cw 3 rfl (BE rfl Jn (vl rfl) rfl)) ?_
    refine Ch.op rfl rfl B8 (Db rfl (vl rfl)) ?_
    refine Ch.nil ?_
    refine Fin.go ?_
    refine Tr.ret ?_
    refine Fin.freeze 2 4 rfl rfl ?_
    refine Fin.drop 0 ?_
    refine Fin.drop 0 ?_
    refine Fin.drop 0 ?_
    refine Fin.Mt List.perm_middle.symm ?_
    refine Fin.dB ?_
    refine Fin.EB rfl rfl ?_ (fun _ _ _ _=>rfl)
    · exact yd ⟨Pr.le_refl _,Aq _ _,Aq _ _,trivial⟩
def Zc (n:Int) (l:List BK):Pr:=if BH n l=0 then ref [int n,bits (Ep n.toNat l),bits (K5 (Ep n.toNat l) n.toNat)] else is (.pointer none)
instance AC4 (n:Int) (l:List BK):One (Zc n l):=by
 unfold Zc;split
 · exact bE _
 · exact bD _
theorem Je {n:Int} {l:List BK} {e:Int} (h:BH n l=e) (he:e≠0):Pr.le (is (.pointer none)) (Zc n l):=by
 unfold Zc;rw [if_neg KR];exact Pr.le_refl _
theorem VP {n:Int} {l:List BK} (h:BH n l=0):Zc n l=ref [int n,bits (Ep n.toNat l),bits (K5 (Ep n.toNat l) n.toNat)]:=by
 unfold Zc;rw [if_pos h]
theorem Kq {n:Int} {l:List BK} (h:n<0∨24<n):BH n l=2:=by unfold BH;rw [if_pos h]
theorem P6 {n:Int} {l:List BK} {k:Nat} {r:BK} (h:0≤n∧n≤24) (hr:l[k]? =some r) (hb:FC n r=true):BH n l=44:=by
 unfold BH;rw [if_neg AA,if_pos (List.any_eq_true.2 ⟨r,List.mem_of_getElem? hr,hb⟩)]
theorem dG {n:Int} {l:List BK} (h:∀j y,j<l.length→l[j]? =some y→FC n y=false):∀r∈l,FC n r=false:=fun r hr=>by
 obtain ⟨j,hj⟩:=List.mem_iff_getElem?.1 hr
 exact h j r YM hj
theorem Zd {n:Int} {l:List BK} (h:∀r∈l,FC n r=false):¬l.any (FC n)=true:=by
 rw [Bool.not_eq_true,List.any_eq_false];exact fun r hr=>by rw [h r hr];decide
theorem VQ {n:Int} {l:List BK} {k:Nat} {a b:BK} (h:0≤n∧n≤24) (hb:∀r∈l,FC n r=false) (hk:0<k) (ha:l[k-1]? =some a) (hx:l[k]? =some b) (hl:En a b=false):BH n l=6:=by
 unfold BH;rw [if_neg AA,if_neg (Zd hb),if_pos]
 cases hs:Dy l with
 |false=>rfl
 |true=>
  have:=Ls.1 hs (k-1) a b ha (by rw [Nat.sub_add_cancel hk];exact hx)
  rw [hl] at this;cases this
theorem RZ {n:Nat} {l:List BK} {i:Nat} (h:n≤24) (hb:∀r∈l,FC n r=false) (hs:Dy l=true) (hi:i<n) (hw:C_ l n i i=true):BH n l=45:=by
 unfold BH;rw [if_neg AA,if_neg (Zd hb),if_neg (by rw [hs];decide),if_pos (show ACt (n:Int).toNat l=true from List.any_eq_true.2 ⟨i,List.mem_range.2 AA,hw⟩)]
theorem VR {n:Nat} {l:List BK} (h:n≤24) (hb:∀r∈l,FC n r=false) (hs:Dy l=true) (hw:∀i,i<n→C_ l n i i=false):BH n l=0:=by
 unfold BH;rw [if_neg AA,if_neg (Zd hb),if_neg (by rw [hs];decide),if_neg]
 intro hc
 obtain ⟨i,hi,h2⟩:=List.any_eq_true.1 hc
 have:=hw i (by simpa using hi)
 rw [show ((n:Int)).toNat=n from rfl] at h2
 rw [this] at h2;cases h2
theorem Ra {l:List BK} (h:∀(j:Nat) a b,j+1<l.length→l[j]? =some a→l[j+1]? =some b→En a b=true):Dy l=true:=Ls.2 fun j a b ha hb=>h j a b (by rcases Nat.lt_or_ge (j+1) l.length with h2|h2;exact h2;rw [List.getElem?_eq_none h2] at hb;cases hb) ha hb
theorem KB {l:List BK} {k:Nat} {x:BK} (hx:l[k]? =some x) (hp:∀y,0<k→l[k-1]? =some y→En y x=true) (h:∀(j:Nat) a b,j+1<k→l[j]? =some a→l[j+1]? =some b→En a b=true):∀(j:Nat) a b,j+1<k+1→l[j]? =some a→l[j+1]? =some b→En a b=true:=by
 intro j a b hj ha hb
 by_cases hjk:j+1=k
 · exact T5
 · exact h j a b AA ha hb
theorem dH {n:Int} {l:List BK}  :BZ prog 136 [int n,reqs l] (EA [Zc n l,int (BH n l)]) (Dw) (fun _=>Dw):=by
 refine BZ.of func136 rfl rfl Ao fun M0 w0 S rs M1 w1=> ?_
 refine Tr.C6 1 rfl fun G2=> ?_
 refine ac ?_
 refine ag ?_ ?_<;>intro h1 q1
 refine a2 ?_
 refine Tr.ret (Fin.AE (Fin.FF rfl rfl ?_ rfl ?_))
 · exact Je (Kq AA) AB
 · refine int_eq ?_;exact (Kq AA).symm
 refine an ?_ ?_<;>intro h2 q2
 refine ac ?_
 refine Tr.ret (Fin.AE (Fin.FF rfl rfl ?_ rfl ?_))
 · exact Je (Kq AA) AB
 · refine int_eq ?_;exact (Kq AA).symm
 have NG:0≤n∧n≤24:=by omega
 obtain ⟨m,hm⟩:∃m:Nat,n=(m:Int):=⟨n.toNat,by omega⟩
 refine a2 ?_
 refine Tr.block (Tr.BA _ (kk [19,18,1,0] rfl) (fun k:Nat=>[(20,int ((k:Nat):Int))]) (fun k:Nat=>k≤(l).length∧(∀j y,j<k→l[j]? =some y→FC n y=false)) (fun k:Nat=>(l).length-k) 0 (⟨Nat.zero_le _,fun j y hj=>absurd hj AA⟩) kz ?_)
 rintro k ⟨BV,AY⟩
 refine ac ?_
 refine Tr.seq ?_
 refine Tr.cn rfl ?_ ?_<;>intro h3 q3
 have Ah:k<(l).length:=AH h3
 obtain ⟨x,Ai⟩:=at_ Ah
 refine ac ?_
 refine Tr.seq (Tr.block (Tr.seq (Tr.Ap (tp rfl (AD rfl underlying33 Cf vq vq AA (Aa Ai)) (tp rfl (AQ rfl FH Cf vq rfl rfl) ?_)))))
 refine Tl rfl rfl rfl rfl Qd Oi (fun b1=> ?_)
 refine sf 0 7 ⟨rfl,rfl,rfl⟩ rfl rfl rfl rfl ?_
 refine ao ?_
 refine ag ?_ ?_<;>intro h4 q4
 refine ac ?_
 refine wk [50,20,19,18,1,0] rfl ?_
 refine ac ?_
 refine Tr.ret (Fin.AR (Fin.AE (Fin.AE (Fin.AR (Fin.AE (Fin.FF rfl rfl ?_ rfl ?_))))))
 · exact P7
 · exact P5
 refine ag ?_ ?_<;>intro h5 q5
 refine ac ?_
 refine wk [50,20,19,18,1,0] rfl ?_
 refine ac ?_
 refine Tr.ret (Fin.AR (Fin.AE (Fin.AE (Fin.AR (Fin.AE (Fin.FF rfl rfl ?_ rfl ?_))))))
 · exact P7
 · exact P5
 refine ag ?_ ?_<;>intro h6 q6
 refine ac ?_
 refine wk [50,20,19,18,1,0] rfl ?_
 refine ac ?_
 refine Tr.ret (Fin.AR (Fin.AE (Fin.AE (Fin.AR (Fin.AE (Fin.FF rfl rfl ?_ rfl ?_))))))
 · exact P7
 · exact P5
 refine ag ?_ ?_<;>intro h7 q7
 refine ac ?_
 refine wk [50,20,19,18,1,0] rfl ?_
 refine ac ?_
 refine Tr.ret (Fin.AR (Fin.AE (Fin.AE (Fin.AR (Fin.AE (Fin.FF rfl rfl ?_ rfl ?_))))))
 · exact P7
 · exact P5
 refine ac ?_
 refine wk [50,20,19,18,1,0] rfl ?_
 refine Tr.cn rfl ?_ ?_<;>intro h8 q8
 refine ac ?_
 refine Tr.ret (Fin.AR (Fin.AE (Fin.AE (Fin.AR (Fin.AE (Fin.FF rfl rfl ?_ rfl ?_))))))
 · exact P7
 · exact P5
 refine a2 ?_
 exact Fin.AL (k+1) ⟨⟨Ah,DP (p:=FC n) Ai av AY⟩,by omega⟩ ⟨⟨_,rfl,AG k⟩,kz⟩
 have BP:k=(l).length:=by have:=AJ h3;omega
 subst BP
 refine ac ?_
 refine Tr.seq (Tr.seq ?_)
 have hall:=dG AY
 clear AY
 refine ac ?_
 refine Tr.block (Tr.BA _ (kk [53,1,0] rfl) (fun k:Nat=>[(54,int ((k:Nat):Int))]) (fun k:Nat=>k≤(l).length∧(∀(j:Nat) a b,j+1<k→l[j]? =some a→l[j+1]? =some b→En a b=true)) (fun k:Nat=>(l).length-k) 0 (⟨Nat.zero_le _,fun j a b hj=>absurd hj AA⟩) kz ?_)
 rintro k ⟨BV,AY⟩
 refine ac ?_
 refine Tr.seq ?_
 refine Tr.cn rfl ?_ ?_<;>intro h9 q9
 have Ah:k<(l).length:=AH h9
 obtain ⟨x,Ai⟩:=at_ Ah
 refine a2 ?_
 refine ag ?_ ?_<;>intro h10 Q4
 obtain ⟨y,hy⟩:=at_ (l:=l) (k:=k-1) AA
 refine ac ?_
 refine cy h10 rfl (AD rfl underlying33 Cf vq vq AA (QO AA hy)) ?_
 refine ac ?_
 refine cy h10 rfl (AD rfl underlying33 Cf vq vq AA (Aa Ai)) (cy h10 rfl (AQ rfl FH Cf vq rfl rfl) ?_)
 refine cy h10 rfl (CK (Zb (a:=y) (b:=x)) rfl rfl rfl) ?_
 refine ac ?_
 refine wk [71,54,53,1,0] rfl ?_
 refine Tr.cn rfl ?_ ?_<;>intro h11 SK
 refine ac ?_
 refine Tr.ret (Fin.AR (Fin.AE (Fin.AE (Fin.AR (Fin.AE (Fin.FF rfl rfl ?_ rfl ?_))))))
 · exact Je (VQ NG hall AA hy Ai (by have h_:=VO (a:=y) (b:=x);simp_all)) AB
 · refine int_eq ?_;exact (VQ NG hall AA hy Ai (by have h_:=VO (a:=y) (b:=x);simp_all)).symm
 refine a2 ?_
 exact Fin.AL (k+1) ⟨⟨Ah,KB Ai (by intro y2 hk2 m_;rw [hy] at m_;cases m_;have h_:=VO (a:=y) (b:=x);simp_all) AY⟩,by omega⟩ ⟨⟨_,rfl,AG k⟩,kz⟩
 refine ac ?_
 refine wk [71,54,53,1,0] rfl ?_
 refine a2 ?_
 exact Fin.AL (k+1) ⟨⟨Ah,KB Ai (by intro y2 hk2 m_;omega) AY⟩,by omega⟩ ⟨⟨_,rfl,AG k⟩,kz⟩
 have BP:k=(l).length:=by have:=AJ h9;omega
 subst BP
 refine ac ?_
 refine Tr.seq ?_
 have uE:=Ra AY
 subst hm
 refine ao ?_
 refine TO.HJ 0 rfl rfl AB (An rfl rfl AB rfl (gK (n:=m) AA hall) ⟨kq,kz⟩) ?_
 refine ao ?_
 refine Tr.seq (Tr.seq ?_)
 have WU:=Cv m l
 refine ac ?_
 refine wk [81,80,79,9] rfl (Tr.block (Tr.BA _ (kk [80,79,9] rfl) (fun i:Nat=>[(81,int ((i:Nat):Int))]) (fun i:Nat=>i≤(Ep m l).length∧(∀j,j<i→C_ l m j j=false)) (fun i:Nat=>(Ep m l).length-i) 0 (⟨Nat.zero_le _,fun j hj=>absurd hj AA⟩) kz ?_))
 rintro i ⟨Ws,Ex⟩
 refine ac ?_
 refine Tr.seq ?_
 refine Tr.cn rfl ?_ ?_<;>intro h12 Vt
 have JW:i<(Ep m l).length:=AH h12
 obtain ⟨x,Kv⟩:=at_ JW
 refine a2 ?_
 refine co rfl (AD rfl underlying232 Fl vq vq AA (RY Kv)) ?_
 refine a2 ?_
 refine co rfl (CK (VK) rfl rfl rfl) ?_
 refine an ?_ ?_<;>intro JR Yv
 refine ac ?_
 refine wk [5,4] rfl (Tr.ret (Fin.AR (Fin.AE (Fin.AE (Fin.AR (Fin.AE (Fin.FF rfl rfl ?_ rfl ?_)))))))
 · exact Je (RZ AA hall uE (i:=i) AA aP) AB
 · refine int_eq ?_;exact (RZ AA hall uE (i:=i) AA aP).symm
 refine a2 ?_
 exact Fin.AL (i+1) ⟨⟨JW,(fun j hj=>by rcases Nat.lt_or_ge j i with h_|h_;exact Ex j h_;(obtain rfl:j=i:=by omega);have h_:=(Gi (l:=l) (show m≤32 by omega)).2 j x Kv j;simp_all;done)⟩,by omega⟩ ⟨⟨_,rfl,AG i⟩,kz⟩
 have Oo:i=(Ep m l).length:=by have:=AJ h12;omega
 rw [Cv] at Oo
 subst Oo
 refine a2 ?_
 refine Tr.ret (Fin.FF rfl rfl ?_ rfl ?_)
 · rw [VP (VR AA hall uE Ex)];exact Lr
 · refine int_eq ?_;exact (VR AA hall uE Ex).symm
theorem nj {n:Nat} {B:List (BitVec 32)} {p:Pr} {s:BitVec 32} (hB:B.length=n) (hn:n≤24):BD prog 153 [ref [int ((n:Nat):Int),bits B,p],u32 s] (u32 (Lu B s n)):=by
 refine fo func153 rfl ⟨rfl,rfl⟩ fun M0 w0=> ?_
 refine a3 ?_
 refine Tr.block (Tr.BA _ (kk [10,1,0] rfl) (fun k:Nat=>[(11,int ((k:Nat):Int)),(5,u32 (Lu B s k))]) (fun k:Nat=>k≤n) (fun k:Nat=>n-k) 0 (Nat.zero_le _) ⟨kq,⟨_,rfl,QE⟩,trivial⟩ ?_)
 rintro k hk0
 refine ac ?_
 refine Tr.seq ?_
 refine Tr.cn rfl ?_ ?_<;>intro h1 q1
 have hk:k<n:=AH h1
 obtain ⟨x,hx⟩:=at_ (l:=B) (k:=k) AA
 · repeat' first|exact Fin.AL (k+1) ⟨by omega,by omega⟩ ⟨⟨_,rfl,AG k⟩,⟨_,rfl,Pr.le_of_eq (congrArg u32 (nZ hx CG CG).symm)⟩,kz⟩|exact Fin.AL (k+1) ⟨by omega,by omega⟩ ⟨⟨_,rfl,AG k⟩,⟨_,rfl,Pr.le_of_eq (congrArg u32 (uC hx CG).symm)⟩,kz⟩|refine co rfl (CK (VK (b:=s) (i:=k)) rfl rfl rfl) ?_|refine cy h rfl (AD rfl underlying232 Fl vq vq AA (RY hx)) ?_|refine cy h rfl (J_ rfl vq vq) (cy h rfl (nO rfl vq vq) ?_)|refine co rfl (J9 (b:=1#32) rfl vq vq (Int.natCast_nonneg _)) ?_|refine co rfl (Mq rfl vq vq) ?_|refine ac ?_|(refine Tr.cn rfl ?_ ?_<;>intro h q)|(refine Ch.cg rfl rfl rfl ?_ ?_<;>intro h q)
 obtain rfl:k=n:=by have:=AJ h1;omega
 refine a3 ?_
 · exact Lr
end Go.Proofs.YtmocaapoeefgkaaGreatDoor
namespace Cp
open Go Go.RowKit Go.Great
section
variable {P:Program} {L:Lg P} {n:Fm} {fz:Nat} {E:Env} {M0:Av} {w0:World} {S:Nat→Prop} {o:Oper}
def nk (T:TypeId) (u v:Value):At:=match v with| .pointer (some a)=>AF true a.block T (u.cells.toList.map is)|_=>Bp
theorem dI {j d s:Nat} {R:SR} {p1 q:Pr} {p:Value→Pr} {R':Value→Value→At} (hd:o.dst=some d) (hs:d≠s) (hq:∀v,Pr.le (p v) q) (hg:o.guard=none) (h1:E.lookup s=some p1) (hls:s∈looks o) (h:∀v,DW P M0 w0 S n j R ⟨d,R' v⟩ o ((s,Ab v p1)::E) (p v)):DW P M0 w0 S n j R ⟨.two d s,XI R'⟩ o E q:=by
 refine ⟨hg,fun M w a rs hsz he hI hj=> ?_⟩
 refine EF.conv (hq _) (fun v=> ?_) ((h (a.tmps.getD s undef)).2 M w a rs hsz (I0 he s (he s p1 hls h1)) hI hj)
 rw [Pn,hd,BU (Ne.symm hs)];rfl
theorem Tc {t:TypeId} {s y:Tmp} {j m:Nat} {T:TypeId} {ps qs:List Pr} {p:Pr} (hg:o.guard=none) (hd:o.dst=none) (ho:o.op= .store t (.tmp s) (.tmp y)) (hsy:s≠y) (hx:E.lookup s=some (Cp.ex fun b=>ptr b 0)) (hy:E.lookup y=some p) (hp:Pr.le p (DK qs))
  (hz:A0 P t=some m) (hm:qs.length=m) (hl:ps.length=m):DW P M0 w0 S n j ⟨s,Ej T ps⟩ ⟨.two s y,XI fun u v=>nk T u v⟩ o E any:=by
 refine ⟨hg,fun M w a rs hsz he hI hj=> ?_⟩
 have hyl:y∈looks o:=Ns (op:= .store t (.tmp s) (.tmp y)) (by simp [Op.operands]) ho
 have hpy:=hp _ _ _ (he y p hyl hy)
 have hle:Pr.le (Ab (a.tmps.getD y undef) (DK qs)) (DK ((a.tmps.getD y undef).cells.toList.map is)):=fun M w v h=>by
  obtain ⟨rfl,h2⟩:=h
  obtain ⟨g1,g2⟩:=h2
  exact ⟨K8 _ _ _,g2⟩
 have h:=(DF (P:=P) (M0:=M0) (w0:=w0) (S:=S) (n:=n) (j:=j) (T:=T) (ps:=ps) (qs:=(a.tmps.getD y undef).cells.toList.map is) (E:=(y,Ab (a.tmps.getD y undef) (DK qs))::E) hg hd ho aO ⟨_,List.lookup_cons_self,hle⟩ hz (by have:=hpy.1.length;rw [List.length_map];omega) hl).2 M w a rs hsz (I0 he y hpy) hI hj
 refine EF.conv (Pr.le_refl _) (fun v=> ?_) h
 rw [Pn,hd];rfl
end
section
variable {P:Program} {L:Lg P} {n:Fm} {fz:Nat} {E:Env} {M0:Av} {w0:World} {S:Nat→Prop} {rs:List At} {Q:Exit→Act→World→Prop}
theorem XJ {M:Av} {w:World}:∀{zs cs:List Value},HL M w (zs.map is) cs→cs=zs
 |[],[],_=>rfl
 |[],_::_,h=>h.elim
 |_::_,[],h=>h.elim
 |z::zs,c::cs,h=>by
  obtain ⟨h1,h2⟩:=h
  rw [XJ h2,show c=z from h1]
theorem Fin.XK {e:Exit} {T:TypeId} {u:Value} {b:Nat} {ps:List Pr} (i j:Nat) (hi:rs[i]? =some (KA (agg ps) u)) (hj:rs[j]? =some (nk T u (.pointer (some ⟨b,0,none⟩)))) (k:Fin n E (Hp M0 w0 S (rs.set j (AF true b T ps))) Q e):Fin n E (Hp M0 w0 S rs) Q e:=by
 rintro a w ⟨M,h1,h2,h3,h4⟩
 have h4:Ay M0 w0 S rs M w:=h4
 refine k a w ⟨M,h1,h2,h3,Ay.CR h4 hj rfl rfl ?_⟩
 obtain ⟨cs,rfl,_,hcs⟩:=(h4.hold _ (List.mem_of_getElem? hi)).1
 obtain ⟨g0,cs',g1,g2,g3⟩:=(h4.hold _ (List.mem_of_getElem? hj)).1
 have e1:cs'=cs:=by
  have:=XJ g2
  rw [this];show cs.toArray.toList=cs;simp
 subst e1
 exact ⟨g0,cs',g1,hcs,g3⟩
end
section
variable {P:Program}
theorem BZ.uF {f:FuncId} {args:List Pr} {res:Pr} {r:At} (h:BZ P f args res r (fun _=>r)) (hb:r.blk=none) (W:World) (vs:List Value) (hr:r.h noM W) (hv:HL noM W args vs):
  Calls P f vs.toArray W fun e w'=>∃v,e= .returned v∧res.h noM w' v∧Below W.heap.size W w':=by
 refine (h.2 noM W FO [] noM W vs ((Ay.begin (wR W)).JN (r:=r) hb hr) hv).mono ?_
 rintro e w' ⟨v,M',rfl,h2,h3,h4⟩
 exact ⟨v,rfl,res.st _ _ _ _ _ (Ext.less h4.m) h2,h4.below⟩
end
section
variable {P:Program} {n:Fm} {E:Env} {M0:Av} {w0:World} {S:Nat→Prop} {rs:List At} {Q:Exit→Act→World→Prop} {p0 p1:Pr} {R:Value→At}
end
section
variable {P:Program} {L:Lg P} {n:Fm} {E:Env} {M0:Av} {w0:World} {S:Nat→Prop} {rs:List At} {Q:Exit→Act→World→Prop} {c:Code}
theorem Tr.AC5 {e:TypeId} {sz:Nat} {rows:List (List Pr)} {p:Pr} (s:Nat) (hs:E.lookup s=some p) (hp:Pr.le p (full sz rows)) (k:∀v,Tr L n ((s,Ab v (slice sz rows))::E) (Hp M0 w0 S (As e sz v::rs)) c Q):Tr L n E (Hp M0 w0 S rs) c Q:=by
 intro a w hst
 obtain ⟨M,k1,k2,k3,k4⟩:=hst
 have k4:Ay M0 w0 S rs M w:=k4
 obtain ⟨h1,A,h2⟩:=hp _ _ _ (k3 s p hs)
 refine k (a.tmps.getD s undef) a w ⟨M,k1,k2,fun t q hq=> ?_,Ay.JN k4 ?_ ?_⟩
 ·
  simp only [List.lookup] at hq
  split at hq
  ·
   rename_i e1
   have:t=s:=by simpa using e1
   subst this
   simp only [Option.some.injEq] at hq
   subst hq
   exact ⟨rfl,h1⟩
  · exact k3 t q hq
 ·
  rw [h2]
  show DY _=none
  cases A with
  |none=>rfl
  |some x=>simp [DY]
 ·
  intro b m d hv hlt
  rw [h2] at hv
  cases hv
  exact absurd hlt (Nat.lt_irrefl _)
variable {ε:Type}
theorem dJ {f:ε→At}:∀{X:List ε} {k:Nat} {x:ε},X[k]? =some x→(G_ (fun x=>[f x]) X)[k]? =some (f x)
 |[],_,_,h=>by simp at h
 |a::X,0,x,h=>by simp at h;subst h;rfl
 |a::X,k+1,x,h=>by
  show (G_ (fun x=>[f x]) X)[k]? =_
  exact dJ Dn
theorem Fin.fold {x:Exit} {res:ε→List At} (Cg:List At) {es:List ε} (y:ε) (Ol:rs=res y++(Cg++G_ res es)) (k:Fin n E (Hp M0 w0 S (Cg++G_ res (es++[y]))) Q x):Fin n E (Hp M0 w0 S rs) Q x:=
 Fin.Mt (by
  subst Ol
  rw [Wb,←List.append_assoc Cg]
  exact List.perm_append_comm) k
theorem Tr.uG {f:ε→Value} {g:ε→Pr} {X:List ε} {p:Pr} (j s:Nat) (hj:rs[j]? =some (nD f g X)) (hs:E.lookup s=some p) (hp:Pr.le p (slice 1 (X.map fun x=>[is (f x)]))) (k:Tr L n ((s,slice 1 (X.map fun x=>[g x]))::E) (Hp M0 w0 S rs) c Q):Tr L n E (Hp M0 w0 S rs) c Q:=by
 intro a w ha
 obtain ⟨M,k1,k2,k3,k4⟩:=ha
 have k4:Ay M0 w0 S rs M w:=k4
 refine k a w ⟨M,k1,k2,fun t q hq=> ?_,k4⟩
 simp only [List.lookup] at hq
 split at hq
 ·
  rename_i e1
  have:t=s:=by simpa using e1
  subst this
  simp only [Option.some.injEq] at hq
  subst hq
  obtain ⟨ad,cap,h1,h2,h3,h4,h5⟩:=hp _ _ _ (k3 t p hs)
  have hall:=(k4.hold _ (List.mem_of_getElem? hj)).1
  refine ⟨ad,cap,by rw [h1];simp,by simpa using h2,h3,h4,fun i row hr=> ?_⟩
  rw [List.getElem?_map] at hr
  cases hx:X[i]? with
  |none=>rw [hx] at hr;cases hr
  |some x=>
   rw [hx] at hr
   simp only [Option.map_some,Option.some.injEq] at hr
   subst hr
   obtain ⟨_,ad2,h6,h7⟩:=h5 i [is (f x)] UG
   refine ⟨rfl,ad2,h6,fun q r hr=> ?_⟩
   cases q with
   |zero=>
    simp only [List.getElem?_cons_zero,Option.some.injEq] at hr
    subst hr
    obtain ⟨u,h8,h9,h10,h11⟩:=h7 0 _ rfl
    have hu:u=f x:=h11
    exact ⟨u,h8,h9,h10,by rw [hu];exact hall x (List.mem_of_getElem? hx)⟩
   |succ q=>simp at hr
 · exact k3 t q hq
abbrev G7 (e:TypeId) (x:Nat×List Bool):List At:=[AF true x.1 e (x.2.map fun b=>bool b)]
theorem nq {n:Nat}:(List.replicate n (Value.bool false)).map is=(List.replicate n false).map fun b=>bool b:=by rw [List.map_replicate,List.map_replicate]
theorem Tr.uH {e:TypeId} {m:Nat} {X:List (Nat×List Bool)} {p:Pr} (Cg:List At) (s:Nat) (Ol:rs=Cg++G_ (G7 e) X) (hm:m≤maxLen) (hX:∀x∈X,x.2.length=m) (hs:E.lookup s=some p) (hp:Pr.le p (slice 1 (X.map fun x=>[is (JQ m x.1)])))
  (k:Tr L n ((s,slice 1 (X.map fun x=>[slice 1 (x.2.map fun b=>[bool b])]))::E) (Hp M0 w0 S (nD (fun x:Nat×List Bool=>JQ m x.1) (fun x=>slice 1 (x.2.map fun b=>[bool b])) X::Cg)) c Q):Tr L n E (Hp M0 w0 S rs) c Q:=by
 subst Ol
 intro a w hst
 obtain ⟨M,k1,k2,k3,k4⟩:=hst
 have k4:Ay M0 w0 S (Cg++G_ (G7 e) X) M w:=k4
 obtain ⟨M1,g1,g2,g3⟩:=Ay.Uu (w:=w) (Φ:=fun (x:Nat×List Bool) M w=>Row M w ⟨x.1,0,none⟩ 0 (x.2.map fun b=>bool b)) (fun x M M' he h=>Row.st he h) (fun x rs M h=>by
  obtain ⟨M',h1,h2,h3⟩:=Ay.bR h
  exact ⟨M',h2,h1,h3⟩) X _ M k4
 refine Tr.uG (f:=fun x:Nat×List Bool=>JQ m x.1) (g:=fun x=>slice 1 (x.2.map fun b=>[bool b])) (X:=X) 0 s rfl hs hp k a w ⟨M1,k1,k2,fun t q hq=>q.st _ _ _ _ _ g1 (k3 t q hq),Ay.JN g2 rfl fun x hx=> ?_⟩
 have hl:=hX x hx
 refine ⟨some ⟨x.1,0,none⟩,m,by rw [List.length_map,hl],by rw [List.length_map,hl];exact Nat.le_refl _,hm,(fun h=>nomatch h),fun i row hr=> ?_⟩
 rw [List.getElem?_map] at hr
 cases hb:x.2[i]? with
 |none=>rw [hb] at hr;cases hr
 |some b=>
  rw [hb] at hr
  simp only [Option.map_some,Option.some.injEq] at hr
  subst hr
  refine ⟨rfl,_,rfl,fun q r hq=> ?_⟩
  cases q with
  |zero=>
   simp only [List.getElem?_cons_zero,Option.some.injEq] at hq
   subst hq
   have:=g3 x hx i (bool b) (by rw [List.getElem?_map,hb];rfl)
   simpa using this
  |succ q=>simp at hq
end
theorem vu {i m:Nat} (h:i≤m) (hm:m≤40):1≤2 ^ i∧2 ^ i≤2 ^ m∧2 ^ m≤1099511627776:=
 ⟨Nat.one_le_two_pow,Nat.pow_le_pow_right AA h,Nat.le_trans (Nat.pow_le_pow_right (n:=2) AA hm) AB⟩
section
variable {P:Program} {I:Cd} {o:Oper} {E:Env}
theorem dK {t u:TypeId} {x y:Operand} {i:Int} (ho:o.op= .binOp .shl t x y u) (hx:VL E x (int 1)) (hy:VL E y (int i)) (h0:0≤i) (h40:i≤40):Ae P I o E (int ((2 ^ i.toNat:Nat):Int)):=
 Ae.same fun M w a he _=>by
  have h1:a.eval x= .int .i64 1:=hx.ev he Ar
  have h2:a.eval y= .int .i64 i:=hy.ev he Ar
  have hn:¬i<0:=by omega
  have hmin:min i.toNat 64=i.toNat:=by omega
  have e:((2 ^ i.toNat:Nat):Int)=(2:Int) ^ i.toNat:=Int.natCast_pow 2 i.toNat
  obtain ⟨R6,hp2,hp3⟩:=vu (i:=i.toNat) (m:=i.toNat) (Nat.le_refl _) AA
  have hw:IntKind.i64.wrap (2 ^ i.toNat)=2 ^ i.toNat:=by rw [←e];exact Gd IJ
  refine ⟨.int .i64 (IntKind.i64.wrap (1*2 ^ (min i.toNat IntKind.i64.bits))),?_,?_⟩
  ·
   simp only [execOp,ho,h1,h2]
   simp [eqGuard,binOp,Op.shift,hn]
   try rw [show min i.toNat IntKind.i64.bits=i.toNat from hmin]
  ·
   show Value.int _ _=Value.int _ _
   rw [show min i.toNat IntKind.i64.bits=i.toNat from hmin,Int.one_mul,hw,e]
theorem yg {t u:TypeId} {x y:Operand} {a b m:Nat} (ho:o.op= .binOp .or t x y u) (hx:VL E x (int (a:Int))) (hy:VL E y (int (b:Int))) (ha:a<2 ^ m) (hb:b<2 ^ m) (hm:m≤40):Ae P I o E (int ((a|||b:Nat):Int)):=
 Ae.same fun M w c he _=>by
  have h1:c.eval x= .int .i64 a:=hx.ev he Ar
  have h2:c.eval y= .int .i64 b:=hy.ev he Ar
  obtain ⟨_,_,hp3⟩:=vu (i:=m) (m:=m) (Nat.le_refl _) hm
  have hab:a|||b<2 ^ m:=Nat.or_lt_two_pow ha hb
  have ea:(BitVec.ofInt 64 (a:Int)).toNat=a:=by rw [BitVec.toNat_ofInt];omega
  have eb:(BitVec.ofInt 64 (b:Int)).toNat=b:=by rw [BitVec.toNat_ofInt];omega
  have er:(BitVec.ofInt 64 (a:Int)|||BitVec.ofInt 64 (b:Int)).toNat=a|||b:=by rw [BitVec.toNat_or,ea,eb]
  refine ⟨_,by simp [execOp,ho,h1,h2,eqGuard,binOp,Op.intBits];rfl,?_⟩
  show Value.int _ _=Value.int _ _
  congr 1
  show IntKind.i64.wrap (((BitVec.ofInt 64 (a:Int)|||BitVec.ofInt 64 (b:Int)).toNat:Nat):Int)=_
  rw [er]
  exact Gd IJ
end
section
variable {P:Program} {fz:Nat} {E:Env} {M0:Av} {w0:World} {rs:List At} {g:Func}
theorem results4 {r r' r'' r3:ResultVar} {a:Act} {w:World} {v v' v'' v3:Value} (hr:g.results= #[r,r',r'',r3]) (h:(Gx r a).run P w= .ok v w) (h':(Gx r' a).run P w= .ok v' w) (h'':(Gx r'' a).run P w= .ok v'' w) (h3:(Gx r3 a).run P w= .ok v3 w):(results g a.tmps).run P w= .ok (.tuple #[v,v',v'',v3]) w:=by
 rw [Gy,hr];simp [Sem.run_bind,h,h',h'',h3]
theorem Fin.OU {r r' r'' r3:ResultVar} {p q q' jf q3:Pr} (hr:g.results= #[r,r',r'',r3]) (h:AO P E rs r q) (h':AO P E rs r' q') (h'':AO P E rs r'' jf) (h3:AO P E rs r3 q3) (hl:Pr.le (EA [q,q',jf,q3]) p):Fin ⟨fz,[]⟩ E (Hp M0 w0 FO rs) (bodyPost P g (SA M0 w0 p)) .ret:=by
 rintro a w ⟨M,_,hd,he,hi⟩
 obtain ⟨v,hv,hp⟩:=h M w a he (fun q hq=>(hi.hold q hq).1)
 obtain ⟨v',jz,hp'⟩:=h' M w a he (fun q hq=>(hi.hold q hq).1)
 obtain ⟨v'',j0,j4⟩:=h'' M w a he (fun q hq=>(hi.hold q hq).1)
 obtain ⟨v3,hv3,hp3⟩:=h3 M w a he (fun q hq=>(hi.hold q hq).1)
 obtain ⟨h1,h2⟩:=Br.Dz M0 w0 M w hi
 exact ⟨hd,_,results4 hr hv jz j0 hv3,_,rfl,p.st _ _ _ _ _ (Ext.less h1) (hl _ _ _ ⟨[_,_,_,_],rfl,hp,hp',j4,hp3,trivial⟩),h2⟩
end
def Ze {β:Type} (b:Nat) (e:TypeId) (f:β→List Pr) (φ:β→Prop):At where
 blk:=some b
 new:=true
 h M w:=∃x:β,φ x∧(AF true b e (f x)).h M w
 st M w M' w' he hk h:=let ⟨x,h1,h2⟩:=h;⟨x,h1,(AF true b e (f x)).st M w M' w' he hk h2⟩
def VS {β:Type} (T:TypeId) (f:β→List Pr) (φ:β→Prop) (v:Value):At:=match v with| .pointer (some a)=>Ze a.block T f φ|_=>Bp
section
variable {P:Program} {L:Lg P} {n:Fm} {E:Env} {M0:Av} {w0:World} {S:Nat→Prop} {rs:List At} {o:Oper} {β:Type} {f:β→List Pr} {φ:β→Prop}
theorem Fin.dL {Q:Exit→Act→World→Prop} {x:Exit} {b:Nat} {e:TypeId} (j:Nat) (hj:rs[j]? =some (Ze b e f φ)) (k:∀z,φ z→Fin n E (Hp M0 w0 S (rs.set j (AF true b e (f z)))) Q x):Fin n E (Hp M0 w0 S rs) Q x:=by
 intro a w h
 obtain ⟨M,h1,h2,h3,h4⟩:=h
 have h4:Ay M0 w0 S rs M w:=h4
 obtain ⟨z,hp,h8⟩:=(h4.hold _ (List.mem_of_getElem? hj)).1
 exact k z hp a w ⟨M,h1,h2,h3,h4.CR hj rfl rfl h8⟩
theorem EF.wk {a:Act} {M:Av} {w:World} {p:Pr} {j:Nat} {R1 R2:SR} {rs:List At} {r:Result Next} (hjl:j<rs.length) (hd:o.dst=none) (hb:(R2.at_ a).blk=(R1.at_ a).blk) (hn:(R2.at_ a).new=(R1.at_ a).new) (hh:∀M w,(R1.at_ a).h M w→(R2.at_ a).h M w) (h:EF P M0 w0 S o a M w p j R1 rs r):EF P M0 w0 S o a M w p j R2 rs r:=by
 have key:∀v M' w',Ay M0 w0 S (rs.set j (R1.at_ (a.put o.dst v))) M' w'→Ay M0 w0 S (rs.set j (R2.at_ (a.put o.dst v))) M' w':=by
  intro v M' w' hI
  rw [hd] at hI ⊢
  have hI:Ay M0 w0 S (rs.set j (R1.at_ a)) M' w':=hI
  have h1:(rs.set j (R1.at_ a))[j]? =some (R1.at_ a):=by rw [List.getElem?_set_self hjl]
  have:=hI.CR (r':=R2.at_ a) h1 hb hn (hh _ _ (hI.hold _ (List.mem_of_getElem? h1)).1)
  rw [List.set_set] at this
  exact this
 cases r with
 |halt x w'=>exact h
 |ok x w'=>
  cases x
  case value v=>obtain ⟨M',g1,g2,g3⟩:=h;exact ⟨M',g1,g2,key _ _ _ g3⟩
  case skip=>obtain ⟨M',g1,g2,g3⟩:=h;exact ⟨M',g1,g2,key _ _ _ g3⟩
  case enter f args=>
   refine Calls.mono h ?_
   rintro e w'' ⟨v,M',g0,g1,g2,g3⟩
   exact ⟨v,M',g0,g1,g2,key _ _ _ g3⟩
  all_goals exact h
theorem Kr {t:TypeId} {s y:Tmp} {j m:Nat} {T:TypeId} {ps:List Pr} (hg:o.guard=none) (hd:o.dst=none) (ho:o.op= .store t (.tmp s) (.tmp y)) (hsy:s≠y) (hx:E.lookup s=some (Cp.ex fun b=>ptr b 0)) (hy:E.lookup y=some (Cp.ex fun z:β=>fact (φ z) (agg (f z))))
  (hz:A0 P t=some m) (hm:∀z,(f z).length=m) (hl:ps.length=m):DW P M0 w0 S n j ⟨s,Ej T ps⟩ ⟨s,VS T f φ⟩ o E any:=by
 have hlk:y∈looks o:=Ns (op:= .store t (.tmp s) (.tmp y)) (by simp [Op.operands]) ho
 refine DW.M_ y hg hy hlk fun z=>DW.opf y hg (by simp [List.lookup];rfl) hlk fun hφ=> ?_
 have hx':List.lookup s ((y,agg (f z))::(y,fact (φ z) (agg (f z)))::E)=some (Cp.ex fun b=>ptr b 0):=by
  have:(s==y)=false:=by simpa using hsy
  simp only [List.lookup,this];exact hx
 have h:=DF (P:=P) (M0:=M0) (w0:=w0) (S:=S) (n:=n) (j:=j) (T:=T) (ps:=ps) (qs:=f z) (E:=(y,agg (f z))::(y,fact (φ z) (agg (f z)))::E) hg hd ho hx' ⟨agg (f z),by simp [C4,List.lookup],Ad _⟩ hz (hm z) hl
 refine ⟨hg,fun M w a rs hsz he hI hj=> ?_⟩
 have hjl:j<rs.length:=by rcases Nat.lt_or_ge j rs.length with h'|h';exact h';rw [List.getElem?_eq_none h'] at hj;cases hj
 have hv:∃b,a.tmps.getD s undef= .pointer (some ⟨b,0,none⟩):=by
  have hxv:VL ((y,agg (f z))::(y,fact (φ z) (agg (f z)))::E) (.tmp s) (Cp.ex fun b=>ptr b 0):=⟨_,hx',Pr.le_refl _⟩
  exact hxv.ev he (show (Operand.tmp s)∈o.op.operands.toList by simp [ho,Op.operands])
 obtain ⟨b,hv⟩:=hv
 have e1:SR.at_ a ⟨s,Ej T (f z)⟩=AF true b T (f z):=by show Ej T (f z) (a.tmps.getD s undef)=_;rw [hv];rfl
 have e2:SR.at_ a ⟨s,VS T f φ⟩=Ze b T f φ:=by show VS T f φ (a.tmps.getD s undef)=_;rw [hv];rfl
 refine EF.wk hjl hd ?_ ?_ ?_ (h.2 M w a rs hsz he hI hj)
 · rw [e1,e2];rfl
 · rw [e1,e2];rfl
 · rw [e1,e2];exact fun M w h=>⟨z,hφ,h⟩
end
theorem BD.nr {P:Program} {f:FuncId} {α:Type} {φ:α→Prop} {p:α→Pr} {res:Pr} (pre:List Pr) {post:List Pr} (q:α) (hq:φ q) (h:∀z,φ z→BD P f (pre++p z::post) res):BD P f (pre++(Cp.ex fun z=>fact (φ z) (p z))::post) res:=by
 refine ⟨(h q hq).1,fun M w vs hb hv=> ?_⟩
 have key:∀(pre:List Pr) (vs:List Value),HL M w (pre++(Cp.ex fun z=>fact (φ z) (p z))::post) vs→∃z,φ z∧HL M w (pre++p z::post) vs:=by
  intro pre
  induction pre with
  |nil=>
   intro vs hv
   match vs,hv with
   |u::us,⟨⟨z,hz,h1⟩,h2⟩=>exact ⟨z,hz,h1,h2⟩
  |cons a pre ih=>
   intro vs hv
   match vs,hv with
   |u::us,⟨h1,h2⟩=>
    obtain ⟨z,hz,h3⟩:=ih us h2
    exact ⟨z,hz,h1,h3⟩
 obtain ⟨z,hz,h2⟩:=key pre vs hv
 exact (h z hz).2 M w vs hb h2
section
variable {P:Program} {L:Lg P} {n:Fm} {fz:Nat} {E:Env} {I:Cd} {M0:Av} {w0:World} {S:Nat→Prop} {rs:List At} {Q:Exit→Act→World→Prop} {c:Code}
theorem Tr.nu {α β:Type} {p gf:Nat} {g:Operand} {lb:Array Value} {enc:α→Value} {xs:List α} {own:List α→List At} {assign body:Code} (q:Nat) (K:Env) (hK:CO E K) (R RX:List α→β→List At) (d0:β)
  (hIt:Mp P gf lb enc xs own) (eg:Entry P gf) (hg:VL E g (is (.func (.func gf) #[] lb))) (Ol:rs.Perm (own []++R [] d0)) (hp:K.lookup p=none) (hpn:p<n.sz)
  (hassign:∀l D rec M1 w1 pre x d,(pre++[x])<+:xs→Tr (cr P (some l)) ⟨n.sz,[]⟩ ((p,is (enc x))::K) (Hp M0 w0 S (own (pre++[x])++F6 l D rec M1 w1 (R pre d))) assign (Exit.then (St ⟨n.sz,[]⟩ ((q,is (enc x))::K) (Hp M0 w0 S (own (pre++[x])++F6 l D rec M1 w1 (R pre d)))) (fun _ _ _=>False)))
  (hbody : ∀ l D rec M1 w1 pre x d, (pre ++ [x]) <+: xs → Tr (cr P (some l)) ⟨n.sz, []⟩ ((q, is (enc x)) :: K) (Hp M0 w0 S (own (pre ++ [x]) ++ F6 l D rec M1 w1 (R pre d))) body
   (Iy M0 w0 S (fun d:β=>own (pre++[x])++F6 l D rec M1 w1 (R (pre++[x]) d)) (fun c d=>own (pre++[x])++F6 l D rec M1 w1 (CD (c= .ret)::RX (pre++[x]) d))))
  (hdone:∀l D rec M1 w1 d,Fin ⟨n.sz,mark D::n.df⟩ E (Hp M0 w0 S (own xs++F6 l D rec M1 w1 (R xs d))) Q .normal)
  (hstop:∀l D rec M1 w1 pre d,pre<+:xs→Fin ⟨n.sz,mark D::n.df⟩ E (Hp M0 w0 S (own pre++F6 l D rec M1 w1 (RX pre d))) Q .ret):
  Tr (Xu P) n E (Hp M0 w0 S rs) (.rangeFunc g #[p] assign body) Q:=by
 refine Tr.nA (fun x=>(q,is (enc x))::K) R (fun c pre d=>CD (c= .ret)::RX pre d) d0 hIt (fun args w=>Df eg args w) hg Ol ?_ ?_ hdone ?_
 ·
  intro l D rec M1 w1 pre x d hpre a hsz hE M w hI
  have hx:Ext M1 w1 M w:=(hI.hold (Ak M1 w1) AU).1
  refine hassign l D rec M1 w1 pre x d hpre _ w ⟨M,by simpa using hsz,rfl,fun s z hq=> ?_,hI⟩
  simp only [List.lookup] at hq
  by_cases hs:s=p
  ·
   subst hs
   simp only [beq_self_eq_true,Option.some.injEq] at hq
   subst hq
   show (a.tmps.setIfInBounds s (enc x)).getD s undef=enc x
   simp [Array.getD_eq_getD_getElem?,hsz,hpn]
  ·
   rw [show (s==p)=false by simpa using hs] at hq
   obtain ⟨z',Eg,IL⟩:=hK.spec s z hq
   have h2:=z.st _ _ _ _ _ hx (IL _ _ _ (hE s z' Eg))
   show z.h M w ((a.tmps.setIfInBounds p (enc x)).getD s undef)
   have e1:(a.tmps.setIfInBounds p (enc x)).getD s undef=a.tmps.getD s undef:=by
    simp only [Array.getD_eq_getD_getElem?]
    rw [Array.getElem?_setIfInBounds_ne (fun e=>hs e.symm)]
   rw [e1];exact h2
 ·
  intro l D rec M1 w1 pre x d hpre
  exact hbody l D rec M1 w1 pre x d hpre
 ·
  intro l D rec M1 w1 c pre d hpre a w ⟨M,h1,h2,h3,h⟩
  have h:Ay M0 w0 S (own pre++F6 l D rec M1 w1 (CD (c= .ret)::RX pre d)) M w:=h
  have hc:c= .ret:=(h.hold (CD (c= .ret)) AU).1
  subst hc
  have h5:Ay M0 w0 S (CD (Code.ret= .ret)::(own pre++F6 l D rec M1 w1 (RX pre d))) M w:=by
   refine Ay.perm ?_ h
   have:=List.perm_middle (a:=CD (Code.ret= .ret)) (l₁:=own pre++[BL l rec,BL D (.deferred (some [])),Ak M1 w1]) (l₂:=RX pre d)
   simpa [F6] using this
  exact Tr.ret (hstop l D rec M1 w1 pre d hpre) a w ⟨M,h1,h2,h3,Ay.Jj h5⟩
theorem Tr.nC {α β:Type} {p gf:Nat} {g:Operand} {lb:Array Value} {enc:α→Value} {xs:List α} {own:List α→List At} {assign body:Code} (q:Nat) (K:Env) (hK:CO E K) (R:List α→β→List At) (d0:β)
  (hIt:Mp P gf lb enc xs own) (eg:Entry P gf) (hg:VL E g (is (.func (.func gf) #[] lb))) (Ol:rs.Perm (own []++R [] d0)) (hp:K.lookup p=none) (hpn:p<n.sz)
  (hassign:∀l D rec M1 w1 pre x d,(pre++[x])<+:xs→Tr (cr P (some l)) ⟨n.sz,[]⟩ ((p,is (enc x))::K) (Hp M0 w0 S (own (pre++[x])++F6 l D rec M1 w1 (R pre d))) assign (Exit.then (St ⟨n.sz,[]⟩ ((q,is (enc x))::K) (Hp M0 w0 S (own (pre++[x])++F6 l D rec M1 w1 (R pre d)))) (fun _ _ _=>False)))
  (hbody : ∀ l D rec M1 w1 pre x d, (pre ++ [x]) <+: xs → Tr (cr P (some l)) ⟨n.sz, []⟩ ((q, is (enc x)) :: K) (Hp M0 w0 S (own (pre ++ [x]) ++ F6 l D rec M1 w1 (R pre d))) body
   (Iy M0 w0 S (fun d:β=>own (pre++[x])++F6 l D rec M1 w1 (R (pre++[x]) d)) (fun c _=>own (pre++[x])++F6 l D rec M1 w1 [CD (c= .ret),CD False])))
  (hdone:∀l D rec M1 w1 d,Fin ⟨n.sz,mark D::n.df⟩ E (Hp M0 w0 S (own xs++F6 l D rec M1 w1 (R xs d))) Q .normal):
  Tr (Xu P) n E (Hp M0 w0 S rs) (.rangeFunc g #[p] assign body) Q:=
 Tr.nu q K hK R (fun _ _=>[CD False]) d0 hIt eg hg Ol hp hpn hassign hbody hdone fun l D rec M1 w1 pre d _ a w ⟨M,_,_,_,h⟩=>by
  have h:Ay M0 w0 S (own pre++F6 l D rec M1 w1 [CD False]) M w:=h
  exact ((h.hold (CD False) AU).1).elim
theorem Fin.yh {β:Type} {rr:β→List At} {os:List At} {tl:β→List At} {l D:Nat} {rec:Obj} {M1:Av} {w1:World} (d:β) (hp:rs.Perm (os++F6 l D rec M1 w1 (tl d))):Fin n E (Hp M0 w0 S rs) (Iy M0 w0 S rr (fun c d=>os++F6 l D rec M1 w1 (CD (c= .ret)::tl d))) .ret:=by
 rintro a w ⟨M,_,_,_,h⟩
 have h:Ay M0 w0 S rs M w:=h
 refine ⟨d,M,Ay.perm ?_ (Ay.JN (Ay.perm hp h) (r:=CD (Code.ret= .ret)) rfl rfl)⟩
 have:=(List.perm_middle (a:=CD (Code.ret= .ret)) (l₁:=os++[BL l rec,BL D (.deferred (some [])),Ak M1 w1]) (l₂:=tl d)).symm
 simpa [F6] using this
theorem Fin.prop {e:Exit} {p:Prop} (j:Nat) (hj:rs[j]? =some (CD p)) (k:p→Fin n E (Hp M0 w0 S rs) Q e):Fin n E (Hp M0 w0 S rs) Q e:=fun a w hs=>by
 obtain ⟨M,h1,h2,h3,h4⟩:=hs
 have h4:Ay M0 w0 S rs M w:=h4
 exact k (h4.hold _ (List.mem_of_getElem? hj)).1 a w ⟨M,h1,h2,h3,h4⟩
theorem Fin.nv {e:Exit} {p q:Prop} (j:Nat) (hj:rs[j]? =some (CD p)) (h:p→q) (k:Fin n E (Hp M0 w0 S (rs.set j (CD q))) Q e):Fin n E (Hp M0 w0 S rs) Q e:=fun a w hs=>by
 obtain ⟨M,h1,h2,h3,h4⟩:=hs
 have h4:Ay M0 w0 S rs M w:=h4
 exact k a w ⟨M,h1,h2,h3,h4.CR hj rfl rfl (h (h4.hold _ (List.mem_of_getElem? hj)).1)⟩
theorem AO.vv (i:Nat) {c:Tmp} {t T:TypeId} {b:Nat} {new:Bool} {q p:Pr} (h:E.lookup c=some (ptr b 0)) (hi:rs[i]? =some (AF new b T [q])) (ht:ES P t=true) (hl:Pr.le q p):AO P E rs (.cell c t) p:=by
 intro M w a he hr
 obtain ⟨_,cs,h4,h5,_⟩:=hr _ (List.mem_of_getElem? hi)
 obtain ⟨v,hv,hh⟩:=h5.at_ 0 q rfl
 have hc:w.cell? ⟨b,0,none⟩=some v:=by simp [World.cell?,h4,hv]
 have h1:(loadVar t ⟨b,0,none⟩).run P w= .ok v w:=by simp [loadVar,ER ht,hc]
 refine ⟨v,?_,hl _ _ _ hh⟩
 have hc2:a.tmps.getD c undef= .pointer (some ⟨b,0,none⟩):=he _ _ h
 unfold Gx
 simp only [hc2,asAddr]
 simpa [Sem.run_bind] using h1
theorem Tr.nw {T:TypeId} {sz:Nat} {rows:List (List Pr)} {v:Value} (j:Nat) (hj:rs[j]? =some (BQ T sz rows v)) (k0:rows=[]→v= .slice none 0 0→Tr L n E (Hp M0 w0 S (rs.set j Bp)) c Q) (k1:Tr L n E (Hp M0 w0 S (rs.set j (D4 T sz rows v))) c Q):Tr L n E (Hp M0 w0 S rs) c Q:=fun a w hs=>by
 obtain ⟨M,h1,h2,h3,h4⟩:=hs
 have h4:Ay M0 w0 S rs M w:=h4
 rcases (h4.hold _ (List.mem_of_getElem? hj)).1 with ⟨e1,e2⟩|hm
 · exact k0 e1 e2 a w ⟨M,h1,h2,h3,h4.CR (r':=Bp) hj (by rw [e2];rfl) rfl trivial⟩
 · exact k1 a w ⟨M,h1,h2,h3,h4.CR (r':=D4 T sz rows v) hj rfl rfl hm⟩
theorem Fin.Hf {e:Exit} (T:TypeId) (sz:Nat) (k:Fin n E (Hp M0 w0 S (BQ T sz [] (.slice none 0 0)::rs)) Q e):Fin n E (Hp M0 w0 S rs) Q e:=fun a w hs=>by
 obtain ⟨M,h1,h2,h3,h4⟩:=hs
 have h4:Ay M0 w0 S rs M w:=h4
 exact k a w ⟨M,h1,h2,h3,Ay.JN h4 (r:=BQ T sz [] (.slice none 0 0)) rfl (.inl ⟨rfl,rfl⟩)⟩
end
end Cp
namespace Go.Proofs.YtmocaapoeefgkaaGreatDoor
open Go Go.RowKit Cp Go.Proofs.Tryz
-- sets as bits: read, closed, what can be added (behind AHY.lean)
def Mu (l:List Int):BitVec 32:=l.foldl (fun b i=>ZP b i.toNat) 0#32
theorem Zf {l:List Int} {k:Nat} {x:Int} (h:l[k]? =some x):Mu (l.take (k+1))=ZP (Mu (l.take k)) x.toNat:=by unfold Mu;rw [List.take_add_one,h,List.foldl_append];rfl
theorem dM {n:Nat} (hn:n≤32):∀(l:List Int) (b:BitVec 32) (i:Nat),(∀x∈l,0≤x∧x<n)→((l.foldl (fun b i=>ZP b i.toNat) b).getLsbD i=true↔b.getLsbD i=true∨(i:Int)∈l)
 |[],b,i,_=>by simp
 |x::l,b,i,h=>by
  have hx:=h x (List.mem_cons_self ..)
  rw [List.foldl_cons,dM hn l (ZP b x.toNat) i (fun y hy=>h y (List.mem_cons_of_mem _ hy)),ZR AA,Bool.or_eq_true,decide_eq_true_eq,List.mem_cons]
  constructor
  ·
   rintro ((h1|h1)|h1)
   · exact .inl h1
   · right;left;omega
   · exact .inr (.inr h1)
  ·
   rintro (h1|h1|h1)
   · exact .inl (.inl h1)
   · left;right;omega
   · exact .inr h1
theorem Zg {n:Nat} {l:List Int} (hn:n≤32) (h:∀x∈l,0≤x∧x<n):RU n (Mu l) l:=fun i=>by
 unfold Mu
 rw [dM hn l 0#32 i h]
 simp
def VT (B:List (BitVec 32)) (s:BitVec 32):Bool:=(L3 s).all fun i=>B.getD i 0#32&&&~~~s==0#32
theorem VU {n:Int} {l:List BK} {s:BitVec 32} {d:List Int} (hv:BH n l=0) (hs:RU n.toNat s d) (hd:∀x∈d,0≤x∧x<n):VT (Ep n.toNat l) s=Ck l d:=by
 obtain ⟨hn,hb,_,_⟩:=Cu hv
 have hB:=Gi (n:=n.toNat) (l:=l) AA
 have hat:∀i,i<n.toNat→(Ep n.toNat l)[i]? =some ((Ep n.toNat l).getD i 0#32):=fun i hi=>by
  rw [List.getD_eq_getElem?_getD,List.getElem?_eq_getElem (by rw [Cv];exact hi)];rfl
 rw [Bool.eq_iff_iff]
 unfold VT
 rw [List.all_eq_true]
 constructor
 ·
  intro h
  refine Ci.2 fun r hr hm=> ?_
  have hbr:=hb r hr
  unfold FC at hbr;rw [decide_eq_false_iff_not] at hbr
  have e1:((r.thn.toNat:Nat):Int)=r.thn:=by omega
  have e2:((r.fst.toNat:Nat):Int)=r.fst:=by omega
  have h1:s.getLsbD r.thn.toNat=true:=(hs _).2 (by rw [e1];exact hm)
  have h2:=h _ (Kn.2 h1)
  rw [beq_iff_eq,RV] at h2
  have h3:=h2 r.fst.toNat (by
   rw [hB.2 _ _ (hat r.thn.toNat AA)]
   rw [Bool.and_eq_true,decide_eq_true_eq]
   refine ⟨by omega,Kk ?_ _⟩
   unfold GQ
   exact List.any_eq_true.2 ⟨r,hr,by simp;omega⟩)
  have:=(hs _).1 h3
  rw [e2] at this;exact this
 ·
  intro h i hi
  have h1:=Kn.1 hi
  have h2:=(hs i).1 h1
  have h3:=hd _ h2
  rw [beq_iff_eq,RV]
  intro a ha
  rw [hB.2 _ _ (hat i AA),Bool.and_eq_true] at ha
  exact (hs a).2 (GS h _ ha.2 h2)
theorem n5 {n:Int} {s:List Int} {k:Nat} (hk:k≤s.length) (h:∀j,j<k→setAt n s j=true): -1≤OP s k:=by
 unfold OP
 split
 · omega
 ·
  have h1:=h (k-1) AA
  unfold setAt at h1
  simp only [Bool.and_eq_true,decide_eq_true_eq] at h1
  omega
theorem Mv {n:Nat} {s:List Int} (h:De (n:Int) s=true):∀x∈s,0≤x∧x<(n:Int):=fun x hx=>by
 obtain ⟨i,hi⟩:=List.mem_iff_getElem?.1 hx
 exact Pc h hi
theorem dN {n:Nat} {s:List Int} {b:BitVec 32} (hb:RU n b s) (h:De (n:Int) s=true) {i:Nat} (hi:b.getLsbD i=true):i<n:=by
 have:=Mv h _ ((hb i).1 hi);omega
abbrev rdB (n:Nat) (l:List Int):BitVec 32:=if De (n:Int) l=true then Mu l else 0#32
abbrev uI (B:List (BitVec 32)) (s:BitVec 32) (pre:List Nat):Prop:=∀i∈pre,(B.getD i 0#32&&&~~~s==0#32)=true
theorem dO {n:Nat} {B:List (BitVec 32)} {p:Pr} {l:List Int} (hn:n≤24):BD prog 137 [ref [int ((n:Nat):Int),bits B,p],ints l] (EA [u32 (rdB n l),bool (De ((n:Nat):Int) l)]):=by
 refine fo func137 rfl ⟨rfl,rfl⟩ fun M0 w0=>(Tr.C6 1 rfl fun G2=> ?_)
 iterate 4 refine ac ?_
 refine Tr.block (Tr.BA _ (kk [11,10,0] rfl) (fun k:Nat=>[(12,int ((k:Nat):Int)),(7,int (OP l k)),(6,u32 (Mu (l.take k)))]) (fun k:Nat=>k≤(l).length∧(∀j,j<k→setAt (n:Nat) l j=true)) (fun k:Nat=>(l).length-k) 0 (⟨Nat.zero_le _,fun j hj=>absurd hj AA⟩) ⟨kq,⟨_,rfl,int_eq rfl⟩,⟨_,rfl,QE⟩,trivial⟩ ?_)
 rintro k ⟨BV,AY⟩
 refine ac ?_
 refine Tr.seq ?_
 refine Tr.cn rfl ?_ ?_<;>intro h1 q1
 have Ah:k<(l).length:=AH h1
 obtain ⟨i,Ai⟩:=at_ Ah
 have iz:=Q_ AY Ai
 have hlg:=n5 AA AY
 refine ac ?_
 refine Tr.seq (Tr.block (Tr.seq (Tr.Aj (co rfl (AD rfl underlying51 Bt vq vq AA (Aa Ai)) ?_))))
 refine ac ?_
 refine ag ?_ ?_<;>intro h2 q2
 refine ac ?_
 refine wk [26,12,11,10,9,6,0] rfl ?_
 refine ac ?_
 refine Tr.ret (Fin.AE (Fin.AR (Fin.AE (Fin.AE (Fin.AR (Fin.AE (Fin.Dp rfl (Br.Dz _ _) rfl ?_ rfl ?_)))))))
 · exact jW
 · exact aY
 refine ac ?_
 refine wk [26,12,11,10,9,6,0] rfl ?_
 refine Tr.cn rfl ?_ ?_<;>intro h3 q3
 refine ac ?_
 refine Tr.ret (Fin.AE (Fin.AR (Fin.AE (Fin.AE (Fin.AR (Fin.AE (Fin.Dp rfl (Br.Dz _ _) rfl ?_ rfl ?_)))))))
 · exact jW
 · exact aY
 refine a2 ?_
 refine co rfl (J9 (b:=1#32) rfl vq vq AA) ?_
 refine co rfl (Mq rfl vq vq) ?_
 refine a2 ?_
 refine wk [12,11,10,7,6,0] rfl ?_
 refine ac ?_
 exact Fin.AL (k+1) ⟨⟨Ah,D5 AY (by rw [iz];simp;omega)⟩,by omega⟩ ⟨⟨_,rfl,AG k⟩,⟨_,rfl,int_eq (by rw [ZB Ai])⟩,⟨_,rfl,Pr.le_of_eq (congrArg u32 (Zf Ai).symm)⟩,kz⟩
 have BP:k=(l).length:=by have:=AJ h1;omega
 subst BP
 have hsb:De ((n:Nat):Int) l=true:=B7.2 AY
 refine a2 ?_
 refine Tr.ret (Fin.Dp rfl (Br.Dz _ _) rfl ?_ rfl ?_)
 · rw [show rdB n l=Mu l from if_pos hsb,List.take_length];exact Lr
 · refine bool_eq ?_;exact hsb.symm
theorem yj {B:List (BitVec 32)} {s y:BitVec 32} {x:Nat} (h:x∈L3 s) (hy:B[x]? =some y) (hn:(y&&&~~~s==0#32)=false):VT B s=false:=by
 unfold VT
 rw [List.all_eq_false]
 exact ⟨x,h,by rw [List.getD_eq_getElem?_getD,hy];simpa using hn⟩
theorem uJ {B:List (BitVec 32)} {s:BitVec 32} (h:uI B s (L3 s)):VT B s=true:=by
 unfold VT
 exact List.all_eq_true.2 h
theorem Td {n:Nat} {B:List (BitVec 32)} {p:Pr} [One p] {s:BitVec 32} (hB:B.length=n) (hs:∀i,s.getLsbD i=true→i<n):BZ Tryz.prog 138 [ref [int ((n:Nat):Int),bits B,p],u32 s] (bool (VT B s)) (Dw) (fun _=>Dw):=by
 refine BZ.ofM Tryz.func138 rfl rfl B8 fun M0 w0 S rs M1 w1=> ?_
 refine Tr.seq ?_
 refine Tr.Ap ?_
 refine TO.op rfl rfl AB (Bn rfl (VL.le (vl rfl) (Af _))) ?_
 refine TO.op rfl rfl AB (Bn rfl (VL.le (vl rfl) (Af _))) ?_
 refine TO.alloc rfl rfl AB rfl z4 zo4 (fun b1=> ?_)
 refine TO.nil ?_
 refine Fin.go ?_
 refine Tr.seq ?_
 refine Tr.seq ?_
 refine Tr.Ap ?_
 refine TO.op rfl rfl AB (Ef rfl F1 (vl rfl)) ?_
 refine TO.pad ?_
 refine TO.DQ 0 rfl rfl AB (IY rfl rfl AB rfl (nX) ⟨⟨_,rfl,Pr.le_refl _⟩,trivial⟩) (fun v1=> ?_)
 refine TO.nil ?_
 refine Fin.shape 7 (fun b=>nW b) rfl (fun fb2 fe2=> ?_)
 subst fe2
 refine Fin.HS 0 (AF true fb2 R9 [_]) rfl rfl ?_
 refine Fin.go ?_
 refine Tr.block ?_
 refine Tr.dD (p:=uI B s []) (fun i h=>FR) ?_
 refine Tr.nu 5 [(2,_),(3,_),(4,_)] ⟨⟨_,rfl,Pr.le_refl _⟩,⟨_,rfl,Pr.le_refl _⟩,⟨_,rfl,Pr.le_refl _⟩,trivial⟩ (fun pre (_:Unit)=>CD (uI B s pre)::AF true b1 4 [bool false]::Ak M1 w1::rs) (fun pre (_:Unit)=>CD (VT B s=false)::AF true b1 4 [bool false]::Ak M1 w1::rs) () (VM (s:=s)) VN (vl rfl) ((EG (j:=3) rfl).trans (List.Perm.cons _ ((EG (j:=1) rfl).trans (List.Perm.cons _ (List.Perm.refl _))))) rfl B8 ?_ ?_ ?_ ?_
 ·
  rintro lk Dk rk Mr wr pre x _ hpre
  refine Tr.Aj ?_
  refine Ch.op rfl rfl AB (Db rfl (vl rfl)) ?_
  refine Ch.nil ?_
  exact Fin.st ⟨⟨_,rfl,Pr.le_refl _⟩,⟨_,rfl,Pr.le_refl _⟩,⟨_,rfl,Pr.le_refl _⟩,⟨_,rfl,Pr.le_refl _⟩,trivial⟩
 ·
  rintro lk Dk rk Mr wr pre x _ hpre
  have hsx:s.getLsbD x=true:=Kn.1 (nh hpre)
  obtain ⟨y,hy⟩:=at_ (l:=B) (k:=x) (by have:=hs x hsx;omega)
  refine Tr.block ?_
  refine Tr.seq ?_
  refine Tr.qU mixed Be ?_
  refine Ch.op rfl rfl AB (Ef rfl Jn (vl rfl)) ?_
  first
   |refine Ch.op rfl rfl AB (JB rfl (vl rfl)) ?_
   |refine Ch.op rfl rfl AB (Ji rfl (vl rfl)) ?_
  refine Ch.op rfl rfl AB (FX rfl Ig (vl rfl) rfl) ?_
  refine Ch.op rfl rfl AB (Ef rfl Jp (vl rfl)) ?_
  refine Ch.op rfl rfl AB (BM rfl (vl rfl)) ?_
  refine Ch.op rfl rfl AB (AD rfl Tryz.underlying232 Fl (vl rfl) (vl rfl) AA (RY hy)) ?_
  refine Ch.op rfl rfl AB (Ef rfl F1 (vl rfl)) ?_
  refine Ch.op rfl rfl AB (Ef rfl F1 (vl rfl)) ?_
  refine Ch.op rfl rfl AB (J_ rfl (vl rfl) (vl rfl)) ?_
  refine Ch.op rfl rfl AB (nP rfl (vl rfl) (vl rfl)) ?_
  refine Ch.nil ?_
  refine Fin.go ?_
  refine Tr.weak [(4,_),(18,_)] ⟨⟨_,rfl,Pr.le_refl _⟩,⟨_,rfl,Pr.le_refl _⟩,trivial⟩ ?_
  refine Tr.cond rfl (fun h1=> ?_) (fun h1=> ?_)
  ·
   have q1:=C3.DZ h1
   refine Tr.seq ?_
   refine Tr.Ap ?_
   refine TO.AK 6 rfl rfl rfl (vl rfl) (VL.le (vl rfl) (Af _)) rfl Vs rfl rfl ?_
   refine TO.nil ?_
   refine Fin.go ?_
   refine Tr.ret ?_
   refine Fin.AR ?_
   refine Fin.nv 5 rfl (q:=VT B s=false) (fun _=>yj (Kn.2 hsx) hy CG) ?_
   exact Fin.yh () (List.Perm.refl _)
  ·
   have q1:=C3.DZ h1
   refine Tr.skip ?_
   refine Fin.block ?_
   refine Fin.nv 5 rfl (q:=uI B s (pre++[x])) (fun h i hi=>by rcases List.mem_append.1 hi with hi|hi;exact h i hi;(rw [List.mem_singleton] at hi;subst hi;rw [List.getD_eq_getElem?_getD,hy];simp_all)) ?_
   exact Fin.rnd () (List.Perm.refl _)
 ·
  rintro lk Dk rk Mr wr _
  refine Fin.prop 5 rfl fun hok=> ?_
  refine Fin.drop 1 ?_
  refine Fin.drop 1 ?_
  refine Fin.drop 2 ?_
  refine Fin.drop 2 ?_
  refine Fin.block ?_
  refine Fin.go ?_
  refine Tr.seq ?_
  refine Tr.Ap ?_
  refine TO.AK 2 rfl rfl rfl (vl rfl) (VL.le (vl rfl) (Af _)) rfl Vs rfl rfl ?_
  refine TO.nil ?_
  refine Fin.go ?_
  refine Tr.ret ?_
  refine Fin.Mt (List.perm_middle (l₁:=[_])) ?_
  refine Fin.VJ ?_
  refine Fin.TX ?_
  refine Fin.Mt ((List.perm_middle (l₁:=[_])).symm) ?_
  refine Fin.GN [_] rfl (AO.vv 0 rfl rfl eY (Pr.le_refl _)) ?_ (fun _ _ _ _=>rfl)
  · exact bool_eq (uJ hok).symm
 ·
  rintro lk Dk rk Mr wr pre _ hpre
  refine Fin.prop 5 rfl fun hno=> ?_
  refine Fin.drop 1 ?_
  refine Fin.drop 1 ?_
  refine Fin.drop 2 ?_
  refine Fin.drop 2 ?_
  refine Fin.AR ?_
  refine Fin.AE ?_
  refine Fin.Mt (List.perm_middle (l₁:=[_])) ?_
  refine Fin.VJ ?_
  refine Fin.TX ?_
  refine Fin.Mt ((List.perm_middle (l₁:=[_])).symm) ?_
  refine Fin.GN [_] rfl (AO.vv 0 rfl rfl eY (Pr.le_refl _)) ?_ (fun _ _ _ _=>rfl)
  · exact bool_eq hno.symm
theorem uK {s:BitVec 32}  :F3 (α:=Value) Tryz.prog 180 [u32 s] [Dw] (fun _=>True) (fun v=>Ab v (lens (((L3 s).map fun i:Nat=>(i:Int)).map (fun n=>[int n])).length)) (fun v=>[Dw,BQ 3 1 (((L3 s).map fun i:Nat=>(i:Int)).map (fun n=>[int n])) v]):=by
 refine F3.ofM Tryz.func180 rfl rfl B8 fun M0 w0 S rs M1 w1=> ?_
 refine Tr.seq ?_
 refine Tr.Aj ?_
 refine Ch.op rfl rfl AB (Db rfl (vl rfl)) ?_
 refine Ch.nil ?_
 refine Fin.go ?_
 refine Tr.seq ?_
 refine Tr.Ap ?_
 refine TO.alloc rfl rfl AB rfl z51 AAn (fun b1=> ?_)
 refine TO.nil ?_
 refine Fin.go ?_
 refine Tr.seq ?_
 refine Tr.seq ?_
 refine Tr.Ap ?_
 refine TO.op rfl rfl AB (BM rfl (vl rfl)) ?_
 refine TO.pad ?_
 refine TO.DQ 0 rfl rfl AB (IY rfl rfl AB rfl (nX) ⟨⟨_,rfl,Pr.le_refl _⟩,trivial⟩) (fun v1=> ?_)
 refine TO.nil ?_
 refine Fin.shape 6 (fun b=>nW b) rfl (fun fb2 fe2=> ?_)
 subst fe2
 refine Fin.HS 0 (AF true fb2 R9 [_]) rfl rfl ?_
 refine Fin.go ?_
 refine Tr.block ?_
 refine Tr.Hf 3 1 ?_
 refine Tr.Ho 2 [Ab (.slice none 0 0) (lens 0)] rfl ⟨GK rfl,trivial⟩ ?_
 refine Tr.nC 4 [(3,_)] ⟨⟨_,rfl,Pr.le_refl _⟩,trivial⟩ (fun pre vr=>BQ 3 1 ((pre.map fun i:Nat=>(i:Int)).map (fun n=>[int n])) vr::AF true b1 51 [Ab vr (lens ((pre.map fun i:Nat=>(i:Int)).map (fun n=>[int n])).length)]::Ak M1 w1::rs) (.slice none 0 0) (VM (s:=s)) VN (vl rfl) ((EG (j:=3) rfl).trans (List.Perm.cons _ ((EG (j:=1) rfl).trans (List.Perm.cons _ (List.Perm.refl _))))) rfl B8 ?_ ?_ ?_
 ·
  rintro lk Dk rk Mr wr pre x vr hpre
  refine Tr.Aj ?_
  refine Ch.op rfl rfl AB (Db rfl (vl rfl)) ?_
  refine Ch.nil ?_
  exact Fin.st ⟨⟨_,rfl,Pr.le_refl _⟩,⟨_,rfl,Pr.le_refl _⟩,trivial⟩
 ·
  rintro lk Dk rk Mr wr pre x vr hpre
  have hpl:(pre++[x]).length≤32:=Nat.le_trans hpre.length_le (tu s)
  rw [List.length_append,List.length_cons,List.length_nil] at hpl
  refine Tr.block ?_
  refine Tr.Ap ?_
  refine TO.rd 6 rfl rfl rfl AB (BE rfl bU (vl rfl) rfl) ?_
  refine TO.op rfl rfl AB (BM rfl (vl rfl)) ?_
  refine TO.op rfl rfl AB (AM (xs:=[.tmp 9]) (rows:=[[_]]) rfl rfl Tryz.underlying51 Bt z3 rfl AB ⟨⟨Am,(VL.le (vl rfl) (Af _))⟩,trivial⟩ AB) ?_
  refine TO.DQ 5 rfl rfl AB (FI rfl rfl AB rfl Tryz.underlying51 Bt He z3 rfl AB AB (vl rfl) ⟨_,rfl,B0 _ _⟩ (Bb fun _=>rfl) (Nat.zero_lt_succ _) NF NH) (fun v2=> ?_)
  refine TO.AK 6 rfl rfl rfl (vl rfl) (VL.le (vl rfl) (Af _)) rfl Gf rfl rfl ?_
  refine TO.nil ?_
  refine Fin.block ?_
  rw [show (pre.map fun i:Nat=>(i:Int)).map (fun n=>[int n])++[[int ((x:Nat):Int)]]=((pre++[x]).map fun i:Nat=>(i:Int)).map (fun n=>[int n]) by rw [List.map_append,List.map_append];rfl]
  refine Fin.Ho 6 [Ab v2 (lens (((pre++[x]).map fun i:Nat=>(i:Int)).map (fun n=>[int n])).length)] rfl ⟨Cz AU,trivial⟩ ?_
  exact Fin.rnd v2 (List.Perm.refl _)
 ·
  rintro lk Dk rk Mr wr vr
  refine Fin.drop 1 ?_
  refine Fin.drop 1 ?_
  refine Fin.drop 2 ?_
  refine Fin.block ?_
  refine Fin.go ?_
  refine Tr.seq ?_
  refine Tr.Aj ?_
  refine Ch.op rfl rfl B8 (Cw 3 rfl (BE rfl bU (vl rfl) rfl)) ?_
  refine Ch.op rfl rfl B8 (Db rfl (vl rfl)) ?_
  refine Ch.nil ?_
  refine Fin.go ?_
  refine Tr.ret ?_
  refine Fin.Mt (List.perm_middle (l₁:=[_])) ?_
  refine Fin.VJ ?_
  refine Fin.TX ?_
  refine Fin.drop 2 ?_
  refine Fin.vU (vr) rfl (AO.tmp rfl (Pr.le_refl _)) trivial ?_ (List.Perm.refl _)
  · exact Pr.le_refl _
def KC (n:Int) (l:List BK) (s:List Int):Int:=if BH n l≠0 then BH n l else if De n s=true∧Ck l s=true then 0 else 46
def JZ (n:Int) (l:List BK) (s:List Int):List Int:=if KC n l s=0 then EX n.toNat l s true else []
theorem vw {n:Int} {l:List BK} {s:List Int} (h:BH n l≠0):KC n l s=BH n l:=by unfold KC;rw [if_pos h]
theorem n7 {n:Int} {l:List BK} {s:List Int} (h:BH n l=0) (hn:¬(De n s=true∧Ck l s=true)):KC n l s=46:=by unfold KC;rw [if_neg (not_not_intro h),if_neg hn]
theorem v_ {n:Int} {l:List BK} {s:List Int} (h:BH n l=0) (hs:De n s=true) (hc:Ck l s=true):KC n l s=0:=by unfold KC;rw [if_neg (not_not_intro h),if_pos ⟨hs,hc⟩]
theorem VV {n:Int} {l:List BK} {s:List Int} {e:Int} (h:KC n l s=e) (he:e≠0):JZ n l s=[]:=by unfold JZ;rw [if_neg KR]
theorem yl {n:Int} {l:List BK} {s:List Int} {b:BitVec 32} (h:KC n l s=0) (hv:BH n l=0) (hs:RU n.toNat b s) (hc:Ck l s=true):(L3 (Lu (Ep n.toNat l) b n.toNat)).map (fun i:Nat=>(i:Int))=JZ n l s:=by
 unfold JZ
 rw [if_pos h]
 have hn:=(Cu hv).1
 exact (yO (fun j=>uD hv hs hc j) AA).symm
theorem Ks {n:Nat} {s:List Int} (hn:n≤32) (h:De (n:Int) s=true):RU n (rdB n s) s:=by
 rw [show rdB n s=Mu s from if_pos h];exact Zg hn (Mv h)
theorem gL {n:Int} {l:List BK} {s:List Int}  :F3 (α:=Value) prog 132 [int n,reqs l,ints s,fn (.func 153) []] [Dw] (fun _=>True) (fun v=>EA [Ab v (lens ((JZ n l s).map (fun n=>[int n])).length),int (KC n l s)]) (fun v=>[Dw,BQ 3 1 ((JZ n l s).map (fun n=>[int n])) v]):=by
 refine F3.of func132 rfl rfl Ao fun M0 w0 S rs M1 w1=> ?_
 refine ac ?_
 refine ap ?_
 refine TO.HJ 0 rfl rfl AB (An rfl rfl AB rfl (dH (n:=n) (l:=l)) ⟨kq,kz⟩) ?_
 refine ap ?_
 refine an ?_ ?_<;>intro h1 q1
 have hv:BH n l≠0:=by simpa using h1
 refine ac ?_
 refine wk [9,8] rfl (Tr.ret (Fin.AE ?_))
 have hno:=VV (vw (s:=s) hv) hv
 refine Fin.Hf 3 1 (Fin.Ik ?_)
 refine Fin.HS 1 (BQ 3 1 ((JZ n l s).map (fun n=>[int n])) (.slice none 0 0)) rfl O8 ?_
 refine Fin.OH ((.slice none 0 0)) rfl (AO.tmp rfl Lr) (AO.tmp rfl Lr) trivial ?_ (List.Perm.refl _)
 · exact A_ ⟨GK O8,int_eq (vw (s:=s) hv).symm,trivial⟩
 have hv:BH n l=0:=by simpa using h1
 have NG:=(Cu hv).1
 obtain ⟨N,rfl⟩:∃N:Nat,n=(N:Int):=⟨n.toNat,by omega⟩
 refine Tr.re 10 rfl (Pr.le_of_eq (VP hv)) ?_
 refine a2 ?_
 refine co rfl (CK (dO (n:=N) (B:=Ep N l) (l:=s) AA) rfl rfl rfl) ?_
 refine ac ?_
 refine wk [13,12,10,3] rfl ?_
 refine ap ?_
 refine TO.cases 31 rfl (fun h2=> ?_) (fun h2=> ?_)
 have q2:=C3.DZ h2
 have h46:KC (N:Int) l s=46:=n7 hv (by rintro ⟨g1,g2⟩;simp_all)
 iterate 4 refine TO.OI rfl rfl rfl (FY h2) rfl AB ?_
 refine ap ?_
 refine ac ?_
 refine wk [9,8] rfl (Tr.ret (Fin.AE ?_))
 have hno:=VV h46 AB
 refine Fin.Hf 3 1 (Fin.Ik ?_)
 refine Fin.HS 1 (BQ 3 1 ((JZ ((N:Nat):Int) l s).map (fun n=>[int n])) (.slice none 0 0)) rfl O8 ?_
 refine Fin.OH ((.slice none 0 0)) rfl (AO.tmp rfl Lr) (AO.tmp rfl Lr) trivial ?_ (List.Perm.refl _)
 · exact aj
 have q2:=C3.DZ h2
 have hsb:De ((N:Nat):Int) s=true:=by simpa using h2
 refine TO.Fh rfl rfl rfl h2 rfl AB (BM rfl vq) (TO.Fh rfl rfl rfl h2 rfl AB (BM rfl vq) ?_)
 refine TO.Wf 0 rfl rfl rfl h2 rfl rfl AB (An rfl rfl AB rfl (Td (n:=N) (Cv N l) (fun i h=>dN (Ks AA hsb) hsb h)) ⟨kq,kz⟩) ?_
 refine TO.Fh rfl rfl rfl h2 rfl AB (HW rfl vq) ?_
 refine ap ?_
 refine Tr.cn rfl ?_ ?_<;>intro h3 q3
 have h46:KC (N:Int) l s=46:=n7 hv (by rintro ⟨g1,g2⟩;rw [←VU (n:=(N:Int)) hv (Ks AA g1) (Mv g1)] at g2;simp_all)
 refine ac ?_
 refine wk [9,8] rfl (Tr.ret (Fin.AE ?_))
 have hno:=VV h46 AB
 refine Fin.Hf 3 1 (Fin.Ik ?_)
 refine Fin.HS 1 (BQ 3 1 ((JZ ((N:Nat):Int) l s).map (fun n=>[int n])) (.slice none 0 0)) rfl O8 ?_
 refine Fin.OH ((.slice none 0 0)) rfl (AO.tmp rfl Lr) (AO.tmp rfl Lr) trivial ?_ (List.Perm.refl _)
 · exact aj
 have iS:Ck l s=true:=by rw [←VU (n:=(N:Int)) hv (Ks AA hsb) (Mv hsb)];simpa using h3
 have ha0:=v_ hv hsb iS
 have AC6:(L3 (Lu (Ep N l) (rdB N s) N)).map (fun i:Nat=>(i:Int))=JZ (N:Int) l s:=yl ha0 hv (Ks AA hsb) iS
 refine ac ?_
 refine ap ?_
 refine tp rfl (kW rfl vq (show BD prog 153 ([_,_]++[]) _ from nj (n:=N) (B:=Ep N l) (s:=rdB N s) (Cv N l) AA) ⟨kq,kz⟩) ?_
 refine TO.S7 _ rfl rfl AB rfl (uK) kz ((EG (j:=0) rfl).trans (List.Perm.cons _ (List.Perm.refl _))) (fun x1 _=> ?_)
 refine ap ?_
 refine wk [9,8] rfl (Tr.ret (Fin.HS 1 (BQ 3 1 ((JZ ((N:Nat):Int) l s).map (fun n=>[int n])) x1) rfl (by rw [AC6]) (Fin.OH (x1) rfl (AO.tmp rfl Lr) (AO.tmp rfl Lr) trivial ?_ (List.Perm.refl _))))
 · exact A_ ⟨Cz (by rw [AC6]),int_eq ha0.symm,trivial⟩
theorem gM {n:Int} {l:List BK} {s:List Int}  :F3 (α:=Value) prog 117 [int n,reqs l,ints s] [Dw] (fun _=>True) (fun v=>EA [Ab v (lens ((JZ n l s).map (fun n=>[int n])).length),int (KC n l s)]) (fun v=>[Dw,BQ 3 1 ((JZ n l s).map (fun n=>[int n])) v]):=by
 refine F3.of func117 rfl rfl Ao fun M0 w0 S rs M1 w1=> ?_
 refine ac ?_
 refine ap ?_
 refine TO.S7 _ rfl rfl AB rfl (gL (n:=n) (l:=l) (s:=s)) ⟨kq,kz⟩ ((EG (j:=0) rfl).trans (List.Perm.cons _ (List.Perm.refl _))) (fun x1 _=> ?_)
 refine ap ?_
 refine Tr.ret (Fin.OH (x1) rfl (AO.tmp rfl Lr) (AO.tmp rfl Lr) trivial ?_ (List.Perm.refl _))
 · exact Lr
end Go.Proofs.YtmocaapoeefgkaaGreatDoor
namespace Cp
open Go Go.RowKit Go.Great
section
variable {P:Program}
theorem Om.frz {f:FuncId} {args:List Pr} {p0 p1:Pr} {e:TypeId} {sz:Nat} {rows:List (List Pr)} (hl:∀r∈rows,r.length=sz) (h:Om P f args (fun x=>agg [p0,p1,is x]) (fun x=>[Bx e sz rows x])):BD P f args (agg [p0,p1,slice sz rows]):=by
 refine ⟨h.1,fun M w vs hb hv=> ?_⟩
 refine (h.2 M w FO [] M w vs (Ay.begin hb) hv).mono ?_
 rintro e' w' ⟨v,M',x,rfl,_,h1,h2,h3⟩
 obtain ⟨M2,j1,j2,j3⟩:=Ay.xR (j:=0) h3 rfl hl
 obtain ⟨cs,hc,g1,g2⟩:=(agg [p0,p1,is x]).st _ _ _ _ _ j1 h1
 refine ⟨v,rfl,?_,j2.below⟩
 exact (agg [p0,p1,slice sz rows]).st _ _ _ _ _ (Ext.less j2.m) ⟨cs,hc,g1,HL.set (k:=2) g2 rfl fun u hu=>by rw [show u=x from hu];exact j3⟩
theorem F3.Yl {f:FuncId} {args:List Pr} {k:Pr} {e:TypeId} {sz m:Nat} {rows:List (List Pr)} {R:At} (hl:∀r∈rows,r.length=sz) (h:F3 (α:=Value) P f args [R] (fun _=>True) (fun v=>EA [Ab v (lens m),k]) (fun v=>[R,BQ e sz rows v])):BZ P f args (EA [slice sz rows,k]) R (fun _=>R):=by
 refine ⟨h.1,fun M0 w0 S rs M w vs hI hv=>(h.2 M0 w0 S rs M w vs hI hv).mono ?_⟩
 rintro e' w' ⟨v,M',x,rfl,_,h1,h2,h3⟩
 have h3:Ay M0 w0 S (R::BQ e sz rows x::rs) M' w':=h3
 obtain ⟨M2,j1,j2,j3⟩:=Ay.Yl (j:=1) h3 rfl hl
 obtain ⟨cs,hc,g2⟩:=(EA [Ab x (lens m),k]).st _ _ _ _ _ j1 h1
 exact ⟨v,M2,rfl,⟨cs,hc,HL.set (k:=0) g2 rfl fun u hu=>by rw [show u=x from hu.1];exact j3⟩,h2.trans j1,(Ay.perm (List.Perm.swap _ _ _) j2).Jj⟩
variable {n:Fm} {E:Env} {M0:Av} {w0:World} {S:Nat→Prop} {o:Oper}
end
end Cp
namespace Go.Proofs.YtmocaapoeefgkaaGreatDoor
open Go Go.RowKit Cp Go.Proofs.Tryz
def VW (n:Int) (l:List BK) (s:List Int):Int:=if BH n l≠0 then BH n l else if De n s=true then 0 else 46
def VX (n:Int) (l:List BK) (s:List Int):Bool:=decide (BH n l=0)&&De n s&&Ck l s
theorem AC7 {n:Int} {l:List BK} {s:List Int} (h:BH n l≠0):VW n l s=BH n l∧VX n l s=false:=by unfold VW VX;rw [if_pos h,decide_eq_false h];exact ⟨rfl,rfl⟩
theorem AC8 {n:Int} {l:List BK} {s:List Int} (h:BH n l=0) (hs:De n s=false):VW n l s=46∧VX n l s=false:=by unfold VW VX;rw [if_neg (not_not_intro h),if_neg (by rw [hs];decide),hs];simp
theorem wA {n:Int} {l:List BK} {s:List Int} (h:BH n l=0) (hs:De n s=true):VW n l s=0∧VX n l s=Ck l s:=by unfold VW VX;rw [if_neg (not_not_intro h),if_pos hs,hs,decide_eq_true h];simp
theorem Zh {n:Int} {l:List BK} {s:List Int}  :BZ prog 78 [int n,reqs l,ints s] (EA [bool (VX n l s),int (VW n l s)]) (Dw) (fun _=>Dw):=by
 refine BZ.of func78 rfl rfl Ao fun M0 w0 S rs M1 w1=> ?_
 refine ac ?_
 refine ap ?_
 refine TO.HJ 0 rfl rfl AB (An rfl rfl AB rfl (dH (n:=n) (l:=l)) ⟨kq,kz⟩) ?_
 refine ap ?_
 refine an ?_ ?_<;>intro h1 q1
 have hv:=AC7 (s:=s) (n:=n) (l:=l) IK
 refine ac ?_
 refine wk [7,6] rfl (Tr.ret (Fin.AE (Fin.FF rfl rfl ?_ rfl ?_)))
 · refine bool_eq ?_;exact hv.2.symm
 · refine int_eq ?_;exact hv.1.symm
 have hv:BH n l=0:=by simpa using h1
 have NG:=(Cu hv).1
 obtain ⟨N,rfl⟩:∃N:Nat,n=(N:Int):=⟨n.toNat,by omega⟩
 refine Tr.re 8 rfl (Pr.le_of_eq (VP hv)) ?_
 refine a2 ?_
 refine co rfl (CK (dO (n:=N) (B:=Ep N l) (l:=s) AA) rfl rfl rfl) ?_
 refine ac ?_
 refine wk [11,10,8] rfl ?_
 refine an ?_ ?_<;>intro h2 q2
 have V7:=AC8 (n:=(N:Int)) hv MB
 refine ac ?_
 refine Tr.ret (Fin.AE (Fin.FF rfl rfl ?_ rfl ?_))
 · refine bool_eq ?_;exact V7.2.symm
 · refine int_eq ?_;exact V7.1.symm
 have hsb:De ((N:Nat):Int) s=true:=by simpa using h2
 have hv3:=wA hv hsb
 refine ac ?_
 refine ap ?_
 refine TO.HJ 0 rfl rfl AB (An rfl rfl AB rfl (Td (n:=N) (Cv N l) (fun i h=>dN (Ks AA hsb) hsb h)) ⟨kq,kz⟩) ?_
 refine ap ?_
 refine Tr.ret (Fin.FF rfl rfl ?_ rfl ?_)
 · refine bool_eq ?_;rw [hv3.2];exact VU (n:=(N:Int)) hv (Ks AA hsb) (Mv hsb)
 · refine int_eq ?_;exact hv3.1.symm
abbrev Dm (l:List BX):Pr:=slice 8 (l.map El)
def Od (c:BR) (x:BX):Bool:=decide (x.AX<0)||decide (x.AX≥c.Is.length)
def Rb (c:BR) (x:BX):Int:=c.Is.getD x.AX.toNat 0
def EY (c:BR) (l:List BX):Int:=if 24<l.length then 3 else if l.any (Od c) then 40 else 0
def Rc (c:BR) (l:List BX):List Int:=if EY c l=0 then l.map (Rb c) else []
open Classical in
noncomputable def KD (e:Dc) (c:BR) (l:List BX):Int:=if FM e=false then 31 else if c.check (e.Bs.length:Nat)≠0 then c.check (e.Bs.length:Nat) else EY c l
theorem dP {c:BR} {l:List BX} (h:24<l.length):EY c l=3:=by unfold EY;rw [if_pos h]
theorem Vx {c:BR} {l:List BX} {k:Nat} {x:BX} (h:¬24<l.length) (hx:l[k]? =some x) (hb:Od c x=true):EY c l=40:=by unfold EY;rw [if_neg h,if_pos (List.any_eq_true.2 ⟨x,List.mem_of_getElem? hx,hb⟩)]
theorem dQ {c:BR} {l:List BX} (h:¬24<l.length) (hb:∀j y,j<l.length→l[j]? =some y→Od c y=false):EY c l=0:=by
 unfold EY;rw [if_neg h,if_neg]
 rw [Bool.not_eq_true,List.any_eq_false]
 intro y hy
 obtain ⟨j,hj⟩:=List.mem_iff_getElem?.1 hy
 rw [hb j y YM hj];decide
theorem Vw {c:BR} {l:List BX} {e:Int} (h:EY c l=e) (he:e≠0):Rc c l=[]:=by unfold Rc;rw [if_neg KR]
theorem XL {c:BR} {l:List BX} (h:EY c l=0):Rc c l=l.map (Rb c):=by unfold Rc;rw [if_pos h]
theorem wB {c:BR} {x:BX} (h:0≤x.AX∧x.AX<c.Is.length):c.Is[x.AX.toNat]? =some (Rb c x):=by
 unfold Rb;rw [List.getD_eq_getElem?_getD,List.getElem?_eq_getElem AA];rfl
theorem n8 {c:BR} {l:List BX} {k:Nat} {x:BX} (h:l[k]? =some x):(((l.take k).map (Rb c)).map fun n=>[int n])++[[int (Rb c x)]]=((l.take (k+1)).map (Rb c)).map fun n=>[int n]:=by
 rw [List.take_add_one,h,List.map_append,List.map_append];rfl
def wC (l:List Int):Int:=l.foldl max (-1)
theorem gN {l:List BK} (h0:l≠[]) (hl:l.length≤1000000):BZ prog 154 [reqs l] (lens (l.map Oc).length) (Bp) (fun v=>D4 61 2 (l.map Oc) v):=by
 refine BZ.of func154 rfl rfl Ao fun M0 w0 S rs M1 w1=> ?_
 have hpos:=Md (f:=Oc) h0
 refine a2 ?_
 refine co rfl (Fa rfl underlying33 vq) ?_
 refine ac ?_
 refine Tr.ex 4 rfl (fun z1=>Tr.fact 4 rfl fun Eg=> ?_)
 refine Tr.cn rfl ?_ ?_<;>intro h1 q1
 exfalso;have:=Eg h1;simp_all
 refine ac ?_
 refine ap ?_
 refine TO.pad ?_
 refine TO.DQ 0 rfl rfl AB (Ij rfl rfl AB rfl underlying33 Cf SF Qd rfl AB AB vq vq hpos NK EE) (fun v1=> ?_)
 refine ap ?_
 refine Tr.ret (Fin.drop 1 ?_)
 refine Fin.EB rfl rfl ?_ O5
 · exact IP
theorem gO   :BD prog 154 [slice 2 []] (full 2 []):=by
 refine fo func154 rfl ⟨rfl,rfl⟩ fun M0 w0=> ?_
 refine a2 ?_
 refine co rfl (Fa rfl underlying33 vq) ?_
 refine ac ?_
 refine Tr.ex 4 rfl (fun z1=>Tr.fact 4 rfl fun Eg=> ?_)
 · repeat' first|exact C8 2|exact Lr|refine co rfl (MZ rfl underlying33 Cf vq vq) ?_|refine ac ?_|(refine Tr.cn rfl ?_ ?_<;>intro h q)
theorem gP {l:List BK} (hl:l.length≤1000000):BD Tryz.prog 154 [reqs l] (reqs l):=by
 by_cases h0:l=[]
 · subst h0;exact BD.le gO (fun _ _ _ h=>h) (B0 _ _)
 · exact (BZ.ABQ (rows:=l.map Oc) (Bb fun _=>rfl) (gN h0 hl)).pure
theorem n9 {l:List BX} {r:List BK} {d:List Int} (IW:∀x∈l,x.C2.small) (hl:l.length≤1000000) (hr:r.length≤1000000) (hd:d.length≤1000000):Om prog 100 [agg [Dm l,reqs r,ints d]] (fun x=>agg [Dm l,reqs r,is x]) (fun x=>[Bx 3 1 (d.map fun n=>[int n]) x]):=by
 refine Om.of func100 rfl rfl Ao fun M0 w0 S rs M1 w1=>(Tr.HB 0 0 rfl rfl fun HR=>(Tr.seq (Tr.Ap (tp rfl (Bn rfl (Va rfl)) ?_))))
 refine Tl rfl rfl rfl rfl z35 E3 (fun b1=> ?_)
 refine ao ?_
 refine Tr.seq (Tr.pad (Tr.pad (Tr.pad (Tr.rx ?_))))
 refine ax ?_
 refine xo rfl (fun _=>Cn (gP hr) rfl rfl) ?_
 refine ax ?_
 refine Cx.ef 0 rfl rfl AB (IY rfl rfl AB rfl (fE (l:=d) hd) kz) ?_
 refine Cx.ef 1 rfl rfl AB (dI (d:=12) (s:=11) (p:=fun v=>agg [is (.slice none 0 0),reqs r,Ab v (lens d.length)]) (q:=agg [is (.slice none 0 0),reqs r,lens d.length]) rfl AB (fun _=>BT ⟨Lr,Lr,Aq _ _,trivial⟩) rfl rfl AB (fun v=>ZX rfl rfl AB (fun _=>Al (rows:=[(1,[_]),(2,[_])]) rfl LS E3 ⟨⟨rfl,VL.le (vl rfl) (Af _)⟩,⟨⟨rfl,VL.le (vl rfl) (Af _)⟩,trivial⟩⟩ rfl))) (Cx.ef 2 rfl rfl AB (CW rfl rfl AB rfl z35 E3) (Cx.Dv 2 rfl rfl (Tc rfl rfl rfl AB rfl rfl (Ad _) CI rfl rfl) ?_))
 refine Cx.nil ⟨by kernel_rfl,?_⟩
 refine BO.pin 11 rfl (fun v11=> ?_)
 refine BO.pin 12 rfl (fun v12=> ?_)
 refine BO.pin 3 rfl (fun v3=> ?_)
 refine BO.uB 0 11 rfl rfl (BO.nV 1 12 11 rfl rfl rfl (BO.nV 2 3 12 rfl rfl rfl (BO.done al5 (Fin.shape 3 (fun b=> .pointer (some ⟨b,0,none⟩)) rfl (fun b9 e9=> ?_)))))
 subst e9
 refine Fin.XK 1 2 rfl rfl (Fin.drop 1 (Fin.go (wk [3,2,1] rfl ?_)))
 refine ac ?_
 refine Tr.block (Tr.Ho 1 [Ab (.slice none 0 0) (Dm (l.take 0)),reqs r,Ab v11 (lens d.length)] rfl ⟨Bl rfl,Lr,Lr,trivial⟩ (Tr.B6 86 8 (Tr.ET _ (kk [15,14,3,2] rfl) (fun k u=>[(16,int ((k:Nat):Int))]) (fun k u=>Hp M0 w0 S (As 86 8 u::Bx 3 1 (d.map fun n=>[int n]) v11::AF true b9 35 [Ab u (Dm (l.take k)),reqs r,Ab v11 (lens d.length)]::AF true b1 35 (([.slice none 0 0,.slice none 0 0,.slice none 0 0]:List Value).map is)::Ak M1 w1::rs)) (fun k:Nat=>k≤(l).length) (fun k:Nat=>(l).length-k) 0 (.slice none 0 0) (Nat.zero_le _) kz (fun _ _ h=>h) ?_)))
 rintro k u BV
 refine ac ?_
 refine Tr.seq ?_
 refine Tr.cn rfl ?_ ?_<;>intro h1 q1
 have Ah:k<(l).length:=AH h1
 obtain ⟨x,Ai⟩:=at_ Ah
 refine ac ?_
 refine Tr.seq (Tr.block (Tr.seq (Tr.Ap (tp rfl (AD rfl underlying32 Dh (vl rfl) (vl rfl) AA (Aa Ai)) (tp rfl (AQ rfl HK Dh (vl rfl) rfl rfl) ?_)))))
 refine Tl rfl rfl rfl rfl PG Kz (fun b10=> ?_)
 refine sf 0 5 ⟨rfl,rfl,rfl⟩ rfl rfl rfl rfl ?_
 refine ao ?_
 refine Tr.pad (Tr.rx ?_)
 refine ax ?_
 refine xo rfl (fun _=>Cn (sL (c:=x) (IW x (List.mem_of_getElem? Ai))) rfl rfl) ?_
 refine xo rfl (fun _=>AM (xs:=[.tmp 23]) (rows:=[_]) rfl rfl underlying32 Dh PG rfl AB ⟨⟨Am,(Va rfl)⟩,trivial⟩ AB) ?_
 refine Cx.ef 1 rfl rfl AB (B1 rfl rfl rfl rfl underlying32 Dh Yg PG (Kb rfl) (Kf rfl) (Ax BN (Ka rfl))) ?_
 refine xo rfl (fun _=>Ac rfl Yd (vl rfl)) (Cx.Dv 3 rfl rfl (Fz rfl rfl rfl (vl rfl) rfl AAk Ao) ?_)
 refine Cx.nil ⟨by kernel_rfl,?_⟩
 refine BO.Qa 1 3 25 rfl rfl AB rfl (fun v1=> ?_)
 refine BO.done al6 ?_
 refine ac ?_
 refine Tr.drop 0 (wk [16,15,14,3,2] rfl ?_)
 refine ac ?_
 refine Fin.Ho 2 [Ab v1 (Dm (l.take (k+1))),reqs r,Ab v11 (lens d.length)] rfl ⟨BC au,Lr,Lr,trivial⟩ ?_
 exact Fin.DD (k+1) v1 (⟨Ah,by omega⟩) ⟨⟨_,rfl,AG k⟩,kz⟩ (fun _ _ h=>h)
 have BP:k=(l).length:=by have:=AJ h1;omega
 subst BP
 rw [List.take_length]
 refine ac ?_
 refine ao ?_
 refine TO.AK 3 rfl rfl rfl (vl rfl) (Va rfl) rfl CI rfl rfl ?_
 refine ao ?_
 refine Tr.ret (Fin.drop 0 (Fin.drop 1 (Fin.Ik (Fin.xS v11 [_] rfl (AO.cell 0 rfl rfl Cs CI rfl Lr) ?_ (List.Perm.refl _)))))
 · exact BT ⟨Aq _ _,Lr,E0 _ _,trivial⟩
noncomputable def Vz (c:BR) (l:List BX) (r:List BK) (fr:Int):Option (List Int×List Int×List Int):=Nq c r (l.map (Rb c)) fr l.length (DO l.length r l.length).1
open Classical in
noncomputable def KE (e:Dc) (c:BR) (l:List BX) (r:List BK) (fr:Int):Int:=if KD e c l≠0 then KD e c l else if BH (l.length:Nat) r≠0 then BH (l.length:Nat) r else match Vz c l r fr with|none=>51|some _=>0
noncomputable def ym (c:BR) (l:List BX) (r:List BK) (fr:Int):List Int:=match Vz c l r fr with|none=>[]|some p=>p.1
open Classical in
noncomputable def NL (e:Dc) (c:BR) (l:List BX) (r:List BK) (fr:Int):List BX:=if KE e c l r fr=0 then l else []
open Classical in
noncomputable def QG (e:Dc) (c:BR) (l:List BX) (r:List BK) (fr:Int):List BK:=if KE e c l r fr=0 then r else []
open Classical in
noncomputable def UB (e:Dc) (c:BR) (l:List BX) (r:List BK) (fr:Int):List Int:=if KE e c l r fr=0 then ym c l r fr else []
noncomputable abbrev n_ (e:Dc) (c:BR) (l:List BX) (r:List BK) (fr:Int):List Pr:=[Dm (NL e c l r fr),reqs (QG e c l r fr),ints (UB e c l r fr)]
section
variable {e:Dc} {c:BR} {l:List BX} {r:List BK} {fr:Int}
theorem Te {n:Int} (h:c.check n=0):c.own=0∧(c.Is.length:Int)=n∧∀t∈c.Is,c.has t=true:=by
 have h':=h
 unfold BR.check at h
 split at h
 · cases h
 ·
  split at h
  · cases h
  ·
   split at h
   · cases h
   ·
    split at h
    · cases h
    ·
     split at h
     · cases h
     ·
      split at h
      · cases h
      ·
       rename_i _ _ _ _ _ h6
       rw [not_or,Classical.not_not,Bool.not_eq_true,List.any_eq_false] at h6
       refine ⟨by unfold BR.own;rw [h6.1];exact h',h6.1,fun t ht=>by simpa using h6.2 t ht⟩
theorem Rd (h:EY c l=0):l.length≤24∧∀x∈l,Od c x=false:=by
 unfold EY at h
 by_cases h1:24<l.length
 · rw [if_pos h1] at h;cases h
 ·
  rw [if_neg h1] at h
  refine ⟨by omega,fun x hx=> ?_⟩
  cases hb:Od c x with
  |false=>rfl
  |true=>rw [if_pos (List.any_eq_true.2 ⟨x,hx,hb⟩)] at h;cases h
theorem uL (h:EY c l=0) (ht:∀t∈c.Is,c.has t=true):∀x∈l.map (Rb c),c.has x=true:=fun x hx=>by
 obtain ⟨y,hy,rfl⟩:=List.mem_map.1 hx
 have hb:=(Rd h).2 y hy
 unfold Od at hb
 rw [Bool.or_eq_false_iff,decide_eq_false_iff_not,decide_eq_false_iff_not] at hb
 exact ht _ (List.mem_of_getElem? (wB AA))
theorem Tf (h:KD e c l≠0):KE e c l r fr=KD e c l:=by unfold KE;rw [if_pos h]
theorem wD (h:KD e c l=0) (hv:BH (l.length:Nat) r≠0):KE e c l r fr=BH (l.length:Nat) r:=by unfold KE;rw [if_neg (not_not_intro h),if_pos hv]
theorem oG (h:KD e c l=0) (hv:BH (l.length:Nat) r=0) (hs:Vz c l r fr=none):KE e c l r fr=51:=by unfold KE;rw [if_neg (not_not_intro h),if_neg (not_not_intro hv),hs]
theorem wE {p:List Int×List Int×List Int} (h:KD e c l=0) (hv:BH (l.length:Nat) r=0) (hs:Vz c l r fr=some p):KE e c l r fr=0:=by unfold KE;rw [if_neg (not_not_intro h),if_neg (not_not_intro hv),hs]
theorem oH (h:KE e c l r fr≠0):NL e c l r fr=[]∧QG e c l r fr=[]∧UB e c l r fr=[]:=by unfold NL QG UB;rw [if_neg h,if_neg h,if_neg h];exact ⟨rfl,rfl,rfl⟩
theorem oJ (h:KE e c l r fr=0):NL e c l r fr=l∧QG e c l r fr=r∧UB e c l r fr=ym c l r fr:=by unfold NL QG UB;rw [if_pos h,if_pos h,if_pos h];exact ⟨rfl,rfl,rfl⟩
theorem Re {k:Int} (h:KE e c l r fr=k) (hk:k≠0):Pr.le (agg [is (.slice none 0 0),is (.slice none 0 0),is (.slice none 0 0)]) (agg (n_ e c l r fr)):=by
 obtain ⟨h1,h2,h3⟩:=oH (e:=e) (c:=c) (l:=l) (r:=r) (fr:=fr) (by rw [h];exact hk)
 unfold n_;rw [h1,h2,h3];exact BT ⟨AP 8,AP 2,AP 1,trivial⟩
theorem uM {d b y:List Int} (h:KE e c l r fr=0) (hs:Vz c l r fr=some (d,b,y)):Pr.le (agg [Dm l,reqs r,ints d]) (agg (n_ e c l r fr)):=by
 obtain ⟨h1,h2,h3⟩:=oJ h
 unfold n_;rw [h1,h2,h3];unfold ym;rw [hs];exact Pr.le_refl _
theorem Rf {q:BK} {m:Nat} {d:List Int} {i:Int} (h:r[m]? =some q):Fq (r.take (m+1)) d i fr=if q.thn=i then max (Fq (r.take m) d i fr) (d.getD q.fst.toNat 0+1) else Fq (r.take m) d i fr:=by
 unfold Fq;rw [List.take_add_one,h,List.foldl_append];rfl
theorem Es {l:List Int} {i:Nat} (h:i<l.length):l[i]? =some (l.getD i 0):=by rw [List.getD_eq_getElem?_getD,List.getElem?_eq_getElem h];rfl
end
structure Su where
 code:Int
 x1:Int
 x2:Int
 s1:Int
 s2:Int
 c1:Int
 c2:Int
 m1:Int
 m2:Int
 lo:Int
 hi:Int
abbrev AGI:Pr:=Cp.ex fun l:List UInt8=>str l
abbrev Tg (s:Su):List Pr:=[int s.code,AGI,int s.x1,int s.x2,int s.s1,int s.s2,int s.c1,int s.c2,int s.m1,int s.m2,int s.lo,int s.hi]
def suT:List Su:=[⟨1,10,0,5,0,14,128,19,0,1,2⟩,⟨2,10,0,5,0,14,128,20,0,1,3⟩,⟨3,10,0,5,0,15,168,20,0,1,3⟩,⟨4,11,1024,6,0,15,168,20,0,1,3⟩,⟨5,11,1024,5,0,15,168,20,0,1,3⟩,⟨6,10,0,5,0,16,128,20,0,1,3⟩,⟨7,11,2048,5,0,16,128,20,0,1,3⟩,⟨8,12,256,5,0,16,128,20,0,1,3⟩,⟨9,12,256,7,0,16,256,21,0,3,3⟩,⟨10,12,256,5,0,17,128,22,0,3,3⟩,⟨11,12,384,7,0,17,256,22,0,3,3⟩,⟨12,12,256,5,0,18,0,22,0,3,3⟩,⟨13,10,0,5,0,17,256,22,0,3,3⟩,⟨14,12,256,0,0,17,128,22,0,4,4⟩,⟨15,12,256,0,0,18,0,22,0,4,4⟩,⟨16,13,768,0,0,17,256,22,0,4,4⟩]
abbrev oK:Su:=⟨0,0,0,0,0,0,0,0,0,0,0⟩
def R_ (code:Int):Bool:=decide (1≤code∧code≤16)
def P8 (code:Int):Su:=if R_ code then suT[(code-1).toNat]?.getD oK else oK
theorem yp {code:Int} (h:1≤code∧code≤16):suT[(code-1).toNat]? =some (P8 code):=by
 obtain ⟨x,hx⟩:=at_ (l:=suT) (k:=(code-1).toNat) (by show _<16;omega)
 unfold P8 R_;rw [if_pos (decide_eq_true h),hx];rfl
theorem CJ {a l m x1 y1 x2 y2 x3 y3 x4 y4:Int} {s:List UInt8}  :BD prog 267 [int a,str s,agg [int x1,int y1],agg [int x2,int y2],agg [int x3,int y3],agg [int x4,int y4],int l,int m] (agg (Tg ⟨a,x1,y1,x2,y2,x3,y3,x4,y4,l,m⟩)):=by
 refine BD.of func267 rfl rfl Ao fun M0 w0=> ?_
 refine Tr.seq (Tr.Ap ?_)
 iterate 4 refine tp rfl (Bn rfl (Va rfl)) ?_
 refine Tl rfl rfl rfl rfl SG Hz (fun b1=> ?_)
 refine TO.nil (Fin.go (Tr.seq (Tr.Ap (tm rfl (tm rfl ?_)))))
 iterate 4 refine tp rfl (AQ rfl JE Ky (vl rfl) rfl rfl) ?_
 refine tm rfl (tm rfl (tp rfl (Al (rows:=[(0,[_]),(1,[_]),(2,_),(3,_),(4,_),(5,_),(6,[_]),(7,[_])]) rfl WT Hz ⟨⟨rfl,(Vo rfl)⟩,⟨⟨rfl,(Vo rfl)⟩,⟨⟨rfl,(Va rfl)⟩,⟨⟨rfl,(Va rfl)⟩,⟨⟨rfl,(Va rfl)⟩,⟨⟨rfl,(Va rfl)⟩,⟨⟨rfl,(Vo rfl)⟩,⟨⟨rfl,(Vo rfl)⟩,trivial⟩⟩⟩⟩⟩⟩⟩⟩ rfl) (TO.re 25 (agg (Tg ⟨a,x1,y1,x2,y2,x3,y3,x4,y4,l,m⟩)) rfl (BT ⟨Lr,Aw _ (Lr),Lr,Lr,Lr,Lr,Lr,Lr,Lr,Lr,Lr,Lr,trivial⟩) (TO.AK 0 rfl rfl rfl (vl rfl) (Va rfl) rfl Fo rfl rfl (TO.nil (Fin.go (L2 16 rfl (Tr.ret (Fin.CV rfl (AO.cell 0 rfl rfl Ih Fo rfl (Lr)) ?_)))))))))
 · exact Lr
theorem XM   :BD prog 227 [] (slice 12 (suT.map Tg)):=by
 refine fo func227 rfl ⟨rfl,rfl⟩ fun M0 w0=> ?_
 refine ac ?_
 refine Tr.seq (Tr.Ap (tp rfl (CK (Bj) rfl rfl rfl) (tp rfl (CK (Bj) rfl rfl rfl) (tp rfl (Al (rows:=[]) rfl wv EU trivial rfl) ?_))))
 refine Tl rfl rfl rfl rfl KW EU (fun b1=> ?_)
 refine Tl rfl rfl rfl rfl KW EU (fun b2=> ?_)
 refine Tl rfl rfl rfl rfl KW EU (fun b3=> ?_)
 refine sf 2 1 ⟨rfl,rfl,rfl⟩ rfl rfl rfl rfl ?_
 refine sf 1 2 ⟨rfl,rfl,rfl⟩ rfl rfl rfl rfl ?_
 refine sf 0 3 ⟨rfl,rfl,rfl⟩ rfl rfl rfl rfl ?_
 refine ao ?_
 refine Tr.seq (Tr.Ap (tp rfl (CK (Bj) rfl rfl rfl) (tp rfl (CK (Bj) rfl rfl rfl) ?_)))
 refine Tl rfl rfl rfl rfl KW EU (fun b4=> ?_)
 refine Tl rfl rfl rfl rfl KW EU (fun b5=> ?_)
 refine sf 1 4 ⟨rfl,rfl,rfl⟩ rfl rfl rfl rfl ?_
 refine sf 0 5 ⟨rfl,rfl,rfl⟩ rfl rfl rfl rfl ?_
 refine ao ?_
 refine wk [5,4,3,2,1] rfl (Tr.seq (Tr.Ap (tp rfl (CK (Bj) rfl rfl rfl) (tp rfl (CK (Bj) rfl rfl rfl) (tp rfl (CK (Bj) rfl rfl rfl) ?_)))))
 refine Tl rfl rfl rfl rfl KW EU (fun b6=> ?_)
 refine Tl rfl rfl rfl rfl KW EU (fun b7=> ?_)
 refine Tl rfl rfl rfl rfl KW EU (fun b8=> ?_)
 refine sf 2 6 ⟨rfl,rfl,rfl⟩ rfl rfl rfl rfl ?_
 refine sf 1 7 ⟨rfl,rfl,rfl⟩ rfl rfl rfl rfl ?_
 refine sf 0 8 ⟨rfl,rfl,rfl⟩ rfl rfl rfl rfl ?_
 refine ao ?_
 refine wk [8,7,6,5,4,3,2,1] rfl (Tr.seq (Tr.Ap ?_))
 iterate 4 refine tp rfl (CK (Bj) rfl rfl rfl) ?_
 refine Tl rfl rfl rfl rfl KW EU (fun b9=> ?_)
 refine Tl rfl rfl rfl rfl KW EU (fun b10=> ?_)
 refine Tl rfl rfl rfl rfl KW EU (fun b11=> ?_)
 refine Tl rfl rfl rfl rfl KW EU (fun b12=> ?_)
 refine sf 3 9 ⟨rfl,rfl,rfl⟩ rfl rfl rfl rfl ?_
 refine sf 2 10 ⟨rfl,rfl,rfl⟩ rfl rfl rfl rfl ?_
 refine sf 1 11 ⟨rfl,rfl,rfl⟩ rfl rfl rfl rfl ?_
 refine sf 0 12 ⟨rfl,rfl,rfl⟩ rfl rfl rfl rfl ?_
 refine ao ?_
 refine wk [12,11,10,9,8,7,6,5,4,3,2,1] rfl (Tr.seq (Tr.Ap (tp rfl (CK (Bj) rfl rfl rfl) (tp rfl (CK (Bj) rfl rfl rfl) ?_))))
 refine Tl rfl rfl rfl rfl KW EU (fun b13=> ?_)
 refine Tl rfl rfl rfl rfl KW EU (fun b14=> ?_)
 refine sf 1 13 ⟨rfl,rfl,rfl⟩ rfl rfl rfl rfl ?_
 refine sf 0 14 ⟨rfl,rfl,rfl⟩ rfl rfl rfl rfl ?_
 refine ao ?_
 refine wk [14,13,12,11,10,9,8,7,6,5,4,3,2,1] rfl ?_
 refine ac ?_
 refine co rfl (AV rfl (CJ) ⟨kq,kz⟩) ?_
 refine ac ?_
 refine co rfl (AV rfl (CJ) ⟨kq,kz⟩) ?_
 refine ac ?_
 refine co rfl (AV rfl (CJ) ⟨kq,kz⟩) (co rfl (CK (Bj) rfl rfl rfl) (co rfl (CK (Bj) rfl rfl rfl) ?_))
 refine ac ?_
 refine co rfl (AV rfl (CJ) ⟨kq,kz⟩) (co rfl (CK (Bj) rfl rfl rfl) ?_)
 refine ac ?_
 refine co rfl (AV rfl (CJ) ⟨kq,kz⟩) ?_
 refine ac ?_
 refine co rfl (AV rfl (CJ) ⟨kq,kz⟩) (co rfl (CK (Bj) rfl rfl rfl) ?_)
 refine ac ?_
 refine co rfl (AV rfl (CJ) ⟨kq,kz⟩) ?_
 refine ac ?_
 refine co rfl (AV rfl (CJ) ⟨kq,kz⟩) (co rfl (AQ rfl JE Ky vq rfl rfl) (co rfl (CK (Bj) rfl rfl rfl) (co rfl (CK (Bj) rfl rfl rfl) (co rfl (AQ rfl JE Ky vq rfl rfl) (co rfl (AV rfl (CJ) ⟨kq,kz⟩) ?_)))))
 refine ac ?_
 refine co rfl (AV rfl (CJ) ⟨kq,kz⟩) (co rfl (CK (Bj) rfl rfl rfl) (co rfl (CK (Bj) rfl rfl rfl) ?_))
 refine ac ?_
 refine co rfl (AV rfl (CJ) ⟨kq,kz⟩) ?_
 refine ac ?_
 refine co rfl (AV rfl (CJ) ⟨kq,kz⟩) ?_
 refine ac ?_
 refine co rfl (AV rfl (CJ) ⟨kq,kz⟩) ?_
 refine ac ?_
 refine co rfl (AV rfl (CJ) ⟨kq,kz⟩) ?_
 refine ac ?_
 refine co rfl (AV rfl (CJ) ⟨kq,kz⟩) (co rfl (CK (Bj) rfl rfl rfl) ?_)
 refine ac ?_
 refine co rfl (AV rfl (CJ) ⟨kq,kz⟩) (co rfl (AM (xs:=[.tmp 33,.tmp 38,.tmp 43,.tmp 48,.tmp 53,.tmp 58,.tmp 63,.tmp 68,.tmp 73,.tmp 78,.tmp 83,.tmp 88,.tmp 93,.tmp 98,.tmp 103,.tmp 108]) (rows:=(suT.map Tg)) rfl rfl underlying287 Fo SG rfl AB ⟨⟨Am,VL.le vq (Ad _)⟩,⟨⟨Am,VL.le vq (Ad _)⟩,⟨⟨Am,VL.le vq (Ad _)⟩,⟨⟨Am,VL.le vq (Ad _)⟩,⟨⟨Am,VL.le vq (Ad _)⟩,⟨⟨Am,VL.le vq (Ad _)⟩,⟨⟨Am,VL.le vq (Ad _)⟩,⟨⟨Am,VL.le vq (Ad _)⟩,⟨⟨Am,VL.le vq (Ad _)⟩,⟨⟨Am,VL.le vq (Ad _)⟩,⟨⟨Am,VL.le vq (Ad _)⟩,⟨⟨Am,VL.le vq (Ad _)⟩,⟨⟨Am,VL.le vq (Ad _)⟩,⟨⟨Am,VL.le vq (Ad _)⟩,⟨⟨Am,VL.le vq (Ad _)⟩,⟨⟨Am,VL.le vq (Ad _)⟩,trivial⟩⟩⟩⟩⟩⟩⟩⟩⟩⟩⟩⟩⟩⟩⟩⟩ AB) ?_)
 refine ac ?_
 refine wk [0] rfl ?_
 refine ac ?_
 · exact B0 _ _
theorem Lv {code:Int}  :BD prog 192 [int code] (EA [agg (Tg (P8 code)),int (if R_ code then 0 else 8)]):=by
 refine fo func192 rfl ⟨rfl,rfl⟩ fun M0 w0=>(Tr.seq (Tr.Ap ?_))
 refine Tl rfl rfl rfl rfl SG Hz (fun b1=> ?_)
 refine ap ?_
 refine ag ?_ ?_<;>intro h1 q1
 refine ac ?_
 refine Tr.cond rfl (fun _=> ?_) (fun h=>nomatch h)
 refine Tr.seq (Tr.Ap (tp rfl (Al (rows:=[]) rfl WT Hz trivial rfl) (TO.AK 0 rfl rfl rfl vq C1 rfl Fo rfl rfl (tm rfl (TO.nil (Fin.go (Tr.ret (Fin.AE (Fin.Ba rfl (AO.cell 0 rfl rfl Ih Fo rfl Lr) (AO.tmp rfl Lr) ?_)))))))))
 · exact jF
 refine an ?_ ?_<;>intro h2 q2
 refine ap ?_
 refine Tr.ret (Fin.AE (Fin.Ba rfl (AO.cell 0 rfl rfl Ih Fo rfl Lr) (AO.tmp rfl Lr) ?_))
 · exact jF
 have hin:1≤code∧code≤16:=by omega
 refine ac ?_
 refine Tr.seq (Tr.Ap (tp rfl (kc0 (XM) rfl) ?_))
 refine ap ?_
 refine tp rfl (AD rfl underlying287 Fo vq vq AA (Bc (f:=Tg) (yp AA))) ?_
 refine ap ?_
 refine wk [3,2] rfl (Tr.ret (Fin.Ba rfl (AO.cell 0 rfl rfl Ih Fo rfl Lr) (AO.tmp rfl Lr) ?_))
 · exact A_ ⟨Lr,int_eq (by unfold R_;rw [if_pos (decide_eq_true hin)]),trivial⟩
abbrev anyI:Pr:=Cp.ex fun n:Int=>int n
theorem gQ:∀r∈H6,∀x∈r.sizes,0≤x∧x≤40000:=by decide+kernel
theorem XN {a b k:Int} (h:K7 a b k=true):(0≤a∧a≤40000)∧(0≤b∧b≤40000):=by
 have h1:=(Yx h).1
 rw [decide_eq_true_eq] at h1
 unfold Dj at h1
 split at h1
 next ha=>
  refine ⟨by omega,?_⟩
  split at h1
  · split at h1<;>omega
  ·
   split at h1
   · split at h1<;>omega
   ·
    split at h1
    ·
     split at h1
     next hc=>
      obtain ⟨x,hx,hb⟩:=List.any_eq_true.1 hc
      simp only [aA,List.mem_cons,List.not_mem_nil,or_false] at hx
      have:b=x:=by simpa using hb
      omega
     · omega
    ·
     split at h1
     ·
      split at h1
      next hc=>
       have hn:(Ek a).sizes.any (fun x=>b==x)=true:=by
        cases he:(Ek a).sizes.any (fun x=>b==x) with
        |true=>rfl
        |false=>
         have:=PJ (fun x=>b==x) (Ek a).sizes
         rw [he] at this;simp at this;omega
       obtain ⟨x,hx,hb⟩:=List.any_eq_true.1 hn
       have:b=x:=by simpa using hb
       subst this
       exact gQ _ (e7 ha) _ hx
      · omega
     · omega
 · omega
theorem uN {c:ID} (hv:D6 c=true):c.Yy:=by
 have h:=JA hv
 have h1:=XN h.key
 have h2:=XN h.hash
 exact ⟨h.s1,h.k1,h1.1,h1.2,h2.1,h2.2⟩
section
variable {P:Program} {I:Cd} {E:Env} {o:Oper}
theorem I3 {t:TypeId} {x:Operand} (ho:o.op= .unOp .not t x) (hx:VL E x EJ):Ae P I o E EJ:=
 Ae.same fun M w a he _=>by
  obtain ⟨b,h1⟩:=hx.ev he Ar
  have h1:a.eval x= .bool b:=h1
  exact ⟨.bool (!b),by simp [execOp,ho,h1,Op.unary],_,rfl⟩
theorem yq {t u:TypeId} {x y:Operand} (ho:o.op= .binOp .neq t x y u) (hx:VL E x (GW .i64)) (hy:VL E y (GW .i64)):Ae P I o E EJ:=
 Ae.same fun M w a he _=>by
  obtain ⟨m,h1⟩:=hx.ev he Ar
  obtain ⟨n,h2⟩:=hy.ev he Ar
  have h1:a.eval x= .int .i64 m:=h1
  have h2:a.eval y= .int .i64 n:=h2
  exact ⟨.bool (m !=n),by simp [execOp,ho,h1,h2,eqGuard,binOp,Op.intCmp],_,rfl⟩
theorem oQ {t u:TypeId} {x y:Operand} (ho:o.op= .binOp .eql t x y u) (hx:VL E x (GW .i64)) (hy:VL E y (GW .i64)):Ae P I o E EJ:=
 Ae.same fun M w a he _=>by
  obtain ⟨m,h1⟩:=hx.ev he Ar
  obtain ⟨n,h2⟩:=hy.ev he Ar
  have h1:a.eval x= .int .i64 m:=h1
  have h2:a.eval y= .int .i64 n:=h2
  exact ⟨.bool (m==n),by simp [execOp,ho,h1,h2,eqGuard,binOp,Op.intCmp],_,rfl⟩
end
theorem Zi:Pr.le anyI (GW .i64):=fun _ _ _ h=>h
theorem uO:Pr.le (GW .i64) anyI:=fun _ _ _ h=>h
theorem yt:Pr.le xg (GW .i64):=fun _ _ _ ⟨n,_,h⟩=>⟨n,h⟩
theorem Zj {c:ID}  :BD prog 189 [agg (EL c)] (EA [Em 3285282,GW .i64]):=by
 refine fo func189 rfl ⟨rfl,rfl⟩ fun M0 w0=> ?_
 refine a2 ?_
 refine co rfl (Cn (Lf (c:=c)) rfl rfl) ?_
 refine an ?_ ?_<;>intro h1 q1
 refine ac ?_
 refine Tr.ret (Fin.AE (Fin.Dp rfl (Br.Dz _ _) rfl ?_ rfl ?_))
 · exact O0
 · exact DA _ _
 have hv:D6 c=true:=by cases hb:D6 c with|true=>rfl|false=>exact absurd h1 (by rw [hb];decide)
 refine a2 ?_
 refine co rfl (Cn (Wm hv (uN hv)) rfl rfl) (co rfl (Cn (rE2) rfl rfl) ?_)
 refine ac ?_
 refine Tr.ret (Fin.Dp rfl (Br.Dz _ _) rfl ?_ rfl ?_)
 · exact Lr
 · exact Lr
theorem Rh {c:ID} {key:Int}  :BD prog 344 [agg (EL c),int key] (EJ):=by
 refine fo func344 rfl ⟨rfl,rfl⟩ fun M0 w0=> ?_
 refine a2 ?_
 refine co rfl (Cn (Zj (c:=c)) rfl rfl) ?_
 refine ac ?_
 refine Tr.seq (Tr.re 6 rfl uO (Tr.ex 6 rfl fun e6=> ?_))
 · repeat' first|exact Lr|exact Aw _ Lr|refine cy h rfl (Cn (BD.Em fun m hm=>cC AA) rfl rfl) (cy h rfl (oQ rfl (VL.le vq (DA _ _)) (VL.le vq yt)) ?_)|refine ac ?_|(refine Ch.cg rfl rfl rfl ?_ ?_<;>intro h q)
theorem oV {l:List (List UInt8)} {s:List UInt8}  :BD prog 342 [sK l,str s] (EJ):=by
 refine fo func342 rfl ⟨rfl,rfl⟩ fun M0 w0=>(Tr.C6 0 rfl fun Eu=> ?_)
 refine a2 ?_
 refine Tr.block (Tr.BA _ (kk [1,0] rfl) (fun k:Nat=>[(5,int ((k:Nat):Int))]) (fun k:Nat=>k≤(l).length) (fun k:Nat=>(l).length-k) 0 (Nat.zero_le _) kz ?_)
 rintro k BV
 refine an ?_ ?_<;>intro h1 q1
 have Ah:k<(l).length:=AH h1
 obtain ⟨x,Ai⟩:=at_ Ah
 · repeat' first|exact Aw _ Lr|exact Fin.AL (k+1) ⟨Ah,by omega⟩ ⟨⟨_,rfl,AG k⟩,kz⟩|refine co rfl (AD rfl underlying127 NT vq vq AA CF) ?_|refine ac ?_|(refine Tr.cn rfl ?_ ?_<;>intro h q)
 have BP:k=(l).length:=by have:=AJ h1;omega
 refine a3 ?_
 · exact BJ
theorem oW {l:List ID} {a:Int}  :BD prog 343 [OL l,int a] (EJ):=by
 refine fo func343 rfl ⟨rfl,rfl⟩ fun M0 w0=>(Tr.C6 0 rfl fun Eu=> ?_)
 refine ac ?_
 refine ag ?_ ?_<;>intro h1 q1
 refine a3 ?_
 · exact BJ
 refine an ?_ ?_<;>intro h2 q2
 refine a2 ?_
 · exact BJ
 refine ac ?_
 refine ag ?_ ?_<;>intro h3 q3
 refine ac ?_
 refine wk [4] rfl ?_
 refine ac ?_
 · exact BJ
 refine ac ?_
 refine cy h3 rfl (AD rfl underlying82 Di vq vq AA (Bc (List.getElem?_eq_getElem (show Int.toNat a<l.length by omega)))) ?_
 refine ag ?_ ?_<;>intro h4 q4
 refine ac ?_
 refine cy h4 rfl (AD rfl underlying82 Di vq vq AA (Bc (List.getElem?_eq_getElem (show Int.toNat a<l.length by omega)))) ?_
 refine ac ?_
 refine wk [4] rfl ?_
 refine ac ?_
 · exact BJ
 refine ac ?_
 refine wk [4] rfl ?_
 refine ac ?_
 · exact BJ
theorem gR {e:Int} {l:List ID} {i:Int} {an ha:List Int} {day:Int} {nm:List UInt8} (hi:0≤i∧i<(l.length:Nat)):BD prog 339 [int e,OL l,int i,ints an,ints ha,int day,str nm] (EJ):=by
 refine fo func339 rfl ⟨rfl,rfl⟩ fun M0 w0=>(Tr.C6 1 rfl fun G2=> ?_)
 obtain ⟨c,hc⟩:=at_ (l:=l) (k:=i.toNat) AA
 refine ac ?_
 refine ao ?_
 refine tp rfl (AD rfl underlying82 Di (vl rfl) (vl rfl) AA (Bc hc)) ?_
 refine ao ?_
 refine Tl rfl rfl rfl rfl Uj OD (fun b1=> ?_)
 refine sf 0 15 ⟨rfl,rfl,rfl⟩ rfl rfl rfl rfl ?_
 refine ao ?_
 refine wk9 0 1 2 3 4 5 6 15 16 rfl ?_
 refine ac ?_
 refine ac ?_
 refine Tr.cn rfl ?_ ?_<;>intro h1 q1
 refine ac ?_
 refine co rfl (Cn (Lf (c:=c)) rfl rfl) ?_
 refine ac ?_
 refine L2 14 rfl ?_
 refine ac ?_
 · exact C0
 refine ac ?_
 refine Of 1 2 3 4 5 6 15 16 26 32 rfl ?_
 refine Tr.cn rfl ?_ ?_<;>intro h2 q2
 refine ac ?_
 refine Ch.cs 36 rfl ?_ ?_<;>intro h3 q3
 refine ac ?_
 refine cy h3 rfl (CK (oV) rfl rfl rfl) (cy h3 rfl (I3 rfl (vl rfl)) ?_)
 refine ac ?_
 refine L2 14 rfl ?_
 refine ac ?_
 · exact Lr
 refine ac ?_
 refine L2 14 rfl ?_
 refine ac ?_
 · exact C0
 refine ac ?_
 refine Tr.cn rfl ?_ ?_<;>intro h4 q4
 refine ac ?_
 refine Ch.cs 49 rfl ?_ ?_<;>intro h5 q5
 refine ac ?_
 refine L2 14 rfl ?_
 refine ac ?_
 · exact C0
 refine ac ?_
 refine L2 14 rfl ?_
 refine ac ?_
 · exact C0
 refine ac ?_
 refine wk8 1 2 3 4 15 16 26 55 rfl ?_
 refine Tr.cn rfl ?_ ?_<;>intro h6 q6
 refine ac ?_
 refine co rfl (CK (J1) rfl rfl rfl) ?_
 refine ac ?_
 refine L2 14 rfl ?_
 refine ac ?_
 · exact C0
 refine ac ?_
 refine Tr.cn rfl ?_ ?_<;>intro h7 q7
 refine ac ?_
 refine Ch.cs 67 rfl ?_ ?_<;>intro h8 q8
 refine ac ?_
 refine cy h8 rfl (AD rfl underlying82 Di (vl rfl) (vl rfl) AA (Bc (List.getElem?_eq_getElem (show Int.toNat (i+1)<l.length by omega)))) ?_
 refine ac ?_
 refine L2 14 rfl ?_
 refine ac ?_
 · exact C0
 refine ac ?_
 refine L2 14 rfl ?_
 refine ac ?_
 · exact C0
 refine ac ?_
 refine Tr.cn rfl ?_ ?_<;>intro h9 q9
 refine ac ?_
 refine co rfl (CK (oW) rfl rfl rfl) (co rfl (I3 rfl (vl rfl)) ?_)
 refine ac ?_
 refine L2 14 rfl ?_
 refine ac ?_
 · exact Lr
 refine ac ?_
 refine wk6 1 2 3 15 16 84 rfl ?_
 refine Tr.cn rfl ?_ ?_<;>intro h10 Q4
 refine ac ?_
 refine Tr.cn rfl ?_ ?_<;>intro h11 SK
 refine ac ?_
 refine co rfl (CK (Rh) rfl rfl rfl) (co rfl (I3 rfl (vl rfl)) ?_)
 refine ac ?_
 refine L2 14 rfl ?_
 refine ac ?_
 · exact Lr
 refine ac ?_
 refine ac ?_
 refine co rfl (AD rfl underlying82 Di (vl rfl) (vl rfl) AA (Bc (List.getElem?_eq_getElem (show Int.toNat (i+1)<l.length by omega)))) ?_
 refine ac ?_
 refine co rfl (CK (Rh) rfl rfl rfl) (co rfl (I3 rfl (vl rfl)) ?_)
 refine ac ?_
 refine L2 14 rfl ?_
 refine ac ?_
 · exact Lr
 refine ac ?_
 refine ac ?_
 refine Ch.cs 103 rfl ?_ ?_<;>intro h12 Vt
 refine ac ?_
 refine cy h12 rfl (CK (J1) rfl rfl rfl) ?_
 refine ac ?_
 refine L2 14 rfl ?_
 refine ac ?_
 · exact C0
 refine ac ?_
 refine L2 14 rfl ?_
 refine ac ?_
 · exact C0
abbrev XO:List Int:=[9,14,13,7,11,15,10,12]
theorem gS {l:List ID} {an ha:List Int} {day:Int} {nm:List UInt8}  :BD prog 332 [OL l,ints an,ints ha,int day,str nm] (anyI):=by
 refine fo func332 rfl ⟨rfl,rfl⟩ fun M0 w0=>(Tr.C6 0 rfl fun Eu=> ?_)
 refine ac ?_
 refine ac ?_
 refine Tr.cn rfl ?_ ?_<;>intro h1 q1
 refine ac ?_
 refine ac ?_
 · exact C0
 refine ac ?_
 refine ac ?_
 refine Tr.cn rfl ?_ ?_<;>intro h2 q2
 refine ac ?_
 refine ac ?_
 · exact C0
 refine ac ?_
 refine Tr.seq (Tr.Aj (co rfl (AM (xs:=[.const (.int .i64 (9)),.const (.int .i64 (14)),.const (.int .i64 (13)),.const (.int .i64 (7)),.const (.int .i64 (11)),.const (.int .i64 (15)),.const (.int .i64 (10)),.const (.int .i64 (12))]) (rows:=(XO.map fun n=>[int n])) rfl rfl underlying389 wm z43 rfl AB ⟨⟨Am,VL.le (vl rfl) (Af _)⟩,⟨⟨Am,VL.le (vl rfl) (Af _)⟩,⟨⟨Am,VL.le (vl rfl) (Af _)⟩,⟨⟨Am,VL.le (vl rfl) (Af _)⟩,⟨⟨Am,VL.le (vl rfl) (Af _)⟩,⟨⟨Am,VL.le (vl rfl) (Af _)⟩,⟨⟨Am,VL.le (vl rfl) (Af _)⟩,⟨⟨Am,VL.le (vl rfl) (Af _)⟩,trivial⟩⟩⟩⟩⟩⟩⟩⟩ AB) ?_))
 refine ac ?_
 refine ac ?_
 refine Tr.block (Tr.BA [(0,_),(1,_),(2,_),(3,_),(4,_),(11,_)] (kk6 rfl) (fun m:Nat=>[(12,int ((m:Nat):Int))]) (fun m:Nat=>m≤(XO).length) (fun m:Nat=>(XO).length-m) 0 (Nat.zero_le _) ⟨ke rfl,trivial⟩ ?_)
 rintro m LC
 refine ac ?_
 refine co rfl (CH rfl underlying389 (Kf rfl)) ?_
 refine ac ?_
 refine Tr.cn rfl ?_ ?_<;>intro h3 q3
 have D7:m<(XO).length:=AH h3
 obtain ⟨x,D_⟩:=at_ D7
 have hm8:m<8:=D7
 refine ac ?_
 refine ac ?_
 refine Tr.block (Tr.BA [(0,_),(1,_),(2,_),(3,_),(4,_),(11,_),(12,_)] (kk7 rfl) (fun k:Nat=>[(13,int ((k:Nat):Int))]) (fun k:Nat=>k≤(l).length) (fun k:Nat=>(l).length-k) 0 (Nat.zero_le _) ⟨ke rfl,trivial⟩ ?_)
 rintro k BV
 refine ac ?_
 refine Tr.cn rfl ?_ ?_<;>intro h4 q4
 have Ah:k<(l).length:=AH h4
 obtain ⟨c,Ai⟩:=at_ Ah
 refine ac ?_
 refine ac ?_
 refine co rfl (AD rfl underlying389 wm (Kf rfl) (vl rfl) AA (Aa D_)) ?_
 refine ac ?_
 refine co rfl (AV rfl (gR (e:=x) AA) ⟨ke rfl,ke rfl,ke rfl,ke rfl,ke rfl,ke rfl,ke rfl,trivial⟩) ?_
 refine ac ?_
 refine wk9 0 1 2 3 4 11 12 13 43 rfl (Tr.ex 43 rfl fun AHZ=> ?_)
 refine Tr.cn rfl ?_ ?_<;>intro h5 q5
 refine ac ?_
 refine co rfl (AD rfl underlying389 wm (Kf rfl) (vl rfl) AA (Aa D_)) ?_
 refine ac ?_
 refine L2 10 rfl ?_
 refine ac ?_
 · exact C0
 refine ac ?_
 refine ac ?_
 exact Fin.AL (k+1) ⟨Ah,by omega⟩ ⟨⟨_,rfl,AG k⟩,ke rfl,ke rfl,ke rfl,ke rfl,ke rfl,ke rfl,ke rfl,trivial⟩
 have BP:k=(l).length:=by have:=AJ h4;omega
 refine ac ?_
 refine ac ?_
 exact Fin.AL (m+1) ⟨D7,by omega⟩ ⟨⟨_,rfl,AG m⟩,ke rfl,ke rfl,ke rfl,ke rfl,ke rfl,ke rfl,trivial⟩
 have Ip:m=(XO).length:=by have:=AJ h3;omega
 refine ac ?_
 refine ac ?_
 refine ac ?_
 · exact C0
def Vv (s:Su) (x:JV):Bool:=decide (s.s1=0)||decide (x.CA=s.s1)
def Ri (ids:List JV) (code:Int):Int:=if R_ code then idx (Vv (P8 code)) ids else -1
def LG (sv:B_) (offer:List Int) (v code:Int):Bool:=R_ code&&(offer.any fun x=>code==x)&&(sv.Az.any fun x=>code==x)&&decide ((P8 code).lo≤v)&&decide (v≤(P8 code).hi)&&decide (0≤Ri sv.ids code)
theorem Hh {e:B_} {code:Int} (hl:e.ids.length≤1000000):BD prog 319 [agg (Bk e),int code] (EA [int (Ri e.ids code),bool (decide (0≤Ri e.ids code))]):=by
 refine fo func319 rfl ⟨rfl,rfl⟩ fun M0 w0=> ?_
 refine ac ?_
 refine ao ?_
 refine tp rfl (Cn (Lv (code:=code)) rfl rfl) ?_
 refine ao ?_
 refine Tl rfl rfl rfl rfl SG Hz (fun b1=> ?_)
 refine sf 0 6 ⟨rfl,rfl,rfl⟩ rfl rfl rfl rfl ?_
 refine ao ?_
 refine ac ?_
 refine wk [15,6,2] rfl ?_
 refine Tr.cn rfl ?_ ?_<;>intro h1 q1
 have hK:Ri e.ids code= -1:=by unfold Ri;exact if_neg (fun h_=>by rw [if_pos h_] at h1;exact absurd h1 AB)
 refine ac ?_
 refine Tr.ret (Fin.AE (Fin.Dp rfl (Br.Dz _ _) rfl ?_ rfl ?_))
 · refine int_eq ?_;exact hK.symm
 · refine bool_eq ?_;rw [hK];rfl
 have hs:R_ code=true:=by cases h_:R_ code with|true=>rfl|false=>exact absurd h1 L_
 have hK:Ri e.ids code=idx (Vv (P8 code)) e.ids:=by unfold Ri;exact if_pos hs
 refine a2 ?_
 refine Tr.block (Tr.BA _ (kk [6,2] rfl) (fun k:Nat=>[(8,int ((k:Nat):Int))]) (fun k:Nat=>k≤(e.ids).length∧(∀j y,j<k→e.ids[j]? =some y→Vv (P8 code) y=false)) (fun k:Nat=>(e.ids).length-k) 0 (⟨Nat.zero_le _,fun j y hj=>absurd hj AA⟩) kz ?_)
 rintro k ⟨BV,AY⟩
 refine an ?_ ?_<;>intro h2 q2
 have Ah:k<(e.ids).length:=AH h2
 obtain ⟨x,Ai⟩:=at_ Ah
 refine ac ?_
 refine ag ?_ ?_<;>intro h3 q3
 refine ac ?_
 refine wk [39,8,6,2] rfl ?_
 refine ac ?_
 refine Tr.ret (Fin.AR (Fin.AE (Fin.AE (Fin.AR (Fin.AE (Fin.Dp rfl (Br.Dz _ _) rfl ?_ rfl ?_))))))
 · exact aW
 · exact jV
 refine ac ?_
 refine cy h3 rfl (AD rfl underlying38 Fc vq vq AA (Aa Ai)) ?_
 refine ac ?_
 refine wk [39,8,6,2] rfl ?_
 refine Tr.cn rfl ?_ ?_<;>intro h4 q4
 refine ac ?_
 refine Tr.ret (Fin.AR (Fin.AE (Fin.AE (Fin.AR (Fin.AE (Fin.Dp rfl (Br.Dz _ _) rfl ?_ rfl ?_))))))
 · exact aW
 · exact jV
 refine a2 ?_
 exact Fin.AL (k+1) ⟨⟨Ah,DP (p:=Vv (P8 code)) Ai qR AY⟩,by omega⟩ ⟨⟨_,rfl,AG k⟩,kz⟩
 have BP:k=(e.ids).length:=by have:=AJ h2;omega
 subst BP
 refine a2 ?_
 refine Tr.ret (Fin.Dp rfl (Br.Dz _ _) rfl ?_ rfl ?_)
 · refine int_eq ?_;rw [hK];exact E5 AY
 · refine bool_eq ?_;rw [hK,←E5 AY];rfl
theorem dR {ids:List JV} {code:Int} (h:0≤Ri ids code):∃x,ids[(Ri ids code).toNat]? =some x:=by
 unfold Ri at h ⊢
 split at h
 ·
  rename_i hs
  rw [if_pos hs]
  unfold idx at h ⊢
  cases hf:ids.findIdx? (Vv (P8 code)) with
  |none=>rw [hf] at h;simp at h
  |some i=>
   obtain ⟨hi,_⟩:=List.findIdx?_eq_some_iff_getElem.1 hf
   exact ⟨ids[i],by simp [hi]⟩
 · omega
theorem oX {e:B_} {of:List Int} {v code:Int} (h:LG e of v code=true):0≤Ri e.ids code:=by
 unfold LG at h
 rw [Bool.and_eq_true,decide_eq_true_eq] at h
 exact h.2
theorem LH {e:B_} {of:List Int} {v code:Int} (hl:e.ids.length≤1000000):BD prog 323 [agg (Bk e),ints of,int v,int code] (bool (LG e of v code)):=by
 refine fo func323 rfl ⟨rfl,rfl⟩ fun M0 w0=> ?_
 refine ac ?_
 refine ao ?_
 refine tp rfl (Cn (Lv (code:=code)) rfl rfl) ?_
 refine ao ?_
 refine Tl rfl rfl rfl rfl SG Hz (fun b1=> ?_)
 refine sf 0 9 ⟨rfl,rfl,rfl⟩ rfl rfl rfl rfl ?_
 refine ao ?_
 refine ac ?_
 refine Ch.cs 20 rfl ?_ ?_<;>intro h1 q1
 refine ac ?_
 refine GM 3 4 44 rfl ?_
 refine ac ?_
 refine ac ?_
 · refine bool_eq ?_;unfold LG;simp_all
 refine ac ?_
 refine cy h1 rfl (CK (J1) rfl rfl rfl) ?_
 refine ac ?_
 refine Ch.cs 26 rfl ?_ ?_<;>intro h2 q2
 refine ac ?_
 refine GM 3 4 44 rfl ?_
 refine ac ?_
 refine ac ?_
 · refine bool_eq ?_;unfold LG;simp_all;intros;exfalso;exact q2 _ Bg rfl
 refine ac ?_
 refine cy h2 rfl (CK (J1) rfl rfl rfl) ?_
 refine ac ?_
 refine Ch.cs 33 rfl ?_ ?_<;>intro h3 q3
 refine ac ?_
 refine GM 3 4 44 rfl ?_
 refine ac ?_
 refine ac ?_
 · refine bool_eq ?_;unfold LG;simp_all;intros;exfalso;exact q3 _ Bg rfl
 refine ac ?_
 refine Ch.cs 39 rfl ?_ ?_<;>intro h4 q4
 refine ac ?_
 refine GM 3 4 44 rfl ?_
 refine ac ?_
 refine ac ?_
 · refine bool_eq ?_;unfold LG;simp_all;intros;omega
 refine ac ?_
 refine GM 3 4 44 rfl ?_
 refine Tr.cn rfl ?_ ?_<;>intro h5 q5
 refine ac ?_
 refine ac ?_
 · refine bool_eq ?_;unfold LG;simp_all;intros;omega
 refine ac ?_
 refine ac ?_
 refine co rfl (CK (Hh (e:=e) (code:=code) hl) rfl rfl rfl) ?_
 refine ac ?_
 refine ac ?_
 refine ac ?_
 · refine bool_eq ?_;unfold LG;simp_all
theorem gT {c e:B_} {day most:Int} {su:List Int} (hc:c.small) (he:e.small):BD prog 317 [agg (Bk c),agg (Bk e),int day,int most,ints su] (Cp.ex fun z:Int×Int×Int=>fact True (EA [agg [int z.1,int z.2.1],int z.2.2])):=by
 refine fo func317 rfl ⟨rfl,rfl⟩ fun M0 w0=>(Tr.C6 4 rfl fun AHA=> ?_)
 obtain ⟨od,hod⟩:∃od,(if e.own=true then e.Az else su)=od:=⟨_,rfl⟩
 have hsu:=he.Az
 have i6:od.length≤9223372036854775807:=by rw [←hod];split<;>omega
 refine Tr.seq (Tr.Ap (tp rfl (Bn rfl C1) (tp rfl (Bn rfl C1) ?_)))
 refine Tl rfl rfl rfl rfl JS Fe (fun b1=> ?_)
 refine ap ?_
 refine ac ?_
 refine co rfl (Cn (FK hc) rfl rfl) ?_
 refine ag ?_ ?_<;>intro h1 q1
 refine ac ?_
 refine Tr.cond rfl (fun _=> ?_) (fun h=>nomatch h)
 refine Tr.seq (Tr.Ap (tp rfl (Al (rows:=[]) rfl S3 Fe trivial rfl) (TO.AK 0 rfl rfl rfl vq C1 rfl CB rfl rfl (tm rfl (TO.nil (Fin.go (wk [11,10] rfl (Tr.ret (Fin.AE (Fin.Ba rfl (AO.cell 0 rfl rfl Ct CB rfl Lr) (AO.tmp rfl Lr) ?_))))))))))
 · exact Eb
 refine cy h1 rfl (AQ rfl Cy CL vq rfl rfl) (cy h1 rfl (Cn (FK he) rfl rfl) ?_)
 refine an ?_ ?_<;>intro h2 q2
 refine ap ?_
 refine wk [11,10] rfl (Tr.ret (Fin.AE (Fin.Ba rfl (AO.cell 0 rfl rfl Ct CB rfl Lr) (AO.tmp rfl Lr) ?_)))
 · exact Eb
 refine ac ?_
 refine ag ?_ ?_<;>intro h3 q3
 refine ac ?_
 refine wk [39,10,6,5,4,3,2] rfl (Tr.cond rfl (fun _=> ?_) (fun h=>nomatch h))
 refine Tr.seq (Tr.Ap (tp rfl (Al (rows:=[]) rfl S3 Fe trivial rfl) (TO.AK 0 rfl rfl rfl vq C1 rfl CB rfl rfl (tm rfl (TO.nil (Fin.go (Tr.ret (Fin.AE (Fin.Ba rfl (AO.cell 0 rfl rfl Ct CB rfl Lr) (AO.tmp rfl Lr) ?_)))))))))
 · exact Eb
 refine ag ?_ ?_<;>intro h4 q4
 refine ac ?_
 refine wk [39,10,6,5,4,3,2] rfl (Tr.cond rfl (fun _=> ?_) (fun h=>nomatch h))
 refine Tr.seq (Tr.Ap (tp rfl (Al (rows:=[]) rfl S3 Fe trivial rfl) (TO.AK 0 rfl rfl rfl vq C1 rfl CB rfl rfl (tm rfl (TO.nil (Fin.go (Tr.ret (Fin.AE (Fin.Ba rfl (AO.cell 0 rfl rfl Ct CB rfl Lr) (AO.tmp rfl Lr) ?_)))))))))
 · exact Eb
 refine ag ?_ ?_<;>intro h5 q5
 refine ac ?_
 refine wk [39,10,6,5,4,3,2] rfl (Tr.cond rfl (fun _=> ?_) (fun h=>nomatch h))
 refine Tr.seq (Tr.Ap (tp rfl (Al (rows:=[]) rfl S3 Fe trivial rfl) (TO.AK 0 rfl rfl rfl vq C1 rfl CB rfl rfl (tm rfl (TO.nil (Fin.go (Tr.ret (Fin.AE (Fin.Ba rfl (AO.cell 0 rfl rfl Ct CB rfl Lr) (AO.tmp rfl Lr) ?_)))))))))
 · exact Eb
 refine ac ?_
 refine wk [39,10,6,5,4,3,2] rfl ?_
 refine Tr.cn rfl ?_ ?_<;>intro h6 q6
 refine ap ?_
 refine Tr.ret (Fin.AE (Fin.Ba rfl (AO.cell 0 rfl rfl Ct CB rfl Lr) (AO.tmp rfl Lr) ?_))
 · exact Eb
 refine a2 ?_
 refine co rfl (YT rfl vq vq) ?_
 refine ac ?_
 refine ag ?_ ?_<;>intro h7 q7
 refine ac ?_
 refine wk [54,12,10,6,5,4,2] rfl (Tr.cond rfl (fun _=> ?_) (fun h=>nomatch h))
 refine Tr.seq (Tr.Ap (tp rfl (Al (rows:=[]) rfl S3 Fe trivial rfl) (TO.AK 0 rfl rfl rfl vq C1 rfl CB rfl rfl (tm rfl (TO.nil (Fin.go (Tr.ret (Fin.AE (Fin.Ba rfl (AO.cell 0 rfl rfl Ct CB rfl Lr) (AO.tmp rfl Lr) ?_)))))))))
 · exact Eb
 refine ac ?_
 refine wk [54,12,10,6,5,4,2] rfl ?_
 refine Tr.cn rfl ?_ ?_<;>intro h8 q8
 refine ap ?_
 refine Tr.ret (Fin.AE (Fin.Ba rfl (AO.cell 0 rfl rfl Ct CB rfl Lr) (AO.tmp rfl Lr) ?_))
 · exact Eb
 refine a2 ?_
 refine wk [13,12,10,6,5,4,2] rfl (Tr.UQ [2,4,5,6,10,12] [(13,ints od)] (True) ?_ (fun h9=> ?_))
 refine an ?_ ?_<;>intro h10 Q4
 refine ac ?_
 exact Fin.AL () trivial ⟨⟨_,rfl,Pr.le_of_eq (by rw [←hod];simp_all)⟩,kz⟩
 refine Tr.skip ?_
 exact Fin.AL () trivial ⟨⟨_,rfl,Pr.le_of_eq (by rw [←hod];simp_all)⟩,kz⟩
 refine ac ?_
 refine Tr.block (Tr.BA _ (kk [13,12,10,6,5,4,2] rfl) (fun k:Nat=>[(14,int ((k:Nat):Int))]) (fun k:Nat=>k≤(od).length) (fun k:Nat=>(od).length-k) 0 (Nat.zero_le _) kz ?_)
 rintro k BV
 refine an ?_ ?_<;>intro h11 SK
 have Ah:k<(od).length:=AH h11
 obtain ⟨x,Ai⟩:=at_ Ah
 refine a2 ?_
 refine co rfl (AD rfl underlying22 Bt vq vq AA (Aa Ai)) (co rfl (GU rfl Cj rfl) ?_)
 refine co rfl (iU (LH (e:=e) he.YE) rfl rfl rfl rfl rfl) ?_
 refine ac ?_
 refine wk [75,14,13,12,10,6,5,4,2] rfl ?_
 refine Tr.cn rfl ?_ ?_<;>intro h12 Vt
 refine a2 ?_
 exact Fin.AL (k+1) ⟨Ah,by omega⟩ ⟨⟨_,rfl,AG k⟩,kz⟩
 have hp:LG e su (min most e.most) x=true:=by simpa using h12
 have hp0:=oX hp
 obtain ⟨y,hy⟩:=dR hp0
 refine a2 ?_
 refine co rfl (AD rfl underlying22 Bt vq vq AA (Aa Ai)) (co rfl (GU rfl Cj rfl) ?_)
 refine co rfl (CK (Hh (e:=e) he.YE) rfl rfl rfl) ?_
 refine ac ?_
 refine wk [15,14,13,12,10,6,5,2] rfl ?_
 refine ac ?_
 refine co rfl (AD rfl underlying38 Fc vq vq AA (Bc hy)) ?_
 refine ac ?_
 refine co rfl (kc5 (gS) rfl rfl rfl rfl rfl rfl) (co rfl (yq rfl (VL.le vq Zi) (VL.le vq (DA _ _))) ?_)
 refine ac ?_
 refine wk [99,14,13,12,10] rfl (Tr.ex 99 rfl fun AHa=> ?_)
 refine Tr.cn rfl ?_ ?_<;>intro JR Yv
 refine ap ?_
 refine Tr.ret (Fin.AE (Fin.AR (Fin.AE (Fin.AE (Fin.AR (Fin.AE (Fin.Ba rfl (AO.cell 0 rfl rfl Ct CB rfl Lr) (AO.tmp rfl Lr) ?_)))))))
 · exact Eb
 refine ac ?_
 refine ap ?_
 refine tp rfl (AD rfl underlying22 Bt vq vq AA (Aa Ai)) ?_
 refine ap ?_
 refine Tr.ret (Fin.AR (Fin.AE (Fin.AE (Fin.AR (Fin.AE (Fin.Ba rfl (AO.cell 0 rfl rfl Ct CB rfl Lr) (AO.tmp rfl Lr) ?_))))))
 · exact Eb
 have BP:k=(od).length:=by have:=AJ h11;omega
 subst BP
 refine ac ?_
 refine ap ?_
 refine wk [11,10] rfl (Tr.ret (Fin.Ba rfl (AO.cell 0 rfl rfl Ct CB rfl Lr) (AO.tmp rfl Lr) ?_))
 · exact Eb
theorem XP {c e:B_} {day:Int} (hc:c.small) (he:e.small):BD prog 305 [agg (Bk c),agg (Bk e),int day] (Cp.ex fun z:Int×Int×Int=>fact True (EA [agg [int z.1,int z.2.1],int z.2.2])):=by
 refine fo func305 rfl ⟨rfl,rfl⟩ fun M0 w0=>(Tr.seq (Tr.Ap (tp rfl (Bn rfl C1) (tp rfl (Bn rfl C1) ?_))))
 refine Tl rfl rfl rfl rfl JS Fe (fun b1=> ?_)
 refine ap ?_
 refine ap ?_
 refine tp rfl (YT rfl vq vq) (tp rfl (NP rfl vq vq) ?_)
 refine ap ?_
 refine tp rfl (kc5 (gT hc he) rfl rfl rfl rfl rfl rfl) ?_
 refine TO.ex 17 rfl (fun z1=>TO.fact 17 rfl fun Eg=> ?_)
 refine ap ?_
 refine wk [7,6] rfl (Tr.ret (Fin.Ba rfl (AO.cell 0 rfl rfl Ct CB rfl Lr) (AO.tmp rfl Lr) ?_))
 · exact Eb
abbrev uses (l:List (Int×Int)):Pr:=slice 2 (l.map fun x=>[int x.1,int x.2])
theorem Nw {e:B_} {a b:Int} (he:e.small):BD prog 312 [agg (Bk e),agg [int a,int b]] (Cp.ex fun z:List (Int×Int)×Int=>fact (z.1.length≤1000) (EA [uses z.1,int z.2])):=by
 refine fo func312 rfl ⟨rfl,rfl⟩ fun M0 w0=> ?_
 refine a2 ?_
 refine co rfl (Cn (FK he) rfl rfl) ?_
 refine an ?_ ?_<;>intro h1 q1
 refine ac ?_
 refine Tr.ret (Fin.AE (Fin.Ba rfl (AO.tmp rfl Lr) (AO.tmp rfl Lr) ?_))
 · exact P_
 refine ac ?_
 refine ao ?_
 refine tp rfl (Cn (Lv (code:=b)) rfl rfl) ?_
 refine ao ?_
 refine Tl rfl rfl rfl rfl SG Hz (fun b1=> ?_)
 refine TO.AK 0 rfl rfl rfl vq C1 rfl Fo rfl rfl ?_
 refine ao ?_
 refine wk [7,6,3,2] rfl ?_
 refine an ?_ ?_<;>intro h2 q2
 refine ac ?_
 refine Tr.drop 0 (Tr.ret (Fin.AE (Fin.Ba rfl (AO.tmp rfl Lr) (AO.tmp rfl Lr) ?_)))
 · exact P_
 refine a2 ?_
 refine co rfl (CK (Hh (e:=e) he.YE) rfl rfl rfl) ?_
 refine ac ?_
 refine wk [9,8,6,2] rfl ?_
 refine an ?_ ?_<;>intro h3 q3
 refine ac ?_
 refine Tr.drop 0 (Tr.ret (Fin.AE (Fin.Ba rfl (AO.tmp rfl Lr) (AO.tmp rfl Lr) ?_)))
 · exact P_
 obtain ⟨y,hy⟩:=dR (ids:=e.ids) (code:=b) KS
 refine ac ?_
 refine ao ?_
 refine tp rfl (AD rfl underlying38 Fc vq vq AA (Bc hy)) ?_
 refine ao ?_
 refine Tl rfl rfl rfl rfl KW EU (fun b2=> ?_)
 refine sf 0 10 ⟨rfl,rfl,rfl⟩ rfl rfl rfl rfl ?_
 refine ao ?_
 refine wk [10,6] rfl ?_
 refine an ?_ ?_<;>intro h4 q4
 refine ao ?_
 refine TO.Dv 0 rfl rfl (A9 rfl rfl vq OJ Bt rfl Ao rfl) ?_
 refine ao ?_
 refine ac ?_
 refine Tr.drop 0 (wk [5,4] rfl (Tr.ret (Fin.Ba rfl (AO.tmp rfl Lr) (AO.tmp rfl Lr) ?_)))
 · exact aF
 refine a2 ?_
 refine Tr.drop 0 (wk [5,4] rfl (Tr.ret (Fin.Ba rfl (AO.tmp rfl Lr) (AO.tmp rfl Lr) ?_)))
 · exact aF
theorem oY {e:B_} (h:GO e=true):1≤e.least∧e.least≤4∧e.most≤4:=by
 unfold GO at h
 simp only [Bool.and_eq_true,decide_eq_true_eq] at h
 omega
theorem XQ {c e:B_} (hc:c.small) (he:e.small):BD prog 314 [agg (Bk c),agg (Bk e)] (Cp.ex fun z:List (Int×Int)=>fact (z.length≤1000) (uses z)):=by
 refine fo func314 rfl ⟨rfl,rfl⟩ fun M0 w0=> ?_
 refine a2 ?_
 refine co rfl (Cn (FK hc) rfl rfl) ?_
 refine ag ?_ ?_<;>intro h1 q1
 refine a3 ?_
 · exact Aw [] (A7 AU (AP 2))
 refine cy h1 rfl (AQ rfl Cy CL vq rfl rfl) (cy h1 rfl (Cn (FK he) rfl rfl) ?_)
 refine an ?_ ?_<;>intro h2 q2
 refine a2 ?_
 · exact Aw [] (A7 AU (AP 2))
 obtain ⟨hc1,hc2,hc3⟩:=oY (e:=c) CG
 obtain ⟨he1,he2,he3⟩:=oY (e:=e) CG
 refine a3 ?_
 refine co rfl (NP rfl vq vq) ?_
 refine ac ?_
 refine wk [6,5,3,2] rfl (Tr.block (Tr.B6 268 2 ?_))
 refine Tr.C9 _ (kk [3,2] rfl) (fun (v:Int) (o:List (Int×Int)) u=>[(6,int v),(5,Ab u (uses o))]) (fun (v:Int) (o:List (Int×Int)) u=>Hp M0 w0 FO ([As 268 2 u])) (fun (v:Int) (o:List (Int×Int))=>1≤v∧v≤5∧(o.length:Int)≤(v-1)*16) (fun (v:Int) (o:List (Int×Int))=>(5-v).toNat) (max c.least e.least) ([]) (.slice none 0 0) (⟨by omega,by omega,by simp;omega⟩) ⟨kq,⟨_,rfl,Bl rfl⟩,trivial⟩ (fun _ _ h=>h) ?_
 rintro v o u ⟨bw,V7,i6⟩
 refine ac ?_
 refine co rfl (YT rfl vq vq) ?_
 refine an ?_ ?_<;>intro h3 q3
 have hvm:=h3
 refine a2 ?_
 refine Tr.block (Tr.C9 _ (kk [6,3,2] rfl) (fun (k:Int) (q:List (Int×Int)) u3=>[(7,int k),(5,Ab u3 (uses q))]) (fun (k:Int) (q:List (Int×Int)) u3=>Hp M0 w0 FO ([As 268 2 u3])) (fun (k:Int) (q:List (Int×Int))=>1≤k∧k≤17∧(q.length:Int)≤(v-1)*16+k-1) (fun (k:Int) (q:List (Int×Int))=>(17-k).toNat) (1) (o) u (⟨by omega,by omega,by omega⟩) ⟨kq,⟨_,rfl,BC rfl⟩,trivial⟩ (fun _ _ h=>h) ?_)
 rintro k q u3 ⟨hk1,hk2,hql⟩
 refine an ?_ ?_<;>intro h4 q4
 have hkm:=h4
 refine a2 ?_
 refine co rfl (iU (LH (e:=e) he.YE) rfl rfl rfl rfl rfl) ?_
 refine an ?_ ?_<;>intro h5 q5
 refine ap ?_
 refine TO.DQ 0 rfl rfl AB (B1 rfl rfl rfl rfl underlying331 CB bX JS HA GG (Ax BN Ja)) (fun v1=> ?_)
 refine ap ?_
 refine wk [7,6,5,3,2] rfl ?_
 refine ac ?_
 exact Fin.Bi (k+1) (q++[(v,k)]) v1 (⟨⟨by omega,by omega,by simp;omega⟩,by omega⟩) ⟨kq,⟨_,rfl,BC DI⟩,kz⟩ (fun _ _ h=>h)
 refine a2 ?_
 exact Fin.Bi (k+1) (q) u3 (⟨⟨by omega,by omega,by omega⟩,by omega⟩) ⟨kq,⟨_,rfl,BC rfl⟩,kz⟩ (fun _ _ h=>h)
 have hkm:=h4
 refine a2 ?_
 exact Fin.Bi (v+1) (q) u3 (⟨⟨by omega,by omega,by omega⟩,by omega⟩) ⟨kq,⟨_,rfl,BC AU⟩,kz⟩ (fun _ _ h=>h)
 have hvm:=h3
 refine a3 ?_
 · exact Oz
theorem oZ {e:Dc} {i:Nat} {x:IE} (h:FM e=true) (hx:e.BS[i]? =some x):(0≤x.client∧x.client<(e.Bs.length:Nat))∧(0≤x.server∧x.server<(e.Bs.length:Nat)):=by
 have h1:=(FP.1 h).ed i (by rcases Nat.lt_or_ge i e.BS.length with h'|h';exact h';rw [List.getElem?_eq_none h'] at hx;cases hx)
 unfold Ec at h1
 rw [hx] at h1
 simp only [Option.getD_some,Bool.and_eq_true,decide_eq_true_eq] at h1
 omega
theorem gU {e:Dc} {i:Int} (hf:e.fits):BD prog 304 [agg (CE e),int i] (Cp.ex fun z:B_×B_×Int=>fact (z.2.2=0→z.1∈e.Bs∧z.2.1∈e.Bs) (EA [agg (Bk z.1),agg (Bk z.2.1),int z.2.2])):=by
 refine fo func304 rfl ⟨rfl,rfl⟩ fun M0 w0=>(Tr.seq (Tr.Ap (tp rfl (Bn rfl C1) ?_)))
 refine Tl rfl rfl rfl rfl z40 Ie (fun b1=> ?_)
 refine Tl rfl rfl rfl rfl z40 Ie (fun b2=> ?_)
 refine ap ?_
 refine ac ?_
 refine co rfl (Cn (Dr hf) rfl rfl) ?_
 refine an ?_ ?_<;>intro h1 q1
 refine ap ?_
 refine Tr.ret (Fin.AE (Fin.FG rfl (AO.cell 1 rfl rfl Cy CL rfl Lr) (AO.cell 0 rfl rfl Cy CL rfl Lr) (AO.tmp rfl Lr) ?_))
 · exact YG
 have Uq:FM e=true:=by cases h_:FM e with|true=>rfl|false=>exact absurd h1 L_
 refine ac ?_
 refine ag ?_ ?_<;>intro h2 q2
 refine ac ?_
 refine wk [20,5,4,2,1] rfl (Tr.cond rfl (fun _=> ?_) (fun h=>nomatch h))
 refine Tr.seq (Tr.Ap (tp rfl (Al (rows:=[]) rfl qi Ie trivial rfl) (tp rfl (Al (rows:=[]) rfl qi Ie trivial rfl) (TO.AK 1 rfl rfl rfl vq C1 rfl CL rfl rfl (TO.AK 0 rfl rfl rfl vq C1 rfl CL rfl rfl (tm rfl (TO.nil (Fin.go (Tr.ret (Fin.AE (Fin.FG rfl (AO.cell 1 rfl rfl Cy CL rfl Lr) (AO.cell 0 rfl rfl Cy CL rfl Lr) (AO.tmp rfl Lr) ?_)))))))))))
 · exact YG
 refine ac ?_
 refine wk [20,5,4,2,1] rfl ?_
 refine Tr.cn rfl ?_ ?_<;>intro h3 q3
 refine ap ?_
 refine Tr.ret (Fin.AE (Fin.FG rfl (AO.cell 1 rfl rfl Cy CL rfl Lr) (AO.cell 0 rfl rfl Cy CL rfl Lr) (AO.tmp rfl Lr) ?_))
 · exact YG
 obtain ⟨x,hx⟩:=at_ (l:=e.BS) (k:=i.toNat) AA
 obtain ⟨hxc,hxs⟩:=oZ Uq hx
 obtain ⟨c,hc⟩:=at_ (l:=e.Bs) (k:=x.client.toNat) AA
 obtain ⟨y,hy⟩:=at_ (l:=e.Bs) (k:=x.server.toNat) AA
 refine ac ?_
 refine Tr.seq (Tr.rx ?_)
 refine ay ?_
 refine xo rfl (fun _=>AD rfl underlying28 Et vq vq AA (Bc hx)) ?_
 refine ay ?_
 refine xo rfl (fun _=>AD rfl underlying27 CL vq vq AA (Bc hc)) ?_
 refine ay ?_
 refine xo rfl (fun _=>AD rfl underlying28 Et vq vq AA (Bc hx)) ?_
 refine ay ?_
 refine xo rfl (fun _=>AD rfl underlying27 CL vq vq AA (Bc hy)) ?_
 refine ay ?_
 refine Cx.nil ⟨by kernel_rfl,?_⟩
 refine BO.done Wh (Fin.go (wk [6,5,4] rfl (Tr.ret (Fin.FG rfl (AO.cell 1 rfl rfl Cy CL rfl Lr) (AO.cell 0 rfl rfl Cy CL rfl Lr) (AO.tmp rfl Lr) ?_))))
 · exact Aw (c,y,_) (A7 (fun _=>⟨List.mem_of_getElem? hc,List.mem_of_getElem? hy⟩) Lr)
theorem Rj {e:Dc} {i day:Int} (hf:e.fits):BD prog 288 [agg (CE e),int i,int day] (Cp.ex fun z:Int×Int×Int=>fact True (EA [agg [int z.1,int z.2.1],int z.2.2])):=by
 refine fo func288 rfl ⟨rfl,rfl⟩ fun M0 w0=>(Tr.seq (Tr.Ap (tp rfl (Bn rfl C1) ?_)))
 refine Tl rfl rfl rfl rfl JS Fe (fun b1=> ?_)
 refine ao ?_
 refine ao ?_
 refine tp rfl (CK (gU hf) rfl rfl rfl) ?_
 refine TO.ex 14 rfl (fun z1=>TO.fact 14 rfl fun Eg=> ?_)
 refine ao ?_
 refine Tl rfl rfl rfl rfl z40 Ie (fun b2=> ?_)
 refine Tl rfl rfl rfl rfl z40 Ie (fun b3=> ?_)
 refine sf 1 8 ⟨rfl,rfl,rfl⟩ rfl rfl rfl rfl ?_
 refine sf 0 9 ⟨rfl,rfl,rfl⟩ rfl rfl rfl rfl ?_
 refine ao ?_
 refine wk [10,9,8,6,2] rfl ?_
 refine an ?_ ?_<;>intro h1 q1
 refine ao ?_
 refine TO.AK 0 rfl rfl rfl vq C1 rfl CB rfl rfl ?_
 refine ao ?_
 refine Tr.ret (Fin.AE (Fin.Ba rfl (AO.cell 0 rfl rfl Ct CB rfl Lr) (AO.tmp rfl Lr) ?_))
 · exact Eb
 have hz0:z1.2.2=0:=by have:=q1;omega
 refine ac ?_
 refine ao ?_
 refine tp rfl (K0 (XP (hf.Bs _ (Eg hz0).1).2 (hf.Bs _ (Eg hz0).2).2) rfl rfl rfl rfl) ?_
 refine TO.ex 25 rfl (fun z2=>TO.fact 25 rfl fun IL=> ?_)
 refine ao ?_
 refine TO.AK 0 rfl rfl rfl vq C1 rfl CB rfl rfl ?_
 refine ao ?_
 refine wk [7,6] rfl (Tr.ret (Fin.Ba rfl (AO.cell 0 rfl rfl Ct CB rfl Lr) (AO.tmp rfl Lr) ?_))
 · exact Eb
theorem OV {e:Dc} {i from_ Nf:Int} (hf:e.fits):BD prog 256 [agg (CE e),int i,int from_,int Nf] (Cp.ex fun z:Int×Int×Int=>fact True (EA [agg [int z.1,int z.2.1],int z.2.2])):=by
 refine fo func256 rfl ⟨rfl,rfl⟩ fun M0 w0=>(Tr.seq (Tr.Ap (tp rfl (Bn rfl C1) ?_)))
 refine Tl rfl rfl rfl rfl JS Fe (fun b1=> ?_)
 refine ao ?_
 refine ao ?_
 refine tp rfl (K0 (Rj hf) rfl rfl rfl rfl) ?_
 refine TO.ex 16 rfl (fun z1=>TO.fact 16 rfl fun Eg=> ?_)
 refine ao ?_
 refine Tl rfl rfl rfl rfl JS Fe (fun b2=> ?_)
 refine sf 0 10 ⟨rfl,rfl,rfl⟩ rfl rfl rfl rfl ?_
 refine ao ?_
 refine wk [11,10,8,4,3,2,1] rfl ?_
 refine an ?_ ?_<;>intro h1 q1
 refine ao ?_
 refine TO.AK 0 rfl rfl rfl vq C1 rfl CB rfl rfl ?_
 refine ao ?_
 refine Tr.ret (Fin.AE (Fin.Ba rfl (AO.cell 0 rfl rfl Ct CB rfl Lr) (AO.tmp rfl Lr) ?_))
 · exact Eb
 refine ac ?_
 refine ao ?_
 refine tp rfl (K0 (Rj hf) rfl rfl rfl rfl) ?_
 refine TO.ex 27 rfl (fun z2=>TO.fact 27 rfl fun IL=> ?_)
 refine ao ?_
 refine wk [11,10,8,3,2] rfl ?_
 refine an ?_ ?_<;>intro h2 q2
 refine ao ?_
 refine TO.AK 0 rfl rfl rfl vq C1 rfl CB rfl rfl ?_
 refine ao ?_
 refine Tr.ret (Fin.AE (Fin.Ba rfl (AO.cell 0 rfl rfl Ct CB rfl Lr) (AO.tmp rfl Lr) ?_))
 · exact Eb
 refine ac ?_
 refine an ?_ ?_<;>intro h3 q3
 refine ao ?_
 refine TO.AK 0 rfl rfl rfl vq C1 rfl CB rfl rfl ?_
 refine ao ?_
 refine Tr.ret (Fin.AE (Fin.Ba rfl (AO.cell 0 rfl rfl Ct CB rfl Lr) (AO.tmp rfl Lr) ?_))
 · exact Eb
 refine ac ?_
 refine ao ?_
 refine TO.AK 0 rfl rfl rfl vq C1 rfl CB rfl rfl ?_
 refine ao ?_
 refine Tr.ret (Fin.Ba rfl (AO.cell 0 rfl rfl Ct CB rfl Lr) (AO.tmp rfl Lr) ?_)
 · exact Aw (z1.1,z1.2.1,0) (A7 trivial Lr)
abbrev Rk:Pr:=slice 7 []
abbrev Mw:Pr:=agg [slice 6 [],slice 2 []]
abbrev VY:Pr:=agg [slice 1 [],int 0]
theorem OW   :BD prog 174 [Mw] (int 0):=by
 refine BD.of func174 rfl rfl Ao fun M0 w0=> ?_
 refine Tr.seq (Tr.Aj (co rfl (Bn rfl (Va rfl)) (cm rfl (Ch.nil (Fin.go (Tr.seq (Tr.seq (Tr.Aj (co rfl (Ss rfl Uf rfl rfl) (co rfl (GU rfl Yh rfl) (co rfl (Ca rfl underlying111 (vl rfl)) (co rfl (ki rfl rfl rfl rfl) (cm rfl ?_)))))))))))))
 refine Ch.cs 9 rfl ?_ ?_<;>intro h1 q1
 iterate 4 refine cnf h1 rfl ?_
 refine co rfl (JD rfl rfl h1 rfl) (Ch.nil (Fin.go (Tr.cond rfl (fun _=> ?_) (fun h=>nomatch h))))
 refine Tr.seq (Tr.Aj (cm rfl (Ch.nil (Fin.go (Tr.ret (Fin.AE (Fin.Kw rfl (Br.Dz _ _) rfl ?_)))))))
 · refine int_eq ?_;simp_all
 refine cy h1 rfl (Ss rfl bW rfl rfl) (cy h1 rfl (GU rfl kE rfl) (cy h1 rfl (Ca rfl underlying112 (vl rfl)) (cy h1 rfl (ki rfl rfl rfl rfl) (co rfl (MM rfl rfl h1 rfl) (Ch.nil (Fin.go ?_))))))
 refine Tr.cn rfl ?_ ?_<;>intro h2 q2
 exact absurd h2 AB
 refine Tr.skip (Fin.go (Tr.seq (Tr.seq (Tr.Aj (cm rfl (Ch.nil (Fin.go (Tr.block (Tr.BA [(1,_)] ⟨ke rfl,trivial⟩ (fun k:Nat=>[(3,int ((k:Nat):Int))]) (fun k:Nat=>k=0) (fun k:Nat=>0) 0 (rfl) ⟨ke rfl,trivial⟩ ?_)))))))))
 rintro k hk0
 refine Tr.seq (Tr.seq (Tr.Aj (cm rfl (co rfl (Ss rfl Uf rfl rfl) (co rfl (GU rfl Yh rfl) (co rfl (Ca rfl underlying111 (vl rfl)) (co rfl (ki rfl rfl rfl rfl) (Ch.nil (Fin.go ?_)))))))))
 refine Tr.cn rfl ?_ ?_<;>intro h3 q3
 exfalso;have R8:=C3.DZ h3;subst hk0;simp at R8
 have Xt:=h3
 refine Tr.exit (Fin.AW (Fin.AW (Fin.Au (Fin.go (Tr.seq (Tr.seq (Tr.Aj (cm rfl (Ch.nil (Fin.go (Tr.block (Tr.BA [(1,_)] ⟨ke rfl,trivial⟩ (fun k:Nat=>[(4,int ((k:Nat):Int))]) (fun k:Nat=>k=0) (fun k:Nat=>0) 0 (rfl) ⟨ke rfl,trivial⟩ ?_))))))))))))
 rintro k hk0
 refine Tr.seq (Tr.seq (Tr.Aj (cm rfl (co rfl (Ss rfl bW rfl rfl) (co rfl (GU rfl kE rfl) (co rfl (Ca rfl underlying112 (vl rfl)) (co rfl (ki rfl rfl rfl rfl) (Ch.nil (Fin.go ?_)))))))))
 refine Tr.cn rfl ?_ ?_<;>intro h4 q4
 exfalso;have R8:=C3.DZ h4;subst hk0;simp at R8
 have Xt:=h4
 refine Tr.exit (Fin.AW (Fin.AW (Fin.Au (Fin.go (Tr.seq (Tr.Aj (cm rfl (Ch.nil (Fin.go (Tr.ret (Fin.Kw rfl (Br.Dz _ _) rfl ?_)))))))))))
 · exact Lr
theorem XR {a b p:Int}  :BD prog 333 [Mw,agg [int a,int b],int p] (anyI):=by
 refine fo func333 rfl ⟨rfl,rfl⟩ fun M0 w0=> ?_
 · repeat' first|exact absurd h AB|exact Aw _ Lr|refine co rfl (Cn (OW) rfl rfl) ?_|refine co rfl (Cn (Ju (CA:=a) (bits:=b)) rfl rfl) ?_|refine ac ?_|(refine Tr.cn rfl ?_ ?_<;>intro h q)|(refine Ch.cg rfl rfl rfl ?_ ?_<;>intro h q)
theorem LI {a b p d:Int}  :BD prog 335 [Mw,agg [int a,int b],int p,int d] (int (-1)):=by
 refine fo func335 rfl ⟨rfl,rfl⟩ fun M0 w0=> ?_
 refine a2 ?_
 refine co rfl (Ca rfl underlying111 vq) ?_
 refine ac ?_
 refine Tr.block (Tr.BA _ (kk [5,4,3,2] rfl) (fun k:Nat=>[(9,int (-1))]) (fun k:Nat=>True) (fun k:Nat=>0) 0 (trivial) kz ?_)
 rintro k _
 refine an ?_ ?_<;>intro h1 q1
 exact absurd h1 AB
 have Xt:=h1
 refine a3 ?_
 · exact Lr
theorem SO {a b p d:Int}  :BD prog 334 [Mw,agg [int a,int b],int p,int d] (bool true):=by
 refine fo func334 rfl ⟨rfl,rfl⟩ fun M0 w0=> ?_
 · repeat' first|exact Lr|exact absurd h AB|refine co rfl (iU (LI) rfl rfl rfl rfl rfl) ?_|refine ac ?_|(refine Ch.cg rfl rfl rfl ?_ ?_<;>intro h q)
theorem SP {a b p d:Int}  :BD prog 320 [Mw,agg [int a,int b],int p,int d] (EA [EJ,anyI,anyI]):=by
 refine fo func320 rfl ⟨rfl,rfl⟩ fun M0 w0=> ?_
 refine a2 ?_
 refine co rfl (K0 (XR) rfl rfl rfl rfl) ?_
 refine ac ?_
 refine Tr.seq (Tr.ex 11 rfl fun x11=> ?_)
 refine an ?_ ?_<;>intro h1 q1
 refine ac ?_
 refine wk [10,9,8] rfl (Tr.ret (Fin.AE (Fin.IV rfl (Br.Dz _ _) rfl ?_ rfl ?_ rfl ?_)))
 · exact BJ
 · exact BJ
 · exact BJ
 refine ac ?_
 refine ag ?_ ?_<;>intro h2 q2
 refine ac ?_
 refine wk [24,5,4,3,2] rfl ?_
 refine ac ?_
 refine Tr.ret (Fin.AE (Fin.IV rfl (Br.Dz _ _) rfl ?_ rfl ?_ rfl ?_))
 · exact BJ
 · exact BJ
 · exact BJ
 refine ac ?_
 refine wk [24,5,4,3,2] rfl ?_
 refine Tr.cn rfl ?_ ?_<;>intro h3 q3
 refine ac ?_
 refine Tr.ret (Fin.AE (Fin.IV rfl (Br.Dz _ _) rfl ?_ rfl ?_ rfl ?_))
 · exact BJ
 · exact BJ
 · exact BJ
 refine a2 ?_
 refine co rfl (iU (SO) rfl rfl rfl rfl rfl) ?_
 refine ac ?_
 refine co rfl (iU (LI) rfl rfl rfl rfl rfl) ?_
 refine ac ?_
 refine wk [10,9,8] rfl (Tr.ret (Fin.IV rfl (Br.Dz _ _) rfl ?_ rfl ?_ rfl ?_))
 · exact BJ
 · exact BJ
 · exact BJ
theorem gV   :BD prog 321 [Rk] (int 0):=by
 refine fo func321 rfl ⟨rfl,rfl⟩ fun M0 w0=> ?_
 refine a2 ?_
 refine Tr.block (Tr.BA _ (kk [0] rfl) (fun k:Nat=>[(3,int ((k:Nat):Int))]) (fun k:Nat=>k=0) (fun k:Nat=>0) 0 (rfl) kz ?_)
 rintro k hk0
 refine ac ?_
 refine co rfl (Ca rfl underlying162 vq) ?_
 refine an ?_ ?_<;>intro h1 q1
 exfalso;have R8:=C3.DZ h1;subst hk0;simp at R8
 have Xt:=h1
 refine a3 ?_
 · exact Lr
theorem gW {a b p d:Int} {s:List UInt8}  :BD prog 322 [Rk,VY,agg [int a,int b],int p,str s,int d] (bool false):=by
 refine fo func322 rfl ⟨rfl,rfl⟩ fun M0 w0=> ?_
 refine a2 ?_
 refine Tr.block (Tr.BA _ (kk [8,7,5,4,3,0] rfl) (fun k:Nat=>[(13,int ((k:Nat):Int))]) (fun k:Nat=>k=0) (fun k:Nat=>0) 0 (rfl) kz ?_)
 rintro k hk0
 refine ac ?_
 refine co rfl (Ca rfl underlying162 vq) ?_
 refine an ?_ ?_<;>intro h1 q1
 exfalso;have R8:=C3.DZ h1;subst hk0;simp at R8
 have Xt:=h1
 refine a3 ?_
 · exact Lr
theorem SQ {a b p d:Int} {s:List UInt8}  :BD prog 313 [Mw,Rk,VY,agg [int a,int b],int p,str s,int d] (EA [EJ,anyI]):=by
 refine fo func313 rfl ⟨rfl,rfl⟩ fun M0 w0=> ?_
 refine a2 ?_
 refine co rfl (iU (SP) rfl rfl rfl rfl rfl) ?_
 refine ac ?_
 refine wk [18,16,10,9,6,5,4,1] rfl (Tr.seq (Tr.seq (Tr.ex 18 rfl fun x18=>(Tr.ex 16 rfl fun x16=> ?_))))
 refine an ?_ ?_<;>intro h1 q1
 refine ac ?_
 refine Tr.ret (Fin.AE (Fin.Dp rfl (Br.Dz _ _) rfl ?_ rfl ?_))
 · exact BJ
 · exact BJ
 refine a2 ?_
 refine co rfl (Cn (gV) rfl rfl) ?_
 refine a2 ?_
 refine wk [35,19,16,10,9,6,5,4,1] rfl ?_
 refine Tr.cn rfl ?_ ?_<;>intro h2 q2
 exact absurd h2 AB
 refine ac ?_
 refine ag ?_ ?_<;>intro h3 q3
 refine ac ?_
 refine wk [15,14] rfl (Tr.ret (Fin.Dp rfl (Br.Dz _ _) rfl ?_ rfl ?_))
 · exact BJ
 · exact BJ
 refine ac ?_
 refine cy h3 rfl (AV rfl (gW) ⟨kq,kz⟩) ?_
 refine ac ?_
 refine wk [15,14] rfl (Tr.ret (Fin.Dp rfl (Br.Dz _ _) rfl ?_ rfl ?_))
 · exact BJ
 · exact BJ
theorem Zk {e:B_} {a b d:Int} (he:e.small):BD prog 299 [Mw,Rk,VY,agg (Bk e),agg [int a,int b],int d] (EA [EJ,anyI]):=by
 refine fo func299 rfl ⟨rfl,rfl⟩ fun M0 w0=> ?_
 refine ac ?_
 refine ap ?_
 refine tp rfl (CK (Nw he) rfl rfl rfl) ?_
 refine TO.ex 23 rfl (fun z1=>TO.fact 23 rfl fun Eg=> ?_)
 refine ap ?_
 refine wk [15,14,9,8,6,5,1] rfl ?_
 refine an ?_ ?_<;>intro h1 q1
 refine ac ?_
 refine Tr.ret (Fin.AE (Fin.Dp rfl (Br.Dz _ _) rfl ?_ rfl ?_))
 · exact BJ
 · exact BJ
 refine a3 ?_
 refine Tr.block (Tr.BA _ (kk [14,9,8,6,5,1] rfl) (fun k:Nat=>[(17,int ((k:Nat):Int)),(16,EJ)]) (fun k:Nat=>k≤(z1.1).length) (fun k:Nat=>(z1.1).length-k) 0 (Nat.zero_le _) ⟨kq,⟨_,rfl,Aw _ Lr⟩,trivial⟩ ?_)
 rintro k BV
 refine Tr.ex 16 rfl fun x16=> ?_
 refine an ?_ ?_<;>intro h2 q2
 have Ah:k<(z1.1).length:=AH h2
 obtain ⟨x,Ai⟩:=at_ Ah
 refine a2 ?_
 refine co rfl (AD rfl underlying143 Ky vq vq AA (Aa Ai)) ?_
 refine ac ?_
 refine co rfl (AV rfl (SQ (a:=x.1) (b:=x.2)) ⟨kq,kz⟩) ?_
 refine ac ?_
 refine wk [19,18,17,16,14,9,8,6,5,1] rfl (Tr.seq (Tr.seq (Tr.ex 19 rfl fun x19=>(Tr.ex 18 rfl fun x18=> ?_))))
 refine an ?_ ?_<;>intro h3 q3
 refine ac ?_
 refine wk [13,12] rfl (Tr.ret (Fin.AE (Fin.AR (Fin.AE (Fin.AE (Fin.AR (Fin.AE (Fin.Dp rfl (Br.Dz _ _) rfl ?_ rfl ?_))))))))
 · exact BJ
 · exact BJ
 · repeat' first|exact Fin.AL (k+1) ⟨Ah,by omega⟩ ⟨⟨_,rfl,AG k⟩,⟨_,rfl,Aw _ Lr⟩,kz⟩|refine ac ?_|(refine Ch.cg rfl rfl rfl ?_ ?_<;>intro h q)
 have BP:k=(z1.1).length:=by have:=AJ h2;omega
 subst BP
 refine a2 ?_
 refine wk [13,12] rfl (Tr.ret (Fin.Dp rfl (Br.Dz _ _) rfl ?_ rfl ?_))
 · exact BJ
 · exact BJ
theorem KF {d:Int}  :BD prog 122 [Mw,Rk,int d] (anyI):=by
 refine fo func122 rfl ⟨rfl,rfl⟩ fun M0 w0=> ?_
 refine a2 ?_
 refine co rfl (Cn (OW) rfl rfl) ?_
 refine an ?_ ?_<;>intro h1 q1
 exact absurd h1 AB
 refine a2 ?_
 refine co rfl (Ca rfl underlying162 vq) ?_
 refine ac ?_
 refine Tr.block (Tr.BA _ (kk [13,12,2] rfl) (fun k:Nat=>[(14,int ((k:Nat):Int))]) (fun k:Nat=>k=0) (fun k:Nat=>0) 0 (rfl) kz ?_)
 rintro k hk0
 refine ac ?_
 refine Tr.seq ?_
 refine Tr.cn rfl ?_ ?_<;>intro h2 q2
 exfalso;have R8:=C3.DZ h2;subst hk0;simp at R8
 have Xt:=h2
 · repeat' first|exact Aw _ Lr|refine ac ?_|(refine Tr.cn rfl ?_ ?_<;>intro h q)|(refine Ch.cg rfl rfl rfl ?_ ?_<;>intro h q)
abbrev dS:Pr:=Cp.ex fun z:List (Int×Int)=>fact (z.length≤1000) (uses z)
structure KG (e:Dc) (i:Int) (x:IE) (c s:B_):Prop where
 i0:0≤i
 hx:e.BS[i.toNat]? =some x
 c0:0≤x.client
 s0:0≤x.server
 hc:e.Bs[x.client.toNat]? =some c
 hs:e.Bs[x.server.toNat]? =some s
 cs:c.small
 ss:s.small
theorem oa {e:Dc} {i:Int} (hf:e.fits) (Uq:FM e=true) (h0:0≤i) (hi:i.toNat<e.BS.length):∃x c s,KG e i x c s:=by
 obtain ⟨x,hx⟩:=at_ hi
 obtain ⟨hxc,hxs⟩:=oZ Uq hx
 obtain ⟨c,hc⟩:=at_ (l:=e.Bs) (k:=x.client.toNat) AA
 obtain ⟨y,hy⟩:=at_ (l:=e.Bs) (k:=x.server.toNat) AA
 exact ⟨x,c,y,h0,hx,hxc.1,hxs.1,hc,hy,(hf.Bs _ (List.mem_of_getElem? hc)).2,(hf.Bs _ (List.mem_of_getElem? hy)).2⟩
theorem KG.li {e:Dc} {i:Int} {x:IE} {c s:B_} (h:KG e i x c s):i.toNat<e.BS.length:=by
 have:=h.hx
 rcases Nat.lt_or_ge i.toNat e.BS.length with h'|h'
 · exact h'
 · rw [List.getElem?_eq_none h'] at this;cases this
theorem KG.lc {e:Dc} {i:Int} {x:IE} {c s:B_} (h:KG e i x c s):x.client.toNat<e.Bs.length:=by
 have:=h.hc
 rcases Nat.lt_or_ge x.client.toNat e.Bs.length with h'|h'
 · exact h'
 · rw [List.getElem?_eq_none h'] at this;cases this
theorem KG.ls {e:Dc} {i:Int} {x:IE} {c s:B_} (h:KG e i x c s):x.server.toNat<e.Bs.length:=by
 have:=h.hs
 rcases Nat.lt_or_ge x.server.toNat e.Bs.length with h'|h'
 · exact h'
 · rw [List.getElem?_eq_none h'] at this;cases this
theorem KH {e:Dc} {i:Int} {x:IE} {c s:B_} (he:KG e i x c s):BD prog 284 [agg (CE e),int i] (agg (Bk s)):=by
 refine fo func284 rfl ⟨rfl,rfl⟩ fun M0 w0=> ?_
 have e1:=he.i0
 have e2:=he.c0
 have e3:=he.s0
 have e4:=he.li
 have e5:=he.lc
 have e6:=he.ls
 refine Tr.seq (Tr.Ap (tp rfl (Bn rfl C1) ?_))
 refine Tl rfl rfl rfl rfl z40 Ie (fun b1=> ?_)
 refine ap ?_
 refine Tr.seq (Tr.rx ?_)
 refine ay ?_
 refine xo rfl (fun _=>AD rfl underlying28 Et vq vq AA (Bc he.hx)) ?_
 refine ay ?_
 refine xo rfl (fun _=>AD rfl underlying27 CL vq vq AA (Bc he.hs)) ?_
 refine ay ?_
 refine Cx.nil ⟨by kernel_rfl,?_⟩
 refine BO.done al1 (Fin.go (Tr.ret (Fin.CV rfl (AO.cell 0 rfl rfl Cy CL rfl Lr) ?_)))
 · exact Lr
theorem OX {e:Dc} {i:Int} {x:IE} {c s:B_} (he:KG e i x c s):BD prog 300 [agg (CE e),int i] (dS):=by
 refine fo func300 rfl ⟨rfl,rfl⟩ fun M0 w0=> ?_
 have e1:=he.i0
 have e2:=he.c0
 have e3:=he.s0
 have e4:=he.li
 have e5:=he.lc
 have e6:=he.ls
 refine ac ?_
 refine ao ?_
 refine tp rfl (AD rfl underlying28 Et vq vq AA (Bc he.hx)) (tp rfl (AQ rfl Qf Et vq rfl rfl) ?_)
 refine Tl rfl rfl rfl rfl Yi WQ (fun b1=> ?_)
 refine sf 0 5 ⟨rfl,rfl,rfl⟩ rfl rfl rfl rfl ?_
 refine ao ?_
 refine ac ?_
 refine co rfl (AD rfl underlying27 CL vq vq AA (Bc he.hc)) ?_
 refine ac ?_
 refine co rfl (AD rfl underlying27 CL vq vq AA (Bc he.hs)) (co rfl (AQ rfl Cy CL vq rfl rfl) (co rfl (CK (XQ he.cs he.ss) rfl rfl rfl) ?_))
 refine ac ?_
 refine wk [4] rfl ?_
 refine ac ?_
 · exact Lr
theorem Zl {a b:B_} {x y:Int} (ha:a.small) (hb:b.small):BD prog 301 [agg (Bk a),agg (Bk b),agg [int x,int y]] (EJ):=by
 refine fo func301 rfl ⟨rfl,rfl⟩ fun M0 w0=> ?_
 refine ac ?_
 refine ap ?_
 refine tp rfl (CK (Nw ha) rfl rfl rfl) ?_
 refine TO.ex 15 rfl (fun z1=>TO.fact 15 rfl fun Eg=> ?_)
 refine ap ?_
 refine wk [7,5,4] rfl ?_
 refine ap ?_
 refine tp rfl (CK (Nw hb) rfl rfl rfl) ?_
 refine TO.ex 21 rfl (fun z2=>TO.fact 21 rfl fun IL=> ?_)
 refine ap ?_
 refine ac ?_
 refine wk [28,9,7] rfl ?_
 refine Tr.cn rfl ?_ ?_<;>intro h1 q1
 refine a2 ?_
 · exact BJ
 have Xx:z1.1.length=z2.1.length:=by have h_:=q1;omega
 refine a2 ?_
 refine Tr.block (Tr.BA _ (kk [30,9,7] rfl) (fun k:Nat=>[(31,int ((k:Nat):Int))]) (fun k:Nat=>k≤(z1.1).length) (fun k:Nat=>(z1.1).length-k) 0 (Nat.zero_le _) kz ?_)
 rintro k BV
 refine ac ?_
 refine Tr.seq ?_
 refine Tr.cn rfl ?_ ?_<;>intro h2 q2
 have Ah:k<(z1.1).length:=AH h2
 obtain ⟨x,Ai⟩:=at_ Ah
 obtain ⟨y2,m_⟩:=at_ (l:=z2.1) (k:=k) AA
 · repeat' first|exact Aw _ Lr|exact Fin.AL (k+1) ⟨Ah,by omega⟩ ⟨⟨_,rfl,AG k⟩,kz⟩|refine co rfl (AD rfl underlying143 Ky vq vq AA (Aa Ai)) ?_|refine co rfl (AD rfl underlying143 Ky vq vq AA (Aa m_)) (co rfl (AQ rfl JE Ky vq rfl rfl) (co rfl (PK rfl vq vq) ?_))|refine ac ?_|(refine Tr.cn rfl ?_ ?_<;>intro h q)
 have BP:k=(z1.1).length:=by have:=AJ h2;omega
 subst BP
 refine a3 ?_
 · exact BJ
theorem gX {a b:Dc} (ha:a.fits) (hb:b.fits):BD prog 282 [agg (CE a),agg (CE b)] (Cp.ex fun z:Int=>fact (z=0→FM a=true∧FM b=true∧a.BS.length=b.BS.length) (int z)):=by
 refine fo func282 rfl ⟨rfl,rfl⟩ fun M0 w0=>(Tr.HB 0 1 rfl rfl fun Kj=>(Tr.HB 1 1 rfl rfl fun AEV=> ?_))
 refine a2 ?_
 refine co rfl (Cn (Dr ha) rfl rfl) ?_
 refine ag ?_ ?_<;>intro h1 q1
 refine a3 ?_
 · exact T4
 refine cy h1 rfl (AQ rfl DT DR vq rfl rfl) (cy h1 rfl (Cn (Dr hb) rfl rfl) ?_)
 refine an ?_ ?_<;>intro h2 q2
 refine a2 ?_
 · exact T4
 refine a2 ?_
 refine wk [20,3,2] rfl ?_
 refine Tr.cn rfl ?_ ?_<;>intro h3 q3
 refine a2 ?_
 · exact T4
 have Xx:a.BS.length=b.BS.length:=by have h_:=q3;omega
 refine a2 ?_
 refine Tr.block (Tr.BA _ (kk [23,3,2] rfl) (fun k:Nat=>[(24,int ((k:Nat):Int))]) (fun k:Nat=>k≤(a.BS).length) (fun k:Nat=>(a.BS).length-k) 0 (Nat.zero_le _) kz ?_)
 rintro k BV
 refine ac ?_
 refine Tr.seq ?_
 refine Tr.cn rfl ?_ ?_<;>intro h4 q4
 have Ah:k<(a.BS).length:=AH h4
 obtain ⟨x,Ai⟩:=at_ Ah
 obtain ⟨y2,m_⟩:=at_ (l:=b.BS) (k:=k) AA
 · repeat' first|exact Aw _ (A7 (fun h_=>absurd h_ AB) Lr)|exact Fin.AL (k+1) ⟨Ah,by omega⟩ ⟨⟨_,rfl,AG k⟩,kz⟩|refine co rfl (AD rfl underlying28 Et vq vq AA (Aa Ai)) ?_|refine co rfl (AD rfl underlying28 Et vq vq AA (Aa m_)) (co rfl (AQ rfl Qf Et vq rfl rfl) (co rfl (lu rfl vq vq) ?_))|refine ac ?_|(refine Tr.cn rfl ?_ ?_<;>intro h q)
 have BP:k=(a.BS).length:=by have:=AJ h4;omega
 subst BP
 refine a3 ?_
 · exact Aw 0 (A7 (fun _=>⟨by simp_all,by simp_all,Xx⟩) Lr)
theorem yu {d:Nat} {w:World} {x0 y0:Int} {x1 y1:Int}:(Op.equalIn (d+2) 268 (.agg #[.int .i64 x0,.int .i64 x1]) (.agg #[.int .i64 y0,.int .i64 y1])).run Tryz.prog w= .ok (decide (x0=y0∧x1=y1)) w:=by
 have h:=eqS (w:=w) (d:=d+1) (xs:= #[.int .i64 x0,.int .i64 x1]) (ys:= #[.int .i64 y0,.int .i64 y1]) Tryz.underlying268 Be (E4 AB (CC Cj rfl) (CC Cj rfl) (GF (d:=d+0) Tryz.underlying3) (E4 AB (CC Cj rfl) (CC Cj rfl) (GF (d:=d+0) Tryz.underlying3) (MV)))
 refine h.trans (congrArg (fun b=>Result.ok b w) ?_)
 rw [Bool.eq_iff_iff];simp [and_assoc]
theorem og {E:Env} {I:Cd} {o:Oper} {u:TypeId} {x y:Operand} {x0 y0:Int} {x1 y1:Int} (ho:o.op= .binOp .eql 268 x y u) (hx:VL E x (agg [is (.int .i64 x0),is (.int .i64 x1)])) (hy:VL E y (agg [is (.int .i64 y0),is (.int .i64 y1)])):Ae Tryz.prog I o E (bool (decide (x0=y0∧x1=y1))):=
 Qn [.int .i64 x0,.int .i64 x1] [.int .i64 y0,.int .i64 y1] ho hx hy Be (fun w=>by rw [show Op.equal 268 _ _=Op.equalIn (9998+2) 268 _ _ from rfl];exact yu)
theorem BD.outs {P:Program} {f:FuncId} {p0:Pr} {ps:List Pr} {res:Pr} (h:∀z:List (Int×Int),z.length≤1000→BD P f (p0::uses z::ps) res):BD P f (p0::Go.Proofs.YtmocaapoeefgkaaGreatDoor.dS::ps) res:=by
 refine ⟨(h [] (Nat.zero_le _)).1,fun M w vs hb hv=> ?_⟩
 match vs,hv with
 |u0::u1::us,⟨h0,⟨z,hz,h1⟩,h2⟩=>exact (h z hz).2 M w (u0::u1::us) hb ⟨h0,h1,h2⟩
section
variable {P:Program} {I:Cd} {E:Env} {o:Oper}
theorem yw {t u:TypeId} {x y:Operand} (ho:o.op= .binOp .gtr t x y u) (hx:VL E x (GW .i64)) (hy:VL E y (GW .i64)):Ae P I o E EJ:=
 Ae.same fun M w a he _=>by
  obtain ⟨m,h1⟩:=hx.ev he Ar
  obtain ⟨n,h2⟩:=hy.ev he Ar
  have h1:a.eval x= .int .i64 m:=h1
  have h2:a.eval y= .int .i64 n:=h2
  exact ⟨.bool (decide (m>n)),by simp [execOp,ho,h1,h2,eqGuard,binOp,Op.intCmp],_,rfl⟩
end
theorem gY {e:B_} {all:List (Int×Int)} {d:Int} (he:e.small) (hl:all.length≤1000):BD prog 283 [agg (Bk e),uses all,Mw,Rk,VY,int d] (dS):=by
 refine fo func283 rfl ⟨rfl,rfl⟩ fun M0 w0=> ?_
 refine a3 ?_
 refine Tr.block (Tr.B6 268 2 (Tr.C9 _ (kk [19,18,10,8,6,5,3] rfl) (fun (o:List (Int×Int)) (k:Nat) u=>[(20,int ((k:Nat):Int)),(13,Ab u (uses o))]) (fun (o:List (Int×Int)) (k:Nat) u=>Hp M0 w0 FO ([As 268 2 u])) (fun (o:List (Int×Int)) (k:Nat)=>k≤all.length∧o.length≤k) (fun (o:List (Int×Int)) (k:Nat)=>all.length-k) ([]) (0) (.slice none 0 0) (⟨Nat.zero_le _,by simp⟩) ⟨kq,⟨_,rfl,Bl rfl⟩,trivial⟩ (fun _ _ h=>h) ?_))
 rintro o k u ⟨hk0,i6⟩
 refine ac ?_
 refine Tr.seq ?_
 refine Tr.cn rfl ?_ ?_<;>intro h1 q1
 have hk:k<all.length:=AH h1
 obtain ⟨y,hy⟩:=at_ hk
 refine ac ?_
 refine Tr.seq (Tr.block (Tr.seq (Tr.Ap (tp rfl (AD rfl underlying331 CB vq vq AA (Aa hy)) (tp rfl (AQ rfl Ct CB vq rfl rfl) ?_)))))
 refine Tl rfl rfl rfl rfl JS Fe (fun b1=> ?_)
 refine sf 0 15 ⟨rfl,rfl,rfl⟩ rfl rfl rfl rfl ?_
 refine ao ?_
 refine wk [20,19,18,15,13,10,8,6,5,3] rfl ?_
 refine ac ?_
 refine co rfl (AV rfl (Zk he) ⟨kq,kz⟩) ?_
 refine ac ?_
 refine wk [20,19,18,17,16,15,13,10,8,6,5,3] rfl (Tr.seq (Tr.ex 17 rfl fun x17=>(Tr.ex 16 rfl fun x16=> ?_)))
 refine ag ?_ ?_<;>intro h2 q2
 refine ac ?_
 refine wk [38,20,19,18,15,13,10,8,6,5,3] rfl ?_
 refine Tr.cn rfl ?_ ?_<;>intro h3 q3
 refine ao ?_
 refine TO.DQ 0 rfl rfl AB (B1 rfl rfl rfl rfl underlying331 CB bX JS HA GG (Ax BN Ja)) (fun v1=> ?_)
 refine ao ?_
 refine wk [20,19,18,13,10,8,6,5,3] rfl ?_
 refine ac ?_
 exact Fin.Bi (o++[(y.1,y.2)]) (k+1) v1 (⟨⟨by omega,by simp;omega⟩,by omega⟩) ⟨⟨_,rfl,AG k⟩,⟨_,rfl,BC DI⟩,kz⟩ (fun _ _ h=>h)
 refine a2 ?_
 exact Fin.Bi (o) (k+1) u (⟨⟨by omega,by omega⟩,by omega⟩) ⟨⟨_,rfl,AG k⟩,⟨_,rfl,BC rfl⟩,kz⟩ (fun _ _ h=>h)
 refine ac ?_
 refine wk [38,20,19,18,15,13,10,8,6,5,3] rfl ?_
 refine a2 ?_
 exact Fin.Bi (o) (k+1) u (⟨⟨by omega,by omega⟩,by omega⟩) ⟨⟨_,rfl,AG k⟩,⟨_,rfl,BC rfl⟩,kz⟩ (fun _ _ h=>h)
 have hk:=AJ h1
 refine a3 ?_
 · exact Oz
theorem VZ {a b:Dc} {i:Int} {x x2:IE} {c s c2 s2:B_} (ha:KG a i x c s) (hb:KG b i x2 c2 s2):BD prog 285 [agg (CE a),agg (CE b),int i] (dS):=by
 refine fo func285 rfl ⟨rfl,rfl⟩ fun M0 w0=> ?_
 refine ac ?_
 refine ao ?_
 refine tp rfl (CK (OX ha) rfl rfl rfl) ?_
 refine TO.ex 16 rfl (fun z1=>TO.fact 16 rfl fun Eg=> ?_)
 refine ao ?_
 refine ac ?_
 refine ao ?_
 refine tp rfl (CK (OX hb) rfl rfl rfl) ?_
 refine TO.ex 19 rfl (fun z2=>TO.fact 19 rfl fun IL=> ?_)
 refine ao ?_
 refine wk [21,20,19,8,7,4,3,2] rfl (Tr.block (Tr.B6 268 2 (Tr.C9 _ (kk [20,19,7,4,3,2] rfl) (fun (o:List (Int×Int)) (k:Nat) u=>[(21,int ((k:Nat):Int)),(8,Ab u (uses o))]) (fun (o:List (Int×Int)) (k:Nat) u=>Hp M0 w0 FO ([As 268 2 u])) (fun (o:List (Int×Int)) (k:Nat)=>k≤z2.length∧o.length≤k) (fun (o:List (Int×Int)) (k:Nat)=>z2.length-k) ([]) (0) (.slice none 0 0) (⟨Nat.zero_le _,by simp⟩) ⟨ke rfl,⟨_,rfl,Bl rfl⟩,trivial⟩ (fun _ _ h=>h) ?_)))
 rintro o k u ⟨hk0,i6⟩
 refine ac ?_
 refine Tr.seq ?_
 refine Tr.cn rfl ?_ ?_<;>intro h1 q1
 have hk:k<z2.length:=AH h1
 obtain ⟨y,hy⟩:=at_ hk
 refine ac ?_
 refine Tr.seq (Tr.block (Tr.seq (Tr.Ap (tp rfl (AD rfl underlying331 CB (vl rfl) (vl rfl) AA (Aa hy)) (tp rfl (AQ rfl Ct CB (vl rfl) rfl rfl) ?_)))))
 refine Tl rfl rfl rfl rfl JS Fe (fun b1=> ?_)
 refine sf 0 10 ⟨rfl,rfl,rfl⟩ rfl rfl rfl rfl ?_
 refine ao ?_
 refine wk [21,20,19,10,8,7,4,3,2] rfl ?_
 refine a2 ?_
 refine Tr.block (Tr.BA _ (kk [26,25,21,20,19,10,8,7,4,3,2] rfl) (fun m:Nat=>[(27,int ((m:Nat):Int)),(11,EJ)]) (fun m:Nat=>m≤(z1).length) (fun m:Nat=>(z1).length-m) 0 (Nat.zero_le _) ⟨ke rfl,⟨_,rfl,Aw _ Lr⟩,trivial⟩ ?_)
 rintro m LC
 refine Tr.ex 11 rfl fun x11=> ?_
 refine ac ?_
 refine wk [28,27,26,25,21,20,19,11,10,8,7,4,3,2] rfl (Tr.seq ?_)
 refine Tr.cn rfl ?_ ?_<;>intro h2 q2
 have D7:m<(z1).length:=AH h2
 obtain ⟨w,D_⟩:=at_ D7
 refine ac ?_
 refine wk [27,26,25,21,20,19,11,10,8,7,4,3,2] rfl (Tr.seq (Tr.block (Tr.seq (Tr.Ap (tp rfl (AD rfl underlying331 CB (vl rfl) (vl rfl) AA (Aa D_)) (tp rfl (AQ rfl Ct CB (vl rfl) rfl rfl) ?_))))))
 refine Tl rfl rfl rfl rfl JS Fe (fun b2=> ?_)
 refine sf 0 13 ⟨rfl,rfl,rfl⟩ rfl rfl rfl rfl ?_
 refine ao ?_
 · repeat' first|exact Fin.AL (m+1) ⟨D7,by omega⟩ ⟨⟨_,rfl,AG m⟩,⟨_,rfl,Aw _ Lr⟩,kz⟩|refine cy h rfl (og rfl (vl rfl) (vl rfl)) ?_|refine ac ?_|(refine Ch.cg rfl rfl rfl ?_ ?_<;>intro h q)
 have Ip:m=(z1).length:=by have:=AJ h2;omega
 subst Ip
 refine ac ?_
 refine wk [21,20,19,11,10,8,7,4,3,2] rfl ?_
 refine ag ?_ ?_<;>intro h4 q4
 refine ac ?_
 refine wk [50,21,20,19,10,8,7,4,3,2] rfl (Tr.cond rfl (fun _=> ?_) (fun h=>nomatch h))
 refine Tr.Ap (tm rfl (tp rfl (AQ rfl Ct CB (vl rfl) rfl rfl) (tp rfl (AM (xs:=[.tmp 52]) (rows:=[_]) rfl rfl underlying331 CB JS rfl AB ⟨⟨Am,(Va rfl)⟩,trivial⟩ AB) ?_)))
 refine TO.DQ 0 rfl rfl AB (B1 rfl rfl rfl rfl underlying331 CB bX JS (Kb rfl) (Kf rfl) (Ax BN (Ka rfl))) (fun v1=> ?_)
 refine ao ?_
 refine wk [21,20,19,8,7,4,3,2] rfl ?_
 refine ac ?_
 exact Fin.Bi (o++[(y.1,y.2)]) (k+1) v1 (⟨⟨by omega,by simp;omega⟩,by omega⟩) ⟨⟨_,rfl,AG k⟩,⟨_,rfl,BC DI⟩,kz⟩ (fun _ _ h=>h)
 refine ac ?_
 refine cy h4 rfl (CK (KH ha) rfl rfl rfl) ?_
 refine ac ?_
 refine cy h4 rfl (CK (KH hb) rfl rfl rfl) (cy h4 rfl (AQ rfl Ct CB (vl rfl) rfl rfl) (cy h4 rfl (K0 (Zl ha.ss hb.ss) rfl rfl rfl rfl) (cy h4 rfl (I3 rfl (vl rfl)) ?_)))
 refine ac ?_
 refine wk [50,21,20,19,10,8,7,4,3,2] rfl (Tr.ex 50 rfl fun AGJ=> ?_)
 refine Tr.cn rfl ?_ ?_<;>intro h5 q5
 refine ao ?_
 refine TO.DQ 0 rfl rfl AB (B1 rfl rfl rfl rfl underlying331 CB bX JS (Kb rfl) (Kf rfl) (Ax BN (Ka rfl))) (fun v2=> ?_)
 refine ao ?_
 refine wk [21,20,19,8,7,4,3,2] rfl ?_
 refine ac ?_
 exact Fin.Bi (o++[(y.1,y.2)]) (k+1) v2 (⟨⟨by omega,by simp;omega⟩,by omega⟩) ⟨⟨_,rfl,AG k⟩,⟨_,rfl,BC DI⟩,kz⟩ (fun _ _ h=>h)
 refine a2 ?_
 exact Fin.Bi (o) (k+1) u (⟨⟨by omega,by omega⟩,by omega⟩) ⟨⟨_,rfl,AG k⟩,⟨_,rfl,BC rfl⟩,kz⟩ (fun _ _ h=>h)
 have hk:=AJ h1
 refine a3 ?_
 · exact Oz
theorem gZ {a b:Dc} {d:Int} (ha:a.fits) (hb:b.fits):BD prog 254 [agg (CE a),agg (CE b),Mw,Rk,VY,int d] (Cp.ex fun z:List Int×Int=>fact (z.1.length≤1000) (EA [ints z.1,int z.2])):=by
 refine fo func254 rfl ⟨rfl,rfl⟩ fun M0 w0=>(Tr.HB 0 1 rfl rfl fun Kj=> ?_)
 refine ac ?_
 refine ap ?_
 refine tp rfl (CK (gX ha hb) rfl rfl rfl) ?_
 refine TO.ex 20 rfl (fun z1=>TO.fact 20 rfl fun Eg=> ?_)
 refine ap ?_
 refine ac ?_
 refine wk [22,14,10,8,7,6,5,3] rfl ?_
 refine Tr.cn rfl ?_ ?_<;>intro h1 q1
 refine ac ?_
 refine Tr.ret (Fin.AE (Fin.Ba rfl (AO.tmp rfl Lr) (AO.tmp rfl Lr) ?_))
 · exact P9
 obtain ⟨hAe,hBe,Xx⟩:=Eg (by have:=q1;omega)
 have h40:=(FP.1 hAe).e40
 refine a2 ?_
 refine co rfl (K0 (KF) rfl rfl rfl rfl) ?_
 refine ac ?_
 refine Tr.seq (Tr.ex 15 rfl fun x15=> ?_)
 refine ac ?_
 refine wk [29,15,10,8,7,6,5,3] rfl ?_
 refine Tr.cn rfl ?_ ?_<;>intro h2 q2
 refine ac ?_
 refine Tr.ret (Fin.AE (Fin.Ba rfl (AO.tmp rfl Lr) (AO.tmp rfl Lr) ?_))
 · exact P9
 refine a3 ?_
 refine Tr.block (Tr.B6 3 1 (Tr.C9 _ (kk [33,10,8,7,6,5,3] rfl) (fun (o:List Int) (k:Nat) u=>[(34,int ((k:Nat):Int)),(16,Ab u (ints o))]) (fun (o:List Int) (k:Nat) u=>Hp M0 w0 FO ([As 3 1 u])) (fun (o:List Int) (k:Nat)=>k≤a.BS.length∧o.length≤k) (fun (o:List Int) (k:Nat)=>a.BS.length-k) ([]) (0) (.slice none 0 0) (⟨Nat.zero_le _,by simp⟩) ⟨kq,⟨_,rfl,Bl rfl⟩,trivial⟩ (fun _ _ h=>h) ?_))
 rintro o k u ⟨hk0,i6⟩
 refine ac ?_
 refine Tr.seq ?_
 refine Tr.cn rfl ?_ ?_<;>intro h3 q3
 have hk:k<a.BS.length:=AH h3
 obtain ⟨_,_,_,hea⟩:=oa (i:=((k:Nat):Int)) ha hAe AA AA
 obtain ⟨_,_,_,heb⟩:=oa (i:=((k:Nat):Int)) hb hBe AA AA
 refine a3 ?_
 refine co rfl (CK (KH heb) rfl rfl rfl) ?_
 refine ac ?_
 refine co rfl (K0 (VZ hea heb) rfl rfl rfl rfl) ?_
 refine ac ?_
 refine co rfl (AV rfl (BD.outs fun z hz=>gY heb.ss hz) ⟨kq,kz⟩) (co rfl (Ae.M_ 48 rfl AB fun z=>Ae.opf 48 rfl AB fun _=>Ae.le (Ca rfl underlying331 vq) (Aw _ Lr)) (co rfl (yw rfl (VL.le vq Zi) (VL.le vq (DA _ _))) ?_))
 refine ac ?_
 refine wk [50,34,33,17,16,10,8,7,6,5,3] rfl (Tr.ex 50 rfl fun AGJ=> ?_)
 refine Tr.cn rfl ?_ ?_<;>intro h4 q4
 refine ap ?_
 refine TO.DQ 0 rfl rfl AB (B1 rfl rfl rfl rfl underlying22 Bt He z3 HA GG (Ax BN Ja)) (fun v1=> ?_)
 refine ap ?_
 refine wk [34,33,16,10,8,7,6,5,3] rfl ?_
 refine ac ?_
 exact Fin.Bi (o++[((k:Nat):Int)]) (k+1) v1 (⟨⟨by omega,by simp;omega⟩,by omega⟩) ⟨⟨_,rfl,AG k⟩,⟨_,rfl,BC DI⟩,kz⟩ (fun _ _ h=>h)
 refine a2 ?_
 exact Fin.Bi (o) (k+1) u (⟨⟨by omega,by omega⟩,by omega⟩) ⟨⟨_,rfl,AG k⟩,⟨_,rfl,BC rfl⟩,kz⟩ (fun _ _ h=>h)
 have hk:=AJ h3
 refine a2 ?_
 refine Tr.ret (Fin.Ba rfl (AO.tmp rfl Lr) (AO.tmp rfl Lr) ?_)
 · exact YN
end Go.Proofs.YtmocaapoeefgkaaGreatDoor
