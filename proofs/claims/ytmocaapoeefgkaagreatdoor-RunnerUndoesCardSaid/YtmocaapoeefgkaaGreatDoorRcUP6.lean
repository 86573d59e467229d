/-
  Part 6 of the texts that prove this claim, merged.
-/
import Derived.Test.YtmocaapoeefgkaaGreatDoorRcUP5
set_option linter.all false
set_option maxRecDepth 40000
set_option maxHeartbeats 16000000
namespace Cp
open Go Go.RowKit Go.Great
section
variable {P:Program} {L:Lg P} {n:Fm} {fz:Nat} {E:Env} {M0:Av} {w0:World} {S:Nat→Prop} {o:Oper}
def KS (p:Pr) (v:Value):At:=⟨none,true,fun M w=>p.h M w v,fun M w M' w' he _ h=>p.st M w M' w' v he h⟩
def wI (e:TypeId) (zs:List Value) (v:Value):At:=match v with| .slice (some a) _ _=>AF true a.block e (zs.map is)|_=>Bu
def om (R:Value→Value→Value→At) (u:Value):At:=match u with| .tuple t=>R (t.getD 1 undef) (t.getD 2 undef) (t.getD 0 undef)|_=>Bu
def T5 (R:Value→Value→At) (u:Value):At:=match u with| .tuple t=>R (t.getD 1 undef) (t.getD 0 undef)|_=>Bu
theorem Z8 {a:Act} {d s t:Nat} {R:Value→Value→Value→At}:SR.at_ a ⟨.three d s t,om R⟩=R (a.tmps.getD s undef) (a.tmps.getD t undef) (a.tmps.getD d undef):=rfl
theorem NL {a:Act} {d s:Nat} {R:Value→Value→At}:SR.at_ a ⟨.two d s,T5 R⟩=R (a.tmps.getD s undef) (a.tmps.getD d undef):=rfl
theorem D4.conv {a:Act} {M:Av} {w:World} {p q:Pr} {j:Nat} {R1 R2:SR} {rs:List At} {r:Result Next} (hq:Pr.le p q) (hR:∀v,R1.at_ (a.put o.dst v)=R2.at_ (a.put o.dst v)) (h:D4 P M0 w0 S o a M w p j R1 rs r):D4 P M0 w0 S o a M w q j R2 rs r:=by
 cases r with
 |halt x w'=>exact h
 |ok x w'=>
  cases x
  case value v=>obtain ⟨M',g1,g2,g3⟩:=h;exact ⟨M',hq _ _ _ g1,g2,by rw [←hR];exact g3⟩
  case skip=>obtain ⟨M',g1,g2,g3⟩:=h;exact ⟨M',hq _ _ _ g1,g2,by rw [←hR];exact g3⟩
  case enter f args=>
   refine Calls.mono h ?_
   rintro e w'' ⟨v,M',g0,g1,g2,g3⟩
   exact ⟨v,M',g0,hq _ _ _ g1,g2,by rw [←hR];exact g3⟩
  all_goals exact h
theorem GK {M:Av} {w:World} {a:Act} (h:Cc M w E o a) (s:Nat) {p0:Pr} (hp0:p0.h M w (a.tmps.getD s undef)):Cc M w ((s,Ad (a.tmps.getD s undef) p0)::E) o a:=fun c p hc hp=>by
 simp only [List.lookup] at hp
 by_cases hcs:c=s
 · subst hcs;simp only [beq_self_eq_true,Option.some.injEq] at hp;subst hp;exact ⟨rfl,hp0⟩
 · rw [show (c==s)=false by simpa using hcs] at hp;exact h c p hc hp
theorem oo {j d s t:Nat} {R:SR} {p1 p2 q:Pr} {p:Value→Value→Pr} {R':Value→Value→Value→At} (hd:o.dst=some d) (hs:d≠s) (ht:d≠t) (hq:∀v1 v2,Pr.le (p v1 v2) q) (hg:o.guard=none) (h1:E.lookup s=some p1) (h2:E.lookup t=some p2) (hls:s∈looks o) (hlt:t∈looks o) (h:∀v1 v2,DI P M0 w0 S n j R ⟨d,R' v1 v2⟩ o ((s,Ad v1 p1)::(t,Ad v2 p2)::E) (p v1 v2)):DI P M0 w0 S n j R ⟨.three d s t,om R'⟩ o E q:=by
 refine ⟨hg,fun M w a rs hsz he hI hj=> ?_⟩
 refine D4.conv (hq _ _) (fun v=> ?_) ((h (a.tmps.getD s undef) (a.tmps.getD t undef)).2 M w a rs hsz (GK (GK he t (he t p2 hlt h2)) s (he s p1 hls h1)) hI hj)
 rw [Z8,hd,BZ (Ne.symm hs),BZ (Ne.symm ht)];rfl
theorem V1 {j d:Nat} {p:Pr} (hg:o.guard=none) (hd:o.dst=some d) (hn:d<n) (h:∀I,Ag P I o E p):DI P M0 w0 S n j (SR.c Bu) ⟨d,KS p⟩ o E p:=by
 refine ⟨hg,fun M w a rs hsz he hI hj=> ?_⟩
 have hj':rs[j]? =some Bu:=hj
 have hat:∀v,SR.at_ (a.put o.dst v) ⟨d,KS p⟩=KS p v:=fun v=>by show KS p ((a.put o.dst v).tmps.getD d undef)=_;rw [hd,B6 G8]
 have hg2:=h (Hp M0 w0 S rs) M w a he hI
 revert hg2
 generalize (execOp a.eval o).run P w=r
 intro hg2
 have key:∀v w',p.h M w' v→Below w.heap.size w w'→∃M',p.h M' w' v∧Ext M w M' w'∧A9 M0 w0 S (rs.set j (SR.at_ (a.put o.dst v) ⟨d,KS p⟩)) M' w':=fun v w' hv hb=>by
  refine ⟨M,hv,Ext.below hb,?_⟩
  rw [hat]
  exact A9.C4 ((Hp M0 w0 S rs).st _ _ _ hb hI) hj' rfl rfl hv
 cases r with
 |halt x w'=>exact hg2
 |ok x w'=>
  cases x
  case value v=>exact key v w' hg2.1 hg2.2
  case skip=>exact key undef w' hg2.1 hg2.2
  case enter f args=>
   obtain ⟨hb,hc⟩:=hg2
   refine Calls.mono hc ?_
   rintro e w'' ⟨v,g0,g1,g2⟩
   obtain ⟨M',k1,k2,k3⟩:=key v w'' g1 (OS hb g2)
   exact ⟨v,M',g0,k1,k2,k3⟩
  all_goals exact hg2
theorem oq {t e:TypeId} {x y:Operand} {d j m fy:Nat} {z:Value} (hg:o.guard=none) (hd:o.dst=some d) (hn:d<n) (ho:o.op= .makeSlice t x y) (ht:P.underlying t=some (.slice e)) (hs:BB P e=some 1) (hby:Bz P e=some fy) (hz:Ba P e=some [z]) (h1:z.oneCell'=true)
  (hx:VL E x (int ((m:Nat):Int))) (hy:VL E y (int ((m:Nat):Int))) (hm:m≤maxLen) (hb:fy*m≤281474976710656):DI P M0 w0 S n j (SR.c Bu) ⟨d,wI e (List.replicate m z)⟩ o E (Cp.ex fun b=>is (Jl m b)):=by
 refine ⟨hg,fun M w a rs Yz he hI hj=> ?_⟩
 have hx1:a.eval x= .int .i64 m:=hx.ev he Au
 have hy1:a.eval y= .int .i64 m:=hy.ev he Au
 have hi:∃i,P.info? e=some i∧i.size=1∧i.bytes=fy∧∃z',i.zero=some z'∧z'.cells= #[z]:=by
  unfold BB at hs;unfold Bz at hby;unfold Ba at hz
  cases hi:P.info? e with
  |none=>rw [hi] at hs;cases hs
  |some i=>
   rw [hi] at hs hby hz
   simp at hs hby hz
   obtain ⟨z',h2,h3⟩:=hz
   exact ⟨i,rfl,hs,hby,z',h2,by rw [←Array.toList_inj,h3]⟩
 obtain ⟨i,hi,hi1,hi2,z',Ef,Iv⟩:=hi
 have hmk:madeCells z'.cells m=(List.replicate m z).toArray:=by
  rw [Iv]
  apply Array.ext
  · simp [madeCells]
  ·
   intro j h1 h2
   simp [madeCells,Nat.mod_one]
 have hrun:=run_make (P:=P) w t e i z' ht hi Ef .i64 .i64 (m:Int) (m:Int) AA (Int.le_refl _) (by rw [hi2];have h0:((fy*m:Nat):Int)≤281474976710656:=Int.ofNat_le.2 hb;rw [←Int.natCast_mul];exact h0) Uw
 rw [hi1] at hrun
 simp only [Int.toNat_natCast,Nat.mul_one] at hrun
 rw [hmk] at hrun
 have E6:(execOp a.eval o).run P w= .ok (.value (Jl m w.heap.size)) (w.alloc (.cells (List.replicate m z).toArray e)):=by simp [execOp,ho,hx1,hy1,hrun]
 rw [E6]
 have hb:Below w.heap.size w (w.alloc (.cells (List.replicate m z).toArray e)):=(Below.refl _ _).alloc (Nat.le_refl _) _
 have h2:=Ext.below (M:=M) hb
 have E4:Ext M w (fun b o=>M b o∨b=w.heap.size) (w.alloc (.cells (List.replicate m z).toArray e)):=by
  refine ⟨h2.size,fun a v hc hm=>⟨fun hx=> ?_,(h2.keep a v hc hm).2⟩,fun b o ho hp hm=>⟨fun hx=> ?_,(h2.obj b o ho hp hm).2⟩⟩
  ·
   rcases hx with hx|hx
   · exact Cb
   · exact FC
  ·
   rcases hx with hx|hx
   · exact Cb
   · exact FD
 have hs1:(w.alloc (.cells (List.replicate m z).toArray e)).heap.size=w.heap.size+1:=by simp
 have hat:(SR.at_ (a.put o.dst (Jl m w.heap.size)) ⟨d,wI e (List.replicate m z)⟩)=AF true w.heap.size e ((List.replicate m z).map is):=by unfold SR.at_ Slot.val;dsimp only;rw [hd,B6 Is];rfl
 refine ⟨fun b o=>M b o∨b=w.heap.size,⟨_,rfl⟩,E4,?_⟩
 rw [hat]
 refine hI.replace hj E4 hb.os hb.tape hb.output (fun k hk _=>hb.block k hk) rfl (fun b o hm _=> .inl hm) (fun b o hx=> ?_) ?_ rfl (fun b hbk=> ?_)
 ·
  rcases hx with hx|hx
  · have:=hI.bd _ _ hx;omega
  · omega
 · exact ⟨fun o=> .inr rfl,List.replicate m z,heap_alloc_new w _,J1 _ _ _,fun c hc=>by rw [List.eq_of_mem_replicate hc];exact h1⟩
 ·
  have Ex:some w.heap.size=some b:=hbk
  injection Ex with e1
  subst e1
  exact ⟨by rw [hs1];omega,.inr (Nat.le_refl _)⟩
theorem Ik {s:Nat} {op:Op} (h:(Operand.tmp s)∈op.operands.toList) (ho:o.op=op):s∈looks o:=List.mem_filterMap.2 ⟨_,by rw [ho];exact h,rfl⟩
theorem uT {d j s x y:Nat} {T:TypeId} {ps:Value→Value→List Pr} (hg:o.guard=none) (hd:o.dst=some d) (hn:d<n) (ho:o.op= .box T (.tmp s)) (hx:d≠x) (hy:d≠y):
  DI P M0 w0 S n j ⟨.three s x y,om fun v1 v2=>KS (agg (ps v1 v2))⟩ ⟨.three d x y,om fun v1 v2=>El T (ps v1 v2)⟩ o E (Cp.ex fun b=>ptr b 0):=by
 refine ⟨hg,fun M w a rs hsz he hI hj=> ?_⟩
 have hj':rs[j]? =some (KS (agg (ps (a.tmps.getD x undef) (a.tmps.getD y undef))) (a.tmps.getD s undef)):=hj
 have hjl:j<rs.length:=by rcases Nat.lt_or_ge j rs.length with h|h;exact h;rw [List.getElem?_eq_none h] at hj';cases hj'
 have hr:=(hI.hold _ (List.mem_of_getElem? hj')).1
 have hI2:A9 M0 w0 S (rs.set j Bu) M w:=A9.C4 hI hj' rfl rfl trivial
 have he2:Cc M w ((s,agg (ps (a.tmps.getD x undef) (a.tmps.getD y undef)))::E) o a:=fun c p hc hp=>by
  simp only [List.lookup] at hp
  by_cases hcs:c=s
  · subst hcs;simp only [beq_self_eq_true,Option.some.injEq] at hp;subst hp;exact hr
  · rw [show (c==s)=false by simpa using hcs] at hp;exact he c p hc hp
 have h:=(uH (P:=P) (M0:=M0) (w0:=w0) (S:=S) (n:=n) (j:=j) (T:=T) (ps:=ps (a.tmps.getD x undef) (a.tmps.getD y undef)) (E:=(s,agg (ps (a.tmps.getD x undef) (a.tmps.getD y undef)))::E) hg hd hn ho (VL.le ⟨_,List.lookup_cons_self,Pr.le_refl _⟩ (Ae _))).2 M w a _ hsz he2 hI2 (by rw [List.getElem?_set_self hjl];rfl)
 have h2:D4 P M0 w0 S o a M w (Cp.ex fun b=>ptr b 0) j ⟨d,El T (ps (a.tmps.getD x undef) (a.tmps.getD y undef))⟩ rs ((execOp a.eval o).run P w):=by
  revert h
  generalize (execOp a.eval o).run P w=r
  intro h
  cases r with
  |halt x w'=>exact h
  |ok x w'=>
   cases x
   case value v=>simpa only [D4,List.set_set] using h
   case skip=>simpa only [D4,List.set_set] using h
   case enter f args=>simpa only [D4,List.set_set] using h
   all_goals exact h
 refine D4.conv (Pr.le_refl _) (fun v=> ?_) h2
 rw [Z8,hd,BZ (Ne.symm hx),BZ (Ne.symm hy)];rfl
theorem iG {t:TypeId} {s y:Tmp} {j:Nat} {T:TypeId} {ps:List Pr} {p:Pr} [One p] (hg:o.guard=none) (hd:o.dst=none) (ho:o.op= .store t (.tmp s) (.tmp y)) (hsy:s≠y) (hx:E.lookup s=some (Cp.ex fun b=>ptr b 0)) (hy:E.lookup y=some p)
  (hz:BB P t=some 1) (hl:ps.length=1):DI P M0 w0 S n j ⟨s,El T ps⟩ ⟨.two s y,T5 fun v=>El T [Ad v p]⟩ o E any:=by
 refine ⟨hg,fun M w a rs hsz he hI hj=> ?_⟩
 have hyl:y∈looks o:=Ik (op:= .store t (.tmp s) (.tmp y)) Mc ho
 have he2:Cc M w ((y,Ad (a.tmps.getD y undef) p)::E) o a:=fun c q hc hq=>by
  simp only [List.lookup] at hq
  by_cases hcs:c=y
  · subst hcs;simp only [beq_self_eq_true,Option.some.injEq] at hq;subst hq;exact ⟨rfl,he _ p hyl hy⟩
  · rw [show (c==y)=false by simpa using hcs] at hq;exact he c q hc hq
 have h:=(CZ (P:=P) (M0:=M0) (w0:=w0) (S:=S) (n:=n) (j:=j) (T:=T) (ps:=ps) (qs:=[Ad (a.tmps.getD y undef) p]) (E:=(y,Ad (a.tmps.getD y undef) p)::E) hg hd ho bP (VL.le ⟨_,List.lookup_cons_self,Pr.le_refl _⟩ (AY _)) hz rfl hl).2 M w a rs hsz he2 hI hj
 refine D4.conv (Pr.le_refl _) (fun v=> ?_) h
 rw [NL,hd];rfl
theorem BE.Z9 {Q:Exit→Act→World→Prop} {rs:List SR} (s:Nat) {p:Pr} (hs:E.lookup s=some p) (k:∀v,BE n M0 w0 S ((s,Ad v p)::E) rs Q):BE n M0 w0 S E rs Q:=by
 rintro a w ⟨M,g1,g2,g3,g4⟩
 refine k (a.tmps.getD s undef) a w ⟨M,g1,g2,fun c z hz=> ?_,g4⟩
 simp only [List.lookup] at hz
 by_cases hcs:c=s
 · subst hcs;simp only [beq_self_eq_true,Option.some.injEq] at hz;subst hz;exact ⟨rfl,g3 c p hs⟩
 · rw [show (c==s)=false by simpa using hcs] at hz;exact g3 c z hz
theorem BE.fix {Q:Exit→Act→World→Prop} {rs:List SR} (j:Nat) {R:SR} (r:At) (hR:rs[j]? =some R) (hs:∀a:Act,(∃M w,FY M w E a)→R.at_ a=r) (k:BE n M0 w0 S E (rs.set j (SR.c r)) Q):BE n M0 w0 S E rs Q:=by
 rintro a w ⟨M,g1,g2,g3,g4⟩
 refine k a w ⟨M,g1,g2,g3,?_⟩
 have e:=hs a ⟨M,w,g3⟩
 have e3:(rs.set j (SR.c r)).map (·.at_ a)=rs.map (·.at_ a):=by
  apply List.ext_getElem?
  intro m
  rw [List.getElem?_map,List.getElem?_map,List.getElem?_set]
  by_cases him:j=m
  ·
   subst him
   have hjl:j<rs.length:=by rcases Nat.lt_or_ge j rs.length with h|h;exact h;rw [List.getElem?_eq_none h] at hR;cases hR
   rw [if_pos rfl,if_pos hjl,hR]
   show some ((SR.c r).at_ a)=some (R.at_ a)
   rw [e];rfl
  · rw [if_neg him]
 rw [e3];exact g4
theorem OB {M:Av} {w:World} {a:Act} {s:Nat} {v:Value} {p:Pr} (h:FY M w E a) (hs:E.lookup s=some (Ad v p)):a.tmps.getD s undef=v:=(h s _ hs).1
theorem BE.V2 {Q:Exit→Act→World→Prop} {rs:List SR} (j s:Nat) {f:Value→At} {v:Value} {p:Pr} (hR:rs[j]? =some ⟨s,f⟩) (hs:E.lookup s=some (Ad v p)) (k:BE n M0 w0 S E (rs.set j (SR.c (f v))) Q):BE n M0 w0 S E rs Q:=
 BE.fix j _ hR (fun a ⟨_,_,h⟩=>by show f (a.tmps.getD s undef)=_;rw [OB h hs]) k
theorem BE.iH {Q:Exit→Act→World→Prop} {rs:List SR} (j d s:Nat) {f:Value→Value→At} {u v:Value} {p q:Pr} (hR:rs[j]? =some ⟨.two d s,T5 f⟩) (hd:E.lookup d=some (Ad u p)) (hs:E.lookup s=some (Ad v q)) (k:BE n M0 w0 S E (rs.set j (SR.c (f v u))) Q):BE n M0 w0 S E rs Q:=
 BE.fix j _ hR (fun a ⟨_,_,h⟩=>by rw [NL,OB h hs,OB h hd]) k
theorem BE.AC5 {Q:Exit→Act→World→Prop} {rs:List SR} (j d s t:Nat) {f:Value→Value→Value→At} {u v1 v2:Value} {p q1 q2:Pr} (hR:rs[j]? =some ⟨.three d s t,om f⟩) (hd:E.lookup d=some (Ad u p)) (hs:E.lookup s=some (Ad v1 q1)) (ht:E.lookup t=some (Ad v2 q2)) (k:BE n M0 w0 S E (rs.set j (SR.c (f v1 v2 u))) Q):BE n M0 w0 S E rs Q:=
 BE.fix j _ hR (fun a ⟨_,_,h⟩=>by rw [Z8,OB h hs,OB h ht,OB h hd]) k
end
section
variable {P:Program} {L:Lg P} {n:Fm} {fz:Nat} {E:Env} {I:Ck} {M0:Av} {w0:World} {S:Nat→Prop} {rs:List At} {Q:Exit→Act→World→Prop} {c:Code}
theorem Fin.shape {e:Exit} (s:Nat) {v:Value} (form:Nat→Value) (hs:E.lookup s=some (Ad v (Cp.ex fun b=>is (form b)))) (k:∀b,v=form b→Fin n ((s,is (form b))::E) (Hp M0 w0 S rs) Q e):Fin n E (Hp M0 w0 S rs) Q e:=by
 intro a w hst
 obtain ⟨M,h1,h2,he,h4⟩:=hst
 obtain ⟨h5,b,h6⟩:=he s _ hs
 have hv:v=form b:=by rw [←h5];exact h6
 refine k b hv a w ⟨M,h1,h2,fun c z hz=> ?_,h4⟩
 simp only [List.lookup] at hz
 by_cases hcs:c=s
 · subst hcs;simp only [beq_self_eq_true,Option.some.injEq] at hz;subst hz;exact h6
 · rw [show (c==s)=false by simpa using hcs] at hz;exact he c z hz
theorem Fin.Je {e:Exit} (j:Nat) {r:At} (r':At) (hi:rs[j]? =some r) (h:r=r') (k:Fin n E (Hp M0 w0 S (rs.set j r')) Q e):Fin n E (Hp M0 w0 S rs) Q e:=by
 subst h
 have hjl:j<rs.length:=by rcases Nat.lt_or_ge j rs.length with h|h;exact h;rw [List.getElem?_eq_none h] at hi;cases hi
 have e1:rs.set j r=rs:=by
  apply List.ext_getElem?
  intro m
  rw [List.getElem?_set]
  by_cases him:j=m
  · subst him;rw [if_pos rfl,if_pos hjl,hi]
  · rw [if_neg him]
 rw [e1] at k;exact k
theorem Tr.AC6 {α:Type} (ni:α→Fm) (Ei:α→Env) (Ii:α→Ck) (C:α→Prop) (μ:α→Nat) (x0:α) (hn:ni x0=n) (h0:C x0) (hs:CU E (Ei x0)) (hI:∀M w,I.h M w→(Ii x0).h M w)
  (k:∀x,C x→Tr L (ni x) (Ei x) (Ii x) c (Exit.then (fun a w=>∃y,(C y∧μ y<μ x)∧St (ni y) (Ei y) (Ii y) a w) Q)):Tr L n E I (.loop c) Q:=by
 intro a w hst
 refine L.loop μ (fun x a w=>C x∧St (ni x) (Ei x) (Ii x) a w) (fun x a w ⟨hc,h⟩=> ?_) x0 a w ⟨h0,?_⟩
 ·
  refine L.mono ?_ (k x hc a w h)
  intro e a w hq
  cases e with
  |normal=>obtain ⟨y,⟨h1,h2⟩,h3⟩:=hq;exact ⟨y,h2,h1,h3⟩
  |_=>exact hq
 · rw [hn];exact hst.sub hs hI
theorem Fin.KT {e:Exit} {rs':List At} (hp:rs.Perm rs') (k:Fin n E (Hp M0 w0 S rs') Q e):Fin n E (Hp M0 w0 S rs) Q e:=fun a w ⟨M,h1,h2,h3,h4⟩=>k a w ⟨M,h1,h2,h3,A9.perm hp h4⟩
theorem Bj.ofM {f : FuncId} {g : Func} {ps : List Pr} {res : Pr} {R : At} {R' : Value → At} (hf : P.funcs[f]? = some g) (hb : g.body = some c) (hname : (g.name == "runtime.NumGoroutine") = false) (hlen : ps.length ≤ g.ntmps)
  (h:∀M0 w0 S rs M1 w1,Tr (YT P) g.ntmps (Lt 0 ps) (Hp M0 w0 S (R::Al M1 w1::rs)) c (Jd P g (OY M0 w0 S rs M1 w1 res R'))):Bj P f ps res R R':=by
 refine ⟨⟨g,hf,hname,by rw [hb];rfl⟩,fun M0 w0 S rs M w vs hI hv=> ?_⟩
 refine Ot hf hb (h M0 w0 S rs M w _ _ ⟨M,?_,rfl,F9 hv,?_⟩)
 ·
  have:=hv.length
  simp [this];omega
 · exact Yw
end
section
variable {P:Program} {L:Lg P} {n:Fm} {fz:Nat} {E:Env} {I:Ck} {M0:Av} {w0:World} {S:Nat→Prop} {rs:List At} {Q:Exit→Act→World→Prop} {c:Code}
abbrev GL (l D:Nat) (rec:Obj) (M1:Av) (w1:World) (rs:List At):List At:=BO l rec::BO D (.deferred (some []))::Al M1 w1::rs
theorem Tr.yh {α:Type} {p gf:Nat} {g:Operand} {lb:Array Value} {enc:α→Value} {xs:List α} {own:List α→List At} {assign body:Code} (q:Nat) (K:Env) (hK:CU E K) (R:List α→List At)
  (hIt:NJ P gf lb enc xs own) (eg:Entry P gf) (hg:VL E g (is (.func (.func gf) #[] lb))) (O6:rs.Perm (own []++R [])) (hp:K.lookup p=none) (hpn:p<n.sz)
  (hassign:∀l D rec M1 w1 pre x,(pre++[x])<+:xs→Tr (eC P (some l)) ⟨n.sz,[]⟩ ((p,is (enc x))::K) (Hp M0 w0 S (own (pre++[x])++GL l D rec M1 w1 (R pre))) assign (Exit.then (St ⟨n.sz,[]⟩ ((q,is (enc x))::K) (Hp M0 w0 S (own (pre++[x])++GL l D rec M1 w1 (R pre)))) (fun _ _ _=>False)))
  (hbody : ∀ l D rec M1 w1 pre x, (pre ++ [x]) <+: xs → Tr (eC P (some l)) ⟨n.sz, []⟩ ((q, is (enc x)) :: K) (Hp M0 w0 S (own (pre ++ [x]) ++ GL l D rec M1 w1 (R pre))) body
   (JM M0 w0 S (fun _:Unit=>own (pre++[x])++GL l D rec M1 w1 (R (pre++[x]))) (fun _ _=>own (pre++[x])++GL l D rec M1 w1 [CK False])))
  (hdone:∀l D rec M1 w1,Fin ⟨n.sz,mark D::n.df⟩ E (Hp M0 w0 S (own xs++GL l D rec M1 w1 (R xs))) Q .normal):
  Tr (YT P) n E (Hp M0 w0 S rs) (.rangeFunc g #[p] assign body) Q:=by
 refine Tr.n7 (fun x=>(q,is (enc x))::K) (fun pre (_:Unit)=>R pre) (fun _ _ _=>[CK False]) () hIt (fun args w=>EM eg args w) hg O6 ?_ ?_ (fun l D rec M1 w1 _=>hdone l D rec M1 w1) ?_
 ·
  intro l D rec M1 w1 pre x d hpre a hsz hE M w hI
  have hx:Ext M1 w1 M w:=(hI.hold (Al M1 w1) AV).1
  refine hassign l D rec M1 w1 pre x hpre _ w ⟨M,by simpa using hsz,rfl,fun s z hq=> ?_,hI⟩
  simp only [List.lookup] at hq
  by_cases hs:s=p
  ·
   subst hs
   simp only [beq_self_eq_true,Option.some.injEq] at hq
   subst hq
   show (a.tmps.setIfInBounds s (enc x)).getD s undef=enc x
   simp [Array.getD_eq_getD_getElem?,hsz,hpn]
  ·
   rw [show (s==p)=false by simpa using hs] at hq
   obtain ⟨z',Ef,Iv⟩:=hK.spec s z hq
   have h2:=z.st _ _ _ _ _ hx (Iv _ _ _ (hE s z' Ef))
   show z.h M w ((a.tmps.setIfInBounds p (enc x)).getD s undef)
   have e1:(a.tmps.setIfInBounds p (enc x)).getD s undef=a.tmps.getD s undef:=by
    simp only [Array.getD_eq_getD_getElem?]
    rw [Array.getElem?_setIfInBounds_ne (fun e=>hs e.symm)]
   rw [e1];exact h2
 ·
  intro l D rec M1 w1 pre x d hpre
  exact hbody l D rec M1 w1 pre x hpre
 ·
  intro l D rec M1 w1 c pre d hpre a w ⟨M,_,_,_,h⟩
  have h:A9 M0 w0 S (own pre++GL l D rec M1 w1 [CK False]) M w:=h
  exact ((h.hold (CK False) AV).1).elim
theorem Fin.st {E1:Env} {Q':Exit→Act→World→Prop} (hs:CU E E1):Fin n E I (Exit.then (St n E1 I) Q') .normal:=fun _ _ h=>h.sub hs (fun _ _ h=>h)
theorem Fin.rnd {β:Type} {rr:β→List At} {rx:Code→β→List At} (d:β) (hp:rs.Perm (rr d)):Fin n E (Hp M0 w0 S rs) (JM M0 w0 S rr rx) .normal:=fun _ _ ⟨M,_,_,_,h⟩=>⟨d,M,A9.perm hp h⟩
theorem Tr.yj {α β:Type} (K:Env) (hK:CU E K) (ni:α→β→Fm) (Ei:α→β→Env) (Ii:α→β→Ck) (C:α→β→Prop) (μ:α→β→Nat) (x0:α) (y0:β) (hn:ni x0 y0=n) (h0:C x0 y0) (hs:CU E (Ei x0 y0)) (hI:∀M w,I.h M w→(Ii x0 y0).h M w)
  (k:∀x y,C x y→Tr L (ni x y) (Ei x y++K) (Ii x y) c (Exit.then (fun a w=>∃x' y',(C x' y'∧μ x' y'<μ x y)∧St (ni x' y') (Ei x' y'++K) (Ii x' y') a w) Q)):Tr L n E I (.loop c) Q:=
 Tr.AC6 (fun p : α × β => ni p.1 p.2) (fun p => Ei p.1 p.2 ++ K) (fun p => Ii p.1 p.2) (fun p => C p.1 p.2) (fun p => μ p.1 p.2) (x0, y0) hn h0 (Mh hs hK) hI
  fun ⟨x,y⟩ hC a w hst=>L.mono (fun e a w hq=>by
   cases e with
   |normal=>obtain ⟨x',y',h1,h2⟩:=hq;exact ⟨(x',y'),h1,h2⟩
   |_=>exact hq) (k x y hC a w hst)
theorem Fin.AC7 {α β:Type} {ni:α→β→Fm} {E1:α→β→Env} {I1:α→β→Ck} {C:α→β→Prop} (i:α) (j:β) (hn:ni i j=n) (hC:C i j) (hs:CU E (E1 i j)) (hI:∀M w,I.h M w→(I1 i j).h M w):Fin n E I (Exit.then (fun a w=>∃x y,C x y∧St (ni x y) (E1 x y) (I1 x y) a w) Q) .normal:=
 fun _ _ hst=>⟨i,j,hC,by rw [hn];exact hst.sub hs hI⟩
end
section
variable {P:Program} {fz:Nat} {E:Env} {M0 M1:Av} {w0 w1:World} {S:Nat→Prop} {g:Func} {α β:Type} {xs:List α} {own:List α→List At} {R Rx:List α→β→List At}
theorem Fin.AC8 {d:β} (hr:g.results= #[]):Fin ⟨fz,[]⟩ E (Hp M0 w0 S (own xs++Al M1 w1::R xs d)) (Jd P g fun e w'=>(∃v,e= .returned v)∧∃M' d',Ext M1 w1 M' w'∧(A9 M0 w0 S (own xs++R xs d') M' w'∨∃pre,pre<+:xs∧A9 M0 w0 S (own pre++Rx pre d') M' w')) .normal:=by
 refine Fin.ya (Fin.R6 ?_)
 rintro a w ⟨M,_,hd,he,hi⟩
 obtain ⟨h1,h2⟩:=Fl hi
 exact ⟨hd,_,results0 hr,⟨_,rfl⟩,M,d,h1,.inl h2⟩
theorem Fin.yl {d:β} {pre:List α} (hr:g.results= #[]) (hp:pre<+:xs):Fin ⟨fz,[]⟩ E (Hp M0 w0 S (own pre++Al M1 w1::Rx pre d)) (Jd P g fun e w'=>(∃v,e= .returned v)∧∃M' d',Ext M1 w1 M' w'∧(A9 M0 w0 S (own xs++R xs d') M' w'∨∃pre,pre<+:xs∧A9 M0 w0 S (own pre++Rx pre d') M' w')) .ret:=by
 refine Fin.R6 ?_
 rintro a w ⟨M,_,hd,he,hi⟩
 obtain ⟨h1,h2⟩:=Fl hi
 exact ⟨hd,_,results0 hr,⟨_,rfl⟩,M,d,h1,.inr ⟨pre,hp,h2⟩⟩
theorem Bj.ym {f:FuncId} {args:List Pr} {form:Nat→Value} {r':Value→At} (h:Fj P f args [] (fun _=>True) (fun b=>is (form b)) (fun b=>[r' (form b)])):Bj P f args (Cp.ex fun b=>is (form b)) Bu r':=by
 refine ⟨h.1,fun M0 w0 S rs M w vs hI hv=>(h.2 M0 w0 S rs M w vs (A9.J3 hI) hv).mono ?_⟩
 rintro e w' ⟨v,M',b,rfl,_,h1,h2,h3⟩
 obtain rfl:v=form b:=h1
 exact ⟨_,M',rfl,⟨b,rfl⟩,h2,h3⟩
end
end Cp
namespace Go.Proofs.YtmocaapoeefgkaaGreatDoor
open Go Go.RowKit Cp Go.Proofs.Tryz
theorem eK {b:BitVec 32} {i:Nat}  :BG prog 184 [u32 b,int ((i:Nat):Int)] (bool (b.getLsbD i)):=by
 refine fo func184 rfl ⟨rfl,rfl⟩ fun M0 w0=> ?_
 refine a2 ?_
 refine co rfl (oJ rfl vq vq (Int.natCast_nonneg _)) ?_
 refine co rfl (Rv (c:=1#32) rfl vq vq) ?_
 refine co rfl (yd rfl vq vq) ?_
 refine a2 ?_
 · exact Lr
abbrev QH:TypeId:=181
abbrev iI (b:Nat):Value:= .func (.func 222) #[] #[.pointer (some ⟨b,0,none⟩)]
def AGF (s:BitVec 32) (v:Value):At:=match v with| .func _ _ #[.pointer (some a)]=>AF true a.block QH [u32 s]|_=>Bu
def JO (s:BitVec 32) (pre:List Nat):BitVec 32:=pre.foldl iE s
theorem OC (s:BitVec 32) (pre:List Nat) (x:Nat):JO s (pre++[x])=iE (JO s pre) x:=by unfold JO;rw [List.foldl_append];rfl
theorem yp {s:BitVec 32}  :Fj (α:=Nat) prog 181 [u32 s] [] (fun _=>True) (fun b=>is (iI b)) (fun b=>[AF true b QH [u32 s]]):=by
 refine Fj.of func181 rfl rfl Ao fun M0 w0 S rs M1 w1=>(Tr.seq (Tr.An ?_))
 refine TO.VB rfl rfl AB rfl My (fun b1=> ?_)
 refine ap ?_
 refine Tr.seq (Tr.Aj (co rfl (uS rfl vq) ?_))
 refine ac ?_
 refine Tr.ret (Fin.vu (b1) rfl (AM.tmp rfl Lr) trivial ?_ (List.Perm.refl _))
 · exact Lr
theorem eL {s:BitVec 32}:Bj Tryz.prog 181 [u32 s] (Cp.ex fun b=>is (iI b)) Bu (AGF s):=Bj.ym yp
theorem QI {s:BitVec 32} {b:Nat}  :NJ prog 222 #[.pointer (some ⟨b,0,none⟩)] (fun i:Nat=> .int .i64 (i:Int)) (Jc s) (fun pre=>[EI,AF true b QH [u32 (JO s pre)]]):=by
 refine NJ.of (ps:=[is (.pointer (some ⟨b,0,none⟩))]) func222 rfl Ao (fun _ _=>⟨rfl,trivial⟩) ?_
 intro M0 w0 S l β R Rx M1 w1 hy d
 refine Tr.block (Tr.DD [(0,_),(1,_)] ⟨ke rfl,ke rfl,trivial⟩ (fun (pre:List Nat) (d2:β)=>[]) (fun (pre:List Nat) (d2:β)=>Hp M0 w0 S (EI::AF true b QH [u32 (JO s pre)]::Al M1 w1::R pre d2)) (fun (pre:List Nat) (d2:β)=>pre++Jc (JO s pre)=Jc s) (fun (pre:List Nat) (d2:β)=>(Jc (JO s pre)).length) ([]) (d)  (rfl) trivial (fun _ _ h=>h) ?_)
 rintro pre d2  hpe
 refine Tr.seq (Tr.seq (Tr.Aj (co rfl (Cg 1 rfl (BI rfl EY (vl rfl) rfl)) (co rfl (oZ rfl (vl rfl) (vl rfl)) (Ch.nil (Fin.go ?_))))))
 refine Tr.cn rfl ?_ ?_<;>intro h1 q1
 have hne:JO s pre≠0#32:=by simpa using h1
 have ot:=Rz hne
 have WQ:=Z5 hne
 have hpx:(pre++[Jr (JO s pre)])<+:Jc s:=⟨Jc (iE (JO s pre) (Jr (JO s pre))),by rw [←hpe,ot];simp⟩
 refine Tr.skip (Fin.go (Tr.block (Tr.seq (Tr.An (TO.rd 1 rfl rfl rfl AB (BI rfl EY (vl rfl) rfl) (TO.IP 0 rfl rfl AB (Aq rfl rfl AB rfl (yf hne) ⟨ke rfl,trivial⟩) (tm rfl (TO.nil (Fin.go (Tr.seq (Tr.GA mixed [some (0,1,false,0),none,none,none,some (0,1,true,0)] BS (IV 1 rfl rfl (BI rfl EY (vl rfl) rfl) (xm rfl ?_)))))))))))))
 refine xo rfl (fun _=>KR (b:=1#32) rfl (vl rfl) (vl rfl) (Int.natCast_nonneg _)) ?_
 refine xo rfl (fun _=>Oq rfl (vl rfl) (vl rfl)) (Cx.DP 1 rfl rfl (A0 rfl rfl (vl rfl) (Vo rfl) Ff rfl Ao rfl) ?_)
 refine Cx.nil ⟨rfl,?_⟩
 refine BE.done (As.cons (As.cons (As.cons (As.map _)))) (Fin.go (Tr.seq ?_))
 refine Tr.HY 1 [u32 (JO s (pre++[Jr (JO s pre)]))] rfl ⟨Pr.le_of_eq (by rw [OC];rfl),trivial⟩ ?_
 refine Tr.oh (own:=fun pre=>[EI,AF true b QH [u32 (JO s pre)]]) (pre:=pre) (x:=Jr (JO s pre)) (d:=d2) hy hpx rfl rfl rfl rfl rfl rfl rfl rfl rfl rfl rfl rfl Ao Ao Ao Ao AB rfl rfl rfl rfl rfl (fun d3=> ?_) (fun d3=> ?_)
 refine Fin.go (Tr.cond rfl (fun h=>nomatch h) (fun _=> ?_))
 refine Tr.skip (Fin.block ?_)
 exact Fin.DK (pre++[Jr (JO s pre)]) (d3)  (⟨by rw [OC,List.append_assoc,←hpe,ot];rfl,by rw [OC,ot];simp⟩) ⟨ke rfl,ke rfl,trivial⟩ (fun _ _ h=>h)
 refine Fin.go (Tr.cond rfl (fun _=> ?_) (fun h=>nomatch h))
 refine Tr.ret (Fin.AU (Fin.AE (Fin.AU (Fin.yl (g:=f222) (own:=fun pre=>[EI,AF true b QH [u32 (JO s pre)]]) (R:=R) (Rx:=Rx) (d:=d3) rfl hpx))))
 have hz:JO s pre=0#32:=by simpa using h1
 obtain rfl:pre=Jc s:=by rw [hz,oK,List.append_nil] at hpe;exact hpe
 refine Tr.exit (Fin.Ac (Fin.Ac (Fin.A7 (Fin.AC8 (g:=f222) (own:=fun pre=>[EI,AF true b QH [u32 (JO s pre)]]) (xs:=Jc s) (R:=R) (Rx:=Rx) (d:=d2) rfl))))
theorem QJ:Entry Tryz.prog 222:=⟨_,Tryz.func222,rfl,rfl⟩
-- bits as AHR are AC9 (behind AHS.lean)
def bvF (p:Nat→Bool):Nat→BitVec 32
 |0=>0#32
 |k+1=>if p k then YY (bvF p k) k else bvF p k
theorem ow (p:Nat→Bool):∀(k:Nat) {j:Nat},k≤32→(bvF p k).getLsbD j=(decide (j<k)&&p j)
 |0,j,_=>by simp [bvF]
 |k+1,j,hk=>by
  have ih:= @ow p k j AA
  unfold bvF
  split
  next h=>
   rw [Rw AA,ih]
   by_cases hj:k=j
   · subst hj;simp [h]
   ·
    by_cases h2:j<k
    ·
     have:j<k+1:=by omega
     simp [h2,this,hj]
    ·
     have:¬j<k+1:=by omega
     simp [h2,this,hj]
  next h=>
   rw [ih]
   by_cases hj:k=j
   · subst hj;simp at h;simp [h]
   ·
    by_cases h2:j<k
    ·
     have:j<k+1:=by omega
     simp [h2,this]
    ·
     have:¬j<k+1:=by omega
     simp [h2,this]
def Eb (n:Nat) (l:List BC):List (BitVec 32):=(List.range n).map fun b=>bvF (fun a=>C5 l n a b) n
theorem Db (n:Nat) (l:List BC):(Eb n l).length=n:=by unfold Eb;simp
theorem F7 {n:Nat} {l:List BC} (hn:n≤32):D7 n (Eb n l) (C5 l n):=by
 refine ⟨Db n l,fun b x hx a=> ?_⟩
 unfold Eb at hx
 rw [List.getElem?_map] at hx
 rcases Nat.lt_or_ge b n with hb|hb
 ·
  rw [List.getElem?_range hb] at hx
  simp only [Option.map_some,Option.some.injEq] at hx
  subst hx
  exact ow _ n hn
 · rw [List.getElem?_eq_none FX] at hx;cases hx
theorem Z_ {n:Nat} {B C:List (BitVec 32)} {M:Nat→Nat→Bool} (h:D7 n B M) (h':D7 n C M):B=C:=by
 apply List.ext_getElem?
 intro b
 rcases Nat.lt_or_ge b n with hb|hb
 ·
  obtain ⟨x,hx⟩:=at_ (l:=B) (k:=b) (by rw [h.1];exact hb)
  obtain ⟨y,hy⟩:=at_ (l:=C) (k:=b) (by rw [h'.1];exact hb)
  rw [hx,hy]
  congr 1
  exact BitVec.eq_of_getLsbD_eq fun i _=>by rw [h.2 b x hx,h'.2 b y hy]
 · rw [List.getElem?_eq_none (by rw [h.1];exact hb),List.getElem?_eq_none (by rw [h'.1];exact hb)]
theorem iJ {l:List BC} {k:Nat} {r:BC} (h:l[k]? =some r) (a b:Nat):Gf (l.take (k+1)) a b=(Gf (l.take k) a b||(decide (r.fst=(a:Int))&&decide (r.thn=(b:Int)))):=by
 unfold Gf;rw [List.take_add_one,h,List.any_append];simp
theorem aA {n:Nat} {B:List (BitVec 32)} {l:List BC} {k:Nat} {r:BC} {x:BitVec 32} (h:D7 n B (Gf (l.take k))) (hr:l[k]? =some r) (hf:0≤r.fst∧r.fst<n) (ht:0≤r.thn) (hx:B[r.thn.toNat]? =some x) (hn:n≤32):D7 n (B.set r.thn.toNat (YY x r.fst.toNat)) (Gf (l.take (k+1))):=by
 refine Fu (Xk h hx (f:=r.fst.toNat) AA hn) fun a b _ _=> ?_
 rw [iJ hr]
 congr 1
 rw [decide_eq_decide.2 (show r.fst.toNat=a↔r.fst=(a:Int) by omega),decide_eq_decide.2 (show r.thn.toNat=b↔r.thn=(b:Int) by omega)]
def HS (i:Nat) (A:List (BitVec 32)) (k:Nat):List (BitVec 32):=A.set k (YY (A.getD k 0#32) i)
def Gz (B:List (BitVec 32)):Nat→List (BitVec 32)
 |0=>List.replicate B.length 0#32
 |i+1=>(Jc (B.getD i 0#32)).foldl (HS i) (Gz B i)
theorem OD (i:Nat):∀(ks:List Nat) (A:List (BitVec 32)),(ks.foldl (HS i) A).length=A.length
 |[],_=>rfl
 |k::ks,A=>by rw [List.foldl_cons,OD i ks];unfold HS;rw [List.length_set]
theorem Il (B:List (BitVec 32)):∀i,(Gz B i).length=B.length
 |0=>List.length_replicate
 |i+1=>by unfold Gz;rw [OD,Il B i]
theorem T6 {B:List (BitVec 32)} {i:Nat} {x:BitVec 32} (h:B[i]? =some x):Gz B (i+1)=(Jc x).foldl (HS i) (Gz B i):=by
 rw [Gz,List.getD_eq_getElem?_getD,h];rfl
theorem R7 {n i:Nat} (hi:i<n) (hn:n≤32):∀(ks:List Nat) {A:List (BitVec 32)} {M:Nat→Nat→Bool},D7 n A M→(∀k∈ks,k<n)→D7 n (ks.foldl (HS i) A) (fun b a=>M b a||(decide (b=i)&&ks.contains a))
 |[],A,M,h,_=>Fu h fun a b _ _=>by simp
 |k::ks,A,M,h,hk=>by
  rw [List.foldl_cons]
  obtain ⟨x,hx⟩:=at_ (l:=A) (k:=k) (by rw [h.1];exact hk k AV)
  have h1:D7 n (HS i A k) (fun b a=>M b a||(decide (i=b)&&decide (k=a))):=by
   unfold HS
   rw [List.getD_eq_getElem?_getD,hx]
   exact Xk h hx hi hn
  refine Fu (R7 hi hn ks h1 (fun j hj=>hk j (List.mem_cons_of_mem _ hj))) fun b a _ _=> ?_
  by_cases hb:b=i
  ·
   subst hb
   by_cases ha:k=a
   · subst ha;simp
   ·
    have:¬a=k:=fun e=>ha e.symm
    simp [ha,this]
  ·
   have:¬i=b:=fun e=>hb e.symm
   simp [hb,this]
theorem T7 {n:Nat} {B:List (BitVec 32)} {M:Nat→Nat→Bool} (h:D7 n B M) (hn:n≤32):∀(i:Nat),i≤n→D7 n (Gz B i) (fun b a=>M a b&&decide (b<i))
 |0,_=>by
  rw [Gz,h.1]
  exact Fu (R3 n) fun a b _ _=>by simp
 |i+1,hi=>by
  obtain ⟨x,hx⟩:=at_ (l:=B) (k:=i) (by rw [h.1];omega)
  rw [T6 hx]
  have hlt:∀k∈Jc x,k<n:=fun k hk=>by
   have:=Ft.1 hk
   rw [h.2 i x hx,Bool.and_eq_true,decide_eq_true_eq] at this
   exact this.1
  refine Fu (R7 AA hn (Jc x) (T7 h hn i AA) hlt) fun b a hb ha=> ?_
  by_cases e:b=i
  ·
   subst e
   have hc:(Jc x).contains a=M a b:=by
    rw [Bool.eq_iff_iff,List.contains_iff_mem,Ft,h.2 b x hx,Bool.and_eq_true,decide_eq_true_eq]
    exact ⟨fun g=>g.2,fun g=>⟨ha,g⟩⟩
   rw [hc];simp
  ·
   by_cases h2:b<i
   ·
    have:b<i+1:=by omega
    simp [e,h2,this]
   ·
    have:¬b<i+1:=by omega
    simp [e,h2,this]
theorem eM {n:Nat} {l:List BC} (hn:n≤32):AGE n l (Eb n l) (Gz (Eb n l) n):=
 ⟨F7 hn,Fu (T7 (F7 hn) hn n (Nat.le_refl _)) fun a b ha _=>by simp [ha]⟩
abbrev bits (B:List (BitVec 32)):Pr:=slice 1 (B.map fun x=>[u32 x])
def yq (a b:BC):Int:=orF [Jp a.fst b.fst,Jp a.thn b.thn]
theorem V3 {a b:BC}:decide (yq a b≥0)= !Er a b:=by
 unfold yq Er
 rw [Bool.eq_iff_iff,decide_eq_true_eq]
 simp only [orF,Jp]
 repeat' split
 all_goals (simp;try omega)
theorem K4 {B:List (BitVec 32)} {i:Int} {x:BitVec 32} (h:B[i.toNat]? =some x):(B.map fun x=>u32 x)[0+i.toNat*1]? =some (u32 x):=by rw [Nat.zero_add,Nat.mul_one,List.getElem?_map,h];rfl
theorem R8 {B:List (BitVec 32)} {i:Int} {x y:BitVec 32} (h:B[i.toNat]? =some x):(B.map fun x=>u32 x).take (0+i.toNat*1)++[u32 y]++(B.map fun x=>u32 x).drop (0+i.toNat*1+1)=(B.set i.toNat y).map fun x=>u32 x:=by
 have hl:i.toNat<B.length:=by rcases Nat.lt_or_ge i.toNat B.length with h2|h2;exact h2;rw [List.getElem?_eq_none h2] at h;cases h
 rw [Nat.zero_add,Nat.mul_one,List.set_eq_take_append_cons_drop,if_pos hl]
 simp [List.map_take,List.map_drop]
theorem T8 (B:List (BitVec 32)):(B.map fun x=>u32 x)=(B.map fun x=>[u32 x]).flatten++([]:List Value).map is:=by
 induction B with
 |nil=>rfl
 |cons x B ih=>simp at ih ⊢;exact ih
theorem T9 (n:Nat):(List.replicate n (Value.int .u32 0)).map is=(List.replicate n 0#32).map fun x=>u32 x:=by rw [List.map_replicate,List.map_replicate];rfl
theorem R9 {B:List (BitVec 32)} {i:Nat} {x:BitVec 32} (h:B[i]? =some x):(B.map fun x=>[u32 x])[((i:Nat):Int).toNat]? =some [u32 x]:=by rw [Int.toNat_natCast,List.getElem?_map,h];rfl
theorem iK {i k:Nat} {pre:List Nat} {A:List (BitVec 32)} {y:BitVec 32} (h:(pre.foldl (HS i) A)[k]? =some y):(pre.foldl (HS i) A).set k (YY y i)=(pre++[k]).foldl (HS i) A:=by
 rw [List.foldl_append]
 show _=(pre.foldl (HS i) A).set k (YY ((pre.foldl (HS i) A).getD k 0#32) i)
 rw [List.getD_eq_getElem?_getD,h];rfl
theorem yt {n:Nat} {r:BC} (h:FU n r=false):(0≤r.fst∧r.fst<n)∧(0≤r.thn∧r.thn<n)∧r.fst≠r.thn:=by
 unfold FU at h;rw [decide_eq_false_iff_not] at h;omega
theorem yu {ps qs:List Pr} (h:Qz ps qs):Pr.le (ref ps) (ref qs):=fun M w v ⟨a,h1,h2⟩=>⟨a,h1,fun i q hq=>by
 obtain ⟨p,hp,hle⟩:=h.at_ i q hq
 obtain ⟨u,g1,g2⟩:=h2 i p hp
 exact ⟨u,g1,g2.1,g2.2.1,hle _ _ _ g2.2.2⟩⟩
theorem aB {xs pre:List Nat} {x:Nat} (h:(pre++[x])<+:xs):x∈xs:=h.subset AV
theorem aC {a b:BC}  :BG prog 182 [agg (O2 a),agg (O2 b)] (int (yq a b)):=by
 refine fo func182 rfl ⟨rfl,rfl⟩ fun M0 w0=> ?_
 refine a2 ?_
 refine co rfl (CL (mG) rfl rfl rfl) ?_
 refine ac ?_
 refine co rfl (CL (mG) rfl rfl rfl) (co rfl (AO (xs:=[.tmp 9,.tmp 14]) (rows:=[[_],[_]]) rfl rfl underlying22 Bt z3 rfl AB ⟨⟨Am,My⟩,⟨⟨Am,My⟩,trivial⟩⟩ AB) ?_)
 refine co rfl (AR rfl (ACU (l:=[Jp a.fst b.fst,Jp a.thn b.thn])) ⟨F4,trivial⟩) ?_
 refine ac ?_
 refine wk [4] rfl ?_
 refine ac ?_
 · exact Lr
theorem iL {n:Nat} {l:List BC} (hn:n≤24) (hbd:∀r∈l,FU n r=false):Bj Tryz.prog 183 [int ((n:Nat):Int),reqs l] (ref [int ((n:Nat):Int),bits (Eb n l),bits (Gz (Eb n l) n)]) (EI) (fun _=>EI):=by
 refine Bj.ofM Tryz.func183 rfl rfl Bw fun M0 w0 S rs M1 w1=> ?_
 refine Tr.Cm 1 rfl fun Fo=> ?_
 refine Tr.seq ?_
 refine Tr.Aj ?_
 refine Ch.op rfl rfl AB (Cu rfl (vl rfl)) ?_
 refine Ch.nil ?_
 refine Fin.go ?_
 refine Tr.seq ?_
 refine Tr.pad ?_
 refine Tr.pad ?_
 refine Tr.pad ?_
 refine Tr.pad ?_
 refine Tr.GA mixed [none,none,some (0,0,true,14),none,some (0,1,true,16),some (0,2,true,.three 17 14 16),some (.three 17 14 16,2,true,.three 18 14 16),some (0,3,true,5),some (5,3,true,.two 5 18)] BS ?_
 refine Cx.op rfl rfl AB (fun _=>BQ rfl (vl rfl)) ?_
 refine Cx.op rfl rfl AB (fun _=>BQ rfl (vl rfl)) ?_
 refine Cx.ef 0 rfl rfl AB (oq rfl rfl AB rfl Tryz.underlying232 Ff vW xU rfl (vl rfl) (vl rfl) FI AA) ?_
 refine Cx.op rfl rfl AB (fun _=>BQ rfl (vl rfl)) ?_
 refine Cx.ef 1 rfl rfl AB (oq rfl rfl AB rfl Tryz.underlying232 Ff vW xU rfl (vl rfl) (vl rfl) FI AA) ?_
 refine Cx.ef 2 rfl rfl AB (oo (d:=17) (s:=14) (t:=16) (q:=any) rfl AB AB (fun _ _ _ _ _ _=>trivial) rfl rfl rfl AB AB (fun v1 v2=>V1 rfl rfl AB (fun _=>Ak (rows:=[(0,[_]),(1,[_]),(2,[_])]) rfl ABG ABH ⟨⟨rfl,VL.le (vl rfl) (AY _)⟩,⟨⟨rfl,VL.le (vl rfl) (AY _)⟩,⟨⟨rfl,VL.le (vl rfl) (AY _)⟩,trivial⟩⟩⟩ rfl))) ?_
 refine Cx.ef 2 rfl rfl AB (uT rfl rfl AB rfl AB AB) ?_
 refine Cx.ef 3 rfl rfl AB (CC rfl rfl AB rfl AEy ABC) ?_
 refine Cx.DP 3 rfl rfl (iG rfl rfl rfl AB rfl rfl ABB rfl) ?_
 refine Cx.nil ⟨rfl,?_⟩
 refine BE.Z9 14 rfl (fun v14=> ?_)
 refine BE.Z9 16 rfl (fun v16=> ?_)
 refine BE.Z9 18 rfl (fun v18=> ?_)
 refine BE.Z9 5 rfl (fun v5=> ?_)
 refine BE.V2 0 14 rfl rfl ?_
 refine BE.V2 1 16 rfl rfl ?_
 refine BE.AC5 2 18 14 16 rfl rfl rfl rfl ?_
 refine BE.iH 3 5 18 rfl rfl rfl ?_
 refine BE.done (As.cons (As.cons (As.cons (As.cons (As.cons (As.cons (As.map _))))))) ?_
 refine Fin.shape 14 (fun b=>Jl n b) rfl (fun b1 e1=> ?_)
 refine Fin.shape 16 (fun b=>Jl n b) rfl (fun b2 e2=> ?_)
 refine Fin.shape 18 (fun b=> .pointer (some ⟨b,0,none⟩)) rfl (fun b3 e3=> ?_)
 refine Fin.shape 5 (fun b=> .pointer (some ⟨b,0,none⟩)) rfl (fun b4 e4=> ?_)
 subst e1 e2 e3 e4
 refine Fin.Je 0 (AF true b1 QH ((List.replicate n 0#32).map fun x=>u32 x)) rfl (by rw [←T9];rfl) ?_
 refine Fin.Je 1 (AF true b2 QH ((List.replicate n 0#32).map fun x=>u32 x)) rfl (by rw [←T9];rfl) ?_
 refine Fin.Je 2 (AF true b3 234 [int ((n:Nat):Int),Ad (Jl n b1) _,Ad (Jl n b2) _]) rfl rfl ?_
 refine Fin.HY 2 [int ((n:Nat):Int),is (Jl n b1),is (Jl n b2)] rfl ⟨Pr.le_refl _,EA _ _,EA _ _,trivial⟩ ?_
 refine Fin.Je 3 (AF true b4 176 [Ad (.pointer (some ⟨b3,0,none⟩)) _]) rfl rfl ?_
 refine Fin.HY 3 [ptr b3 0] rfl ⟨EA _ _,trivial⟩ ?_
 refine Fin.go ?_
 refine Tr.seq ?_
 refine Tr.seq ?_
 refine Tr.Aj ?_
 refine Ch.op rfl rfl AB (BQ rfl (vl rfl)) ?_
 first
  |refine Ch.op rfl rfl AB (CB rfl Tryz.underlying33 (vl rfl)) ?_
  |refine Ch.op rfl rfl AB (Ce rfl Tryz.underlying33 (vl rfl)) ?_
 refine Ch.op rfl rfl AB (BQ rfl (vl rfl)) ?_
 refine Ch.nil ?_
 refine Fin.go ?_
 refine Tr.block ?_
 refine Tr.DD [(0,_),(5,_),(19,_),(20,_)] ⟨⟨_,rfl,Pr.le_refl _⟩,⟨_,rfl,Pr.le_refl _⟩,⟨_,rfl,Pr.le_refl _⟩,⟨_,rfl,Pr.le_refl _⟩,trivial⟩ (fun (B:List (BitVec 32)) (m:Nat)=>[(21,int ((m:Nat):Int))]) (fun (B:List (BitVec 32)) (m:Nat)=>Hp M0 w0 S (AF true b1 QH (B.map fun x=>u32 x)::AF true b2 QH ((List.replicate n 0#32).map fun x=>u32 x)::AF true b3 234 [int ((n:Nat):Int),is (Jl n b1),is (Jl n b2)]::AF true b4 176 [ptr b3 0]::EI::Al M1 w1::rs)) (fun (B:List (BitVec 32)) (m:Nat)=>m≤l.length∧D7 n B (Gf (l.take m))) (fun (B:List (BitVec 32)) (m:Nat)=>l.length-m) (List.replicate n 0#32) (0)  (⟨Nat.zero_le _,Fu (R3 n) fun a b _ _=>rfl⟩) ⟨⟨_,rfl,Pr.le_refl _⟩,trivial⟩ (fun _ _ h=>h) ?_
 rintro B m  ⟨hm0,hB⟩
 refine Tr.seq ?_
 refine Tr.Aj ?_
 refine Ch.op rfl rfl AB (ok_int rfl (vl rfl) (vl rfl) rfl) ?_
 refine Ch.nil ?_
 refine Fin.go ?_
 refine Tr.seq ?_
 refine Tr.cond rfl (fun h1=> ?_) (fun h1=> ?_)
 ·
  have q1:=DU.D9 h1
  have hm:m<l.length:=AH h1
  obtain ⟨r,hr⟩:=at_ hm
  obtain ⟨hf,ht,_⟩:=yt (hbd r (List.mem_of_getElem? hr))
  have hBl:=hB.1
  obtain ⟨x,hx⟩:=at_ (l:=B) (k:=r.thn.toNat) AA
  refine Tr.skip ?_
  refine Fin.go ?_
  refine Tr.seq ?_
  refine Tr.block ?_
  refine Tr.seq ?_
  refine Tr.An ?_
  refine TO.op rfl rfl AB (AD rfl Tryz.underlying33 Cw (vl rfl) (vl rfl) AA (AX hr)) ?_
  refine TO.op rfl rfl AB (AP rfl Fe Cw (vl rfl) rfl rfl) ?_
  refine TO.alloc rfl rfl AB rfl Sj Q8 (fun b5=> ?_)
  refine TO.AK 0 rfl rfl rfl (vl rfl) (VL.le (vl rfl) (Ae _)) rfl Cw rfl rfl ?_
  refine TO.freeze 0 7 rfl rfl ?_
  refine TO.nil ?_
  refine Fin.go ?_
  refine Tr.GA mixed [some (0,3,false,0),none,none,some (0,2,false,0),none,none,none,some (0,0,false,0),none,none,none,none,none,some (0,0,true,0)] BS ?_
  refine Cx.rd 3 rfl rfl rfl AB (BI rfl I6 (vl rfl) rfl) ?_
  refine Cx.op rfl rfl AB (fun _=>EN rfl (vl rfl)) ?_
  refine Cx.op rfl rfl AB (fun _=>AW rfl I8 (vl rfl)) ?_
  refine Cx.rd 2 rfl rfl rfl AB (BI rfl I7 (vl rfl) rfl) ?_
  refine Cx.op rfl rfl AB (fun _=>Et rfl ZI (vl rfl) rfl) ?_
  refine Cx.op rfl rfl AB (fun _=>DB rfl C8 (vl rfl)) ?_
  refine Cx.op rfl rfl AB (fun _=>Be rfl Tryz.underlying232 Ff (vl rfl) (vl rfl) AA AA) ?_
  refine Cx.rd 0 rfl rfl rfl AB (BI rfl EY (vl rfl) (K4 hx)) ?_
  refine Cx.op rfl rfl AB (fun _=>Et rfl ZH (vl rfl) rfl) ?_
  refine Cx.op rfl rfl AB (fun _=>DB rfl C8 (vl rfl)) ?_
  refine Cx.op rfl rfl AB (fun _=>KR (b:=1#32) rfl (vl rfl) (vl rfl) AA) ?_
  refine Cx.op rfl rfl AB (fun _=>NK rfl (vl rfl) (vl rfl)) ?_
  refine Cx.op rfl rfl AB (fun _=>Be rfl Tryz.underlying232 Ff (vl rfl) (vl rfl) AA AA) ?_
  refine Cx.DP 0 rfl rfl (A0 rfl rfl (vl rfl) (VL.le (vl rfl) (AY _)) Ff rfl Cz (R8 hx)) ?_
  refine Cx.nil ⟨rfl,?_⟩
  refine BE.done (As.cons (As.cons (As.cons (As.cons (As.cons (As.cons (As.map _))))))) ?_
  refine Fin.block ?_
  refine Fin.go ?_
  refine Tr.weak [(0,_),(5,_),(19,_),(20,_),(21,_)] ⟨⟨_,rfl,Pr.le_refl _⟩,⟨_,rfl,Pr.le_refl _⟩,⟨_,rfl,Pr.le_refl _⟩,⟨_,rfl,Pr.le_refl _⟩,⟨_,rfl,Pr.le_refl _⟩,trivial⟩ ?_
  refine Tr.Aj ?_
  first
   |(refine Ch.op rfl rfl AB (Ek rfl (vl rfl) (vl rfl) ?hin) ?_;case hin=>unfold Ni;omega)
   |refine Ch.op rfl rfl AB (ok_int rfl (vl rfl) (vl rfl) rfl) ?_
  refine Ch.op rfl rfl AB (BQ rfl (vl rfl)) ?_
  refine Ch.nil ?_
  exact Fin.DK (B.set r.thn.toNat (YY x r.fst.toNat)) (m+1)  (⟨⟨hm,aA hB hr hf ht.1 hx AA⟩,by omega⟩) ⟨⟨_,rfl,AG m⟩,⟨_,rfl,Pr.le_refl _⟩,⟨_,rfl,Pr.le_refl _⟩,⟨_,rfl,Pr.le_refl _⟩,⟨_,rfl,Pr.le_refl _⟩,trivial⟩ (fun _ _ h=>h)
 ·
  have q1:=DU.D9 h1
  have hml:m=l.length:=by have:=AJ h1;omega
  rw [hml,List.take_length] at hB
  refine Tr.exit ?_
  refine Fin.Ac ?_
  refine Fin.Ac ?_
  refine Fin.A7 ?_
  refine Fin.go ?_
  refine Tr.seq ?_
  refine Tr.seq ?_
  refine Tr.Aj ?_
  refine Ch.op rfl rfl AB (BQ rfl (vl rfl)) ?_
  refine Ch.op rfl rfl AB (BQ rfl (vl rfl)) ?_
  refine Ch.nil ?_
  refine Fin.go ?_
  refine Tr.block ?_
  refine Tr.DD [(0,_),(5,_),(39,_)] ⟨⟨_,rfl,Pr.le_refl _⟩,⟨_,rfl,Pr.le_refl _⟩,⟨_,rfl,Pr.le_refl _⟩,trivial⟩ (fun (B2:List (BitVec 32)) (k:Nat)=>[(40,int ((k:Nat):Int))]) (fun (B2:List (BitVec 32)) (k:Nat)=>Hp M0 w0 S (AF true b1 QH (B2.map fun x=>u32 x)::AF true b2 QH ((List.replicate n 0#32).map fun x=>u32 x)::AF true b3 234 [int ((n:Nat):Int),is (Jl n b1),is (Jl n b2)]::AF true b4 176 [ptr b3 0]::EI::Al M1 w1::rs)) (fun (B2:List (BitVec 32)) (k:Nat)=>k≤n∧D7 n B2 (C5 l k)) (fun (B2:List (BitVec 32)) (k:Nat)=>n-k) (B) (0)  (⟨Nat.zero_le _,hB⟩) ⟨⟨_,rfl,Pr.le_refl _⟩,trivial⟩ (fun _ _ h=>h) ?_
  rintro B2 k  ⟨hk0,hB2⟩
  refine Tr.seq ?_
  refine Tr.Aj ?_
  refine Ch.op rfl rfl AB (ok_int rfl (vl rfl) (vl rfl) rfl) ?_
  refine Ch.nil ?_
  refine Fin.go ?_
  refine Tr.seq ?_
  refine Tr.cond rfl (fun h2=> ?_) (fun h2=> ?_)
  ·
   have q2:=DU.D9 h2
   have hk:k<n:=AH h2
   refine Tr.skip ?_
   refine Fin.go ?_
   refine Tr.seq ?_
   refine Tr.block ?_
   refine Tr.seq ?_
   refine Tr.Aj ?_
   refine Ch.op rfl rfl AB (BQ rfl (vl rfl)) ?_
   refine Ch.op rfl rfl AB (Cu rfl (vl rfl)) ?_
   refine Ch.nil ?_
   refine Fin.go ?_
   refine Tr.seq ?_
   refine Tr.Aj ?_
   refine Ch.op rfl rfl AB (BQ rfl (vl rfl)) ?_
   refine Ch.op rfl rfl AB (BQ rfl (vl rfl)) ?_
   refine Ch.nil ?_
   refine Fin.go ?_
   refine Tr.block ?_
   refine Tr.DD [(0,_),(5,_),(8,_),(39,_),(40,_),(43,_)] ⟨⟨_,rfl,Pr.le_refl _⟩,⟨_,rfl,Pr.le_refl _⟩,⟨_,rfl,Pr.le_refl _⟩,⟨_,rfl,Pr.le_refl _⟩,⟨_,rfl,Pr.le_refl _⟩,⟨_,rfl,Pr.le_refl _⟩,trivial⟩ (fun (B3:List (BitVec 32)) (i:Nat)=>[(44,int ((i:Nat):Int))]) (fun (B3:List (BitVec 32)) (i:Nat)=>Hp M0 w0 S (AF true b1 QH (B3.map fun x=>u32 x)::AF true b2 QH ((List.replicate n 0#32).map fun x=>u32 x)::AF true b3 234 [int ((n:Nat):Int),is (Jl n b1),is (Jl n b2)]::AF true b4 176 [ptr b3 0]::EI::Al M1 w1::rs)) (fun (B3:List (BitVec 32)) (i:Nat)=>i≤n∧D7 n B3 (LI k (C5 l k) i)) (fun (B3:List (BitVec 32)) (i:Nat)=>n-i) (B2) (0)  (⟨Nat.zero_le _,by rw [yY];exact hB2⟩) ⟨⟨_,rfl,Pr.le_refl _⟩,trivial⟩ (fun _ _ h=>h) ?_
   rintro B3 i  ⟨hi0,hB3⟩
   refine Tr.seq ?_
   refine Tr.Aj ?_
   refine Ch.op rfl rfl AB (ok_int rfl (vl rfl) (vl rfl) rfl) ?_
   refine Ch.nil ?_
   refine Fin.go ?_
   refine Tr.seq ?_
   refine Tr.cond rfl (fun h3=> ?_) (fun h3=> ?_)
   ·
    have q3:=DU.D9 h3
    have hi:i<n:=AH h3
    have hBl:=hB3.1
    obtain ⟨x,hx⟩:=at_ (l:=B3) (k:=i) AA
    obtain ⟨y,hy⟩:=at_ (l:=B3) (k:=k) AA
    refine Tr.skip ?_
    refine Fin.go ?_
    refine Tr.seq ?_
    refine Tr.block ?_
    refine Tr.seq ?_
    refine Tr.Aj ?_
    refine Ch.op rfl rfl AB (BQ rfl (vl rfl)) ?_
    refine Ch.op rfl rfl AB (Cu rfl (vl rfl)) ?_
    refine Ch.nil ?_
    refine Fin.go ?_
    refine Tr.seq ?_
    refine Tr.Aj ?_
    refine Ch.op rfl rfl AB (Cg 3 rfl (BI rfl I6 (vl rfl) rfl)) ?_
    refine Ch.op rfl rfl AB (EN rfl (vl rfl)) ?_
    refine Ch.op rfl rfl AB (AW rfl I8 (vl rfl)) ?_
    refine Ch.op rfl rfl AB (Cg 2 rfl (BI rfl I7 (vl rfl) rfl)) ?_
    refine Ch.op rfl rfl AB (BQ rfl (vl rfl)) ?_
    refine Ch.op rfl rfl AB (Be rfl Tryz.underlying232 Ff (vl rfl) (vl rfl) AA AA) ?_
    refine Ch.op rfl rfl AB (Cg 0 rfl (BI rfl EY (vl rfl) (K4 hx))) ?_
    refine Ch.op rfl rfl AB (BQ rfl (vl rfl)) ?_
    refine Ch.op rfl rfl AB (AR rfl (eK) ⟨⟨_,rfl,Pr.le_refl _⟩,⟨_,rfl,Pr.le_refl _⟩,trivial⟩) ?_
    refine Ch.nil ?_
    refine Fin.go ?_
    refine Tr.weak [(0,_),(5,_),(8,_),(9,_),(39,_),(40,_),(43,_),(44,_),(55,_)] ⟨⟨_,rfl,Pr.le_refl _⟩,⟨_,rfl,Pr.le_refl _⟩,⟨_,rfl,Pr.le_refl _⟩,⟨_,rfl,Pr.le_refl _⟩,⟨_,rfl,Pr.le_refl _⟩,⟨_,rfl,Pr.le_refl _⟩,⟨_,rfl,Pr.le_refl _⟩,⟨_,rfl,Pr.le_refl _⟩,⟨_,rfl,Pr.le_refl _⟩,trivial⟩ ?_
    refine Tr.cond rfl (fun h4=> ?_) (fun h4=> ?_)
    ·
     have q4:=DU.D9 h4
     refine Tr.GA mixed [some (0,3,false,0),none,none,some (0,2,false,0),none,none,some (0,0,false,0),some (0,3,false,0),none,none,some (0,2,false,0),none,none,some (0,0,false,0),none,none,some (0,0,true,0)] BS ?_
     refine Cx.rd 3 rfl rfl rfl AB (BI rfl I6 (vl rfl) rfl) ?_
     refine Cx.op rfl rfl AB (fun _=>EN rfl (vl rfl)) ?_
     refine Cx.op rfl rfl AB (fun _=>AW rfl I8 (vl rfl)) ?_
     refine Cx.rd 2 rfl rfl rfl AB (BI rfl I7 (vl rfl) rfl) ?_
     refine Cx.op rfl rfl AB (fun _=>BQ rfl (vl rfl)) ?_
     refine Cx.op rfl rfl AB (fun _=>Be rfl Tryz.underlying232 Ff (vl rfl) (vl rfl) AA AA) ?_
     refine Cx.rd 0 rfl rfl rfl AB (BI rfl EY (vl rfl) (K4 hx)) ?_
     refine Cx.rd 3 rfl rfl rfl AB (BI rfl I6 (vl rfl) rfl) ?_
     refine Cx.op rfl rfl AB (fun _=>EN rfl (vl rfl)) ?_
     refine Cx.op rfl rfl AB (fun _=>AW rfl I8 (vl rfl)) ?_
     refine Cx.rd 2 rfl rfl rfl AB (BI rfl I7 (vl rfl) rfl) ?_
     refine Cx.op rfl rfl AB (fun _=>BQ rfl (vl rfl)) ?_
     refine Cx.op rfl rfl AB (fun _=>Be rfl Tryz.underlying232 Ff (vl rfl) (vl rfl) AA AA) ?_
     refine Cx.rd 0 rfl rfl rfl AB (BI rfl EY (vl rfl) (K4 hy)) ?_
     refine Cx.op rfl rfl AB (fun _=>NK rfl (vl rfl) (vl rfl)) ?_
     refine Cx.op rfl rfl AB (fun _=>Be rfl Tryz.underlying232 Ff (vl rfl) (vl rfl) AA AA) ?_
     refine Cx.DP 0 rfl rfl (A0 rfl rfl (vl rfl) (VL.le (vl rfl) (AY _)) Ff rfl Cz (R8 hx)) ?_
     refine Cx.nil ⟨rfl,?_⟩
     refine BE.done (As.cons (As.cons (As.cons (As.cons (As.cons (As.cons (As.map _))))))) ?_
     refine Fin.block ?_
     refine Fin.go ?_
     refine Tr.weak [(0,_),(5,_),(8,_),(39,_),(40,_),(43,_),(44,_)] ⟨⟨_,rfl,Pr.le_refl _⟩,⟨_,rfl,Pr.le_refl _⟩,⟨_,rfl,Pr.le_refl _⟩,⟨_,rfl,Pr.le_refl _⟩,⟨_,rfl,Pr.le_refl _⟩,⟨_,rfl,Pr.le_refl _⟩,⟨_,rfl,Pr.le_refl _⟩,trivial⟩ ?_
     refine Tr.Aj ?_
     first
      |(refine Ch.op rfl rfl AB (Ek rfl (vl rfl) (vl rfl) ?hin) ?_;case hin=>unfold Ni;omega)
      |refine Ch.op rfl rfl AB (ok_int rfl (vl rfl) (vl rfl) rfl) ?_
     refine Ch.op rfl rfl AB (BQ rfl (vl rfl)) ?_
     refine Ch.nil ?_
     exact Fin.DK (B3.set i (x|||y)) (i+1)  (⟨⟨hi,oX hB3 hx hy (by rw [←Xl hB3 hx hk];exact h4)⟩,by omega⟩) ⟨⟨_,rfl,AG i⟩,⟨_,rfl,Pr.le_refl _⟩,⟨_,rfl,Pr.le_refl _⟩,⟨_,rfl,Pr.le_refl _⟩,⟨_,rfl,Pr.le_refl _⟩,⟨_,rfl,Pr.le_refl _⟩,⟨_,rfl,Pr.le_refl _⟩,trivial⟩ (fun _ _ h=>h)
    ·
     have q4:=DU.D9 h4
     refine Tr.skip ?_
     refine Fin.block ?_
     refine Fin.go ?_
     refine Tr.Aj ?_
     first
      |(refine Ch.op rfl rfl AB (Ek rfl (vl rfl) (vl rfl) ?hin) ?_;case hin=>unfold Ni;omega)
      |refine Ch.op rfl rfl AB (ok_int rfl (vl rfl) (vl rfl) rfl) ?_
     refine Ch.op rfl rfl AB (BQ rfl (vl rfl)) ?_
     refine Ch.nil ?_
     exact Fin.DK (B3) (i+1)  (⟨⟨hi,uO hB3 (by rw [←Xl hB3 hx hk];exact h4)⟩,by omega⟩) ⟨⟨_,rfl,AG i⟩,⟨_,rfl,Pr.le_refl _⟩,⟨_,rfl,Pr.le_refl _⟩,⟨_,rfl,Pr.le_refl _⟩,⟨_,rfl,Pr.le_refl _⟩,⟨_,rfl,Pr.le_refl _⟩,⟨_,rfl,Pr.le_refl _⟩,trivial⟩ (fun _ _ h=>h)
   ·
    have q3:=DU.D9 h3
    have hin:i=n:=by have:=AJ h3;omega
    rw [hin] at hB3
    refine Tr.exit ?_
    refine Fin.Ac ?_
    refine Fin.Ac ?_
    refine Fin.A7 ?_
    refine Fin.block ?_
    refine Fin.go ?_
    refine Tr.Aj ?_
    first
     |(refine Ch.op rfl rfl AB (Ek rfl (vl rfl) (vl rfl) ?hin) ?_;case hin=>unfold Ni;omega)
     |refine Ch.op rfl rfl AB (ok_int rfl (vl rfl) (vl rfl) rfl) ?_
    refine Ch.op rfl rfl AB (BQ rfl (vl rfl)) ?_
    refine Ch.nil ?_
    exact Fin.DK (B3) (k+1)  (⟨⟨hk,Fu hB3 fun a b _ hb=>oV hb⟩,by omega⟩) ⟨⟨_,rfl,AG k⟩,⟨_,rfl,Pr.le_refl _⟩,⟨_,rfl,Pr.le_refl _⟩,⟨_,rfl,Pr.le_refl _⟩,trivial⟩ (fun _ _ h=>h)
  ·
   have q2:=DU.D9 h2
   have hkn:k=n:=by have:=AJ h2;omega
   rw [hkn] at hB2
   obtain rfl:=Z_ hB2 (F7 AA)
   refine Tr.exit ?_
   refine Fin.Ac ?_
   refine Fin.Ac ?_
   refine Fin.A7 ?_
   refine Fin.go ?_
   refine Tr.seq ?_
   refine Tr.seq ?_
   refine Tr.Aj ?_
   refine Ch.op rfl rfl AB (BQ rfl (vl rfl)) ?_
   refine Ch.op rfl rfl AB (BQ rfl (vl rfl)) ?_
   refine Ch.nil ?_
   refine Fin.go ?_
   refine Tr.block ?_
   refine Tr.yj [(5,_),(74,_)] ⟨⟨_,rfl,Pr.le_refl _⟩,⟨_,rfl,Pr.le_refl _⟩,trivial⟩ (fun Ds i=>⟨_,Ds.map Cp.mark⟩) (fun Ds i=>[(75,int ((i:Nat):Int))]) (fun Ds i=>Hp M0 w0 S (AF true b1 QH ((Eb n l).map fun x=>u32 x)::AF true b2 QH ((Gz (Eb n l) i).map fun x=>u32 x)::AF true b3 234 [int ((n:Nat):Int),is (Jl n b1),is (Jl n b2)]::AF true b4 176 [ptr b3 0]::EI::(Ds.map Xn++Al M1 w1::rs))) (fun Ds i=>i≤(n)) (fun Ds i=>(n)-i) [] 0 rfl (Nat.zero_le _) ⟨⟨_,rfl,Pr.le_refl _⟩,trivial⟩ ((by rw [Gz,Db];exact fun _ _ h=>h)) ?_
   rintro Ds i XS
   refine Tr.seq ?_
   refine Tr.Aj ?_
   refine Ch.op rfl rfl Bw (ok_int rfl (vl rfl) (vl rfl) rfl) ?_
   refine Ch.nil ?_
   refine Fin.go ?_
   refine Tr.seq ?_
   refine Tr.cond rfl (fun h5=> ?_) (fun h5=> ?_)
   ·
    have q5:=DU.D9 h5
    have Jq:i<(n):=AH h5
    obtain ⟨x,hx⟩:=at_ (l:=Eb n l) (k:=i) (by rw [Db];omega)
    refine Tr.skip ?_
    refine Fin.go ?_
    refine Tr.seq ?_
    refine Tr.block ?_
    refine Tr.seq ?_
    refine Tr.An ?_
    refine TO.op rfl rfl Bw (BQ rfl (vl rfl)) ?_
    refine TO.alloc rfl rfl Bw rfl z3 zo3 (fun b6=> ?_)
    refine TO.AK 0 rfl rfl rfl (vl rfl) (VL.le (vl rfl) (AY _)) rfl Bt rfl rfl ?_
    refine TO.freeze 0 10 rfl rfl ?_
    refine TO.nil ?_
    refine Fin.go ?_
    refine Tr.seq ?_
    refine Tr.pad ?_
    refine Tr.GA mixed [some (0,4,false,0),none,none,some (0,3,false,0),none,none,some (0,1,false,0),some (0,0,true,85)] BS ?_
    refine Cx.rd 4 rfl rfl rfl Bw (BI rfl I6 (vl rfl) rfl) ?_
    refine Cx.op rfl rfl Bw (fun _=>EN rfl (vl rfl)) ?_
    refine Cx.op rfl rfl Bw (fun _=>AW rfl I8 (vl rfl)) ?_
    refine Cx.rd 3 rfl rfl rfl Bw (BI rfl I7 (vl rfl) rfl) ?_
    refine Cx.op rfl rfl Bw (fun _=>DB rfl C8 (vl rfl)) ?_
    refine Cx.op rfl rfl Bw (fun _=>Be rfl Tryz.underlying232 Ff (vl rfl) (vl rfl) AA AA) ?_
    refine Cx.rd 1 rfl rfl rfl Bw (BI rfl EY (vl rfl) (K4 hx)) ?_
    refine Cx.ef 0 rfl rfl Bw (GS rfl rfl Bw rfl (eL) ⟨⟨_,rfl,Pr.le_refl _⟩,trivial⟩) ?_
    refine Cx.nil ⟨rfl,?_⟩
    refine BE.open_ 0 85 rfl rfl (fun v1=> ?_)
    refine BE.done (As.cons (As.cons (As.cons (As.cons (As.cons (As.cons (As.map _))))))) ?_
    refine Fin.shape 85 (fun b=>iI b) rfl (fun fb7 fe7=> ?_)
    subst fe7
    refine Fin.Je 0 (AF true fb7 QH [_]) rfl rfl ?_
    refine Fin.go ?_
    refine Tr.weak [(5,_),(10,_),(74,_),(75,_),(85,_)] ⟨⟨_,rfl,Pr.le_refl _⟩,⟨_,rfl,Pr.le_refl _⟩,⟨_,rfl,Pr.le_refl _⟩,⟨_,rfl,Pr.le_refl _⟩,⟨_,rfl,Pr.le_refl _⟩,trivial⟩ ?_
    refine Tr.block ?_
    refine Tr.yh 11 [(5,_),(10,_)] ⟨⟨_,rfl,Pr.le_refl _⟩,⟨_,rfl,Pr.le_refl _⟩,trivial⟩ (fun pre=>AF true b1 QH ((Eb n l).map fun x=>u32 x)::AF true b2 QH ((pre.foldl (HS i) (Gz (Eb n l) i)).map fun x=>u32 x)::AF true b3 234 [int ((n:Nat):Int),is (Jl n b1),is (Jl n b2)]::AF true b4 176 [ptr b3 0]::(Ds.map Xn++Al M1 w1::rs)) (QI (s:=x)) QJ (vl rfl) ((Cf (j:=5) rfl).trans (List.Perm.cons _ ((Cf (j:=0) rfl).trans (List.Perm.cons _ (List.Perm.refl _))))) rfl Bw ?_ ?_ ?_
    ·
     rintro lk Dk rk Mr wr pre y0 hpre
     refine Tr.Aj ?_
     refine Ch.op rfl rfl Bw (Cu rfl (vl rfl)) ?_
     refine Ch.nil ?_
     exact Fin.st ⟨⟨_,rfl,Pr.le_refl _⟩,⟨_,rfl,Pr.le_refl _⟩,⟨_,rfl,Pr.le_refl _⟩,trivial⟩
    ·
     rintro lk Dk rk Mr wr pre y0 hpre
     have hlt:y0<n:=by
      have h_:=Ft.1 (aB hpre)
      rw [(F7 AA).2 i x hx,Bool.and_eq_true,decide_eq_true_eq] at h_
      exact h_.1
     have hal:(pre.foldl (HS i) (Gz (Eb n l) i)).length=n:=by rw [OD,Il,Db]
     obtain ⟨y,hy⟩:=at_ (l:=pre.foldl (HS i) (Gz (Eb n l) i)) (k:=y0) AA
     refine Tr.block ?_
     refine Tr.GA mixed [some (0,8,false,0),none,none,some (0,7,false,0),none,none,some (0,6,false,0),none,none,none,none,some (0,6,true,0)] BS ?_
     refine Cx.rd 8 rfl rfl rfl Bw (BI rfl I6 (vl rfl) rfl) ?_
     refine Cx.op rfl rfl Bw (fun _=>EN rfl (vl rfl)) ?_
     refine Cx.op rfl rfl Bw (fun _=>AW rfl cY (vl rfl)) ?_
     refine Cx.rd 7 rfl rfl rfl Bw (BI rfl I7 (vl rfl) rfl) ?_
     refine Cx.op rfl rfl Bw (fun _=>BQ rfl (vl rfl)) ?_
     refine Cx.op rfl rfl Bw (fun _=>Be rfl Tryz.underlying232 Ff (vl rfl) (vl rfl) AA AA) ?_
     refine Cx.rd 6 rfl rfl rfl Bw (BI rfl EY (vl rfl) (K4 hy)) ?_
     refine Cx.op rfl rfl Bw (fun _=>DB rfl C8 (vl rfl)) ?_
     refine Cx.op rfl rfl Bw (fun _=>KR (b:=1#32) rfl (vl rfl) (vl rfl) (Int.natCast_nonneg _)) ?_
     refine Cx.op rfl rfl Bw (fun _=>NK rfl (vl rfl) (vl rfl)) ?_
     refine Cx.op rfl rfl Bw (fun _=>Be rfl Tryz.underlying232 Ff (vl rfl) (vl rfl) AA AA) ?_
     refine Cx.DP 6 rfl rfl (A0 rfl rfl (vl rfl) (VL.le (vl rfl) (AY _)) Ff rfl Cz ((R8 hy).trans (congrArg (fun B:List (BitVec 32)=>B.map fun x=>u32 x) (iK hy)))) ?_
     refine Cx.nil ⟨rfl,?_⟩
     refine BE.done (As.cons (As.cons (As.cons (As.cons (As.cons (As.cons (As.cons (As.cons (As.cons (As.map _)))))))))) ?_
     refine Fin.block ?_
     exact Fin.rnd () (List.Perm.refl _)
    ·
     rintro lk Dk rk Mr wr
     refine Fin.drop 1 ?_
     refine Fin.drop 1 ?_
     refine Fin.drop 2 ?_
     refine Fin.KT (List.Perm.cons _ ((List.perm_middle (l₁:=[_,_,_,_])).symm)) ?_
     refine Fin.KT (List.perm_middle (l₁:=[_,_,_,_])).symm ?_
     refine Fin.block ?_
     refine Fin.block ?_
     refine Fin.go ?_
     refine Tr.Aj ?_
     first
      |(refine Ch.op rfl rfl Bw (Ek rfl (vl rfl) (vl rfl) ?hin) ?_;case hin=>unfold Ni;omega)
      |refine Ch.op rfl rfl Bw (ok_int rfl (vl rfl) (vl rfl) rfl) ?_
     refine Ch.op rfl rfl Bw (BQ rfl (vl rfl)) ?_
     refine Ch.nil ?_
     exact Fin.AC7 (_::_) (i+1) rfl (⟨Jq,by omega⟩) ⟨⟨_,rfl,AG i⟩,⟨_,rfl,Pr.le_refl _⟩,⟨_,rfl,Pr.le_refl _⟩,trivial⟩ ((by rw [T6 hx];exact fun _ _ h=>h))
   ·
    have q5:=DU.D9 h5
    have O8:i=(n):=by have:=AJ h5;omega
    have yw:=O8.symm
    subst yw
    refine Tr.exit ?_
    refine Fin.Ac ?_
    refine Fin.Ac ?_
    refine Fin.A7 ?_
    refine Fin.go ?_
    refine Tr.seq ?_
    refine Tr.eqC 0 (((Eb n l).map fun x=>[u32 x]).flatten++([]:List Value).map is) rfl (T8 _) ?_
    refine Tr.sU (cap:=n) (sz:=1) ((Eb n l).map fun x=>[u32 x]) 0 2 1 rfl rfl AB rfl (Pr.le_of_eq (by rw [List.length_map,Db n l])) (BD fun _=>rfl) (by rw [List.length_map,Db n l];exact Nat.le_refl _) FI (by simp [Il,Db]) rfl ?_
    refine Tr.eqC 1 (((Gz (Eb n l) n).map fun x=>[u32 x]).flatten++([]:List Value).map is) rfl (T8 _) ?_
    refine Tr.sU (cap:=n) (sz:=1) ((Gz (Eb n l) n).map fun x=>[u32 x]) 1 2 2 rfl rfl AB rfl (Pr.le_of_eq (by rw [List.length_map,(Il _ _).trans (Db n l)])) (BD fun _=>rfl) (by rw [List.length_map,(Il _ _).trans (Db n l)];exact Nat.le_refl _) FI (by simp [Il,Db]) rfl ?_
    refine Tr.Aj ?_
    refine Ch.op rfl rfl Bw (Cg 3 rfl (BI rfl I6 (vl rfl) rfl)) ?_
    refine Ch.op rfl rfl Bw (Cu rfl (vl rfl)) ?_
    refine Ch.nil ?_
    refine Fin.go ?_
    refine Tr.ret ?_
    refine Fin.freeze 2 4 rfl rfl ?_
    refine Fin.drop 0 ?_
    refine Fin.drop 0 ?_
    refine Fin.drop 0 ?_
    refine Fin.KT List.perm_middle.symm ?_
    refine Fin.eH ?_
    refine Fin.E7 rfl rfl ?_ (fun _ _ _ _=>rfl)
    · exact yu ⟨Pr.le_refl _,Ar _ _,Ar _ _,trivial⟩
def aD (n:Int) (l:List BC):Pr:=if BF n l=0 then ref [int n,bits (Eb n.toNat l),bits (Gz (Eb n.toNat l) n.toNat)] else is (.pointer none)
instance AC_ (n:Int) (l:List BC):One (aD n l):=by
 unfold aD;split
 · exact cC _
 · exact cB _
theorem Jv {n:Int} {l:List BC} {e:Int} (h:BF n l=e) (he:e≠0):Pr.le (is (.pointer none)) (aD n l):=by
 unfold aD;rw [if_neg He];exact Pr.le_refl _
theorem V4 {n:Int} {l:List BC} (h:BF n l=0):aD n l=ref [int n,bits (Eb n.toNat l),bits (Gz (Eb n.toNat l) n.toNat)]:=by
 unfold aD;rw [if_pos h]
theorem K5 {n:Int} {l:List BC} (h:n<0∨24<n):BF n l=2:=by unfold BF;rw [if_pos h]
theorem Qb {n:Int} {l:List BC} {k:Nat} {r:BC} (h:0≤n∧n≤24) (hr:l[k]? =some r) (hb:FU n r=true):BF n l=44:=by
 unfold BF;rw [if_neg AA,if_pos (List.any_eq_true.2 ⟨r,List.mem_of_getElem? hr,hb⟩)]
theorem eN {n:Int} {l:List BC} (h:∀j y,j<l.length→l[j]? =some y→FU n y=false):∀r∈l,FU n r=false:=fun r hr=>by
 obtain ⟨j,hj⟩:=List.mem_iff_getElem?.1 hr
 exact h j r Yt hj
theorem aE {n:Int} {l:List BC} (h:∀r∈l,FU n r=false):¬l.any (FU n)=true:=by
 rw [Bool.not_eq_true,List.any_eq_false];exact fun r hr=>by rw [h r hr];decide
theorem V5 {n:Int} {l:List BC} {k:Nat} {a b:BC} (h:0≤n∧n≤24) (hb:∀r∈l,FU n r=false) (hk:0<k) (ha:l[k-1]? =some a) (hx:l[k]? =some b) (hl:Er a b=false):BF n l=6:=by
 unfold BF;rw [if_neg AA,if_neg (aE hb),if_pos]
 cases hs:D_ l with
 |false=>rfl
 |true=>
  have:=MK.1 hs (k-1) a b ha (by rw [Nat.sub_add_cancel hk];exact hx)
  rw [hl] at this;cases this
theorem R_ {n:Nat} {l:List BC} {i:Nat} (h:n≤24) (hb:∀r∈l,FU n r=false) (hs:D_ l=true) (hi:i<n) (hw:C5 l n i i=true):BF n l=45:=by
 unfold BF;rw [if_neg AA,if_neg (aE hb),if_neg (by rw [hs];decide),if_pos (show ACy (n:Int).toNat l=true from List.any_eq_true.2 ⟨i,List.mem_range.2 AA,hw⟩)]
theorem V6 {n:Nat} {l:List BC} (h:n≤24) (hb:∀r∈l,FU n r=false) (hs:D_ l=true) (hw:∀i,i<n→C5 l n i i=false):BF n l=0:=by
 unfold BF;rw [if_neg AA,if_neg (aE hb),if_neg (by rw [hs];decide),if_neg]
 intro hc
 obtain ⟨i,hi,h2⟩:=List.any_eq_true.1 hc
 have:=hw i (by simpa using hi)
 rw [show ((n:Int)).toNat=n from rfl] at h2
 rw [this] at h2;cases h2
theorem SA {l:List BC} (h:∀(j:Nat) a b,j+1<l.length→l[j]? =some a→l[j+1]? =some b→Er a b=true):D_ l=true:=MK.2 fun j a b ha hb=>h j a b (by rcases Nat.lt_or_ge (j+1) l.length with h2|h2;exact h2;rw [List.getElem?_eq_none h2] at hb;cases hb) ha hb
theorem KU {l:List BC} {k:Nat} {x:BC} (hx:l[k]? =some x) (hp:∀y,0<k→l[k-1]? =some y→Er y x=true) (h:∀(j:Nat) a b,j+1<k→l[j]? =some a→l[j+1]? =some b→Er a b=true):∀(j:Nat) a b,j+1<k+1→l[j]? =some a→l[j+1]? =some b→Er a b=true:=by
 intro j a b hj ha hb
 by_cases hjk:j+1=k
 · exact Ug
 · exact h j a b AA ha hb
theorem eO {n:Int} {l:List BC}  :Bj prog 136 [int n,reqs l] (Dz [aD n l,int (BF n l)]) (EI) (fun _=>EI):=by
 refine Bj.of func136 rfl rfl Ao fun M0 w0 S rs M1 w1=> ?_
 refine Tr.Cm 1 rfl fun Fo=> ?_
 refine ac ?_
 refine ag ?_ ?_<;>intro h1 q1
 refine a2 ?_
 refine Tr.ret (Fin.AE (Fin.F1 rfl rfl ?_ rfl ?_))
 · exact Jv (K5 AA) AB
 · refine int_eq ?_;exact (K5 AA).symm
 refine an ?_ ?_<;>intro h2 q2
 refine ac ?_
 refine Tr.ret (Fin.AE (Fin.F1 rfl rfl ?_ rfl ?_))
 · exact Jv (K5 AA) AB
 · refine int_eq ?_;exact (K5 AA).symm
 have Nc:0≤n∧n≤24:=by omega
 obtain ⟨m,hm⟩:∃m:Nat,n=(m:Int):=⟨n.toNat,by omega⟩
 refine a2 ?_
 refine Tr.block (Tr.BH _ (kk [19,18,1,0] rfl) (fun k:Nat=>[(20,int ((k:Nat):Int))]) (fun k:Nat=>k≤(l).length∧(∀j y,j<k→l[j]? =some y→FU n y=false)) (fun k:Nat=>(l).length-k) 0 (⟨Nat.zero_le _,fun j y hj=>absurd hj AA⟩) kz ?_)
 rintro k ⟨BU,AZ⟩
 refine ac ?_
 refine Tr.seq ?_
 refine Tr.cn rfl ?_ ?_<;>intro h3 q3
 have Af:k<(l).length:=AH h3
 obtain ⟨x,Ah⟩:=at_ Af
 refine ac ?_
 refine Tr.seq (Tr.block (Tr.seq (Tr.An (tp rfl (AD rfl underlying33 Cw vq vq AA (AX Ah)) (tp rfl (AP rfl Fe Cw vq rfl rfl) ?_)))))
 refine Tl rfl rfl rfl rfl Sj Q8 (fun b1=> ?_)
 refine sf 0 7 ⟨rfl,rfl,rfl⟩ rfl rfl rfl rfl ?_
 refine ao ?_
 refine ag ?_ ?_<;>intro h4 q4
 refine ac ?_
 refine wk [50,20,19,18,1,0] rfl ?_
 refine ac ?_
 refine Tr.ret (Fin.AU (Fin.AE (Fin.AE (Fin.AU (Fin.AE (Fin.F1 rfl rfl ?_ rfl ?_))))))
 · exact Qc
 · exact Qa
 refine ag ?_ ?_<;>intro h5 q5
 refine ac ?_
 refine wk [50,20,19,18,1,0] rfl ?_
 refine ac ?_
 refine Tr.ret (Fin.AU (Fin.AE (Fin.AE (Fin.AU (Fin.AE (Fin.F1 rfl rfl ?_ rfl ?_))))))
 · exact Qc
 · exact Qa
 refine ag ?_ ?_<;>intro h6 q6
 refine ac ?_
 refine wk [50,20,19,18,1,0] rfl ?_
 refine ac ?_
 refine Tr.ret (Fin.AU (Fin.AE (Fin.AE (Fin.AU (Fin.AE (Fin.F1 rfl rfl ?_ rfl ?_))))))
 · exact Qc
 · exact Qa
 refine ag ?_ ?_<;>intro h7 q7
 refine ac ?_
 refine wk [50,20,19,18,1,0] rfl ?_
 refine ac ?_
 refine Tr.ret (Fin.AU (Fin.AE (Fin.AE (Fin.AU (Fin.AE (Fin.F1 rfl rfl ?_ rfl ?_))))))
 · exact Qc
 · exact Qa
 refine ac ?_
 refine wk [50,20,19,18,1,0] rfl ?_
 refine Tr.cn rfl ?_ ?_<;>intro h8 q8
 refine ac ?_
 refine Tr.ret (Fin.AU (Fin.AE (Fin.AE (Fin.AU (Fin.AE (Fin.F1 rfl rfl ?_ rfl ?_))))))
 · exact Qc
 · exact Qa
 refine a2 ?_
 exact Fin.AL (k+1) ⟨⟨Af,Dv (p:=FU n) Ah bt AZ⟩,by omega⟩ ⟨⟨_,rfl,AG k⟩,kz⟩
 have BK:k=(l).length:=by have:=AJ h3;omega
 subst BK
 refine ac ?_
 refine Tr.seq (Tr.seq ?_)
 have hall:=eN AZ
 clear AZ
 refine ac ?_
 refine Tr.block (Tr.BH _ (kk [53,1,0] rfl) (fun k:Nat=>[(54,int ((k:Nat):Int))]) (fun k:Nat=>k≤(l).length∧(∀(j:Nat) a b,j+1<k→l[j]? =some a→l[j+1]? =some b→Er a b=true)) (fun k:Nat=>(l).length-k) 0 (⟨Nat.zero_le _,fun j a b hj=>absurd hj AA⟩) kz ?_)
 rintro k ⟨BU,AZ⟩
 refine ac ?_
 refine Tr.seq ?_
 refine Tr.cn rfl ?_ ?_<;>intro h9 q9
 have Af:k<(l).length:=AH h9
 obtain ⟨x,Ah⟩:=at_ Af
 refine a2 ?_
 refine ag ?_ ?_<;>intro h10 P7
 obtain ⟨y,hy⟩:=at_ (l:=l) (k:=k-1) AA
 refine ac ?_
 refine cy h10 rfl (AD rfl underlying33 Cw vq vq AA (Qu AA hy)) ?_
 refine ac ?_
 refine cy h10 rfl (AD rfl underlying33 Cw vq vq AA (AX Ah)) (cy h10 rfl (AP rfl Fe Cw vq rfl rfl) ?_)
 refine cy h10 rfl (CL (aC (a:=y) (b:=x)) rfl rfl rfl) ?_
 refine ac ?_
 refine wk [71,54,53,1,0] rfl ?_
 refine Tr.cn rfl ?_ ?_<;>intro h11 Sx
 refine ac ?_
 refine Tr.ret (Fin.AU (Fin.AE (Fin.AE (Fin.AU (Fin.AE (Fin.F1 rfl rfl ?_ rfl ?_))))))
 · exact Jv (V5 Nc hall AA hy Ah (by have h_:=V3 (a:=y) (b:=x);simp_all)) AB
 · refine int_eq ?_;exact (V5 Nc hall AA hy Ah (by have h_:=V3 (a:=y) (b:=x);simp_all)).symm
 refine a2 ?_
 exact Fin.AL (k+1) ⟨⟨Af,KU Ah (by intro y2 hk2 n5;rw [hy] at n5;cases n5;have h_:=V3 (a:=y) (b:=x);simp_all) AZ⟩,by omega⟩ ⟨⟨_,rfl,AG k⟩,kz⟩
 refine ac ?_
 refine wk [71,54,53,1,0] rfl ?_
 refine a2 ?_
 exact Fin.AL (k+1) ⟨⟨Af,KU Ah (by intro y2 hk2 n5;omega) AZ⟩,by omega⟩ ⟨⟨_,rfl,AG k⟩,kz⟩
 have BK:k=(l).length:=by have:=AJ h9;omega
 subst BK
 refine ac ?_
 refine Tr.seq ?_
 have uU:=SA AZ
 subst hm
 refine ao ?_
 refine TO.IP 0 rfl rfl AB (Aq rfl rfl AB rfl (iL (n:=m) AA hall) ⟨kq,kz⟩) ?_
 refine ao ?_
 refine Tr.seq (Tr.seq ?_)
 have W0:=Db m l
 refine ac ?_
 refine wk [81,80,79,9] rfl (Tr.block (Tr.BH _ (kk [80,79,9] rfl) (fun i:Nat=>[(81,int ((i:Nat):Int))]) (fun i:Nat=>i≤(Eb m l).length∧(∀j,j<i→C5 l m j j=false)) (fun i:Nat=>(Eb m l).length-i) 0 (⟨Nat.zero_le _,fun j hj=>absurd hj AA⟩) kz ?_))
 rintro i ⟨XS,E0⟩
 refine ac ?_
 refine Tr.seq ?_
 refine Tr.cn rfl ?_ ?_<;>intro h12 WT
 have Jq:i<(Eb m l).length:=AH h12
 obtain ⟨x,LA⟩:=at_ Jq
 refine a2 ?_
 refine co rfl (AD rfl underlying232 Ff vq vq AA (R9 LA)) ?_
 refine a2 ?_
 refine co rfl (CL (eK) rfl rfl rfl) ?_
 refine an ?_ ?_<;>intro NU dI
 refine ac ?_
 refine wk [5,4] rfl (Tr.ret (Fin.AU (Fin.AE (Fin.AE (Fin.AU (Fin.AE (Fin.F1 rfl rfl ?_ rfl ?_)))))))
 · exact Jv (R_ AA hall uU (i:=i) AA bQ) AB
 · refine int_eq ?_;exact (R_ AA hall uU (i:=i) AA bQ).symm
 refine a2 ?_
 exact Fin.AL (i+1) ⟨⟨Jq,(fun j hj=>by rcases Nat.lt_or_ge j i with h_|h_;exact E0 j h_;(obtain rfl:j=i:=by omega);have h_:=(F7 (l:=l) (show m≤32 by omega)).2 j x LA j;simp_all;done)⟩,by omega⟩ ⟨⟨_,rfl,AG i⟩,kz⟩
 have O8:i=(Eb m l).length:=by have:=AJ h12;omega
 rw [Db] at O8
 subst O8
 refine a2 ?_
 refine Tr.ret (Fin.F1 rfl rfl ?_ rfl ?_)
 · rw [V4 (V6 AA hall uU E0)];exact Lr
 · refine int_eq ?_;exact (V6 AA hall uU E0).symm
end Go.Proofs.YtmocaapoeefgkaaGreatDoor
namespace Cp
open Go Go.RowKit Go.Great
section
variable {P:Program} {L:Lg P} {n:Fm} {fz:Nat} {E:Env} {M0:Av} {w0:World} {S:Nat→Prop} {o:Oper}
def ox (T:TypeId) (u v:Value):At:=match v with| .pointer (some a)=>AF true a.block T (u.cells.toList.map is)|_=>Bu
theorem eP {j d s:Nat} {R:SR} {p1 q:Pr} {p:Value→Pr} {R':Value→Value→At} (hd:o.dst=some d) (hs:d≠s) (hq:∀v,Pr.le (p v) q) (hg:o.guard=none) (h1:E.lookup s=some p1) (hls:s∈looks o) (h:∀v,DI P M0 w0 S n j R ⟨d,R' v⟩ o ((s,Ad v p1)::E) (p v)):DI P M0 w0 S n j R ⟨.two d s,T5 R'⟩ o E q:=by
 refine ⟨hg,fun M w a rs hsz he hI hj=> ?_⟩
 refine D4.conv (hq _) (fun v=> ?_) ((h (a.tmps.getD s undef)).2 M w a rs hsz (GK he s (he s p1 hls h1)) hI hj)
 rw [NL,hd,BZ (Ne.symm hs)];rfl
theorem T_ {t:TypeId} {s y:Tmp} {j m:Nat} {T:TypeId} {ps qs:List Pr} {p:Pr} (hg:o.guard=none) (hd:o.dst=none) (ho:o.op= .store t (.tmp s) (.tmp y)) (hsy:s≠y) (hx:E.lookup s=some (Cp.ex fun b=>ptr b 0)) (hy:E.lookup y=some p) (hp:Pr.le p (Cv qs))
  (hz:BB P t=some m) (hm:qs.length=m) (hl:ps.length=m):DI P M0 w0 S n j ⟨s,El T ps⟩ ⟨.two s y,T5 fun u v=>ox T u v⟩ o E any:=by
 refine ⟨hg,fun M w a rs hsz he hI hj=> ?_⟩
 have hyl:y∈looks o:=Ik (op:= .store t (.tmp s) (.tmp y)) Mc ho
 have hpy:=hp _ _ _ (he y p hyl hy)
 have hle:Pr.le (Ad (a.tmps.getD y undef) (Cv qs)) (Cv ((a.tmps.getD y undef).cells.toList.map is)):=fun M w v h=>by
  obtain ⟨rfl,h2⟩:=h
  obtain ⟨g1,g2⟩:=h2
  exact ⟨J1 _ _ _,g2⟩
 have h:=(CZ (P:=P) (M0:=M0) (w0:=w0) (S:=S) (n:=n) (j:=j) (T:=T) (ps:=ps) (qs:=(a.tmps.getD y undef).cells.toList.map is) (E:=(y,Ad (a.tmps.getD y undef) (Cv qs))::E) hg hd ho bP ⟨_,List.lookup_cons_self,hle⟩ hz (by have:=hpy.1.length;rw [List.length_map];omega) hl).2 M w a rs hsz (GK he y hpy) hI hj
 refine D4.conv (Pr.le_refl _) (fun v=> ?_) h
 rw [NL,hd];rfl
end
section
variable {P:Program} {L:Lg P} {n:Fm} {fz:Nat} {E:Env} {M0:Av} {w0:World} {S:Nat→Prop} {rs:List At} {Q:Exit→Act→World→Prop}
theorem Xo {M:Av} {w:World}:∀{zs cs:List Value},HL M w (zs.map is) cs→cs=zs
 |[],[],_=>rfl
 |[],_::_,h=>h.elim
 |_::_,[],h=>h.elim
 |z::zs,c::cs,h=>by
  obtain ⟨h1,h2⟩:=h
  rw [Xo h2,show c=z from h1]
theorem Fin.SB {e:Exit} {T:TypeId} {u:Value} {b:Nat} {ps:List Pr} (i j:Nat) (hi:rs[i]? =some (KS (agg ps) u)) (hj:rs[j]? =some (ox T u (.pointer (some ⟨b,0,none⟩)))) (k:Fin n E (Hp M0 w0 S (rs.set j (AF true b T ps))) Q e):Fin n E (Hp M0 w0 S rs) Q e:=by
 rintro a w ⟨M,h1,h2,h3,h4⟩
 have h4:A9 M0 w0 S rs M w:=h4
 refine k a w ⟨M,h1,h2,h3,A9.C4 h4 hj rfl rfl ?_⟩
 obtain ⟨cs,rfl,_,hcs⟩:=(h4.hold _ (List.mem_of_getElem? hi)).1
 obtain ⟨g0,cs',g1,g2,g3⟩:=(h4.hold _ (List.mem_of_getElem? hj)).1
 have e1:cs'=cs:=by
  have:=Xo g2
  rw [this];show cs.toArray.toList=cs;simp
 subst e1
 exact ⟨g0,cs',g1,hcs,g3⟩
end
section
variable {P:Program}
theorem Bj.uV {f:FuncId} {args:List Pr} {res:Pr} {r:At} (h:Bj P f args res r (fun _=>r)) (hb:r.blk=none) (W:World) (vs:List Value) (hr:r.h noM W) (hv:HL noM W args vs):
  Calls P f vs.toArray W fun e w'=>∃v,e= .returned v∧res.h noM w' v∧Below W.heap.size W w':=by
 refine (h.2 noM W FO [] noM W vs ((A9.begin (wu W)).Ji (r:=r) hb hr) hv).mono ?_
 rintro e w' ⟨v,M',rfl,h2,h3,h4⟩
 exact ⟨v,rfl,res.st _ _ _ _ _ (Ext.less h4.m) h2,h4.below⟩
end
section
variable {P:Program} {n:Fm} {E:Env} {M0:Av} {w0:World} {S:Nat→Prop} {rs:List At} {Q:Exit→Act→World→Prop} {p0 p1:Pr} {R:Value→At}
end
section
variable {P:Program} {L:Lg P} {n:Fm} {E:Env} {M0:Av} {w0:World} {S:Nat→Prop} {rs:List At} {Q:Exit→Act→World→Prop} {c:Code}
theorem Tr.ADA {e:TypeId} {sz:Nat} {rows:List (List Pr)} {p:Pr} (s:Nat) (hs:E.lookup s=some p) (hp:Pr.le p (full sz rows)) (k:∀v,Tr L n ((s,Ad v (slice sz rows))::E) (Hp M0 w0 S (Aw e sz v::rs)) c Q):Tr L n E (Hp M0 w0 S rs) c Q:=by
 intro a w hst
 obtain ⟨M,k1,k2,k3,k4⟩:=hst
 have k4:A9 M0 w0 S rs M w:=k4
 obtain ⟨h1,A,h2⟩:=hp _ _ _ (k3 s p hs)
 refine k (a.tmps.getD s undef) a w ⟨M,k1,k2,fun t q hq=> ?_,A9.Ji k4 ?_ ?_⟩
 ·
  simp only [List.lookup] at hq
  split at hq
  ·
   rename_i e1
   have:t=s:=by simpa using e1
   subst this
   simp only [Option.some.injEq] at hq
   subst hq
   exact ⟨rfl,h1⟩
  · exact k3 t q hq
 ·
  rw [h2]
  show Dl _=none
  cases A with
  |none=>rfl
  |some x=>simp [Dl]
 ·
  intro b m d hv hlt
  rw [h2] at hv
  cases hv
  exact absurd hlt (Nat.lt_irrefl _)
variable {ε:Type}
theorem eR {f:ε→At}:∀{X:List ε} {k:Nat} {x:ε},X[k]? =some x→(HX (fun x=>[f x]) X)[k]? =some (f x)
 |[],_,_,h=>by simp at h
 |a::X,0,x,h=>by simp at h;subst h;rfl
 |a::X,k+1,x,h=>by
  show (HX (fun x=>[f x]) X)[k]? =_
  exact eR D3
theorem Fin.fold {x:Exit} {res:ε→List At} (Co:List At) {es:List ε} (y:ε) (O6:rs=res y++(Co++HX res es)) (k:Fin n E (Hp M0 w0 S (Co++HX res (es++[y]))) Q x):Fin n E (Hp M0 w0 S rs) Q x:=
 Fin.KT (by
  subst O6
  rw [W9,←List.append_assoc Co]
  exact List.perm_append_comm) k
theorem Tr.uW {f:ε→Value} {g:ε→Pr} {X:List ε} {p:Pr} (j s:Nat) (hj:rs[j]? =some (n9 f g X)) (hs:E.lookup s=some p) (hp:Pr.le p (slice 1 (X.map fun x=>[is (f x)]))) (k:Tr L n ((s,slice 1 (X.map fun x=>[g x]))::E) (Hp M0 w0 S rs) c Q):Tr L n E (Hp M0 w0 S rs) c Q:=by
 intro a w ha
 obtain ⟨M,k1,k2,k3,k4⟩:=ha
 have k4:A9 M0 w0 S rs M w:=k4
 refine k a w ⟨M,k1,k2,fun t q hq=> ?_,k4⟩
 simp only [List.lookup] at hq
 split at hq
 ·
  rename_i e1
  have:t=s:=by simpa using e1
  subst this
  simp only [Option.some.injEq] at hq
  subst hq
  obtain ⟨ad,cap,h1,h2,h3,h4,h5⟩:=hp _ _ _ (k3 t p hs)
  have hall:=(k4.hold _ (List.mem_of_getElem? hj)).1
  refine ⟨ad,cap,by rw [h1];simp,by simpa using h2,h3,h4,fun i row hr=> ?_⟩
  rw [List.getElem?_map] at hr
  cases hx:X[i]? with
  |none=>rw [hx] at hr;cases hr
  |some x=>
   rw [hx] at hr
   simp only [Option.map_some,Option.some.injEq] at hr
   subst hr
   obtain ⟨_,ad2,h6,h7⟩:=h5 i [is (f x)] Ut
   refine ⟨rfl,ad2,h6,fun q r hr=> ?_⟩
   cases q with
   |zero=>
    simp only [List.getElem?_cons_zero,Option.some.injEq] at hr
    subst hr
    obtain ⟨u,h8,h9,h10,h11⟩:=h7 0 _ rfl
    have hu:u=f x:=h11
    exact ⟨u,h8,h9,h10,by rw [hu];exact hall x (List.mem_of_getElem? hx)⟩
   |succ q=>simp at hr
 · exact k3 t q hq
abbrev HT (e:TypeId) (x:Nat×List Bool):List At:=[AF true x.1 e (x.2.map fun b=>bool b)]
theorem oy {n:Nat}:(List.replicate n (Value.bool false)).map is=(List.replicate n false).map fun b=>bool b:=by rw [List.map_replicate,List.map_replicate]
theorem Tr.uX {e:TypeId} {m:Nat} {X:List (Nat×List Bool)} {p:Pr} (Co:List At) (s:Nat) (O6:rs=Co++HX (HT e) X) (hm:m≤maxLen) (hX:∀x∈X,x.2.length=m) (hs:E.lookup s=some p) (hp:Pr.le p (slice 1 (X.map fun x=>[is (Jl m x.1)])))
  (k:Tr L n ((s,slice 1 (X.map fun x=>[slice 1 (x.2.map fun b=>[bool b])]))::E) (Hp M0 w0 S (n9 (fun x:Nat×List Bool=>Jl m x.1) (fun x=>slice 1 (x.2.map fun b=>[bool b])) X::Co)) c Q):Tr L n E (Hp M0 w0 S rs) c Q:=by
 subst O6
 intro a w hst
 obtain ⟨M,k1,k2,k3,k4⟩:=hst
 have k4:A9 M0 w0 S (Co++HX (HT e) X) M w:=k4
 obtain ⟨M1,g1,g2,g3⟩:=A9.VW (w:=w) (Φ:=fun (x:Nat×List Bool) M w=>Row M w ⟨x.1,0,none⟩ 0 (x.2.map fun b=>bool b)) (fun x M M' he h=>Row.st he h) (fun x rs M h=>by
  obtain ⟨M',h1,h2,h3⟩:=A9.cR h
  exact ⟨M',h2,h1,h3⟩) X _ M k4
 refine Tr.uW (f:=fun x:Nat×List Bool=>Jl m x.1) (g:=fun x=>slice 1 (x.2.map fun b=>[bool b])) (X:=X) 0 s rfl hs hp k a w ⟨M1,k1,k2,fun t q hq=>q.st _ _ _ _ _ g1 (k3 t q hq),A9.Ji g2 rfl fun x hx=> ?_⟩
 have hl:=hX x hx
 refine ⟨some ⟨x.1,0,none⟩,m,by rw [List.length_map,hl],by rw [List.length_map,hl];exact Nat.le_refl _,hm,(fun h=>nomatch h),fun i row hr=> ?_⟩
 rw [List.getElem?_map] at hr
 cases hb:x.2[i]? with
 |none=>rw [hb] at hr;cases hr
 |some b=>
  rw [hb] at hr
  simp only [Option.map_some,Option.some.injEq] at hr
  subst hr
  refine ⟨rfl,_,rfl,fun q r hq=> ?_⟩
  cases q with
  |zero=>
   simp only [List.getElem?_cons_zero,Option.some.injEq] at hq
   subst hq
   have:=g3 x hx i (bool b) (by rw [List.getElem?_map,hb];rfl)
   simpa using this
  |succ q=>simp at hq
end
theorem wJ {i m:Nat} (h:i≤m) (hm:m≤40):1≤2 ^ i∧2 ^ i≤2 ^ m∧2 ^ m≤1099511627776:=
 ⟨Nat.one_le_two_pow,Nat.pow_le_pow_right AA h,Nat.le_trans (Nat.pow_le_pow_right (n:=2) AA hm) AB⟩
section
variable {P:Program} {I:Ck} {o:Oper} {E:Env}
theorem eS {t u:TypeId} {x y:Operand} {i:Int} (ho:o.op= .binOp .shl t x y u) (hx:VL E x (int 1)) (hy:VL E y (int i)) (h0:0≤i) (h40:i≤40):Ag P I o E (int ((2 ^ i.toNat:Nat):Int)):=
 Ag.same fun M w a he _=>by
  have h1:a.eval x= .int .i64 1:=hx.ev he Au
  have h2:a.eval y= .int .i64 i:=hy.ev he Au
  have hn:¬i<0:=by omega
  have hmin:min i.toNat 64=i.toNat:=by omega
  have e:((2 ^ i.toNat:Nat):Int)=(2:Int) ^ i.toNat:=Int.natCast_pow 2 i.toNat
  obtain ⟨ZQ,hp2,hp3⟩:=wJ (i:=i.toNat) (m:=i.toNat) (Nat.le_refl _) AA
  have hw:IntKind.i64.wrap (2 ^ i.toNat)=2 ^ i.toNat:=by rw [←e];exact Gu Km
  refine ⟨.int .i64 (IntKind.i64.wrap (1*2 ^ (min i.toNat IntKind.i64.bits))),?_,?_⟩
  ·
   simp only [execOp,ho,h1,h2]
   simp [eqGuard,binOp,Op.shift,hn]
   try rw [show min i.toNat IntKind.i64.bits=i.toNat from hmin]
  ·
   show Value.int _ _=Value.int _ _
   rw [show min i.toNat IntKind.i64.bits=i.toNat from hmin,Int.one_mul,hw,e]
theorem yx {t u:TypeId} {x y:Operand} {a b m:Nat} (ho:o.op= .binOp .or t x y u) (hx:VL E x (int (a:Int))) (hy:VL E y (int (b:Int))) (ha:a<2 ^ m) (hb:b<2 ^ m) (hm:m≤40):Ag P I o E (int ((a|||b:Nat):Int)):=
 Ag.same fun M w c he _=>by
  have h1:c.eval x= .int .i64 a:=hx.ev he Au
  have h2:c.eval y= .int .i64 b:=hy.ev he Au
  obtain ⟨_,_,hp3⟩:=wJ (i:=m) (m:=m) (Nat.le_refl _) hm
  have hab:a|||b<2 ^ m:=Nat.or_lt_two_pow ha hb
  have ea:(BitVec.ofInt 64 (a:Int)).toNat=a:=by rw [BitVec.toNat_ofInt];omega
  have eb:(BitVec.ofInt 64 (b:Int)).toNat=b:=by rw [BitVec.toNat_ofInt];omega
  have er:(BitVec.ofInt 64 (a:Int)|||BitVec.ofInt 64 (b:Int)).toNat=a|||b:=by rw [BitVec.toNat_or,ea,eb]
  refine ⟨_,by simp [execOp,ho,h1,h2,eqGuard,binOp,Op.intBits];rfl,?_⟩
  show Value.int _ _=Value.int _ _
  congr 1
  show IntKind.i64.wrap (((BitVec.ofInt 64 (a:Int)|||BitVec.ofInt 64 (b:Int)).toNat:Nat):Int)=_
  rw [er]
  exact Gu Km
end
section
variable {P:Program} {fz:Nat} {E:Env} {M0:Av} {w0:World} {rs:List At} {g:Func}
theorem results4 {r r' r'' r3:ResultVar} {a:Act} {w:World} {v v' v'' v3:Value} (hr:g.results= #[r,r',r'',r3]) (h:(HG r a).run P w= .ok v w) (h':(HG r' a).run P w= .ok v' w) (h'':(HG r'' a).run P w= .ok v'' w) (h3:(HG r3 a).run P w= .ok v3 w):(results g a.tmps).run P w= .ok (.tuple #[v,v',v'',v3]) w:=by
 rw [HH,hr];simp [Sem.run_bind,h,h',h'',h3]
theorem Fin.Ou {r r' r'' r3:ResultVar} {p q q' kL q3:Pr} (hr:g.results= #[r,r',r'',r3]) (h:AM P E rs r q) (h':AM P E rs r' q') (h'':AM P E rs r'' kL) (h3:AM P E rs r3 q3) (hl:Pr.le (Dz [q,q',kL,q3]) p):Fin ⟨fz,[]⟩ E (Hp M0 w0 FO rs) (bodyPost P g (U3 M0 w0 p)) .ret:=by
 rintro a w ⟨M,_,hd,he,hi⟩
 obtain ⟨v,hv,hp⟩:=h M w a he (fun q hq=>(hi.hold q hq).1)
 obtain ⟨v',k5,hp'⟩:=h' M w a he (fun q hq=>(hi.hold q hq).1)
 obtain ⟨v'',k6,k7⟩:=h'' M w a he (fun q hq=>(hi.hold q hq).1)
 obtain ⟨v3,hv3,hp3⟩:=h3 M w a he (fun q hq=>(hi.hold q hq).1)
 obtain ⟨h1,h2⟩:=Bg.Dc M0 w0 M w hi
 exact ⟨hd,_,results4 hr hv k5 k6 hv3,_,rfl,p.st _ _ _ _ _ (Ext.less h1) (hl _ _ _ ⟨[_,_,_,_],rfl,hp,hp',k7,hp3,trivial⟩),h2⟩
end
def aF {β:Type} (b:Nat) (e:TypeId) (f:β→List Pr) (φ:β→Prop):At where
 blk:=some b
 new:=true
 h M w:=∃x:β,φ x∧(AF true b e (f x)).h M w
 st M w M' w' he hk h:=let ⟨x,h1,h2⟩:=h;⟨x,h1,(AF true b e (f x)).st M w M' w' he hk h2⟩
def V7 {β:Type} (T:TypeId) (f:β→List Pr) (φ:β→Prop) (v:Value):At:=match v with| .pointer (some a)=>aF a.block T f φ|_=>Bu
section
variable {P:Program} {L:Lg P} {n:Fm} {E:Env} {M0:Av} {w0:World} {S:Nat→Prop} {rs:List At} {o:Oper} {β:Type} {f:β→List Pr} {φ:β→Prop}
theorem Fin.eT {Q:Exit→Act→World→Prop} {x:Exit} {b:Nat} {e:TypeId} (j:Nat) (hj:rs[j]? =some (aF b e f φ)) (k:∀z,φ z→Fin n E (Hp M0 w0 S (rs.set j (AF true b e (f z)))) Q x):Fin n E (Hp M0 w0 S rs) Q x:=by
 intro a w h
 obtain ⟨M,h1,h2,h3,h4⟩:=h
 have h4:A9 M0 w0 S rs M w:=h4
 obtain ⟨z,hp,h8⟩:=(h4.hold _ (List.mem_of_getElem? hj)).1
 exact k z hp a w ⟨M,h1,h2,h3,h4.C4 hj rfl rfl h8⟩
theorem D4.wk {a:Act} {M:Av} {w:World} {p:Pr} {j:Nat} {R1 R2:SR} {rs:List At} {r:Result Next} (hjl:j<rs.length) (hd:o.dst=none) (hb:(R2.at_ a).blk=(R1.at_ a).blk) (hn:(R2.at_ a).new=(R1.at_ a).new) (hh:∀M w,(R1.at_ a).h M w→(R2.at_ a).h M w) (h:D4 P M0 w0 S o a M w p j R1 rs r):D4 P M0 w0 S o a M w p j R2 rs r:=by
 have key:∀v M' w',A9 M0 w0 S (rs.set j (R1.at_ (a.put o.dst v))) M' w'→A9 M0 w0 S (rs.set j (R2.at_ (a.put o.dst v))) M' w':=by
  intro v M' w' hI
  rw [hd] at hI ⊢
  have hI:A9 M0 w0 S (rs.set j (R1.at_ a)) M' w':=hI
  have h1:(rs.set j (R1.at_ a))[j]? =some (R1.at_ a):=by rw [List.getElem?_set_self hjl]
  have:=hI.C4 (r':=R2.at_ a) h1 hb hn (hh _ _ (hI.hold _ (List.mem_of_getElem? h1)).1)
  rw [List.set_set] at this
  exact this
 cases r with
 |halt x w'=>exact h
 |ok x w'=>
  cases x
  case value v=>obtain ⟨M',g1,g2,g3⟩:=h;exact ⟨M',g1,g2,key _ _ _ g3⟩
  case skip=>obtain ⟨M',g1,g2,g3⟩:=h;exact ⟨M',g1,g2,key _ _ _ g3⟩
  case enter f args=>
   refine Calls.mono h ?_
   rintro e w'' ⟨v,M',g0,g1,g2,g3⟩
   exact ⟨v,M',g0,g1,g2,key _ _ _ g3⟩
  all_goals exact h
theorem K6 {t:TypeId} {s y:Tmp} {j m:Nat} {T:TypeId} {ps:List Pr} (hg:o.guard=none) (hd:o.dst=none) (ho:o.op= .store t (.tmp s) (.tmp y)) (hsy:s≠y) (hx:E.lookup s=some (Cp.ex fun b=>ptr b 0)) (hy:E.lookup y=some (Cp.ex fun z:β=>fact (φ z) (agg (f z))))
  (hz:BB P t=some m) (hm:∀z,(f z).length=m) (hl:ps.length=m):DI P M0 w0 S n j ⟨s,El T ps⟩ ⟨s,V7 T f φ⟩ o E any:=by
 have hlk:y∈looks o:=Ik (op:= .store t (.tmp s) (.tmp y)) Mc ho
 refine DI.LX y hg hy hlk fun z=>DI.opf y hg (by simp [List.lookup];rfl) hlk fun hφ=> ?_
 have hx':List.lookup s ((y,agg (f z))::(y,fact (φ z) (agg (f z)))::E)=some (Cp.ex fun b=>ptr b 0):=by
  have:(s==y)=false:=by simpa using hsy
  simp only [List.lookup,this];exact hx
 have h:=CZ (P:=P) (M0:=M0) (w0:=w0) (S:=S) (n:=n) (j:=j) (T:=T) (ps:=ps) (qs:=f z) (E:=(y,agg (f z))::(y,fact (φ z) (agg (f z)))::E) hg hd ho hx' ⟨agg (f z),by simp [C_,List.lookup],Ae _⟩ hz (hm z) hl
 refine ⟨hg,fun M w a rs hsz he hI hj=> ?_⟩
 have hjl:j<rs.length:=by rcases Nat.lt_or_ge j rs.length with h'|h';exact h';rw [List.getElem?_eq_none h'] at hj;cases hj
 have hv:∃b,a.tmps.getD s undef= .pointer (some ⟨b,0,none⟩):=by
  have hxv:VL ((y,agg (f z))::(y,fact (φ z) (agg (f z)))::E) (.tmp s) (Cp.ex fun b=>ptr b 0):=⟨_,hx',Pr.le_refl _⟩
  exact hxv.ev he (show (Operand.tmp s)∈o.op.operands.toList by simp [ho,Op.operands])
 obtain ⟨b,hv⟩:=hv
 have e1:SR.at_ a ⟨s,El T (f z)⟩=AF true b T (f z):=by show El T (f z) (a.tmps.getD s undef)=_;rw [hv];rfl
 have e2:SR.at_ a ⟨s,V7 T f φ⟩=aF b T f φ:=by show V7 T f φ (a.tmps.getD s undef)=_;rw [hv];rfl
 refine D4.wk hjl hd ?_ ?_ ?_ (h.2 M w a rs hsz he hI hj)
 · rw [e1,e2];rfl
 · rw [e1,e2];rfl
 · rw [e1,e2];exact fun M w h=>⟨z,hφ,h⟩
end
theorem BG.oz {P:Program} {f:FuncId} {α:Type} {φ:α→Prop} {p:α→Pr} {res:Pr} (pre:List Pr) {post:List Pr} (q:α) (hq:φ q) (h:∀z,φ z→BG P f (pre++p z::post) res):BG P f (pre++(Cp.ex fun z=>fact (φ z) (p z))::post) res:=by
 refine ⟨(h q hq).1,fun M w vs hb hv=> ?_⟩
 have key:∀(pre:List Pr) (vs:List Value),HL M w (pre++(Cp.ex fun z=>fact (φ z) (p z))::post) vs→∃z,φ z∧HL M w (pre++p z::post) vs:=by
  intro pre
  induction pre with
  |nil=>
   intro vs hv
   match vs,hv with
   |u::us,⟨⟨z,hz,h1⟩,h2⟩=>exact ⟨z,hz,h1,h2⟩
  |cons a pre ih=>
   intro vs hv
   match vs,hv with
   |u::us,⟨h1,h2⟩=>
    obtain ⟨z,hz,h3⟩:=ih us h2
    exact ⟨z,hz,h1,h3⟩
 obtain ⟨z,hz,h2⟩:=key pre vs hv
 exact (h z hz).2 M w vs hb h2
section
variable {P:Program} {L:Lg P} {n:Fm} {fz:Nat} {E:Env} {I:Ck} {M0:Av} {w0:World} {S:Nat→Prop} {rs:List At} {Q:Exit→Act→World→Prop} {c:Code}
theorem Tr.o9 {α β:Type} {p gf:Nat} {g:Operand} {lb:Array Value} {enc:α→Value} {xs:List α} {own:List α→List At} {assign body:Code} (q:Nat) (K:Env) (hK:CU E K) (R RX:List α→β→List At) (d0:β)
  (hIt:NJ P gf lb enc xs own) (eg:Entry P gf) (hg:VL E g (is (.func (.func gf) #[] lb))) (O6:rs.Perm (own []++R [] d0)) (hp:K.lookup p=none) (hpn:p<n.sz)
  (hassign:∀l D rec M1 w1 pre x d,(pre++[x])<+:xs→Tr (eC P (some l)) ⟨n.sz,[]⟩ ((p,is (enc x))::K) (Hp M0 w0 S (own (pre++[x])++GL l D rec M1 w1 (R pre d))) assign (Exit.then (St ⟨n.sz,[]⟩ ((q,is (enc x))::K) (Hp M0 w0 S (own (pre++[x])++GL l D rec M1 w1 (R pre d)))) (fun _ _ _=>False)))
  (hbody : ∀ l D rec M1 w1 pre x d, (pre ++ [x]) <+: xs → Tr (eC P (some l)) ⟨n.sz, []⟩ ((q, is (enc x)) :: K) (Hp M0 w0 S (own (pre ++ [x]) ++ GL l D rec M1 w1 (R pre d))) body
   (JM M0 w0 S (fun d:β=>own (pre++[x])++GL l D rec M1 w1 (R (pre++[x]) d)) (fun c d=>own (pre++[x])++GL l D rec M1 w1 (CK (c= .ret)::RX (pre++[x]) d))))
  (hdone:∀l D rec M1 w1 d,Fin ⟨n.sz,mark D::n.df⟩ E (Hp M0 w0 S (own xs++GL l D rec M1 w1 (R xs d))) Q .normal)
  (hstop:∀l D rec M1 w1 pre d,pre<+:xs→Fin ⟨n.sz,mark D::n.df⟩ E (Hp M0 w0 S (own pre++GL l D rec M1 w1 (RX pre d))) Q .ret):
  Tr (YT P) n E (Hp M0 w0 S rs) (.rangeFunc g #[p] assign body) Q:=by
 refine Tr.n7 (fun x=>(q,is (enc x))::K) R (fun c pre d=>CK (c= .ret)::RX pre d) d0 hIt (fun args w=>EM eg args w) hg O6 ?_ ?_ hdone ?_
 ·
  intro l D rec M1 w1 pre x d hpre a hsz hE M w hI
  have hx:Ext M1 w1 M w:=(hI.hold (Al M1 w1) AV).1
  refine hassign l D rec M1 w1 pre x d hpre _ w ⟨M,by simpa using hsz,rfl,fun s z hq=> ?_,hI⟩
  simp only [List.lookup] at hq
  by_cases hs:s=p
  ·
   subst hs
   simp only [beq_self_eq_true,Option.some.injEq] at hq
   subst hq
   show (a.tmps.setIfInBounds s (enc x)).getD s undef=enc x
   simp [Array.getD_eq_getD_getElem?,hsz,hpn]
  ·
   rw [show (s==p)=false by simpa using hs] at hq
   obtain ⟨z',Ef,Iv⟩:=hK.spec s z hq
   have h2:=z.st _ _ _ _ _ hx (Iv _ _ _ (hE s z' Ef))
   show z.h M w ((a.tmps.setIfInBounds p (enc x)).getD s undef)
   have e1:(a.tmps.setIfInBounds p (enc x)).getD s undef=a.tmps.getD s undef:=by
    simp only [Array.getD_eq_getD_getElem?]
    rw [Array.getElem?_setIfInBounds_ne (fun e=>hs e.symm)]
   rw [e1];exact h2
 ·
  intro l D rec M1 w1 pre x d hpre
  exact hbody l D rec M1 w1 pre x d hpre
 ·
  intro l D rec M1 w1 c pre d hpre a w ⟨M,h1,h2,h3,h⟩
  have h:A9 M0 w0 S (own pre++GL l D rec M1 w1 (CK (c= .ret)::RX pre d)) M w:=h
  have hc:c= .ret:=(h.hold (CK (c= .ret)) AV).1
  subst hc
  have h5:A9 M0 w0 S (CK (Code.ret= .ret)::(own pre++GL l D rec M1 w1 (RX pre d))) M w:=by
   refine A9.perm ?_ h
   have:=List.perm_middle (a:=CK (Code.ret= .ret)) (l₁:=own pre++[BO l rec,BO D (.deferred (some [])),Al M1 w1]) (l₂:=RX pre d)
   simpa [GL] using this
  exact Tr.ret (hstop l D rec M1 w1 pre d hpre) a w ⟨M,h1,h2,h3,A9.J3 h5⟩
theorem Tr.Z3 {α β:Type} {p gf:Nat} {g:Operand} {lb:Array Value} {enc:α→Value} {xs:List α} {own:List α→List At} {assign body:Code} (q:Nat) (K:Env) (hK:CU E K) (R:List α→β→List At) (d0:β)
  (hIt:NJ P gf lb enc xs own) (eg:Entry P gf) (hg:VL E g (is (.func (.func gf) #[] lb))) (O6:rs.Perm (own []++R [] d0)) (hp:K.lookup p=none) (hpn:p<n.sz)
  (hassign:∀l D rec M1 w1 pre x d,(pre++[x])<+:xs→Tr (eC P (some l)) ⟨n.sz,[]⟩ ((p,is (enc x))::K) (Hp M0 w0 S (own (pre++[x])++GL l D rec M1 w1 (R pre d))) assign (Exit.then (St ⟨n.sz,[]⟩ ((q,is (enc x))::K) (Hp M0 w0 S (own (pre++[x])++GL l D rec M1 w1 (R pre d)))) (fun _ _ _=>False)))
  (hbody : ∀ l D rec M1 w1 pre x d, (pre ++ [x]) <+: xs → Tr (eC P (some l)) ⟨n.sz, []⟩ ((q, is (enc x)) :: K) (Hp M0 w0 S (own (pre ++ [x]) ++ GL l D rec M1 w1 (R pre d))) body
   (JM M0 w0 S (fun d:β=>own (pre++[x])++GL l D rec M1 w1 (R (pre++[x]) d)) (fun c _=>own (pre++[x])++GL l D rec M1 w1 [CK (c= .ret),CK False])))
  (hdone:∀l D rec M1 w1 d,Fin ⟨n.sz,mark D::n.df⟩ E (Hp M0 w0 S (own xs++GL l D rec M1 w1 (R xs d))) Q .normal):
  Tr (YT P) n E (Hp M0 w0 S rs) (.rangeFunc g #[p] assign body) Q:=
 Tr.o9 q K hK R (fun _ _=>[CK False]) d0 hIt eg hg O6 hp hpn hassign hbody hdone fun l D rec M1 w1 pre d _ a w ⟨M,_,_,_,h⟩=>by
  have h:A9 M0 w0 S (own pre++GL l D rec M1 w1 [CK False]) M w:=h
  exact ((h.hold (CK False) AV).1).elim
theorem Fin.yy {β:Type} {rr:β→List At} {os:List At} {tl:β→List At} {l D:Nat} {rec:Obj} {M1:Av} {w1:World} (d:β) (hp:rs.Perm (os++GL l D rec M1 w1 (tl d))):Fin n E (Hp M0 w0 S rs) (JM M0 w0 S rr (fun c d=>os++GL l D rec M1 w1 (CK (c= .ret)::tl d))) .ret:=by
 rintro a w ⟨M,_,_,_,h⟩
 have h:A9 M0 w0 S rs M w:=h
 refine ⟨d,M,A9.perm ?_ (A9.Ji (A9.perm hp h) (r:=CK (Code.ret= .ret)) rfl rfl)⟩
 have:=(List.perm_middle (a:=CK (Code.ret= .ret)) (l₁:=os++[BO l rec,BO D (.deferred (some [])),Al M1 w1]) (l₂:=tl d)).symm
 simpa [GL] using this
theorem Fin.prop {e:Exit} {p:Prop} (j:Nat) (hj:rs[j]? =some (CK p)) (k:p→Fin n E (Hp M0 w0 S rs) Q e):Fin n E (Hp M0 w0 S rs) Q e:=fun a w hs=>by
 obtain ⟨M,h1,h2,h3,h4⟩:=hs
 have h4:A9 M0 w0 S rs M w:=h4
 exact k (h4.hold _ (List.mem_of_getElem? hj)).1 a w ⟨M,h1,h2,h3,h4⟩
theorem Fin.o_ {e:Exit} {p q:Prop} (j:Nat) (hj:rs[j]? =some (CK p)) (h:p→q) (k:Fin n E (Hp M0 w0 S (rs.set j (CK q))) Q e):Fin n E (Hp M0 w0 S rs) Q e:=fun a w hs=>by
 obtain ⟨M,h1,h2,h3,h4⟩:=hs
 have h4:A9 M0 w0 S rs M w:=h4
 exact k a w ⟨M,h1,h2,h3,h4.C4 hj rfl rfl (h (h4.hold _ (List.mem_of_getElem? hj)).1)⟩
theorem AM.wK (i:Nat) {c:Tmp} {t T:TypeId} {b:Nat} {new:Bool} {q p:Pr} (h:E.lookup c=some (ptr b 0)) (hi:rs[i]? =some (AF new b T [q])) (ht:EW P t=true) (hl:Pr.le q p):AM P E rs (.cell c t) p:=by
 intro M w a he hr
 obtain ⟨_,cs,h4,h5,_⟩:=hr _ (List.mem_of_getElem? hi)
 obtain ⟨v,hv,hh⟩:=h5.at_ 0 q rfl
 have hc:w.cell? ⟨b,0,none⟩=some v:=by simp [World.cell?,h4,hv]
 have h1:(loadVar t ⟨b,0,none⟩).run P w= .ok v w:=by simp [loadVar,EV ht,hc]
 refine ⟨v,?_,hl _ _ _ hh⟩
 have hc2:a.tmps.getD c undef= .pointer (some ⟨b,0,none⟩):=he _ _ h
 unfold HG
 simp only [hc2,asAddr]
 simpa [Sem.run_bind] using h1
theorem Fin.L2 {e:Exit} (T:TypeId) (sz:Nat) (k:Fin n E (Hp M0 w0 S (Bn T sz [] (.slice none 0 0)::rs)) Q e):Fin n E (Hp M0 w0 S rs) Q e:=fun a w hs=>by
 obtain ⟨M,h1,h2,h3,h4⟩:=hs
 have h4:A9 M0 w0 S rs M w:=h4
 exact k a w ⟨M,h1,h2,h3,A9.Ji h4 (r:=Bn T sz [] (.slice none 0 0)) rfl (.inl ⟨rfl,rfl⟩)⟩
end
end Cp
namespace Go.Proofs.YtmocaapoeefgkaaGreatDoor
open Go Go.RowKit Cp Go.Proofs.Tryz
-- sets as bits: read, closed, what can be added (behind AHT.lean)
def NM (l:List Int):BitVec 32:=l.foldl (fun b i=>YY b i.toNat) 0#32
theorem aG {l:List Int} {k:Nat} {x:Int} (h:l[k]? =some x):NM (l.take (k+1))=YY (NM (l.take k)) x.toNat:=by unfold NM;rw [List.take_add_one,h,List.foldl_append];rfl
theorem eU {n:Nat} (hn:n≤32):∀(l:List Int) (b:BitVec 32) (i:Nat),(∀x∈l,0≤x∧x<n)→((l.foldl (fun b i=>YY b i.toNat) b).getLsbD i=true↔b.getLsbD i=true∨(i:Int)∈l)
 |[],b,i,_=>by simp
 |x::l,b,i,h=>by
  have hx:=h x (List.mem_cons_self ..)
  rw [List.foldl_cons,eU hn l (YY b x.toNat) i (fun y hy=>h y (List.mem_cons_of_mem _ hy)),Rw AA,Bool.or_eq_true,decide_eq_true_eq,List.mem_cons]
  constructor
  ·
   rintro ((h1|h1)|h1)
   · exact .inl h1
   · right;left;omega
   · exact .inr (.inr h1)
  ·
   rintro (h1|h1|h1)
   · exact .inl (.inl h1)
   · left;right;omega
   · exact .inr h1
theorem aH {n:Nat} {l:List Int} (hn:n≤32) (h:∀x∈l,0≤x∧x<n):R4 n (NM l) l:=fun i=>by
 unfold NM
 rw [eU hn l 0#32 i h]
 simp
def V8 (B:List (BitVec 32)) (s:BitVec 32):Bool:=(Jc s).all fun i=>B.getD i 0#32&&&~~~s==0#32
theorem V9 {n:Int} {l:List BC} {s:BitVec 32} {d:List Int} (hv:BF n l=0) (hs:R4 n.toNat s d) (hd:∀x∈d,0≤x∧x<n):V8 (Eb n.toNat l) s=CD l d:=by
 obtain ⟨hn,hb,_,_⟩:=DF hv
 have hB:=F7 (n:=n.toNat) (l:=l) AA
 have hat:∀i,i<n.toNat→(Eb n.toNat l)[i]? =some ((Eb n.toNat l).getD i 0#32):=fun i hi=>by
  rw [List.getD_eq_getElem?_getD,List.getElem?_eq_getElem (by rw [Db];exact hi)];rfl
 rw [Bool.eq_iff_iff]
 unfold V8
 rw [List.all_eq_true]
 constructor
 ·
  intro h
  refine Ca.2 fun r hr hm=> ?_
  have hbr:=hb r hr
  unfold FU at hbr;rw [decide_eq_false_iff_not] at hbr
  have e1:((r.thn.toNat:Nat):Int)=r.thn:=by omega
  have e2:((r.fst.toNat:Nat):Int)=r.fst:=by omega
  have h1:s.getLsbD r.thn.toNat=true:=(hs _).2 (by rw [e1];exact hm)
  have h2:=h _ (Ft.2 h1)
  rw [beq_iff_eq,Xm] at h2
  have h3:=h2 r.fst.toNat (by
   rw [hB.2 _ _ (hat r.thn.toNat AA)]
   rw [Bool.and_eq_true,decide_eq_true_eq]
   refine ⟨by omega,K1 ?_ _⟩
   unfold Gf
   exact List.any_eq_true.2 ⟨r,hr,by simp;omega⟩)
  have:=(hs _).1 h3
  rw [e2] at this;exact this
 ·
  intro h i hi
  have h1:=Ft.1 hi
  have h2:=(hs i).1 h1
  have h3:=hd _ h2
  rw [beq_iff_eq,Xm]
  intro a ha
  rw [hB.2 _ _ (hat i AA),Bool.and_eq_true] at ha
  exact (hs a).2 (Gh h _ ha.2 h2)
theorem pE {n:Int} {s:List Int} {k:Nat} (hk:k≤s.length) (h:∀j,j<k→setAt n s j=true): -1≤Ol s k:=by
 unfold Ol
 split
 · omega
 ·
  have h1:=h (k-1) AA
  unfold setAt at h1
  simp only [Bool.and_eq_true,decide_eq_true_eq] at h1
  omega
theorem K7 {n:Nat} {s:List Int} (h:DH (n:Int) s=true):∀x∈s,0≤x∧x<(n:Int):=fun x hx=>by
 obtain ⟨i,hi⟩:=List.mem_iff_getElem?.1 hx
 exact P_ h hi
theorem V_ {n:Nat} {s:List Int} {b:BitVec 32} (hb:R4 n b s) (h:DH (n:Int) s=true) {i:Nat} (hi:b.getLsbD i=true):i<n:=by
 have:=K7 h _ ((hb i).1 hi);omega
abbrev rdB (n:Nat) (l:List Int):BitVec 32:=if DH (n:Int) l=true then NM l else 0#32
abbrev uY (B:List (BitVec 32)) (s:BitVec 32) (pre:List Nat):Prop:=∀i∈pre,(B.getD i 0#32&&&~~~s==0#32)=true
theorem eV {n:Nat} {B:List (BitVec 32)} {p:Pr} {l:List Int} (hn:n≤24):BG prog 137 [ref [int ((n:Nat):Int),bits B,p],ints l] (Dz [u32 (rdB n l),bool (DH ((n:Nat):Int) l)]):=by
 refine fo func137 rfl ⟨rfl,rfl⟩ fun M0 w0=>(Tr.Cm 1 rfl fun Fo=> ?_)
 iterate 4 refine ac ?_
 refine Tr.block (Tr.BH _ (kk [11,10,0] rfl) (fun k:Nat=>[(12,int ((k:Nat):Int)),(7,int (Ol l k)),(6,u32 (NM (l.take k)))]) (fun k:Nat=>k≤(l).length∧(∀j,j<k→setAt (n:Nat) l j=true)) (fun k:Nat=>(l).length-k) 0 (⟨Nat.zero_le _,fun j hj=>absurd hj AA⟩) ⟨kq,⟨_,rfl,int_eq rfl⟩,⟨_,rfl,Qk⟩,trivial⟩ ?_)
 rintro k ⟨BU,AZ⟩
 refine ac ?_
 refine Tr.seq ?_
 refine Tr.cn rfl ?_ ?_<;>intro h1 q1
 have Af:k<(l).length:=AH h1
 obtain ⟨i,Ah⟩:=at_ Af
 have Z1:=RZ AZ Ah
 have hlg:=pE AA AZ
 refine ac ?_
 refine Tr.seq (Tr.block (Tr.seq (Tr.Aj (co rfl (AD rfl underlying51 Bt vq vq AA (AX Ah)) ?_))))
 refine ac ?_
 refine ag ?_ ?_<;>intro h2 q2
 refine ac ?_
 refine wk [26,12,11,10,9,6,0] rfl ?_
 refine ac ?_
 refine Tr.ret (Fin.AE (Fin.AU (Fin.AE (Fin.AE (Fin.AU (Fin.AE (Fin.Ct rfl (Bg.Dc _ _) rfl ?_ rfl ?_)))))))
 · exact bF
 · exact bZ
 refine ac ?_
 refine wk [26,12,11,10,9,6,0] rfl ?_
 refine Tr.cn rfl ?_ ?_<;>intro h3 q3
 refine ac ?_
 refine Tr.ret (Fin.AE (Fin.AU (Fin.AE (Fin.AE (Fin.AU (Fin.AE (Fin.Ct rfl (Bg.Dc _ _) rfl ?_ rfl ?_)))))))
 · exact bF
 · exact bZ
 refine a2 ?_
 refine co rfl (KR (b:=1#32) rfl vq vq AA) ?_
 refine co rfl (NK rfl vq vq) ?_
 refine a2 ?_
 refine wk [12,11,10,7,6,0] rfl ?_
 refine ac ?_
 exact Fin.AL (k+1) ⟨⟨Af,ED AZ (by rw [Z1];simp;omega)⟩,by omega⟩ ⟨⟨_,rfl,AG k⟩,⟨_,rfl,int_eq (by rw [Zp Ah])⟩,⟨_,rfl,Pr.le_of_eq (congrArg u32 (aG Ah).symm)⟩,kz⟩
 have BK:k=(l).length:=by have:=AJ h1;omega
 subst BK
 have hsb:DH ((n:Nat):Int) l=true:=B_.2 AZ
 refine a2 ?_
 refine Tr.ret (Fin.Ct rfl (Bg.Dc _ _) rfl ?_ rfl ?_)
 · rw [show rdB n l=NM l from if_pos hsb,List.take_length];exact Lr
 · refine bool_eq ?_;exact hsb.symm
theorem yz {B:List (BitVec 32)} {s y:BitVec 32} {x:Nat} (h:x∈Jc s) (hy:B[x]? =some y) (hn:(y&&&~~~s==0#32)=false):V8 B s=false:=by
 unfold V8
 rw [List.all_eq_false]
 exact ⟨x,h,by rw [List.getD_eq_getElem?_getD,hy];simpa using hn⟩
theorem uZ {B:List (BitVec 32)} {s:BitVec 32} (h:uY B s (Jc s)):V8 B s=true:=by
 unfold V8
 exact List.all_eq_true.2 h
theorem UA {n:Nat} {B:List (BitVec 32)} {p:Pr} [One p] {s:BitVec 32} (hB:B.length=n) (hs:∀i,s.getLsbD i=true→i<n):Bj Tryz.prog 138 [ref [int ((n:Nat):Int),bits B,p],u32 s] (bool (V8 B s)) (EI) (fun _=>EI):=by
 refine Bj.ofM Tryz.func138 rfl rfl Bw fun M0 w0 S rs M1 w1=> ?_
 refine Tr.seq ?_
 refine Tr.An ?_
 refine TO.op rfl rfl AB (Bb rfl (VL.le (vl rfl) (AY _))) ?_
 refine TO.op rfl rfl AB (Bb rfl (VL.le (vl rfl) (AY _))) ?_
 refine TO.alloc rfl rfl AB rfl z4 zo4 (fun b1=> ?_)
 refine TO.nil ?_
 refine Fin.go ?_
 refine Tr.seq ?_
 refine Tr.seq ?_
 refine Tr.An ?_
 refine TO.op rfl rfl AB (DB rfl EY (vl rfl)) ?_
 refine TO.pad ?_
 refine TO.DT 0 rfl rfl AB (GS rfl rfl AB rfl (eL) ⟨⟨_,rfl,Pr.le_refl _⟩,trivial⟩) (fun v1=> ?_)
 refine TO.nil ?_
 refine Fin.shape 7 (fun b=>iI b) rfl (fun fb2 fe2=> ?_)
 subst fe2
 refine Fin.Je 0 (AF true fb2 QH [_]) rfl rfl ?_
 refine Fin.go ?_
 refine Tr.block ?_
 refine Tr.eI (p:=uY B s []) (fun i h=>FW) ?_
 refine Tr.o9 5 [(2,_),(3,_),(4,_)] ⟨⟨_,rfl,Pr.le_refl _⟩,⟨_,rfl,Pr.le_refl _⟩,⟨_,rfl,Pr.le_refl _⟩,trivial⟩ (fun pre (_:Unit)=>CK (uY B s pre)::AF true b1 4 [bool false]::Al M1 w1::rs) (fun pre (_:Unit)=>CK (V8 B s=false)::AF true b1 4 [bool false]::Al M1 w1::rs) () (QI (s:=s)) QJ (vl rfl) ((Cf (j:=3) rfl).trans (List.Perm.cons _ ((Cf (j:=1) rfl).trans (List.Perm.cons _ (List.Perm.refl _))))) rfl Bw ?_ ?_ ?_ ?_
 ·
  rintro lk Dk rk Mr wr pre x _ hpre
  refine Tr.Aj ?_
  refine Ch.op rfl rfl AB (Cu rfl (vl rfl)) ?_
  refine Ch.nil ?_
  exact Fin.st ⟨⟨_,rfl,Pr.le_refl _⟩,⟨_,rfl,Pr.le_refl _⟩,⟨_,rfl,Pr.le_refl _⟩,⟨_,rfl,Pr.le_refl _⟩,trivial⟩
 ·
  rintro lk Dk rk Mr wr pre x _ hpre
  have hsx:s.getLsbD x=true:=Ft.1 (aB hpre)
  obtain ⟨y,hy⟩:=at_ (l:=B) (k:=x) (by have:=hs x hsx;omega)
  refine Tr.block ?_
  refine Tr.seq ?_
  refine Tr.Y0 mixed BS ?_
  refine Ch.op rfl rfl AB (DB rfl I6 (vl rfl)) ?_
  first
   |refine Ch.op rfl rfl AB (Gi rfl (vl rfl)) ?_
   |refine Ch.op rfl rfl AB (HC rfl (vl rfl)) ?_
  refine Ch.op rfl rfl AB (Et rfl I8 (vl rfl) rfl) ?_
  refine Ch.op rfl rfl AB (DB rfl I7 (vl rfl)) ?_
  refine Ch.op rfl rfl AB (BQ rfl (vl rfl)) ?_
  refine Ch.op rfl rfl AB (AD rfl Tryz.underlying232 Ff (vl rfl) (vl rfl) AA (R9 hy)) ?_
  refine Ch.op rfl rfl AB (DB rfl EY (vl rfl)) ?_
  refine Ch.op rfl rfl AB (DB rfl EY (vl rfl)) ?_
  refine Ch.op rfl rfl AB (Oq rfl (vl rfl) (vl rfl)) ?_
  refine Ch.op rfl rfl AB (oZ rfl (vl rfl) (vl rfl)) ?_
  refine Ch.nil ?_
  refine Fin.go ?_
  refine Tr.weak [(4,_),(18,_)] ⟨⟨_,rfl,Pr.le_refl _⟩,⟨_,rfl,Pr.le_refl _⟩,trivial⟩ ?_
  refine Tr.cond rfl (fun h1=> ?_) (fun h1=> ?_)
  ·
   have q1:=DU.D9 h1
   refine Tr.seq ?_
   refine Tr.An ?_
   refine TO.AK 6 rfl rfl rfl (vl rfl) (VL.le (vl rfl) (AY _)) rfl Ta rfl rfl ?_
   refine TO.nil ?_
   refine Fin.go ?_
   refine Tr.ret ?_
   refine Fin.AU ?_
   refine Fin.o_ 5 rfl (q:=V8 B s=false) (fun _=>yz (Ft.2 hsx) hy CN) ?_
   exact Fin.yy () (List.Perm.refl _)
  ·
   have q1:=DU.D9 h1
   refine Tr.skip ?_
   refine Fin.block ?_
   refine Fin.o_ 5 rfl (q:=uY B s (pre++[x])) (fun h i hi=>by rcases List.mem_append.1 hi with hi|hi;exact h i hi;(rw [List.mem_singleton] at hi;subst hi;rw [List.getD_eq_getElem?_getD,hy];simp_all)) ?_
   exact Fin.rnd () (List.Perm.refl _)
 ·
  rintro lk Dk rk Mr wr _
  refine Fin.prop 5 rfl fun hok=> ?_
  refine Fin.drop 1 ?_
  refine Fin.drop 1 ?_
  refine Fin.drop 2 ?_
  refine Fin.drop 2 ?_
  refine Fin.block ?_
  refine Fin.go ?_
  refine Tr.seq ?_
  refine Tr.An ?_
  refine TO.AK 2 rfl rfl rfl (vl rfl) (VL.le (vl rfl) (AY _)) rfl Ta rfl rfl ?_
  refine TO.nil ?_
  refine Fin.go ?_
  refine Tr.ret ?_
  refine Fin.KT (List.perm_middle (l₁:=[_])) ?_
  refine Fin.R5 ?_
  refine Fin.R6 ?_
  refine Fin.KT ((List.perm_middle (l₁:=[_])).symm) ?_
  refine Fin.Gb [_] rfl (AM.wK 0 rfl rfl ZA (Pr.le_refl _)) ?_ (fun _ _ _ _=>rfl)
  · exact bool_eq (uZ hok).symm
 ·
  rintro lk Dk rk Mr wr pre _ hpre
  refine Fin.prop 5 rfl fun hno=> ?_
  refine Fin.drop 1 ?_
  refine Fin.drop 1 ?_
  refine Fin.drop 2 ?_
  refine Fin.drop 2 ?_
  refine Fin.AU ?_
  refine Fin.AE ?_
  refine Fin.KT (List.perm_middle (l₁:=[_])) ?_
  refine Fin.R5 ?_
  refine Fin.R6 ?_
  refine Fin.KT ((List.perm_middle (l₁:=[_])).symm) ?_
  refine Fin.Gb [_] rfl (AM.wK 0 rfl rfl ZA (Pr.le_refl _)) ?_ (fun _ _ _ _=>rfl)
  · exact bool_eq hno.symm
theorem uc {s:BitVec 32}  :Fj (α:=Value) Tryz.prog 180 [u32 s] [EI] (fun _=>True) (fun v=>Ad v (lens (((Jc s).map fun i:Nat=>(i:Int)).map (fun n=>[int n])).length)) (fun v=>[EI,Bn 3 1 (((Jc s).map fun i:Nat=>(i:Int)).map (fun n=>[int n])) v]):=by
 refine Fj.ofM Tryz.func180 rfl rfl Bw fun M0 w0 S rs M1 w1=> ?_
 refine Tr.seq ?_
 refine Tr.Aj ?_
 refine Ch.op rfl rfl AB (Cu rfl (vl rfl)) ?_
 refine Ch.nil ?_
 refine Fin.go ?_
 refine Tr.seq ?_
 refine Tr.An ?_
 refine TO.alloc rfl rfl AB rfl z51 AAs (fun b1=> ?_)
 refine TO.nil ?_
 refine Fin.go ?_
 refine Tr.seq ?_
 refine Tr.seq ?_
 refine Tr.An ?_
 refine TO.op rfl rfl AB (BQ rfl (vl rfl)) ?_
 refine TO.pad ?_
 refine TO.DT 0 rfl rfl AB (GS rfl rfl AB rfl (eL) ⟨⟨_,rfl,Pr.le_refl _⟩,trivial⟩) (fun v1=> ?_)
 refine TO.nil ?_
 refine Fin.shape 6 (fun b=>iI b) rfl (fun fb2 fe2=> ?_)
 subst fe2
 refine Fin.Je 0 (AF true fb2 QH [_]) rfl rfl ?_
 refine Fin.go ?_
 refine Tr.block ?_
 refine Tr.L2 3 1 ?_
 refine Tr.HY 2 [Ad (.slice none 0 0) (lens 0)] rfl ⟨Jy rfl,trivial⟩ ?_
 refine Tr.Z3 4 [(3,_)] ⟨⟨_,rfl,Pr.le_refl _⟩,trivial⟩ (fun pre vr=>Bn 3 1 ((pre.map fun i:Nat=>(i:Int)).map (fun n=>[int n])) vr::AF true b1 51 [Ad vr (lens ((pre.map fun i:Nat=>(i:Int)).map (fun n=>[int n])).length)]::Al M1 w1::rs) (.slice none 0 0) (QI (s:=s)) QJ (vl rfl) ((Cf (j:=3) rfl).trans (List.Perm.cons _ ((Cf (j:=1) rfl).trans (List.Perm.cons _ (List.Perm.refl _))))) rfl Bw ?_ ?_ ?_
 ·
  rintro lk Dk rk Mr wr pre x vr hpre
  refine Tr.Aj ?_
  refine Ch.op rfl rfl AB (Cu rfl (vl rfl)) ?_
  refine Ch.nil ?_
  exact Fin.st ⟨⟨_,rfl,Pr.le_refl _⟩,⟨_,rfl,Pr.le_refl _⟩,trivial⟩
 ·
  rintro lk Dk rk Mr wr pre x vr hpre
  have hpl:(pre++[x]).length≤32:=Nat.le_trans hpre.length_le (uP s)
  rw [List.length_append,List.length_cons,List.length_nil] at hpl
  refine Tr.block ?_
  refine Tr.An ?_
  refine TO.rd 6 rfl rfl rfl AB (BI rfl cV (vl rfl) rfl) ?_
  refine TO.op rfl rfl AB (BQ rfl (vl rfl)) ?_
  refine TO.op rfl rfl AB (AO (xs:=[.tmp 9]) (rows:=[[_]]) rfl rfl Tryz.underlying51 Bt z3 rfl AB ⟨⟨Am,(VL.le (vl rfl) (AY _))⟩,trivial⟩ AB) ?_
  refine TO.DT 5 rfl rfl AB (GG rfl rfl AB rfl Tryz.underlying51 Bt G2 z3 rfl AB AB (vl rfl) ⟨_,rfl,Bx _ _⟩ (BD fun _=>rfl) (Nat.zero_lt_succ _) Na Nd) (fun v2=> ?_)
  refine TO.AK 6 rfl rfl rfl (vl rfl) (VL.le (vl rfl) (AY _)) rfl Gw rfl rfl ?_
  refine TO.nil ?_
  refine Fin.block ?_
  rw [show (pre.map fun i:Nat=>(i:Int)).map (fun n=>[int n])++[[int ((x:Nat):Int)]]=((pre++[x]).map fun i:Nat=>(i:Int)).map (fun n=>[int n]) by rw [List.map_append,List.map_append];rfl]
  refine Fin.HY 6 [Ad v2 (lens (((pre++[x]).map fun i:Nat=>(i:Int)).map (fun n=>[int n])).length)] rfl ⟨DM AV,trivial⟩ ?_
  exact Fin.rnd v2 (List.Perm.refl _)
 ·
  rintro lk Dk rk Mr wr vr
  refine Fin.drop 1 ?_
  refine Fin.drop 1 ?_
  refine Fin.drop 2 ?_
  refine Fin.block ?_
  refine Fin.go ?_
  refine Tr.seq ?_
  refine Tr.Aj ?_
  refine Ch.op rfl rfl Bw (Cg 3 rfl (BI rfl cV (vl rfl) rfl)) ?_
  refine Ch.op rfl rfl Bw (Cu rfl (vl rfl)) ?_
  refine Ch.nil ?_
  refine Fin.go ?_
  refine Tr.ret ?_
  refine Fin.KT (List.perm_middle (l₁:=[_])) ?_
  refine Fin.R5 ?_
  refine Fin.R6 ?_
  refine Fin.drop 2 ?_
  refine Fin.vu (vr) rfl (AM.tmp rfl (Pr.le_refl _)) trivial ?_ (List.Perm.refl _)
  · exact Pr.le_refl _
def E2 (n:Int) (l:List BC) (s:List Int):Int:=if BF n l≠0 then BF n l else if DH n s=true∧CD l s=true then 0 else 46
def JP (n:Int) (l:List BC) (s:List Int):List Int:=if E2 n l s=0 then Dm n.toNat l s true else []
theorem wL {n:Int} {l:List BC} {s:List Int} (h:BF n l≠0):E2 n l s=BF n l:=by unfold E2;rw [if_pos h]
theorem aI {n:Int} {l:List BC} {s:List Int} (h:BF n l=0) (hn:¬(DH n s=true∧CD l s=true)):E2 n l s=46:=by unfold E2;rw [if_neg (not_not_intro h),if_neg hn]
theorem eW {n:Int} {l:List BC} {s:List Int} (h:BF n l=0) (hs:DH n s=true) (hc:CD l s=true):E2 n l s=0:=by unfold E2;rw [if_neg (not_not_intro h),if_pos ⟨hs,hc⟩]
theorem y5 {n:Int} {l:List BC} {s:List Int} {e:Int} (h:E2 n l s=e) (he:e≠0):JP n l s=[]:=by unfold JP;rw [if_neg He]
theorem JQ {n:Nat} {s:List Int} (hn:n≤32) (h:DH (n:Int) s=true):R4 n (rdB n s) s:=by
 rw [show rdB n s=NM s from if_pos h];exact aH hn (K7 h)
end Go.Proofs.YtmocaapoeefgkaaGreatDoor
namespace Cp
open Go Go.RowKit Go.Great
section
variable {P:Program}
theorem Nx.frz {f:FuncId} {args:List Pr} {p0 p1:Pr} {e:TypeId} {sz:Nat} {rows:List (List Pr)} (hl:∀r∈rows,r.length=sz) (h:Nx P f args (fun x=>agg [p0,p1,is x]) (fun x=>[Bs e sz rows x])):BG P f args (agg [p0,p1,slice sz rows]):=by
 refine ⟨h.1,fun M w vs hb hv=> ?_⟩
 refine (h.2 M w FO [] M w vs (A9.begin hb) hv).mono ?_
 rintro e' w' ⟨v,M',x,rfl,_,h1,h2,h3⟩
 obtain ⟨M2,j1,j2,j3⟩:=A9.xh (j:=0) h3 rfl hl
 obtain ⟨cs,hc,g1,g2⟩:=(agg [p0,p1,is x]).st _ _ _ _ _ j1 h1
 refine ⟨v,rfl,?_,j2.below⟩
 exact (agg [p0,p1,slice sz rows]).st _ _ _ _ _ (Ext.less j2.m) ⟨cs,hc,g1,HL.set (k:=2) g2 rfl fun u hu=>by rw [show u=x from hu];exact j3⟩
theorem Fj.gC {f:FuncId} {args:List Pr} {k:Pr} {e:TypeId} {sz m:Nat} {rows:List (List Pr)} {R:At} (hl:∀r∈rows,r.length=sz) (h:Fj (α:=Value) P f args [R] (fun _=>True) (fun v=>Dz [Ad v (lens m),k]) (fun v=>[R,Bn e sz rows v])):Bj P f args (Dz [slice sz rows,k]) R (fun _=>R):=by
 refine ⟨h.1,fun M0 w0 S rs M w vs hI hv=>(h.2 M0 w0 S rs M w vs hI hv).mono ?_⟩
 rintro e' w' ⟨v,M',x,rfl,_,h1,h2,h3⟩
 have h3:A9 M0 w0 S (R::Bn e sz rows x::rs) M' w':=h3
 obtain ⟨M2,j1,j2,j3⟩:=A9.gC (j:=1) h3 rfl hl
 obtain ⟨cs,hc,g2⟩:=(Dz [Ad x (lens m),k]).st _ _ _ _ _ j1 h1
 exact ⟨v,M2,rfl,⟨cs,hc,HL.set (k:=0) g2 rfl fun u hu=>by rw [show u=x from hu.1];exact j3⟩,h2.trans j1,(A9.perm (List.Perm.swap _ _ _) j2).J3⟩
variable {n:Fm} {E:Env} {M0:Av} {w0:World} {S:Nat→Prop} {o:Oper}
theorem pF {f:FuncId} {cx:Operand} {xs:Array Operand} {ts:Array TypeId} {ps caps:List Pr} {res:Pr} {j d:Nat} {R0 R1:At} (hg:o.guard=none) (hd:o.dst=some d) (hn:d<n) (ho:o.op= .call { callee:= .value cx,args:=xs,argTypes:=ts }) (hc:VL E cx (fn (.func f) caps)) (hf:Bj P f (ps++caps) res R0 (fun _=>R1))
  (hv:Hz E xs.toList ps):DI P M0 w0 S n j (SR.c R0) (SR.c R1) o E res:=by
 refine ⟨hg,fun M w a rs hsz he hI hj=> ?_⟩
 have h1:=Hz.GQ (o:=o) he (xs:=xs.toList) (fun x hx=>by simp [ho,Op.operands,Call.operands];exact .inr Gs) hv
 obtain ⟨cs,g2,g3⟩:=hc.ev he Dj
 have hrun:(execOp a.eval o).run P w= .ok (.enter f ((xs.toList.map a.eval).toArray++cs.toArray)) w:=by
  simp [execOp,ho,resolve,Deferred.ofValue,g2,invoke,EM hf.1,IK xs]
 rw [hrun]
 have hj':rs[j]? =some R0:=hj
 have hjl:j<rs.length:=by rcases Nat.lt_or_ge j rs.length with h|h;exact h;rw [List.getElem?_eq_none h] at hj';cases hj'
 have h4:=hf.2 M0 w0 S (rs.eraseIdx j) M w _ (A9.perm (Cf hj') hI) (h1.app g3)
 have e1:((xs.toList.map a.eval).toArray++cs.toArray)=((xs.toList.map a.eval)++cs).toArray:=by simp
 rw [e1]
 refine h4.mono ?_
 rintro e w' ⟨v,M',rfl,h2,h3,h4⟩
 exact ⟨v,M',rfl,h2,h3,A9.perm (J2 hjl) h4⟩
end
end Cp
namespace Go.Proofs.YtmocaapoeefgkaaGreatDoor
open Go Go.RowKit Cp Go.Proofs.Tryz
theorem and_zero {x s:BitVec 32}:(x&&&s=0#32)↔∀i,x.getLsbD i=true→s.getLsbD i=false:=by
 constructor
 ·
  intro h i hi
  have h2:=congrArg (fun y=>BitVec.getLsbD y i) h
  simp [hi] at h2
  exact h2
 ·
  intro h
  refine V0 fun i hi=> ?_
  rw [BitVec.getLsbD_and]
  cases hx:x.getLsbD i with
  |false=>rfl
  |true=>rw [h i hx];rfl
theorem ud {n:Int} {l:List BC} {A:List (BitVec 32)} {s x:BitVec 32} {d:List Int} {i:Nat} (hv:BF n l=0) (hA:D7 n.toNat A (fun b a=>C5 l n.toNat a b)) (hs:R4 n.toNat s d) (hd:∀x∈d,0≤x∧x<n) (hc:CD l d=true) (hx:A[i]? =some x) (hi:i<n.toNat):
  LH l d false i=(s.getLsbD i&&(x&&&s==0#32)):=by
 obtain ⟨h0,h1,h2,h3⟩:=DF hv
 rw [Bool.eq_iff_iff]
 unfold LH
 have e1:(Gn d (i:Int) !=false)=s.getLsbD i:=by
  cases hg:s.getLsbD i with
  |true=>have:=(hs i).1 hg;rw [C3.2 this];rfl
  |false=>
   have:¬(i:Int)∈d:=fun e=>by have:=(hs i).2 e;rw [hg] at this;cases this
   have h4:Gn d (i:Int)=false:=by cases h5:Gn d (i:Int) with|false=>rfl|true=>exact absurd (C3.1 h5) this
   rw [h4];rfl
 rw [e1,Bool.and_eq_true,Bool.and_eq_true,beq_iff_eq,and_zero]
 refine and_congr_right fun hin=> ?_
 constructor
 ·
  intro cM a ha
  rw [hA.2 i x hx a,Bool.and_eq_true,decide_eq_true_eq] at ha
  cases hsa:s.getLsbD a with
  |false=>rfl
  |true=>
   have hai:(a:Int)≠(i:Int):=fun he=>by
    have h6:a=i:=by omega
    subst h6
    have h9:C5 l n.toNat a a=true:=ha.2
    rw [h3 a hi] at h9;cases h9
   have:=Gh cM _ ha.2 (GI.2 ⟨hai,(hs a).1 hsa⟩)
   exact absurd rfl (GI.1 this).1
 ·
  intro h
  rw [Ca]
  intro r hr hm
  obtain ⟨h4,h5⟩:=GI.1 hm
  have h6:=Ca.1 hc r hr h5
  refine GI.2 ⟨fun he=> ?_,h6⟩
  have hr1:=hd _ h5
  have h7:=(hs r.thn.toNat).2 (by rw [Int.toNat_of_nonneg hr1.1];exact h5)
  have h8:=h r.thn.toNat (by
   rw [hA.2 i x hx,Bool.and_eq_true,decide_eq_true_eq]
   refine ⟨by omega,K1 ?_ _⟩
   unfold Gf
   rw [List.any_eq_true]
   exact ⟨r,hr,by simp;omega⟩)
  rw [h7] at h8;cases h8
def MN (A:List (BitVec 32)) (s:BitVec 32) (pre:List Nat):BitVec 32:=pre.foldl (fun o i=>if (A.getD i 0#32&&&s==0#32)=true then YY o i else o) 0#32
theorem pG {A:List (BitVec 32)} {s y:BitVec 32} {pre:List Nat} {i:Nat} (hy:A[i]? =some y) (h:(y&&&s==0#32)=true):MN A s (pre++[i])=YY (MN A s pre) i:=by
 unfold MN
 rw [List.foldl_append]
 simp only [List.foldl_cons,List.foldl_nil]
 rw [List.getD_eq_getElem?_getD,hy]
 exact if_pos h
theorem ue {A:List (BitVec 32)} {s y:BitVec 32} {pre:List Nat} {i:Nat} (hy:A[i]? =some y) (h:(y&&&s==0#32)=false):MN A s (pre++[i])=MN A s pre:=by
 unfold MN
 rw [List.foldl_append]
 simp only [List.foldl_cons,List.foldl_nil]
 rw [List.getD_eq_getElem?_getD,hy]
 exact if_neg (by rw [show (some y).getD 0#32=y from rfl,h];decide)
theorem pH {A:List (BitVec 32)} {s:BitVec 32}:∀(pre:List Nat) (o:BitVec 32) (j:Nat),(∀i∈pre,i<32)→
  (pre.foldl (fun o i=>if (A.getD i 0#32&&&s==0#32)=true then YY o i else o) o).getLsbD j=(o.getLsbD j||(decide (j∈pre)&&(A.getD j 0#32&&&s==0#32)))
 |[],o,j,_=>by simp
 |a::pre,o,j,h=>by
  rw [List.foldl_cons,pH pre _ j fun i hi=>h i (List.mem_cons_of_mem _ hi)]
  have ha:=h a (List.mem_cons_self ..)
  by_cases hj:j=a
  ·
   subst hj
   cases hb:(A.getD j 0#32&&&s==0#32) with
   |true=>rw [if_pos rfl,Rw ha];simp
   |false=>rw [if_neg AB];simp
  ·
   have e:decide (j∈a::pre)=decide (j∈pre):=by simp [hj]
   rw [e]
   split
   · rw [Rw ha];simp [Ne.symm hj]
   · rfl
theorem y7 {n:Int} {l:List BC} {s:BitVec 32} {d:List Int} (hv:BF n l=0) (hs:R4 n.toNat s d) (hd:∀x∈d,0≤x∧x<n) (hc:CD l d=true):
  (Jc (MN (Gz (Eb n.toNat l) n.toNat) s (Jc s))).map (fun i:Nat=>(i:Int))=Dm n.toNat l d false:=by
 have hn:=(DF hv).1
 have hA:=(eM (n:=n.toNat) (l:=l) AA).aft
 unfold Dm
 rw [yZ (n:=n.toNat) (p:=LH l d false) (fun j=> ?_) AA]
 unfold MN
 rw [pH _ _ _ fun i hi=>Nat.lt_of_not_le fun h=>by rw [Ft,BitVec.getLsbD_of_ge _ _ h] at hi;cases hi]
 have hm:decide (j∈Jc s)=s.getLsbD j:=by rw [Bool.eq_iff_iff,decide_eq_true_eq];exact Ft
 rw [hm,show (0#32).getLsbD j=false by simp,Bool.false_or]
 by_cases hj:j<n.toNat
 ·
  obtain ⟨x,hx⟩:=at_ (l:=Gz (Eb n.toNat l) n.toNat) (k:=j) (by rw [hA.1];exact hj)
  rw [ud hv hA hs hd hc hx hj,List.getD_eq_getElem?_getD,hx,decide_eq_true hj,Bool.true_and];rfl
 ·
  rw [decide_eq_false hj,Bool.false_and]
  cases hg:s.getLsbD j with
  |false=>rfl
  |true=>have:=hd _ ((hs j).1 hg);omega
theorem WA {n:Nat} {A:List (BitVec 32)} {p:Pr} [One p] {s:BitVec 32} (hA:A.length=n) (hs:∀i,s.getLsbD i=true→i<n):Bj Tryz.prog 133 [ref [int ((n:Nat):Int),p,bits A],u32 s] (u32 (MN A s (Jc s))) (EI) (fun _=>EI):=by
 refine Bj.ofM Tryz.func133 rfl rfl Bw fun M0 w0 S rs M1 w1=> ?_
 refine Tr.seq ?_
 refine Tr.Aj ?_
 refine Ch.op rfl rfl AB (Bb rfl (VL.le (vl rfl) (AY _))) ?_
 refine Ch.op rfl rfl AB (Bb rfl (VL.le (vl rfl) (AY _))) ?_
 refine Ch.op rfl rfl AB (Cu rfl (vl rfl)) ?_
 refine Ch.nil ?_
 refine Fin.go ?_
 refine Tr.seq ?_
 refine Tr.An ?_
 refine TO.alloc rfl rfl AB rfl xU ABD (fun b1=> ?_)
 refine TO.nil ?_
 refine Fin.go ?_
 refine Tr.seq ?_
 refine Tr.seq ?_
 refine Tr.An ?_
 refine TO.op rfl rfl AB (DB rfl EY (vl rfl)) ?_
 refine TO.pad ?_
 refine TO.DT 0 rfl rfl AB (GS rfl rfl AB rfl (eL) ⟨⟨_,rfl,Pr.le_refl _⟩,trivial⟩) (fun v1=> ?_)
 refine TO.nil ?_
 refine Fin.shape 8 (fun b=>iI b) rfl (fun fb2 fe2=> ?_)
 subst fe2
 refine Fin.Je 0 (AF true fb2 QH [_]) rfl rfl ?_
 refine Fin.go ?_
 refine Tr.block ?_
 refine Tr.HY 1 [u32 (MN A s [])] rfl ⟨Qk,trivial⟩ ?_
 refine Tr.Z3 6 [(2,_),(3,_),(5,_)] ⟨⟨_,rfl,Pr.le_refl _⟩,⟨_,rfl,Pr.le_refl _⟩,⟨_,rfl,Pr.le_refl _⟩,trivial⟩ (fun pre (_:Unit)=>AF true b1 QH [u32 (MN A s pre)]::Al M1 w1::rs) () (QI (s:=s)) QJ (vl rfl) ((Cf (j:=2) rfl).trans (List.Perm.cons _ ((Cf (j:=0) rfl).trans (List.Perm.cons _ (List.Perm.refl _))))) rfl Bw ?_ ?_ ?_
 ·
  rintro lk Dk rk Mr wr pre x _ hpre
  refine Tr.Aj ?_
  refine Ch.op rfl rfl AB (Cu rfl (vl rfl)) ?_
  refine Ch.nil ?_
  exact Fin.st ⟨⟨_,rfl,Pr.le_refl _⟩,⟨_,rfl,Pr.le_refl _⟩,⟨_,rfl,Pr.le_refl _⟩,⟨_,rfl,Pr.le_refl _⟩,trivial⟩
 ·
  rintro lk Dk rk Mr wr pre x _ hpre
  have hsx:s.getLsbD x=true:=Ft.1 (aB hpre)
  obtain ⟨y,hy⟩:=at_ (l:=A) (k:=x) (by have:=hs x hsx;omega)
  refine Tr.block ?_
  refine Tr.seq ?_
  refine Tr.Y0 mixed BS ?_
  refine Ch.op rfl rfl AB (DB rfl I6 (vl rfl)) ?_
  first
   |refine Ch.op rfl rfl AB (Gi rfl (vl rfl)) ?_
   |refine Ch.op rfl rfl AB (HC rfl (vl rfl)) ?_
  refine Ch.op rfl rfl AB (Et rfl cY (vl rfl) rfl) ?_
  refine Ch.op rfl rfl AB (DB rfl I7 (vl rfl)) ?_
  refine Ch.op rfl rfl AB (BQ rfl (vl rfl)) ?_
  refine Ch.op rfl rfl AB (AD rfl Tryz.underlying232 Ff (vl rfl) (vl rfl) AA (R9 hy)) ?_
  refine Ch.op rfl rfl AB (DB rfl EY (vl rfl)) ?_
  refine Ch.op rfl rfl AB (DB rfl EY (vl rfl)) ?_
  refine Ch.op rfl rfl AB (Rv rfl (vl rfl) (vl rfl)) ?_
  refine Ch.op rfl rfl AB (oY rfl (vl rfl) (vl rfl)) ?_
  refine Ch.nil ?_
  refine Fin.go ?_
  refine Tr.weak [(5,_),(6,_),(19,_)] ⟨⟨_,rfl,Pr.le_refl _⟩,⟨_,rfl,Pr.le_refl _⟩,⟨_,rfl,Pr.le_refl _⟩,trivial⟩ ?_
  refine Tr.cond rfl (fun h1=> ?_) (fun h1=> ?_)
  ·
   have q1:=DU.D9 h1
   refine Tr.GA mixed [some (0,5,false,0),none,none,none,some (0,5,true,0)] BS ?_
   refine Cx.rd 5 rfl rfl rfl AB (BI rfl EY (vl rfl) rfl) ?_
   refine Cx.op rfl rfl AB (fun _=>BQ rfl (vl rfl)) ?_
   refine Cx.op rfl rfl AB (fun _=>KR (b:=1#32) rfl (vl rfl) (vl rfl) (Int.natCast_nonneg _)) ?_
   refine Cx.op rfl rfl AB (fun _=>NK rfl (vl rfl) (vl rfl)) ?_
   refine Cx.DP 5 rfl rfl (A0 rfl rfl (vl rfl) (VL.le (vl rfl) (AY _)) Ff rfl Bw rfl) ?_
   refine Cx.nil ⟨rfl,?_⟩
   refine BE.done (As.cons (As.cons (As.cons (As.cons (As.cons (As.cons (As.cons (As.map _)))))))) ?_
   refine Fin.block ?_
   refine Fin.HY 5 [u32 (MN A s (pre++[x]))] rfl ⟨Pr.le_of_eq (congrArg u32 (pG hy CN).symm),trivial⟩ ?_
   exact Fin.rnd () (List.Perm.refl _)
  ·
   have q1:=DU.D9 h1
   refine Tr.skip ?_
   refine Fin.block ?_
   refine Fin.HY 5 [u32 (MN A s (pre++[x]))] rfl ⟨Pr.le_of_eq (congrArg u32 (ue hy CN).symm),trivial⟩ ?_
   exact Fin.rnd () (List.Perm.refl _)
 ·
  rintro lk Dk rk Mr wr _
  refine Fin.drop 1 ?_
  refine Fin.drop 1 ?_
  refine Fin.drop 2 ?_
  refine Fin.block ?_
  refine Fin.go ?_
  refine Tr.seq ?_
  refine Tr.Aj ?_
  refine Ch.op rfl rfl Bw (Cg 2 rfl (BI rfl EY (vl rfl) rfl)) ?_
  refine Ch.op rfl rfl Bw (Cu rfl (vl rfl)) ?_
  refine Ch.nil ?_
  refine Fin.go ?_
  refine Tr.ret ?_
  refine Fin.KT (List.perm_middle (l₁:=[_])) ?_
  refine Fin.R5 ?_
  refine Fin.R6 ?_
  refine Fin.KT ((List.perm_middle (l₁:=[_])).symm) ?_
  refine Fin.drop 0 ?_
  refine Fin.E7 rfl rfl ?_ (fun _ _ _ _=>rfl)
  · exact Pr.le_refl _
def HZ (n:Int) (l:List BC) (s:List Int):List Int:=if E2 n l s=0 then Dm n.toNat l s false else []
theorem WB {n:Int} {l:List BC} {s:List Int} {e:Int} (h:E2 n l s=e) (he:e≠0):HZ n l s=[]:=by unfold HZ;rw [if_neg He]
theorem uf {N:Nat} {l:List BC} {s:List Int} {b:BitVec 32} (h:E2 (N:Int) l s=0) (hv:BF (N:Int) l=0) (hs:R4 N b s) (hd:∀x∈s,0≤x∧x<(N:Int)) (hc:CD l s=true):(Jc (MN (Gz (Eb N l) N) b (Jc b))).map (fun i:Nat=>(i:Int))=HZ (N:Int) l s:=by
 unfold HZ
 rw [if_pos h]
 have h2:=y7 (n:=(N:Int)) hv (by rw [Int.toNat_natCast];exact hs) hd hc
 rw [Int.toNat_natCast] at h2 ⊢
 exact h2
def LJ (n:Int) (l:List BC) (s:List Int):Int:=if BF n l≠0 then BF n l else if DH n s=true then 0 else 46
def SC (n:Int) (l:List BC) (s:List Int):Bool:=decide (BF n l=0)&&DH n s&&CD l s
theorem wM {n:Int} {l:List BC} {s:List Int} (h:BF n l≠0):LJ n l s=BF n l∧SC n l s=false:=by unfold LJ SC;rw [if_pos h,decide_eq_false h];exact ⟨rfl,rfl⟩
theorem wN {n:Int} {l:List BC} {s:List Int} (h:BF n l=0) (hs:DH n s=false):LJ n l s=46∧SC n l s=false:=by unfold LJ SC;rw [if_neg (not_not_intro h),if_neg (by rw [hs];decide),hs];simp
theorem UB {n:Int} {l:List BC} {s:List Int} (h:BF n l=0) (hs:DH n s=true):LJ n l s=0∧SC n l s=CD l s:=by unfold LJ SC;rw [if_neg (not_not_intro h),if_pos hs,hs,decide_eq_true h];simp
theorem aJ {n:Int} {l:List BC} {s:List Int}  :Fj (α:=Value) prog 132 [int n,reqs l,ints s,fn (.func 133) []] [EI] (fun _=>True) (fun v=>Dz [Ad v (lens ((HZ n l s).map (fun n=>[int n])).length),int (E2 n l s)]) (fun v=>[EI,Bn 3 1 ((HZ n l s).map (fun n=>[int n])) v]):=by
 refine Fj.of func132 rfl rfl Ao fun M0 w0 S rs M1 w1=> ?_
 refine ac ?_
 refine ap ?_
 refine TO.IP 0 rfl rfl AB (Aq rfl rfl AB rfl (eO (n:=n) (l:=l)) ⟨kq,kz⟩) ?_
 refine ap ?_
 refine an ?_ ?_<;>intro h1 q1
 have hv:BF n l≠0:=by simpa using h1
 refine ac ?_
 refine wk [9,8] rfl (Tr.ret (Fin.AE ?_))
 have hno:=WB (wL (s:=s) hv) hv
 refine Fin.L2 3 1 (Fin.L3 ?_)
 refine Fin.Je 1 (Bn 3 1 ((HZ n l s).map (fun n=>[int n])) (.slice none 0 0)) rfl Pa ?_
 refine Fin.XA ((.slice none 0 0)) rfl (AM.tmp rfl Lr) (AM.tmp rfl Lr) trivial ?_ (List.Perm.refl _)
 · exact Az ⟨Jy Pa,int_eq (wL (s:=s) hv).symm,trivial⟩
 have hv:BF n l=0:=by simpa using h1
 have Nc:=(DF hv).1
 obtain ⟨N,rfl⟩:∃N:Nat,n=(N:Int):=⟨n.toNat,by omega⟩
 refine Tr.re 10 rfl (Pr.le_of_eq (V4 hv)) ?_
 refine a2 ?_
 refine co rfl (CL (eV (n:=N) (B:=Eb N l) (l:=s) AA) rfl rfl rfl) ?_
 refine ac ?_
 refine wk [13,12,10,3] rfl ?_
 refine ap ?_
 refine TO.cases 31 rfl (fun h2=> ?_) (fun h2=> ?_)
 have q2:=DU.D9 h2
 have h46:E2 (N:Int) l s=46:=aI hv (by rintro ⟨g1,g2⟩;simp_all)
 iterate 4 refine TO.VX rfl rfl rfl (Wb h2) rfl AB ?_
 refine ap ?_
 refine ac ?_
 refine wk [9,8] rfl (Tr.ret (Fin.AE ?_))
 have hno:=WB h46 AB
 refine Fin.L2 3 1 (Fin.L3 ?_)
 refine Fin.Je 1 (Bn 3 1 ((HZ ((N:Nat):Int) l s).map (fun n=>[int n])) (.slice none 0 0)) rfl Pa ?_
 refine Fin.XA ((.slice none 0 0)) rfl (AM.tmp rfl Lr) (AM.tmp rfl Lr) trivial ?_ (List.Perm.refl _)
 · exact bk
 have q2:=DU.D9 h2
 have hsb:DH ((N:Nat):Int) s=true:=by simpa using h2
 refine TO.Fx rfl rfl rfl h2 rfl AB (BQ rfl vq) (TO.Fx rfl rfl rfl h2 rfl AB (BQ rfl vq) ?_)
 refine TO.lZ 0 rfl rfl rfl h2 rfl rfl AB (Aq rfl rfl AB rfl (UA (n:=N) (Db N l) (fun i h=>V_ (JQ AA hsb) hsb h)) ⟨kq,kz⟩) ?_
 refine TO.Fx rfl rfl rfl h2 rfl AB (HB rfl vq) ?_
 refine ap ?_
 refine Tr.cn rfl ?_ ?_<;>intro h3 q3
 have h46:E2 (N:Int) l s=46:=aI hv (by rintro ⟨g1,g2⟩;rw [←V9 (n:=(N:Int)) hv (JQ AA g1) (K7 g1)] at g2;simp_all)
 refine ac ?_
 refine wk [9,8] rfl (Tr.ret (Fin.AE ?_))
 have hno:=WB h46 AB
 refine Fin.L2 3 1 (Fin.L3 ?_)
 refine Fin.Je 1 (Bn 3 1 ((HZ ((N:Nat):Int) l s).map (fun n=>[int n])) (.slice none 0 0)) rfl Pa ?_
 refine Fin.XA ((.slice none 0 0)) rfl (AM.tmp rfl Lr) (AM.tmp rfl Lr) trivial ?_ (List.Perm.refl _)
 · exact bk
 have cM:CD l s=true:=by rw [←V9 (n:=(N:Int)) hv (JQ AA hsb) (K7 hsb)];simpa using h3
 have ha0:=eW hv hsb cM
 have ADB:(Jc (MN (Gz (Eb N l) N) (rdB N s) (Jc (rdB N s)))).map (fun i:Nat=>(i:Int))=HZ (N:Int) l s:=uf ha0 hv (JQ AA hsb) (K7 hsb) cM
 refine ac ?_
 refine ap ?_
 refine TO.IP 0 rfl rfl AB (pF rfl rfl AB rfl vq (show Bj prog 133 ([_,_]++[]) _ _ _ from WA (n:=N) (A:=Gz (Eb N l) N) (s:=rdB N s) (eM (n:=N) (l:=l) AA).aft.1 (fun i h=>V_ (JQ AA hsb) hsb h)) ⟨kq,kz⟩) ?_
 refine TO.RN _ rfl rfl AB rfl (uc) kz ((Cf (j:=0) rfl).trans (List.Perm.cons _ (List.Perm.refl _))) (fun x1 _=> ?_)
 refine ap ?_
 refine wk [9,8] rfl (Tr.ret (Fin.Je 1 (Bn 3 1 ((HZ ((N:Nat):Int) l s).map (fun n=>[int n])) x1) rfl (by rw [ADB]) (Fin.XA (x1) rfl (AM.tmp rfl Lr) (AM.tmp rfl Lr) trivial ?_ (List.Perm.refl _))))
 · exact Az ⟨DM (by rw [ADB]),int_eq ha0.symm,trivial⟩
theorem S2 {n:Int} {l:List BC} {s:List Int}  :Fj (α:=Value) prog 74 [int n,reqs l,ints s] [EI] (fun _=>True) (fun v=>Dz [Ad v (lens ((HZ n l s).map (fun n=>[int n])).length),int (E2 n l s)]) (fun v=>[EI,Bn 3 1 ((HZ n l s).map (fun n=>[int n])) v]):=by
 refine Fj.of func74 rfl rfl Ao fun M0 w0 S rs M1 w1=> ?_
 refine ac ?_
 refine ap ?_
 refine TO.RN _ rfl rfl AB rfl (aJ (n:=n) (l:=l) (s:=s)) ⟨kq,kz⟩ ((Cf (j:=0) rfl).trans (List.Perm.cons _ (List.Perm.refl _))) (fun x1 _=> ?_)
 refine ap ?_
 refine Tr.ret (Fin.XA (x1) rfl (AM.tmp rfl Lr) (AM.tmp rfl Lr) trivial ?_ (List.Perm.refl _))
 · exact Lr
theorem S3 {n:Int} {l:List BC} {s:List Int}:Bj Tryz.prog 74 [int n,reqs l,ints s] (Dz [ints (HZ n l s),int (E2 n l s)]) EI (fun _=>EI):=Fj.gC (BD fun _=>rfl) S2
theorem aK {n:Int} {l:List BC} {s:List Int}  :Bj prog 78 [int n,reqs l,ints s] (Dz [bool (SC n l s),int (LJ n l s)]) (EI) (fun _=>EI):=by
 refine Bj.of func78 rfl rfl Ao fun M0 w0 S rs M1 w1=> ?_
 refine ac ?_
 refine ap ?_
 refine TO.IP 0 rfl rfl AB (Aq rfl rfl AB rfl (eO (n:=n) (l:=l)) ⟨kq,kz⟩) ?_
 refine ap ?_
 refine an ?_ ?_<;>intro h1 q1
 have hv:=wM (s:=s) (n:=n) (l:=l) It
 refine ac ?_
 refine wk [7,6] rfl (Tr.ret (Fin.AE (Fin.F1 rfl rfl ?_ rfl ?_)))
 · refine bool_eq ?_;exact hv.2.symm
 · refine int_eq ?_;exact hv.1.symm
 have hv:BF n l=0:=by simpa using h1
 have Nc:=(DF hv).1
 obtain ⟨N,rfl⟩:∃N:Nat,n=(N:Int):=⟨n.toNat,by omega⟩
 refine Tr.re 8 rfl (Pr.le_of_eq (V4 hv)) ?_
 refine a2 ?_
 refine co rfl (CL (eV (n:=N) (B:=Eb N l) (l:=s) AA) rfl rfl rfl) ?_
 refine ac ?_
 refine wk [11,10,8] rfl ?_
 refine an ?_ ?_<;>intro h2 q2
 have Sg:=wN (n:=(N:Int)) hv Iu
 refine ac ?_
 refine Tr.ret (Fin.AE (Fin.F1 rfl rfl ?_ rfl ?_))
 · refine bool_eq ?_;exact Sg.2.symm
 · refine int_eq ?_;exact Sg.1.symm
 have hsb:DH ((N:Nat):Int) s=true:=by simpa using h2
 have hv3:=UB hv hsb
 refine ac ?_
 refine ap ?_
 refine TO.IP 0 rfl rfl AB (Aq rfl rfl AB rfl (UA (n:=N) (Db N l) (fun i h=>V_ (JQ AA hsb) hsb h)) ⟨kq,kz⟩) ?_
 refine ap ?_
 refine Tr.ret (Fin.F1 rfl rfl ?_ rfl ?_)
 · refine bool_eq ?_;rw [hv3.2];exact V9 (n:=(N:Int)) hv (JQ AA hsb) (K7 hsb)
 · refine int_eq ?_;exact hv3.1.symm
abbrev C9 (l:List BX):Pr:=slice 8 (l.map Eo)
def O3 (c:BV) (x:BX):Bool:=decide (x.Aa<0)||decide (x.Aa≥c.JI.length)
def SD (c:BV) (x:BX):Int:=c.JI.getD x.Aa.toNat 0
def Ec (c:BV) (l:List BX):Int:=if 24<l.length then 3 else if l.any (O3 c) then 40 else 0
def SE (c:BV) (l:List BX):List Int:=if Ec c l=0 then l.map (SD c) else []
open Classical in
noncomputable def KV (e:Dp) (c:BV) (l:List BX):Int:=if FQ e=false then 31 else if c.check (e.Bv.length:Nat)≠0 then c.check (e.Bv.length:Nat) else Ec c l
theorem eX {c:BV} {l:List BX} (h:24<l.length):Ec c l=3:=by unfold Ec;rw [if_pos h]
theorem WW {c:BV} {l:List BX} {k:Nat} {x:BX} (h:¬24<l.length) (hx:l[k]? =some x) (hb:O3 c x=true):Ec c l=40:=by unfold Ec;rw [if_neg h,if_pos (List.any_eq_true.2 ⟨x,List.mem_of_getElem? hx,hb⟩)]
theorem eY {c:BV} {l:List BX} (h:¬24<l.length) (hb:∀j y,j<l.length→l[j]? =some y→O3 c y=false):Ec c l=0:=by
 unfold Ec;rw [if_neg h,if_neg]
 rw [Bool.not_eq_true,List.any_eq_false]
 intro y hy
 obtain ⟨j,hj⟩:=List.mem_iff_getElem?.1 hy
 rw [hb j y Yt hj];decide
theorem WV {c:BV} {l:List BX} {e:Int} (h:Ec c l=e) (he:e≠0):SE c l=[]:=by unfold SE;rw [if_neg He]
theorem Xp {c:BV} {l:List BX} (h:Ec c l=0):SE c l=l.map (SD c):=by unfold SE;rw [if_pos h]
theorem wO {c:BV} {x:BX} (h:0≤x.Aa∧x.Aa<c.JI.length):c.JI[x.Aa.toNat]? =some (SD c x):=by
 unfold SD;rw [List.getD_eq_getElem?_getD,List.getElem?_eq_getElem AA];rfl
theorem pI {c:BV} {l:List BX} {k:Nat} {x:BX} (h:l[k]? =some x):(((l.take k).map (SD c)).map fun n=>[int n])++[[int (SD c x)]]=((l.take (k+1)).map (SD c)).map fun n=>[int n]:=by
 rw [List.take_add_one,h,List.map_append,List.map_append];rfl
def FN (l:List Int):Int:=l.foldl max (-1)
theorem iM {l:List BC} (h0:l≠[]) (hl:l.length≤1000000):Bj prog 154 [reqs l] (lens (l.map O2).length) (Bu) (fun v=>Fh 61 2 (l.map O2) v):=by
 refine Bj.of func154 rfl rfl Ao fun M0 w0 S rs M1 w1=> ?_
 have hpos:=M7 (f:=O2) h0
 refine a2 ?_
 refine co rfl (Fb rfl underlying33 vq) ?_
 refine ac ?_
 refine Tr.ex 4 rfl (fun z1=>Tr.fact 4 rfl fun Ef=> ?_)
 refine Tr.cn rfl ?_ ?_<;>intro h1 q1
 exfalso;have:=Ef h1;simp_all
 refine ac ?_
 refine ap ?_
 refine TO.pad ?_
 refine TO.DT 0 rfl rfl AB (JA rfl rfl AB rfl underlying33 Cw Sr Sj rfl AB AB vq vq hpos Jw Cz) (fun v1=> ?_)
 refine ap ?_
 refine Tr.ret (Fin.drop 1 ?_)
 refine Fin.E7 rfl rfl ?_ PX
 · exact Gt
theorem iN   :BG prog 154 [slice 2 []] (full 2 []):=by
 refine fo func154 rfl ⟨rfl,rfl⟩ fun M0 w0=> ?_
 refine a2 ?_
 refine co rfl (Fb rfl underlying33 vq) ?_
 refine ac ?_
 refine Tr.ex 4 rfl (fun z1=>Tr.fact 4 rfl fun Ef=> ?_)
 · repeat' first|exact Cr 2|exact Lr|refine co rfl (Mx rfl underlying33 Cw vq vq) ?_|refine ac ?_|(refine Tr.cn rfl ?_ ?_<;>intro h q)
theorem iO {l:List BC} (hl:l.length≤1000000):BG Tryz.prog 154 [reqs l] (reqs l):=by
 by_cases h0:l=[]
 · subst h0;exact BG.le iN (fun _ _ _ h=>h) (Bx _ _)
 · exact (Bj.ABV (rows:=l.map O2) (BD fun _=>rfl) (iM h0 hl)).pure
theorem pJ {l:List BX} {r:List BC} {d:List Int} (F0:∀x∈l,x.Cy.small) (hl:l.length≤1000000) (hr:r.length≤1000000) (hd:d.length≤1000000):Nx prog 100 [agg [C9 l,reqs r,ints d]] (fun x=>agg [C9 l,reqs r,is x]) (fun x=>[Bs 3 1 (d.map fun n=>[int n]) x]):=by
 refine Nx.of func100 rfl rfl Ao fun M0 w0 S rs M1 w1=>(Tr.HD 0 0 rfl rfl fun Hw=>(Tr.seq (Tr.An (tp rfl (Bb rfl (Va rfl)) ?_))))
 refine Tl rfl rfl rfl rfl z35 E9 (fun b1=> ?_)
 refine ao ?_
 refine Tr.seq (Tr.pad (Tr.pad (Tr.pad (Tr.rx ?_))))
 refine ax ?_
 refine xo rfl (fun _=>Cq (iO hr) rfl rfl) ?_
 refine ax ?_
 refine Cx.ef 0 rfl rfl AB (GS rfl rfl AB rfl (N0 (l:=d) hd) kz) ?_
 refine Cx.ef 1 rfl rfl AB (eP (d:=12) (s:=11) (p:=fun v=>agg [is (.slice none 0 0),reqs r,Ad v (lens d.length)]) (q:=agg [is (.slice none 0 0),reqs r,lens d.length]) rfl AB (fun _=>BR ⟨Lr,Lr,Ar _ _,trivial⟩) rfl rfl AB (fun v=>V1 rfl rfl AB (fun _=>Ak (rows:=[(1,[_]),(2,[_])]) rfl Lx E9 ⟨⟨rfl,VL.le (vl rfl) (AY _)⟩,⟨⟨rfl,VL.le (vl rfl) (AY _)⟩,trivial⟩⟩ rfl))) (Cx.ef 2 rfl rfl AB (CC rfl rfl AB rfl z35 E9) (Cx.DP 2 rfl rfl (T_ rfl rfl rfl AB rfl rfl (Ae _) CG rfl rfl) ?_))
 refine Cx.nil ⟨by kernel_rfl,?_⟩
 refine BE.Z9 11 rfl (fun v11=> ?_)
 refine BE.Z9 12 rfl (fun v12=> ?_)
 refine BE.Z9 3 rfl (fun v3=> ?_)
 refine BE.V2 0 11 rfl rfl (BE.iH 1 12 11 rfl rfl rfl (BE.iH 2 3 12 rfl rfl rfl (BE.done al5 (Fin.shape 3 (fun b=> .pointer (some ⟨b,0,none⟩)) rfl (fun b9 e9=> ?_)))))
 subst e9
 refine Fin.SB 1 2 rfl rfl (Fin.drop 1 (Fin.go (wk [3,2,1] rfl ?_)))
 refine ac ?_
 refine Tr.block (Tr.HY 1 [Ad (.slice none 0 0) (C9 (l.take 0)),reqs r,Ad v11 (lens d.length)] rfl ⟨Bi rfl,Lr,Lr,trivial⟩ (Tr.B5 86 8 (Tr.EO _ (kk [15,14,3,2] rfl) (fun k u=>[(16,int ((k:Nat):Int))]) (fun k u=>Hp M0 w0 S (Aw 86 8 u::Bs 3 1 (d.map fun n=>[int n]) v11::AF true b9 35 [Ad u (C9 (l.take k)),reqs r,Ad v11 (lens d.length)]::AF true b1 35 (([.slice none 0 0,.slice none 0 0,.slice none 0 0]:List Value).map is)::Al M1 w1::rs)) (fun k:Nat=>k≤(l).length) (fun k:Nat=>(l).length-k) 0 (.slice none 0 0) (Nat.zero_le _) kz (fun _ _ h=>h) ?_)))
 rintro k u BU
 refine ac ?_
 refine Tr.seq ?_
 refine Tr.cn rfl ?_ ?_<;>intro h1 q1
 have Af:k<(l).length:=AH h1
 obtain ⟨x,Ah⟩:=at_ Af
 refine ac ?_
 refine Tr.seq (Tr.block (Tr.seq (Tr.An (tp rfl (AD rfl underlying32 Du (vl rfl) (vl rfl) AA (AX Ah)) (tp rfl (AP rfl Hr Du (vl rfl) rfl rfl) ?_)))))
 refine Tl rfl rfl rfl rfl Pn LD (fun b10=> ?_)
 refine sf 0 5 ⟨rfl,rfl,rfl⟩ rfl rfl rfl rfl ?_
 refine ao ?_
 refine Tr.pad (Tr.rx ?_)
 refine ax ?_
 refine xo rfl (fun _=>Cq (s_ (c:=x) (F0 x (List.mem_of_getElem? Ah))) rfl rfl) ?_
 refine xo rfl (fun _=>AO (xs:=[.tmp 23]) (rows:=[_]) rfl rfl underlying32 Du Pn rfl AB ⟨⟨Am,(Va rfl)⟩,trivial⟩ AB) ?_
 refine Cx.ef 1 rfl rfl AB (B7 rfl rfl rfl rfl underlying32 Du ZJ Pn (Kb rfl) (Kf rfl) (Ay BL (Ka rfl))) ?_
 refine xo rfl (fun _=>AW rfl Ly (vl rfl)) (Cx.DP 3 rfl rfl (GD rfl rfl rfl (vl rfl) rfl AAq Ao) ?_)
 refine Cx.nil ⟨by kernel_rfl,?_⟩
 refine BE.Q5 1 3 25 rfl rfl AB rfl (fun v1=> ?_)
 refine BE.done al6 ?_
 refine ac ?_
 refine Tr.drop 0 (wk [16,15,14,3,2] rfl ?_)
 refine ac ?_
 refine Fin.HY 2 [Ad v1 (C9 (l.take (k+1))),reqs r,Ad v11 (lens d.length)] rfl ⟨BA bq,Lr,Lr,trivial⟩ ?_
 exact Fin.C1 (k+1) v1 (⟨Af,by omega⟩) ⟨⟨_,rfl,AG k⟩,kz⟩ (fun _ _ h=>h)
 have BK:k=(l).length:=by have:=AJ h1;omega
 subst BK
 rw [List.take_length]
 refine ac ?_
 refine ao ?_
 refine TO.AK 3 rfl rfl rfl (vl rfl) (Va rfl) rfl CG rfl rfl ?_
 refine ao ?_
 refine Tr.ret (Fin.drop 0 (Fin.drop 1 (Fin.L3 (Fin.xj v11 [_] rfl (AM.cell 0 rfl rfl Cn CG rfl Lr) ?_ (List.Perm.refl _)))))
 · exact BR ⟨Ar _ _,Lr,EA _ _,trivial⟩
noncomputable def WX (c:BV) (l:List BX) (r:List BC) (fr:Int):Option (List Int×List Int×List Int):=N_ c r (l.map (SD c)) fr l.length (Da l.length r l.length).1
open Classical in
noncomputable def KW (e:Dp) (c:BV) (l:List BX) (r:List BC) (fr:Int):Int:=if KV e c l≠0 then KV e c l else if BF (l.length:Nat) r≠0 then BF (l.length:Nat) r else match WX c l r fr with|none=>51|some _=>0
noncomputable def y8 (c:BV) (l:List BX) (r:List BC) (fr:Int):List Int:=match WX c l r fr with|none=>[]|some p=>p.1
open Classical in
noncomputable def Nh (e:Dp) (c:BV) (l:List BX) (r:List BC) (fr:Int):List BX:=if KW e c l r fr=0 then l else []
open Classical in
noncomputable def Qm (e:Dp) (c:BV) (l:List BX) (r:List BC) (fr:Int):List BC:=if KW e c l r fr=0 then r else []
open Classical in
noncomputable def Un (e:Dp) (c:BV) (l:List BX) (r:List BC) (fr:Int):List Int:=if KW e c l r fr=0 then y8 c l r fr else []
noncomputable abbrev pK (e:Dp) (c:BV) (l:List BX) (r:List BC) (fr:Int):List Pr:=[C9 (Nh e c l r fr),reqs (Qm e c l r fr),ints (Un e c l r fr)]
section
variable {e:Dp} {c:BV} {l:List BX} {r:List BC} {fr:Int}
theorem UC {n:Int} (h:c.check n=0):c.own=0∧(c.JI.length:Int)=n∧∀t∈c.JI,c.has t=true:=by
 have h':=h
 unfold BV.check at h
 split at h
 · cases h
 ·
  split at h
  · cases h
  ·
   split at h
   · cases h
   ·
    split at h
    · cases h
    ·
     split at h
     · cases h
     ·
      split at h
      · cases h
      ·
       rename_i _ _ _ _ _ h6
       rw [not_or,Classical.not_not,Bool.not_eq_true,List.any_eq_false] at h6
       refine ⟨by unfold BV.own;rw [h6.1];exact h',h6.1,fun t ht=>by simpa using h6.2 t ht⟩
theorem SF (h:Ec c l=0):l.length≤24∧∀x∈l,O3 c x=false:=by
 unfold Ec at h
 by_cases h1:24<l.length
 · rw [if_pos h1] at h;cases h
 ·
  rw [if_neg h1] at h
  refine ⟨by omega,fun x hx=> ?_⟩
  cases hb:O3 c x with
  |false=>rfl
  |true=>rw [if_pos (List.any_eq_true.2 ⟨x,hx,hb⟩)] at h;cases h
theorem ug (h:Ec c l=0) (ht:∀t∈c.JI,c.has t=true):∀x∈l.map (SD c),c.has x=true:=fun x hx=>by
 obtain ⟨y,hy,rfl⟩:=List.mem_map.1 hx
 have hb:=(SF h).2 y hy
 unfold O3 at hb
 rw [Bool.or_eq_false_iff,decide_eq_false_iff_not,decide_eq_false_iff_not] at hb
 exact ht _ (List.mem_of_getElem? (wO AA))
theorem UD (h:KV e c l≠0):KW e c l r fr=KV e c l:=by unfold KW;rw [if_pos h]
theorem wP (h:KV e c l=0) (hv:BF (l.length:Nat) r≠0):KW e c l r fr=BF (l.length:Nat) r:=by unfold KW;rw [if_neg (not_not_intro h),if_pos hv]
theorem pL (h:KV e c l=0) (hv:BF (l.length:Nat) r=0) (hs:WX c l r fr=none):KW e c l r fr=51:=by unfold KW;rw [if_neg (not_not_intro h),if_neg (not_not_intro hv),hs]
theorem wQ {p:List Int×List Int×List Int} (h:KV e c l=0) (hv:BF (l.length:Nat) r=0) (hs:WX c l r fr=some p):KW e c l r fr=0:=by unfold KW;rw [if_neg (not_not_intro h),if_neg (not_not_intro hv),hs]
theorem pM (h:KW e c l r fr≠0):Nh e c l r fr=[]∧Qm e c l r fr=[]∧Un e c l r fr=[]:=by unfold Nh Qm Un;rw [if_neg h,if_neg h,if_neg h];exact ⟨rfl,rfl,rfl⟩
theorem pN (h:KW e c l r fr=0):Nh e c l r fr=l∧Qm e c l r fr=r∧Un e c l r fr=y8 c l r fr:=by unfold Nh Qm Un;rw [if_pos h,if_pos h,if_pos h];exact ⟨rfl,rfl,rfl⟩
theorem SG {k:Int} (h:KW e c l r fr=k) (hk:k≠0):Pr.le (agg [is (.slice none 0 0),is (.slice none 0 0),is (.slice none 0 0)]) (agg (pK e c l r fr)):=by
 obtain ⟨h1,h2,h3⟩:=pM (e:=e) (c:=c) (l:=l) (r:=r) (fr:=fr) (by rw [h];exact hk)
 unfold pK;rw [h1,h2,h3];exact BR ⟨AQ 8,AQ 2,AQ 1,trivial⟩
theorem uh {d b y:List Int} (h:KW e c l r fr=0) (hs:WX c l r fr=some (d,b,y)):Pr.le (agg [C9 l,reqs r,ints d]) (agg (pK e c l r fr)):=by
 obtain ⟨h1,h2,h3⟩:=pN h
 unfold pK;rw [h1,h2,h3];unfold y8;rw [hs];exact Pr.le_refl _
theorem SH {q:BC} {m:Nat} {d:List Int} {i:Int} (h:r[m]? =some q):F5 (r.take (m+1)) d i fr=if q.thn=i then max (F5 (r.take m) d i fr) (d.getD q.fst.toNat 0+1) else F5 (r.take m) d i fr:=by
 unfold F5;rw [List.take_add_one,h,List.foldl_append];rfl
theorem Dy {l:List Int} {i:Nat} (h:i<l.length):l[i]? =some (l.getD i 0):=by rw [List.getD_eq_getElem?_getD,List.getElem?_eq_getElem h];rfl
end
structure Su where
 code:Int
 x1:Int
 x2:Int
 s1:Int
 s2:Int
 c1:Int
 c2:Int
 m1:Int
 m2:Int
 lo:Int
 hi:Int
abbrev AGG:Pr:=Cp.ex fun l:List UInt8=>str l
abbrev UE (s:Su):List Pr:=[int s.code,AGG,int s.x1,int s.x2,int s.s1,int s.s2,int s.c1,int s.c2,int s.m1,int s.m2,int s.lo,int s.hi]
def suT:List Su:=[⟨1,10,0,5,0,14,128,19,0,1,2⟩,⟨2,10,0,5,0,14,128,20,0,1,3⟩,⟨3,10,0,5,0,15,168,20,0,1,3⟩,⟨4,11,1024,6,0,15,168,20,0,1,3⟩,⟨5,11,1024,5,0,15,168,20,0,1,3⟩,⟨6,10,0,5,0,16,128,20,0,1,3⟩,⟨7,11,2048,5,0,16,128,20,0,1,3⟩,⟨8,12,256,5,0,16,128,20,0,1,3⟩,⟨9,12,256,7,0,16,256,21,0,3,3⟩,⟨10,12,256,5,0,17,128,22,0,3,3⟩,⟨11,12,384,7,0,17,256,22,0,3,3⟩,⟨12,12,256,5,0,18,0,22,0,3,3⟩,⟨13,10,0,5,0,17,256,22,0,3,3⟩,⟨14,12,256,0,0,17,128,22,0,4,4⟩,⟨15,12,256,0,0,18,0,22,0,4,4⟩,⟨16,13,768,0,0,17,256,22,0,4,4⟩]
abbrev pO:Su:=⟨0,0,0,0,0,0,0,0,0,0,0⟩
def Sl (code:Int):Bool:=decide (1≤code∧code≤16)
def Qd (code:Int):Su:=if Sl code then suT[(code-1).toNat]?.getD pO else pO
theorem y9 {code:Int} (h:1≤code∧code≤16):suT[(code-1).toNat]? =some (Qd code):=by
 obtain ⟨x,hx⟩:=at_ (l:=suT) (k:=(code-1).toNat) (by show _<16;omega)
 unfold Qd Sl;rw [if_pos (decide_eq_true h),hx];rfl
theorem CR {a l m x1 y1 x2 y2 x3 y3 x4 y4:Int} {s:List UInt8}  :BG prog 267 [int a,str s,agg [int x1,int y1],agg [int x2,int y2],agg [int x3,int y3],agg [int x4,int y4],int l,int m] (agg (UE ⟨a,x1,y1,x2,y2,x3,y3,x4,y4,l,m⟩)):=by
 refine BG.of func267 rfl rfl Ao fun M0 w0=> ?_
 refine Tr.seq (Tr.An ?_)
 iterate 4 refine tp rfl (Bb rfl (Va rfl)) ?_
 refine Tl rfl rfl rfl rfl Ss IY (fun b1=> ?_)
 refine TO.nil (Fin.go (Tr.seq (Tr.An (tm rfl (tm rfl ?_)))))
 iterate 4 refine tp rfl (AP rfl JX LC (vl rfl) rfl rfl) ?_
 refine tm rfl (tm rfl (tp rfl (Ak (rows:=[(0,[_]),(1,[_]),(2,_),(3,_),(4,_),(5,_),(6,[_]),(7,[_])]) rfl Wy IY ⟨⟨rfl,(Vo rfl)⟩,⟨⟨rfl,(Vo rfl)⟩,⟨⟨rfl,(Va rfl)⟩,⟨⟨rfl,(Va rfl)⟩,⟨⟨rfl,(Va rfl)⟩,⟨⟨rfl,(Va rfl)⟩,⟨⟨rfl,(Vo rfl)⟩,⟨⟨rfl,(Vo rfl)⟩,trivial⟩⟩⟩⟩⟩⟩⟩⟩ rfl) (TO.re 25 (agg (UE ⟨a,x1,y1,x2,y2,x3,y3,x4,y4,l,m⟩)) rfl (BR ⟨Lr,Ax _ (Lr),Lr,Lr,Lr,Lr,Lr,Lr,Lr,Lr,Lr,Lr,trivial⟩) (TO.AK 0 rfl rfl rfl (vl rfl) (Va rfl) rfl F2 rfl rfl (TO.nil (Fin.go (OZ 16 rfl (Tr.ret (Fin.CY rfl (AM.cell 0 rfl rfl I9 F2 rfl (Lr)) ?_)))))))))
 · exact Lr
theorem Xq   :BG prog 227 [] (slice 12 (suT.map UE)):=by
 refine fo func227 rfl ⟨rfl,rfl⟩ fun M0 w0=> ?_
 refine ac ?_
 refine Tr.seq (Tr.An (tp rfl (CL (Bm) rfl rfl rfl) (tp rfl (CL (Bm) rfl rfl rfl) (tp rfl (Ak (rows:=[]) rfl xE EX trivial rfl) ?_))))
 refine Tl rfl rfl rfl rfl Ks EX (fun b1=> ?_)
 refine Tl rfl rfl rfl rfl Ks EX (fun b2=> ?_)
 refine Tl rfl rfl rfl rfl Ks EX (fun b3=> ?_)
 refine sf 2 1 ⟨rfl,rfl,rfl⟩ rfl rfl rfl rfl ?_
 refine sf 1 2 ⟨rfl,rfl,rfl⟩ rfl rfl rfl rfl ?_
 refine sf 0 3 ⟨rfl,rfl,rfl⟩ rfl rfl rfl rfl ?_
 refine ao ?_
 refine Tr.seq (Tr.An (tp rfl (CL (Bm) rfl rfl rfl) (tp rfl (CL (Bm) rfl rfl rfl) ?_)))
 refine Tl rfl rfl rfl rfl Ks EX (fun b4=> ?_)
 refine Tl rfl rfl rfl rfl Ks EX (fun b5=> ?_)
 refine sf 1 4 ⟨rfl,rfl,rfl⟩ rfl rfl rfl rfl ?_
 refine sf 0 5 ⟨rfl,rfl,rfl⟩ rfl rfl rfl rfl ?_
 refine ao ?_
 refine wk [5,4,3,2,1] rfl (Tr.seq (Tr.An (tp rfl (CL (Bm) rfl rfl rfl) (tp rfl (CL (Bm) rfl rfl rfl) (tp rfl (CL (Bm) rfl rfl rfl) ?_)))))
 refine Tl rfl rfl rfl rfl Ks EX (fun b6=> ?_)
 refine Tl rfl rfl rfl rfl Ks EX (fun b7=> ?_)
 refine Tl rfl rfl rfl rfl Ks EX (fun b8=> ?_)
 refine sf 2 6 ⟨rfl,rfl,rfl⟩ rfl rfl rfl rfl ?_
 refine sf 1 7 ⟨rfl,rfl,rfl⟩ rfl rfl rfl rfl ?_
 refine sf 0 8 ⟨rfl,rfl,rfl⟩ rfl rfl rfl rfl ?_
 refine ao ?_
 refine wk [8,7,6,5,4,3,2,1] rfl (Tr.seq (Tr.An ?_))
 iterate 4 refine tp rfl (CL (Bm) rfl rfl rfl) ?_
 refine Tl rfl rfl rfl rfl Ks EX (fun b9=> ?_)
 refine Tl rfl rfl rfl rfl Ks EX (fun b10=> ?_)
 refine Tl rfl rfl rfl rfl Ks EX (fun b11=> ?_)
 refine Tl rfl rfl rfl rfl Ks EX (fun b12=> ?_)
 refine sf 3 9 ⟨rfl,rfl,rfl⟩ rfl rfl rfl rfl ?_
 refine sf 2 10 ⟨rfl,rfl,rfl⟩ rfl rfl rfl rfl ?_
 refine sf 1 11 ⟨rfl,rfl,rfl⟩ rfl rfl rfl rfl ?_
 refine sf 0 12 ⟨rfl,rfl,rfl⟩ rfl rfl rfl rfl ?_
 refine ao ?_
 refine wk [12,11,10,9,8,7,6,5,4,3,2,1] rfl (Tr.seq (Tr.An (tp rfl (CL (Bm) rfl rfl rfl) (tp rfl (CL (Bm) rfl rfl rfl) ?_))))
 refine Tl rfl rfl rfl rfl Ks EX (fun b13=> ?_)
 refine Tl rfl rfl rfl rfl Ks EX (fun b14=> ?_)
 refine sf 1 13 ⟨rfl,rfl,rfl⟩ rfl rfl rfl rfl ?_
 refine sf 0 14 ⟨rfl,rfl,rfl⟩ rfl rfl rfl rfl ?_
 refine ao ?_
 refine wk [14,13,12,11,10,9,8,7,6,5,4,3,2,1] rfl ?_
 refine ac ?_
 refine co rfl (AR rfl (CR) ⟨kq,kz⟩) ?_
 refine ac ?_
 refine co rfl (AR rfl (CR) ⟨kq,kz⟩) ?_
 refine ac ?_
 refine co rfl (AR rfl (CR) ⟨kq,kz⟩) (co rfl (CL (Bm) rfl rfl rfl) (co rfl (CL (Bm) rfl rfl rfl) ?_))
 refine ac ?_
 refine co rfl (AR rfl (CR) ⟨kq,kz⟩) (co rfl (CL (Bm) rfl rfl rfl) ?_)
 refine ac ?_
 refine co rfl (AR rfl (CR) ⟨kq,kz⟩) ?_
 refine ac ?_
 refine co rfl (AR rfl (CR) ⟨kq,kz⟩) (co rfl (CL (Bm) rfl rfl rfl) ?_)
 refine ac ?_
 refine co rfl (AR rfl (CR) ⟨kq,kz⟩) ?_
 refine ac ?_
 refine co rfl (AR rfl (CR) ⟨kq,kz⟩) (co rfl (AP rfl JX LC vq rfl rfl) (co rfl (CL (Bm) rfl rfl rfl) (co rfl (CL (Bm) rfl rfl rfl) (co rfl (AP rfl JX LC vq rfl rfl) (co rfl (AR rfl (CR) ⟨kq,kz⟩) ?_)))))
 refine ac ?_
 refine co rfl (AR rfl (CR) ⟨kq,kz⟩) (co rfl (CL (Bm) rfl rfl rfl) (co rfl (CL (Bm) rfl rfl rfl) ?_))
 refine ac ?_
 refine co rfl (AR rfl (CR) ⟨kq,kz⟩) ?_
 refine ac ?_
 refine co rfl (AR rfl (CR) ⟨kq,kz⟩) ?_
 refine ac ?_
 refine co rfl (AR rfl (CR) ⟨kq,kz⟩) ?_
 refine ac ?_
 refine co rfl (AR rfl (CR) ⟨kq,kz⟩) ?_
 refine ac ?_
 refine co rfl (AR rfl (CR) ⟨kq,kz⟩) (co rfl (CL (Bm) rfl rfl rfl) ?_)
 refine ac ?_
 refine co rfl (AR rfl (CR) ⟨kq,kz⟩) (co rfl (AO (xs:=[.tmp 33,.tmp 38,.tmp 43,.tmp 48,.tmp 53,.tmp 58,.tmp 63,.tmp 68,.tmp 73,.tmp 78,.tmp 83,.tmp 88,.tmp 93,.tmp 98,.tmp 103,.tmp 108]) (rows:=(suT.map UE)) rfl rfl underlying287 F2 Ss rfl AB ⟨⟨Am,VL.le vq (Ae _)⟩,⟨⟨Am,VL.le vq (Ae _)⟩,⟨⟨Am,VL.le vq (Ae _)⟩,⟨⟨Am,VL.le vq (Ae _)⟩,⟨⟨Am,VL.le vq (Ae _)⟩,⟨⟨Am,VL.le vq (Ae _)⟩,⟨⟨Am,VL.le vq (Ae _)⟩,⟨⟨Am,VL.le vq (Ae _)⟩,⟨⟨Am,VL.le vq (Ae _)⟩,⟨⟨Am,VL.le vq (Ae _)⟩,⟨⟨Am,VL.le vq (Ae _)⟩,⟨⟨Am,VL.le vq (Ae _)⟩,⟨⟨Am,VL.le vq (Ae _)⟩,⟨⟨Am,VL.le vq (Ae _)⟩,⟨⟨Am,VL.le vq (Ae _)⟩,⟨⟨Am,VL.le vq (Ae _)⟩,trivial⟩⟩⟩⟩⟩⟩⟩⟩⟩⟩⟩⟩⟩⟩⟩⟩ AB) ?_)
 refine ac ?_
 refine wk [0] rfl ?_
 refine ac ?_
 · exact Bx _ _
theorem MO {code:Int}  :BG prog 192 [int code] (Dz [agg (UE (Qd code)),int (if Sl code then 0 else 8)]):=by
 refine fo func192 rfl ⟨rfl,rfl⟩ fun M0 w0=>(Tr.seq (Tr.An ?_))
 refine Tl rfl rfl rfl rfl Ss IY (fun b1=> ?_)
 refine ap ?_
 refine ag ?_ ?_<;>intro h1 q1
 refine ac ?_
 refine Tr.cond rfl (fun _=> ?_) (fun h=>nomatch h)
 refine Tr.seq (Tr.An (tp rfl (Ak (rows:=[]) rfl Wy IY trivial rfl) (TO.AK 0 rfl rfl rfl vq Cs rfl F2 rfl rfl (tm rfl (TO.nil (Fin.go (Tr.ret (Fin.AE (Fin.BT rfl (AM.cell 0 rfl rfl I9 F2 rfl Lr) (AM.tmp rfl Lr) ?_)))))))))
 · exact jy
 refine an ?_ ?_<;>intro h2 q2
 refine ap ?_
 refine Tr.ret (Fin.AE (Fin.BT rfl (AM.cell 0 rfl rfl I9 F2 rfl Lr) (AM.tmp rfl Lr) ?_))
 · exact jy
 have hin:1≤code∧code≤16:=by omega
 refine ac ?_
 refine Tr.seq (Tr.An (tp rfl (kc0 (Xq) rfl) ?_))
 refine ap ?_
 refine tp rfl (AD rfl underlying287 F2 vq vq AA (Bh (f:=UE) (y9 AA))) ?_
 refine ap ?_
 refine wk [3,2] rfl (Tr.ret (Fin.BT rfl (AM.cell 0 rfl rfl I9 F2 rfl Lr) (AM.tmp rfl Lr) ?_))
 · exact Az ⟨Lr,int_eq (by unfold Sl;rw [if_pos (decide_eq_true hin)]),trivial⟩
abbrev anyI:Pr:=Cp.ex fun n:Int=>int n
theorem iP:∀r∈IZ,∀x∈r.sizes,0≤x∧x≤40000:=by decide+kernel
theorem Xr {a b k:Int} (h:LQ a b k=true):(0≤a∧a≤40000)∧(0≤b∧b≤40000):=by
 have h1:=(ZZ h).1
 rw [decide_eq_true_eq] at h1
 unfold Dw at h1
 split at h1
 next ha=>
  refine ⟨by omega,?_⟩
  split at h1
  · split at h1<;>omega
  ·
   split at h1
   · split at h1<;>omega
   ·
    split at h1
    ·
     split at h1
     next hc=>
      obtain ⟨x,hx,hb⟩:=List.any_eq_true.1 hc
      simp only [bA,List.mem_cons,List.not_mem_nil,or_false] at hx
      have:b=x:=by simpa using hb
      omega
     · omega
    ·
     split at h1
     ·
      split at h1
      next hc=>
       have hn:(En a).sizes.any (fun x=>b==x)=true:=by
        cases he:(En a).sizes.any (fun x=>b==x) with
        |true=>rfl
        |false=>
         have:=Pq (fun x=>b==x) (En a).sizes
         rw [he] at this;simp at this;omega
       obtain ⟨x,hx,hb⟩:=List.any_eq_true.1 hn
       have:b=x:=by simpa using hb
       subst this
       exact iP _ (gG ha) _ hx
      · omega
     · omega
 · omega
theorem uj {c:IE} (hv:EF c=true):c.Za:=by
 have h:=JW hv
 have h1:=Xr h.key
 have h2:=Xr h.hash
 exact ⟨h.s1,h.k1,h1.1,h1.2,h2.1,h2.2⟩
section
variable {P:Program} {I:Ck} {E:Env} {o:Oper}
theorem JR {t:TypeId} {x:Operand} (ho:o.op= .unOp .not t x) (hx:VL E x ER):Ag P I o E ER:=
 Ag.same fun M w a he _=>by
  obtain ⟨b,h1⟩:=hx.ev he Au
  have h1:a.eval x= .bool b:=h1
  exact ⟨.bool (!b),by simp [execOp,ho,h1,Op.unary],_,rfl⟩
theorem y_ {t u:TypeId} {x y:Operand} (ho:o.op= .binOp .neq t x y u) (hx:VL E x (Gl .i64)) (hy:VL E y (Gl .i64)):Ag P I o E ER:=
 Ag.same fun M w a he _=>by
  obtain ⟨m,h1⟩:=hx.ev he Au
  obtain ⟨n,h2⟩:=hy.ev he Au
  have h1:a.eval x= .int .i64 m:=h1
  have h2:a.eval y= .int .i64 n:=h2
  exact ⟨.bool (m !=n),by simp [execOp,ho,h1,h2,eqGuard,binOp,Op.intCmp],_,rfl⟩
theorem pP {t u:TypeId} {x y:Operand} (ho:o.op= .binOp .eql t x y u) (hx:VL E x (Gl .i64)) (hy:VL E y (Gl .i64)):Ag P I o E ER:=
 Ag.same fun M w a he _=>by
  obtain ⟨m,h1⟩:=hx.ev he Au
  obtain ⟨n,h2⟩:=hy.ev he Au
  have h1:a.eval x= .int .i64 m:=h1
  have h2:a.eval y= .int .i64 n:=h2
  exact ⟨.bool (m==n),by simp [execOp,ho,h1,h2,eqGuard,binOp,Op.intCmp],_,rfl⟩
end
theorem aL:Pr.le anyI (Gl .i64):=fun _ _ _ h=>h
theorem uk:Pr.le (Gl .i64) anyI:=fun _ _ _ h=>h
theorem zA:Pr.le x7 (Gl .i64):=fun _ _ _ ⟨n,_,h⟩=>⟨n,h⟩
theorem aM {c:IE}  :BG prog 189 [agg (EE c)] (Dz [Ep 3285282,Gl .i64]):=by
 refine fo func189 rfl ⟨rfl,rfl⟩ fun M0 w0=> ?_
 refine a2 ?_
 refine co rfl (Cq (MA (c:=c)) rfl rfl) ?_
 refine an ?_ ?_<;>intro h1 q1
 refine ac ?_
 refine Tr.ret (Fin.AE (Fin.Ct rfl (Bg.Dc _ _) rfl ?_ rfl ?_))
 · exact PR
 · exact DG _ _
 have hv:EF c=true:=by cases hb:EF c with|true=>rfl|false=>exact absurd h1 (by rw [hb];decide)
 refine a2 ?_
 refine co rfl (Cq (XJ hv (uj hv)) rfl rfl) (co rfl (Cq (rE2) rfl rfl) ?_)
 refine ac ?_
 refine Tr.ret (Fin.Ct rfl (Bg.Dc _ _) rfl ?_ rfl ?_)
 · exact Lr
 · exact Lr
theorem SI {c:IE} {key:Int}  :BG prog 344 [agg (EE c),int key] (ER):=by
 refine fo func344 rfl ⟨rfl,rfl⟩ fun M0 w0=> ?_
 refine a2 ?_
 refine co rfl (Cq (aM (c:=c)) rfl rfl) ?_
 refine ac ?_
 refine Tr.seq (Tr.re 6 rfl uk (Tr.ex 6 rfl fun e6=> ?_))
 · repeat' first|exact Lr|exact Ax _ Lr|refine cy h rfl (Cq (BG.Ep fun m hm=>dN AA) rfl rfl) (cy h rfl (pP rfl (VL.le vq (DG _ _)) (VL.le vq zA)) ?_)|refine ac ?_|(refine Ch.cg rfl rfl rfl ?_ ?_<;>intro h q)
theorem pQ {l:List (List UInt8)} {s:List UInt8}  :BG prog 342 [gH l,str s] (ER):=by
 refine fo func342 rfl ⟨rfl,rfl⟩ fun M0 w0=>(Tr.Cm 0 rfl fun EJ=> ?_)
 refine a2 ?_
 refine Tr.block (Tr.BH _ (kk [1,0] rfl) (fun k:Nat=>[(5,int ((k:Nat):Int))]) (fun k:Nat=>k≤(l).length) (fun k:Nat=>(l).length-k) 0 (Nat.zero_le _) kz ?_)
 rintro k BU
 refine an ?_ ?_<;>intro h1 q1
 have Af:k<(l).length:=AH h1
 obtain ⟨x,Ah⟩:=at_ Af
 · repeat' first|exact Ax _ Lr|exact Fin.AL (k+1) ⟨Af,by omega⟩ ⟨⟨_,rfl,AG k⟩,kz⟩|refine co rfl (AD rfl underlying127 Mq vq vq AA CO) ?_|refine ac ?_|(refine Tr.cn rfl ?_ ?_<;>intro h q)
 have BK:k=(l).length:=by have:=AJ h1;omega
 refine a3 ?_
 · exact BN
theorem pR {l:List IE} {a:Int}  :BG prog 343 [La l,int a] (ER):=by
 refine fo func343 rfl ⟨rfl,rfl⟩ fun M0 w0=>(Tr.Cm 0 rfl fun EJ=> ?_)
 refine ac ?_
 refine ag ?_ ?_<;>intro h1 q1
 refine a3 ?_
 · exact BN
 refine an ?_ ?_<;>intro h2 q2
 refine a2 ?_
 · exact BN
 refine ac ?_
 refine ag ?_ ?_<;>intro h3 q3
 refine ac ?_
 refine wk [4] rfl ?_
 refine ac ?_
 · exact BN
 refine ac ?_
 refine cy h3 rfl (AD rfl underlying82 DN vq vq AA (Bh (List.getElem?_eq_getElem (show Int.toNat a<l.length by omega)))) ?_
 refine ag ?_ ?_<;>intro h4 q4
 refine ac ?_
 refine cy h4 rfl (AD rfl underlying82 DN vq vq AA (Bh (List.getElem?_eq_getElem (show Int.toNat a<l.length by omega)))) ?_
 refine ac ?_
 refine wk [4] rfl ?_
 refine ac ?_
 · exact BN
 refine ac ?_
 refine wk [4] rfl ?_
 refine ac ?_
 · exact BN
theorem iQ {e:Int} {l:List IE} {i:Int} {an ha:List Int} {day:Int} {nm:List UInt8} (hi:0≤i∧i<(l.length:Nat)):BG prog 339 [int e,La l,int i,ints an,ints ha,int day,str nm] (ER):=by
 refine fo func339 rfl ⟨rfl,rfl⟩ fun M0 w0=>(Tr.Cm 1 rfl fun Fo=> ?_)
 obtain ⟨c,hc⟩:=at_ (l:=l) (k:=i.toNat) AA
 refine ac ?_
 refine ao ?_
 refine tp rfl (AD rfl underlying82 DN (vl rfl) (vl rfl) AA (Bh hc)) ?_
 refine ao ?_
 refine Tl rfl rfl rfl rfl VM Od (fun b1=> ?_)
 refine sf 0 15 ⟨rfl,rfl,rfl⟩ rfl rfl rfl rfl ?_
 refine ao ?_
 refine kZ 0 1 2 3 4 5 6 15 16 rfl ?_
 refine ac ?_
 refine ac ?_
 refine Tr.cn rfl ?_ ?_<;>intro h1 q1
 refine ac ?_
 refine co rfl (Cq (MA (c:=c)) rfl rfl) ?_
 refine ac ?_
 refine OZ 14 rfl ?_
 refine ac ?_
 · exact C6
 refine ac ?_
 refine Wj 1 2 3 4 5 6 15 16 26 32 rfl ?_
 refine Tr.cn rfl ?_ ?_<;>intro h2 q2
 refine ac ?_
 refine Ch.cs 36 rfl ?_ ?_<;>intro h3 q3
 refine ac ?_
 refine cy h3 rfl (CL (pQ) rfl rfl rfl) (cy h3 rfl (JR rfl (vl rfl)) ?_)
 refine ac ?_
 refine OZ 14 rfl ?_
 refine ac ?_
 · exact Lr
 refine ac ?_
 refine OZ 14 rfl ?_
 refine ac ?_
 · exact C6
 refine ac ?_
 refine Tr.cn rfl ?_ ?_<;>intro h4 q4
 refine ac ?_
 refine Ch.cs 49 rfl ?_ ?_<;>intro h5 q5
 refine ac ?_
 refine OZ 14 rfl ?_
 refine ac ?_
 · exact C6
 refine ac ?_
 refine OZ 14 rfl ?_
 refine ac ?_
 · exact C6
 refine ac ?_
 refine wk8 1 2 3 4 15 16 26 55 rfl ?_
 refine Tr.cn rfl ?_ ?_<;>intro h6 q6
 refine ac ?_
 refine co rfl (CL (KH) rfl rfl rfl) ?_
 refine ac ?_
 refine OZ 14 rfl ?_
 refine ac ?_
 · exact C6
 refine ac ?_
 refine Tr.cn rfl ?_ ?_<;>intro h7 q7
 refine ac ?_
 refine Ch.cs 67 rfl ?_ ?_<;>intro h8 q8
 refine ac ?_
 refine cy h8 rfl (AD rfl underlying82 DN (vl rfl) (vl rfl) AA (Bh (List.getElem?_eq_getElem (show Int.toNat (i+1)<l.length by omega)))) ?_
 refine ac ?_
 refine OZ 14 rfl ?_
 refine ac ?_
 · exact C6
 refine ac ?_
 refine OZ 14 rfl ?_
 refine ac ?_
 · exact C6
 refine ac ?_
 refine Tr.cn rfl ?_ ?_<;>intro h9 q9
 refine ac ?_
 refine co rfl (CL (pR) rfl rfl rfl) (co rfl (JR rfl (vl rfl)) ?_)
 refine ac ?_
 refine OZ 14 rfl ?_
 refine ac ?_
 · exact Lr
 refine ac ?_
 refine wk6 1 2 3 15 16 84 rfl ?_
 refine Tr.cn rfl ?_ ?_<;>intro h10 P7
 refine ac ?_
 refine Tr.cn rfl ?_ ?_<;>intro h11 Sx
 refine ac ?_
 refine co rfl (CL (SI) rfl rfl rfl) (co rfl (JR rfl (vl rfl)) ?_)
 refine ac ?_
 refine OZ 14 rfl ?_
 refine ac ?_
 · exact Lr
 refine ac ?_
 refine ac ?_
 refine co rfl (AD rfl underlying82 DN (vl rfl) (vl rfl) AA (Bh (List.getElem?_eq_getElem (show Int.toNat (i+1)<l.length by omega)))) ?_
 refine ac ?_
 refine co rfl (CL (SI) rfl rfl rfl) (co rfl (JR rfl (vl rfl)) ?_)
 refine ac ?_
 refine OZ 14 rfl ?_
 refine ac ?_
 · exact Lr
 refine ac ?_
 refine ac ?_
 refine Ch.cs 103 rfl ?_ ?_<;>intro h12 WT
 refine ac ?_
 refine cy h12 rfl (CL (KH) rfl rfl rfl) ?_
 refine ac ?_
 refine OZ 14 rfl ?_
 refine ac ?_
 · exact C6
 refine ac ?_
 refine OZ 14 rfl ?_
 refine ac ?_
 · exact C6
abbrev Xs:List Int:=[9,14,13,7,11,15,10,12]
theorem iR {l:List IE} {an ha:List Int} {day:Int} {nm:List UInt8}  :BG prog 332 [La l,ints an,ints ha,int day,str nm] (anyI):=by
 refine fo func332 rfl ⟨rfl,rfl⟩ fun M0 w0=>(Tr.Cm 0 rfl fun EJ=> ?_)
 refine ac ?_
 refine ac ?_
 refine Tr.cn rfl ?_ ?_<;>intro h1 q1
 refine ac ?_
 refine ac ?_
 · exact C6
 refine ac ?_
 refine ac ?_
 refine Tr.cn rfl ?_ ?_<;>intro h2 q2
 refine ac ?_
 refine ac ?_
 · exact C6
 refine ac ?_
 refine Tr.seq (Tr.Aj (co rfl (AO (xs:=[.const (.int .i64 (9)),.const (.int .i64 (14)),.const (.int .i64 (13)),.const (.int .i64 (7)),.const (.int .i64 (11)),.const (.int .i64 (15)),.const (.int .i64 (10)),.const (.int .i64 (12))]) (rows:=(Xs.map fun n=>[int n])) rfl rfl underlying389 xA z43 rfl AB ⟨⟨Am,VL.le (vl rfl) (AY _)⟩,⟨⟨Am,VL.le (vl rfl) (AY _)⟩,⟨⟨Am,VL.le (vl rfl) (AY _)⟩,⟨⟨Am,VL.le (vl rfl) (AY _)⟩,⟨⟨Am,VL.le (vl rfl) (AY _)⟩,⟨⟨Am,VL.le (vl rfl) (AY _)⟩,⟨⟨Am,VL.le (vl rfl) (AY _)⟩,⟨⟨Am,VL.le (vl rfl) (AY _)⟩,trivial⟩⟩⟩⟩⟩⟩⟩⟩ AB) ?_))
 refine ac ?_
 refine ac ?_
 refine Tr.block (Tr.BH [(0,_),(1,_),(2,_),(3,_),(4,_),(11,_)] (kk6 rfl) (fun m:Nat=>[(12,int ((m:Nat):Int))]) (fun m:Nat=>m≤(Xs).length) (fun m:Nat=>(Xs).length-m) 0 (Nat.zero_le _) ⟨ke rfl,trivial⟩ ?_)
 rintro m NC
 refine ac ?_
 refine co rfl (CB rfl underlying389 (Kf rfl)) ?_
 refine ac ?_
 refine Tr.cn rfl ?_ ?_<;>intro h3 q3
 have EZ:m<(Xs).length:=AH h3
 obtain ⟨x,Ee⟩:=at_ EZ
 have hm8:m<8:=EZ
 refine ac ?_
 refine ac ?_
 refine Tr.block (Tr.BH [(0,_),(1,_),(2,_),(3,_),(4,_),(11,_),(12,_)] (kk7 rfl) (fun k:Nat=>[(13,int ((k:Nat):Int))]) (fun k:Nat=>k≤(l).length) (fun k:Nat=>(l).length-k) 0 (Nat.zero_le _) ⟨ke rfl,trivial⟩ ?_)
 rintro k BU
 refine ac ?_
 refine Tr.cn rfl ?_ ?_<;>intro h4 q4
 have Af:k<(l).length:=AH h4
 obtain ⟨c,Ah⟩:=at_ Af
 refine ac ?_
 refine ac ?_
 refine co rfl (AD rfl underlying389 xA (Kf rfl) (vl rfl) AA (AX Ee)) ?_
 refine ac ?_
 refine co rfl (AR rfl (iQ (e:=x) AA) ⟨ke rfl,ke rfl,ke rfl,ke rfl,ke rfl,ke rfl,ke rfl,trivial⟩) ?_
 refine ac ?_
 refine kZ 0 1 2 3 4 11 12 13 43 rfl (Tr.ex 43 rfl fun AHU=> ?_)
 refine Tr.cn rfl ?_ ?_<;>intro h5 q5
 refine ac ?_
 refine co rfl (AD rfl underlying389 xA (Kf rfl) (vl rfl) AA (AX Ee)) ?_
 refine ac ?_
 refine OZ 10 rfl ?_
 refine ac ?_
 · exact C6
 refine ac ?_
 refine ac ?_
 exact Fin.AL (k+1) ⟨Af,by omega⟩ ⟨⟨_,rfl,AG k⟩,ke rfl,ke rfl,ke rfl,ke rfl,ke rfl,ke rfl,ke rfl,trivial⟩
 have BK:k=(l).length:=by have:=AJ h4;omega
 refine ac ?_
 refine ac ?_
 exact Fin.AL (m+1) ⟨EZ,by omega⟩ ⟨⟨_,rfl,AG m⟩,ke rfl,ke rfl,ke rfl,ke rfl,ke rfl,ke rfl,trivial⟩
 have KI:m=(Xs).length:=by have:=AJ h3;omega
 refine ac ?_
 refine ac ?_
 refine ac ?_
 · exact C6
def WU (s:Su) (x:Jb):Bool:=decide (s.s1=0)||decide (x.CH=s.s1)
def SJ (ids:List Jb) (code:Int):Int:=if Sl code then idx (WU (Qd code)) ids else -1
def Le (sv:CA) (offer:List Int) (v code:Int):Bool:=Sl code&&(offer.any fun x=>code==x)&&(sv.A8.any fun x=>code==x)&&decide ((Qd code).lo≤v)&&decide (v≤(Qd code).hi)&&decide (0≤SJ sv.ids code)
theorem IB {e:CA} {code:Int} (hl:e.ids.length≤1000000):BG prog 319 [agg (Bf e),int code] (Dz [int (SJ e.ids code),bool (decide (0≤SJ e.ids code))]):=by
 refine fo func319 rfl ⟨rfl,rfl⟩ fun M0 w0=> ?_
 refine ac ?_
 refine ao ?_
 refine tp rfl (Cq (MO (code:=code)) rfl rfl) ?_
 refine ao ?_
 refine Tl rfl rfl rfl rfl Ss IY (fun b1=> ?_)
 refine sf 0 6 ⟨rfl,rfl,rfl⟩ rfl rfl rfl rfl ?_
 refine ao ?_
 refine ac ?_
 refine wk [15,6,2] rfl ?_
 refine Tr.cn rfl ?_ ?_<;>intro h1 q1
 have hK:SJ e.ids code= -1:=by unfold SJ;exact if_neg (fun h_=>by rw [if_pos h_] at h1;exact absurd h1 AB)
 refine ac ?_
 refine Tr.ret (Fin.AE (Fin.Ct rfl (Bg.Dc _ _) rfl ?_ rfl ?_))
 · refine int_eq ?_;exact hK.symm
 · refine bool_eq ?_;rw [hK];rfl
 have hs:Sl code=true:=by cases h_:Sl code with|true=>rfl|false=>exact absurd h1 Md
 have hK:SJ e.ids code=idx (WU (Qd code)) e.ids:=by unfold SJ;exact if_pos hs
 refine a2 ?_
 refine Tr.block (Tr.BH _ (kk [6,2] rfl) (fun k:Nat=>[(8,int ((k:Nat):Int))]) (fun k:Nat=>k≤(e.ids).length∧(∀j y,j<k→e.ids[j]? =some y→WU (Qd code) y=false)) (fun k:Nat=>(e.ids).length-k) 0 (⟨Nat.zero_le _,fun j y hj=>absurd hj AA⟩) kz ?_)
 rintro k ⟨BU,AZ⟩
 refine an ?_ ?_<;>intro h2 q2
 have Af:k<(e.ids).length:=AH h2
 obtain ⟨x,Ah⟩:=at_ Af
 refine ac ?_
 refine ag ?_ ?_<;>intro h3 q3
 refine ac ?_
 refine wk [39,8,6,2] rfl ?_
 refine ac ?_
 refine Tr.ret (Fin.AU (Fin.AE (Fin.AE (Fin.AU (Fin.AE (Fin.Ct rfl (Bg.Dc _ _) rfl ?_ rfl ?_))))))
 · exact bX
 · exact bE
 refine ac ?_
 refine cy h3 rfl (AD rfl underlying38 Ey vq vq AA (AX Ah)) ?_
 refine ac ?_
 refine wk [39,8,6,2] rfl ?_
 refine Tr.cn rfl ?_ ?_<;>intro h4 q4
 refine ac ?_
 refine Tr.ret (Fin.AU (Fin.AE (Fin.AE (Fin.AU (Fin.AE (Fin.Ct rfl (Bg.Dc _ _) rfl ?_ rfl ?_))))))
 · exact bX
 · exact bE
 refine a2 ?_
 exact Fin.AL (k+1) ⟨⟨Af,Dv (p:=WU (Qd code)) Ah qx AZ⟩,by omega⟩ ⟨⟨_,rfl,AG k⟩,kz⟩
 have BK:k=(e.ids).length:=by have:=AJ h2;omega
 subst BK
 refine a2 ?_
 refine Tr.ret (Fin.Ct rfl (Bg.Dc _ _) rfl ?_ rfl ?_)
 · refine int_eq ?_;rw [hK];exact Gc AZ
 · refine bool_eq ?_;rw [hK,←Gc AZ];rfl
theorem eZ {ids:List Jb} {code:Int} (h:0≤SJ ids code):∃x,ids[(SJ ids code).toNat]? =some x:=by
 unfold SJ at h ⊢
 split at h
 ·
  rename_i hs
  rw [if_pos hs]
  unfold idx at h ⊢
  cases hf:ids.findIdx? (WU (Qd code)) with
  |none=>rw [hf] at h;simp at h
  |some i=>
   obtain ⟨hi,_⟩:=List.findIdx?_eq_some_iff_getElem.1 hf
   exact ⟨ids[i],by simp [hi]⟩
 · omega
theorem pS {e:CA} {of:List Int} {v code:Int} (h:Le e of v code=true):0≤SJ e.ids code:=by
 unfold Le at h
 rw [Bool.and_eq_true,decide_eq_true_eq] at h
 exact h.2
theorem Lf {e:CA} {of:List Int} {v code:Int} (hl:e.ids.length≤1000000):BG prog 323 [agg (Bf e),ints of,int v,int code] (bool (Le e of v code)):=by
 refine fo func323 rfl ⟨rfl,rfl⟩ fun M0 w0=> ?_
 refine ac ?_
 refine ao ?_
 refine tp rfl (Cq (MO (code:=code)) rfl rfl) ?_
 refine ao ?_
 refine Tl rfl rfl rfl rfl Ss IY (fun b1=> ?_)
 refine sf 0 9 ⟨rfl,rfl,rfl⟩ rfl rfl rfl rfl ?_
 refine ao ?_
 refine ac ?_
 refine Ch.cs 20 rfl ?_ ?_<;>intro h1 q1
 refine ac ?_
 refine GU 3 4 44 rfl ?_
 refine ac ?_
 refine ac ?_
 · refine bool_eq ?_;unfold Le;simp_all
 refine ac ?_
 refine cy h1 rfl (CL (KH) rfl rfl rfl) ?_
 refine ac ?_
 refine Ch.cs 26 rfl ?_ ?_<;>intro h2 q2
 refine ac ?_
 refine GU 3 4 44 rfl ?_
 refine ac ?_
 refine ac ?_
 · refine bool_eq ?_;unfold Le;simp_all;intros;exfalso;exact q2 _ Bq rfl
 refine ac ?_
 refine cy h2 rfl (CL (KH) rfl rfl rfl) ?_
 refine ac ?_
 refine Ch.cs 33 rfl ?_ ?_<;>intro h3 q3
 refine ac ?_
 refine GU 3 4 44 rfl ?_
 refine ac ?_
 refine ac ?_
 · refine bool_eq ?_;unfold Le;simp_all;intros;exfalso;exact q3 _ Bq rfl
 refine ac ?_
 refine Ch.cs 39 rfl ?_ ?_<;>intro h4 q4
 refine ac ?_
 refine GU 3 4 44 rfl ?_
 refine ac ?_
 refine ac ?_
 · refine bool_eq ?_;unfold Le;simp_all;intros;omega
 refine ac ?_
 refine GU 3 4 44 rfl ?_
 refine Tr.cn rfl ?_ ?_<;>intro h5 q5
 refine ac ?_
 refine ac ?_
 · refine bool_eq ?_;unfold Le;simp_all;intros;omega
 refine ac ?_
 refine ac ?_
 refine co rfl (CL (IB (e:=e) (code:=code) hl) rfl rfl rfl) ?_
 refine ac ?_
 refine ac ?_
 refine ac ?_
 · refine bool_eq ?_;unfold Le;simp_all
theorem iS {c e:CA} {day most:Int} {su:List Int} (hc:c.small) (he:e.small):BG prog 317 [agg (Bf c),agg (Bf e),int day,int most,ints su] (Cp.ex fun z:Int×Int×Int=>fact True (Dz [agg [int z.1,int z.2.1],int z.2.2])):=by
 refine fo func317 rfl ⟨rfl,rfl⟩ fun M0 w0=>(Tr.Cm 4 rfl fun AG6=> ?_)
 obtain ⟨od,hod⟩:∃od,(if e.own=true then e.A8 else su)=od:=⟨_,rfl⟩
 have hsu:=he.A8
 have hol:od.length≤9223372036854775807:=by rw [←hod];split<;>omega
 refine Tr.seq (Tr.An (tp rfl (Bb rfl Cs) (tp rfl (Bb rfl Cs) ?_)))
 refine Tl rfl rfl rfl rfl Jm Fg (fun b1=> ?_)
 refine ap ?_
 refine ac ?_
 refine co rfl (Cq (FM hc) rfl rfl) ?_
 refine ag ?_ ?_<;>intro h1 q1
 refine ac ?_
 refine Tr.cond rfl (fun _=> ?_) (fun h=>nomatch h)
 refine Tr.seq (Tr.An (tp rfl (Ak (rows:=[]) rfl Te Fg trivial rfl) (TO.AK 0 rfl rfl rfl vq Cs rfl CI rfl rfl (tm rfl (TO.nil (Fin.go (wk [11,10] rfl (Tr.ret (Fin.AE (Fin.BT rfl (AM.cell 0 rfl rfl C2 CI rfl Lr) (AM.tmp rfl Lr) ?_))))))))))
 · exact Eg
 refine cy h1 rfl (AP rfl Ci CE vq rfl rfl) (cy h1 rfl (Cq (FM he) rfl rfl) ?_)
 refine an ?_ ?_<;>intro h2 q2
 refine ap ?_
 refine wk [11,10] rfl (Tr.ret (Fin.AE (Fin.BT rfl (AM.cell 0 rfl rfl C2 CI rfl Lr) (AM.tmp rfl Lr) ?_)))
 · exact Eg
 refine ac ?_
 refine ag ?_ ?_<;>intro h3 q3
 refine ac ?_
 refine wk [39,10,6,5,4,3,2] rfl (Tr.cond rfl (fun _=> ?_) (fun h=>nomatch h))
 refine Tr.seq (Tr.An (tp rfl (Ak (rows:=[]) rfl Te Fg trivial rfl) (TO.AK 0 rfl rfl rfl vq Cs rfl CI rfl rfl (tm rfl (TO.nil (Fin.go (Tr.ret (Fin.AE (Fin.BT rfl (AM.cell 0 rfl rfl C2 CI rfl Lr) (AM.tmp rfl Lr) ?_)))))))))
 · exact Eg
 refine ag ?_ ?_<;>intro h4 q4
 refine ac ?_
 refine wk [39,10,6,5,4,3,2] rfl (Tr.cond rfl (fun _=> ?_) (fun h=>nomatch h))
 refine Tr.seq (Tr.An (tp rfl (Ak (rows:=[]) rfl Te Fg trivial rfl) (TO.AK 0 rfl rfl rfl vq Cs rfl CI rfl rfl (tm rfl (TO.nil (Fin.go (Tr.ret (Fin.AE (Fin.BT rfl (AM.cell 0 rfl rfl C2 CI rfl Lr) (AM.tmp rfl Lr) ?_)))))))))
 · exact Eg
 refine ag ?_ ?_<;>intro h5 q5
 refine ac ?_
 refine wk [39,10,6,5,4,3,2] rfl (Tr.cond rfl (fun _=> ?_) (fun h=>nomatch h))
 refine Tr.seq (Tr.An (tp rfl (Ak (rows:=[]) rfl Te Fg trivial rfl) (TO.AK 0 rfl rfl rfl vq Cs rfl CI rfl rfl (tm rfl (TO.nil (Fin.go (Tr.ret (Fin.AE (Fin.BT rfl (AM.cell 0 rfl rfl C2 CI rfl Lr) (AM.tmp rfl Lr) ?_)))))))))
 · exact Eg
 refine ac ?_
 refine wk [39,10,6,5,4,3,2] rfl ?_
 refine Tr.cn rfl ?_ ?_<;>intro h6 q6
 refine ap ?_
 refine Tr.ret (Fin.AE (Fin.BT rfl (AM.cell 0 rfl rfl C2 CI rfl Lr) (AM.tmp rfl Lr) ?_))
 · exact Eg
 refine a2 ?_
 refine co rfl (Y2 rfl vq vq) ?_
 refine ac ?_
 refine ag ?_ ?_<;>intro h7 q7
 refine ac ?_
 refine wk [54,12,10,6,5,4,2] rfl (Tr.cond rfl (fun _=> ?_) (fun h=>nomatch h))
 refine Tr.seq (Tr.An (tp rfl (Ak (rows:=[]) rfl Te Fg trivial rfl) (TO.AK 0 rfl rfl rfl vq Cs rfl CI rfl rfl (tm rfl (TO.nil (Fin.go (Tr.ret (Fin.AE (Fin.BT rfl (AM.cell 0 rfl rfl C2 CI rfl Lr) (AM.tmp rfl Lr) ?_)))))))))
 · exact Eg
 refine ac ?_
 refine wk [54,12,10,6,5,4,2] rfl ?_
 refine Tr.cn rfl ?_ ?_<;>intro h8 q8
 refine ap ?_
 refine Tr.ret (Fin.AE (Fin.BT rfl (AM.cell 0 rfl rfl C2 CI rfl Lr) (AM.tmp rfl Lr) ?_))
 · exact Eg
 refine a2 ?_
 refine wk [13,12,10,6,5,4,2] rfl (Tr.U5 [2,4,5,6,10,12] [(13,ints od)] (True) ?_ (fun h9=> ?_))
 refine an ?_ ?_<;>intro h10 P7
 refine ac ?_
 exact Fin.AL () trivial ⟨⟨_,rfl,Pr.le_of_eq (by rw [←hod];simp_all)⟩,kz⟩
 refine Tr.skip ?_
 exact Fin.AL () trivial ⟨⟨_,rfl,Pr.le_of_eq (by rw [←hod];simp_all)⟩,kz⟩
 refine ac ?_
 refine Tr.block (Tr.BH _ (kk [13,12,10,6,5,4,2] rfl) (fun k:Nat=>[(14,int ((k:Nat):Int))]) (fun k:Nat=>k≤(od).length) (fun k:Nat=>(od).length-k) 0 (Nat.zero_le _) kz ?_)
 rintro k BU
 refine an ?_ ?_<;>intro h11 Sx
 have Af:k<(od).length:=AH h11
 obtain ⟨x,Ah⟩:=at_ Af
 refine a2 ?_
 refine co rfl (AD rfl underlying22 Bt vq vq AA (AX Ah)) (co rfl (Fw rfl C8 rfl) ?_)
 refine co rfl (ZS (Lf (e:=e) he.Yk) rfl rfl rfl rfl rfl) ?_
 refine ac ?_
 refine wk [75,14,13,12,10,6,5,4,2] rfl ?_
 refine Tr.cn rfl ?_ ?_<;>intro h12 WT
 refine a2 ?_
 exact Fin.AL (k+1) ⟨Af,by omega⟩ ⟨⟨_,rfl,AG k⟩,kz⟩
 have hp:Le e su (min most e.most) x=true:=by simpa using h12
 have hp0:=pS hp
 obtain ⟨y,hy⟩:=eZ hp0
 refine a2 ?_
 refine co rfl (AD rfl underlying22 Bt vq vq AA (AX Ah)) (co rfl (Fw rfl C8 rfl) ?_)
 refine co rfl (CL (IB (e:=e) he.Yk) rfl rfl rfl) ?_
 refine ac ?_
 refine wk [15,14,13,12,10,6,5,2] rfl ?_
 refine ac ?_
 refine co rfl (AD rfl underlying38 Ey vq vq AA (Bh hy)) ?_
 refine ac ?_
 refine co rfl (kc5 (iR) rfl rfl rfl rfl rfl rfl) (co rfl (y_ rfl (VL.le vq aL) (VL.le vq (DG _ _))) ?_)
 refine ac ?_
 refine wk [99,14,13,12,10] rfl (Tr.ex 99 rfl fun AHV=> ?_)
 refine Tr.cn rfl ?_ ?_<;>intro NU dI
 refine ap ?_
 refine Tr.ret (Fin.AE (Fin.AU (Fin.AE (Fin.AE (Fin.AU (Fin.AE (Fin.BT rfl (AM.cell 0 rfl rfl C2 CI rfl Lr) (AM.tmp rfl Lr) ?_)))))))
 · exact Eg
 refine ac ?_
 refine ap ?_
 refine tp rfl (AD rfl underlying22 Bt vq vq AA (AX Ah)) ?_
 refine ap ?_
 refine Tr.ret (Fin.AU (Fin.AE (Fin.AE (Fin.AU (Fin.AE (Fin.BT rfl (AM.cell 0 rfl rfl C2 CI rfl Lr) (AM.tmp rfl Lr) ?_))))))
 · exact Eg
 have BK:k=(od).length:=by have:=AJ h11;omega
 subst BK
 refine ac ?_
 refine ap ?_
 refine wk [11,10] rfl (Tr.ret (Fin.BT rfl (AM.cell 0 rfl rfl C2 CI rfl Lr) (AM.tmp rfl Lr) ?_))
 · exact Eg
theorem Xt {c e:CA} {day:Int} (hc:c.small) (he:e.small):BG prog 305 [agg (Bf c),agg (Bf e),int day] (Cp.ex fun z:Int×Int×Int=>fact True (Dz [agg [int z.1,int z.2.1],int z.2.2])):=by
 refine fo func305 rfl ⟨rfl,rfl⟩ fun M0 w0=>(Tr.seq (Tr.An (tp rfl (Bb rfl Cs) (tp rfl (Bb rfl Cs) ?_))))
 refine Tl rfl rfl rfl rfl Jm Fg (fun b1=> ?_)
 refine ap ?_
 refine ap ?_
 refine tp rfl (Y2 rfl vq vq) (tp rfl (Jz rfl vq vq) ?_)
 refine ap ?_
 refine tp rfl (kc5 (iS hc he) rfl rfl rfl rfl rfl rfl) ?_
 refine TO.ex 17 rfl (fun z1=>TO.fact 17 rfl fun Ef=> ?_)
 refine ap ?_
 refine wk [7,6] rfl (Tr.ret (Fin.BT rfl (AM.cell 0 rfl rfl C2 CI rfl Lr) (AM.tmp rfl Lr) ?_))
 · exact Eg
abbrev uses (l:List (Int×Int)):Pr:=slice 2 (l.map fun x=>[int x.1,int x.2])
theorem OE {e:CA} {a b:Int} (he:e.small):BG prog 312 [agg (Bf e),agg [int a,int b]] (Cp.ex fun z:List (Int×Int)×Int=>fact (z.1.length≤1000) (Dz [uses z.1,int z.2])):=by
 refine fo func312 rfl ⟨rfl,rfl⟩ fun M0 w0=> ?_
 refine a2 ?_
 refine co rfl (Cq (FM he) rfl rfl) ?_
 refine an ?_ ?_<;>intro h1 q1
 refine ac ?_
 refine Tr.ret (Fin.AE (Fin.BT rfl (AM.tmp rfl Lr) (AM.tmp rfl Lr) ?_))
 · exact Qf
 refine ac ?_
 refine ao ?_
 refine tp rfl (Cq (MO (code:=b)) rfl rfl) ?_
 refine ao ?_
 refine Tl rfl rfl rfl rfl Ss IY (fun b1=> ?_)
 refine TO.AK 0 rfl rfl rfl vq Cs rfl F2 rfl rfl ?_
 refine ao ?_
 refine wk [7,6,3,2] rfl ?_
 refine an ?_ ?_<;>intro h2 q2
 refine ac ?_
 refine Tr.drop 0 (Tr.ret (Fin.AE (Fin.BT rfl (AM.tmp rfl Lr) (AM.tmp rfl Lr) ?_)))
 · exact Qf
 refine a2 ?_
 refine co rfl (CL (IB (e:=e) he.Yk) rfl rfl rfl) ?_
 refine ac ?_
 refine wk [9,8,6,2] rfl ?_
 refine an ?_ ?_<;>intro h3 q3
 refine ac ?_
 refine Tr.drop 0 (Tr.ret (Fin.AE (Fin.BT rfl (AM.tmp rfl Lr) (AM.tmp rfl Lr) ?_)))
 · exact Qf
 obtain ⟨y,hy⟩:=eZ (ids:=e.ids) (code:=b) Hf
 refine ac ?_
 refine ao ?_
 refine tp rfl (AD rfl underlying38 Ey vq vq AA (Bh hy)) ?_
 refine ao ?_
 refine Tl rfl rfl rfl rfl Ks EX (fun b2=> ?_)
 refine sf 0 10 ⟨rfl,rfl,rfl⟩ rfl rfl rfl rfl ?_
 refine ao ?_
 refine wk [10,6] rfl ?_
 refine an ?_ ?_<;>intro h4 q4
 refine ao ?_
 refine TO.DP 0 rfl rfl (A0 rfl rfl vq My Bt rfl Ao rfl) ?_
 refine ao ?_
 refine ac ?_
 refine Tr.drop 0 (wk [5,4] rfl (Tr.ret (Fin.BT rfl (AM.tmp rfl Lr) (AM.tmp rfl Lr) ?_)))
 · exact bK
 refine a2 ?_
 refine Tr.drop 0 (wk [5,4] rfl (Tr.ret (Fin.BT rfl (AM.tmp rfl Lr) (AM.tmp rfl Lr) ?_)))
 · exact bK
theorem pT {e:CA} (h:Gd e=true):1≤e.least∧e.least≤4∧e.most≤4:=by
 unfold Gd at h
 simp only [Bool.and_eq_true,decide_eq_true_eq] at h
 omega
theorem Xu {c e:CA} (hc:c.small) (he:e.small):BG prog 314 [agg (Bf c),agg (Bf e)] (Cp.ex fun z:List (Int×Int)=>fact (z.length≤1000) (uses z)):=by
 refine fo func314 rfl ⟨rfl,rfl⟩ fun M0 w0=> ?_
 refine a2 ?_
 refine co rfl (Cq (FM hc) rfl rfl) ?_
 refine ag ?_ ?_<;>intro h1 q1
 refine a3 ?_
 · exact Ax [] (A_ AV (AQ 2))
 refine cy h1 rfl (AP rfl Ci CE vq rfl rfl) (cy h1 rfl (Cq (FM he) rfl rfl) ?_)
 refine an ?_ ?_<;>intro h2 q2
 refine a2 ?_
 · exact Ax [] (A_ AV (AQ 2))
 obtain ⟨hc1,hc2,hc3⟩:=pT (e:=c) CN
 obtain ⟨he1,he2,he3⟩:=pT (e:=e) CN
 refine a3 ?_
 refine co rfl (Jz rfl vq vq) ?_
 refine ac ?_
 refine wk [6,5,3,2] rfl (Tr.block (Tr.B5 268 2 ?_))
 refine Tr.DE _ (kk [3,2] rfl) (fun (v:Int) (o:List (Int×Int)) u=>[(6,int v),(5,Ad u (uses o))]) (fun (v:Int) (o:List (Int×Int)) u=>Hp M0 w0 FO ([Aw 268 2 u])) (fun (v:Int) (o:List (Int×Int))=>1≤v∧v≤5∧(o.length:Int)≤(v-1)*16) (fun (v:Int) (o:List (Int×Int))=>(5-v).toNat) (max c.least e.least) ([]) (.slice none 0 0) (⟨by omega,by omega,by simp;omega⟩) ⟨kq,⟨_,rfl,Bi rfl⟩,trivial⟩ (fun _ _ h=>h) ?_
 rintro v o u ⟨jj,Sg,hol⟩
 refine ac ?_
 refine co rfl (Y2 rfl vq vq) ?_
 refine an ?_ ?_<;>intro h3 q3
 have hvm:=h3
 refine a2 ?_
 refine Tr.block (Tr.DE _ (kk [6,3,2] rfl) (fun (k:Int) (q:List (Int×Int)) u3=>[(7,int k),(5,Ad u3 (uses q))]) (fun (k:Int) (q:List (Int×Int)) u3=>Hp M0 w0 FO ([Aw 268 2 u3])) (fun (k:Int) (q:List (Int×Int))=>1≤k∧k≤17∧(q.length:Int)≤(v-1)*16+k-1) (fun (k:Int) (q:List (Int×Int))=>(17-k).toNat) (1) (o) u (⟨by omega,by omega,by omega⟩) ⟨kq,⟨_,rfl,BA rfl⟩,trivial⟩ (fun _ _ h=>h) ?_)
 rintro k q u3 ⟨hk1,hk2,hql⟩
 refine an ?_ ?_<;>intro h4 q4
 have hkm:=h4
 refine a2 ?_
 refine co rfl (ZS (Lf (e:=e) he.Yk) rfl rfl rfl rfl rfl) ?_
 refine an ?_ ?_<;>intro h5 q5
 refine ap ?_
 refine TO.DT 0 rfl rfl AB (B7 rfl rfl rfl rfl underlying331 CI cZ Jm G3 F4 (Ay BL Jo)) (fun v1=> ?_)
 refine ap ?_
 refine wk [7,6,5,3,2] rfl ?_
 refine ac ?_
 exact Fin.Bl (k+1) (q++[(v,k)]) v1 (⟨⟨by omega,by omega,by simp;omega⟩,by omega⟩) ⟨kq,⟨_,rfl,BA DR⟩,kz⟩ (fun _ _ h=>h)
 refine a2 ?_
 exact Fin.Bl (k+1) (q) u3 (⟨⟨by omega,by omega,by omega⟩,by omega⟩) ⟨kq,⟨_,rfl,BA rfl⟩,kz⟩ (fun _ _ h=>h)
 have hkm:=h4
 refine a2 ?_
 exact Fin.Bl (v+1) (q) u3 (⟨⟨by omega,by omega,by omega⟩,by omega⟩) ⟨kq,⟨_,rfl,BA AV⟩,kz⟩ (fun _ _ h=>h)
 have hvm:=h3
 refine a3 ?_
 · exact PO
end Go.Proofs.YtmocaapoeefgkaaGreatDoor
