/-
  Part 3 of the texts that prove this claim, merged.
-/
import Derived.Lib.Bytealg
import Derived.Test.YtgilhkjlfongoaaGreatRows
import Derived.Test.YtgilhkjlfongoaaGreatIdRenP2
set_option linter.all false
set_option maxRecDepth 40000
set_option maxHeartbeats 16000000
namespace Cp
open Go Go.RowKit Go.Great
section
variable {P:Program} {L:Lg P} {n:Fm} {fz:Nat} {E:Env} {M0:Av} {w0:World} {S:Nat→Prop} {o:Oper}
def UP (new:Bool) (b:Nat) (T:TypeId) (off:Nat) (p:Pr) (ps:Value→List Pr) (u:Value):Al:=match u with
 | .tuple t=>AB new b T ((ps (t.getD 0 undef)).take off++[Ap (t.getD 1 undef) p]++(ps (t.getD 0 undef)).drop (off+1))
 |_=>BP
theorem Qb {t:TypeId} {x:Operand} {q0 q:Tmp} {j:Nat} {new:Bool} {b off:Nat} {T:TypeId} {ps:Value→List Pr} {p:Pr} [One p] (hg:o.guard=none) (hd:o.dst=none) (ho:o.op= .store t x (.tmp q)) (hx:VL E x (ptr b off)) (hy:E.lookup q=some p)
  (hz:Ar P t=some 1) (hl:∀v,off+1≤(ps v).length):DC P M0 w0 S n j ⟨.one q0,fun v=>AB new b T (ps v)⟩ ⟨.two q0 q,UP new b T off p ps⟩ o E any:=by
 refine ⟨hg,fun M w a rs hsz he hI hj=> ?_⟩
 have hj':rs[j]? =some (SR.at_ a (SR.c (AB new b T (ps (a.tmps.getD q0 undef))))):=hj
 obtain ⟨h1,h2⟩:=HR (P:=P) (M0:=M0) (w0:=w0) (S:=S) (n:=n) (j:=j) (new:=new) (T:=T) (ps:=ps (a.tmps.getD q0 undef)) (b:=b) (off:=off) hg hd ho hx hy hz (hl _)
 have h3:=h2 M w a rs hsz he hI hj'
 revert h3
 generalize (execOp a.eval o).run P w=r
 have key:∀v,SR.at_ (a.put o.dst v) ⟨.one q,fun v=>AB new b T ((ps (a.tmps.getD q0 undef)).take off++[Ap v p]++(ps (a.tmps.getD q0 undef)).drop (off+1))⟩=SR.at_ (a.put o.dst v) ⟨.two q0 q,UP new b T off p ps⟩:=fun v=>by rw [hd];rfl
 intro h3
 cases r with
 |halt x w'=>exact h3
 |ok x w'=>
  cases x
  case value v=>obtain ⟨M',g1,g2,g3⟩:=h3;exact ⟨M',g1,g2,by rw [←key];exact g3⟩
  case skip=>obtain ⟨M',g1,g2,g3⟩:=h3;exact ⟨M',g1,g2,by rw [←key];exact g3⟩
  case enter f args=>
   refine Calls.mono h3 ?_
   rintro e w'' ⟨v,M',g0,g1,g2,g3⟩
   exact ⟨v,M',g0,g1,g2,by rw [←key];exact g3⟩
  all_goals exact h3
theorem BT.Zb {Q:Exit→Act→World→Prop} {rs:List SR} (j1 j2 i s t:Nat) {f g:Value→Al} {new:Bool} {b off:Nat} {T:TypeId} {ps:Value→List Pr} {p q r:Pr} (h1:rs[j1]? =some ⟨.one s,f⟩) (h2:rs[j2]? =some ⟨.one t,g⟩) (h3:rs[i]? =some ⟨.two s t,UP new b T off r ps⟩) (h12:j1≠j2) (Pg:j1≠i) (h23:j2≠i) (hst:s≠t) (hs:E.lookup s=some p) (ht:E.lookup t=some q)
  (k:∀v u,BT n M0 w0 S ((t,Ap u q)::(s,Ap v p)::E) (((rs.set j1 (SR.c (f v))).set j2 (SR.c (g u))).set i (SR.c (AB new b T ((ps v).take off++[Ap u r]++(ps v).drop (off+1))))) Q):BT n M0 w0 S E rs Q:=by
 rintro a w ⟨M,g1,g2,g3,g4⟩
 refine k (a.tmps.getD s undef) (a.tmps.getD t undef) a w ⟨M,g1,g2,?_,?_⟩
 ·
  intro c z hz
  simp only [List.lookup] at hz
  by_cases hct:c=t
  · subst hct;simp only [beq_self_eq_true,Option.some.injEq] at hz;subst hz;exact ⟨rfl,g3 c q ht⟩
  ·
   rw [show (c==t)=false by simpa using hct] at hz
   by_cases hcs:c=s
   · subst hcs;simp only [beq_self_eq_true,Option.some.injEq] at hz;subst hz;exact ⟨rfl,g3 c p hs⟩
   · rw [show (c==s)=false by simpa using hcs] at hz;exact g3 c z hz
 ·
  have e1:=Lp h1 a
  have e2:=Lp (rs:=rs.set j1 (SR.c (f (a.tmps.getD s undef)))) (j:=j2) (s:=t) (f:=g) (by rw [List.getElem?_set,if_neg h12];exact h2) a
  have h3':((rs.set j1 (SR.c (f (a.tmps.getD s undef)))).set j2 (SR.c (g (a.tmps.getD t undef))))[i]? =some ⟨.two s t,UP new b T off r ps⟩:=by
   rw [List.getElem?_set,if_neg h23,List.getElem?_set,if_neg Pg];exact h3
  rw [List.map_set,e2,e1]
  have e3:(rs.map (·.at_ a)).set i (AB new b T ((ps (a.tmps.getD s undef)).take off++[Ap (a.tmps.getD t undef) r]++(ps (a.tmps.getD s undef)).drop (off+1)))=rs.map (·.at_ a):=by
   apply List.ext_getElem?
   intro m
   rw [List.getElem?_set]
   by_cases dF:i=m
   ·
    subst dF
    rw [if_pos rfl]
    split
    · rw [List.getElem?_map,h3];rfl
    ·
     rename_i hge
     rw [List.getElem?_eq_none (by omega)]
   · rw [if_neg dF]
  exact (congrArg (fun l=>Ao M0 w0 S l M w) e3).mpr g4
end
section
variable {P:Program} {L:Lg P} {n:Fm} {fz:Nat} {E:Env} {M0:Av} {w0:World} {S:Nat→Prop} {rs:List Al} {ε:Type} {res:ε→List Al}
theorem Ao.Jw {Φ:ε→Av→World→Prop} {w:World} (hst:∀x M M',Ext M w M' w→Φ x M w→Φ x M' w) (h1:∀x rs M,Ao M0 w0 S (res x++rs) M w→∃M',Ext M w M' w∧Ao M0 w0 S rs M' w∧Φ x M' w):
  ∀(X:List ε) (BQ:List Al) (M:Av),Ao M0 w0 S (BQ++Fe res X) M w→∃M',Ext M w M' w∧Ao M0 w0 S BQ M' w∧∀x∈X,Φ x M' w
 |[],BQ,M,h=>⟨M,Ext.refl _ _,by simpa [Fe] using h,fun x hx=>by simp at hx⟩
 |x::X,BQ,M,h=>by
  have hp:(BQ++Fe res (x::X)).Perm (res x++(BQ++Fe res X)):=by
   show (BQ++(res x++Fe res X)).Perm _
   rw [←List.append_assoc,←List.append_assoc]
   exact List.perm_append_comm.append_right _
  obtain ⟨M1,g1,g2,g3⟩:=h1 x _ M (Ao.perm hp h)
  obtain ⟨M2,k1,k2,k3⟩:=Ao.Jw hst h1 X BQ M1 g2
  refine ⟨M2,g1.trans k1,k2,fun y hy=> ?_⟩
  rcases List.mem_cons.1 hy with rfl|hy
  · exact hst _ _ _ k1 g3
  · exact k3 y hy
theorem St.L4 {a:Act} {w:World} (BQ:List Al) {X:List ε} (x:ε) (K5:rs=BQ++Fe res X) (h0:∀r∈res x,r.EZ=none∧∀M w,r.h M w) (h:St n E (Hp M0 w0 S rs) a w):St n E (Hp M0 w0 S (BQ++Fe res (X++[x]))) a w:=by
 subst K5
 obtain ⟨M,h1,h2,h3,h4⟩:=h
 refine ⟨M,h1,h2,h3,?_⟩
 have key:∀l:List Al,(∀r∈l,r.EZ=none∧∀M w,r.h M w)→∀rs,Ao M0 w0 S rs M w→Ao M0 w0 S (l++rs) M w:=by
  intro l
  induction l with
  |nil=>intro _ rs h;exact h
  |cons r l ih=>intro hl rs h;exact Ao.Il (ih (fun r hr=>hl r (List.mem_cons_of_mem _ hr)) rs h) (hl r (List.mem_cons_self ..)).1 ((hl r (List.mem_cons_self ..)).2 _ _)
 have:=key (res x) h0 _ h4
 refine Ao.perm ?_ this
 rw [R3,←List.append_assoc BQ]
 exact List.perm_append_comm
theorem Fin.L4 {Q:Exit→Act→World→Prop} {e:Exit} (BQ:List Al) {X:List ε} (x:ε) (K5:rs=BQ++Fe res X) (h0:∀r∈res x,r.EZ=none∧∀M w,r.h M w) (k:Fin n E (Hp M0 w0 S (BQ++Fe res (X++[x]))) Q e):Fin n E (Hp M0 w0 S rs) Q e:=
 Fin.conv (fun _ _ hs=>hs.L4 BQ x K5 h0) k
theorem Tr.XE {Q:Exit→Act→World→Prop} {c:Code} (j:Nat) {new:Bool} {b:Nat} {T:TypeId} {ps:List Pr} (qs:List Pr) (hi:rs[j]? =some (AB new b T ps)) (h:ps=qs) (k:Tr L n E (Hp M0 w0 S (rs.set j (AB new b T qs))) c Q):Tr L n E (Hp M0 w0 S rs) c Q:=by
 subst h;exact Tr.YQ j ps hi (Kc.rfl' ps) k
theorem Fin.XE {Q:Exit→Act→World→Prop} {e:Exit} (j:Nat) {new:Bool} {b:Nat} {T:TypeId} {ps:List Pr} (qs:List Pr) (hi:rs[j]? =some (AB new b T ps)) (h:ps=qs) (k:Fin n E (Hp M0 w0 S (rs.set j (AB new b T qs))) Q e):Fin n E (Hp M0 w0 S rs) Q e:=by
 subst h;exact Fin.YQ j ps hi (Kc.rfl' ps) k
theorem R4 {e:TypeId} {sz:Nat} {rows Ab:List (List Pr)} {v:Value} {M:Av} {w:World} (hl:rows.length=Ab.length) (hf:rows.flatten.length=Ab.flatten.length) (h:∀vs,HL M w rows.flatten vs→HL M w Ab.flatten vs) (ho:(Ak e sz rows v).h M w):(Ak e sz Ab v).h M w:=by
 rcases ho with ⟨h1,h2⟩|⟨b,cap,sp,h1,h2,h3,h4,h5,cs,h6,h7,h8⟩
 ·
  refine .inl ⟨?_,h2⟩
  subst h1
  exact List.length_eq_zero_iff.1 hl.symm
 ·
  refine .inr ⟨b,cap,sp,by rw [←hl];exact h1,by rw [←hl];exact h2,h3,by rw [←hl];exact h4,h5,cs,h6,?_,h8⟩
  have e1:=h7.take rows.flatten.length
  have e2:=h7.drop rows.flatten.length
  rw [List.take_left] at e1
  rw [List.drop_left] at e2
  have:=(h _ e1).app e2
  rwa [List.take_append_drop] at this
theorem Tr.Jw {Q:Exit→Act→World→Prop} {c:Code} {X:List ε} {Φ:ε→Av→World→Prop} {e:TypeId} {sz d:Nat} {f g:ε→List Pr} {v:Value} {p:Pr} (BQ:List Al) (K5:rs=Ak e sz (X.map f) v::BQ++Fe res X) (hd:E.lookup d=some (Ap v p)) (hf:∀x,(f x).length=sz) (hg:∀x,(g x).length=sz)
  (hst:∀x M M' w,Ext M w M' w→Φ x M w→Φ x M' w) (h1:∀x rs M w,Ao M0 w0 S (res x++rs) M w→∃M',Ext M w M' w∧Ao M0 w0 S rs M' w∧Φ x M' w) (h2:∀x M w vs,Φ x M w→HL M w (f x) vs→HL M w (g x) vs)
  (k:Tr L n ((d,Ap v (slice sz (X.map g)))::E) (Hp M0 w0 S (BR e sz v::BQ)) c Q):Tr L n E (Hp M0 w0 S rs) c Q:=by
 subst K5
 intro a w hs
 obtain ⟨M,k1,k2,k3,k4⟩:=hs
 have k4:Ao M0 w0 S ((Ak e sz (X.map f) v::BQ)++Fe res X) M w:=k4
 obtain ⟨M1,g1,g2,g3⟩:=Ao.Jw (Φ:=Φ) (fun x M M'=>hst x M M' w) (fun x rs M=>h1 x rs M w) X _ M k4
 have hlen:∀(f:ε→List Pr),(∀x,(f x).length=sz)→(X.map f).flatten.length=X.length*sz:=fun f hf=>by
  rw [Bf (BU hf),List.length_map]
 have hown:(Ak e sz (X.map g) v).h M1 w:=by
  refine R4 (by simp) (by rw [hlen f hf,hlen g hg]) (fun vs hvs=> ?_) (g2.hold _ (List.mem_cons_self ..)).1
  have key:∀(Y:List ε) (vs:List Value),(∀x∈Y,Φ x M1 w)→HL M1 w (Y.map f).flatten vs→HL M1 w (Y.map g).flatten vs:=by
   intro Y
   induction Y with
   |nil=>intro vs _ h;exact h
   |cons y Y ih=>
    intro vs hY h
    rw [List.map_cons,List.flatten_cons] at h ⊢
    have e1:=h.take (f y).length
    have e2:=h.drop (f y).length
    rw [List.take_left] at e1
    rw [List.drop_left] at e2
    have:=(h2 y M1 w _ (hY y (List.mem_cons_self ..)) e1).app (ih _ (fun x hx=>hY x (List.mem_cons_of_mem _ hx)) e2)
    rwa [List.take_append_drop] at this
  exact key X vs g3 hvs
 have g4:=g2.B0 (i:=0) (r':=Ak e sz (X.map g) v) rfl rfl rfl hown
 obtain ⟨M2,j1,j2,j3⟩:=Ao.QW (j:=0) g4 rfl (BU hg)
 refine k a w ⟨M2,k1,k2,fun s q hq=> ?_,j2⟩
 have hE:Ext M w M2 w:=g1.trans j1
 simp only [List.lookup] at hq
 split at hq
 ·
  rename_i e1
  have:s=d:=by simpa using e1
  subst this
  simp only [Option.some.injEq] at hq
  subst hq
  have h9:=(k3 _ _ hd).1
  exact ⟨h9,by rw [h9];exact j3⟩
 · exact q.st _ _ _ _ _ hE (k3 s q hq)
end
section
variable {P:Program} {L:Lg P} {n:Fm} {fz:Nat} {E:Env} {M0:Av} {w0:World} {S:Nat→Prop} {o:Oper}
theorem R5 {I:Bq} {t e:TypeId} {x:Operand} {m:Nat} (ho:o.op= .call { callee:= .builtin .len,args:= #[x],argTypes:= #[t] }) (ht:P.underlying t=some (.slice e)) (hx:VL E x (lens m)):AW P I o E (int m):=
 AW.same fun M w a he _=>by
  obtain ⟨A,c,h1⟩:=hx.ev he (by simp [ho,Op.operands,Call.operands])
  exact ⟨.int .i64 m,by simp [execOp,ho,resolve,invoke,builtin,Builtin.len_,h1,run_underlying ht,goInt],rfl⟩
theorem OJ {κ:Type} [DecidableEq κ] {enc:κ→Value} {T kt et:TypeId} {x y:Operand} {b j:Nat} {es:List (κ×Int)} (k:κ) {q:Pr} (hT:OB P T kt et enc) (ho:o.op= .lookup T x y false) (hx:VL E x (is (.map (some b)))) (hy:VL E y q) (hk:∀M w v,q.h M w v→v=enc k):
  Gp P M0 w0 S j (SR.c (GM enc b es)) o E (int ((look es k).getD 0)):=by
 intro M w a rs he hI hj
 have h1:a.eval x=_:=hx.ev he (by simp [ho,Op.operands])
 have h2:a.eval y=enc k:=hk _ _ _ (hy.ev he (by simp [ho,Op.operands]))
 have hj':rs[j]? =some (GM enc b es):=hj
 obtain ⟨_,hh⟩:=(hI.hold _ (List.mem_of_getElem? hj')).1
 have hrun:(execOp a.eval o).run P w= .ok (.value (.int .i64 ((look es k).getD 0))) w:=by
  have hf:=Jj hT k w es
  have hg:=EJ (fun p:κ×Int=>decide (k=p.1)) es
  unfold look
  cases GQ:es.findIdx? fun p=>decide (k=p.1) with
  |none=>
   rw [GQ] at hf hg
   rw [←hg]
   simp only [Option.bind_none] at hf
   simp [execOp,ho,h1,h2,Instr.lookup,run_underlying hT.OC,MapKept.run_getObj_map hh,hT.QS,hf,hT.zero,Result.andThen]
  |some i=>
   rw [GQ] at hf hg
   rw [←hg]
   have CO:i<es.length:=by rw [List.findIdx?_eq_some_iff_getElem] at GQ;exact GQ.1
   simp only [Option.bind_some,List.getElem?_eq_getElem CO,Option.map_some] at hf ⊢
   simp [execOp,ho,h1,h2,Instr.lookup,run_underlying hT.OC,MapKept.run_getObj_map hh,hT.QS,hf,Result.andThen]
 rw [hrun]
 exact ⟨rfl,Below.refl _ _⟩
end
end Cp
namespace Cp
open Go Go.RowKit
section
variable {P:Program} {L:Lg P} {I:Bq} {o:Oper} {E:Env}
theorem Qc {c y:Operand} {b d:Bool} (ho:o.op= .pick c (.const (.bool true)) y) (hc:VL E c (bool b)) (hy:VL E y (bool d)):AW P I o E (bool (b||d)):=by
 cases b with
 |true=>exact HK ho hc rfl (vl rfl)
 |false=>exact HM ho hc rfl hy
theorem OK {c x:Operand} {b d:Bool} (ho:o.op= .pick c x (.const (.bool false))) (hc:VL E c (bool b)) (hx:VL E x (bool d)):AW P I o E (bool (b&&d)):=by
 cases b with
 |true=>exact HK ho hc rfl hx
 |false=>exact HM ho hc rfl (vl rfl)
end
section
variable {P:Program} {L:Lg P} {n:Fm} {fz:Nat} {E:Env} {M0:Av} {w0:World} {S:Nat→Prop} {rs:List Al} {o:Oper}
end
end Cp
namespace Cp
open Go Go.RowKit Go.Great
def Qd {α:Type} (P:Program) (f:FuncId) (args:List Pr) (pre:List Al) (C:α→Prop) (res:α→Pr) (post:α→List Al):Prop:=Entry P f∧∀M0 w0 S rs M w vs,Ao M0 w0 S (pre++rs) M w→HL M w args vs→
 Calls P f vs.toArray w fun e w'=>∃v M' x,e= .returned v∧C x∧(res x).h M' w' v∧Ext M w M' w'∧Ao M0 w0 S (post x++rs) M' w'
def R6 {α:Type} (M0:Av) (w0:World) (S:Nat→Prop) (rs:List Al) (M1:Av) (w1:World) (C:α→Prop) (res:α→Pr) (post:α→List Al) (e:Ending) (w':World):Prop:=∃v M' x,e= .returned v∧C x∧(res x).h M' w' v∧Ext M1 w1 M' w'∧Ao M0 w0 S (post x++rs) M' w'
section
variable {P:Program} {L:Lg P} {n:Fm} {fz:Nat} {E:Env} {M0:Av} {w0:World} {S:Nat→Prop} {rs:List Al} {α:Type} {pre:List Al} {C:α→Prop} {res:α→Pr} {post:α→List Al} {M1:Av} {w1:World} {g:Func} {o:Oper} {r:List Oper} {ops:Array Oper}
theorem Qd.of {f : FuncId} {c : Code} {ps : List Pr} (hf : P.funcs[f]? = some g) (hb : g.body = some c) (hname : (g.name == "runtime.NumGoroutine") = false) (hlen : ps.length ≤ g.ntmps)
  (h:∀M0 w0 S rs M1 w1,Tr (WY P) g.ntmps (Ie 0 ps) (Hp M0 w0 S (pre++Aa M1 w1::rs)) c (bodyPost P g (R6 M0 w0 S rs M1 w1 C res post))):Qd P f ps pre C res post:=by
 refine ⟨⟨g,hf,hname,by rw [hb];rfl⟩,fun M0 w0 S rs M w vs hI hv=> ?_⟩
 refine calls_of_wp hf hb (h M0 w0 S rs M w _ _ ⟨M,?_,rfl,F6 hv,?_⟩)
 ·
  have:=hv.length
  simp [this];omega
 · exact Ao.perm List.perm_middle.symm (Ao.Il hI (r:=Aa M w) rfl (Ext.refl _ _))
end
section
variable {P:Program} {L:Lg P} {n:Fm} {fz:Nat} {E:Env} {M0:Av} {w0:World} {S:Nat→Prop} {rs:List Al} {o:Oper}
def XF:Value→Option Nat
 | .slice (some a) _ (_+1)=>some a.block
 |_=>none
def Fu (e:TypeId) (sz:Nat) (rows:List (List Pr)) (v:Value):Al where
 EZ:=XF v
 new:=true
 h M w:=(rows=[]∧∃A,v= .slice A 0 0)∨(∃(b cap:Nat) (spare:List Value),v= .slice (some ⟨b,0,none⟩) rows.length (cap+1)∧rows.length≤cap+1∧cap+1≤maxLen∧spare.length=(cap+1-rows.length)*sz∧(AB true b e (rows.flatten++spare.map is)).h M w)
 st M w M' w' he hk h:=by
  rcases h with h|⟨b,cap,spare,rfl,h1,h2,h3,h4⟩
  · exact .inl h
  · exact .inr ⟨b,cap,spare,rfl,h1,h2,h3,(AB true b e _).st _ _ _ _ he hk h4⟩
theorem Fv {α:Type} {l:List α} {j:Nat} {x:α} (h:l[j]? =some x):j<l.length:=by
 rcases Nat.lt_or_ge j l.length with h'|h'
 · exact h'
 · rw [List.getElem?_eq_none h'] at h;cases h
theorem Ao.blank {M:Av} {w:World} {j:Nat} {r:Al} (h:Ao M0 w0 S rs M w) (hj:rs[j]? =some r):Ao M0 w0 S (rs.set j BP) M w:=
 Ao.perm (Gq (Fv hj)) ((Ao.perm (EG hj) h).Gr.Il (r:=BP) rfl trivial)
theorem OL (sz:Nat) (A:Option Addr) (M:Av) (w:World):(slice sz []).h M w (.slice A 0 0):=⟨A,0,rfl,Nat.le_refl _,Nat.zero_le _,fun _=>rfl,fun i row h=>by simp at h⟩
theorem Ao.Zc {M:Av} {w:World} {sz:Nat} {e:TypeId} {rows:List (List Pr)} {v:Value} {j:Nat} (h:Ao M0 w0 S rs M w) (hj:rs[j]? =some (Fu e sz rows v)) (hl:∀r∈rows,r.length=sz):
  ∃M',Ext M w M' w∧Ao M0 w0 S (rs.set j BP) M' w∧(slice sz rows).h M' w v:=by
 have hjl:=Fv hj
 rcases (h.hold _ (List.mem_of_getElem? hj)).1 with ⟨rfl,A,rfl⟩|⟨b,cap,spare,rfl,hnc,hcm,hsp,Rs⟩
 · exact ⟨M,Ext.refl _ _,h.blank hj,OL sz A M w⟩
 ·
  have hC:=h.B0 (r':=AB true b e (rows.flatten++spare.map is)) hj rfl rfl Rs
  obtain ⟨M',h1,h2,h3⟩:=Ao.bt hC (List.getElem?_set_self hjl) hl hnc hcm (by rw [List.length_map];exact hsp)
  have h4:=h2.blank (j:=j) (by rw [List.set_set];exact List.getElem?_set_self hjl)
  rw [List.set_set,List.set_set] at h4
  exact ⟨M',h1,h4,h3⟩
theorem HL.set {M:Av} {w:World} {ps:List Pr} {vs:List Value} {k:Nat} {p q:Pr} (h:HL M w ps vs) (hk:ps[k]? =some p) (hq:∀u,p.h M w u→q.h M w u):HL M w (ps.set k q) vs:=by
 refine PO (by rw [h.length];simp) fun k' p' hk'=> ?_
 rw [List.getElem?_set] at hk'
 split at hk'
 ·
  rename_i e1
  subst e1
  split at hk'
  ·
   obtain ⟨u,hu,Ym⟩:=h.at_ k p hk
   simp at hk';subst hk'
   exact ⟨u,hu,hq u Ym⟩
  · cases hk'
 · exact h.at_ k' p' hk'
theorem Ao.K7 {M:Av} {w:World} {i j k sz b:Nat} {new:Bool} {T e:TypeId} {ps:List Pr} {rows:List (List Pr)} {v:Value} (h:Ao M0 w0 S rs M w) (hi:rs[i]? =some (AB new b T ps)) (hj:rs[j]? =some (Fu e sz rows v)) (hij:j≠i) (hk:ps[k]? =some (is v)) (hl:∀r∈rows,r.length=sz):
  ∃M',Ext M w M' w∧Ao M0 w0 S ((rs.set j BP).set i (AB new b T (ps.set k (slice sz rows)))) M' w:=by
 obtain ⟨M',h1,h2,h3⟩:=h.Zc hj hl
 have hi':(rs.set j BP)[i]? =some (AB new b T ps):=by rw [List.getElem?_set_ne hij];exact hi
 refine ⟨M',h1,h2.B0 hi' rfl rfl ?_⟩
 obtain ⟨g1,cs,g2,g3,g4⟩:=(h2.hold _ (List.mem_of_getElem? hi')).1
 exact ⟨g1,cs,g2,g3.set hk (fun u hu=>by rw [show u=v from hu];exact h3),g4⟩
def part (sz:Nat) (v:Value) (k:Nat):Pr where
 h _ _ u:=∃a m c,v= .slice a m c∧k≤m∧u= .slice (if c=k then a else a.map fun x=>x.add (k*sz)) (m-k) (c-k)
 st _M _w _M' _w' _v _ h:=h
instance Zd (sz:Nat) (v:Value) (k:Nat):One (part sz v k):=⟨by rintro M w u ⟨a,m,c,h1,h2,rfl⟩;exact ⟨rfl,rfl⟩⟩
theorem Am.bt {f:FuncId} {args:List Pr} {e:TypeId} {sz m:Nat} {rows:List (List Pr)} {R:Al} (hl:∀r∈rows,r.length=sz) (h:Am P f args (lens m) R (fun v=>Ak e sz rows v)):Am P f args (slice sz rows) R (fun _=>BP):=by
 refine ⟨h.1,fun M0 w0 S rs M w vs hI hv=>(h.2 M0 w0 S rs M w vs hI hv).mono ?_⟩
 rintro e' w' ⟨v,M',rfl,h2,h3,h4⟩
 obtain ⟨M2,j1,j2,j3⟩:=Ao.QW (j:=0) h4 rfl hl
 exact ⟨v,M2,rfl,j3,h3.trans j1,j2.blank (j:=0) rfl⟩
def jX (sz:Nat) (v:Value) (i o:Nat):Pr where
 h _ _ u:=∃a m c,v= .slice (some a) m c∧u= .pointer (some (a.add (i*sz+o)))
 st _M _w _M' _w' _v _ h:=h
instance b8 (sz:Nat) (v:Value) (k o:Nat):One (jX sz v k o):=⟨by rintro M w u ⟨a,m,c,h1,rfl⟩;exact ⟨rfl,rfl⟩⟩
end
section
variable {P:Program} {L:Lg P} {E:Env} {I:Bq} {o:Oper}
section
variable {n:Fm} {fz:Nat} {M0:Av} {w0:World} {S:Nat→Prop}
end
end
section
variable {P:Program} {L:Lg P} {n:Fm} {fz:Nat} {I:Bq}
def Ze (P:Program) (I':Bq) (M:Av) (w:World) (p:Pr):Result Next→Prop
 | .ok (.value v) w'=>∃M',p.h M' w' v∧Ext M w M' w'∧I'.h M' w'
 | .ok .skip w'=>∃M',p.h M' w' undef∧Ext M w M' w'∧I'.h M' w'
 | .ok (.enter f args) w'=>Calls P f args w' fun e w''=>∃v M',e= .returned v∧p.h M' w'' v∧Ext M w M' w''∧I'.h M' w''
 |_=>False
def R7 (P:Program) (n:Fm) (I I':Bq) (o:Oper) (E:Env) (p:Pr):Prop:=o.guard=none∧∀M w (a:Act),a.tmps.size=n.sz→Bt M w E o a→I.h M w→Ze P I' M w p ((execOp a.eval o).run P w)
def K8 (P:Program) (n:Fm) (I:Bq) (ops:Array Oper):Nat→List Oper→Env→(Bq→Env→Prop)→Prop
 |_,[],_,_=>False
 |0,o::r,E,K=>∃p I',R7 P n I I' o E p∧(∀d,o.dst=some d→d<n)∧Ch P n I' ops r (upd o p E) (K I')
 |c+1,o::r,E,K=>∃p,RJ P I ops o E p∧(∀d,o.dst=some d→d<n)∧K8 P n I ops c r (upd o p E) K
theorem K8.op {ops:Array Oper} {o:Oper} {r:List Oper} {E:Env} {K:Bq→Env→Prop} {d c:Nat} {p:Pr} (hg:o.guard=none) (hd:o.dst=some d) (hn:d<n) (h:AW P I o E p)
  (k:K8 P n I ops c r ((d,p)::E) K):K8 P n I ops (c+1) (o::r) E K:=
 ⟨p,by unfold RJ;rw [hg];exact h,fun d' hd'=>by rw [hd] at hd';cases hd';exact hn,by unfold upd;rw [hd];exact k⟩
theorem K8.turn {ops:Array Oper} {o:Oper} {r:List Oper} {E:Env} {K:Bq→Env→Prop} {d:Nat} {p:Pr} (I':Bq) (hd:o.dst=some d) (hn:d<n) (h:R7 P n I I' o E p)
  (k:Ch P n I' ops r ((d,p)::E) (K I')):K8 P n I ops 0 (o::r) E K:=
 ⟨p,I',h,fun d' hd'=>by rw [hd] at hd';cases hd';exact hn,by unfold upd;rw [hd];exact k⟩
def OM (P:Program) (f:FuncId) (args:List Pr) (pre:List Al) (res:Pr) (post:List Al):Prop:=Qd (α:=Unit) P f args pre (fun _=>True) (fun _=>res) (fun _=>post)
section
variable {M0:Av} {w0:World} {S:Nat→Prop} {rs:List Al} {E:Env} {o:Oper} {g:Func} {M1:Av} {w1:World}
theorem OM.of {f : FuncId} {c : Code} {ps : List Pr} {pre post : List Al} {res : Pr} (hf : P.funcs[f]? = some g) (hb : g.body = some c) (hname : (g.name == "runtime.NumGoroutine") = false) (hlen : ps.length ≤ g.ntmps)
  (h:∀M0 w0 S rs M1 w1,Tr (WY P) g.ntmps (Ie 0 ps) (Hp M0 w0 S (pre++Aa M1 w1::rs)) c (bodyPost P g (R6 M0 w0 S rs M1 w1 (fun _:Unit=>True) (fun _=>res) (fun _=>post)))):OM P f ps pre res post:=
 Qd.of hf hb hname hlen h
theorem Am.pure {f:FuncId} {args:List Pr} {res:Pr} {R':Value→Al} (h:Am P f args res BP R'):Bb P f args res:=by
 refine ⟨h.1,fun M w vs hb hv=> ?_⟩
 refine (h.2 M w O8 [] M w vs ((Ao.begin hb).Il (r:=BP) rfl trivial) hv).mono ?_
 rintro e w' ⟨v,M',rfl,h2,h3,h4⟩
 exact ⟨v,rfl,res.st _ _ _ _ _ (Ext.less h4.m) h2,h4.below⟩
end
end
section
variable {P:Program} {L:Lg P} {n:Fm} {fz:Nat} {E:Env} {M0:Av} {w0:World} {S:Nat→Prop} {rs:List Al} {o:Oper}
def Zf (b off m:Nat):Pr where
 h _ _ u:=∃o c,u= .slice (some ⟨b,o,none⟩) m c∧(0<m→o=off)
 st _M _w _M' _w' _v _ h:=h
instance YV (b off m:Nat):One (Zf b off m):=⟨by rintro M w u ⟨o,c,rfl,_⟩;exact ⟨rfl,rfl⟩⟩
end
section
variable {P:Program} {L:Lg P} {n:Fm} {fz:Nat} {E:Env} {M0:Av} {w0:World} {S:Nat→Prop} {rs:List Al} {o:Oper}
end
section
variable {P:Program} {L:Lg P} {n:Fm} {fz:Nat} {E:Env} {M0:Av} {w0:World} {S:Nat→Prop} {rs:List Al}
theorem St.K7 {i j k sz b:Nat} {new:Bool} {T e:TypeId} {ps:List Pr} {rows:List (List Pr)} {v:Value} {p:Pr} (hi:rs[i]? =some (AB new b T ps)) (hj:rs[j]? =some (Fu e sz rows v)) (hij:j≠i) (hk:ps[k]? =some p) (hp:Pr.le p (is v)) (hl:∀r∈rows,r.length=sz) {a:Act} {w:World} (h:St n E (Hp M0 w0 S rs) a w):
  St n E (Hp M0 w0 S ((rs.set j BP).set i (AB new b T (ps.set k (slice sz rows))))) a w:=by
 obtain ⟨M,h1,h2,h3,h4⟩:=h
 have h4:Ao M0 w0 S rs M w:=h4
 have hi':(rs.set j (Fu e sz rows v))[i]? =some (AB new b T ps):=by rw [List.getElem?_set_ne hij];exact hi
 obtain ⟨M',g1,g2,g3⟩:=h4.Zc hj hl
 have gi:(rs.set j BP)[i]? =some (AB new b T ps):=by rw [List.getElem?_set_ne hij];exact hi
 refine ⟨M',h1,h2,fun s q hq=>q.st _ _ _ _ _ g1 (h3 s q hq),g2.B0 gi rfl rfl ?_⟩
 obtain ⟨c1,cs,c2,c3,c4⟩:=(g2.hold _ (List.mem_of_getElem? gi)).1
 exact ⟨c1,cs,c2,c3.set hk (fun u hu=>by rw [show u=v from hp _ _ _ hu];exact g3),c4⟩
theorem Tr.K7 {Q:Exit→Act→World→Prop} {c:Code} (i j k:Nat) {sz b:Nat} {new:Bool} {T e:TypeId} {ps:List Pr} {rows:List (List Pr)} {v:Value} {p:Pr} (hi:rs[i]? =some (AB new b T ps)) (hj:rs[j]? =some (Fu e sz rows v)) (hij:j≠i) (hk:ps[k]? =some p) (hp:Pr.le p (is v)) (hl:∀r∈rows,r.length=sz)
  (kk:Tr L n E (Hp M0 w0 S ((rs.set j BP).set i (AB new b T (ps.set k (slice sz rows))))) c Q):Tr L n E (Hp M0 w0 S rs) c Q:=Tr.conv (fun _ _ hs=>hs.K7 hi hj hij hk hp hl) kk
end
section
variable {P:Program} {L:Lg P} {n:Fm} {fz:Nat} {E:Env} {M0:Av} {w0:World} {S:Nat→Prop} {rs:List Al} {o:Oper} {g:Func} {M1:Av} {w1:World}
theorem OM.gen {f:FuncId} {args args':List Pr} {pre:List Al} {res:Pr} [Gv res] (hfz:∀M0 w0 S rs M w,Ao M0 w0 S (pre++rs) M w→∃M',Ext M w M' w∧Ao M0 w0 S rs M' w∧∀vs,HL M w args vs→HL M' w args' vs)
  (h:Bb P f args' res):OM P f args pre res pre:=by
 refine ⟨h.1,fun M0 w0 S rs M w vs hI hv=> ?_⟩
 obtain ⟨M',hx,H_,ha⟩:=hfz M0 w0 S rs M w hI
 refine (h.2 M' w vs H_.bd (ha vs hv)).mono ?_
 rintro e' w' ⟨u,rfl,h2,h3⟩
 exact ⟨u,M,(),rfl,trivial,Gv.free _ _ _ _ h2,Ext.below h3,(Hp M0 w0 S _).st _ _ _ h3 hI⟩
theorem Row.hd {M:Av} {w:World} {ad:Addr} {p q:Pr} {ps:List Pr} (h:Row M w ad 0 (p::ps)) (hq:∀u,p.h M w u→q.h M w u):Row M w ad 0 (q::ps):=by
 intro j r hr
 cases j with
 |zero=>
  simp at hr;subst hr
  obtain ⟨u,h1,h2,h3,h4⟩:=h 0 p rfl
  exact ⟨u,h1,h2,h3,hq u h4⟩
 |succ j=>exact h (j+1) r (by simpa using hr)
theorem OM.look {f:FuncId} {wb ob:Nat} {WT OT e:TypeId} {b9 ops rows ps:List Pr} {rws:List (List Pr)} {sz k:Nat} {v:Value} {res:Pr} [Gv res] (hk:ops[k]? =some (is v)) (hl:∀r∈rws,r.length=sz) (ho:ops.set k (slice sz rws)=rows)
  (h:Bb P f (ref (ref rows::b9)::ps) res):OM P f (ptr wb 0::ps) [AB true wb WT (ptr ob 0::b9),AB true ob OT ops,Fu e sz rws v] res [AB true wb WT (ptr ob 0::b9),AB true ob OT ops,Fu e sz rws v]:=by
 refine OM.gen (fun M0 w0 S rs M w hI=> ?_) h
 obtain ⟨Ma,a1,a2⟩:=Ao.K7 (i:=1) (j:=2) (k:=k) hI rfl rfl (by decide) hk hl
 rw [ho] at a2
 have a3:Ao M0 w0 S (AB true ob OT rows::AB true wb WT (ptr ob 0::b9)::BP::rs) Ma w:=Ao.perm (List.Perm.swap _ _ _) a2
 obtain ⟨Mb,b1,b2,b3⟩:=Ao.PN a3
 obtain ⟨Mc,c1,c2,c3⟩:=Ao.PN b1
 refine ⟨Mc,(a1.trans b2).trans c2,c1.Gr,fun vs hv=> ?_⟩
 match vs,hv with
 |u0::vs1,Ff=>
  obtain ⟨Ib,E4⟩:=Ff
  refine ⟨⟨⟨wb,0,none⟩,Ib,c3.hd fun u hu=>⟨⟨ob,0,none⟩,hu,b3.st c2⟩⟩,E4.st ((a1.trans b2).trans c2)⟩
theorem TO.re {Q:Exit→Act→World→Prop} {ops:Array Oper} {l:List Oper} {I:Bq} (s:Nat) {q:Pr} (p:Pr) (hs:E.lookup s=some q) (hl:Pr.le q p) (k:TO P n ops l ((s,p)::E) I Q):TO P n ops l E I Q:=by
 intro m hm a w hst
 refine k m hm a w ?_
 obtain ⟨M,h1,h2,he,h4⟩:=hst
 refine ⟨M,h1,h2,fun s' r hr=> ?_,h4⟩
 simp only [List.lookup] at hr
 split at hr
 ·
  rename_i e1
  have:s'=s:=by simpa using e1
  subst this
  simp only [Option.some.injEq] at hr
  subst hr
  exact hl _ _ _ (he _ _ hs)
 · exact he _ _ hr
def Zg (P:Program) (f:FuncId) (args:List Pr) (res:Value→Pr) (post:Value→List Al):Prop:=Qd (α:=Value) P f args [] (fun _=>True) res post
theorem Zg.of {f : FuncId} {c : Code} {ps : List Pr} {res : Value → Pr} {post : Value → List Al} (hf : P.funcs[f]? = some g) (hb : g.body = some c) (hname : (g.name == "runtime.NumGoroutine") = false) (hlen : ps.length ≤ g.ntmps)
  (h:∀M0 w0 S rs M1 w1,Tr (WY P) g.ntmps (Ie 0 ps) (Hp M0 w0 S (Aa M1 w1::rs)) c (bodyPost P g (R6 M0 w0 S rs M1 w1 (fun _:Value=>True) res post))):Zg P f ps res post:=
 Qd.of hf hb hname hlen h
end
section
variable {P:Program} {L:Lg P} {n:Fm} {fz:Nat} {E:Env} {I:Bq} {Q:Exit→Act→World→Prop} {ops:Array Oper} {o:Oper} {r:List Oper} {g j:Nat} {b want:Bool}
theorem TO.cases (g:Nat) {b:Bool} {l:List Oper} (_hb:E.lookup g=some (bool b)) (ht:b=true→TO P n ops l E I Q) (hf:b=false→TO P n ops l E I Q):TO P n ops l E I Q:=by
 cases b
 · exact hf rfl
 · exact ht rfl
variable {M0:Av} {w0:World} {S:Nat→Prop} {rs:List Al}
end
section
variable {P:Program} {L:Lg P} {E:Env} {I:Bq} {o:Oper}
end
class T1 (P:Program) (t:TypeId):Prop where
 h:Ez P t=true
class TA (P:Program) (t:TypeId):Prop where
 h:Fj P t=true
class TZ (P:Program) (t:TypeId) (m:outParam Nat):Prop where
 h:Ar P t=some m
class TF (P:Program) (s f:Nat) (k:outParam Nat):Prop where
 h:Au P s f=some k
class TU (P:Program) (t:TypeId) (d:outParam TypeDesc):Prop where
 h:P.underlying t=some d
class TB (P:Program) (t:TypeId) (place:outParam (Nat→Option (Nat×Nat))) (zs:outParam (List Value)):Prop where
 h:∀ps,P.built t ps=Instr.fill place zs.toArray ps
 z:zs.all (·.oneCell')=true
class TV (P:Program) (t:TypeId) (zs:outParam (List Value)):Prop where
 h:BZ P t=some zs
 z:zs.all (·.oneCell')=true
class TM (P:Program):Prop where
 h:P.follows .mixedOrders=true
section
variable {P:Program} {L:Lg P} {n:Fm} {fz:Nat} {I:Bq} {ops:Array Oper} {o:Oper} {r:List Oper} {E:Env} {K:Env→Prop} {d g j:Nat} {b want:Bool} {p:Pr} {x y:Operand} {Q:Exit→Act→World→Prop} {t u:TypeId}
theorem eJ [i:T1 P t] {ps:List Pr} (ho:o.op= .load t x) (hx:B3 E x=some (ref (p::ps))):AW P I o E p:=JO ho i.h (vl hx)
theorem eK [i:TA P t] {m:Nat} [z:TZ P t m] {ps qs:List Pr} (ho:o.op= .load t x) (hx:B3 E x=some (ref ps)) (hq:ps.take m=qs) (hm:qs.length=m):AW P I o E (agg qs):=At ho i.h z.h (vl hx) hq hm
theorem eL {s:TypeId} {f k:Nat} [i:TF P s f k] {ps qs:List Pr} (ho:o.op= .fieldAddr s x f) (hx:B3 E x=some (ref ps)) (hq:ps.drop k=qs):AW P I o E (ref qs):=Gm ho i.h (vl hx) hq
theorem eM {s:TypeId} {f k:Nat} [i:TF P s f k] {b off:Nat} (ho:o.op= .fieldAddr s x f) (hx:B3 E x=some (ptr b off)):AW P I o E (ptr b (off+k)):=BW ho i.h (vl hx)
theorem eN {e:TypeId} [i:TU P t (.slice e)] {sz:Nat} {β:Type} {f:β→List Pr} {l:List β} (ho:o.op= .call { callee:= .builtin .len,args:= #[x],argTypes:= #[t] }) (hx:B3 E x=some (slice sz (l.map f))):AW P I o E (int ((l.length:Nat):Int)):=Bi ho i.h (vl hx)
theorem eO [i:TU P t .string] {a:List UInt8} (ho:o.op= .call { callee:= .builtin .len,args:= #[x],argTypes:= #[t] }) (hx:B3 E x=some (str a)):AW P I o E (int ((a.length:Nat):Int)):=T_ ho i.h (vl hx)
theorem eP [i:TU P t .bool] {b c:Bool} (ho:o.op= .binOp .eql t x y u) (hx:B3 E x=some (bool b)) (hy:B3 E y=some (bool c)):AW P I o E (bool (b==c)):=N5 ho i.h (vl hx) (vl hy)
theorem eR {p:Pr} [One p] (ho:o.op= .box t x) (hx:B3 E x=some p):AW P I o E (ref [p]):=Nz ho (VL.le (vl hx) (AQ p))
theorem eS {ps:List Pr} (ho:o.op= .box t x) (hx:B3 E x=some (agg ps)):AW P I o E (ref ps):=Nz ho (VL.le (vl hx) (E0 ps))
class CP (p:Pr) (ps:outParam (List Pr)):Prop where
 h:Pr.le p (C2 ps)
instance eT (ps:List Pr):CP (agg ps) ps:=⟨E0 ps⟩
instance (priority:=low) eU (p:Pr) [One p]:CP p [p]:=⟨AQ p⟩
class CQ (p:Pr) (ps:outParam (List Pr)):Prop where
 h:Pr.le p (C2 ps)
instance eV (ps:List Pr):CQ (agg ps) ps:=⟨E0 ps⟩
instance eW (k:IntKind) (n:Int):CQ (is (.int k n)) [is (.int k n)]:=⟨AQ _⟩
instance b_ (b:Bool):CQ (is (.bool b)) [is (.bool b)]:=⟨AQ _⟩
instance eX (s:ByteArray):CQ (is (.string s)) [is (.string s)]:=⟨AQ _⟩
instance eY (a:Option Addr):CQ (is (.pointer a)) [is (.pointer a)]:=⟨AQ _⟩
instance Zh (sz:Nat) (rows:List (List Pr)):CQ (slice sz rows) [slice sz rows]:=⟨AQ _⟩
instance eZ (ps:List Pr):CQ (ref ps) [ref ps]:=⟨AQ _⟩
instance gz (f:Fn) (ps:List Pr):CQ (fn f ps) [fn f ps]:=⟨AQ _⟩
theorem jY:N4 E [] []:=trivial
theorem jZ {i:Nat} {q:Pr} {row:List Pr} [c:CQ q row] {xs:List (Nat×Operand)} {rows:List (Nat×List Pr)} (hx:B3 E x=some q) (h:N4 E xs rows):N4 E ((i,x)::xs) ((i,row)::rows):=⟨⟨rfl,VL.le (vl hx) c.h⟩,h⟩
theorem jc {sz:Nat}:Lj E sz [] []:=trivial
theorem jd {sz:Nat} {q:Pr} {row:List Pr} [c:CQ q row] {xs:List Operand} {rows:List (List Pr)} (hx:B3 E x=some q) (hl:row.length=sz) (h:Lj E sz xs rows):Lj E sz (x::xs) (row::rows):=⟨⟨hl,VL.le (vl hx) c.h⟩,h⟩
theorem ec {parts:Array (Nat×Operand)} {place:Nat→Option (Nat×Nat)} {zs:List Value} [i:TB P t place zs] {rows:List (Nat×List Pr)} {qs:List Pr} (ho:o.op= .build t parts) (hx:N4 E parts.toList rows) (hq:Kq place (zs.map is) rows=some qs):AW P I o E (agg qs):=A8 ho i.h i.z hx hq
theorem ej {e:TypeId} {sz m:Nat} {zs:List Value} {xs:List Operand} {parts:Array (Nat×Operand)} {rows:List (List Pr)} [i:TU P t (.slice e)] [z:TZ P e sz] [v:TV P e zs] (ho:o.op= .buildSlice t m parts) (hp:parts.toList.map Prod.snd=xs) (hm:(m==xs.length&&(parts.toList.map Prod.fst==List.range m)&&zs.length==sz&&Nat.blt 0 sz&&Nat.ble (m*sz) 16777216)=true) (hx:Lj E sz xs rows):AW P I o E (full sz rows):=by
 simp only [Bool.and_eq_true,beq_iff_eq,Nat.blt_eq,Nat.ble_eq] at hm
 obtain ⟨⟨⟨⟨h1,h2⟩,h3⟩,h4⟩,h5⟩:=hm
 subst h1
 refine Aw ho ?_ i.h z.h v.h h3 h4 hx h5
 refine List.ext_getElem (by rw [←hp];simp) fun k h6 h7=> ?_
 have h8:k<xs.length:=by simpa using h7
 simp only [List.getElem_map,List.getElem_zipIdx,Nat.zero_add]
 have e1:(parts.toList.map Prod.fst)[k]'(by simpa using h6)=k:=by simp only [h2];exact List.getElem_range _
 have e2:(parts.toList.map Prod.snd)[k]'(by simpa using h6)=xs[k]:=by simp only [hp]
 simp only [List.getElem_map] at e1 e2
 exact Prod.ext e1 e2
section
variable {M0:Av} {w0:World} {S:Nat→Prop} {b off:Nat} {T:TypeId} {new:Bool} {ps qs:List Pr} {m:Nat} {q:Pr}
theorem Gf [i:T1 P t] (ho:o.op= .load t x) (hx:B3 E x=some (ptr b off)) (hp:ps[off]? =some p):Gp P M0 w0 S j (SR.c (AB new b T ps)) o E p:=CG ho i.h (vl hx) hp
theorem Gg [i:TA P t] [z:TZ P t m] (ho:o.op= .load t x) (hx:B3 E x=some (ptr b off)) (hq:(ps.drop off).take m=qs) (hm:qs.length=m):Gp P M0 w0 S j (SR.c (AB new b T ps)) o E (agg qs):=AE ho i.h z.h (vl hx) hq hm
theorem M6 {ps':List Pr} [z:TZ P t m] [c:CP q qs] (hg:o.guard=none) (ho:o.op= .store t x y) (hx:B3 E x=some (ptr b off)) (hy:B3 E y=some q) (hm:qs.length=m:=by rfl) (hl:Nat.ble (off+m) ps.length=true:=by rfl) (hps:ps.take off++qs++ps.drop (off+m)=ps':=by rfl):DC P M0 w0 S n j (SR.c (AB new b T ps)) (SR.c (AB new b T ps')) o E any:=AU hg ho (vl hx) (VL.le (vl hy) c.h) z.h hm (Nat.le_of_ble_eq_true hl) hps
variable {rs:List Al}
theorem sf (i s:Nat) [z:TZ P t m] [c:CP q qs] (hg:o.guard=none∧o.dst=none∧o.op= .store t x y) (hx:B3 E x=some (ptr b 0)) (hy:B3 E y=some q) (hi:rs[i]? =some (AB true b T ps)) (hs:E.lookup s=some (ptr b 0))
  (k:TO P n ops r ((s,ref qs)::E) (Hp M0 w0 S ((rs.set i (AB true b T qs)).eraseIdx i)) Q) (hm:qs.length=m:=by rfl) (hl:ps.length=m:=by rfl):TO P n ops (o::r) E (Hp M0 w0 S rs) Q:=
 TO.CW i hg.1 hg.2.1 hg.2.2 (vl hx) (VL.le (vl hy) c.h) hi z.h hm hl (TO.freeze (ps:=qs) i s (by
  have hlt:i<rs.length:=by rcases Nat.lt_or_ge i rs.length with h|h;exact h;rw [List.getElem?_eq_none h] at hi;cases hi
  rw [List.getElem?_set_self hlt]) hs k)
theorem sa (i:Nat) [z:TZ P t m] [c:CP q qs] (hg:o.guard=none∧o.dst=none∧o.op= .store t x y) (hx:B3 E x=some (ptr b 0)) (hy:B3 E y=some q) (hi:rs[i]? =some (AB new b T ps))
  (k:TO P n ops r E (Hp M0 w0 S (rs.set i (AB new b T qs))) Q) (hm:qs.length=m:=by rfl) (hl:ps.length=m:=by rfl):TO P n ops (o::r) E (Hp M0 w0 S rs) Q:=TO.CW i hg.1 hg.2.1 hg.2.2 (vl hx) (VL.le (vl hy) c.h) hi z.h hm hl k
end
def XG (o:Oper):Nat:=match o.op with
 | .move ..=>1
 | .assign ..=>1
 | .fieldAddr ..=>2
 | .load ..=>3
 | .binOp .add ..=>7
 | .binOp .sub ..=>8
 | .binOp ..=>4
 | .pick ..=>5
 | .nilCheck ..=>6
 | .call { callee:= .builtin .len,.. }=>9
 | .unOp ..=>10
 | .box ..=>11
 | .extract ..=>12
 | .makeFunc ..=>13
 | .build ..=>14
 | .buildSlice ..=>15
 | .store ..=>16
 |_=>0
def Zi (o:Oper):Bool:=o.guard.isNone
def eo (o:Oper):Nat:=if XG o=0 then 0 else if XG o<5 then 1 else if XG o<9 then 2 else if XG o<16 then 3 else 4
theorem ep {m z:Int} (ho:o.op= .binOp .add t x y u) (hx:B3 E x=some (int m)) (hy:B3 E y=some (int z)) (hr: -9223372036854775808≤m+z∧m+z≤9223372036854775807):AW P I o E (int (m+z)):=BE ho (vl hx) (vl hy) hr
theorem eu {m z:Int} (ho:o.op= .binOp .sub t x y u) (hx:B3 E x=some (int m)) (hy:B3 E y=some (int z)) (hr: -9223372036854775808≤m-z∧m-z≤9223372036854775807):AW P I o E (int (m-z)):=JN ho (vl hx) (vl hy) hr
theorem oF (h:AW P I o E p:=by first|exact eL rfl rfl rfl|exact eM rfl rfl):AW P I o E p:=h
theorem oL (h:AW P I o E p:=by first|exact eJ rfl rfl|exact eK rfl rfl rfl rfl|exact Ai 0 rfl (Gf rfl rfl rfl)|exact Ai 0 rfl (Gg rfl rfl rfl rfl)|exact Ai 1 rfl (Gf rfl rfl rfl)|exact Ai 1 rfl (Gg rfl rfl rfl rfl)|exact Ai 2 rfl (Gf rfl rfl rfl)|exact Ai 2 rfl (Gg rfl rfl rfl rfl)|exact Ai 3 rfl (Gf rfl rfl rfl)|exact Ai 3 rfl (Gg rfl rfl rfl rfl)|exact Ai 4 rfl (Gf rfl rfl rfl)|exact Ai 4 rfl (Gg rfl rfl rfl rfl)):AW P I o E p:=h
theorem oB (h:AW P I o E p:=by first|exact ki rfl rfl rfl rfl|exact XA rfl (vl rfl) (vl rfl)|exact XB rfl (vl rfl) (vl rfl)|exact eP rfl rfl rfl):AW P I o E p:=h
theorem oP (h:AW P I o E p:=by first|exact KV rfl rfl (by first|rfl|assumption) rfl|exact Fb rfl rfl (by first|rfl|assumption) rfl|exact Qc rfl (vl rfl) (vl rfl)|exact OK rfl (vl rfl) (vl rfl)):AW P I o E p:=h
theorem oN (h:AW P I o E p:=by first|exact Gs rfl (vl rfl)|exact Ih rfl (vl rfl)|exact JP rfl (vl rfl)):AW P I o E p:=h
theorem oA (h:AW P I o E p:=by first|exact ep rfl rfl rfl (by omega)|exact ki rfl rfl rfl rfl):AW P I o E p:=h
theorem oS (h:AW P I o E p:=by first|exact eu rfl rfl rfl (by omega)|exact ki rfl rfl rfl rfl):AW P I o E p:=h
theorem oC (h:AW P I o E p:=by first|exact eN rfl rfl|exact eO rfl rfl):AW P I o E p:=h
theorem oU (h:AW P I o E p:=by first|exact Ey rfl (vl rfl)):AW P I o E p:=h
theorem oO (h:AW P I o E p:=by first|exact eS rfl rfl|exact eR rfl rfl):AW P I o E p:=h
theorem oE (h:AW P I o E p:=by first|exact Ay rfl (vl rfl) rfl):AW P I o E p:=h
theorem oM (h:AW P I o E p:=by first|exact Md rfl rfl):AW P I o E p:=h
theorem oD (h:AW P I o E p:=by first|exact ec rfl (by repeat any_goals first|exact jY|refine' jZ rfl ?_) (by rfl)):AW P I o E p:=h
theorem oI (h:AW P I o E p:=by first|exact ej rfl rfl (by rfl) (by repeat any_goals first|exact jc|refine' jd rfl (by rfl) ?_)):AW P I o E p:=h
theorem g_ {f:FuncId} {ts:Array TypeId} {res:Pr} (hf:Bb P f [] res) (ho:o.op= .call { callee:= .value (.func f),args:= #[],argTypes:=ts }):AW P I o E res:=Aq ho hf trivial
theorem EC {f:FuncId} {ts:Array TypeId} {x0:Operand} {p0:Pr} {res:Pr} (hf:Bb P f [p0] res) (ho:o.op= .call { callee:= .value (.func f),args:= #[x0],argTypes:=ts }) (h0:B3 E x0=some p0):AW P I o E res:=Aq ho hf ⟨ke h0,trivial⟩
theorem Jx {f:FuncId} {ts:Array TypeId} {x0:Operand} {p0:Pr} {x1:Operand} {p1:Pr} {res:Pr} (hf:Bb P f [p0,p1] res) (ho:o.op= .call { callee:= .value (.func f),args:= #[x0,x1],argTypes:=ts }) (h0:B3 E x0=some p0) (h1:B3 E x1=some p1):AW P I o E res:=Aq ho hf ⟨ke h0,ke h1,trivial⟩
theorem je {f:FuncId} {ts:Array TypeId} {x0:Operand} {p0:Pr} {x1:Operand} {p1:Pr} {x2:Operand} {p2:Pr} {res:Pr} (hf:Bb P f [p0,p1,p2] res) (ho:o.op= .call { callee:= .value (.func f),args:= #[x0,x1,x2],argTypes:=ts }) (h0:B3 E x0=some p0) (h1:B3 E x1=some p1) (h2:B3 E x2=some p2):AW P I o E res:=Aq ho hf ⟨ke h0,ke h1,ke h2,trivial⟩
theorem hG {f:FuncId} {ts:Array TypeId} {x0:Operand} {p0:Pr} {x1:Operand} {p1:Pr} {x2:Operand} {p2:Pr} {x3:Operand} {p3:Pr} {res:Pr} (hf:Bb P f [p0,p1,p2,p3] res) (ho:o.op= .call { callee:= .value (.func f),args:= #[x0,x1,x2,x3],argTypes:=ts }) (h0:B3 E x0=some p0) (h1:B3 E x1=some p1) (h2:B3 E x2=some p2) (h3:B3 E x3=some p3):AW P I o E res:=Aq ho hf ⟨ke h0,ke h1,ke h2,ke h3,trivial⟩
theorem cP (_:Zi o=true) (h:Ch P n I ops (o::r) E K):Ch P n I ops (o::r) E K:=h
theorem cG (_:Zi o=false) (h:Ch P n I ops (o::r) E K):Ch P n I ops (o::r) E K:=h
theorem cK (k:Nat) (_:XG o=k) (h:Ch P n I ops (o::r) E K):Ch P n I ops (o::r) E K:=h
theorem cS (k:Nat) (_:eo o=k) (h:Ch P n I ops (o::r) E K):Ch P n I ops (o::r) E K:=h
theorem tK (k:Nat) (_:XG o=k) (h:TO P n ops (o::r) E I Q):TO P n ops (o::r) E I Q:=h
theorem tG (k:Nat) (_:eo o=k) (h:TO P n ops (o::r) E I Q):TO P n ops (o::r) E I Q:=h
theorem Tr.rm [i:TM P] {id:Nat} {l:List Oper} (hB:Le l=true) (h:Ch P n I l.toArray l E (fun E'=>Fin n E' I Q .normal)) (hc:calm l=true:=by with_unfolding_all rfl):Tr L n E I (.region id l.toArray true) Q:=Tr.Ic i.h hB h hc
theorem Tr.ct {c:Operand} {y z:Code} (hc:B3 E c=some (bool true)) (k:Tr L n E I y Q):Tr L n E I (.cond c y z) Q:=Tr.cond hc (fun _=>k) (fun h=>nomatch h)
theorem Tr.cf {c:Operand} {y z:Code} (hc:B3 E c=some (bool false)) (k:Tr L n E I z Q):Tr L n E I (.cond c y z) Q:=Tr.cond hc (fun h=>nomatch h) (fun _=>k)
structure R8 (G:Prop):Prop where
 k:G
theorem Cx.mono {M0:Av} {w0:World} {S:Nat→Prop}:∀{l:List Oper} {E:Env} {rs:List SR} {K K':List X→Env→List SR→Prop},(∀L E rs,K L E rs→K' L E rs)→Cx P M0 w0 S n ops l E rs K→Cx P M0 w0 S n ops l E rs K'
 |[],_,_,_,_,h,k=>h _ _ _ k
 |_::_,_,_,_,_,h,⟨p,k,h1,h2,h3⟩=>⟨p,k,h1,h2,Cx.mono (fun _ _ _=>h _ _ _) h3⟩
theorem Cx.keys {M0:Av} {w0:World} {S:Nat→Prop}:∀{l:List Oper} {E:Env} {rs:List SR} {K:List X→Env→List SR→Prop},Cx P M0 w0 S n ops l E rs K→∃ks:List KN,Cx P M0 w0 S n ops l E rs (fun L E' rs'=>L.map (·.k.GX)=ks∧K L E' rs')
 |[],_,_,_,k=>⟨[],rfl,k⟩
 |_::_,_,_,_,⟨p,k,h1,h2,h3⟩=>by
  obtain ⟨ks,h4⟩:=Cx.keys h3
  exact ⟨k.GX::ks,p,k,h1,h2,Cx.mono (fun L E rs h=>⟨by rw [List.map_cons,h.1],h.2⟩) h4⟩
theorem Tr.rx {Lo:Lg P} [i:TM P] {M0:Av} {w0:World} {S:Nat→Prop} {id:Nat} {l:List Oper} {Ec:List Al}
  (h:Cx P M0 w0 S n l.toArray l E (Ec.map SR.c) (fun L E' rs'=>Iz l (L.map (·.k.GX))=true∧BT n M0 w0 S E' rs' Q)) (hc:calm l=true:=by with_unfolding_all rfl):Tr Lo n E (Hp M0 w0 S Ec) (.region id l.toArray true) Q:=by
 obtain ⟨ks,hk⟩:=Cx.keys h
 obtain ⟨L,h1,h2,h3⟩:=Lf l 0 E _ hk
 exact Tr.JW i.h ks (by rw [←h3.1];exact h3.2.1) (hk.mono fun _ _ _ h=>⟨h.1,h.2.2⟩) hc
theorem IK {rs:List Al} {r0:Al} {r1:Al}:B_ (SR.c r0::SR.c r1::rs.map SR.c) (r0::r1::rs):= .cons (.cons (B_.map _))
theorem cA {rs:List Al} {r0:Al} {r1:Al} {r2:Al}:B_ (SR.c r0::SR.c r1::SR.c r2::rs.map SR.c) (r0::r1::r2::rs):= .cons (.cons (.cons (B_.map _)))
theorem jf {rs:List Al} {r0:Al} {r1:Al} {r2:Al} {r3:Al} {r4:Al} {r5:Al}:B_ (SR.c r0::SR.c r1::SR.c r2::SR.c r3::SR.c r4::SR.c r5::rs.map SR.c) (r0::r1::r2::r3::r4::r5::rs):= .cons (.cons (.cons (.cons (.cons (.cons (B_.map _))))))
theorem jg {rs:List Al} {r0:Al} {r1:Al} {r2:Al} {r3:Al} {r4:Al} {r5:Al} {r6:Al}:B_ (SR.c r0::SR.c r1::SR.c r2::SR.c r3::SR.c r4::SR.c r5::SR.c r6::rs.map SR.c) (r0::r1::r2::r3::r4::r5::r6::rs):= .cons (.cons (.cons (.cons (.cons (.cons (.cons (B_.map _)))))))
theorem fo {f : FuncId} {g : Func} {c : Code} {ps : List Pr} {res : Pr} (hf : P.funcs[f]? = some g) (hb : g.body = some c) (hname : ((g.name == "runtime.NumGoroutine") = false ∧ Nat.ble ps.length g.ntmps = true))
  (h:∀M0 w0,Tr (WY P) g.ntmps (Ie 0 ps) (gR M0 w0) c (bodyPost P g (MY M0 w0 res))):Bb P f ps res:=Bb.of hf hb hname.1 (Nat.le_of_ble_eq_true hname.2) h
section
variable {M0:Av} {w0:World} {S:Nat→Prop} {rs:List SR} {KX:List X→Env→List SR→Prop}
theorem hO {l:List Oper} (h:Cx P M0 w0 S n ops l E rs KX):Cx P M0 w0 S n ops l E rs KX:=h
theorem xK (k:Nat) (_:XG o=k) (h:Cx P M0 w0 S n ops (o::r) E rs KX):Cx P M0 w0 S n ops (o::r) E rs KX:=h
theorem xG (k:Nat) (_:eo o=k) (h:Cx P M0 w0 S n ops (o::r) E rs KX):Cx P M0 w0 S n ops (o::r) E rs KX:=h
end
theorem cId {l:List Oper} (h:Ch P n I ops l E K):Ch P n I ops l E K:=h
theorem YW {c:Code} (h:Tr L n E I c Q):Tr L n E I c Q:=h
theorem fId {e:Exit} (h:Fin n E I Q e):Fin n E I Q e:=h
theorem Zj {l:List Oper} (h:TO P n ops l E I Q):TO P n ops l E I Q:=h
theorem ac {G H:Prop} (k:G) (h:R8 G→H:=by
 intro k
 repeat1' first
  |((with_reducible refine cId ?_);first
   |with_reducible refine Ch.nil ?_
   |(refine cP rfl ?_;first
    |(refine cS 1 rfl ?_;first
      |(refine cK 1 rfl ?_;refine cm rfl ?_)
      |(refine cK 2 rfl ?_;refine co rfl oF ?_)
      |(refine cK 3 rfl ?_;refine co rfl oL ?_)
      |(refine cK 4 rfl ?_;refine co rfl oB ?_))
    |(refine cS 2 rfl ?_;first
      |(refine cK 5 rfl ?_;refine co rfl oP ?_)
      |(refine cK 6 rfl ?_;refine co rfl oN ?_)
      |(refine cK 7 rfl ?_;refine co rfl oA ?_)
      |(refine cK 8 rfl ?_;refine co rfl oS ?_))
    |(refine cS 3 rfl ?_;first
      |(refine cK 9 rfl ?_;refine co rfl oC ?_)
      |(refine cK 10 rfl ?_;refine co rfl oU ?_)
      |(refine cK 11 rfl ?_;refine co rfl oO ?_)
      |(refine cK 12 rfl ?_;refine co rfl oE ?_)
      |(refine cK 13 rfl ?_;refine co rfl oM ?_)
      |(refine cK 14 rfl ?_;refine co rfl oD ?_)
      |(refine cK 15 rfl ?_;refine co rfl oI ?_)))
   |(refine cG rfl ?_;first
    |refine cu rfl ?_
    |refine cnt (by assumption) rfl ?_
    |refine cnf (by assumption) rfl ?_
    |(refine cS 1 rfl ?_;first
      |(refine cK 1 rfl ?_;refine CZ (by first|assumption|rfl) rfl ?_)
      |(refine cK 2 rfl ?_;refine cy (by first|assumption|rfl) rfl oF ?_)
      |(refine cK 3 rfl ?_;refine cy (by first|assumption|rfl) rfl oL ?_)
      |(refine cK 4 rfl ?_;refine cy (by first|assumption|rfl) rfl oB ?_))
    |(refine cS 2 rfl ?_;first
      |(refine cK 5 rfl ?_;refine cy (by first|assumption|rfl) rfl oP ?_)
      |(refine cK 6 rfl ?_;refine cy (by first|assumption|rfl) rfl oN ?_)
      |(refine cK 7 rfl ?_;refine cy (by first|assumption|rfl) rfl oA ?_)
      |(refine cK 8 rfl ?_;refine cy (by first|assumption|rfl) rfl oS ?_))
    |(refine cS 3 rfl ?_;first
      |(refine cK 9 rfl ?_;refine cy (by first|assumption|rfl) rfl oC ?_)
      |(refine cK 10 rfl ?_;refine cy (by first|assumption|rfl) rfl oU ?_)
      |(refine cK 11 rfl ?_;refine cy (by first|assumption|rfl) rfl oO ?_)
      |(refine cK 12 rfl ?_;refine cy (by first|assumption|rfl) rfl oE ?_)
      |(refine cK 13 rfl ?_;refine cy (by first|assumption|rfl) rfl oM ?_)
      |(refine cK 14 rfl ?_;refine cy (by first|assumption|rfl) rfl oD ?_)
      |(refine cK 15 rfl ?_;refine cy (by first|assumption|rfl) rfl oI ?_))
    |refine jD rfl rfl ?_))
  |((with_reducible refine YW ?_);first
   |with_reducible refine Tr.seq ?_
   |with_reducible refine Tr.BK ?_
   |refine Tr.rm (by kernel_rfl) ?_
   |with_reducible refine Tr.skip ?_
   |with_reducible refine Tr.block ?_
   |with_reducible refine Tr.ret ?_
   |with_reducible refine Tr.exit ?_
   |refine Tr.ct rfl ?_
   |refine Tr.cf rfl ?_)
  |((with_reducible refine fId ?_);first
   |with_reducible refine Fin.AK ?_
   |with_reducible refine Fin.AS ?_
   |with_reducible refine Fin.AG ?_
   |with_reducible refine Fin.AX ?_
   |refine Fin.Fi rfl ?_
   |with_reducible refine Fin.block ?_
   |refine Fin.KY rfl (C1.Ig _ _) rfl ?_)
 first|with_reducible refine Fin.go ?_|with_reducible refine cId ?_|with_reducible refine Zj ?_|with_reducible refine YW ?_|refine Fin.go ?_|skip
 exact k.k):H:=h ⟨k⟩
theorem ao {G H:Prop} (k:G) (h:R8 G→H:=by
 intro k
 repeat1' first
  |((with_reducible refine Zj ?_);first
   |with_reducible refine TO.nil ?_
   |(refine tG 1 rfl ?_;first
     |(refine tK 1 rfl ?_;refine tm rfl ?_)
     |(refine tK 2 rfl ?_;refine tp rfl oF ?_)
     |(refine tK 3 rfl ?_;refine tp rfl oL ?_)
     |(refine tK 4 rfl ?_;refine tp rfl oB ?_))
   |(refine tG 2 rfl ?_;first
     |(refine tK 5 rfl ?_;refine tp rfl oP ?_)
     |(refine tK 6 rfl ?_;refine tp rfl oN ?_)
     |(refine tK 7 rfl ?_;refine tp rfl oA ?_)
     |(refine tK 8 rfl ?_;refine tp rfl oS ?_))
   |(refine tG 3 rfl ?_;first
     |(refine tK 9 rfl ?_;refine tp rfl oC ?_)
     |(refine tK 10 rfl ?_;refine tp rfl oU ?_)
     |(refine tK 12 rfl ?_;refine tp rfl oE ?_)
     |(refine tK 13 rfl ?_;refine tp rfl oM ?_)
     |(refine tK 14 rfl ?_;refine tp rfl oD ?_)
     |(refine tK 15 rfl ?_;refine tp rfl oI ?_)))
  |((with_reducible refine YW ?_);first
   |with_reducible refine Tr.seq ?_
   |with_reducible refine Tr.Cl ?_
   |with_reducible refine Tr.skip ?_
   |with_reducible refine Tr.block ?_
   |with_reducible refine Tr.ret ?_
   |with_reducible refine Tr.exit ?_)
  |((with_reducible refine fId ?_);first
   |with_reducible refine Fin.AK ?_
   |with_reducible refine Fin.AS ?_
   |with_reducible refine Fin.AG ?_
   |with_reducible refine Fin.AX ?_
   |refine Fin.Fi rfl ?_
   |with_reducible refine Fin.block ?_)
 first|with_reducible refine Fin.go ?_|with_reducible refine cId ?_|with_reducible refine Zj ?_|with_reducible refine YW ?_|refine Fin.go ?_|skip
 exact k.k):H:=h ⟨k⟩
theorem ap {G H:Prop} (k:G) (h:R8 G→H:=by
 intro k
 repeat1' first
  |((with_reducible refine Zj ?_);first
   |with_reducible refine TO.nil ?_
   |(refine tG 1 rfl ?_;first
     |(refine tK 1 rfl ?_;refine tm rfl ?_)
     |(refine tK 2 rfl ?_;refine tp rfl oF ?_)
     |(refine tK 3 rfl ?_;refine tp rfl oL ?_)
     |(refine tK 4 rfl ?_;refine tp rfl oB ?_))
   |(refine tG 2 rfl ?_;first
     |(refine tK 5 rfl ?_;refine tp rfl oP ?_)
     |(refine tK 6 rfl ?_;refine tp rfl oN ?_)
     |(refine tK 7 rfl ?_;refine tp rfl oA ?_)
     |(refine tK 8 rfl ?_;refine tp rfl oS ?_))
   |(refine tG 3 rfl ?_;first
     |(refine tK 9 rfl ?_;refine tp rfl oC ?_)
     |(refine tK 10 rfl ?_;refine tp rfl oU ?_)
     |(refine tK 12 rfl ?_;refine tp rfl oE ?_)
     |(refine tK 13 rfl ?_;refine tp rfl oM ?_)
     |(refine tK 14 rfl ?_;refine tp rfl oD ?_)
     |(refine tK 15 rfl ?_;refine tp rfl oI ?_))
   |(refine tK 16 rfl ?_;first
    |refine sa 0 ⟨rfl,rfl,rfl⟩ rfl rfl rfl ?_
    |refine TO.B4 0 rfl rfl (M6 rfl rfl rfl rfl) ?_
    |refine sa 1 ⟨rfl,rfl,rfl⟩ rfl rfl rfl ?_
    |refine TO.B4 1 rfl rfl (M6 rfl rfl rfl rfl) ?_
    |refine sa 2 ⟨rfl,rfl,rfl⟩ rfl rfl rfl ?_
    |refine TO.B4 2 rfl rfl (M6 rfl rfl rfl rfl) ?_
    |refine sa 3 ⟨rfl,rfl,rfl⟩ rfl rfl rfl ?_
    |refine TO.B4 3 rfl rfl (M6 rfl rfl rfl rfl) ?_))
  |((with_reducible refine YW ?_);first
   |with_reducible refine Tr.seq ?_
   |with_reducible refine Tr.Cl ?_
   |with_reducible refine Tr.skip ?_
   |with_reducible refine Tr.block ?_
   |with_reducible refine Tr.ret ?_
   |with_reducible refine Tr.exit ?_)
  |((with_reducible refine fId ?_);first
   |with_reducible refine Fin.AK ?_
   |with_reducible refine Fin.AS ?_
   |with_reducible refine Fin.AG ?_
   |with_reducible refine Fin.AX ?_
   |refine Fin.Fi rfl ?_
   |with_reducible refine Fin.block ?_)
 first|with_reducible refine Fin.go ?_|with_reducible refine cId ?_|with_reducible refine Zj ?_|with_reducible refine YW ?_|refine Fin.go ?_|skip
 exact k.k):H:=h ⟨k⟩
theorem ax {G H:Prop} (k:G) (h:R8 G→H:=by
 intro k
 repeat ((with_reducible refine hO ?_);first
   |(refine xG 1 rfl ?_;first
     |(refine xK 1 rfl ?_;refine xm rfl ?_)
     |(refine xK 2 rfl ?_;refine xo rfl (fun _=>oF) ?_)
     |(refine xK 3 rfl ?_;refine xo rfl (fun _=>oL) ?_)
     |(refine xK 4 rfl ?_;refine xo rfl (fun _=>oB) ?_))
   |(refine xG 2 rfl ?_;first
     |(refine xK 5 rfl ?_;refine xo rfl (fun _=>oP) ?_)
     |(refine xK 6 rfl ?_;refine xo rfl (fun _=>oN) ?_)
     |(refine xK 7 rfl ?_;refine xo rfl (fun _=>oA) ?_)
     |(refine xK 8 rfl ?_;refine xo rfl (fun _=>oS) ?_))
   |(refine xG 3 rfl ?_;first
     |(refine xK 9 rfl ?_;refine xo rfl (fun _=>oC) ?_)
     |(refine xK 10 rfl ?_;refine xo rfl (fun _=>oU) ?_)
     |(refine xK 11 rfl ?_;refine xo rfl (fun _=>oO) ?_)
     |(refine xK 12 rfl ?_;refine xo rfl (fun _=>oE) ?_)
     |(refine xK 13 rfl ?_;refine xo rfl (fun _=>oM) ?_)
     |(refine xK 14 rfl ?_;refine xo rfl (fun _=>oD) ?_))
   |(refine xK 3 rfl ?_;first
    |refine CA 0 rfl rfl (Gf rfl rfl rfl) ?_
    |refine CA 0 rfl rfl (Gg rfl rfl rfl rfl) ?_
    |refine CA 1 rfl rfl (Gf rfl rfl rfl) ?_
    |refine CA 1 rfl rfl (Gg rfl rfl rfl rfl) ?_
    |refine CA 2 rfl rfl (Gf rfl rfl rfl) ?_
    |refine CA 2 rfl rfl (Gg rfl rfl rfl rfl) ?_
    |refine CA 3 rfl rfl (Gf rfl rfl rfl) ?_
    |refine CA 3 rfl rfl (Gg rfl rfl rfl rfl) ?_
    |refine CA 4 rfl rfl (Gf rfl rfl rfl) ?_
    |refine CA 4 rfl rfl (Gg rfl rfl rfl rfl) ?_))
 exact k.k):H:=h ⟨k⟩
theorem ay {G H:Prop} (k:G) (h:R8 G→H:=by
 intro k
 repeat ((with_reducible refine hO ?_);first
   |(refine xG 1 rfl ?_;first
     |(refine xK 1 rfl ?_;refine xm rfl ?_)
     |(refine xK 2 rfl ?_;refine xo rfl (fun _=>oF) ?_)
     |(refine xK 3 rfl ?_;refine xo rfl (fun _=>oL) ?_)
     |(refine xK 4 rfl ?_;refine xo rfl (fun _=>oB) ?_))
   |(refine xG 2 rfl ?_;first
     |(refine xK 5 rfl ?_;refine xo rfl (fun _=>oP) ?_)
     |(refine xK 6 rfl ?_;refine xo rfl (fun _=>oN) ?_)
     |(refine xK 7 rfl ?_;refine xo rfl (fun _=>oA) ?_)
     |(refine xK 8 rfl ?_;refine xo rfl (fun _=>oS) ?_))
   |(refine xG 3 rfl ?_;first
     |(refine xK 9 rfl ?_;refine xo rfl (fun _=>oC) ?_)
     |(refine xK 10 rfl ?_;refine xo rfl (fun _=>oU) ?_)
     |(refine xK 11 rfl ?_;refine xo rfl (fun _=>oO) ?_)
     |(refine xK 12 rfl ?_;refine xo rfl (fun _=>oE) ?_)
     |(refine xK 13 rfl ?_;refine xo rfl (fun _=>oM) ?_)
     |(refine xK 14 rfl ?_;refine xo rfl (fun _=>oD) ?_))
   |(refine xK 3 rfl ?_;first
    |refine CA 0 rfl rfl (Gf rfl rfl rfl) ?_
    |refine CA 0 rfl rfl (Gg rfl rfl rfl rfl) ?_
    |refine CA 1 rfl rfl (Gf rfl rfl rfl) ?_
    |refine CA 1 rfl rfl (Gg rfl rfl rfl rfl) ?_
    |refine CA 2 rfl rfl (Gf rfl rfl rfl) ?_
    |refine CA 2 rfl rfl (Gg rfl rfl rfl rfl) ?_
    |refine CA 3 rfl rfl (Gf rfl rfl rfl) ?_
    |refine CA 3 rfl rfl (Gg rfl rfl rfl rfl) ?_
    |refine CA 4 rfl rfl (Gf rfl rfl rfl) ?_
    |refine CA 4 rfl rfl (Gg rfl rfl rfl rfl) ?_)
   |(refine xK 16 rfl ?_;first
    |refine Cx.B4 0 rfl rfl (M6 rfl rfl rfl rfl) ?_
    |refine Cx.B4 1 rfl rfl (M6 rfl rfl rfl rfl) ?_
    |refine Cx.B4 2 rfl rfl (M6 rfl rfl rfl rfl) ?_
    |refine Cx.B4 3 rfl rfl (M6 rfl rfl rfl rfl) ?_))
 exact k.k):H:=h ⟨k⟩
theorem Ch.cg {l:List Oper} {b v:Bool} {g j:Nat} {pt pf:Prop} [ht:Ll b true pt] [hf:Ll b false pf] (_:o.guard=some (j,v)) (_:(ops[j]?.bind (·.dst))=some g) (hb:E.lookup g=some (bool b)) (k:b=true→pt→Ch P n I ops (o::l) E K) (k':b=false→pf→Ch P n I ops (o::l) E K):Ch P n I ops (o::l) E K:=Ch.cases g hb (fun h=>k h (ht.V0 h)) (fun h=>k' h (hf.V0 h))
theorem a2 {G H:Prop} (k:G) (h:R8 G→H:=by
 intro k
 iterate 2 refine ac ?_
 exact k.k):H:=h ⟨k⟩
theorem a3 {G H:Prop} (k:G) (h:R8 G→H:=by
 intro k
 iterate 3 refine ac ?_
 exact k.k):H:=h ⟨k⟩
theorem an {G L H:Prop} (k:G) (l:L) (h:R8 G→R8 L→H:=by
 intro k l
 refine ac ?_
 refine Tr.cn rfl ?_ ?_
 exact k.k
 exact l.k):H:=h ⟨k⟩ ⟨l⟩
theorem ag {G L H:Prop} (k:G) (l:L) (h:R8 G→R8 L→H:=by
 intro k l
 refine ac ?_
 refine Ch.cg rfl rfl rfl ?_ ?_
 exact k.k
 exact l.k):H:=h ⟨k⟩ ⟨l⟩
theorem Lr {p:Pr}:Pr.le p p:=Pr.le_refl p
theorem Vo {p:Pr} [One p] (h:B3 E x=some p):VL E x (C2 [p]):=VL.le (vl h) (AQ p)
theorem Va {ps:List Pr} (h:B3 E x=some (agg ps)):VL E x (C2 ps):=VL.le (vl h) (E0 ps)
theorem Nb {a b:Nat} (h:Nat.ble a b=true):a≤b:=Nat.le_of_ble_eq_true h
theorem Kf {z:Nat} {l:List (List Pr)} (h:B3 E x=some (full z l)):VL E x (slice z l):=⟨_,h,BI z l⟩
theorem Ka {v:Value} (h:B3 E x=some (Ap v p)):VL E x (is v):=⟨_,h,JY v p⟩
theorem Kb {v:Value} (h:B3 E x=some (Ap v p)):VL E x p:=⟨_,h,Bj v p⟩
theorem Tl {M0:Av} {w0:World} {S:Nat→Prop} {rs:List Al} {T:TypeId} {zs:List Value} (hg:o.guard=none) (hd:o.dst=some d) (hn:Nat.blt d n=true) (ho:o.op= .alloc T) (hz:BZ P T=some zs) (h1':zs.all (·.oneCell')=true)
  (k:∀b,TO P n ops r ((d,is (.pointer (some ⟨b,0,none⟩)))::E) (Hp M0 w0 S (AB true b T (zs.map is)::rs)) Q):TO P n ops (o::r) E (Hp M0 w0 S rs) Q:=TO.alloc hg hd (EU hn) ho hz h1' k
theorem XH {M0:Av} {w0:World} {S:Nat→Prop} {t e:TypeId} {sz bytes:Nat} {zs:List Value} {rows Ab:List (List Pr)} {R:SR} (hg:o.guard=none) (hd:o.dst=some d) (hn:Nat.blt d n=true) (ho:o.op= .call { callee:= .builtin .append,args:= #[x,y],argTypes:= #[t,t] })
  (ht:P.underlying t=some (.slice e)) (hz:Ar P e=some sz) (hby:B6 P e=some bytes) (CY:BZ P e=some zs) (hx:VL E x (slice sz rows)) (hy:VL E y (slice sz Ab))
  (hR:∀M w (a:Act),Bt M w E o a→R.at_ a=BR e sz (a.eval x)∨(R.at_ a=BP∧B5 (a.eval x)=none)) (hzl:zs.length=sz:=by rfl) (hsz:Nat.blt 0 sz=true:=by rfl)
  (Cy:rows.length+Ab.length≤maxLen:=by simp only [List.length_map,List.length_append,List.length_cons,List.length_nil,List.length_replicate,List.length_take,List.length_drop];unfold maxLen;omega) (hfit:(rows.length+Ab.length)*bytes≤140737488355328:=by simp only [List.length_map,List.length_append,List.length_cons,List.length_nil,List.length_replicate,List.length_take,List.length_drop];omega):DC P M0 w0 S n j R ⟨d,BR e sz⟩ o E (slice sz (rows++Ab)):=Bs hg hd (EU hn) ho ht hz hby CY hzl (EU hsz) hx hy Cy hfit hR
end
end Cp
namespace Go.Proofs.YtgilhkjlfongoaaGreat
open Go Cp
instance cB:TM Tryz.prog:=⟨mixed⟩
instance jh:TV Tryz.prog 3 [.int .i64 0]:=⟨z3,dW⟩
instance ew:T1 Tryz.prog 3:=⟨CE⟩
instance h_:TZ Tryz.prog 3 1:=⟨DB⟩
instance ez:T1 Tryz.prog 5:=⟨dX⟩
instance ji:TV Tryz.prog 9 [.string (ByteArray.mk #[])]:=⟨z9,jH⟩
instance e7:T1 Tryz.prog 9:=⟨Kg⟩
instance iA:TZ Tryz.prog 9 1:=⟨I5⟩
instance Tk:TU Tryz.prog 9 .string:=⟨Tryz.underlying9⟩
instance cC:T1 Tryz.prog 22:=⟨Fo⟩
instance R9:TU Tryz.prog 22 (.slice 3):=⟨Tryz.underlying22⟩
instance e8:TB Tryz.prog 24 (fun i=>(#[(0,1),(1,1)]:Array (Nat×Nat))[i]?) (List.replicate 2 (.int .i64 0)):=⟨dZ,dc⟩
instance cE:TA Tryz.prog 24:=⟨Ri⟩
instance e9:TZ Tryz.prog 24 2:=⟨Wk⟩
instance Zk:TF Tryz.prog 24 0 0:=⟨Wl⟩
instance Zl:TF Tryz.prog 24 1 1:=⟨Wm⟩
instance iB:TV Tryz.prog 26 [.int .i64 0,.string (ByteArray.mk #[]),.int .i64 0,.int .i64 0,.int .i64 0,.int .i64 0,.string (ByteArray.mk #[]),.int .i64 0,.int .i64 0,.int .i64 0,.string (ByteArray.mk #[])]:=⟨E6,GZ⟩
instance cF:TA Tryz.prog 26:=⟨Ac⟩
instance e_:TZ Tryz.prog 26 11:=⟨AH⟩
instance Zm:TF Tryz.prog 26 0 0:=⟨Wn⟩
instance Zn:TF Tryz.prog 26 1 1:=⟨Rj⟩
instance Zo:TF Tryz.prog 26 2 2:=⟨Lq⟩
instance Zp:TF Tryz.prog 26 3 3:=⟨Ga⟩
instance Zq:TF Tryz.prog 26 4 4:=⟨Wo⟩
instance Zr:TF Tryz.prog 26 5 5:=⟨Wp⟩
instance Zs:TF Tryz.prog 26 6 6:=⟨Wq⟩
instance Zt:TF Tryz.prog 26 7 7:=⟨Wr⟩
instance Zu:TF Tryz.prog 26 8 9:=⟨Ws⟩
instance Zv:TF Tryz.prog 26 9 10:=⟨Wt⟩
instance cH:T1 Tryz.prog 31:=⟨Y8⟩
instance R_:TU Tryz.prog 31 (.slice 26):=⟨Tryz.underlying31⟩
instance SA:TU Tryz.prog 35 (.slice 55):=⟨Tryz.underlying35⟩
instance SB:TU Tryz.prog 39 (.slice 57):=⟨Tryz.underlying39⟩
instance SC:TU Tryz.prog 53 (.slice 9):=⟨Tryz.underlying53⟩
instance fA:TB Tryz.prog 55 (fun i=>(#[(0,1),(1,1),(2,1),(3,1)]:Array (Nat×Nat))[i]?) [.int .i64 0,.slice none 0 0,.slice none 0 0,.slice none 0 0]:=⟨dj,T3⟩
instance iC:TV Tryz.prog 55 [.int .i64 0,.slice none 0 0,.slice none 0 0,.slice none 0 0]:=⟨bq,T3⟩
instance fB:TZ Tryz.prog 55 4:=⟨EW⟩
instance Zw:TF Tryz.prog 55 0 0:=⟨Wu⟩
instance Zx:TF Tryz.prog 55 1 1:=⟨Gb⟩
instance Zy:TF Tryz.prog 55 2 2:=⟨E7⟩
instance Zz:TF Tryz.prog 55 3 3:=⟨Wv⟩
instance fC:TB Tryz.prog 57 (fun i=>(#[(0,1),(1,1),(2,1)]:Array (Nat×Nat))[i]?) [.int .i64 0,.int .i64 0,.slice none 0 0]:=⟨dn,Y9⟩
instance iD:TV Tryz.prog 57 [.int .i64 0,.int .i64 0,.slice none 0 0]:=⟨gl,Y9⟩
instance fD:TZ Tryz.prog 57 3:=⟨AZ⟩
instance Z0:TF Tryz.prog 57 0 0:=⟨Rk⟩
instance Z1:TF Tryz.prog 57 1 1:=⟨Ww⟩
instance fE:TB Tryz.prog 92 (fun i=>(#[(0,1),(1,1)]:Array (Nat×Nat))[i]?) (List.replicate 2 (.int .i64 0)):=⟨dw,Wy⟩
instance cI:TA Tryz.prog 92:=⟨Y_⟩
instance fF:TZ Tryz.prog 92 2:=⟨dr⟩
instance Z2:TF Tryz.prog 92 0 0:=⟨Wz⟩
instance Z3:TF Tryz.prog 92 1 1:=⟨W0⟩
instance cJ:T1 Tryz.prog 96:=⟨ZA⟩
instance cL:TB Tryz.prog 126 (fun i=>some (i*1,1)) (List.replicate 400 (.int .i64 0)):=⟨ZB,ZC⟩
instance Z4:T1 Tryz.prog 143:=⟨W4⟩
instance Z5:T1 Tryz.prog 144:=⟨W6⟩
instance Z6:T1 Tryz.prog 146:=⟨W7⟩
instance RE:TU Tryz.prog 175 (.slice 5):=⟨Tryz.underlying175⟩
instance Z7:T1 Tryz.prog 189:=⟨W8⟩
instance cM:TZ Tryz.prog 189 1:=⟨ZD⟩
instance cN:TB Tryz.prog 196 (fun i=>(#[(0,1),(1,1),(2,1),(3,1),(4,1)]:Array (Nat×Nat))[i]?) [.string (ByteArray.mk #[]),.int .i64 0,.int .i64 0,.slice none 0 0,.slice none 0 0]:=⟨CL,B7⟩
instance cO:TZ Tryz.prog 196 5:=⟨Ku⟩
instance YX:TF Tryz.prog 196 1 1:=⟨T4⟩
instance YY:TF Tryz.prog 196 2 2:=⟨T5⟩
instance YZ:TF Tryz.prog 196 3 3:=⟨T6⟩
instance Ya:TF Tryz.prog 196 4 4:=⟨T7⟩
instance cQ:TB Tryz.prog 201 (fun i=>(#[(0,1),(1,1)]:Array (Nat×Nat))[i]?) [.string (ByteArray.mk #[]),.int .i64 0]:=⟨ZF,V7⟩
instance fG:TV Tryz.prog 201 [.string (ByteArray.mk #[]),.int .i64 0]:=⟨z201,V7⟩
instance cR:TZ Tryz.prog 201 2:=⟨V6⟩
instance Yb:TF Tryz.prog 201 1 1:=⟨T8⟩
instance RF:TU Tryz.prog 202 (.slice 201):=⟨Tryz.underlying202⟩
instance cT:TB Tryz.prog 217 (fun i=>some (i*5,5)) [.string (ByteArray.mk #[]),.int .i64 0,.int .i64 0,.slice none 0 0,.slice none 0 0,.string (ByteArray.mk #[]),.int .i64 0,.int .i64 0,.slice none 0 0,.slice none 0 0,.string (ByteArray.mk #[]),.int .i64 0,.int .i64 0,.slice none 0 0,.slice none 0 0,.string (ByteArray.mk #[]),.int .i64 0,.int .i64 0,.slice none 0 0,.slice none 0 0,.string (ByteArray.mk #[]),.int .i64 0,.int .i64 0,.slice none 0 0,.slice none 0 0,.string (ByteArray.mk #[]),.int .i64 0,.int .i64 0,.slice none 0 0,.slice none 0 0,.string (ByteArray.mk #[]),.int .i64 0,.int .i64 0,.slice none 0 0,.slice none 0 0,.string (ByteArray.mk #[]),.int .i64 0,.int .i64 0,.slice none 0 0,.slice none 0 0,.string (ByteArray.mk #[]),.int .i64 0,.int .i64 0,.slice none 0 0,.slice none 0 0,.string (ByteArray.mk #[]),.int .i64 0,.int .i64 0,.slice none 0 0,.slice none 0 0,.string (ByteArray.mk #[]),.int .i64 0,.int .i64 0,.slice none 0 0,.slice none 0 0,.string (ByteArray.mk #[]),.int .i64 0,.int .i64 0,.slice none 0 0,.slice none 0 0,.string (ByteArray.mk #[]),.int .i64 0,.int .i64 0,.slice none 0 0,.slice none 0 0,.string (ByteArray.mk #[]),.int .i64 0,.int .i64 0,.slice none 0 0,.slice none 0 0,.string (ByteArray.mk #[]),.int .i64 0,.int .i64 0,.slice none 0 0,.slice none 0 0,.string (ByteArray.mk #[]),.int .i64 0,.int .i64 0,.slice none 0 0,.slice none 0 0,.string (ByteArray.mk #[]),.int .i64 0,.int .i64 0,.slice none 0 0,.slice none 0 0,.string (ByteArray.mk #[]),.int .i64 0,.int .i64 0,.slice none 0 0,.slice none 0 0,.string (ByteArray.mk #[]),.int .i64 0,.int .i64 0,.slice none 0 0,.slice none 0 0,.string (ByteArray.mk #[]),.int .i64 0,.int .i64 0,.slice none 0 0,.slice none 0 0,.string (ByteArray.mk #[]),.int .i64 0,.int .i64 0,.slice none 0 0,.slice none 0 0,.string (ByteArray.mk #[]),.int .i64 0,.int .i64 0,.slice none 0 0,.slice none 0 0,.string (ByteArray.mk #[]),.int .i64 0,.int .i64 0,.slice none 0 0,.slice none 0 0]:=⟨ZG,V9⟩
instance cU:TZ Tryz.prog 217 115:=⟨V8⟩
instance cV:TB Tryz.prog 223 (fun i=>some (i*1,1)) (List.replicate 2 (.int .i64 0)):=⟨ZH,WA⟩
instance cW:TZ Tryz.prog 223 2:=⟨V_⟩
instance cX:TB Tryz.prog 224 (fun i=>some (i*2,2)) (List.replicate 10 (.int .i64 0)):=⟨ZI,ZJ⟩
end Go.Proofs.YtgilhkjlfongoaaGreat
namespace Go.Proofs.YtgilhkjlfongoaaGreat
open Go Go.RowKit Cp Go.Proofs.Tryz
abbrev ints (l:List Int):Pr:=slice 1 (l.map fun n=>[int n])
def idx {β:Type} (p:β→Bool) (l:List β):Int:=match l.findIdx? p with|some i=>i|none=> -1
theorem HW {β:Type} {p:β→Bool} {l:List β} {k:Nat} {x:β} (hx:l[k]? =some x) (hp:p x=true) (h:∀j y,j<k→l[j]? =some y→p y=false):(k:Int)=idx p l:=by
 have:l.findIdx? p=some k:=by
  rw [List.findIdx?_eq_some_iff_getElem]
  have hk:k<l.length:=by rcases Nat.lt_or_ge k l.length with h|h;exact h;rw [List.getElem?_eq_none h] at hx;cases hx
  rw [List.getElem?_eq_getElem hk] at hx
  simp only [Option.some.injEq] at hx
  refine ⟨hk,by rw [hx];exact hp,fun j hj=> ?_⟩
  simpa using h j _ hj (List.getElem?_eq_getElem (by omega))
 unfold idx;rw [this]
theorem Jy {β:Type} {p:β→Bool} {l:List β} (h:∀j y,j<l.length→l[j]? =some y→p y=false):(-1:Int)=idx p l:=by
 have:l.findIdx? p=none:=by
  rw [List.findIdx?_eq_none_iff]
  intro x hx
  obtain ⟨j,hj,rfl⟩:=List.mem_iff_getElem.1 hx
  exact h j _ hj (List.getElem?_eq_getElem hj)
 unfold idx;rw [this]
theorem Ph {β:Type} (p:β→Bool) (l:List β):decide (idx p l≥0)=l.any p:=by
 unfold idx
 cases h:l.findIdx? p with
 |none=>rw [List.findIdx?_eq_none_iff] at h;simp;intro x hx;simpa using h x hx
 |some i=>
  rw [List.findIdx?_eq_some_iff_getElem] at h
  obtain ⟨h1,h2,_⟩:=h
  simp
  exact ⟨_,List.getElem_mem h1,h2⟩
theorem FB {β:Type} {p:β→Bool} {l:List β} {k:Nat} {x:β} (hx:l[k]? =some x) (hp:p x=false) (h:∀j y,j<k→l[j]? =some y→p y=false):∀j y,j<k+1→l[j]? =some y→p y=false:=by
 intro j y hj hy
 by_cases hjk:j=k
 · subst hjk;rw [hx] at hy;cases hy;exact hp
 · exact h j y (by omega) hy
theorem M7 {l:List Int} {v:Int}  :Bb prog 109 [ints l,int v] (int (idx (fun x=>v==x) l)):=by
 refine fo func109 rfl ⟨rfl,rfl⟩ fun M0 w0=>(Tr.HN 0 rfl fun G4=> ?_)
 refine a2 ?_
 refine Tr.block (Tr.BX [(0,_),(1,_),(7,_)] (QN rfl) (fun k:Nat=>[(8,int ((k:Nat):Int))]) (fun k:Nat=>k≤(l).length∧(∀j y,j<k→l[j]? =some y→(v==y)=false)) (fun k:Nat=>(l).length-k) 0 (⟨Nat.zero_le _,fun j y hj=>absurd hj (by omega)⟩) ⟨ke rfl,trivial⟩ ?_)
 rintro k ⟨DH,A0⟩
 refine ac ?_
 refine Tr.seq ?_
 refine Tr.cn rfl ?_ ?_<;>intro h1 q1
 have A5:k<(l).length:=A_ h1
 obtain ⟨x,A2⟩:=at_ A5
 · repeat' first|exact int_eq (HW (p:=fun x=>v==x) A2 (by assumption) A0)|exact Fin.AF (k+1) ⟨⟨A5,FB (p:=fun x=>v==x) A2 (by assumption) A0⟩,by omega⟩ ⟨⟨_,rfl,Ad k⟩,ke rfl,ke rfl,ke rfl,trivial⟩|refine co rfl (AL rfl underlying22 DB (vl rfl) (vl rfl) (by omega) (by exact BN (by assumption))) ?_|refine ac ?_|(refine Tr.cn rfl ?_ ?_<;>intro h q)
 have CK:k=(l).length:=by have:=BA h1;omega
 subst CK
 refine a3 ?_
 · exact int_eq (Jy A0)
theorem IL {l:List Int} {v:Int}  :Bb prog 66 [ints l,int v] (bool (l.any fun x=>v==x)):=by
 refine fo func66 rfl ⟨rfl,rfl⟩ fun M0 w0=> ?_
 refine a2 ?_
 refine co rfl (Jx (M7) rfl rfl rfl) ?_
 refine a2 ?_
 · exact bool_eq (Ph _ l)
theorem WI {d:Nat} {w:World} {x0 y0:Int} {x1 y1:Int}:(Op.equalIn (d+2) 24 (.agg #[.int .i64 x0,.int .i64 x1]) (.agg #[.int .i64 y0,.int .i64 y1])).run Tryz.prog w= .ok (decide (x0=y0∧x1=y1)) w:=by
 have h:=eA (w:=w) (d:=d+1) (xs:= #[.int .i64 x0,.int .i64 x1]) (ys:= #[.int .i64 y0,.int .i64 y1]) Tryz.underlying24 (by kernel_rfl) (B1 (by decide) (As CE rfl) (As CE rfl) (C7 (d:=d+0) Tryz.underlying3) (B1 (by decide) (As CE rfl) (As CE rfl) (C7 (d:=d+0) Tryz.underlying3) (Lu)))
 refine h.trans (congrArg (fun b=>Result.ok b w) ?_)
 rw [Bool.eq_iff_iff];simp [and_assoc]
theorem L5 {E:Env} {I:Bq} {o:Oper} {u:TypeId} {x y:Operand} {x0 y0:Int} {x1 y1:Int} (ho:o.op= .binOp .eql 24 x y u) (hx:VL E x (agg [is (.int .i64 x0),is (.int .i64 x1)])) (hy:VL E y (agg [is (.int .i64 y0),is (.int .i64 y1)])):AW Tryz.prog I o E (bool (decide (x0=y0∧x1=y1))):=
 Mn [.int .i64 x0,.int .i64 x1] [.int .i64 y0,.int .i64 y1] ho hx hy (by kernel_rfl) (fun w=>by rw [show Op.equal 24 _ _=Op.equalIn (9998+2) 24 _ _ from rfl];exact WI)
theorem WJ {d:Nat} {w:World} {x0 y0:Int} {x1 y1:List UInt8} {x2 y2:Int} {x3 y3:Int} {x4 y4:Int} {x5 y5:Int} {x6 y6:List UInt8} {x7 y7:Int} {x8 y8:Int} {x9 y9:Int} {SD SE:List UInt8}:(Op.equalIn (d+3) 26 (.agg #[.int .i64 x0,.string ⟨x1.toArray⟩,.int .i64 x2,.int .i64 x3,.int .i64 x4,.int .i64 x5,.string ⟨x6.toArray⟩,.int .i64 x7,.int .i64 x8,.int .i64 x9,.string ⟨SD.toArray⟩]) (.agg #[.int .i64 y0,.string ⟨y1.toArray⟩,.int .i64 y2,.int .i64 y3,.int .i64 y4,.int .i64 y5,.string ⟨y6.toArray⟩,.int .i64 y7,.int .i64 y8,.int .i64 y9,.string ⟨SE.toArray⟩])).run Tryz.prog w= .ok (decide (x0=y0∧x1=y1∧x2=y2∧x3=y3∧x4=y4∧x5=y5∧x6=y6∧x7=y7∧x8=y8∧x9=y9∧SD=SE)) w:=by
 have h:=eA (w:=w) (d:=d+2) (xs:= #[.int .i64 x0,.string ⟨x1.toArray⟩,.int .i64 x2,.int .i64 x3,.int .i64 x4,.int .i64 x5,.string ⟨x6.toArray⟩,.int .i64 x7,.int .i64 x8,.int .i64 x9,.string ⟨SD.toArray⟩]) (ys:= #[.int .i64 y0,.string ⟨y1.toArray⟩,.int .i64 y2,.int .i64 y3,.int .i64 y4,.int .i64 y5,.string ⟨y6.toArray⟩,.int .i64 y7,.int .i64 y8,.int .i64 y9,.string ⟨SE.toArray⟩]) Tryz.underlying26 (by kernel_rfl) (B1 (by decide) (As CE rfl) (As CE rfl) (C7 (d:=d+1) Tryz.underlying3) (B1 (by decide) (As Kg rfl) (As Kg rfl) (Lv (d:=d+1) Tryz.underlying9) (B1 (by decide) (As CE rfl) (As CE rfl) (C7 (d:=d+1) Tryz.underlying3) (B1 (by decide) (As CE rfl) (As CE rfl) (C7 (d:=d+1) Tryz.underlying3) (B1 (by decide) (As CE rfl) (As CE rfl) (C7 (d:=d+1) Tryz.underlying3) (B1 (by decide) (As CE rfl) (As CE rfl) (C7 (d:=d+1) Tryz.underlying3) (B1 (by decide) (As Kg rfl) (As Kg rfl) (Lv (d:=d+1) Tryz.underlying9) (B1 (by decide) (Mo Ri Wk rfl) (Mo Ri Wk rfl) (WI (d:=d+0) (w:=w)) (B1 (by decide) (As CE rfl) (As CE rfl) (C7 (d:=d+1) Tryz.underlying3) (B1 (by decide) (As Kg rfl) (As Kg rfl) (Lv (d:=d+1) Tryz.underlying9) (Lu)))))))))))
 refine h.trans (congrArg (fun b=>Result.ok b w) ?_)
 rw [Bool.eq_iff_iff];simp [and_assoc]
theorem UQ {E:Env} {I:Bq} {o:Oper} {u:TypeId} {x y:Operand} {x0 y0:Int} {x1 y1:List UInt8} {x2 y2:Int} {x3 y3:Int} {x4 y4:Int} {x5 y5:Int} {x6 y6:List UInt8} {x7 y7:Int} {x8 y8:Int} {x9 y9:Int} {SD SE:List UInt8} (ho:o.op= .binOp .eql 26 x y u) (hx:VL E x (agg [is (.int .i64 x0),str x1,is (.int .i64 x2),is (.int .i64 x3),is (.int .i64 x4),is (.int .i64 x5),str x6,is (.int .i64 x7),is (.int .i64 x8),is (.int .i64 x9),str SD])) (hy:VL E y (agg [is (.int .i64 y0),str y1,is (.int .i64 y2),is (.int .i64 y3),is (.int .i64 y4),is (.int .i64 y5),str y6,is (.int .i64 y7),is (.int .i64 y8),is (.int .i64 y9),str SE])):AW Tryz.prog I o E (bool (decide (x0=y0∧x1=y1∧x2=y2∧x3=y3∧x4=y4∧x5=y5∧x6=y6∧x7=y7∧x8=y8∧x9=y9∧SD=SE))):=
 Mn [.int .i64 x0,.string ⟨x1.toArray⟩,.int .i64 x2,.int .i64 x3,.int .i64 x4,.int .i64 x5,.string ⟨x6.toArray⟩,.int .i64 x7,.int .i64 x8,.int .i64 x9,.string ⟨SD.toArray⟩] [.int .i64 y0,.string ⟨y1.toArray⟩,.int .i64 y2,.int .i64 y3,.int .i64 y4,.int .i64 y5,.string ⟨y6.toArray⟩,.int .i64 y7,.int .i64 y8,.int .i64 y9,.string ⟨SE.toArray⟩] ho hx hy (by kernel_rfl) (fun w=>by rw [show Op.equal 26 _ _=Op.equalIn (9997+3) 26 _ _ from rfl];exact WJ)
theorem UR {E:Env} {I:Bq} {o:Oper} {u:TypeId} {x y:Operand} {x0 y0:Int} {x1 y1:List UInt8} {x2 y2:Int} {x3 y3:Int} {x4 y4:Int} {x5 y5:Int} {x6 y6:List UInt8} {x7 y7:Int} {x8 y8:Int} {x9 y9:Int} {SD SE:List UInt8} (ho:o.op= .binOp .neq 26 x y u) (hx:VL E x (agg [is (.int .i64 x0),str x1,is (.int .i64 x2),is (.int .i64 x3),is (.int .i64 x4),is (.int .i64 x5),str x6,is (.int .i64 x7),is (.int .i64 x8),is (.int .i64 x9),str SD])) (hy:VL E y (agg [is (.int .i64 y0),str y1,is (.int .i64 y2),is (.int .i64 y3),is (.int .i64 y4),is (.int .i64 y5),str y6,is (.int .i64 y7),is (.int .i64 y8),is (.int .i64 y9),str SE])):AW Tryz.prog I o E (bool (!decide (x0=y0∧x1=y1∧x2=y2∧x3=y3∧x4=y4∧x5=y5∧x6=y6∧x7=y7∧x8=y8∧x9=y9∧SD=SE))):=
 Rn [.int .i64 x0,.string ⟨x1.toArray⟩,.int .i64 x2,.int .i64 x3,.int .i64 x4,.int .i64 x5,.string ⟨x6.toArray⟩,.int .i64 x7,.int .i64 x8,.int .i64 x9,.string ⟨SD.toArray⟩] [.int .i64 y0,.string ⟨y1.toArray⟩,.int .i64 y2,.int .i64 y3,.int .i64 y4,.int .i64 y5,.string ⟨y6.toArray⟩,.int .i64 y7,.int .i64 y8,.int .i64 y9,.string ⟨SE.toArray⟩] ho hx hy (by kernel_rfl) (fun w=>by rw [show Op.equal 26 _ _=Op.equalIn (9997+3) 26 _ _ from rfl];exact WJ)
def An (a b:Int):Int:=if a<b then -1 else if b<a then 1 else 0
theorem Dw {a b:Int}:An a b=0↔a=b:=by unfold An;by_cases h1:a<b<;>by_cases h2:b<a<;>simp [h1,h2]<;>omega
def Yc (l:List Int):Int:=(l.find? fun x=>x !=0).getD 0
theorem Pj {l:List Int} {k:Nat} {x:Int} (hx:l[k]? =some x) (h0:¬x=0) (h:∀j y,j<k→l[j]? =some y→(y !=0)=false):x=Yc l:=by
 unfold Yc
 have:l.find? (fun x=>x !=0)=some x:=by
  rw [List.find?_eq_some_iff_getElem]
  have hk:k<l.length:=by rcases Nat.lt_or_ge k l.length with h|h;exact h;rw [List.getElem?_eq_none h] at hx;cases hx
  rw [List.getElem?_eq_getElem hk] at hx
  simp only [Option.some.injEq] at hx
  refine ⟨by simpa using h0,k,hk,hx,fun j hj=> ?_⟩
  have:=h j _ hj (List.getElem?_eq_getElem (by omega))
  simpa using this
 rw [this];rfl
theorem M8 {l:List Int} (h:∀j y,j<l.length→l[j]? =some y→(y !=0)=false):0=Yc l:=by
 unfold Yc
 have:l.find? (fun x=>x !=0)=none:=by
  rw [List.find?_eq_none]
  intro x hx
  obtain ⟨j,hj,rfl⟩:=List.mem_iff_getElem.1 hx
  have:=h j _ hj (List.getElem?_eq_getElem hj)
  simpa using this
 rw [this];rfl
def SF (c:UInt8):Bool:=decide (33≤c.toNat∧c.toNat≤126)
def named (s:List UInt8):Bool:=s.all SF&&decide (1≤s.length∧s.length≤32)
theorem Pk {β:Type} {p:β→Bool} {l:List β} {k:Nat} {x:β} (hx:l[k]? =some x) (hp:p x=false):l.all p=false:=by
 rw [Bool.eq_false_iff];intro h;rw [List.all_eq_true] at h;rw [h x (List.mem_of_getElem? hx)] at hp;cases hp
theorem L6 {β:Type} {p:β→Bool} {l:List β} (h:∀j y,j<l.length→l[j]? =some y→(!p y)=false):l.all p=true:=by
 rw [List.all_eq_true]
 intro y hy
 obtain ⟨j,hj⟩:=List.mem_iff_getElem?.1 hy
 have:=h j y (by rcases Nat.lt_or_ge j l.length with h|h;exact h;rw [List.getElem?_eq_none h] at hj;cases hj) hj
 simpa using this
theorem M9 {n:Int}  :Bb prog 101 [int n] (bool false):=by
 refine fo func101 rfl ⟨rfl,rfl⟩ fun M0 w0=> ?_
 refine a3 ?_
 · exact bool_eq (by simp)
theorem HX {a b:Int}  :Bb prog 59 [int a,int b] (int (An a b)):=by
 refine fo func59 rfl ⟨rfl,rfl⟩ fun M0 w0=> ?_
 · repeat' first|exact absurd h (by decide)|(refine int_eq ?_;unfold An;(repeat split)<;>omega)|refine co rfl (EC (M9) rfl rfl) ?_|refine ac ?_|(refine Tr.cn rfl ?_ ?_<;>intro h q)
theorem WK {l:List Int}  :Bb prog 58 [ints l] (int (Yc l)):=by
 refine fo func58 rfl ⟨rfl,rfl⟩ fun M0 w0=>(Tr.HN 0 rfl fun G4=> ?_)
 refine a3 ?_
 refine Tr.block (Tr.BX [(3,_),(6,_),(7,_)] (QN rfl) (fun k:Nat=>[(8,int ((k:Nat):Int))]) (fun k:Nat=>k≤(l).length∧(∀j y,j<k→l[j]? =some y→(y !=0)=false)) (fun k:Nat=>(l).length-k) 0 (⟨Nat.zero_le _,fun j y hj=>absurd hj (by omega)⟩) ⟨ke rfl,trivial⟩ ?_)
 rintro k ⟨DH,A0⟩
 refine ac ?_
 refine Tr.seq ?_
 refine Tr.cn rfl ?_ ?_<;>intro h1 q1
 have A5:k<(l).length:=A_ h1
 obtain ⟨x,A2⟩:=at_ A5
 refine ac ?_
 refine Tr.seq (Tr.block (Tr.seq (Tr.BK (co rfl (AL rfl underlying22 DB (vl rfl) (vl rfl) (by omega) (by exact BN (by assumption))) ?_))))
 · repeat' first|exact int_eq (Pj A2 (by assumption) A0)|exact Fin.AF (k+1) ⟨⟨A5,FB (p:=fun y=>y !=0) A2 (by simpa using by assumption) A0⟩,by omega⟩ ⟨⟨_,rfl,Ad k⟩,ke rfl,ke rfl,ke rfl,trivial⟩|refine ac ?_|(refine Tr.cn rfl ?_ ?_<;>intro h q)
 have CK:k=(l).length:=by have:=BA h1;omega
 subst CK
 refine a3 ?_
 · exact int_eq (M8 A0)
theorem US {a b:List UInt8}  :Bb prog 172 [str a,str b] (int (Lib.compareBytes a b)):=by
 refine fo func172 rfl ⟨rfl,rfl⟩ fun M0 w0=> ?_
 refine a2 ?_
 refine co rfl (QO rfl func200 (by kernel_rfl) (by kernel_rfl) (by kernel_rfl) (by kernel_rfl) (vl rfl) (vl rfl)) ?_
 refine a2 ?_
 · exact Lr
theorem XI {a b:List UInt8}  :Bb prog 115 [str a,str b] (int (Lib.compareBytes a b)):=by
 refine fo func115 rfl ⟨rfl,rfl⟩ fun M0 w0=> ?_
 refine a2 ?_
 refine co rfl (Jx (US) rfl rfl rfl) ?_
 refine a2 ?_
 · exact Lr
theorem L7 {s:List UInt8} (hs:s.length≤maxLen):Bb prog 104 [str s] (bool (named s)):=by
 refine fo func104 rfl ⟨rfl,rfl⟩ fun M0 w0=> ?_
 refine a2 ?_
 refine co rfl (Rm rfl underlying9 underlying175 underlying5 (vl rfl) (by assumption)) ?_
 refine ac ?_
 refine Tr.block (Tr.HN 6 rfl fun k8=>(Tr.BX [(0,_),(6,_),(7,_)] (QN rfl) (fun k:Nat=>[(8,int ((k:Nat):Int))]) (fun k:Nat=>k≤(s).length∧(∀j y,j<k→s[j]? =some y→(!SF y)=false)) (fun k:Nat=>(s).length-k) 0 (⟨Nat.zero_le _,fun j y hj=>absurd hj (by omega)⟩) ⟨ke rfl,trivial⟩ ?_))
 rintro k ⟨DH,A0⟩
 refine ac ?_
 refine Tr.seq ?_
 refine Tr.cn rfl ?_ ?_<;>intro h1 q1
 have A5:k<(s).length:=A_ h1
 obtain ⟨c,A2⟩:=at_ A5
 refine ac ?_
 refine Tr.seq (Tr.block (Tr.seq (Tr.BK (co rfl (AL rfl underlying175 jG (vl rfl) (vl rfl) (by omega) (by exact BN (by assumption))) ?_))))
 · repeat' first|(refine bool_eq ?_;unfold named;rw [Pk (p:=SF) A2 (by simp [SF];omega)];rfl)|(exact Fin.AF (k+1) ⟨⟨A5,FB (p:=fun c=> !SF c) A2 (by simp [SF];omega) A0⟩,by omega⟩ ⟨⟨_,rfl,Ad k⟩,ke rfl,ke rfl,ke rfl,trivial⟩)|refine ac ?_|(refine Tr.cn rfl ?_ ?_<;>intro h q)|(refine Ch.cg rfl rfl rfl ?_ ?_<;>intro h q)
 have CK:k=(s).length:=by have:=BA h1;omega
 subst CK
 · repeat' first|(refine bool_eq ?_;unfold named;rw [L6 A0,Bool.true_and];rw [decide_eq_decide];omega)|(refine bool_eq ?_;unfold named;rw [L6 A0,Bool.true_and];(symm;rw [decide_eq_false_iff_not];omega))|refine ac ?_|(refine Ch.cg rfl rfl rfl ?_ ?_<;>intro h q)
theorem L8 {s:List UInt8}  :Bb prog 106 [str s] (bool (named s)):=by
 refine fo func106 rfl ⟨rfl,rfl⟩ fun M0 w0=> ?_
 refine ac ?_
 refine ag ?_ ?_<;>intro h1 q1
 refine a3 ?_
 · refine bool_eq ?_;unfold named;rw [Bool.and_eq_false_iff.2 (.inr (by simp;omega))]
 refine an ?_ ?_<;>intro h2 q2
 refine a2 ?_
 · refine bool_eq ?_;unfold named;rw [Bool.and_eq_false_iff.2 (.inr (by simp;omega))]
 refine a2 ?_
 refine Tr.block (Tr.BX [(0,_)] ⟨ke rfl,trivial⟩ (fun k:Nat=>[(3,int ((k:Nat):Int))]) (fun k:Nat=>k≤(s).length∧(∀j y,j<k→s[j]? =some y→(!SF y)=false)) (fun k:Nat=>(s).length-k) 0 (⟨Nat.zero_le _,fun j y hj=>absurd hj (by omega)⟩) ⟨ke rfl,trivial⟩ ?_)
 rintro k ⟨DH,A0⟩
 refine an ?_ ?_<;>intro h3 q3
 have A5:k<(s).length:=A_ h3
 obtain ⟨c,A2⟩:=at_ A5
 · repeat' first|(refine bool_eq ?_;unfold named;rw [Pk (p:=SF) A2 (by simp [SF];omega)];rfl)|(exact Fin.AF (k+1) ⟨⟨A5,FB (p:=fun c=> !SF c) A2 (by simp [SF];omega) A0⟩,by omega⟩ ⟨⟨_,rfl,Ad k⟩,ke rfl,trivial⟩)|refine co rfl (Lt rfl underlying9 (vl rfl) (vl rfl) (by omega) (PR (by assumption))) ?_|refine cy h rfl (Lt rfl underlying9 (vl rfl) (vl rfl) (by omega) (PR (by assumption))) ?_|refine ac ?_|(refine Tr.cn rfl ?_ ?_<;>intro h q)|(refine Ch.cg rfl rfl rfl ?_ ?_<;>intro h q)
 have CK:k=(s).length:=by have:=BA h3;omega
 subst CK
 refine a3 ?_
 · refine bool_eq ?_;unfold named;rw [L6 A0,Bool.true_and];symm;rw [decide_eq_true_eq];omega
structure L9 where
 name:List UInt8
 kind:Int
 way:Int
 sizes:List Int
 DL:List Int
abbrev XJ (r:L9):List Pr:=[str r.name,int r.kind,int r.way,ints r.sizes,ints r.DL]
def D2:List L9:=[⟨[],0,0,[],[]⟩,⟨[109,100,53],1,0,[],[18]⟩,⟨[115,104,97,49],1,0,[],[60]⟩,⟨[115,104,97,50,53,54],1,0,[],[128]⟩,⟨[115,104,97,51,56,52],1,0,[],[192]⟩,⟨[114,115,97],2,1,[],[]⟩,⟨[100,115,97],2,1,[],[]⟩,⟨[101,99,100,115,97],2,2,[],[]⟩,⟨[101,100,50,53,53,49,57],2,0,[],[128]⟩,⟨[109,108,100,115,97],2,3,[44,65,87],[128,192,256]⟩,⟨[114,115,97,107,120],3,1,[],[]⟩,⟨[100,104,101],3,1,[],[]⟩,⟨[101,99,100,104,101],3,2,[],[]⟩,⟨[109,108,107,101,109],3,3,[512,768,1024],[128,192,256]⟩,⟨[114,99,52],4,3,[40,128],[40,60]⟩,⟨[100,101,115,51],4,3,[112,168],[80,112]⟩,⟨[97,101,115,99,98,99],4,3,[128,256],[128,256]⟩,⟨[97,101,115,103,99,109],4,3,[128,256],[128,256]⟩,⟨[99,104,97,99,104,97],4,0,[],[256]⟩,⟨[104,109,97,99,109,100,53],5,0,[],[64]⟩,⟨[104,109,97,99,115,104,97,49],5,0,[],[80]⟩,⟨[104,109,97,99,115,104,97,50,53,54],5,0,[],[128]⟩,⟨[97,101,97,100],5,0,[],[256]⟩]
def Pm:L9:=⟨[],0,0,[],[]⟩
def CB (A7:Int):L9:=if 1≤A7∧A7≤22 then (D2[A7.toNat]?).getD Pm else Pm
theorem Fw {A7:Int} (h:1≤A7∧A7≤22):D2[A7.toNat]? =some (CB A7):=by
 have hl:A7.toNat<D2.length:=by show A7.toNat<23;omega
 unfold CB;rw [if_pos h,List.getElem?_eq_getElem hl];rfl
theorem Jz {β:Type} {f:β→List Pr} {sz:Nat} (hf:∀x,(f x).length=sz):∀{l:List β} {i:Nat} {x:β},l[i]? =some x→((l.flatMap f).drop (i*sz)).take sz=f x
 |[],_,_,h=>by simp at h
 |a::l,0,x,h=>by
  simp at h;subst h
  rw [List.flatMap_cons,Nat.zero_mul,List.drop_zero,List.take_append_of_le_length (by rw [hf];exact Nat.le_refl _),List.take_of_length_le (by rw [hf];exact Nat.le_refl _)]
 |a::l,i+1,x,h=>by
  rw [List.flatMap_cons,Nat.succ_mul,Nat.add_comm,←List.drop_drop,List.drop_left' (hf a)]
  exact Jz hf (by simpa using h)
theorem drop_cons {β:Type} {l:List β} {k:Nat} {x:β} (h:l[k]? =some x):l.drop k=x::l.drop (k+1):=by
 have hk:k<l.length:=by rcases Nat.lt_or_ge k l.length with h'|h';exact h';rw [List.getElem?_eq_none h'] at h;cases h
 rw [List.drop_eq_getElem_cons hk]
 rw [List.getElem?_eq_getElem hk] at h
 simp at h;rw [h]
def mods:List (Int×Int):=[(1024,56),(2048,80),(3072,112),(7680,128),(15360,192)]
def XK:List (Int×Int)→Int→Int
 |[],_=>256
 |p::l,b=>if b<p.1 then p.2 else XK l b
def SG (b:Int):Int:=XK mods b
theorem XL   :Bb prog 216 [] (agg (D2.flatMap XJ)):=by
 refine fo func216 rfl ⟨rfl,rfl⟩ fun M0 w0=>(Tr.seq (Tr.Cl ?_))
 refine Tl rfl rfl rfl rfl dy V9 (fun b1=> ?_)
 refine ap ?_
 refine ap ?_
 refine tp rfl (A8 (rows:=[(0,[_]),(1,[_]),(2,[_]),(3,[_]),(4,[_])]) rfl CL B7 ⟨⟨rfl,(Vo rfl)⟩,⟨⟨rfl,(Vo rfl)⟩,⟨⟨rfl,(Vo rfl)⟩,⟨⟨rfl,⟨_,rfl,Pr.le_trans (Ag 1) (AQ _)⟩⟩,⟨⟨rfl,⟨_,rfl,Pr.le_trans (BI _ _) (AQ _)⟩⟩,trivial⟩⟩⟩⟩⟩ rfl) (tp rfl (oI) ?_)
 refine tp rfl (A8 (rows:=[(0,[_]),(1,[_]),(2,[_]),(3,[_]),(4,[_])]) rfl CL B7 ⟨⟨rfl,(Vo rfl)⟩,⟨⟨rfl,(Vo rfl)⟩,⟨⟨rfl,(Vo rfl)⟩,⟨⟨rfl,⟨_,rfl,Pr.le_trans (Ag 1) (AQ _)⟩⟩,⟨⟨rfl,⟨_,rfl,Pr.le_trans (BI _ _) (AQ _)⟩⟩,trivial⟩⟩⟩⟩⟩ rfl) (tp rfl (oI) ?_)
 refine tp rfl (A8 (rows:=[(0,[_]),(1,[_]),(2,[_]),(3,[_]),(4,[_])]) rfl CL B7 ⟨⟨rfl,(Vo rfl)⟩,⟨⟨rfl,(Vo rfl)⟩,⟨⟨rfl,(Vo rfl)⟩,⟨⟨rfl,⟨_,rfl,Pr.le_trans (Ag 1) (AQ _)⟩⟩,⟨⟨rfl,⟨_,rfl,Pr.le_trans (BI _ _) (AQ _)⟩⟩,trivial⟩⟩⟩⟩⟩ rfl) (tp rfl (oI) ?_)
 refine tp rfl (A8 (rows:=[(0,[_]),(1,[_]),(2,[_]),(3,[_]),(4,[_])]) rfl CL B7 ⟨⟨rfl,(Vo rfl)⟩,⟨⟨rfl,(Vo rfl)⟩,⟨⟨rfl,(Vo rfl)⟩,⟨⟨rfl,⟨_,rfl,Pr.le_trans (Ag 1) (AQ _)⟩⟩,⟨⟨rfl,⟨_,rfl,Pr.le_trans (BI _ _) (AQ _)⟩⟩,trivial⟩⟩⟩⟩⟩ rfl) (tp rfl (A8 (rows:=[(0,[_]),(1,[_]),(2,[_]),(3,[_]),(4,[_])]) rfl CL B7 ⟨⟨rfl,(Vo rfl)⟩,⟨⟨rfl,(Vo rfl)⟩,⟨⟨rfl,(Vo rfl)⟩,⟨⟨rfl,⟨_,rfl,Pr.le_trans (Ag 1) (AQ _)⟩⟩,⟨⟨rfl,⟨_,rfl,Pr.le_trans (Ag 1) (AQ _)⟩⟩,trivial⟩⟩⟩⟩⟩ rfl) (tp rfl (A8 (rows:=[(0,[_]),(1,[_]),(2,[_]),(3,[_]),(4,[_])]) rfl CL B7 ⟨⟨rfl,(Vo rfl)⟩,⟨⟨rfl,(Vo rfl)⟩,⟨⟨rfl,(Vo rfl)⟩,⟨⟨rfl,⟨_,rfl,Pr.le_trans (Ag 1) (AQ _)⟩⟩,⟨⟨rfl,⟨_,rfl,Pr.le_trans (Ag 1) (AQ _)⟩⟩,trivial⟩⟩⟩⟩⟩ rfl) (tp rfl (A8 (rows:=[(0,[_]),(1,[_]),(2,[_]),(3,[_]),(4,[_])]) rfl CL B7 ⟨⟨rfl,(Vo rfl)⟩,⟨⟨rfl,(Vo rfl)⟩,⟨⟨rfl,(Vo rfl)⟩,⟨⟨rfl,⟨_,rfl,Pr.le_trans (Ag 1) (AQ _)⟩⟩,⟨⟨rfl,⟨_,rfl,Pr.le_trans (Ag 1) (AQ _)⟩⟩,trivial⟩⟩⟩⟩⟩ rfl) (tp rfl (oI) ?_))))
 refine tp rfl (A8 (rows:=[(0,[_]),(1,[_]),(2,[_]),(3,[_]),(4,[_])]) rfl CL B7 ⟨⟨rfl,(Vo rfl)⟩,⟨⟨rfl,(Vo rfl)⟩,⟨⟨rfl,(Vo rfl)⟩,⟨⟨rfl,⟨_,rfl,Pr.le_trans (Ag 1) (AQ _)⟩⟩,⟨⟨rfl,⟨_,rfl,Pr.le_trans (BI _ _) (AQ _)⟩⟩,trivial⟩⟩⟩⟩⟩ rfl) ?_
 refine ap ?_
 refine tp rfl (A8 (rows:=[(0,[_]),(1,[_]),(2,[_]),(3,[_]),(4,[_])]) rfl CL B7 ⟨⟨rfl,(Vo rfl)⟩,⟨⟨rfl,(Vo rfl)⟩,⟨⟨rfl,(Vo rfl)⟩,⟨⟨rfl,⟨_,rfl,Pr.le_trans (BI _ _) (AQ _)⟩⟩,⟨⟨rfl,⟨_,rfl,Pr.le_trans (BI _ _) (AQ _)⟩⟩,trivial⟩⟩⟩⟩⟩ rfl) (tp rfl (A8 (rows:=[(0,[_]),(1,[_]),(2,[_]),(3,[_]),(4,[_])]) rfl CL B7 ⟨⟨rfl,(Vo rfl)⟩,⟨⟨rfl,(Vo rfl)⟩,⟨⟨rfl,(Vo rfl)⟩,⟨⟨rfl,⟨_,rfl,Pr.le_trans (Ag 1) (AQ _)⟩⟩,⟨⟨rfl,⟨_,rfl,Pr.le_trans (Ag 1) (AQ _)⟩⟩,trivial⟩⟩⟩⟩⟩ rfl) (tp rfl (A8 (rows:=[(0,[_]),(1,[_]),(2,[_]),(3,[_]),(4,[_])]) rfl CL B7 ⟨⟨rfl,(Vo rfl)⟩,⟨⟨rfl,(Vo rfl)⟩,⟨⟨rfl,(Vo rfl)⟩,⟨⟨rfl,⟨_,rfl,Pr.le_trans (Ag 1) (AQ _)⟩⟩,⟨⟨rfl,⟨_,rfl,Pr.le_trans (Ag 1) (AQ _)⟩⟩,trivial⟩⟩⟩⟩⟩ rfl) (tp rfl (A8 (rows:=[(0,[_]),(1,[_]),(2,[_]),(3,[_]),(4,[_])]) rfl CL B7 ⟨⟨rfl,(Vo rfl)⟩,⟨⟨rfl,(Vo rfl)⟩,⟨⟨rfl,(Vo rfl)⟩,⟨⟨rfl,⟨_,rfl,Pr.le_trans (Ag 1) (AQ _)⟩⟩,⟨⟨rfl,⟨_,rfl,Pr.le_trans (Ag 1) (AQ _)⟩⟩,trivial⟩⟩⟩⟩⟩ rfl) ?_)))
 refine ap ?_
 refine tp rfl (A8 (rows:=[(0,[_]),(1,[_]),(2,[_]),(3,[_]),(4,[_])]) rfl CL B7 ⟨⟨rfl,(Vo rfl)⟩,⟨⟨rfl,(Vo rfl)⟩,⟨⟨rfl,(Vo rfl)⟩,⟨⟨rfl,⟨_,rfl,Pr.le_trans (BI _ _) (AQ _)⟩⟩,⟨⟨rfl,⟨_,rfl,Pr.le_trans (BI _ _) (AQ _)⟩⟩,trivial⟩⟩⟩⟩⟩ rfl) ?_
 refine ap ?_
 refine tp rfl (A8 (rows:=[(0,[_]),(1,[_]),(2,[_]),(3,[_]),(4,[_])]) rfl CL B7 ⟨⟨rfl,(Vo rfl)⟩,⟨⟨rfl,(Vo rfl)⟩,⟨⟨rfl,(Vo rfl)⟩,⟨⟨rfl,⟨_,rfl,Pr.le_trans (BI _ _) (AQ _)⟩⟩,⟨⟨rfl,⟨_,rfl,Pr.le_trans (BI _ _) (AQ _)⟩⟩,trivial⟩⟩⟩⟩⟩ rfl) ?_
 refine ap ?_
 refine tp rfl (A8 (rows:=[(0,[_]),(1,[_]),(2,[_]),(3,[_]),(4,[_])]) rfl CL B7 ⟨⟨rfl,(Vo rfl)⟩,⟨⟨rfl,(Vo rfl)⟩,⟨⟨rfl,(Vo rfl)⟩,⟨⟨rfl,⟨_,rfl,Pr.le_trans (BI _ _) (AQ _)⟩⟩,⟨⟨rfl,⟨_,rfl,Pr.le_trans (BI _ _) (AQ _)⟩⟩,trivial⟩⟩⟩⟩⟩ rfl) ?_
 refine ap ?_
 refine tp rfl (A8 (rows:=[(0,[_]),(1,[_]),(2,[_]),(3,[_]),(4,[_])]) rfl CL B7 ⟨⟨rfl,(Vo rfl)⟩,⟨⟨rfl,(Vo rfl)⟩,⟨⟨rfl,(Vo rfl)⟩,⟨⟨rfl,⟨_,rfl,Pr.le_trans (BI _ _) (AQ _)⟩⟩,⟨⟨rfl,⟨_,rfl,Pr.le_trans (BI _ _) (AQ _)⟩⟩,trivial⟩⟩⟩⟩⟩ rfl) ?_
 refine ap ?_
 refine tp rfl (A8 (rows:=[(0,[_]),(1,[_]),(2,[_]),(3,[_]),(4,[_])]) rfl CL B7 ⟨⟨rfl,(Vo rfl)⟩,⟨⟨rfl,(Vo rfl)⟩,⟨⟨rfl,(Vo rfl)⟩,⟨⟨rfl,⟨_,rfl,Pr.le_trans (BI _ _) (AQ _)⟩⟩,⟨⟨rfl,⟨_,rfl,Pr.le_trans (BI _ _) (AQ _)⟩⟩,trivial⟩⟩⟩⟩⟩ rfl) (tp rfl (oI) ?_)
 refine tp rfl (A8 (rows:=[(0,[_]),(1,[_]),(2,[_]),(3,[_]),(4,[_])]) rfl CL B7 ⟨⟨rfl,(Vo rfl)⟩,⟨⟨rfl,(Vo rfl)⟩,⟨⟨rfl,(Vo rfl)⟩,⟨⟨rfl,⟨_,rfl,Pr.le_trans (Ag 1) (AQ _)⟩⟩,⟨⟨rfl,⟨_,rfl,Pr.le_trans (BI _ _) (AQ _)⟩⟩,trivial⟩⟩⟩⟩⟩ rfl) (tp rfl (oI) ?_)
 refine tp rfl (A8 (rows:=[(0,[_]),(1,[_]),(2,[_]),(3,[_]),(4,[_])]) rfl CL B7 ⟨⟨rfl,(Vo rfl)⟩,⟨⟨rfl,(Vo rfl)⟩,⟨⟨rfl,(Vo rfl)⟩,⟨⟨rfl,⟨_,rfl,Pr.le_trans (Ag 1) (AQ _)⟩⟩,⟨⟨rfl,⟨_,rfl,Pr.le_trans (BI _ _) (AQ _)⟩⟩,trivial⟩⟩⟩⟩⟩ rfl) (tp rfl (oI) ?_)
 refine tp rfl (A8 (rows:=[(0,[_]),(1,[_]),(2,[_]),(3,[_]),(4,[_])]) rfl CL B7 ⟨⟨rfl,(Vo rfl)⟩,⟨⟨rfl,(Vo rfl)⟩,⟨⟨rfl,(Vo rfl)⟩,⟨⟨rfl,⟨_,rfl,Pr.le_trans (Ag 1) (AQ _)⟩⟩,⟨⟨rfl,⟨_,rfl,Pr.le_trans (BI _ _) (AQ _)⟩⟩,trivial⟩⟩⟩⟩⟩ rfl) (tp rfl (oI) ?_)
 refine tp rfl (A8 (rows:=[(0,[_]),(1,[_]),(2,[_]),(3,[_]),(4,[_])]) rfl CL B7 ⟨⟨rfl,(Vo rfl)⟩,⟨⟨rfl,(Vo rfl)⟩,⟨⟨rfl,(Vo rfl)⟩,⟨⟨rfl,⟨_,rfl,Pr.le_trans (Ag 1) (AQ _)⟩⟩,⟨⟨rfl,⟨_,rfl,Pr.le_trans (BI _ _) (AQ _)⟩⟩,trivial⟩⟩⟩⟩⟩ rfl) (tp rfl (oI) ?_)
 refine tp rfl (A8 (rows:=[(0,[_]),(1,[_]),(2,[_]),(3,[_]),(4,[_])]) rfl CL B7 ⟨⟨rfl,(Vo rfl)⟩,⟨⟨rfl,(Vo rfl)⟩,⟨⟨rfl,(Vo rfl)⟩,⟨⟨rfl,⟨_,rfl,Pr.le_trans (Ag 1) (AQ _)⟩⟩,⟨⟨rfl,⟨_,rfl,Pr.le_trans (BI _ _) (AQ _)⟩⟩,trivial⟩⟩⟩⟩⟩ rfl) ?_
 refine ap ?_
 refine Cc 0 rfl (Tr.ret (Fin.Y3 rfl (Bc.cell 0 rfl rfl W9 V8 rfl (Lr)) ?_))
 · exact N6 ⟨Lr,Lr,Lr,Ag 1,Ag 1,Lr,Lr,Lr,Lr,Lr,Lr,Lr,Lr,Lr,Lr,Lr,Lr,Lr,Lr,Lr,Lr,Lr,Lr,Lr,Lr,Lr,Lr,Lr,Lr,Lr,Lr,Lr,Lr,Lr,Lr,Lr,Lr,Lr,Lr,Lr,Lr,Lr,Lr,Lr,Lr,Lr,Lr,Lr,Lr,Lr,Lr,Lr,Lr,Lr,Lr,Lr,Lr,Lr,Lr,Lr,Lr,Lr,Lr,Lr,Lr,Lr,Lr,Lr,Lr,Lr,Lr,Lr,Lr,Lr,Lr,Lr,Lr,Lr,Lr,Lr,Lr,Lr,Lr,Lr,Lr,Lr,Lr,Lr,Lr,Lr,Lr,Lr,Lr,Lr,Lr,Lr,Lr,Lr,Lr,Lr,Lr,Lr,Lr,Lr,Lr,Lr,Lr,Lr,Lr,Lr,Lr,Lr,Lr,Lr,Lr,trivial⟩
theorem Z8 {A7:Int}  :Bb prog 192 [int A7] (ER [agg (XJ (CB A7)),bool (decide (1≤A7∧A7≤22))]):=by
 refine fo func192 rfl ⟨rfl,rfl⟩ fun M0 w0=>(Tr.seq (Tr.Cl ?_))
 refine Tl rfl rfl rfl rfl z196 B7 (fun b1=> ?_)
 refine ap ?_
 refine ag ?_ ?_<;>intro h1 q1
 refine ac ?_
 refine Tr.cond rfl (fun _=> ?_) (fun h=>nomatch h)
 refine Tr.seq (Tr.Cl (tp rfl (A8 (rows:=[]) rfl CL B7 trivial rfl) (TO.CW 0 rfl rfl rfl (vl rfl) (Va rfl) rfl Ku rfl rfl (tm rfl (TO.nil (Fin.go (Tr.ret (Fin.AK (Fin.Rh rfl (Bc.cell 0 rfl rfl Ls Ku rfl (Lr)) (Bc.tmp rfl (Lr)) ?_)))))))))
 · refine N7 ⟨?_,bool_eq (by symm;rw [decide_eq_false_iff_not];omega),trivial⟩;unfold CB;rw [if_neg (by omega)];exact N6 ⟨Lr,Lr,Lr,Ag 1,Ag 1,trivial⟩
 refine an ?_ ?_<;>intro h2 q2
 refine ap ?_
 refine Tr.ret (Fin.AK (Fin.Rh rfl (Bc.cell 0 rfl rfl Ls Ku rfl (Lr)) (Bc.tmp rfl (Lr)) ?_))
 · refine N7 ⟨?_,bool_eq (by symm;rw [decide_eq_false_iff_not];omega),trivial⟩;unfold CB;rw [if_neg (by omega)];exact N6 ⟨Lr,Lr,Lr,Ag 1,Ag 1,trivial⟩
 have hin:1≤A7∧A7≤22:=by omega
 refine ac ?_
 refine Tr.seq (Tr.Cl (tp rfl (g_ (XL) rfl) (tm rfl (tp rfl (Mm rfl underlying217 Ls Ku (vl rfl) (vl rfl) (by omega) (by omega) (Jz (f:=XJ) (fun _=>rfl) (Fw hin))) ?_))))
 refine ap ?_
 refine Tr.ret (Fin.Rh rfl (Bc.cell 0 rfl rfl Ls Ku rfl (Lr)) (Bc.tmp rfl (Lr)) ?_)
 · exact N7 ⟨Lr,bool_eq (by symm;rw [decide_eq_true_eq];exact hin),trivial⟩
theorem XM {A7:Int}  :Bb prog 161 [int A7] (int (CB A7).kind):=by
 refine fo func161 rfl ⟨rfl,rfl⟩ fun M0 w0=> ?_
 refine ac ?_
 refine ao ?_
 refine tp rfl (EC (Z8) rfl rfl) ?_
 refine ao ?_
 refine Tl rfl rfl rfl rfl z196 B7 (fun b1=> ?_)
 refine sf 0 3 ⟨rfl,rfl,rfl⟩ rfl rfl rfl rfl ?_
 refine ao ?_
 refine a2 ?_
 · exact Lr
theorem Qe {b:Int}  :Bb prog 215 [int b] (int (SG b)):=by
 refine fo func215 rfl ⟨rfl,rfl⟩ fun M0 w0=> ?_
 have hml:mods.length=5:=rfl
 refine a2 ?_
 refine Tr.block (Tr.re 10 rfl (Pr.le_of_eq (show _=agg (mods.flatMap fun p=>[int p.1,int p.2]) from rfl)) (Tr.BX [(0,_),(10,_)] (YO rfl) (fun k:Nat=>[(11,int ((k:Nat):Int))]) (fun k:Nat=>k≤(mods).length∧(SG b=XK (mods.drop k) b)) (fun k:Nat=>(mods).length-k) 0 (⟨Nat.zero_le _,rfl⟩) ⟨ke rfl,trivial⟩ ?_))
 rintro k ⟨DH,A0⟩
 refine ac ?_
 refine Tr.seq ?_
 refine Tr.cn rfl ?_ ?_<;>intro h1 q1
 have A5:k<(mods).length:=A_ h1
 obtain ⟨p,A2⟩:=at_ A5
 have hL:k<5:=A5
 have iE:=drop_cons A2
 refine ac ?_
 refine Tr.seq (Tr.block (Tr.seq (Tr.Cl (tp rfl (Mm rfl underlying224 W_ V_ (vl rfl) (vl rfl) (by omega) (by omega) (Jz (f:=fun p:Int×Int=>[int p.1,int p.2]) (fun _=>rfl) A2)) ?_))))
 refine Tl rfl rfl rfl rfl dz WA (fun b1=> ?_)
 refine sf 0 4 ⟨rfl,rfl,rfl⟩ rfl rfl rfl rfl ?_
 refine ao ?_
 refine ac ?_
 refine co rfl (IA rfl underlying223 DB (vl rfl) (vl rfl) (by omega) (by omega) rfl) (co rfl (JZ rfl CE (vl rfl) rfl) ?_)
 refine an ?_ ?_<;>intro h2 q2
 refine Tr.seq (Tr.BK (co rfl (IA rfl underlying223 DB (vl rfl) (vl rfl) (by omega) (by omega) rfl) (co rfl (JZ rfl CE (vl rfl) rfl) ?_)))
 refine ac ?_
 refine Cc 2 rfl ?_
 refine ac ?_
 · refine int_eq ?_;rw [A0,iE];exact (if_pos (by omega)).symm
 refine a2 ?_
 exact Fin.AF (k+1) ⟨⟨A5,(by rw [A0,iE];exact if_neg (by omega))⟩,by omega⟩ ⟨⟨_,rfl,Ad k⟩,ke rfl,ke rfl,trivial⟩
 have CK:k=(mods).length:=by have:=BA h1;omega
 subst CK
 refine a3 ?_
 · refine int_eq ?_;rw [A0,List.drop_length];rfl
def K9:List Int:=[160,224,256,384,521]
def BO (A7 bits:Int):Int:=
 if 1 ≤ A7 ∧ A7 ≤ 22 then
  if (CB A7).way=0 then (if bits=0 then ((CB A7).DL[0]?).getD 0 else 0)
  else if (CB A7).way=1 then (if 512≤bits∧bits≤16384 then SG bits else 0)
  else if (CB A7).way=2 then (if (K9.any fun x=>bits==x)=true then bits.tdiv 2 else 0)
  else if (CB A7).way=3 then (if 0≤idx (fun x=>bits==x) (CB A7).sizes then ((CB A7).DL[(idx (fun x=>bits==x) (CB A7).sizes).toNat]?).getD 0 else 0)
  else 0
 else 0
theorem ON {A7:Int} (h:1≤A7∧A7≤22):CB A7∈D2.tail:=by
 have h1:=Fw h
 refine List.mem_of_getElem? (i:=A7.toNat-1) ?_
 rw [List.getElem?_tail,show A7.toNat-1+1=A7.toNat by omega];exact h1
theorem XN:∀r∈D2.tail,(r.way=0→1≤r.DL.length)∧(r.way=3→r.sizes.length≤r.DL.length):=by decide
theorem XO {β:Type} (p:β→Bool) (l:List β):idx p l<l.length:=by
 unfold idx
 cases h:l.findIdx? p with
 |none=>simp;omega
 |some i=>rw [List.findIdx?_eq_some_iff_getElem] at h;obtain ⟨h1,_⟩:=h;simp;omega
theorem OO {A7 bits:Int}  :Bb prog 191 [agg [int A7,int bits]] (int (BO A7 bits)):=by
 refine fo func191 rfl ⟨rfl,rfl⟩ fun M0 w0=> ?_
 refine ac ?_
 refine ao ?_
 refine tp rfl (EC (Z8) rfl rfl) ?_
 refine ao ?_
 refine Tl rfl rfl rfl rfl z196 B7 (fun b1=> ?_)
 refine sf 0 3 ⟨rfl,rfl,rfl⟩ rfl rfl rfl rfl ?_
 refine ao ?_
 refine ac ?_
 refine Wh 1 3 13 rfl ?_
 refine Tr.cn rfl ?_ ?_<;>intro h1 q1
 refine a2 ?_
 · refine int_eq ?_;unfold BO;rw [if_neg (by intro hh;simp [hh] at h1)]
 have hin:1≤A7∧A7≤22:=by simpa using h1
 obtain ⟨hc0,jj⟩:=XN _ (ON hin)
 refine a2 ?_
 refine an ?_ ?_<;>intro h2 q2
 refine an ?_ ?_<;>intro h3 q3
 obtain ⟨z,hz⟩:=at_ (l:=(CB A7).DL) (k:=0) (hc0 (by omega))
 refine ac ?_
 refine co rfl (AL rfl underlying22 DB (vl rfl) (vl rfl) (by omega) (BN (k:=0) hz)) ?_
 refine ac ?_
 refine Cc 2 rfl ?_
 refine ac ?_
 · refine int_eq ?_;unfold BO;rw [if_pos hin,if_pos (by omega),if_pos (by omega),hz];rfl
 refine a3 ?_
 · refine int_eq ?_;unfold BO;rw [if_pos hin,if_pos (by omega),if_neg (by omega)]
 refine an ?_ ?_<;>intro h4 q4
 · repeat' first|(refine int_eq ?_;unfold BO;rw [if_pos hin,if_neg (by omega),if_pos (by omega),if_pos (by omega)])|(refine int_eq ?_;unfold BO;rw [if_pos hin,if_neg (by omega),if_pos (by omega),if_neg (by omega)])|refine co rfl (EC (Qe) rfl rfl) ?_|refine ac ?_|(refine Tr.cn rfl ?_ ?_<;>intro h q)|(refine Ch.cg rfl rfl rfl ?_ ?_<;>intro h q)
 refine an ?_ ?_<;>intro h7 q7
 refine ac ?_
 refine co rfl (Aq rfl (IL (l:=K9)) ⟨(Kf rfl),ke rfl,trivial⟩) ?_
 refine ac ?_
 refine Fl 1 43 rfl ?_
 refine Tr.cn rfl ?_ ?_<;>intro h8 q8
 have hb:bits=160∨bits=224∨bits=256∨bits=384∨bits=521:=by simpa [K9] using h8
 refine ac ?_
 refine co rfl (CC rfl (vl rfl) (vl rfl) (by omega)) ?_
 refine a2 ?_
 · refine int_eq ?_;unfold BO;rw [if_pos hin,if_neg (by omega),if_neg (by omega),if_pos (by omega),if_pos (by assumption)];rcases hb with h|h|h|h|h<;>rw [h]<;>rfl
 refine a3 ?_
 · refine int_eq ?_;unfold BO;rw [if_pos hin,if_neg (by omega),if_neg (by omega),if_pos (by omega),if_neg (PB (by assumption))]
 refine an ?_ ?_<;>intro h9 q9
 refine ac ?_
 refine co rfl (Jx (M7) rfl rfl rfl) ?_
 refine ac ?_
 refine Fl 3 5 rfl ?_
 refine an ?_ ?_<;>intro h10 UT
 have hlt:=XO (fun x=>bits==x) (CB A7).sizes
 obtain ⟨z,hz⟩:=at_ (l:=(CB A7).DL) (k:=(idx (fun x=>bits==x) (CB A7).sizes).toNat) (by have:=jj (by omega);omega)
 refine ac ?_
 refine co rfl (AL rfl underlying22 DB (vl rfl) (vl rfl) (by omega) (CD hz)) ?_
 refine a2 ?_
 · refine int_eq ?_;unfold BO;rw [if_pos hin,if_neg (by omega),if_neg (by omega),if_neg (by omega),if_pos (by omega),if_pos (by assumption),hz];rfl
 refine a3 ?_
 · refine int_eq ?_;unfold BO;rw [if_pos hin,if_neg (by omega),if_neg (by omega),if_neg (by omega),if_pos (by omega),if_neg (by omega)]
 refine a2 ?_
 refine Cc 2 rfl ?_
 refine ac ?_
 · refine int_eq ?_;unfold BO;rw [if_pos hin,if_neg (by omega),if_neg (by omega),if_neg (by omega),if_neg (by omega)]
theorem L_ {A7 bits:Int}  :Bb prog 160 [agg [int A7,int bits]] (bool (decide (BO A7 bits>0))):=by
 refine fo func160 rfl ⟨rfl,rfl⟩ fun M0 w0=> ?_
 refine a2 ?_
 refine co rfl (EC (OO) rfl rfl) ?_
 refine a2 ?_
 · exact Lr
def Fx (b:Int) (l m:List Int):Int:=if 0≤idx (fun x=>b==x) l then (m[(idx (fun x=>b==x) l).toNat]?).getD 0 else 0
theorem Qf {b:Int} {l m:List Int} {k:Nat} {x z:Int} (hx:l[k]? =some x) (he:x=b) (hz:m[k]? =some z) (h:∀j y,j<k→l[j]? =some y→(b==y)=false):z=Fx b l m:=by
 have:=HW (p:=fun x=>b==x) hx (by simp [he]) h
 unfold Fx;rw [←this,if_pos (by omega),Int.toNat_natCast,hz];rfl
theorem OP {b:Int} {l m:List Int} (h:∀j y,j<l.length→l[j]? =some y→(b==y)=false):0=Fx b l m:=by
 have:=Jy (p:=fun x=>b==x) h
 unfold Fx;rw [←this,if_neg (by omega)]
def CM (A7:Int):Int:=if A7=1 then 18 else if A7=2 then 60 else if A7=3∨A7=8∨A7=21 then 128 else if A7=4 then 192 else if A7=18∨A7=22 then 256 else if A7=19 then 64 else if A7=20 then 80 else 0
def FW (b:Int):Int:=if b<512∨b>16384 then 0 else if b<1024 then 56 else if b<2048 then 80 else if b<3072 then 112 else if b<7680 then 128 else if b<15360 then 192 else 256
theorem SH (b:Int):FW b=if 512≤b∧b≤16384 then SG b else 0:=by
 have h1:SG b=if b<1024 then 56 else if b<2048 then 80 else if b<3072 then 112 else if b<7680 then 128 else if b<15360 then 192 else 256:=rfl
 rw [h1];unfold FW
 by_cases h:512≤b∧b≤16384
 · rw [if_pos h,if_neg (by omega)]
 · rw [if_neg h,if_pos (by omega)]
theorem FC {b:Int} {l m:List Int} (hl:l.length≤m.length):Bb prog 194 [int b,ints l,ints m] (int (Fx b l m)):=by
 refine fo func194 rfl ⟨rfl,rfl⟩ fun M0 w0=>(Tr.HN 1 rfl fun Z9=> ?_)
 refine a2 ?_
 refine Tr.block (Tr.BX [(0,_),(1,_),(2,_)] (QN rfl) (fun k:Nat=>[(7,int ((k:Nat):Int))]) (fun k:Nat=>k≤(l).length∧(∀j y,j<k→l[j]? =some y→(b==y)=false)) (fun k:Nat=>(l).length-k) 0 (⟨Nat.zero_le _,fun j y hj=>absurd hj (by omega)⟩) ⟨ke rfl,trivial⟩ ?_)
 rintro k ⟨DH,A0⟩
 refine an ?_ ?_<;>intro h1 q1
 have A5:k<(l).length:=A_ h1
 obtain ⟨x,A2⟩:=at_ A5
 obtain ⟨z,hz⟩:=at_ (l:=m) (k:=k) (by omega)
 · repeat' first|exact int_eq (Qf A2 (by assumption) hz A0)|(exact Fin.AF (k+1) ⟨⟨A5,FB (p:=fun x=>b==x) A2 (by simp;omega) A0⟩,by omega⟩ ⟨⟨_,rfl,Ad k⟩,ke rfl,ke rfl,ke rfl,trivial⟩)|refine co rfl (AL rfl underlying22 DB (vl rfl) (vl rfl) (by omega) (by exact BN (by assumption))) ?_|refine ac ?_|(refine Tr.cn rfl ?_ ?_<;>intro h q)
 have CK:k=(l).length:=by have:=BA h1;omega
 subst CK
 refine a3 ?_
 · exact int_eq (OP A0)
theorem SI {A7:Int}  :Bb prog 195 [int A7] (int (CM A7)):=by
 refine fo func195 rfl ⟨rfl,rfl⟩ fun M0 w0=> ?_
 refine a2 ?_
 refine an ?_ ?_<;>intro h1 q1
 refine a2 ?_
 · refine int_eq ?_;unfold CM;(repeat (rw [if_pos (by omega)]))
 refine an ?_ ?_<;>intro h2 q2
 refine a2 ?_
 · refine int_eq ?_;unfold CM;(repeat (first|rw [if_pos (by omega)]|rw [if_neg (by omega)]))
 refine an ?_ ?_<;>intro h3 q3
 refine ac ?_
 refine Tr.cond rfl (fun _=> ?_) (fun h=>nomatch h3.symm.trans h)
 refine a2 ?_
 · refine int_eq ?_;unfold CM;(repeat (first|rw [if_pos (by omega)]|rw [if_neg (by omega)]))
 refine an ?_ ?_<;>intro h4 q4
 refine ac ?_
 refine Tr.cond rfl (fun _=> ?_) (fun h=>nomatch h4.symm.trans h)
 refine a2 ?_
 · refine int_eq ?_;unfold CM;(repeat (first|rw [if_pos (by omega)]|rw [if_neg (by omega)]))
 refine an ?_ ?_<;>intro h5 q5
 refine a2 ?_
 · refine int_eq ?_;unfold CM;(repeat (first|rw [if_pos (by omega)]|rw [if_neg (by omega)]))
 refine ac ?_
 refine Fl 3 12 rfl ?_
 refine Tr.cn rfl ?_ ?_<;>intro h6 q6
 refine a2 ?_
 · refine int_eq ?_;unfold CM;(repeat (first|rw [if_pos (by omega)]|rw [if_neg (by omega)]))
 refine an ?_ ?_<;>intro h7 q7
 refine ac ?_
 refine Tr.cond rfl (fun _=> ?_) (fun h=>nomatch h7.symm.trans h)
 refine a2 ?_
 · refine int_eq ?_;unfold CM;(repeat (first|rw [if_pos (by omega)]|rw [if_neg (by omega)]))
 · repeat' first|(refine int_eq ?_;unfold CM;(repeat (first|rw [if_pos (by omega)]|rw [if_neg (by omega)])))|(refine int_eq ?_;unfold CM;(repeat (rw [if_neg (by omega)])))|refine ac ?_|(refine Tr.cn rfl ?_ ?_<;>intro h q)
theorem FD {b:Int}  :Bb prog 193 [int b] (int (FW b)):=by
 refine fo func193 rfl ⟨rfl,rfl⟩ fun M0 w0=> ?_
 refine ac ?_
 refine ac ?_
 refine Ch.cs 6 rfl ?_ ?_<;>intro h1 q1
 refine ac ?_
 refine ac ?_
 refine ac ?_
 · refine int_eq ?_;unfold FW;(repeat (rw [if_pos (by omega)]))
 refine ac ?_
 refine Tr.cn rfl ?_ ?_<;>intro h2 q2
 refine ac ?_
 refine ac ?_
 · refine int_eq ?_;unfold FW;(repeat (rw [if_pos (by omega)]))
 refine ac ?_
 refine Tr.cn rfl ?_ ?_<;>intro h3 q3
 refine ac ?_
 refine ac ?_
 · refine int_eq ?_;unfold FW;(repeat (first|rw [if_pos (by omega)]|rw [if_neg (by omega)]))
 refine ac ?_
 refine Fl 0 13 rfl ?_
 refine Tr.cn rfl ?_ ?_<;>intro h4 q4
 refine ac ?_
 refine ac ?_
 · refine int_eq ?_;unfold FW;(repeat (first|rw [if_pos (by omega)]|rw [if_neg (by omega)]))
 refine ac ?_
 refine Tr.cn rfl ?_ ?_<;>intro h5 q5
 refine ac ?_
 refine ac ?_
 · refine int_eq ?_;unfold FW;(repeat (first|rw [if_pos (by omega)]|rw [if_neg (by omega)]))
 refine ac ?_
 refine Tr.cn rfl ?_ ?_<;>intro h6 q6
 refine ac ?_
 refine ac ?_
 · refine int_eq ?_;unfold FW;(repeat (first|rw [if_pos (by omega)]|rw [if_neg (by omega)]))
 refine ac ?_
 refine Tr.cn rfl ?_ ?_<;>intro h7 q7
 refine ac ?_
 refine ac ?_
 · refine int_eq ?_;unfold FW;(repeat (first|rw [if_pos (by omega)]|rw [if_neg (by omega)]))
 refine ac ?_
 refine ac ?_
 refine ac ?_
 · refine int_eq ?_;unfold FW;(repeat (rw [if_neg (by omega)]))
theorem UU (b c:Int):Fx b [0] [c]=if b=0 then c else 0:=by
 unfold Fx idx
 by_cases h:b=0
 · subst h;rfl
 ·
  have:List.findIdx? (fun x=>b==x) [0]=none:=by simp [h]
  rw [this,if_neg h];rfl
theorem Dq {A7 b:Int} (h:A7=5∨A7=6∨A7=10∨A7=11):FW b=BO A7 b:=by
 rw [SH]
 rcases h with rfl|rfl|rfl|rfl<;>rfl
theorem Ki {A7 b:Int} (h:¬(A7=5∨A7=6∨A7=7∨A7=9∨A7=10∨A7=11∨A7=12∨A7=13∨A7=14∨A7=15∨A7=16∨A7=17)):Fx b [0] [CM A7]=BO A7 b:=by
 rw [UU]
 by_cases hin:1≤A7∧A7≤22
 ·
  have ha:A7=1∨A7=2∨A7=3∨A7=4∨A7=8∨A7=18∨A7=19∨A7=20∨A7=21∨A7=22:=by omega
  rcases ha with rfl|rfl|rfl|rfl|rfl|rfl|rfl|rfl|rfl|rfl<;>rfl
 ·
  have h1:CM A7=0:=by unfold CM;(repeat (first|rw [if_pos (by omega)]|rw [if_neg (by omega)]))
  unfold BO
  rw [h1,if_neg hin];split<;>rfl
theorem Dr {A7 b:Int} (h:A7=7∨A7=12):BO A7 b=if (K9.any fun x=>b==x)=true then b.tdiv 2 else 0:=by
 rcases h with rfl|rfl<;>rfl
theorem M_ {A7 bits:Int}  :Bb prog 162 [agg [int A7,int bits]] (int (BO A7 bits)):=by
 refine fo func162 rfl ⟨rfl,rfl⟩ fun M0 w0=> ?_
 iterate 4 refine ac ?_
 refine Tr.cn rfl ?_ ?_<;>intro h1 q1
 refine ac ?_
 refine Tr.cond rfl (fun _=> ?_) (fun h=>nomatch h1.symm.trans h)
 refine ac ?_
 refine co rfl (EC (FD) rfl rfl) ?_
 refine a2 ?_
 · refine int_eq ?_;exact Dq (by omega)
 refine an ?_ ?_<;>intro h2 q2
 refine ac ?_
 refine Tr.cond rfl (fun _=> ?_) (fun h=>nomatch h2.symm.trans h)
 refine ac ?_
 refine co rfl (EC (FD) rfl rfl) ?_
 refine ac ?_
 refine Cc 2 rfl ?_
 refine ac ?_
 · refine int_eq ?_;exact Dq (by omega)
 refine an ?_ ?_<;>intro h3 q3
 refine ac ?_
 refine Tr.cond rfl (fun _=> ?_) (fun h=>nomatch h3.symm.trans h)
 refine ac ?_
 refine co rfl (EC (FD) rfl rfl) ?_
 refine ac ?_
 refine Cc 2 rfl ?_
 refine ac ?_
 · refine int_eq ?_;exact Dq (by omega)
 refine ac ?_
 refine Ks 1 3 7 8 rfl ?_
 refine Tr.cn rfl ?_ ?_<;>intro h4 q4
 refine ac ?_
 refine co rfl (EC (FD) rfl rfl) ?_
 refine a2 ?_
 · refine int_eq ?_;exact Dq (by omega)
 refine an ?_ ?_<;>intro h5 q5
 refine ac ?_
 refine Tr.cond rfl (fun _=> ?_) (fun h=>nomatch h5.symm.trans h)
 · repeat' first|(refine int_eq ?_;rw [Dr (by omega)];have hb:bits=160∨bits=224∨bits=256∨bits=384∨bits=521:=(by omega);rcases hb with rfl|rfl|rfl|rfl|rfl<;>rfl)|(refine int_eq ?_;rw [Dr (by omega),if_neg (by simp [K9];omega)])|refine co rfl (CC rfl (vl rfl) (vl rfl) (by omega)) ?_|refine ac ?_|(refine Tr.cn rfl ?_ ?_<;>intro h q)|(refine Ch.cg rfl rfl rfl ?_ ?_<;>intro h q)
 refine an ?_ ?_<;>intro h11 Z_
 · repeat' first|(refine int_eq ?_;rw [Dr (by omega)];have hb:bits=160∨bits=224∨bits=256∨bits=384∨bits=521:=(by omega);rcases hb with rfl|rfl|rfl|rfl|rfl<;>rfl)|(refine int_eq ?_;rw [Dr (by omega),if_neg (by simp [K9];omega)])|refine co rfl (CC rfl (vl rfl) (vl rfl) (by omega)) ?_|refine ac ?_|(refine Tr.cn rfl ?_ ?_<;>intro h q)|(refine Ch.cg rfl rfl rfl ?_ ?_<;>intro h q)
 refine an ?_ ?_<;>intro WL fH
 refine ac ?_
 refine co rfl (Aq rfl (FC (l:=[44,65,87]) (m:=[128,192,256]) (by simp)) ⟨ke rfl,(Kf rfl),(Kf rfl),trivial⟩) ?_
 refine ac ?_
 refine Cc 2 rfl ?_
 refine ac ?_
 · refine int_eq ?_;have ha:A7=9:=(by omega);rcases ha with rfl<;>rfl
 refine an ?_ ?_<;>intro cY fI
 refine ac ?_
 refine co rfl (Aq rfl (FC (l:=[512,768,1024]) (m:=[128,192,256]) (by simp)) ⟨ke rfl,(Kf rfl),(Kf rfl),trivial⟩) ?_
 refine ac ?_
 refine Cc 2 rfl ?_
 refine ac ?_
 · refine int_eq ?_;have ha:A7=13:=(by omega);rcases ha with rfl<;>rfl
 refine ac ?_
 refine Ks 1 3 7 50 rfl ?_
 refine Tr.cn rfl ?_ ?_<;>intro XP fJ
 refine ac ?_
 refine co rfl (Aq rfl (FC (l:=[40,128]) (m:=[40,60]) (by simp)) ⟨ke rfl,(Kf rfl),(Kf rfl),trivial⟩) ?_
 refine a2 ?_
 · refine int_eq ?_;have ha:A7=14:=(by omega);rcases ha with rfl<;>rfl
 refine an ?_ ?_<;>intro XQ fK
 refine ac ?_
 refine co rfl (Aq rfl (FC (l:=[112,168]) (m:=[80,112]) (by simp)) ⟨ke rfl,(Kf rfl),(Kf rfl),trivial⟩) ?_
 refine a2 ?_
 · refine int_eq ?_;have ha:A7=15:=(by omega);rcases ha with rfl<;>rfl
 refine an ?_ ?_<;>intro WM fL
 refine ac ?_
 refine Tr.cond rfl (fun _=> ?_) (fun h=>nomatch WM.symm.trans h)
 refine ac ?_
 refine co rfl (Aq rfl (FC (l:=[128,256]) (m:=[128,256]) (by simp)) ⟨ke rfl,(Kf rfl),(Kf rfl),trivial⟩) ?_
 refine a2 ?_
 · refine int_eq ?_;have ha:A7=16∨A7=17:=(by omega);rcases ha with rfl|rfl<;>rfl
 · repeat' first|(refine int_eq ?_;have ha:A7=16∨A7=17:=(by omega);rcases ha with rfl|rfl<;>rfl)|(refine int_eq ?_;exact Ki (by omega))|refine co rfl (Aq rfl (FC (l:=[128,256]) (m:=[128,256]) (by simp)) ⟨ke rfl,(Kf rfl),(Kf rfl),trivial⟩) ?_|refine co rfl (EC (SI) rfl rfl) (co rfl (Aw (xs:=[.tmp 73]) (rows:=[[_]]) rfl rfl underlying22 DB z3 rfl (by decide) ⟨⟨(by exact rfl),(Vo rfl)⟩,trivial⟩ (by decide)) ?_)|refine co rfl (Aq rfl (FC (l:=[0]) (m:=[CM A7]) (by simp)) ⟨ke rfl,(Kf rfl),(Kf rfl),trivial⟩) ?_|refine ac ?_|(refine Tr.cn rfl ?_ ?_<;>intro h q)
theorem J0 {A7 bits:Int}  :Bb prog 107 [agg [int A7,int bits]] (bool (decide (BO A7 bits>0))):=by
 refine fo func107 rfl ⟨rfl,rfl⟩ fun M0 w0=> ?_
 refine a2 ?_
 refine co rfl (EC (M_) rfl rfl) ?_
 refine a2 ?_
 · exact Lr
def XR:List (List UInt8×Int):=D2.map fun r=>(r.name,r.kind)
theorem UW {A7:Int} (h:1≤A7∧A7≤22):XR[A7.toNat]? =some ((CB A7).name,(CB A7).kind):=by
 unfold XR;rw [List.getElem?_map,Fw h];rfl
theorem UX   :Bb prog 196 [] (slice 2 (XR.map fun r=>[str r.1,int r.2])):=by
 refine fo func196 rfl ⟨rfl,rfl⟩ fun M0 w0=> ?_
 refine a2 ?_
 refine Cc 0 rfl ?_
 refine ac ?_
 · exact BI _ _
theorem UY {A7:Int}  :Bb prog 163 [int A7] (int (CB A7).kind):=by
 refine fo func163 rfl ⟨rfl,rfl⟩ fun M0 w0=> ?_
 refine ac ?_
 refine ag ?_ ?_<;>intro h1 q1
 refine a3 ?_
 · refine int_eq ?_;unfold CB;rw [if_neg (by omega)];rfl
 refine an ?_ ?_<;>intro h2 q2
 refine a2 ?_
 · refine int_eq ?_;unfold CB;rw [if_neg (by omega)];rfl
 have hin:1≤A7∧A7≤22:=by omega
 refine ac ?_
 refine Tr.seq (Tr.BK (co rfl (g_ (UX) rfl) (cm rfl (co rfl (AL rfl underlying202 V6 (vl rfl) (vl rfl) (by omega) (CD (f:=fun r:List UInt8×Int=>[str r.1,int r.2]) (UW hin))) ?_))))
 refine a2 ?_
 · exact Lr
theorem NA {A7 bits:Int}  :Bb prog 108 [agg [int A7,int bits]] (bool (decide (BO A7 bits>0)&&(CB A7).kind==2)):=by
 refine fo func108 rfl ⟨rfl,rfl⟩ fun M0 w0=> ?_
 refine ac ?_
 refine ac ?_
 refine co rfl (EC (J0) rfl rfl) (cm rfl ?_)
 refine Ch.cs 5 rfl ?_ ?_<;>intro h1 q1
 refine ac ?_
 refine cy h1 rfl (EC (UY) rfl rfl) ?_
 refine ac ?_
 refine ac ?_
 · refine bool_eq ?_;simp_all
 refine ac ?_
 refine ac ?_
 · refine bool_eq ?_;simp_all;omega
structure AO where
 src:Int
 host:List UInt8
 machine:Int
 day:Int
 DW:Int
 kind:Int
 DD:List UInt8
 A7:Int
 bits:Int
 num:Int
 text:List UInt8
abbrev AR (f:AO):List Pr:=[int f.src,str f.host,int f.machine,int f.day,int f.DW,int f.kind,str f.DD,int f.A7,int f.bits,int f.num,str f.text]
abbrev BL (l:List AO):Pr:=slice 11 (l.map AR)
structure AO.fits (f:AO):Prop where
 host:f.host.length≤maxLen
 DD:f.DD.length≤maxLen
 text:f.text.length≤maxLen
def Bh (f:AO):Bool:=decide (f.A7=0∧f.bits=0)&&decide (f.text=[])
def AY (f:AO):Bool:=
 if f.kind=1∨f.kind=8 then decide (BO f.A7 f.bits>0)&&decide (f.num=0)&&decide (f.text=[])
 else if f.kind=2 then Bh f&&decide (0≤f.num)&&decide (f.num≤65535)
 else if f.kind=3 then decide (BO f.A7 f.bits>0)&&(CB f.A7).kind==2&&decide (0≤f.num)&&decide (f.num≤2147483648)&&decide (f.text=[])
 else if f.kind=4∨f.kind=5 then Bh f&&decide (1≤f.num)&&decide (f.num≤4)
 else if f.kind=6 then Bh f&&decide (0≤f.num)&&decide (f.num≤2147483648)
 else if f.kind=7 then decide (f.A7=0∧f.bits=0)&&decide (f.num=0)&&named f.text
 else false
def Bz (f:AO):Bool:=named f.host&&named f.DD&&decide (0≤f.machine)&&decide (f.machine≤1099511627776)
def Cu (f:AO):Bool:=decide (0≤f.day)&&decide (f.day≤40000)&&decide (1≤f.DW)&&decide (f.DW≤100)
def BB (f:AO):Bool:=Bz f&&Cu f&&decide (1≤f.src)&&decide (f.src≤7)&&AY f
theorem Qg {f:AO} (hf:f.fits):Bb prog 105 [agg (AR f)] (bool (AY f)):=by
 refine fo func105 rfl ⟨rfl,rfl⟩ fun M0 w0=> ?_
 refine ac ?_
 refine Cc 1 rfl (Tr.FZ [1] [(3,bool (Bh f))] (True) ?_ (fun h1=> ?_))
 refine ac ?_
 refine co rfl (L5 rfl (vl rfl) (vl rfl)) (cm rfl ?_)
 refine Ch.cs 8 rfl ?_ ?_<;>intro h2 q2
 refine ac ?_
 exact Fin.AF () (by simp_all) ⟨⟨_,rfl,bool_eq (by simp_all [Bh])⟩,ke rfl,trivial⟩
 refine ac ?_
 exact Fin.AF () (by simp_all) ⟨⟨_,rfl,bool_eq (by simp_all [Bh])⟩,ke rfl,trivial⟩
 refine ac ?_
 refine ac ?_
 refine Tr.cn rfl ?_ ?_<;>intro h3 q3
 refine ac ?_
 refine Tr.cond rfl (fun _=> ?_) (fun h=>nomatch h3.symm.trans h)
 refine ac ?_
 refine co rfl (EC (L_) rfl rfl) (cm rfl ?_)
 refine Ch.cs 21 rfl ?_ ?_<;>intro h4 q4
 refine ac ?_
 refine Ch.cs 26 rfl ?_ ?_<;>intro h5 q5
 refine ac ?_
 refine Cc 2 rfl ?_
 refine ac ?_
 · refine bool_eq ?_;unfold AY;simp_all
 refine ac ?_
 refine Cc 2 rfl ?_
 refine ac ?_
 · refine bool_eq ?_;unfold AY;simp_all
 refine ac ?_
 refine Cc 2 rfl ?_
 refine ac ?_
 · refine bool_eq ?_;unfold AY;simp_all;omega
 refine ac ?_
 refine Tr.cn rfl ?_ ?_<;>intro h6 q6
 refine ac ?_
 refine co rfl (EC (L_) rfl rfl) (cm rfl ?_)
 refine Ch.cs 21 rfl ?_ ?_<;>intro h7 q7
 refine ac ?_
 refine Ch.cs 26 rfl ?_ ?_<;>intro h8 q8
 refine ac ?_
 refine Cc 2 rfl ?_
 refine ac ?_
 · refine bool_eq ?_;unfold AY;simp_all
 refine ac ?_
 refine Cc 2 rfl ?_
 refine ac ?_
 · refine bool_eq ?_;unfold AY;simp_all
 refine ac ?_
 refine Cc 2 rfl ?_
 refine ac ?_
 · refine bool_eq ?_;unfold AY;simp_all;omega
 refine ac ?_
 refine Tr.cn rfl ?_ ?_<;>intro h9 q9
 refine ac ?_
 refine Ch.cs 34 rfl ?_ ?_<;>intro h10 UT
 refine ac ?_
 refine Ch.cs 39 rfl ?_ ?_<;>intro h11 Z_
 refine ac ?_
 refine Cc 2 rfl ?_
 refine ac ?_
 · refine bool_eq ?_;unfold AY;simp_all
 refine ac ?_
 refine Cc 2 rfl ?_
 refine ac ?_
 · refine bool_eq ?_;unfold AY;simp_all;omega
 refine ac ?_
 refine Cc 2 rfl ?_
 refine ac ?_
 · refine bool_eq ?_;unfold AY;simp_all
 refine ac ?_
 refine Tr.cn rfl ?_ ?_<;>intro h12 WN
 refine ac ?_
 refine co rfl (EC (L_) rfl rfl) (cm rfl ?_)
 refine Ch.cs 49 rfl ?_ ?_<;>intro Pg XS
 refine ac ?_
 refine cy Pg rfl (EC (XM) rfl rfl) ?_
 refine ac ?_
 refine Ch.cs 56 rfl ?_ ?_<;>intro Pn aA
 refine ac ?_
 refine Ch.cs 61 rfl ?_ ?_<;>intro iF iG
 refine ac ?_
 refine Ch.cs 66 rfl ?_ ?_<;>intro h16 iH
 refine ac ?_
 refine Cc 2 rfl ?_
 refine ac ?_
 · refine bool_eq ?_;unfold AY;simp_all
 refine ac ?_
 refine Cc 2 rfl ?_
 refine ac ?_
 · refine bool_eq ?_;unfold AY;simp_all;omega
 refine ac ?_
 refine Cc 2 rfl ?_
 refine ac ?_
 · refine bool_eq ?_;unfold AY;simp_all;omega
 refine ac ?_
 refine Cc 2 rfl ?_
 refine ac ?_
 · refine bool_eq ?_;unfold AY;simp_all
 refine ac ?_
 refine Cc 2 rfl ?_
 refine ac ?_
 · refine bool_eq ?_;unfold AY;simp_all;omega
 refine ac ?_
 refine Ks 1 3 14 71 rfl ?_
 refine Tr.cn rfl ?_ ?_<;>intro WL fH
 refine ac ?_
 refine Tr.cond rfl (fun _=> ?_) (fun h=>nomatch WL.symm.trans h)
 refine ac ?_
 refine Ch.cs 75 rfl ?_ ?_<;>intro cY fI
 refine ac ?_
 refine Ch.cs 80 rfl ?_ ?_<;>intro XP fJ
 refine ac ?_
 refine Cc 2 rfl ?_
 refine ac ?_
 · refine bool_eq ?_;unfold AY;simp_all
 refine ac ?_
 refine Cc 2 rfl ?_
 refine ac ?_
 · refine bool_eq ?_;unfold AY;simp_all;omega
 refine ac ?_
 refine Cc 2 rfl ?_
 refine ac ?_
 · refine bool_eq ?_;unfold AY;simp_all
 refine ac ?_
 refine Tr.cn rfl ?_ ?_<;>intro XQ fK
 refine ac ?_
 refine Ch.cs 75 rfl ?_ ?_<;>intro WM fL
 refine ac ?_
 refine Ch.cs 80 rfl ?_ ?_<;>intro XT iI
 refine ac ?_
 refine Cc 2 rfl ?_
 refine ac ?_
 · refine bool_eq ?_;unfold AY;simp_all
 refine ac ?_
 refine Cc 2 rfl ?_
 refine ac ?_
 · refine bool_eq ?_;unfold AY;simp_all;omega
 refine ac ?_
 refine Cc 2 rfl ?_
 refine ac ?_
 · refine bool_eq ?_;unfold AY;simp_all
 refine ac ?_
 refine Tr.cn rfl ?_ ?_<;>intro h23 iJ
 refine ac ?_
 refine Ch.cs 88 rfl ?_ ?_<;>intro fM iK
 refine ac ?_
 refine Ch.cs 93 rfl ?_ ?_<;>intro cZ iL
 refine ac ?_
 refine Cc 2 rfl ?_
 refine ac ?_
 · refine bool_eq ?_;unfold AY;simp_all
 refine ac ?_
 refine Cc 2 rfl ?_
 refine ac ?_
 · refine bool_eq ?_;unfold AY;simp_all;omega
 refine ac ?_
 refine Cc 2 rfl ?_
 refine ac ?_
 · refine bool_eq ?_;unfold AY;simp_all
 refine ac ?_
 refine Tr.cn rfl ?_ ?_<;>intro MV iM
 refine ac ?_
 refine co rfl (L5 rfl (vl rfl) (vl rfl)) (cm rfl ?_)
 refine Ch.cs 104 rfl ?_ ?_<;>intro RG fN
 refine ac ?_
 refine Ch.cs 109 rfl ?_ ?_<;>intro Nx iN
 refine ac ?_
 refine cy Nx rfl (EC (L7 hf.text) rfl rfl) ?_
 refine ac ?_
 refine Cc 2 rfl ?_
 refine ac ?_
 · refine bool_eq ?_;unfold AY;simp_all
 refine ac ?_
 refine Cc 2 rfl ?_
 refine ac ?_
 · refine bool_eq ?_;unfold AY;simp_all
 refine ac ?_
 refine Cc 2 rfl ?_
 refine ac ?_
 · refine bool_eq ?_;unfold AY;simp_all
 refine ac ?_
 refine ac ?_
 refine ac ?_
 · refine bool_eq ?_;unfold AY;simp_all
theorem NB {f:AO} (hf:f.fits):Bb prog 62 [agg (AR f)] (int (if BB f then 0 else 24)):=by
 refine fo func62 rfl ⟨rfl,rfl⟩ fun M0 w0=> ?_
 refine ac ?_
 refine Cc 1 rfl (Tr.FZ [1] [(3,bool (Bz f))] (True) ?_ (fun h1=> ?_))
 refine ac ?_
 refine co rfl (EC (L7 hf.host) rfl rfl) (cm rfl ?_)
 refine Ch.cs 8 rfl ?_ ?_<;>intro h2 q2
 refine ac ?_
 refine cy h2 rfl (EC (L7 hf.DD) rfl rfl) ?_
 refine ac ?_
 refine Ch.cs 13 rfl ?_ ?_<;>intro h3 q3
 refine ac ?_
 refine Ch.cs 18 rfl ?_ ?_<;>intro h4 q4
 refine ac ?_
 exact Fin.AF () (by simp_all) ⟨⟨_,rfl,bool_eq (by simp_all [Bz])⟩,ke rfl,trivial⟩
 refine ac ?_
 exact Fin.AF () (by simp_all) ⟨⟨_,rfl,bool_eq (by simp_all [Bz];omega)⟩,ke rfl,trivial⟩
 refine ac ?_
 exact Fin.AF () (by simp_all) ⟨⟨_,rfl,bool_eq (by simp_all [Bz])⟩,ke rfl,trivial⟩
 refine ac ?_
 exact Fin.AF () (by simp_all) ⟨⟨_,rfl,bool_eq (by simp_all [Bz])⟩,ke rfl,trivial⟩
 refine Fl 1 3 rfl (Tr.FZ [1,3] [(4,bool (Cu f))] (True) ?_ (fun h5=> ?_))
 refine ac ?_
 refine Ch.cs 26 rfl ?_ ?_<;>intro h6 q6
 refine ac ?_
 refine Ch.cs 31 rfl ?_ ?_<;>intro h7 q7
 refine ac ?_
 refine Ch.cs 36 rfl ?_ ?_<;>intro h8 q8
 refine ac ?_
 exact Fin.AF () (by simp_all) ⟨⟨_,rfl,bool_eq (by simp_all [Cu])⟩,ke rfl,ke rfl,trivial⟩
 refine ac ?_
 exact Fin.AF () (by simp_all) ⟨⟨_,rfl,bool_eq (by simp_all [Cu];omega)⟩,ke rfl,ke rfl,trivial⟩
 refine ac ?_
 exact Fin.AF () (by simp_all) ⟨⟨_,rfl,bool_eq (by simp_all [Cu];omega)⟩,ke rfl,ke rfl,trivial⟩
 refine ac ?_
 exact Fin.AF () (by simp_all) ⟨⟨_,rfl,bool_eq (by simp_all [Cu];omega)⟩,ke rfl,ke rfl,trivial⟩
 refine ac ?_
 refine Ch.cs 43 rfl ?_ ?_<;>intro h9 q9
 refine ac ?_
 refine Cc 61 rfl ?_
 refine ac ?_
 refine ac ?_
 · refine int_eq ?_;unfold BB;simp_all
 refine ac ?_
 refine Ch.cs 47 rfl ?_ ?_<;>intro h10 UT
 refine ac ?_
 refine Cc 61 rfl ?_
 refine ac ?_
 refine ac ?_
 · refine int_eq ?_;unfold BB;simp_all
 refine ac ?_
 refine Ch.cs 52 rfl ?_ ?_<;>intro h11 Z_
 refine ac ?_
 refine Cc 61 rfl ?_
 refine ac ?_
 refine ac ?_
 · refine int_eq ?_;unfold BB;simp_all;omega
 refine ac ?_
 refine Ch.cs 57 rfl ?_ ?_<;>intro h12 WN
 refine ac ?_
 refine Cc 61 rfl ?_
 refine ac ?_
 refine ac ?_
 · refine int_eq ?_;unfold BB;simp_all;omega
 refine cy h12 rfl (At rfl Ac AH (vl rfl) rfl rfl) (cy h12 rfl (EC (Qg (by assumption)) rfl rfl) ?_)
 refine ac ?_
 refine Cc 61 rfl ?_
 refine Tr.cn rfl ?_ ?_<;>intro Pg XS
 refine ac ?_
 refine ac ?_
 · refine int_eq ?_;unfold BB;simp_all
 refine ac ?_
 refine ac ?_
 refine ac ?_
 · refine int_eq ?_;unfold BB;simp_all
theorem OQ {f:AO}  :Bb prog 64 [agg (AR f)] (int (if BB f then 0 else 24)):=by
 refine fo func64 rfl ⟨rfl,rfl⟩ fun M0 w0=> ?_
 refine ac ?_
 refine ac ?_
 refine Ch.cs 10 rfl ?_ ?_<;>intro h1 q1
 refine ac ?_
 refine Fl 1 56 rfl ?_
 refine ac ?_
 refine ac ?_
 · refine int_eq ?_;unfold BB Bz Cu;simp_all;omega
 refine ac ?_
 refine Ch.cs 15 rfl ?_ ?_<;>intro h2 q2
 refine ac ?_
 refine Fl 1 56 rfl ?_
 refine ac ?_
 refine ac ?_
 · refine int_eq ?_;unfold BB Bz Cu;simp_all;omega
 refine ac ?_
 refine cy h2 rfl (EC (L8) rfl rfl) ?_
 refine ac ?_
 refine Ch.cs 21 rfl ?_ ?_<;>intro h3 q3
 refine ac ?_
 refine Fl 1 56 rfl ?_
 refine ac ?_
 refine ac ?_
 · refine int_eq ?_;unfold BB Bz Cu;simp_all
 refine ac ?_
 refine Ch.cs 26 rfl ?_ ?_<;>intro h4 q4
 refine ac ?_
 refine Fl 1 56 rfl ?_
 refine ac ?_
 refine ac ?_
 · refine int_eq ?_;unfold BB Bz Cu;simp_all;omega
 refine ac ?_
 refine Ch.cs 31 rfl ?_ ?_<;>intro h5 q5
 refine ac ?_
 refine Fl 1 56 rfl ?_
 refine ac ?_
 refine ac ?_
 · refine int_eq ?_;unfold BB Bz Cu;simp_all;omega
 refine ac ?_
 refine Ch.cs 36 rfl ?_ ?_<;>intro h6 q6
 refine ac ?_
 refine Fl 1 56 rfl ?_
 refine ac ?_
 refine ac ?_
 · refine int_eq ?_;unfold BB Bz Cu;simp_all;omega
 refine ac ?_
 refine Ch.cs 41 rfl ?_ ?_<;>intro h7 q7
 refine ac ?_
 refine Fl 1 56 rfl ?_
 refine ac ?_
 refine ac ?_
 · refine int_eq ?_;unfold BB Bz Cu;simp_all;omega
 refine ac ?_
 refine Ch.cs 46 rfl ?_ ?_<;>intro h8 q8
 refine ac ?_
 refine Fl 1 56 rfl ?_
 refine ac ?_
 refine ac ?_
 · refine int_eq ?_;unfold BB Bz Cu;simp_all;omega
 refine ac ?_
 refine Ch.cs 51 rfl ?_ ?_<;>intro h9 q9
 refine ac ?_
 refine Fl 1 56 rfl ?_
 refine ac ?_
 refine ac ?_
 · refine int_eq ?_;unfold BB Bz Cu;simp_all;omega
 refine ac ?_
 refine cy h9 rfl (EC (L8) rfl rfl) ?_
 refine ac ?_
 refine Fl 1 56 rfl ?_
 refine Tr.cn rfl ?_ ?_<;>intro h10 UT
 refine ac ?_
 refine ac ?_
 · refine int_eq ?_;unfold BB Bz Cu;simp_all
 refine ac ?_
 refine ac ?_
 refine co rfl (L5 rfl (vl rfl) (vl rfl)) ?_
 refine ac ?_
 refine Ks 1 3 4 5 rfl ?_
 refine ac ?_
 refine Tr.FZ [] [(6,bool (AY f))] (True) ?_ (fun h11=> ?_)
 refine ac ?_
 refine ac ?_
 refine Tr.cn rfl ?_ ?_<;>intro h12 WN
 refine ac ?_
 refine Tr.cond rfl (fun _=> ?_) (fun h=>nomatch h12.symm.trans h)
 refine ac ?_
 refine co rfl (EC (J0) rfl rfl) (cm rfl ?_)
 refine Ch.cs 75 rfl ?_ ?_<;>intro Pg XS
 refine ac ?_
 refine Ch.cs 78 rfl ?_ ?_<;>intro Pn aA
 refine ac ?_
 exact Fin.AF () (by simp_all) ⟨⟨_,rfl,bool_eq (by unfold AY Bh;simp_all)⟩,trivial⟩
 refine ac ?_
 exact Fin.AF () (by simp_all) ⟨⟨_,rfl,bool_eq (by unfold AY Bh;simp_all)⟩,trivial⟩
 refine ac ?_
 exact Fin.AF () (by simp_all) ⟨⟨_,rfl,bool_eq (by unfold AY Bh;simp_all;omega)⟩,trivial⟩
 refine ac ?_
 refine Tr.cn rfl ?_ ?_<;>intro iF iG
 refine ac ?_
 refine co rfl (EC (J0) rfl rfl) (cm rfl ?_)
 refine Ch.cs 75 rfl ?_ ?_<;>intro h16 iH
 refine ac ?_
 refine Ch.cs 78 rfl ?_ ?_<;>intro WL fH
 refine ac ?_
 exact Fin.AF () (by simp_all) ⟨⟨_,rfl,bool_eq (by unfold AY Bh;simp_all)⟩,trivial⟩
 refine ac ?_
 exact Fin.AF () (by simp_all) ⟨⟨_,rfl,bool_eq (by unfold AY Bh;simp_all)⟩,trivial⟩
 refine ac ?_
 exact Fin.AF () (by simp_all) ⟨⟨_,rfl,bool_eq (by unfold AY Bh;simp_all;omega)⟩,trivial⟩
 refine ac ?_
 refine Tr.cn rfl ?_ ?_<;>intro cY fI
 refine ac ?_
 refine Ch.cs 84 rfl ?_ ?_<;>intro XP fJ
 refine ac ?_
 refine Ch.cs 89 rfl ?_ ?_<;>intro XQ fK
 refine ac ?_
 refine Ch.cs 94 rfl ?_ ?_<;>intro WM fL
 refine ac ?_
 exact Fin.AF () (by simp_all) ⟨⟨_,rfl,bool_eq (by unfold AY Bh;simp_all)⟩,trivial⟩
 refine ac ?_
 exact Fin.AF () (by simp_all) ⟨⟨_,rfl,bool_eq (by unfold AY Bh;simp_all)⟩,trivial⟩
 refine ac ?_
 exact Fin.AF () (by simp_all) ⟨⟨_,rfl,bool_eq (by unfold AY Bh;simp_all;omega)⟩,trivial⟩
 refine ac ?_
 exact Fin.AF () (by simp_all) ⟨⟨_,rfl,bool_eq (by unfold AY Bh;simp_all)⟩,trivial⟩
 refine ac ?_
 refine E5 1 3 4 5 6 68 97 rfl ?_
 refine Tr.cn rfl ?_ ?_<;>intro XT iI
 refine ac ?_
 refine co rfl (EC (NA) rfl rfl) (cm rfl ?_)
 refine Ch.cs 102 rfl ?_ ?_<;>intro h23 iJ
 refine ac ?_
 refine Ch.cs 107 rfl ?_ ?_<;>intro fM iK
 refine ac ?_
 refine Ch.cs 112 rfl ?_ ?_<;>intro cZ iL
 refine ac ?_
 exact Fin.AF () (by simp_all) ⟨⟨_,rfl,bool_eq (by unfold AY Bh;simp_all)⟩,trivial⟩
 refine ac ?_
 exact Fin.AF () (by simp_all) ⟨⟨_,rfl,bool_eq (by unfold AY Bh;simp_all;omega)⟩,trivial⟩
 refine ac ?_
 exact Fin.AF () (by simp_all) ⟨⟨_,rfl,bool_eq (by unfold AY Bh;simp_all;omega)⟩,trivial⟩
 refine ac ?_
 exact Fin.AF () (by simp_all) ⟨⟨_,rfl,bool_eq (by unfold AY Bh;simp_all)⟩,trivial⟩
 refine ac ?_
 refine Tr.cn rfl ?_ ?_<;>intro MV iM
 refine ac ?_
 refine Tr.cond rfl (fun _=> ?_) (fun h=>nomatch MV.symm.trans h)
 refine ac ?_
 refine Ch.cs 119 rfl ?_ ?_<;>intro RG fN
 refine ac ?_
 refine Ch.cs 124 rfl ?_ ?_<;>intro Nx iN
 refine ac ?_
 refine Ch.cs 129 rfl ?_ ?_<;>intro SJ iO
 refine ac ?_
 exact Fin.AF () (by simp_all) ⟨⟨_,rfl,bool_eq (by unfold AY Bh;simp_all)⟩,trivial⟩
 refine ac ?_
 exact Fin.AF () (by simp_all) ⟨⟨_,rfl,bool_eq (by unfold AY Bh;simp_all)⟩,trivial⟩
 refine ac ?_
 exact Fin.AF () (by simp_all) ⟨⟨_,rfl,bool_eq (by unfold AY Bh;simp_all;omega)⟩,trivial⟩
 refine ac ?_
 exact Fin.AF () (by simp_all) ⟨⟨_,rfl,bool_eq (by unfold AY Bh;simp_all)⟩,trivial⟩
 refine ac ?_
 refine Tr.cn rfl ?_ ?_<;>intro jk jl
 refine ac ?_
 refine Ch.cs 119 rfl ?_ ?_<;>intro SK iP
 refine ac ?_
 refine Ch.cs 124 rfl ?_ ?_<;>intro h32 jm
 refine ac ?_
 refine Ch.cs 129 rfl ?_ ?_<;>intro XU jo
 refine ac ?_
 exact Fin.AF () (by simp_all) ⟨⟨_,rfl,bool_eq (by unfold AY Bh;simp_all)⟩,trivial⟩
 refine ac ?_
 exact Fin.AF () (by simp_all) ⟨⟨_,rfl,bool_eq (by unfold AY Bh;simp_all)⟩,trivial⟩
 refine ac ?_
 exact Fin.AF () (by simp_all) ⟨⟨_,rfl,bool_eq (by unfold AY Bh;simp_all;omega)⟩,trivial⟩
 refine ac ?_
 exact Fin.AF () (by simp_all) ⟨⟨_,rfl,bool_eq (by unfold AY Bh;simp_all)⟩,trivial⟩
 refine ac ?_
 refine Tr.cn rfl ?_ ?_<;>intro SL jq
 refine ac ?_
 refine Ch.cs 135 rfl ?_ ?_<;>intro WO jr
 refine ac ?_
 refine Ch.cs 140 rfl ?_ ?_<;>intro cj jt
 refine ac ?_
 refine Ch.cs 145 rfl ?_ ?_<;>intro k9 k_
 refine ac ?_
 exact Fin.AF () (by simp_all) ⟨⟨_,rfl,bool_eq (by unfold AY Bh;simp_all)⟩,trivial⟩
 refine ac ?_
 exact Fin.AF () (by simp_all) ⟨⟨_,rfl,bool_eq (by unfold AY Bh;simp_all)⟩,trivial⟩
 refine ac ?_
 exact Fin.AF () (by simp_all) ⟨⟨_,rfl,bool_eq (by unfold AY Bh;simp_all;omega)⟩,trivial⟩
 refine ac ?_
 exact Fin.AF () (by simp_all) ⟨⟨_,rfl,bool_eq (by unfold AY Bh;simp_all)⟩,trivial⟩
 refine ac ?_
 refine Dv 1 3 4 6 148 rfl ?_
 refine Tr.cn rfl ?_ ?_<;>intro lA lB
 refine ac ?_
 refine Ch.cs 151 rfl ?_ ?_<;>intro lC lD
 refine ac ?_
 refine Ch.cs 154 rfl ?_ ?_<;>intro ju lE
 refine ac ?_
 refine cy ju rfl (EC (L8) rfl rfl) ?_
 refine ac ?_
 exact Fin.AF () (by simp_all) ⟨⟨_,rfl,bool_eq (by unfold AY Bh;simp_all)⟩,trivial⟩
 refine ac ?_
 exact Fin.AF () (by simp_all) ⟨⟨_,rfl,bool_eq (by unfold AY Bh;simp_all)⟩,trivial⟩
 refine ac ?_
 exact Fin.AF () (by simp_all) ⟨⟨_,rfl,bool_eq (by unfold AY Bh;simp_all)⟩,trivial⟩
 refine Tr.skip (Fin.block ?_)
 exact Fin.AF () (by simp_all) ⟨⟨_,rfl,bool_eq (by unfold AY Bh;simp_all)⟩,trivial⟩
 refine ac ?_
 refine Tr.cn rfl ?_ ?_<;>intro lF lG
 refine ac ?_
 refine ac ?_
 · refine int_eq ?_;unfold BB Bz Cu;simp_all
 refine ac ?_
 refine ac ?_
 refine ac ?_
 · refine int_eq ?_;unfold BB Bz Cu;simp_all
def FE:List Int→Int
 |[]=>0
 |a::l=>if a=0 then FE l else a
theorem GG:∀l,Yc l=FE l
 |[]=>rfl
 |a::l=>by
  have ih:(l.find? fun x=>x !=0).getD 0=FE l:=GG l
  show ((a::l).find? fun x=>x !=0).getD 0=if a=0 then FE l else a
  by_cases h:a=0
  · rw [List.find?_cons_of_neg (by simp [h]),if_pos h];exact ih
  · rw [List.find?_cons_of_pos (by simpa using h),if_neg h];rfl
def DY (a b:AO):List Int:=[Lib.compareBytes a.host b.host,An a.machine b.machine,An a.day b.day,Lib.compareBytes a.DD b.DD,An a.kind b.kind,An a.A7 b.A7,An a.bits b.bits,An a.num b.num,Lib.compareBytes a.text b.text,An a.src b.src,An a.DW b.DW]
def CH (a b:AO):Int:=FE (DY a b)
theorem UZ {a b:List UInt8}  :Bb prog 146 [str a,str b] (int (Lib.compareBytes a b)):=by
 refine fo func146 rfl ⟨rfl,rfl⟩ fun M0 w0=> ?_
 · repeat' first|(refine int_eq ?_;have h9:=Jh a b;simp_all)|refine co rfl (Rl rfl (vl rfl) (vl rfl)) ?_|refine co rfl (XC rfl (vl rfl) (vl rfl)) ?_|refine ac ?_|(refine Tr.cn rfl ?_ ?_<;>intro h q)
def J1:List Int→List Int→Int
 |a::l,b::m=>if An a b=0 then J1 l m else An a b
 |_,_=>0
theorem OR {a b:List Int} {k:Nat} {x y:Int} (hx:a[k]? =some x) (hy:b[k]? =some y):J1 (a.drop k) (b.drop k)=if An x y=0 then J1 (a.drop (k+1)) (b.drop (k+1)) else An x y:=by
 rw [drop_cons hx,drop_cons hy];rfl
theorem MA {a b:List Int} (hl:a.length≤b.length):Bb prog 147 [ints a,ints b] (int (J1 a b)):=by
 refine fo func147 rfl ⟨rfl,rfl⟩ fun M0 w0=>(Tr.HN 0 rfl fun G4=> ?_)
 refine a2 ?_
 refine Tr.block (Tr.BX [(0,_),(1,_)] (YO rfl) (fun k:Nat=>[(5,int ((k:Nat):Int))]) (fun k:Nat=>k≤(a).length∧(J1 a b=J1 (a.drop k) (b.drop k))) (fun k:Nat=>(a).length-k) 0 (⟨Nat.zero_le _,rfl⟩) ⟨ke rfl,trivial⟩ ?_)
 rintro k ⟨DH,A0⟩
 refine an ?_ ?_<;>intro h1 q1
 have A5:k<(a).length:=A_ h1
 obtain ⟨x,A2⟩:=at_ A5
 obtain ⟨y,hy⟩:=at_ (l:=b) (k:=k) (by omega)
 have hst:=OR A2 hy
 · repeat' first|(refine int_eq ?_;rw [A0,hst];unfold An;(repeat (first|rw [if_pos (by omega)]|rw [if_neg (by omega)])))|(exact Fin.AF (k+1) ⟨⟨A5,(A0.trans (hst.trans (if_pos (by rw [Dw];omega))))⟩,by omega⟩ ⟨⟨_,rfl,Ad k⟩,ke rfl,ke rfl,trivial⟩)|refine co rfl (AL rfl underlying22 DB (vl rfl) (vl rfl) (by omega) (by exact BN (by assumption))) ?_|refine ac ?_|(refine Tr.cn rfl ?_ ?_<;>intro h q)
 have CK:k=(a).length:=by have:=BA h1;omega
 subst CK
 refine a3 ?_
 · refine int_eq ?_;rw [A0,List.drop_length];cases b<;>rfl
theorem J2 {a:Int} {l:List Int} (h:¬a=0):FE (a::l)=a:=if_neg h
theorem CF {a:Int} {l:List Int} (h:a=0):FE (a::l)=FE l:=if_pos h
theorem Ua (a b c d:Int):J1 [a,b] [c,d]=FE [An a c,An b d]:=by
 show (if An a c=0 then (if An b d=0 then 0 else An b d) else An a c)=if An a c=0 then (if An b d=0 then 0 else An b d) else An a c
 rfl
theorem JA:∀(l m:List Int),FE (l++m)=if FE l=0 then FE m else FE l
 |[],m=>by simp [FE]
 |a::l,m=>by
  have ih:=JA l m
  show (if a=0 then FE (l++m) else a)=if (if a=0 then FE l else a)=0 then FE m else (if a=0 then FE l else a)
  by_cases h:a=0
  · simp only [h,if_true];exact ih
  · simp [h]
theorem GH (a b:AO):CH a b=FE [Lib.compareBytes a.host b.host,FE [An a.machine b.machine,An a.day b.day],Lib.compareBytes a.DD b.DD,FE [An a.kind b.kind,An a.A7 b.A7,An a.bits b.bits,An a.num b.num],Lib.compareBytes a.text b.text,FE [An a.src b.src,An a.DW b.DW]]:=by
 have h:∀(l:List Int) (m n:List Int),FE (m++(FE l::n))=FE (m++(l++n)):=by
  intro l m n
  rw [JA,JA m,JA l n];rfl
 unfold CH DY
 have e1:=h [An a.machine b.machine,An a.day b.day] [Lib.compareBytes a.host b.host] [Lib.compareBytes a.DD b.DD,FE [An a.kind b.kind,An a.A7 b.A7,An a.bits b.bits,An a.num b.num],Lib.compareBytes a.text b.text,FE [An a.src b.src,An a.DW b.DW]]
 have e2:=h [An a.kind b.kind,An a.A7 b.A7,An a.bits b.bits,An a.num b.num] [Lib.compareBytes a.host b.host,An a.machine b.machine,An a.day b.day,Lib.compareBytes a.DD b.DD] [Lib.compareBytes a.text b.text,FE [An a.src b.src,An a.DW b.DW]]
 have e3:=h [An a.src b.src,An a.DW b.DW] [Lib.compareBytes a.host b.host,An a.machine b.machine,An a.day b.day,Lib.compareBytes a.DD b.DD,An a.kind b.kind,An a.A7 b.A7,An a.bits b.bits,An a.num b.num,Lib.compareBytes a.text b.text] []
 exact (e1.trans (e2.trans e3)).symm
theorem Gh {a b:AO}  :Bb prog 96 [agg (AR a),agg (AR b)] (int (CH a b)):=by
 refine fo func96 rfl ⟨rfl,rfl⟩ fun M0 w0=> ?_
 · repeat' first|(refine int_eq ?_;rw [GH];exact (J2 (by assumption)).symm)|(refine int_eq ?_;rw [GH];rw [CF (by assumption)];exact (J2 (by assumption)).symm)|(refine int_eq ?_;rw [GH];rw [CF (by assumption),CF (by assumption)];exact (J2 (by assumption)).symm)|(refine int_eq ?_;rw [GH];rw [CF (by assumption),CF (by assumption),CF (by assumption)];exact (J2 (by assumption)).symm)|(refine int_eq ?_;rw [GH];rw [CF (by assumption),CF (by assumption),CF (by assumption),CF (by assumption)];exact (J2 (by assumption)).symm)|(refine int_eq ?_;rw [GH,CF (by assumption),CF (by assumption),CF (by assumption),CF (by assumption),CF (by assumption)];rw [Ua];unfold FE;split<;>simp_all [FE])|refine co rfl (Aq rfl (MA (a:=[a.machine,a.day]) (b:=[b.machine,b.day]) (by simp)) ⟨(Kf rfl),(Kf rfl),trivial⟩) ?_|refine co rfl (Aq rfl (MA (a:=[a.kind,a.A7,a.bits,a.num]) (b:=[b.kind,b.A7,b.bits,b.num]) (by simp)) ⟨(Kf rfl),(Kf rfl),trivial⟩) ?_|refine co rfl (Aq rfl (MA (a:=[a.src,a.DW]) (b:=[b.src,b.DW]) (by simp)) ⟨(Kf rfl),(Kf rfl),trivial⟩) ?_|refine co rfl (Jx (UZ) rfl rfl rfl) ?_|refine ac ?_|(refine Tr.cn rfl ?_ ?_<;>intro h q)
theorem aB {f:AO}  :Bb prog 116 [agg (AR f)] (str f.host):=by
 refine fo func116 rfl ⟨rfl,rfl⟩ fun M0 w0=> ?_
 refine a3 ?_
 · exact Lr
theorem aC:Entry Tryz.prog 116:=⟨_,Tryz.func116,rfl,rfl⟩
theorem aD {f:AO}  :Bb prog 117 [agg (AR f)] (int f.machine):=by
 refine fo func117 rfl ⟨rfl,rfl⟩ fun M0 w0=> ?_
 refine a3 ?_
 · exact Lr
theorem aE:Entry Tryz.prog 117:=⟨_,Tryz.func117,rfl,rfl⟩
theorem aF {f:AO}  :Bb prog 118 [agg (AR f)] (int f.day):=by
 refine fo func118 rfl ⟨rfl,rfl⟩ fun M0 w0=> ?_
 refine a3 ?_
 · exact Lr
theorem aG:Entry Tryz.prog 118:=⟨_,Tryz.func118,rfl,rfl⟩
theorem aH {f:AO}  :Bb prog 119 [agg (AR f)] (str f.DD):=by
 refine fo func119 rfl ⟨rfl,rfl⟩ fun M0 w0=> ?_
 refine a3 ?_
 · exact Lr
theorem aI:Entry Tryz.prog 119:=⟨_,Tryz.func119,rfl,rfl⟩
theorem aJ {f:AO}  :Bb prog 120 [agg (AR f)] (int f.kind):=by
 refine fo func120 rfl ⟨rfl,rfl⟩ fun M0 w0=> ?_
 refine a3 ?_
 · exact Lr
theorem aK:Entry Tryz.prog 120:=⟨_,Tryz.func120,rfl,rfl⟩
theorem aL {f:AO}  :Bb prog 121 [agg (AR f)] (int f.A7):=by
 refine fo func121 rfl ⟨rfl,rfl⟩ fun M0 w0=> ?_
 refine a3 ?_
 · exact Lr
theorem aM:Entry Tryz.prog 121:=⟨_,Tryz.func121,rfl,rfl⟩
theorem aN {f:AO}  :Bb prog 122 [agg (AR f)] (int f.bits):=by
 refine fo func122 rfl ⟨rfl,rfl⟩ fun M0 w0=> ?_
 refine a3 ?_
 · exact Lr
theorem aO:Entry Tryz.prog 122:=⟨_,Tryz.func122,rfl,rfl⟩
theorem XV {f:AO}  :Bb prog 123 [agg (AR f)] (int f.num):=by
 refine fo func123 rfl ⟨rfl,rfl⟩ fun M0 w0=> ?_
 refine a3 ?_
 · exact Lr
theorem XW:Entry Tryz.prog 123:=⟨_,Tryz.func123,rfl,rfl⟩
theorem XX {f:AO}  :Bb prog 124 [agg (AR f)] (str f.text):=by
 refine fo func124 rfl ⟨rfl,rfl⟩ fun M0 w0=> ?_
 refine a3 ?_
 · exact Lr
theorem XY:Entry Tryz.prog 124:=⟨_,Tryz.func124,rfl,rfl⟩
theorem XZ {f:AO}  :Bb prog 125 [agg (AR f)] (int f.src):=by
 refine fo func125 rfl ⟨rfl,rfl⟩ fun M0 w0=> ?_
 refine a3 ?_
 · exact Lr
theorem Xa:Entry Tryz.prog 125:=⟨_,Tryz.func125,rfl,rfl⟩
theorem Xb {f:AO}  :Bb prog 126 [agg (AR f)] (int f.DW):=by
 refine fo func126 rfl ⟨rfl,rfl⟩ fun M0 w0=> ?_
 refine a3 ?_
 · exact Lr
theorem Xc:Entry Tryz.prog 126:=⟨_,Tryz.func126,rfl,rfl⟩
theorem aP {g:AO→Int} {a b:AO}  :Bb prog 112 [ref [Dh prog (fun f:AO=>[agg (AR f)]) (fun f=>int (g f))],ref (AR a),ref (AR b)] (int (An (g a) (g b))):=by
 refine fo func112 rfl ⟨rfl,rfl⟩ fun M0 w0=> ?_
 refine a2 ?_
 refine co rfl (Af a rfl (vl rfl) ⟨ke rfl,trivial⟩) ?_
 refine ac ?_
 refine co rfl (Af b rfl (vl rfl) ⟨ke rfl,trivial⟩) (co rfl (Jx (HX) rfl rfl rfl) ?_)
 refine a2 ?_
 · exact Lr
theorem aQ:Entry Tryz.prog 112:=⟨_,Tryz.func112,rfl,rfl⟩
theorem aR {g:AO→List UInt8} {a b:AO}  :Bb prog 114 [ref [Dh prog (fun f:AO=>[agg (AR f)]) (fun f=>str (g f))],ref (AR a),ref (AR b)] (int (Lib.compareBytes (g a) (g b))):=by
 refine fo func114 rfl ⟨rfl,rfl⟩ fun M0 w0=> ?_
 refine a2 ?_
 refine co rfl (Af a rfl (vl rfl) ⟨ke rfl,trivial⟩) ?_
 refine ac ?_
 refine co rfl (Af b rfl (vl rfl) ⟨ke rfl,trivial⟩) (co rfl (Jx (XI) rfl rfl rfl) ?_)
 refine a2 ?_
 · exact Lr
theorem aS:Entry Tryz.prog 114:=⟨_,Tryz.func114,rfl,rfl⟩
theorem fO {g:AO→Int} {a b:AO}  :Bb prog 111 [Dh prog (fun f:AO=>[agg (AR f)]) (fun f=>int (g f)),ref (AR a),ref (AR b)] (Dh prog (fun _:Unit=>[]) (fun _=>int (An (g a) (g b)))):=by
 refine fo func111 rfl ⟨rfl,rfl⟩ fun M0 w0=> ?_
 refine a3 ?_
 · exact BJ aQ (fun _=>aP)
theorem fP:Entry Tryz.prog 111:=⟨_,Tryz.func111,rfl,rfl⟩
theorem fQ {g:AO→List UInt8} {a b:AO}  :Bb prog 113 [Dh prog (fun f:AO=>[agg (AR f)]) (fun f=>str (g f)),ref (AR a),ref (AR b)] (Dh prog (fun _:Unit=>[]) (fun _=>int (Lib.compareBytes (g a) (g b)))):=by
 refine fo func113 rfl ⟨rfl,rfl⟩ fun M0 w0=> ?_
 refine a3 ?_
 · exact BJ aS (fun _=>aR)
theorem fR:Entry Tryz.prog 113:=⟨_,Tryz.func113,rfl,rfl⟩
theorem SM {a b:AO} {k:Nat} {x:Int} (hx:(DY a b)[k]? =some x) (h0:¬x=0) (h:∀j y,j<k→(DY a b)[j]? =some y→(y !=0)=false):x=CH a b:=by
 have:=Pj hx h0 h;rw [GG] at this;exact this
theorem Qh {a b:AO} (h:∀j y,j<(DY a b).length→(DY a b)[j]? =some y→(y !=0)=false):0=CH a b:=by
 have:=M8 h;rw [GG] at this;exact this
theorem NC {a b:AO}  :Bb prog 70 [agg (AR a),agg (AR b)] (int (CH a b)):=by
 refine fo func70 rfl ⟨rfl,rfl⟩ fun M0 w0=> ?_
 refine a3 ?_
 refine Tr.seq (Tr.seq (Tr.re 5 rfl (BJ (dom:=fun g:AO→Int=>[Dh prog (fun f:AO=>[agg (AR f)]) (fun f=>int (g f))]) (res:=fun g=>Dh prog (fun _:Unit=>[]) (fun _=>int (An (g a) (g b)))) fP (fun g=>fO (g:=g) (a:=a) (b:=b))) (Tr.re 6 rfl (BJ (dom:=fun g:AO→List UInt8=>[Dh prog (fun f:AO=>[agg (AR f)]) (fun f=>str (g f))]) (res:=fun g=>Dh prog (fun _:Unit=>[]) (fun _=>int (Lib.compareBytes (g a) (g b)))) fR (fun g=>fQ (g:=g) (a:=a) (b:=b))) ?_)))
 refine ac ?_
 refine co rfl (Af (fun f:AO=>f.host) rfl (vl rfl) ⟨⟨_,rfl,BJ (dom:=fun f:AO=>[agg (AR f)]) (res:=fun f=>str f.host) aC (fun f=>aB (f:=f))⟩,trivial⟩) (cm rfl (co rfl (Af (fun f:AO=>f.machine) rfl (vl rfl) ⟨⟨_,rfl,BJ (dom:=fun f:AO=>[agg (AR f)]) (res:=fun f=>int f.machine) aE (fun f=>aD (f:=f))⟩,trivial⟩) (cm rfl (co rfl (Af (fun f:AO=>f.day) rfl (vl rfl) ⟨⟨_,rfl,BJ (dom:=fun f:AO=>[agg (AR f)]) (res:=fun f=>int f.day) aG (fun f=>aF (f:=f))⟩,trivial⟩) (cm rfl (co rfl (Af (fun f:AO=>f.DD) rfl (vl rfl) ⟨⟨_,rfl,BJ (dom:=fun f:AO=>[agg (AR f)]) (res:=fun f=>str f.DD) aI (fun f=>aH (f:=f))⟩,trivial⟩) (cm rfl (co rfl (Af (fun f:AO=>f.kind) rfl (vl rfl) ⟨⟨_,rfl,BJ (dom:=fun f:AO=>[agg (AR f)]) (res:=fun f=>int f.kind) aK (fun f=>aJ (f:=f))⟩,trivial⟩) (cm rfl (co rfl (Af (fun f:AO=>f.A7) rfl (vl rfl) ⟨⟨_,rfl,BJ (dom:=fun f:AO=>[agg (AR f)]) (res:=fun f=>int f.A7) aM (fun f=>aL (f:=f))⟩,trivial⟩) (cm rfl (co rfl (Af (fun f:AO=>f.bits) rfl (vl rfl) ⟨⟨_,rfl,BJ (dom:=fun f:AO=>[agg (AR f)]) (res:=fun f=>int f.bits) aO (fun f=>aN (f:=f))⟩,trivial⟩) (cm rfl ?_)))))))))))))
 refine co rfl (Af (fun f:AO=>f.num) rfl (vl rfl) ⟨⟨_,rfl,BJ (dom:=fun f:AO=>[agg (AR f)]) (res:=fun f=>int f.num) XW (fun f=>XV (f:=f))⟩,trivial⟩) (cm rfl (co rfl (Af (fun f:AO=>f.text) rfl (vl rfl) ⟨⟨_,rfl,BJ (dom:=fun f:AO=>[agg (AR f)]) (res:=fun f=>str f.text) XY (fun f=>XX (f:=f))⟩,trivial⟩) (cm rfl (co rfl (Af (fun f:AO=>f.src) rfl (vl rfl) ⟨⟨_,rfl,BJ (dom:=fun f:AO=>[agg (AR f)]) (res:=fun f=>int f.src) Xa (fun f=>XZ (f:=f))⟩,trivial⟩) (cm rfl (co rfl (Af (fun f:AO=>f.DW) rfl (vl rfl) ⟨⟨_,rfl,BJ (dom:=fun f:AO=>[agg (AR f)]) (res:=fun f=>int f.DW) Xc (fun f=>Xb (f:=f))⟩,trivial⟩) (co rfl (Aw (xs:=[.tmp 13,.tmp 15,.tmp 17,.tmp 19,.tmp 21,.tmp 23,.tmp 25,.tmp 27,.tmp 29,.tmp 31,.tmp 33]) (rows:=[[_],[_],[_],[_],[_],[_],[_],[_],[_],[_],[_]]) rfl rfl underlying149 V4 dx rfl (by decide) ⟨⟨(by exact rfl),(Vo rfl)⟩,⟨⟨(by exact rfl),(Vo rfl)⟩,⟨⟨(by exact rfl),(Vo rfl)⟩,⟨⟨(by exact rfl),(Vo rfl)⟩,⟨⟨(by exact rfl),(Vo rfl)⟩,⟨⟨(by exact rfl),(Vo rfl)⟩,⟨⟨(by exact rfl),(Vo rfl)⟩,⟨⟨(by exact rfl),(Vo rfl)⟩,⟨⟨(by exact rfl),(Vo rfl)⟩,⟨⟨(by exact rfl),(Vo rfl)⟩,⟨⟨(by exact rfl),(Vo rfl)⟩,trivial⟩⟩⟩⟩⟩⟩⟩⟩⟩⟩⟩ (by decide)) ?_)))))))
 refine co rfl (E2 rfl underlying149 (Kf rfl)) ?_
 refine ac ?_
 refine Wh 34 35 36 rfl (Tr.block (Tr.re 34 rfl (Pr.le_trans (BI _ _) (Pr.le_of_eq (show _=slice 1 ((DY a b).map fun k=>[Dh prog (fun _:Unit=>[]) (fun _=>int (k))]) from rfl))) (Tr.re 35 rfl (int_eq (b:=(((DY a b).length:Nat):Int)) rfl) ?_)))
 refine Tr.BX [(34,_),(35,_)] (YO rfl) (fun k:Nat=>[(36,int ((k:Nat):Int))]) (fun k:Nat=>k≤(DY a b).length∧(∀j y,j<k→(DY a b)[j]? =some y→(y !=0)=false)) (fun k:Nat=>(DY a b).length-k) 0 (⟨Nat.zero_le _,fun j y hj=>absurd hj (by omega)⟩) ⟨ke rfl,trivial⟩ ?_
 rintro k ⟨DH,A0⟩
 refine ac ?_
 refine Tr.seq ?_
 refine Tr.cn rfl ?_ ?_<;>intro h1 q1
 have A5:k<(DY a b).length:=A_ h1
 obtain ⟨x,A2⟩:=at_ A5
 have hL:k<11:=A5
 refine ac ?_
 refine Tr.seq (Tr.block (Tr.seq (Tr.BK (co rfl (AL rfl underlying149 V4 (vl rfl) (vl rfl) (by omega) (BN (f:=fun k=>[Dh prog (fun _:Unit=>[]) (fun _=>int (k))]) A2)) ?_))))
 · repeat' first|exact int_eq (SM A2 (by assumption) A0)|exact Fin.AF (k+1) ⟨⟨A5,FB (p:=fun y=>y !=0) A2 (by simpa using by assumption) A0⟩,by omega⟩ ⟨⟨_,rfl,Ad k⟩,ke rfl,ke rfl,trivial⟩|refine co rfl (Af () rfl (vl rfl) trivial) ?_|refine ac ?_|(refine Tr.cn rfl ?_ ?_<;>intro h q)
 have CK:k=(DY a b).length:=by have:=BA h1;omega
 subst CK
 refine a3 ?_
 · exact int_eq (Qh A0)
theorem SN:Entry Tryz.prog 70:=⟨_,Tryz.func70,rfl,rfl⟩
def Qi (l:List AO):Prop:=∀(j:Nat) a b,l[j]? =some a→l[j+1]? =some b→CH a b<0
structure CS (l:List AO):Prop where
 check:∀f∈l,BB f=true
 jv:Qi l
 len:l.length≤400
abbrev Po (l:List AO) (k:Nat):Prop:=∀(j:Nat) a b,j+1<k→l[j]? =some a→l[j+1]? =some b→CH a b<0
theorem ND {l:List AO} {k:Nat} {x:AO} (hx:l[k]? =some x) (hp:∀y,0<k→l[k-1]? =some y→CH y x<0) (h:Po l k):Po l (k+1):=by
 intro j a b hj ha hb
 by_cases hjk:j+1=k
 ·
  subst hjk
  rw [hx] at hb;cases hb
  exact hp a (by omega) (by simpa using ha)
 · exact h j a b (by omega) ha hb
abbrev Ub (l:List AO) (k:Nat):Prop:=∀(j:Nat) y,j<k→l[j]? =some y→BB y=true
theorem Pp {l:List AO} {k:Nat} {x:AO} (hx:l[k]? =some x) (hp:BB x=true) (h:Ub l k):Ub l (k+1):=by
 intro j y hj hy
 by_cases hjk:j=k
 · subst hjk;rw [hx] at hy;cases hy;exact hp
 · exact h j y (by omega) hy
theorem Xd {l:List AO} (h:Ub l l.length):∀f∈l,BB f=true:=by
 intro f hf
 obtain ⟨j,hj⟩:=List.mem_iff_getElem?.1 hf
 exact h j f (by rcases Nat.lt_or_ge j l.length with h'|h';exact h';rw [List.getElem?_eq_none h'] at hj;cases hj) hj
theorem Uc {l:List AO} (h:Po l l.length):Qi l:=fun j a b ha hb=>h j a b (by rcases Nat.lt_or_ge (j+1) l.length with h'|h';exact h';rw [List.getElem?_eq_none h'] at hb;cases hb) ha hb
theorem SO {f:AO} (h:¬(if BB f=true then (0:Int) else 24)=0):BB f=false:=by
 cases hc:BB f with
 |false=>rfl
 |true=>rw [if_pos hc] at h;exact absurd rfl h
theorem Qj {f:AO} (h:(if BB f=true then (0:Int) else 24)=0):BB f=true:=by
 cases hc:BB f with
 |true=>rfl
 |false=>rw [hc] at h;cases h
theorem JB {l:List AO} {f:AO→List Pr} {k:Nat} {x:AO} (h0:0<k) (h:l[k-1]? =some x):(l.map f)[(((k:Nat):Int)-1).toNat]? =some (f x):=by
 rw [show (((k:Nat):Int)-1).toNat=k-1 by omega,List.getElem?_map,h];rfl
theorem K_ {l:List AO} (hf:∀f∈l,f.fits) [Decidable (CS l)]:Bb prog 55 [BL l] (bool (decide (CS l))):=by
 refine fo func55 rfl ⟨rfl,rfl⟩ fun M0 w0=>(Tr.HN 0 rfl fun G4=> ?_)
 refine a2 ?_
 refine Tr.block (Tr.BX [(0,_),(5,_),(6,_)] (QN rfl) (fun k:Nat=>[(7,int ((k:Nat):Int))]) (fun k:Nat=>k≤(l).length∧(Ub l k∧Po l k)) (fun k:Nat=>(l).length-k) 0 (⟨Nat.zero_le _,⟨fun j y hj=>absurd hj (by omega),fun j a b hj=>absurd hj (by omega)⟩⟩) ⟨ke rfl,trivial⟩ ?_)
 rintro k ⟨DH,A0⟩
 refine ac ?_
 refine Tr.seq ?_
 refine Tr.cn rfl ?_ ?_<;>intro h1 q1
 have A5:k<(l).length:=A_ h1
 obtain ⟨x,A2⟩:=at_ A5
 refine ac ?_
 refine ao ?_
 refine tp rfl (AL rfl underlying31 AH (vl rfl) (vl rfl) (by omega) (by exact BN (by assumption))) ?_
 refine tp rfl (At rfl Ac AH (vl rfl) rfl rfl) ?_
 refine Tl rfl rfl rfl rfl E6 GZ (fun b1=> ?_)
 refine tm rfl ?_
 refine sf 0 4 ⟨rfl,rfl,rfl⟩ rfl rfl rfl rfl ?_
 refine ao ?_
 refine ac ?_
 refine co rfl (EC (NB (hf x (List.mem_of_getElem? A2))) rfl rfl) ?_
 refine ag ?_ ?_<;>intro h2 q2
 have hc:=SO q2
 refine ac ?_
 refine Dv 0 5 6 7 28 rfl ?_
 refine a2 ?_
 · refine bool_eq ?_;symm;rw [decide_eq_false_iff_not];intro hn;have:=hn.check x (List.mem_of_getElem? A2);rw [hc] at this;cases this
 have hc:=Qj q2
 refine ag ?_ ?_<;>intro h3 q3
 obtain ⟨p,hp⟩:=at_ (l:=l) (k:=k-1) (by omega)
 · repeat' first|(refine bool_eq ?_;symm;rw [decide_eq_false_iff_not];intro hn;have:=hn.jv (k-1) p x hp (by rw [show k-1+1=k by omega];exact A2);omega)|(exact Fin.AF (k+1) ⟨⟨A5,⟨Pp A2 hc A0.1,ND A2 (by intro y h0 hy;rw [hp] at hy;cases hy;omega) A0.2⟩⟩,by omega⟩ ⟨⟨_,rfl,Ad k⟩,ke rfl,ke rfl,ke rfl,trivial⟩)|refine cy h3 rfl (AL rfl underlying31 AH (vl rfl) (vl rfl) (by omega) (JB (by omega) hp)) ?_|refine cy h3 rfl (Jx (NC) rfl rfl rfl) ?_|refine ac ?_|(refine Tr.cn rfl ?_ ?_<;>intro h q)
 refine ac ?_
 refine Dv 0 5 6 7 28 rfl ?_
 refine a2 ?_
 exact Fin.AF (k+1) ⟨⟨A5,⟨Pp A2 hc A0.1,ND A2 (by intro y h0 hy;omega) A0.2⟩⟩,by omega⟩ ⟨⟨_,rfl,Ad k⟩,ke rfl,ke rfl,ke rfl,trivial⟩
 have CK:k=(l).length:=by have:=BA h1;omega
 subst CK
 refine a3 ?_
 · refine bool_eq ?_;rw [decide_eq_decide];exact ⟨fun hl=>⟨Xd A0.1,Uc A0.2,by omega⟩,fun hn=>by have:=hn.len;omega⟩
def kF (l:List AO) (f:AO):Nat:=(l.reverse.dropWhile fun x=>decide (0<CH x f)).length
def C8 (l:List AO) (f:AO):List AO:=if 0<kF l f∧((l[kF l f-1]?).map fun x=>CH x f)=some 0 then l else l.take (kF l f)++[f]++l.drop (kF l f)
theorem GS {β:Type} {p:β→Bool}:∀{l m:List β},(∀x∈l,p x=true)→(l++m).dropWhile p=m.dropWhile p
 |[],_,_=>rfl
 |a::l,m,h=>by
  rw [List.cons_append,List.dropWhile_cons_of_pos (h a (by simp))]
  exact GS fun x hx=>h x (List.mem_cons_of_mem _ hx)
theorem SP {l:List AO} {f:AO} {k:Nat} (hk:k≤l.length) (hgt:∀(j:Nat) y,k≤j→l[j]? =some y→0<CH y f) (hle:k=0∨∃x,l[k-1]? =some x∧¬0<CH x f):kF l f=k:=by
 unfold kF
 have h1:l.reverse=(l.drop k).reverse++(l.take k).reverse:=by rw [←List.reverse_append,List.take_append_drop]
 rw [h1,GS (by
  intro x hx
  rw [List.mem_reverse] at hx
  obtain ⟨j,hj⟩:=List.mem_iff_getElem?.1 hx
  rw [List.getElem?_drop] at hj
  simpa using hgt _ x (by omega) hj)]
 rcases hle with h0|⟨x,hx,hn⟩
 · subst h0;simp
 ·
  have lH:0<k:=by
   rcases Nat.eq_zero_or_pos k with h|h
   ·
    subst h
    rw [show (0:Nat)-1=0 from rfl] at hx
    exact absurd (hgt 0 x (Nat.le_refl _) hx) hn
   · exact h
  have h2:l.take k=l.take (k-1)++[x]:=by
   have:=List.take_add_one (l:=l) (i:=k-1)
   rw [show k-1+1=k by omega,hx] at this
   simpa using this
  rw [h2,List.reverse_append]
  show (List.dropWhile _ (x::(l.take (k-1)).reverse)).length=k
  rw [List.dropWhile_cons_of_neg (by simpa using hn)]
  simp;omega
theorem Qk {l:List AO} {f x:AO} {k:Nat} (h:kF l f=k) (h0:0<k) (hx:l[k-1]? =some x) (he:CH x f=0):C8 l f=l:=by
 unfold C8;rw [h,if_pos ⟨h0,by rw [hx];simp [he]⟩]
theorem NF {l:List AO} {f:AO} {k:Nat} (h:kF l f=k) (hn:k=0∨∃x,l[k-1]? =some x∧¬CH x f=0):C8 l f=l.take k++[f]++l.drop k:=by
 unfold C8;rw [h,if_neg]
 rintro ⟨h1,h2⟩
 rcases hn with h3|⟨x,hx,hne⟩
 · omega
 · rw [hx] at h2;simp at h2;exact hne h2
theorem aT {l:List AO} {f:AO} (hl:l.length≤1000):Bb prog 88 [BL l,agg (AR f)] (BL (C8 l f)):=by
 refine Bb.of func88 rfl rfl (by exact Nb rfl) fun M0 w0=> ?_
 refine Tr.seq (Tr.BK (co rfl (Nz rfl (Va rfl)) (cm rfl (Ch.nil (Fin.go (Tr.seq (Tr.BK (cm rfl (co rfl (Bi rfl underlying31 (vl rfl)) (cm rfl (Ch.nil (Fin.go (Tr.seq (Tr.block ?_))))))))))))))
 refine Tr.BX [(0,_),(3,_)] (YO rfl) (fun k:Nat=>[(5,int ((k:Nat):Int))]) (fun k:Nat=>k≤l.length∧∀(j:Nat) y,k≤j→l[j]? =some y→0<CH y f) (fun k:Nat=>k) l.length (⟨Nat.le_refl _,fun j y h1 h2=>by rw [List.getElem?_eq_none h1] at h2;cases h2⟩) ⟨ke rfl,trivial⟩ ?_
 rintro k ⟨hk,hgt⟩
 refine Tr.seq (Tr.seq (Tr.Ic mixed (by kernel_rfl) (cm rfl (co rfl (ki rfl rfl rfl rfl) (cm rfl ?_)))))
 refine Ch.cs 10 rfl ?_ ?_<;>intro h1 q1
 obtain ⟨x,hx⟩:=at_ (l:=l) (k:=k-1) (by omega)
 refine CZ h1 rfl (CZ h1 rfl ?_)
 refine cy h1 rfl (JN rfl (vl rfl) (vl rfl) ?hin) ?_;case hin=>unfold CR;omega
 refine cy h1 rfl (AL rfl underlying31 AH (vl rfl) (vl rfl) (by omega) (JB (by omega) hx)) (cy h1 rfl (At rfl Ac AH (vl rfl) rfl rfl) (cy h1 rfl (At rfl Ac AH (vl rfl) rfl rfl) (cy h1 rfl (Aq rfl (Gh) ⟨ke rfl,ke rfl,trivial⟩) (cy h1 rfl (ki rfl rfl rfl rfl) (co rfl (KV rfl rfl h1 rfl) (Ch.nil (Fin.go (Ks 0 3 5 19 rfl ?_))))))))
 refine Tr.cn rfl ?_ ?_<;>intro h2 q2
 have:=h2
 refine Tr.skip (Fin.go (Tr.block (Tr.BK (cm rfl (jE rfl rfl rfl rfl (by omega) (cm rfl (Ch.nil (Fin.block ?_))))))))
 exact Fin.AF (k-1) ⟨⟨by omega,fun j y h1 h2=>by rcases Nat.eq_or_lt_of_le h1 with h3|h3;(subst h3;rw [hx] at h2;cases h2;omega);exact hgt j y (by omega) h2⟩,by omega⟩ ⟨⟨_,rfl,int_eq (by omega)⟩,ke rfl,ke rfl,trivial⟩
 have:=h2
 refine Tr.exit (Fin.AG (Fin.AG (Fin.AX (Fin.go (Tr.seq (Tr.seq (Tr.Ic mixed (by kernel_rfl) (cm rfl (co rfl (ki rfl rfl rfl rfl) (cm rfl ?_))))))))))
 refine Ch.cs 24 rfl ?_ ?_<;>intro h3 q3
 obtain ⟨x2,hx2⟩:=at_ (l:=l) (k:=k-1) (by omega)
 refine CZ h3 rfl (CZ h3 rfl ?_)
 refine cy h3 rfl (JN rfl (vl rfl) (vl rfl) ?hin) ?_;case hin=>unfold CR;omega
 refine cy h3 rfl (AL rfl underlying31 AH (vl rfl) (vl rfl) (by omega) (JB (by omega) hx2)) (cy h3 rfl (At rfl Ac AH (vl rfl) rfl rfl) (cy h3 rfl (At rfl Ac AH (vl rfl) rfl rfl) (cy h3 rfl (Aq rfl (Gh) ⟨ke rfl,ke rfl,trivial⟩) (cy h3 rfl (ki rfl rfl rfl rfl) (co rfl (KV rfl rfl h3 rfl) (Ch.nil (Fin.go (Ks 0 3 5 33 rfl ?_))))))))
 refine Tr.cn rfl ?_ ?_<;>intro h4 q4
 refine Tr.seq (Tr.BK (cm rfl (cm rfl (Ch.nil (Fin.go (Tr.ret (Fin.AK (Fin.KY rfl (C1.Ig _ _) rfl ?_))))))))
 · rw [Qk (SP hk hgt (.inr ⟨x,hx,by omega⟩)) (by omega) hx2 (by assumption)];exact Lr
 refine Tr.skip (Fin.go (Tr.seq (Tr.pad (Tr.JW mixed [none,none,none,none,some (0,0,true,39),none,none,some (39,0,true,42),none,none,none,some (42,0,true,46),some (46,0,true,4)] (by kernel_rfl) (xo rfl (fun _=>Aw (xs:=[]) (rows:=[]) rfl rfl underlying31 AH E6 rfl (by decide) trivial (by decide)) (xm rfl (xm rfl ?_)))))))
 refine xo rfl (fun _=>E8 rfl underlying31 AH (vl rfl) (vl rfl) (by omega) (by simp;omega)) ?_
 refine Cx.ef 0 rfl rfl (by decide) (Bs rfl rfl (by decide) rfl underlying31 AH Gu E6 rfl (by decide) (Kf rfl) (vl rfl) (by simp;unfold maxLen;omega) (by simp;omega) (Ed (by exact List.Mem.head _) (vl rfl))) ?_
 refine xo rfl (fun _=>At rfl Ac AH (vl rfl) rfl rfl) (xo rfl (fun _=>Aw (xs:=[.tmp 40]) (rows:=[_]) rfl rfl underlying31 AH E6 rfl (by decide) ⟨⟨(by exact rfl),(Va rfl)⟩,trivial⟩ (by decide)) ?_)
 refine Cx.ef 0 rfl rfl (by decide) (Bs rfl rfl (by decide) rfl underlying31 AH Gu E6 rfl (by decide) (vl rfl) (Kf rfl) (by simp;unfold maxLen;omega) (by simp;omega) Cr) ?_
 refine xm rfl (xm rfl ?_)
 refine xo rfl (fun _=>B2 rfl underlying31 AH (vl rfl) (vl rfl) (by omega) (by simp;omega)) ?_
 refine Cx.ef 0 rfl rfl (by decide) (Bs rfl rfl (by decide) rfl underlying31 AH Gu E6 rfl (by decide) (vl rfl) (vl rfl) (by simp;unfold maxLen;omega) (by simp;omega) Cr) ?_
 refine Cx.ef 0 rfl rfl (by decide) (I0 rfl rfl (by decide) rfl (vl rfl)) ?_
 refine Cx.nil ⟨rfl,?_⟩
 refine BT.open_ 0 4 rfl rfl (fun v1=> ?_)
 refine BT.done (B_.cons (B_.map _)) (Fin.go (Cc 4 rfl (Tr.ret (Fin.KY rfl (C1.Ig _ _) rfl ?_))))
 · rw [NF (SP hk hgt (.inr ⟨x,hx,by omega⟩)) (.inr ⟨x2,hx2,by assumption⟩)];exact Pr.le_trans (Bj _ _) (Pr.le_of_eq (by show slice 11 _=slice 11 _;rw [Int.toNat_natCast,List.map_append,List.map_append,List.map_take,List.map_drop,List.nil_append];rfl))
 iterate 8 refine cnt h3 rfl ?_
 refine co rfl (Fb rfl rfl h3 rfl) (Ch.nil (Fin.go (Ks 0 3 5 33 rfl (Tr.cond rfl (fun h=>nomatch h) (fun _=> ?_)))))
 refine Tr.skip (Fin.go (Tr.seq (Tr.pad (Tr.JW mixed [none,none,none,none,some (0,0,true,39),none,none,some (39,0,true,42),none,none,none,some (42,0,true,46),some (46,0,true,4)] (by kernel_rfl) (xo rfl (fun _=>Aw (xs:=[]) (rows:=[]) rfl rfl underlying31 AH E6 rfl (by decide) trivial (by decide)) (xm rfl (xm rfl (xo rfl (fun _=>E8 rfl underlying31 AH (vl rfl) (vl rfl) (by omega) (by omega)) ?_))))))))
 refine Cx.ef 0 rfl rfl (by decide) (Bs rfl rfl (by decide) rfl underlying31 AH Gu E6 rfl (by decide) (Kf rfl) (vl rfl) (by simp;unfold maxLen;omega) (by simp;omega) (Ed (by exact List.Mem.head _) (vl rfl))) ?_
 refine xo rfl (fun _=>At rfl Ac AH (vl rfl) rfl rfl) (xo rfl (fun _=>Aw (xs:=[.tmp 40]) (rows:=[_]) rfl rfl underlying31 AH E6 rfl (by decide) ⟨⟨(by exact rfl),(Va rfl)⟩,trivial⟩ (by decide)) ?_)
 refine Cx.ef 0 rfl rfl (by decide) (Bs rfl rfl (by decide) rfl underlying31 AH Gu E6 rfl (by decide) (vl rfl) (Kf rfl) (by simp;unfold maxLen;omega) (by simp;omega) Cr) ?_
 refine xm rfl (xm rfl (xo rfl (fun _=>B2 rfl underlying31 AH (vl rfl) (vl rfl) (by omega) (by omega)) ?_))
 refine Cx.ef 0 rfl rfl (by decide) (Bs rfl rfl (by decide) rfl underlying31 AH Gu E6 rfl (by decide) (vl rfl) (vl rfl) (by simp;unfold maxLen;omega) (by simp;omega) Cr) ?_
 refine Cx.ef 0 rfl rfl (by decide) (I0 rfl rfl (by decide) rfl (vl rfl)) ?_
 refine Cx.nil ⟨rfl,?_⟩
 refine BT.open_ 0 4 rfl rfl (fun v2=> ?_)
 refine BT.done (B_.cons (B_.map _)) (Fin.go (Cc 4 rfl (Tr.ret (Fin.KY rfl (C1.Ig _ _) rfl ?_))))
 · exfalso;omega
 iterate 8 refine cnt h1 rfl ?_
 refine co rfl (Fb rfl rfl h1 rfl) (Ch.nil (Fin.go (Ks 0 3 5 19 rfl (Tr.cond rfl (fun h=>nomatch h) (fun _=> ?_)))))
 refine Tr.exit (Fin.AG (Fin.AG (Fin.AX (Fin.go (Tr.seq (Tr.seq (Tr.Ic mixed (by kernel_rfl) (cm rfl (co rfl (ki rfl rfl rfl rfl) (cm rfl ?_))))))))))
 refine Ch.cs 24 rfl ?_ ?_<;>intro h5 q5
 obtain ⟨x2,hx2⟩:=at_ (l:=l) (k:=k-1) (by omega)
 refine CZ h5 rfl (CZ h5 rfl ?_)
 refine cy h5 rfl (JN rfl (vl rfl) (vl rfl) ?hin) ?_;case hin=>unfold CR;omega
 refine cy h5 rfl (AL rfl underlying31 AH (vl rfl) (vl rfl) (by omega) (JB (by omega) hx2)) (cy h5 rfl (At rfl Ac AH (vl rfl) rfl rfl) (cy h5 rfl (At rfl Ac AH (vl rfl) rfl rfl) (cy h5 rfl (Aq rfl (Gh) ⟨ke rfl,ke rfl,trivial⟩) (cy h5 rfl (ki rfl rfl rfl rfl) (co rfl (KV rfl rfl h5 rfl) (Ch.nil (Fin.go (Ks 0 3 5 33 rfl ?_))))))))
 refine Tr.cn rfl ?_ ?_<;>intro h6 q6
 refine Tr.seq (Tr.BK (cm rfl (cm rfl (Ch.nil (Fin.go (Tr.ret (Fin.AK (Fin.KY rfl (C1.Ig _ _) rfl ?_))))))))
 · exfalso;omega
 refine Tr.skip (Fin.go (Tr.seq (Tr.pad (Tr.JW mixed [none,none,none,none,some (0,0,true,39),none,none,some (39,0,true,42),none,none,none,some (42,0,true,46),some (46,0,true,4)] (by kernel_rfl) (xo rfl (fun _=>Aw (xs:=[]) (rows:=[]) rfl rfl underlying31 AH E6 rfl (by decide) trivial (by decide)) (xm rfl (xm rfl (xo rfl (fun _=>E8 rfl underlying31 AH (vl rfl) (vl rfl) (by omega) (by omega)) ?_))))))))
 refine Cx.ef 0 rfl rfl (by decide) (Bs rfl rfl (by decide) rfl underlying31 AH Gu E6 rfl (by decide) (Kf rfl) (vl rfl) (by simp;unfold maxLen;omega) (by simp;omega) (Ed (by exact List.Mem.head _) (vl rfl))) ?_
 refine xo rfl (fun _=>At rfl Ac AH (vl rfl) rfl rfl) (xo rfl (fun _=>Aw (xs:=[.tmp 40]) (rows:=[_]) rfl rfl underlying31 AH E6 rfl (by decide) ⟨⟨(by exact rfl),(Va rfl)⟩,trivial⟩ (by decide)) ?_)
 refine Cx.ef 0 rfl rfl (by decide) (Bs rfl rfl (by decide) rfl underlying31 AH Gu E6 rfl (by decide) (vl rfl) (Kf rfl) (by simp;unfold maxLen;omega) (by simp;omega) Cr) ?_
 refine xm rfl (xm rfl (xo rfl (fun _=>B2 rfl underlying31 AH (vl rfl) (vl rfl) (by omega) (by omega)) ?_))
 refine Cx.ef 0 rfl rfl (by decide) (Bs rfl rfl (by decide) rfl underlying31 AH Gu E6 rfl (by decide) (vl rfl) (vl rfl) (by simp;unfold maxLen;omega) (by simp;omega) Cr) ?_
 refine Cx.ef 0 rfl rfl (by decide) (I0 rfl rfl (by decide) rfl (vl rfl)) ?_
 refine Cx.nil ⟨rfl,?_⟩
 refine BT.open_ 0 4 rfl rfl (fun v3=> ?_)
 refine BT.done (B_.cons (B_.map _)) (Fin.go (Cc 4 rfl (Tr.ret (Fin.KY rfl (C1.Ig _ _) rfl ?_))))
 · exfalso;omega
 iterate 8 refine cnt h5 rfl ?_
 refine co rfl (Fb rfl rfl h5 rfl) (Ch.nil (Fin.go (Ks 0 3 5 33 rfl (Tr.cond rfl (fun h=>nomatch h) (fun _=> ?_)))))
 refine Tr.skip (Fin.go (Tr.seq (Tr.pad (Tr.JW mixed [none,none,none,none,some (0,0,true,39),none,none,some (39,0,true,42),none,none,none,some (42,0,true,46),some (46,0,true,4)] (by kernel_rfl) (xo rfl (fun _=>Aw (xs:=[]) (rows:=[]) rfl rfl underlying31 AH E6 rfl (by decide) trivial (by decide)) (xm rfl (xm rfl (xo rfl (fun _=>E8 rfl underlying31 AH (vl rfl) (vl rfl) (by omega) (by omega)) ?_))))))))
 refine Cx.ef 0 rfl rfl (by decide) (Bs rfl rfl (by decide) rfl underlying31 AH Gu E6 rfl (by decide) (Kf rfl) (vl rfl) (by simp;unfold maxLen;omega) (by simp;omega) (Ed (by exact List.Mem.head _) (vl rfl))) ?_
 refine xo rfl (fun _=>At rfl Ac AH (vl rfl) rfl rfl) (xo rfl (fun _=>Aw (xs:=[.tmp 40]) (rows:=[_]) rfl rfl underlying31 AH E6 rfl (by decide) ⟨⟨(by exact rfl),(Va rfl)⟩,trivial⟩ (by decide)) ?_)
 refine Cx.ef 0 rfl rfl (by decide) (Bs rfl rfl (by decide) rfl underlying31 AH Gu E6 rfl (by decide) (vl rfl) (Kf rfl) (by simp;unfold maxLen;omega) (by simp;omega) Cr) ?_
 refine xm rfl (xm rfl (xo rfl (fun _=>B2 rfl underlying31 AH (vl rfl) (vl rfl) (by omega) (by omega)) ?_))
 refine Cx.ef 0 rfl rfl (by decide) (Bs rfl rfl (by decide) rfl underlying31 AH Gu E6 rfl (by decide) (vl rfl) (vl rfl) (by simp;unfold maxLen;omega) (by simp;omega) Cr) ?_
 refine Cx.ef 0 rfl rfl (by decide) (I0 rfl rfl (by decide) rfl (vl rfl)) ?_
 refine Cx.nil ⟨rfl,?_⟩
 refine BT.open_ 0 4 rfl rfl (fun v4=> ?_)
 refine BT.done (B_.cons (B_.map _)) (Fin.go (Cc 4 rfl (Tr.ret (Fin.KY rfl (C1.Ig _ _) rfl ?_))))
 · rw [NF (SP hk hgt (.inl (by omega))) (.inl (by omega))];exact Pr.le_trans (Bj _ _) (Pr.le_of_eq (by show slice 11 _=slice 11 _;rw [Int.toNat_natCast,List.map_append,List.map_append,List.map_take,List.map_drop,List.nil_append];rfl))
theorem WQ (l:List AO) (f:AO):kF l f≤l.length:=by
 unfold kF
 have:=(List.dropWhile_sublist (l:=l.reverse) (fun x=>decide (0<CH x f))).length_le
 simpa using this
theorem SQ (l:List AO) (f:AO):(C8 l f).length≤l.length+1:=by
 have:=WQ l f
 unfold C8;split
 · omega
 · simp;omega
theorem J3:∀(l acc:List AO),(l.foldl C8 acc).length≤acc.length+l.length
 |[],acc=>by simp
 |f::l,acc=>by
  have h1:=J3 l (C8 acc f)
  have h2:=SQ acc f
  rw [List.foldl_cons,List.length_cons];omega
theorem LA {l:List AO} {k:Nat} {x:AO} (hx:l[k]? =some x):C8 ((l.take k).foldl C8 []) x=(l.take (k+1)).foldl C8 []:=by
 rw [List.take_add_one,hx,List.foldl_append];rfl
theorem LB (l:List AO) (k:Nat):((l.take k).foldl C8 []).length≤k:=by
 have:=J3 (l.take k) []
 have h2:=List.length_take_le k l
 simp at this;omega
theorem Ql {l:List AO} (hc:∀f∈l,BB f=true) (hl:l.length≤400):Bb prog 45 [BL l] (ER [BL (l.foldl C8 []),int 0]):=by
 refine fo func45 rfl ⟨rfl,rfl⟩ fun M0 w0=> ?_
 refine a2 ?_
 refine Tr.block (Tr.BX [(0,_)] ⟨ke rfl,trivial⟩ (fun k:Nat=>[(4,int ((k:Nat):Int))]) (fun k:Nat=>k≤(l).length) (fun k:Nat=>(l).length-k) 0 (Nat.zero_le _) ⟨ke rfl,trivial⟩ ?_)
 rintro k DH
 refine an ?_ ?_<;>intro h1 q1
 have A5:k<(l).length:=A_ h1
 obtain ⟨x,A2⟩:=at_ A5
 · repeat' first|exact absurd (if_pos (hc x (List.mem_of_getElem? A2))) q|exact Fin.AF (k+1) ⟨A5,by omega⟩ ⟨⟨_,rfl,Ad k⟩,ke rfl,trivial⟩|refine co rfl (AL rfl underlying31 AH (vl rfl) (vl rfl) (by omega) (by exact BN (by assumption))) ?_|refine co rfl (At rfl Ac AH (vl rfl) rfl rfl) (co rfl (EC (OQ) rfl rfl) ?_)|refine ac ?_|(refine Tr.cn rfl ?_ ?_<;>intro h q)
 have CK:k=(l).length:=by have:=BA h1;omega
 subst CK
 refine a3 ?_
 refine Tr.block (Tr.BX [(0,_)] ⟨ke rfl,trivial⟩ (fun m:Nat=>[(7,int ((m:Nat):Int)),(6,BL ((l.take m).foldl C8 []))]) (fun m:Nat=>m≤(l).length) (fun m:Nat=>(l).length-m) 0 (Nat.zero_le _) ⟨ke rfl,⟨_,rfl,Ag 11⟩,trivial⟩ ?_)
 rintro m iQ
 refine an ?_ ?_<;>intro h3 q3
 have aU:m<(l).length:=A_ h3
 obtain ⟨y,aV⟩:=at_ aU
 · repeat' first|(exfalso;rw [LA aV] at q;have:=LB l (m+1);omega)|exact Fin.AF (m+1) ⟨aU,by omega⟩ ⟨⟨_,rfl,Ad m⟩,⟨_,rfl,Pr.le_of_eq (by rw [LA aV])⟩,ke rfl,trivial⟩|refine co rfl (AL rfl underlying31 AH (vl rfl) (vl rfl) (by omega) (by exact BN (by assumption))) ?_|refine co rfl (At rfl Ac AH (vl rfl) rfl rfl) ?_|(refine co rfl (Jx (aT (l:=(l.take m).foldl C8 []) (f:=y) (by have:=LB l m;omega)) rfl rfl rfl) ?_)|refine ac ?_|(refine Tr.cn rfl ?_ ?_<;>intro h q)
 have fS:m=(l).length:=by have:=BA h3;omega
 subst fS
 refine a2 ?_
 refine Tr.ret (Fin.JM rfl (C1.Ig _ _) rfl ?_ rfl ?_)
 · exact Pr.le_of_eq (by rw [List.take_length])
 · exact Lr
theorem Cv (a b:Int):An b a= -An a b:=by unfold An;by_cases h1:a<b<;>by_cases h2:b<a<;>simp [h1,h2]<;>omega
theorem Pq:∀l:List Int,FE (l.map fun x=> -x)= -FE l
 |[]=>rfl
 |a::l=>by
  have ih:=Pq l
  show (if -a=0 then FE (l.map fun x=> -x) else -a)= -(if a=0 then FE l else a)
  by_cases h:a=0
  · rw [if_pos (by omega),if_pos h,ih]
  · rw [if_neg (by omega),if_neg h]
theorem Qm (a b:AO):CH b a= -CH a b:=by
 unfold CH
 rw [←Pq]
 unfold DY
 simp only [List.map_cons,List.map_nil]
 rw [Fp a.host b.host,Fp a.DD b.DD,Fp a.text b.text,Cv a.machine,Cv a.day,Cv a.kind,Cv a.A7,Cv a.bits,Cv a.num,Cv a.src,Cv a.DW]
theorem Fy {β:Type} {p:β→Bool}:∀(l:List β),∃m,l=m++l.dropWhile p∧(∀x∈m,p x=true)∧∀y r,l.dropWhile p=y::r→p y=false
 |[]=>⟨[],rfl,by simp,fun y r h=>by cases h⟩
 |a::l=>by
  by_cases h:p a=true
  ·
   obtain ⟨m,h1,h2,h3⟩:=Fy (p:=p) l
   refine ⟨a::m,?_,?_,?_⟩
   · rw [List.dropWhile_cons_of_pos h,List.cons_append,←h1]
   ·
    intro x hx
    rcases List.mem_cons.1 hx with rfl|hx
    · exact h
    · exact h2 x hx
   · intro y r hy;rw [List.dropWhile_cons_of_pos h] at hy;exact h3 y r hy
  ·
   refine ⟨[],?_,by simp,?_⟩
   · rw [List.dropWhile_cons_of_neg h];rfl
   · intro y r hy;rw [List.dropWhile_cons_of_neg h] at hy;injection hy with h1 _;subst h1;simpa using h
theorem Ud (l:List AO) (f:AO):(∀y,l[kF l f]? =some y→0<CH y f)∧(∀x,0<kF l f→l[kF l f-1]? =some x→CH x f≤0):=by
 obtain ⟨m,h1,h2,h3⟩:=Fy (p:=fun x=>decide (0<CH x f)) l.reverse
 have hk:kF l f=(l.reverse.dropWhile fun x=>decide (0<CH x f)).length:=rfl
 generalize l.reverse.dropWhile (fun x=>decide (0<CH x f))=d at*
 have hl:l=d.reverse++m.reverse:=by rw [←List.reverse_append,←h1,List.reverse_reverse]
 refine ⟨fun y hy=> ?_,fun x h0 hx=> ?_⟩
 ·
  rw [hk,hl,List.getElem?_append_right (by simp)] at hy
  have:=h2 y (by have:=List.mem_of_getElem? hy;simpa using this)
  simpa using this
 ·
  cases d with
  |nil=>rw [hk] at h0;cases h0
  |cons y r=>
   have hx2:x=y:=by
    rw [hk,hl,List.getElem?_append_left (by simp)] at hx
    rw [List.reverse_cons,List.getElem?_append_right (by simp)] at hx
    simpa using hx.symm
   have:=h3 y r rfl
   rw [hx2];simpa using this
theorem Ue {l:List AO} (f:AO) (h:Qi l):Qi (C8 l f):=by
 obtain ⟨h1,h2⟩:=Ud l f
 have hk:=WQ l f
 unfold C8
 split
 · exact h
 ·
  rename_i hn
  generalize kF l f=k at*
  have hlen:(l.take k).length=k:=by rw [List.length_take];omega
  intro j a b ha hb
  rw [List.append_assoc] at ha hb
  rcases Nat.lt_trichotomy (j+1) k with hj|hj|hj
  ·
   rw [List.getElem?_append_left (by omega),List.getElem?_take,if_pos (by omega)] at ha
   rw [List.getElem?_append_left (by omega),List.getElem?_take,if_pos (by omega)] at hb
   exact h j a b ha hb
  ·
   rw [List.getElem?_append_left (by omega),List.getElem?_take,if_pos (by omega)] at ha
   rw [List.getElem?_append_right (by omega),hlen,show j+1-k=0 by omega] at hb
   simp at hb;subst hb
   have ha':l[k-1]? =some a:=by rw [show k-1=j by omega];exact ha
   have h3:=h2 a (by omega) ha'
   rcases Int.lt_or_eq_of_le h3 with h4|h4
   · exact h4
   · exact absurd ⟨by omega,by rw [ha'];simp [h4]⟩ hn
  ·
   rcases Nat.eq_or_lt_of_le (Nat.le_of_lt_succ hj) with hj2|hj2
   ·
    rw [List.getElem?_append_right (by omega),hlen,show j-k=0 by omega] at ha
    simp at ha;subst ha
    rw [List.getElem?_append_right (by omega),hlen,show j+1-k=1 by omega] at hb
    simp at hb
    have:=h1 b (by simpa using hb)
    rw [Qm b f];omega
   ·
    rw [List.getElem?_append_right (by omega),hlen,show j-k=(j-k-1)+1 by omega] at ha
    rw [List.getElem?_append_right (by omega),hlen,show j+1-k=(j-k)+1 by omega] at hb
    simp at ha hb
    exact h (j-1) a b (by rw [show j-1=k+(j-k-1) by omega];exact ha) (by rw [show j-1+1=k+(j-k) by omega];exact hb)
theorem Pt {l:List AO} {f x:AO} (h:x∈C8 l f):x∈l∨x=f:=by
 unfold C8 at h
 split at h
 · exact .inl h
 ·
  simp only [List.mem_append,List.mem_singleton] at h
  rcases h with (h|h)|h
  · exact .inl (List.mem_of_mem_take h)
  · exact .inr h
  · exact .inl (List.mem_of_mem_drop h)
theorem J4:∀(l acc:List AO),Qi acc→Qi (l.foldl C8 acc)
 |[],_,h=>h
 |f::l,acc,h=>J4 l _ (Ue f h)
theorem NG:∀(l acc:List AO) {x:AO},x∈l.foldl C8 acc→x∈acc∨x∈l
 |[],_,_,h=> .inl h
 |f::l,acc,x,h=>by
  rcases NG l _ h with h1|h1
  ·
   rcases Pt h1 with h2|h2
   · exact .inl h2
   · exact .inr (by simp [h2])
  · exact .inr (List.mem_cons_of_mem _ h1)
theorem Pu {l:List AO} (hc:∀f∈l,BB f=true) (hl:l.length≤400):CS (l.foldl C8 []):=
 ⟨fun f hf=>by rcases NG l [] hf with h|h;exact absurd h (by simp);exact hc f h,J4 l [] (fun j a b h=>by simp at h),by have:=J3 l [];simp at this;omega⟩
abbrev strs (l:List (List UInt8)):Pr:=slice 1 (l.map fun t=>[str t])
structure HY {α:Type} (c:α→α→Int):Prop where
 swap:∀x y,c y x= -c x y
 tr:∀x y z,c x y<0→c y z<0→c x z<0
 eq:∀x y z,c x y=0→c x z=c y z
theorem HY.jw {α:Type} {c:α→α→Int} (h:HY c) (x y z:α) (e:c y z=0):c x y=c x z:=by
 have h1:=h.eq y z x e
 have h2:=h.swap x y
 have h3:=h.swap x z
 omega
theorem HY.iR {α:Type} {c:α→α→Int} (h:HY c):Go.Sort.SWO (BM fun p:α×α=>c p.1 p.2) where
 irrefl x:=by have:=h.swap x x;exact decide_eq_false (by show ¬c x x<0;omega)
 trans x y z h1 h2:=decide_eq_true (h.tr x y z (of_decide_eq_true h1) (of_decide_eq_true h2))
 ntrans x y z h1 h2:=by
  have h1:¬c x y<0:=of_decide_eq_false h1
  have h2:¬c y z<0:=of_decide_eq_false h2
  refine decide_eq_false (show ¬c x z<0 from fun h3=> ?_)
  have e1:=h.swap x y
  by_cases hxy:c x y=0
  · have:=h.eq x y z hxy;omega
  · have:=h.tr y x z (by omega) h3;omega
theorem HY.cons {α:Type} {c d:α→α→Int} (h:HY c) (k:HY d):HY (fun x y=>if c x y=0 then d x y else c x y) where
 swap x y:=by
  have h1:=h.swap x y
  have h2:=k.swap x y
  show (if c y x=0 then d y x else c y x)= -(if c x y=0 then d x y else c x y)
  by_cases e:c x y=0
  · rw [if_pos e,if_pos (by omega)];exact h2
  · rw [if_neg e,if_neg (by omega)];exact h1
 tr x y z h1 h2:=by
  show (if c x z=0 then d x z else c x z)<0
  have h1:(if c x y=0 then d x y else c x y)<0:=h1
  have h2:(if c y z=0 then d y z else c y z)<0:=h2
  by_cases e1:c x y=0
  ·
   rw [if_pos e1] at h1
   have e3:=h.eq x y z e1
   by_cases e2:c y z=0
   · rw [if_pos e2] at h2;rw [if_pos (by omega)];exact k.tr x y z h1 h2
   · rw [if_neg e2] at h2;rw [if_neg (by omega)];omega
  ·
   rw [if_neg e1] at h1
   by_cases e2:c y z=0
   ·
    have e3:=h.jw x y z e2
    rw [if_neg (by omega)];omega
   ·
    rw [if_neg e2] at h2
    have:=h.tr x y z h1 h2
    rw [if_neg (by omega)];exact this
 eq x y z h1:=by
  have h1:(if c x y=0 then d x y else c x y)=0:=h1
  show (if c x z=0 then d x z else c x z)=(if c y z=0 then d y z else c y z)
  by_cases e1:c x y=0
  ·
   rw [if_pos e1] at h1
   rw [h.eq x y z e1,k.eq x y z h1]
  · rw [if_neg e1] at h1;exact absurd h1 e1
theorem HY.nil {α:Type}:HY (fun _ _:α=>0):=⟨fun _ _=>rfl,fun _ _ _ h=>absurd h (by decide),fun _ _ _ _=>rfl⟩
theorem HY.on {α β:Type} {c:β→β→Int} (f:α→β) (h:HY c):HY (fun x y=>c (f x) (f y)):=⟨fun x y=>h.swap (f x) (f y),fun x y z=>h.tr (f x) (f y) (f z),fun x y z=>h.eq (f x) (f y) (f z)⟩
theorem CX:HY An:=⟨fun x y=>by unfold An;by_cases h1:x<y<;>by_cases h2:y<x<;>simp [h1,h2]<;>omega,fun x y z h1 h2=>by unfold An at*;(repeat (split at h1))<;>(repeat (split at h2))<;>(repeat (split))<;>omega,fun x y z h=>by rw [Dw.1 h]⟩
theorem Uf (x y:UInt8) (xs ys:List UInt8):Lib.compareBytes (x::xs) (y::ys)<0↔x.toNat<y.toNat∨(x.toNat=y.toNat∧Lib.compareBytes xs ys<0):=by
 rw [Lib.compareBytes]
 by_cases a1:x<y
 ·
  rw [if_pos a1]
  have:=UInt8.lt_iff_toNat_lt.1 a1
  constructor
  · intro _;exact .inl this
  · intro _;decide
 ·
  have b1:¬x.toNat<y.toNat:=fun h=>a1 (UInt8.lt_iff_toNat_lt.2 h)
  rw [if_neg a1]
  by_cases a2:y<x
  ·
   have:=UInt8.lt_iff_toNat_lt.1 a2
   rw [if_pos a2]
   constructor
   · intro h;exact absurd h (by decide)
   · intro h;omega
  ·
   have b2:¬y.toNat<x.toNat:=fun h=>a2 (UInt8.lt_iff_toNat_lt.2 h)
   rw [if_neg a2]
   constructor
   · intro h;exact .inr ⟨by omega,h⟩
   ·
    rintro (h|h)
    · omega
    · exact h.2
theorem G5:∀(a b c:List UInt8),Lib.compareBytes a b<0→Lib.compareBytes b c<0→Lib.compareBytes a c<0
 |[],[],_,h,_=>by simp [Lib.compareBytes] at h
 |[],_::_,[],_,h=>by simp [Lib.compareBytes] at h
 |[],_::_,_::_,_,_=>by simp [Lib.compareBytes]
 |_::_,[],_,h,_=>by simp [Lib.compareBytes] at h
 |_::_,_::_,[],_,h=>by simp [Lib.compareBytes] at h
 |x::xs,y::ys,z::zs,h1,h2=>by
  rw [Uf] at h1 h2 ⊢
  rcases h1 with h1|h1
  ·
   rcases h2 with h2|h2
   · left;omega
   · left;omega
  ·
   rcases h2 with h2|h2
   · left;omega
   · right;exact ⟨by omega,G5 xs ys zs h1.2 h2.2⟩
theorem DM:HY Lib.compareBytes:=⟨Fp,G5,fun x y z h=>by rw [(DU x y).1 h]⟩
theorem G6 (a:Int) (l:List Int):FE (a::l)=if a=0 then FE l else a:=rfl
theorem Eo:HY CH:=by
 have:=(DM.on AO.host).cons ((CX.on AO.machine).cons ((CX.on AO.day).cons ((DM.on AO.DD).cons ((CX.on AO.kind).cons ((CX.on AO.A7).cons ((CX.on AO.bits).cons ((CX.on AO.num).cons ((DM.on AO.text).cons ((CX.on AO.src).cons ((CX.on AO.DW).cons (HY.nil (α:=AO))))))))))))
 exact this
def EL {α:Type} (c:α→α→Int) (l:List α):Prop:=l.Pairwise fun x y=>c x y≤0
theorem IM {α:Type} {c:α→α→Int} (hc:HY c) {l m:List α} (hp:l.Perm m) (h1:EL c l) (h2:EL c m) (h:∀x y,x∈l→y∈l→c x y=0→x=y):l=m:=
 List.Perm.eq_of_pairwise (le:=fun x y=>c x y≤0) (fun a b ha hb h3 h4=>h a b ha (hp.mem_iff.2 hb) (by have:=hc.swap a b;omega)) h1 h2 hp
theorem J5 {α:Type} [Inhabited α] {c:α→α→Int} (hc:HY c) {l st:List α} (h:Br (fun p=>c p.1 p.2) 0 (l.length:Nat) l st):st.Perm l∧EL c st:=by
 refine ⟨Bg.whole h.1,?_⟩
 have hl:=h.len
 unfold EL
 rw [List.pairwise_iff_getElem]
 intro i j hi hj hij
 have h1:=h.2 i j (by simp) hij (by simp;omega)
 have e1:st.toArray[i]! =st[i]:=by simp [hi]
 have e2:st.toArray[j]! =st[j]:=by simp [hj]
 rw [e1,e2] at h1
 have h2:¬c st[j] st[i]<0:=of_decide_eq_false h1
 have:=hc.swap st[i] st[j]
 omega
section
variable {β:Type} [DecidableEq β]
def OS (acc:List β) (x:β):List β:=if acc.getLast? =some x then acc else acc++[x]
def Ip (l:List β):List β:=l.foldl OS []
theorem J6 {l:List β} {j:Nat} {x:β} (h:l[j]? =some x):Ip (l.take (j+1))=OS (Ip (l.take j)) x:=by
 unfold Ip;rw [List.take_add_one,h,List.foldl_append];rfl
theorem SS (acc:List β) (x:β):(OS acc x).getLast? =some x:=by
 unfold OS;split
 · assumption
 · simp
theorem NH {l:List β} {j:Nat} {y:β} (hj:1≤j) (h:l[j-1]? =some y):(Ip (l.take j)).getLast? =some y:=by
 have:=J6 (j:=j-1) h
 rw [show j-1+1=j by omega] at this
 rw [this];exact SS _ _
theorem SU {l:List β} {j:Nat} {x y:β} (hj:1≤j) (hx:l[j]? =some x) (hy:l[j-1]? =some y) (hne:¬x=y):Ip (l.take (j+1))=Ip (l.take j)++[x]:=by
 rw [J6 hx];unfold OS
 rw [if_neg]
 rw [NH hj hy];intro e;injection e with e;exact hne e.symm
theorem NI {l:List β} {j:Nat} {x y:β} (hj:1≤j) (hx:l[j]? =some x) (hy:l[j-1]? =some y) (he:x=y):Ip (l.take (j+1))=Ip (l.take j):=by
 rw [J6 hx];unfold OS
 rw [if_pos]
 rw [NH hj hy,he]
theorem HZ {l:List β} (h:l.length<2):Ip l=l:=by
 match l,h with
 |[],_=>rfl
 |[x],_=>rfl
theorem Ug (acc:List β) (x:β):(OS acc x).length≤acc.length+1:=by unfold OS;split<;>simp
theorem MB (l:List β):(Ip l).length≤l.length:=by
 have key:∀(l acc:List β),(l.foldl OS acc).length≤acc.length+l.length:=by
  intro l
  induction l with
  |nil=>intro acc;simp
  |cons x l ih=>intro acc;have h1:=ih (OS acc x);have h2:=Ug acc x;simp only [List.foldl_cons,List.length_cons];omega
 have:=key l []
 unfold Ip;simpa using this
theorem Pv {acc:List β} {a x:β}:x∈OS acc a↔x∈acc∨x=a:=by
 unfold OS;split
 ·
  rename_i h
  constructor
  · exact .inl
  ·
   rintro (h1|rfl)
   · exact h1
   · exact List.mem_of_getLast? h
 · simp
theorem Uh {l:List β} {x:β}:x∈Ip l↔x∈l:=by
 have key:∀(l acc:List β),x∈l.foldl OS acc↔x∈acc∨x∈l:=by
  intro l
  induction l with
  |nil=>intro acc;simp
  |cons a l ih=>intro acc;rw [List.foldl_cons,ih,Pv,List.mem_cons,or_assoc]
 unfold Ip;rw [key];simp
abbrev D3 (c:β→β→Int) (l:List β):Prop:=l.Pairwise fun x y=>c x y<0
theorem OU {c:β→β→Int} (hc:HY c) (he:∀x y,c x y=0→x=y) {l:List β} (h:EL c l):D3 c (Ip l):=by
 have key:∀(l acc:List β),D3 c acc→(∀a∈acc,∀x∈l,c a x≤0)→EL c l→D3 c (l.foldl OS acc):=by
  intro l
  induction l with
  |nil=>intro acc h1 _ _;exact h1
  |cons x l ih=>
   intro acc h1 h2 h3
   obtain ⟨h4,h5⟩:=List.pairwise_cons.1 h3
   rw [List.foldl_cons]
   refine ih _ ?_ (fun a ha y hy=> ?_) h5
   ·
    unfold OS;split
    · exact h1
    ·
     rename_i hl
     unfold D3
     rw [List.pairwise_append]
     refine ⟨h1,by simp,fun a ha b hb=> ?_⟩
     simp at hb;subst hb
     have hle:=h2 a ha b (by simp)
     rcases Int.lt_or_eq_of_le hle with hlt|heq
     · exact hlt
     ·
      have e:=he _ _ heq
      subst e
      exfalso
      obtain ⟨pre,z,hz⟩:∃pre z,acc=pre++[z]:=by
       rcases List.eq_nil_or_concat acc with rfl|⟨pre,z,hz⟩
       · cases ha
       · exact ⟨pre,z,by simpa using hz⟩
      subst hz
      rcases List.mem_append.1 ha with ha|ha
      ·
       have h6:=(List.pairwise_append.1 h1).2.2 a ha z (by simp)
       have h7:=h2 z (by simp) a (by simp)
       have h8:=hc.swap a z
       have h6:c a z<0:=h6
       omega
      · simp at ha;subst ha;simp at hl
   ·
    rcases Pv.1 ha with ha|rfl
    · exact h2 a ha y (List.mem_cons_of_mem _ hy)
    · exact h4 y hy
 exact key l [] .nil (by simp) h
theorem IP {c:β→β→Int} (hc:HY c) {l m:List β} (h1:D3 c l) (h2:D3 c m) (h:∀x,x∈l↔x∈m):l=m:=by
 have hn:∀{k:List β},D3 c k→k.Nodup:=fun hk=>hk.imp fun {a b} hab e=>by subst e;have:=hc.swap a a;omega
 have hp:l.Perm m:=(List.perm_ext_iff_of_nodup (hn h1) (hn h2)).2 h
 refine IM hc hp (h1.imp fun h=>Int.le_of_lt h) (h2.imp fun h=>Int.le_of_lt h) fun x y hx hy e=> ?_
 obtain ⟨i,hi,rfl⟩:=List.mem_iff_getElem.1 hx
 obtain ⟨j,hj,rfl⟩:=List.mem_iff_getElem.1 hy
 have hp:=List.pairwise_iff_getElem.1 h1
 rcases Nat.lt_trichotomy i j with hij|hij|hij
 · have:=hp i j hi hj hij;omega
 · subst hij;rfl
 ·
  have:=hp j i hj hi hij
  have h3:=hc.swap l[i] l[j]
  omega
omit [DecidableEq β] in
theorem SV {l:List β} {w:Nat} {u:β} (h:w<l.length):(l.set w u).take (w+1)=l.take w++[u]:=by
 rw [List.take_add_one,List.getElem?_set_self h,List.take_set_of_le (Nat.le_refl _)];rfl
theorem LC {γ:Type} {f:γ→List Pr} {l:List γ} {qs:List Pr} {sz:Nat} {i:Int} {x:γ} (hf:∀x,(f x).length=sz) (h:l[i.toNat]? =some x):((((l.map f).flatten++qs).drop (0+i.toNat*sz)).take sz)=f x:=by
 rw [Nat.zero_add];exact Ft hf h
theorem He {γ:Type} {f:γ→List Pr} {l:List γ} {qs:List Pr} {sz m i:Nat} {x:γ} (hf:∀x,(f x).length=sz) (h:l[m+i]? =some x):((((l.map f).flatten++qs).drop (m*sz+i*sz)).take sz)=f x:=by
 rw [←Nat.add_mul];exact Ft hf h
end
deriving instance DecidableEq for AO
theorem Xe {c:AO→AO→Int} (hc:HY c) {l:List AO} (h:∀(j:Nat) a b,l[j]? =some a→l[j+1]? =some b→c a b<0):D3 c l:=by
 induction l with
 |nil=>exact .nil
 |cons x l ih=>
  have hl:∀(j:Nat) a b,l[j]? =some a→l[j+1]? =some b→c a b<0:=fun j a b ha hb=>h (j+1) a b (by simpa using ha) (by simpa using hb)
  have ih:=ih hl
  refine List.pairwise_cons.2 ⟨fun y hy=> ?_,ih⟩
  cases l with
  |nil=>cases hy
  |cons z l=>
   have h0:c x z<0:=h 0 x z rfl rfl
   rcases List.mem_cons.1 hy with rfl|hy
   · exact h0
   · exact hc.tr x z y h0 ((List.pairwise_cons.1 ih).1 y hy)
theorem LD {a b:AO} (h:CH a b=0):a=b:=by
 have hk:∀(l:List Int),FE l=0→∀x∈l,x=0:=by
  intro l
  induction l with
  |nil=>intro _ x hx;cases hx
  |cons y l ih=>
   intro h x hx
   rw [G6] at h
   by_cases hy:y=0
   ·
    rw [if_pos hy] at h
    rcases List.mem_cons.1 hx with rfl|hx
    · exact hy
    · exact ih h x hx
   · rw [if_neg hy] at h;exact absurd h hy
 have:=hk _ h
 unfold DY at this
 simp only [List.mem_cons,List.not_mem_nil,or_false,forall_eq_or_imp,forall_eq,DU,Dw] at this
 obtain ⟨h1,h2,h3,h4,h5,h6,h7,h8,h9,h10,h11⟩:=this
 cases a;cases b;simp_all
theorem SW {l:List AO} {f x:AO}:x∈C8 l f↔x∈l∨x=f:=by
 constructor
 · exact Pt
 ·
  intro h
  unfold C8
  split
  ·
   rename_i hk
   rcases h with h|rfl
   · exact h
   ·
    obtain ⟨h1,h2⟩:=hk
    rw [Option.map_eq_some_iff] at h2
    obtain ⟨y,hy,e⟩:=h2
    rw [←LD e];exact List.mem_of_getElem? hy
  ·
   rcases h with h|rfl
   ·
    rw [List.append_assoc,List.mem_append,List.mem_append]
    rw [←List.take_append_drop (kF l f) l] at h
    rcases List.mem_append.1 h with h|h
    · exact .inl h
    · exact .inr (.inr h)
   · simp
abbrev LF (l:List AO):List AO:=l.foldl C8 []
theorem LG {l:List AO} {x:AO}:x∈LF l↔x∈l:=by
 have key:∀(l acc:List AO),x∈l.foldl C8 acc↔x∈acc∨x∈l:=by
  intro l
  induction l with
  |nil=>intro acc;simp
  |cons a l ih=>intro acc;rw [List.foldl_cons,ih,SW,List.mem_cons,or_assoc]
 rw [key];simp
theorem IQ (l:List AO):D3 CH (LF l):=Xe Eo (J4 l [] (fun j a b h=>by simp at h))
theorem Ui {l st:List AO} (hp:st.Perm l) (hs:EL CH st):Ip st=LF l:=
 IP Eo (OU Eo (fun _ _=>LD) hs) (IQ l) fun x=>by rw [Uh,LG];exact hp.mem_iff
theorem Xf {x y:AO} (h:x.src=y.src∧x.host=y.host∧x.machine=y.machine∧x.day=y.day∧x.DW=y.DW∧x.kind=y.kind∧x.DD=y.DD∧x.A7=y.A7∧x.bits=y.bits∧x.num=y.num∧x.text=y.text):x=y:=by
 cases x;cases y;simp at h;simp [h]
theorem JC {x y:AO}:x=y↔(x.src=y.src∧x.host=y.host∧x.machine=y.machine∧x.day=y.day∧x.DW=y.DW∧x.kind=y.kind∧x.DD=y.DD∧x.A7=y.A7∧x.bits=y.bits∧x.num=y.num∧x.text=y.text):=
 ⟨by rintro rfl;simp,Xf⟩
theorem Uj {a b:Int}  :Bb prog 142 [int a,int b] (bool (decide (a<b))):=by
 refine fo func142 rfl ⟨rfl,rfl⟩ fun M0 w0=> ?_
 · repeat' first|exact absurd h (by decide)|exact Lr|refine co rfl (EC (M9) rfl rfl) (cm rfl ?_)|refine ac ?_|(refine Ch.cg rfl rfl rfl ?_ ?_<;>intro h q)
def jx (own:List Int) (m:Nat):Prop:=∀i∈own,0≤i∧i<(m:Int)
instance (own:List Int) (m:Nat):Decidable (jx own m):=inferInstanceAs (Decidable (∀i∈own,0≤i∧i<(m:Int)))
theorem Ae {φ:Prop} {p q:Pr} (h:φ) (hl:Pr.le p q):Pr.le p (fact φ q):=fun _ _ _ hp=>⟨h,hl _ _ _ hp⟩
theorem Uk {l:List UInt8} {x:Nat} {y:Int} {hl:x<l.length} (h:(List.range 256).all (fun i=>match l[i]? with|some b=>decide (b.toNat≤8∧(1≤i→2 ^ b.toNat≤2*i))|none=>true)=true) (hx:x<256) (hy:(x:Int)=y):
  0≤IntKind.i64.wrap (IntKind.i64.wrap ((l[x]).toNat:Int))∧IntKind.i64.wrap (IntKind.i64.wrap ((l[x]).toNat:Int))≤8∧(1≤y→((2 ^ (IntKind.i64.wrap (IntKind.i64.wrap ((l[x]).toNat:Int))).toNat:Nat):Int)≤2*y):=by
 subst hy
 have h1:=List.all_eq_true.1 h x (List.mem_range.2 hx)
 rw [List.getElem?_eq_getElem hl] at h1
 have h1:=of_decide_eq_true h1
 have hb:(l[x]).toNat<256:=UInt8.toNat_lt _
 have hw:=IntWalk.i64_in ((l[x]).toNat:Int) ⟨by omega,by omega⟩
 rw [hw,hw,Int.toNat_natCast]
 exact ⟨by omega,by omega,fun hx1=>by have:=h1.2 (by omega);omega⟩
theorem SX {x:Int} (h0:0≤x) (h1:x<256):Bb prog 159 [is (.int .u64 x)] (ex fun k:Int=>fact (0≤k∧k≤8∧(1≤x→((2 ^ k.toNat:Nat):Int)≤2*x)) (int k)):=by
 refine fo func159 rfl ⟨rfl,rfl⟩ fun M0 w0=> ?_
 have hw:IntKind.u8.wrap x=x:=IntWalk.u8_in x ⟨by omega,by omega⟩
 refine ac ?_
 refine an ?_ ?_<;>intro h1 q1
 exfalso;omega
 refine ac ?_
 refine an ?_ ?_<;>intro h2 q2
 exfalso;omega
 refine ac ?_
 refine an ?_ ?_<;>intro h3 q3
 exfalso;omega
 refine a2 ?_
 refine co rfl (C5 rfl underlying174 underlying5 (vl rfl)) ?_
 refine co rfl (Lt rfl underlying9 (vl rfl) (vl rfl) (by omega) (List.getElem?_eq_getElem (by show _<256;omega))) ?_
 refine co rfl (C5 rfl underlying5 underlying3 (vl rfl)) ?_
 refine ac ?_
 refine Cc 2 rfl ?_
 refine ac ?_
 · refine A3 _ (Ae ?_ (Lr));rw [Int.zero_add];refine Uk ?_ (by omega) (by omega);decide+kernel
theorem G7 {x:Int} (h0:0≤x) (h1:x<256):Bb prog 100 [is (.int .u64 x)] (ex fun k:Int=>fact (0≤k∧k≤8∧(1≤x→((2 ^ k.toNat:Nat):Int)≤2*x)) (int k)):=by
 refine fo func100 rfl ⟨rfl,rfl⟩ fun M0 w0=> ?_
 refine a3 ?_
 refine co rfl (EC (SX (by omega) (by omega)) rfl rfl) ?_
 refine a2 ?_
 · exact Lr
theorem SY {x:Int} (h0:1≤x) (h1:x<256):Bb prog 187 [int x] (ex fun m:Int=>fact (1≤m∧m≤2*x) (is (.int .u64 m))):=by
 refine fo func187 rfl ⟨rfl,rfl⟩ fun M0 w0=> ?_
 have hw:IntKind.u64.wrap x=x:=IntWalk.u64_in x ⟨by omega,by omega⟩
 refine ac ?_
 refine ap ?_
 refine tp rfl (C5 rfl underlying3 underlying137 (vl rfl)) (tp rfl (EC (G7 (by omega) (by omega)) rfl rfl) ?_)
 refine TO.ex 5 rfl (fun k=>TO.fact 5 rfl fun hk=> ?_)
 obtain ⟨hk1,hk2,fT⟩:=hk
 refine tp rfl (UG rfl (vl rfl) (vl rfl) (by omega) (by omega) (fT (by omega))) ?_
 refine ap ?_
 refine ac ?_
 · exact fun M w v ⟨r,h,hv⟩=>⟨r,by rw [hw] at h;exact h,hv⟩
theorem Pw {xb:Nat}  :Am prog 188 [is (.pointer (some ⟨xb,0,none⟩))] (Cq .u64) (AB true xb 189 [Cq .u64]) (fun _=>AB true xb 189 [Cq .u64]):=by
 refine Am.of func188 rfl rfl (by exact Nb rfl) fun M0 w0 S rs M1 w1=> ?_
 refine ac ?_
 refine Tr.seq (Tr.rx ?_)
 refine ay ?_
 refine xo rfl (fun _=>OH (by decide) rfl (vl rfl) (vl rfl) (by decide)) (xo rfl (fun _=>Lz (by decide) rfl (vl rfl) (vl rfl)) ?_)
 refine ay ?_
 refine Cx.nil ⟨by kernel_rfl,?_⟩
 refine BT.done IK (Fin.go (Tr.seq (Tr.rx ?_)))
 refine ay ?_
 refine xo rfl (fun _=>OH (by decide) rfl (vl rfl) (vl rfl) (by decide)) (xo rfl (fun _=>Lz (by decide) rfl (vl rfl) (vl rfl)) ?_)
 refine ay ?_
 refine Cx.nil ⟨by kernel_rfl,?_⟩
 refine BT.done IK (Fin.go (Cc 0 rfl (Tr.seq (Tr.rx ?_))))
 refine ay ?_
 refine xo rfl (fun _=>OH (by decide) rfl (vl rfl) (vl rfl) (by decide)) (xo rfl (fun _=>Lz (by decide) rfl (vl rfl) (vl rfl)) ?_)
 refine ay ?_
 refine Cx.nil ⟨by kernel_rfl,?_⟩
 refine BT.done IK (Fin.go ?_)
 refine ac ?_
 refine Cc 2 rfl (Tr.ret (Fin.Bw rfl rfl ?_ (fun _ _ _ _=>rfl)))
 · exact Lr
end Go.Proofs.YtgilhkjlfongoaaGreat
