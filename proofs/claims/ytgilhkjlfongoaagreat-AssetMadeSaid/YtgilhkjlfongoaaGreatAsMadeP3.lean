/-
  Part 3 of the texts that prove this claim, merged.
-/
import Derived.Lib.Bytealg
import Derived.Test.YtgilhkjlfongoaaGreatRows
import Derived.Test.YtgilhkjlfongoaaGreatAsMadeP2
set_option linter.all false
set_option maxRecDepth 40000
set_option maxHeartbeats 16000000
namespace Cp
open Go Go.RowKit Go.Great
section
variable {P:Program} {L:Lg P} {E:Env} {I:CL} {o:Oper}
section
variable {n:Fm} {fz:Nat} {M0:Av} {w0:World} {S:Nat→Prop}
end
end
section
variable {P:Program} {L:Lg P} {n:Fm} {fz:Nat} {I:CL}
def dQ (P:Program) (I':CL) (M:Av) (w:World) (p:Pr):Result Next→Prop
 | .ok (.value v) w'=>∃M',p.h M' w' v∧Ext M w M' w'∧I'.h M' w'
 | .ok .skip w'=>∃M',p.h M' w' undef∧Ext M w M' w'∧I'.h M' w'
 | .ok (.enter f args) w'=>Calls P f args w' fun e w''=>∃v M',e= .returned v∧p.h M' w'' v∧Ext M w M' w''∧I'.h M' w''
 |_=>False
def UL (P:Program) (n:Fm) (I I':CL) (o:Oper) (E:Env) (p:Pr):Prop:=o.guard=none∧∀M w (a:Act),a.tmps.size=n.sz→CT M w E o a→I.h M w→dQ P I' M w p ((execOp a.eval o).run P w)
def Mi (P:Program) (n:Fm) (I:CL) (ops:Array Oper):Nat→List Oper→Env→(CL→Env→Prop)→Prop
 |_,[],_,_=>False
 |0,o::r,E,K=>∃p I',UL P n I I' o E p∧(∀d,o.dst=some d→d<n)∧Ch P n I' ops r (upd o p E) (K I')
 |c+1,o::r,E,K=>∃p,Tg P I ops o E p∧(∀d,o.dst=some d→d<n)∧Mi P n I ops c r (upd o p E) K
theorem Mi.op {ops:Array Oper} {o:Oper} {r:List Oper} {E:Env} {K:CL→Env→Prop} {d c:Nat} {p:Pr} (hg:o.guard=none) (hd:o.dst=some d) (hn:d<n) (h:Ab P I o E p)
  (k:Mi P n I ops c r ((d,p)::E) K):Mi P n I ops (c+1) (o::r) E K:=
 ⟨p,by unfold Tg;rw [hg];exact h,fun d' hd'=>by rw [hd] at hd';cases hd';exact hn,by unfold upd;rw [hd];exact k⟩
theorem Mi.turn {ops:Array Oper} {o:Oper} {r:List Oper} {E:Env} {K:CL→Env→Prop} {d:Nat} {p:Pr} (I':CL) (hd:o.dst=some d) (hn:d<n) (h:UL P n I I' o E p)
  (k:Ch P n I' ops r ((d,p)::E) (K I')):Mi P n I ops 0 (o::r) E K:=
 ⟨p,I',h,fun d' hd'=>by rw [hd] at hd';cases hd';exact hn,by unfold upd;rw [hd];exact k⟩
def QH (P:Program) (f:FuncId) (args:List Pr) (pre:List A0) (res:Pr) (post:List A0):Prop:=Gu (α:=Unit) P f args pre (fun _=>True) (fun _=>res) (fun _=>post)
section
variable {M0:Av} {w0:World} {S:Nat→Prop} {rs:List A0} {E:Env} {o:Oper} {g:Func} {M1:Av} {w1:World}
theorem QH.of {f : FuncId} {c : Code} {ps : List Pr} {pre post : List A0} {res : Pr} (hf : P.funcs[f]? = some g) (hb : g.body = some c) (hname : (g.name == "runtime.NumGoroutine") = false) (hlen : ps.length ≤ g.ntmps)
  (h:∀M0 w0 S rs M1 w1,Tr (Y2 P) g.ntmps (J5 0 ps) (Hp M0 w0 S (pre++Ai M1 w1::rs)) c (bodyPost P g (Mg M0 w0 S rs M1 w1 (fun _:Unit=>True) (fun _=>res) (fun _=>post)))):QH P f ps pre res post:=
 Gu.of hf hb hname hlen h
theorem BQ.pure {f:FuncId} {args:List Pr} {res:Pr} {R':Value→A0} (h:BQ P f args res Bz R'):BT P f args res:=by
 refine ⟨h.1,fun M w vs hb hv=> ?_⟩
 refine (h.2 M w Je [] M w vs ((A1.begin hb).L8 (r:=Bz) rfl trivial) hv).mono ?_
 rintro e w' ⟨v,M',rfl,h2,h3,h4⟩
 exact ⟨v,rfl,res.st _ _ _ _ _ (Ext.less h4.m) h2,h4.below⟩
theorem KP {t e T:TypeId} {x:Operand} {sz j:Nat} {rows:List (List Pr)} {v:Value} (ho:o.op= .call { callee:= .builtin .len,args:= #[x],argTypes:= #[t] }) (ht:P.underlying t=some (.slice e)) (hx:VL E x (is v)):
  II P M0 w0 S j (SR.c (BA T sz rows v)) o E (int ((rows.length:Nat):Int)):=by
 intro M w a rs he hI hj
 have h1:a.eval x=v:=hx.ev he (by simp [ho,Op.operands,Call.operands])
 have hj':rs[j]? =some (BA T sz rows v):=hj
 have hrun:∃A c,v= .slice A rows.length c:=by
  rcases (hI.hold _ (List.mem_of_getElem? hj')).1 with ⟨rfl,A,hv⟩|⟨b,cap,spare,hv,_⟩
  · exact ⟨_,_,hv⟩
  · exact ⟨_,_,hv⟩
 obtain ⟨A,c,hv⟩:=hrun
 have:(execOp a.eval o).run P w= .ok (.value (.int .i64 ((rows.length:Nat):Int))) w:=by
  simp [execOp,ho,resolve,invoke,builtin,Builtin.len_,h1,hv,run_underlying ht,goInt]
 rw [this]
 exact ⟨rfl,Below.refl _ _⟩
end
end
section
variable {P:Program} {L:Lg P} {n:Fm} {fz:Nat} {E:Env} {M0:Av} {w0:World} {S:Nat→Prop} {rs:List A0} {o:Oper}
def dR (b off m:Nat):Pr where
 h _ _ u:=∃o c,u= .slice (some ⟨b,o,none⟩) m c∧(0<m→o=off)
 st _M _w _M' _w' _v _ h:=h
instance au (b off m:Nat):One (dR b off m):=⟨by rintro M w u ⟨o,c,rfl,_⟩;exact ⟨rfl,rfl⟩⟩
end
section
variable {P:Program} {L:Lg P} {n:Fm} {fz:Nat} {E:Env} {M0:Av} {w0:World} {S:Nat→Prop} {rs:List A0} {o:Oper}
end
section
variable {P:Program} {L:Lg P} {n:Fm} {fz:Nat} {E:Env} {M0:Av} {w0:World} {S:Nat→Prop} {rs:List A0}
theorem St.Jt {i j k sz b:Nat} {new:Bool} {T e:TypeId} {ps:List Pr} {rows:List (List Pr)} {v:Value} {p:Pr} (hi:rs[i]? =some (AD new b T ps)) (hj:rs[j]? =some (BA e sz rows v)) (hij:j≠i) (hk:ps[k]? =some p) (hp:Pr.le p (is v)) (hl:∀r∈rows,r.length=sz) {a:Act} {w:World} (h:St n E (Hp M0 w0 S rs) a w):
  St n E (Hp M0 w0 S ((rs.set j Bz).set i (AD new b T (ps.set k (slice sz rows))))) a w:=by
 obtain ⟨M,h1,h2,h3,h4⟩:=h
 have h4:A1 M0 w0 S rs M w:=h4
 have hi':(rs.set j (BA e sz rows v))[i]? =some (AD new b T ps):=by rw [List.getElem?_set_ne hij];exact hi
 obtain ⟨M',g1,g2,g3⟩:=h4.Zg hj hl
 have gi:(rs.set j Bz)[i]? =some (AD new b T ps):=by rw [List.getElem?_set_ne hij];exact hi
 refine ⟨M',h1,h2,fun s q hq=>q.st _ _ _ _ _ g1 (h3 s q hq),g2.CZ gi rfl rfl ?_⟩
 obtain ⟨c1,cs,c2,c3,c4⟩:=(g2.hold _ (List.mem_of_getElem? gi)).1
 exact ⟨c1,cs,c2,c3.set hk (fun u hu=>by rw [show u=v from hp _ _ _ hu];exact g3),c4⟩
theorem Tr.Jt {Q:Exit→Act→World→Prop} {c:Code} (i j k:Nat) {sz b:Nat} {new:Bool} {T e:TypeId} {ps:List Pr} {rows:List (List Pr)} {v:Value} {p:Pr} (hi:rs[i]? =some (AD new b T ps)) (hj:rs[j]? =some (BA e sz rows v)) (hij:j≠i) (hk:ps[k]? =some p) (hp:Pr.le p (is v)) (hl:∀r∈rows,r.length=sz)
  (kk:Tr L n E (Hp M0 w0 S ((rs.set j Bz).set i (AD new b T (ps.set k (slice sz rows))))) c Q):Tr L n E (Hp M0 w0 S rs) c Q:=Tr.conv (fun _ _ hs=>hs.Jt hi hj hij hk hp hl) kk
end
section
variable {P:Program} {L:Lg P} {n:Fm} {fz:Nat} {E:Env} {M0:Av} {w0:World} {S:Nat→Prop} {rs:List A0} {o:Oper} {g:Func} {M1:Av} {w1:World}
theorem QH.gen {f:FuncId} {args args':List Pr} {pre:List A0} {res:Pr} [Gt res] (hfz:∀M0 w0 S rs M w,A1 M0 w0 S (pre++rs) M w→∃M',Ext M w M' w∧A1 M0 w0 S rs M' w∧∀vs,HL M w args vs→HL M' w args' vs)
  (h:BT P f args' res):QH P f args pre res pre:=by
 refine ⟨h.1,fun M0 w0 S rs M w vs hI hv=> ?_⟩
 obtain ⟨M',hx,KG,ha⟩:=hfz M0 w0 S rs M w hI
 refine (h.2 M' w vs KG.bd (ha vs hv)).mono ?_
 rintro e' w' ⟨u,rfl,h2,h3⟩
 exact ⟨u,M,(),rfl,trivial,Gt.free _ _ _ _ h2,Ext.below h3,(Hp M0 w0 S _).st _ _ _ h3 hI⟩
theorem Row.hd {M:Av} {w:World} {ad:Addr} {p q:Pr} {ps:List Pr} (h:Row M w ad 0 (p::ps)) (hq:∀u,p.h M w u→q.h M w u):Row M w ad 0 (q::ps):=by
 intro j r hr
 cases j with
 |zero=>
  simp at hr;subst hr
  obtain ⟨u,h1,h2,h3,h4⟩:=h 0 p rfl
  exact ⟨u,h1,h2,h3,hq u h4⟩
 |succ j=>exact h (j+1) r (by simpa using hr)
theorem QH.look {f:FuncId} {wb ob:Nat} {WT OT e:TypeId} {gj ops rows ps:List Pr} {rws:List (List Pr)} {sz k:Nat} {v:Value} {res:Pr} [Gt res] (hk:ops[k]? =some (is v)) (hl:∀r∈rws,r.length=sz) (ho:ops.set k (slice sz rws)=rows)
  (h:BT P f (ref (ref rows::gj)::ps) res):QH P f (ptr wb 0::ps) [AD true wb WT (ptr ob 0::gj),AD true ob OT ops,BA e sz rws v] res [AD true wb WT (ptr ob 0::gj),AD true ob OT ops,BA e sz rws v]:=by
 refine QH.gen (fun M0 w0 S rs M w hI=> ?_) h
 obtain ⟨Ma,a1,a2⟩:=A1.Jt (i:=1) (j:=2) (k:=k) hI rfl rfl (by decide) hk hl
 rw [ho] at a2
 have a3:A1 M0 w0 S (AD true ob OT rows::AD true wb WT (ptr ob 0::gj)::Bz::rs) Ma w:=A1.perm (List.Perm.swap _ _ _) a2
 obtain ⟨Mb,b1,b2,b3⟩:=A1.RH a3
 obtain ⟨Mc,c1,c2,c3⟩:=A1.RH b1
 refine ⟨Mc,(a1.trans b2).trans c2,c1.Kn,fun vs hv=> ?_⟩
 match vs,hv with
 |u0::vs1,TW=>
  obtain ⟨L6,SE⟩:=TW
  refine ⟨⟨⟨wb,0,none⟩,L6,c3.hd fun u hu=>⟨⟨ob,0,none⟩,hu,b3.st c2⟩⟩,SE.st ((a1.trans b2).trans c2)⟩
theorem TO.re {Q:Exit→Act→World→Prop} {ops:Array Oper} {l:List Oper} {I:CL} (s:Nat) {q:Pr} (p:Pr) (hs:E.lookup s=some q) (hl:Pr.le q p) (k:TO P n ops l ((s,p)::E) I Q):TO P n ops l E I Q:=by
 intro m hm a w hst
 refine k m hm a w ?_
 obtain ⟨M,h1,h2,he,h4⟩:=hst
 refine ⟨M,h1,h2,fun s' r hr=> ?_,h4⟩
 simp only [List.lookup] at hr
 split at hr
 ·
  rename_i e1
  have:s'=s:=by simpa using e1
  subst this
  simp only [Option.some.injEq] at hr
  subst hr
  exact hl _ _ _ (he _ _ hs)
 · exact he _ _ hr
theorem Fin.Zh {Q:Exit→Act→World→Prop} {x:Exit} {r r':A0} (k:Fin n E (Hp M0 w0 S (r'::r::rs)) Q x):Fin n E (Hp M0 w0 S (r::r'::rs)) Q x:=
 Fin.conv (fun _ _ ⟨M,h1,h2,h3,h4⟩=>⟨M,h1,h2,h3,A1.perm (List.Perm.swap _ _ _) h4⟩) k
def XJ (P:Program) (f:FuncId) (args:List Pr) (res:Value→Pr) (post:Value→List A0):Prop:=Gu (α:=Value) P f args [] (fun _=>True) res post
theorem XJ.of {f : FuncId} {c : Code} {ps : List Pr} {res : Value → Pr} {post : Value → List A0} (hf : P.funcs[f]? = some g) (hb : g.body = some c) (hname : (g.name == "runtime.NumGoroutine") = false) (hlen : ps.length ≤ g.ntmps)
  (h:∀M0 w0 S rs M1 w1,Tr (Y2 P) g.ntmps (J5 0 ps) (Hp M0 w0 S (Ai M1 w1::rs)) c (bodyPost P g (Mg M0 w0 S rs M1 w1 (fun _:Value=>True) res post))):XJ P f ps res post:=
 Gu.of hf hb hname hlen h
theorem Fin.jI {rv:ResultVar} {q:Pr} {res:Value→Pr} {post:Value→List A0} {rs':List A0} (v:Value) (dr:List A0) (hr:g.results= #[rv]) (h:A6 P E rs' rv q) (hl:Pr.le q (res v)) (hp:rs'.Perm (dr++(post v++Ai M1 w1::rs))):
  Fin ⟨fz,[]⟩ E (Hp M0 w0 S rs') (bodyPost P g (Mg M0 w0 S rs M1 w1 (fun _:Value=>True) res post)) .ret:=by
 rintro a w ⟨M,_,hd,he,hi⟩
 have hi:A1 M0 w0 S rs' M w:=hi
 obtain ⟨u,hu,KE⟩:=h M w a he (fun q hq=>(hi.hold q hq).1)
 obtain ⟨h1,h2⟩:=E_ (A1.Yp (A1.perm hp hi))
 exact ⟨hd,u,results1 hr hu,_,M,v,rfl,trivial,hl _ _ _ KE,h1,h2⟩
end
section
variable {P:Program} {L:Lg P} {n:Fm} {fz:Nat} {E:Env} {I:CL} {Q:Exit→Act→World→Prop} {ops:Array Oper} {o:Oper} {r:List Oper} {g j:Nat} {b want:Bool}
theorem TO.cases (g:Nat) {b:Bool} {l:List Oper} (_hb:E.lookup g=some (bool b)) (ht:b=true→TO P n ops l E I Q) (hf:b=false→TO P n ops l E I Q):TO P n ops l E I Q:=by
 cases b
 · exact hf rfl
 · exact ht rfl
theorem TO.dS (hg:o.guard=some (j,want)) (hj:(ops[j]?).bind (·.dst)=some g) (hb:E.lookup g=some (bool b)) (IG:b=want) (h:∀(K:Act→World→Prop) M w (a:Act),a.tmps.size=n.sz→a.defers=n.df→Ek M w E a→I.h M w→
  (∀E' I' a' w',TO P n ops r E' I' Q→St n E' I' a' w'→K a' w')→o.wp P a w K Q):TO P n ops (o::r) E I Q:=by
 intro k hl a w hs
 have h0:ops[k]? =some o:=by simpa using (hl 0).symm
 obtain ⟨M,hn,hd,he,hI⟩:=hs
 simp only [List.length_cons,List.range'_succ,wpS,h0]
 have hy:=GK (M:=M) (w:=w) (b:=some b) hj (he g _ hb)
 rw [FQ hg hy,if_pos (by simp [IG])]
 exact (h _ M w a hn hd he hI fun E' I' a' w' hT hst=>hT (k+1) (fun j=>by have:=hl (j+1);simpa [Nat.add_assoc,Nat.add_comm 1 j] using this) a' w' hst)
theorem TO.mw {d:Nat} {p:Pr} (hg:o.guard=some (j,want)) (hj:(ops[j]?).bind (·.dst)=some g) (hb:E.lookup g=some (bool b)) (IG:b=want) (hd:o.dst=some d) (hn:d<n) (h:Ab P I o E p) (k:TO P n ops r ((d,p)::E) I Q):TO P n ops (o::r) E I Q:=
 TO.dS hg hj hb IG fun K M w a h1 h2 h3 h4 hK=>by
  refine Ey (h M w a (Bq h3) h4) fun v w' hv hb'=>hK _ _ _ _ k ⟨M,?_,?_,?_,I.st _ _ _ hb' h4⟩
  · rw [Bn];exact h1
  · rw [put_defers];exact h2
  ·
   have:=h3.put (o:=o) (p:=p) hb' hv (fun d' hd'=>by rw [hd] at hd';cases hd';rw [h1];exact hn)
   rw [show upd o p E=(d,p)::E by unfold upd;rw [hd]] at this;exact this
theorem TO.lW {d:Nat} (hg:o.guard=some (j,want)) (hj:(ops[j]?).bind (·.dst)=some g) (hb:E.lookup g=some (bool b)) (IG:b≠want) (hd:o.dst=some d) (hn:d<n) (kk:TO P n ops r ((d,is undef)::E) I Q):TO P n ops (o::r) E I Q:=by
 intro k hl a w hs
 have h0:ops[k]? =some o:=by simpa using (hl 0).symm
 obtain ⟨M,h1,h2,he,hI⟩:=hs
 simp only [List.length_cons,List.range'_succ,wpS,h0]
 have hy:=GK (M:=M) (w:=w) (b:=some b) hj (he g _ hb)
 rw [FQ hg hy,if_neg (by simp [IG])]
 refine kk (k+1) (fun j=>by have:=hl (j+1);simpa [Nat.add_assoc,Nat.add_comm 1 j] using this) _ w ⟨M,by rw [Bn];exact h1,by rw [put_defers];exact h2,?_,hI⟩
 have:=he.put (o:=o) (p:=is undef) (v:=undef) (Below.refl w.heap.size w) rfl (fun d' hd'=>by rw [hd] at hd';cases hd';rw [h1];exact hn)
 rw [show upd o (is undef) E=(d,is undef)::E by unfold upd;rw [hd]] at this;exact this
variable {M0:Av} {w0:World} {S:Nat→Prop} {rs:List A0}
theorem TO.jJ {d:Nat} {p:Pr} (i:Nat) {R:A0} {R':A0} (hg:o.guard=some (j,want)) (hj:(ops[j]?).bind (·.dst)=some g) (hb:E.lookup g=some (bool b)) (IG:b=want) (hR:rs[i]? =some R) (hd:o.dst=some d) (hn:d<n) (h:Du P M0 w0 S n i (SR.c R) (SR.c R') { o with guard:=none } E p)
  (k:TO P n ops r ((d,p)::E) (Hp M0 w0 S (rs.set i R')) Q):TO P n ops (o::r) E (Hp M0 w0 S rs) Q:=
 TO.dS hg hj hb IG fun K M w a hsz hdf he hI hK=>by
  have hw : ({ o with guard := none } : Oper).wp P a w K Q := HG (h.2 M w a rs hsz (Bq he) hI hR) fun v w' M' hv hx KG => hK _ _ _ _ k ⟨M', by rw [Bn]; exact hsz, by rw [put_defers]; exact hdf, by
   intro s q hq
   simp only [List.lookup] at hq
   by_cases hs:s=d
   · subst hs;simp at hq;subst hq;show p.h M' w' ((a.put o.dst v).tmps.getD s undef);rw [hd,Bf (by rw [hsz];exact hn)];exact hv
   · rw [show (s==d)=false by simpa using hs] at hq;show q.h M' w' ((a.put o.dst v).tmps.getD s undef);rw [hd,Bm hs];exact q.st _ _ _ _ _ hx (he s q hq),KG⟩
  exact hw
end
section
variable {P:Program} {L:Lg P} {E:Env} {I:CL} {o:Oper}
end
class T1 (P:Program) (t:TypeId):Prop where
 h:Fx P t=true
class TA (P:Program) (t:TypeId):Prop where
 h:GM P t=true
class TZ (P:Program) (t:TypeId) (m:outParam Nat):Prop where
 h:BJ P t=some m
class TF (P:Program) (s f:Nat) (k:outParam Nat):Prop where
 h:A2 P s f=some k
class TU (P:Program) (t:TypeId) (d:outParam TypeDesc):Prop where
 h:P.underlying t=some d
class TB (P:Program) (t:TypeId) (place:outParam (Nat→Option (Nat×Nat))) (zs:outParam (List Value)):Prop where
 h:∀ps,P.built t ps=Instr.fill place zs.toArray ps
 z:zs.all (·.oneCell')=true
class TV (P:Program) (t:TypeId) (zs:outParam (List Value)):Prop where
 h:Br P t=some zs
 z:zs.all (·.oneCell')=true
class TM (P:Program):Prop where
 h:P.follows .mixedOrders=true
section
variable {P:Program} {L:Lg P} {n:Fm} {fz:Nat} {I:CL} {ops:Array Oper} {o:Oper} {r:List Oper} {E:Env} {K:Env→Prop} {d g j:Nat} {b want:Bool} {p:Pr} {x y:Operand} {Q:Exit→Act→World→Prop} {t u:TypeId}
theorem jK [i:T1 P t] {ps:List Pr} (ho:o.op= .load t x) (hx:Ce E x=some (ref (p::ps))):Ab P I o E p:=Bo ho i.h (vl hx)
theorem jL [i:TA P t] {m:Nat} [z:TZ P t m] {ps qs:List Pr} (ho:o.op= .load t x) (hx:Ce E x=some (ref ps)) (hq:ps.take m=qs) (hm:qs.length=m):Ab P I o E (agg qs):=Ad ho i.h z.h (vl hx) hq hm
theorem jM {s:TypeId} {f k:Nat} [i:TF P s f k] {ps qs:List Pr} (ho:o.op= .fieldAddr s x f) (hx:Ce E x=some (ref ps)) (hq:ps.drop k=qs):Ab P I o E (ref qs):=Ct ho i.h (vl hx) hq
theorem jN {s:TypeId} {f k:Nat} [i:TF P s f k] {b off:Nat} (ho:o.op= .fieldAddr s x f) (hx:Ce E x=some (ptr b off)):Ab P I o E (ptr b (off+k)):=Bb ho i.h (vl hx)
theorem jO {e:TypeId} [i:TU P t (.slice e)] {sz:Nat} {β:Type} {f:β→List Pr} {l:List β} (ho:o.op= .call { callee:= .builtin .len,args:= #[x],argTypes:= #[t] }) (hx:Ce E x=some (slice sz (l.map f))):Ab P I o E (int ((l.length:Nat):Int)):=CV ho i.h (vl hx)
theorem jP [i:TU P t .string] {a:List UInt8} (ho:o.op= .call { callee:= .builtin .len,args:= #[x],argTypes:= #[t] }) (hx:Ce E x=some (str a)):Ab P I o E (int ((a.length:Nat):Int)):=XA ho i.h (vl hx)
theorem jQ [i:TU P t .bool] {b c:Bool} (ho:o.op= .binOp .eql t x y u) (hx:Ce E x=some (bool b)) (hy:Ce E y=some (bool c)):Ab P I o E (bool (b==c)):=Tt ho i.h (vl hx) (vl hy)
theorem jR {p:Pr} [One p] (ho:o.op= .box t x) (hx:Ce E x=some p):Ab P I o E (ref [p]):=E0 ho (VL.le (vl hx) (AO p))
theorem jS {ps:List Pr} (ho:o.op= .box t x) (hx:Ce E x=some (agg ps)):Ab P I o E (ref ps):=E0 ho (VL.le (vl hx) (DC ps))
class CP (p:Pr) (ps:outParam (List Pr)):Prop where
 h:Pr.le p (DY ps)
instance jT (ps:List Pr):CP (agg ps) ps:=⟨DC ps⟩
instance (priority:=low) jU (p:Pr) [One p]:CP p [p]:=⟨AO p⟩
class CQ (p:Pr) (ps:outParam (List Pr)):Prop where
 h:Pr.le p (DY ps)
instance jV (ps:List Pr):CQ (agg ps) ps:=⟨DC ps⟩
instance jW (k:IntKind) (n:Int):CQ (is (.int k n)) [is (.int k n)]:=⟨AO _⟩
instance gl (b:Bool):CQ (is (.bool b)) [is (.bool b)]:=⟨AO _⟩
instance jX (s:ByteArray):CQ (is (.string s)) [is (.string s)]:=⟨AO _⟩
instance jY (a:Option Addr):CQ (is (.pointer a)) [is (.pointer a)]:=⟨AO _⟩
instance dU (sz:Nat) (rows:List (List Pr)):CQ (slice sz rows) [slice sz rows]:=⟨AO _⟩
instance jZ (ps:List Pr):CQ (ref ps) [ref ps]:=⟨AO _⟩
instance lX (f:Fn) (ps:List Pr):CQ (fn f ps) [fn f ps]:=⟨AO _⟩
theorem mz:P7 E [] []:=trivial
theorem m8 {i:Nat} {q:Pr} {row:List Pr} [c:CQ q row] {xs:List (Nat×Operand)} {rows:List (Nat×List Pr)} (hx:Ce E x=some q) (h:P7 E xs rows):P7 E ((i,x)::xs) ((i,row)::rows):=⟨⟨rfl,VL.le (vl hx) c.h⟩,h⟩
theorem m9 {sz:Nat}:NQ E sz [] []:=trivial
theorem m_ {sz:Nat} {q:Pr} {row:List Pr} [c:CQ q row] {xs:List Operand} {rows:List (List Pr)} (hx:Ce E x=some q) (hl:row.length=sz) (h:NQ E sz xs rows):NQ E sz (x::xs) (row::rows):=⟨⟨hl,VL.le (vl hx) c.h⟩,h⟩
theorem jc {parts:Array (Nat×Operand)} {place:Nat→Option (Nat×Nat)} {zs:List Value} [i:TB P t place zs] {rows:List (Nat×List Pr)} {qs:List Pr} (ho:o.op= .build t parts) (hx:P7 E parts.toList rows) (hq:ML place (zs.map is) rows=some qs):Ab P I o E (agg qs):=BS ho i.h i.z hx hq
theorem jd {e:TypeId} {sz m:Nat} {zs:List Value} {xs:List Operand} {parts:Array (Nat×Operand)} {rows:List (List Pr)} [i:TU P t (.slice e)] [z:TZ P e sz] [v:TV P e zs] (ho:o.op= .buildSlice t m parts) (hp:parts.toList.map Prod.snd=xs) (hm:(m==xs.length&&(parts.toList.map Prod.fst==List.range m)&&zs.length==sz&&Nat.blt 0 sz&&Nat.ble (m*sz) 16777216)=true) (hx:NQ E sz xs rows):Ab P I o E (full sz rows):=by
 simp only [Bool.and_eq_true,beq_iff_eq,Nat.blt_eq,Nat.ble_eq] at hm
 obtain ⟨⟨⟨⟨h1,h2⟩,h3⟩,h4⟩,h5⟩:=hm
 subst h1
 refine AM ho ?_ i.h z.h v.h h3 h4 hx h5
 refine List.ext_getElem (by rw [←hp];simp) fun k h6 h7=> ?_
 have h8:k<xs.length:=by simpa using h7
 simp only [List.getElem_map,List.getElem_zipIdx,Nat.zero_add]
 have e1:(parts.toList.map Prod.fst)[k]'(by simpa using h6)=k:=by simp only [h2];exact List.getElem_range _
 have e2:(parts.toList.map Prod.snd)[k]'(by simpa using h6)=xs[k]:=by simp only [hp]
 simp only [List.getElem_map] at e1 e2
 exact Prod.ext e1 e2
section
variable {M0:Av} {w0:World} {S:Nat→Prop} {b off:Nat} {T:TypeId} {new:Bool} {ps qs:List Pr} {m:Nat} {q:Pr}
theorem MA [i:T1 P t] (ho:o.op= .load t x) (hx:Ce E x=some (ptr b off)) (hp:ps[off]? =some p):II P M0 w0 S j (SR.c (AD new b T ps)) o E p:=AS ho i.h (vl hx) hp
theorem MB [i:TA P t] [z:TZ P t m] (ho:o.op= .load t x) (hx:Ce E x=some (ptr b off)) (hq:(ps.drop off).take m=qs) (hm:qs.length=m):II P M0 w0 S j (SR.c (AD new b T ps)) o E (agg qs):=Ae ho i.h z.h (vl hx) hq hm
theorem Og {ps':List Pr} [z:TZ P t m] [c:CP q qs] (hg:o.guard=none) (ho:o.op= .store t x y) (hx:Ce E x=some (ptr b off)) (hy:Ce E y=some q) (hm:qs.length=m:=by rfl) (hl:Nat.ble (off+m) ps.length=true:=by rfl) (hps:ps.take off++qs++ps.drop (off+m)=ps':=by rfl):Du P M0 w0 S n j (SR.c (AD new b T ps)) (SR.c (AD new b T ps')) o E any:=AW hg ho (vl hx) (VL.le (vl hy) c.h) z.h hm (Nat.le_of_ble_eq_true hl) hps
variable {rs:List A0}
theorem sf (i s:Nat) [z:TZ P t m] [c:CP q qs] (hg:o.guard=none∧o.dst=none∧o.op= .store t x y) (hx:Ce E x=some (ptr b 0)) (hy:Ce E y=some q) (hi:rs[i]? =some (AD true b T ps)) (hs:E.lookup s=some (ptr b 0))
  (k:TO P n ops r ((s,ref qs)::E) (Hp M0 w0 S ((rs.set i (AD true b T qs)).eraseIdx i)) Q) (hm:qs.length=m:=by rfl) (hl:ps.length=m:=by rfl):TO P n ops (o::r) E (Hp M0 w0 S rs) Q:=
 TO.DK i hg.1 hg.2.1 hg.2.2 (vl hx) (VL.le (vl hy) c.h) hi z.h hm hl (TO.freeze (ps:=qs) i s (by
  have hlt:i<rs.length:=by rcases Nat.lt_or_ge i rs.length with h|h;exact h;rw [List.getElem?_eq_none h] at hi;cases hi
  rw [List.getElem?_set_self hlt]) hs k)
theorem sa (i:Nat) [z:TZ P t m] [c:CP q qs] (hg:o.guard=none∧o.dst=none∧o.op= .store t x y) (hx:Ce E x=some (ptr b 0)) (hy:Ce E y=some q) (hi:rs[i]? =some (AD new b T ps))
  (k:TO P n ops r E (Hp M0 w0 S (rs.set i (AD new b T qs))) Q) (hm:qs.length=m:=by rfl) (hl:ps.length=m:=by rfl):TO P n ops (o::r) E (Hp M0 w0 S rs) Q:=TO.DK i hg.1 hg.2.1 hg.2.2 (vl hx) (VL.le (vl hy) c.h) hi z.h hm hl k
end
def Zi (o:Oper):Nat:=match o.op with
 | .move ..=>1
 | .assign ..=>1
 | .fieldAddr ..=>2
 | .load ..=>3
 | .binOp .add ..=>7
 | .binOp .sub ..=>8
 | .binOp ..=>4
 | .pick ..=>5
 | .nilCheck ..=>6
 | .call { callee:= .builtin .len,.. }=>9
 | .unOp ..=>10
 | .box ..=>11
 | .extract ..=>12
 | .makeFunc ..=>13
 | .build ..=>14
 | .buildSlice ..=>15
 | .store ..=>16
 |_=>0
def dV (o:Oper):Bool:=o.guard.isNone
def je (o:Oper):Nat:=if Zi o=0 then 0 else if Zi o<5 then 1 else if Zi o<9 then 2 else if Zi o<16 then 3 else 4
theorem jf {m z:Int} (ho:o.op= .binOp .add t x y u) (hx:Ce E x=some (int m)) (hy:Ce E y=some (int z)) (hr: -9223372036854775808≤m+z∧m+z≤9223372036854775807):Ab P I o E (int (m+z)):=BR ho (vl hx) (vl hy) hr
theorem jg {m z:Int} (ho:o.op= .binOp .sub t x y u) (hx:Ce E x=some (int m)) (hy:Ce E y=some (int z)) (hr: -9223372036854775808≤m-z∧m-z≤9223372036854775807):Ab P I o E (int (m-z)):=Ff ho (vl hx) (vl hy) hr
theorem oF (h:Ab P I o E p:=by first|exact jM rfl rfl rfl|exact jN rfl rfl):Ab P I o E p:=h
theorem oL (h:Ab P I o E p:=by first|exact jK rfl rfl|exact jL rfl rfl rfl rfl|exact As 0 rfl (MA rfl rfl rfl)|exact As 0 rfl (MB rfl rfl rfl rfl)|exact As 1 rfl (MA rfl rfl rfl)|exact As 1 rfl (MB rfl rfl rfl rfl)|exact As 2 rfl (MA rfl rfl rfl)|exact As 2 rfl (MB rfl rfl rfl rfl)|exact As 3 rfl (MA rfl rfl rfl)|exact As 3 rfl (MB rfl rfl rfl rfl)|exact As 4 rfl (MA rfl rfl rfl)|exact As 4 rfl (MB rfl rfl rfl rfl)):Ab P I o E p:=h
theorem oB (h:Ab P I o E p:=by first|exact ki rfl rfl rfl rfl|exact QB rfl (vl rfl) (vl rfl)|exact ZZ rfl (vl rfl) (vl rfl)|exact jQ rfl rfl rfl):Ab P I o E p:=h
theorem oP (h:Ab P I o E p:=by first|exact GQ rfl rfl (by first|rfl|assumption) rfl|exact JE rfl rfl (by first|rfl|assumption) rfl|exact SO rfl (vl rfl) (vl rfl)|exact QG rfl (vl rfl) (vl rfl)):Ab P I o E p:=h
theorem oN (h:Ab P I o E p:=by first|exact NP rfl (vl rfl)|exact J6 rfl (vl rfl)|exact Kg rfl (vl rfl)):Ab P I o E p:=h
theorem oA (h:Ab P I o E p:=by first|exact jf rfl rfl rfl (by omega)|exact ki rfl rfl rfl rfl):Ab P I o E p:=h
theorem oS (h:Ab P I o E p:=by first|exact jg rfl rfl rfl (by omega)|exact ki rfl rfl rfl rfl):Ab P I o E p:=h
theorem oC (h:Ab P I o E p:=by first|exact jO rfl rfl|exact jP rfl rfl):Ab P I o E p:=h
theorem oU (h:Ab P I o E p:=by first|exact Dt rfl (vl rfl)):Ab P I o E p:=h
theorem oO (h:Ab P I o E p:=by first|exact jS rfl rfl|exact jR rfl rfl):Ab P I o E p:=h
theorem oE (h:Ab P I o E p:=by first|exact At rfl (vl rfl) rfl):Ab P I o E p:=h
theorem oM (h:Ab P I o E p:=by first|exact FR rfl rfl):Ab P I o E p:=h
theorem oD (h:Ab P I o E p:=by first|exact jc rfl (by repeat any_goals first|exact mz|refine' m8 rfl ?_) (by rfl)):Ab P I o E p:=h
theorem oI (h:Ab P I o E p:=by first|exact jd rfl rfl (by rfl) (by repeat any_goals first|exact m9|refine' m_ rfl (by rfl) ?_)):Ab P I o E p:=h
theorem lY {f:FuncId} {ts:Array TypeId} {res:Pr} (hf:BT P f [] res) (ho:o.op= .call { callee:= .value (.func f),args:= #[],argTypes:=ts }):Ab P I o E res:=Ah ho hf trivial
theorem Cr {f:FuncId} {ts:Array TypeId} {x0:Operand} {p0:Pr} {res:Pr} (hf:BT P f [p0] res) (ho:o.op= .call { callee:= .value (.func f),args:= #[x0],argTypes:=ts }) (h0:Ce E x0=some p0):Ab P I o E res:=Ah ho hf ⟨ke h0,trivial⟩
theorem EE {f:FuncId} {ts:Array TypeId} {x0:Operand} {p0:Pr} {x1:Operand} {p1:Pr} {res:Pr} (hf:BT P f [p0,p1] res) (ho:o.op= .call { callee:= .value (.func f),args:= #[x0,x1],argTypes:=ts }) (h0:Ce E x0=some p0) (h1:Ce E x1=some p1):Ab P I o E res:=Ah ho hf ⟨ke h0,ke h1,trivial⟩
theorem av {f:FuncId} {ts:Array TypeId} {x0:Operand} {p0:Pr} {x1:Operand} {p1:Pr} {x2:Operand} {p2:Pr} {res:Pr} (hf:BT P f [p0,p1,p2] res) (ho:o.op= .call { callee:= .value (.func f),args:= #[x0,x1,x2],argTypes:=ts }) (h0:Ce E x0=some p0) (h1:Ce E x1=some p1) (h2:Ce E x2=some p2):Ab P I o E res:=Ah ho hf ⟨ke h0,ke h1,ke h2,trivial⟩
theorem jh {f:FuncId} {ts:Array TypeId} {x0:Operand} {p0:Pr} {x1:Operand} {p1:Pr} {x2:Operand} {p2:Pr} {x3:Operand} {p3:Pr} {res:Pr} (hf:BT P f [p0,p1,p2,p3] res) (ho:o.op= .call { callee:= .value (.func f),args:= #[x0,x1,x2,x3],argTypes:=ts }) (h0:Ce E x0=some p0) (h1:Ce E x1=some p1) (h2:Ce E x2=some p2) (h3:Ce E x3=some p3):Ab P I o E res:=Ah ho hf ⟨ke h0,ke h1,ke h2,ke h3,trivial⟩
theorem cP (_:dV o=true) (h:Ch P n I ops (o::r) E K):Ch P n I ops (o::r) E K:=h
theorem cG (_:dV o=false) (h:Ch P n I ops (o::r) E K):Ch P n I ops (o::r) E K:=h
theorem cK (k:Nat) (_:Zi o=k) (h:Ch P n I ops (o::r) E K):Ch P n I ops (o::r) E K:=h
theorem cS (k:Nat) (_:je o=k) (h:Ch P n I ops (o::r) E K):Ch P n I ops (o::r) E K:=h
theorem tK (k:Nat) (_:Zi o=k) (h:TO P n ops (o::r) E I Q):TO P n ops (o::r) E I Q:=h
theorem tG (k:Nat) (_:je o=k) (h:TO P n ops (o::r) E I Q):TO P n ops (o::r) E I Q:=h
theorem Tr.rm [i:TM P] {id:Nat} {l:List Oper} (hB:NK l=true) (h:Ch P n I l.toArray l E (fun E'=>Fin n E' I Q .normal)) (hc:calm l=true:=by with_unfolding_all rfl):Tr L n E I (.region id l.toArray true) Q:=Tr.HT i.h hB h hc
theorem Tr.ct {c:Operand} {y z:Code} (hc:Ce E c=some (bool true)) (k:Tr L n E I y Q):Tr L n E I (.cond c y z) Q:=Tr.cond hc (fun _=>k) (fun h=>nomatch h)
theorem Tr.cf {c:Operand} {y z:Code} (hc:Ce E c=some (bool false)) (k:Tr L n E I z Q):Tr L n E I (.cond c y z) Q:=Tr.cond hc (fun h=>nomatch h) (fun _=>k)
structure WS (G:Prop):Prop where
 k:G
theorem Cx.mono {M0:Av} {w0:World} {S:Nat→Prop}:∀{l:List Oper} {E:Env} {rs:List SR} {K K':List X→Env→List SR→Prop},(∀L E rs,K L E rs→K' L E rs)→Cx P M0 w0 S n ops l E rs K→Cx P M0 w0 S n ops l E rs K'
 |[],_,_,_,_,h,k=>h _ _ _ k
 |_::_,_,_,_,_,h,⟨p,k,h1,h2,h3⟩=>⟨p,k,h1,h2,Cx.mono (fun _ _ _=>h _ _ _) h3⟩
theorem Cx.keys {M0:Av} {w0:World} {S:Nat→Prop}:∀{l:List Oper} {E:Env} {rs:List SR} {K:List X→Env→List SR→Prop},Cx P M0 w0 S n ops l E rs K→∃ks:List KN,Cx P M0 w0 S n ops l E rs (fun L E' rs'=>L.map (·.k.Ho)=ks∧K L E' rs')
 |[],_,_,_,k=>⟨[],rfl,k⟩
 |_::_,_,_,_,⟨p,k,h1,h2,h3⟩=>by
  obtain ⟨ks,h4⟩:=Cx.keys h3
  exact ⟨k.Ho::ks,p,k,h1,h2,Cx.mono (fun L E rs h=>⟨by rw [List.map_cons,h.1],h.2⟩) h4⟩
theorem Tr.rx {Lo:Lg P} [i:TM P] {M0:Av} {w0:World} {S:Nat→Prop} {id:Nat} {l:List Oper} {F0:List A0}
  (h:Cx P M0 w0 S n l.toArray l E (F0.map SR.c) (fun L E' rs'=>KF l (L.map (·.k.Ho))=true∧BP n M0 w0 S E' rs' Q)) (hc:calm l=true:=by with_unfolding_all rfl):Tr Lo n E (Hp M0 w0 S F0) (.region id l.toArray true) Q:=by
 obtain ⟨ks,hk⟩:=Cx.keys h
 obtain ⟨L,h1,h2,h3⟩:=NN l 0 E _ hk
 exact Tr.Dv i.h ks (by rw [←h3.1];exact h3.2.1) (hk.mono fun _ _ _ h=>⟨h.1,h.2.2⟩) hc
theorem nA {rs:List A0} {r0:A0}:BG (SR.c r0::rs.map SR.c) (r0::rs):= .cons (BG.map _)
theorem Ic {rs:List A0} {r0:A0} {r1:A0}:BG (SR.c r0::SR.c r1::rs.map SR.c) (r0::r1::rs):= .cons (.cons (BG.map _))
theorem lZ {rs:List A0} {r0:A0} {r1:A0} {r2:A0}:BG (SR.c r0::SR.c r1::SR.c r2::rs.map SR.c) (r0::r1::r2::rs):= .cons (.cons (.cons (BG.map _)))
theorem fo {f : FuncId} {g : Func} {c : Code} {ps : List Pr} {res : Pr} (hf : P.funcs[f]? = some g) (hb : g.body = some c) (hname : ((g.name == "runtime.NumGoroutine") = false ∧ Nat.ble ps.length g.ntmps = true))
  (h:∀M0 w0,Tr (Y2 P) g.ntmps (J5 0 ps) (lC M0 w0) c (bodyPost P g (OC M0 w0 res))):BT P f ps res:=BT.of hf hb hname.1 (Nat.le_of_ble_eq_true hname.2) h
section
variable {M0:Av} {w0:World} {S:Nat→Prop} {rs:List SR} {KX:List X→Env→List SR→Prop}
theorem nB {l:List Oper} (h:Cx P M0 w0 S n ops l E rs KX):Cx P M0 w0 S n ops l E rs KX:=h
theorem xK (k:Nat) (_:Zi o=k) (h:Cx P M0 w0 S n ops (o::r) E rs KX):Cx P M0 w0 S n ops (o::r) E rs KX:=h
theorem xG (k:Nat) (_:je o=k) (h:Cx P M0 w0 S n ops (o::r) E rs KX):Cx P M0 w0 S n ops (o::r) E rs KX:=h
end
theorem cId {l:List Oper} (h:Ch P n I ops l E K):Ch P n I ops l E K:=h
theorem az {c:Code} (h:Tr L n E I c Q):Tr L n E I c Q:=h
theorem fId {e:Exit} (h:Fin n E I Q e):Fin n E I Q e:=h
theorem dW {l:List Oper} (h:TO P n ops l E I Q):TO P n ops l E I Q:=h
theorem ac {G H:Prop} (k:G) (h:WS G→H:=by
 intro k
 repeat1' first
  |((with_reducible refine cId ?_);first
   |with_reducible refine Ch.nil ?_
   |(refine cP rfl ?_;first
    |(refine cS 1 rfl ?_;first
      |(refine cK 1 rfl ?_;refine cm rfl ?_)
      |(refine cK 2 rfl ?_;refine co rfl oF ?_)
      |(refine cK 3 rfl ?_;refine co rfl oL ?_)
      |(refine cK 4 rfl ?_;refine co rfl oB ?_))
    |(refine cS 2 rfl ?_;first
      |(refine cK 5 rfl ?_;refine co rfl oP ?_)
      |(refine cK 6 rfl ?_;refine co rfl oN ?_)
      |(refine cK 7 rfl ?_;refine co rfl oA ?_)
      |(refine cK 8 rfl ?_;refine co rfl oS ?_))
    |(refine cS 3 rfl ?_;first
      |(refine cK 9 rfl ?_;refine co rfl oC ?_)
      |(refine cK 10 rfl ?_;refine co rfl oU ?_)
      |(refine cK 11 rfl ?_;refine co rfl oO ?_)
      |(refine cK 12 rfl ?_;refine co rfl oE ?_)
      |(refine cK 13 rfl ?_;refine co rfl oM ?_)
      |(refine cK 14 rfl ?_;refine co rfl oD ?_)
      |(refine cK 15 rfl ?_;refine co rfl oI ?_)))
   |(refine cG rfl ?_;first
    |refine cu rfl ?_
    |refine cnt (by assumption) rfl ?_
    |refine cnf (by assumption) rfl ?_
    |(refine cS 1 rfl ?_;first
      |(refine cK 1 rfl ?_;refine DL (by first|assumption|rfl) rfl ?_)
      |(refine cK 2 rfl ?_;refine cy (by first|assumption|rfl) rfl oF ?_)
      |(refine cK 3 rfl ?_;refine cy (by first|assumption|rfl) rfl oL ?_)
      |(refine cK 4 rfl ?_;refine cy (by first|assumption|rfl) rfl oB ?_))
    |(refine cS 2 rfl ?_;first
      |(refine cK 5 rfl ?_;refine cy (by first|assumption|rfl) rfl oP ?_)
      |(refine cK 6 rfl ?_;refine cy (by first|assumption|rfl) rfl oN ?_)
      |(refine cK 7 rfl ?_;refine cy (by first|assumption|rfl) rfl oA ?_)
      |(refine cK 8 rfl ?_;refine cy (by first|assumption|rfl) rfl oS ?_))
    |(refine cS 3 rfl ?_;first
      |(refine cK 9 rfl ?_;refine cy (by first|assumption|rfl) rfl oC ?_)
      |(refine cK 10 rfl ?_;refine cy (by first|assumption|rfl) rfl oU ?_)
      |(refine cK 11 rfl ?_;refine cy (by first|assumption|rfl) rfl oO ?_)
      |(refine cK 12 rfl ?_;refine cy (by first|assumption|rfl) rfl oE ?_)
      |(refine cK 13 rfl ?_;refine cy (by first|assumption|rfl) rfl oM ?_)
      |(refine cK 14 rfl ?_;refine cy (by first|assumption|rfl) rfl oD ?_)
      |(refine cK 15 rfl ?_;refine cy (by first|assumption|rfl) rfl oI ?_))
    |refine gO rfl rfl ?_))
  |((with_reducible refine az ?_);first
   |with_reducible refine Tr.seq ?_
   |with_reducible refine Tr.Ax ?_
   |refine Tr.rm (by kernel_rfl) ?_
   |with_reducible refine Tr.skip ?_
   |with_reducible refine Tr.block ?_
   |with_reducible refine Tr.ret ?_
   |with_reducible refine Tr.exit ?_
   |refine Tr.ct rfl ?_
   |refine Tr.cf rfl ?_)
  |((with_reducible refine fId ?_);first
   |with_reducible refine Fin.AF ?_
   |with_reducible refine Fin.AK ?_
   |with_reducible refine Fin.AG ?_
   |with_reducible refine Fin.AP ?_
   |refine Fin.Gv rfl ?_
   |with_reducible refine Fin.block ?_
   |refine Fin.DI rfl (Ba.Cz _ _) rfl ?_)
 first|with_reducible refine Fin.go ?_|with_reducible refine cId ?_|with_reducible refine dW ?_|with_reducible refine az ?_|refine Fin.go ?_|skip
 exact k.k):H:=h ⟨k⟩
theorem ao {G H:Prop} (k:G) (h:WS G→H:=by
 intro k
 repeat1' first
  |((with_reducible refine dW ?_);first
   |with_reducible refine TO.nil ?_
   |(refine tG 1 rfl ?_;first
     |(refine tK 1 rfl ?_;refine tm rfl ?_)
     |(refine tK 2 rfl ?_;refine tp rfl oF ?_)
     |(refine tK 3 rfl ?_;refine tp rfl oL ?_)
     |(refine tK 4 rfl ?_;refine tp rfl oB ?_))
   |(refine tG 2 rfl ?_;first
     |(refine tK 5 rfl ?_;refine tp rfl oP ?_)
     |(refine tK 6 rfl ?_;refine tp rfl oN ?_)
     |(refine tK 7 rfl ?_;refine tp rfl oA ?_)
     |(refine tK 8 rfl ?_;refine tp rfl oS ?_))
   |(refine tG 3 rfl ?_;first
     |(refine tK 9 rfl ?_;refine tp rfl oC ?_)
     |(refine tK 10 rfl ?_;refine tp rfl oU ?_)
     |(refine tK 12 rfl ?_;refine tp rfl oE ?_)
     |(refine tK 13 rfl ?_;refine tp rfl oM ?_)
     |(refine tK 14 rfl ?_;refine tp rfl oD ?_)
     |(refine tK 15 rfl ?_;refine tp rfl oI ?_)))
  |((with_reducible refine az ?_);first
   |with_reducible refine Tr.seq ?_
   |with_reducible refine Tr.CA ?_
   |with_reducible refine Tr.skip ?_
   |with_reducible refine Tr.block ?_
   |with_reducible refine Tr.ret ?_
   |with_reducible refine Tr.exit ?_)
  |((with_reducible refine fId ?_);first
   |with_reducible refine Fin.AF ?_
   |with_reducible refine Fin.AK ?_
   |with_reducible refine Fin.AG ?_
   |with_reducible refine Fin.AP ?_
   |refine Fin.Gv rfl ?_
   |with_reducible refine Fin.block ?_)
 first|with_reducible refine Fin.go ?_|with_reducible refine cId ?_|with_reducible refine dW ?_|with_reducible refine az ?_|refine Fin.go ?_|skip
 exact k.k):H:=h ⟨k⟩
theorem ap {G H:Prop} (k:G) (h:WS G→H:=by
 intro k
 repeat1' first
  |((with_reducible refine dW ?_);first
   |with_reducible refine TO.nil ?_
   |(refine tG 1 rfl ?_;first
     |(refine tK 1 rfl ?_;refine tm rfl ?_)
     |(refine tK 2 rfl ?_;refine tp rfl oF ?_)
     |(refine tK 3 rfl ?_;refine tp rfl oL ?_)
     |(refine tK 4 rfl ?_;refine tp rfl oB ?_))
   |(refine tG 2 rfl ?_;first
     |(refine tK 5 rfl ?_;refine tp rfl oP ?_)
     |(refine tK 6 rfl ?_;refine tp rfl oN ?_)
     |(refine tK 7 rfl ?_;refine tp rfl oA ?_)
     |(refine tK 8 rfl ?_;refine tp rfl oS ?_))
   |(refine tG 3 rfl ?_;first
     |(refine tK 9 rfl ?_;refine tp rfl oC ?_)
     |(refine tK 10 rfl ?_;refine tp rfl oU ?_)
     |(refine tK 12 rfl ?_;refine tp rfl oE ?_)
     |(refine tK 13 rfl ?_;refine tp rfl oM ?_)
     |(refine tK 14 rfl ?_;refine tp rfl oD ?_)
     |(refine tK 15 rfl ?_;refine tp rfl oI ?_))
   |(refine tK 16 rfl ?_;first
    |refine sa 0 ⟨rfl,rfl,rfl⟩ rfl rfl rfl ?_
    |refine TO.CY 0 rfl rfl (Og rfl rfl rfl rfl) ?_
    |refine sa 1 ⟨rfl,rfl,rfl⟩ rfl rfl rfl ?_
    |refine TO.CY 1 rfl rfl (Og rfl rfl rfl rfl) ?_
    |refine sa 2 ⟨rfl,rfl,rfl⟩ rfl rfl rfl ?_
    |refine TO.CY 2 rfl rfl (Og rfl rfl rfl rfl) ?_
    |refine sa 3 ⟨rfl,rfl,rfl⟩ rfl rfl rfl ?_
    |refine TO.CY 3 rfl rfl (Og rfl rfl rfl rfl) ?_))
  |((with_reducible refine az ?_);first
   |with_reducible refine Tr.seq ?_
   |with_reducible refine Tr.CA ?_
   |with_reducible refine Tr.skip ?_
   |with_reducible refine Tr.block ?_
   |with_reducible refine Tr.ret ?_
   |with_reducible refine Tr.exit ?_)
  |((with_reducible refine fId ?_);first
   |with_reducible refine Fin.AF ?_
   |with_reducible refine Fin.AK ?_
   |with_reducible refine Fin.AG ?_
   |with_reducible refine Fin.AP ?_
   |refine Fin.Gv rfl ?_
   |with_reducible refine Fin.block ?_)
 first|with_reducible refine Fin.go ?_|with_reducible refine cId ?_|with_reducible refine dW ?_|with_reducible refine az ?_|refine Fin.go ?_|skip
 exact k.k):H:=h ⟨k⟩
theorem ay {G H:Prop} (k:G) (h:WS G→H:=by
 intro k
 repeat ((with_reducible refine nB ?_);first
   |(refine xG 1 rfl ?_;first
     |(refine xK 1 rfl ?_;refine xm rfl ?_)
     |(refine xK 2 rfl ?_;refine xo rfl (fun _=>oF) ?_)
     |(refine xK 3 rfl ?_;refine xo rfl (fun _=>oL) ?_)
     |(refine xK 4 rfl ?_;refine xo rfl (fun _=>oB) ?_))
   |(refine xG 2 rfl ?_;first
     |(refine xK 5 rfl ?_;refine xo rfl (fun _=>oP) ?_)
     |(refine xK 6 rfl ?_;refine xo rfl (fun _=>oN) ?_)
     |(refine xK 7 rfl ?_;refine xo rfl (fun _=>oA) ?_)
     |(refine xK 8 rfl ?_;refine xo rfl (fun _=>oS) ?_))
   |(refine xG 3 rfl ?_;first
     |(refine xK 9 rfl ?_;refine xo rfl (fun _=>oC) ?_)
     |(refine xK 10 rfl ?_;refine xo rfl (fun _=>oU) ?_)
     |(refine xK 11 rfl ?_;refine xo rfl (fun _=>oO) ?_)
     |(refine xK 12 rfl ?_;refine xo rfl (fun _=>oE) ?_)
     |(refine xK 13 rfl ?_;refine xo rfl (fun _=>oM) ?_)
     |(refine xK 14 rfl ?_;refine xo rfl (fun _=>oD) ?_))
   |(refine xK 3 rfl ?_;first
    |refine C0 0 rfl rfl (MA rfl rfl rfl) ?_
    |refine C0 0 rfl rfl (MB rfl rfl rfl rfl) ?_
    |refine C0 1 rfl rfl (MA rfl rfl rfl) ?_
    |refine C0 1 rfl rfl (MB rfl rfl rfl rfl) ?_
    |refine C0 2 rfl rfl (MA rfl rfl rfl) ?_
    |refine C0 2 rfl rfl (MB rfl rfl rfl rfl) ?_
    |refine C0 3 rfl rfl (MA rfl rfl rfl) ?_
    |refine C0 3 rfl rfl (MB rfl rfl rfl rfl) ?_
    |refine C0 4 rfl rfl (MA rfl rfl rfl) ?_
    |refine C0 4 rfl rfl (MB rfl rfl rfl rfl) ?_)
   |(refine xK 16 rfl ?_;first
    |refine Cx.CY 0 rfl rfl (Og rfl rfl rfl rfl) ?_
    |refine Cx.CY 1 rfl rfl (Og rfl rfl rfl rfl) ?_
    |refine Cx.CY 2 rfl rfl (Og rfl rfl rfl rfl) ?_
    |refine Cx.CY 3 rfl rfl (Og rfl rfl rfl rfl) ?_))
 exact k.k):H:=h ⟨k⟩
theorem Ch.cg {l:List Oper} {b v:Bool} {g j:Nat} {pt pf:Prop} [ht:EC b true pt] [hf:EC b false pf] (_:o.guard=some (j,v)) (_:(ops[j]?.bind (·.dst))=some g) (hb:E.lookup g=some (bool b)) (k:b=true→pt→Ch P n I ops (o::l) E K) (k':b=false→pf→Ch P n I ops (o::l) E K):Ch P n I ops (o::l) E K:=Ch.cases g hb (fun h=>k h (ht.FW h)) (fun h=>k' h (hf.FW h))
theorem a2 {G H:Prop} (k:G) (h:WS G→H:=by
 intro k
 iterate 2 refine ac ?_
 exact k.k):H:=h ⟨k⟩
theorem a3 {G H:Prop} (k:G) (h:WS G→H:=by
 intro k
 iterate 3 refine ac ?_
 exact k.k):H:=h ⟨k⟩
theorem an {G L H:Prop} (k:G) (l:L) (h:WS G→WS L→H:=by
 intro k l
 refine ac ?_
 refine Tr.cn rfl ?_ ?_
 exact k.k
 exact l.k):H:=h ⟨k⟩ ⟨l⟩
theorem ag {G L H:Prop} (k:G) (l:L) (h:WS G→WS L→H:=by
 intro k l
 refine ac ?_
 refine Ch.cg rfl rfl rfl ?_ ?_
 exact k.k
 exact l.k):H:=h ⟨k⟩ ⟨l⟩
theorem Lr {p:Pr}:Pr.le p p:=Pr.le_refl p
theorem Vo {p:Pr} [One p] (h:Ce E x=some p):VL E x (DY [p]):=VL.le (vl h) (AO p)
theorem Va {ps:List Pr} (h:Ce E x=some (agg ps)):VL E x (DY ps):=VL.le (vl h) (DC ps)
theorem Nb {a b:Nat} (h:Nat.ble a b=true):a≤b:=Nat.le_of_ble_eq_true h
theorem Kf {z:Nat} {l:List (List Pr)} (h:Ce E x=some (full z l)):VL E x (slice z l):=⟨_,h,Bh z l⟩
theorem Ka {v:Value} (h:Ce E x=some (BB v p)):VL E x (is v):=⟨_,h,ET v p⟩
theorem Kb {v:Value} (h:Ce E x=some (BB v p)):VL E x p:=⟨_,h,BL v p⟩
theorem Tl {M0:Av} {w0:World} {S:Nat→Prop} {rs:List A0} {T:TypeId} {zs:List Value} (hg:o.guard=none) (hd:o.dst=some d) (hn:Nat.blt d n=true) (ho:o.op= .alloc T) (hz:Br P T=some zs) (h1':zs.all (·.oneCell')=true)
  (k:∀b,TO P n ops r ((d,is (.pointer (some ⟨b,0,none⟩)))::E) (Hp M0 w0 S (AD true b T (zs.map is)::rs)) Q):TO P n ops (o::r) E (Hp M0 w0 S rs) Q:=TO.alloc hg hd (Fi hn) ho hz h1' k
theorem Oh {M0:Av} {w0:World} {S:Nat→Prop} {t e:TypeId} {sz bytes:Nat} {zs:List Value} {rows Af:List (List Pr)} {R:SR} (hg:o.guard=none) (hd:o.dst=some d) (hn:Nat.blt d n=true) (ho:o.op= .call { callee:= .builtin .append,args:= #[x,y],argTypes:= #[t,t] })
  (ht:P.underlying t=some (.slice e)) (hz:BJ P e=some sz) (hby:CH P e=some bytes) (DU:Br P e=some zs) (hx:VL E x (slice sz rows)) (hy:VL E y (slice sz Af))
  (hR:∀M w (a:Act),CT M w E o a→R.at_ a=BX e sz (a.eval x)∨(R.at_ a=Bz∧Cl (a.eval x)=none)) (hzl:zs.length=sz:=by rfl) (hsz:Nat.blt 0 sz=true:=by rfl)
  (Dw:rows.length+Af.length≤maxLen:=by simp only [List.length_map,List.length_append,List.length_cons,List.length_nil,List.length_replicate,List.length_take,List.length_drop];unfold maxLen;omega) (hfit:(rows.length+Af.length)*bytes≤140737488355328:=by simp only [List.length_map,List.length_append,List.length_cons,List.length_nil,List.length_replicate,List.length_take,List.length_drop];omega):Du P M0 w0 S n j R ⟨d,BX e sz⟩ o E (slice sz (rows++Af)):=An hg hd (Fi hn) ho ht hz hby DU hzl (Fi hsz) hx hy Dw hfit hR
end
end Cp
namespace Go.Proofs.YtgilhkjlfongoaaGreat
open Go Cp
instance gm:TM Tryz.prog:=⟨mixed⟩
instance nC:TV Tryz.prog 3 [.int .i64 0]:=⟨z3,gU⟩
instance ji:T1 Tryz.prog 3:=⟨Au⟩
instance ld:TZ Tryz.prog 3 1:=⟨A4⟩
instance jj:T1 Tryz.prog 4:=⟨i6⟩
instance jk:T1 Tryz.prog 5:=⟨i7⟩
instance nD:TV Tryz.prog 9 [.string (ByteArray.mk #[])]:=⟨z9,mg⟩
instance jl:T1 Tryz.prog 9:=⟨Fk⟩
instance lf:TZ Tryz.prog 9 1:=⟨HV⟩
instance WU:TU Tryz.prog 9 .string:=⟨Tryz.underlying9⟩
instance gp:T1 Tryz.prog 22:=⟨MP⟩
instance jm:TZ Tryz.prog 22 1:=⟨T2⟩
instance UM:TU Tryz.prog 22 (.slice 3):=⟨Tryz.underlying22⟩
instance jo:TB Tryz.prog 24 (fun i=>(#[(0,1),(1,1)]:Array (Nat×Nat))[i]?) (List.replicate 2 (.int .i64 0)):=⟨cL,ZI⟩
instance lg:TV Tryz.prog 24 (List.replicate 2 (.int .i64 0)):=⟨z24,ZI⟩
instance gq:TA Tryz.prog 24:=⟨E5⟩
instance jq:TZ Tryz.prog 24 2:=⟨Fl⟩
instance dX:TF Tryz.prog 24 0 0:=⟨ZJ⟩
instance dY:TF Tryz.prog 24 1 1:=⟨ZK⟩
instance jr:TB Tryz.prog 26 (fun i=>(#[(0,1),(1,1),(2,1),(3,1),(4,1),(5,1),(6,1),(7,2),(9,1),(10,1)]:Array (Nat×Nat))[i]?) [.int .i64 0,.string (ByteArray.mk #[]),.int .i64 0,.int .i64 0,.int .i64 0,.int .i64 0,.string (ByteArray.mk #[]),.int .i64 0,.int .i64 0,.int .i64 0,.string (ByteArray.mk #[])]:=⟨cM,JG⟩
instance gr:TA Tryz.prog 26:=⟨BE⟩
instance jt:TZ Tryz.prog 26 11:=⟨AY⟩
instance dZ:TF Tryz.prog 26 0 0:=⟨ZL⟩
instance dc:TF Tryz.prog 26 1 1:=⟨T3⟩
instance dg:TF Tryz.prog 26 2 2:=⟨P_⟩
instance dh:TF Tryz.prog 26 3 3:=⟨NU⟩
instance dj:TF Tryz.prog 26 4 4:=⟨ZM⟩
instance dm:TF Tryz.prog 26 5 5:=⟨Hu⟩
instance dn:TF Tryz.prog 26 6 6:=⟨ZN⟩
instance dw:TF Tryz.prog 26 7 7:=⟨Hv⟩
instance dx:TF Tryz.prog 26 8 9:=⟨Hw⟩
instance dy:TF Tryz.prog 26 9 10:=⟨ZO⟩
instance gu:T1 Tryz.prog 31:=⟨IP⟩
instance UN:TU Tryz.prog 31 (.slice 26):=⟨Tryz.underlying31⟩
instance UO:TU Tryz.prog 53 (.slice 9):=⟨Tryz.underlying53⟩
instance gv:TA Tryz.prog 55:=⟨Gj⟩
instance ju:TZ Tryz.prog 55 4:=⟨GR⟩
instance dz:TF Tryz.prog 55 0 0:=⟨ZQ⟩
instance d_:TF Tryz.prog 55 3 3:=⟨Gz⟩
instance gw:T1 Tryz.prog 63:=⟨cQ⟩
instance UP:TU Tryz.prog 63 (.slice 110):=⟨Tryz.underlying63⟩
instance UQ:TU Tryz.prog 66 (.slice 121):=⟨Tryz.underlying66⟩
instance UR:TU Tryz.prog 76 (.slice 24):=⟨Tryz.underlying76⟩
instance jv:TB Tryz.prog 80 (fun i=>(#[(0,1),(1,1)]:Array (Nat×Nat))[i]?) [.slice none 0 0,.int .i64 0]:=⟨jA,jB⟩
instance eA:TF Tryz.prog 80 0 0:=⟨ZR⟩
instance eB:TF Tryz.prog 80 1 1:=⟨ZS⟩
instance gy:TB Tryz.prog 107 (fun i=>(#[(0,1),(1,1),(2,1),(3,1),(4,2)]:Array (Nat×Nat))[i]?) [.string (ByteArray.mk #[]),.string (ByteArray.mk #[]),.int .i64 0,.int .i64 0,.int .i64 0,.int .i64 0]:=⟨cR,T6⟩
instance eC:TA Tryz.prog 107:=⟨Hx⟩
instance gz:TZ Tryz.prog 107 6:=⟨Kv⟩
instance a_:TF Tryz.prog 107 1 1:=⟨Wq⟩
instance bA:TF Tryz.prog 107 2 2:=⟨Wr⟩
instance bB:TF Tryz.prog 107 3 3:=⟨Ws⟩
instance bC:TF Tryz.prog 107 4 4:=⟨Wt⟩
instance g_:TB Tryz.prog 110 (fun i=>(#[(0,1),(1,1),(2,1),(3,2),(5,1),(6,1),(7,1)]:Array (Nat×Nat))[i]?) [.int .i64 0,.string (ByteArray.mk #[]),.int .i64 0,.int .i64 0,.int .i64 0,.int .i64 0,.string (ByteArray.mk #[]),.int .i64 0]:=⟨cT,Kw⟩
instance jw:TV Tryz.prog 110 [.int .i64 0,.string (ByteArray.mk #[]),.int .i64 0,.int .i64 0,.int .i64 0,.int .i64 0,.string (ByteArray.mk #[]),.int .i64 0]:=⟨FN,Kw⟩
instance eD:TA Tryz.prog 110:=⟨Aw⟩
instance hG:TZ Tryz.prog 110 8:=⟨AH⟩
instance bD:TF Tryz.prog 110 1 1:=⟨Wu⟩
instance bE:TF Tryz.prog 110 2 2:=⟨Wv⟩
instance bF:TF Tryz.prog 110 3 3:=⟨Ww⟩
instance bG:TF Tryz.prog 110 4 5:=⟨Wx⟩
instance bH:TF Tryz.prog 110 5 6:=⟨Wy⟩
instance bI:TF Tryz.prog 110 6 7:=⟨Wz⟩
instance hO:TB Tryz.prog 121 (fun i=>(#[(0,1),(1,1)]:Array (Nat×Nat))[i]?) (List.replicate 2 (.int .i64 0)):=⟨Ya,T8⟩
instance jx:TV Tryz.prog 121 (List.replicate 2 (.int .i64 0)):=⟨W0,T8⟩
instance eE:TA Tryz.prog 121:=⟨T7⟩
instance hY:TZ Tryz.prog 121 2:=⟨Kx⟩
instance eF:T1 Tryz.prog 143:=⟨ZT⟩
instance eG:T1 Tryz.prog 144:=⟨ZU⟩
instance eH:T1 Tryz.prog 146:=⟨ZV⟩
instance TX:TU Tryz.prog 175 (.slice 5):=⟨Tryz.underlying175⟩
instance eI:T1 Tryz.prog 189:=⟨ZW⟩
instance h_:TZ Tryz.prog 189 1:=⟨cU⟩
instance iA:TB Tryz.prog 196 (fun i=>(#[(0,1),(1,1),(2,1),(3,1),(4,1)]:Array (Nat×Nat))[i]?) [.string (ByteArray.mk #[]),.int .i64 0,.int .i64 0,.slice none 0 0,.slice none 0 0]:=⟨C_,Cm⟩
instance iB:TZ Tryz.prog 196 5:=⟨MQ⟩
instance bJ:TF Tryz.prog 196 1 1:=⟨W4⟩
instance bK:TF Tryz.prog 196 2 2:=⟨W6⟩
instance bL:TF Tryz.prog 196 3 3:=⟨W7⟩
instance bM:TF Tryz.prog 196 4 4:=⟨W8⟩
instance iC:TB Tryz.prog 201 (fun i=>(#[(0,1),(1,1)]:Array (Nat×Nat))[i]?) [.string (ByteArray.mk #[]),.int .i64 0]:=⟨cW,Ye⟩
instance jy:TV Tryz.prog 201 [.string (ByteArray.mk #[]),.int .i64 0]:=⟨z201,Ye⟩
instance iD:TZ Tryz.prog 201 2:=⟨Yd⟩
instance bN:TF Tryz.prog 201 1 1:=⟨W9⟩
instance TY:TU Tryz.prog 202 (.slice 201):=⟨Tryz.underlying202⟩
instance iE:TB Tryz.prog 217 (fun i=>some (i*5,5)) [.string (ByteArray.mk #[]),.int .i64 0,.int .i64 0,.slice none 0 0,.slice none 0 0,.string (ByteArray.mk #[]),.int .i64 0,.int .i64 0,.slice none 0 0,.slice none 0 0,.string (ByteArray.mk #[]),.int .i64 0,.int .i64 0,.slice none 0 0,.slice none 0 0,.string (ByteArray.mk #[]),.int .i64 0,.int .i64 0,.slice none 0 0,.slice none 0 0,.string (ByteArray.mk #[]),.int .i64 0,.int .i64 0,.slice none 0 0,.slice none 0 0,.string (ByteArray.mk #[]),.int .i64 0,.int .i64 0,.slice none 0 0,.slice none 0 0,.string (ByteArray.mk #[]),.int .i64 0,.int .i64 0,.slice none 0 0,.slice none 0 0,.string (ByteArray.mk #[]),.int .i64 0,.int .i64 0,.slice none 0 0,.slice none 0 0,.string (ByteArray.mk #[]),.int .i64 0,.int .i64 0,.slice none 0 0,.slice none 0 0,.string (ByteArray.mk #[]),.int .i64 0,.int .i64 0,.slice none 0 0,.slice none 0 0,.string (ByteArray.mk #[]),.int .i64 0,.int .i64 0,.slice none 0 0,.slice none 0 0,.string (ByteArray.mk #[]),.int .i64 0,.int .i64 0,.slice none 0 0,.slice none 0 0,.string (ByteArray.mk #[]),.int .i64 0,.int .i64 0,.slice none 0 0,.slice none 0 0,.string (ByteArray.mk #[]),.int .i64 0,.int .i64 0,.slice none 0 0,.slice none 0 0,.string (ByteArray.mk #[]),.int .i64 0,.int .i64 0,.slice none 0 0,.slice none 0 0,.string (ByteArray.mk #[]),.int .i64 0,.int .i64 0,.slice none 0 0,.slice none 0 0,.string (ByteArray.mk #[]),.int .i64 0,.int .i64 0,.slice none 0 0,.slice none 0 0,.string (ByteArray.mk #[]),.int .i64 0,.int .i64 0,.slice none 0 0,.slice none 0 0,.string (ByteArray.mk #[]),.int .i64 0,.int .i64 0,.slice none 0 0,.slice none 0 0,.string (ByteArray.mk #[]),.int .i64 0,.int .i64 0,.slice none 0 0,.slice none 0 0,.string (ByteArray.mk #[]),.int .i64 0,.int .i64 0,.slice none 0 0,.slice none 0 0,.string (ByteArray.mk #[]),.int .i64 0,.int .i64 0,.slice none 0 0,.slice none 0 0,.string (ByteArray.mk #[]),.int .i64 0,.int .i64 0,.slice none 0 0,.slice none 0 0]:=⟨cX,Yg⟩
instance iF:TZ Tryz.prog 217 115:=⟨Yf⟩
instance iG:TB Tryz.prog 223 (fun i=>some (i*1,1)) (List.replicate 2 (.int .i64 0)):=⟨cY,Yi⟩
instance iH:TZ Tryz.prog 223 2:=⟨Yh⟩
instance iI:TB Tryz.prog 224 (fun i=>some (i*2,2)) (List.replicate 10 (.int .i64 0)):=⟨cZ,cj⟩
end Go.Proofs.YtgilhkjlfongoaaGreat
namespace Go.Proofs.YtgilhkjlfongoaaGreat
open Go Go.RowKit Cp Go.Proofs.Tryz
abbrev ints (l:List Int):Pr:=slice 1 (l.map fun n=>[int n])
def idx {β:Type} (p:β→Bool) (l:List β):Int:=match l.findIdx? p with|some i=>i|none=> -1
theorem HN {β:Type} {p:β→Bool} {l:List β} {k:Nat} {x:β} (hx:l[k]? =some x) (hp:p x=true) (h:∀j y,j<k→l[j]? =some y→p y=false):(k:Int)=idx p l:=by
 have:l.findIdx? p=some k:=by
  rw [List.findIdx?_eq_some_iff_getElem]
  have hk:k<l.length:=by rcases Nat.lt_or_ge k l.length with h|h;exact h;rw [List.getElem?_eq_none h] at hx;cases hx
  rw [List.getElem?_eq_getElem hk] at hx
  simp only [Option.some.injEq] at hx
  refine ⟨hk,by rw [hx];exact hp,fun j hj=> ?_⟩
  simpa using h j _ hj (List.getElem?_eq_getElem (by omega))
 unfold idx;rw [this]
theorem Ie {β:Type} {p:β→Bool} {l:List β} (h:∀j y,j<l.length→l[j]? =some y→p y=false):(-1:Int)=idx p l:=by
 have:l.findIdx? p=none:=by
  rw [List.findIdx?_eq_none_iff]
  intro x hx
  obtain ⟨j,hj,rfl⟩:=List.mem_iff_getElem.1 hx
  exact h j _ hj (List.getElem?_eq_getElem hj)
 unfold idx;rw [this]
theorem RV {β:Type} (p:β→Bool) (l:List β):decide (idx p l≥0)=l.any p:=by
 unfold idx
 cases h:l.findIdx? p with
 |none=>rw [List.findIdx?_eq_none_iff] at h;simp;intro x hx;simpa using h x hx
 |some i=>
  rw [List.findIdx?_eq_some_iff_getElem] at h
  obtain ⟨h1,h2,_⟩:=h
  simp
  exact ⟨_,List.getElem_mem h1,h2⟩
theorem Fa {β:Type} {p:β→Bool} {l:List β} {k:Nat} {x:β} (hx:l[k]? =some x) (hp:p x=false) (h:∀j y,j<k→l[j]? =some y→p y=false):∀j y,j<k+1→l[j]? =some y→p y=false:=by
 intro j y hj hy
 by_cases hjk:j=k
 · subst hjk;rw [hx] at hy;cases hy;exact hp
 · exact h j y (by omega) hy
theorem Oi {l:List Int} {v:Int}  :BT prog 109 [ints l,int v] (int (idx (fun x=>v==x) l)):=by
 refine fo func109 rfl ⟨rfl,rfl⟩ fun M0 w0=>(Tr.D9 0 rfl fun Dg=> ?_)
 refine a2 ?_
 refine Tr.block (Tr.BU [(0,_),(1,_),(7,_)] (OK rfl) (fun k:Nat=>[(8,int ((k:Nat):Int))]) (fun k:Nat=>k≤(l).length∧(∀j y,j<k→l[j]? =some y→(v==y)=false)) (fun k:Nat=>(l).length-k) 0 (⟨Nat.zero_le _,fun j y hj=>absurd hj (by omega)⟩) ⟨ke rfl,trivial⟩ ?_)
 rintro k ⟨Cb,Ap⟩
 refine ac ?_
 refine Tr.seq ?_
 refine Tr.cn rfl ?_ ?_<;>intro h1 q1
 have Az:k<(l).length:=Ak h1
 obtain ⟨x,A7⟩:=at_ Az
 · repeat' first|exact int_eq (HN (p:=fun x=>v==x) A7 (by assumption) Ap)|exact Fin.AE (k+1) ⟨⟨Az,Fa (p:=fun x=>v==x) A7 (by assumption) Ap⟩,by omega⟩ ⟨⟨_,rfl,AJ k⟩,ke rfl,ke rfl,ke rfl,trivial⟩|refine co rfl (AB rfl underlying22 A4 (vl rfl) (vl rfl) (by omega) (by exact Am (by assumption))) ?_|refine ac ?_|(refine Tr.cn rfl ?_ ?_<;>intro h q)
 have B2:k=(l).length:=by have:=Ao h1;omega
 subst B2
 refine a3 ?_
 · exact int_eq (Ie Ap)
theorem Oj {l:List Int} {v:Int}  :BT prog 66 [ints l,int v] (bool (l.any fun x=>v==x)):=by
 refine fo func66 rfl ⟨rfl,rfl⟩ fun M0 w0=> ?_
 refine a2 ?_
 refine co rfl (EE (Oi) rfl rfl rfl) ?_
 refine a2 ?_
 · exact bool_eq (RV _ l)
theorem Ol {d:Nat} {w:World} {x0 y0:Int} {x1 y1:Int}:(Op.equalIn (d+2) 24 (.agg #[.int .i64 x0,.int .i64 x1]) (.agg #[.int .i64 y0,.int .i64 y1])).run Tryz.prog w= .ok (decide (x0=y0∧x1=y1)) w:=by
 have h:=cv (w:=w) (d:=d+1) (xs:= #[.int .i64 x0,.int .i64 x1]) (ys:= #[.int .i64 y0,.int .i64 y1]) Tryz.underlying24 (by kernel_rfl) (Be (by decide) (Ag Au rfl) (Ag Au rfl) (Ck (d:=d+0) Tryz.underlying3) (Be (by decide) (Ag Au rfl) (Ag Au rfl) (Ck (d:=d+0) Tryz.underlying3) (IW)))
 refine h.trans (congrArg (fun b=>Result.ok b w) ?_)
 rw [Bool.eq_iff_iff];simp [and_assoc]
theorem Ng {E:Env} {I:CL} {o:Oper} {u:TypeId} {x y:Operand} {x0 y0:Int} {x1 y1:Int} (ho:o.op= .binOp .eql 24 x y u) (hx:VL E x (agg [is (.int .i64 x0),is (.int .i64 x1)])) (hy:VL E y (agg [is (.int .i64 y0),is (.int .i64 y1)])):Ab Tryz.prog I o E (bool (decide (x0=y0∧x1=y1))):=
 IU [.int .i64 x0,.int .i64 x1] [.int .i64 y0,.int .i64 y1] ho hx hy (by kernel_rfl) (fun w=>by rw [show Op.equal 24 _ _=Op.equalIn (9998+2) 24 _ _ from rfl];exact Ol)
theorem GV {E:Env} {I:CL} {o:Oper} {u:TypeId} {x y:Operand} {x0 y0:Int} {x1 y1:Int} (ho:o.op= .binOp .neq 24 x y u) (hx:VL E x (agg [is (.int .i64 x0),is (.int .i64 x1)])) (hy:VL E y (agg [is (.int .i64 y0),is (.int .i64 y1)])):Ab Tryz.prog I o E (bool (!decide (x0=y0∧x1=y1))):=
 IV [.int .i64 x0,.int .i64 x1] [.int .i64 y0,.int .i64 y1] ho hx hy (by kernel_rfl) (fun w=>by rw [show Op.equal 24 _ _=Op.equalIn (9998+2) 24 _ _ from rfl];exact Ol)
theorem US {d:Nat} {w:World} {x0 y0:Int} {x1 y1:List UInt8} {x2 y2:Int} {x3 y3:Int} {x4 y4:Int} {x5 y5:Int} {x6 y6:List UInt8} {x7 y7:Int}:(Op.equalIn (d+3) 110 (.agg #[.int .i64 x0,.string ⟨x1.toArray⟩,.int .i64 x2,.int .i64 x3,.int .i64 x4,.int .i64 x5,.string ⟨x6.toArray⟩,.int .i64 x7]) (.agg #[.int .i64 y0,.string ⟨y1.toArray⟩,.int .i64 y2,.int .i64 y3,.int .i64 y4,.int .i64 y5,.string ⟨y6.toArray⟩,.int .i64 y7])).run Tryz.prog w= .ok (decide (x0=y0∧x1=y1∧x2=y2∧x3=y3∧x4=y4∧x5=y5∧x6=y6∧x7=y7)) w:=by
 have h:=cv (w:=w) (d:=d+2) (xs:= #[.int .i64 x0,.string ⟨x1.toArray⟩,.int .i64 x2,.int .i64 x3,.int .i64 x4,.int .i64 x5,.string ⟨x6.toArray⟩,.int .i64 x7]) (ys:= #[.int .i64 y0,.string ⟨y1.toArray⟩,.int .i64 y2,.int .i64 y3,.int .i64 y4,.int .i64 y5,.string ⟨y6.toArray⟩,.int .i64 y7]) Tryz.underlying110 (by kernel_rfl) (Be (by decide) (Ag Au rfl) (Ag Au rfl) (Ck (d:=d+1) Tryz.underlying3) (Be (by decide) (Ag Fk rfl) (Ag Fk rfl) (GU (d:=d+1) Tryz.underlying9) (Be (by decide) (Ag Au rfl) (Ag Au rfl) (Ck (d:=d+1) Tryz.underlying3) (Be (by decide) (E7 E5 Fl rfl) (E7 E5 Fl rfl) (Ol (d:=d+0) (w:=w)) (Be (by decide) (Ag Au rfl) (Ag Au rfl) (Ck (d:=d+1) Tryz.underlying3) (Be (by decide) (Ag Fk rfl) (Ag Fk rfl) (GU (d:=d+1) Tryz.underlying9) (Be (by decide) (Ag Au rfl) (Ag Au rfl) (Ck (d:=d+1) Tryz.underlying3) (IW))))))))
 refine h.trans (congrArg (fun b=>Result.ok b w) ?_)
 rw [Bool.eq_iff_iff];simp [and_assoc]
theorem Om {E:Env} {I:CL} {o:Oper} {u:TypeId} {x y:Operand} {x0 y0:Int} {x1 y1:List UInt8} {x2 y2:Int} {x3 y3:Int} {x4 y4:Int} {x5 y5:Int} {x6 y6:List UInt8} {x7 y7:Int} (ho:o.op= .binOp .eql 110 x y u) (hx:VL E x (agg [is (.int .i64 x0),str x1,is (.int .i64 x2),is (.int .i64 x3),is (.int .i64 x4),is (.int .i64 x5),str x6,is (.int .i64 x7)])) (hy:VL E y (agg [is (.int .i64 y0),str y1,is (.int .i64 y2),is (.int .i64 y3),is (.int .i64 y4),is (.int .i64 y5),str y6,is (.int .i64 y7)])):Ab Tryz.prog I o E (bool (decide (x0=y0∧x1=y1∧x2=y2∧x3=y3∧x4=y4∧x5=y5∧x6=y6∧x7=y7))):=
 IU [.int .i64 x0,.string ⟨x1.toArray⟩,.int .i64 x2,.int .i64 x3,.int .i64 x4,.int .i64 x5,.string ⟨x6.toArray⟩,.int .i64 x7] [.int .i64 y0,.string ⟨y1.toArray⟩,.int .i64 y2,.int .i64 y3,.int .i64 y4,.int .i64 y5,.string ⟨y6.toArray⟩,.int .i64 y7] ho hx hy (by kernel_rfl) (fun w=>by rw [show Op.equal 110 _ _=Op.equalIn (9997+3) 110 _ _ from rfl];exact US)
theorem UT {E:Env} {I:CL} {o:Oper} {u:TypeId} {x y:Operand} {x0 y0:Int} {x1 y1:List UInt8} {x2 y2:Int} {x3 y3:Int} {x4 y4:Int} {x5 y5:Int} {x6 y6:List UInt8} {x7 y7:Int} (ho:o.op= .binOp .neq 110 x y u) (hx:VL E x (agg [is (.int .i64 x0),str x1,is (.int .i64 x2),is (.int .i64 x3),is (.int .i64 x4),is (.int .i64 x5),str x6,is (.int .i64 x7)])) (hy:VL E y (agg [is (.int .i64 y0),str y1,is (.int .i64 y2),is (.int .i64 y3),is (.int .i64 y4),is (.int .i64 y5),str y6,is (.int .i64 y7)])):Ab Tryz.prog I o E (bool (!decide (x0=y0∧x1=y1∧x2=y2∧x3=y3∧x4=y4∧x5=y5∧x6=y6∧x7=y7))):=
 IV [.int .i64 x0,.string ⟨x1.toArray⟩,.int .i64 x2,.int .i64 x3,.int .i64 x4,.int .i64 x5,.string ⟨x6.toArray⟩,.int .i64 x7] [.int .i64 y0,.string ⟨y1.toArray⟩,.int .i64 y2,.int .i64 y3,.int .i64 y4,.int .i64 y5,.string ⟨y6.toArray⟩,.int .i64 y7] ho hx hy (by kernel_rfl) (fun w=>by rw [show Op.equal 110 _ _=Op.equalIn (9997+3) 110 _ _ from rfl];exact US)
theorem Yq {d:Nat} {w:World} {x0 y0:Int} {x1 y1:List UInt8} {x2 y2:Int} {x3 y3:Int} {x4 y4:Int} {x5 y5:Int} {x6 y6:List UInt8} {x7 y7:Int} {x8 y8:Int} {x9 y9:Int} {UU UW:List UInt8}:(Op.equalIn (d+3) 26 (.agg #[.int .i64 x0,.string ⟨x1.toArray⟩,.int .i64 x2,.int .i64 x3,.int .i64 x4,.int .i64 x5,.string ⟨x6.toArray⟩,.int .i64 x7,.int .i64 x8,.int .i64 x9,.string ⟨UU.toArray⟩]) (.agg #[.int .i64 y0,.string ⟨y1.toArray⟩,.int .i64 y2,.int .i64 y3,.int .i64 y4,.int .i64 y5,.string ⟨y6.toArray⟩,.int .i64 y7,.int .i64 y8,.int .i64 y9,.string ⟨UW.toArray⟩])).run Tryz.prog w= .ok (decide (x0=y0∧x1=y1∧x2=y2∧x3=y3∧x4=y4∧x5=y5∧x6=y6∧x7=y7∧x8=y8∧x9=y9∧UU=UW)) w:=by
 have h:=cv (w:=w) (d:=d+2) (xs:= #[.int .i64 x0,.string ⟨x1.toArray⟩,.int .i64 x2,.int .i64 x3,.int .i64 x4,.int .i64 x5,.string ⟨x6.toArray⟩,.int .i64 x7,.int .i64 x8,.int .i64 x9,.string ⟨UU.toArray⟩]) (ys:= #[.int .i64 y0,.string ⟨y1.toArray⟩,.int .i64 y2,.int .i64 y3,.int .i64 y4,.int .i64 y5,.string ⟨y6.toArray⟩,.int .i64 y7,.int .i64 y8,.int .i64 y9,.string ⟨UW.toArray⟩]) Tryz.underlying26 (by kernel_rfl) (Be (by decide) (Ag Au rfl) (Ag Au rfl) (Ck (d:=d+1) Tryz.underlying3) (Be (by decide) (Ag Fk rfl) (Ag Fk rfl) (GU (d:=d+1) Tryz.underlying9) (Be (by decide) (Ag Au rfl) (Ag Au rfl) (Ck (d:=d+1) Tryz.underlying3) (Be (by decide) (Ag Au rfl) (Ag Au rfl) (Ck (d:=d+1) Tryz.underlying3) (Be (by decide) (Ag Au rfl) (Ag Au rfl) (Ck (d:=d+1) Tryz.underlying3) (Be (by decide) (Ag Au rfl) (Ag Au rfl) (Ck (d:=d+1) Tryz.underlying3) (Be (by decide) (Ag Fk rfl) (Ag Fk rfl) (GU (d:=d+1) Tryz.underlying9) (Be (by decide) (E7 E5 Fl rfl) (E7 E5 Fl rfl) (Ol (d:=d+0) (w:=w)) (Be (by decide) (Ag Au rfl) (Ag Au rfl) (Ck (d:=d+1) Tryz.underlying3) (Be (by decide) (Ag Fk rfl) (Ag Fk rfl) (GU (d:=d+1) Tryz.underlying9) (IW)))))))))))
 refine h.trans (congrArg (fun b=>Result.ok b w) ?_)
 rw [Bool.eq_iff_iff];simp [and_assoc]
theorem XK {E:Env} {I:CL} {o:Oper} {u:TypeId} {x y:Operand} {x0 y0:Int} {x1 y1:List UInt8} {x2 y2:Int} {x3 y3:Int} {x4 y4:Int} {x5 y5:Int} {x6 y6:List UInt8} {x7 y7:Int} {x8 y8:Int} {x9 y9:Int} {UU UW:List UInt8} (ho:o.op= .binOp .eql 26 x y u) (hx:VL E x (agg [is (.int .i64 x0),str x1,is (.int .i64 x2),is (.int .i64 x3),is (.int .i64 x4),is (.int .i64 x5),str x6,is (.int .i64 x7),is (.int .i64 x8),is (.int .i64 x9),str UU])) (hy:VL E y (agg [is (.int .i64 y0),str y1,is (.int .i64 y2),is (.int .i64 y3),is (.int .i64 y4),is (.int .i64 y5),str y6,is (.int .i64 y7),is (.int .i64 y8),is (.int .i64 y9),str UW])):Ab Tryz.prog I o E (bool (decide (x0=y0∧x1=y1∧x2=y2∧x3=y3∧x4=y4∧x5=y5∧x6=y6∧x7=y7∧x8=y8∧x9=y9∧UU=UW))):=
 IU [.int .i64 x0,.string ⟨x1.toArray⟩,.int .i64 x2,.int .i64 x3,.int .i64 x4,.int .i64 x5,.string ⟨x6.toArray⟩,.int .i64 x7,.int .i64 x8,.int .i64 x9,.string ⟨UU.toArray⟩] [.int .i64 y0,.string ⟨y1.toArray⟩,.int .i64 y2,.int .i64 y3,.int .i64 y4,.int .i64 y5,.string ⟨y6.toArray⟩,.int .i64 y7,.int .i64 y8,.int .i64 y9,.string ⟨UW.toArray⟩] ho hx hy (by kernel_rfl) (fun w=>by rw [show Op.equal 26 _ _=Op.equalIn (9997+3) 26 _ _ from rfl];exact Yq)
theorem XL {E:Env} {I:CL} {o:Oper} {u:TypeId} {x y:Operand} {x0 y0:Int} {x1 y1:List UInt8} {x2 y2:Int} {x3 y3:Int} {x4 y4:Int} {x5 y5:Int} {x6 y6:List UInt8} {x7 y7:Int} {x8 y8:Int} {x9 y9:Int} {UU UW:List UInt8} (ho:o.op= .binOp .neq 26 x y u) (hx:VL E x (agg [is (.int .i64 x0),str x1,is (.int .i64 x2),is (.int .i64 x3),is (.int .i64 x4),is (.int .i64 x5),str x6,is (.int .i64 x7),is (.int .i64 x8),is (.int .i64 x9),str UU])) (hy:VL E y (agg [is (.int .i64 y0),str y1,is (.int .i64 y2),is (.int .i64 y3),is (.int .i64 y4),is (.int .i64 y5),str y6,is (.int .i64 y7),is (.int .i64 y8),is (.int .i64 y9),str UW])):Ab Tryz.prog I o E (bool (!decide (x0=y0∧x1=y1∧x2=y2∧x3=y3∧x4=y4∧x5=y5∧x6=y6∧x7=y7∧x8=y8∧x9=y9∧UU=UW))):=
 IV [.int .i64 x0,.string ⟨x1.toArray⟩,.int .i64 x2,.int .i64 x3,.int .i64 x4,.int .i64 x5,.string ⟨x6.toArray⟩,.int .i64 x7,.int .i64 x8,.int .i64 x9,.string ⟨UU.toArray⟩] [.int .i64 y0,.string ⟨y1.toArray⟩,.int .i64 y2,.int .i64 y3,.int .i64 y4,.int .i64 y5,.string ⟨y6.toArray⟩,.int .i64 y7,.int .i64 y8,.int .i64 y9,.string ⟨UW.toArray⟩] ho hx hy (by kernel_rfl) (fun w=>by rw [show Op.equal 26 _ _=Op.equalIn (9997+3) 26 _ _ from rfl];exact Yq)
theorem UX {d:Nat} {w:World} {x0 y0:List UInt8} {x1 y1:List UInt8} {x2 y2:Int} {x3 y3:Int} {x4 y4:Int} {x5 y5:Int}:(Op.equalIn (d+3) 107 (.agg #[.string ⟨x0.toArray⟩,.string ⟨x1.toArray⟩,.int .i64 x2,.int .i64 x3,.int .i64 x4,.int .i64 x5]) (.agg #[.string ⟨y0.toArray⟩,.string ⟨y1.toArray⟩,.int .i64 y2,.int .i64 y3,.int .i64 y4,.int .i64 y5])).run Tryz.prog w= .ok (decide (x0=y0∧x1=y1∧x2=y2∧x3=y3∧x4=y4∧x5=y5)) w:=by
 have h:=cv (w:=w) (d:=d+2) (xs:= #[.string ⟨x0.toArray⟩,.string ⟨x1.toArray⟩,.int .i64 x2,.int .i64 x3,.int .i64 x4,.int .i64 x5]) (ys:= #[.string ⟨y0.toArray⟩,.string ⟨y1.toArray⟩,.int .i64 y2,.int .i64 y3,.int .i64 y4,.int .i64 y5]) Tryz.underlying107 (by kernel_rfl) (Be (by decide) (Ag Fk rfl) (Ag Fk rfl) (GU (d:=d+1) Tryz.underlying9) (Be (by decide) (Ag Fk rfl) (Ag Fk rfl) (GU (d:=d+1) Tryz.underlying9) (Be (by decide) (Ag Au rfl) (Ag Au rfl) (Ck (d:=d+1) Tryz.underlying3) (Be (by decide) (Ag Au rfl) (Ag Au rfl) (Ck (d:=d+1) Tryz.underlying3) (Be (by decide) (E7 E5 Fl rfl) (E7 E5 Fl rfl) (Ol (d:=d+0) (w:=w)) (IW))))))
 refine h.trans (congrArg (fun b=>Result.ok b w) ?_)
 rw [Bool.eq_iff_iff];simp [and_assoc]
theorem UY {E:Env} {I:CL} {o:Oper} {u:TypeId} {x y:Operand} {x0 y0:List UInt8} {x1 y1:List UInt8} {x2 y2:Int} {x3 y3:Int} {x4 y4:Int} {x5 y5:Int} (ho:o.op= .binOp .eql 107 x y u) (hx:VL E x (agg [str x0,str x1,is (.int .i64 x2),is (.int .i64 x3),is (.int .i64 x4),is (.int .i64 x5)])) (hy:VL E y (agg [str y0,str y1,is (.int .i64 y2),is (.int .i64 y3),is (.int .i64 y4),is (.int .i64 y5)])):Ab Tryz.prog I o E (bool (decide (x0=y0∧x1=y1∧x2=y2∧x3=y3∧x4=y4∧x5=y5))):=
 IU [.string ⟨x0.toArray⟩,.string ⟨x1.toArray⟩,.int .i64 x2,.int .i64 x3,.int .i64 x4,.int .i64 x5] [.string ⟨y0.toArray⟩,.string ⟨y1.toArray⟩,.int .i64 y2,.int .i64 y3,.int .i64 y4,.int .i64 y5] ho hx hy (by kernel_rfl) (fun w=>by rw [show Op.equal 107 _ _=Op.equalIn (9997+3) 107 _ _ from rfl];exact UX)
def Ar (a b:Int):Int:=if a<b then -1 else if b<a then 1 else 0
theorem BK {a b:Int}:Ar a b=0↔a=b:=by unfold Ar;by_cases h1:a<b<;>by_cases h2:b<a<;>simp [h1,h2]<;>omega
def bO (l:List Int):Int:=(l.find? fun x=>x !=0).getD 0
theorem RW {l:List Int} {k:Nat} {x:Int} (hx:l[k]? =some x) (h0:¬x=0) (h:∀j y,j<k→l[j]? =some y→(y !=0)=false):x=bO l:=by
 unfold bO
 have:l.find? (fun x=>x !=0)=some x:=by
  rw [List.find?_eq_some_iff_getElem]
  have hk:k<l.length:=by rcases Nat.lt_or_ge k l.length with h|h;exact h;rw [List.getElem?_eq_none h] at hx;cases hx
  rw [List.getElem?_eq_getElem hk] at hx
  simp only [Option.some.injEq] at hx
  refine ⟨by simpa using h0,k,hk,hx,fun j hj=> ?_⟩
  have:=h j _ hj (List.getElem?_eq_getElem (by omega))
  simpa using this
 rw [this];rfl
theorem On {l:List Int} (h:∀j y,j<l.length→l[j]? =some y→(y !=0)=false):0=bO l:=by
 unfold bO
 have:l.find? (fun x=>x !=0)=none:=by
  rw [List.find?_eq_none]
  intro x hx
  obtain ⟨j,hj,rfl⟩:=List.mem_iff_getElem.1 hx
  have:=h j _ hj (List.getElem?_eq_getElem hj)
  simpa using this
 rw [this];rfl
def UZ (c:UInt8):Bool:=decide (33≤c.toNat∧c.toNat≤126)
def named (s:List UInt8):Bool:=s.all UZ&&decide (1≤s.length∧s.length≤32)
theorem RX {β:Type} {p:β→Bool} {l:List β} {k:Nat} {x:β} (hx:l[k]? =some x) (hp:p x=false):l.all p=false:=by
 rw [Bool.eq_false_iff];intro h;rw [List.all_eq_true] at h;rw [h x (List.mem_of_getElem? hx)] at hp;cases hp
theorem Nh {β:Type} {p:β→Bool} {l:List β} (h:∀j y,j<l.length→l[j]? =some y→(!p y)=false):l.all p=true:=by
 rw [List.all_eq_true]
 intro y hy
 obtain ⟨j,hj⟩:=List.mem_iff_getElem?.1 hy
 have:=h j y (by rcases Nat.lt_or_ge j l.length with h|h;exact h;rw [List.getElem?_eq_none h] at hj;cases hj) hj
 simpa using this
theorem LF {n:Int}  :BT prog 101 [int n] (bool false):=by
 refine fo func101 rfl ⟨rfl,rfl⟩ fun M0 w0=> ?_
 refine a3 ?_
 · exact bool_eq (by simp)
theorem LG {a b:Int}  :BT prog 59 [int a,int b] (int (Ar a b)):=by
 refine fo func59 rfl ⟨rfl,rfl⟩ fun M0 w0=> ?_
 · repeat' first|exact absurd h (by decide)|(refine int_eq ?_;unfold Ar;(repeat split)<;>omega)|refine co rfl (Cr (LF) rfl rfl) ?_|refine ac ?_|(refine Tr.cn rfl ?_ ?_<;>intro h q)
theorem eJ {l:List Int}  :BT prog 58 [ints l] (int (bO l)):=by
 refine fo func58 rfl ⟨rfl,rfl⟩ fun M0 w0=>(Tr.D9 0 rfl fun Dg=> ?_)
 refine a3 ?_
 refine Tr.block (Tr.BU [(3,_),(6,_),(7,_)] (OK rfl) (fun k:Nat=>[(8,int ((k:Nat):Int))]) (fun k:Nat=>k≤(l).length∧(∀j y,j<k→l[j]? =some y→(y !=0)=false)) (fun k:Nat=>(l).length-k) 0 (⟨Nat.zero_le _,fun j y hj=>absurd hj (by omega)⟩) ⟨ke rfl,trivial⟩ ?_)
 rintro k ⟨Cb,Ap⟩
 refine ac ?_
 refine Tr.seq ?_
 refine Tr.cn rfl ?_ ?_<;>intro h1 q1
 have Az:k<(l).length:=Ak h1
 obtain ⟨x,A7⟩:=at_ Az
 refine ac ?_
 refine Tr.seq (Tr.block (Tr.seq (Tr.Ax (co rfl (AB rfl underlying22 A4 (vl rfl) (vl rfl) (by omega) (by exact Am (by assumption))) ?_))))
 · repeat' first|exact int_eq (RW A7 (by assumption) Ap)|exact Fin.AE (k+1) ⟨⟨Az,Fa (p:=fun y=>y !=0) A7 (by simpa using by assumption) Ap⟩,by omega⟩ ⟨⟨_,rfl,AJ k⟩,ke rfl,ke rfl,ke rfl,trivial⟩|refine ac ?_|(refine Tr.cn rfl ?_ ?_<;>intro h q)
 have B2:k=(l).length:=by have:=Ao h1;omega
 subst B2
 refine a3 ?_
 · exact int_eq (On Ap)
theorem XM {a b:List UInt8}  :BT prog 172 [str a,str b] (int (Lib.compareBytes a b)):=by
 refine fo func172 rfl ⟨rfl,rfl⟩ fun M0 w0=> ?_
 refine a2 ?_
 refine co rfl (SH rfl func200 (by kernel_rfl) (by kernel_rfl) (by kernel_rfl) (by kernel_rfl) (vl rfl) (vl rfl)) ?_
 refine a2 ?_
 · exact Lr
theorem QI {a b:List UInt8}  :BT prog 115 [str a,str b] (int (Lib.compareBytes a b)):=by
 refine fo func115 rfl ⟨rfl,rfl⟩ fun M0 w0=> ?_
 refine a2 ?_
 refine co rfl (EE (XM) rfl rfl rfl) ?_
 refine a2 ?_
 · exact Lr
theorem Ni {s:List UInt8} (hs:s.length≤maxLen):BT prog 104 [str s] (bool (named s)):=by
 refine fo func104 rfl ⟨rfl,rfl⟩ fun M0 w0=> ?_
 refine a2 ?_
 refine co rfl (T9 rfl underlying9 underlying175 underlying5 (vl rfl) (by assumption)) ?_
 refine ac ?_
 refine Tr.block (Tr.D9 6 rfl fun hl6=>(Tr.BU [(0,_),(6,_),(7,_)] (OK rfl) (fun k:Nat=>[(8,int ((k:Nat):Int))]) (fun k:Nat=>k≤(s).length∧(∀j y,j<k→s[j]? =some y→(!UZ y)=false)) (fun k:Nat=>(s).length-k) 0 (⟨Nat.zero_le _,fun j y hj=>absurd hj (by omega)⟩) ⟨ke rfl,trivial⟩ ?_))
 rintro k ⟨Cb,Ap⟩
 refine ac ?_
 refine Tr.seq ?_
 refine Tr.cn rfl ?_ ?_<;>intro h1 q1
 have Az:k<(s).length:=Ak h1
 obtain ⟨c,A7⟩:=at_ Az
 refine ac ?_
 refine Tr.seq (Tr.block (Tr.seq (Tr.Ax (co rfl (AB rfl underlying175 me (vl rfl) (vl rfl) (by omega) (by exact Am (by assumption))) ?_))))
 · repeat' first|(refine bool_eq ?_;unfold named;rw [RX (p:=UZ) A7 (by simp [UZ];omega)];rfl)|(exact Fin.AE (k+1) ⟨⟨Az,Fa (p:=fun c=> !UZ c) A7 (by simp [UZ];omega) Ap⟩,by omega⟩ ⟨⟨_,rfl,AJ k⟩,ke rfl,ke rfl,ke rfl,trivial⟩)|refine ac ?_|(refine Tr.cn rfl ?_ ?_<;>intro h q)|(refine Ch.cg rfl rfl rfl ?_ ?_<;>intro h q)
 have B2:k=(s).length:=by have:=Ao h1;omega
 subst B2
 · repeat' first|(refine bool_eq ?_;unfold named;rw [Nh Ap,Bool.true_and];rw [decide_eq_decide];omega)|(refine bool_eq ?_;unfold named;rw [Nh Ap,Bool.true_and];(symm;rw [decide_eq_false_iff_not];omega))|refine ac ?_|(refine Ch.cg rfl rfl rfl ?_ ?_<;>intro h q)
theorem Nj {s:List UInt8}  :BT prog 106 [str s] (bool (named s)):=by
 refine fo func106 rfl ⟨rfl,rfl⟩ fun M0 w0=> ?_
 refine ac ?_
 refine ag ?_ ?_<;>intro h1 q1
 refine a3 ?_
 · refine bool_eq ?_;unfold named;rw [Bool.and_eq_false_iff.2 (.inr (by simp;omega))]
 refine an ?_ ?_<;>intro h2 q2
 refine a2 ?_
 · refine bool_eq ?_;unfold named;rw [Bool.and_eq_false_iff.2 (.inr (by simp;omega))]
 refine a2 ?_
 refine Tr.block (Tr.BU [(0,_)] ⟨ke rfl,trivial⟩ (fun k:Nat=>[(3,int ((k:Nat):Int))]) (fun k:Nat=>k≤(s).length∧(∀j y,j<k→s[j]? =some y→(!UZ y)=false)) (fun k:Nat=>(s).length-k) 0 (⟨Nat.zero_le _,fun j y hj=>absurd hj (by omega)⟩) ⟨ke rfl,trivial⟩ ?_)
 rintro k ⟨Cb,Ap⟩
 refine an ?_ ?_<;>intro h3 q3
 have Az:k<(s).length:=Ak h3
 obtain ⟨c,A7⟩:=at_ Az
 · repeat' first|(refine bool_eq ?_;unfold named;rw [RX (p:=UZ) A7 (by simp [UZ];omega)];rfl)|(exact Fin.AE (k+1) ⟨⟨Az,Fa (p:=fun c=> !UZ c) A7 (by simp [UZ];omega) Ap⟩,by omega⟩ ⟨⟨_,rfl,AJ k⟩,ke rfl,trivial⟩)|refine co rfl (IQ rfl underlying9 (vl rfl) (vl rfl) (by omega) (RI (by assumption))) ?_|refine cy h rfl (IQ rfl underlying9 (vl rfl) (vl rfl) (by omega) (RI (by assumption))) ?_|refine ac ?_|(refine Tr.cn rfl ?_ ?_<;>intro h q)|(refine Ch.cg rfl rfl rfl ?_ ?_<;>intro h q)
 have B2:k=(s).length:=by have:=Ao h3;omega
 subst B2
 refine a3 ?_
 · refine bool_eq ?_;unfold named;rw [Nh Ap,Bool.true_and];symm;rw [decide_eq_true_eq];omega
structure Nk where
 name:List UInt8
 kind:Int
 way:Int
 sizes:List Int
 EF:List Int
abbrev Zj (r:Nk):List Pr:=[str r.name,int r.kind,int r.way,ints r.sizes,ints r.EF]
def FA:List Nk:=[⟨[],0,0,[],[]⟩,⟨[109,100,53],1,0,[],[18]⟩,⟨[115,104,97,49],1,0,[],[60]⟩,⟨[115,104,97,50,53,54],1,0,[],[128]⟩,⟨[115,104,97,51,56,52],1,0,[],[192]⟩,⟨[114,115,97],2,1,[],[]⟩,⟨[100,115,97],2,1,[],[]⟩,⟨[101,99,100,115,97],2,2,[],[]⟩,⟨[101,100,50,53,53,49,57],2,0,[],[128]⟩,⟨[109,108,100,115,97],2,3,[44,65,87],[128,192,256]⟩,⟨[114,115,97,107,120],3,1,[],[]⟩,⟨[100,104,101],3,1,[],[]⟩,⟨[101,99,100,104,101],3,2,[],[]⟩,⟨[109,108,107,101,109],3,3,[512,768,1024],[128,192,256]⟩,⟨[114,99,52],4,3,[40,128],[40,60]⟩,⟨[100,101,115,51],4,3,[112,168],[80,112]⟩,⟨[97,101,115,99,98,99],4,3,[128,256],[128,256]⟩,⟨[97,101,115,103,99,109],4,3,[128,256],[128,256]⟩,⟨[99,104,97,99,104,97],4,0,[],[256]⟩,⟨[104,109,97,99,109,100,53],5,0,[],[64]⟩,⟨[104,109,97,99,115,104,97,49],5,0,[],[80]⟩,⟨[104,109,97,99,115,104,97,50,53,54],5,0,[],[128]⟩,⟨[97,101,97,100],5,0,[],[256]⟩]
def RY:Nk:=⟨[],0,0,[],[]⟩
def Cn (BI:Int):Nk:=if 1≤BI∧BI≤22 then (FA[BI.toNat]?).getD RY else RY
theorem G4 {BI:Int} (h:1≤BI∧BI≤22):FA[BI.toNat]? =some (Cn BI):=by
 have hl:BI.toNat<FA.length:=by show BI.toNat<23;omega
 unfold Cn;rw [if_pos h,List.getElem?_eq_getElem hl];rfl
theorem LH {β:Type} {f:β→List Pr} {sz:Nat} (hf:∀x,(f x).length=sz):∀{l:List β} {i:Nat} {x:β},l[i]? =some x→((l.flatMap f).drop (i*sz)).take sz=f x
 |[],_,_,h=>by simp at h
 |a::l,0,x,h=>by
  simp at h;subst h
  rw [List.flatMap_cons,Nat.zero_mul,List.drop_zero,List.take_append_of_le_length (by rw [hf];exact Nat.le_refl _),List.take_of_length_le (by rw [hf];exact Nat.le_refl _)]
 |a::l,i+1,x,h=>by
  rw [List.flatMap_cons,Nat.succ_mul,Nat.add_comm,←List.drop_drop,List.drop_left' (hf a)]
  exact LH hf (by simpa using h)
theorem drop_cons {β:Type} {l:List β} {k:Nat} {x:β} (h:l[k]? =some x):l.drop k=x::l.drop (k+1):=by
 have hk:k<l.length:=by rcases Nat.lt_or_ge k l.length with h'|h';exact h';rw [List.getElem?_eq_none h'] at h;cases h
 rw [List.drop_eq_getElem_cons hk]
 rw [List.getElem?_eq_getElem hk] at h
 simp at h;rw [h]
def mods:List (Int×Int):=[(1024,56),(2048,80),(3072,112),(7680,128),(15360,192)]
def Zk:List (Int×Int)→Int→Int
 |[],_=>256
 |p::l,b=>if b<p.1 then p.2 else Zk l b
def Ua (b:Int):Int:=Zk mods b
theorem Zl   :BT prog 216 [] (agg (FA.flatMap Zj)):=by
 refine fo func216 rfl ⟨rfl,rfl⟩ fun M0 w0=>(Tr.seq (Tr.CA ?_))
 refine Tl rfl rfl rfl rfl jD Yg (fun b1=> ?_)
 refine ap ?_
 refine ap ?_
 refine tp rfl (BS (rows:=[(0,[_]),(1,[_]),(2,[_]),(3,[_]),(4,[_])]) rfl C_ Cm ⟨⟨rfl,(Vo rfl)⟩,⟨⟨rfl,(Vo rfl)⟩,⟨⟨rfl,(Vo rfl)⟩,⟨⟨rfl,⟨_,rfl,Pr.le_trans (AZ 1) (AO _)⟩⟩,⟨⟨rfl,⟨_,rfl,Pr.le_trans (Bh _ _) (AO _)⟩⟩,trivial⟩⟩⟩⟩⟩ rfl) (tp rfl (oI) ?_)
 refine tp rfl (BS (rows:=[(0,[_]),(1,[_]),(2,[_]),(3,[_]),(4,[_])]) rfl C_ Cm ⟨⟨rfl,(Vo rfl)⟩,⟨⟨rfl,(Vo rfl)⟩,⟨⟨rfl,(Vo rfl)⟩,⟨⟨rfl,⟨_,rfl,Pr.le_trans (AZ 1) (AO _)⟩⟩,⟨⟨rfl,⟨_,rfl,Pr.le_trans (Bh _ _) (AO _)⟩⟩,trivial⟩⟩⟩⟩⟩ rfl) (tp rfl (oI) ?_)
 refine tp rfl (BS (rows:=[(0,[_]),(1,[_]),(2,[_]),(3,[_]),(4,[_])]) rfl C_ Cm ⟨⟨rfl,(Vo rfl)⟩,⟨⟨rfl,(Vo rfl)⟩,⟨⟨rfl,(Vo rfl)⟩,⟨⟨rfl,⟨_,rfl,Pr.le_trans (AZ 1) (AO _)⟩⟩,⟨⟨rfl,⟨_,rfl,Pr.le_trans (Bh _ _) (AO _)⟩⟩,trivial⟩⟩⟩⟩⟩ rfl) (tp rfl (oI) ?_)
 refine tp rfl (BS (rows:=[(0,[_]),(1,[_]),(2,[_]),(3,[_]),(4,[_])]) rfl C_ Cm ⟨⟨rfl,(Vo rfl)⟩,⟨⟨rfl,(Vo rfl)⟩,⟨⟨rfl,(Vo rfl)⟩,⟨⟨rfl,⟨_,rfl,Pr.le_trans (AZ 1) (AO _)⟩⟩,⟨⟨rfl,⟨_,rfl,Pr.le_trans (Bh _ _) (AO _)⟩⟩,trivial⟩⟩⟩⟩⟩ rfl) (tp rfl (BS (rows:=[(0,[_]),(1,[_]),(2,[_]),(3,[_]),(4,[_])]) rfl C_ Cm ⟨⟨rfl,(Vo rfl)⟩,⟨⟨rfl,(Vo rfl)⟩,⟨⟨rfl,(Vo rfl)⟩,⟨⟨rfl,⟨_,rfl,Pr.le_trans (AZ 1) (AO _)⟩⟩,⟨⟨rfl,⟨_,rfl,Pr.le_trans (AZ 1) (AO _)⟩⟩,trivial⟩⟩⟩⟩⟩ rfl) (tp rfl (BS (rows:=[(0,[_]),(1,[_]),(2,[_]),(3,[_]),(4,[_])]) rfl C_ Cm ⟨⟨rfl,(Vo rfl)⟩,⟨⟨rfl,(Vo rfl)⟩,⟨⟨rfl,(Vo rfl)⟩,⟨⟨rfl,⟨_,rfl,Pr.le_trans (AZ 1) (AO _)⟩⟩,⟨⟨rfl,⟨_,rfl,Pr.le_trans (AZ 1) (AO _)⟩⟩,trivial⟩⟩⟩⟩⟩ rfl) (tp rfl (BS (rows:=[(0,[_]),(1,[_]),(2,[_]),(3,[_]),(4,[_])]) rfl C_ Cm ⟨⟨rfl,(Vo rfl)⟩,⟨⟨rfl,(Vo rfl)⟩,⟨⟨rfl,(Vo rfl)⟩,⟨⟨rfl,⟨_,rfl,Pr.le_trans (AZ 1) (AO _)⟩⟩,⟨⟨rfl,⟨_,rfl,Pr.le_trans (AZ 1) (AO _)⟩⟩,trivial⟩⟩⟩⟩⟩ rfl) (tp rfl (oI) ?_))))
 refine tp rfl (BS (rows:=[(0,[_]),(1,[_]),(2,[_]),(3,[_]),(4,[_])]) rfl C_ Cm ⟨⟨rfl,(Vo rfl)⟩,⟨⟨rfl,(Vo rfl)⟩,⟨⟨rfl,(Vo rfl)⟩,⟨⟨rfl,⟨_,rfl,Pr.le_trans (AZ 1) (AO _)⟩⟩,⟨⟨rfl,⟨_,rfl,Pr.le_trans (Bh _ _) (AO _)⟩⟩,trivial⟩⟩⟩⟩⟩ rfl) ?_
 refine ap ?_
 refine tp rfl (BS (rows:=[(0,[_]),(1,[_]),(2,[_]),(3,[_]),(4,[_])]) rfl C_ Cm ⟨⟨rfl,(Vo rfl)⟩,⟨⟨rfl,(Vo rfl)⟩,⟨⟨rfl,(Vo rfl)⟩,⟨⟨rfl,⟨_,rfl,Pr.le_trans (Bh _ _) (AO _)⟩⟩,⟨⟨rfl,⟨_,rfl,Pr.le_trans (Bh _ _) (AO _)⟩⟩,trivial⟩⟩⟩⟩⟩ rfl) (tp rfl (BS (rows:=[(0,[_]),(1,[_]),(2,[_]),(3,[_]),(4,[_])]) rfl C_ Cm ⟨⟨rfl,(Vo rfl)⟩,⟨⟨rfl,(Vo rfl)⟩,⟨⟨rfl,(Vo rfl)⟩,⟨⟨rfl,⟨_,rfl,Pr.le_trans (AZ 1) (AO _)⟩⟩,⟨⟨rfl,⟨_,rfl,Pr.le_trans (AZ 1) (AO _)⟩⟩,trivial⟩⟩⟩⟩⟩ rfl) (tp rfl (BS (rows:=[(0,[_]),(1,[_]),(2,[_]),(3,[_]),(4,[_])]) rfl C_ Cm ⟨⟨rfl,(Vo rfl)⟩,⟨⟨rfl,(Vo rfl)⟩,⟨⟨rfl,(Vo rfl)⟩,⟨⟨rfl,⟨_,rfl,Pr.le_trans (AZ 1) (AO _)⟩⟩,⟨⟨rfl,⟨_,rfl,Pr.le_trans (AZ 1) (AO _)⟩⟩,trivial⟩⟩⟩⟩⟩ rfl) (tp rfl (BS (rows:=[(0,[_]),(1,[_]),(2,[_]),(3,[_]),(4,[_])]) rfl C_ Cm ⟨⟨rfl,(Vo rfl)⟩,⟨⟨rfl,(Vo rfl)⟩,⟨⟨rfl,(Vo rfl)⟩,⟨⟨rfl,⟨_,rfl,Pr.le_trans (AZ 1) (AO _)⟩⟩,⟨⟨rfl,⟨_,rfl,Pr.le_trans (AZ 1) (AO _)⟩⟩,trivial⟩⟩⟩⟩⟩ rfl) ?_)))
 refine ap ?_
 refine tp rfl (BS (rows:=[(0,[_]),(1,[_]),(2,[_]),(3,[_]),(4,[_])]) rfl C_ Cm ⟨⟨rfl,(Vo rfl)⟩,⟨⟨rfl,(Vo rfl)⟩,⟨⟨rfl,(Vo rfl)⟩,⟨⟨rfl,⟨_,rfl,Pr.le_trans (Bh _ _) (AO _)⟩⟩,⟨⟨rfl,⟨_,rfl,Pr.le_trans (Bh _ _) (AO _)⟩⟩,trivial⟩⟩⟩⟩⟩ rfl) ?_
 refine ap ?_
 refine tp rfl (BS (rows:=[(0,[_]),(1,[_]),(2,[_]),(3,[_]),(4,[_])]) rfl C_ Cm ⟨⟨rfl,(Vo rfl)⟩,⟨⟨rfl,(Vo rfl)⟩,⟨⟨rfl,(Vo rfl)⟩,⟨⟨rfl,⟨_,rfl,Pr.le_trans (Bh _ _) (AO _)⟩⟩,⟨⟨rfl,⟨_,rfl,Pr.le_trans (Bh _ _) (AO _)⟩⟩,trivial⟩⟩⟩⟩⟩ rfl) ?_
 refine ap ?_
 refine tp rfl (BS (rows:=[(0,[_]),(1,[_]),(2,[_]),(3,[_]),(4,[_])]) rfl C_ Cm ⟨⟨rfl,(Vo rfl)⟩,⟨⟨rfl,(Vo rfl)⟩,⟨⟨rfl,(Vo rfl)⟩,⟨⟨rfl,⟨_,rfl,Pr.le_trans (Bh _ _) (AO _)⟩⟩,⟨⟨rfl,⟨_,rfl,Pr.le_trans (Bh _ _) (AO _)⟩⟩,trivial⟩⟩⟩⟩⟩ rfl) ?_
 refine ap ?_
 refine tp rfl (BS (rows:=[(0,[_]),(1,[_]),(2,[_]),(3,[_]),(4,[_])]) rfl C_ Cm ⟨⟨rfl,(Vo rfl)⟩,⟨⟨rfl,(Vo rfl)⟩,⟨⟨rfl,(Vo rfl)⟩,⟨⟨rfl,⟨_,rfl,Pr.le_trans (Bh _ _) (AO _)⟩⟩,⟨⟨rfl,⟨_,rfl,Pr.le_trans (Bh _ _) (AO _)⟩⟩,trivial⟩⟩⟩⟩⟩ rfl) ?_
 refine ap ?_
 refine tp rfl (BS (rows:=[(0,[_]),(1,[_]),(2,[_]),(3,[_]),(4,[_])]) rfl C_ Cm ⟨⟨rfl,(Vo rfl)⟩,⟨⟨rfl,(Vo rfl)⟩,⟨⟨rfl,(Vo rfl)⟩,⟨⟨rfl,⟨_,rfl,Pr.le_trans (Bh _ _) (AO _)⟩⟩,⟨⟨rfl,⟨_,rfl,Pr.le_trans (Bh _ _) (AO _)⟩⟩,trivial⟩⟩⟩⟩⟩ rfl) (tp rfl (oI) ?_)
 refine tp rfl (BS (rows:=[(0,[_]),(1,[_]),(2,[_]),(3,[_]),(4,[_])]) rfl C_ Cm ⟨⟨rfl,(Vo rfl)⟩,⟨⟨rfl,(Vo rfl)⟩,⟨⟨rfl,(Vo rfl)⟩,⟨⟨rfl,⟨_,rfl,Pr.le_trans (AZ 1) (AO _)⟩⟩,⟨⟨rfl,⟨_,rfl,Pr.le_trans (Bh _ _) (AO _)⟩⟩,trivial⟩⟩⟩⟩⟩ rfl) (tp rfl (oI) ?_)
 refine tp rfl (BS (rows:=[(0,[_]),(1,[_]),(2,[_]),(3,[_]),(4,[_])]) rfl C_ Cm ⟨⟨rfl,(Vo rfl)⟩,⟨⟨rfl,(Vo rfl)⟩,⟨⟨rfl,(Vo rfl)⟩,⟨⟨rfl,⟨_,rfl,Pr.le_trans (AZ 1) (AO _)⟩⟩,⟨⟨rfl,⟨_,rfl,Pr.le_trans (Bh _ _) (AO _)⟩⟩,trivial⟩⟩⟩⟩⟩ rfl) (tp rfl (oI) ?_)
 refine tp rfl (BS (rows:=[(0,[_]),(1,[_]),(2,[_]),(3,[_]),(4,[_])]) rfl C_ Cm ⟨⟨rfl,(Vo rfl)⟩,⟨⟨rfl,(Vo rfl)⟩,⟨⟨rfl,(Vo rfl)⟩,⟨⟨rfl,⟨_,rfl,Pr.le_trans (AZ 1) (AO _)⟩⟩,⟨⟨rfl,⟨_,rfl,Pr.le_trans (Bh _ _) (AO _)⟩⟩,trivial⟩⟩⟩⟩⟩ rfl) (tp rfl (oI) ?_)
 refine tp rfl (BS (rows:=[(0,[_]),(1,[_]),(2,[_]),(3,[_]),(4,[_])]) rfl C_ Cm ⟨⟨rfl,(Vo rfl)⟩,⟨⟨rfl,(Vo rfl)⟩,⟨⟨rfl,(Vo rfl)⟩,⟨⟨rfl,⟨_,rfl,Pr.le_trans (AZ 1) (AO _)⟩⟩,⟨⟨rfl,⟨_,rfl,Pr.le_trans (Bh _ _) (AO _)⟩⟩,trivial⟩⟩⟩⟩⟩ rfl) (tp rfl (oI) ?_)
 refine tp rfl (BS (rows:=[(0,[_]),(1,[_]),(2,[_]),(3,[_]),(4,[_])]) rfl C_ Cm ⟨⟨rfl,(Vo rfl)⟩,⟨⟨rfl,(Vo rfl)⟩,⟨⟨rfl,(Vo rfl)⟩,⟨⟨rfl,⟨_,rfl,Pr.le_trans (AZ 1) (AO _)⟩⟩,⟨⟨rfl,⟨_,rfl,Pr.le_trans (Bh _ _) (AO _)⟩⟩,trivial⟩⟩⟩⟩⟩ rfl) ?_
 refine ap ?_
 refine CM 0 rfl (Tr.ret (Fin.FX rfl (A6.cell 0 rfl rfl ZX Yf rfl (Lr)) ?_))
 · exact JD ⟨Lr,Lr,Lr,AZ 1,AZ 1,Lr,Lr,Lr,Lr,Lr,Lr,Lr,Lr,Lr,Lr,Lr,Lr,Lr,Lr,Lr,Lr,Lr,Lr,Lr,Lr,Lr,Lr,Lr,Lr,Lr,Lr,Lr,Lr,Lr,Lr,Lr,Lr,Lr,Lr,Lr,Lr,Lr,Lr,Lr,Lr,Lr,Lr,Lr,Lr,Lr,Lr,Lr,Lr,Lr,Lr,Lr,Lr,Lr,Lr,Lr,Lr,Lr,Lr,Lr,Lr,Lr,Lr,Lr,Lr,Lr,Lr,Lr,Lr,Lr,Lr,Lr,Lr,Lr,Lr,Lr,Lr,Lr,Lr,Lr,Lr,Lr,Lr,Lr,Lr,Lr,Lr,Lr,Lr,Lr,Lr,Lr,Lr,Lr,Lr,Lr,Lr,Lr,Lr,Lr,Lr,Lr,Lr,Lr,Lr,Lr,Lr,Lr,Lr,Lr,Lr,trivial⟩
theorem eK {BI:Int}  :BT prog 192 [int BI] (DT [agg (Zj (Cn BI)),bool (decide (1≤BI∧BI≤22))]):=by
 refine fo func192 rfl ⟨rfl,rfl⟩ fun M0 w0=>(Tr.seq (Tr.CA ?_))
 refine Tl rfl rfl rfl rfl z196 Cm (fun b1=> ?_)
 refine ap ?_
 refine ag ?_ ?_<;>intro h1 q1
 refine ac ?_
 refine Tr.cond rfl (fun _=> ?_) (fun h=>nomatch h)
 refine Tr.seq (Tr.CA (tp rfl (BS (rows:=[]) rfl C_ Cm trivial rfl) (TO.DK 0 rfl rfl rfl (vl rfl) (Va rfl) rfl MQ rfl rfl (tm rfl (TO.nil (Fin.go (Tr.ret (Fin.AF (Fin.Ku rfl (A6.cell 0 rfl rfl NV MQ rfl (Lr)) (A6.tmp rfl (Lr)) ?_)))))))))
 · refine NS ⟨?_,bool_eq (by symm;rw [decide_eq_false_iff_not];omega),trivial⟩;unfold Cn;rw [if_neg (by omega)];exact JD ⟨Lr,Lr,Lr,AZ 1,AZ 1,trivial⟩
 refine an ?_ ?_<;>intro h2 q2
 refine ap ?_
 refine Tr.ret (Fin.AF (Fin.Ku rfl (A6.cell 0 rfl rfl NV MQ rfl (Lr)) (A6.tmp rfl (Lr)) ?_))
 · refine NS ⟨?_,bool_eq (by symm;rw [decide_eq_false_iff_not];omega),trivial⟩;unfold Cn;rw [if_neg (by omega)];exact JD ⟨Lr,Lr,Lr,AZ 1,AZ 1,trivial⟩
 have hin:1≤BI∧BI≤22:=by omega
 refine ac ?_
 refine Tr.seq (Tr.CA (tp rfl (lY (Zl) rfl) (tm rfl (tp rfl (OP rfl underlying217 NV MQ (vl rfl) (vl rfl) (by omega) (by omega) (LH (f:=Zj) (fun _=>rfl) (G4 hin))) ?_))))
 refine ap ?_
 refine Tr.ret (Fin.Ku rfl (A6.cell 0 rfl rfl NV MQ rfl (Lr)) (A6.tmp rfl (Lr)) ?_)
 · exact NS ⟨Lr,bool_eq (by symm;rw [decide_eq_true_eq];exact hin),trivial⟩
theorem Zm {BI:Int}  :BT prog 161 [int BI] (int (Cn BI).kind):=by
 refine fo func161 rfl ⟨rfl,rfl⟩ fun M0 w0=> ?_
 refine ac ?_
 refine ao ?_
 refine tp rfl (Cr (eK) rfl rfl) ?_
 refine ao ?_
 refine Tl rfl rfl rfl rfl z196 Cm (fun b1=> ?_)
 refine sf 0 3 ⟨rfl,rfl,rfl⟩ rfl rfl rfl rfl ?_
 refine ao ?_
 refine a2 ?_
 · exact Lr
theorem SP {b:Int}  :BT prog 215 [int b] (int (Ua b)):=by
 refine fo func215 rfl ⟨rfl,rfl⟩ fun M0 w0=> ?_
 have hml:mods.length=5:=rfl
 refine a2 ?_
 refine Tr.block (Tr.re 10 rfl (Pr.le_of_eq (show _=agg (mods.flatMap fun p=>[int p.1,int p.2]) from rfl)) (Tr.BU [(0,_),(10,_)] (RC rfl) (fun k:Nat=>[(11,int ((k:Nat):Int))]) (fun k:Nat=>k≤(mods).length∧(Ua b=Zk (mods.drop k) b)) (fun k:Nat=>(mods).length-k) 0 (⟨Nat.zero_le _,rfl⟩) ⟨ke rfl,trivial⟩ ?_))
 rintro k ⟨Cb,Ap⟩
 refine ac ?_
 refine Tr.seq ?_
 refine Tr.cn rfl ?_ ?_<;>intro h1 q1
 have Az:k<(mods).length:=Ak h1
 obtain ⟨p,A7⟩:=at_ Az
 have hL:k<5:=Az
 have iJ:=drop_cons A7
 refine ac ?_
 refine Tr.seq (Tr.block (Tr.seq (Tr.CA (tp rfl (OP rfl underlying224 ZY Yh (vl rfl) (vl rfl) (by omega) (by omega) (LH (f:=fun p:Int×Int=>[int p.1,int p.2]) (fun _=>rfl) A7)) ?_))))
 refine Tl rfl rfl rfl rfl jE Yi (fun b1=> ?_)
 refine sf 0 4 ⟨rfl,rfl,rfl⟩ rfl rfl rfl rfl ?_
 refine ao ?_
 refine ac ?_
 refine co rfl (Jl rfl underlying223 A4 (vl rfl) (vl rfl) (by omega) (by omega) rfl) (co rfl (Ko rfl Au (vl rfl) rfl) ?_)
 refine an ?_ ?_<;>intro h2 q2
 refine Tr.seq (Tr.Ax (co rfl (Jl rfl underlying223 A4 (vl rfl) (vl rfl) (by omega) (by omega) rfl) (co rfl (Ko rfl Au (vl rfl) rfl) ?_)))
 refine ac ?_
 refine CM 2 rfl ?_
 refine ac ?_
 · refine int_eq ?_;rw [Ap,iJ];exact (if_pos (by omega)).symm
 refine a2 ?_
 exact Fin.AE (k+1) ⟨⟨Az,(by rw [Ap,iJ];exact if_neg (by omega))⟩,by omega⟩ ⟨⟨_,rfl,AJ k⟩,ke rfl,ke rfl,trivial⟩
 have B2:k=(mods).length:=by have:=Ao h1;omega
 subst B2
 refine a3 ?_
 · refine int_eq ?_;rw [Ap,List.drop_length];rfl
def Mj:List Int:=[160,224,256,384,521]
def Bk (BI bits:Int):Int:=
 if 1 ≤ BI ∧ BI ≤ 22 then
  if (Cn BI).way=0 then (if bits=0 then ((Cn BI).EF[0]?).getD 0 else 0)
  else if (Cn BI).way=1 then (if 512≤bits∧bits≤16384 then Ua bits else 0)
  else if (Cn BI).way=2 then (if (Mj.any fun x=>bits==x)=true then bits.tdiv 2 else 0)
  else if (Cn BI).way=3 then (if 0≤idx (fun x=>bits==x) (Cn BI).sizes then ((Cn BI).EF[(idx (fun x=>bits==x) (Cn BI).sizes).toNat]?).getD 0 else 0)
  else 0
 else 0
theorem QJ {BI:Int} (h:1≤BI∧BI≤22):Cn BI∈FA.tail:=by
 have h1:=G4 h
 refine List.mem_of_getElem? (i:=BI.toNat-1) ?_
 rw [List.getElem?_tail,show BI.toNat-1+1=BI.toNat by omega];exact h1
theorem Zn:∀r∈FA.tail,(r.way=0→1≤r.EF.length)∧(r.way=3→r.sizes.length≤r.EF.length):=by decide
theorem Zo {β:Type} (p:β→Bool) (l:List β):idx p l<l.length:=by
 unfold idx
 cases h:l.findIdx? p with
 |none=>simp;omega
 |some i=>rw [List.findIdx?_eq_some_iff_getElem] at h;obtain ⟨h1,_⟩:=h;simp;omega
theorem QK {BI bits:Int}  :BT prog 191 [agg [int BI,int bits]] (int (Bk BI bits)):=by
 refine fo func191 rfl ⟨rfl,rfl⟩ fun M0 w0=> ?_
 refine ac ?_
 refine ao ?_
 refine tp rfl (Cr (eK) rfl rfl) ?_
 refine ao ?_
 refine Tl rfl rfl rfl rfl z196 Cm (fun b1=> ?_)
 refine sf 0 3 ⟨rfl,rfl,rfl⟩ rfl rfl rfl rfl ?_
 refine ao ?_
 refine ac ?_
 refine Py 1 3 13 rfl ?_
 refine Tr.cn rfl ?_ ?_<;>intro h1 q1
 refine a2 ?_
 · refine int_eq ?_;unfold Bk;rw [if_neg (by intro hh;simp [hh] at h1)]
 have hin:1≤BI∧BI≤22:=by simpa using h1
 obtain ⟨hc0,nE⟩:=Zn _ (QJ hin)
 refine a2 ?_
 refine an ?_ ?_<;>intro h2 q2
 refine an ?_ ?_<;>intro h3 q3
 obtain ⟨z,hz⟩:=at_ (l:=(Cn BI).EF) (k:=0) (hc0 (by omega))
 refine ac ?_
 refine co rfl (AB rfl underlying22 A4 (vl rfl) (vl rfl) (by omega) (Am (k:=0) hz)) ?_
 refine ac ?_
 refine CM 2 rfl ?_
 refine ac ?_
 · refine int_eq ?_;unfold Bk;rw [if_pos hin,if_pos (by omega),if_pos (by omega),hz];rfl
 refine a3 ?_
 · refine int_eq ?_;unfold Bk;rw [if_pos hin,if_pos (by omega),if_neg (by omega)]
 refine an ?_ ?_<;>intro h4 q4
 · repeat' first|(refine int_eq ?_;unfold Bk;rw [if_pos hin,if_neg (by omega),if_pos (by omega),if_pos (by omega)])|(refine int_eq ?_;unfold Bk;rw [if_pos hin,if_neg (by omega),if_pos (by omega),if_neg (by omega)])|refine co rfl (Cr (SP) rfl rfl) ?_|refine ac ?_|(refine Tr.cn rfl ?_ ?_<;>intro h q)|(refine Ch.cg rfl rfl rfl ?_ ?_<;>intro h q)
 refine an ?_ ?_<;>intro h7 q7
 refine ac ?_
 refine co rfl (Ah rfl (Oj (l:=Mj)) ⟨(Kf rfl),ke rfl,trivial⟩) ?_
 refine ac ?_
 refine EK 1 43 rfl ?_
 refine Tr.cn rfl ?_ ?_<;>intro h8 q8
 have hb:bits=160∨bits=224∨bits=256∨bits=384∨bits=521:=by simpa [Mj] using h8
 refine ac ?_
 refine co rfl (CX rfl (vl rfl) (vl rfl) (by omega)) ?_
 refine a2 ?_
 · refine int_eq ?_;unfold Bk;rw [if_pos hin,if_neg (by omega),if_neg (by omega),if_pos (by omega),if_pos (by assumption)];rcases hb with h|h|h|h|h<;>rw [h]<;>rfl
 refine a3 ?_
 · refine int_eq ?_;unfold Bk;rw [if_pos hin,if_neg (by omega),if_neg (by omega),if_pos (by omega),if_neg (Bv (by assumption))]
 refine an ?_ ?_<;>intro h9 q9
 refine ac ?_
 refine co rfl (EE (Oi) rfl rfl rfl) ?_
 refine ac ?_
 refine EK 3 5 rfl ?_
 refine an ?_ ?_<;>intro h10 SQ
 have hlt:=Zo (fun x=>bits==x) (Cn BI).sizes
 obtain ⟨z,hz⟩:=at_ (l:=(Cn BI).EF) (k:=(idx (fun x=>bits==x) (Cn BI).sizes).toNat) (by have:=nE (by omega);omega)
 refine ac ?_
 refine co rfl (AB rfl underlying22 A4 (vl rfl) (vl rfl) (by omega) (A_ hz)) ?_
 refine a2 ?_
 · refine int_eq ?_;unfold Bk;rw [if_pos hin,if_neg (by omega),if_neg (by omega),if_neg (by omega),if_pos (by omega),if_pos (by assumption),hz];rfl
 refine a3 ?_
 · refine int_eq ?_;unfold Bk;rw [if_pos hin,if_neg (by omega),if_neg (by omega),if_neg (by omega),if_pos (by omega),if_neg (by omega)]
 refine a2 ?_
 refine CM 2 rfl ?_
 refine ac ?_
 · refine int_eq ?_;unfold Bk;rw [if_pos hin,if_neg (by omega),if_neg (by omega),if_neg (by omega),if_neg (by omega)]
theorem Nl {BI bits:Int}  :BT prog 160 [agg [int BI,int bits]] (bool (decide (Bk BI bits>0))):=by
 refine fo func160 rfl ⟨rfl,rfl⟩ fun M0 w0=> ?_
 refine a2 ?_
 refine co rfl (Cr (QK) rfl rfl) ?_
 refine a2 ?_
 · exact Lr
def G5 (b:Int) (l m:List Int):Int:=if 0≤idx (fun x=>b==x) l then (m[(idx (fun x=>b==x) l).toNat]?).getD 0 else 0
theorem SS {b:Int} {l m:List Int} {k:Nat} {x z:Int} (hx:l[k]? =some x) (he:x=b) (hz:m[k]? =some z) (h:∀j y,j<k→l[j]? =some y→(b==y)=false):z=G5 b l m:=by
 have:=HN (p:=fun x=>b==x) hx (by simp [he]) h
 unfold G5;rw [←this,if_pos (by omega),Int.toNat_natCast,hz];rfl
theorem QL {b:Int} {l m:List Int} (h:∀j y,j<l.length→l[j]? =some y→(b==y)=false):0=G5 b l m:=by
 have:=Ie (p:=fun x=>b==x) h
 unfold G5;rw [←this,if_neg (by omega)]
def DA (BI:Int):Int:=if BI=1 then 18 else if BI=2 then 60 else if BI=3∨BI=8∨BI=21 then 128 else if BI=4 then 192 else if BI=18∨BI=22 then 256 else if BI=19 then 64 else if BI=20 then 80 else 0
def Gm (b:Int):Int:=if b<512∨b>16384 then 0 else if b<1024 then 56 else if b<2048 then 80 else if b<3072 then 112 else if b<7680 then 128 else if b<15360 then 192 else 256
theorem Ub (b:Int):Gm b=if 512≤b∧b≤16384 then Ua b else 0:=by
 have h1:Ua b=if b<1024 then 56 else if b<2048 then 80 else if b<3072 then 112 else if b<7680 then 128 else if b<15360 then 192 else 256:=rfl
 rw [h1];unfold Gm
 by_cases h:512≤b∧b≤16384
 · rw [if_pos h,if_neg (by omega)]
 · rw [if_neg h,if_pos (by omega)]
theorem GW {b:Int} {l m:List Int} (hl:l.length≤m.length):BT prog 194 [int b,ints l,ints m] (int (G5 b l m)):=by
 refine fo func194 rfl ⟨rfl,rfl⟩ fun M0 w0=>(Tr.D9 1 rfl fun RZ=> ?_)
 refine a2 ?_
 refine Tr.block (Tr.BU [(0,_),(1,_),(2,_)] (OK rfl) (fun k:Nat=>[(7,int ((k:Nat):Int))]) (fun k:Nat=>k≤(l).length∧(∀j y,j<k→l[j]? =some y→(b==y)=false)) (fun k:Nat=>(l).length-k) 0 (⟨Nat.zero_le _,fun j y hj=>absurd hj (by omega)⟩) ⟨ke rfl,trivial⟩ ?_)
 rintro k ⟨Cb,Ap⟩
 refine an ?_ ?_<;>intro h1 q1
 have Az:k<(l).length:=Ak h1
 obtain ⟨x,A7⟩:=at_ Az
 obtain ⟨z,hz⟩:=at_ (l:=m) (k:=k) (by omega)
 · repeat' first|exact int_eq (SS A7 (by assumption) hz Ap)|(exact Fin.AE (k+1) ⟨⟨Az,Fa (p:=fun x=>b==x) A7 (by simp;omega) Ap⟩,by omega⟩ ⟨⟨_,rfl,AJ k⟩,ke rfl,ke rfl,ke rfl,trivial⟩)|refine co rfl (AB rfl underlying22 A4 (vl rfl) (vl rfl) (by omega) (by exact Am (by assumption))) ?_|refine ac ?_|(refine Tr.cn rfl ?_ ?_<;>intro h q)
 have B2:k=(l).length:=by have:=Ao h1;omega
 subst B2
 refine a3 ?_
 · exact int_eq (QL Ap)
theorem Uc {BI:Int}  :BT prog 195 [int BI] (int (DA BI)):=by
 refine fo func195 rfl ⟨rfl,rfl⟩ fun M0 w0=> ?_
 refine a2 ?_
 refine an ?_ ?_<;>intro h1 q1
 refine a2 ?_
 · refine int_eq ?_;unfold DA;(repeat (rw [if_pos (by omega)]))
 refine an ?_ ?_<;>intro h2 q2
 refine a2 ?_
 · refine int_eq ?_;unfold DA;(repeat (first|rw [if_pos (by omega)]|rw [if_neg (by omega)]))
 refine an ?_ ?_<;>intro h3 q3
 refine ac ?_
 refine Tr.cond rfl (fun _=> ?_) (fun h=>nomatch h3.symm.trans h)
 refine a2 ?_
 · refine int_eq ?_;unfold DA;(repeat (first|rw [if_pos (by omega)]|rw [if_neg (by omega)]))
 refine an ?_ ?_<;>intro h4 q4
 refine ac ?_
 refine Tr.cond rfl (fun _=> ?_) (fun h=>nomatch h4.symm.trans h)
 refine a2 ?_
 · refine int_eq ?_;unfold DA;(repeat (first|rw [if_pos (by omega)]|rw [if_neg (by omega)]))
 refine an ?_ ?_<;>intro h5 q5
 refine a2 ?_
 · refine int_eq ?_;unfold DA;(repeat (first|rw [if_pos (by omega)]|rw [if_neg (by omega)]))
 refine ac ?_
 refine EK 3 12 rfl ?_
 refine Tr.cn rfl ?_ ?_<;>intro h6 q6
 refine a2 ?_
 · refine int_eq ?_;unfold DA;(repeat (first|rw [if_pos (by omega)]|rw [if_neg (by omega)]))
 refine an ?_ ?_<;>intro h7 q7
 refine ac ?_
 refine Tr.cond rfl (fun _=> ?_) (fun h=>nomatch h7.symm.trans h)
 refine a2 ?_
 · refine int_eq ?_;unfold DA;(repeat (first|rw [if_pos (by omega)]|rw [if_neg (by omega)]))
 · repeat' first|(refine int_eq ?_;unfold DA;(repeat (first|rw [if_pos (by omega)]|rw [if_neg (by omega)])))|(refine int_eq ?_;unfold DA;(repeat (rw [if_neg (by omega)])))|refine ac ?_|(refine Tr.cn rfl ?_ ?_<;>intro h q)
theorem GX {b:Int}  :BT prog 193 [int b] (int (Gm b)):=by
 refine fo func193 rfl ⟨rfl,rfl⟩ fun M0 w0=> ?_
 refine ac ?_
 refine ac ?_
 refine Ch.cs 6 rfl ?_ ?_<;>intro h1 q1
 refine ac ?_
 refine ac ?_
 refine ac ?_
 · refine int_eq ?_;unfold Gm;(repeat (rw [if_pos (by omega)]))
 refine ac ?_
 refine Tr.cn rfl ?_ ?_<;>intro h2 q2
 refine ac ?_
 refine ac ?_
 · refine int_eq ?_;unfold Gm;(repeat (rw [if_pos (by omega)]))
 refine ac ?_
 refine Tr.cn rfl ?_ ?_<;>intro h3 q3
 refine ac ?_
 refine ac ?_
 · refine int_eq ?_;unfold Gm;(repeat (first|rw [if_pos (by omega)]|rw [if_neg (by omega)]))
 refine ac ?_
 refine EK 0 13 rfl ?_
 refine Tr.cn rfl ?_ ?_<;>intro h4 q4
 refine ac ?_
 refine ac ?_
 · refine int_eq ?_;unfold Gm;(repeat (first|rw [if_pos (by omega)]|rw [if_neg (by omega)]))
 refine ac ?_
 refine Tr.cn rfl ?_ ?_<;>intro h5 q5
 refine ac ?_
 refine ac ?_
 · refine int_eq ?_;unfold Gm;(repeat (first|rw [if_pos (by omega)]|rw [if_neg (by omega)]))
 refine ac ?_
 refine Tr.cn rfl ?_ ?_<;>intro h6 q6
 refine ac ?_
 refine ac ?_
 · refine int_eq ?_;unfold Gm;(repeat (first|rw [if_pos (by omega)]|rw [if_neg (by omega)]))
 refine ac ?_
 refine Tr.cn rfl ?_ ?_<;>intro h7 q7
 refine ac ?_
 refine ac ?_
 · refine int_eq ?_;unfold Gm;(repeat (first|rw [if_pos (by omega)]|rw [if_neg (by omega)]))
 refine ac ?_
 refine ac ?_
 refine ac ?_
 · refine int_eq ?_;unfold Gm;(repeat (rw [if_neg (by omega)]))
theorem XN (b c:Int):G5 b [0] [c]=if b=0 then c else 0:=by
 unfold G5 idx
 by_cases h:b=0
 · subst h;rfl
 ·
  have:List.findIdx? (fun x=>b==x) [0]=none:=by simp [h]
  rw [this,if_neg h];rfl
theorem Er {BI b:Int} (h:BI=5∨BI=6∨BI=10∨BI=11):Gm b=Bk BI b:=by
 rw [Ub]
 rcases h with rfl|rfl|rfl|rfl<;>rfl
theorem MC {BI b:Int} (h:¬(BI=5∨BI=6∨BI=7∨BI=9∨BI=10∨BI=11∨BI=12∨BI=13∨BI=14∨BI=15∨BI=16∨BI=17)):G5 b [0] [DA BI]=Bk BI b:=by
 rw [XN]
 by_cases hin:1≤BI∧BI≤22
 ·
  have ha:BI=1∨BI=2∨BI=3∨BI=4∨BI=8∨BI=18∨BI=19∨BI=20∨BI=21∨BI=22:=by omega
  rcases ha with rfl|rfl|rfl|rfl|rfl|rfl|rfl|rfl|rfl|rfl<;>rfl
 ·
  have h1:DA BI=0:=by unfold DA;(repeat (first|rw [if_pos (by omega)]|rw [if_neg (by omega)]))
  unfold Bk
  rw [h1,if_neg hin];split<;>rfl
theorem Es {BI b:Int} (h:BI=7∨BI=12):Bk BI b=if (Mj.any fun x=>b==x)=true then b.tdiv 2 else 0:=by
 rcases h with rfl|rfl<;>rfl
theorem Oo {BI bits:Int}  :BT prog 162 [agg [int BI,int bits]] (int (Bk BI bits)):=by
 refine fo func162 rfl ⟨rfl,rfl⟩ fun M0 w0=> ?_
 iterate 4 refine ac ?_
 refine Tr.cn rfl ?_ ?_<;>intro h1 q1
 refine ac ?_
 refine Tr.cond rfl (fun _=> ?_) (fun h=>nomatch h1.symm.trans h)
 refine ac ?_
 refine co rfl (Cr (GX) rfl rfl) ?_
 refine a2 ?_
 · refine int_eq ?_;exact Er (by omega)
 refine an ?_ ?_<;>intro h2 q2
 refine ac ?_
 refine Tr.cond rfl (fun _=> ?_) (fun h=>nomatch h2.symm.trans h)
 refine ac ?_
 refine co rfl (Cr (GX) rfl rfl) ?_
 refine ac ?_
 refine CM 2 rfl ?_
 refine ac ?_
 · refine int_eq ?_;exact Er (by omega)
 refine an ?_ ?_<;>intro h3 q3
 refine ac ?_
 refine Tr.cond rfl (fun _=> ?_) (fun h=>nomatch h3.symm.trans h)
 refine ac ?_
 refine co rfl (Cr (GX) rfl rfl) ?_
 refine ac ?_
 refine CM 2 rfl ?_
 refine ac ?_
 · refine int_eq ?_;exact Er (by omega)
 refine ac ?_
 refine Dp 1 3 7 8 rfl ?_
 refine Tr.cn rfl ?_ ?_<;>intro h4 q4
 refine ac ?_
 refine co rfl (Cr (GX) rfl rfl) ?_
 refine a2 ?_
 · refine int_eq ?_;exact Er (by omega)
 refine an ?_ ?_<;>intro h5 q5
 refine ac ?_
 refine Tr.cond rfl (fun _=> ?_) (fun h=>nomatch h5.symm.trans h)
 · repeat' first|(refine int_eq ?_;rw [Es (by omega)];have hb:bits=160∨bits=224∨bits=256∨bits=384∨bits=521:=(by omega);rcases hb with rfl|rfl|rfl|rfl|rfl<;>rfl)|(refine int_eq ?_;rw [Es (by omega),if_neg (by simp [Mj];omega)])|refine co rfl (CX rfl (vl rfl) (vl rfl) (by omega)) ?_|refine ac ?_|(refine Tr.cn rfl ?_ ?_<;>intro h q)|(refine Ch.cg rfl rfl rfl ?_ ?_<;>intro h q)
 refine an ?_ ?_<;>intro h11 WV
 · repeat' first|(refine int_eq ?_;rw [Es (by omega)];have hb:bits=160∨bits=224∨bits=256∨bits=384∨bits=521:=(by omega);rcases hb with rfl|rfl|rfl|rfl|rfl<;>rfl)|(refine int_eq ?_;rw [Es (by omega),if_neg (by simp [Mj];omega)])|refine co rfl (CX rfl (vl rfl) (vl rfl) (by omega)) ?_|refine ac ?_|(refine Tr.cn rfl ?_ ?_<;>intro h q)|(refine Ch.cg rfl rfl rfl ?_ ?_<;>intro h q)
 refine an ?_ ?_<;>intro Ta iK
 refine ac ?_
 refine co rfl (Ah rfl (GW (l:=[44,65,87]) (m:=[128,192,256]) (by simp)) ⟨ke rfl,(Kf rfl),(Kf rfl),trivial⟩) ?_
 refine ac ?_
 refine CM 2 rfl ?_
 refine ac ?_
 · refine int_eq ?_;have ha:BI=9:=(by omega);rcases ha with rfl<;>rfl
 refine an ?_ ?_<;>intro Tc iL
 refine ac ?_
 refine co rfl (Ah rfl (GW (l:=[512,768,1024]) (m:=[128,192,256]) (by simp)) ⟨ke rfl,(Kf rfl),(Kf rfl),trivial⟩) ?_
 refine ac ?_
 refine CM 2 rfl ?_
 refine ac ?_
 · refine int_eq ?_;have ha:BI=13:=(by omega);rcases ha with rfl<;>rfl
 refine ac ?_
 refine Dp 1 3 7 50 rfl ?_
 refine Tr.cn rfl ?_ ?_<;>intro XO iM
 refine ac ?_
 refine co rfl (Ah rfl (GW (l:=[40,128]) (m:=[40,60]) (by simp)) ⟨ke rfl,(Kf rfl),(Kf rfl),trivial⟩) ?_
 refine a2 ?_
 · refine int_eq ?_;have ha:BI=14:=(by omega);rcases ha with rfl<;>rfl
 refine an ?_ ?_<;>intro lp lq
 refine ac ?_
 refine co rfl (Ah rfl (GW (l:=[112,168]) (m:=[80,112]) (by simp)) ⟨ke rfl,(Kf rfl),(Kf rfl),trivial⟩) ?_
 refine a2 ?_
 · refine int_eq ?_;have ha:BI=15:=(by omega);rcases ha with rfl<;>rfl
 refine an ?_ ?_<;>intro jz lu
 refine ac ?_
 refine Tr.cond rfl (fun _=> ?_) (fun h=>nomatch jz.symm.trans h)
 refine ac ?_
 refine co rfl (Ah rfl (GW (l:=[128,256]) (m:=[128,256]) (by simp)) ⟨ke rfl,(Kf rfl),(Kf rfl),trivial⟩) ?_
 refine a2 ?_
 · refine int_eq ?_;have ha:BI=16∨BI=17:=(by omega);rcases ha with rfl|rfl<;>rfl
 · repeat' first|(refine int_eq ?_;have ha:BI=16∨BI=17:=(by omega);rcases ha with rfl|rfl<;>rfl)|(refine int_eq ?_;exact MC (by omega))|refine co rfl (Ah rfl (GW (l:=[128,256]) (m:=[128,256]) (by simp)) ⟨ke rfl,(Kf rfl),(Kf rfl),trivial⟩) ?_|refine co rfl (Cr (Uc) rfl rfl) (co rfl (AM (xs:=[.tmp 73]) (rows:=[[_]]) rfl rfl underlying22 A4 z3 rfl (by decide) ⟨⟨(by exact rfl),(Vo rfl)⟩,trivial⟩ (by decide)) ?_)|refine co rfl (Ah rfl (GW (l:=[0]) (m:=[DA BI]) (by simp)) ⟨ke rfl,(Kf rfl),(Kf rfl),trivial⟩) ?_|refine ac ?_|(refine Tr.cn rfl ?_ ?_<;>intro h q)
theorem LI {BI bits:Int}  :BT prog 107 [agg [int BI,int bits]] (bool (decide (Bk BI bits>0))):=by
 refine fo func107 rfl ⟨rfl,rfl⟩ fun M0 w0=> ?_
 refine a2 ?_
 refine co rfl (Cr (Oo) rfl rfl) ?_
 refine a2 ?_
 · exact Lr
def Zp:List (List UInt8×Int):=FA.map fun r=>(r.name,r.kind)
theorem XP {BI:Int} (h:1≤BI∧BI≤22):Zp[BI.toNat]? =some ((Cn BI).name,(Cn BI).kind):=by
 unfold Zp;rw [List.getElem?_map,G4 h];rfl
theorem XQ   :BT prog 196 [] (slice 2 (Zp.map fun r=>[str r.1,int r.2])):=by
 refine fo func196 rfl ⟨rfl,rfl⟩ fun M0 w0=> ?_
 refine a2 ?_
 refine CM 0 rfl ?_
 refine ac ?_
 · exact Bh _ _
theorem XR {BI:Int}  :BT prog 163 [int BI] (int (Cn BI).kind):=by
 refine fo func163 rfl ⟨rfl,rfl⟩ fun M0 w0=> ?_
 refine ac ?_
 refine ag ?_ ?_<;>intro h1 q1
 refine a3 ?_
 · refine int_eq ?_;unfold Cn;rw [if_neg (by omega)];rfl
 refine an ?_ ?_<;>intro h2 q2
 refine a2 ?_
 · refine int_eq ?_;unfold Cn;rw [if_neg (by omega)];rfl
 have hin:1≤BI∧BI≤22:=by omega
 refine ac ?_
 refine Tr.seq (Tr.Ax (co rfl (lY (XQ) rfl) (cm rfl (co rfl (AB rfl underlying202 Yd (vl rfl) (vl rfl) (by omega) (A_ (f:=fun r:List UInt8×Int=>[str r.1,int r.2]) (XP hin))) ?_))))
 refine a2 ?_
 · exact Lr
theorem Oq {BI bits:Int}  :BT prog 108 [agg [int BI,int bits]] (bool (decide (Bk BI bits>0)&&(Cn BI).kind==2)):=by
 refine fo func108 rfl ⟨rfl,rfl⟩ fun M0 w0=> ?_
 refine ac ?_
 refine ac ?_
 refine co rfl (Cr (LI) rfl rfl) (cm rfl ?_)
 refine Ch.cs 5 rfl ?_ ?_<;>intro h1 q1
 refine ac ?_
 refine cy h1 rfl (Cr (XR) rfl rfl) ?_
 refine ac ?_
 refine ac ?_
 · refine bool_eq ?_;simp_all
 refine ac ?_
 refine ac ?_
 · refine bool_eq ?_;simp_all;omega
structure Ac where
 src:Int
 host:List UInt8
 machine:Int
 day:Int
 B5:Int
 kind:Int
 BM:List UInt8
 BI:Int
 bits:Int
 num:Int
 text:List UInt8
abbrev BZ (f:Ac):List Pr:=[int f.src,str f.host,int f.machine,int f.day,int f.B5,int f.kind,str f.BM,int f.BI,int f.bits,int f.num,str f.text]
abbrev Bu (l:List Ac):Pr:=slice 11 (l.map BZ)
structure Ac.fits (f:Ac):Prop where
 host:f.host.length≤maxLen
 BM:f.BM.length≤maxLen
 text:f.text.length≤maxLen
def B0 (f:Ac):Bool:=decide (f.BI=0∧f.bits=0)&&decide (f.text=[])
def AX (f:Ac):Bool:=
 if f.kind=1∨f.kind=8 then decide (Bk f.BI f.bits>0)&&decide (f.num=0)&&decide (f.text=[])
 else if f.kind=2 then B0 f&&decide (0≤f.num)&&decide (f.num≤65535)
 else if f.kind=3 then decide (Bk f.BI f.bits>0)&&(Cn f.BI).kind==2&&decide (0≤f.num)&&decide (f.num≤2147483648)&&decide (f.text=[])
 else if f.kind=4∨f.kind=5 then B0 f&&decide (1≤f.num)&&decide (f.num≤4)
 else if f.kind=6 then B0 f&&decide (0≤f.num)&&decide (f.num≤2147483648)
 else if f.kind=7 then decide (f.BI=0∧f.bits=0)&&decide (f.num=0)&&named f.text
 else false
def Cv (f:Ac):Bool:=named f.host&&named f.BM&&decide (0≤f.machine)&&decide (f.machine≤1099511627776)
def Dh (f:Ac):Bool:=decide (0≤f.day)&&decide (f.day≤40000)&&decide (1≤f.B5)&&decide (f.B5≤100)
def BV (f:Ac):Bool:=Cv f&&Dh f&&decide (1≤f.src)&&decide (f.src≤7)&&AX f
theorem SU {f:Ac} (hf:f.fits):BT prog 105 [agg (BZ f)] (bool (AX f)):=by
 refine fo func105 rfl ⟨rfl,rfl⟩ fun M0 w0=> ?_
 refine ac ?_
 refine CM 1 rfl (Tr.Gr [1] [(3,bool (B0 f))] (True) ?_ (fun h1=> ?_))
 refine ac ?_
 refine co rfl (Ng rfl (vl rfl) (vl rfl)) (cm rfl ?_)
 refine Ch.cs 8 rfl ?_ ?_<;>intro h2 q2
 refine ac ?_
 exact Fin.AE () (by simp_all) ⟨⟨_,rfl,bool_eq (by simp_all [B0])⟩,ke rfl,trivial⟩
 refine ac ?_
 exact Fin.AE () (by simp_all) ⟨⟨_,rfl,bool_eq (by simp_all [B0])⟩,ke rfl,trivial⟩
 refine ac ?_
 refine ac ?_
 refine Tr.cn rfl ?_ ?_<;>intro h3 q3
 refine ac ?_
 refine Tr.cond rfl (fun _=> ?_) (fun h=>nomatch h3.symm.trans h)
 refine ac ?_
 refine co rfl (Cr (Nl) rfl rfl) (cm rfl ?_)
 refine Ch.cs 21 rfl ?_ ?_<;>intro h4 q4
 refine ac ?_
 refine Ch.cs 26 rfl ?_ ?_<;>intro h5 q5
 refine ac ?_
 refine CM 2 rfl ?_
 refine ac ?_
 · refine bool_eq ?_;unfold AX;simp_all
 refine ac ?_
 refine CM 2 rfl ?_
 refine ac ?_
 · refine bool_eq ?_;unfold AX;simp_all
 refine ac ?_
 refine CM 2 rfl ?_
 refine ac ?_
 · refine bool_eq ?_;unfold AX;simp_all;omega
 refine ac ?_
 refine Tr.cn rfl ?_ ?_<;>intro h6 q6
 refine ac ?_
 refine co rfl (Cr (Nl) rfl rfl) (cm rfl ?_)
 refine Ch.cs 21 rfl ?_ ?_<;>intro h7 q7
 refine ac ?_
 refine Ch.cs 26 rfl ?_ ?_<;>intro h8 q8
 refine ac ?_
 refine CM 2 rfl ?_
 refine ac ?_
 · refine bool_eq ?_;unfold AX;simp_all
 refine ac ?_
 refine CM 2 rfl ?_
 refine ac ?_
 · refine bool_eq ?_;unfold AX;simp_all
 refine ac ?_
 refine CM 2 rfl ?_
 refine ac ?_
 · refine bool_eq ?_;unfold AX;simp_all;omega
 refine ac ?_
 refine Tr.cn rfl ?_ ?_<;>intro h9 q9
 refine ac ?_
 refine Ch.cs 34 rfl ?_ ?_<;>intro h10 SQ
 refine ac ?_
 refine Ch.cs 39 rfl ?_ ?_<;>intro h11 WV
 refine ac ?_
 refine CM 2 rfl ?_
 refine ac ?_
 · refine bool_eq ?_;unfold AX;simp_all
 refine ac ?_
 refine CM 2 rfl ?_
 refine ac ?_
 · refine bool_eq ?_;unfold AX;simp_all;omega
 refine ac ?_
 refine CM 2 rfl ?_
 refine ac ?_
 · refine bool_eq ?_;unfold AX;simp_all
 refine ac ?_
 refine Tr.cn rfl ?_ ?_<;>intro h12 SV
 refine ac ?_
 refine co rfl (Cr (Nl) rfl rfl) (cm rfl ?_)
 refine Ch.cs 49 rfl ?_ ?_<;>intro I7 Ud
 refine ac ?_
 refine cy I7 rfl (Cr (Zm) rfl rfl) ?_
 refine ac ?_
 refine Ch.cs 56 rfl ?_ ?_<;>intro Ue Zq
 refine ac ?_
 refine Ch.cs 61 rfl ?_ ?_<;>intro WW j0
 refine ac ?_
 refine Ch.cs 66 rfl ?_ ?_<;>intro h16 j4
 refine ac ?_
 refine CM 2 rfl ?_
 refine ac ?_
 · refine bool_eq ?_;unfold AX;simp_all
 refine ac ?_
 refine CM 2 rfl ?_
 refine ac ?_
 · refine bool_eq ?_;unfold AX;simp_all;omega
 refine ac ?_
 refine CM 2 rfl ?_
 refine ac ?_
 · refine bool_eq ?_;unfold AX;simp_all;omega
 refine ac ?_
 refine CM 2 rfl ?_
 refine ac ?_
 · refine bool_eq ?_;unfold AX;simp_all
 refine ac ?_
 refine CM 2 rfl ?_
 refine ac ?_
 · refine bool_eq ?_;unfold AX;simp_all;omega
 refine ac ?_
 refine Dp 1 3 14 71 rfl ?_
 refine Tr.cn rfl ?_ ?_<;>intro Ta iK
 refine ac ?_
 refine Tr.cond rfl (fun _=> ?_) (fun h=>nomatch Ta.symm.trans h)
 refine ac ?_
 refine Ch.cs 75 rfl ?_ ?_<;>intro Tc iL
 refine ac ?_
 refine Ch.cs 80 rfl ?_ ?_<;>intro XO iM
 refine ac ?_
 refine CM 2 rfl ?_
 refine ac ?_
 · refine bool_eq ?_;unfold AX;simp_all
 refine ac ?_
 refine CM 2 rfl ?_
 refine ac ?_
 · refine bool_eq ?_;unfold AX;simp_all;omega
 refine ac ?_
 refine CM 2 rfl ?_
 refine ac ?_
 · refine bool_eq ?_;unfold AX;simp_all
 refine ac ?_
 refine Tr.cn rfl ?_ ?_<;>intro lp lq
 refine ac ?_
 refine Ch.cs 75 rfl ?_ ?_<;>intro jz lu
 refine ac ?_
 refine Ch.cs 80 rfl ?_ ?_<;>intro nF nG
 refine ac ?_
 refine CM 2 rfl ?_
 refine ac ?_
 · refine bool_eq ?_;unfold AX;simp_all
 refine ac ?_
 refine CM 2 rfl ?_
 refine ac ?_
 · refine bool_eq ?_;unfold AX;simp_all;omega
 refine ac ?_
 refine CM 2 rfl ?_
 refine ac ?_
 · refine bool_eq ?_;unfold AX;simp_all
 refine ac ?_
 refine Tr.cn rfl ?_ ?_<;>intro h23 nH
 refine ac ?_
 refine Ch.cs 88 rfl ?_ ?_<;>intro nI nJ
 refine ac ?_
 refine Ch.cs 93 rfl ?_ ?_<;>intro nK nL
 refine ac ?_
 refine CM 2 rfl ?_
 refine ac ?_
 · refine bool_eq ?_;unfold AX;simp_all
 refine ac ?_
 refine CM 2 rfl ?_
 refine ac ?_
 · refine bool_eq ?_;unfold AX;simp_all;omega
 refine ac ?_
 refine CM 2 rfl ?_
 refine ac ?_
 · refine bool_eq ?_;unfold AX;simp_all
 refine ac ?_
 refine Tr.cn rfl ?_ ?_<;>intro lz nM
 refine ac ?_
 refine co rfl (Ng rfl (vl rfl) (vl rfl)) (cm rfl ?_)
 refine Ch.cs 104 rfl ?_ ?_<;>intro nN nO
 refine ac ?_
 refine Ch.cs 109 rfl ?_ ?_<;>intro l5 nP
 refine ac ?_
 refine cy l5 rfl (Cr (Ni hf.text) rfl rfl) ?_
 refine ac ?_
 refine CM 2 rfl ?_
 refine ac ?_
 · refine bool_eq ?_;unfold AX;simp_all
 refine ac ?_
 refine CM 2 rfl ?_
 refine ac ?_
 · refine bool_eq ?_;unfold AX;simp_all
 refine ac ?_
 refine CM 2 rfl ?_
 refine ac ?_
 · refine bool_eq ?_;unfold AX;simp_all
 refine ac ?_
 refine ac ?_
 refine ac ?_
 · refine bool_eq ?_;unfold AX;simp_all
theorem Uf {f:Ac} (hf:f.fits):BT prog 62 [agg (BZ f)] (int (if BV f then 0 else 24)):=by
 refine fo func62 rfl ⟨rfl,rfl⟩ fun M0 w0=> ?_
 refine ac ?_
 refine CM 1 rfl (Tr.Gr [1] [(3,bool (Cv f))] (True) ?_ (fun h1=> ?_))
 refine ac ?_
 refine co rfl (Cr (Ni hf.host) rfl rfl) (cm rfl ?_)
 refine Ch.cs 8 rfl ?_ ?_<;>intro h2 q2
 refine ac ?_
 refine cy h2 rfl (Cr (Ni hf.BM) rfl rfl) ?_
 refine ac ?_
 refine Ch.cs 13 rfl ?_ ?_<;>intro h3 q3
 refine ac ?_
 refine Ch.cs 18 rfl ?_ ?_<;>intro h4 q4
 refine ac ?_
 exact Fin.AE () (by simp_all) ⟨⟨_,rfl,bool_eq (by simp_all [Cv])⟩,ke rfl,trivial⟩
 refine ac ?_
 exact Fin.AE () (by simp_all) ⟨⟨_,rfl,bool_eq (by simp_all [Cv];omega)⟩,ke rfl,trivial⟩
 refine ac ?_
 exact Fin.AE () (by simp_all) ⟨⟨_,rfl,bool_eq (by simp_all [Cv])⟩,ke rfl,trivial⟩
 refine ac ?_
 exact Fin.AE () (by simp_all) ⟨⟨_,rfl,bool_eq (by simp_all [Cv])⟩,ke rfl,trivial⟩
 refine EK 1 3 rfl (Tr.Gr [1,3] [(4,bool (Dh f))] (True) ?_ (fun h5=> ?_))
 refine ac ?_
 refine Ch.cs 26 rfl ?_ ?_<;>intro h6 q6
 refine ac ?_
 refine Ch.cs 31 rfl ?_ ?_<;>intro h7 q7
 refine ac ?_
 refine Ch.cs 36 rfl ?_ ?_<;>intro h8 q8
 refine ac ?_
 exact Fin.AE () (by simp_all) ⟨⟨_,rfl,bool_eq (by simp_all [Dh])⟩,ke rfl,ke rfl,trivial⟩
 refine ac ?_
 exact Fin.AE () (by simp_all) ⟨⟨_,rfl,bool_eq (by simp_all [Dh];omega)⟩,ke rfl,ke rfl,trivial⟩
 refine ac ?_
 exact Fin.AE () (by simp_all) ⟨⟨_,rfl,bool_eq (by simp_all [Dh];omega)⟩,ke rfl,ke rfl,trivial⟩
 refine ac ?_
 exact Fin.AE () (by simp_all) ⟨⟨_,rfl,bool_eq (by simp_all [Dh];omega)⟩,ke rfl,ke rfl,trivial⟩
 refine ac ?_
 refine Ch.cs 43 rfl ?_ ?_<;>intro h9 q9
 refine ac ?_
 refine CM 61 rfl ?_
 refine ac ?_
 refine ac ?_
 · refine int_eq ?_;unfold BV;simp_all
 refine ac ?_
 refine Ch.cs 47 rfl ?_ ?_<;>intro h10 SQ
 refine ac ?_
 refine CM 61 rfl ?_
 refine ac ?_
 refine ac ?_
 · refine int_eq ?_;unfold BV;simp_all
 refine ac ?_
 refine Ch.cs 52 rfl ?_ ?_<;>intro h11 WV
 refine ac ?_
 refine CM 61 rfl ?_
 refine ac ?_
 refine ac ?_
 · refine int_eq ?_;unfold BV;simp_all;omega
 refine ac ?_
 refine Ch.cs 57 rfl ?_ ?_<;>intro h12 SV
 refine ac ?_
 refine CM 61 rfl ?_
 refine ac ?_
 refine ac ?_
 · refine int_eq ?_;unfold BV;simp_all;omega
 refine cy h12 rfl (Ad rfl BE AY (vl rfl) rfl rfl) (cy h12 rfl (Cr (SU (by assumption)) rfl rfl) ?_)
 refine ac ?_
 refine CM 61 rfl ?_
 refine Tr.cn rfl ?_ ?_<;>intro I7 Ud
 refine ac ?_
 refine ac ?_
 · refine int_eq ?_;unfold BV;simp_all
 refine ac ?_
 refine ac ?_
 refine ac ?_
 · refine int_eq ?_;unfold BV;simp_all
theorem H9 {f:Ac}  :BT prog 64 [agg (BZ f)] (int (if BV f then 0 else 24)):=by
 refine fo func64 rfl ⟨rfl,rfl⟩ fun M0 w0=> ?_
 refine ac ?_
 refine ac ?_
 refine Ch.cs 10 rfl ?_ ?_<;>intro h1 q1
 refine ac ?_
 refine EK 1 56 rfl ?_
 refine ac ?_
 refine ac ?_
 · refine int_eq ?_;unfold BV Cv Dh;simp_all;omega
 refine ac ?_
 refine Ch.cs 15 rfl ?_ ?_<;>intro h2 q2
 refine ac ?_
 refine EK 1 56 rfl ?_
 refine ac ?_
 refine ac ?_
 · refine int_eq ?_;unfold BV Cv Dh;simp_all;omega
 refine ac ?_
 refine cy h2 rfl (Cr (Nj) rfl rfl) ?_
 refine ac ?_
 refine Ch.cs 21 rfl ?_ ?_<;>intro h3 q3
 refine ac ?_
 refine EK 1 56 rfl ?_
 refine ac ?_
 refine ac ?_
 · refine int_eq ?_;unfold BV Cv Dh;simp_all
 refine ac ?_
 refine Ch.cs 26 rfl ?_ ?_<;>intro h4 q4
 refine ac ?_
 refine EK 1 56 rfl ?_
 refine ac ?_
 refine ac ?_
 · refine int_eq ?_;unfold BV Cv Dh;simp_all;omega
 refine ac ?_
 refine Ch.cs 31 rfl ?_ ?_<;>intro h5 q5
 refine ac ?_
 refine EK 1 56 rfl ?_
 refine ac ?_
 refine ac ?_
 · refine int_eq ?_;unfold BV Cv Dh;simp_all;omega
 refine ac ?_
 refine Ch.cs 36 rfl ?_ ?_<;>intro h6 q6
 refine ac ?_
 refine EK 1 56 rfl ?_
 refine ac ?_
 refine ac ?_
 · refine int_eq ?_;unfold BV Cv Dh;simp_all;omega
 refine ac ?_
 refine Ch.cs 41 rfl ?_ ?_<;>intro h7 q7
 refine ac ?_
 refine EK 1 56 rfl ?_
 refine ac ?_
 refine ac ?_
 · refine int_eq ?_;unfold BV Cv Dh;simp_all;omega
 refine ac ?_
 refine Ch.cs 46 rfl ?_ ?_<;>intro h8 q8
 refine ac ?_
 refine EK 1 56 rfl ?_
 refine ac ?_
 refine ac ?_
 · refine int_eq ?_;unfold BV Cv Dh;simp_all;omega
 refine ac ?_
 refine Ch.cs 51 rfl ?_ ?_<;>intro h9 q9
 refine ac ?_
 refine EK 1 56 rfl ?_
 refine ac ?_
 refine ac ?_
 · refine int_eq ?_;unfold BV Cv Dh;simp_all;omega
 refine ac ?_
 refine cy h9 rfl (Cr (Nj) rfl rfl) ?_
 refine ac ?_
 refine EK 1 56 rfl ?_
 refine Tr.cn rfl ?_ ?_<;>intro h10 SQ
 refine ac ?_
 refine ac ?_
 · refine int_eq ?_;unfold BV Cv Dh;simp_all
 refine ac ?_
 refine ac ?_
 refine co rfl (Ng rfl (vl rfl) (vl rfl)) ?_
 refine ac ?_
 refine Dp 1 3 4 5 rfl ?_
 refine ac ?_
 refine Tr.Gr [] [(6,bool (AX f))] (True) ?_ (fun h11=> ?_)
 refine ac ?_
 refine ac ?_
 refine Tr.cn rfl ?_ ?_<;>intro h12 SV
 refine ac ?_
 refine Tr.cond rfl (fun _=> ?_) (fun h=>nomatch h12.symm.trans h)
 refine ac ?_
 refine co rfl (Cr (LI) rfl rfl) (cm rfl ?_)
 refine Ch.cs 75 rfl ?_ ?_<;>intro I7 Ud
 refine ac ?_
 refine Ch.cs 78 rfl ?_ ?_<;>intro Ue Zq
 refine ac ?_
 exact Fin.AE () (by simp_all) ⟨⟨_,rfl,bool_eq (by unfold AX B0;simp_all)⟩,trivial⟩
 refine ac ?_
 exact Fin.AE () (by simp_all) ⟨⟨_,rfl,bool_eq (by unfold AX B0;simp_all)⟩,trivial⟩
 refine ac ?_
 exact Fin.AE () (by simp_all) ⟨⟨_,rfl,bool_eq (by unfold AX B0;simp_all;omega)⟩,trivial⟩
 refine ac ?_
 refine Tr.cn rfl ?_ ?_<;>intro WW j0
 refine ac ?_
 refine co rfl (Cr (LI) rfl rfl) (cm rfl ?_)
 refine Ch.cs 75 rfl ?_ ?_<;>intro h16 j4
 refine ac ?_
 refine Ch.cs 78 rfl ?_ ?_<;>intro Ta iK
 refine ac ?_
 exact Fin.AE () (by simp_all) ⟨⟨_,rfl,bool_eq (by unfold AX B0;simp_all)⟩,trivial⟩
 refine ac ?_
 exact Fin.AE () (by simp_all) ⟨⟨_,rfl,bool_eq (by unfold AX B0;simp_all)⟩,trivial⟩
 refine ac ?_
 exact Fin.AE () (by simp_all) ⟨⟨_,rfl,bool_eq (by unfold AX B0;simp_all;omega)⟩,trivial⟩
 refine ac ?_
 refine Tr.cn rfl ?_ ?_<;>intro Tc iL
 refine ac ?_
 refine Ch.cs 84 rfl ?_ ?_<;>intro XO iM
 refine ac ?_
 refine Ch.cs 89 rfl ?_ ?_<;>intro lp lq
 refine ac ?_
 refine Ch.cs 94 rfl ?_ ?_<;>intro jz lu
 refine ac ?_
 exact Fin.AE () (by simp_all) ⟨⟨_,rfl,bool_eq (by unfold AX B0;simp_all)⟩,trivial⟩
 refine ac ?_
 exact Fin.AE () (by simp_all) ⟨⟨_,rfl,bool_eq (by unfold AX B0;simp_all)⟩,trivial⟩
 refine ac ?_
 exact Fin.AE () (by simp_all) ⟨⟨_,rfl,bool_eq (by unfold AX B0;simp_all;omega)⟩,trivial⟩
 refine ac ?_
 exact Fin.AE () (by simp_all) ⟨⟨_,rfl,bool_eq (by unfold AX B0;simp_all)⟩,trivial⟩
 refine ac ?_
 refine Ea 1 3 4 5 6 68 97 rfl ?_
 refine Tr.cn rfl ?_ ?_<;>intro nF nG
 refine ac ?_
 refine co rfl (Cr (Oq) rfl rfl) (cm rfl ?_)
 refine Ch.cs 102 rfl ?_ ?_<;>intro h23 nH
 refine ac ?_
 refine Ch.cs 107 rfl ?_ ?_<;>intro nI nJ
 refine ac ?_
 refine Ch.cs 112 rfl ?_ ?_<;>intro nK nL
 refine ac ?_
 exact Fin.AE () (by simp_all) ⟨⟨_,rfl,bool_eq (by unfold AX B0;simp_all)⟩,trivial⟩
 refine ac ?_
 exact Fin.AE () (by simp_all) ⟨⟨_,rfl,bool_eq (by unfold AX B0;simp_all;omega)⟩,trivial⟩
 refine ac ?_
 exact Fin.AE () (by simp_all) ⟨⟨_,rfl,bool_eq (by unfold AX B0;simp_all;omega)⟩,trivial⟩
 refine ac ?_
 exact Fin.AE () (by simp_all) ⟨⟨_,rfl,bool_eq (by unfold AX B0;simp_all)⟩,trivial⟩
 refine ac ?_
 refine Tr.cn rfl ?_ ?_<;>intro lz nM
 refine ac ?_
 refine Tr.cond rfl (fun _=> ?_) (fun h=>nomatch lz.symm.trans h)
 refine ac ?_
 refine Ch.cs 119 rfl ?_ ?_<;>intro nN nO
 refine ac ?_
 refine Ch.cs 124 rfl ?_ ?_<;>intro l5 nP
 refine ac ?_
 refine Ch.cs 129 rfl ?_ ?_<;>intro h29 q29
 refine ac ?_
 exact Fin.AE () (by simp_all) ⟨⟨_,rfl,bool_eq (by unfold AX B0;simp_all)⟩,trivial⟩
 refine ac ?_
 exact Fin.AE () (by simp_all) ⟨⟨_,rfl,bool_eq (by unfold AX B0;simp_all)⟩,trivial⟩
 refine ac ?_
 exact Fin.AE () (by simp_all) ⟨⟨_,rfl,bool_eq (by unfold AX B0;simp_all;omega)⟩,trivial⟩
 refine ac ?_
 exact Fin.AE () (by simp_all) ⟨⟨_,rfl,bool_eq (by unfold AX B0;simp_all)⟩,trivial⟩
 refine ac ?_
 refine Tr.cn rfl ?_ ?_<;>intro h30 q30
 refine ac ?_
 refine Ch.cs 119 rfl ?_ ?_<;>intro h31 q31
 refine ac ?_
 refine Ch.cs 124 rfl ?_ ?_<;>intro h32 q32
 refine ac ?_
 refine Ch.cs 129 rfl ?_ ?_<;>intro h33 q33
 refine ac ?_
 exact Fin.AE () (by simp_all) ⟨⟨_,rfl,bool_eq (by unfold AX B0;simp_all)⟩,trivial⟩
 refine ac ?_
 exact Fin.AE () (by simp_all) ⟨⟨_,rfl,bool_eq (by unfold AX B0;simp_all)⟩,trivial⟩
 refine ac ?_
 exact Fin.AE () (by simp_all) ⟨⟨_,rfl,bool_eq (by unfold AX B0;simp_all;omega)⟩,trivial⟩
 refine ac ?_
 exact Fin.AE () (by simp_all) ⟨⟨_,rfl,bool_eq (by unfold AX B0;simp_all)⟩,trivial⟩
 refine ac ?_
 refine Tr.cn rfl ?_ ?_<;>intro h34 q34
 refine ac ?_
 refine Ch.cs 135 rfl ?_ ?_<;>intro h35 q35
 refine ac ?_
 refine Ch.cs 140 rfl ?_ ?_<;>intro h36 q36
 refine ac ?_
 refine Ch.cs 145 rfl ?_ ?_<;>intro h37 q37
 refine ac ?_
 exact Fin.AE () (by simp_all) ⟨⟨_,rfl,bool_eq (by unfold AX B0;simp_all)⟩,trivial⟩
 refine ac ?_
 exact Fin.AE () (by simp_all) ⟨⟨_,rfl,bool_eq (by unfold AX B0;simp_all)⟩,trivial⟩
 refine ac ?_
 exact Fin.AE () (by simp_all) ⟨⟨_,rfl,bool_eq (by unfold AX B0;simp_all;omega)⟩,trivial⟩
 refine ac ?_
 exact Fin.AE () (by simp_all) ⟨⟨_,rfl,bool_eq (by unfold AX B0;simp_all)⟩,trivial⟩
 refine ac ?_
 refine EL 1 3 4 6 148 rfl ?_
 refine Tr.cn rfl ?_ ?_<;>intro h38 q38
 refine ac ?_
 refine Ch.cs 151 rfl ?_ ?_<;>intro h39 q39
 refine ac ?_
 refine Ch.cs 154 rfl ?_ ?_<;>intro nQ q40
 refine ac ?_
 refine cy nQ rfl (Cr (Nj) rfl rfl) ?_
 refine ac ?_
 exact Fin.AE () (by simp_all) ⟨⟨_,rfl,bool_eq (by unfold AX B0;simp_all)⟩,trivial⟩
 refine ac ?_
 exact Fin.AE () (by simp_all) ⟨⟨_,rfl,bool_eq (by unfold AX B0;simp_all)⟩,trivial⟩
 refine ac ?_
 exact Fin.AE () (by simp_all) ⟨⟨_,rfl,bool_eq (by unfold AX B0;simp_all)⟩,trivial⟩
 refine Tr.skip (Fin.block ?_)
 exact Fin.AE () (by simp_all) ⟨⟨_,rfl,bool_eq (by unfold AX B0;simp_all)⟩,trivial⟩
 refine ac ?_
 refine Tr.cn rfl ?_ ?_<;>intro h41 q41
 refine ac ?_
 refine ac ?_
 · refine int_eq ?_;unfold BV Cv Dh;simp_all
 refine ac ?_
 refine ac ?_
 refine ac ?_
 · refine int_eq ?_;unfold BV Cv Dh;simp_all
def Fq:List Int→Int
 |[]=>0
 |a::l=>if a=0 then Fq l else a
theorem KQ:∀l,bO l=Fq l
 |[]=>rfl
 |a::l=>by
  have ih:(l.find? fun x=>x !=0).getD 0=Fq l:=KQ l
  show ((a::l).find? fun x=>x !=0).getD 0=if a=0 then Fq l else a
  by_cases h:a=0
  · rw [List.find?_cons_of_neg (by simp [h]),if_pos h];exact ih
  · rw [List.find?_cons_of_pos (by simpa using h),if_neg h];rfl
def El (a b:Ac):List Int:=[Lib.compareBytes a.host b.host,Ar a.machine b.machine,Ar a.day b.day,Lib.compareBytes a.BM b.BM,Ar a.kind b.kind,Ar a.BI b.BI,Ar a.bits b.bits,Ar a.num b.num,Lib.compareBytes a.text b.text,Ar a.src b.src,Ar a.B5 b.B5]
def D1 (a b:Ac):Int:=Fq (El a b)
theorem XS {a b:List UInt8}  :BT prog 146 [str a,str b] (int (Lib.compareBytes a b)):=by
 refine fo func146 rfl ⟨rfl,rfl⟩ fun M0 w0=> ?_
 · repeat' first|(refine int_eq ?_;have h9:=JH a b;simp_all)|refine co rfl (QC rfl (vl rfl) (vl rfl)) ?_|refine co rfl (Za rfl (vl rfl) (vl rfl)) ?_|refine ac ?_|(refine Tr.cn rfl ?_ ?_<;>intro h q)
def LJ:List Int→List Int→Int
 |a::l,b::m=>if Ar a b=0 then LJ l m else Ar a b
 |_,_=>0
theorem QM {a b:List Int} {k:Nat} {x y:Int} (hx:a[k]? =some x) (hy:b[k]? =some y):LJ (a.drop k) (b.drop k)=if Ar x y=0 then LJ (a.drop (k+1)) (b.drop (k+1)) else Ar x y:=by
 rw [drop_cons hx,drop_cons hy];rfl
theorem Nn {a b:List Int} (hl:a.length≤b.length):BT prog 147 [ints a,ints b] (int (LJ a b)):=by
 refine fo func147 rfl ⟨rfl,rfl⟩ fun M0 w0=>(Tr.D9 0 rfl fun Dg=> ?_)
 refine a2 ?_
 refine Tr.block (Tr.BU [(0,_),(1,_)] (RC rfl) (fun k:Nat=>[(5,int ((k:Nat):Int))]) (fun k:Nat=>k≤(a).length∧(LJ a b=LJ (a.drop k) (b.drop k))) (fun k:Nat=>(a).length-k) 0 (⟨Nat.zero_le _,rfl⟩) ⟨ke rfl,trivial⟩ ?_)
 rintro k ⟨Cb,Ap⟩
 refine an ?_ ?_<;>intro h1 q1
 have Az:k<(a).length:=Ak h1
 obtain ⟨x,A7⟩:=at_ Az
 obtain ⟨y,hy⟩:=at_ (l:=b) (k:=k) (by omega)
 have hst:=QM A7 hy
 · repeat' first|(refine int_eq ?_;rw [Ap,hst];unfold Ar;(repeat (first|rw [if_pos (by omega)]|rw [if_neg (by omega)])))|(exact Fin.AE (k+1) ⟨⟨Az,(Ap.trans (hst.trans (if_pos (by rw [BK];omega))))⟩,by omega⟩ ⟨⟨_,rfl,AJ k⟩,ke rfl,ke rfl,trivial⟩)|refine co rfl (AB rfl underlying22 A4 (vl rfl) (vl rfl) (by omega) (by exact Am (by assumption))) ?_|refine ac ?_|(refine Tr.cn rfl ?_ ?_<;>intro h q)
 have B2:k=(a).length:=by have:=Ao h1;omega
 subst B2
 refine a3 ?_
 · refine int_eq ?_;rw [Ap,List.drop_length];cases b<;>rfl
theorem LK {a:Int} {l:List Int} (h:¬a=0):Fq (a::l)=a:=if_neg h
theorem Cw {a:Int} {l:List Int} (h:a=0):Fq (a::l)=Fq l:=if_pos h
theorem XT (a b c d:Int):LJ [a,b] [c,d]=Fq [Ar a c,Ar b d]:=by
 show (if Ar a c=0 then (if Ar b d=0 then 0 else Ar b d) else Ar a c)=if Ar a c=0 then (if Ar b d=0 then 0 else Ar b d) else Ar a c
 rfl
theorem KR:∀(l m:List Int),Fq (l++m)=if Fq l=0 then Fq m else Fq l
 |[],m=>by simp [Fq]
 |a::l,m=>by
  have ih:=KR l m
  show (if a=0 then Fq (l++m) else a)=if (if a=0 then Fq l else a)=0 then Fq m else (if a=0 then Fq l else a)
  by_cases h:a=0
  · simp only [h,if_true];exact ih
  · simp [h]
theorem HO (a b:Ac):D1 a b=Fq [Lib.compareBytes a.host b.host,Fq [Ar a.machine b.machine,Ar a.day b.day],Lib.compareBytes a.BM b.BM,Fq [Ar a.kind b.kind,Ar a.BI b.BI,Ar a.bits b.bits,Ar a.num b.num],Lib.compareBytes a.text b.text,Fq [Ar a.src b.src,Ar a.B5 b.B5]]:=by
 have h:∀(l:List Int) (m n:List Int),Fq (m++(Fq l::n))=Fq (m++(l++n)):=by
  intro l m n
  rw [KR,KR m,KR l n];rfl
 unfold D1 El
 have e1:=h [Ar a.machine b.machine,Ar a.day b.day] [Lib.compareBytes a.host b.host] [Lib.compareBytes a.BM b.BM,Fq [Ar a.kind b.kind,Ar a.BI b.BI,Ar a.bits b.bits,Ar a.num b.num],Lib.compareBytes a.text b.text,Fq [Ar a.src b.src,Ar a.B5 b.B5]]
 have e2:=h [Ar a.kind b.kind,Ar a.BI b.BI,Ar a.bits b.bits,Ar a.num b.num] [Lib.compareBytes a.host b.host,Ar a.machine b.machine,Ar a.day b.day,Lib.compareBytes a.BM b.BM] [Lib.compareBytes a.text b.text,Fq [Ar a.src b.src,Ar a.B5 b.B5]]
 have e3:=h [Ar a.src b.src,Ar a.B5 b.B5] [Lib.compareBytes a.host b.host,Ar a.machine b.machine,Ar a.day b.day,Lib.compareBytes a.BM b.BM,Ar a.kind b.kind,Ar a.BI b.BI,Ar a.bits b.bits,Ar a.num b.num,Lib.compareBytes a.text b.text] []
 exact (e1.trans (e2.trans e3)).symm
theorem Db {a b:Ac}  :BT prog 96 [agg (BZ a),agg (BZ b)] (int (D1 a b)):=by
 refine fo func96 rfl ⟨rfl,rfl⟩ fun M0 w0=> ?_
 · repeat' first|(refine int_eq ?_;rw [HO];exact (LK (by assumption)).symm)|(refine int_eq ?_;rw [HO];rw [Cw (by assumption)];exact (LK (by assumption)).symm)|(refine int_eq ?_;rw [HO];rw [Cw (by assumption),Cw (by assumption)];exact (LK (by assumption)).symm)|(refine int_eq ?_;rw [HO];rw [Cw (by assumption),Cw (by assumption),Cw (by assumption)];exact (LK (by assumption)).symm)|(refine int_eq ?_;rw [HO];rw [Cw (by assumption),Cw (by assumption),Cw (by assumption),Cw (by assumption)];exact (LK (by assumption)).symm)|(refine int_eq ?_;rw [HO,Cw (by assumption),Cw (by assumption),Cw (by assumption),Cw (by assumption),Cw (by assumption)];rw [XT];unfold Fq;split<;>simp_all [Fq])|refine co rfl (Ah rfl (Nn (a:=[a.machine,a.day]) (b:=[b.machine,b.day]) (by simp)) ⟨(Kf rfl),(Kf rfl),trivial⟩) ?_|refine co rfl (Ah rfl (Nn (a:=[a.kind,a.BI,a.bits,a.num]) (b:=[b.kind,b.BI,b.bits,b.num]) (by simp)) ⟨(Kf rfl),(Kf rfl),trivial⟩) ?_|refine co rfl (Ah rfl (Nn (a:=[a.src,a.B5]) (b:=[b.src,b.B5]) (by simp)) ⟨(Kf rfl),(Kf rfl),trivial⟩) ?_|refine co rfl (EE (XS) rfl rfl rfl) ?_|refine ac ?_|(refine Tr.cn rfl ?_ ?_<;>intro h q)
theorem eL {f:Ac}  :BT prog 116 [agg (BZ f)] (str f.host):=by
 refine fo func116 rfl ⟨rfl,rfl⟩ fun M0 w0=> ?_
 refine a3 ?_
 · exact Lr
theorem eM:Entry Tryz.prog 116:=⟨_,Tryz.func116,rfl,rfl⟩
theorem eN {f:Ac}  :BT prog 117 [agg (BZ f)] (int f.machine):=by
 refine fo func117 rfl ⟨rfl,rfl⟩ fun M0 w0=> ?_
 refine a3 ?_
 · exact Lr
theorem eO:Entry Tryz.prog 117:=⟨_,Tryz.func117,rfl,rfl⟩
theorem eP {f:Ac}  :BT prog 118 [agg (BZ f)] (int f.day):=by
 refine fo func118 rfl ⟨rfl,rfl⟩ fun M0 w0=> ?_
 refine a3 ?_
 · exact Lr
theorem eR:Entry Tryz.prog 118:=⟨_,Tryz.func118,rfl,rfl⟩
theorem eS {f:Ac}  :BT prog 119 [agg (BZ f)] (str f.BM):=by
 refine fo func119 rfl ⟨rfl,rfl⟩ fun M0 w0=> ?_
 refine a3 ?_
 · exact Lr
theorem eT:Entry Tryz.prog 119:=⟨_,Tryz.func119,rfl,rfl⟩
theorem eU {f:Ac}  :BT prog 120 [agg (BZ f)] (int f.kind):=by
 refine fo func120 rfl ⟨rfl,rfl⟩ fun M0 w0=> ?_
 refine a3 ?_
 · exact Lr
theorem eV:Entry Tryz.prog 120:=⟨_,Tryz.func120,rfl,rfl⟩
theorem eW {f:Ac}  :BT prog 121 [agg (BZ f)] (int f.BI):=by
 refine fo func121 rfl ⟨rfl,rfl⟩ fun M0 w0=> ?_
 refine a3 ?_
 · exact Lr
theorem eX:Entry Tryz.prog 121:=⟨_,Tryz.func121,rfl,rfl⟩
theorem eY {f:Ac}  :BT prog 122 [agg (BZ f)] (int f.bits):=by
 refine fo func122 rfl ⟨rfl,rfl⟩ fun M0 w0=> ?_
 refine a3 ?_
 · exact Lr
theorem eZ:Entry Tryz.prog 122:=⟨_,Tryz.func122,rfl,rfl⟩
theorem Zr {f:Ac}  :BT prog 123 [agg (BZ f)] (int f.num):=by
 refine fo func123 rfl ⟨rfl,rfl⟩ fun M0 w0=> ?_
 refine a3 ?_
 · exact Lr
theorem Zs:Entry Tryz.prog 123:=⟨_,Tryz.func123,rfl,rfl⟩
theorem Zt {f:Ac}  :BT prog 124 [agg (BZ f)] (str f.text):=by
 refine fo func124 rfl ⟨rfl,rfl⟩ fun M0 w0=> ?_
 refine a3 ?_
 · exact Lr
theorem Zu:Entry Tryz.prog 124:=⟨_,Tryz.func124,rfl,rfl⟩
theorem Zv {f:Ac}  :BT prog 125 [agg (BZ f)] (int f.src):=by
 refine fo func125 rfl ⟨rfl,rfl⟩ fun M0 w0=> ?_
 refine a3 ?_
 · exact Lr
theorem Zw:Entry Tryz.prog 125:=⟨_,Tryz.func125,rfl,rfl⟩
theorem Zx {f:Ac}  :BT prog 126 [agg (BZ f)] (int f.B5):=by
 refine fo func126 rfl ⟨rfl,rfl⟩ fun M0 w0=> ?_
 refine a3 ?_
 · exact Lr
theorem Zy:Entry Tryz.prog 126:=⟨_,Tryz.func126,rfl,rfl⟩
theorem ec {g:Ac→Int} {a b:Ac}  :BT prog 112 [ref [Gh prog (fun f:Ac=>[agg (BZ f)]) (fun f=>int (g f))],ref (BZ a),ref (BZ b)] (int (Ar (g a) (g b))):=by
 refine fo func112 rfl ⟨rfl,rfl⟩ fun M0 w0=> ?_
 refine a2 ?_
 refine co rfl (A9 a rfl (vl rfl) ⟨ke rfl,trivial⟩) ?_
 refine ac ?_
 refine co rfl (A9 b rfl (vl rfl) ⟨ke rfl,trivial⟩) (co rfl (EE (LG) rfl rfl rfl) ?_)
 refine a2 ?_
 · exact Lr
theorem ej:Entry Tryz.prog 112:=⟨_,Tryz.func112,rfl,rfl⟩
theorem eo {g:Ac→List UInt8} {a b:Ac}  :BT prog 114 [ref [Gh prog (fun f:Ac=>[agg (BZ f)]) (fun f=>str (g f))],ref (BZ a),ref (BZ b)] (int (Lib.compareBytes (g a) (g b))):=by
 refine fo func114 rfl ⟨rfl,rfl⟩ fun M0 w0=> ?_
 refine a2 ?_
 refine co rfl (A9 a rfl (vl rfl) ⟨ke rfl,trivial⟩) ?_
 refine ac ?_
 refine co rfl (A9 b rfl (vl rfl) ⟨ke rfl,trivial⟩) (co rfl (EE (QI) rfl rfl rfl) ?_)
 refine a2 ?_
 · exact Lr
theorem ep:Entry Tryz.prog 114:=⟨_,Tryz.func114,rfl,rfl⟩
theorem j5 {g:Ac→Int} {a b:Ac}  :BT prog 111 [Gh prog (fun f:Ac=>[agg (BZ f)]) (fun f=>int (g f)),ref (BZ a),ref (BZ b)] (Gh prog (fun _:Unit=>[]) (fun _=>int (Ar (g a) (g b)))):=by
 refine fo func111 rfl ⟨rfl,rfl⟩ fun M0 w0=> ?_
 refine a3 ?_
 · exact Bi ej (fun _=>ec)
theorem j6:Entry Tryz.prog 111:=⟨_,Tryz.func111,rfl,rfl⟩
theorem j7 {g:Ac→List UInt8} {a b:Ac}  :BT prog 113 [Gh prog (fun f:Ac=>[agg (BZ f)]) (fun f=>str (g f)),ref (BZ a),ref (BZ b)] (Gh prog (fun _:Unit=>[]) (fun _=>int (Lib.compareBytes (g a) (g b)))):=by
 refine fo func113 rfl ⟨rfl,rfl⟩ fun M0 w0=> ?_
 refine a3 ?_
 · exact Bi ep (fun _=>eo)
theorem j8:Entry Tryz.prog 113:=⟨_,Tryz.func113,rfl,rfl⟩
theorem Ug {a b:Ac} {k:Nat} {x:Int} (hx:(El a b)[k]? =some x) (h0:¬x=0) (h:∀j y,j<k→(El a b)[j]? =some y→(y !=0)=false):x=D1 a b:=by
 have:=RW hx h0 h;rw [KQ] at this;exact this
theorem SW {a b:Ac} (h:∀j y,j<(El a b).length→(El a b)[j]? =some y→(y !=0)=false):0=D1 a b:=by
 have:=On h;rw [KQ] at this;exact this
theorem Uh {a b:Ac}  :BT prog 70 [agg (BZ a),agg (BZ b)] (int (D1 a b)):=by
 refine fo func70 rfl ⟨rfl,rfl⟩ fun M0 w0=> ?_
 refine a3 ?_
 refine Tr.seq (Tr.seq (Tr.re 5 rfl (Bi (dom:=fun g:Ac→Int=>[Gh prog (fun f:Ac=>[agg (BZ f)]) (fun f=>int (g f))]) (res:=fun g=>Gh prog (fun _:Unit=>[]) (fun _=>int (Ar (g a) (g b)))) j6 (fun g=>j5 (g:=g) (a:=a) (b:=b))) (Tr.re 6 rfl (Bi (dom:=fun g:Ac→List UInt8=>[Gh prog (fun f:Ac=>[agg (BZ f)]) (fun f=>str (g f))]) (res:=fun g=>Gh prog (fun _:Unit=>[]) (fun _=>int (Lib.compareBytes (g a) (g b)))) j8 (fun g=>j7 (g:=g) (a:=a) (b:=b))) ?_)))
 refine ac ?_
 refine co rfl (A9 (fun f:Ac=>f.host) rfl (vl rfl) ⟨⟨_,rfl,Bi (dom:=fun f:Ac=>[agg (BZ f)]) (res:=fun f=>str f.host) eM (fun f=>eL (f:=f))⟩,trivial⟩) (cm rfl (co rfl (A9 (fun f:Ac=>f.machine) rfl (vl rfl) ⟨⟨_,rfl,Bi (dom:=fun f:Ac=>[agg (BZ f)]) (res:=fun f=>int f.machine) eO (fun f=>eN (f:=f))⟩,trivial⟩) (cm rfl (co rfl (A9 (fun f:Ac=>f.day) rfl (vl rfl) ⟨⟨_,rfl,Bi (dom:=fun f:Ac=>[agg (BZ f)]) (res:=fun f=>int f.day) eR (fun f=>eP (f:=f))⟩,trivial⟩) (cm rfl (co rfl (A9 (fun f:Ac=>f.BM) rfl (vl rfl) ⟨⟨_,rfl,Bi (dom:=fun f:Ac=>[agg (BZ f)]) (res:=fun f=>str f.BM) eT (fun f=>eS (f:=f))⟩,trivial⟩) (cm rfl (co rfl (A9 (fun f:Ac=>f.kind) rfl (vl rfl) ⟨⟨_,rfl,Bi (dom:=fun f:Ac=>[agg (BZ f)]) (res:=fun f=>int f.kind) eV (fun f=>eU (f:=f))⟩,trivial⟩) (cm rfl (co rfl (A9 (fun f:Ac=>f.BI) rfl (vl rfl) ⟨⟨_,rfl,Bi (dom:=fun f:Ac=>[agg (BZ f)]) (res:=fun f=>int f.BI) eX (fun f=>eW (f:=f))⟩,trivial⟩) (cm rfl (co rfl (A9 (fun f:Ac=>f.bits) rfl (vl rfl) ⟨⟨_,rfl,Bi (dom:=fun f:Ac=>[agg (BZ f)]) (res:=fun f=>int f.bits) eZ (fun f=>eY (f:=f))⟩,trivial⟩) (cm rfl ?_)))))))))))))
 refine co rfl (A9 (fun f:Ac=>f.num) rfl (vl rfl) ⟨⟨_,rfl,Bi (dom:=fun f:Ac=>[agg (BZ f)]) (res:=fun f=>int f.num) Zs (fun f=>Zr (f:=f))⟩,trivial⟩) (cm rfl (co rfl (A9 (fun f:Ac=>f.text) rfl (vl rfl) ⟨⟨_,rfl,Bi (dom:=fun f:Ac=>[agg (BZ f)]) (res:=fun f=>str f.text) Zu (fun f=>Zt (f:=f))⟩,trivial⟩) (cm rfl (co rfl (A9 (fun f:Ac=>f.src) rfl (vl rfl) ⟨⟨_,rfl,Bi (dom:=fun f:Ac=>[agg (BZ f)]) (res:=fun f=>int f.src) Zw (fun f=>Zv (f:=f))⟩,trivial⟩) (cm rfl (co rfl (A9 (fun f:Ac=>f.B5) rfl (vl rfl) ⟨⟨_,rfl,Bi (dom:=fun f:Ac=>[agg (BZ f)]) (res:=fun f=>int f.B5) Zy (fun f=>Zx (f:=f))⟩,trivial⟩) (co rfl (AM (xs:=[.tmp 13,.tmp 15,.tmp 17,.tmp 19,.tmp 21,.tmp 23,.tmp 25,.tmp 27,.tmp 29,.tmp 31,.tmp 33]) (rows:=[[_],[_],[_],[_],[_],[_],[_],[_],[_],[_],[_]]) rfl rfl underlying149 Yb jC rfl (by decide) ⟨⟨(by exact rfl),(Vo rfl)⟩,⟨⟨(by exact rfl),(Vo rfl)⟩,⟨⟨(by exact rfl),(Vo rfl)⟩,⟨⟨(by exact rfl),(Vo rfl)⟩,⟨⟨(by exact rfl),(Vo rfl)⟩,⟨⟨(by exact rfl),(Vo rfl)⟩,⟨⟨(by exact rfl),(Vo rfl)⟩,⟨⟨(by exact rfl),(Vo rfl)⟩,⟨⟨(by exact rfl),(Vo rfl)⟩,⟨⟨(by exact rfl),(Vo rfl)⟩,⟨⟨(by exact rfl),(Vo rfl)⟩,trivial⟩⟩⟩⟩⟩⟩⟩⟩⟩⟩⟩ (by decide)) ?_)))))))
 refine co rfl (Gw rfl underlying149 (Kf rfl)) ?_
 refine ac ?_
 refine Py 34 35 36 rfl (Tr.block (Tr.re 34 rfl (Pr.le_trans (Bh _ _) (Pr.le_of_eq (show _=slice 1 ((El a b).map fun k=>[Gh prog (fun _:Unit=>[]) (fun _=>int (k))]) from rfl))) (Tr.re 35 rfl (int_eq (b:=(((El a b).length:Nat):Int)) rfl) ?_)))
 refine Tr.BU [(34,_),(35,_)] (RC rfl) (fun k:Nat=>[(36,int ((k:Nat):Int))]) (fun k:Nat=>k≤(El a b).length∧(∀j y,j<k→(El a b)[j]? =some y→(y !=0)=false)) (fun k:Nat=>(El a b).length-k) 0 (⟨Nat.zero_le _,fun j y hj=>absurd hj (by omega)⟩) ⟨ke rfl,trivial⟩ ?_
 rintro k ⟨Cb,Ap⟩
 refine ac ?_
 refine Tr.seq ?_
 refine Tr.cn rfl ?_ ?_<;>intro h1 q1
 have Az:k<(El a b).length:=Ak h1
 obtain ⟨x,A7⟩:=at_ Az
 have hL:k<11:=Az
 refine ac ?_
 refine Tr.seq (Tr.block (Tr.seq (Tr.Ax (co rfl (AB rfl underlying149 Yb (vl rfl) (vl rfl) (by omega) (Am (f:=fun k=>[Gh prog (fun _:Unit=>[]) (fun _=>int (k))]) A7)) ?_))))
 · repeat' first|exact int_eq (Ug A7 (by assumption) Ap)|exact Fin.AE (k+1) ⟨⟨Az,Fa (p:=fun y=>y !=0) A7 (by simpa using by assumption) Ap⟩,by omega⟩ ⟨⟨_,rfl,AJ k⟩,ke rfl,ke rfl,trivial⟩|refine co rfl (A9 () rfl (vl rfl) trivial) ?_|refine ac ?_|(refine Tr.cn rfl ?_ ?_<;>intro h q)
 have B2:k=(El a b).length:=by have:=Ao h1;omega
 subst B2
 refine a3 ?_
 · exact int_eq (SW Ap)
def J8 (l:List Ac):Prop:=∀(j:Nat) a b,l[j]? =some a→l[j+1]? =some b→D1 a b<0
structure BO (l:List Ac):Prop where
 check:∀f∈l,BV f=true
 j9:J8 l
 len:l.length≤400
abbrev Ot (l:List Ac) (k:Nat):Prop:=∀(j:Nat) a b,j+1<k→l[j]? =some a→l[j+1]? =some b→D1 a b<0
theorem Ig {l:List Ac} {k:Nat} {x:Ac} (hx:l[k]? =some x) (hp:∀y,0<k→l[k-1]? =some y→D1 y x<0) (h:Ot l k):Ot l (k+1):=by
 intro j a b hj ha hb
 by_cases hjk:j+1=k
 ·
  subst hjk
  rw [hx] at hb;cases hb
  exact hp a (by omega) (by simpa using ha)
 · exact h j a b (by omega) ha hb
abbrev Ui (l:List Ac) (k:Nat):Prop:=∀(j:Nat) y,j<k→l[j]? =some y→BV y=true
theorem KS {l:List Ac} {k:Nat} {x:Ac} (hx:l[k]? =some x) (hp:BV x=true) (h:Ui l k):Ui l (k+1):=by
 intro j y hj hy
 by_cases hjk:j=k
 · subst hjk;rw [hx] at hy;cases hy;exact hp
 · exact h j y (by omega) hy
theorem Uj {l:List Ac} (h:Ui l l.length):∀f∈l,BV f=true:=by
 intro f hf
 obtain ⟨j,hj⟩:=List.mem_iff_getElem?.1 hf
 exact h j f (by rcases Nat.lt_or_ge j l.length with h'|h';exact h';rw [List.getElem?_eq_none h'] at hj;cases hj) hj
theorem Ra {l:List Ac} (h:Ot l l.length):J8 l:=fun j a b ha hb=>h j a b (by rcases Nat.lt_or_ge (j+1) l.length with h'|h';exact h';rw [List.getElem?_eq_none h'] at hb;cases hb) ha hb
theorem Uk {f:Ac} (h:¬(if BV f=true then (0:Int) else 24)=0):BV f=false:=by
 cases hc:BV f with
 |false=>rfl
 |true=>rw [if_pos hc] at h;exact absurd rfl h
theorem SX {f:Ac} (h:(if BV f=true then (0:Int) else 24)=0):BV f=true:=by
 cases hc:BV f with
 |true=>rfl
 |false=>rw [hc] at h;cases h
theorem Ih {l:List Ac} {f:Ac→List Pr} {k:Nat} {x:Ac} (h0:0<k) (h:l[k-1]? =some x):(l.map f)[(((k:Nat):Int)-1).toNat]? =some (f x):=by
 rw [show (((k:Nat):Int)-1).toNat=k-1 by omega,List.getElem?_map,h];rfl
theorem C4 {l:List Ac} (hf:∀f∈l,f.fits) [Decidable (BO l)]:BT prog 55 [Bu l] (bool (decide (BO l))):=by
 refine fo func55 rfl ⟨rfl,rfl⟩ fun M0 w0=>(Tr.D9 0 rfl fun Dg=> ?_)
 refine a2 ?_
 refine Tr.block (Tr.BU [(0,_),(5,_),(6,_)] (OK rfl) (fun k:Nat=>[(7,int ((k:Nat):Int))]) (fun k:Nat=>k≤(l).length∧(Ui l k∧Ot l k)) (fun k:Nat=>(l).length-k) 0 (⟨Nat.zero_le _,⟨fun j y hj=>absurd hj (by omega),fun j a b hj=>absurd hj (by omega)⟩⟩) ⟨ke rfl,trivial⟩ ?_)
 rintro k ⟨Cb,Ap⟩
 refine ac ?_
 refine Tr.seq ?_
 refine Tr.cn rfl ?_ ?_<;>intro h1 q1
 have Az:k<(l).length:=Ak h1
 obtain ⟨x,A7⟩:=at_ Az
 refine ac ?_
 refine ao ?_
 refine tp rfl (AB rfl underlying31 AY (vl rfl) (vl rfl) (by omega) (by exact Am (by assumption))) ?_
 refine tp rfl (Ad rfl BE AY (vl rfl) rfl rfl) ?_
 refine Tl rfl rfl rfl rfl EO JG (fun b1=> ?_)
 refine tm rfl ?_
 refine sf 0 4 ⟨rfl,rfl,rfl⟩ rfl rfl rfl rfl ?_
 refine ao ?_
 refine ac ?_
 refine co rfl (Cr (Uf (hf x (List.mem_of_getElem? A7))) rfl rfl) ?_
 refine ag ?_ ?_<;>intro h2 q2
 have hc:=Uk q2
 refine ac ?_
 refine EL 0 5 6 7 28 rfl ?_
 refine a2 ?_
 · refine bool_eq ?_;symm;rw [decide_eq_false_iff_not];intro hn;have:=hn.check x (List.mem_of_getElem? A7);rw [hc] at this;cases this
 have hc:=SX q2
 refine ag ?_ ?_<;>intro h3 q3
 obtain ⟨p,hp⟩:=at_ (l:=l) (k:=k-1) (by omega)
 · repeat' first|(refine bool_eq ?_;symm;rw [decide_eq_false_iff_not];intro hn;have:=hn.j9 (k-1) p x hp (by rw [show k-1+1=k by omega];exact A7);omega)|(exact Fin.AE (k+1) ⟨⟨Az,⟨KS A7 hc Ap.1,Ig A7 (by intro y h0 hy;rw [hp] at hy;cases hy;omega) Ap.2⟩⟩,by omega⟩ ⟨⟨_,rfl,AJ k⟩,ke rfl,ke rfl,ke rfl,trivial⟩)|refine cy h3 rfl (AB rfl underlying31 AY (vl rfl) (vl rfl) (by omega) (Ih (by omega) hp)) ?_|refine cy h3 rfl (EE (Uh) rfl rfl rfl) ?_|refine ac ?_|(refine Tr.cn rfl ?_ ?_<;>intro h q)
 refine ac ?_
 refine EL 0 5 6 7 28 rfl ?_
 refine a2 ?_
 exact Fin.AE (k+1) ⟨⟨Az,⟨KS A7 hc Ap.1,Ig A7 (by intro y h0 hy;omega) Ap.2⟩⟩,by omega⟩ ⟨⟨_,rfl,AJ k⟩,ke rfl,ke rfl,ke rfl,trivial⟩
 have B2:k=(l).length:=by have:=Ao h1;omega
 subst B2
 refine a3 ?_
 · refine bool_eq ?_;rw [decide_eq_decide];exact ⟨fun hl=>⟨Uj Ap.1,Ra Ap.2,by omega⟩,fun hn=>by have:=hn.len;omega⟩
def kF (l:List Ac) (f:Ac):Nat:=(l.reverse.dropWhile fun x=>decide (0<D1 x f)).length
def C8 (l:List Ac) (f:Ac):List Ac:=if 0<kF l f∧((l[kF l f-1]?).map fun x=>D1 x f)=some 0 then l else l.take (kF l f)++[f]++l.drop (kF l f)
theorem Hf {β:Type} {p:β→Bool}:∀{l m:List β},(∀x∈l,p x=true)→(l++m).dropWhile p=m.dropWhile p
 |[],_,_=>rfl
 |a::l,m,h=>by
  rw [List.cons_append,List.dropWhile_cons_of_pos (h a (by simp))]
  exact Hf fun x hx=>h x (List.mem_cons_of_mem _ hx)
theorem Mk {l:List Ac} {f:Ac} {k:Nat} (hk:k≤l.length) (hgt:∀(j:Nat) y,k≤j→l[j]? =some y→0<D1 y f) (hle:k=0∨∃x,l[k-1]? =some x∧¬0<D1 x f):kF l f=k:=by
 unfold kF
 have h1:l.reverse=(l.drop k).reverse++(l.take k).reverse:=by rw [←List.reverse_append,List.take_append_drop]
 rw [h1,Hf (by
  intro x hx
  rw [List.mem_reverse] at hx
  obtain ⟨j,hj⟩:=List.mem_iff_getElem?.1 hx
  rw [List.getElem?_drop] at hj
  simpa using hgt _ x (by omega) hj)]
 rcases hle with h0|⟨x,hx,hn⟩
 · subst h0;simp
 ·
  have j_:0<k:=by
   rcases Nat.eq_zero_or_pos k with h|h
   ·
    subst h
    rw [show (0:Nat)-1=0 from rfl] at hx
    exact absurd (hgt 0 x (Nat.le_refl _) hx) hn
   · exact h
  have h2:l.take k=l.take (k-1)++[x]:=by
   have:=List.take_add_one (l:=l) (i:=k-1)
   rw [show k-1+1=k by omega,hx] at this
   simpa using this
  rw [h2,List.reverse_append]
  show (List.dropWhile _ (x::(l.take (k-1)).reverse)).length=k
  rw [List.dropWhile_cons_of_neg (by simpa using hn)]
  simp;omega
theorem Ml {l:List Ac} {f x:Ac} {k:Nat} (h:kF l f=k) (h0:0<k) (hx:l[k-1]? =some x) (he:D1 x f=0):C8 l f=l:=by
 unfold C8;rw [h,if_pos ⟨h0,by rw [hx];simp [he]⟩]
theorem Ij {l:List Ac} {f:Ac} {k:Nat} (h:kF l f=k) (hn:k=0∨∃x,l[k-1]? =some x∧¬D1 x f=0):C8 l f=l.take k++[f]++l.drop k:=by
 unfold C8;rw [h,if_neg]
 rintro ⟨h1,h2⟩
 rcases hn with h3|⟨x,hx,hne⟩
 · omega
 · rw [hx] at h2;simp at h2;exact hne h2
theorem eu {l:List Ac} {f:Ac} (hl:l.length≤1000):BT prog 88 [Bu l,agg (BZ f)] (Bu (C8 l f)):=by
 refine BT.of func88 rfl rfl (by exact Nb rfl) fun M0 w0=> ?_
 refine Tr.seq (Tr.Ax (co rfl (E0 rfl (Va rfl)) (cm rfl (Ch.nil (Fin.go (Tr.seq (Tr.Ax (cm rfl (co rfl (CV rfl underlying31 (vl rfl)) (cm rfl (Ch.nil (Fin.go (Tr.seq (Tr.block ?_))))))))))))))
 refine Tr.BU [(0,_),(3,_)] (RC rfl) (fun k:Nat=>[(5,int ((k:Nat):Int))]) (fun k:Nat=>k≤l.length∧∀(j:Nat) y,k≤j→l[j]? =some y→0<D1 y f) (fun k:Nat=>k) l.length (⟨Nat.le_refl _,fun j y h1 h2=>by rw [List.getElem?_eq_none h1] at h2;cases h2⟩) ⟨ke rfl,trivial⟩ ?_
 rintro k ⟨hk,hgt⟩
 refine Tr.seq (Tr.seq (Tr.HT mixed (by kernel_rfl) (cm rfl (co rfl (ki rfl rfl rfl rfl) (cm rfl ?_)))))
 refine Ch.cs 10 rfl ?_ ?_<;>intro h1 q1
 obtain ⟨x,hx⟩:=at_ (l:=l) (k:=k-1) (by omega)
 refine DL h1 rfl (DL h1 rfl ?_)
 refine cy h1 rfl (Ff rfl (vl rfl) (vl rfl) ?hin) ?_;case hin=>unfold C7;omega
 refine cy h1 rfl (AB rfl underlying31 AY (vl rfl) (vl rfl) (by omega) (Ih (by omega) hx)) (cy h1 rfl (Ad rfl BE AY (vl rfl) rfl rfl) (cy h1 rfl (Ad rfl BE AY (vl rfl) rfl rfl) (cy h1 rfl (Ah rfl (Db) ⟨ke rfl,ke rfl,trivial⟩) (cy h1 rfl (ki rfl rfl rfl rfl) (co rfl (GQ rfl rfl h1 rfl) (Ch.nil (Fin.go (Dp 0 3 5 19 rfl ?_))))))))
 refine Tr.cn rfl ?_ ?_<;>intro h2 q2
 have:=h2
 refine Tr.skip (Fin.go (Tr.block (Tr.Ax (cm rfl (gP rfl rfl rfl rfl (by omega) (cm rfl (Ch.nil (Fin.block ?_))))))))
 exact Fin.AE (k-1) ⟨⟨by omega,fun j y h1 h2=>by rcases Nat.eq_or_lt_of_le h1 with h3|h3;(subst h3;rw [hx] at h2;cases h2;omega);exact hgt j y (by omega) h2⟩,by omega⟩ ⟨⟨_,rfl,int_eq (by omega)⟩,ke rfl,ke rfl,trivial⟩
 have:=h2
 refine Tr.exit (Fin.AG (Fin.AG (Fin.AP (Fin.go (Tr.seq (Tr.seq (Tr.HT mixed (by kernel_rfl) (cm rfl (co rfl (ki rfl rfl rfl rfl) (cm rfl ?_))))))))))
 refine Ch.cs 24 rfl ?_ ?_<;>intro h3 q3
 obtain ⟨x2,hx2⟩:=at_ (l:=l) (k:=k-1) (by omega)
 refine DL h3 rfl (DL h3 rfl ?_)
 refine cy h3 rfl (Ff rfl (vl rfl) (vl rfl) ?hin) ?_;case hin=>unfold C7;omega
 refine cy h3 rfl (AB rfl underlying31 AY (vl rfl) (vl rfl) (by omega) (Ih (by omega) hx2)) (cy h3 rfl (Ad rfl BE AY (vl rfl) rfl rfl) (cy h3 rfl (Ad rfl BE AY (vl rfl) rfl rfl) (cy h3 rfl (Ah rfl (Db) ⟨ke rfl,ke rfl,trivial⟩) (cy h3 rfl (ki rfl rfl rfl rfl) (co rfl (GQ rfl rfl h3 rfl) (Ch.nil (Fin.go (Dp 0 3 5 33 rfl ?_))))))))
 refine Tr.cn rfl ?_ ?_<;>intro h4 q4
 refine Tr.seq (Tr.Ax (cm rfl (cm rfl (Ch.nil (Fin.go (Tr.ret (Fin.AF (Fin.DI rfl (Ba.Cz _ _) rfl ?_))))))))
 · rw [Ml (Mk hk hgt (.inr ⟨x,hx,by omega⟩)) (by omega) hx2 (by assumption)];exact Lr
 refine Tr.skip (Fin.go (Tr.seq (Tr.pad (Tr.Dv mixed [none,none,none,none,some (0,0,true,39),none,none,some (39,0,true,42),none,none,none,some (42,0,true,46),some (46,0,true,4)] (by kernel_rfl) (xo rfl (fun _=>AM (xs:=[]) (rows:=[]) rfl rfl underlying31 AY EO rfl (by decide) trivial (by decide)) (xm rfl (xm rfl ?_)))))))
 refine xo rfl (fun _=>Bj rfl underlying31 AY (vl rfl) (vl rfl) (by omega) (by simp;omega)) ?_
 refine Cx.ef 0 rfl rfl (by decide) (An rfl rfl (by decide) rfl underlying31 AY Eb EO rfl (by decide) (Kf rfl) (vl rfl) (by simp;unfold maxLen;omega) (by simp;omega) (B4 (by exact List.Mem.head _) (vl rfl))) ?_
 refine xo rfl (fun _=>Ad rfl BE AY (vl rfl) rfl rfl) (xo rfl (fun _=>AM (xs:=[.tmp 40]) (rows:=[_]) rfl rfl underlying31 AY EO rfl (by decide) ⟨⟨(by exact rfl),(Va rfl)⟩,trivial⟩ (by decide)) ?_)
 refine Cx.ef 0 rfl rfl (by decide) (An rfl rfl (by decide) rfl underlying31 AY Eb EO rfl (by decide) (vl rfl) (Kf rfl) (by simp;unfold maxLen;omega) (by simp;omega) BC) ?_
 refine xm rfl (xm rfl ?_)
 refine xo rfl (fun _=>BH rfl underlying31 AY (vl rfl) (vl rfl) (by omega) (by simp;omega)) ?_
 refine Cx.ef 0 rfl rfl (by decide) (An rfl rfl (by decide) rfl underlying31 AY Eb EO rfl (by decide) (vl rfl) (vl rfl) (by simp;unfold maxLen;omega) (by simp;omega) BC) ?_
 refine Cx.ef 0 rfl rfl (by decide) (CW rfl rfl (by decide) rfl (vl rfl)) ?_
 refine Cx.nil ⟨rfl,?_⟩
 refine BP.open_ 0 4 rfl rfl (fun v1=> ?_)
 refine BP.done (BG.cons (BG.map _)) (Fin.go (CM 4 rfl (Tr.ret (Fin.DI rfl (Ba.Cz _ _) rfl ?_))))
 · rw [Ij (Mk hk hgt (.inr ⟨x,hx,by omega⟩)) (.inr ⟨x2,hx2,by assumption⟩)];exact Pr.le_trans (BL _ _) (Pr.le_of_eq (by show slice 11 _=slice 11 _;rw [Int.toNat_natCast,List.map_append,List.map_append,List.map_take,List.map_drop,List.nil_append];rfl))
 iterate 8 refine cnt h3 rfl ?_
 refine co rfl (JE rfl rfl h3 rfl) (Ch.nil (Fin.go (Dp 0 3 5 33 rfl (Tr.cond rfl (fun h=>nomatch h) (fun _=> ?_)))))
 refine Tr.skip (Fin.go (Tr.seq (Tr.pad (Tr.Dv mixed [none,none,none,none,some (0,0,true,39),none,none,some (39,0,true,42),none,none,none,some (42,0,true,46),some (46,0,true,4)] (by kernel_rfl) (xo rfl (fun _=>AM (xs:=[]) (rows:=[]) rfl rfl underlying31 AY EO rfl (by decide) trivial (by decide)) (xm rfl (xm rfl (xo rfl (fun _=>Bj rfl underlying31 AY (vl rfl) (vl rfl) (by omega) (by omega)) ?_))))))))
 refine Cx.ef 0 rfl rfl (by decide) (An rfl rfl (by decide) rfl underlying31 AY Eb EO rfl (by decide) (Kf rfl) (vl rfl) (by simp;unfold maxLen;omega) (by simp;omega) (B4 (by exact List.Mem.head _) (vl rfl))) ?_
 refine xo rfl (fun _=>Ad rfl BE AY (vl rfl) rfl rfl) (xo rfl (fun _=>AM (xs:=[.tmp 40]) (rows:=[_]) rfl rfl underlying31 AY EO rfl (by decide) ⟨⟨(by exact rfl),(Va rfl)⟩,trivial⟩ (by decide)) ?_)
 refine Cx.ef 0 rfl rfl (by decide) (An rfl rfl (by decide) rfl underlying31 AY Eb EO rfl (by decide) (vl rfl) (Kf rfl) (by simp;unfold maxLen;omega) (by simp;omega) BC) ?_
 refine xm rfl (xm rfl (xo rfl (fun _=>BH rfl underlying31 AY (vl rfl) (vl rfl) (by omega) (by omega)) ?_))
 refine Cx.ef 0 rfl rfl (by decide) (An rfl rfl (by decide) rfl underlying31 AY Eb EO rfl (by decide) (vl rfl) (vl rfl) (by simp;unfold maxLen;omega) (by simp;omega) BC) ?_
 refine Cx.ef 0 rfl rfl (by decide) (CW rfl rfl (by decide) rfl (vl rfl)) ?_
 refine Cx.nil ⟨rfl,?_⟩
 refine BP.open_ 0 4 rfl rfl (fun v2=> ?_)
 refine BP.done (BG.cons (BG.map _)) (Fin.go (CM 4 rfl (Tr.ret (Fin.DI rfl (Ba.Cz _ _) rfl ?_))))
 · exfalso;omega
 iterate 8 refine cnt h1 rfl ?_
 refine co rfl (JE rfl rfl h1 rfl) (Ch.nil (Fin.go (Dp 0 3 5 19 rfl (Tr.cond rfl (fun h=>nomatch h) (fun _=> ?_)))))
 refine Tr.exit (Fin.AG (Fin.AG (Fin.AP (Fin.go (Tr.seq (Tr.seq (Tr.HT mixed (by kernel_rfl) (cm rfl (co rfl (ki rfl rfl rfl rfl) (cm rfl ?_))))))))))
 refine Ch.cs 24 rfl ?_ ?_<;>intro h5 q5
 obtain ⟨x2,hx2⟩:=at_ (l:=l) (k:=k-1) (by omega)
 refine DL h5 rfl (DL h5 rfl ?_)
 refine cy h5 rfl (Ff rfl (vl rfl) (vl rfl) ?hin) ?_;case hin=>unfold C7;omega
 refine cy h5 rfl (AB rfl underlying31 AY (vl rfl) (vl rfl) (by omega) (Ih (by omega) hx2)) (cy h5 rfl (Ad rfl BE AY (vl rfl) rfl rfl) (cy h5 rfl (Ad rfl BE AY (vl rfl) rfl rfl) (cy h5 rfl (Ah rfl (Db) ⟨ke rfl,ke rfl,trivial⟩) (cy h5 rfl (ki rfl rfl rfl rfl) (co rfl (GQ rfl rfl h5 rfl) (Ch.nil (Fin.go (Dp 0 3 5 33 rfl ?_))))))))
 refine Tr.cn rfl ?_ ?_<;>intro h6 q6
 refine Tr.seq (Tr.Ax (cm rfl (cm rfl (Ch.nil (Fin.go (Tr.ret (Fin.AF (Fin.DI rfl (Ba.Cz _ _) rfl ?_))))))))
 · exfalso;omega
 refine Tr.skip (Fin.go (Tr.seq (Tr.pad (Tr.Dv mixed [none,none,none,none,some (0,0,true,39),none,none,some (39,0,true,42),none,none,none,some (42,0,true,46),some (46,0,true,4)] (by kernel_rfl) (xo rfl (fun _=>AM (xs:=[]) (rows:=[]) rfl rfl underlying31 AY EO rfl (by decide) trivial (by decide)) (xm rfl (xm rfl (xo rfl (fun _=>Bj rfl underlying31 AY (vl rfl) (vl rfl) (by omega) (by omega)) ?_))))))))
 refine Cx.ef 0 rfl rfl (by decide) (An rfl rfl (by decide) rfl underlying31 AY Eb EO rfl (by decide) (Kf rfl) (vl rfl) (by simp;unfold maxLen;omega) (by simp;omega) (B4 (by exact List.Mem.head _) (vl rfl))) ?_
 refine xo rfl (fun _=>Ad rfl BE AY (vl rfl) rfl rfl) (xo rfl (fun _=>AM (xs:=[.tmp 40]) (rows:=[_]) rfl rfl underlying31 AY EO rfl (by decide) ⟨⟨(by exact rfl),(Va rfl)⟩,trivial⟩ (by decide)) ?_)
 refine Cx.ef 0 rfl rfl (by decide) (An rfl rfl (by decide) rfl underlying31 AY Eb EO rfl (by decide) (vl rfl) (Kf rfl) (by simp;unfold maxLen;omega) (by simp;omega) BC) ?_
 refine xm rfl (xm rfl (xo rfl (fun _=>BH rfl underlying31 AY (vl rfl) (vl rfl) (by omega) (by omega)) ?_))
 refine Cx.ef 0 rfl rfl (by decide) (An rfl rfl (by decide) rfl underlying31 AY Eb EO rfl (by decide) (vl rfl) (vl rfl) (by simp;unfold maxLen;omega) (by simp;omega) BC) ?_
 refine Cx.ef 0 rfl rfl (by decide) (CW rfl rfl (by decide) rfl (vl rfl)) ?_
 refine Cx.nil ⟨rfl,?_⟩
 refine BP.open_ 0 4 rfl rfl (fun v3=> ?_)
 refine BP.done (BG.cons (BG.map _)) (Fin.go (CM 4 rfl (Tr.ret (Fin.DI rfl (Ba.Cz _ _) rfl ?_))))
 · exfalso;omega
 iterate 8 refine cnt h5 rfl ?_
 refine co rfl (JE rfl rfl h5 rfl) (Ch.nil (Fin.go (Dp 0 3 5 33 rfl (Tr.cond rfl (fun h=>nomatch h) (fun _=> ?_)))))
 refine Tr.skip (Fin.go (Tr.seq (Tr.pad (Tr.Dv mixed [none,none,none,none,some (0,0,true,39),none,none,some (39,0,true,42),none,none,none,some (42,0,true,46),some (46,0,true,4)] (by kernel_rfl) (xo rfl (fun _=>AM (xs:=[]) (rows:=[]) rfl rfl underlying31 AY EO rfl (by decide) trivial (by decide)) (xm rfl (xm rfl (xo rfl (fun _=>Bj rfl underlying31 AY (vl rfl) (vl rfl) (by omega) (by omega)) ?_))))))))
 refine Cx.ef 0 rfl rfl (by decide) (An rfl rfl (by decide) rfl underlying31 AY Eb EO rfl (by decide) (Kf rfl) (vl rfl) (by simp;unfold maxLen;omega) (by simp;omega) (B4 (by exact List.Mem.head _) (vl rfl))) ?_
 refine xo rfl (fun _=>Ad rfl BE AY (vl rfl) rfl rfl) (xo rfl (fun _=>AM (xs:=[.tmp 40]) (rows:=[_]) rfl rfl underlying31 AY EO rfl (by decide) ⟨⟨(by exact rfl),(Va rfl)⟩,trivial⟩ (by decide)) ?_)
 refine Cx.ef 0 rfl rfl (by decide) (An rfl rfl (by decide) rfl underlying31 AY Eb EO rfl (by decide) (vl rfl) (Kf rfl) (by simp;unfold maxLen;omega) (by simp;omega) BC) ?_
 refine xm rfl (xm rfl (xo rfl (fun _=>BH rfl underlying31 AY (vl rfl) (vl rfl) (by omega) (by omega)) ?_))
 refine Cx.ef 0 rfl rfl (by decide) (An rfl rfl (by decide) rfl underlying31 AY Eb EO rfl (by decide) (vl rfl) (vl rfl) (by simp;unfold maxLen;omega) (by simp;omega) BC) ?_
 refine Cx.ef 0 rfl rfl (by decide) (CW rfl rfl (by decide) rfl (vl rfl)) ?_
 refine Cx.nil ⟨rfl,?_⟩
 refine BP.open_ 0 4 rfl rfl (fun v4=> ?_)
 refine BP.done (BG.cons (BG.map _)) (Fin.go (CM 4 rfl (Tr.ret (Fin.DI rfl (Ba.Cz _ _) rfl ?_))))
 · rw [Ij (Mk hk hgt (.inl (by omega))) (.inl (by omega))];exact Pr.le_trans (BL _ _) (Pr.le_of_eq (by show slice 11 _=slice 11 _;rw [Int.toNat_natCast,List.map_append,List.map_append,List.map_take,List.map_drop,List.nil_append];rfl))
theorem Yr (l:List Ac) (f:Ac):kF l f≤l.length:=by
 unfold kF
 have:=(List.dropWhile_sublist (l:=l.reverse) (fun x=>decide (0<D1 x f))).length_le
 simpa using this
theorem Ul (l:List Ac) (f:Ac):(C8 l f).length≤l.length+1:=by
 have:=Yr l f
 unfold C8;split
 · omega
 · simp;omega
theorem Ik:∀(l acc:List Ac),(l.foldl C8 acc).length≤acc.length+l.length
 |[],acc=>by simp
 |f::l,acc=>by
  have h1:=Ik l (C8 acc f)
  have h2:=Ul acc f
  rw [List.foldl_cons,List.length_cons];omega
theorem HP {l:List Ac} {k:Nat} {x:Ac} (hx:l[k]? =some x):C8 ((l.take k).foldl C8 []) x=(l.take (k+1)).foldl C8 []:=by
 rw [List.take_add_one,hx,List.foldl_append];rfl
theorem HQ (l:List Ac) (k:Nat):((l.take k).foldl C8 []).length≤k:=by
 have:=Ik (l.take k) []
 have h2:=List.length_take_le k l
 simp at this;omega
theorem SY {l:List Ac} (hc:∀f∈l,BV f=true) (hl:l.length≤400):BT prog 45 [Bu l] (DT [Bu (l.foldl C8 []),int 0]):=by
 refine fo func45 rfl ⟨rfl,rfl⟩ fun M0 w0=> ?_
 refine a2 ?_
 refine Tr.block (Tr.BU [(0,_)] ⟨ke rfl,trivial⟩ (fun k:Nat=>[(4,int ((k:Nat):Int))]) (fun k:Nat=>k≤(l).length) (fun k:Nat=>(l).length-k) 0 (Nat.zero_le _) ⟨ke rfl,trivial⟩ ?_)
 rintro k Cb
 refine an ?_ ?_<;>intro h1 q1
 have Az:k<(l).length:=Ak h1
 obtain ⟨x,A7⟩:=at_ Az
 · repeat' first|exact absurd (if_pos (hc x (List.mem_of_getElem? A7))) q|exact Fin.AE (k+1) ⟨Az,by omega⟩ ⟨⟨_,rfl,AJ k⟩,ke rfl,trivial⟩|refine co rfl (AB rfl underlying31 AY (vl rfl) (vl rfl) (by omega) (by exact Am (by assumption))) ?_|refine co rfl (Ad rfl BE AY (vl rfl) rfl rfl) (co rfl (Cr (H9) rfl rfl) ?_)|refine ac ?_|(refine Tr.cn rfl ?_ ?_<;>intro h q)
 have B2:k=(l).length:=by have:=Ao h1;omega
 subst B2
 refine a3 ?_
 refine Tr.block (Tr.BU [(0,_)] ⟨ke rfl,trivial⟩ (fun m:Nat=>[(7,int ((m:Nat):Int)),(6,Bu ((l.take m).foldl C8 []))]) (fun m:Nat=>m≤(l).length) (fun m:Nat=>(l).length-m) 0 (Nat.zero_le _) ⟨ke rfl,⟨_,rfl,AZ 11⟩,trivial⟩ ?_)
 rintro m l6
 refine an ?_ ?_<;>intro h3 q3
 have XU:m<(l).length:=Ak h3
 obtain ⟨y,Um⟩:=at_ XU
 · repeat' first|(exfalso;rw [HP Um] at q;have:=HQ l (m+1);omega)|exact Fin.AE (m+1) ⟨XU,by omega⟩ ⟨⟨_,rfl,AJ m⟩,⟨_,rfl,Pr.le_of_eq (by rw [HP Um])⟩,ke rfl,trivial⟩|refine co rfl (AB rfl underlying31 AY (vl rfl) (vl rfl) (by omega) (by exact Am (by assumption))) ?_|refine co rfl (Ad rfl BE AY (vl rfl) rfl rfl) ?_|(refine co rfl (EE (eu (l:=(l.take m).foldl C8 []) (f:=y) (by have:=HQ l m;omega)) rfl rfl rfl) ?_)|refine ac ?_|(refine Tr.cn rfl ?_ ?_<;>intro h q)
 have kA:m=(l).length:=by have:=Ao h3;omega
 subst kA
 refine a2 ?_
 refine Tr.ret (Fin.Cq rfl (Ba.Cz _ _) rfl ?_ rfl ?_)
 · exact Pr.le_of_eq (by rw [List.take_length])
 · exact Lr
theorem Di (a b:Int):Ar b a= -Ar a b:=by unfold Ar;by_cases h1:a<b<;>by_cases h2:b<a<;>simp [h1,h2]<;>omega
theorem Rb:∀l:List Int,Fq (l.map fun x=> -x)= -Fq l
 |[]=>rfl
 |a::l=>by
  have ih:=Rb l
  show (if -a=0 then Fq (l.map fun x=> -x) else -a)= -(if a=0 then Fq l else a)
  by_cases h:a=0
  · rw [if_pos (by omega),if_pos h,ih]
  · rw [if_neg (by omega),if_neg h]
theorem SZ (a b:Ac):D1 b a= -D1 a b:=by
 unfold D1
 rw [←Rb]
 unfold El
 simp only [List.map_cons,List.map_nil]
 rw [E6 a.host b.host,E6 a.BM b.BM,E6 a.text b.text,Di a.machine,Di a.day,Di a.kind,Di a.BI,Di a.bits,Di a.num,Di a.src,Di a.B5]
theorem G6 {β:Type} {p:β→Bool}:∀(l:List β),∃m,l=m++l.dropWhile p∧(∀x∈m,p x=true)∧∀y r,l.dropWhile p=y::r→p y=false
 |[]=>⟨[],rfl,by simp,fun y r h=>by cases h⟩
 |a::l=>by
  by_cases h:p a=true
  ·
   obtain ⟨m,h1,h2,h3⟩:=G6 (p:=p) l
   refine ⟨a::m,?_,?_,?_⟩
   · rw [List.dropWhile_cons_of_pos h,List.cons_append,←h1]
   ·
    intro x hx
    rcases List.mem_cons.1 hx with rfl|hx
    · exact h
    · exact h2 x hx
   · intro y r hy;rw [List.dropWhile_cons_of_pos h] at hy;exact h3 y r hy
  ·
   refine ⟨[],?_,by simp,?_⟩
   · rw [List.dropWhile_cons_of_neg h];rfl
   · intro y r hy;rw [List.dropWhile_cons_of_neg h] at hy;injection hy with h1 _;subst h1;simpa using h
theorem XV (l:List Ac) (f:Ac):(∀y,l[kF l f]? =some y→0<D1 y f)∧(∀x,0<kF l f→l[kF l f-1]? =some x→D1 x f≤0):=by
 obtain ⟨m,h1,h2,h3⟩:=G6 (p:=fun x=>decide (0<D1 x f)) l.reverse
 have hk:kF l f=(l.reverse.dropWhile fun x=>decide (0<D1 x f)).length:=rfl
 generalize l.reverse.dropWhile (fun x=>decide (0<D1 x f))=d at*
 have hl:l=d.reverse++m.reverse:=by rw [←List.reverse_append,←h1,List.reverse_reverse]
 refine ⟨fun y hy=> ?_,fun x h0 hx=> ?_⟩
 ·
  rw [hk,hl,List.getElem?_append_right (by simp)] at hy
  have:=h2 y (by have:=List.mem_of_getElem? hy;simpa using this)
  simpa using this
 ·
  cases d with
  |nil=>rw [hk] at h0;cases h0
  |cons y r=>
   have hx2:x=y:=by
    rw [hk,hl,List.getElem?_append_left (by simp)] at hx
    rw [List.reverse_cons,List.getElem?_append_right (by simp)] at hx
    simpa using hx.symm
   have:=h3 y r rfl
   rw [hx2];simpa using this
theorem XW {l:List Ac} (f:Ac) (h:J8 l):J8 (C8 l f):=by
 obtain ⟨h1,h2⟩:=XV l f
 have hk:=Yr l f
 unfold C8
 split
 · exact h
 ·
  rename_i hn
  generalize kF l f=k at*
  have hlen:(l.take k).length=k:=by rw [List.length_take];omega
  intro j a b ha hb
  rw [List.append_assoc] at ha hb
  rcases Nat.lt_trichotomy (j+1) k with hj|hj|hj
  ·
   rw [List.getElem?_append_left (by omega),List.getElem?_take,if_pos (by omega)] at ha
   rw [List.getElem?_append_left (by omega),List.getElem?_take,if_pos (by omega)] at hb
   exact h j a b ha hb
  ·
   rw [List.getElem?_append_left (by omega),List.getElem?_take,if_pos (by omega)] at ha
   rw [List.getElem?_append_right (by omega),hlen,show j+1-k=0 by omega] at hb
   simp at hb;subst hb
   have ha':l[k-1]? =some a:=by rw [show k-1=j by omega];exact ha
   have h3:=h2 a (by omega) ha'
   rcases Int.lt_or_eq_of_le h3 with h4|h4
   · exact h4
   · exact absurd ⟨by omega,by rw [ha'];simp [h4]⟩ hn
  ·
   rcases Nat.eq_or_lt_of_le (Nat.le_of_lt_succ hj) with hj2|hj2
   ·
    rw [List.getElem?_append_right (by omega),hlen,show j-k=0 by omega] at ha
    simp at ha;subst ha
    rw [List.getElem?_append_right (by omega),hlen,show j+1-k=1 by omega] at hb
    simp at hb
    have:=h1 b (by simpa using hb)
    rw [SZ b f];omega
   ·
    rw [List.getElem?_append_right (by omega),hlen,show j-k=(j-k-1)+1 by omega] at ha
    rw [List.getElem?_append_right (by omega),hlen,show j+1-k=(j-k)+1 by omega] at hb
    simp at ha hb
    exact h (j-1) a b (by rw [show j-1=k+(j-k-1) by omega];exact ha) (by rw [show j-1+1=k+(j-k) by omega];exact hb)
theorem XX {l:List Ac} {f x:Ac} (h:x∈C8 l f):x∈l∨x=f:=by
 unfold C8 at h
 split at h
 · exact .inl h
 ·
  simp only [List.mem_append,List.mem_singleton] at h
  rcases h with (h|h)|h
  · exact .inl (List.mem_of_mem_take h)
  · exact .inr h
  · exact .inl (List.mem_of_mem_drop h)
theorem Ou:∀(l acc:List Ac),J8 acc→J8 (l.foldl C8 acc)
 |[],_,h=>h
 |f::l,acc,h=>Ou l _ (XW f h)
theorem LL:∀(l acc:List Ac) {x:Ac},x∈l.foldl C8 acc→x∈acc∨x∈l
 |[],_,_,h=> .inl h
 |f::l,acc,x,h=>by
  rcases LL l _ h with h1|h1
  ·
   rcases XX h1 with h2|h2
   · exact .inl h2
   · exact .inr (by simp [h2])
  · exact .inr (List.mem_cons_of_mem _ h1)
theorem Rc {l:List Ac} (hc:∀f∈l,BV f=true) (hl:l.length≤400):BO (l.foldl C8 []):=
 ⟨fun f hf=>by rcases LL l [] hf with h|h;exact absurd h (by simp);exact hc f h,Ou l [] (fun j a b h=>by simp at h),by have:=Ik l [];simp at this;omega⟩
abbrev F_ (b:Nat) (s:DS):A0:=ON 80 b s
theorem XY (n:Int) {k:Int} (hk:1≤k):(n.tmod k+k).tmod k=n % k:=by
 have h1: -k<n.tmod k:=by have:=Int.lt_tmod_of_pos n (b:=k) (by omega);omega
 rw [Int.tmod_eq_emod_of_nonneg (by omega),Int.tmod_def,show n-k*n.tdiv k+k=n+k*(1-n.tdiv k) by rw [Int.mul_sub];omega,Int.add_mul_emod_self_left]
theorem Zz (n:Int) {k:Int} (hk:1≤k): -k<n.tmod k∧n.tmod k<k:=by
 have h1:=Int.lt_tmod_of_pos n (b:=k) (by omega)
 have h2:=Int.tmod_lt_of_pos n (b:=k) (by omega)
 omega
theorem XZ {l:List Int}  :BT prog 6 [ints l] (bool (decide (l.length≤400))):=by
 refine fo func6 rfl ⟨rfl,rfl⟩ fun M0 w0=> ?_
 refine a3 ?_
 · refine bool_eq ?_;simp_all;omega
theorem Ys {n k:Int} (hk:1≤k) (hk2:k≤1000000000):BT prog 31 [int n,int k] (int (n % k)):=by
 refine fo func31 rfl ⟨rfl,rfl⟩ fun M0 w0=> ?_
 have hm:=Zz n hk
 have hp:=XY n hk
 · repeat' first|(exfalso;omega)|(refine int_eq ?_;exact hp)|refine co rfl (Y3 rfl (vl rfl) (vl rfl) (by omega)) ?_|refine ac ?_|(refine Tr.cn rfl ?_ ?_<;>intro h q)
theorem CN {b:Nat} {s:DS} {n:Int} (hn:1≤n) (hn2:n≤1000000000):BQ prog 10 [ptr b 0,int n] (int (s.val n)) (F_ b s) (fun _=>F_ b s.C3):=by
 refine BQ.of func10 rfl rfl (by exact Nb rfl) fun M0 w0 S rs M1 w1=> ?_
 have hs:=s.h
 have ew:=s.h2
 refine ac ?_
 refine an ?_ ?_<;>intro h1 q1
 refine ac ?_
 refine Tr.ret (Fin.AF ?_)
 rw [DS.Wp (s:=s) (by omega)]
 refine Fin.E4 [] rfl (A6.tmp rfl (Lr)) ?_ (fun _ _ _ _=>rfl)
 · refine int_eq ?_;exact (DS.Wo (by omega) n).symm
 have hlt:s.at_<s.l.length:=by omega
 obtain ⟨x,hx⟩:=at_ hlt
 refine ac ?_
 refine ap ?_
 refine EK 0 1 rfl ?_
 refine ac ?_
 refine co rfl (AB rfl underlying22 A4 (vl rfl) (vl rfl) (by omega) (by rw [show ((s.at_:Nat):Int)+1-1=((s.at_:Nat):Int) by omega];exact Am hx)) ?_
 refine ac ?_
 refine co rfl (EE (Ys (by omega) (by omega)) rfl rfl rfl) ?_
 refine ac ?_
 refine CM 4 rfl (Tr.ret ?_)
 rw [DS.ZH hlt]
 refine Fin.E4 [] rfl (A6.tmp rfl (Lr)) ?_ (fun _ _ _ _=>rfl)
 · refine int_eq ?_;exact (DS.ZG hx n).symm
theorem Mm {b:Nat} {s:DS} {l:List Int} (hl:l≠[]) (Zc:l.length≤1000000000):BQ prog 30 [ptr b 0,ints l] (int (s.of l)) (F_ b s) (fun _=>F_ b s.C3):=by
 refine BQ.of func30 rfl rfl (by exact Nb rfl) fun M0 w0 S rs M1 w1=> ?_
 have Sa:1≤(l.length:Int):=by have:=List.length_pos_iff.2 hl;omega
 have hv:=s.DD Sa
 obtain ⟨x,hx⟩:=at_ (l:=l) (k:=(s.val l.length).toNat) (by omega)
 refine ac ?_
 refine ap ?_
 refine TO.DB 0 rfl rfl (by decide) (AU rfl rfl (by decide) rfl (CN (by omega) (by omega)) ⟨ke rfl,ke rfl,trivial⟩) (tp rfl (AB rfl underlying22 A4 (vl rfl) (vl rfl) (by omega) (A_ hx)) ?_)
 refine ap ?_
 refine Tr.ret (Fin.E4 [] rfl (A6.tmp rfl (Lr)) ?_ (fun _ _ _ _=>rfl))
 · refine int_eq ?_;unfold DS.of;rw [hx];rfl
theorem Z0 {b:Nat} {s:DS} {n:Int} (hn:1≤n) (hn2:n≤1000000000):BQ prog 29 [ptr b 0,int n] (bool (s.val n==n-1)) (F_ b s) (fun _=>F_ b s.C3):=by
 refine BQ.of func29 rfl rfl (by exact Nb rfl) fun M0 w0 S rs M1 w1=> ?_
 refine ac ?_
 refine ap ?_
 refine TO.DB 0 rfl rfl (by decide) (AU rfl rfl (by decide) rfl (CN (by omega) (by omega)) ⟨ke rfl,ke rfl,trivial⟩) ?_
 refine ap ?_
 refine Tr.ret (Fin.E4 [] rfl (A6.tmp rfl (Lr)) ?_ (fun _ _ _ _=>rfl))
 · exact Lr
def Xa (l:List Int) (hl:l.length≤1000000000) (v:Value):A0:=match v with| .pointer (some a)=>ON 80 a.block ⟨l,0,Nat.zero_le _,hl⟩|_=>Bz
theorem Z1 {l:List Int} (hl:l.length≤1000000000):BQ prog 8 [ints l] (ex fun b=>ptr b 0) (Bz) (Xa l hl):=by
 refine BQ.of func8 rfl rfl (by exact Nb rfl) fun M0 w0 S rs M1 w1=> ?_
 refine ac ?_
 refine ap ?_
 refine TO.Wk rfl rfl (by decide) rfl (Va rfl) (fun b1=> ?_)
 refine ap ?_
 refine Tr.ret (Fin.drop 1 ?_)
 refine Fin.E4 [] rfl (A6.tmp rfl (Lr)) ?_ (by rintro _ _ _ rfl;rfl)
 · exact BD b1 (Lr)
def Ju (s:DS) (l:List (List UInt8)):List UInt8:=(l[(s.val l.length).toNat]?).getD []
theorem LM (s:DS) {l:List (List UInt8)} (h:l≠[]):Ju s l∈l:=by
 have h0:1≤(l.length:Int):=by
  have:=List.length_pos_iff.2 h
  omega
 have:=s.DD h0
 unfold Ju
 rw [List.getElem?_eq_getElem (by omega)]
 exact List.getElem_mem _
abbrev strs (l:List (List UInt8)):Pr:=slice 1 (l.map fun t=>[str t])
structure Rd (f:Ac):Prop where
 check:BV f=true
 fits:f.fits
 day:0≤f.day∧f.day<12
structure Un (l:List Ac) (m:Nat):Prop where
 norm:BO l
 fits:∀f∈l,f.fits
 len:l.length≤m
 day:∀f∈l,0≤f.day∧f.day<12
theorem Sb {t:List UInt8} (h:t∈[[97],[98],[99]]):named t=true∧t.length≤maxLen:=by
 simp only [List.mem_cons,List.not_mem_nil,or_false] at h
 rcases h with rfl|rfl|rfl<;>exact ⟨by decide,by decide⟩
theorem Uo {t:List UInt8} (h:t∈[[115],[116]]):named t=true∧t.length≤maxLen:=by
 simp only [List.mem_cons,List.not_mem_nil,or_false] at h
 rcases h with rfl|rfl<;>exact ⟨by decide,by decide⟩
theorem Up {t:List UInt8} (h:t∈[[97],[98]]):named t=true∧t.length≤maxLen:=by
 simp only [List.mem_cons,List.not_mem_nil,or_false] at h
 rcases h with rfl|rfl<;>exact ⟨by decide,by decide⟩
theorem Fb {f:Ac} (h1:1≤f.src∧f.src≤7) (h2:named f.host=true) (h3:0≤f.machine∧f.machine≤3) (h4:0≤f.day∧f.day<12) (h5:1≤f.B5∧f.B5≤100) (h6:named f.BM=true) (h7:AX f=true)
  (l1:f.host.length≤maxLen) (l2:f.BM.length≤maxLen) (l3:f.text.length≤maxLen):Rd f:=by
 refine ⟨?_,⟨l1,l2,l3⟩,h4⟩
 unfold BV Cv Dh
 rw [h2,h6,h7]
 simp;omega
theorem Sc {β:Type} {p:β→Prop} {l:List β} {x:β} (h:∀y∈l,p y) (hx:p x):∀y∈l++[x],p y:=by
 intro y hy
 rcases List.mem_append.1 hy with hy|hy
 · exact h y hy
 · rw [List.mem_singleton.1 hy];exact hx
theorem Sd {l:List Ac} {m:Nat} (h:∀f∈l,Rd f) (hm:l.length≤m∧l.length≤400):Un (l.foldl C8 []) m:=by
 have hmem:∀f∈l.foldl C8 [],f∈l:=fun f hf=>by rcases LL l [] hf with h1|h1;exact absurd h1 (by simp);exact h1
 have hlen:=Ik l []
 simp at hlen
 exact ⟨Rc (fun f hf=>(h f hf).check) hm.2,fun f hf=>(h f (hmem f hf)).fits,by omega,fun f hf=>(h f (hmem f hf)).day⟩
def QN:List (Int×Int):=[(1,0),(2,0),(5,1024),(14,128)]
theorem Re:∀u∈QN,Bk u.1 u.2>0:=by decide
theorem Np {b:Nat} {s:DS} {l:List (List UInt8)} (hl:l≠[]) (Zc:l.length≤1000000000):BQ prog 16 [ptr b 0,strs l] (str (Ju s l)) (F_ b s) (fun _=>F_ b s.C3):=by
 refine BQ.of func16 rfl rfl (by exact Nb rfl) fun M0 w0 S rs M1 w1=> ?_
 have Sa:1≤(l.length:Int):=by have:=List.length_pos_iff.2 hl;omega
 have hv:=s.DD Sa
 obtain ⟨x,hx⟩:=at_ (l:=l) (k:=(s.val l.length).toNat) (by omega)
 refine ac ?_
 refine ap ?_
 refine TO.DB 0 rfl rfl (by decide) (AU rfl rfl (by decide) rfl (CN (by omega) (by omega)) ⟨ke rfl,ke rfl,trivial⟩) (tp rfl (AB rfl underlying53 HV (vl rfl) (vl rfl) (by omega) (A_ hx)) ?_)
 refine ap ?_
 refine Tr.ret (Fin.E4 [] rfl (A6.tmp rfl (Lr)) ?_ (fun _ _ _ _=>rfl))
 · refine str_eq ?_;unfold Ju;rw [hx];rfl
theorem Se {b:Nat} {s:DS}  :BQ prog 11 [ptr b 0] (ex fun f:Ac=>fact (Rd f) (agg (BZ f))) (F_ b s) (fun _=>Hs 80 b):=by
 refine BQ.of func11 rfl rfl (by exact Nb rfl) fun M0 w0 S rs M1 w1=> ?_
 refine Tr.seq (Tr.CA ?_)
 refine Tl rfl rfl rfl rfl EO JG (fun b1=> ?_)
 refine ap ?_
 refine Tr.seq ?_
 have f1:=s.DD (n:=7) (by omega)
 have f2:=Sb (LM (s.C3) (l:=[[97],[98],[99]]) (by simp))
 have f3:=(s.C3.C3).P9 (l:=[0,1,2,0,3]) (by simp)
 have f4:=(s.C3.C3.C3).DD (n:=12) (by omega)
 have f5:=(s.C3.C3.C3.C3).P9 (l:=[90,50,100,1]) (by simp)
 have f6:=(s.C3.C3.C3.C3.C3).DD (n:=8) (by omega)
 have f7:=Uo (LM (s.C3.C3.C3.C3.C3.C3) (l:=[[115],[116]]) (by simp))
 refine ap ?_
 refine TO.DB 1 rfl rfl (by decide) (AU rfl rfl (by decide) rfl (CN (by omega) (by omega)) ⟨ke rfl,ke rfl,trivial⟩) ?_
 refine ap ?_
 refine TO.DB 1 rfl rfl (by decide) (AU rfl rfl (by decide) rfl (Np (l:=[[97],[98],[99]]) (by simp) (by simp)) ⟨ke rfl,(Kf rfl),trivial⟩) ?_
 refine ap ?_
 refine TO.DB 1 rfl rfl (by decide) (AU rfl rfl (by decide) rfl (Mm (l:=[0,1,2,0,3]) (by simp) (by simp)) ⟨ke rfl,(Kf rfl),trivial⟩) ?_
 refine tm rfl (TO.DB 1 rfl rfl (by decide) (AU rfl rfl (by decide) rfl (CN (by omega) (by omega)) ⟨ke rfl,ke rfl,trivial⟩) ?_)
 refine ap ?_
 refine TO.DB 1 rfl rfl (by decide) (AU rfl rfl (by decide) rfl (Mm (l:=[90,50,100,1]) (by simp) (by simp)) ⟨ke rfl,(Kf rfl),trivial⟩) ?_
 refine tm rfl (TO.DB 1 rfl rfl (by decide) (AU rfl rfl (by decide) rfl (CN (by omega) (by omega)) ⟨ke rfl,ke rfl,trivial⟩) ?_)
 refine ap ?_
 refine TO.DB 1 rfl rfl (by decide) (AU rfl rfl (by decide) rfl (Np (l:=[[115],[116]]) (by simp) (by simp)) ⟨ke rfl,(Kf rfl),trivial⟩) ?_
 refine tp rfl (oD) ?_
 refine Tl rfl rfl rfl rfl EO JG (fun b2=> ?_)
 refine ap ?_
 refine Py 0 2 3 rfl (Tr.seq (Tr.seq ?_))
 generalize s.C3.C3.C3.C3.C3.C3.C3=s7
 generalize s.val 7=src at f1 ⊢
 generalize Ju (s.C3) [[97],[98],[99]]=host at f2 ⊢
 generalize (s.C3.C3).of [0,1,2,0,3]=J9 at f3 ⊢
 generalize (s.C3.C3.C3).val 12=day at f4 ⊢
 generalize (s.C3.C3.C3.C3).of [90,50,100,1]=B5 at f5 ⊢
 generalize (s.C3.C3.C3.C3.C3).val 8=kd at f6 ⊢
 generalize Ju (s.C3.C3.C3.C3.C3.C3) [[115],[116]]=BM at f7 ⊢
 have g3:0≤J9∧J9≤3:=by simp at f3;omega
 have g5:1≤B5∧B5≤100:=by simp at f5;omega
 refine Tr.Fj 0 [int (1+src),str host,int J9,int day,int B5,int (1+kd),str BM,int 0,int 0,int 0,str []] rfl ⟨Lr,Lr,Lr,Lr,Lr,Lr,Lr,Lr,Lr,Lr,Lr,trivial⟩ ?_
 refine ac ?_
 refine an ?_ ?_<;>intro h1 q1
 refine ac ?_
 refine Tr.cond rfl (fun _=> ?_) (fun h=>nomatch h1.symm.trans h)
 have f8:=s7.DD (n:=4) (by omega)
 obtain ⟨u,hu⟩:=at_ (l:=QN) (k:=(s7.val 4).toNat) (by have:QN.length=4:=rfl;omega)
 have bP:=Re u (List.mem_of_getElem? hu)
 refine ap ?_
 refine TO.DB 2 rfl rfl (by decide) (AU rfl rfl (by decide) rfl (CN (by omega) (by omega)) ⟨ke rfl,ke rfl,trivial⟩) (tp rfl (AB rfl underlying76 Fl (Kf rfl) (vl rfl) (by omega) (A_ (l:=QN) (f:=fun p:Int×Int=>[int p.1,int p.2]) hu)) ?_)
 refine ap ?_
 refine EK 2 3 rfl (Tr.seq (Tr.Fj 0 [int (1+src),str host,int J9,int day,int B5,int (1+kd),str BM,int u.1,int u.2,int 0,str []] rfl ⟨Lr,Lr,Lr,Lr,Lr,Lr,Lr,Lr,Lr,Lr,Lr,trivial⟩ ?_))
 refine ap ?_
 refine Tr.drop 0 (Tr.ret (Fin.E3 1 _ rfl rfl (Fin.E4 [_] rfl (A6.cell 0 rfl rfl BE AY rfl (Lr)) ?_ (fun _ _ _ _=>rfl))))
 · refine BD (Ac.mk _ _ _ _ _ _ _ _ _ _ _) (Aj ?_ (Lr));exact Fb (by show 1≤1+src∧1+src≤7;omega) f2.1 g3 f4 g5 f7.1 (by unfold AX;rw [if_pos (by simp;omega)];simp [bP]) f2.2 f7.2 (by show (0:Nat)≤_;omega)
 refine an ?_ ?_<;>intro h2 q2
 have f8:=s7.DD (n:=4) (by omega)
 obtain ⟨u,hu⟩:=at_ (l:=QN) (k:=(s7.val 4).toNat) (by have:QN.length=4:=rfl;omega)
 have bP:=Re u (List.mem_of_getElem? hu)
 refine ap ?_
 refine TO.DB 2 rfl rfl (by decide) (AU rfl rfl (by decide) rfl (CN (by omega) (by omega)) ⟨ke rfl,ke rfl,trivial⟩) (tp rfl (AB rfl underlying76 Fl (Kf rfl) (vl rfl) (by omega) (A_ (l:=QN) (f:=fun p:Int×Int=>[int p.1,int p.2]) hu)) ?_)
 refine ap ?_
 refine EK 2 3 rfl (Tr.seq (Tr.Fj 0 [int (1+src),str host,int J9,int day,int B5,int (1+kd),str BM,int u.1,int u.2,int 0,str []] rfl ⟨Lr,Lr,Lr,Lr,Lr,Lr,Lr,Lr,Lr,Lr,Lr,trivial⟩ ?_))
 refine ap ?_
 refine Tr.drop 0 (Tr.ret (Fin.E3 1 _ rfl rfl (Fin.E4 [_] rfl (A6.cell 0 rfl rfl BE AY rfl (Lr)) ?_ (fun _ _ _ _=>rfl))))
 · refine BD (Ac.mk _ _ _ _ _ _ _ _ _ _ _) (Aj ?_ (Lr));exact Fb (by show 1≤1+src∧1+src≤7;omega) f2.1 g3 f4 g5 f7.1 (by unfold AX;rw [if_pos (by simp;omega)];simp [bP]) f2.2 f7.2 (by show (0:Nat)≤_;omega)
 refine an ?_ ?_<;>intro h3 q3
 have f8:=s7.DD (n:=5) (by omega)
 refine ap ?_
 refine TO.DB 2 rfl rfl (by decide) (AU rfl rfl (by decide) rfl (CN (by omega) (by omega)) ⟨ke rfl,ke rfl,trivial⟩) ?_
 refine ap ?_
 refine EK 2 3 rfl (Tr.seq (Tr.Fj 0 [int (1+src),str host,int J9,int day,int B5,int (1+kd),str BM,int 0,int 0,int (1+s7.val 5),str []] rfl ⟨Lr,Lr,Lr,Lr,Lr,Lr,Lr,Lr,Lr,Lr,Lr,trivial⟩ ?_))
 generalize s7.val 5=nv at f8 ⊢
 refine ap ?_
 refine Tr.drop 0 (Tr.ret (Fin.E3 1 _ rfl rfl (Fin.E4 [_] rfl (A6.cell 0 rfl rfl BE AY rfl (Lr)) ?_ (fun _ _ _ _=>rfl))))
 · refine BD (Ac.mk _ _ _ _ _ _ _ _ _ _ _) (Aj ?_ (Lr));exact Fb (by show 1≤1+src∧1+src≤7;omega) f2.1 g3 f4 g5 f7.1 (by unfold AX B0;rw [if_neg (by simp;omega),if_pos (by simp;omega)];simp;omega) f2.2 f7.2 (by show (0:Nat)≤_;omega)
 refine an ?_ ?_<;>intro h4 q4
 have f8:=s7.P9 (l:=[1024,2048]) (by simp)
 have f9:=s7.C3.DD (n:=3) (by omega)
 refine ap ?_
 refine TO.DB 2 rfl rfl (by decide) (AU rfl rfl (by decide) rfl (Mm (l:=[1024,2048]) (by simp) (by simp)) ⟨ke rfl,(Kf rfl),trivial⟩) ?_
 refine ap ?_
 refine TO.DB 2 rfl rfl (by decide) (AU rfl rfl (by decide) rfl (CN (by omega) (by omega)) ⟨ke rfl,ke rfl,trivial⟩) ?_
 refine ap ?_
 refine EK 2 3 rfl (Tr.seq (Tr.Fj 0 [int (1+src),str host,int J9,int day,int B5,int (1+kd),str BM,int 5,int (s7.of [1024,2048]),int (100+s7.C3.val 3),str []] rfl ⟨Lr,Lr,Lr,Lr,Lr,Lr,Lr,Lr,Lr,Lr,Lr,trivial⟩ ?_))
 generalize s7.of [1024,2048]=bt at f8 ⊢
 generalize s7.C3.val 3=nv at f9 ⊢
 refine ap ?_
 refine Tr.drop 0 (Tr.ret (Fin.E3 1 _ rfl rfl (Fin.E4 [_] rfl (A6.cell 0 rfl rfl BE AY rfl (Lr)) ?_ (fun _ _ _ _=>rfl))))
 · refine BD (Ac.mk _ _ _ _ _ _ _ _ _ _ _) (Aj ?_ (Lr));exact Fb (by show 1≤1+src∧1+src≤7;omega) f2.1 g3 f4 g5 f7.1 (by unfold AX;rw [if_neg (by simp;omega),if_neg (by simp;omega),if_pos (by simp;omega)];simp at f8;rcases f8 with h|h<;>rw [h]<;>simp [show Bk 5 1024>0 by decide,show Bk 5 2048>0 by decide,show (Cn 5).kind=2 by rfl]<;>omega) f2.2 f7.2 (by show (0:Nat)≤_;omega)
 refine ac ?_
 refine EL 0 2 3 26 57 rfl ?_
 refine Tr.cn rfl ?_ ?_<;>intro h5 q5
 refine ac ?_
 refine Tr.cond rfl (fun _=> ?_) (fun h=>nomatch h5.symm.trans h)
 have f8:=s7.DD (n:=4) (by omega)
 refine ap ?_
 refine TO.DB 2 rfl rfl (by decide) (AU rfl rfl (by decide) rfl (CN (by omega) (by omega)) ⟨ke rfl,ke rfl,trivial⟩) ?_
 refine ap ?_
 refine Tr.seq (Tr.Fj 0 [int (1+src),str host,int J9,int day,int B5,int (1+kd),str BM,int 0,int 0,int (1+s7.val 4),str []] rfl ⟨Lr,Lr,Lr,Lr,Lr,Lr,Lr,Lr,Lr,Lr,Lr,trivial⟩ ?_)
 generalize s7.val 4=nv at f8 ⊢
 refine ap ?_
 refine Tr.drop 0 (Tr.ret (Fin.E3 1 _ rfl rfl (Fin.E4 [_] rfl (A6.cell 0 rfl rfl BE AY rfl (Lr)) ?_ (fun _ _ _ _=>rfl))))
 · refine BD (Ac.mk _ _ _ _ _ _ _ _ _ _ _) (Aj ?_ (Lr));exact Fb (by show 1≤1+src∧1+src≤7;omega) f2.1 g3 f4 g5 f7.1 (by unfold AX B0;rw [if_neg (by simp;omega),if_neg (by simp;omega),if_neg (by simp;omega),if_pos (by simp;omega)];simp;omega) f2.2 f7.2 (by show (0:Nat)≤_;omega)
 refine an ?_ ?_<;>intro h6 q6
 have f8:=s7.DD (n:=4) (by omega)
 refine ap ?_
 refine TO.DB 2 rfl rfl (by decide) (AU rfl rfl (by decide) rfl (CN (by omega) (by omega)) ⟨ke rfl,ke rfl,trivial⟩) ?_
 refine ap ?_
 refine Tr.seq (Tr.Fj 0 [int (1+src),str host,int J9,int day,int B5,int (1+kd),str BM,int 0,int 0,int (1+s7.val 4),str []] rfl ⟨Lr,Lr,Lr,Lr,Lr,Lr,Lr,Lr,Lr,Lr,Lr,trivial⟩ ?_)
 generalize s7.val 4=nv at f8 ⊢
 refine ap ?_
 refine Tr.drop 0 (Tr.ret (Fin.E3 1 _ rfl rfl (Fin.E4 [_] rfl (A6.cell 0 rfl rfl BE AY rfl (Lr)) ?_ (fun _ _ _ _=>rfl))))
 · refine BD (Ac.mk _ _ _ _ _ _ _ _ _ _ _) (Aj ?_ (Lr));exact Fb (by show 1≤1+src∧1+src≤7;omega) f2.1 g3 f4 g5 f7.1 (by unfold AX B0;rw [if_neg (by simp;omega),if_neg (by simp;omega),if_neg (by simp;omega),if_pos (by simp;omega)];simp;omega) f2.2 f7.2 (by show (0:Nat)≤_;omega)
 refine an ?_ ?_<;>intro h7 q7
 have f8:=s7.DD (n:=3) (by omega)
 refine ap ?_
 refine TO.DB 2 rfl rfl (by decide) (AU rfl rfl (by decide) rfl (CN (by omega) (by omega)) ⟨ke rfl,ke rfl,trivial⟩) ?_
 refine ap ?_
 refine Tr.seq (Tr.Fj 0 [int (1+src),str host,int J9,int day,int B5,int (1+kd),str BM,int 0,int 0,int (s7.val 3),str []] rfl ⟨Lr,Lr,Lr,Lr,Lr,Lr,Lr,Lr,Lr,Lr,Lr,trivial⟩ ?_)
 generalize s7.val 3=nv at f8 ⊢
 refine ap ?_
 refine Tr.drop 0 (Tr.ret (Fin.E3 1 _ rfl rfl (Fin.E4 [_] rfl (A6.cell 0 rfl rfl BE AY rfl (Lr)) ?_ (fun _ _ _ _=>rfl))))
 · refine BD (Ac.mk _ _ _ _ _ _ _ _ _ _ _) (Aj ?_ (Lr));exact Fb (by show 1≤1+src∧1+src≤7;omega) f2.1 g3 f4 g5 f7.1 (by unfold AX B0;rw [if_neg (by simp;omega),if_neg (by simp;omega),if_neg (by simp;omega),if_neg (by simp;omega),if_pos (by simp;omega)];simp;omega) f2.2 f7.2 (by show (0:Nat)≤_;omega)
 refine Tr.seq ?_
 skip
 refine an ?_ ?_<;>intro h8 q8
 have f8:=Up (LM s7 (l:=[[97],[98]]) (by simp))
 refine ap ?_
 refine TO.DB 2 rfl rfl (by decide) (AU rfl rfl (by decide) rfl (Np (l:=[[97],[98]]) (by simp) (by simp)) ⟨ke rfl,(Kf rfl),trivial⟩) ?_
 refine ap ?_
 refine EK 2 3 rfl (Tr.seq (Tr.Fj 0 [int (1+src),str host,int J9,int day,int B5,int (1+kd),str BM,int 0,int 0,int 0,str (Ju s7 [[97],[98]])] rfl ⟨Lr,Lr,Lr,Lr,Lr,Lr,Lr,Lr,Lr,Lr,Lr,trivial⟩ ?_))
 generalize Ju s7 [[97],[98]]=tx at f8 ⊢
 refine ap ?_
 refine Tr.drop 0 (Tr.ret (Fin.E3 1 _ rfl rfl (Fin.E4 [_] rfl (A6.cell 0 rfl rfl BE AY rfl (Lr)) ?_ (fun _ _ _ _=>rfl))))
 · refine BD (Ac.mk _ _ _ _ _ _ _ _ _ _ _) (Aj ?_ (Lr));exact Fb (by show 1≤1+src∧1+src≤7;omega) f2.1 g3 f4 g5 f7.1 (by unfold AX;rw [if_neg (by simp;omega),if_neg (by simp;omega),if_neg (by simp;omega),if_neg (by simp;omega),if_neg (by simp;omega),if_pos (by simp;omega)];simp [f8.1]) f2.2 f7.2 f8.2
 refine ac ?_
 refine Tr.seq (Tr.Fj 0 [int (1+src),str host,int J9,int day,int B5,int (1+kd),str BM,int 0,int 0,int 0,str []] rfl ⟨Lr,Lr,Lr,Lr,Lr,Lr,Lr,Lr,Lr,Lr,Lr,trivial⟩ ?_)
 refine ap ?_
 refine Tr.drop 0 (Tr.ret (Fin.E3 1 _ rfl rfl (Fin.E4 [_] rfl (A6.cell 0 rfl rfl BE AY rfl (Lr)) ?_ (fun _ _ _ _=>rfl))))
 · exfalso;omega
structure JJ {α:Type} (c:α→α→Int):Prop where
 swap:∀x y,c y x= -c x y
 tr:∀x y z,c x y<0→c y z<0→c x z<0
 eq:∀x y z,c x y=0→c x z=c y z
theorem JJ.kB {α:Type} {c:α→α→Int} (h:JJ c) (x y z:α) (e:c y z=0):c x y=c x z:=by
 have h1:=h.eq y z x e
 have h2:=h.swap x y
 have h3:=h.swap x z
 omega
theorem JJ.kC {α:Type} {c:α→α→Int} (h:JJ c):Go.Sort.SWO (Bp fun p:α×α=>c p.1 p.2) where
 irrefl x:=by have:=h.swap x x;exact decide_eq_false (by show ¬c x x<0;omega)
 trans x y z h1 h2:=decide_eq_true (h.tr x y z (of_decide_eq_true h1) (of_decide_eq_true h2))
 ntrans x y z h1 h2:=by
  have h1:¬c x y<0:=of_decide_eq_false h1
  have h2:¬c y z<0:=of_decide_eq_false h2
  refine decide_eq_false (show ¬c x z<0 from fun h3=> ?_)
  have e1:=h.swap x y
  by_cases hxy:c x y=0
  · have:=h.eq x y z hxy;omega
  · have:=h.tr y x z (by omega) h3;omega
theorem JJ.cons {α:Type} {c d:α→α→Int} (h:JJ c) (k:JJ d):JJ (fun x y=>if c x y=0 then d x y else c x y) where
 swap x y:=by
  have h1:=h.swap x y
  have h2:=k.swap x y
  show (if c y x=0 then d y x else c y x)= -(if c x y=0 then d x y else c x y)
  by_cases e:c x y=0
  · rw [if_pos e,if_pos (by omega)];exact h2
  · rw [if_neg e,if_neg (by omega)];exact h1
 tr x y z h1 h2:=by
  show (if c x z=0 then d x z else c x z)<0
  have h1:(if c x y=0 then d x y else c x y)<0:=h1
  have h2:(if c y z=0 then d y z else c y z)<0:=h2
  by_cases e1:c x y=0
  ·
   rw [if_pos e1] at h1
   have e3:=h.eq x y z e1
   by_cases e2:c y z=0
   · rw [if_pos e2] at h2;rw [if_pos (by omega)];exact k.tr x y z h1 h2
   · rw [if_neg e2] at h2;rw [if_neg (by omega)];omega
  ·
   rw [if_neg e1] at h1
   by_cases e2:c y z=0
   ·
    have e3:=h.kB x y z e2
    rw [if_neg (by omega)];omega
   ·
    rw [if_neg e2] at h2
    have:=h.tr x y z h1 h2
    rw [if_neg (by omega)];exact this
 eq x y z h1:=by
  have h1:(if c x y=0 then d x y else c x y)=0:=h1
  show (if c x z=0 then d x z else c x z)=(if c y z=0 then d y z else c y z)
  by_cases e1:c x y=0
  ·
   rw [if_pos e1] at h1
   rw [h.eq x y z e1,k.eq x y z h1]
  · rw [if_neg e1] at h1;exact absurd h1 e1
theorem JJ.nil {α:Type}:JJ (fun _ _:α=>0):=⟨fun _ _=>rfl,fun _ _ _ h=>absurd h (by decide),fun _ _ _ _=>rfl⟩
theorem JJ.on {α β:Type} {c:β→β→Int} (f:α→β) (h:JJ c):JJ (fun x y=>c (f x) (f y)):=⟨fun x y=>h.swap (f x) (f y),fun x y z=>h.tr (f x) (f y) (f z),fun x y z=>h.eq (f x) (f y) (f z)⟩
theorem CO:JJ Ar:=⟨fun x y=>by unfold Ar;by_cases h1:x<y<;>by_cases h2:y<x<;>simp [h1,h2]<;>omega,fun x y z h1 h2=>by unfold Ar at*;(repeat (split at h1))<;>(repeat (split at h2))<;>(repeat (split))<;>omega,fun x y z h=>by rw [BK.1 h]⟩
theorem Xb (x y:UInt8) (xs ys:List UInt8):Lib.compareBytes (x::xs) (y::ys)<0↔x.toNat<y.toNat∨(x.toNat=y.toNat∧Lib.compareBytes xs ys<0):=by
 rw [Lib.compareBytes]
 by_cases a1:x<y
 ·
  rw [if_pos a1]
  have:=UInt8.lt_iff_toNat_lt.1 a1
  constructor
  · intro _;exact .inl this
  · intro _;decide
 ·
  have b1:¬x.toNat<y.toNat:=fun h=>a1 (UInt8.lt_iff_toNat_lt.2 h)
  rw [if_neg a1]
  by_cases a2:y<x
  ·
   have:=UInt8.lt_iff_toNat_lt.1 a2
   rw [if_pos a2]
   constructor
   · intro h;exact absurd h (by decide)
   · intro h;omega
  ·
   have b2:¬y.toNat<x.toNat:=fun h=>a2 (UInt8.lt_iff_toNat_lt.2 h)
   rw [if_neg a2]
   constructor
   · intro h;exact .inr ⟨by omega,h⟩
   ·
    rintro (h|h)
    · omega
    · exact h.2
theorem Il:∀(a b c:List UInt8),Lib.compareBytes a b<0→Lib.compareBytes b c<0→Lib.compareBytes a c<0
 |[],[],_,h,_=>by simp [Lib.compareBytes] at h
 |[],_::_,[],_,h=>by simp [Lib.compareBytes] at h
 |[],_::_,_::_,_,_=>by simp [Lib.compareBytes]
 |_::_,[],_,h,_=>by simp [Lib.compareBytes] at h
 |_::_,_::_,[],_,h=>by simp [Lib.compareBytes] at h
 |x::xs,y::ys,z::zs,h1,h2=>by
  rw [Xb] at h1 h2 ⊢
  rcases h1 with h1|h1
  ·
   rcases h2 with h2|h2
   · left;omega
   · left;omega
  ·
   rcases h2 with h2|h2
   · left;omega
   · right;exact ⟨by omega,Il xs ys zs h1.2 h2.2⟩
theorem GA:JJ Lib.compareBytes:=⟨E6,Il,fun x y z h=>by rw [(CB x y).1 h]⟩
theorem Bg (a:Int) (l:List Int):Fq (a::l)=if a=0 then Fq l else a:=rfl
theorem Xc:Fq []=0:=rfl
theorem Uq:JJ D1:=by
 have:=(GA.on Ac.host).cons ((CO.on Ac.machine).cons ((CO.on Ac.day).cons ((GA.on Ac.BM).cons ((CO.on Ac.kind).cons ((CO.on Ac.BI).cons ((CO.on Ac.bits).cons ((CO.on Ac.num).cons ((GA.on Ac.text).cons ((CO.on Ac.src).cons ((CO.on Ac.B5).cons (JJ.nil (α:=Ac))))))))))))
 exact this
def DV {α:Type} (c:α→α→Int) (l:List α):Prop:=l.Pairwise fun x y=>c x y≤0
theorem Jv {α:Type} {c:α→α→Int} (hc:JJ c) {l m:List α} (hp:l.Perm m) (h1:DV c l) (h2:DV c m) (h:∀x y,x∈l→y∈l→c x y=0→x=y):l=m:=
 List.Perm.eq_of_pairwise (le:=fun x y=>c x y≤0) (fun a b ha hb h3 h4=>h a b ha (hp.mem_iff.2 hb) (by have:=hc.swap a b;omega)) h1 h2 hp
theorem H_ {α:Type} [Inhabited α] {c:α→α→Int} (hc:JJ c) {l st:List α} (h:CS (fun p=>c p.1 p.2) 0 (l.length:Nat) l st):st.Perm l∧DV c st:=by
 refine ⟨B6.whole h.1,?_⟩
 have hl:=h.len
 unfold DV
 rw [List.pairwise_iff_getElem]
 intro i j hi hj hij
 have h1:=h.2 i j (by simp) hij (by simp;omega)
 have e1:st.toArray[i]! =st[i]:=by simp [hi]
 have e2:st.toArray[j]! =st[j]:=by simp [hj]
 rw [e1,e2] at h1
 have h2:¬c st[j] st[i]<0:=of_decide_eq_false h1
 have:=hc.swap st[i] st[j]
 omega
section
variable {β:Type} [DecidableEq β]
def QO (acc:List β) (x:β):List β:=if acc.getLast? =some x then acc else acc++[x]
def GJ (l:List β):List β:=l.foldl QO []
theorem LN {l:List β} {j:Nat} {x:β} (h:l[j]? =some x):GJ (l.take (j+1))=QO (GJ (l.take j)) x:=by
 unfold GJ;rw [List.take_add_one,h,List.foldl_append];rfl
theorem Ur (acc:List β) (x:β):(QO acc x).getLast? =some x:=by
 unfold QO;split
 · assumption
 · simp
theorem Ov {l:List β} {j:Nat} {y:β} (hj:1≤j) (h:l[j-1]? =some y):(GJ (l.take j)).getLast? =some y:=by
 have:=LN (j:=j-1) h
 rw [show j-1+1=j by omega] at this
 rw [this];exact Ur _ _
theorem Us {l:List β} {j:Nat} {x y:β} (hj:1≤j) (hx:l[j]? =some x) (hy:l[j-1]? =some y) (hne:¬x=y):GJ (l.take (j+1))=GJ (l.take j)++[x]:=by
 rw [LN hx];unfold QO
 rw [if_neg]
 rw [Ov hj hy];intro e;injection e with e;exact hne e.symm
theorem Ow {l:List β} {j:Nat} {x y:β} (hj:1≤j) (hx:l[j]? =some x) (hy:l[j-1]? =some y) (he:x=y):GJ (l.take (j+1))=GJ (l.take j):=by
 rw [LN hx];unfold QO
 rw [if_pos]
 rw [Ov hj hy,he]
theorem JK {l:List β} (h:l.length<2):GJ l=l:=by
 match l,h with
 |[],_=>rfl
 |[x],_=>rfl
theorem Xd (acc:List β) (x:β):(QO acc x).length≤acc.length+1:=by unfold QO;split<;>simp
theorem Fc (l:List β):(GJ l).length≤l.length:=by
 have key:∀(l acc:List β),(l.foldl QO acc).length≤acc.length+l.length:=by
  intro l
  induction l with
  |nil=>intro acc;simp
  |cons x l ih=>intro acc;have h1:=ih (QO acc x);have h2:=Xd acc x;simp only [List.foldl_cons,List.length_cons];omega
 have:=key l []
 unfold GJ;simpa using this
theorem Rf {acc:List β} {a x:β}:x∈QO acc a↔x∈acc∨x=a:=by
 unfold QO;split
 ·
  rename_i h
  constructor
  · exact .inl
  ·
   rintro (h1|rfl)
   · exact h1
   · exact List.mem_of_getLast? h
 · simp
theorem Xe {l:List β} {x:β}:x∈GJ l↔x∈l:=by
 have key:∀(l acc:List β),x∈l.foldl QO acc↔x∈acc∨x∈l:=by
  intro l
  induction l with
  |nil=>intro acc;simp
  |cons a l ih=>intro acc;rw [List.foldl_cons,ih,Rf,List.mem_cons,or_assoc]
 unfold GJ;rw [key];simp
abbrev G7 (c:β→β→Int) (l:List β):Prop:=l.Pairwise fun x y=>c x y<0
theorem QS {c:β→β→Int} (hc:JJ c) (he:∀x y,c x y=0→x=y) {l:List β} (h:DV c l):G7 c (GJ l):=by
 have key:∀(l acc:List β),G7 c acc→(∀a∈acc,∀x∈l,c a x≤0)→DV c l→G7 c (l.foldl QO acc):=by
  intro l
  induction l with
  |nil=>intro acc h1 _ _;exact h1
  |cons x l ih=>
   intro acc h1 h2 h3
   obtain ⟨h4,h5⟩:=List.pairwise_cons.1 h3
   rw [List.foldl_cons]
   refine ih _ ?_ (fun a ha y hy=> ?_) h5
   ·
    unfold QO;split
    · exact h1
    ·
     rename_i hl
     unfold G7
     rw [List.pairwise_append]
     refine ⟨h1,by simp,fun a ha b hb=> ?_⟩
     simp at hb;subst hb
     have hle:=h2 a ha b (by simp)
     rcases Int.lt_or_eq_of_le hle with hlt|heq
     · exact hlt
     ·
      have e:=he _ _ heq
      subst e
      exfalso
      obtain ⟨pre,z,hz⟩:∃pre z,acc=pre++[z]:=by
       rcases List.eq_nil_or_concat acc with rfl|⟨pre,z,hz⟩
       · cases ha
       · exact ⟨pre,z,by simpa using hz⟩
      subst hz
      rcases List.mem_append.1 ha with ha|ha
      ·
       have h6:=(List.pairwise_append.1 h1).2.2 a ha z (by simp)
       have h7:=h2 z (by simp) a (by simp)
       have h8:=hc.swap a z
       have h6:c a z<0:=h6
       omega
      · simp at ha;subst ha;simp at hl
   ·
    rcases Rf.1 ha with ha|rfl
    · exact h2 a ha y (List.mem_cons_of_mem _ hy)
    · exact h4 y hy
 exact key l [] .nil (by simp) h
theorem Ox {c:β→β→Int} (hc:JJ c) {l m:List β} (h1:G7 c l) (h2:G7 c m) (h:∀x,x∈l↔x∈m):l=m:=by
 have hn:∀{k:List β},G7 c k→k.Nodup:=fun hk=>hk.imp fun {a b} hab e=>by subst e;have:=hc.swap a a;omega
 have hp:l.Perm m:=(List.perm_ext_iff_of_nodup (hn h1) (hn h2)).2 h
 refine Jv hc hp (h1.imp fun h=>Int.le_of_lt h) (h2.imp fun h=>Int.le_of_lt h) fun x y hx hy e=> ?_
 obtain ⟨i,hi,rfl⟩:=List.mem_iff_getElem.1 hx
 obtain ⟨j,hj,rfl⟩:=List.mem_iff_getElem.1 hy
 have hp:=List.pairwise_iff_getElem.1 h1
 rcases Nat.lt_trichotomy i j with hij|hij|hij
 · have:=hp i j hi hj hij;omega
 · subst hij;rfl
 ·
  have:=hp j i hj hi hij
  have h3:=hc.swap l[i] l[j]
  omega
omit [DecidableEq β] in
theorem Ut {l:List β} {w:Nat} {u:β} (h:w<l.length):(l.set w u).take (w+1)=l.take w++[u]:=by
 rw [List.take_add_one,List.getElem?_set_self h,List.take_set_of_le (Nat.le_refl _)];rfl
end
deriving instance DecidableEq for Ac
theorem Z2 {c:Ac→Ac→Int} (hc:JJ c) {l:List Ac} (h:∀(j:Nat) a b,l[j]? =some a→l[j+1]? =some b→c a b<0):G7 c l:=by
 induction l with
 |nil=>exact .nil
 |cons x l ih=>
  have hl:∀(j:Nat) a b,l[j]? =some a→l[j+1]? =some b→c a b<0:=fun j a b ha hb=>h (j+1) a b (by simpa using ha) (by simpa using hb)
  have ih:=ih hl
  refine List.pairwise_cons.2 ⟨fun y hy=> ?_,ih⟩
  cases l with
  |nil=>cases hy
  |cons z l=>
   have h0:c x z<0:=h 0 x z rfl rfl
   rcases List.mem_cons.1 hy with rfl|hy
   · exact h0
   · exact hc.tr x z y h0 ((List.pairwise_cons.1 ih).1 y hy)
theorem QT {x y:Ac} (h:x.src=y.src∧x.host=y.host∧x.machine=y.machine∧x.day=y.day∧x.B5=y.B5∧x.kind=y.kind∧x.BM=y.BM∧x.BI=y.BI∧x.bits=y.bits∧x.num=y.num∧x.text=y.text):x=y:=by
 cases x;cases y;simp at h;simp [h]
theorem Rh {x y:Ac}:x=y↔(x.src=y.src∧x.host=y.host∧x.machine=y.machine∧x.day=y.day∧x.B5=y.B5∧x.kind=y.kind∧x.BM=y.BM∧x.BI=y.BI∧x.bits=y.bits∧x.num=y.num∧x.text=y.text):=
 ⟨by rintro rfl;simp,QT⟩
theorem IA {l:List Ac} (h:J8 l) {i j:Nat} {f g:Ac} (hf:l[i]? =some f) (hg:l[j]? =some g) (hij:i<j):D1 f g<0:=by
 have hi:=(List.getElem?_eq_some_iff.1 hf).1
 have hj:=(List.getElem?_eq_some_iff.1 hg).1
 have:=List.pairwise_iff_getElem.1 (Z2 Uq h) i j hi hj hij
 rw [List.getElem?_eq_getElem hi] at hf
 rw [List.getElem?_eq_getElem hj] at hg
 simp only [Option.some.injEq] at hf hg
 rw [←hf,←hg];exact this
def KT (l:List Int):Prop:=∀(j:Nat) x y,l[j]? =some x→l[j+1]? =some y→x<y
theorem Oy {l:List Int} {i:Int} {x:Int} (h0:0<i) (h:l[(i-1).toNat]? =some x):(l.map fun n=>[int n])[(i-1).toNat]? =some [int x]:=by
 rw [List.getElem?_map,h];rfl
theorem Nq {l:List Int} {i:Int} {x:Int} (h:l[i.toNat]? =some x):(l.map fun n=>[int n])[i.toNat]? =some [int x]:=by
 rw [List.getElem?_map,h];rfl
theorem Uu {l:List Int} (h:KT l) {i x p:Int} (h0:0<i) (hp:l[(i-1).toNat]? =some p) (hx:l[i.toNat]? =some x):p<x:=
 h (i-1).toNat p x hp (by rw [show (i-1).toNat+1=i.toNat by omega];exact hx)
theorem Nr {a b:Int}  :BT prog 142 [int a,int b] (bool (decide (a<b))):=by
 refine fo func142 rfl ⟨rfl,rfl⟩ fun M0 w0=> ?_
 · repeat' first|exact absurd h (by decide)|exact Lr|refine co rfl (Cr (LF) rfl rfl) (cm rfl ?_)|refine ac ?_|(refine Ch.cg rfl rfl rfl ?_ ?_<;>intro h q)
theorem Xf {x:Int} (h0:0≤x) (h1:x<256):BT prog 159 [is (.int .u64 x)] (ex fun k:Int=>int k):=by
 refine fo func159 rfl ⟨rfl,rfl⟩ fun M0 w0=> ?_
 have hw:IntKind.u8.wrap x=x:=IntWalk.u8_in x ⟨by omega,by omega⟩
 refine ac ?_
 refine an ?_ ?_<;>intro h1 q1
 exfalso;omega
 refine ac ?_
 refine an ?_ ?_<;>intro h2 q2
 exfalso;omega
 refine ac ?_
 refine an ?_ ?_<;>intro h3 q3
 exfalso;omega
 refine a2 ?_
 refine co rfl (Ci rfl underlying174 underlying5 (vl rfl)) ?_
 refine co rfl (IQ rfl underlying9 (vl rfl) (vl rfl) (by omega) (List.getElem?_eq_getElem (by show _<256;omega))) ?_
 refine co rfl (Ci rfl underlying5 underlying3 (vl rfl)) ?_
 refine ac ?_
 refine CM 2 rfl ?_
 refine ac ?_
 · exact BD _ (Lr)
theorem Uv {x:Int} (h0:0≤x) (h1:x<256):BT prog 100 [is (.int .u64 x)] (ex fun k:Int=>int k):=by
 refine fo func100 rfl ⟨rfl,rfl⟩ fun M0 w0=> ?_
 refine a3 ?_
 refine co rfl (Cr (Xf (by omega) (by omega)) rfl rfl) ?_
 refine a2 ?_
 · exact Lr
theorem Uw {l:List Int} {a b:Int} (hl:KT l) (h0:0≤a) (hb:b≤l.length) (hab:a≤b) (hs:l.length≤1000000):BT prog 201 [ints l,int a,int b] (CC):=by
 refine fo func201 rfl ⟨rfl,rfl⟩ fun M0 w0=> ?_
 refine ac ?_
 refine Tr.block (Tr.BU [(0,_),(1,_),(2,_)] (OK rfl) (fun i:Int=>[(6,int i)]) (fun i:Int=>a<i∧i≤b+1) (fun i:Int=>(b-i).toNat) (a+1) (⟨by omega,by omega⟩) ⟨ke rfl,trivial⟩ ?_)
 rintro i ⟨hi1,hi2⟩
 refine an ?_ ?_<;>intro h1 q1
 have hib:i<b:=of_decide_eq_true h1
 refine a2 ?_
 refine Tr.block (Tr.BU [(0,_),(1,_),(2,_),(6,_)] (KH rfl) (fun j:Int=>[(7,int j)]) (fun j:Int=>j=i) (fun j:Int=>0) i (rfl) ⟨ke rfl,trivial⟩ ?_)
 rintro j hj
 refine ag ?_ ?_<;>intro h2 q2
 obtain ⟨x,hx⟩:=at_ (l:=l) (k:=j.toNat) (by omega)
 obtain ⟨p,hp⟩:=at_ (l:=l) (k:=(j-1).toNat) (by omega)
 have hpx:=Uu hl (by omega) hp hx
 refine ac ?_
 refine cy h2 rfl (AB rfl underlying22 A4 (vl rfl) (vl rfl) (by omega) (Nq hx)) ?_
 refine ac ?_
 refine cy h2 rfl (AB rfl underlying22 A4 (vl rfl) (vl rfl) (by omega) (Oy (by omega) hp)) (cy h2 rfl (L4 rfl Au rfl) (cy h2 rfl (EE (Nr) rfl rfl rfl) ?_))
 refine ac ?_
 refine EZ 0 1 2 6 7 30 rfl ?_
 refine Tr.cn rfl ?_ ?_<;>intro h3 q3
 have:=h3
 exfalso;omega
 have:=h3
 refine a2 ?_
 exact Fin.AE (i+1) ⟨⟨by omega,by omega⟩,by omega⟩ (KH rfl)
 refine ac ?_
 refine EZ 0 1 2 6 7 30 rfl ?_
 refine a2 ?_
 exact Fin.AE (i+1) ⟨⟨by omega,by omega⟩,by omega⟩ (KH rfl)
 have:=h1
 refine Tr.exit (Fin.AG (Fin.AG (Fin.AP (Fin.QD rfl))))
theorem Ux {l:List Int} {a b:Int} (hl:KT l) (h0:0≤a) (hb:b≤l.length) (hab:a≤b) (hs:b-a≤12) (ew:l.length≤1000000):BT prog 173 [ints l,int a,int b,any] (CC):=by
 refine fo func173 rfl ⟨rfl,rfl⟩ fun M0 w0=> ?_
 refine a2 ?_
 refine Tr.block (Tr.BU [(0,_)] ⟨ke rfl,trivial⟩ (fun (u:Unit)=>[(1,int a),(2,int b)]) (fun (u:Unit)=>True) (fun (u:Unit)=>0) () (trivial) ⟨ke rfl,ke rfl,trivial⟩ ?_)
 rintro u _
 refine ac ?_
 refine an ?_ ?_<;>intro h1 q1
 refine ac ?_
 refine co rfl (av (Uw (by assumption) (by omega) (by omega) (by omega) (by omega)) rfl rfl rfl rfl) ?_
 refine ac ?_
 refine Tr.ret (Fin.AF (Fin.AK (Fin.AF (Fin.AK (Fin.RJ rfl)))))
 exfalso;omega
theorem Mn {l:List Int} (hl:KT l) (hs:l.length≤12):BT prog 128 [ints l] (CC):=by
 refine fo func128 rfl ⟨rfl,rfl⟩ fun M0 w0=> ?_
 have hw:IntKind.u64.wrap ((l.length:Nat):Int)=l.length:=IntWalk.u64_in _ ⟨by omega,by omega⟩
 refine a2 ?_
 refine co rfl (Ci rfl underlying3 underlying137 (vl rfl)) (co rfl (Cr (Uv (by omega) (by omega)) rfl rfl) ?_)
 refine co rfl (Ah rfl (Ux (l:=l) (a:=0) (b:=(l.length:Int)) hl (by omega) (by omega) (by omega) (by omega) (by omega)) ⟨ke rfl,ke rfl,ke rfl,⟨_,rfl,Cs _⟩,trivial⟩) ?_
 refine Ch.nil (Fin.QD rfl)
theorem Z3 {l:List Int} (h:KT l) {k:Nat} {x p:Int} (hk:0<k) (hp:l[k-1]? =some p) (hx:l[k]? =some x):p<x:=h (k-1) p x hp (by rw [show k-1+1=k by omega];exact hx)
theorem Sf {l:List Int} {k:Nat} {x:Int} (h:l[k-1]? =some x) (h0:0<k):(l.map fun n=>[int n])[(((k:Nat):Int)-1).toNat]? =some [int x]:=by
 rw [show (((k:Nat):Int)-1).toNat=k-1 by omega,List.getElem?_map,h];rfl
structure Ft where
 BM:List UInt8
 text:List UInt8
 kind:Int
 num:Int
 BI:Int
 bits:Int
deriving DecidableEq
abbrev ey (p:Ft):List Pr:=[str p.BM,str p.text,int p.kind,int p.num,int p.BI,int p.bits]
def Im (p:Ft):Value:= .agg [.string ⟨p.BM.toArray⟩,.string ⟨p.text.toArray⟩,.int .i64 p.kind,.int .i64 p.num,.int .i64 p.BI,.int .i64 p.bits].toArray
def Ay (f:Ac):Ft:=
 if f.kind=1∨f.kind=8 then ⟨f.BM,[],1,0,f.BI,f.bits⟩
 else if f.kind=2∨f.kind=6 then ⟨f.BM,[],f.kind,f.num,0,0⟩
 else if f.kind=7 then ⟨f.BM,f.text,f.kind,0,0,0⟩
 else ⟨f.BM,[],f.kind,0,0,0⟩
theorem C5 {f:Ac}  :BT prog 73 [agg (BZ f)] (agg (ey (Ay f))):=by
 refine fo func73 rfl ⟨rfl,rfl⟩ fun M0 w0=>(Tr.seq (Tr.CA (tp rfl (E0 rfl (Va rfl)) ?_)))
 refine Tl rfl rfl rfl rfl z107 T6 (fun b1=> ?_)
 refine ap ?_
 refine ap ?_
 refine Tl rfl rfl rfl rfl z107 T6 (fun b2=> ?_)
 refine ap ?_
 refine Tr.seq (Tr.seq (Tr.Fj 0 [str f.BM,str [],int f.kind,int 0,int 0,int 0] rfl ⟨Lr,Lr,Lr,Lr,Lr,Lr,trivial⟩ ?_))
 refine a2 ?_
 refine EL 1 2 3 10 11 rfl ?_
 refine Tr.cn rfl ?_ ?_<;>intro h1 q1
 refine ac ?_
 refine Tr.cond rfl (fun _=> ?_) (fun h=>nomatch h1.symm.trans h)
 refine Tr.rx ?_
 refine ay ?_
 refine Cx.nil ⟨by kernel_rfl,?_⟩
 refine BP.done Ic ?_
 refine ac ?_
 refine Tr.seq (Tr.Fj 0 [str f.BM,str [],int 1,int 0,int f.BI,int f.bits] rfl ⟨Lr,Lr,Lr,Lr,Lr,Lr,trivial⟩ ?_)
 refine ap ?_
 refine Tr.drop 0 (Tr.ret (Fin.FX rfl (A6.cell 0 rfl rfl Hx Kv rfl (Lr)) ?_))
 · unfold Ay;rw [if_pos (by omega)];exact Lr
 refine an ?_ ?_<;>intro h2 q2
 refine Tr.rx ?_
 refine ay ?_
 refine Cx.nil ⟨by kernel_rfl,?_⟩
 refine BP.done Ic ?_
 refine ac ?_
 refine Tr.seq (Tr.Fj 0 [str f.BM,str [],int 1,int 0,int f.BI,int f.bits] rfl ⟨Lr,Lr,Lr,Lr,Lr,Lr,trivial⟩ ?_)
 refine ap ?_
 refine Tr.drop 0 (Tr.ret (Fin.FX rfl (A6.cell 0 rfl rfl Hx Kv rfl (Lr)) ?_))
 · unfold Ay;rw [if_pos (by omega)];exact Lr
 refine an ?_ ?_<;>intro h3 q3
 refine ac ?_
 refine Tr.cond rfl (fun _=> ?_) (fun h=>nomatch h3.symm.trans h)
 refine ap ?_
 refine Tr.seq (Tr.Fj 0 [str f.BM,str [],int f.kind,int f.num,int 0,int 0] rfl ⟨Lr,Lr,Lr,Lr,Lr,Lr,trivial⟩ ?_)
 refine ap ?_
 refine Tr.drop 0 (Tr.ret (Fin.FX rfl (A6.cell 0 rfl rfl Hx Kv rfl (Lr)) ?_))
 · unfold Ay;rw [if_neg (by omega),if_pos (by omega)];exact Lr
 refine an ?_ ?_<;>intro h4 q4
 refine ap ?_
 refine EK 2 3 rfl (Tr.seq (Tr.Fj 0 [str f.BM,str [],int f.kind,int f.num,int 0,int 0] rfl ⟨Lr,Lr,Lr,Lr,Lr,Lr,trivial⟩ ?_))
 refine ap ?_
 refine Tr.drop 0 (Tr.ret (Fin.FX rfl (A6.cell 0 rfl rfl Hx Kv rfl (Lr)) ?_))
 · unfold Ay;rw [if_neg (by omega),if_pos (by omega)];exact Lr
 refine an ?_ ?_<;>intro h5 q5
 refine ap ?_
 refine EK 2 3 rfl (Tr.seq (Tr.Fj 0 [str f.BM,str f.text,int f.kind,int 0,int 0,int 0] rfl ⟨Lr,Lr,Lr,Lr,Lr,Lr,trivial⟩ ?_))
 refine ap ?_
 refine Tr.drop 0 (Tr.ret (Fin.FX rfl (A6.cell 0 rfl rfl Hx Kv rfl (Lr)) ?_))
 · unfold Ay;rw [if_neg (by omega),if_neg (by omega),if_pos (by omega)];exact Lr
 refine ac ?_
 refine Tr.seq (Tr.Fj 0 [str f.BM,str [],int f.kind,int 0,int 0,int 0] rfl ⟨Lr,Lr,Lr,Lr,Lr,Lr,trivial⟩ ?_)
 refine ap ?_
 refine Tr.drop 0 (CM 2 rfl (Tr.ret (Fin.FX rfl (A6.cell 0 rfl rfl Hx Kv rfl (Lr)) ?_)))
 · unfold Ay;rw [if_neg (by omega),if_neg (by omega),if_neg (by omega)];exact Lr
theorem Cf:SI Tryz.prog 105 107 3 Im where
 aq:=Tryz.underlying105
 zero:=fun w=>by kernel_rfl
 eq:=fun a b w=>by
  rw [show Op.equal 107 _ _=Op.equalIn (9997+3) 107 _ _ from rfl]
  refine (UX (x0:=a.BM) (x1:=a.text) (x2:=a.kind) (x3:=a.num) (x4:=a.BI) (x5:=a.bits) (y0:=b.BM) (y1:=b.text) (y2:=b.kind) (y3:=b.num) (y4:=b.BI) (y5:=b.bits)).trans (congrArg (fun b=>Result.ok b w) ?_)
  rw [decide_eq_decide]
  cases a;cases b;simp
 cw:=fun e a w=>by
  show (Instr.checkKey e (9999+1) 107 (.agg _)).run _ w=_
  exact dD Tryz.underlying107 (⟨⟨_,fun w=>Ag Fk rfl,RM Tryz.underlying9⟩,⟨⟨_,fun w=>Ag Fk rfl,RM Tryz.underlying9⟩,⟨⟨_,fun w=>Ag Au rfl,KK Tryz.underlying3⟩,⟨⟨_,fun w=>Ag Au rfl,KK Tryz.underlying3⟩,⟨⟨_,fun w=>E7 E5 Fl rfl,dD Tryz.underlying24 (⟨⟨_,fun w=>Ag Au rfl,KK Tryz.underlying3⟩,⟨⟨_,fun w=>Ag Au rfl,KK Tryz.underlying3⟩,trivial⟩⟩)⟩,trivial⟩⟩⟩⟩⟩) w
 cx:=⟨_,Tryz.underlying107,.inl fun a b=>rfl⟩
 bits:=fun a=>by
  show Instr.sameBits (9999+1) (.agg _) (.agg _)=true
  simp [Instr.sameBits,beq_toListBytes]
end Go.Proofs.YtgilhkjlfongoaaGreat
