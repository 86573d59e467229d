/-
  Part 3 of the texts that prove this claim, merged.
-/
import Derived.Test.YtmocaapoeefgkaaGreatDoorRows
import Derived.Test.YtmocaapoeefgkaaGreatDoorRcTP2
set_option linter.all false
set_option maxRecDepth 40000
set_option maxHeartbeats 16000000
namespace Cp
open Go Go.RowKit Go.Great
section
variable {P:Program} {L:Lg P} {n:Fm} {fz:Nat} {I:Ck}
def ACF (P:Program) (I':Ck) (M:Av) (w:World) (p:Pr):Result Next→Prop
 | .ok (.value v) w'=>∃M',p.h M' w' v∧Ext M w M' w'∧I'.h M' w'
 | .ok .skip w'=>∃M',p.h M' w' undef∧Ext M w M' w'∧I'.h M' w'
 | .ok (.enter f args) w'=>Calls P f args w' fun e w''=>∃v M',e= .returned v∧p.h M' w'' v∧Ext M w M' w''∧I'.h M' w''
 |_=>False
def mL (P:Program) (n:Fm) (I I':Ck) (o:Oper) (E:Env) (p:Pr):Prop:=o.guard=none∧∀M w (a:Act),a.tmps.size=n.sz→Cg M w E o a→I.h M w→ACF P I' M w p ((execOp a.eval o).run P w)
def Tw (P:Program) (n:Fm) (I:Ck) (ops:Array Oper):Nat→List Oper→Env→(Ck→Env→Prop)→Prop
 |_,[],_,_=>False
 |0,o::r,E,K=>∃p I',mL P n I I' o E p∧(∀d,o.dst=some d→d<n)∧Ch P n I' ops r (upd o p E) (K I')
 |c+1,o::r,E,K=>∃p,k5 P I ops o E p∧(∀d,o.dst=some d→d<n)∧Tw P n I ops c r (upd o p E) K
theorem Tw.op {ops:Array Oper} {o:Oper} {r:List Oper} {E:Env} {K:Ck→Env→Prop} {d c:Nat} {p:Pr} (hg:o.guard=none) (hd:o.dst=some d) (hn:d<n) (h:Ae P I o E p)
  (k:Tw P n I ops c r ((d,p)::E) K):Tw P n I ops (c+1) (o::r) E K:=
 ⟨p,by unfold k5;rw [hg];exact h,fun d' hd'=>by rw [hd] at hd';cases hd';exact hn,by unfold upd;rw [hd];exact k⟩
theorem Tw.turn {ops:Array Oper} {o:Oper} {r:List Oper} {E:Env} {K:Ck→Env→Prop} {d:Nat} {p:Pr} (I':Ck) (hd:o.dst=some d) (hn:d<n) (h:mL P n I I' o E p)
  (k:Ch P n I' ops r ((d,p)::E) (K I')):Tw P n I ops 0 (o::r) E K:=
 ⟨p,I',h,fun d' hd'=>by rw [hd] at hd';cases hd';exact hn,by unfold upd;rw [hd];exact k⟩
def mM (P:Program) (f:FuncId) (args:List Pr) (pre:List Aq) (res:Pr) (post:List Aq):Prop:=E4 (α:=Unit) P f args pre (fun _=>True) (fun _=>res) (fun _=>post)
section
variable {M0:Av} {w0:World} {S:Nat→Prop} {rs:List Aq} {E:Env} {o:Oper} {g:Func} {M1:Av} {w1:World}
theorem mM.of {f : FuncId} {c : Code} {ps : List Pr} {pre post : List Aq} {res : Pr} (hf : P.funcs[f]? = some g) (hb : g.body = some c) (hname : (g.name == "runtime.NumGoroutine") = false) (hlen : ps.length ≤ g.ntmps)
  (h:∀M0 w0 S rs M1 w1,Tr (Yi P) g.ntmps (L3 0 ps) (Hp M0 w0 S (pre++Ak M1 w1::rs)) c (bodyPost P g (O0 M0 w0 S rs M1 w1 (fun _:Unit=>True) (fun _=>res) (fun _=>post)))):mM P f ps pre res post:=
 E4.of hf hb hname hlen h
theorem BS.pure {f:FuncId} {args:List Pr} {res:Pr} {R':Value→Aq} (h:BS P f args res Bq R'):BF P f args res:=by
 refine ⟨h.1,fun M w vs hb hv=> ?_⟩
 refine (h.2 M w Fo [] M w vs ((A8.begin hb).I0 (r:=Bq) rfl trivial) hv).mono ?_
 rintro e w' ⟨v,M',rfl,h2,h3,h4⟩
 exact ⟨v,rfl,res.st _ _ _ _ _ (Ext.less h4.m) h2,h4.below⟩
theorem tY {t e T:TypeId} {x:Operand} {sz j:Nat} {rows:List (List Pr)} {v:Value} (ho:o.op= .call { callee:= .builtin .len,args:= #[x],argTypes:= #[t] }) (ht:P.underlying t=some (.slice e)) (hx:VL E x (is v)):
  L5 P M0 w0 S j (SR.c (Bz T sz rows v)) o E (int ((rows.length:Nat):Int)):=by
 intro M w a rs he hI hj
 have h1:a.eval x=v:=hx.ev he DK
 have hj':rs[j]? =some (Bz T sz rows v):=hj
 have hrun:∃A c,v= .slice A rows.length c:=by
  rcases (hI.hold _ (List.mem_of_getElem? hj')).1 with ⟨rfl,A,hv⟩|⟨b,cap,spare,hv,_⟩
  · exact ⟨_,_,hv⟩
  · exact ⟨_,_,hv⟩
 obtain ⟨A,c,hv⟩:=hrun
 have:(execOp a.eval o).run P w= .ok (.value (.int .i64 ((rows.length:Nat):Int))) w:=by
  simp [execOp,ho,resolve,invoke,builtin,Builtin.len_,h1,hv,run_underlying ht,goInt]
 rw [this]
 exact ⟨rfl,Below.refl _ _⟩
end
end
section
variable {P:Program} {L:Lg P} {n:Fm} {fz:Nat} {E:Env} {M0:Av} {w0:World} {S:Nat→Prop} {rs:List Aq} {o:Oper}
def ACG (b off m:Nat):Pr where
 h _ _ u:=∃o c,u= .slice (some ⟨b,o,none⟩) m c∧(0<m→o=off)
 st _M _w _M' _w' _v _ h:=h
instance AAS (b off m:Nat):One (ACG b off m):=⟨by rintro M w u ⟨o,c,rfl,_⟩;exact ⟨rfl,rfl⟩⟩
theorem NL {I:Ck} {t e:TypeId} {x y:Operand} {sz sz1 sz2:Nat} (ho:o.op= .call { callee:= .builtin .append,args:= #[x,y],argTypes:= #[t,t] }) (ht:P.underlying t=some (.slice e)) (hz:BA P e=some sz) (hx:VL E x (full sz1 [])) (hy:VL E y (slice sz2 [])):Ae P I o E (full sz []):=
 Ae.same fun M w a he _=>by
  obtain ⟨_,A,h1⟩:=hx.ev he DK
  obtain ⟨A',c',h2,_⟩:=hy.ev he DK
  simp only [List.length_nil] at h1 h2
  refine ⟨.slice A 0 0,?_,gP sz A M w⟩
  have hrun:=Gu (P:=P) (ty:=o.type) (A:=A) (A':=A') (n:=0) (c:=0) (c':=c') ht hz (Nat.le_refl _) w
  simp [execOp,ho,resolve,invoke,builtin,h1,h2,hrun]
end
section
variable {P:Program} {L:Lg P} {n:Fm} {fz:Nat} {E:Env} {M0:Av} {w0:World} {S:Nat→Prop} {rs:List Aq} {o:Oper}
end
section
variable {P:Program} {L:Lg P} {n:Fm} {fz:Nat} {E:Env} {M0:Av} {w0:World} {S:Nat→Prop} {rs:List Aq}
theorem St.Gm {i j k sz b:Nat} {new:Bool} {T e:TypeId} {ps:List Pr} {rows:List (List Pr)} {v:Value} {p:Pr} (hi:rs[i]? =some (AF new b T ps)) (hj:rs[j]? =some (Bz e sz rows v)) (hij:j≠i) (hk:ps[k]? =some p) (hp:Pr.le p (is v)) (hl:∀r∈rows,r.length=sz) {a:Act} {w:World} (h:St n E (Hp M0 w0 S rs) a w):
  St n E (Hp M0 w0 S ((rs.set j Bq).set i (AF new b T (ps.set k (slice sz rows))))) a w:=by
 obtain ⟨M,h1,h2,h3,h4⟩:=h
 have h4:A8 M0 w0 S rs M w:=h4
 have hi':(rs.set j (Bz e sz rows v))[i]? =some (AF new b T ps):=by rw [List.getElem?_set_ne hij];exact hi
 obtain ⟨M',g1,g2,g3⟩:=h4.yN hj hl
 have gi:(rs.set j Bq)[i]? =some (AF new b T ps):=by rw [List.getElem?_set_ne hij];exact hi
 refine ⟨M',h1,h2,fun s q hq=>q.st _ _ _ _ _ g1 (h3 s q hq),g2.CV gi rfl rfl ?_⟩
 obtain ⟨c1,cs,c2,c3,c4⟩:=(g2.hold _ (List.mem_of_getElem? gi)).1
 exact ⟨c1,cs,c2,c3.set hk (fun u hu=>by rw [show u=v from hp _ _ _ hu];exact g3),c4⟩
theorem Tr.Gm {Q:Exit→Act→World→Prop} {c:Code} (i j k:Nat) {sz b:Nat} {new:Bool} {T e:TypeId} {ps:List Pr} {rows:List (List Pr)} {v:Value} {p:Pr} (hi:rs[i]? =some (AF new b T ps)) (hj:rs[j]? =some (Bz e sz rows v)) (hij:j≠i) (hk:ps[k]? =some p) (hp:Pr.le p (is v)) (hl:∀r∈rows,r.length=sz)
  (kk:Tr L n E (Hp M0 w0 S ((rs.set j Bq).set i (AF new b T (ps.set k (slice sz rows))))) c Q):Tr L n E (Hp M0 w0 S rs) c Q:=Tr.conv (fun _ _ hs=>hs.Gm hi hj hij hk hp hl) kk
end
theorem tZ {β:Type} {f:β→List Pr} {l:List β} {k q m:Nat} {x:β} {qs:List Pr} (h:l[k]? =some x) (hq:(f x).take q++qs++(f x).drop (q+m)=f x):(l.map f).set k ((f x).take q++qs++(f x).drop (q+m))=l.map f:=by
 rw [hq]
 refine List.ext_getElem? fun i=> ?_
 rw [List.getElem?_set]
 by_cases hi:k=i
 ·
  subst hi
  rw [if_pos rfl,List.getElem?_map,h]
  have:=BM h
  rw [if_pos (by rw [List.length_map];exact this)];rfl
 · rw [if_neg hi]
theorem mN {β:Type} {f:β→List Pr} {l:List β} {k q m:Nat} {x:β} {qs:List Pr} (h:l[k]? =some x) (hq:(f x).take q++qs++(f x).drop (q+m)=f x):(l.map f).set ((k:Nat):Int).toNat ((f x).take q++qs++(f x).drop (q+m))=l.map f:=by
 rw [Int.toNat_natCast];exact tZ h hq
section
variable {P:Program} {L:Lg P} {n:Fm} {fz:Nat} {E:Env} {M0:Av} {w0:World} {S:Nat→Prop} {rs:List Aq} {o:Oper} {g:Func} {M1:Av} {w1:World}
theorem Row.hd {M:Av} {w:World} {ad:Addr} {p q:Pr} {ps:List Pr} (h:Row M w ad 0 (p::ps)) (hq:∀u,p.h M w u→q.h M w u):Row M w ad 0 (q::ps):=by
 intro j r hr
 cases j with
 |zero=>
  simp at hr;subst hr
  obtain ⟨u,h1,h2,h3,h4⟩:=h 0 p rfl
  exact ⟨u,h1,h2,h3,hq u h4⟩
 |succ j=>exact h (j+1) r (by simpa using hr)
theorem TO.re {Q:Exit→Act→World→Prop} {ops:Array Oper} {l:List Oper} {I:Ck} (s:Nat) {q:Pr} (p:Pr) (hs:E.lookup s=some q) (hl:Pr.le q p) (k:TO P n ops l ((s,p)::E) I Q):TO P n ops l E I Q:=by
 intro m hm a w hst
 refine k m hm a w ?_
 obtain ⟨M,h1,h2,he,h4⟩:=hst
 refine ⟨M,h1,h2,fun s' r hr=> ?_,h4⟩
 simp only [List.lookup] at hr
 split at hr
 ·
  rename_i e1
  have:s'=s:=by simpa using e1
  subst this
  simp only [Option.some.injEq] at hr
  subst hr
  exact hl _ _ _ (he _ _ hs)
 · exact he _ _ hr
theorem Fin.HO {Q:Exit→Act→World→Prop} {x:Exit} {r r':Aq} (k:Fin n E (Hp M0 w0 S (r'::r::rs)) Q x):Fin n E (Hp M0 w0 S (r::r'::rs)) Q x:=
 Fin.conv (fun _ _ ⟨M,h1,h2,h3,h4⟩=>⟨M,h1,h2,h3,A8.perm (List.Perm.swap _ _ _) h4⟩) k
def PR (P:Program) (f:FuncId) (args:List Pr) (res:Value→Pr) (post:Value→List Aq):Prop:=E4 (α:=Value) P f args [] (fun _=>True) res post
theorem PR.of {f : FuncId} {c : Code} {ps : List Pr} {res : Value → Pr} {post : Value → List Aq} (hf : P.funcs[f]? = some g) (hb : g.body = some c) (hname : (g.name == "runtime.NumGoroutine") = false) (hlen : ps.length ≤ g.ntmps)
  (h:∀M0 w0 S rs M1 w1,Tr (Yi P) g.ntmps (L3 0 ps) (Hp M0 w0 S (Ak M1 w1::rs)) c (bodyPost P g (O0 M0 w0 S rs M1 w1 (fun _:Value=>True) res post))):PR P f ps res post:=
 E4.of hf hb hname hlen h
theorem Fin.yO {rv:ResultVar} {q:Pr} {res:Value→Pr} {post:Value→List Aq} {rs':List Aq} (v:Value) (dr:List Aq) (hr:g.results= #[rv]) (h:AL P E rs' rv q) (hl:Pr.le q (res v)) (hp:rs'.Perm (dr++(post v++Ak M1 w1::rs))):
  Fin ⟨fz,[]⟩ E (Hp M0 w0 S rs') (bodyPost P g (O0 M0 w0 S rs M1 w1 (fun _:Value=>True) res post)) .ret:=by
 rintro a w ⟨M,_,hd,he,hi⟩
 have hi:A8 M0 w0 S rs' M w:=hi
 obtain ⟨u,hu,hp'⟩:=h M w a he (fun q hq=>(hi.hold q hq).1)
 obtain ⟨h1,h2⟩:=ID (A8.mI (A8.perm hp hi))
 exact ⟨hd,u,results1 hr hu,_,M,v,rfl,trivial,hl _ _ _ hp',h1,h2⟩
theorem TO.mO {Q:Exit→Act→World→Prop} {ops:Array Oper} {r:List Oper} {f:FuncId} {xs:Array Operand} {ts:Array TypeId} {ps:List Pr} {res:Value→Pr} {post:Value→List Aq} {d:Nat} (hg:o.guard=none) (hd:o.dst=some d) (hn:d<n) (ho:o.op= .call { callee:= .value (.func f),args:=xs,argTypes:=ts }) (hf:PR P f ps res post)
  (hv:HF E xs.toList ps) (k:∀v,TO P n ops r ((d,res v)::E) (Hp M0 w0 S (post v++rs)) Q):TO P n ops (o::r) E (Hp M0 w0 S rs) Q:=
 TO.NK rs hg hd hn ho hf hv (List.Perm.refl _) fun v _=>k v
end
section
variable {P:Program} {L:Lg P} {n:Fm} {fz:Nat} {E:Env} {I:Ck} {Q:Exit→Act→World→Prop} {ops:Array Oper} {o:Oper} {r:List Oper} {g j:Nat} {b want:Bool}
theorem TO.cases (g:Nat) {b:Bool} {l:List Oper} (_hb:E.lookup g=some (bool b)) (ht:b=true→TO P n ops l E I Q) (hf:b=false→TO P n ops l E I Q):TO P n ops l E I Q:=by
 cases b
 · exact hf rfl
 · exact ht rfl
theorem TO.ACH (hg:o.guard=some (j,want)) (hj:(ops[j]?).bind (·.dst)=some g) (hb:E.lookup g=some (bool b)) (Mt:b=want) (h:∀(K:Act→World→Prop) M w (a:Act),a.tmps.size=n.sz→a.defers=n.df→Fi M w E a→I.h M w→
  (∀E' I' a' w',TO P n ops r E' I' Q→St n E' I' a' w'→K a' w')→o.wp P a w K Q):TO P n ops (o::r) E I Q:=by
 intro k hl a w hs
 have h0:ops[k]? =some o:=by simpa using (hl 0).symm
 obtain ⟨M,hn,hd,he,hI⟩:=hs
 simp only [List.length_cons,List.range'_succ,wpS,h0]
 have hy:=I_ (M:=M) (w:=w) (b:=some b) hj (he g _ hb)
 rw [Hs hg hy,if_pos (by simp [Mt])]
 exact (h _ M w a hn hd he hI fun E' I' a' w' hT hst=>hT (k+1) (fun j=>by have:=hl (j+1);simpa [Nat.add_assoc,Nat.add_comm 1 j] using this) a' w' hst)
theorem TO.HP {d:Nat} {p:Pr} (hg:o.guard=some (j,want)) (hj:(ops[j]?).bind (·.dst)=some g) (hb:E.lookup g=some (bool b)) (Mt:b=want) (hd:o.dst=some d) (hn:d<n) (h:Ae P I o E p) (k:TO P n ops r ((d,p)::E) I Q):TO P n ops (o::r) E I Q:=
 TO.ACH hg hj hb Mt fun K M w a h1 h2 h3 h4 hK=>by
  refine HG (h M w a (Ca h3) h4) fun v w' hv hb'=>hK _ _ _ _ k ⟨M,?_,?_,?_,I.st _ _ _ hb' h4⟩
  · rw [B9];exact h1
  · rw [put_defers];exact h2
  ·
   have:=h3.put (o:=o) (p:=p) hb' hv (fun d' hd'=>by rw [hd] at hd';cases hd';rw [h1];exact hn)
   rw [show upd o p E=(d,p)::E by unfold upd;rw [hd]] at this;exact this
theorem TO.Rc {d:Nat} (hg:o.guard=some (j,want)) (hj:(ops[j]?).bind (·.dst)=some g) (hb:E.lookup g=some (bool b)) (Mt:b≠want) (hd:o.dst=some d) (hn:d<n) (kk:TO P n ops r ((d,is undef)::E) I Q):TO P n ops (o::r) E I Q:=by
 intro k hl a w hs
 have h0:ops[k]? =some o:=by simpa using (hl 0).symm
 obtain ⟨M,h1,h2,he,hI⟩:=hs
 simp only [List.length_cons,List.range'_succ,wpS,h0]
 have hy:=I_ (M:=M) (w:=w) (b:=some b) hj (he g _ hb)
 rw [Hs hg hy,if_neg (by simp [Mt])]
 refine kk (k+1) (fun j=>by have:=hl (j+1);simpa [Nat.add_assoc,Nat.add_comm 1 j] using this) _ w ⟨M,by rw [B9];exact h1,by rw [put_defers];exact h2,?_,hI⟩
 have:=he.put (o:=o) (p:=is undef) (v:=undef) (Below.refl w.heap.size w) rfl (fun d' hd'=>by rw [hd] at hd';cases hd';rw [h1];exact hn)
 rw [show upd o (is undef) E=(d,is undef)::E by unfold upd;rw [hd]] at this;exact this
variable {M0:Av} {w0:World} {S:Nat→Prop} {rs:List Aq}
theorem TO.Zc {d:Nat} {p:Pr} (i:Nat) {R:Aq} {R':Aq} (hg:o.guard=some (j,want)) (hj:(ops[j]?).bind (·.dst)=some g) (hb:E.lookup g=some (bool b)) (Mt:b=want) (hR:rs[i]? =some R) (hd:o.dst=some d) (hn:d<n) (h:C_ P M0 w0 S n i (SR.c R) (SR.c R') { o with guard:=none } E p)
  (k:TO P n ops r ((d,p)::E) (Hp M0 w0 S (rs.set i R')) Q):TO P n ops (o::r) E (Hp M0 w0 S rs) Q:=
 TO.ACH hg hj hb Mt fun K M w a hsz hdf he hI hK=>by
  have hw : ({ o with guard := none } : Oper).wp P a w K Q := Mw (h.2 M w a rs hsz (Ca he) hI hR) fun v w' M' hv hx Ss => hK _ _ _ _ k ⟨M', by rw [B9]; exact hsz, by rw [put_defers]; exact hdf, by
   intro s q hq
   simp only [List.lookup] at hq
   by_cases hs:s=d
   · subst hs;simp at hq;subst hq;show p.h M' w' ((a.put o.dst v).tmps.getD s undef);rw [hd,B0 Gs];exact hv
   · rw [show (s==d)=false by simpa using hs] at hq;show q.h M' w' ((a.put o.dst v).tmps.getD s undef);rw [hd,BZ hs];exact q.st _ _ _ _ _ hx (he s q hq),Ss⟩
  exact hw
end
section
variable {P:Program} {L:Lg P} {E:Env} {I:Ck} {o:Oper}
end
class T1 (P:Program) (t:TypeId):Prop where
 h:Ea P t=true
class TA (P:Program) (t:TypeId):Prop where
 h:Fq P t=true
class TZ (P:Program) (t:TypeId) (m:outParam Nat):Prop where
 h:BA P t=some m
class TF (P:Program) (s f:Nat) (k:outParam Nat):Prop where
 h:Ab P s f=some k
class TU (P:Program) (t:TypeId) (d:outParam TypeDesc):Prop where
 h:P.underlying t=some d
class TB (P:Program) (t:TypeId) (place:outParam (Nat→Option (Nat×Nat))) (zs:outParam (List Value)):Prop where
 h:∀ps,P.built t ps=Instr.fill place zs.toArray ps
 z:zs.all (·.oneCell')=true
class TV (P:Program) (t:TypeId) (zs:outParam (List Value)):Prop where
 h:Bb P t=some zs
 z:zs.all (·.oneCell')=true
class TM (P:Program):Prop where
 h:P.follows .mixedOrders=true
section
variable {P:Program} {L:Lg P} {n:Fm} {fz:Nat} {I:Ck} {ops:Array Oper} {o:Oper} {r:List Oper} {E:Env} {K:Env→Prop} {d g j:Nat} {b want:Bool} {p:Pr} {x y:Operand} {Q:Exit→Act→World→Prop} {t u:TypeId}
theorem AFy [i:T1 P t] {ps:List Pr} (ho:o.op= .load t x) (hx:DA E x=some (ref (p::ps))):Ae P I o E p:=DC ho i.h (vl hx)
theorem AFz [i:TA P t] {m:Nat} [z:TZ P t m] {ps qs:List Pr} (ho:o.op= .load t x) (hx:DA E x=some (ref ps)) (hq:ps.take m=qs) (hm:qs.length=m):Ae P I o E (agg qs):=AM ho i.h z.h (vl hx) hq hm
theorem AF0 {s:TypeId} {f k:Nat} [i:TF P s f k] {ps qs:List Pr} (ho:o.op= .fieldAddr s x f) (hx:DA E x=some (ref ps)) (hq:ps.drop k=qs):Ae P I o E (ref qs):=E2 ho i.h (vl hx) hq
theorem AF1 {s:TypeId} {f k:Nat} [i:TF P s f k] {b off:Nat} (ho:o.op= .fieldAddr s x f) (hx:DA E x=some (ptr b off)):Ae P I o E (ptr b (off+k)):=AW ho i.h (vl hx)
theorem AF2 {e:TypeId} [i:TU P t (.slice e)] {sz:Nat} {β:Type} {f:β→List Pr} {l:List β} (ho:o.op= .call { callee:= .builtin .len,args:= #[x],argTypes:= #[t] }) (hx:DA E x=some (slice sz (l.map f))):Ae P I o E (int ((l.length:Nat):Int)):=CJ ho i.h (vl hx)
theorem AF3 [i:TU P t .string] {a:List UInt8} (ho:o.op= .call { callee:= .builtin .len,args:= #[x],argTypes:= #[t] }) (hx:DA E x=some (str a)):Ae P I o E (int ((a.length:Nat):Int)):=tQ ho i.h (vl hx)
theorem AF4 [i:TU P t .bool] {b c:Bool} (ho:o.op= .binOp .eql t x y u) (hx:DA E x=some (bool b)) (hy:DA E y=some (bool c)):Ae P I o E (bool (b==c)):=xQ ho i.h (vl hx) (vl hy)
theorem AF5 {p:Pr} [One p] (ho:o.op= .box t x) (hx:DA E x=some p):Ae P I o E (ref [p]):=Bh ho (VL.le (vl hx) (Ad p))
theorem AF6 {ps:List Pr} (ho:o.op= .box t x) (hx:DA E x=some (agg ps)):Ae P I o E (ref ps):=Bh ho (VL.le (vl hx) (Af ps))
class CP (p:Pr) (ps:outParam (List Pr)):Prop where
 h:Pr.le p (DR ps)
instance AF7 (ps:List Pr):CP (agg ps) ps:=⟨Af ps⟩
instance (priority:=low) AF8 (p:Pr) [One p]:CP p [p]:=⟨Ad p⟩
class CQ (p:Pr) (ps:outParam (List Pr)):Prop where
 h:Pr.le p (DR ps)
instance AF9 (ps:List Pr):CQ (agg ps) ps:=⟨Af ps⟩
instance AF_ (k:IntKind) (n:Int):CQ (is (.int k n)) [is (.int k n)]:=⟨Ad _⟩
instance AEe (b:Bool):CQ (is (.bool b)) [is (.bool b)]:=⟨Ad _⟩
instance AGA (s:ByteArray):CQ (is (.string s)) [is (.string s)]:=⟨Ad _⟩
instance AGB (a:Option Addr):CQ (is (.pointer a)) [is (.pointer a)]:=⟨Ad _⟩
instance ACI (sz:Nat) (rows:List (List Pr)):CQ (slice sz rows) [slice sz rows]:=⟨Ad _⟩
instance AGC (ps:List Pr):CQ (ref ps) [ref ps]:=⟨Ad _⟩
instance AHg (f:Fn) (ps:List Pr):CQ (fn f ps) [fn f ps]:=⟨Ad _⟩
theorem vf0:ZI E [] []:=trivial
theorem vf1 {i:Nat} {q:Pr} {row:List Pr} [c:CQ q row] {xs:List (Nat×Operand)} {rows:List (Nat×List Pr)} (hx:DA E x=some q) (h:ZI E xs rows):ZI E ((i,x)::xs) ((i,row)::rows):=⟨⟨rfl,VL.le (vl hx) c.h⟩,h⟩
theorem vr0 {sz:Nat}:VE E sz [] []:=trivial
theorem vr1 {sz:Nat} {q:Pr} {row:List Pr} [c:CQ q row] {xs:List Operand} {rows:List (List Pr)} (hx:DA E x=some q) (hl:row.length=sz) (h:VE E sz xs rows):VE E sz (x::xs) (row::rows):=⟨⟨hl,VL.le (vl hx) c.h⟩,h⟩
theorem AGD {parts:Array (Nat×Operand)} {place:Nat→Option (Nat×Nat)} {zs:List Value} [i:TB P t place zs] {rows:List (Nat×List Pr)} {qs:List Pr} (ho:o.op= .build t parts) (hx:ZI E parts.toList rows) (hq:Th place (zs.map is) rows=some qs):Ae P I o E (agg qs):=An ho i.h i.z hx hq
theorem AGE {e:TypeId} {sz m:Nat} {zs:List Value} {xs:List Operand} {parts:Array (Nat×Operand)} {rows:List (List Pr)} [i:TU P t (.slice e)] [z:TZ P e sz] [v:TV P e zs] (ho:o.op= .buildSlice t m parts) (hp:parts.toList.map Prod.snd=xs) (hm:(m==xs.length&&(parts.toList.map Prod.fst==List.range m)&&zs.length==sz&&Nat.blt 0 sz&&Nat.ble (m*sz) 16777216)=true) (hx:VE E sz xs rows):Ae P I o E (full sz rows):=by
 simp only [Bool.and_eq_true,beq_iff_eq,Nat.blt_eq,Nat.ble_eq] at hm
 obtain ⟨⟨⟨⟨h1,h2⟩,h3⟩,h4⟩,h5⟩:=hm
 subst h1
 refine AP ho ?_ i.h z.h v.h h3 h4 hx h5
 refine List.ext_getElem (by rw [←hp];simp) fun k h6 h7=> ?_
 have h8:k<xs.length:=by simpa using h7
 simp only [List.getElem_map,List.getElem_zipIdx,Nat.zero_add]
 have e1:(parts.toList.map Prod.fst)[k]'(by simpa using h6)=k:=by simp only [h2];exact List.getElem_range _
 have e2:(parts.toList.map Prod.snd)[k]'(by simpa using h6)=xs[k]:=by simp only [hp]
 simp only [List.getElem_map] at e1 e2
 exact Prod.ext e1 e2
section
variable {M0:Av} {w0:World} {S:Nat→Prop} {b off:Nat} {T:TypeId} {new:Bool} {ps qs:List Pr} {m:Nat} {q:Pr}
theorem MB [i:T1 P t] (ho:o.op= .load t x) (hx:DA E x=some (ptr b off)) (hp:ps[off]? =some p):L5 P M0 w0 S j (SR.c (AF new b T ps)) o E p:=A_ ho i.h (vl hx) hp
theorem MC [i:TA P t] [z:TZ P t m] (ho:o.op= .load t x) (hx:DA E x=some (ptr b off)) (hq:(ps.drop off).take m=qs) (hm:qs.length=m):L5 P M0 w0 S j (SR.c (AF new b T ps)) o E (agg qs):=B4 ho i.h z.h (vl hx) hq hm
theorem XT {ps':List Pr} [z:TZ P t m] [c:CP q qs] (hg:o.guard=none) (ho:o.op= .store t x y) (hx:DA E x=some (ptr b off)) (hy:DA E y=some q) (hm:qs.length=m:=by rfl) (hl:Nat.ble (off+m) ps.length=true:=by rfl) (hps:ps.take off++qs++ps.drop (off+m)=ps':=by rfl):C_ P M0 w0 S n j (SR.c (AF new b T ps)) (SR.c (AF new b T ps')) o E any:=Aw hg ho (vl hx) (VL.le (vl hy) c.h) z.h hm (Nat.le_of_ble_eq_true hl) hps
variable {rs:List Aq}
theorem sf (i s:Nat) [z:TZ P t m] [c:CP q qs] (hg:o.guard=none∧o.dst=none∧o.op= .store t x y) (hx:DA E x=some (ptr b 0)) (hy:DA E y=some q) (hi:rs[i]? =some (AF true b T ps)) (hs:E.lookup s=some (ptr b 0))
  (k:TO P n ops r ((s,ref qs)::E) (Hp M0 w0 S ((rs.set i (AF true b T qs)).eraseIdx i)) Q) (hm:qs.length=m:=by rfl) (hl:ps.length=m:=by rfl):TO P n ops (o::r) E (Hp M0 w0 S rs) Q:=
 TO.AK i hg.1 hg.2.1 hg.2.2 (vl hx) (VL.le (vl hy) c.h) hi z.h hm hl (TO.freeze (ps:=qs) i s (by
  have hlt:i<rs.length:=by rcases Nat.lt_or_ge i rs.length with h|h;exact h;rw [List.getElem?_eq_none h] at hi;cases hi
  rw [List.getElem?_set_self hlt]) hs k)
theorem sa (i:Nat) [z:TZ P t m] [c:CP q qs] (hg:o.guard=none∧o.dst=none∧o.op= .store t x y) (hx:DA E x=some (ptr b 0)) (hy:DA E y=some q) (hi:rs[i]? =some (AF new b T ps))
  (k:TO P n ops r E (Hp M0 w0 S (rs.set i (AF new b T qs))) Q) (hm:qs.length=m:=by rfl) (hl:ps.length=m:=by rfl):TO P n ops (o::r) E (Hp M0 w0 S rs) Q:=TO.AK i hg.1 hg.2.1 hg.2.2 (vl hx) (VL.le (vl hy) c.h) hi z.h hm hl k
end
def opk (o:Oper):Nat:=match o.op with
 | .move ..=>1
 | .assign ..=>1
 | .fieldAddr ..=>2
 | .load ..=>3
 | .binOp .add ..=>7
 | .binOp .sub ..=>8
 | .binOp ..=>4
 | .pick ..=>5
 | .nilCheck ..=>6
 | .call { callee:= .builtin .len,.. }=>9
 | .unOp ..=>10
 | .box ..=>11
 | .extract ..=>12
 | .makeFunc ..=>13
 | .build ..=>14
 | .buildSlice ..=>15
 | .store ..=>16
 |_=>0
def ACJ (o:Oper):Bool:=o.guard.isNone
def grp (o:Oper):Nat:=if opk o=0 then 0 else if opk o<5 then 1 else if opk o<9 then 2 else if opk o<16 then 3 else 4
theorem AGF {m z:Int} (ho:o.op= .binOp .add t x y u) (hx:DA E x=some (int m)) (hy:DA E y=some (int z)) (hr: -9223372036854775808≤m+z∧m+z≤9223372036854775807):Ae P I o E (int (m+z)):=EO ho (vl hx) (vl hy) hr
theorem AGG {m z:Int} (ho:o.op= .binOp .sub t x y u) (hx:DA E x=some (int m)) (hy:DA E y=some (int z)) (hr: -9223372036854775808≤m-z∧m-z≤9223372036854775807):Ae P I o E (int (m-z)):=ZB ho (vl hx) (vl hy) hr
theorem oF (h:Ae P I o E p:=by first|exact AF0 rfl rfl rfl|exact AF1 rfl rfl):Ae P I o E p:=h
theorem oL (h:Ae P I o E p:=by first|exact AFy rfl rfl|exact AFz rfl rfl rfl rfl|exact CN 0 rfl (MB rfl rfl rfl)|exact CN 0 rfl (MC rfl rfl rfl rfl)|exact CN 1 rfl (MB rfl rfl rfl)|exact CN 1 rfl (MC rfl rfl rfl rfl)|exact CN 2 rfl (MB rfl rfl rfl)|exact CN 2 rfl (MC rfl rfl rfl rfl)|exact CN 3 rfl (MB rfl rfl rfl)|exact CN 3 rfl (MC rfl rfl rfl rfl)|exact CN 4 rfl (MB rfl rfl rfl)|exact CN 4 rfl (MC rfl rfl rfl rfl)):Ae P I o E p:=h
theorem oB (h:Ae P I o E p:=by first|exact ki rfl rfl rfl rfl|exact yF rfl (vl rfl) (vl rfl)|exact yG rfl (vl rfl) (vl rfl)|exact AF4 rfl rfl rfl):Ae P I o E p:=h
theorem oP (h:Ae P I o E p:=by first|exact Nt rfl rfl (by first|rfl|assumption) rfl|exact KE rfl rfl (by first|rfl|assumption) rfl|exact gO rfl (vl rfl) (vl rfl)|exact Za rfl (vl rfl) (vl rfl)):Ae P I o E p:=h
theorem oN (h:Ae P I o E p:=by first|exact EP rfl (vl rfl)|exact Gt rfl (vl rfl)|exact HI rfl (vl rfl)):Ae P I o E p:=h
theorem oA (h:Ae P I o E p:=by first|exact AGF rfl rfl rfl AA|exact ki rfl rfl rfl rfl):Ae P I o E p:=h
theorem oS (h:Ae P I o E p:=by first|exact AGG rfl rfl rfl AA|exact ki rfl rfl rfl rfl):Ae P I o E p:=h
theorem oC (h:Ae P I o E p:=by first|exact AF2 rfl rfl|exact AF3 rfl rfl):Ae P I o E p:=h
theorem oU (h:Ae P I o E p:=by first|exact Fp rfl (vl rfl)):Ae P I o E p:=h
theorem oO (h:Ae P I o E p:=by first|exact AF6 rfl rfl|exact AF5 rfl rfl):Ae P I o E p:=h
theorem oE (h:Ae P I o E p:=by first|exact Am rfl (vl rfl) rfl):Ae P I o E p:=h
theorem oM (h:Ae P I o E p:=by first|exact Wr rfl rfl):Ae P I o E p:=h
theorem oD (h:Ae P I o E p:=by first|exact AGD rfl (by repeat any_goals first|exact vf0|refine' vf1 rfl ?_) (by rfl)):Ae P I o E p:=h
theorem oI (h:Ae P I o E p:=by first|exact AGE rfl rfl (by rfl) (by repeat any_goals first|exact vr0|refine' vr1 rfl (by rfl) ?_)):Ae P I o E p:=h
theorem kc0 {f:FuncId} {ts:Array TypeId} {res:Pr} (hf:BF P f [] res) (ho:o.op= .call { callee:= .value (.func f),args:= #[],argTypes:=ts }):Ae P I o E res:=AV ho hf trivial
theorem Cz {f:FuncId} {ts:Array TypeId} {x0:Operand} {p0:Pr} {res:Pr} (hf:BF P f [p0] res) (ho:o.op= .call { callee:= .value (.func f),args:= #[x0],argTypes:=ts }) (h0:DA E x0=some p0):Ae P I o E res:=AV ho hf ⟨ke h0,trivial⟩
theorem CS {f:FuncId} {ts:Array TypeId} {x0:Operand} {p0:Pr} {x1:Operand} {p1:Pr} {res:Pr} (hf:BF P f [p0,p1] res) (ho:o.op= .call { callee:= .value (.func f),args:= #[x0,x1],argTypes:=ts }) (h0:DA E x0=some p0) (h1:DA E x1=some p1):Ae P I o E res:=AV ho hf ⟨ke h0,ke h1,trivial⟩
theorem LV {f:FuncId} {ts:Array TypeId} {x0:Operand} {p0:Pr} {x1:Operand} {p1:Pr} {x2:Operand} {p2:Pr} {res:Pr} (hf:BF P f [p0,p1,p2] res) (ho:o.op= .call { callee:= .value (.func f),args:= #[x0,x1,x2],argTypes:=ts }) (h0:DA E x0=some p0) (h1:DA E x1=some p1) (h2:DA E x2=some p2):Ae P I o E res:=AV ho hf ⟨ke h0,ke h1,ke h2,trivial⟩
theorem ju {f:FuncId} {ts:Array TypeId} {x0:Operand} {p0:Pr} {x1:Operand} {p1:Pr} {x2:Operand} {p2:Pr} {x3:Operand} {p3:Pr} {res:Pr} (hf:BF P f [p0,p1,p2,p3] res) (ho:o.op= .call { callee:= .value (.func f),args:= #[x0,x1,x2,x3],argTypes:=ts }) (h0:DA E x0=some p0) (h1:DA E x1=some p1) (h2:DA E x2=some p2) (h3:DA E x3=some p3):Ae P I o E res:=AV ho hf ⟨ke h0,ke h1,ke h2,ke h3,trivial⟩
theorem kc5 {f:FuncId} {ts:Array TypeId} {x0:Operand} {p0:Pr} {x1:Operand} {p1:Pr} {x2:Operand} {p2:Pr} {x3:Operand} {p3:Pr} {x4:Operand} {p4:Pr} {res:Pr} (hf:BF P f [p0,p1,p2,p3,p4] res) (ho:o.op= .call { callee:= .value (.func f),args:= #[x0,x1,x2,x3,x4],argTypes:=ts }) (h0:DA E x0=some p0) (h1:DA E x1=some p1) (h2:DA E x2=some p2) (h3:DA E x3=some p3) (h4:DA E x4=some p4):Ae P I o E res:=AV ho hf ⟨ke h0,ke h1,ke h2,ke h3,ke h4,trivial⟩
theorem cP (_:ACJ o=true) (h:Ch P n I ops (o::r) E K):Ch P n I ops (o::r) E K:=h
theorem cG (_:ACJ o=false) (h:Ch P n I ops (o::r) E K):Ch P n I ops (o::r) E K:=h
theorem cK (k:Nat) (_:opk o=k) (h:Ch P n I ops (o::r) E K):Ch P n I ops (o::r) E K:=h
theorem cS (k:Nat) (_:grp o=k) (h:Ch P n I ops (o::r) E K):Ch P n I ops (o::r) E K:=h
theorem tK (k:Nat) (_:opk o=k) (h:TO P n ops (o::r) E I Q):TO P n ops (o::r) E I Q:=h
theorem tG (k:Nat) (_:grp o=k) (h:TO P n ops (o::r) E I Q):TO P n ops (o::r) E I Q:=h
theorem Tr.rm [i:TM P] {id:Nat} {l:List Oper} (hB:U9 l=true) (h:Ch P n I l.toArray l E (fun E'=>Fin n E' I Q .normal)) (hc:calm l=true:=by with_unfolding_all rfl):Tr L n E I (.region id l.toArray true) Q:=Tr.k7 i.h hB h hc
theorem Tr.ct {c:Operand} {y z:Code} (hc:DA E c=some (bool true)) (k:Tr L n E I y Q):Tr L n E I (.cond c y z) Q:=Tr.cond hc (fun _=>k) (fun h=>nomatch h)
theorem Tr.cf {c:Operand} {y z:Code} (hc:DA E c=some (bool false)) (k:Tr L n E I z Q):Tr L n E I (.cond c y z) Q:=Tr.cond hc (fun h=>nomatch h) (fun _=>k)
structure mP (G:Prop):Prop where
 k:G
theorem Cx.mono {M0:Av} {w0:World} {S:Nat→Prop}:∀{l:List Oper} {E:Env} {rs:List SR} {K K':List X→Env→List SR→Prop},(∀L E rs,K L E rs→K' L E rs)→Cx P M0 w0 S n ops l E rs K→Cx P M0 w0 S n ops l E rs K'
 |[],_,_,_,_,h,k=>h _ _ _ k
 |_::_,_,_,_,_,h,⟨p,k,h1,h2,h3⟩=>⟨p,k,h1,h2,Cx.mono (fun _ _ _=>h _ _ _) h3⟩
theorem Cx.keys {M0:Av} {w0:World} {S:Nat→Prop}:∀{l:List Oper} {E:Env} {rs:List SR} {K:List X→Env→List SR→Prop},Cx P M0 w0 S n ops l E rs K→∃ks:List KN,Cx P M0 w0 S n ops l E rs (fun L E' rs'=>L.map (·.k.L6)=ks∧K L E' rs')
 |[],_,_,_,k=>⟨[],rfl,k⟩
 |_::_,_,_,_,⟨p,k,h1,h2,h3⟩=>by
  obtain ⟨ks,h4⟩:=Cx.keys h3
  exact ⟨k.L6::ks,p,k,h1,h2,Cx.mono (fun L E rs h=>⟨by rw [List.map_cons,h.1],h.2⟩) h4⟩
theorem Tr.rx {Lo:Lg P} [i:TM P] {M0:Av} {w0:World} {S:Nat→Prop} {id:Nat} {l:List Oper} {IW:List Aq}
  (h:Cx P M0 w0 S n l.toArray l E (IW.map SR.c) (fun L E' rs'=>Pw l (L.map (·.k.L6))=true∧BI n M0 w0 S E' rs' Q)) (hc:calm l=true:=by with_unfolding_all rfl):Tr Lo n E (Hp M0 w0 S IW) (.region id l.toArray true) Q:=by
 obtain ⟨ks,hk⟩:=Cx.keys h
 obtain ⟨L,h1,h2,h3⟩:=VB l 0 E _ hk
 exact Tr.GI i.h ks (by rw [←h3.1];exact h3.2.1) (hk.mono fun _ _ _ h=>⟨h.1,h.2.2⟩) hc
theorem al1 {rs:List Aq} {r0:Aq}:At (SR.c r0::rs.map SR.c) (r0::rs):= .cons (At.map _)
theorem XU {rs:List Aq} {r0:Aq} {r1:Aq}:At (SR.c r0::SR.c r1::rs.map SR.c) (r0::r1::rs):= .cons (.cons (At.map _))
theorem al3 {rs:List Aq} {r0:Aq} {r1:Aq} {r2:Aq}:At (SR.c r0::SR.c r1::SR.c r2::rs.map SR.c) (r0::r1::r2::rs):= .cons (.cons (.cons (At.map _)))
theorem al4 {rs:List Aq} {r0:Aq} {r1:Aq} {r2:Aq} {r3:Aq}:At (SR.c r0::SR.c r1::SR.c r2::SR.c r3::rs.map SR.c) (r0::r1::r2::r3::rs):= .cons (.cons (.cons (.cons (At.map _))))
theorem al5 {rs:List Aq} {r0:Aq} {r1:Aq} {r2:Aq} {r3:Aq} {r4:Aq}:At (SR.c r0::SR.c r1::SR.c r2::SR.c r3::SR.c r4::rs.map SR.c) (r0::r1::r2::r3::r4::rs):= .cons (.cons (.cons (.cons (.cons (At.map _)))))
theorem al6 {rs:List Aq} {r0:Aq} {r1:Aq} {r2:Aq} {r3:Aq} {r4:Aq} {r5:Aq}:At (SR.c r0::SR.c r1::SR.c r2::SR.c r3::SR.c r4::SR.c r5::rs.map SR.c) (r0::r1::r2::r3::r4::r5::rs):= .cons (.cons (.cons (.cons (.cons (.cons (At.map _))))))
theorem fo {f : FuncId} {g : Func} {c : Code} {ps : List Pr} {res : Pr} (hf : P.funcs[f]? = some g) (hb : g.body = some c) (hname : ((g.name == "runtime.NumGoroutine") = false ∧ Nat.ble ps.length g.ntmps = true))
  (h:∀M0 w0,Tr (Yi P) g.ntmps (L3 0 ps) (Bse M0 w0) c (bodyPost P g (S0 M0 w0 res))):BF P f ps res:=BF.of hf hb hname.1 (Nat.le_of_ble_eq_true hname.2) h
section
variable {M0:Av} {w0:World} {S:Nat→Prop} {rs:List SR} {KX:List X→Env→List SR→Prop}
theorem xId {l:List Oper} (h:Cx P M0 w0 S n ops l E rs KX):Cx P M0 w0 S n ops l E rs KX:=h
theorem xK (k:Nat) (_:opk o=k) (h:Cx P M0 w0 S n ops (o::r) E rs KX):Cx P M0 w0 S n ops (o::r) E rs KX:=h
theorem xG (k:Nat) (_:grp o=k) (h:Cx P M0 w0 S n ops (o::r) E rs KX):Cx P M0 w0 S n ops (o::r) E rs KX:=h
end
theorem cId {l:List Oper} (h:Ch P n I ops l E K):Ch P n I ops l E K:=h
theorem rId {c:Code} (h:Tr L n E I c Q):Tr L n E I c Q:=h
theorem fId {e:Exit} (h:Fin n E I Q e):Fin n E I Q e:=h
theorem tId {l:List Oper} (h:TO P n ops l E I Q):TO P n ops l E I Q:=h
theorem ac {G H:Prop} (k:G) (h:mP G→H:=by
 intro k
 repeat1' first
  |((with_reducible refine cId ?_);first
   |with_reducible refine Ch.nil ?_
   |(refine cP rfl ?_;first
    |(refine cS 1 rfl ?_;first
      |(refine cK 1 rfl ?_;refine cm rfl ?_)
      |(refine cK 2 rfl ?_;refine co rfl oF ?_)
      |(refine cK 3 rfl ?_;refine co rfl oL ?_)
      |(refine cK 4 rfl ?_;refine co rfl oB ?_))
    |(refine cS 2 rfl ?_;first
      |(refine cK 5 rfl ?_;refine co rfl oP ?_)
      |(refine cK 6 rfl ?_;refine co rfl oN ?_)
      |(refine cK 7 rfl ?_;refine co rfl oA ?_)
      |(refine cK 8 rfl ?_;refine co rfl oS ?_))
    |(refine cS 3 rfl ?_;first
      |(refine cK 9 rfl ?_;refine co rfl oC ?_)
      |(refine cK 10 rfl ?_;refine co rfl oU ?_)
      |(refine cK 11 rfl ?_;refine co rfl oO ?_)
      |(refine cK 12 rfl ?_;refine co rfl oE ?_)
      |(refine cK 13 rfl ?_;refine co rfl oM ?_)
      |(refine cK 14 rfl ?_;refine co rfl oD ?_)
      |(refine cK 15 rfl ?_;refine co rfl oI ?_)))
   |(refine cG rfl ?_;first
    |refine cu rfl ?_
    |refine cnt Bi rfl ?_
    |refine cnf Bi rfl ?_
    |(refine cS 1 rfl ?_;first
      |(refine cK 1 rfl ?_;refine Jz FP rfl ?_)
      |(refine cK 2 rfl ?_;refine cy FP rfl oF ?_)
      |(refine cK 3 rfl ?_;refine cy FP rfl oL ?_)
      |(refine cK 4 rfl ?_;refine cy FP rfl oB ?_))
    |(refine cS 2 rfl ?_;first
      |(refine cK 5 rfl ?_;refine cy FP rfl oP ?_)
      |(refine cK 6 rfl ?_;refine cy FP rfl oN ?_)
      |(refine cK 7 rfl ?_;refine cy FP rfl oA ?_)
      |(refine cK 8 rfl ?_;refine cy FP rfl oS ?_))
    |(refine cS 3 rfl ?_;first
      |(refine cK 9 rfl ?_;refine cy FP rfl oC ?_)
      |(refine cK 10 rfl ?_;refine cy FP rfl oU ?_)
      |(refine cK 11 rfl ?_;refine cy FP rfl oO ?_)
      |(refine cK 12 rfl ?_;refine cy FP rfl oE ?_)
      |(refine cK 13 rfl ?_;refine cy FP rfl oM ?_)
      |(refine cK 14 rfl ?_;refine cy FP rfl oD ?_)
      |(refine cK 15 rfl ?_;refine cy FP rfl oI ?_))
    |refine cnd rfl rfl ?_))
  |((with_reducible refine rId ?_);first
   |with_reducible refine Tr.seq ?_
   |with_reducible refine Tr.Al ?_
   |refine Tr.rm BV ?_
   |with_reducible refine Tr.skip ?_
   |with_reducible refine Tr.block ?_
   |with_reducible refine Tr.ret ?_
   |with_reducible refine Tr.exit ?_
   |refine Tr.ct rfl ?_
   |refine Tr.cf rfl ?_)
  |((with_reducible refine fId ?_);first
   |with_reducible refine Fin.AE ?_
   |with_reducible refine Fin.AR ?_
   |with_reducible refine Fin.Ac ?_
   |with_reducible refine Fin.A0 ?_
   |refine Fin.Q2 rfl ?_
   |with_reducible refine Fin.block ?_
   |refine Fin.LR rfl (Bt.EB _ _) rfl ?_)
 first|with_reducible refine Fin.go ?_|with_reducible refine cId ?_|with_reducible refine tId ?_|with_reducible refine rId ?_|refine Fin.go ?_|skip
 exact k.k):H:=h ⟨k⟩
theorem ao {G H:Prop} (k:G) (h:mP G→H:=by
 intro k
 repeat1' first
  |((with_reducible refine tId ?_);first
   |with_reducible refine TO.nil ?_
   |(refine tG 1 rfl ?_;first
     |(refine tK 1 rfl ?_;refine tm rfl ?_)
     |(refine tK 2 rfl ?_;refine tp rfl oF ?_)
     |(refine tK 3 rfl ?_;refine tp rfl oL ?_)
     |(refine tK 4 rfl ?_;refine tp rfl oB ?_))
   |(refine tG 2 rfl ?_;first
     |(refine tK 5 rfl ?_;refine tp rfl oP ?_)
     |(refine tK 6 rfl ?_;refine tp rfl oN ?_)
     |(refine tK 7 rfl ?_;refine tp rfl oA ?_)
     |(refine tK 8 rfl ?_;refine tp rfl oS ?_))
   |(refine tG 3 rfl ?_;first
     |(refine tK 9 rfl ?_;refine tp rfl oC ?_)
     |(refine tK 10 rfl ?_;refine tp rfl oU ?_)
     |(refine tK 12 rfl ?_;refine tp rfl oE ?_)
     |(refine tK 13 rfl ?_;refine tp rfl oM ?_)
     |(refine tK 14 rfl ?_;refine tp rfl oD ?_)
     |(refine tK 15 rfl ?_;refine tp rfl oI ?_)))
  |((with_reducible refine rId ?_);first
   |with_reducible refine Tr.seq ?_
   |with_reducible refine Tr.Ap ?_
   |with_reducible refine Tr.skip ?_
   |with_reducible refine Tr.block ?_
   |with_reducible refine Tr.ret ?_
   |with_reducible refine Tr.exit ?_)
  |((with_reducible refine fId ?_);first
   |with_reducible refine Fin.AE ?_
   |with_reducible refine Fin.AR ?_
   |with_reducible refine Fin.Ac ?_
   |with_reducible refine Fin.A0 ?_
   |refine Fin.Q2 rfl ?_
   |with_reducible refine Fin.block ?_)
 first|with_reducible refine Fin.go ?_|with_reducible refine cId ?_|with_reducible refine tId ?_|with_reducible refine rId ?_|refine Fin.go ?_|skip
 exact k.k):H:=h ⟨k⟩
theorem ap {G H:Prop} (k:G) (h:mP G→H:=by
 intro k
 repeat1' first
  |((with_reducible refine tId ?_);first
   |with_reducible refine TO.nil ?_
   |(refine tG 1 rfl ?_;first
     |(refine tK 1 rfl ?_;refine tm rfl ?_)
     |(refine tK 2 rfl ?_;refine tp rfl oF ?_)
     |(refine tK 3 rfl ?_;refine tp rfl oL ?_)
     |(refine tK 4 rfl ?_;refine tp rfl oB ?_))
   |(refine tG 2 rfl ?_;first
     |(refine tK 5 rfl ?_;refine tp rfl oP ?_)
     |(refine tK 6 rfl ?_;refine tp rfl oN ?_)
     |(refine tK 7 rfl ?_;refine tp rfl oA ?_)
     |(refine tK 8 rfl ?_;refine tp rfl oS ?_))
   |(refine tG 3 rfl ?_;first
     |(refine tK 9 rfl ?_;refine tp rfl oC ?_)
     |(refine tK 10 rfl ?_;refine tp rfl oU ?_)
     |(refine tK 12 rfl ?_;refine tp rfl oE ?_)
     |(refine tK 13 rfl ?_;refine tp rfl oM ?_)
     |(refine tK 14 rfl ?_;refine tp rfl oD ?_)
     |(refine tK 15 rfl ?_;refine tp rfl oI ?_))
   |(refine tK 16 rfl ?_;first
    |refine sa 0 ⟨rfl,rfl,rfl⟩ rfl rfl rfl ?_
    |refine TO.DG 0 rfl rfl (XT rfl rfl rfl rfl) ?_
    |refine sa 1 ⟨rfl,rfl,rfl⟩ rfl rfl rfl ?_
    |refine TO.DG 1 rfl rfl (XT rfl rfl rfl rfl) ?_
    |refine sa 2 ⟨rfl,rfl,rfl⟩ rfl rfl rfl ?_
    |refine TO.DG 2 rfl rfl (XT rfl rfl rfl rfl) ?_
    |refine sa 3 ⟨rfl,rfl,rfl⟩ rfl rfl rfl ?_
    |refine TO.DG 3 rfl rfl (XT rfl rfl rfl rfl) ?_))
  |((with_reducible refine rId ?_);first
   |with_reducible refine Tr.seq ?_
   |with_reducible refine Tr.Ap ?_
   |with_reducible refine Tr.skip ?_
   |with_reducible refine Tr.block ?_
   |with_reducible refine Tr.ret ?_
   |with_reducible refine Tr.exit ?_)
  |((with_reducible refine fId ?_);first
   |with_reducible refine Fin.AE ?_
   |with_reducible refine Fin.AR ?_
   |with_reducible refine Fin.Ac ?_
   |with_reducible refine Fin.A0 ?_
   |refine Fin.Q2 rfl ?_
   |with_reducible refine Fin.block ?_)
 first|with_reducible refine Fin.go ?_|with_reducible refine cId ?_|with_reducible refine tId ?_|with_reducible refine rId ?_|refine Fin.go ?_|skip
 exact k.k):H:=h ⟨k⟩
theorem ax {G H:Prop} (k:G) (h:mP G→H:=by
 intro k
 repeat ((with_reducible refine xId ?_);first
   |(refine xG 1 rfl ?_;first
     |(refine xK 1 rfl ?_;refine xm rfl ?_)
     |(refine xK 2 rfl ?_;refine xo rfl (fun _=>oF) ?_)
     |(refine xK 3 rfl ?_;refine xo rfl (fun _=>oL) ?_)
     |(refine xK 4 rfl ?_;refine xo rfl (fun _=>oB) ?_))
   |(refine xG 2 rfl ?_;first
     |(refine xK 5 rfl ?_;refine xo rfl (fun _=>oP) ?_)
     |(refine xK 6 rfl ?_;refine xo rfl (fun _=>oN) ?_)
     |(refine xK 7 rfl ?_;refine xo rfl (fun _=>oA) ?_)
     |(refine xK 8 rfl ?_;refine xo rfl (fun _=>oS) ?_))
   |(refine xG 3 rfl ?_;first
     |(refine xK 9 rfl ?_;refine xo rfl (fun _=>oC) ?_)
     |(refine xK 10 rfl ?_;refine xo rfl (fun _=>oU) ?_)
     |(refine xK 11 rfl ?_;refine xo rfl (fun _=>oO) ?_)
     |(refine xK 12 rfl ?_;refine xo rfl (fun _=>oE) ?_)
     |(refine xK 13 rfl ?_;refine xo rfl (fun _=>oM) ?_)
     |(refine xK 14 rfl ?_;refine xo rfl (fun _=>oD) ?_))
   |(refine xK 3 rfl ?_;first
    |refine IZ 0 rfl rfl (MB rfl rfl rfl) ?_
    |refine IZ 0 rfl rfl (MC rfl rfl rfl rfl) ?_
    |refine IZ 1 rfl rfl (MB rfl rfl rfl) ?_
    |refine IZ 1 rfl rfl (MC rfl rfl rfl rfl) ?_
    |refine IZ 2 rfl rfl (MB rfl rfl rfl) ?_
    |refine IZ 2 rfl rfl (MC rfl rfl rfl rfl) ?_
    |refine IZ 3 rfl rfl (MB rfl rfl rfl) ?_
    |refine IZ 3 rfl rfl (MC rfl rfl rfl rfl) ?_
    |refine IZ 4 rfl rfl (MB rfl rfl rfl) ?_
    |refine IZ 4 rfl rfl (MC rfl rfl rfl rfl) ?_))
 exact k.k):H:=h ⟨k⟩
theorem ay {G H:Prop} (k:G) (h:mP G→H:=by
 intro k
 repeat ((with_reducible refine xId ?_);first
   |(refine xG 1 rfl ?_;first
     |(refine xK 1 rfl ?_;refine xm rfl ?_)
     |(refine xK 2 rfl ?_;refine xo rfl (fun _=>oF) ?_)
     |(refine xK 3 rfl ?_;refine xo rfl (fun _=>oL) ?_)
     |(refine xK 4 rfl ?_;refine xo rfl (fun _=>oB) ?_))
   |(refine xG 2 rfl ?_;first
     |(refine xK 5 rfl ?_;refine xo rfl (fun _=>oP) ?_)
     |(refine xK 6 rfl ?_;refine xo rfl (fun _=>oN) ?_)
     |(refine xK 7 rfl ?_;refine xo rfl (fun _=>oA) ?_)
     |(refine xK 8 rfl ?_;refine xo rfl (fun _=>oS) ?_))
   |(refine xG 3 rfl ?_;first
     |(refine xK 9 rfl ?_;refine xo rfl (fun _=>oC) ?_)
     |(refine xK 10 rfl ?_;refine xo rfl (fun _=>oU) ?_)
     |(refine xK 11 rfl ?_;refine xo rfl (fun _=>oO) ?_)
     |(refine xK 12 rfl ?_;refine xo rfl (fun _=>oE) ?_)
     |(refine xK 13 rfl ?_;refine xo rfl (fun _=>oM) ?_)
     |(refine xK 14 rfl ?_;refine xo rfl (fun _=>oD) ?_))
   |(refine xK 3 rfl ?_;first
    |refine IZ 0 rfl rfl (MB rfl rfl rfl) ?_
    |refine IZ 0 rfl rfl (MC rfl rfl rfl rfl) ?_
    |refine IZ 1 rfl rfl (MB rfl rfl rfl) ?_
    |refine IZ 1 rfl rfl (MC rfl rfl rfl rfl) ?_
    |refine IZ 2 rfl rfl (MB rfl rfl rfl) ?_
    |refine IZ 2 rfl rfl (MC rfl rfl rfl rfl) ?_
    |refine IZ 3 rfl rfl (MB rfl rfl rfl) ?_
    |refine IZ 3 rfl rfl (MC rfl rfl rfl rfl) ?_
    |refine IZ 4 rfl rfl (MB rfl rfl rfl) ?_
    |refine IZ 4 rfl rfl (MC rfl rfl rfl rfl) ?_)
   |(refine xK 16 rfl ?_;first
    |refine Cx.DG 0 rfl rfl (XT rfl rfl rfl rfl) ?_
    |refine Cx.DG 1 rfl rfl (XT rfl rfl rfl rfl) ?_
    |refine Cx.DG 2 rfl rfl (XT rfl rfl rfl rfl) ?_
    |refine Cx.DG 3 rfl rfl (XT rfl rfl rfl rfl) ?_))
 exact k.k):H:=h ⟨k⟩
theorem Ch.cg {l:List Oper} {b v:Bool} {g j:Nat} {pt pf:Prop} [ht:DH b true pt] [hf:DH b false pf] (_:o.guard=some (j,v)) (_:(ops[j]?.bind (·.dst))=some g) (hb:E.lookup g=some (bool b)) (k:b=true→pt→Ch P n I ops (o::l) E K) (k':b=false→pf→Ch P n I ops (o::l) E K):Ch P n I ops (o::l) E K:=Ch.cases g hb (fun h=>k h (ht.Dp h)) (fun h=>k' h (hf.Dp h))
theorem a2 {G H:Prop} (k:G) (h:mP G→H:=by
 intro k
 iterate 2 refine ac ?_
 exact k.k):H:=h ⟨k⟩
theorem a3 {G H:Prop} (k:G) (h:mP G→H:=by
 intro k
 iterate 3 refine ac ?_
 exact k.k):H:=h ⟨k⟩
theorem an {G L H:Prop} (k:G) (l:L) (h:mP G→mP L→H:=by
 intro k l
 refine ac ?_
 refine Tr.cn rfl ?_ ?_
 exact k.k
 exact l.k):H:=h ⟨k⟩ ⟨l⟩
theorem ag {G L H:Prop} (k:G) (l:L) (h:mP G→mP L→H:=by
 intro k l
 refine ac ?_
 refine Ch.cg rfl rfl rfl ?_ ?_
 exact k.k
 exact l.k):H:=h ⟨k⟩ ⟨l⟩
theorem Lr {p:Pr}:Pr.le p p:=Pr.le_refl p
theorem Vo {p:Pr} [One p] (h:DA E x=some p):VL E x (DR [p]):=VL.le (vl h) (Ad p)
theorem Va {ps:List Pr} (h:DA E x=some (agg ps)):VL E x (DR ps):=VL.le (vl h) (Af ps)
theorem Nb {a b:Nat} (h:Nat.ble a b=true):a≤b:=Nat.le_of_ble_eq_true h
theorem Kf {z:Nat} {l:List (List Pr)} (h:DA E x=some (full z l)):VL E x (slice z l):=⟨_,h,B8 z l⟩
theorem Ka {v:Value} (h:DA E x=some (Aa v p)):VL E x (is v):=⟨_,h,EC v p⟩
theorem Kb {v:Value} (h:DA E x=some (Aa v p)):VL E x p:=⟨_,h,As v p⟩
theorem Lj {p:Pr} [One p] (h:DA E x=some p:=by exact rfl):VL E x (DR [p]):=Vo h
theorem C3 {ps:List Pr} (h:DA E x=some (agg ps):=by exact rfl):VL E x (DR ps):=Va h
theorem Gn {z:Nat} {l:List (List Pr)} (h:DA E x=some (full z l):=by exact rfl):VL E x (slice z l):=Kf h
theorem KJ {v:Value} (h:DA E x=some (Aa v p):=by exact rfl):VL E x (is v):=Ka h
theorem Iy {v:Value} (h:DA E x=some (Aa v p):=by exact rfl):VL E x p:=Kb h
theorem Tl {M0:Av} {w0:World} {S:Nat→Prop} {rs:List Aq} {T:TypeId} {zs:List Value} (hg:o.guard=none) (hd:o.dst=some d) (hn:Nat.blt d n=true) (ho:o.op= .alloc T) (hz:Bb P T=some zs) (h1':zs.all (·.oneCell')=true)
  (k:∀b,TO P n ops r ((d,is (.pointer (some ⟨b,0,none⟩)))::E) (Hp M0 w0 S (AF true b T (zs.map is)::rs)) Q):TO P n ops (o::r) E (Hp M0 w0 S rs) Q:=TO.alloc hg hd (IB hn) ho hz h1' k
theorem CB {M0:Av} {w0:World} {S:Nat→Prop} {t e:TypeId} {sz bytes:Nat} {zs:List Value} {rows rows':List (List Pr)} {R:SR} (hg:o.guard=none) (hd:o.dst=some d) (hn:Nat.blt d n=true) (ho:o.op= .call { callee:= .builtin .append,args:= #[x,y],argTypes:= #[t,t] })
  (ht:P.underlying t=some (.slice e)) (hz:BA P e=some sz) (hby:B1 P e=some bytes) (El:Bb P e=some zs) (hx:VL E x (slice sz rows)) (hy:VL E y (slice sz rows'))
  (hR:∀M w (a:Act),Cg M w E o a→R.at_ a=Au e sz (a.eval x)∨(R.at_ a=Bq∧Dj (a.eval x)=none)) (hzl:zs.length=sz:=by rfl) (hsz:Nat.blt 0 sz=true:=by rfl)
  (HE:rows.length+rows'.length≤maxLen:=by simp only [List.length_map,List.length_append,List.length_cons,List.length_nil,List.length_replicate,List.length_take,List.length_drop];unfold maxLen;omega) (hfit:(rows.length+rows'.length)*bytes≤140737488355328:=by simp only [List.length_map,List.length_append,List.length_cons,List.length_nil,List.length_replicate,List.length_take,List.length_drop];omega):C_ P M0 w0 S n j R ⟨d,Au e sz⟩ o E (slice sz (rows++rows')):=EZ hg hd (IB hn) ho ht hz hby El hzl (IB hsz) hx hy HE hfit hR
end
end Cp
namespace Go.Proofs.YtmocaapoeefgkaaGreatDoor
open Go Cp
instance AEf:TM Tryz.prog:=⟨mixed⟩
instance AH_:TV Tryz.prog 3 [.int .i64 0]:=⟨z3,zo3⟩
instance AGH:T1 Tryz.prog 3:=⟨Cs⟩
instance AHh:TZ Tryz.prog 3 1:=⟨Bs⟩
instance AGI:T1 Tryz.prog 4:=⟨XA⟩
instance AHi:TZ Tryz.prog 4 1:=⟨Tp⟩
instance rR:TU Tryz.prog 4 .bool:=⟨Tryz.underlying4⟩
instance AIA:TV Tryz.prog 5 [.int .u8 0]:=⟨z5,zo5⟩
instance AGJ:T1 Tryz.prog 5:=⟨ABV⟩
instance AHj:TZ Tryz.prog 5 1:=⟨Nv⟩
instance AIB:TV Tryz.prog 9 [.string (ByteArray.mk #[])]:=⟨z9,zo9⟩
instance AGK:T1 Tryz.prog 9:=⟨PM⟩
instance AHk:TZ Tryz.prog 9 1:=⟨NC⟩
instance rS:TU Tryz.prog 9 .string:=⟨Tryz.underlying9⟩
instance AEg:T1 Tryz.prog 22:=⟨KF⟩
instance AGL:TZ Tryz.prog 22 1:=⟨L7⟩
instance mQ:TU Tryz.prog 22 (.slice 3):=⟨Tryz.underlying22⟩
instance AEh:T1 Tryz.prog 27:=⟨ND⟩
instance mR:TU Tryz.prog 27 (.slice 40):=⟨Tryz.underlying27⟩
instance AEi:T1 Tryz.prog 28:=⟨dD⟩
instance mS:TU Tryz.prog 28 (.slice 132):=⟨Tryz.underlying28⟩
instance AEj:T1 Tryz.prog 29:=⟨lT⟩
instance mT:TU Tryz.prog 29 (.slice 135):=⟨Tryz.underlying29⟩
instance AGM:TB Tryz.prog 31 (fun i=>(#[(0,1),(1,1),(2,1)]:Array (Nat×Nat))[i]?) (List.replicate 3 (.slice none 0 0)):=⟨ABX,Ia⟩
instance AEk:TA Tryz.prog 31:=⟨Dg⟩
instance AGN:TZ Tryz.prog 31 3:=⟨De⟩
instance ACK:TF Tryz.prog 31 0 0:=⟨Gv⟩
instance ACL:TF Tryz.prog 31 1 1:=⟨OC⟩
instance ACN:TF Tryz.prog 31 2 2:=⟨OD⟩
instance AEl:T1 Tryz.prog 32:=⟨dF⟩
instance mU:TU Tryz.prog 32 (.slice 86):=⟨Tryz.underlying32⟩
instance AEm:T1 Tryz.prog 33:=⟨ABZ⟩
instance mV:TU Tryz.prog 33 (.slice 61):=⟨Tryz.underlying33⟩
instance AGO:TB Tryz.prog 35 (fun i=>(#[(0,1),(1,1),(2,1)]:Array (Nat×Nat))[i]?) (List.replicate 3 (.slice none 0 0)):=⟨L8,FE⟩
instance AEn:TA Tryz.prog 35:=⟨C4⟩
instance AGP:TZ Tryz.prog 35 3:=⟨CL⟩
instance ACO:TF Tryz.prog 35 0 0:=⟨OE⟩
instance ACP:TF Tryz.prog 35 1 1:=⟨xY⟩
instance ACQ:TF Tryz.prog 35 2 2:=⟨ZM⟩
instance AEo:T1 Tryz.prog 38:=⟨wJ⟩
instance AGQ:TZ Tryz.prog 38 1:=⟨lU⟩
instance mW:TU Tryz.prog 38 (.slice 84):=⟨Tryz.underlying38⟩
instance AGR:TB Tryz.prog 40 (fun i=>(#[(0,1),(1,1),(2,1),(3,1),(4,1),(5,1),(6,1),(7,1),(8,1)]:Array (Nat×Nat))[i]?) [.string (ByteArray.mk #[]),.int .i64 0,.int .i64 0,.slice none 0 0,.bool false,.slice none 0 0,.slice none 0 0,.slice none 0 0,.bool false]:=⟨sD,Hh⟩
instance AEp:TA Tryz.prog 40:=⟨CD⟩
instance AGS:TZ Tryz.prog 40 9:=⟨Bw⟩
instance ACR:TF Tryz.prog 40 0 0:=⟨lV⟩
instance ACS:TF Tryz.prog 40 1 1:=⟨xd⟩
instance ACT:TF Tryz.prog 40 2 2:=⟨ZN⟩
instance ACU:TF Tryz.prog 40 3 3:=⟨OG⟩
instance ACV:TF Tryz.prog 40 4 4:=⟨xe⟩
instance ACW:TF Tryz.prog 40 5 5:=⟨RF⟩
instance ACX:TF Tryz.prog 40 6 6:=⟨lW⟩
instance ACY:TF Tryz.prog 40 7 7:=⟨lX⟩
instance ACZ:TF Tryz.prog 40 8 8:=⟨ZO⟩
instance AGT:TB Tryz.prog 42 (fun i=>(#[(0,3),(3,1),(4,1),(5,1),(6,1)]:Array (Nat×Nat))[i]?) [.slice none 0 0,.slice none 0 0,.slice none 0 0,.int .i64 0,.slice none 0 0,.slice none 0 0,.bool false]:=⟨sE,Hj⟩
instance AEq:TA Tryz.prog 42:=⟨Ej⟩
instance AGU:TZ Tryz.prog 42 7:=⟨EE⟩
instance ACa:TF Tryz.prog 42 0 0:=⟨ZP⟩
instance ACb:TF Tryz.prog 42 1 3:=⟨lY⟩
instance ACc:TF Tryz.prog 42 2 4:=⟨RG⟩
instance ACd:TF Tryz.prog 42 3 5:=⟨VN⟩
instance ACe:TF Tryz.prog 42 4 6:=⟨lZ⟩
instance AEr:T1 Tryz.prog 43:=⟨ABa⟩
instance AHl:TV Tryz.prog 51 [.slice none 0 0]:=⟨z51,ABb⟩
instance AEs:T1 Tryz.prog 51:=⟨dG⟩
instance AGV:TZ Tryz.prog 51 1:=⟨G6⟩
instance mX:TU Tryz.prog 51 (.slice 3):=⟨Tryz.underlying51⟩
instance AGW:TB Tryz.prog 61 (fun i=>(#[(0,1),(1,1)]:Array (Nat×Nat))[i]?) (List.replicate 2 (.int .i64 0)):=⟨ABc,RH⟩
instance AHm:TV Tryz.prog 61 (List.replicate 2 (.int .i64 0)):=⟨Sv,RH⟩
instance AEt:TA Tryz.prog 61:=⟨Fx⟩
instance AGX:TZ Tryz.prog 61 2:=⟨C2⟩
instance ACf:TF Tryz.prog 61 0 0:=⟨ZQ⟩
instance ACg:TF Tryz.prog 61 1 1:=⟨ZR⟩
instance AEu:T1 Tryz.prog 75:=⟨ABd⟩
instance mY:TU Tryz.prog 75 (.slice 141):=⟨Tryz.underlying75⟩
instance AEv:TA Tryz.prog 77:=⟨Ou⟩
instance AGY:TZ Tryz.prog 77 3:=⟨XC⟩
instance ACh:TF Tryz.prog 77 0 0:=⟨xh⟩
instance ACi:TF Tryz.prog 77 1 1:=⟨xj⟩
instance ACj:TF Tryz.prog 77 2 2:=⟨xl⟩
instance AGZ:TB Tryz.prog 81 (fun i=>(#[(0,1),(1,1)]:Array (Nat×Nat))[i]?) (List.replicate 2 (.int .i64 0)):=⟨xp,Eb⟩
instance AHn:TV Tryz.prog 81 (List.replicate 2 (.int .i64 0)):=⟨K9,Eb⟩
instance AEw:TA Tryz.prog 81:=⟨Jh⟩
instance AGa:TZ Tryz.prog 81 2:=⟨LS⟩
instance ACk:TF Tryz.prog 81 0 0:=⟨xq⟩
instance ACl:TF Tryz.prog 81 1 1:=⟨xu⟩
instance AEx:T1 Tryz.prog 82:=⟨ABg⟩
instance AGb:TZ Tryz.prog 82 1:=⟨ABf⟩
instance mZ:TU Tryz.prog 82 (.slice 189):=⟨Tryz.underlying82⟩
instance AGc:TB Tryz.prog 84 (fun i=>(#[(0,2),(2,1),(3,1)]:Array (Nat×Nat))[i]?) [.int .i64 0,.int .i64 0,.int .i64 0,.slice none 0 0]:=⟨ABh,S5⟩
instance AEy:TA Tryz.prog 84:=⟨Ov⟩
instance AGd:TZ Tryz.prog 84 4:=⟨E8⟩
instance ACm:TF Tryz.prog 84 0 0:=⟨xw⟩
instance ACn:TF Tryz.prog 84 1 2:=⟨xx⟩
instance ACo:TF Tryz.prog 84 2 3:=⟨ld⟩
instance AEz:TA Tryz.prog 86:=⟨Hw⟩
instance AGe:TZ Tryz.prog 86 8:=⟨Dr⟩
instance ACp:TF Tryz.prog 86 0 0:=⟨xy⟩
instance ACq:TF Tryz.prog 86 1 1:=⟨xz⟩
instance ACr:TF Tryz.prog 86 2 2:=⟨x5⟩
instance ACs:TF Tryz.prog 86 3 3:=⟨x6⟩
instance ACt:TF Tryz.prog 86 4 4:=⟨x7⟩
instance AHo:TV Tryz.prog 99 [.slice none 0 0]:=⟨z99,AFr⟩
instance AE0:T1 Tryz.prog 99:=⟨ABi⟩
instance AGf:TZ Tryz.prog 99 1:=⟨sF⟩
instance me:TU Tryz.prog 99 (.slice 51):=⟨Tryz.underlying99⟩
instance AE1:TB Tryz.prog 104 (fun i=>(#[(0,1),(1,1)]:Array (Nat×Nat))[i]?) [.slice none 0 0,.int .i64 0]:=⟨ABj,ABk⟩
instance AAT:TF Tryz.prog 104 0 0:=⟨sG⟩
instance AAU:TF Tryz.prog 104 1 1:=⟨sH⟩
instance ACu:T1 Tryz.prog 105:=⟨x8⟩
instance jv:TU Tryz.prog 105 (.slice 270):=⟨Tryz.underlying105⟩
instance AE2:TB Tryz.prog 107 (fun i=>(#[(0,1)]:Array (Nat×Nat))[i]?) [.slice none 0 0]:=⟨Ji,Ek⟩
instance ACv:TA Tryz.prog 107:=⟨CW⟩
instance AE3:TZ Tryz.prog 107 1:=⟨Bm⟩
instance AAV:TF Tryz.prog 107 0 0:=⟨dH⟩
instance ACw:T1 Tryz.prog 111:=⟨ZT⟩
instance ACx:TA Tryz.prog 114:=⟨OH⟩
instance AE4:TZ Tryz.prog 114 2:=⟨Tq⟩
instance AAW:TF Tryz.prog 114 0 0:=⟨VO⟩
instance ACy:TA Tryz.prog 116:=⟨RI⟩
instance AE5:TZ Tryz.prog 116 2:=⟨XD⟩
instance ACz:T1 Tryz.prog 127:=⟨yA⟩
instance AE6:TZ Tryz.prog 127 1:=⟨wK⟩
instance jw:TU Tryz.prog 127 (.slice 9):=⟨Tryz.underlying127⟩
instance jx:TU Tryz.prog 128 (.slice 22):=⟨Tryz.underlying128⟩
instance AC0:TA Tryz.prog 132:=⟨RJ⟩
instance AE7:TZ Tryz.prog 132 2:=⟨E5⟩
instance AAX:TF Tryz.prog 132 0 0:=⟨sI⟩
instance AAY:TF Tryz.prog 132 1 1:=⟨sJ⟩
instance AC1:T1 Tryz.prog 133:=⟨yB⟩
instance jy:TU Tryz.prog 133 (.slice 198):=⟨Tryz.underlying133⟩
instance AE8:TB Tryz.prog 135 (fun i=>(#[(0,1),(1,1),(2,1),(3,1),(4,1)]:Array (Nat×Nat))[i]?) [.string (ByteArray.mk #[]),.int .i64 0,.int .i64 0,.slice none 0 0,.int .i64 0]:=⟨ABq,XF⟩
instance AGg:TV Tryz.prog 135 [.string (ByteArray.mk #[]),.int .i64 0,.int .i64 0,.slice none 0 0,.int .i64 0]:=⟨VQ,XF⟩
instance AC2:TA Tryz.prog 135:=⟨VP⟩
instance AE9:TZ Tryz.prog 135 5:=⟨Hx⟩
instance AAZ:TF Tryz.prog 135 0 0:=⟨sK⟩
instance AAa:TF Tryz.prog 135 1 1:=⟨sL⟩
instance AAb:TF Tryz.prog 135 2 2:=⟨sM⟩
instance AAc:TF Tryz.prog 135 3 3:=⟨VR⟩
instance AAd:TF Tryz.prog 135 4 4:=⟨sN⟩
instance AE_:TB Tryz.prog 139 (fun i=>(#[(0,1),(1,1)]:Array (Nat×Nat))[i]?) (List.replicate 2 (.int .i64 0)):=⟨ABr,ABs⟩
instance AAe:TF Tryz.prog 139 0 0:=⟨sO⟩
instance AAf:TF Tryz.prog 139 1 1:=⟨sP⟩
instance AGh:TV Tryz.prog 141 [.int .i64 0,.int .i64 0,.slice none 0 0]:=⟨z141,RL⟩
instance AFA:TZ Tryz.prog 141 3:=⟨Ib⟩
instance AAg:TF Tryz.prog 141 0 0:=⟨sQ⟩
instance AAh:TF Tryz.prog 141 1 2:=⟨sS⟩
instance jz:TU Tryz.prog 143 (.slice 81):=⟨Tryz.underlying143⟩
instance AC3:T1 Tryz.prog 160:=⟨yC⟩
instance AC4:T1 Tryz.prog 181:=⟨Ec⟩
instance AC5:TA Tryz.prog 187:=⟨yE⟩
instance AFB:TZ Tryz.prog 187 2:=⟨lq⟩
instance AAi:TF Tryz.prog 187 0 0:=⟨sU⟩
instance AAj:TF Tryz.prog 187 1 1:=⟨sV⟩
instance AGi:TV Tryz.prog 189 [.int .i64 0,.string (ByteArray.mk #[]),.string (ByteArray.mk #[]),.int .i64 0,.int .i64 0,.int .i64 0,.int .i64 0,.int .i64 0,.int .i64 0,.int .i64 0,.bool false,.int .i64 0,.slice none 0 0,.int .i64 0,.int .i64 0]:=⟨RM,Lh⟩
instance AC6:TA Tryz.prog 189:=⟨GN⟩
instance AFC:TZ Tryz.prog 189 15:=⟨DF⟩
instance AAk:TF Tryz.prog 189 0 0:=⟨sW⟩
instance AAl:TF Tryz.prog 189 1 1:=⟨sX⟩
instance yP:TF Tryz.prog 189 10 12:=⟨XG⟩
instance yQ:TF Tryz.prog 189 11 13:=⟨RN⟩
instance AAm:TF Tryz.prog 189 2 2:=⟨sY⟩
instance AAn:TF Tryz.prog 189 3 3:=⟨sZ⟩
instance AAo:TF Tryz.prog 189 4 5:=⟨sj⟩
instance AAp:TF Tryz.prog 189 5 6:=⟨sk⟩
instance AAq:TF Tryz.prog 189 6 8:=⟨sn⟩
instance AAr:TF Tryz.prog 189 7 9:=⟨sr⟩
instance AAs:TF Tryz.prog 189 8 10:=⟨sy⟩
instance AAt:TF Tryz.prog 189 9 11:=⟨s7⟩
instance AFD:TB Tryz.prog 198 (fun i=>(#[(0,2),(2,1)]:Array (Nat×Nat))[i]?) (List.replicate 3 (.int .i64 0)):=⟨ABz,wT⟩
instance AGj:TV Tryz.prog 198 (List.replicate 3 (.int .i64 0)):=⟨z198,wT⟩
instance AFE:TZ Tryz.prog 198 3:=⟨KG⟩
instance AAu:TF Tryz.prog 198 0 0:=⟨s8⟩
instance AAv:TF Tryz.prog 198 1 2:=⟨s_⟩
instance AC7:T1 Tryz.prog 232:=⟨JG⟩
instance j0:TU Tryz.prog 232 (.slice 181):=⟨Tryz.underlying232⟩
instance AAw:TF Tryz.prog 234 0 0:=⟨tA⟩
instance AAx:TF Tryz.prog 234 1 1:=⟨JH⟩
instance AC8:T1 Tryz.prog 241:=⟨lu⟩
instance j4:TU Tryz.prog 241 (.slice 5):=⟨Tryz.underlying241⟩
instance AFF:TB Tryz.prog 247 (fun i=>(#[(0,1),(1,1),(2,2),(4,2),(6,2),(8,2),(10,1),(11,1)]:Array (Nat×Nat))[i]?) [.int .i64 0,.string (ByteArray.mk #[]),.int .i64 0,.int .i64 0,.int .i64 0,.int .i64 0,.int .i64 0,.int .i64 0,.int .i64 0,.int .i64 0,.int .i64 0,.int .i64 0]:=⟨XH,Ic⟩
instance AC9:TA Tryz.prog 247:=⟨JI⟩
instance AFG:TZ Tryz.prog 247 12:=⟨F9⟩
instance AAy:TF Tryz.prog 247 2 2:=⟨tB⟩
instance AAz:TF Tryz.prog 247 3 4:=⟨tC⟩
instance AA0:TF Tryz.prog 247 4 6:=⟨tD⟩
instance AA1:TF Tryz.prog 247 5 8:=⟨tE⟩
instance AA2:TF Tryz.prog 247 6 10:=⟨tF⟩
instance AA3:TF Tryz.prog 247 7 11:=⟨tH⟩
instance AFH:TB Tryz.prog 268 (fun i=>(#[(0,1),(1,1)]:Array (Nat×Nat))[i]?) (List.replicate 2 (.int .i64 0)):=⟨Ts,Fy⟩
instance AGk:TV Tryz.prog 268 (List.replicate 2 (.int .i64 0)):=⟨Jt,Fy⟩
instance AC_:TA Tryz.prog 268:=⟨C7⟩
instance AFI:TZ Tryz.prog 268 2:=⟨CH⟩
instance AA4:TF Tryz.prog 268 1 1:=⟨tI⟩
instance AFJ:TB Tryz.prog 270 (fun i=>(#[(0,1),(1,1),(2,2)]:Array (Nat×Nat))[i]?) [.int .i64 0,.slice none 0 0,.int .i64 0,.int .i64 0]:=⟨dL,RO⟩
instance AGl:TV Tryz.prog 270 [.int .i64 0,.slice none 0 0,.int .i64 0,.int .i64 0]:=⟨tJ,RO⟩
instance AFK:TZ Tryz.prog 270 4:=⟨F_⟩
instance j5:TU Tryz.prog 274 (.slice 99):=⟨Tryz.underlying274⟩
instance ADA:T1 Tryz.prog 283:=⟨VS⟩
instance AFL:TB Tryz.prog 285 (fun i=>(#[(0,1),(1,1),(2,1),(3,1)]:Array (Nat×Nat))[i]?) [.int .i64 0,.slice none 0 0,.bool false,.slice none 0 0]:=⟨l5,Li⟩
instance ADB:TA Tryz.prog 285:=⟨DV⟩
instance AFM:TZ Tryz.prog 285 4:=⟨Cn⟩
instance AA5:TF Tryz.prog 285 0 0:=⟨tL⟩
instance AA6:TF Tryz.prog 285 1 1:=⟨VT⟩
instance AA7:TF Tryz.prog 285 2 2:=⟨tM⟩
instance AA8:TF Tryz.prog 285 3 3:=⟨NF⟩
instance AFN:TB Tryz.prog 290 (fun i=>(#[(0,1),(1,1)]:Array (Nat×Nat))[i]?) [.string (ByteArray.mk #[]),.int .i64 0]:=⟨AB5,wW⟩
instance AGm:TV Tryz.prog 290 [.string (ByteArray.mk #[]),.int .i64 0]:=⟨AFt,wW⟩
instance AFO:TZ Tryz.prog 290 2:=⟨wV⟩
instance AA9:TF Tryz.prog 290 1 1:=⟨tN⟩
instance j6:TU Tryz.prog 291 (.slice 290):=⟨Tryz.underlying291⟩
instance j7:TU Tryz.prog 331 (.slice 268):=⟨Tryz.underlying331⟩
end Go.Proofs.YtmocaapoeefgkaaGreatDoor
namespace Go.Proofs.YtmocaapoeefgkaaGreatDoor
open Go Go.RowKit Cp Go.Proofs.Tryz
abbrev ints (l:List Int):Pr:=slice 1 (l.map fun n=>[int n])
def idx {β:Type} (p:β→Bool) (l:List β):Int:=match l.findIdx? p with|some i=>i|none=> -1
theorem EX {β:Type} {p:β→Bool} {l:List β} {k:Nat} {x:β} (hx:l[k]? =some x) (hp:p x=true) (h:∀j y,j<k→l[j]? =some y→p y=false):(k:Int)=idx p l:=by
 have:l.findIdx? p=some k:=by
  rw [List.findIdx?_eq_some_iff_getElem]
  have hk:k<l.length:=by rcases Nat.lt_or_ge k l.length with h|h;exact h;rw [List.getElem?_eq_none h] at hx;cases hx
  rw [List.getElem?_eq_getElem hk] at hx
  simp only [Option.some.injEq] at hx
  refine ⟨hk,by rw [hx];exact hp,fun j hj=> ?_⟩
  simpa using h j _ hj (List.getElem?_eq_getElem AA)
 unfold idx;rw [this]
theorem Fz {β:Type} {p:β→Bool} {l:List β} (h:∀j y,j<l.length→l[j]? =some y→p y=false):(-1:Int)=idx p l:=by
 have:l.findIdx? p=none:=by
  rw [List.findIdx?_eq_none_iff]
  intro x hx
  obtain ⟨j,hj,rfl⟩:=List.mem_iff_getElem.1 hx
  exact h j _ hj (List.getElem?_eq_getElem hj)
 unfold idx;rw [this]
theorem P3 {β:Type} (p:β→Bool) (l:List β):decide (idx p l≥0)=l.any p:=by
 unfold idx
 cases h:l.findIdx? p with
 |none=>rw [List.findIdx?_eq_none_iff] at h;simp;intro x hx;simpa using h x hx
 |some i=>
  rw [List.findIdx?_eq_some_iff_getElem] at h
  obtain ⟨h1,h2,_⟩:=h
  simp
  exact ⟨_,List.getElem_mem h1,h2⟩
theorem Db {β:Type} {p:β→Bool} {l:List β} {k:Nat} {x:β} (hx:l[k]? =some x) (hp:p x=false) (h:∀j y,j<k→l[j]? =some y→p y=false):∀j y,j<k+1→l[j]? =some y→p y=false:=by
 intro j y hj hy
 by_cases hjk:j=k
 · subst hjk;rw [hx] at hy;cases hy;exact hp
 · exact h j y AA hy
theorem Ve {l:List Int} {p:Int→Bool}  :BF prog 145 [ints l,cQ prog (fun x:Int=>[int x]) (fun x=>bool (p x))] (int (idx p l)):=by
 refine fo func145 rfl ⟨rfl,rfl⟩ fun M0 w0=>(Tr.Cl 0 rfl fun EH=> ?_)
 refine a2 ?_
 refine Tr.block (Tr.BE _ (kk [7,1,0] rfl) (fun k:Nat=>[(8,int ((k:Nat):Int))]) (fun k:Nat=>k≤(l).length∧(∀j y,j<k→l[j]? =some y→p y=false)) (fun k:Nat=>(l).length-k) 0 (⟨Nat.zero_le _,fun j y hj=>absurd hj AA⟩) kz ?_)
 rintro k ⟨BT,AX⟩
 refine ac ?_
 refine Tr.seq ?_
 refine Tr.cn rfl ?_ ?_<;>intro h1 q1
 have Ai:k<(l).length:=AH h1
 obtain ⟨x,Ah⟩:=at_ Ai
 · repeat' first|exact int_eq (EX Ah Bi AX)|exact Fin.AO (k+1) ⟨⟨Ai,Db Ah Bi AX⟩,by omega⟩ ⟨⟨_,rfl,AG k⟩,kz⟩|refine co rfl (AD rfl underlying22 Bs vq vq AA CO) ?_|refine co rfl (F5 rfl Cs rfl) (co rfl (J7 x rfl vq kz) ?_)|refine ac ?_|(refine Tr.cn rfl ?_ ?_<;>intro h q)
 have BP:k=(l).length:=by have:=AJ h1;omega
 subst BP
 refine a3 ?_
 · exact int_eq (Fz AX)
theorem Jk {l:List Int} {p:Int→Bool}  :BF prog 84 [ints l,cQ prog (fun x:Int=>[int x]) (fun x=>bool (p x))] (bool (l.any p)):=by
 refine fo func84 rfl ⟨rfl,rfl⟩ fun M0 w0=> ?_
 refine a2 ?_
 refine co rfl (CS (Ve) rfl rfl rfl) ?_
 refine a2 ?_
 · exact bool_eq (P3 p l)
end Go.Proofs.YtmocaapoeefgkaaGreatDoor
namespace Go.Proofs.YtmocaapoeefgkaaGreatDoor
open Go Go.RowKit Cp Go.ChangeShapes Go.WideShapes Go.ChangeAt Go.Proofs.Tryz
theorem AGn:ownKnob Tryz.prog.godebug=none:=by kernel_rfl
theorem mg:laidOutB Tryz.prog=true:=by kernel_rfl
theorem i64_in {n:Int} (h:(Lit.int .i64 n).wf=true):Mn n:=by
 simp only [Lit.wf,Bool.and_eq_true,decide_eq_true_eq] at h
 have h1:IntKind.i64.min= -9223372036854775808:=rfl
 have h2:IntKind.i64.max=9223372036854775807:=rfl
 unfold Mn;omega
theorem Zd {P:Program} {t e:TypeId} (ht:P.underlying t=some (.slice e)) (he:P.underlying e=some (.int .i64)) (hc:P.cellsOf e=1):M7 P t (fun l:List Int=>l.length≤maxLen∧∀n∈l,Mn n) (fun l=>[ints l]):=
 (W7 ht hc (gJ he)).map id (fun _ h=>⟨h.2,fun n hn=>i64_in (h.1 n hn)⟩) (fun _=>rfl)
end Go.Proofs.YtmocaapoeefgkaaGreatDoor
namespace Go.Proofs.YtmocaapoeefgkaaGreatDoor
open Go Go.RowKit Cp Go.Proofs.Tryz
abbrev Dh (b:Nat) (s:DS):Aq:=W9 104 b s
theorem td (n:Int) {k:Int} (hk:1≤k):(n.tmod k+k).tmod k=n % k:=by
 have h1: -k<n.tmod k:=by have:=Int.lt_tmod_of_pos n (b:=k) AA;omega
 rw [Int.tmod_eq_emod_of_nonneg AA,Int.tmod_def,show n-k*n.tdiv k+k=n+k*(1-n.tdiv k) by rw [Int.mul_sub];omega,Int.add_mul_emod_self_left]
theorem yR (n:Int) {k:Int} (hk:1≤k): -k<n.tmod k∧n.tmod k<k:=by
 have h1:=Int.lt_tmod_of_pos n (b:=k) AA
 have h2:=Int.tmod_lt_of_pos n (b:=k) AA
 omega
theorem tg {l:List Int}  :BF prog 10 [ints l] (bool (decide (l.length≤400))):=by
 refine fo func10 rfl ⟨rfl,rfl⟩ fun M0 w0=> ?_
 refine a3 ?_
 · exact Po
theorem ADC {n k:Int} (hk:1≤k) (hk2:k≤1000000000):BF prog 68 [int n,int k] (int (n % k)):=by
 refine fo func68 rfl ⟨rfl,rfl⟩ fun M0 w0=> ?_
 have hm:=yR n hk
 have hp:=td n hk
 · repeat' first|(exfalso;omega)|(refine int_eq ?_;exact hp)|refine co rfl (VA rfl vq vq AA) ?_|refine ac ?_|(refine Tr.cn rfl ?_ ?_<;>intro h q)
theorem Cf {b:Nat} {s:DS} {n:Int} (hn:1≤n) (hn2:n≤1000000000):BS prog 16 [ptr b 0,int n] (int (s.val n)) (Dh b s) (fun _=>Dh b s.Cj):=by
 refine BS.of func16 rfl rfl Az fun M0 w0 S rs M1 w1=> ?_
 have hs:=s.h
 have S8:=s.h2
 refine ac ?_
 refine an ?_ ?_<;>intro h1 q1
 refine ac ?_
 refine Tr.ret (Fin.AE ?_)
 rw [DS.sC (s:=s) AA]
 refine Fin.Gl [] rfl (AL.tmp rfl Lr) ?_ (fun _ _ _ _=>rfl)
 · refine int_eq ?_;exact (DS.sB AA n).symm
 have hlt:s.at_<s.l.length:=by omega
 obtain ⟨x,hx⟩:=at_ hlt
 refine ac ?_
 refine ap ?_
 refine wk [1,0] rfl ?_
 refine ac ?_
 refine co rfl (AD rfl underlying22 Bs vq vq AA (by rw [show ((s.at_:Nat):Int)+1-1=((s.at_:Nat):Int) by omega];exact AZ hx)) ?_
 refine ac ?_
 refine co rfl (CS (ADC AA AA) rfl rfl rfl) ?_
 refine ac ?_
 refine wk [4] rfl (Tr.ret ?_)
 rw [DS.xV hlt]
 refine Fin.Gl [] rfl (AL.tmp rfl Lr) ?_ (fun _ _ _ _=>rfl)
 · refine int_eq ?_;exact (DS.xU hx n).symm
theorem XV {b:Nat} {s:DS} {l:List Int} (hl:l≠[]) (hl2:l.length≤1000000000):BS prog 34 [ptr b 0,ints l] (int (s.of l)) (Dh b s) (fun _=>Dh b s.Cj):=by
 refine BS.of func34 rfl rfl Az fun M0 w0 S rs M1 w1=> ?_
 have hl0:1≤(l.length:Int):=by have:=List.length_pos_iff.2 hl;omega
 have hv:=s.DM hl0
 obtain ⟨x,hx⟩:=at_ (l:=l) (k:=(s.val l.length).toNat) AA
 refine ac ?_
 refine ap ?_
 refine TO.GK 0 rfl rfl AB (Aj rfl rfl AB rfl (Cf AA AA) ⟨kq,kz⟩) (tp rfl (AD rfl underlying22 Bs vq vq AA (Bf hx)) ?_)
 refine ap ?_
 refine Tr.ret (Fin.Gl [] rfl (AL.tmp rfl Lr) ?_ (fun _ _ _ _=>rfl))
 · refine int_eq ?_;unfold DS.of;rw [hx];rfl
theorem mh {b:Nat} {s:DS} {n:Int} (hn:1≤n) (hn2:n≤1000000000):BS prog 39 [ptr b 0,int n] (bool (s.val n==n-1)) (Dh b s) (fun _=>Dh b s.Cj):=by
 refine BS.of func39 rfl rfl Az fun M0 w0 S rs M1 w1=> ?_
 refine ac ?_
 refine ap ?_
 refine TO.GK 0 rfl rfl AB (Aj rfl rfl AB rfl (Cf AA AA) ⟨kq,kz⟩) ?_
 refine ap ?_
 refine Tr.ret (Fin.Gl [] rfl (AL.tmp rfl Lr) ?_ (fun _ _ _ _=>rfl))
 · exact Lr
def th (l:List Int) (hl:l.length≤1000000000) (v:Value):Aq:=match v with| .pointer (some a)=>W9 104 a.block ⟨l,0,Nat.zero_le _,hl⟩|_=>Bq
theorem yS {l:List Int} (hl:l.length≤1000000000):BS prog 12 [ints l] (ex fun b=>ptr b 0) (Bq) (th l hl):=by
 refine BS.of func12 rfl rfl Az fun M0 w0 S rs M1 w1=> ?_
 refine ac ?_
 refine ap ?_
 refine TO.VG rfl rfl AB rfl C3 (fun b1=> ?_)
 refine ap ?_
 refine Tr.ret (Fin.drop 1 ?_)
 refine Fin.Gl [] rfl (AL.tmp rfl Lr) ?_ (by rintro _ _ _ rfl;rfl)
 · exact Ax b1 Lr
-- no type cipherplan/api.Fact here
-- no type cipherplan/api.AFP here
-- no type cipherplan/AHp.place here
theorem wj {d:Nat} {w:World} {x0 y0:Int} {x1 y1:Int}:(Op.equalIn (d+2) 81 (.agg #[.int .i64 x0,.int .i64 x1]) (.agg #[.int .i64 y0,.int .i64 y1])).run Tryz.prog w= .ok (decide (x0=y0∧x1=y1)) w:=by
 have h:=eqS (w:=w) (d:=d+1) (xs:= #[.int .i64 x0,.int .i64 x1]) (ys:= #[.int .i64 y0,.int .i64 y1]) Tryz.underlying81 BV (FF AB (CI Cs rfl) (CI Cs rfl) (Gd (d:=d+0) Tryz.underlying3) (FF AB (CI Cs rfl) (CI Cs rfl) (Gd (d:=d+0) Tryz.underlying3) (NH)))
 refine h.trans (congrArg (fun b=>Result.ok b w) ?_)
 rw [Bool.eq_iff_iff];simp [and_assoc]
theorem P4 {E:Env} {I:Ck} {o:Oper} {u:TypeId} {x y:Operand} {x0 y0:Int} {x1 y1:Int} (ho:o.op= .binOp .eql 81 x y u) (hx:VL E x (agg [is (.int .i64 x0),is (.int .i64 x1)])) (hy:VL E y (agg [is (.int .i64 y0),is (.int .i64 y1)])):Ae Tryz.prog I o E (bool (decide (x0=y0∧x1=y1))):=
 NG [.int .i64 x0,.int .i64 x1] [.int .i64 y0,.int .i64 y1] ho hx hy BV (fun w=>by rw [show Op.equal 81 _ _=Op.equalIn (9998+2) 81 _ _ from rfl];exact wj)
theorem P5 {E:Env} {I:Ck} {o:Oper} {u:TypeId} {x y:Operand} {x0 y0:Int} {x1 y1:Int} (ho:o.op= .binOp .neq 81 x y u) (hx:VL E x (agg [is (.int .i64 x0),is (.int .i64 x1)])) (hy:VL E y (agg [is (.int .i64 y0),is (.int .i64 y1)])):Ae Tryz.prog I o E (bool (!decide (x0=y0∧x1=y1))):=
 RR [.int .i64 x0,.int .i64 x1] [.int .i64 y0,.int .i64 y1] ho hx hy BV (fun w=>by rw [show Op.equal 81 _ _=Op.equalIn (9998+2) 81 _ _ from rfl];exact wj)
def Ju (a b:Int):Int:=if a<b then -1 else if b<a then 1 else 0
def orF (l:List Int):Int:=(l.find? fun x=>x !=0).getD 0
theorem tj {l:List Int} {k:Nat} {x:Int} (hx:l[k]? =some x) (h0:¬x=0) (h:∀j y,j<k→l[j]? =some y→(y !=0)=false):x=orF l:=by
 unfold orF
 have:l.find? (fun x=>x !=0)=some x:=by
  rw [List.find?_eq_some_iff_getElem]
  have hk:k<l.length:=by rcases Nat.lt_or_ge k l.length with h|h;exact h;rw [List.getElem?_eq_none h] at hx;cases hx
  rw [List.getElem?_eq_getElem hk] at hx
  simp only [Option.some.injEq] at hx
  refine ⟨by simpa using h0,k,hk,hx,fun j hj=> ?_⟩
  have:=h j _ hj (List.getElem?_eq_getElem AA)
  simpa using this
 rw [this];rfl
theorem mj {l:List Int} (h:∀j y,j<l.length→l[j]? =some y→(y !=0)=false):0=orF l:=by
 unfold orF
 have:l.find? (fun x=>x !=0)=none:=by
  rw [List.find?_eq_none]
  intro x hx
  obtain ⟨j,hj,rfl⟩:=List.mem_iff_getElem.1 hx
  have:=h j _ hj (List.getElem?_eq_getElem hj)
  simpa using this
 rw [this];rfl
def okc (c:UInt8):Bool:=decide (33≤c.toNat∧c.toNat≤126)
def named (s:List UInt8):Bool:=s.all okc&&decide (1≤s.length∧s.length≤32)
theorem Vf {β:Type} {p:β→Bool} {l:List β} {k:Nat} {x:β} (hx:l[k]? =some x) (hp:p x=false):l.all p=false:=by
 rw [Bool.eq_false_iff];intro h;rw [List.all_eq_true] at h;rw [h x (List.mem_of_getElem? hx)] at hp;cases hp
theorem NM {β:Type} {p:β→Bool} {l:List β} (h:∀j y,j<l.length→l[j]? =some y→(!p y)=false):l.all p=true:=by
 rw [List.all_eq_true]
 intro y hy
 obtain ⟨j,hj⟩:=List.mem_iff_getElem?.1 hy
 have:=h j y bR hj
 simpa using this
theorem mm {n:Int}  :BF prog 166 [int n] (bool false):=by
 refine fo func166 rfl ⟨rfl,rfl⟩ fun M0 w0=> ?_
 refine a3 ?_
 · exact bool_eq AU
theorem Ze {a b:Int}  :BF prog 115 [int a,int b] (int (Ju a b)):=by
 refine fo func115 rfl ⟨rfl,rfl⟩ fun M0 w0=> ?_
 · repeat' first|exact absurd h AB|(refine int_eq ?_;unfold Ju;(repeat split)<;>omega)|refine co rfl (Cz (mm) rfl rfl) ?_|refine ac ?_|(refine Tr.cn rfl ?_ ?_<;>intro h q)
theorem ADD {l:List Int}  :BF prog 223 [ints l] (int (orF l)):=by
 refine fo func223 rfl ⟨rfl,rfl⟩ fun M0 w0=>(Tr.Cl 0 rfl fun EH=> ?_)
 refine a3 ?_
 refine Tr.block (Tr.BE _ (kk [7,6,3] rfl) (fun k:Nat=>[(8,int ((k:Nat):Int))]) (fun k:Nat=>k≤(l).length∧(∀j y,j<k→l[j]? =some y→(y !=0)=false)) (fun k:Nat=>(l).length-k) 0 (⟨Nat.zero_le _,fun j y hj=>absurd hj AA⟩) kz ?_)
 rintro k ⟨BT,AX⟩
 refine ac ?_
 refine Tr.seq ?_
 refine Tr.cn rfl ?_ ?_<;>intro h1 q1
 have Ai:k<(l).length:=AH h1
 obtain ⟨x,Ah⟩:=at_ Ai
 refine ac ?_
 refine Tr.seq (Tr.block (Tr.seq (Tr.Al (co rfl (AD rfl underlying22 Bs vq vq AA CO) ?_))))
 · repeat' first|exact int_eq (tj Ah Bi AX)|exact Fin.AO (k+1) ⟨⟨Ai,Db (p:=fun y=>y !=0) Ah (by simpa using by assumption) AX⟩,by omega⟩ ⟨⟨_,rfl,AG k⟩,kz⟩|refine ac ?_|(refine Tr.cn rfl ?_ ?_<;>intro h q)
 have BP:k=(l).length:=by have:=AJ h1;omega
 subst BP
 refine a3 ?_
 · exact int_eq (mj AX)
theorem G7 {s:List UInt8}  :BF prog 196 [str s] (bool (named s)):=by
 refine fo func196 rfl ⟨rfl,rfl⟩ fun M0 w0=> ?_
 refine ac ?_
 refine ag ?_ ?_<;>intro h1 q1
 refine a3 ?_
 · exact bt
 refine an ?_ ?_<;>intro h2 q2
 refine a2 ?_
 · exact bt
 refine a2 ?_
 refine Tr.block (Tr.BE _ (kk [0] rfl) (fun k:Nat=>[(3,int ((k:Nat):Int))]) (fun k:Nat=>k≤(s).length∧(∀j y,j<k→s[j]? =some y→(!okc y)=false)) (fun k:Nat=>(s).length-k) 0 (⟨Nat.zero_le _,fun j y hj=>absurd hj AA⟩) kz ?_)
 rintro k ⟨BT,AX⟩
 refine an ?_ ?_<;>intro h3 q3
 have Ai:k<(s).length:=AH h3
 obtain ⟨c,Ah⟩:=at_ Ai
 · repeat' first|(refine bool_eq ?_;unfold named;rw [Vf (p:=okc) Ah (by simp [okc];omega)];rfl)|(exact Fin.AO (k+1) ⟨⟨Ai,Db (p:=fun c=> !okc c) Ah (by simp [okc];omega) AX⟩,by omega⟩ ⟨⟨_,rfl,AG k⟩,kz⟩)|refine co rfl (VU rfl underlying9 vq vq AA (VV Bi)) ?_|refine cy h rfl (VU rfl underlying9 vq vq AA (VV Bi)) ?_|refine ac ?_|(refine Tr.cn rfl ?_ ?_<;>intro h q)|(refine Ch.cg rfl rfl rfl ?_ ?_<;>intro h q)
 have BP:k=(s).length:=by have:=AJ h3;omega
 subst BP
 refine a3 ?_
 · refine bool_eq ?_;unfold named;rw [NM AX,Bool.true_and];symm;rw [decide_eq_true_eq];omega
structure Zf where
 name:List UInt8
 kind:Int
 way:Int
 sizes:List Int
 Tx:List Int
def Ig:List Zf:=[⟨[],0,0,[],[]⟩,⟨[109,100,53],1,0,[],[18]⟩,⟨[115,104,97,49],1,0,[],[60]⟩,⟨[115,104,97,50,53,54],1,0,[],[128]⟩,⟨[115,104,97,51,56,52],1,0,[],[192]⟩,⟨[114,115,97],2,1,[],[]⟩,⟨[100,115,97],2,1,[],[]⟩,⟨[101,99,100,115,97],2,2,[],[]⟩,⟨[101,100,50,53,53,49,57],2,0,[],[128]⟩,⟨[109,108,100,115,97],2,3,[44,65,87],[128,192,256]⟩,⟨[114,115,97,107,120],3,1,[],[]⟩,⟨[100,104,101],3,1,[],[]⟩,⟨[101,99,100,104,101],3,2,[],[]⟩,⟨[109,108,107,101,109],3,3,[512,768,1024],[128,192,256]⟩,⟨[114,99,52],4,3,[40,128],[40,60]⟩,⟨[100,101,115,51],4,3,[112,168],[80,112]⟩,⟨[97,101,115,99,98,99],4,3,[128,256],[128,256]⟩,⟨[97,101,115,103,99,109],4,3,[128,256],[128,256]⟩,⟨[99,104,97,99,104,97],4,0,[],[256]⟩,⟨[104,109,97,99,109,100,53],5,0,[],[64]⟩,⟨[104,109,97,99,115,104,97,49],5,0,[],[80]⟩,⟨[104,109,97,99,115,104,97,50,53,54],5,0,[],[128]⟩,⟨[97,101,97,100],5,0,[],[256]⟩]
def dO:Zf:=⟨[],0,0,[],[]⟩
def Ev (CG:Int):Zf:=if 1≤CG∧CG≤22 then (Ig[CG.toNat]?).getD dO else dO
theorem O1 {CG:Int} (h:1≤CG∧CG≤22):Ig[CG.toNat]? =some (Ev CG):=by
 have hl:CG.toNat<Ig.length:=by show CG.toNat<23;omega
 unfold Ev;rw [if_pos h,List.getElem?_eq_getElem hl];rfl
theorem gR {CG:Int} (h:1≤CG∧CG≤22):Ev CG∈Ig:=List.mem_of_getElem? (O1 h)
def mods:List (Int×Int):=[(1024,56),(2048,80),(3072,112),(7680,128),(15360,192)]
def ADE:List (Int×Int)→Int→Int
 |[],_=>256
 |p::l,b=>if b<p.1 then p.2 else ADE l b
def yT (b:Int):Int:=ADE mods b
def bM:List Int:=[160,224,256,384,521]
def Du (CG bits:Int):Int:=
 if 1 ≤ CG ∧ CG ≤ 22 then
  if (Ev CG).way=0 then (if bits=0 then ((Ev CG).Tx[0]?).getD 0 else 0)
  else if (Ev CG).way=1 then (if 512≤bits∧bits≤16384 then yT bits else 0)
  else if (Ev CG).way=2 then (if (bM.any fun x=>bits==x)=true then bits.tdiv 2 else 0)
  else if (Ev CG).way=3 then (if 0≤idx (fun x=>bits==x) (Ev CG).sizes then ((Ev CG).Tx[(idx (fun x=>bits==x) (Ev CG).sizes).toNat]?).getD 0 else 0)
  else 0
 else 0
structure Hf where
 IE:Int
 KK:List UInt8
 Hz:List UInt8
 PT:Int
 Jl:Int
 CU:Int
 Vg:Int
 NN:Int
 from_:Int
 OK:Int
 auth:Bool
 path:Int
 names:List (List UInt8)
 gS:Int
 gT:Int
abbrev gU (l:List (List UInt8)):Pr:=slice 1 (l.map fun t=>[str t])
abbrev DW (c:Hf):List Pr:=[int c.IE,str c.KK,str c.Hz,int c.PT,int c.Jl,int c.CU,int c.Vg,int c.NN,int c.from_,int c.OK,bool c.auth,int c.path,gU c.names,int c.gS,int c.gT]
abbrev Ll (l:List Hf):Pr:=slice 15 (l.map DW)
structure Hf.fits (c:Hf):Prop where
 KK:c.KK.length≤maxLen
 Hz:c.Hz.length≤maxLen
 names:∀s∈c.names,s.length≤maxLen
def IM (n:Int):Bool:=decide (0≤n)&&decide (n≤2147483648)
def yU (n:Int):Bool:=decide (0≤n)&&decide (n<4294967296)
def LA (o:List UInt8) (c:UInt8):Bool:=decide (97≤c.toNat∧c.toNat≤122)||decide (65≤c.toNat∧c.toNat≤90)||decide (48≤c.toNat∧c.toNat≤57)||decide (0≤Lib.indexByte o c)
def Qx (s:List UInt8):Bool:=s.all (LA [45,95,46])&&decide (1≤s.length∧s.length≤32)
def nameAt (l:List (List UInt8)) (i:Nat):Bool:=named (l[i]?.getD [])&&(decide (i=0)||decide (Lib.compareBytes (l[i-1]?.getD []) (l[i]?.getD [])= -1))
def HQ (l:List (List UInt8)):Bool:=allI (nameAt l) l.length&&decide (l.length≤8)
def LZ (CG bits kind:Int):Bool:=decide (Du CG bits>0)&&(Ev CG).kind==kind
def EI (c:Hf):Bool:=
 (decide (0≤c.IE)&&decide (c.IE≤1099511627776)&&named c.KK&&named c.Hz&&HQ c.names)&&
 (LZ c.PT c.Jl 2&&IM c.CU&&LZ c.Vg c.NN 1&&IM c.gS&&yU c.gT)&&
 (decide (0≤c.from_)&&decide (c.from_≤c.OK)&&decide (c.OK≤40000))&&(decide (0≤c.path)&&decide (c.path≤8)&&(c.auth||c.path==0))
def Vh (CG bits id:Int) (l:List Hf):Bool:=LZ CG bits 2&&IM id&&decide (l.length≤8)&&l.all EI&&match l with|[]=>true|c::_=>decide (c.PT=CG∧c.Jl=bits)&&c.CU==id
structure IF where
 CG:Int
 bits:Int
 CU:Int
 chain:List Hf
abbrev FG (x:IF):List Pr:=[int x.CG,int x.bits,int x.CU,Ll x.chain]
abbrev yV (l:List IF):Pr:=slice 4 (l.map FG)
def IF.fits (x:IF):Prop:=∀c∈x.chain,c.fits
structure B7 where
 name:List UInt8
 least:Int
 most:Int
 A9:List Int
 own:Bool
 ids:List IF
 anchors:List Int
 hashes:List Int
 EL:Bool
abbrev Be (e:B7):List Pr:=[str e.name,int e.least,int e.most,ints e.A9,bool e.own,yV e.ids,ints e.anchors,ints e.hashes,bool e.EL]
structure B7.fits (e:B7):Prop where
 name:e.name.length≤maxLen
 ids:∀x∈e.ids,x.fits
def Ih (l:List Int) (i:Nat):Bool:=decide (i=0)||decide (l[i-1]?.getD 0<l[i]?.getD 0)
def gV (l:List Int):Bool:=allI (Ih l) l.length
def Ge (l:List Int) (i:Nat):Bool:=decide (1≤l[i]?.getD 0∧l[i]?.getD 0≤16)&& !((l.take i).any fun x=>l[i]?.getD 0==x)
def LB (l:List Int):Bool:=allI (Ge l) l.length
def Rd (n:Int):Bool:=(Ev n).kind==1
def idB (x:IF):Bool:=Vh x.CG x.bits x.CU x.chain
def Gp (e:B7):Bool:=
 (Qx e.name&&decide (1≤e.least)&&decide (e.least≤e.most)&&decide (e.most≤4)&&LB e.A9)&&
 (decide (e.ids.length≤4)&&decide (e.anchors.length≤16)&&gV e.anchors&&gV e.hashes)&&e.ids.all idB&&e.anchors.all IM&&e.hashes.all Rd
theorem getD_at {β:Type} {l:List β} {k:Nat} {x d:β} (h:l[k]? =some x):l[k]?.getD d=x:=by rw [h];rfl
abbrev DY:List Pr:=[any,any,any,any,any,any,any,any,any,any,any,any]
abbrev NO:List (List Pr):=[DY,DY,DY,DY,DY,DY,DY,DY,DY,DY,DY,DY,DY,DY,DY,DY]
theorem mo {k:Nat} (hk:k<16):NO[k]? =some DY:=by
 have hk':k<NO.length:=hk
 rw [List.getElem?_eq_getElem hk']
 have:∀r∈NO,r=DY:=by intro r hr;simp at hr;exact hr
 rw [this _ (List.getElem_mem hk')]
theorem gW {i:Nat} {p:Pr} (h:DY[i]? =some p):p=any:=by have:=List.mem_of_getElem? h;simp at this;exact this
theorem Vi {ps:List Pr} (h:ps.length=12):Pr.le (agg ps) (agg DY):=fun M w v ⟨cs,h1,h2,h3⟩=>⟨cs,h1,h2,HL.wE (by rw [h3.length,h];rfl) fun i p v hp _=>by rw [gW hp];trivial⟩
def mq (CG bits id:Int) (l:List Hf):Bool:=match l with|[]=>true|c::_=>decide (c.PT=CG∧c.Jl=bits)&&c.CU==id
theorem gX {CG bits id:Int} {l:List Hf} (h:l.length=0):mq CG bits id l=true:=by rw [List.eq_nil_of_length_eq_zero h];rfl
theorem XW {CG bits id:Int} {l:List Hf} {c:Hf} (h:l[0]? =some c):mq CG bits id l=(decide (c.PT=CG∧c.Jl=bits)&&c.CU==id):=by
 cases l with
 |nil=>simp at h
 |cons a l=>simp at h;subst h;rfl
theorem G_ (CG bits id:Int) (l:List Hf):Vh CG bits id l=(LZ CG bits 2&&IM id&&decide (l.length≤8)&&l.all EI&&mq CG bits id l):=rfl
theorem NP {β γ:Type} {f:β→γ} {l:List β} (h:l≠[]):0<(l.map f).length:=by rw [List.length_map];exact List.length_pos_iff.2 h
theorem gY {l:List (Int)} (h0:l≠[]) (hl:l.length≤1000000):BS prog 131 [slice 1 (l.map (fun n:Int=>[int n]))] (lens (l.map (fun n:Int=>[int n])).length) (Bq) (fun v=>EF 3 1 (l.map (fun n:Int=>[int n])) v):=by
 refine BS.of func131 rfl rfl Az fun M0 w0 S rs M1 w1=> ?_
 have hpos:=NP (f:=(fun n:Int=>[int n])) h0
 refine a2 ?_
 refine co rfl (Fv rfl underlying22 vq) ?_
 refine ac ?_
 refine Tr.ex 4 rfl (fun z1=>Tr.fact 4 rfl fun Eh=> ?_)
 refine Tr.cn rfl ?_ ?_<;>intro h1 q1
 exfalso;have:=Eh h1;simp_all
 refine ac ?_
 refine ap ?_
 refine TO.pad ?_
 refine TO.Dl 0 rfl rfl AB (JJ rfl rfl AB rfl underlying22 Bs Iw z3 rfl AB AB vq vq hpos N3 C1) (fun v1=> ?_)
 refine ap ?_
 refine Tr.ret (Fin.drop 1 ?_)
 refine Fin.ED rfl rfl ?_ Pn
 · exact I8
theorem gZ   :BF prog 131 [slice 1 []] (full 1 []):=by
 refine fo func131 rfl ⟨rfl,rfl⟩ fun M0 w0=> ?_
 refine a2 ?_
 refine co rfl (Fv rfl underlying22 vq) ?_
 refine ac ?_
 refine Tr.ex 4 rfl (fun z1=>Tr.fact 4 rfl fun Eh=> ?_)
 · repeat' first|exact DT 1|exact Lr|refine co rfl (NL rfl underlying22 Bs vq vq) ?_|refine ac ?_|(refine Tr.cn rfl ?_ ?_<;>intro h q)
theorem OL {l:List (Int)} (hl:l.length≤1000000):BS Tryz.prog 131 [slice 1 (l.map (fun n:Int=>[int n]))] (lens l.length) Bq (fun v=>Bz 3 1 (l.map (fun n:Int=>[int n])) v):=by
 by_cases h0:l=[]
 · subst h0;exact BS.XR gZ
 ·
  have:=BS.Rb (by intro h;exact h0 Dz) (gY h0 hl)
  rwa [List.length_map] at this
theorem ga {l:List (Hf)} (h0:l≠[]) (hl:l.length≤925904528640):BS prog 241 [slice 15 (l.map DW)] (lens (l.map DW).length) (Bq) (fun v=>EF 189 15 (l.map DW) v):=by
 refine BS.of func241 rfl rfl Az fun M0 w0 S rs M1 w1=> ?_
 have hpos:=NP (f:=DW) h0
 refine a2 ?_
 refine co rfl (Fv rfl underlying82 vq) ?_
 refine ac ?_
 refine Tr.ex 4 rfl (fun z1=>Tr.fact 4 rfl fun Eh=> ?_)
 refine Tr.cn rfl ?_ ?_<;>intro h1 q1
 exfalso;have:=Eh h1;simp_all
 refine ac ?_
 refine ap ?_
 refine TO.pad ?_
 refine TO.Dl 0 rfl rfl AB (JJ rfl rfl AB rfl underlying82 DF wR RM rfl AB AB vq vq hpos N3 C1) (fun v1=> ?_)
 refine ap ?_
 refine Tr.ret (Fin.drop 1 ?_)
 refine Fin.ED rfl rfl ?_ Pn
 · exact I8
theorem gb   :BF prog 241 [slice 15 []] (full 15 []):=by
 refine fo func241 rfl ⟨rfl,rfl⟩ fun M0 w0=> ?_
 refine a2 ?_
 refine co rfl (Fv rfl underlying82 vq) ?_
 refine ac ?_
 refine Tr.ex 4 rfl (fun z1=>Tr.fact 4 rfl fun Eh=> ?_)
 · repeat' first|exact DT 15|exact Lr|refine co rfl (NL rfl underlying82 DF vq vq) ?_|refine ac ?_|(refine Tr.cn rfl ?_ ?_<;>intro h q)
theorem gh {l:List (Hf)} (hl:l.length≤925904528640):BS Tryz.prog 241 [slice 15 (l.map DW)] (lens l.length) Bq (fun v=>Bz 189 15 (l.map DW) v):=by
 by_cases h0:l=[]
 · subst h0;exact BS.XR gb
 ·
  have:=BS.Rb (by intro h;exact h0 Dz) (ga h0 hl)
  rwa [List.length_map] at this
theorem gj {l:List (List UInt8)} (h0:l≠[]) (hl:l.length≤8796093022208):BS prog 242 [slice 1 (l.map (fun t:List UInt8=>[str t]))] (lens (l.map (fun t:List UInt8=>[str t])).length) (Bq) (fun v=>EF 9 1 (l.map (fun t:List UInt8=>[str t])) v):=by
 refine BS.of func242 rfl rfl Az fun M0 w0 S rs M1 w1=> ?_
 have hpos:=NP (f:=(fun t:List UInt8=>[str t])) h0
 refine a2 ?_
 refine co rfl (Fv rfl underlying127 vq) ?_
 refine ac ?_
 refine Tr.ex 4 rfl (fun z1=>Tr.fact 4 rfl fun Eh=> ?_)
 refine Tr.cn rfl ?_ ?_<;>intro h1 q1
 exfalso;have:=Eh h1;simp_all
 refine ac ?_
 refine ap ?_
 refine TO.pad ?_
 refine TO.Dl 0 rfl rfl AB (JJ rfl rfl AB rfl underlying127 NC by9 z9 rfl AB AB vq vq hpos N3 C1) (fun v1=> ?_)
 refine ap ?_
 refine Tr.ret (Fin.drop 1 ?_)
 refine Fin.ED rfl rfl ?_ Pn
 · exact I8
theorem gl   :BF prog 242 [slice 1 []] (full 1 []):=by
 refine fo func242 rfl ⟨rfl,rfl⟩ fun M0 w0=> ?_
 refine a2 ?_
 refine co rfl (Fv rfl underlying127 vq) ?_
 refine ac ?_
 refine Tr.ex 4 rfl (fun z1=>Tr.fact 4 rfl fun Eh=> ?_)
 · repeat' first|exact DT 1|exact Lr|refine co rfl (NL rfl underlying127 NC vq vq) ?_|refine ac ?_|(refine Tr.cn rfl ?_ ?_<;>intro h q)
theorem gm {l:List (List UInt8)} (hl:l.length≤8796093022208):BF Tryz.prog 242 [slice 1 (l.map (fun t:List UInt8=>[str t]))] (slice 1 (l.map (fun t:List UInt8=>[str t]))):=by
 by_cases h0:l=[]
 · subst h0;exact BF.le gl (fun _ _ _ h=>h) (B8 _ _)
 · exact (BS.ACE (rows:=(l.map (fun t:List UInt8=>[str t]))) (A7 fun _=>rfl) (gj h0 hl)).pure
structure IF.small (x:IF):Prop where
 chain:x.chain.length≤925904528640
 names:∀c∈x.chain,c.names.length≤8796093022208
theorem mu {x:IF} (hx:x.small):BF prog 203 [agg (FG x)] (agg (FG x)):=by
 refine fo func203 rfl ⟨rfl,rfl⟩ fun M0 w0=> ?_
 have hch:=hx.chain
 refine Tr.seq (Tr.Ap ?_)
 refine TO.VG rfl rfl AB rfl C3 (fun b1=> ?_)
 refine Tl rfl rfl rfl rfl Wf S5 (fun b2=> ?_)
 refine ao ?_
 refine ao ?_
 refine TO.pad ?_
 refine TO.Dl 0 rfl rfl AB (Fu rfl rfl AB rfl (gh (l:=x.chain) AA) kz) (fun v1=> ?_)
 refine tp rfl (AW rfl ld vq) (TO.DG 2 rfl rfl (Aw rfl rfl vq Lj ABf rfl Az rfl) ?_)
 refine ao ?_
 refine ac ?_
 refine co rfl (CN 0 rfl (tY rfl underlying82 KJ)) ?_
 refine ac ?_
 refine Tr.block (Tr.re 11 rfl (int_eq (by rw [List.length_map])) (Tr.BE _ (kk [11,10,2,1] rfl) (fun k:Nat=>[(12,int ((k:Nat):Int))]) (fun k:Nat=>k≤(x.chain).length) (fun k:Nat=>(x.chain).length-k) 0 (Nat.zero_le _) kz ?_))
 rintro k BT
 refine ac ?_
 refine Tr.seq ?_
 refine Tr.cn rfl ?_ ?_<;>intro h1 q1
 have Ai:k<(x.chain).length:=AH h1
 obtain ⟨c,Ah⟩:=at_ Ai
 have hcn:=hx.names c (List.mem_of_getElem? Ah)
 refine ac ?_
 refine ao ?_
 refine tp rfl (CN 0 rfl (GQ rfl underlying82 DF KJ vq AA C1)) ?_
 refine tp rfl (CN 0 rfl (gQ rfl GN DF vq (A7 fun _=>rfl) cL)) ?_
 refine Tl rfl rfl rfl rfl RM Lh (fun b3=> ?_)
 refine tm rfl ?_
 refine sf 0 4 ⟨rfl,rfl,rfl⟩ rfl rfl rfl rfl ?_
 refine ao ?_
 refine Tr.rx ?_
 refine ax ?_
 refine xo rfl (fun _=>Cz (gm hcn) rfl rfl) ?_
 refine IZ 0 rfl rfl (GQ rfl underlying82 DF KJ vq AA C1) ?_
 refine xo rfl (fun _=>Zb rfl XG vq) ?_
 refine Cx.DG 0 rfl rfl (Eu rfl rfl vq Lj wK rfl (A7 fun _=>rfl) cL AB (mN (f:=DW) Ah rfl)) ?_
 refine Cx.nil ⟨by kernel_rfl,?_⟩
 refine BI.done al3 ?_
 refine ac ?_
 refine wk [12,11,10,2,1] rfl ?_
 refine ac ?_
 exact Fin.AO (k+1) ⟨Ai,by omega⟩ ⟨⟨_,rfl,AG k⟩,kz⟩
 have BP:k=(x.chain).length:=by have:=AJ h1;omega
 subst BP
 refine ac ?_
 refine Tr.seq (Tr.Gm 2 0 3 rfl rfl AB rfl (EC _ _) (A7 fun _=>rfl) ?_)
 refine ao ?_
 refine TO.AK 1 rfl rfl rfl vq C3 rfl E8 rfl rfl ?_
 refine ao ?_
 refine Tr.drop 0 (Tr.drop 1 (Tr.ret (Fin.Cb rfl (AL.cell 0 rfl rfl Ov E8 rfl Lr) ?_)))
 · exact Lr
structure Ba where
 AY:Int
 kind:Int
 number:Int
 at_:Int
 C6:IF
abbrev Ew (c:Ba):List Pr:=[int c.AY,int c.kind,int c.number,int c.at_,int c.C6.CG,int c.C6.bits,int c.C6.CU,Ll c.C6.chain]
def Bn (key:Int) (l:List IF):Int:=idx (fun x=>x.CU==key) l
theorem P6 {β:Type} {p:β→Bool} {l:List β} (h:0≤idx p l):∃x,l[(idx p l).toNat]? =some x∧p x=true∧(idx p l).toNat<l.length:=by
 unfold idx at*
 cases hf:l.findIdx? p with
 |none=>rw [hf] at h;simp at h
 |some i=>
  rw [List.findIdx?_eq_some_iff_getElem] at hf
  obtain ⟨h1,h2,_⟩:=hf
  refine ⟨l[i],?_,h2,by simpa using h1⟩
  simp
theorem mM.perm {P:Program} {f:FuncId} {args:List Pr} {pre post post':List Aq} {res:Pr} (h:mM P f args pre res post) (hp:post.Perm post'):mM P f args pre res post':=
 ⟨h.1,fun M0 w0 S rs M w vs hI hv=>(h.2 M0 w0 S rs M w vs hI hv).mono fun _e _w' ⟨v,M',x,h1,h2,h3,h4,h5⟩=>⟨v,M',x,h1,h2,h3,h4,A8.perm (hp.append_right rs) h5⟩⟩
def dP (x:IF):Bool:=decide (x.CG=0∧x.bits=0)&&x.CU==0&&(((x.chain.length:Nat):Int)==0)
def kH (c:Ba):Bool:=if c.kind=1 then dP c.C6 else if c.kind=5 then c.number==0 else c.at_==0&&dP c.C6
structure B7.small (e:B7):Prop where
 A9:e.A9.length≤1000000
 anchors:e.anchors.length≤1000000
 hashes:e.hashes.length≤1000000
 Yy:e.ids.length≤1000000
 ids:∀x∈e.ids,x.small
theorem tq {c:Ba} (hx:c.C6.small):BF prog 155 [agg (Ew c)] (agg (Ew c)):=by
 refine fo func155 rfl ⟨rfl,rfl⟩ fun M0 w0=>(Tr.seq (Tr.Ap ?_))
 refine TO.VG rfl rfl AB rfl C3 (fun b1=> ?_)
 refine Tl rfl rfl rfl rfl Py LU (fun b2=> ?_)
 refine ap ?_
 refine ap ?_
 refine tp rfl (Cz (mu (x:=c.C6) hx) rfl rfl) ?_
 refine ap ?_
 refine ap ?_
 refine Tr.drop 1 (Tr.ret (Fin.Cb rfl (AL.cell 0 rfl rfl Hw Dr rfl Lr) ?_))
 · exact Lr
def KL (b:Int) (l m:List Int):Int:=if 0≤idx (fun x=>b==x) l then (m[(idx (fun x=>b==x) l).toNat]?).getD 0 else 0
theorem gp {b:Int} {l m:List Int} {k:Nat} {x z:Int} (hx:l[k]? =some x) (he:x=b) (hz:m[k]? =some z) (h:∀j y,j<k→l[j]? =some y→(b==y)=false):z=KL b l m:=by
 have:=EX (p:=fun x=>b==x) hx (by simp [he]) h
 unfold KL;rw [←this,if_pos AA,Int.toNat_natCast,hz];rfl
theorem Zg {b:Int} {l m:List Int} (h:∀j y,j<l.length→l[j]? =some y→(b==y)=false):0=KL b l m:=by
 have:=Fz (p:=fun x=>b==x) h
 unfold KL;rw [←this,if_neg AA]
def G4 (CG:Int):Int:=if CG=1 then 18 else if CG=2 then 60 else if CG=3∨CG=8∨CG=21 then 128 else if CG=4 then 192 else if CG=18∨CG=22 then 256 else if CG=19 then 64 else if CG=20 then 80 else 0
def Ol (b:Int):Int:=if b<512∨b>16384 then 0 else if b<1024 then 56 else if b<2048 then 80 else if b<3072 then 112 else if b<7680 then 128 else if b<15360 then 192 else 256
theorem mw (b:Int):Ol b=if 512≤b∧b≤16384 then yT b else 0:=by
 have h1:yT b=if b<1024 then 56 else if b<2048 then 80 else if b<3072 then 112 else if b<7680 then 128 else if b<15360 then 192 else 256:=rfl
 rw [h1];unfold Ol
 by_cases h:512≤b∧b≤16384
 · rw [if_pos h,if_neg AA]
 · rw [if_neg h,if_pos AA]
theorem JK {b:Int} {l m:List Int} (hl:l.length≤m.length):BF prog 269 [int b,ints l,ints m] (int (KL b l m)):=by
 refine fo func269 rfl ⟨rfl,rfl⟩ fun M0 w0=>(Tr.Cl 1 rfl fun F0=> ?_)
 refine a2 ?_
 refine Tr.block (Tr.BE _ (kk [2,1,0] rfl) (fun k:Nat=>[(7,int ((k:Nat):Int))]) (fun k:Nat=>k≤(l).length∧(∀j y,j<k→l[j]? =some y→(b==y)=false)) (fun k:Nat=>(l).length-k) 0 (⟨Nat.zero_le _,fun j y hj=>absurd hj AA⟩) kz ?_)
 rintro k ⟨BT,AX⟩
 refine an ?_ ?_<;>intro h1 q1
 have Ai:k<(l).length:=AH h1
 obtain ⟨x,Ah⟩:=at_ Ai
 obtain ⟨z,hz⟩:=at_ (l:=m) (k:=k) AA
 · repeat' first|exact int_eq (gp Ah Bi hz AX)|(exact Fin.AO (k+1) ⟨⟨Ai,Db (p:=fun x=>b==x) Ah CF AX⟩,by omega⟩ ⟨⟨_,rfl,AG k⟩,kz⟩)|refine co rfl (AD rfl underlying22 Bs vq vq AA CO) ?_|refine ac ?_|(refine Tr.cn rfl ?_ ?_<;>intro h q)
 have BP:k=(l).length:=by have:=AJ h1;omega
 subst BP
 refine a3 ?_
 · exact int_eq (Zg AX)
theorem mz {CG:Int}  :BF prog 270 [int CG] (int (G4 CG)):=by
 refine fo func270 rfl ⟨rfl,rfl⟩ fun M0 w0=> ?_
 refine a2 ?_
 refine an ?_ ?_<;>intro h1 q1
 refine a2 ?_
 · refine int_eq ?_;unfold G4;(repeat (rw [if_pos AA]))
 refine an ?_ ?_<;>intro h2 q2
 refine a2 ?_
 · exact Ny
 refine an ?_ ?_<;>intro h3 q3
 refine ac ?_
 refine Tr.cond rfl (fun _=> ?_) (fun h=>nomatch h3.symm.trans h)
 refine a2 ?_
 · exact Ny
 refine an ?_ ?_<;>intro h4 q4
 refine ac ?_
 refine Tr.cond rfl (fun _=> ?_) (fun h=>nomatch h4.symm.trans h)
 refine a2 ?_
 · exact Ny
 refine an ?_ ?_<;>intro h5 q5
 refine a2 ?_
 · exact Ny
 refine ac ?_
 refine wk [12,3] rfl ?_
 refine Tr.cn rfl ?_ ?_<;>intro h6 q6
 refine a2 ?_
 · exact Ny
 refine an ?_ ?_<;>intro h7 q7
 refine ac ?_
 refine Tr.cond rfl (fun _=> ?_) (fun h=>nomatch h7.symm.trans h)
 refine a2 ?_
 · exact Ny
 · repeat' first|(refine int_eq ?_;unfold G4;(repeat (first|rw [if_pos AA]|rw [if_neg AA])))|(refine int_eq ?_;unfold G4;(repeat (rw [if_neg AA])))|refine ac ?_|(refine Tr.cn rfl ?_ ?_<;>intro h q)
theorem JL {b:Int}  :BF prog 268 [int b] (int (Ol b)):=by
 refine fo func268 rfl ⟨rfl,rfl⟩ fun M0 w0=> ?_
 refine ac ?_
 refine ac ?_
 refine Ch.cs 6 rfl ?_ ?_<;>intro h1 q1
 refine ac ?_
 refine ac ?_
 refine ac ?_
 · refine int_eq ?_;unfold Ol;(repeat (rw [if_pos AA]))
 refine ac ?_
 refine Tr.cn rfl ?_ ?_<;>intro h2 q2
 refine ac ?_
 refine ac ?_
 · refine int_eq ?_;unfold Ol;(repeat (rw [if_pos AA]))
 refine ac ?_
 refine Tr.cn rfl ?_ ?_<;>intro h3 q3
 refine ac ?_
 refine ac ?_
 · exact Qm
 refine ac ?_
 refine Ti 0 13 rfl ?_
 refine Tr.cn rfl ?_ ?_<;>intro h4 q4
 refine ac ?_
 refine ac ?_
 · exact Qm
 refine ac ?_
 refine Tr.cn rfl ?_ ?_<;>intro h5 q5
 refine ac ?_
 refine ac ?_
 · exact Qm
 refine ac ?_
 refine Tr.cn rfl ?_ ?_<;>intro h6 q6
 refine ac ?_
 refine ac ?_
 · exact Qm
 refine ac ?_
 refine Tr.cn rfl ?_ ?_<;>intro h7 q7
 refine ac ?_
 refine ac ?_
 · exact Qm
 refine ac ?_
 refine ac ?_
 refine ac ?_
 · refine int_eq ?_;unfold Ol;(repeat (rw [if_neg AA]))
theorem tu (b c:Int):KL b [0] [c]=if b=0 then c else 0:=by
 unfold KL idx
 by_cases h:b=0
 · subst h;rfl
 ·
  have:List.findIdx? (fun x=>b==x) [0]=none:=by simp [h]
  rw [this,if_neg h];rfl
theorem Uv {CG b:Int} (h:CG=5∨CG=6∨CG=10∨CG=11):Ol b=Du CG b:=by
 rw [mw]
 rcases h with rfl|rfl|rfl|rfl<;>rfl
theorem S9 {CG b:Int} (h:¬(CG=5∨CG=6∨CG=7∨CG=9∨CG=10∨CG=11∨CG=12∨CG=13∨CG=14∨CG=15∨CG=16∨CG=17)):KL b [0] [G4 CG]=Du CG b:=by
 rw [tu]
 by_cases hin:1≤CG∧CG≤22
 ·
  have ha:CG=1∨CG=2∨CG=3∨CG=4∨CG=8∨CG=18∨CG=19∨CG=20∨CG=21∨CG=22:=by omega
  rcases ha with rfl|rfl|rfl|rfl|rfl|rfl|rfl|rfl|rfl|rfl<;>rfl
 ·
  have h1:G4 CG=0:=by unfold G4;(repeat (first|rw [if_pos AA]|rw [if_neg AA]))
  unfold Du
  rw [h1,if_neg hin];split<;>rfl
theorem Mf {CG b:Int} (h:CG=7∨CG=12):Du CG b=if (bM.any fun x=>b==x)=true then b.tdiv 2 else 0:=by
 rcases h with rfl|rfl<;>rfl
theorem XX {CG bits:Int}  :BF prog 229 [agg [int CG,int bits]] (int (Du CG bits)):=by
 refine fo func229 rfl ⟨rfl,rfl⟩ fun M0 w0=> ?_
 iterate 4 refine ac ?_
 refine Tr.cn rfl ?_ ?_<;>intro h1 q1
 refine ac ?_
 refine Tr.cond rfl (fun _=> ?_) (fun h=>nomatch h1.symm.trans h)
 refine ac ?_
 refine co rfl (Cz (JL) rfl rfl) ?_
 refine a2 ?_
 · exact Ph
 refine an ?_ ?_<;>intro h2 q2
 refine ac ?_
 refine Tr.cond rfl (fun _=> ?_) (fun h=>nomatch h2.symm.trans h)
 refine ac ?_
 refine co rfl (Cz (JL) rfl rfl) ?_
 refine ac ?_
 refine wk [2] rfl ?_
 refine ac ?_
 · exact Ph
 refine an ?_ ?_<;>intro h3 q3
 refine ac ?_
 refine Tr.cond rfl (fun _=> ?_) (fun h=>nomatch h3.symm.trans h)
 refine ac ?_
 refine co rfl (Cz (JL) rfl rfl) ?_
 refine ac ?_
 refine wk [2] rfl ?_
 refine ac ?_
 · exact Ph
 refine ac ?_
 refine wk [8,7,3,1] rfl ?_
 refine Tr.cn rfl ?_ ?_<;>intro h4 q4
 refine ac ?_
 refine co rfl (Cz (JL) rfl rfl) ?_
 refine a2 ?_
 · exact Ph
 refine an ?_ ?_<;>intro h5 q5
 refine ac ?_
 refine Tr.cond rfl (fun _=> ?_) (fun h=>nomatch h5.symm.trans h)
 · exact kA
 refine an ?_ ?_<;>intro h11 Ty
 · exact kA
 refine an ?_ ?_<;>intro Jg m8
 refine ac ?_
 refine co rfl (AV rfl (JK (l:=[44,65,87]) (m:=[128,192,256]) AU) ⟨kq,Gn,Gn,trivial⟩) ?_
 refine ac ?_
 refine wk [2] rfl ?_
 refine ac ?_
 · refine int_eq ?_;have ha:CG=9:=AA;rcases ha with rfl<;>rfl
 refine an ?_ ?_<;>intro NB q18
 refine ac ?_
 refine co rfl (AV rfl (JK (l:=[512,768,1024]) (m:=[128,192,256]) AU) ⟨kq,Gn,Gn,trivial⟩) ?_
 refine ac ?_
 refine wk [2] rfl ?_
 refine ac ?_
 · refine int_eq ?_;have ha:CG=13:=AA;rcases ha with rfl<;>rfl
 refine ac ?_
 refine wk [50,7,3,1] rfl ?_
 refine Tr.cn rfl ?_ ?_<;>intro Wg q19
 refine ac ?_
 refine co rfl (AV rfl (JK (l:=[40,128]) (m:=[40,60]) AU) ⟨kq,Gn,Gn,trivial⟩) ?_
 refine a2 ?_
 · refine int_eq ?_;have ha:CG=14:=AA;rcases ha with rfl<;>rfl
 refine an ?_ ?_<;>intro NQ q20
 refine ac ?_
 refine co rfl (AV rfl (JK (l:=[112,168]) (m:=[80,112]) AU) ⟨kq,Gn,Gn,trivial⟩) ?_
 refine a2 ?_
 · refine int_eq ?_;have ha:CG=15:=AA;rcases ha with rfl<;>rfl
 refine an ?_ ?_<;>intro dQ q21
 refine ac ?_
 refine Tr.cond rfl (fun _=> ?_) (fun h=>nomatch dQ.symm.trans h)
 refine ac ?_
 refine co rfl (AV rfl (JK (l:=[128,256]) (m:=[128,256]) AU) ⟨kq,Gn,Gn,trivial⟩) ?_
 refine a2 ?_
 · refine int_eq ?_;have ha:CG=16∨CG=17:=AA;rcases ha with rfl|rfl<;>rfl
 · repeat' first|(refine int_eq ?_;have ha:CG=16∨CG=17:=AA;rcases ha with rfl|rfl<;>rfl)|(refine int_eq ?_;exact S9 AA)|refine co rfl (AV rfl (JK (l:=[128,256]) (m:=[128,256]) AU) ⟨kq,Gn,Gn,trivial⟩) ?_|refine co rfl (Cz (mz) rfl rfl) (co rfl (AP (xs:=[.tmp 73]) (rows:=[[_]]) rfl rfl underlying22 Bs z3 rfl AB ⟨⟨Ao,Lj⟩,trivial⟩ AB) ?_)|refine co rfl (AV rfl (JK (l:=[0]) (m:=[G4 CG]) AU) ⟨kq,Gn,Gn,trivial⟩) ?_|refine ac ?_|(refine Tr.cn rfl ?_ ?_<;>intro h q)
theorem KM {CG bits:Int}  :BF prog 197 [agg [int CG,int bits]] (bool (decide (Du CG bits>0))):=by
 refine fo func197 rfl ⟨rfl,rfl⟩ fun M0 w0=> ?_
 refine a2 ?_
 refine co rfl (Cz (XX) rfl rfl) ?_
 refine a2 ?_
 · exact Lr
def yW:List (List UInt8×Int):=Ig.map fun r=>(r.name,r.kind)
theorem tv {CG:Int} (h:1≤CG∧CG≤22):yW[CG.toNat]? =some ((Ev CG).name,(Ev CG).kind):=by
 unfold yW;rw [List.getElem?_map,O1 h];rfl
theorem tw   :BF prog 228 [] (slice 2 (yW.map fun r=>[str r.1,int r.2])):=by
 refine fo func228 rfl ⟨rfl,rfl⟩ fun M0 w0=> ?_
 refine a2 ?_
 refine wk [0] rfl ?_
 refine ac ?_
 · exact B8 _ _
theorem P7 {CG:Int}  :BF prog 195 [int CG] (int (Ev CG).kind):=by
 refine fo func195 rfl ⟨rfl,rfl⟩ fun M0 w0=> ?_
 refine ac ?_
 refine ag ?_ ?_<;>intro h1 q1
 refine a3 ?_
 · refine int_eq ?_;unfold Ev;rw [if_neg AA];rfl
 refine an ?_ ?_<;>intro h2 q2
 refine a2 ?_
 · refine int_eq ?_;unfold Ev;rw [if_neg AA];rfl
 have hin:1≤CG∧CG≤22:=by omega
 refine ac ?_
 refine Tr.seq (Tr.Al (co rfl (kc0 (tw) rfl) (cm rfl (co rfl (AD rfl underlying291 wV vq vq AA (Bf (f:=fun r:List UInt8×Int=>[str r.1,int r.2]) (tv hin))) ?_))))
 refine a2 ?_
 · exact Lr
theorem KO {CG bits:Int}  :BF prog 224 [agg [int CG,int bits]] (bool (decide (Du CG bits>0)&&(Ev CG).kind==2)):=by
 refine fo func224 rfl ⟨rfl,rfl⟩ fun M0 w0=> ?_
 refine ac ?_
 refine ac ?_
 refine co rfl (Cz (KM) rfl rfl) (cm rfl ?_)
 refine Ch.cs 5 rfl ?_ ?_<;>intro h1 q1
 refine ac ?_
 refine cy h1 rfl (Cz (P7) rfl rfl) ?_
 refine ac ?_
 refine ac ?_
 · refine bool_eq ?_;simp_all
 refine ac ?_
 refine ac ?_
 · exact Po
def FO:B7:=⟨[],0,0,[],false,[],[],[],false⟩
def B5:IF:=⟨0,0,0,[]⟩
def H6:Ba:=⟨0,0,0,0,B5⟩
abbrev t_ (l:List Int):Prop:=l.Pairwise (· < ·)
def E9 (l:List Int) (x:Int):Nat:=(l.takeWhile fun y=>decide (y<x)).length
theorem dR (l:List Int) (x:Int):E9 l x≤l.length:=by
 unfold E9
 have h:=List.takeWhile_append_dropWhile (p:=fun y=>decide (y<x)) (l:=l)
 have:=congrArg List.length h
 rw [List.length_append] at this;omega
theorem Vj {x:Int}:∀{l:List Int} {k:Nat},k≤l.length→(∀(j:Nat) y,j<k→l[j]? =some y→y<x)→(∀y,l[k]? =some y→¬y<x)→E9 l x=k
  | [], k, hk, _, _ => by have : k = 0 := by simpa using hk
                          subst this;rfl
  |y::r,0,_,_,h2=>by unfold E9;rw [List.takeWhile_cons_of_neg (by simpa using h2 y rfl)];rfl
  |y::r,k+1,hk,h1,h2=>by
    have ih:=Vj (l:=r) (k:=k) Pv (fun j z hj hz=>h1 (j+1) z AA K6) (fun z hz=>h2 z K6)
    unfold E9 at ih ⊢
    rw [List.takeWhile_cons_of_pos (by simpa using h1 0 y AA rfl),List.length_cons,ih]
theorem Vk {x:Int}:∀{l:List Int} {j:Nat} {y:Int},j<E9 l x→l[j]? =some y→y<x
 |[],j,y,h,_=>by unfold E9 at h;simp at h
 |z::r,j,y,h,hy=>by
  by_cases hz:z<x
  ·
   cases j with
   |zero=>simp at hy;subst hy;exact hz
   |succ j=>
    refine Vk (l:=r) (j:=j) ?_ (by simpa using hy)
    unfold E9 at h ⊢
    rw [List.takeWhile_cons_of_pos K6,List.length_cons] at h;omega
  · unfold E9 at h;rw [List.takeWhile_cons_of_neg K6] at h;simp at h
theorem dS {x:Int}:∀{l:List Int} {y:Int},l[E9 l x]? =some y→¬y<x
 |[],y,h=>by simp at h
 |z::r,y,h=>by
  by_cases hz:z<x
  ·
   unfold E9 at h
   rw [List.takeWhile_cons_of_pos K6,List.length_cons,List.getElem?_cons_succ] at h
   exact dS (l:=r) h
  · unfold E9 at h;rw [List.takeWhile_cons_of_neg K6] at h;simp at h;subst h;exact hz
abbrev F7 (l:List Int) (x:Int):Bool:=(l[E9 l x]?).any (fun y=>decide (y=x))
abbrev Zh (l:List Int) (x:Int):List Int:=l.take (E9 l x)++[x]++l.drop (E9 l x)
theorem uA {l:List Int} (hs:t_ l) {j k:Nat} {y z:Int} (hjk:j<k) (hy:l[j]? =some y) (hz:l[k]? =some z):y<z:=by
 have h1:=BM hy;have h2:=BM hz
 have:=List.pairwise_iff_getElem.1 hs j k h1 h2 hjk
 rw [List.getElem?_eq_getElem h1] at hy;rw [List.getElem?_eq_getElem h2] at hz
 cases hy;cases hz;exact this
theorem dU {l:List Int} {x:Int} {i:Nat} {y:Int} (hp:E9 l x=i) (hy:l[i]? =some y):F7 l x=decide (y=x):=by
 unfold F7;rw [hp,hy];rfl
theorem P8 {l:List Int} (h:gV l=true):t_ l:=by
 unfold gV at h;rw [B_] at h
 have h1:∀(d i:Nat) y z,l[i]? =some y→l[i+d+1]? =some z→y<z:=by
  intro d
  induction d with
  |zero=>
   intro i y z hy hz
   have:=h (i+1) (BM hz)
   unfold Ih at this
   rw [getD_at (show l[i+1]? =some z from hz),getD_at (show l[i+1-1]? =some y from hy)] at this
   simpa using this
  |succ d ih=>
   intro i y z hy hz
   obtain ⟨m,hm⟩:=at_ (l:=l) (k:=i+d+1) (by have:=BM hz;omega)
   have a1:=ih i y m hy hm
   have:=h (i+(d+1)+1) (BM hz)
   unfold Ih at this
   rw [getD_at hz,getD_at (show l[i+(d+1)+1-1]? =some m from hm)] at this
   have:m<z:=by simpa using this
   omega
 refine List.pairwise_iff_getElem.2 fun i j hi hj hij=> ?_
 refine h1 (j-i-1) i _ _ (List.getElem?_eq_getElem hi) ?_
 rw [show i+(j-i-1)+1=j by omega];exact List.getElem?_eq_getElem hj
theorem Vl {l:List Int} {x:Int} (h:F7 l x=true):E9 l x<l.length:=by
 by_cases hp:E9 l x<l.length
 · exact hp
 · unfold F7 at h;rw [List.getElem?_eq_none AA] at h;cases h
abbrev LW (b:Bool):Int:=if b then 1 else 0
abbrev NR (e:B7) (c:Ba):Int:=idx (fun y=>c.number==y) e.A9
def CE (e:B7) (c:Ba):Except Int (B7×Ba):=
 if c.kind = 1 then
  if ¬(0≤c.at_∧c.at_≤(e.A9.length:Nat)) then .error 2
  else if (e.A9.any fun y=>c.number==y)=true then .error 41
  else .ok ({ e with A9:=e.A9.take c.at_.toNat++[c.number]++e.A9.drop c.at_.toNat },⟨c.AY,2,c.number,0,B5⟩)
 else if c.kind = 2 then
  if NR e c<0 then .error 41 else .ok ({ e with A9:=e.A9.eraseIdx (NR e c).toNat },⟨c.AY,1,c.number,NR e c,B5⟩)
 else if c.kind = 3 then
  if e.most=c.number then .error 41 else .ok ({ e with most:=c.number },⟨c.AY,c.kind,e.most,0,B5⟩)
 else if c.kind = 4 then
  if e.least=c.number then .error 41 else .ok ({ e with least:=c.number },⟨c.AY,c.kind,e.least,0,B5⟩)
 else if c.kind = 5 then
  if ¬(0≤c.at_∧c.at_≤(e.ids.length:Nat)) then .error 2
  else if 0≤Bn c.C6.CU e.ids then .error 41
  else .ok ({ e with ids:=e.ids.take c.at_.toNat++[c.C6]++e.ids.drop c.at_.toNat },⟨c.AY,6,c.C6.CU,0,B5⟩)
 else if c.kind = 6 then
  match e.ids[(Bn c.number e.ids).toNat]? with
  |none=> .error 41
  |some x=>
   if Bn c.number e.ids<0 then .error 41
   else if ((e.ids.drop (Bn c.number e.ids+1).toNat).any fun x=>x.CU==c.number)=true then .error 5
   else .ok ({ e with ids:=e.ids.eraseIdx (Bn c.number e.ids).toNat },⟨c.AY,5,0,Bn c.number e.ids,x⟩)
 else if c.kind = 7 then
  if F7 e.anchors c.number=true then .error 41 else .ok ({ e with anchors:=Zh e.anchors c.number },⟨c.AY,8,c.number,0,B5⟩)
 else if c.kind = 8 then
  if F7 e.anchors c.number=true then .ok ({ e with anchors:=e.anchors.eraseIdx (E9 e.anchors c.number) },⟨c.AY,7,c.number,0,B5⟩) else .error 41
 else if c.kind = 9 then
  if F7 e.hashes c.number=true then .error 41 else .ok ({ e with hashes:=Zh e.hashes c.number },⟨c.AY,10,c.number,0,B5⟩)
 else if c.kind = 10 then
  if F7 e.hashes c.number=true then .ok ({ e with hashes:=e.hashes.eraseIdx (E9 e.hashes c.number) },⟨c.AY,9,c.number,0,B5⟩) else .error 41
 else if c.kind = 11 then
  if ¬(0≤c.number∧c.number≤1) then .error 2
  else if LW e.EL=c.number then .error 41 else .ok ({ e with EL:=(c.number==1) },⟨c.AY,c.kind,LW e.EL,0,B5⟩)
 else
  if ¬(0≤c.number∧c.number≤1) then .error 2
  else if LW e.own=c.number then .error 41 else .ok ({ e with own:=(c.number==1) },⟨c.AY,c.kind,LW e.own,0,B5⟩)
def Jp (c:Ba):Prop:=(1≤c.kind∧c.kind≤12)∧kH c=true
instance (c:Ba):Decidable (Jp c):=inferInstanceAs (Decidable (_∧_))
def EM (e:B7) (c:Ba):B7×Ba×Int:=
 if Gp e=false then (FO,H6,19)
 else if ¬Jp c then (FO,H6,40)
 else match CE e c with
  | .error f=>(FO,H6,f)
  | .ok (e2,b)=>if Gp e2=true then (e2,b,0) else (FO,H6,18)
theorem P9 {e:B7} {c:Ba} (h:c.kind=1):CE e c=
  (
  if ¬(0≤c.at_∧c.at_≤(e.A9.length:Nat)) then .error 2
  else if (e.A9.any fun y=>c.number==y)=true then .error 41
  else .ok ({ e with A9:=e.A9.take c.at_.toNat++[c.number]++e.A9.drop c.at_.toNat },⟨c.AY,2,c.number,0,B5⟩)):=by
 unfold CE;rw [if_pos h]
theorem P_ {e:B7} {c:Ba} (h:c.kind=2):CE e c=
  (
  if NR e c<0 then .error 41 else .ok ({ e with A9:=e.A9.eraseIdx (NR e c).toNat },⟨c.AY,1,c.number,NR e c,B5⟩)):=by
 unfold CE;rw [if_neg BK];rw [if_pos h]
theorem QA {e:B7} {c:Ba} (h:c.kind=3):CE e c=
  (
  if e.most=c.number then .error 41 else .ok ({ e with most:=c.number },⟨c.AY,c.kind,e.most,0,B5⟩)):=by
 unfold CE;rw [if_neg BK];rw [if_neg BK];rw [if_pos h]
theorem QB {e:B7} {c:Ba} (h:c.kind=4):CE e c=
  (
  if e.least=c.number then .error 41 else .ok ({ e with least:=c.number },⟨c.AY,c.kind,e.least,0,B5⟩)):=by
 unfold CE;rw [if_neg BK];rw [if_neg BK];rw [if_neg BK];rw [if_pos h]
theorem QC {e:B7} {c:Ba} (h:c.kind=5):CE e c=
  (
  if ¬(0≤c.at_∧c.at_≤(e.ids.length:Nat)) then .error 2
  else if 0≤Bn c.C6.CU e.ids then .error 41
  else .ok ({ e with ids:=e.ids.take c.at_.toNat++[c.C6]++e.ids.drop c.at_.toNat },⟨c.AY,6,c.C6.CU,0,B5⟩)):=by
 unfold CE;rw [if_neg BK];rw [if_neg BK];rw [if_neg BK];rw [if_neg BK];rw [if_pos h]
theorem QD {e:B7} {c:Ba} (h:c.kind=6):CE e c=
  (
  match e.ids[(Bn c.number e.ids).toNat]? with
  |none=> .error 41
  |some x=>
   if Bn c.number e.ids<0 then .error 41
   else if ((e.ids.drop (Bn c.number e.ids+1).toNat).any fun x=>x.CU==c.number)=true then .error 5
   else .ok ({ e with ids:=e.ids.eraseIdx (Bn c.number e.ids).toNat },⟨c.AY,5,0,Bn c.number e.ids,x⟩)):=by
 unfold CE;rw [if_neg BK];rw [if_neg BK];rw [if_neg BK];rw [if_neg BK];rw [if_neg BK];rw [if_pos h]
theorem QE {e:B7} {c:Ba} (h:c.kind=7):CE e c=
  (
  if F7 e.anchors c.number=true then .error 41 else .ok ({ e with anchors:=Zh e.anchors c.number },⟨c.AY,8,c.number,0,B5⟩)):=by
 unfold CE;rw [if_neg BK];rw [if_neg BK];rw [if_neg BK];rw [if_neg BK];rw [if_neg BK];rw [if_neg BK];rw [if_pos h]
theorem QF {e:B7} {c:Ba} (h:c.kind=8):CE e c=
  (
  if F7 e.anchors c.number=true then .ok ({ e with anchors:=e.anchors.eraseIdx (E9 e.anchors c.number) },⟨c.AY,7,c.number,0,B5⟩) else .error 41):=by
 unfold CE;rw [if_neg BK];rw [if_neg BK];rw [if_neg BK];rw [if_neg BK];rw [if_neg BK];rw [if_neg BK];rw [if_neg BK];rw [if_pos h]
theorem QG {e:B7} {c:Ba} (h:c.kind=9):CE e c=
  (
  if F7 e.hashes c.number=true then .error 41 else .ok ({ e with hashes:=Zh e.hashes c.number },⟨c.AY,10,c.number,0,B5⟩)):=by
 unfold CE;rw [if_neg BK];rw [if_neg BK];rw [if_neg BK];rw [if_neg BK];rw [if_neg BK];rw [if_neg BK];rw [if_neg BK];rw [if_neg BK];rw [if_pos h]
theorem NS {e:B7} {c:Ba} (h:c.kind=10):CE e c=
  (
  if F7 e.hashes c.number=true then .ok ({ e with hashes:=e.hashes.eraseIdx (E9 e.hashes c.number) },⟨c.AY,9,c.number,0,B5⟩) else .error 41):=by
 unfold CE;rw [if_neg BK];rw [if_neg BK];rw [if_neg BK];rw [if_neg BK];rw [if_neg BK];rw [if_neg BK];rw [if_neg BK];rw [if_neg BK];rw [if_neg BK];rw [if_pos h]
theorem NT {e:B7} {c:Ba} (h:c.kind=11):CE e c=
  (
  if ¬(0≤c.number∧c.number≤1) then .error 2
  else if LW e.EL=c.number then .error 41 else .ok ({ e with EL:=(c.number==1) },⟨c.AY,c.kind,LW e.EL,0,B5⟩)):=by
 unfold CE;rw [if_neg BK];rw [if_neg BK];rw [if_neg BK];rw [if_neg BK];rw [if_neg BK];rw [if_neg BK];rw [if_neg BK];rw [if_neg BK];rw [if_neg BK];rw [if_neg BK];rw [if_pos h]
theorem NU {e:B7} {c:Ba} (h:c.kind=12):CE e c=
  (
  if ¬(0≤c.number∧c.number≤1) then .error 2
  else if LW e.own=c.number then .error 41 else .ok ({ e with own:=(c.number==1) },⟨c.AY,c.kind,LW e.own,0,B5⟩)):=by
 unfold CE;rw [if_neg BK];rw [if_neg BK];rw [if_neg BK];rw [if_neg BK];rw [if_neg BK];rw [if_neg BK];rw [if_neg BK];rw [if_neg BK];rw [if_neg BK];rw [if_neg BK];rw [if_neg BK]
theorem gq {e:B7} {c:Ba} {f:Int} (h:Gp e=true) (hc:Jp c) (hs:CE e c= .error f):EM e c=(FO,H6,f):=by
 unfold EM;rw [if_neg BK,if_neg (fun h=>h hc),hs]
theorem m9 {e:B7} {c:Ba} {e2:B7} {b:Ba} (h:Gp e=true) (hc:Jp c) (hs:CE e c= .ok (e2,b)) (h2:Gp e2=true):EM e c=(e2,b,0):=by
 unfold EM;rw [if_neg BK,if_neg (fun h=>h hc),hs];exact if_pos h2
theorem uB {e:B7} {c:Ba} {e2:B7} {b:Ba} (h:Gp e=true) (hc:Jp c) (hs:CE e c= .ok (e2,b)) (h2:Gp e2=false):EM e c=(FO,H6,18):=by
 unfold EM;rw [if_neg BK,if_neg (fun h=>h hc),hs];exact if_neg (by rw [h2];decide)
structure dV (e:B7):Prop where
 name:Qx e.name=true
 least:1≤e.least
 lm:e.least≤e.most
 most:e.most≤4
 A9:LB e.A9=true
 Yy:e.ids.length≤4
 ABA:e.anchors.length≤16
 anc:gV e.anchors=true
 hash:gV e.hashes=true
 ids:e.ids.all idB=true
 keys:e.anchors.all IM=true
 hsh:e.hashes.all Rd=true
theorem DP {e:B7}:Gp e=true↔dV e:=by
 unfold Gp;simp only [Bool.and_eq_true,decide_eq_true_eq]
 exact ⟨fun ⟨⟨⟨⟨⟨⟨⟨⟨a,b⟩,c⟩,d⟩,f⟩,⟨⟨⟨g,h⟩,i⟩,j⟩⟩,k⟩,l⟩,m⟩=>⟨a,b,c,d,f,g,h,i,j,k,l,m⟩,fun ⟨a,b,c,d,f,g,h,i,j,k,l,m⟩=>⟨⟨⟨⟨⟨⟨⟨⟨a,b⟩,c⟩,d⟩,f⟩,⟨⟨⟨g,h⟩,i⟩,j⟩⟩,k⟩,l⟩,m⟩⟩
theorem gr:B5.small:=⟨by show 0≤_;omega,fun c hc=>by cases hc⟩
abbrev Tz:List Pr:=[Gw .u8]
abbrev dW (m:Nat):Pr:=slice 1 (List.replicate m Tz)
abbrev Ex (B:Nat):Pr:=Cp.ex fun m:Nat=>fact (m≤B) (dW m)
abbrev ES:Pr:=Cp.ex fun b:Bool=>bool b
abbrev Bj (q:Pr):List Pr:=[Gw .i64,Ex 1000,ES,q]
abbrev KP (row:List Pr):Pr:=Cp.ex fun m:Nat=>fact (m≤20) (slice 4 (List.replicate m row))
abbrev MD (D:Nat):Pr:=Cp.ex fun d:Int=>fact (0≤d∧d≤(D:Nat)) (int d)
theorem KQ {r:List Pr} {m k:Nat} (h:k<m):(List.replicate m r)[((k:Nat):Int).toNat]? =some r:=by rw [Int.toNat_natCast,List.getElem?_replicate,if_pos h]
theorem dX {r:List Pr} {m:Nat}:List.replicate m r++[r]=List.replicate (m+1) r:=by rw [List.replicate_succ']
theorem NV {r:List Pr} {m k:Nat}:List.replicate m r++List.replicate k r=List.replicate (m+k) r:=by rw [List.replicate_append_replicate]
theorem Q_.refl:∀l:List Pr,Q_ l l
 |[]=>trivial
 |_::l=>⟨Pr.le_refl _,Q_.refl l⟩
theorem Wz {sz:Nat} {rows rows':List (List Pr)} (hl:rows.length=rows'.length) (h:∀(i:Nat) r r',rows[i]? =some r→rows'[i]? =some r'→r.length=r'.length∧∀(j:Nat) p p',r[j]? =some p→r'[j]? =some p'→Pr.le p p'):Pr.le (slice sz rows) (slice sz rows'):=by
 rintro M w v ⟨a,cap,h1,h2,h3,h4,h5⟩
 refine ⟨a,cap,by rw [←hl];exact h1,by rw [←hl];exact h2,h3,h4,fun i row hr=> ?_⟩
 have hi:i<rows.length:=by rw [hl];exact BM hr
 have hr0:=List.getElem?_eq_getElem hi
 obtain ⟨g1,g2⟩:=h i _ _ hr0 hr
 obtain ⟨k1,ad,k2,k3⟩:=h5 i _ hr0
 refine ⟨by rw [←g1];exact k1,ad,k2,fun j p' hp'=> ?_⟩
 have hj:j<rows[i].length:=by rw [g1];exact BM hp'
 have hp:=List.getElem?_eq_getElem hj
 obtain ⟨u,c1,c2,c3,c4⟩:=k3 j _ hp
 exact ⟨u,c1,c2,c3,g2 j _ _ hp hp' _ _ _ c4⟩
theorem gu {sz:Nat} {rows:List (List Pr)} {r:List Pr} (h:∀q∈rows,q.length=r.length∧∀(j:Nat) p p',q[j]? =some p→r[j]? =some p'→Pr.le p p'):Pr.le (slice sz rows) (slice sz (List.replicate rows.length r)):=
 Wz AU fun i q q' hq hq'=>by
  rw [List.getElem?_replicate,if_pos (BM hq)] at hq'
  cases hq'
  exact h q (List.mem_of_getElem? hq)
theorem Yz {β:Type} {l:List β} {f:β→Int}:Pr.le (slice 1 (l.map fun x=>[is (.int .u8 (f x))])) (dW l.length):=by
 have:=gu (sz:=1) (rows:=l.map fun x=>[is (.int .u8 (f x))]) (r:=Tz) (by
  intro q hq
  obtain ⟨x,_,rfl⟩:=List.mem_map.1 hq
  refine ⟨rfl,fun j p p' hp hp'=> ?_⟩
  cases j with
  |zero=>simp at hp hp';subst hp;subst hp';exact DI _ _
  |succ j=>simp at hp)
 rwa [List.length_map] at this
theorem GD {B m:Nat} {p:Pr} (h:m≤B) (hp:Pr.le p (dW m)):Pr.le p (Ex B):=Ax m (BB h hp)
theorem BF.Bj {P:Program} {f:FuncId} {row:List Pr} {res:Pr} (h:∀(t:Int) (b:Nat) (n:Bool) (m:Nat),b≤1000→m≤20→BF P f [agg [int t,dW b,bool n,slice 4 (List.replicate m row)]] res):BF P f [agg (Bj (KP row))] res:=by
 refine ⟨(h 0 0 false 0 AA AA).1,fun M w vs hb hv=> ?_⟩
 match vs,hv with
 |[u0],Yk=>
  obtain ⟨⟨cs,rfl,ho,hcs⟩,_⟩:=Yk
  match cs,hcs with
  |[c0,c1,c2,c3],hc=>
   obtain ⟨⟨t,h0⟩,⟨b,PL,h1⟩,⟨n,h2⟩,⟨m,hm1,h3⟩,_⟩:=hc
   exact (h t b n m PL hm1).2 M w _ hb ⟨⟨_,rfl,ho,h0,h1,h2,h3,trivial⟩,trivial⟩
theorem BF.m_ {P:Program} {f:FuncId} {res:Pr} (h:∀(t:Int) (b:Nat) (n:Bool),b≤1000→BF P f [agg [int t,dW b,bool n,slice 4 []]] res):BF P f [agg [Gw .i64,Ex 1000,ES,slice 4 []]] res:=by
 refine ⟨(h 0 0 false AA).1,fun M w vs hb hv=> ?_⟩
 match vs,hv with
 |[u0],Yk=>
  obtain ⟨⟨cs,rfl,ho,hcs⟩,_⟩:=Yk
  match cs,hcs with
  |[c0,c1,c2,c3],hc=>
   obtain ⟨⟨t,h0⟩,⟨b,PL,h1⟩,⟨n,h2⟩,h3,_⟩:=hc
   exact (h t b n PL).2 M w _ hb ⟨⟨_,rfl,ho,h0,h1,h2,h3,trivial⟩,trivial⟩
theorem yX {n:Int}  :BF prog 289 [int n] (bool (decide (1≤n)&&decide (n≤255)&&(n.tmod 32 !=31))):=by
 refine fo func289 rfl ⟨rfl,rfl⟩ fun M0 w0=> ?_
 refine ac ?_
 refine ag ?_ ?_<;>intro h1 q1
 refine ag ?_ ?_<;>intro h2 q2
 refine Jz h2 rfl (cy h2 rfl (VA rfl vq vq AA) ?_)
 refine a2 ?_
 · refine bool_eq ?_;simp_all
 refine a2 ?_
 · exact Po
 refine a2 ?_
 · exact Po
theorem OM {t:Int} {b:Nat} {n:Bool} {m:Nat} {q:Pr}  (hb:b≤1000) (hm:m≤20) (ih:m=0∨BF prog 258 [agg (Bj q)] (ES)):BF prog 258 [agg [int t,dW b,bool n,slice 4 (List.replicate m (Bj q))]] (ES):=by
 refine fo func258 rfl ⟨rfl,rfl⟩ fun M0 w0=> ?_
 have hlr:(List.replicate m (Bj q)).length=m:=List.length_replicate
 have hlb:(List.replicate b Tz).length=b:=List.length_replicate
 refine a2 ?_
 refine co rfl (Cz (yX) rfl rfl) ?_
 refine ag ?_ ?_<;>intro h1 q1
 refine ac ?_
 refine wk [38,1] rfl ?_
 refine a2 ?_
 · exact BN
 refine ac ?_
 refine cy h1 rfl (Uf rfl vq vq AA) (cy h1 rfl (VA rfl vq vq AA) (cy h1 rfl kiq (cy h1 rfl (ZJ rfl underlying4 vq vq) ?_)))
 refine ag ?_ ?_<;>intro h2 q2
 refine ac ?_
 refine wk [38,1] rfl ?_
 refine a2 ?_
 · exact BN
 refine ag ?_ ?_<;>intro h3 q3
 refine ac ?_
 refine cy h3 rfl (Ci rfl underlying241 vq) ?_
 refine ag ?_ ?_<;>intro h4 q4
 refine ac ?_
 refine wk [38,1] rfl ?_
 refine a2 ?_
 · exact BN
 refine ag ?_ ?_<;>intro h5 q5
 refine ac ?_
 refine cy h5 rfl (Ci rfl underlying283 vq) ?_
 refine ac ?_
 refine wk [38,1] rfl ?_
 refine Tr.cn rfl ?_ ?_<;>intro h6 q6
 refine a2 ?_
 · exact BN
 refine a2 ?_
 refine Tr.block (Tr.BE _ (kk [1] rfl) (fun k:Nat=>[(3,int ((k:Nat):Int))]) (fun k:Nat=>k≤((List.replicate m (Bj q)).length)) (fun k:Nat=>((List.replicate m (Bj q)).length)-k) 0 (Nat.zero_le _) kz ?_)
 rintro k BT
 refine ac ?_
 refine co rfl (Ci rfl underlying283 vq) ?_
 refine an ?_ ?_<;>intro h7 q7
 have Ai:k<((List.replicate m (Bj q)).length):=AH h7
 have hkm:k<m:=by simpa using Ai
 have ih2:=ih.resolve_left AA
 refine ac ?_
 refine ap ?_
 refine tp rfl (AD rfl underlying283 Cn vq vq AA (KQ hkm)) (tp rfl (AM rfl DV Cn vq rfl rfl) (tp rfl (Cz (ih2) rfl rfl) ?_))
 refine TO.ex 51 rfl (fun z51=> ?_)
 refine ap ?_
 · exact Ly
 have BP:k=((List.replicate m (Bj q)).length):=by have:=AJ h7;omega
 refine a3 ?_
 · exact BN
 refine ac ?_
 refine wk [38,1] rfl ?_
 refine a2 ?_
 refine Tr.block (Tr.BE _ (kk [1] rfl) (fun k:Nat=>[(3,int ((k:Nat):Int))]) (fun k:Nat=>k≤((List.replicate m (Bj q)).length)) (fun k:Nat=>((List.replicate m (Bj q)).length)-k) 0 (Nat.zero_le _) kz ?_)
 rintro k BT
 refine ac ?_
 refine co rfl (Ci rfl underlying283 vq) ?_
 refine an ?_ ?_<;>intro h9 q9
 have Ai:k<((List.replicate m (Bj q)).length):=AH h9
 have hkm:k<m:=by simpa using Ai
 have ih2:=ih.resolve_left AA
 refine ac ?_
 refine ap ?_
 refine tp rfl (AD rfl underlying283 Cn vq vq AA (KQ hkm)) (tp rfl (AM rfl DV Cn vq rfl rfl) (tp rfl (Cz (ih2) rfl rfl) ?_))
 refine TO.ex 51 rfl (fun z51=> ?_)
 refine ap ?_
 · exact Ly
 have BP:k=((List.replicate m (Bj q)).length):=by have:=AJ h9;omega
 refine a3 ?_
 · exact BN
 refine ag ?_ ?_<;>intro h11 Ty
 refine ac ?_
 refine cy h11 rfl (Ci rfl underlying283 vq) ?_
 refine ac ?_
 refine wk [38,1] rfl ?_
 refine Tr.cn rfl ?_ ?_<;>intro h12 XY
 refine a2 ?_
 · exact BN
 refine a2 ?_
 refine Tr.block (Tr.BE _ (kk [1] rfl) (fun k:Nat=>[(3,int ((k:Nat):Int))]) (fun k:Nat=>k≤((List.replicate m (Bj q)).length)) (fun k:Nat=>((List.replicate m (Bj q)).length)-k) 0 (Nat.zero_le _) kz ?_)
 rintro k BT
 refine ac ?_
 refine co rfl (Ci rfl underlying283 vq) ?_
 refine an ?_ ?_<;>intro J0 dY
 have Ai:k<((List.replicate m (Bj q)).length):=AH J0
 have hkm:k<m:=by simpa using Ai
 have ih2:=ih.resolve_left AA
 refine ac ?_
 refine ap ?_
 refine tp rfl (AD rfl underlying283 Cn vq vq AA (KQ hkm)) (tp rfl (AM rfl DV Cn vq rfl rfl) (tp rfl (Cz (ih2) rfl rfl) ?_))
 refine TO.ex 51 rfl (fun z51=> ?_)
 refine ap ?_
 · exact Ly
 have BP:k=((List.replicate m (Bj q)).length):=by have:=AJ J0;omega
 refine a3 ?_
 · exact BN
 refine ac ?_
 refine wk [38,1] rfl ?_
 refine a2 ?_
 refine Tr.block (Tr.BE _ (kk [1] rfl) (fun k:Nat=>[(3,int ((k:Nat):Int))]) (fun k:Nat=>k≤((List.replicate m (Bj q)).length)) (fun k:Nat=>((List.replicate m (Bj q)).length)-k) 0 (Nat.zero_le _) kz ?_)
 rintro k BT
 refine ac ?_
 refine co rfl (Ci rfl underlying283 vq) ?_
 refine an ?_ ?_<;>intro OB q15
 have Ai:k<((List.replicate m (Bj q)).length):=AH OB
 have hkm:k<m:=by simpa using Ai
 have ih2:=ih.resolve_left AA
 refine ac ?_
 refine ap ?_
 refine tp rfl (AD rfl underlying283 Cn vq vq AA (KQ hkm)) (tp rfl (AM rfl DV Cn vq rfl rfl) (tp rfl (Cz (ih2) rfl rfl) ?_))
 refine TO.ex 51 rfl (fun z51=> ?_)
 refine ap ?_
 · exact Ly
 have BP:k=((List.replicate m (Bj q)).length):=by have:=AJ OB;omega
 refine a3 ?_
 · exact BN
theorem Re {t:Int} {b:Nat} {n:Bool} {m:Nat} {q:Pr} {D:Nat}  (hb:b≤1000) (hm:m≤20) (hD:D≤1000) (ih:m=0∨BF prog 259 [agg (Bj q)] (MD D)):BF prog 259 [agg [int t,dW b,bool n,slice 4 (List.replicate m (Bj q))]] (MD (D+1)):=by
 refine BF.of func259 rfl rfl Az fun M0 w0=> ?_
 have hlr:(List.replicate m (Bj q)).length=m:=List.length_replicate
 have hlb:(List.replicate b Tz).length=b:=List.length_replicate
 refine Tr.seq (Tr.Al (co rfl (Bh rfl (Va rfl)) (cm rfl (Ch.nil (Fin.go (Tr.seq (Tr.Al (cm rfl (Ch.nil (Fin.go (Tr.seq (Tr.seq (Tr.Al ?_)))))))))))))
 refine cm rfl (Ch.nil (Fin.go (Tr.block (Tr.BE [(1,_)] ⟨ke rfl,trivial⟩ (fun k:Nat=>[(4,int ((k:Nat):Int)),(3,MD D)]) (fun k:Nat=>k≤((List.replicate m (Bj q)).length)) (fun k:Nat=>((List.replicate m (Bj q)).length)-k) 0 (Nat.zero_le _) ⟨ke rfl,⟨_,rfl,Ax 0 (BB AA (Lr))⟩,trivial⟩ ?_))))
 rintro k BT
 refine Tr.seq (Tr.seq (Tr.Al (cm rfl (co rfl (N_ rfl NF rfl rfl) (co rfl (F5 rfl VS rfl) (co rfl (Ci rfl underlying283 (vl rfl)) (co rfl (ki rfl rfl rfl rfl) (Ch.nil (Fin.go ?_)))))))))
 refine Tr.cn rfl ?_ ?_<;>intro h1 q1
 have Ai:k<((List.replicate m (Bj q)).length):=AH h1
 have hkm:k<m:=by simpa using Ai
 have ih2:=ih.resolve_left AA
 refine Tr.skip (Fin.go (Tr.seq (Tr.block (Tr.Ap (tm rfl ?_)))))
 refine TO.ex 12 rfl (fun z12=>TO.fact 12 rfl fun AIC=> ?_)
 refine tp rfl (N_ rfl NF rfl rfl) (tp rfl (F5 rfl VS rfl) (tm rfl (tp rfl (AD rfl underlying283 Cn (vl rfl) (vl rfl) AA (KQ hkm)) (tp rfl (AM rfl DV Cn (vl rfl) rfl rfl) (tp rfl (AV rfl (ih2) ⟨ke rfl,trivial⟩) ?_)))))
 refine TO.ex 18 rfl (fun z18=>TO.fact 18 rfl fun AGo=> ?_)
 refine tp rfl (L4 rfl (vl rfl) (vl rfl)) (tm rfl (TO.nil (Fin.block (Fin.go (Gk 1 3 4 rfl (Tr.Al (cm rfl (Mz rfl rfl rfl rfl AA (cm rfl (Ch.nil (Fin.AO (k+1) ⟨Ai,by omega⟩ ⟨⟨_,rfl,AG k⟩,⟨_,rfl,Ax _ (BB AA (Lr))⟩,ke rfl,trivial⟩)))))))))))
 have BP:k=((List.replicate m (Bj q)).length):=by have:=AJ h1;omega
 refine Tr.exit (Fin.Ac (Fin.Ac (Fin.A0 (Fin.go (Tr.seq (Tr.Ap (tm rfl ?_)))))))
 refine TO.ex 20 rfl (fun z20=>TO.fact 20 rfl fun AID=> ?_)
 refine tp rfl (EO rfl (vl rfl) (vl rfl) ?hin) ?_;case hin=>unfold Mn;omega
 refine tm rfl (TO.nil (Fin.go (Tr.ret (Fin.LR rfl (Bt.EB _ _) rfl ?_))))
 · exact Ax _ (BB AA (Lr))
def Rf (n:Nat):Nat:=if h:n=0 then 0 else 1+Rf (n/256)
termination_by n
decreasing_by omega
theorem T0:Rf 0=0:=by unfold Rf;simp
theorem XZ {n:Nat} (h:0<n):Rf n=1+Rf (n/256):=by conv=>lhs;unfold Rf;rw [dif_neg AA]
theorem Vm:∀(n:Nat),Rf n≤n:=by
 intro n
 induction n using Nat.strongRecOn with
 |_ n ih=>
  rcases Nat.eq_zero_or_pos n with h|h
  · subst h;rw [T0];omega
  · rw [XZ h];have:=ih (n/256) AA;omega
def gv (n:Nat):Nat:=if n<128 then 1 else 1+Rf n
theorem dZ (n:Nat):gv n≤n+1:=by unfold gv;have:=Vm n;split<;>omega
theorem rU (k:Int):Pr.le (slice 1 [[is (.int .u8 k)]]) (dW 1):=Yz (l:=[()]) (f:=fun _=>k)
theorem gw {n:Nat} (hn:n≤100000000):BF prog 290 [int ((n:Nat):Int)] (dW (gv n)):=by
 refine fo func290 rfl ⟨rfl,rfl⟩ fun M0 w0=> ?_
 refine ac ?_
 refine an ?_ ?_<;>intro h1 q1
 refine ac ?_
 refine co rfl (E3 rfl underlying3 underlying5 vq) (co rfl (AP (xs:=[.tmp 7]) (rows:=[Tz]) rfl rfl underlying241 Nv z5 rfl AB ⟨⟨Ao,VL.le vq (Pr.le_trans (DI _ _) (Ad _))⟩,trivial⟩ AB) ?_)
 refine a2 ?_
 · refine Pr.le_trans (B8 _ _) (Pr.le_of_eq ?_);unfold gv;rw [if_pos AA];rfl
 refine a2 ?_
 refine Tr.seq (Tr.block (Tr.CC 5 1 (Tr.DE [] trivial (fun (k:Nat) (acc:Nat) v=>[(0,int ((k:Nat):Int)),(3,Aa v (dW acc))]) (fun (k:Nat) (acc:Nat) v=>Hp M0 w0 Fo ([Au 5 1 v])) (fun (k:Nat) (acc:Nat)=>Rf k+acc=Rf n∧k≤n) (fun (k:Nat) (acc:Nat)=>k) (n) (0) (.slice none 0 0) (⟨by omega,by omega⟩) ⟨kq,⟨_,rfl,Bp rfl⟩,trivial⟩ (fun _ _ h=>h) ?_)))
 rintro k acc v ⟨hk1,hk2⟩
 refine an ?_ ?_<;>intro h2 q2
 have hk0:0<k:=by have:=DH.Dp h2;omega
 have hdg:=XZ hk0
 have hle:=Vm n
 refine ac ?_
 refine ap ?_
 refine tp rfl (VA rfl vq vq AA) (tp rfl (E3 rfl underlying3 underlying5 vq) (tp rfl (AP (xs:=[.tmp 13]) (rows:=[Tz]) rfl rfl underlying241 Nv z5 rfl AB ⟨⟨Ao,VL.le vq (Pr.le_trans (DI _ _) (Ad _))⟩,trivial⟩ AB) ?_))
 refine tm rfl (TO.pad ?_)
 refine TO.Dl 0 rfl rfl AB (CB rfl rfl rfl rfl underlying241 Nv dB z5 Gn Iy (Bv BR vq)) (fun v1=> ?_)
 refine ap ?_
 refine ac ?_
 refine co rfl (Uf rfl vq vq AA) ?_
 refine ac ?_
 refine Fin.drop 1 ?_
 exact Fin.Bk (k/256) (acc+1) v1 (⟨⟨by omega,by omega⟩,by omega⟩) ⟨⟨_,rfl,int_eq (by rw [Int.tdiv_eq_ediv_of_nonneg AA,G5 K4];omega)⟩,⟨_,rfl,BJ (by rw [show ([Tz]:List (List Pr))=List.replicate 1 Tz from rfl,NV,Nat.add_comm])⟩,trivial⟩ (fun _ _ h=>h)
 have hk0:k=0:=by have:=DH.Dp h2;omega
 subst hk0
 have hle:=Vm n
 rw [T0] at hk1
 refine ac ?_
 refine ap ?_
 refine tp rfl (Ci rfl underlying241 Iy) (tp rfl kiq (tp rfl (E3 rfl underlying3 underlying5 vq) (tp rfl (AP (xs:=[.tmp 22]) (rows:=[Tz]) rfl rfl underlying241 Nv z5 rfl AB ⟨⟨Ao,VL.le vq (Pr.le_trans (DI _ _) (Ad _))⟩,trivial⟩ AB) ?_)))
 refine tm rfl (TO.pad ?_)
 refine TO.Dl 0 rfl rfl AB (CB rfl rfl rfl rfl underlying241 Nv dB z5 Gn Iy (Bv BR vq)) (fun v2=> ?_)
 refine ap ?_
 refine ac ?_
 · refine Pr.le_trans (As _ _) (Pr.le_of_eq ?_);unfold gv;rw [if_neg AA,show ([Tz]:List (List Pr))=List.replicate 1 Tz from rfl,NV,show acc=Rf n by omega]
theorem Zi {t:Int} {b:Nat} {n:Bool} {m:Nat} {q:Pr} {B:Nat}  (hb:b≤1000) (hm:m≤20) (hB:B≤1000000) (ih:m=0∨BF prog 260 [agg (Bj q)] (Ex B)):BF prog 260 [agg [int t,dW b,bool n,slice 4 (List.replicate m (Bj q))]] (Ex (2*(1000+20*B)+2)):=by
 refine fo func260 rfl ⟨rfl,rfl⟩ fun M0 w0=> ?_
 have hlr:(List.replicate m (Bj q)).length=m:=List.length_replicate
 have hlb:(List.replicate b Tz).length=b:=List.length_replicate
 refine ac ?_
 refine ap ?_
 refine TO.pad ?_
 refine TO.Dl 0 rfl rfl AB (CB rfl rfl rfl rfl underlying241 Nv dB z5 Gn vq (Bv BR vq)) (fun v1=> ?_)
 refine ap ?_
 refine ac ?_
 refine Tr.block (Tr.DE _ (kk [1] rfl) (fun (k:Nat) (acc:Nat) v=>[(4,int ((k:Nat):Int)),(3,Aa v (dW acc))]) (fun (k:Nat) (acc:Nat) v=>Hp M0 w0 Fo ([Au 5 1 v])) (fun (k:Nat) (acc:Nat)=>k≤m∧acc≤b+k*B) (fun (k:Nat) (acc:Nat)=>m-k) (0) (b) v1 (⟨by omega,by omega⟩) ⟨kq,⟨_,rfl,BJ AU⟩,trivial⟩ (fun _ _ h=>h) ?_)
 rintro k acc v ⟨hk1,hk2⟩
 have hkB:k*B≤20*B:=Nat.mul_le_mul_right B AA
 refine ac ?_
 refine co rfl (Ci rfl underlying283 vq) ?_
 refine an ?_ ?_<;>intro h1 q1
 have hkm:k<m:=by have:=DH.Dp h1;rw [hlr] at this;omega
 have ih2:=ih.resolve_left AA
 refine ac ?_
 refine ap ?_
 refine tp rfl (AD rfl underlying283 Cn vq vq AA (KQ hkm)) (tp rfl (AM rfl DV Cn vq rfl rfl) (tp rfl (Cz (ih2) rfl rfl) ?_))
 refine TO.ex 22 rfl (fun z22=>TO.fact 22 rfl fun AIE=> ?_)
 refine TO.Dl 0 rfl rfl AB (CB rfl rfl rfl rfl underlying241 Nv dB z5 Iy vq (BC BR KJ)) (fun v2=> ?_)
 refine ap ?_
 refine wk [4,3,1] rfl ?_
 refine ac ?_
 exact Fin.Bk (k+1) (acc+z22) v2 (⟨⟨by omega,by rw [Nat.succ_mul];omega⟩,by omega⟩) ⟨⟨_,rfl,AG k⟩,⟨_,rfl,BJ (by rw [NV])⟩,kz⟩ (fun _ _ h=>h)
 have fm:k=m:=by have:=DH.Dp h1;rw [hlr] at this;omega
 have Sz:=dZ acc
 refine ac ?_
 refine Tr.seq (Tr.pad (Tr.rx ?_))
 refine ay ?_
 refine xo rfl (fun _=>E3 rfl underlying3 underlying5 vq) (xo rfl (fun _=>AP (xs:=[.tmp 26]) (rows:=[Tz]) rfl rfl underlying241 Nv z5 rfl AB ⟨⟨Ao,VL.le vq (Pr.le_trans (DI _ _) (Ad _))⟩,trivial⟩ AB) ?_)
 refine xm rfl (xo rfl (fun _=>Ci rfl underlying241 Iy) ?_)
 refine xo rfl (fun _=>AV rfl (gw (n:=acc) AA) ⟨⟨_,rfl,int_eq AU⟩,trivial⟩) ?_
 refine Cx.ef 0 rfl rfl AB (CB rfl rfl rfl rfl underlying241 Nv dB z5 Gn vq (Bv BR vq)) ?_
 refine xm rfl ?_
 refine Cx.ef 0 rfl rfl AB (CB rfl rfl rfl rfl underlying241 Nv dB z5 vq Iy gG) ?_
 refine Cx.ef 0 rfl rfl AB (VD rfl rfl AB rfl vq) ?_
 refine Cx.nil ⟨by kernel_rfl,?_⟩
 refine BI.open_ 0 2 rfl rfl (fun v3=> ?_)
 refine BI.done XU (Fin.go (wk [2] rfl ?_))
 refine ac ?_
 · exact GD (m:=1+gv acc+acc) (by have:=dZ acc;omega) (Pr.le_trans (As _ _) (Pr.le_of_eq (by rw [show ([Tz]:List (List Pr))=List.replicate 1 Tz from rfl,NV,NV])))
theorem gy {q:Pr} {D B:Nat} (hf:BF prog 258 [agg (Bj q)] ES) (hd:BF prog 259 [agg (Bj q)] (MD D)) (hp:BF prog 260 [agg (Bj q)] (Ex B)):BF prog 225 [agg (Bj q)] (Dy [Ex B,Gw .i64]):=by
 refine fo func225 rfl ⟨rfl,rfl⟩ fun M0 w0=> ?_
 refine ac ?_
 refine ap ?_
 refine tp rfl (Cz (hf) rfl rfl) ?_
 refine TO.ex 6 rfl (fun z6=> ?_)
 refine ap ?_
 refine Tr.cn rfl ?_ ?_<;>intro h1 q1
 refine ac ?_
 refine Tr.ret (Fin.AE (Fin.D3 rfl (Bt.EB _ _) rfl ?_ rfl ?_))
 · exact Pg
 · exact DI _ _
 refine ac ?_
 refine ap ?_
 refine tp rfl (Cz (hd) rfl rfl) ?_
 refine TO.ex 9 rfl (fun z9=>TO.fact 9 rfl fun hz9=> ?_)
 refine ap ?_
 refine Tr.cn rfl ?_ ?_<;>intro h2 q2
 refine ac ?_
 refine Tr.ret (Fin.AE (Fin.D3 rfl (Bt.EB _ _) rfl ?_ rfl ?_))
 · exact Pg
 · exact DI _ _
 refine a2 ?_
 refine co rfl (Cz (hp) rfl rfl) ?_
 refine ac ?_
 refine ap ?_
 refine TO.ex 13 rfl (fun z13=>TO.fact 13 rfl fun AIF=> ?_)
 refine tp rfl (Ci rfl underlying241 vq) ?_
 refine ap ?_
 refine wk [15,4] rfl ?_
 refine Tr.cn rfl ?_ ?_<;>intro h3 q3
 refine ac ?_
 refine Tr.ret (Fin.AE (Fin.D3 rfl (Bt.EB _ _) rfl ?_ rfl ?_))
 · exact Pg
 · exact DI _ _
 refine a2 ?_
 refine Tr.ret (Fin.D3 rfl (Bt.EB _ _) rfl ?_ rfl ?_)
 · exact Lr
 · exact DI _ _
theorem uC:IntKind.u8.wrap 0=0:=rfl
def lvI (x:Int):Nat:=if x≤0 then 0 else if x<256 then 1 else if x<65536 then 2 else if x<16777216 then 3 else if x<4294967296 then 4 else if x<1099511627776 then 5 else 6+x.toNat
theorem nA {x:Int} (h:0<x):lvI (x/256)<lvI x:=by
 unfold lvI
 repeat' split
 all_goals omega
def KR (x h:Int):Nat:=if x=0 then (if 128≤h then 1 else 0) else lvI x+1
theorem uD {n h:Int} (h0:0≤n) (h1:n≤1099511627776):KR (n/256) h≤400:=by
 unfold KR lvI
 repeat' split
 all_goals omega
theorem HR {x h:Int} {t:Nat} (h0:0≤x) (hc:x≠0∨128≤h) (hi:t+KR x h≤400):(0≤x/256∧t+1+KR (x/256) (IntKind.u8.wrap x)≤400)∧KR (x/256) (IntKind.u8.wrap x)<KR x h:=by
 have key:KR (x/256) (IntKind.u8.wrap x)<KR x h:=by
  unfold KR
  by_cases hx:x=0
  ·
   subst hx
   rw [uC,if_pos AB,if_neg AB,if_pos rfl,if_pos AA];decide
  ·
   have:=nA (x:=x) AA
   rw [if_neg hx]
   by_cases hy:x/256=0
   ·
    rw [if_pos hy];have:(if 128≤IntKind.u8.wrap x then 1 else 0)≤1:=by split<;>omega
    omega
   · rw [if_neg hy];omega
 exact ⟨⟨by omega,by omega⟩,key⟩
theorem H7 {P:Program} {I:Ck} {E:Env} {o:Oper} {t u:TypeId} {x y:Operand} {m:Int} (ho:o.op= .binOp .shr t x y u) (hx:VL E x (int m)) (hy:VL E y (is (.int .u64 8))) (h0:0≤m):Ae P I o E (int (m/256)):=
 Ae.same fun M w a he _=>by
  have h1:a.eval x= .int .i64 m:=hx.ev he Ar
  have h2:a.eval y= .int .u64 8:=hy.ev he Ar
  refine ⟨.int .i64 (m.fdiv 256),?_,congrArg (Value.int .i64) (Int.fdiv_eq_ediv_of_nonneg m AA)⟩
  simp only [execOp,ho,h1,h2]
  simp [eqGuard,binOp,Op.shift,IntKind.bits]
abbrev q0:Pr:=slice 4 []
theorem ME {n:Int} (hn:0≤n∧n≤1099511627776):BF prog 263 [int n] (agg (Bj q0)):=by
 refine fo func263 rfl ⟨rfl,rfl⟩ fun M0 w0=>(Tr.seq (Tr.Ap ?_))
 refine Tl rfl rfl rfl rfl OI Li (fun b1=> ?_)
 refine ap ?_
 refine ac ?_
 refine co rfl (E3 rfl underlying3 underlying5 vq) ?_
 refine a2 ?_
 refine co rfl (H7 rfl vq vq AA) ?_
 refine ac ?_
 refine Tr.block ?_
 refine Tr.NA _ (kk [2] rfl) (fun (x:Int) (h:Int) (t:List Int)=>[(4,int x),(3,slice 1 ((h::t).map fun n=>[is (.int .u8 n)]))]) (fun (x:Int) (h:Int) (t:List Int)=>Hp M0 w0 Fo ([AF true b1 285 (([.int .i64 0,.slice none 0 0,.bool false,.slice none 0 0]:List Value).map is)])) (fun (x:Int) (h:Int) (t:List Int)=>0≤x∧t.length+KR x h≤400) (fun (x:Int) (h:Int) (t:List Int)=>KR x h) (n/256) (IntKind.u8.wrap n) ([])  (⟨by omega,by simp only [List.length_nil];have:=uD (h:=IntKind.u8.wrap n) hn.1 hn.2;omega⟩) ⟨kq,⟨_,rfl,Pr.le_trans (B8 _ _) (Pr.le_of_eq rfl)⟩,trivial⟩ (fun _ _ h=>h) ?_
 rintro x h t  ⟨hx0,hmu⟩
 refine ag ?_ ?_<;>intro h1 q1
 refine ag ?_ ?_<;>intro h2 q2
 refine ac ?_
 refine wk [35,4,3,2] rfl ?_
 refine ac ?_
 refine ap ?_
 refine tp rfl (E3 rfl underlying3 underlying5 vq) ?_
 refine ap ?_
 refine TO.pad ?_
 refine TO.Dl 0 rfl rfl AB (CB rfl rfl rfl rfl underlying241 Nv dB z5 Gn vq (Bv BR vq)) (fun v1=> ?_)
 refine ap ?_
 refine ac ?_
 refine co rfl (H7 rfl vq vq AA) ?_
 refine ac ?_
 refine Fin.drop 0 (Fin.FK (x/256) (IntKind.u8.wrap x) (h::t)  ((HR hx0 AA hmu)) ⟨kq,⟨_,rfl,Pr.le_trans (As _ _) (Pr.le_of_eq rfl)⟩,kz⟩ (fun _ _ h=>h))
 refine ag ?_ ?_<;>intro h3 q3
 refine Jz h3 rfl ?_
 refine cy h3 rfl (AD rfl underlying241 Nv vq vq AA (AZ (k:=0) rfl)) ?_
 refine ag ?_ ?_<;>intro h4 q4
 refine ac ?_
 refine wk [35,4,3,2] rfl ?_
 refine ac ?_
 refine ap ?_
 refine tp rfl (E3 rfl underlying3 underlying5 vq) ?_
 refine ap ?_
 refine TO.pad ?_
 refine TO.Dl 0 rfl rfl AB (CB rfl rfl rfl rfl underlying241 Nv dB z5 Gn vq (Bv BR vq)) (fun v2=> ?_)
 refine ap ?_
 refine ac ?_
 refine co rfl (H7 rfl vq vq AA) ?_
 refine ac ?_
 refine Fin.drop 0 (Fin.FK (x/256) (IntKind.u8.wrap x) (h::t)  ((HR hx0 AA hmu)) ⟨kq,⟨_,rfl,Pr.le_trans (As _ _) (Pr.le_of_eq rfl)⟩,kz⟩ (fun _ _ h=>h))
 refine ag ?_ ?_<;>intro h5 q5
 refine Jz h5 rfl ?_
 refine cy h5 rfl (AD rfl underlying241 Nv vq vq AA (AZ (k:=0) rfl)) ?_
 refine ac ?_
 refine wk [35,4,3,2] rfl ?_
 refine Tr.cn rfl ?_ ?_<;>intro h6 q6
 have Sw:=h6
 refine ac ?_
 refine ap ?_
 refine tp rfl (E3 rfl underlying3 underlying5 vq) ?_
 refine ap ?_
 refine TO.pad ?_
 refine TO.Dl 0 rfl rfl AB (CB rfl rfl rfl rfl underlying241 Nv dB z5 Gn vq (Bv BR vq)) (fun v3=> ?_)
 refine ap ?_
 refine ac ?_
 refine co rfl (H7 rfl vq vq AA) ?_
 refine ac ?_
 refine Fin.drop 0 (Fin.FK (x/256) (IntKind.u8.wrap x) (h::t)  ((HR hx0 AA hmu)) ⟨kq,⟨_,rfl,Pr.le_trans (As _ _) (Pr.le_of_eq rfl)⟩,kz⟩ (fun _ _ h=>h))
 have Sw:=h6
 refine ac ?_
 refine ap ?_
 refine Tr.ret (Fin.Cb rfl (AL.cell 0 rfl rfl DV Cn rfl Lr) ?_)
 · exact J5
 refine ac ?_
 refine wk [35,4,3,2] rfl ?_
 refine ac ?_
 refine ap ?_
 refine Tr.ret (Fin.Cb rfl (AL.cell 0 rfl rfl DV Cn rfl Lr) ?_)
 · exact J5
 refine ag ?_ ?_<;>intro h7 q7
 refine Jz h7 rfl ?_
 refine cy h7 rfl (AD rfl underlying241 Nv vq vq AA (AZ (k:=0) rfl)) ?_
 refine ac ?_
 refine wk [35,4,3,2] rfl ?_
 refine Tr.cn rfl ?_ ?_<;>intro h8 q8
 have Sw:=h8
 refine ac ?_
 refine ap ?_
 refine tp rfl (E3 rfl underlying3 underlying5 vq) ?_
 refine ap ?_
 refine TO.pad ?_
 refine TO.Dl 0 rfl rfl AB (CB rfl rfl rfl rfl underlying241 Nv dB z5 Gn vq (Bv BR vq)) (fun v4=> ?_)
 refine ap ?_
 refine ac ?_
 refine co rfl (H7 rfl vq vq AA) ?_
 refine ac ?_
 refine Fin.drop 0 (Fin.FK (x/256) (IntKind.u8.wrap x) (h::t)  ((HR hx0 AA hmu)) ⟨kq,⟨_,rfl,Pr.le_trans (As _ _) (Pr.le_of_eq rfl)⟩,kz⟩ (fun _ _ h=>h))
 have Sw:=h8
 refine ac ?_
 refine ap ?_
 refine Tr.ret (Fin.Cb rfl (AL.cell 0 rfl rfl DV Cn rfl Lr) ?_)
 · exact J5
 refine ac ?_
 refine wk [35,4,3,2] rfl ?_
 refine ac ?_
 refine ap ?_
 refine Tr.ret (Fin.Cb rfl (AL.cell 0 rfl rfl DV Cn rfl Lr) ?_)
 · exact J5
 refine ag ?_ ?_<;>intro h9 q9
 refine Jz h9 rfl ?_
 refine cy h9 rfl (AD rfl underlying241 Nv vq vq AA (AZ (k:=0) rfl)) ?_
 refine ag ?_ ?_<;>intro h10 Sx
 refine ac ?_
 refine wk [35,4,3,2] rfl ?_
 refine ac ?_
 refine ap ?_
 refine tp rfl (E3 rfl underlying3 underlying5 vq) ?_
 refine ap ?_
 refine TO.pad ?_
 refine TO.Dl 0 rfl rfl AB (CB rfl rfl rfl rfl underlying241 Nv dB z5 Gn vq (Bv BR vq)) (fun v5=> ?_)
 refine ap ?_
 refine ac ?_
 refine co rfl (H7 rfl vq vq AA) ?_
 refine ac ?_
 refine Fin.drop 0 (Fin.FK (x/256) (IntKind.u8.wrap x) (h::t)  ((HR hx0 AA hmu)) ⟨kq,⟨_,rfl,Pr.le_trans (As _ _) (Pr.le_of_eq rfl)⟩,kz⟩ (fun _ _ h=>h))
 refine ag ?_ ?_<;>intro h11 Ty
 refine Jz h11 rfl ?_
 refine cy h11 rfl (AD rfl underlying241 Nv vq vq AA (AZ (k:=0) rfl)) ?_
 refine ac ?_
 refine wk [35,4,3,2] rfl ?_
 refine Tr.cn rfl ?_ ?_<;>intro h12 XY
 have Sw:=h12
 refine ac ?_
 refine ap ?_
 refine tp rfl (E3 rfl underlying3 underlying5 vq) ?_
 refine ap ?_
 refine TO.pad ?_
 refine TO.Dl 0 rfl rfl AB (CB rfl rfl rfl rfl underlying241 Nv dB z5 Gn vq (Bv BR vq)) (fun v6=> ?_)
 refine ap ?_
 refine ac ?_
 refine co rfl (H7 rfl vq vq AA) ?_
 refine ac ?_
 refine Fin.drop 0 (Fin.FK (x/256) (IntKind.u8.wrap x) (h::t)  ((HR hx0 AA hmu)) ⟨kq,⟨_,rfl,Pr.le_trans (As _ _) (Pr.le_of_eq rfl)⟩,kz⟩ (fun _ _ h=>h))
 have Sw:=h12
 refine ac ?_
 refine ap ?_
 refine Tr.ret (Fin.Cb rfl (AL.cell 0 rfl rfl DV Cn rfl Lr) ?_)
 · exact J5
 refine ac ?_
 refine wk [35,4,3,2] rfl ?_
 refine ac ?_
 refine ap ?_
 refine Tr.ret (Fin.Cb rfl (AL.cell 0 rfl rfl DV Cn rfl Lr) ?_)
 · exact J5
 refine ag ?_ ?_<;>intro J0 dY
 refine Jz J0 rfl ?_
 refine cy J0 rfl (AD rfl underlying241 Nv vq vq AA (AZ (k:=0) rfl)) ?_
 refine ac ?_
 refine wk [35,4,3,2] rfl ?_
 refine Tr.cn rfl ?_ ?_<;>intro J1 nB
 have Sw:=J1
 refine ac ?_
 refine ap ?_
 refine tp rfl (E3 rfl underlying3 underlying5 vq) ?_
 refine ap ?_
 refine TO.pad ?_
 refine TO.Dl 0 rfl rfl AB (CB rfl rfl rfl rfl underlying241 Nv dB z5 Gn vq (Bv BR vq)) (fun v7=> ?_)
 refine ap ?_
 refine ac ?_
 refine co rfl (H7 rfl vq vq AA) ?_
 refine ac ?_
 refine Fin.drop 0 (Fin.FK (x/256) (IntKind.u8.wrap x) (h::t)  ((HR hx0 AA hmu)) ⟨kq,⟨_,rfl,Pr.le_trans (As _ _) (Pr.le_of_eq rfl)⟩,kz⟩ (fun _ _ h=>h))
 have Sw:=J1
 refine ac ?_
 refine ap ?_
 refine Tr.ret (Fin.Cb rfl (AL.cell 0 rfl rfl DV Cn rfl Lr) ?_)
 · exact J5
 refine ac ?_
 refine wk [35,4,3,2] rfl ?_
 refine ac ?_
 refine ap ?_
 refine Tr.ret (Fin.Cb rfl (AL.cell 0 rfl rfl DV Cn rfl Lr) ?_)
 · exact J5
theorem Vn {s:List UInt8} (hs:s.length≤1000):BF prog 261 [str s] (agg (Bj q0)):=by
 refine fo func261 rfl ⟨rfl,rfl⟩ fun M0 w0=>(Tr.seq (Tr.Ap ?_))
 refine Tl rfl rfl rfl rfl OI Li (fun b1=> ?_)
 refine ap ?_
 refine ap ?_
 refine tp rfl (l6 rfl underlying9 underlying241 underlying5 vq GF) ?_
 refine ap ?_
 refine Tr.ret (Fin.Cb rfl (AL.cell 0 rfl rfl DV Cn rfl Lr) ?_)
 · exact BU ⟨DI _ _,GD (m:=s.length) AA (Yz (f:=fun c:UInt8=>((c.toNat:Nat):Int))),Ax _ Lr,AQ 4,trivial⟩
theorem uE {b:Bool}  :BF prog 265 [bool b] (agg (Bj q0)):=by
 refine fo func265 rfl ⟨rfl,rfl⟩ fun M0 w0=>(Tr.seq (Tr.Ap ?_))
 refine Tl rfl rfl rfl rfl OI Li (fun b1=> ?_)
 refine ap ?_
 refine an ?_ ?_<;>intro h1 q1
 refine ap ?_
 refine tp rfl (An (rows:=[(0,[_]),(1,[_])]) rfl l5 Li ⟨⟨rfl,Lj⟩,⟨⟨rfl,⟨_,rfl,Pr.le_trans (B8 _ _) (Ad _)⟩⟩,trivial⟩⟩ rfl) ?_
 refine ap ?_
 refine Tr.ret (Fin.AE (Fin.Cb rfl (AL.cell 0 rfl rfl DV Cn rfl Lr) ?_))
 · exact bT
 refine ac ?_
 refine ap ?_
 refine tp rfl (An (rows:=[(0,[_]),(1,[_])]) rfl l5 Li ⟨⟨rfl,Lj⟩,⟨⟨rfl,⟨_,rfl,Pr.le_trans (B8 _ _) (Ad _)⟩⟩,trivial⟩⟩ rfl) ?_
 refine ap ?_
 refine Tr.ret (Fin.Cb rfl (AL.cell 0 rfl rfl DV Cn rfl Lr) ?_)
 · exact bT
theorem ON {m:Nat} {q:Pr} [One q]  (hm:m≤20) (ih:m=0∨BF prog 291 [q] q):BF prog 291 [slice 4 (List.replicate m (Bj q))] (slice 4 (List.replicate m (Bj q))):=by
 refine BF.of func291 rfl rfl Az fun M0 w0=> ?_
 have hlr:(List.replicate m (Bj q)).length=m:=List.length_replicate
 refine Tr.seq (Tr.Al (cm rfl (Ch.nil (Fin.go (Tr.seq (Tr.Al (cm rfl (Ch.nil (Fin.go (Tr.seq (Tr.seq (Tr.Al (cm rfl ?_)))))))))))))
 refine Ch.nil (Fin.go (Tr.block (Tr.CC 285 4 (Tr.Es [(0,_)] ⟨ke rfl,trivial⟩ (fun k v=>[(4,int ((k:Nat):Int)),(3,Aa v (slice 4 (List.replicate k (Bj q))))]) (fun k v=>Hp M0 w0 Fo ([Au 285 4 v])) (fun k:Nat=>k≤((List.replicate m (Bj q)).length)) (fun k:Nat=>((List.replicate m (Bj q)).length)-k) 0 (.slice none 0 0) (Nat.zero_le _) ⟨ke rfl,⟨_,rfl,Bp rfl⟩,trivial⟩ (fun _ _ h=>h) ?_))))
 rintro k v BT
 refine Tr.seq (Tr.seq (Tr.Al (cm rfl (cm rfl (co rfl (Ci rfl underlying283 (vl rfl)) (co rfl (ki rfl rfl rfl rfl) (Ch.nil (Fin.go ?_))))))))
 refine Tr.cn rfl ?_ ?_<;>intro h1 q1
 have Ai:k<((List.replicate m (Bj q)).length):=AH h1
 have hkm:k<m:=by simpa using Ai
 have ih2:=ih.resolve_left AA
 refine Tr.skip (Fin.go (Tr.seq (Tr.block (Tr.seq (Tr.Ap (tm rfl (tm rfl (tp rfl (AD rfl underlying283 Cn (vl rfl) (vl rfl) AA (KQ hkm)) (tp rfl (AM rfl DV Cn (vl rfl) rfl rfl) ?_)))))))))
 refine Tl rfl rfl rfl rfl OI Li (fun b1=> ?_)
 refine TO.AK 0 rfl rfl rfl (vl rfl) (Va rfl) rfl Cn rfl rfl (TO.nil (Fin.go (Tr.seq (Tr.Ap (tp rfl (AP (xs:=[]) (rows:=[]) rfl rfl underlying241 Nv z5 rfl AB trivial AB) (tp rfl (AW rfl VT (vl rfl)) (TO.rd 0 rfl rfl rfl AB (A_ rfl lu (vl rfl) rfl) ?_)))))))
 refine TO.ex 18 rfl (fun z18=>TO.fact 18 rfl fun AGo=> ?_)
 refine TO.pad ?_
 refine TO.Dl 0 rfl rfl AB (CB rfl rfl rfl rfl underlying241 Nv dB z5 (Kf rfl) (vl rfl) (Bv BR (vl rfl))) (fun v1=> ?_)
 refine tp rfl (AW rfl VT (vl rfl)) (TO.DG 1 rfl rfl (Aw rfl rfl (vl rfl) (Vo rfl) AB2 rfl Az rfl) (TO.nil (Fin.go (Tj 0 3 4 5 rfl (Tr.seq (Tr.Ap (tp rfl (AW rfl NF (vl rfl)) (TO.rd 1 rfl rfl rfl AB (A_ rfl VS (vl rfl) rfl) (tp rfl (AV rfl (ih2) ⟨ke rfl,trivial⟩) (tp rfl (AW rfl NF (vl rfl)) (TO.DG 1 rfl rfl (Aw rfl rfl (vl rfl) (Vo rfl) AB4 rfl Az rfl) (TO.nil (Fin.go (Tr.Ap ?_))))))))))))))
 refine tm rfl (TO.rd 1 rfl rfl rfl AB (B4 rfl DV Cn (vl rfl) rfl rfl) (tp rfl (AP (xs:=[.tmp 26]) (rows:=[Bj q]) rfl rfl underlying283 Cn OI rfl AB ⟨⟨Ao,VL.le (vl rfl) (Pr.le_trans (BU (qs:=Bj q) ⟨Lr,GD (m:=z18) AA (Pr.le_trans (As _ _) (Pr.le_of_eq rfl)),Lr,Lr,trivial⟩) (Af _))⟩,trivial⟩ AB) ?_))
 refine TO.Dl 2 rfl rfl AB (CB rfl rfl rfl rfl underlying283 Cn wU OI (Kb rfl) (Kf rfl) (BC BR (Ka rfl))) (fun v2=> ?_)
 refine tm rfl (TO.nil (Fin.block (Fin.go (Tr.drop 1 (Tr.Al (cm rfl (Mz rfl rfl rfl rfl AA (cm rfl (Ch.nil (Fin.drop 0 (Fin.DU (k+1) v2 (⟨Ai,by omega⟩) ⟨⟨_,rfl,AG k⟩,⟨_,rfl,BJ (by rw [dX])⟩,ke rfl,trivial⟩ (fun _ _ h=>h))))))))))))
 have BP:k=((List.replicate m (Bj q)).length):=by have:=AJ h1;omega
 refine Tr.exit (Fin.Ac (Fin.Ac (Fin.A0 (Fin.go (Tr.seq (Tr.Al (cm rfl (cm rfl (Ch.nil (Fin.go (Tr.ret (Fin.LR rfl (Bt.EB _ _) rfl ?_))))))))))))
 · exact Pr.le_trans (As _ _) (Pr.le_of_eq (by rw [BP,hlr]))
theorem Vp {m:Nat} {q:Pr}  (hm:m≤20) (hc:BF prog 291 [slice 4 (List.replicate m (Bj q))] (slice 4 (List.replicate m (Bj q)))):BF prog 262 [slice 4 (List.replicate m (Bj q))] (agg (Bj (KP (Bj q)))):=by
 refine fo func262 rfl ⟨rfl,rfl⟩ fun M0 w0=>(Tr.seq (Tr.Ap ?_))
 refine Tl rfl rfl rfl rfl OI Li (fun b1=> ?_)
 refine ap ?_
 refine ap ?_
 refine tp rfl (Cz (hc) rfl rfl) ?_
 refine ap ?_
 refine Tr.ret (Fin.Cb rfl (AL.cell 0 rfl rfl DV Cn rfl Lr) ?_)
 · exact BU ⟨DI _ _,GD (m:=0) AA (AQ 1),Ax _ Lr,Ax m (BB hm Lr),trivial⟩
structure Hf.vf (c:Hf):Prop where
 s0:0≤c.IE
 s1:c.IE≤1099511627776
 iss:named c.KK=true
 sub:named c.Hz=true
 nm:HQ c.names=true
 key:LZ c.PT c.Jl 2=true
 k0:0≤c.CU
 k1:c.CU≤2147483648
 hash:LZ c.Vg c.NN 1=true
 sk0:0≤c.gS
 sk1:c.gS≤2147483648
 su0:0≤c.gT
 su1:c.gT<4294967296
 f0:0≤c.from_
 ft:c.from_≤c.OK
 t1:c.OK≤40000
 p0:0≤c.path
 p1:c.path≤8
 ap:c.auth=true∨c.path=0
theorem Jf {c:Hf} (hv:EI c=true):c.vf:=by
 simp only [EI,IM,yU,Bool.and_eq_true,Bool.or_eq_true,decide_eq_true_eq,beq_iff_eq] at hv
 obtain ⟨⟨⟨⟨⟨⟨⟨h1,h2⟩,h3⟩,h4⟩,h5⟩,⟨⟨⟨⟨h6,⟨h7,h8⟩⟩,h9⟩,⟨h10,h11⟩⟩,⟨h12,J0⟩⟩⟩,⟨⟨J1,OB⟩,h16⟩⟩,⟨⟨Jg,NB⟩,Wg⟩⟩:=hv
 exact ⟨h1,h2,h3,h4,h5,h6,h7,h8,h9,h10,h11,h12,J0,J1,OB,h16,Jg,NB,Wg⟩
theorem dc {c:Hf} (h:c.vf):EI c=true:=by
 simp only [EI,IM,yU,Bool.and_eq_true,Bool.or_eq_true,decide_eq_true_eq,beq_iff_eq]
 exact ⟨⟨⟨⟨⟨⟨⟨h.s0,h.s1⟩,h.iss⟩,h.sub⟩,h.nm⟩,⟨⟨⟨⟨h.key,⟨h.k0,h.k1⟩⟩,h.hash⟩,⟨h.sk0,h.sk1⟩⟩,⟨h.su0,h.su1⟩⟩⟩,⟨⟨h.f0,h.ft⟩,h.t1⟩⟩,⟨⟨h.p0,h.p1⟩,h.ap⟩⟩
theorem Zj {a b k:Int} (h:LZ a b k=true):decide (Du a b>0)=true∧(Ev a).kind=k:=by
 unfold LZ at h;simpa using h
theorem Vq {l:List (List UInt8)} {k:Nat} {s:List UInt8} (h:nameAt l k=true) (hs:l[k]? =some s):named s=true:=by
 unfold nameAt at h;rw [hs] at h;simp at h;exact h.1
theorem dh {l:List (List UInt8)} {k:Nat} {s y:List UInt8} (h:nameAt l k=true) (hs:l[k]? =some s) (hy:l[k-1]? =some y) (hk:0<k):decide (Lib.compareBytes y s= -1)=true:=by
 unfold nameAt at h;rw [hs,hy] at h;simp at h
 rcases h.2 with h2|h2
 · omega
 · exact Mq
theorem T2 {c:Hf} (hv:EI c=true):BF prog 188 [agg (DW c)] (int 0):=by
 refine fo func188 rfl ⟨rfl,rfl⟩ fun M0 w0=> ?_
 obtain ⟨hs0,hs1,yY,hsub,hnm,hkey,hk0,hk1,wm,AGp,AGq,AGr,AGs,j8,hft,ht1,hp0,P0,hap⟩:=Jf hv
 obtain ⟨ADF,ADG⟩:=Zj hkey
 obtain ⟨hh1,hh2⟩:=Zj wm
 have OO:=hnm
 unfold HQ at OO
 rw [Bool.and_eq_true,B_,decide_eq_true_eq] at OO
 obtain ⟨hall,ADH⟩:=OO
 refine ac ?_
 refine ag ?_ ?_<;>intro h1 q1
 exfalso;have:=q1;omega
 refine ag ?_ ?_<;>intro h2 q2
 exfalso;have:=q2;omega
 refine ac ?_
 refine cy h2 rfl (Cz (G7) rfl rfl) ?_
 refine ag ?_ ?_<;>intro h3 q3
 rw [yY] at h3;exact absurd h3 AB
 refine ac ?_
 refine cy h3 rfl (Cz (G7) rfl rfl) ?_
 refine ag ?_ ?_<;>intro h4 q4
 rw [hsub] at h4;exact absurd h4 AB
 refine ac ?_
 refine cy h4 rfl (Cz (KO) rfl rfl) ?_
 refine ag ?_ ?_<;>intro h5 q5
 rw [ADF,ADG] at h5;exact absurd h5 AB
 refine ag ?_ ?_<;>intro h6 q6
 exfalso;have:=q6;omega
 refine ac ?_
 refine wk [39,1] rfl ?_
 refine Tr.cn rfl ?_ ?_<;>intro h7 q7
 exfalso;have:=q7;omega
 refine a2 ?_
 refine co rfl (Cz (KM) rfl rfl) ?_
 refine ag ?_ ?_<;>intro h8 q8
 rw [hh1] at h8;exact absurd h8 AB
 refine ac ?_
 refine cy h8 rfl (Cz (P7) rfl rfl) ?_
 refine ag ?_ ?_<;>intro h9 q9
 rw [hh2] at h9;exact absurd h9 AB
 refine ag ?_ ?_<;>intro h10 Sx
 exfalso;have:=Sx;omega
 refine ag ?_ ?_<;>intro h11 Ty
 exfalso;have:=Ty;omega
 refine ac ?_
 refine wk [67,1] rfl ?_
 refine Tr.cn rfl ?_ ?_<;>intro h12 XY
 exfalso;have:=XY;omega
 refine ac ?_
 refine ag ?_ ?_<;>intro J0 dY
 exfalso;have:=dY;omega
 refine ag ?_ ?_<;>intro J1 nB
 exfalso;have:=nB;omega
 refine ag ?_ ?_<;>intro OB q15
 refine ag ?_ ?_<;>intro h16 q16
 exfalso;have:=q16;simp_all
 refine ac ?_
 refine wk [91,1] rfl ?_
 refine Tr.cn rfl ?_ ?_<;>intro Jg m8
 exfalso;have:=m8;omega
 refine a2 ?_
 refine Tr.block (Tr.BE _ (kk [1] rfl) (fun k:Nat=>[(3,int ((k:Nat):Int))]) (fun k:Nat=>k≤(c.names).length) (fun k:Nat=>(c.names).length-k) 0 (Nat.zero_le _) kz ?_)
 rintro k BT
 refine an ?_ ?_<;>intro NB q18
 have Ai:k<(c.names).length:=AH NB
 obtain ⟨s,Ah⟩:=at_ Ai
 have hat:=hall k AA
 have hna:=Vq hat Ah
 refine a2 ?_
 refine co rfl (AD rfl underlying127 NC vq vq AA (AZ Ah)) (co rfl (F5 rfl PM rfl) (co rfl (Cz (G7) rfl rfl) ?_))
 refine ag ?_ ?_<;>intro Wg q19
 exfalso;rw [hna] at Wg;exact absurd Wg AB
 refine ag ?_ ?_<;>intro NQ q20
 have MF:0<k:=by simpa using NQ
 obtain ⟨y,hy⟩:=at_ (l:=c.names) (k:=k-1) AA
 have hlt:=dh hat Ah hy MF
 refine ac ?_
 refine cy NQ rfl (AD rfl underlying127 NC vq vq AA Lz) ?_
 refine ac ?_
 refine cy NQ rfl (AD rfl underlying127 NC vq vq AA (AZ Ah)) (cy NQ rfl (F5 rfl PM rfl) (cy NQ rfl (RQ rfl vq vq) ?_))
 refine ac ?_
 refine wk [123,3,1] rfl ?_
 refine Tr.cn rfl ?_ ?_<;>intro dQ q21
 exfalso;rw [hlt] at dQ;exact absurd dQ AB
 refine a2 ?_
 exact Fin.AO (k+1) ⟨Ai,by omega⟩ ⟨⟨_,rfl,AG k⟩,kz⟩
 refine ac ?_
 refine wk [123,3,1] rfl ?_
 refine a2 ?_
 exact Fin.AO (k+1) ⟨Ai,by omega⟩ ⟨⟨_,rfl,AG k⟩,kz⟩
 have BP:k=(c.names).length:=by have:=AJ NB;omega
 refine ac ?_
 refine ag ?_ ?_<;>intro h22 q22
 exfalso;have:=q22;omega
 refine ag ?_ ?_<;>intro h23 q23
 exfalso;have:=q23;omega
 refine ag ?_ ?_<;>intro Ns q24
 exfalso;have:=q24;omega
 refine ac ?_
 refine wk [145] rfl ?_
 refine Tr.cn rfl ?_ ?_<;>intro h25 q25
 exfalso;have:=q25;omega
 refine a3 ?_
 · exact Lr
 refine ac ?_
 refine wk [91,1] rfl ?_
 refine Tr.cn rfl ?_ ?_<;>intro h26 q26
 exfalso;have:=q26;omega
 refine a2 ?_
 refine Tr.block (Tr.BE _ (kk [1] rfl) (fun k:Nat=>[(3,int ((k:Nat):Int))]) (fun k:Nat=>k≤(c.names).length) (fun k:Nat=>(c.names).length-k) 0 (Nat.zero_le _) kz ?_)
 rintro k BT
 refine an ?_ ?_<;>intro h27 q27
 have Ai:k<(c.names).length:=AH h27
 obtain ⟨s,Ah⟩:=at_ Ai
 have hat:=hall k AA
 have hna:=Vq hat Ah
 refine a2 ?_
 refine co rfl (AD rfl underlying127 NC vq vq AA (AZ Ah)) (co rfl (F5 rfl PM rfl) (co rfl (Cz (G7) rfl rfl) ?_))
 refine ag ?_ ?_<;>intro h28 q28
 exfalso;rw [hna] at h28;exact absurd h28 AB
 refine ag ?_ ?_<;>intro j9 q29
 have MF:0<k:=by simpa using j9
 obtain ⟨y,hy⟩:=at_ (l:=c.names) (k:=k-1) AA
 have hlt:=dh hat Ah hy MF
 refine ac ?_
 refine cy j9 rfl (AD rfl underlying127 NC vq vq AA Lz) ?_
 refine ac ?_
 refine cy j9 rfl (AD rfl underlying127 NC vq vq AA (AZ Ah)) (cy j9 rfl (F5 rfl PM rfl) (cy j9 rfl (RQ rfl vq vq) ?_))
 refine ac ?_
 refine wk [123,3,1] rfl ?_
 refine Tr.cn rfl ?_ ?_<;>intro h30 q30
 exfalso;rw [hlt] at h30;exact absurd h30 AB
 refine a2 ?_
 exact Fin.AO (k+1) ⟨Ai,by omega⟩ ⟨⟨_,rfl,AG k⟩,kz⟩
 refine ac ?_
 refine wk [123,3,1] rfl ?_
 refine a2 ?_
 exact Fin.AO (k+1) ⟨Ai,by omega⟩ ⟨⟨_,rfl,AG k⟩,kz⟩
 have BP:k=(c.names).length:=by have:=AJ h27;omega
 refine ac ?_
 refine ag ?_ ?_<;>intro h31 q31
 exfalso;have:=q31;omega
 refine ag ?_ ?_<;>intro h32 q32
 exfalso;have:=q32;omega
 refine ag ?_ ?_<;>intro h33 q33
 exfalso;have:=q33;omega
 refine ac ?_
 refine wk [145] rfl ?_
 refine Tr.cn rfl ?_ ?_<;>intro h34 q34
 exfalso;have:=q34;omega
 refine a3 ?_
 · exact Lr
abbrev uF:Pr:=Cp.ex fun n:Int=>fact (0≤n∧n<4294967296) (is (.int .u32 n))
abbrev yZ:Pr:=Cp.ex fun n:Int=>fact (0≤n∧n<4294967296) (int n)
theorem uG:Pr.le uF (Gw .u32):=fun _ _ _ ⟨n,_,h⟩=>⟨n,h⟩
section
variable {P:Program} {I:Ck} {E:Env} {o:Oper}
theorem nC {s t:TypeId} {x:Operand} {k k':IntKind} (ho:o.op= .convert s t x) (hs:P.underlying s=some (.int k)) (ht:P.underlying t=some (.int k')) (hx:VL E x (Gw k)):Ae P I o E (Gw k'):=
 Ae.same fun M w a he _=>by
  obtain ⟨n,h1⟩:=hx.ev he Ar
  have h1:a.eval x= .int k n:=h1
  refine ⟨.int k' (k'.wrap n),?_,_,rfl⟩
  simp [execOp,ho,h1,convert,run_underlying hs,run_underlying ht,Conv.intToInt,Sem.run_bind]
theorem uH {t u:TypeId} {x y:Operand} (ho:o.op= .binOp .mul t x y u) (hx:VL E x (Gw .u32)) (hy:VL E y (Gw .u32)):Ae P I o E uF:=
 Ae.same fun M w a he _=>by
  obtain ⟨m,h1⟩:=hx.ev he Ar
  obtain ⟨n,h2⟩:=hy.ev he Ar
  have h1:a.eval x= .int .u32 m:=h1
  have h2:a.eval y= .int .u32 n:=h2
  refine ⟨.int .u32 (IntKind.u32.wrap (m*n)),by simp [execOp,ho,h1,h2,eqGuard,binOp,Op.intArith],_,?_,rfl⟩
  rw [IntKind.wrap_u32];omega
theorem gz {s t:TypeId} {x:Operand} (ho:o.op= .convert s t x) (hs:P.underlying s=some (.int .u32)) (ht:P.underlying t=some (.int .i64)) (hx:VL E x uF):Ae P I o E yZ:=
 Ae.same fun M w a he _=>by
  obtain ⟨n,hn,h1⟩:=hx.ev he Ar
  have h1:a.eval x= .int .u32 n:=h1
  refine ⟨.int .i64 (IntKind.i64.wrap n),?_,n,hn,by rw [G5 K4];rfl⟩
  simp [execOp,ho,h1,convert,run_underlying hs,run_underlying ht,Conv.intToInt,Sem.run_bind]
end
theorem BF.KP {P:Program} {f:FuncId} {row:List Pr} (h:∀m,m≤20→BF P f [slice 4 (List.replicate m row)] (slice 4 (List.replicate m row))):BF P f [Go.Proofs.YtmocaapoeefgkaaGreatDoor.KP row] (Go.Proofs.YtmocaapoeefgkaaGreatDoor.KP row):=by
 refine ⟨(h 0 AA).1,fun M w vs hb hv=> ?_⟩
 match vs,hv with
 |[u0],Yk=>
  obtain ⟨⟨m,hm,h0⟩,_⟩:=Yk
  exact ((h m hm).2 M w [u0] hb ⟨h0,trivial⟩).mono fun e w' ⟨v,h1,h2,h3⟩=>⟨v,h1,⟨m,hm,h2⟩,h3⟩
theorem BF.Ex {P:Program} {f:FuncId} {B:Nat} {res:Pr} (h:∀m,m≤B→BF P f [dW m] res):BF P f [Go.Proofs.YtmocaapoeefgkaaGreatDoor.Ex B] res:=by
 refine ⟨(h 0 AA).1,fun M w vs hb hv=> ?_⟩
 match vs,hv with
 |[u0],Yk=>
  obtain ⟨⟨m,hm,h0⟩,_⟩:=Yk
  exact (h m hm).2 M w [u0] hb ⟨h0,trivial⟩
abbrev Nw:Pr:=KP (Bj q0)
abbrev qA2:Pr:=KP (Bj Nw)
theorem O2:Pr.le q0 Nw:=Ax 0 (BB AA (Pr.le_refl _))
theorem rc0:BF Tryz.prog 291 [q0] q0:=ON (m:=0) (q:=q0) AA (.inl rfl)
theorem rc1 (m:Nat) (hm:m≤20):BF Tryz.prog 291 [slice 4 (List.replicate m (Bj q0))] (slice 4 (List.replicate m (Bj q0))):=ON hm (.inr rc0)
theorem rc2 (m:Nat) (hm:m≤20):BF Tryz.prog 291 [slice 4 (List.replicate m (Bj Nw))] (slice 4 (List.replicate m (Bj Nw))):=ON hm (.inr (BF.KP rc1))
theorem rf0:BF Tryz.prog 258 [agg (Bj q0)] ES:=BF.m_ fun t b n hb=>OM (m:=0) (q:=q0) hb AA (.inl rfl)
theorem rf1:BF Tryz.prog 258 [agg (Bj Nw)] ES:=BF.Bj fun t b n m hb hm=>OM hb hm (.inr rf0)
theorem rf2:BF Tryz.prog 258 [agg (Bj qA2)] ES:=BF.Bj fun t b n m hb hm=>OM hb hm (.inr rf1)
theorem rd0:BF Tryz.prog 259 [agg (Bj q0)] (MD 1):=BF.m_ fun t b n hb=>Re (m:=0) (q:=q0) (D:=0) hb AA AA (.inl rfl)
theorem rd1:BF Tryz.prog 259 [agg (Bj Nw)] (MD 2):=BF.Bj fun t b n m hb hm=>Re hb hm AA (.inr rd0)
theorem rd2:BF Tryz.prog 259 [agg (Bj qA2)] (MD 3):=BF.Bj fun t b n m hb hm=>Re hb hm AA (.inr rd1)
theorem rp0:BF Tryz.prog 260 [agg (Bj q0)] (Ex 2002):=BF.m_ fun t b n hb=>Zi (m:=0) (q:=q0) (B:=0) hb AA AA (.inl rfl)
theorem rp1:BF Tryz.prog 260 [agg (Bj Nw)] (Ex 82082):=BF.Bj fun t b n m hb hm=>Zi (B:=2002) hb hm AA (.inr rp0)
theorem rp2:BF Tryz.prog 260 [agg (Bj qA2)] (Ex 3285282):=BF.Bj fun t b n m hb hm=>Zi (B:=82082) hb hm AA (.inr rp1)
theorem rE2:BF Tryz.prog 225 [agg (Bj qA2)] (Dy [Ex 3285282,Gw .i64]):=gy rf2 rd2 rp2
structure Hf.Zk (c:Hf):Prop where
 IE:c.IE≤1099511627776
 CU:c.CU≤2147483648
 PT:0≤c.PT∧c.PT≤40000
 Jl:0≤c.Jl∧c.Jl≤40000
 Vg:0≤c.Vg∧c.Vg≤40000
 NN:0≤c.NN∧c.NN≤40000
theorem LC {s:List UInt8} (h:named s=true):s.length≤32:=by unfold named at h;simp at h;omega
theorem dj {a b:Int} (ha:0≤a∧a≤40000) (hb:0≤b∧b≤40000):BF prog 264 [agg [int a,int b]] (agg (Bj Nw)):=by
 refine fo func264 rfl ⟨rfl,rfl⟩ fun M0 w0=>(Tr.seq (Tr.Ap (tp rfl (Bh rfl (Va rfl)) ?_)))
 refine Tl rfl rfl rfl rfl OI Li (fun b1=> ?_)
 refine ap ?_
 refine Tr.seq (Tr.rx ?_)
 refine ay ?_
 refine xo rfl (fun _=>Cz (ME AA) rfl rfl) ?_
 refine ay ?_
 refine xo rfl (fun _=>Cz (ME AA) rfl rfl) (xo rfl (fun _=>AP (xs:=[.tmp 5,.tmp 8]) (rows:=[_,_]) rfl rfl underlying283 Cn OI rfl AB ⟨⟨Ao,(Va rfl)⟩,⟨⟨Ao,(Va rfl)⟩,trivial⟩⟩ AB) ?_)
 refine xo rfl (fun _=>AV rfl (Vp (m:=2) (q:=q0) AA (rc1 _ AA)) ⟨(Kf rfl),trivial⟩) ?_
 refine Cx.DG 0 rfl rfl (Aw rfl rfl (vl rfl) (Va rfl) Cn rfl Az rfl) ?_
 refine Cx.nil ⟨by kernel_rfl,?_⟩
 refine BI.done al1 (Fin.go (Tr.ret (Fin.Cb rfl (AL.cell 0 rfl rfl DV Cn rfl Lr) ?_)))
 · exact Lr
theorem Xa {c:Hf} (hv:EI c=true) (ht:c.Zk):BF prog 226 [agg (DW c)] (agg (Bj qA2)):=by
 refine fo func226 rfl ⟨rfl,rfl⟩ fun M0 w0=> ?_
 obtain ⟨hs0,hs1,yY,hsub,hnm,hkey,hk0,hk1,wm,AGp,AGq,AGr,AGs,j8,hft,ht1,hp0,P0,hap⟩:=Jf hv
 obtain ⟨g1,g2,g3,g4,g5,g6⟩:=ht
 have OO:=hnm
 unfold HQ at OO
 rw [Bool.and_eq_true,B_,decide_eq_true_eq] at OO
 obtain ⟨hall,ADH⟩:=OO
 have cV:=LC yY
 have hlj:=LC hsub
 refine Tr.seq (Tr.Ap (tp rfl (Bh rfl (Va rfl)) ?_))
 refine Tl rfl rfl rfl rfl OI Li (fun b1=> ?_)
 refine ap ?_
 refine a2 ?_
 refine Tr.block (Tr.CC 285 4 (Tr.Es _ (kk [2,1] rfl) (fun k v=>[(4,int ((k:Nat):Int)),(3,Aa v (slice 4 (List.replicate k (Bj q0))))]) (fun k v=>Hp M0 w0 Fo ([Au 285 4 v,AF true b1 285 (([.int .i64 0,.slice none 0 0,.bool false,.slice none 0 0]:List Value).map is)])) (fun k:Nat=>k≤(c.names).length) (fun k:Nat=>(c.names).length-k) 0 (.slice none 0 0) (Nat.zero_le _) ⟨ke rfl,⟨_,rfl,Bp rfl⟩,trivial⟩ (fun _ _ h=>h) ?_))
 rintro k v BT
 refine an ?_ ?_<;>intro h1 q1
 have Ai:k<(c.names).length:=AH h1
 obtain ⟨s,Ah⟩:=at_ Ai
 have hsn:=LC (Vq (hall k AA) Ah)
 refine ac ?_
 refine ap ?_
 refine tp rfl (AD rfl underlying127 NC (vl rfl) (vl rfl) AA CO) ?_
 refine tp rfl (F5 rfl PM rfl) (tp rfl (Cz (Vn AA) rfl rfl) (tp rfl (AP (xs:=[.tmp 18]) (rows:=[_]) rfl rfl underlying283 Cn OI rfl AB ⟨⟨Ao,(Va rfl)⟩,trivial⟩ AB) ?_))
 refine TO.Dl 0 rfl rfl AB (CB rfl rfl rfl rfl underlying283 Cn wU OI (Kb rfl) (Kf rfl) (BC BR (Ka rfl))) (fun v1=> ?_)
 refine ap ?_
 refine wk [4,3,2,1] rfl ?_
 refine ac ?_
 exact Fin.DU (k+1) v1 (⟨Ai,by omega⟩) ⟨⟨_,rfl,AG k⟩,⟨_,rfl,BJ (by rw [dX])⟩,kz⟩ (fun _ _ h=>h)
 have BP:k=(c.names).length:=by have:=AJ h1;omega
 refine ac ?_
 refine Tr.seq (Tr.rx ?_)
 refine ay ?_
 refine xo rfl (fun _=>Cz (ME AA) rfl rfl) ?_
 refine ay ?_
 refine xo rfl (fun _=>Cz (Vn AA) rfl rfl) ?_
 refine ay ?_
 refine xo rfl (fun _=>Cz (Vn AA) rfl rfl) ?_
 refine ay ?_
 refine xo rfl (fun _=>Cz (dj g3 g4) rfl rfl) ?_
 refine ay ?_
 refine xo rfl (fun _=>Cz (ME AA) rfl rfl) ?_
 refine ay ?_
 refine xo rfl (fun _=>Cz (dj g5 g6) rfl rfl) ?_
 refine ay ?_
 refine xo rfl (fun _=>Cz (ME AA) rfl rfl) ?_
 refine ay ?_
 refine xo rfl (fun _=>Cz (ME AA) rfl rfl) ?_
 refine ay ?_
 refine xo rfl (fun _=>Cz (uE) rfl rfl) ?_
 refine ay ?_
 refine xo rfl (fun _=>Cz (ME AA) rfl rfl) (xm rfl ?_)
 refine xo rfl (fun _=>AV rfl (Vp (m:=c.names.length) (q:=q0) AA (rc1 _ AA)) ⟨⟨_,rfl,Pr.le_trans (As _ _) (Pr.le_of_eq (by rw [BP]))⟩,trivial⟩) ?_
 refine xo rfl (fun _=>AP (xs:=[.tmp 23,.tmp 26,.tmp 29,.tmp 32,.tmp 35,.tmp 38,.tmp 41,.tmp 44,.tmp 47,.tmp 50,.tmp 52]) (rows:=[Bj Nw,Bj Nw,Bj Nw,Bj Nw,Bj Nw,Bj Nw,Bj Nw,Bj Nw,Bj Nw,Bj Nw,Bj Nw]) rfl rfl underlying283 Cn OI rfl AB ⟨⟨Ao,VL.le (vl rfl) (Pr.le_trans (BU (qs:=Bj Nw) ⟨Lr,Lr,Lr,O2,trivial⟩) (Af _))⟩,⟨⟨Ao,VL.le (vl rfl) (Pr.le_trans (BU (qs:=Bj Nw) ⟨Lr,Lr,Lr,O2,trivial⟩) (Af _))⟩,⟨⟨Ao,VL.le (vl rfl) (Pr.le_trans (BU (qs:=Bj Nw) ⟨Lr,Lr,Lr,O2,trivial⟩) (Af _))⟩,⟨⟨Ao,VL.le (vl rfl) (Af _)⟩,⟨⟨Ao,VL.le (vl rfl) (Pr.le_trans (BU (qs:=Bj Nw) ⟨Lr,Lr,Lr,O2,trivial⟩) (Af _))⟩,⟨⟨Ao,VL.le (vl rfl) (Af _)⟩,⟨⟨Ao,VL.le (vl rfl) (Pr.le_trans (BU (qs:=Bj Nw) ⟨Lr,Lr,Lr,O2,trivial⟩) (Af _))⟩,⟨⟨Ao,VL.le (vl rfl) (Pr.le_trans (BU (qs:=Bj Nw) ⟨Lr,Lr,Lr,O2,trivial⟩) (Af _))⟩,⟨⟨Ao,VL.le (vl rfl) (Pr.le_trans (BU (qs:=Bj Nw) ⟨Lr,Lr,Lr,O2,trivial⟩) (Af _))⟩,⟨⟨Ao,VL.le (vl rfl) (Pr.le_trans (BU (qs:=Bj Nw) ⟨Lr,Lr,Lr,O2,trivial⟩) (Af _))⟩,⟨⟨Ao,VL.le (vl rfl) (Af _)⟩,trivial⟩⟩⟩⟩⟩⟩⟩⟩⟩⟩⟩ AB) ?_
 refine xo rfl (fun _=>AV rfl (Vp (m:=11) (q:=Nw) AA (rc2 _ AA)) ⟨(Kf rfl),trivial⟩) ?_
 refine Cx.DG 1 rfl rfl (Aw rfl rfl (vl rfl) (Va rfl) Cn rfl Az rfl) ?_
 refine Cx.nil ⟨by kernel_rfl,?_⟩
 refine BI.done XU (Fin.go (wk [2] rfl (Tr.ret (Fin.Cb rfl (AL.cell 1 rfl rfl DV Cn rfl Lr) ?_))))
 · exact Lr
theorem g_ {c:Hf} (hv:EI c=true) (ht:c.Zk):BF prog 189 [agg (DW c)] (Dy [Ex 3285282,Gw .i64]):=by
 refine fo func189 rfl ⟨rfl,rfl⟩ fun M0 w0=> ?_
 refine a2 ?_
 refine co rfl (Cz (T2 hv) rfl rfl) ?_
 refine an ?_ ?_<;>intro h1 q1
 exact absurd h1 AB
 refine a2 ?_
 refine co rfl (Cz (Xa hv ht) rfl rfl) (co rfl (Cz (rE2) rfl rfl) ?_)
 refine ac ?_
 refine Tr.ret (Fin.D3 rfl (Bt.EB _ _) rfl ?_ rfl ?_)
 · exact Lr
 · exact Lr
theorem dm {m:Nat} (hm:m≤100000000):BF prog 190 [dW m] (yZ):=by
 refine fo func190 rfl ⟨rfl,rfl⟩ fun M0 w0=> ?_
 have hlr:(List.replicate m Tz).length=m:=List.length_replicate
 refine a3 ?_
 refine Tr.block (Tr.BE _ (kk [0] rfl) (fun k:Nat=>[(4,int ((k:Nat):Int)),(3,uF)]) (fun k:Nat=>k≤((List.replicate m Tz).length)) (fun k:Nat=>((List.replicate m Tz).length)-k) 0 (Nat.zero_le _) ⟨kq,⟨_,rfl,Ax _ (BB AA Lr)⟩,trivial⟩ ?_)
 rintro k BT
 refine ac ?_
 refine co rfl (Ci rfl underlying241 vq) ?_
 refine an ?_ ?_<;>intro h1 q1
 have Ai:k<((List.replicate m Tz).length):=AH h1
 have hkm:k<m:=by simpa using Ai
 refine a2 ?_
 refine co rfl (AD rfl underlying241 Nv vq vq AA (KQ hkm)) (co rfl (F5 rfl ABV rfl) (co rfl (nC rfl underlying5 underlying180 vq) (co rfl (tV AB rfl (VL.le vq uG) vq) (co rfl (uH rfl vq (VL.le vq (DI _ _))) ?_))))
 refine ac ?_
 refine wk [4,3,0] rfl ?_
 refine ac ?_
 exact Fin.AO (k+1) ⟨Ai,by omega⟩ ⟨⟨_,rfl,AG k⟩,kz⟩
 have BP:k=((List.replicate m Tz).length):=by have:=AJ h1;omega
 refine a2 ?_
 refine co rfl (gz rfl underlying180 underlying3 vq) ?_
 refine a2 ?_
 · exact Lr
theorem nD {c:Hf} (hn:c.names.length≤1000):BF prog 187 [agg (DW c)] (agg (DW c)):=by
 refine fo func187 rfl ⟨rfl,rfl⟩ fun M0 w0=>(Tr.seq (Tr.Ap ?_))
 refine TO.VG rfl rfl AB rfl C3 (fun b1=> ?_)
 refine Tl rfl rfl rfl rfl RM Lh (fun b2=> ?_)
 refine ap ?_
 refine ap ?_
 refine TO.pad ?_
 refine TO.Dl 0 rfl rfl AB (CB rfl rfl rfl rfl underlying127 NC by9 z9 Gn vq (Bv BR vq)) (fun v1=> ?_)
 refine ap ?_
 refine ap ?_
 refine Tr.drop 2 (Tr.ret (Fin.Cb rfl (AL.cell 1 rfl rfl GN DF rfl Lr) ?_))
 · exact BU ⟨Lr,Lr,Lr,Lr,Lr,Lr,Lr,Lr,Lr,Lr,Lr,Lr,Pr.le_trans (As _ _) (Pr.le_of_eq AU),Lr,Lr,trivial⟩
abbrev Rh (c:Hf) (key s:Int):Hf:=⟨c.IE,c.KK,c.Hz,c.PT,c.Jl,c.CU,c.Vg,c.NN,c.from_,c.OK,c.auth,c.path,c.names,key,s⟩
theorem nE {c:Hf} {key:Int} (hv:EI (Rh c 0 0)=true) (ht:(Rh c 0 0).Zk) (hk:0≤key∧key≤2147483648):BF prog 147 [agg (DW c),int key] (Cp.ex fun s:Int=>fact (0≤s∧s<4294967296) (Dy [agg (DW (Rh c key s)),int 0])):=by
 refine BF.of func147 rfl rfl Az fun M0 w0=> ?_
 have hnn:c.names.length≤1000:=by have:=(Jf hv).nm;unfold HQ at this;simp at this;omega
 refine Tr.seq (Tr.Ap ?_)
 refine TO.VG rfl rfl AB rfl (Va rfl) (fun b1=> ?_)
 refine Tl rfl rfl rfl rfl RM Lh (fun b2=> ?_)
 refine tm rfl (TO.nil (Fin.go (Tr.seq (Tr.Ap (TO.rd 1 rfl rfl rfl AB (B4 rfl GN DF (vl rfl) rfl rfl) ?_)))))
 refine tp rfl (AV rfl (nD (c:=c) hnn) ⟨ke rfl,trivial⟩) ?_
 refine TO.AK 1 rfl rfl rfl (vl rfl) (Va rfl) rfl DF rfl rfl (TO.nil (Fin.go (Tr.seq (Tr.Ap (tp rfl (An (rows:=[]) rfl wP wQ trivial rfl) (tp rfl (AW rfl RN (vl rfl)) (TO.DG 1 rfl rfl (Aw rfl rfl (vl rfl) (Va rfl) lq rfl Az rfl) (TO.nil (Fin.go (Tr.seq (Tr.seq (Tr.Al (co rfl (CN 1 rfl (B4 rfl GN DF (vl rfl) rfl rfl)) ?_)))))))))))))
 refine co rfl (AV rfl (T2 (c:=Rh c 0 0) hv) ⟨ke rfl,trivial⟩) ?_
 refine co rfl (ki rfl rfl rfl rfl) (cm rfl ?_)
 refine Ch.cs 15 rfl ?_ ?_<;>intro h1 q1
 exact absurd h1 AB
 refine Jz h1 rfl (cy h1 rfl (ki rfl rfl rfl rfl) (co rfl (KE rfl rfl h1 rfl) (cm rfl ?_)))
 refine Ch.cs 19 rfl ?_ ?_<;>intro h2 q2
 exfalso;have:=q2;omega
 refine Jz h2 rfl (cy h2 rfl (ki rfl rfl rfl rfl) (co rfl (KE rfl rfl h2 rfl) (Ch.nil (Fin.go (Tj 1 2 4 22 rfl ?_)))))
 refine Tr.cn rfl ?_ ?_<;>intro h3 q3
 exfalso;have:=q3;omega
 refine Tr.skip (Fin.go (Tr.seq (Tr.Al (co rfl (CN 1 rfl (B4 rfl GN DF (vl rfl) rfl rfl)) ?_))))
 refine co rfl (AV rfl (g_ (c:=Rh c 0 0) hv ht) ⟨ke rfl,trivial⟩) ?_
 refine cm rfl (co rfl (Am rfl (vl rfl) rfl) (co rfl (Am rfl (vl rfl) rfl) (cm rfl (cm rfl (Ch.nil (Fin.go (Tr.seq (Tr.Ap (tm rfl (tm rfl (tp rfl (AV rfl (BF.Ex fun m hm=>dm AA) ⟨ke rfl,trivial⟩) ?_)))))))))))
 refine TO.ex 31 rfl (fun z31=>TO.fact 31 rfl fun AGt=> ?_)
 refine tp rfl (An (rows:=[(0,[_]),(1,[_])]) rfl wP wQ ⟨⟨rfl,(Vo rfl)⟩,⟨⟨rfl,(Vo rfl)⟩,trivial⟩⟩ rfl) (tp rfl (AW rfl RN (vl rfl)) (TO.DG 1 rfl rfl (Aw rfl rfl (vl rfl) (Va rfl) lq rfl Az rfl) (TO.nil (Fin.go (Ti 2 4 rfl (Tr.seq (Tr.Ap (TO.rd 1 rfl rfl rfl AB (B4 rfl GN DF (vl rfl) rfl rfl) (TO.AK 0 rfl rfl rfl (vl rfl) (Va rfl) rfl DF rfl rfl (tm rfl (TO.nil (Fin.go (Tr.drop 1 (Tr.ret ?_))))))))))))))
 refine Fin.Bc rfl (AL.cell 0 rfl rfl GN DF rfl (Lr)) (AL.tmp rfl (Lr)) ?_
 · exact Ax z31 (BB AGt (Lr))
abbrev Lm (name:List UInt8) (a b id to key s:Int):Hf:=⟨id,[114,111,111,116],name,a,b,id,3,0,0,to,false,0,[name],key,s⟩
abbrev H8 (name:List UInt8) (a b id to key s:Int):IF:=⟨a,b,id,[Lm name a b id to key s]⟩
abbrev wo (name:List UInt8) (a b id to key:Int):Pr:=Cp.ex fun s:Int=>fact (0≤s∧s<4294967296) (agg (FG (H8 name a b id to key s)))
theorem wq   :BF prog 89 [] (agg [int 5,int 2048]):=by
 refine fo func89 rfl ⟨rfl,rfl⟩ fun M0 w0=>(Tr.seq (Tr.Ap ?_))
 refine Tl rfl rfl rfl rfl K9 Eb (fun b1=> ?_)
 refine ap ?_
 refine ap ?_
 refine Tr.ret (Fin.Cb rfl (AL.cell 0 rfl rfl Jh LS rfl Lr) ?_)
 · exact Lr
theorem AGu   :BF prog 93 [] (agg [int 7,int 256]):=by
 refine fo func93 rfl ⟨rfl,rfl⟩ fun M0 w0=>(Tr.seq (Tr.Ap ?_))
 refine Tl rfl rfl rfl rfl K9 Eb (fun b1=> ?_)
 refine ap ?_
 refine ap ?_
 refine Tr.ret (Fin.Cb rfl (AL.cell 0 rfl rfl Jh LS rfl Lr) ?_)
 · exact Lr
theorem Zl {name:List UInt8} {a b id to key:Int} (hv:EI (Lm name a b id to 0 0)=true) (ht:(Lm name a b id to 0 0).Zk) (hk:0≤key∧key≤2147483648):BF prog 88 [str name,agg [int a,int b],int id,int key,int to] (wo name a b id to key):=by
 refine fo func88 rfl ⟨rfl,rfl⟩ fun M0 w0=>(Tr.seq (Tr.Ap (tp rfl (Bh rfl C3) ?_)))
 refine Tl rfl rfl rfl rfl Wf S5 (fun b1=> ?_)
 refine ap ?_
 refine ap ?_
 refine tp rfl (An (rows:=[(0,[_]),(1,[_]),(2,[_]),(3,_),(4,[_]),(5,_),(7,[_]),(10,[_])]) rfl ABy Lh ⟨⟨rfl,Lj⟩,⟨⟨rfl,Lj⟩,⟨⟨rfl,Lj⟩,⟨⟨rfl,C3⟩,⟨⟨rfl,Lj⟩,⟨⟨rfl,C3⟩,⟨⟨rfl,Lj⟩,⟨⟨rfl,⟨_,rfl,Pr.le_trans (B8 _ _) (Ad _)⟩⟩,trivial⟩⟩⟩⟩⟩⟩⟩⟩ rfl) (TO.re 20 (agg (DW (Lm name a b id to 0 0))) rfl (Pr.le_of_eq rfl) ?_)
 refine Tl rfl rfl rfl rfl RM Lh (fun b2=> ?_)
 refine ap ?_
 refine wk [11,10,6,3,2] rfl ?_
 refine ap ?_
 refine tp rfl (CS (nE (c:=Lm name a b id to 0 0) hv ht hk) rfl rfl rfl) ?_
 refine TO.ex 24 rfl (fun z24=>TO.fact 24 rfl fun AGv=> ?_)
 refine ap ?_
 refine ap ?_
 refine tp rfl (An (rows:=[(0,_),(1,[_]),(2,[_])]) rfl ABh S5 ⟨⟨rfl,C3⟩,⟨⟨rfl,Lj⟩,⟨⟨rfl,⟨_,rfl,Pr.le_trans (B8 _ _) (Ad _)⟩⟩,trivial⟩⟩⟩ rfl) ?_
 refine ap ?_
 refine Tr.drop 0 (wk [10] rfl (Tr.ret (Fin.Cb rfl (AL.cell 0 rfl rfl Ov E8 rfl Lr) ?_)))
 · exact Ax z24 (BB AGv Lr)
def KS (s:DS) (l:List (List UInt8)):List UInt8:=(l[(s.val l.length).toNat]?).getD []
theorem Xb {b:Nat} {s:DS} {l:List (List UInt8)} (hl:l≠[]) (hl2:l.length≤1000000000):BS prog 91 [ptr b 0,gU l] (str (KS s l)) (Dh b s) (fun _=>Dh b s.Cj):=by
 refine BS.of func91 rfl rfl Az fun M0 w0 S rs M1 w1=> ?_
 have hl0:1≤(l.length:Int):=by have:=List.length_pos_iff.2 hl;omega
 have hv:=s.DM hl0
 obtain ⟨x,hx⟩:=at_ (l:=l) (k:=(s.val l.length).toNat) AA
 refine ac ?_
 refine ap ?_
 refine TO.GK 0 rfl rfl AB (Aj rfl rfl AB rfl (Cf AA AA) ⟨kq,kz⟩) (tp rfl (AD rfl underlying127 NC vq vq AA (Bf hx)) ?_)
 refine ap ?_
 refine Tr.ret (Fin.Gl [] rfl (AL.tmp rfl Lr) ?_ (fun _ _ _ _=>rfl))
 · refine Pr.le_of_eq ?_;unfold KS;rw [hx];rfl
def F1:List (List UInt8):=[[97,112,112],[100,98],[119,101,98]]
def PU:List (List Int):=[[10,8,2],[8,2],[2,10,8,3]]
def MG (i:Int):List Int:=(PU[i.toNat]?).getD []
theorem uI {i:Int} (h:0≤i∧i<3):(PU.map fun l=>[ints l])[i.toNat]? =some [ints (MG i)]:=by
 have hl:i.toNat<PU.length:=by show i.toNat<3;omega
 unfold MG
 rw [List.getElem?_map,List.getElem?_eq_getElem hl];rfl
theorem Xc {i:Int} (h:0≤i∧i<3):MG i∈PU:=by
 have hl:i.toNat<PU.length:=by show i.toNat<3;omega
 unfold MG
 rw [List.getElem?_eq_getElem hl];exact List.getElem_mem hl
structure Zm (i:Nat) (e:B7):Prop where
 name:F1[i]? =some e.name
 least:e.least=1
 most:e.most=3∨e.most=4
 A9:e.A9∈PU∨∃l∈PU,e.A9=14::l
 ids:∃s:Int,(0≤s∧s<4294967296)∧e.ids=[H8 e.name 5 2048 (100+(i:Nat)) 901 1 s]
 anchors:e.anchors=[1]
 hashes:e.hashes=[2,3]
def nF (es:List B7):Prop:=∀(i:Nat) e,es[i]? =some e→Zm i e
theorem Xd {es:List B7} {e:B7} (h:nF es) (he:Zm es.length e):nF (es++[e]):=by
 intro i x hx
 rcases Nat.lt_or_ge i es.length with hi|hi
 · rw [List.getElem?_append_left hi] at hx;exact h i x hx
 ·
  rcases Nat.eq_or_lt_of_le hi with hi|hi
  · subst hi;rw [List.getElem?_append_right (Nat.le_refl _),Nat.sub_self] at hx;simp at hx;subst hx;exact he
  · rw [List.getElem?_eq_none CF] at hx;cases hx
theorem Vr {nm:List UInt8} {k:Nat} (h:F1[k]? =some nm) {s:Int} (hs:0≤s∧s<4294967296) {key:Int} (hk:0≤key∧key≤2):EI (Lm nm 5 2048 (100+(k:Nat)) 901 key s)=true:=by
 have hlt:k<3:=BM h
 have hn:named nm=true:=by
  have hm:=List.mem_of_getElem? h
  revert hm;unfold F1;intro hm;simp at hm
  rcases hm with rfl|rfl|rfl<;>decide
 refine dc ⟨?_,?_,by show named [114,111,111,116]=true;decide,hn,?_,by show LZ 5 2048 2=true;decide+kernel,?_,?_,by show LZ 3 0 1=true;decide+kernel,hk.1,?_,hs.1,hs.2,by show (0:Int)≤0;omega,by show (0:Int)≤901;omega,by show (901:Int)≤40000;omega,by show (0:Int)≤0;omega,by show (0:Int)≤8;omega,.inr rfl⟩
 · show 0≤(100:Int)+(k:Nat);omega
 · show (100:Int)+(k:Nat)≤_;omega
 ·
  show HQ [nm]=true
  unfold HQ;rw [Bool.and_eq_true];refine ⟨B_.2 fun j hj=> ?_,by simp⟩
  have:j=0:=by simp at hj;omega
  subst this;unfold nameAt;simp [hn]
 · show 0≤(100:Int)+(k:Nat);omega
 · show (100:Int)+(k:Nat)≤_;omega
 · show key≤_;omega
theorem T3 {nm:List UInt8} {k:Nat} (h:k<3):(Lm nm 5 2048 (100+(k:Nat)) 901 0 0).Zk:=
 ⟨by show (100:Int)+(k:Nat)≤1099511627776;omega,by show (100:Int)+(k:Nat)≤2147483648;omega,⟨by show (0:Int)≤5;omega,by show (5:Int)≤40000;omega⟩,⟨by show (0:Int)≤2048;omega,by show (2048:Int)≤40000;omega⟩,⟨by show (0:Int)≤3;omega,by show (3:Int)≤40000;omega⟩,⟨by show (0:Int)≤0;omega,by show (0:Int)≤40000;omega⟩⟩
theorem nG {β:Type} {l:List β} {n k:Nat} {x:β} (h:(l.take n)[k]? =some x):l[k]? =some x:=by
 have hlt:=BM h
 rw [List.length_take] at hlt
 rw [List.getElem?_take,if_pos AA] at h;exact h
theorem nH (i:Int):(MG i).length≤4:=by
 unfold MG
 cases h:PU[i.toNat]? with
 |none=>show 0≤4;omega
 |some l=>
  have hm:=List.mem_of_getElem? h
  show l.length≤4
  unfold PU at hm;simp at hm
  rcases hm with rfl|rfl|rfl<;>simp
theorem ya (s:DS):s.of [3,3,4]=3∨s.of [3,3,4]=4:=by have:=s.RD (l:=[3,3,4]) AU;simp at this;exact this
end Go.Proofs.YtmocaapoeefgkaaGreatDoor
