/-
  Part 3 of the texts that prove this claim, merged.
-/
import Derived.Test.YtmocaapoeefgkaaGreatDoorRows
import Derived.Test.YtmocaapoeefgkaaGreatDoorRcFP2
set_option linter.all false
set_option maxRecDepth 40000
set_option maxHeartbeats 16000000
namespace Cp
open Go Go.RowKit Go.Great
section
variable {P:Program} {L:Lg P} {n:Fm} {fz:Nat} {I:Ce}
def ABp (P:Program) (I':Ce) (M:Av) (w:World) (p:Pr):Result Next→Prop
 | .ok (.value v) w'=>∃M',p.h M' w' v∧Ext M w M' w'∧I'.h M' w'
 | .ok .skip w'=>∃M',p.h M' w' undef∧Ext M w M' w'∧I'.h M' w'
 | .ok (.enter f args) w'=>Calls P f args w' fun e w''=>∃v M',e= .returned v∧p.h M' w'' v∧Ext M w M' w''∧I'.h M' w''
 |_=>False
def lR (P:Program) (n:Fm) (I I':Ce) (o:Oper) (E:Env) (p:Pr):Prop:=o.guard=none∧∀M w (a:Act),a.tmps.size=n.sz→Cb M w E o a→I.h M w→ABp P I' M w p ((execOp a.eval o).run P w)
def Td (P:Program) (n:Fm) (I:Ce) (ops:Array Oper):Nat→List Oper→Env→(Ce→Env→Prop)→Prop
 |_,[],_,_=>False
 |0,o::r,E,K=>∃p I',lR P n I I' o E p∧(∀d,o.dst=some d→d<n)∧Ch P n I' ops r (upd o p E) (K I')
 |c+1,o::r,E,K=>∃p,kB P I ops o E p∧(∀d,o.dst=some d→d<n)∧Td P n I ops c r (upd o p E) K
theorem Td.op {ops:Array Oper} {o:Oper} {r:List Oper} {E:Env} {K:Ce→Env→Prop} {d c:Nat} {p:Pr} (hg:o.guard=none) (hd:o.dst=some d) (hn:d<n) (h:Ae P I o E p)
  (k:Td P n I ops c r ((d,p)::E) K):Td P n I ops (c+1) (o::r) E K:=
 ⟨p,by unfold kB;rw [hg];exact h,fun d' hd'=>by rw [hd] at hd';cases hd';exact hn,by unfold upd;rw [hd];exact k⟩
theorem Td.turn {ops:Array Oper} {o:Oper} {r:List Oper} {E:Env} {K:Ce→Env→Prop} {d:Nat} {p:Pr} (I':Ce) (hd:o.dst=some d) (hn:d<n) (h:lR P n I I' o E p)
  (k:Ch P n I' ops r ((d,p)::E) (K I')):Td P n I ops 0 (o::r) E K:=
 ⟨p,I',h,fun d' hd'=>by rw [hd] at hd';cases hd';exact hn,by unfold upd;rw [hd];exact k⟩
def Ss (P:Program) (f:FuncId) (args:List Pr) (pre:List Ap) (res:Pr) (post:List Ap):Prop:=Fj (α:=Unit) P f args pre (fun _=>True) (fun _=>res) (fun _=>post)
section
variable {M0:Av} {w0:World} {S:Nat→Prop} {rs:List Ap} {E:Env} {o:Oper} {g:Func} {M1:Av} {w1:World}
theorem Ss.of {f : FuncId} {c : Code} {ps : List Pr} {pre post : List Ap} {res : Pr} (hf : P.funcs[f]? = some g) (hb : g.body = some c) (hname : (g.name == "runtime.NumGoroutine") = false) (hlen : ps.length ≤ g.ntmps)
  (h:∀M0 w0 S rs M1 w1,Tr (YK P) g.ntmps (Ln 0 ps) (Hp M0 w0 S (pre++Ak M1 w1::rs)) c (bodyPost P g (Ot M0 w0 S rs M1 w1 (fun _:Unit=>True) (fun _=>res) (fun _=>post)))):Ss P f ps pre res post:=
 Fj.of hf hb hname hlen h
theorem Ba.pure {f:FuncId} {args:List Pr} {res:Pr} {R':Value→Ap} (h:Ba P f args res Bp R'):BC P f args res:=by
 refine ⟨h.1,fun M w vs hb hv=> ?_⟩
 refine (h.2 M w FT [] M w vs ((Az.begin hb).Ib (r:=Bp) rfl trivial) hv).mono ?_
 rintro e w' ⟨v,M',rfl,h2,h3,h4⟩
 exact ⟨v,rfl,res.st _ _ _ _ _ (Ext.less h4.m) h2,h4.below⟩
theorem s_ {t e T:TypeId} {x:Operand} {sz j:Nat} {rows:List (List Pr)} {v:Value} (ho:o.op= .call { callee:= .builtin .len,args:= #[x],argTypes:= #[t] }) (ht:P.underlying t=some (.slice e)) (hx:VL E x (is v)):
  Jy P M0 w0 S j (SR.c (Bs T sz rows v)) o E (int ((rows.length:Nat):Int)):=by
 intro M w a rs he hI hj
 have h1:a.eval x=v:=hx.ev he DH
 have hj':rs[j]? =some (Bs T sz rows v):=hj
 have hrun:∃A c,v= .slice A rows.length c:=by
  rcases (hI.hold _ (List.mem_of_getElem? hj')).1 with ⟨rfl,A,hv⟩|⟨b,cap,spare,hv,_⟩
  · exact ⟨_,_,hv⟩
  · exact ⟨_,_,hv⟩
 obtain ⟨A,c,hv⟩:=hrun
 have:(execOp a.eval o).run P w= .ok (.value (.int .i64 ((rows.length:Nat):Int))) w:=by
  simp [execOp,ho,resolve,invoke,builtin,Builtin.len_,h1,hv,run_underlying ht,goInt]
 rw [this]
 exact ⟨rfl,Below.refl _ _⟩
end
end
section
variable {P:Program} {L:Lg P} {n:Fm} {fz:Nat} {E:Env} {M0:Av} {w0:World} {S:Nat→Prop} {rs:List Ap} {o:Oper}
def ABq (b off m:Nat):Pr where
 h _ _ u:=∃o c,u= .slice (some ⟨b,o,none⟩) m c∧(0<m→o=off)
 st _M _w _M' _w' _v _ h:=h
instance zu (b off m:Nat):One (ABq b off m):=⟨by rintro M w u ⟨o,c,rfl,_⟩;exact ⟨rfl,rfl⟩⟩
theorem Mz {I:Ce} {t e:TypeId} {x y:Operand} {sz sz1 sz2:Nat} (ho:o.op= .call { callee:= .builtin .append,args:= #[x,y],argTypes:= #[t,t] }) (ht:P.underlying t=some (.slice e)) (hz:A8 P e=some sz) (hx:VL E x (full sz1 [])) (hy:VL E y (slice sz2 [])):Ae P I o E (full sz []):=
 Ae.same fun M w a he _=>by
  obtain ⟨_,A,h1⟩:=hx.ev he DH
  obtain ⟨A',c',h2,_⟩:=hy.ev he DH
  simp only [List.length_nil] at h1 h2
  refine ⟨.slice A 0 0,?_,fP sz A M w⟩
  have hrun:=Gd (P:=P) (ty:=o.type) (A:=A) (A':=A') (n:=0) (c:=0) (c':=c') ht hz (Nat.le_refl _) w
  simp [execOp,ho,resolve,invoke,builtin,h1,h2,hrun]
end
section
variable {P:Program} {L:Lg P} {n:Fm} {fz:Nat} {E:Env} {M0:Av} {w0:World} {S:Nat→Prop} {rs:List Ap} {o:Oper}
end
section
variable {P:Program} {L:Lg P} {n:Fm} {fz:Nat} {E:Env} {M0:Av} {w0:World} {S:Nat→Prop} {rs:List Ap}
theorem St.JO {i j k sz b:Nat} {new:Bool} {T e:TypeId} {ps:List Pr} {rows:List (List Pr)} {v:Value} {p:Pr} (hi:rs[i]? =some (AE new b T ps)) (hj:rs[j]? =some (Bs e sz rows v)) (hij:j≠i) (hk:ps[k]? =some p) (hp:Pr.le p (is v)) (hl:∀r∈rows,r.length=sz) {a:Act} {w:World} (h:St n E (Hp M0 w0 S rs) a w):
  St n E (Hp M0 w0 S ((rs.set j Bp).set i (AE new b T (ps.set k (slice sz rows))))) a w:=by
 obtain ⟨M,h1,h2,h3,h4⟩:=h
 have h4:Az M0 w0 S rs M w:=h4
 have hi':(rs.set j (Bs e sz rows v))[i]? =some (AE new b T ps):=by rw [List.getElem?_set_ne hij];exact hi
 obtain ⟨M',g1,g2,g3⟩:=h4.xy hj hl
 have gi:(rs.set j Bp)[i]? =some (AE new b T ps):=by rw [List.getElem?_set_ne hij];exact hi
 refine ⟨M',h1,h2,fun s q hq=>q.st _ _ _ _ _ g1 (h3 s q hq),g2.CU gi rfl rfl ?_⟩
 obtain ⟨c1,cs,c2,c3,c4⟩:=(g2.hold _ (List.mem_of_getElem? gi)).1
 exact ⟨c1,cs,c2,c3.set hk (fun u hu=>by rw [show u=v from hp _ _ _ hu];exact g3),c4⟩
theorem Tr.JO {Q:Exit→Act→World→Prop} {c:Code} (i j k:Nat) {sz b:Nat} {new:Bool} {T e:TypeId} {ps:List Pr} {rows:List (List Pr)} {v:Value} {p:Pr} (hi:rs[i]? =some (AE new b T ps)) (hj:rs[j]? =some (Bs e sz rows v)) (hij:j≠i) (hk:ps[k]? =some p) (hp:Pr.le p (is v)) (hl:∀r∈rows,r.length=sz)
  (kk:Tr L n E (Hp M0 w0 S ((rs.set j Bp).set i (AE new b T (ps.set k (slice sz rows))))) c Q):Tr L n E (Hp M0 w0 S rs) c Q:=Tr.conv (fun _ _ hs=>hs.JO hi hj hij hk hp hl) kk
end
theorem tA {β:Type} {f:β→List Pr} {l:List β} {k q m:Nat} {x:β} {qs:List Pr} (h:l[k]? =some x) (hq:(f x).take q++qs++(f x).drop (q+m)=f x):(l.map f).set k ((f x).take q++qs++(f x).drop (q+m))=l.map f:=by
 rw [hq]
 refine List.ext_getElem? fun i=> ?_
 rw [List.getElem?_set]
 by_cases hi:k=i
 ·
  subst hi
  rw [if_pos rfl,List.getElem?_map,h]
  have:=BN h
  rw [if_pos (by rw [List.length_map];exact this)];rfl
 · rw [if_neg hi]
theorem lS {β:Type} {f:β→List Pr} {l:List β} {k q m:Nat} {x:β} {qs:List Pr} (h:l[k]? =some x) (hq:(f x).take q++qs++(f x).drop (q+m)=f x):(l.map f).set ((k:Nat):Int).toNat ((f x).take q++qs++(f x).drop (q+m))=l.map f:=by
 rw [Int.toNat_natCast];exact tA h hq
section
variable {P:Program} {L:Lg P} {n:Fm} {fz:Nat} {E:Env} {M0:Av} {w0:World} {S:Nat→Prop} {rs:List Ap} {o:Oper} {g:Func} {M1:Av} {w1:World}
theorem Ss.gen {f:FuncId} {args args':List Pr} {pre:List Ap} {res:Pr} [Ja res] (hfz:∀M0 w0 S rs M w,Az M0 w0 S (pre++rs) M w→∃M',Ext M w M' w∧Az M0 w0 S rs M' w∧∀vs,HL M w args vs→HL M' w args' vs)
  (h:BC P f args' res):Ss P f args pre res pre:=by
 refine ⟨h.1,fun M0 w0 S rs M w vs hI hv=> ?_⟩
 obtain ⟨M',hx,P0,ha⟩:=hfz M0 w0 S rs M w hI
 refine (h.2 M' w vs P0.bd (ha vs hv)).mono ?_
 rintro e' w' ⟨u,rfl,h2,h3⟩
 exact ⟨u,M,(),rfl,trivial,Ja.free _ _ _ _ h2,Ext.below h3,(Hp M0 w0 S _).st _ _ _ h3 hI⟩
theorem Row.hd {M:Av} {w:World} {ad:Addr} {p q:Pr} {ps:List Pr} (h:Row M w ad 0 (p::ps)) (hq:∀u,p.h M w u→q.h M w u):Row M w ad 0 (q::ps):=by
 intro j r hr
 cases j with
 |zero=>
  simp at hr;subst hr
  obtain ⟨u,h1,h2,h3,h4⟩:=h 0 p rfl
  exact ⟨u,h1,h2,h3,hq u h4⟩
 |succ j=>exact h (j+1) r (by simpa using hr)
theorem Ss.look {f:FuncId} {wb ob:Nat} {WT OT e:TypeId} {wps ops rows ps:List Pr} {rws:List (List Pr)} {sz k:Nat} {v:Value} {res:Pr} [Ja res] (hk:ops[k]? =some (is v)) (hl:∀r∈rws,r.length=sz) (ho:ops.set k (slice sz rws)=rows)
  (h:BC P f (ref (ref rows::wps)::ps) res):Ss P f (ptr wb 0::ps) [AE true wb WT (ptr ob 0::wps),AE true ob OT ops,Bs e sz rws v] res [AE true wb WT (ptr ob 0::wps),AE true ob OT ops,Bs e sz rws v]:=by
 refine Ss.gen (fun M0 w0 S rs M w hI=> ?_) h
 obtain ⟨Ma,a1,a2⟩:=Az.JO (i:=1) (j:=2) (k:=k) hI rfl rfl AB hk hl
 rw [ho] at a2
 have a3:Az M0 w0 S (AE true ob OT rows::AE true wb WT (ptr ob 0::wps)::Bp::rs) Ma w:=Az.perm (List.Perm.swap _ _ _) a2
 obtain ⟨Mb,b1,b2,b3⟩:=Az.P4 a3
 obtain ⟨Mc,c1,c2,c3⟩:=Az.P4 b1
 refine ⟨Mc,(a1.trans b2).trans c2,c1.JK,fun vs hv=> ?_⟩
 match vs,hv with
 |u0::vs1,YL=>
  obtain ⟨Si,Ur⟩:=YL
  refine ⟨⟨⟨wb,0,none⟩,Si,c3.hd fun u hu=>⟨⟨ob,0,none⟩,hu,b3.st c2⟩⟩,Ur.st ((a1.trans b2).trans c2)⟩
theorem TO.re {Q:Exit→Act→World→Prop} {ops:Array Oper} {l:List Oper} {I:Ce} (s:Nat) {q:Pr} (p:Pr) (hs:E.lookup s=some q) (hl:Pr.le q p) (k:TO P n ops l ((s,p)::E) I Q):TO P n ops l E I Q:=by
 intro m hm a w hst
 refine k m hm a w ?_
 obtain ⟨M,h1,h2,he,h4⟩:=hst
 refine ⟨M,h1,h2,fun s' r hr=> ?_,h4⟩
 simp only [List.lookup] at hr
 split at hr
 ·
  rename_i e1
  have:s'=s:=by simpa using e1
  subst this
  simp only [Option.some.injEq] at hr
  subst hr
  exact hl _ _ _ (he _ _ hs)
 · exact he _ _ hr
theorem Fin.J7 {Q:Exit→Act→World→Prop} {x:Exit} {r r':Ap} (k:Fin n E (Hp M0 w0 S (r'::r::rs)) Q x):Fin n E (Hp M0 w0 S (r::r'::rs)) Q x:=
 Fin.conv (fun _ _ ⟨M,h1,h2,h3,h4⟩=>⟨M,h1,h2,h3,Az.perm (List.Perm.swap _ _ _) h4⟩) k
def PT (P:Program) (f:FuncId) (args:List Pr) (res:Value→Pr) (post:Value→List Ap):Prop:=Fj (α:=Value) P f args [] (fun _=>True) res post
theorem PT.of {f : FuncId} {c : Code} {ps : List Pr} {res : Value → Pr} {post : Value → List Ap} (hf : P.funcs[f]? = some g) (hb : g.body = some c) (hname : (g.name == "runtime.NumGoroutine") = false) (hlen : ps.length ≤ g.ntmps)
  (h:∀M0 w0 S rs M1 w1,Tr (YK P) g.ntmps (Ln 0 ps) (Hp M0 w0 S (Ak M1 w1::rs)) c (bodyPost P g (Ot M0 w0 S rs M1 w1 (fun _:Value=>True) res post))):PT P f ps res post:=
 Fj.of hf hb hname hlen h
theorem Fin.xz {rv:ResultVar} {q:Pr} {res:Value→Pr} {post:Value→List Ap} {rs':List Ap} (v:Value) (dr:List Ap) (hr:g.results= #[rv]) (h:AM P E rs' rv q) (hl:Pr.le q (res v)) (hp:rs'.Perm (dr++(post v++Ak M1 w1::rs))):
  Fin ⟨fz,[]⟩ E (Hp M0 w0 S rs') (bodyPost P g (Ot M0 w0 S rs M1 w1 (fun _:Value=>True) res post)) .ret:=by
 rintro a w ⟨M,_,hd,he,hi⟩
 have hi:Az M0 w0 S rs' M w:=hi
 obtain ⟨u,hu,hp'⟩:=h M w a he (fun q hq=>(hi.hold q hq).1)
 obtain ⟨h1,h2⟩:=Hu (Az.lO (Az.perm hp hi))
 exact ⟨hd,u,results1 hr hu,_,M,v,rfl,trivial,hl _ _ _ hp',h1,h2⟩
theorem TO.lT {Q:Exit→Act→World→Prop} {ops:Array Oper} {r:List Oper} {f:FuncId} {xs:Array Operand} {ts:Array TypeId} {ps:List Pr} {res:Value→Pr} {post:Value→List Ap} {d:Nat} (hg:o.guard=none) (hd:o.dst=some d) (hn:d<n) (ho:o.op= .call { callee:= .value (.func f),args:=xs,argTypes:=ts }) (hf:PT P f ps res post)
  (hv:Gz E xs.toList ps) (k:∀v,TO P n ops r ((d,res v)::E) (Hp M0 w0 S (post v++rs)) Q):TO P n ops (o::r) E (Hp M0 w0 S rs) Q:=
 TO.RY rs hg hd hn ho hf hv (List.Perm.refl _) fun v _=>k v
end
section
variable {P:Program} {L:Lg P} {n:Fm} {fz:Nat} {E:Env} {I:Ce} {Q:Exit→Act→World→Prop} {ops:Array Oper} {o:Oper} {r:List Oper} {g j:Nat} {b want:Bool}
theorem TO.cases (g:Nat) {b:Bool} {l:List Oper} (_hb:E.lookup g=some (bool b)) (ht:b=true→TO P n ops l E I Q) (hf:b=false→TO P n ops l E I Q):TO P n ops l E I Q:=by
 cases b
 · exact hf rfl
 · exact ht rfl
theorem TO.ABr (hg:o.guard=some (j,want)) (hj:(ops[j]?).bind (·.dst)=some g) (hb:E.lookup g=some (bool b)) (Lm:b=want) (h:∀(K:Act→World→Prop) M w (a:Act),a.tmps.size=n.sz→a.defers=n.df→FY M w E a→I.h M w→
  (∀E' I' a' w',TO P n ops r E' I' Q→St n E' I' a' w'→K a' w')→o.wp P a w K Q):TO P n ops (o::r) E I Q:=by
 intro k hl a w hs
 have h0:ops[k]? =some o:=by simpa using (hl 0).symm
 obtain ⟨M,hn,hd,he,hI⟩:=hs
 simp only [List.length_cons,List.range'_succ,wpS,h0]
 have hy:=Il (M:=M) (w:=w) (b:=some b) hj (he g _ hb)
 rw [HS hg hy,if_pos (by simp [Lm])]
 exact (h _ M w a hn hd he hI fun E' I' a' w' hT hst=>hT (k+1) (fun j=>by have:=hl (j+1);simpa [Nat.add_assoc,Nat.add_comm 1 j] using this) a' w' hst)
theorem TO.Hv {d:Nat} {p:Pr} (hg:o.guard=some (j,want)) (hj:(ops[j]?).bind (·.dst)=some g) (hb:E.lookup g=some (bool b)) (Lm:b=want) (hd:o.dst=some d) (hn:d<n) (h:Ae P I o E p) (k:TO P n ops r ((d,p)::E) I Q):TO P n ops (o::r) E I Q:=
 TO.ABr hg hj hb Lm fun K M w a h1 h2 h3 h4 hK=>by
  refine G0 (h M w a (CW h3) h4) fun v w' hv hb'=>hK _ _ _ _ k ⟨M,?_,?_,?_,I.st _ _ _ hb' h4⟩
  · rw [B6];exact h1
  · rw [put_defers];exact h2
  ·
   have:=h3.put (o:=o) (p:=p) hb' hv (fun d' hd'=>by rw [hd] at hd';cases hd';rw [h1];exact hn)
   rw [show upd o p E=(d,p)::E by unfold upd;rw [hd]] at this;exact this
theorem TO.VG {d:Nat} (hg:o.guard=some (j,want)) (hj:(ops[j]?).bind (·.dst)=some g) (hb:E.lookup g=some (bool b)) (Lm:b≠want) (hd:o.dst=some d) (hn:d<n) (kk:TO P n ops r ((d,is undef)::E) I Q):TO P n ops (o::r) E I Q:=by
 intro k hl a w hs
 have h0:ops[k]? =some o:=by simpa using (hl 0).symm
 obtain ⟨M,h1,h2,he,hI⟩:=hs
 simp only [List.length_cons,List.range'_succ,wpS,h0]
 have hy:=Il (M:=M) (w:=w) (b:=some b) hj (he g _ hb)
 rw [HS hg hy,if_neg (by simp [Lm])]
 refine kk (k+1) (fun j=>by have:=hl (j+1);simpa [Nat.add_assoc,Nat.add_comm 1 j] using this) _ w ⟨M,by rw [B6];exact h1,by rw [put_defers];exact h2,?_,hI⟩
 have:=he.put (o:=o) (p:=is undef) (v:=undef) (Below.refl w.heap.size w) rfl (fun d' hd'=>by rw [hd] at hd';cases hd';rw [h1];exact hn)
 rw [show upd o (is undef) E=(d,is undef)::E by unfold upd;rw [hd]] at this;exact this
variable {M0:Av} {w0:World} {S:Nat→Prop} {rs:List Ap}
theorem TO.lU {d:Nat} {p:Pr} (i:Nat) {R:Ap} {R':Ap} (hg:o.guard=some (j,want)) (hj:(ops[j]?).bind (·.dst)=some g) (hb:E.lookup g=some (bool b)) (Lm:b=want) (hR:rs[i]? =some R) (hd:o.dst=some d) (hn:d<n) (h:DC P M0 w0 S n i (SR.c R) (SR.c R') { o with guard:=none } E p)
  (k:TO P n ops r ((d,p)::E) (Hp M0 w0 S (rs.set i R')) Q):TO P n ops (o::r) E (Hp M0 w0 S rs) Q:=
 TO.ABr hg hj hb Lm fun K M w a hsz hdf he hI hK=>by
  have hw : ({ o with guard := none } : Oper).wp P a w K Q := Mg (h.2 M w a rs hsz (CW he) hI hR) fun v w' M' hv hx P0 => hK _ _ _ _ k ⟨M', by rw [B6]; exact hsz, by rw [put_defers]; exact hdf, by
   intro s q hq
   simp only [List.lookup] at hq
   by_cases hs:s=d
   · subst hs;simp at hq;subst hq;show p.h M' w' ((a.put o.dst v).tmps.getD s undef);rw [hd,B1 Gx];exact hv
   · rw [show (s==d)=false by simpa using hs] at hq;show q.h M' w' ((a.put o.dst v).tmps.getD s undef);rw [hd,BW hs];exact q.st _ _ _ _ _ hx (he s q hq),P0⟩
  exact hw
end
section
variable {P:Program} {L:Lg P} {E:Env} {I:Ce} {o:Oper}
end
class T1 (P:Program) (t:TypeId):Prop where
 h:ES P t=true
class TA (P:Program) (t:TypeId):Prop where
 h:Fb P t=true
class TZ (P:Program) (t:TypeId) (m:outParam Nat):Prop where
 h:A8 P t=some m
class TF (P:Program) (s f:Nat) (k:outParam Nat):Prop where
 h:Ab P s f=some k
class TU (P:Program) (t:TypeId) (d:outParam TypeDesc):Prop where
 h:P.underlying t=some d
class TB (P:Program) (t:TypeId) (place:outParam (Nat→Option (Nat×Nat))) (zs:outParam (List Value)):Prop where
 h:∀ps,P.built t ps=Instr.fill place zs.toArray ps
 z:zs.all (·.oneCell')=true
class TV (P:Program) (t:TypeId) (zs:outParam (List Value)):Prop where
 h:Bc P t=some zs
 z:zs.all (·.oneCell')=true
class TM (P:Program):Prop where
 h:P.follows .mixedOrders=true
section
variable {P:Program} {L:Lg P} {n:Fm} {fz:Nat} {I:Ce} {ops:Array Oper} {o:Oper} {r:List Oper} {E:Env} {K:Env→Prop} {d g j:Nat} {b want:Bool} {p:Pr} {x y:Operand} {Q:Exit→Act→World→Prop} {t u:TypeId}
theorem AFU [i:T1 P t] {ps:List Pr} (ho:o.op= .load t x) (hx:C4 E x=some (ref (p::ps))):Ae P I o E p:=Em ho i.h (vl hx)
theorem AFV [i:TA P t] {m:Nat} [z:TZ P t m] {ps qs:List Pr} (ho:o.op= .load t x) (hx:C4 E x=some (ref ps)) (hq:ps.take m=qs) (hm:qs.length=m):Ae P I o E (agg qs):=AP ho i.h z.h (vl hx) hq hm
theorem AFW {s:TypeId} {f k:Nat} [i:TF P s f k] {ps qs:List Pr} (ho:o.op= .fieldAddr s x f) (hx:C4 E x=some (ref ps)) (hq:ps.drop k=qs):Ae P I o E (ref qs):=Fc ho i.h (vl hx) hq
theorem AFX {s:TypeId} {f k:Nat} [i:TF P s f k] {b off:Nat} (ho:o.op= .fieldAddr s x f) (hx:C4 E x=some (ptr b off)):Ae P I o E (ptr b (off+k)):=AW ho i.h (vl hx)
theorem AFY {e:TypeId} [i:TU P t (.slice e)] {sz:Nat} {β:Type} {f:β→List Pr} {l:List β} (ho:o.op= .call { callee:= .builtin .len,args:= #[x],argTypes:= #[t] }) (hx:C4 E x=some (slice sz (l.map f))):Ae P I o E (int ((l.length:Nat):Int)):=CB ho i.h (vl hx)
theorem AFZ [i:TU P t .string] {a:List UInt8} (ho:o.op= .call { callee:= .builtin .len,args:= #[x],argTypes:= #[t] }) (hx:C4 E x=some (str a)):Ae P I o E (int ((a.length:Nat):Int)):=sZ ho i.h (vl hx)
theorem AFa [i:TU P t .bool] {b c:Bool} (ho:o.op= .binOp .eql t x y u) (hx:C4 E x=some (bool b)) (hy:C4 E y=some (bool c)):Ae P I o E (bool (b==c)):=w7 ho i.h (vl hx) (vl hy)
theorem AFb {p:Pr} [One p] (ho:o.op= .box t x) (hx:C4 E x=some p):Ae P I o E (ref [p]):=Bj ho (VL.le (vl hx) (Af p))
theorem AFc {ps:List Pr} (ho:o.op= .box t x) (hx:C4 E x=some (agg ps)):Ae P I o E (ref ps):=Bj ho (VL.le (vl hx) (Ad ps))
class CP (p:Pr) (ps:outParam (List Pr)):Prop where
 h:Pr.le p (DK ps)
instance AFd (ps:List Pr):CP (agg ps) ps:=⟨Ad ps⟩
instance (priority:=low) AFe (p:Pr) [One p]:CP p [p]:=⟨Af p⟩
class CQ (p:Pr) (ps:outParam (List Pr)):Prop where
 h:Pr.le p (DK ps)
instance AFf (ps:List Pr):CQ (agg ps) ps:=⟨Ad ps⟩
instance AFg (k:IntKind) (n:Int):CQ (is (.int k n)) [is (.int k n)]:=⟨Af _⟩
instance AD_ (b:Bool):CQ (is (.bool b)) [is (.bool b)]:=⟨Af _⟩
instance AFh (s:ByteArray):CQ (is (.string s)) [is (.string s)]:=⟨Af _⟩
instance AFi (a:Option Addr):CQ (is (.pointer a)) [is (.pointer a)]:=⟨Af _⟩
instance ABs (sz:Nat) (rows:List (List Pr)):CQ (slice sz rows) [slice sz rows]:=⟨Af _⟩
instance AFj (ps:List Pr):CQ (ref ps) [ref ps]:=⟨Af _⟩
instance AHF (f:Fn) (ps:List Pr):CQ (fn f ps) [fn f ps]:=⟨Af _⟩
theorem vf0:Yv E [] []:=trivial
theorem vf1 {i:Nat} {q:Pr} {row:List Pr} [c:CQ q row] {xs:List (Nat×Operand)} {rows:List (Nat×List Pr)} (hx:C4 E x=some q) (h:Yv E xs rows):Yv E ((i,x)::xs) ((i,row)::rows):=⟨⟨rfl,VL.le (vl hx) c.h⟩,h⟩
theorem vr0 {sz:Nat}:Ut E sz [] []:=trivial
theorem vr1 {sz:Nat} {q:Pr} {row:List Pr} [c:CQ q row] {xs:List Operand} {rows:List (List Pr)} (hx:C4 E x=some q) (hl:row.length=sz) (h:Ut E sz xs rows):Ut E sz (x::xs) (row::rows):=⟨⟨hl,VL.le (vl hx) c.h⟩,h⟩
theorem AFk {parts:Array (Nat×Operand)} {place:Nat→Option (Nat×Nat)} {zs:List Value} [i:TB P t place zs] {rows:List (Nat×List Pr)} {qs:List Pr} (ho:o.op= .build t parts) (hx:Yv E parts.toList rows) (hq:TL place (zs.map is) rows=some qs):Ae P I o E (agg qs):=Al ho i.h i.z hx hq
theorem AFl {e:TypeId} {sz m:Nat} {zs:List Value} {xs:List Operand} {parts:Array (Nat×Operand)} {rows:List (List Pr)} [i:TU P t (.slice e)] [z:TZ P e sz] [v:TV P e zs] (ho:o.op= .buildSlice t m parts) (hp:parts.toList.map Prod.snd=xs) (hm:(m==xs.length&&(parts.toList.map Prod.fst==List.range m)&&zs.length==sz&&Nat.blt 0 sz&&Nat.ble (m*sz) 16777216)=true) (hx:Ut E sz xs rows):Ae P I o E (full sz rows):=by
 simp only [Bool.and_eq_true,beq_iff_eq,Nat.blt_eq,Nat.ble_eq] at hm
 obtain ⟨⟨⟨⟨h1,h2⟩,h3⟩,h4⟩,h5⟩:=hm
 subst h1
 refine AO ho ?_ i.h z.h v.h h3 h4 hx h5
 refine List.ext_getElem (by rw [←hp];simp) fun k h6 h7=> ?_
 have h8:k<xs.length:=by simpa using h7
 simp only [List.getElem_map,List.getElem_zipIdx,Nat.zero_add]
 have e1:(parts.toList.map Prod.fst)[k]'(by simpa using h6)=k:=by simp only [h2];exact List.getElem_range _
 have e2:(parts.toList.map Prod.snd)[k]'(by simpa using h6)=xs[k]:=by simp only [hp]
 simp only [List.getElem_map] at e1 e2
 exact Prod.ext e1 e2
section
variable {M0:Av} {w0:World} {S:Nat→Prop} {b off:Nat} {T:TypeId} {new:Bool} {ps qs:List Pr} {m:Nat} {q:Pr}
theorem Lx [i:T1 P t] (ho:o.op= .load t x) (hx:C4 E x=some (ptr b off)) (hp:ps[off]? =some p):Jy P M0 w0 S j (SR.c (AE new b T ps)) o E p:=BB ho i.h (vl hx) hp
theorem Ly [i:TA P t] [z:TZ P t m] (ho:o.op= .load t x) (hx:C4 E x=some (ptr b off)) (hq:(ps.drop off).take m=qs) (hm:qs.length=m):Jy P M0 w0 S j (SR.c (AE new b T ps)) o E (agg qs):=B4 ho i.h z.h (vl hx) hq hm
theorem W6 {ps':List Pr} [z:TZ P t m] [c:CP q qs] (hg:o.guard=none) (ho:o.op= .store t x y) (hx:C4 E x=some (ptr b off)) (hy:C4 E y=some q) (hm:qs.length=m:=by rfl) (hl:Nat.ble (off+m) ps.length=true:=by rfl) (hps:ps.take off++qs++ps.drop (off+m)=ps':=by rfl):DC P M0 w0 S n j (SR.c (AE new b T ps)) (SR.c (AE new b T ps')) o E any:=Ay hg ho (vl hx) (VL.le (vl hy) c.h) z.h hm (Nat.le_of_ble_eq_true hl) hps
variable {rs:List Ap}
theorem sf (i s:Nat) [z:TZ P t m] [c:CP q qs] (hg:o.guard=none∧o.dst=none∧o.op= .store t x y) (hx:C4 E x=some (ptr b 0)) (hy:C4 E y=some q) (hi:rs[i]? =some (AE true b T ps)) (hs:E.lookup s=some (ptr b 0))
  (k:TO P n ops r ((s,ref qs)::E) (Hp M0 w0 S ((rs.set i (AE true b T qs)).eraseIdx i)) Q) (hm:qs.length=m:=by rfl) (hl:ps.length=m:=by rfl):TO P n ops (o::r) E (Hp M0 w0 S rs) Q:=
 TO.AK i hg.1 hg.2.1 hg.2.2 (vl hx) (VL.le (vl hy) c.h) hi z.h hm hl (TO.freeze (ps:=qs) i s (by
  have hlt:i<rs.length:=by rcases Nat.lt_or_ge i rs.length with h|h;exact h;rw [List.getElem?_eq_none h] at hi;cases hi
  rw [List.getElem?_set_self hlt]) hs k)
theorem sa (i:Nat) [z:TZ P t m] [c:CP q qs] (hg:o.guard=none∧o.dst=none∧o.op= .store t x y) (hx:C4 E x=some (ptr b 0)) (hy:C4 E y=some q) (hi:rs[i]? =some (AE new b T ps))
  (k:TO P n ops r E (Hp M0 w0 S (rs.set i (AE new b T qs))) Q) (hm:qs.length=m:=by rfl) (hl:ps.length=m:=by rfl):TO P n ops (o::r) E (Hp M0 w0 S rs) Q:=TO.AK i hg.1 hg.2.1 hg.2.2 (vl hx) (VL.le (vl hy) c.h) hi z.h hm hl k
end
def opk (o:Oper):Nat:=match o.op with
 | .move ..=>1
 | .assign ..=>1
 | .fieldAddr ..=>2
 | .load ..=>3
 | .binOp .add ..=>7
 | .binOp .sub ..=>8
 | .binOp ..=>4
 | .pick ..=>5
 | .nilCheck ..=>6
 | .call { callee:= .builtin .len,.. }=>9
 | .unOp ..=>10
 | .box ..=>11
 | .extract ..=>12
 | .makeFunc ..=>13
 | .build ..=>14
 | .buildSlice ..=>15
 | .store ..=>16
 |_=>0
def ABt (o:Oper):Bool:=o.guard.isNone
def grp (o:Oper):Nat:=if opk o=0 then 0 else if opk o<5 then 1 else if opk o<9 then 2 else if opk o<16 then 3 else 4
theorem AFm {m z:Int} (ho:o.op= .binOp .add t x y u) (hx:C4 E x=some (int m)) (hy:C4 E y=some (int z)) (hr: -9223372036854775808≤m+z∧m+z≤9223372036854775807):Ae P I o E (int (m+z)):=E0 ho (vl hx) (vl hy) hr
theorem AFn {m z:Int} (ho:o.op= .binOp .sub t x y u) (hx:C4 E x=some (int m)) (hy:C4 E y=some (int z)) (hr: -9223372036854775808≤m-z∧m-z≤9223372036854775807):Ae P I o E (int (m-z)):=Yo ho (vl hx) (vl hy) hr
theorem oF (h:Ae P I o E p:=by first|exact AFW rfl rfl rfl|exact AFX rfl rfl):Ae P I o E p:=h
theorem oL (h:Ae P I o E p:=by first|exact AFU rfl rfl|exact AFV rfl rfl rfl rfl|exact Ck 0 rfl (Lx rfl rfl rfl)|exact Ck 0 rfl (Ly rfl rfl rfl rfl)|exact Ck 1 rfl (Lx rfl rfl rfl)|exact Ck 1 rfl (Ly rfl rfl rfl rfl)|exact Ck 2 rfl (Lx rfl rfl rfl)|exact Ck 2 rfl (Ly rfl rfl rfl rfl)|exact Ck 3 rfl (Lx rfl rfl rfl)|exact Ck 3 rfl (Ly rfl rfl rfl rfl)|exact Ck 4 rfl (Lx rfl rfl rfl)|exact Ck 4 rfl (Ly rfl rfl rfl rfl)):Ae P I o E p:=h
theorem oB (h:Ae P I o E p:=by first|exact ki rfl rfl rfl rfl|exact xh rfl (vl rfl) (vl rfl)|exact xj rfl (vl rfl) (vl rfl)|exact AFa rfl rfl rfl):Ae P I o E p:=h
theorem oP (h:Ae P I o E p:=by first|exact Q9 rfl rfl (by first|rfl|assumption) rfl|exact Mk rfl rfl (by first|rfl|assumption) rfl|exact fO rfl (vl rfl) (vl rfl)|exact ZC rfl (vl rfl) (vl rfl)):Ae P I o E p:=h
theorem oN (h:Ae P I o E p:=by first|exact EF rfl (vl rfl)|exact JJ rfl (vl rfl)|exact Jx rfl (vl rfl)):Ae P I o E p:=h
theorem oA (h:Ae P I o E p:=by first|exact AFm rfl rfl rfl AA|exact ki rfl rfl rfl rfl):Ae P I o E p:=h
theorem oS (h:Ae P I o E p:=by first|exact AFn rfl rfl rfl AA|exact ki rfl rfl rfl rfl):Ae P I o E p:=h
theorem oC (h:Ae P I o E p:=by first|exact AFY rfl rfl|exact AFZ rfl rfl):Ae P I o E p:=h
theorem oU (h:Ae P I o E p:=by first|exact F2 rfl (vl rfl)):Ae P I o E p:=h
theorem oO (h:Ae P I o E p:=by first|exact AFc rfl rfl|exact AFb rfl rfl):Ae P I o E p:=h
theorem oE (h:Ae P I o E p:=by first|exact Aq rfl (vl rfl) rfl):Ae P I o E p:=h
theorem oM (h:Ae P I o E p:=by first|exact WO rfl rfl):Ae P I o E p:=h
theorem oD (h:Ae P I o E p:=by first|exact AFk rfl (by repeat any_goals first|exact vf0|refine' vf1 rfl ?_) (by rfl)):Ae P I o E p:=h
theorem oI (h:Ae P I o E p:=by first|exact AFl rfl rfl (by rfl) (by repeat any_goals first|exact vr0|refine' vr1 rfl (by rfl) ?_)):Ae P I o E p:=h
theorem kc0 {f:FuncId} {ts:Array TypeId} {res:Pr} (hf:BC P f [] res) (ho:o.op= .call { callee:= .value (.func f),args:= #[],argTypes:=ts }):Ae P I o E res:=AR ho hf trivial
theorem Ct {f:FuncId} {ts:Array TypeId} {x0:Operand} {p0:Pr} {res:Pr} (hf:BC P f [p0] res) (ho:o.op= .call { callee:= .value (.func f),args:= #[x0],argTypes:=ts }) (h0:C4 E x0=some p0):Ae P I o E res:=AR ho hf ⟨ke h0,trivial⟩
theorem CL {f:FuncId} {ts:Array TypeId} {x0:Operand} {p0:Pr} {x1:Operand} {p1:Pr} {res:Pr} (hf:BC P f [p0,p1] res) (ho:o.op= .call { callee:= .value (.func f),args:= #[x0,x1],argTypes:=ts }) (h0:C4 E x0=some p0) (h1:C4 E x1=some p1):Ae P I o E res:=AR ho hf ⟨ke h0,ke h1,trivial⟩
theorem LI {f:FuncId} {ts:Array TypeId} {x0:Operand} {p0:Pr} {x1:Operand} {p1:Pr} {x2:Operand} {p2:Pr} {res:Pr} (hf:BC P f [p0,p1,p2] res) (ho:o.op= .call { callee:= .value (.func f),args:= #[x0,x1,x2],argTypes:=ts }) (h0:C4 E x0=some p0) (h1:C4 E x1=some p1) (h2:C4 E x2=some p2):Ae P I o E res:=AR ho hf ⟨ke h0,ke h1,ke h2,trivial⟩
theorem jL {f:FuncId} {ts:Array TypeId} {x0:Operand} {p0:Pr} {x1:Operand} {p1:Pr} {x2:Operand} {p2:Pr} {x3:Operand} {p3:Pr} {res:Pr} (hf:BC P f [p0,p1,p2,p3] res) (ho:o.op= .call { callee:= .value (.func f),args:= #[x0,x1,x2,x3],argTypes:=ts }) (h0:C4 E x0=some p0) (h1:C4 E x1=some p1) (h2:C4 E x2=some p2) (h3:C4 E x3=some p3):Ae P I o E res:=AR ho hf ⟨ke h0,ke h1,ke h2,ke h3,trivial⟩
theorem kc5 {f:FuncId} {ts:Array TypeId} {x0:Operand} {p0:Pr} {x1:Operand} {p1:Pr} {x2:Operand} {p2:Pr} {x3:Operand} {p3:Pr} {x4:Operand} {p4:Pr} {res:Pr} (hf:BC P f [p0,p1,p2,p3,p4] res) (ho:o.op= .call { callee:= .value (.func f),args:= #[x0,x1,x2,x3,x4],argTypes:=ts }) (h0:C4 E x0=some p0) (h1:C4 E x1=some p1) (h2:C4 E x2=some p2) (h3:C4 E x3=some p3) (h4:C4 E x4=some p4):Ae P I o E res:=AR ho hf ⟨ke h0,ke h1,ke h2,ke h3,ke h4,trivial⟩
theorem cP (_:ABt o=true) (h:Ch P n I ops (o::r) E K):Ch P n I ops (o::r) E K:=h
theorem cG (_:ABt o=false) (h:Ch P n I ops (o::r) E K):Ch P n I ops (o::r) E K:=h
theorem cK (k:Nat) (_:opk o=k) (h:Ch P n I ops (o::r) E K):Ch P n I ops (o::r) E K:=h
theorem cS (k:Nat) (_:grp o=k) (h:Ch P n I ops (o::r) E K):Ch P n I ops (o::r) E K:=h
theorem tK (k:Nat) (_:opk o=k) (h:TO P n ops (o::r) E I Q):TO P n ops (o::r) E I Q:=h
theorem tG (k:Nat) (_:grp o=k) (h:TO P n ops (o::r) E I Q):TO P n ops (o::r) E I Q:=h
theorem Tr.rm [i:TM P] {id:Nat} {l:List Oper} (hB:Un l=true) (h:Ch P n I l.toArray l E (fun E'=>Fin n E' I Q .normal)) (hc:calm l=true:=by with_unfolding_all rfl):Tr L n E I (.region id l.toArray true) Q:=Tr.kD i.h hB h hc
theorem Tr.ct {c:Operand} {y z:Code} (hc:C4 E c=some (bool true)) (k:Tr L n E I y Q):Tr L n E I (.cond c y z) Q:=Tr.cond hc (fun _=>k) (fun h=>nomatch h)
theorem Tr.cf {c:Operand} {y z:Code} (hc:C4 E c=some (bool false)) (k:Tr L n E I z Q):Tr L n E I (.cond c y z) Q:=Tr.cond hc (fun h=>nomatch h) (fun _=>k)
structure lV (G:Prop):Prop where
 k:G
theorem Cx.mono {M0:Av} {w0:World} {S:Nat→Prop}:∀{l:List Oper} {E:Env} {rs:List SR} {K K':List X→Env→List SR→Prop},(∀L E rs,K L E rs→K' L E rs)→Cx P M0 w0 S n ops l E rs K→Cx P M0 w0 S n ops l E rs K'
 |[],_,_,_,_,h,k=>h _ _ _ k
 |_::_,_,_,_,_,h,⟨p,k,h1,h2,h3⟩=>⟨p,k,h1,h2,Cx.mono (fun _ _ _=>h _ _ _) h3⟩
theorem Cx.keys {M0:Av} {w0:World} {S:Nat→Prop}:∀{l:List Oper} {E:Env} {rs:List SR} {K:List X→Env→List SR→Prop},Cx P M0 w0 S n ops l E rs K→∃ks:List KN,Cx P M0 w0 S n ops l E rs (fun L E' rs'=>L.map (·.k.Lp)=ks∧K L E' rs')
 |[],_,_,_,k=>⟨[],rfl,k⟩
 |_::_,_,_,_,⟨p,k,h1,h2,h3⟩=>by
  obtain ⟨ks,h4⟩:=Cx.keys h3
  exact ⟨k.Lp::ks,p,k,h1,h2,Cx.mono (fun L E rs h=>⟨by rw [List.map_cons,h.1],h.2⟩) h4⟩
theorem Tr.rx {Lo:Lg P} [i:TM P] {M0:Av} {w0:World} {S:Nat→Prop} {id:Nat} {l:List Oper} {IC:List Ap}
  (h:Cx P M0 w0 S n l.toArray l E (IC.map SR.c) (fun L E' rs'=>Pz l (L.map (·.k.Lp))=true∧BJ n M0 w0 S E' rs' Q)) (hc:calm l=true:=by with_unfolding_all rfl):Tr Lo n E (Hp M0 w0 S IC) (.region id l.toArray true) Q:=by
 obtain ⟨ks,hk⟩:=Cx.keys h
 obtain ⟨L,h1,h2,h3⟩:=Up l 0 E _ hk
 exact Tr.GV i.h ks (by rw [←h3.1];exact h3.2.1) (hk.mono fun _ _ _ h=>⟨h.1,h.2.2⟩) hc
theorem al1 {rs:List Ap} {r0:Ap}:Aw (SR.c r0::rs.map SR.c) (r0::rs):= .cons (Aw.map _)
theorem W7 {rs:List Ap} {r0:Ap} {r1:Ap}:Aw (SR.c r0::SR.c r1::rs.map SR.c) (r0::r1::rs):= .cons (.cons (Aw.map _))
theorem al3 {rs:List Ap} {r0:Ap} {r1:Ap} {r2:Ap}:Aw (SR.c r0::SR.c r1::SR.c r2::rs.map SR.c) (r0::r1::r2::rs):= .cons (.cons (.cons (Aw.map _)))
theorem al4 {rs:List Ap} {r0:Ap} {r1:Ap} {r2:Ap} {r3:Ap}:Aw (SR.c r0::SR.c r1::SR.c r2::SR.c r3::rs.map SR.c) (r0::r1::r2::r3::rs):= .cons (.cons (.cons (.cons (Aw.map _))))
theorem al5 {rs:List Ap} {r0:Ap} {r1:Ap} {r2:Ap} {r3:Ap} {r4:Ap}:Aw (SR.c r0::SR.c r1::SR.c r2::SR.c r3::SR.c r4::rs.map SR.c) (r0::r1::r2::r3::r4::rs):= .cons (.cons (.cons (.cons (.cons (Aw.map _)))))
theorem al6 {rs:List Ap} {r0:Ap} {r1:Ap} {r2:Ap} {r3:Ap} {r4:Ap} {r5:Ap}:Aw (SR.c r0::SR.c r1::SR.c r2::SR.c r3::SR.c r4::SR.c r5::rs.map SR.c) (r0::r1::r2::r3::r4::r5::rs):= .cons (.cons (.cons (.cons (.cons (.cons (Aw.map _))))))
theorem fo {f : FuncId} {g : Func} {c : Code} {ps : List Pr} {res : Pr} (hf : P.funcs[f]? = some g) (hb : g.body = some c) (hname : ((g.name == "runtime.NumGoroutine") = false ∧ Nat.ble ps.length g.ntmps = true))
  (h:∀M0 w0,Tr (YK P) g.ntmps (Ln 0 ps) (Bse M0 w0) c (bodyPost P g (Sj M0 w0 res))):BC P f ps res:=BC.of hf hb hname.1 (Nat.le_of_ble_eq_true hname.2) h
section
variable {M0:Av} {w0:World} {S:Nat→Prop} {rs:List SR} {KX:List X→Env→List SR→Prop}
theorem xId {l:List Oper} (h:Cx P M0 w0 S n ops l E rs KX):Cx P M0 w0 S n ops l E rs KX:=h
theorem xK (k:Nat) (_:opk o=k) (h:Cx P M0 w0 S n ops (o::r) E rs KX):Cx P M0 w0 S n ops (o::r) E rs KX:=h
theorem xG (k:Nat) (_:grp o=k) (h:Cx P M0 w0 S n ops (o::r) E rs KX):Cx P M0 w0 S n ops (o::r) E rs KX:=h
end
theorem cId {l:List Oper} (h:Ch P n I ops l E K):Ch P n I ops l E K:=h
theorem rId {c:Code} (h:Tr L n E I c Q):Tr L n E I c Q:=h
theorem fId {e:Exit} (h:Fin n E I Q e):Fin n E I Q e:=h
theorem tId {l:List Oper} (h:TO P n ops l E I Q):TO P n ops l E I Q:=h
theorem ac {G H:Prop} (k:G) (h:lV G→H:=by
 intro k
 repeat1' first
  |((with_reducible refine cId ?_);first
   |with_reducible refine Ch.nil ?_
   |(refine cP rfl ?_;first
    |(refine cS 1 rfl ?_;first
      |(refine cK 1 rfl ?_;refine cm rfl ?_)
      |(refine cK 2 rfl ?_;refine co rfl oF ?_)
      |(refine cK 3 rfl ?_;refine co rfl oL ?_)
      |(refine cK 4 rfl ?_;refine co rfl oB ?_))
    |(refine cS 2 rfl ?_;first
      |(refine cK 5 rfl ?_;refine co rfl oP ?_)
      |(refine cK 6 rfl ?_;refine co rfl oN ?_)
      |(refine cK 7 rfl ?_;refine co rfl oA ?_)
      |(refine cK 8 rfl ?_;refine co rfl oS ?_))
    |(refine cS 3 rfl ?_;first
      |(refine cK 9 rfl ?_;refine co rfl oC ?_)
      |(refine cK 10 rfl ?_;refine co rfl oU ?_)
      |(refine cK 11 rfl ?_;refine co rfl oO ?_)
      |(refine cK 12 rfl ?_;refine co rfl oE ?_)
      |(refine cK 13 rfl ?_;refine co rfl oM ?_)
      |(refine cK 14 rfl ?_;refine co rfl oD ?_)
      |(refine cK 15 rfl ?_;refine co rfl oI ?_)))
   |(refine cG rfl ?_;first
    |refine cu rfl ?_
    |refine cnt Bh rfl ?_
    |refine cnf Bh rfl ?_
    |(refine cS 1 rfl ?_;first
      |(refine cK 1 rfl ?_;refine MM FI rfl ?_)
      |(refine cK 2 rfl ?_;refine cy FI rfl oF ?_)
      |(refine cK 3 rfl ?_;refine cy FI rfl oL ?_)
      |(refine cK 4 rfl ?_;refine cy FI rfl oB ?_))
    |(refine cS 2 rfl ?_;first
      |(refine cK 5 rfl ?_;refine cy FI rfl oP ?_)
      |(refine cK 6 rfl ?_;refine cy FI rfl oN ?_)
      |(refine cK 7 rfl ?_;refine cy FI rfl oA ?_)
      |(refine cK 8 rfl ?_;refine cy FI rfl oS ?_))
    |(refine cS 3 rfl ?_;first
      |(refine cK 9 rfl ?_;refine cy FI rfl oC ?_)
      |(refine cK 10 rfl ?_;refine cy FI rfl oU ?_)
      |(refine cK 11 rfl ?_;refine cy FI rfl oO ?_)
      |(refine cK 12 rfl ?_;refine cy FI rfl oE ?_)
      |(refine cK 13 rfl ?_;refine cy FI rfl oM ?_)
      |(refine cK 14 rfl ?_;refine cy FI rfl oD ?_)
      |(refine cK 15 rfl ?_;refine cy FI rfl oI ?_))
    |refine cnd rfl rfl ?_))
  |((with_reducible refine rId ?_);first
   |with_reducible refine Tr.seq ?_
   |with_reducible refine Tr.Aj ?_
   |refine Tr.rm BV ?_
   |with_reducible refine Tr.skip ?_
   |with_reducible refine Tr.block ?_
   |with_reducible refine Tr.ret ?_
   |with_reducible refine Tr.exit ?_
   |refine Tr.ct rfl ?_
   |refine Tr.cf rfl ?_)
  |((with_reducible refine fId ?_);first
   |with_reducible refine Fin.AF ?_
   |with_reducible refine Fin.AU ?_
   |with_reducible refine Fin.AY ?_
   |with_reducible refine Fin.Au ?_
   |refine Fin.Md rfl ?_
   |with_reducible refine Fin.block ?_
   |refine Fin.LF rfl (Br.D4 _ _) rfl ?_)
 first|with_reducible refine Fin.go ?_|with_reducible refine cId ?_|with_reducible refine tId ?_|with_reducible refine rId ?_|refine Fin.go ?_|skip
 exact k.k):H:=h ⟨k⟩
theorem ao {G H:Prop} (k:G) (h:lV G→H:=by
 intro k
 repeat1' first
  |((with_reducible refine tId ?_);first
   |with_reducible refine TO.nil ?_
   |(refine tG 1 rfl ?_;first
     |(refine tK 1 rfl ?_;refine tm rfl ?_)
     |(refine tK 2 rfl ?_;refine tp rfl oF ?_)
     |(refine tK 3 rfl ?_;refine tp rfl oL ?_)
     |(refine tK 4 rfl ?_;refine tp rfl oB ?_))
   |(refine tG 2 rfl ?_;first
     |(refine tK 5 rfl ?_;refine tp rfl oP ?_)
     |(refine tK 6 rfl ?_;refine tp rfl oN ?_)
     |(refine tK 7 rfl ?_;refine tp rfl oA ?_)
     |(refine tK 8 rfl ?_;refine tp rfl oS ?_))
   |(refine tG 3 rfl ?_;first
     |(refine tK 9 rfl ?_;refine tp rfl oC ?_)
     |(refine tK 10 rfl ?_;refine tp rfl oU ?_)
     |(refine tK 12 rfl ?_;refine tp rfl oE ?_)
     |(refine tK 13 rfl ?_;refine tp rfl oM ?_)
     |(refine tK 14 rfl ?_;refine tp rfl oD ?_)
     |(refine tK 15 rfl ?_;refine tp rfl oI ?_)))
  |((with_reducible refine rId ?_);first
   |with_reducible refine Tr.seq ?_
   |with_reducible refine Tr.Ao ?_
   |with_reducible refine Tr.skip ?_
   |with_reducible refine Tr.block ?_
   |with_reducible refine Tr.ret ?_
   |with_reducible refine Tr.exit ?_)
  |((with_reducible refine fId ?_);first
   |with_reducible refine Fin.AF ?_
   |with_reducible refine Fin.AU ?_
   |with_reducible refine Fin.AY ?_
   |with_reducible refine Fin.Au ?_
   |refine Fin.Md rfl ?_
   |with_reducible refine Fin.block ?_)
 first|with_reducible refine Fin.go ?_|with_reducible refine cId ?_|with_reducible refine tId ?_|with_reducible refine rId ?_|refine Fin.go ?_|skip
 exact k.k):H:=h ⟨k⟩
theorem ap {G H:Prop} (k:G) (h:lV G→H:=by
 intro k
 repeat1' first
  |((with_reducible refine tId ?_);first
   |with_reducible refine TO.nil ?_
   |(refine tG 1 rfl ?_;first
     |(refine tK 1 rfl ?_;refine tm rfl ?_)
     |(refine tK 2 rfl ?_;refine tp rfl oF ?_)
     |(refine tK 3 rfl ?_;refine tp rfl oL ?_)
     |(refine tK 4 rfl ?_;refine tp rfl oB ?_))
   |(refine tG 2 rfl ?_;first
     |(refine tK 5 rfl ?_;refine tp rfl oP ?_)
     |(refine tK 6 rfl ?_;refine tp rfl oN ?_)
     |(refine tK 7 rfl ?_;refine tp rfl oA ?_)
     |(refine tK 8 rfl ?_;refine tp rfl oS ?_))
   |(refine tG 3 rfl ?_;first
     |(refine tK 9 rfl ?_;refine tp rfl oC ?_)
     |(refine tK 10 rfl ?_;refine tp rfl oU ?_)
     |(refine tK 12 rfl ?_;refine tp rfl oE ?_)
     |(refine tK 13 rfl ?_;refine tp rfl oM ?_)
     |(refine tK 14 rfl ?_;refine tp rfl oD ?_)
     |(refine tK 15 rfl ?_;refine tp rfl oI ?_))
   |(refine tK 16 rfl ?_;first
    |refine sa 0 ⟨rfl,rfl,rfl⟩ rfl rfl rfl ?_
    |refine TO.DY 0 rfl rfl (W6 rfl rfl rfl rfl) ?_
    |refine sa 1 ⟨rfl,rfl,rfl⟩ rfl rfl rfl ?_
    |refine TO.DY 1 rfl rfl (W6 rfl rfl rfl rfl) ?_
    |refine sa 2 ⟨rfl,rfl,rfl⟩ rfl rfl rfl ?_
    |refine TO.DY 2 rfl rfl (W6 rfl rfl rfl rfl) ?_
    |refine sa 3 ⟨rfl,rfl,rfl⟩ rfl rfl rfl ?_
    |refine TO.DY 3 rfl rfl (W6 rfl rfl rfl rfl) ?_))
  |((with_reducible refine rId ?_);first
   |with_reducible refine Tr.seq ?_
   |with_reducible refine Tr.Ao ?_
   |with_reducible refine Tr.skip ?_
   |with_reducible refine Tr.block ?_
   |with_reducible refine Tr.ret ?_
   |with_reducible refine Tr.exit ?_)
  |((with_reducible refine fId ?_);first
   |with_reducible refine Fin.AF ?_
   |with_reducible refine Fin.AU ?_
   |with_reducible refine Fin.AY ?_
   |with_reducible refine Fin.Au ?_
   |refine Fin.Md rfl ?_
   |with_reducible refine Fin.block ?_)
 first|with_reducible refine Fin.go ?_|with_reducible refine cId ?_|with_reducible refine tId ?_|with_reducible refine rId ?_|refine Fin.go ?_|skip
 exact k.k):H:=h ⟨k⟩
theorem ax {G H:Prop} (k:G) (h:lV G→H:=by
 intro k
 repeat ((with_reducible refine xId ?_);first
   |(refine xG 1 rfl ?_;first
     |(refine xK 1 rfl ?_;refine xm rfl ?_)
     |(refine xK 2 rfl ?_;refine xo rfl (fun _=>oF) ?_)
     |(refine xK 3 rfl ?_;refine xo rfl (fun _=>oL) ?_)
     |(refine xK 4 rfl ?_;refine xo rfl (fun _=>oB) ?_))
   |(refine xG 2 rfl ?_;first
     |(refine xK 5 rfl ?_;refine xo rfl (fun _=>oP) ?_)
     |(refine xK 6 rfl ?_;refine xo rfl (fun _=>oN) ?_)
     |(refine xK 7 rfl ?_;refine xo rfl (fun _=>oA) ?_)
     |(refine xK 8 rfl ?_;refine xo rfl (fun _=>oS) ?_))
   |(refine xG 3 rfl ?_;first
     |(refine xK 9 rfl ?_;refine xo rfl (fun _=>oC) ?_)
     |(refine xK 10 rfl ?_;refine xo rfl (fun _=>oU) ?_)
     |(refine xK 11 rfl ?_;refine xo rfl (fun _=>oO) ?_)
     |(refine xK 12 rfl ?_;refine xo rfl (fun _=>oE) ?_)
     |(refine xK 13 rfl ?_;refine xo rfl (fun _=>oM) ?_)
     |(refine xK 14 rfl ?_;refine xo rfl (fun _=>oD) ?_))
   |(refine xK 3 rfl ?_;first
    |refine IF 0 rfl rfl (Lx rfl rfl rfl) ?_
    |refine IF 0 rfl rfl (Ly rfl rfl rfl rfl) ?_
    |refine IF 1 rfl rfl (Lx rfl rfl rfl) ?_
    |refine IF 1 rfl rfl (Ly rfl rfl rfl rfl) ?_
    |refine IF 2 rfl rfl (Lx rfl rfl rfl) ?_
    |refine IF 2 rfl rfl (Ly rfl rfl rfl rfl) ?_
    |refine IF 3 rfl rfl (Lx rfl rfl rfl) ?_
    |refine IF 3 rfl rfl (Ly rfl rfl rfl rfl) ?_
    |refine IF 4 rfl rfl (Lx rfl rfl rfl) ?_
    |refine IF 4 rfl rfl (Ly rfl rfl rfl rfl) ?_))
 exact k.k):H:=h ⟨k⟩
theorem ay {G H:Prop} (k:G) (h:lV G→H:=by
 intro k
 repeat ((with_reducible refine xId ?_);first
   |(refine xG 1 rfl ?_;first
     |(refine xK 1 rfl ?_;refine xm rfl ?_)
     |(refine xK 2 rfl ?_;refine xo rfl (fun _=>oF) ?_)
     |(refine xK 3 rfl ?_;refine xo rfl (fun _=>oL) ?_)
     |(refine xK 4 rfl ?_;refine xo rfl (fun _=>oB) ?_))
   |(refine xG 2 rfl ?_;first
     |(refine xK 5 rfl ?_;refine xo rfl (fun _=>oP) ?_)
     |(refine xK 6 rfl ?_;refine xo rfl (fun _=>oN) ?_)
     |(refine xK 7 rfl ?_;refine xo rfl (fun _=>oA) ?_)
     |(refine xK 8 rfl ?_;refine xo rfl (fun _=>oS) ?_))
   |(refine xG 3 rfl ?_;first
     |(refine xK 9 rfl ?_;refine xo rfl (fun _=>oC) ?_)
     |(refine xK 10 rfl ?_;refine xo rfl (fun _=>oU) ?_)
     |(refine xK 11 rfl ?_;refine xo rfl (fun _=>oO) ?_)
     |(refine xK 12 rfl ?_;refine xo rfl (fun _=>oE) ?_)
     |(refine xK 13 rfl ?_;refine xo rfl (fun _=>oM) ?_)
     |(refine xK 14 rfl ?_;refine xo rfl (fun _=>oD) ?_))
   |(refine xK 3 rfl ?_;first
    |refine IF 0 rfl rfl (Lx rfl rfl rfl) ?_
    |refine IF 0 rfl rfl (Ly rfl rfl rfl rfl) ?_
    |refine IF 1 rfl rfl (Lx rfl rfl rfl) ?_
    |refine IF 1 rfl rfl (Ly rfl rfl rfl rfl) ?_
    |refine IF 2 rfl rfl (Lx rfl rfl rfl) ?_
    |refine IF 2 rfl rfl (Ly rfl rfl rfl rfl) ?_
    |refine IF 3 rfl rfl (Lx rfl rfl rfl) ?_
    |refine IF 3 rfl rfl (Ly rfl rfl rfl rfl) ?_
    |refine IF 4 rfl rfl (Lx rfl rfl rfl) ?_
    |refine IF 4 rfl rfl (Ly rfl rfl rfl rfl) ?_)
   |(refine xK 16 rfl ?_;first
    |refine Cx.DY 0 rfl rfl (W6 rfl rfl rfl rfl) ?_
    |refine Cx.DY 1 rfl rfl (W6 rfl rfl rfl rfl) ?_
    |refine Cx.DY 2 rfl rfl (W6 rfl rfl rfl rfl) ?_
    |refine Cx.DY 3 rfl rfl (W6 rfl rfl rfl rfl) ?_))
 exact k.k):H:=h ⟨k⟩
theorem Ch.cg {l:List Oper} {b v:Bool} {g j:Nat} {pt pf:Prop} [ht:DU b true pt] [hf:DU b false pf] (_:o.guard=some (j,v)) (_:(ops[j]?.bind (·.dst))=some g) (hb:E.lookup g=some (bool b)) (k:b=true→pt→Ch P n I ops (o::l) E K) (k':b=false→pf→Ch P n I ops (o::l) E K):Ch P n I ops (o::l) E K:=Ch.cases g hb (fun h=>k h (ht.D7 h)) (fun h=>k' h (hf.D7 h))
theorem a2 {G H:Prop} (k:G) (h:lV G→H:=by
 intro k
 iterate 2 refine ac ?_
 exact k.k):H:=h ⟨k⟩
theorem a3 {G H:Prop} (k:G) (h:lV G→H:=by
 intro k
 iterate 3 refine ac ?_
 exact k.k):H:=h ⟨k⟩
theorem an {G L H:Prop} (k:G) (l:L) (h:lV G→lV L→H:=by
 intro k l
 refine ac ?_
 refine Tr.cn rfl ?_ ?_
 exact k.k
 exact l.k):H:=h ⟨k⟩ ⟨l⟩
theorem ag {G L H:Prop} (k:G) (l:L) (h:lV G→lV L→H:=by
 intro k l
 refine ac ?_
 refine Ch.cg rfl rfl rfl ?_ ?_
 exact k.k
 exact l.k):H:=h ⟨k⟩ ⟨l⟩
theorem Lr {p:Pr}:Pr.le p p:=Pr.le_refl p
theorem Vo {p:Pr} [One p] (h:C4 E x=some p):VL E x (DK [p]):=VL.le (vl h) (Af p)
theorem Va {ps:List Pr} (h:C4 E x=some (agg ps)):VL E x (DK ps):=VL.le (vl h) (Ad ps)
theorem Nb {a b:Nat} (h:Nat.ble a b=true):a≤b:=Nat.le_of_ble_eq_true h
theorem Kf {z:Nat} {l:List (List Pr)} (h:C4 E x=some (full z l)):VL E x (slice z l):=⟨_,h,B5 z l⟩
theorem Ka {v:Value} (h:C4 E x=some (Ac v p)):VL E x (is v):=⟨_,h,EK v p⟩
theorem Kb {v:Value} (h:C4 E x=some (Ac v p)):VL E x p:=⟨_,h,As v p⟩
theorem Ni {p:Pr} [One p] (h:C4 E x=some p:=by exact rfl):VL E x (DK [p]):=Vo h
theorem Cv {ps:List Pr} (h:C4 E x=some (agg ps):=by exact rfl):VL E x (DK ps):=Va h
theorem GX {z:Nat} {l:List (List Pr)} (h:C4 E x=some (full z l):=by exact rfl):VL E x (slice z l):=Kf h
theorem Kx {v:Value} (h:C4 E x=some (Ac v p):=by exact rfl):VL E x (is v):=Ka h
theorem IZ {v:Value} (h:C4 E x=some (Ac v p):=by exact rfl):VL E x p:=Kb h
theorem Tl {M0:Av} {w0:World} {S:Nat→Prop} {rs:List Ap} {T:TypeId} {zs:List Value} (hg:o.guard=none) (hd:o.dst=some d) (hn:Nat.blt d n=true) (ho:o.op= .alloc T) (hz:Bc P T=some zs) (h1':zs.all (·.oneCell')=true)
  (k:∀b,TO P n ops r ((d,is (.pointer (some ⟨b,0,none⟩)))::E) (Hp M0 w0 S (AE true b T (zs.map is)::rs)) Q):TO P n ops (o::r) E (Hp M0 w0 S rs) Q:=TO.alloc hg hd (Hq hn) ho hz h1' k
theorem B8 {M0:Av} {w0:World} {S:Nat→Prop} {t e:TypeId} {sz bytes:Nat} {zs:List Value} {rows rows':List (List Pr)} {R:SR} (hg:o.guard=none) (hd:o.dst=some d) (hn:Nat.blt d n=true) (ho:o.op= .call { callee:= .builtin .append,args:= #[x,y],argTypes:= #[t,t] })
  (ht:P.underlying t=some (.slice e)) (hz:A8 P e=some sz) (hby:Bx P e=some bytes) (Ee:Bc P e=some zs) (hx:VL E x (slice sz rows)) (hy:VL E y (slice sz rows'))
  (hR:∀M w (a:Act),Cb M w E o a→R.at_ a=At e sz (a.eval x)∨(R.at_ a=Bp∧Dg (a.eval x)=none)) (hzl:zs.length=sz:=by rfl) (hsz:Nat.blt 0 sz=true:=by rfl)
  (Gy:rows.length+rows'.length≤maxLen:=by simp only [List.length_map,List.length_append,List.length_cons,List.length_nil,List.length_replicate,List.length_take,List.length_drop];unfold maxLen;omega) (hfit:(rows.length+rows'.length)*bytes≤140737488355328:=by simp only [List.length_map,List.length_append,List.length_cons,List.length_nil,List.length_replicate,List.length_take,List.length_drop];omega):DC P M0 w0 S n j R ⟨d,At e sz⟩ o E (slice sz (rows++rows')):=ER hg hd (Hq hn) ho ht hz hby Ee hzl (Hq hsz) hx hy Gy hfit hR
end
end Cp
namespace Go.Proofs.YtmocaapoeefgkaaGreatDoor
open Go Cp
instance AEA:TM Tryz.prog:=⟨mixed⟩
instance AHj:TV Tryz.prog 3 [.int .i64 0]:=⟨z3,zo3⟩
instance AFo:T1 Tryz.prog 3:=⟨Cq⟩
instance AHG:TZ Tryz.prog 3 1:=⟨Bw⟩
instance AFp:T1 Tryz.prog 4:=⟨Yz⟩
instance AHH:TZ Tryz.prog 4 1:=⟨U0⟩
instance qu:TU Tryz.prog 4 .bool:=⟨Tryz.underlying4⟩
instance AHk:TV Tryz.prog 5 [.int .u8 0]:=⟨z5,zo5⟩
instance AFq:T1 Tryz.prog 5:=⟨AA6⟩
instance AHI:TZ Tryz.prog 5 1:=⟨Nh⟩
instance AHl:TV Tryz.prog 9 [.string (ByteArray.mk #[])]:=⟨z9,zo9⟩
instance AFr:T1 Tryz.prog 9:=⟨PM⟩
instance AHJ:TZ Tryz.prog 9 1:=⟨Ms⟩
instance qv:TU Tryz.prog 9 .string:=⟨Tryz.underlying9⟩
instance AEB:T1 Tryz.prog 22:=⟨Mt⟩
instance AFs:TZ Tryz.prog 22 1:=⟨Ls⟩
instance lW:TU Tryz.prog 22 (.slice 3):=⟨Tryz.underlying22⟩
instance AEC:T1 Tryz.prog 27:=⟨Oj⟩
instance lX:TU Tryz.prog 27 (.slice 40):=⟨Tryz.underlying27⟩
instance AED:T1 Tryz.prog 28:=⟨cE⟩
instance lY:TU Tryz.prog 28 (.slice 132):=⟨Tryz.underlying28⟩
instance AEE:T1 Tryz.prog 29:=⟨kg⟩
instance lZ:TU Tryz.prog 29 (.slice 135):=⟨Tryz.underlying29⟩
instance AFt:TB Tryz.prog 31 (fun i=>(#[(0,1),(1,1),(2,1)]:Array (Nat×Nat))[i]?) (List.replicate 3 (.slice none 0 0)):=⟨AA8,IG⟩
instance AEF:TA Tryz.prog 31:=⟨Db⟩
instance AFu:TZ Tryz.prog 31 3:=⟨DZ⟩
instance ABu:TF Tryz.prog 31 0 0:=⟨G8⟩
instance ABv:TF Tryz.prog 31 1 1:=⟨N2⟩
instance ABw:TF Tryz.prog 31 2 2:=⟨N3⟩
instance AEG:T1 Tryz.prog 32:=⟨Wj⟩
instance ld:TU Tryz.prog 32 (.slice 86):=⟨Tryz.underlying32⟩
instance AEH:T1 Tryz.prog 33:=⟨vh⟩
instance lf:TU Tryz.prog 33 (.slice 61):=⟨Tryz.underlying33⟩
instance AFv:TB Tryz.prog 35 (fun i=>(#[(0,1),(1,1),(2,1)]:Array (Nat×Nat))[i]?) (List.replicate 3 (.slice none 0 0)):=⟨Lt,E9⟩
instance AEI:TA Tryz.prog 35:=⟨Cu⟩
instance AFw:TZ Tryz.prog 35 3:=⟨CJ⟩
instance ABx:TF Tryz.prog 35 0 0:=⟨Lu⟩
instance ABy:TF Tryz.prog 35 1 1:=⟨kj⟩
instance ABz:TF Tryz.prog 35 2 2:=⟨U1⟩
instance AEJ:T1 Tryz.prog 38:=⟨vi⟩
instance AFx:TZ Tryz.prog 38 1:=⟨ko⟩
instance lp:TU Tryz.prog 38 (.slice 84):=⟨Tryz.underlying38⟩
instance AFy:TB Tryz.prog 40 (fun i=>(#[(0,1),(1,1),(2,1),(3,1),(4,1),(5,1),(6,1),(7,1),(8,1)]:Array (Nat×Nat))[i]?) [.string (ByteArray.mk #[]),.int .i64 0,.int .i64 0,.slice none 0 0,.bool false,.slice none 0 0,.slice none 0 0,.slice none 0 0,.bool false]:=⟨rO,Hs⟩
instance AEK:TA Tryz.prog 40:=⟨Cg⟩
instance AFz:TZ Tryz.prog 40 9:=⟨CC⟩
instance AB0:TF Tryz.prog 40 0 0:=⟨kr⟩
instance AB1:TF Tryz.prog 40 1 1:=⟨xF⟩
instance AB2:TF Tryz.prog 40 2 2:=⟨Y0⟩
instance AB3:TF Tryz.prog 40 3 3:=⟨N4⟩
instance AB4:TF Tryz.prog 40 4 4:=⟨xH⟩
instance AB5:TF Tryz.prog 40 5 5:=⟨RD⟩
instance AB6:TF Tryz.prog 40 6 6:=⟨ku⟩
instance AB7:TF Tryz.prog 40 7 7:=⟨k5⟩
instance AB8:TF Tryz.prog 40 8 8:=⟨Y1⟩
instance AF0:TB Tryz.prog 42 (fun i=>(#[(0,3),(3,1),(4,1),(5,1),(6,1)]:Array (Nat×Nat))[i]?) [.slice none 0 0,.slice none 0 0,.slice none 0 0,.int .i64 0,.slice none 0 0,.slice none 0 0,.bool false]:=⟨rP,J0⟩
instance AEL:TA Tryz.prog 42:=⟨Ea⟩
instance AF1:TZ Tryz.prog 42 7:=⟨ET⟩
instance AB9:TF Tryz.prog 42 0 0:=⟨Y2⟩
instance AB_:TF Tryz.prog 42 1 3:=⟨k6⟩
instance ACA:TF Tryz.prog 42 2 4:=⟨Y3⟩
instance ACB:TF Tryz.prog 42 3 5:=⟨Y4⟩
instance ACC:TF Tryz.prog 42 4 6:=⟨xI⟩
instance AEM:T1 Tryz.prog 43:=⟨AA_⟩
instance AHK:TV Tryz.prog 51 [.slice none 0 0]:=⟨z51,ABA⟩
instance AEN:T1 Tryz.prog 51:=⟨cF⟩
instance AF2:TZ Tryz.prog 51 1:=⟨Gn⟩
instance lq:TU Tryz.prog 51 (.slice 3):=⟨Tryz.underlying51⟩
instance AF3:TB Tryz.prog 61 (fun i=>(#[(0,1),(1,1)]:Array (Nat×Nat))[i]?) (List.replicate 2 (.int .i64 0)):=⟨ABB,RE⟩
instance AHL:TV Tryz.prog 61 (List.replicate 2 (.int .i64 0)):=⟨Sc,RE⟩
instance AEO:TA Tryz.prog 61:=⟨Fh⟩
instance AF4:TZ Tryz.prog 61 2:=⟨Cr⟩
instance ACD:TF Tryz.prog 61 0 0:=⟨Y5⟩
instance ACE:TF Tryz.prog 61 1 1:=⟨Y6⟩
instance AEP:T1 Tryz.prog 75:=⟨ABC⟩
instance lu:TU Tryz.prog 75 (.slice 141):=⟨Tryz.underlying75⟩
instance AEQ:TA Tryz.prog 77:=⟨Ol⟩
instance AF5:TZ Tryz.prog 77 3:=⟨Wl⟩
instance ACF:TF Tryz.prog 77 0 0:=⟨xL⟩
instance ACG:TF Tryz.prog 77 1 1:=⟨xM⟩
instance ACH:TF Tryz.prog 77 2 2:=⟨xN⟩
instance AF6:TB Tryz.prog 81 (fun i=>(#[(0,1),(1,1)]:Array (Nat×Nat))[i]?) (List.replicate 2 (.int .i64 0)):=⟨xO,EU⟩
instance AHM:TV Tryz.prog 81 (List.replicate 2 (.int .i64 0)):=⟨Kv,EU⟩
instance AER:TA Tryz.prog 81:=⟨JL⟩
instance AF7:TZ Tryz.prog 81 2:=⟨LG⟩
instance ACI:TF Tryz.prog 81 0 0:=⟨xP⟩
instance ACJ:TF Tryz.prog 81 1 1:=⟨xQ⟩
instance AES:T1 Tryz.prog 82:=⟨ABF⟩
instance AF8:TZ Tryz.prog 82 1:=⟨ABE⟩
instance l5:TU Tryz.prog 82 (.slice 189):=⟨Tryz.underlying82⟩
instance AF9:TB Tryz.prog 84 (fun i=>(#[(0,2),(2,1),(3,1)]:Array (Nat×Nat))[i]?) [.int .i64 0,.int .i64 0,.int .i64 0,.slice none 0 0]:=⟨ABG,So⟩
instance AET:TA Tryz.prog 84:=⟨Om⟩
instance AF_:TZ Tryz.prog 84 4:=⟨E3⟩
instance ACK:TF Tryz.prog 84 0 0:=⟨xR⟩
instance ACL:TF Tryz.prog 84 1 2:=⟨xS⟩
instance ACN:TF Tryz.prog 84 2 3:=⟨k7⟩
instance AEU:TA Tryz.prog 86:=⟨HW⟩
instance AGA:TZ Tryz.prog 86 8:=⟨Dp⟩
instance ACO:TF Tryz.prog 86 0 0:=⟨xT⟩
instance ACP:TF Tryz.prog 86 1 1:=⟨xU⟩
instance ACQ:TF Tryz.prog 86 2 2:=⟨xV⟩
instance ACR:TF Tryz.prog 86 3 3:=⟨xW⟩
instance ACS:TF Tryz.prog 86 4 4:=⟨xX⟩
instance AHN:TV Tryz.prog 99 [.slice none 0 0]:=⟨z99,AFN⟩
instance AEV:T1 Tryz.prog 99:=⟨ABH⟩
instance AGB:TZ Tryz.prog 99 1:=⟨rQ⟩
instance l6:TU Tryz.prog 99 (.slice 51):=⟨Tryz.underlying99⟩
instance AEW:TB Tryz.prog 104 (fun i=>(#[(0,1),(1,1)]:Array (Nat×Nat))[i]?) [.slice none 0 0,.int .i64 0]:=⟨ABI,ABJ⟩
instance zv:TF Tryz.prog 104 0 0:=⟨rR⟩
instance zw:TF Tryz.prog 104 1 1:=⟨rS⟩
instance ACT:T1 Tryz.prog 105:=⟨xY⟩
instance jM:TU Tryz.prog 105 (.slice 270):=⟨Tryz.underlying105⟩
instance AEX:TB Tryz.prog 107 (fun i=>(#[(0,1)]:Array (Nat×Nat))[i]?) [.slice none 0 0]:=⟨JM,Eb⟩
instance ACU:TA Tryz.prog 107:=⟨CS⟩
instance AEY:TZ Tryz.prog 107 1:=⟨Bn⟩
instance zx:TF Tryz.prog 107 0 0:=⟨cH⟩
instance ACV:T1 Tryz.prog 111:=⟨Y8⟩
instance ACW:TA Tryz.prog 114:=⟨N5⟩
instance AEZ:TZ Tryz.prog 114 2:=⟨TT⟩
instance zy:TF Tryz.prog 114 0 0:=⟨U2⟩
instance ACX:TA Tryz.prog 116:=⟨RF⟩
instance AEa:TZ Tryz.prog 116 2:=⟨Wm⟩
instance ACY:T1 Tryz.prog 127:=⟨xZ⟩
instance AEb:TZ Tryz.prog 127 1:=⟨vk⟩
instance jN:TU Tryz.prog 127 (.slice 9):=⟨Tryz.underlying127⟩
instance jO:TU Tryz.prog 128 (.slice 22):=⟨Tryz.underlying128⟩
instance ACZ:TA Tryz.prog 132:=⟨RG⟩
instance AEc:TZ Tryz.prog 132 2:=⟨Ez⟩
instance zz:TF Tryz.prog 132 0 0:=⟨rT⟩
instance z7:TF Tryz.prog 132 1 1:=⟨rU⟩
instance ACa:T1 Tryz.prog 133:=⟨xd⟩
instance jP:TU Tryz.prog 133 (.slice 198):=⟨Tryz.underlying133⟩
instance AEd:TB Tryz.prog 135 (fun i=>(#[(0,1),(1,1),(2,1),(3,1),(4,1)]:Array (Nat×Nat))[i]?) [.string (ByteArray.mk #[]),.int .i64 0,.int .i64 0,.slice none 0 0,.int .i64 0]:=⟨ABP,Wo⟩
instance AGC:TV Tryz.prog 135 [.string (ByteArray.mk #[]),.int .i64 0,.int .i64 0,.slice none 0 0,.int .i64 0]:=⟨U4,Wo⟩
instance ACb:TA Tryz.prog 135:=⟨U3⟩
instance AEe:TZ Tryz.prog 135 5:=⟨HX⟩
instance z8:TF Tryz.prog 135 0 0:=⟨rV⟩
instance z_:TF Tryz.prog 135 1 1:=⟨rW⟩
instance AAA:TF Tryz.prog 135 2 2:=⟨rX⟩
instance AAB:TF Tryz.prog 135 3 3:=⟨U5⟩
instance AAC:TF Tryz.prog 135 4 4:=⟨rY⟩
instance AEf:TB Tryz.prog 139 (fun i=>(#[(0,1),(1,1)]:Array (Nat×Nat))[i]?) (List.replicate 2 (.int .i64 0)):=⟨ABQ,ABR⟩
instance AAD:TF Tryz.prog 139 0 0:=⟨rZ⟩
instance AAE:TF Tryz.prog 139 1 1:=⟨rj⟩
instance AGD:TV Tryz.prog 141 [.int .i64 0,.int .i64 0,.slice none 0 0]:=⟨z141,RI⟩
instance AEg:TZ Tryz.prog 141 3:=⟨II⟩
instance AAF:TF Tryz.prog 141 0 0:=⟨ru⟩
instance AAG:TF Tryz.prog 141 1 2:=⟨ry⟩
instance jQ:TU Tryz.prog 143 (.slice 81):=⟨Tryz.underlying143⟩
instance ACc:T1 Tryz.prog 160:=⟨xe⟩
instance ACd:T1 Tryz.prog 181:=⟨F9⟩
instance ACe:TA Tryz.prog 187:=⟨xg⟩
instance AEh:TZ Tryz.prog 187 2:=⟨k_⟩
instance AAH:TF Tryz.prog 187 0 0:=⟨rz⟩
instance AAI:TF Tryz.prog 187 1 1:=⟨r6⟩
instance AGE:TV Tryz.prog 189 [.int .i64 0,.string (ByteArray.mk #[]),.string (ByteArray.mk #[]),.int .i64 0,.int .i64 0,.int .i64 0,.int .i64 0,.int .i64 0,.int .i64 0,.int .i64 0,.bool false,.int .i64 0,.slice none 0 0,.int .i64 0,.int .i64 0]:=⟨RJ,LU⟩
instance ACf:TA Tryz.prog 189:=⟨F_⟩
instance AEi:TZ Tryz.prog 189 15:=⟨C8⟩
instance AAJ:TF Tryz.prog 189 0 0:=⟨r7⟩
instance AAK:TF Tryz.prog 189 1 1:=⟨r8⟩
instance x5:TF Tryz.prog 189 10 12:=⟨Wp⟩
instance x6:TF Tryz.prog 189 11 13:=⟨RK⟩
instance AAL:TF Tryz.prog 189 2 2:=⟨r9⟩
instance AAM:TF Tryz.prog 189 3 3:=⟨r_⟩
instance AAN:TF Tryz.prog 189 4 5:=⟨sA⟩
instance AAO:TF Tryz.prog 189 5 6:=⟨sB⟩
instance AAP:TF Tryz.prog 189 6 8:=⟨sC⟩
instance AAQ:TF Tryz.prog 189 7 9:=⟨sD⟩
instance AAR:TF Tryz.prog 189 8 10:=⟨sE⟩
instance AAS:TF Tryz.prog 189 9 11:=⟨sF⟩
instance AEj:TB Tryz.prog 198 (fun i=>(#[(0,2),(2,1)]:Array (Nat×Nat))[i]?) (List.replicate 3 (.int .i64 0)):=⟨ABY,wA⟩
instance AGF:TV Tryz.prog 198 (List.replicate 3 (.int .i64 0)):=⟨z198,wA⟩
instance AEk:TZ Tryz.prog 198 3:=⟨J2⟩
instance AAT:TF Tryz.prog 198 0 0:=⟨sG⟩
instance AAU:TF Tryz.prog 198 1 2:=⟨sH⟩
instance ACg:T1 Tryz.prog 232:=⟨J3⟩
instance jR:TU Tryz.prog 232 (.slice 181):=⟨Tryz.underlying232⟩
instance AAV:TF Tryz.prog 234 0 0:=⟨sI⟩
instance AAW:TF Tryz.prog 234 1 1:=⟨It⟩
instance ACh:T1 Tryz.prog 241:=⟨lA⟩
instance jS:TU Tryz.prog 241 (.slice 5):=⟨Tryz.underlying241⟩
instance AEl:TB Tryz.prog 247 (fun i=>(#[(0,1),(1,1),(2,2),(4,2),(6,2),(8,2),(10,1),(11,1)]:Array (Nat×Nat))[i]?) [.int .i64 0,.string (ByteArray.mk #[]),.int .i64 0,.int .i64 0,.int .i64 0,.int .i64 0,.int .i64 0,.int .i64 0,.int .i64 0,.int .i64 0,.int .i64 0,.int .i64 0]:=⟨Wq,IJ⟩
instance ACi:TA Tryz.prog 247:=⟨Iu⟩
instance AEm:TZ Tryz.prog 247 12:=⟨Fv⟩
instance AAX:TF Tryz.prog 247 2 2:=⟨sK⟩
instance AAY:TF Tryz.prog 247 3 4:=⟨sL⟩
instance AAZ:TF Tryz.prog 247 4 6:=⟨sM⟩
instance AAa:TF Tryz.prog 247 5 8:=⟨sN⟩
instance AAb:TF Tryz.prog 247 6 10:=⟨sO⟩
instance AAc:TF Tryz.prog 247 7 11:=⟨sP⟩
instance AEn:TB Tryz.prog 268 (fun i=>(#[(0,1),(1,1)]:Array (Nat×Nat))[i]?) (List.replicate 2 (.int .i64 0)):=⟨TW,Fi⟩
instance AGG:TV Tryz.prog 268 (List.replicate 2 (.int .i64 0)):=⟨JZ,Fi⟩
instance ACj:TA Tryz.prog 268:=⟨Cy⟩
instance AEo:TZ Tryz.prog 268 2:=⟨CG⟩
instance AAd:TF Tryz.prog 268 1 1:=⟨sQ⟩
instance AEp:TB Tryz.prog 270 (fun i=>(#[(0,1),(1,1),(2,2)]:Array (Nat×Nat))[i]?) [.int .i64 0,.slice none 0 0,.int .i64 0,.int .i64 0]:=⟨cL,RL⟩
instance AGH:TV Tryz.prog 270 [.int .i64 0,.slice none 0 0,.int .i64 0,.int .i64 0]:=⟨sS,RL⟩
instance AEq:TZ Tryz.prog 270 4:=⟨Fw⟩
instance jT:TU Tryz.prog 274 (.slice 99):=⟨Tryz.underlying274⟩
instance ACk:T1 Tryz.prog 283:=⟨U6⟩
instance AEr:TB Tryz.prog 285 (fun i=>(#[(0,1),(1,1),(2,1),(3,1)]:Array (Nat×Nat))[i]?) [.int .i64 0,.slice none 0 0,.bool false,.slice none 0 0]:=⟨lB,LV⟩
instance ACl:TA Tryz.prog 285:=⟨DN⟩
instance AEs:TZ Tryz.prog 285 4:=⟨Ci⟩
instance AAe:TF Tryz.prog 285 0 0:=⟨sU⟩
instance AAf:TF Tryz.prog 285 1 1:=⟨U7⟩
instance AAg:TF Tryz.prog 285 2 2:=⟨sV⟩
instance AAh:TF Tryz.prog 285 3 3:=⟨Mu⟩
instance AEt:TB Tryz.prog 290 (fun i=>(#[(0,1),(1,1)]:Array (Nat×Nat))[i]?) [.string (ByteArray.mk #[]),.int .i64 0]:=⟨ABe,wD⟩
instance AGI:TV Tryz.prog 290 [.string (ByteArray.mk #[]),.int .i64 0]:=⟨AFP,wD⟩
instance AEu:TZ Tryz.prog 290 2:=⟨wC⟩
instance AAi:TF Tryz.prog 290 1 1:=⟨sW⟩
instance jU:TU Tryz.prog 291 (.slice 290):=⟨Tryz.underlying291⟩
instance jV:TU Tryz.prog 331 (.slice 268):=⟨Tryz.underlying331⟩
end Go.Proofs.YtmocaapoeefgkaaGreatDoor
namespace Go.Proofs.YtmocaapoeefgkaaGreatDoor
open Go Go.RowKit Cp Go.Proofs.Tryz
abbrev ints (l:List Int):Pr:=slice 1 (l.map fun n=>[int n])
def idx {β:Type} (p:β→Bool) (l:List β):Int:=match l.findIdx? p with|some i=>i|none=> -1
theorem EO {β:Type} {p:β→Bool} {l:List β} {k:Nat} {x:β} (hx:l[k]? =some x) (hp:p x=true) (h:∀j y,j<k→l[j]? =some y→p y=false):(k:Int)=idx p l:=by
 have:l.findIdx? p=some k:=by
  rw [List.findIdx?_eq_some_iff_getElem]
  have hk:k<l.length:=by rcases Nat.lt_or_ge k l.length with h|h;exact h;rw [List.getElem?_eq_none h] at hx;cases hx
  rw [List.getElem?_eq_getElem hk] at hx
  simp only [Option.some.injEq] at hx
  refine ⟨hk,by rw [hx];exact hp,fun j hj=> ?_⟩
  simpa using h j _ hj (List.getElem?_eq_getElem AA)
 unfold idx;rw [this]
theorem FA {β:Type} {p:β→Bool} {l:List β} (h:∀j y,j<l.length→l[j]? =some y→p y=false):(-1:Int)=idx p l:=by
 have:l.findIdx? p=none:=by
  rw [List.findIdx?_eq_none_iff]
  intro x hx
  obtain ⟨j,hj,rfl⟩:=List.mem_iff_getElem.1 hx
  exact h j _ hj (List.getElem?_eq_getElem hj)
 unfold idx;rw [this]
theorem P7 {β:Type} (p:β→Bool) (l:List β):decide (idx p l≥0)=l.any p:=by
 unfold idx
 cases h:l.findIdx? p with
 |none=>rw [List.findIdx?_eq_none_iff] at h;simp;intro x hx;simpa using h x hx
 |some i=>
  rw [List.findIdx?_eq_some_iff_getElem] at h
  obtain ⟨h1,h2,_⟩:=h
  simp
  exact ⟨_,List.getElem_mem h1,h2⟩
theorem DV {β:Type} {p:β→Bool} {l:List β} {k:Nat} {x:β} (hx:l[k]? =some x) (hp:p x=false) (h:∀j y,j<k→l[j]? =some y→p y=false):∀j y,j<k+1→l[j]? =some y→p y=false:=by
 intro j y hj hy
 by_cases hjk:j=k
 · subst hjk;rw [hx] at hy;cases hy;exact hp
 · exact h j y AA hy
theorem VH {l:List Int} {p:Int→Bool}  :BC prog 145 [ints l,Yn prog (fun x:Int=>[int x]) (fun x=>bool (p x))] (int (idx p l)):=by
 refine fo func145 rfl ⟨rfl,rfl⟩ fun M0 w0=>(Tr.Cf 0 rfl fun D_=> ?_)
 refine a2 ?_
 refine Tr.block (Tr.BD _ (kk [7,1,0] rfl) (fun k:Nat=>[(8,int ((k:Nat):Int))]) (fun k:Nat=>k≤(l).length∧(∀j y,j<k→l[j]? =some y→p y=false)) (fun k:Nat=>(l).length-k) 0 (⟨Nat.zero_le _,fun j y hj=>absurd hj AA⟩) kz ?_)
 rintro k ⟨BR,AX⟩
 refine ac ?_
 refine Tr.seq ?_
 refine Tr.cn rfl ?_ ?_<;>intro h1 q1
 have Ai:k<(l).length:=AH h1
 obtain ⟨x,Ah⟩:=at_ Ai
 · repeat' first|exact int_eq (EO Ah Bh AX)|exact Fin.AL (k+1) ⟨⟨Ai,DV Ah Bh AX⟩,by omega⟩ ⟨⟨_,rfl,AG k⟩,kz⟩|refine co rfl (AD rfl underlying22 Bw vq vq AA CM) ?_|refine co rfl (F5 rfl Cq rfl) (co rfl (Jr x rfl vq kz) ?_)|refine ac ?_|(refine Tr.cn rfl ?_ ?_<;>intro h q)
 have BM:k=(l).length:=by have:=AJ h1;omega
 subst BM
 refine a3 ?_
 · exact int_eq (FA AX)
theorem JP {l:List Int} {p:Int→Bool}  :BC prog 84 [ints l,Yn prog (fun x:Int=>[int x]) (fun x=>bool (p x))] (bool (l.any p)):=by
 refine fo func84 rfl ⟨rfl,rfl⟩ fun M0 w0=> ?_
 refine a2 ?_
 refine co rfl (CL (VH) rfl rfl rfl) ?_
 refine a2 ?_
 · exact bool_eq (P7 p l)
end Go.Proofs.YtmocaapoeefgkaaGreatDoor
namespace Go.Proofs.YtmocaapoeefgkaaGreatDoor
open Go Go.RowKit Cp Go.ChangeShapes Go.WideShapes Go.ChangeAt Go.Proofs.Tryz
theorem AGJ:ownKnob Tryz.prog.godebug=none:=by kernel_rfl
theorem l9:laidOutB Tryz.prog=true:=by kernel_rfl
theorem i64_in {n:Int} (h:(Lit.int .i64 n).wf=true):Oc n:=by
 simp only [Lit.wf,Bool.and_eq_true,decide_eq_true_eq] at h
 have h1:IntKind.i64.min= -9223372036854775808:=rfl
 have h2:IntKind.i64.max=9223372036854775807:=rfl
 unfold Oc;omega
theorem ZE {P:Program} {t e:TypeId} (ht:P.underlying t=some (.slice e)) (he:P.underlying e=some (.int .i64)) (hc:P.cellsOf e=1):Mn P t (fun l:List Int=>l.length≤maxLen∧∀n∈l,Oc n) (fun l=>[ints l]):=
 (Wd ht hc (fI he)).map id (fun _ h=>⟨h.2,fun n hn=>i64_in (h.1 n hn)⟩) (fun _=>rfl)
end Go.Proofs.YtmocaapoeefgkaaGreatDoor
namespace Go.Proofs.YtmocaapoeefgkaaGreatDoor
open Go Go.RowKit Cp Go.Proofs.Tryz
abbrev Dc (b:Nat) (s:DS):Ap:=Wf 104 b s
theorem tB (n:Int) {k:Int} (hk:1≤k):(n.tmod k+k).tmod k=n % k:=by
 have h1: -k<n.tmod k:=by have:=Int.lt_tmod_of_pos n (b:=k) AA;omega
 rw [Int.tmod_eq_emod_of_nonneg AA,Int.tmod_def,show n-k*n.tdiv k+k=n+k*(1-n.tdiv k) by rw [Int.mul_sub];omega,Int.add_mul_emod_self_left]
theorem x7 (n:Int) {k:Int} (hk:1≤k): -k<n.tmod k∧n.tmod k<k:=by
 have h1:=Int.lt_tmod_of_pos n (b:=k) AA
 have h2:=Int.tmod_lt_of_pos n (b:=k) AA
 omega
theorem tC {l:List Int}  :BC prog 10 [ints l] (bool (decide (l.length≤400))):=by
 refine fo func10 rfl ⟨rfl,rfl⟩ fun M0 w0=> ?_
 refine a3 ?_
 · exact Pp
theorem ACm {n k:Int} (hk:1≤k) (hk2:k≤1000000000):BC prog 68 [int n,int k] (int (n % k)):=by
 refine fo func68 rfl ⟨rfl,rfl⟩ fun M0 w0=> ?_
 have hm:=x7 n hk
 have hp:=tB n hk
 · repeat' first|(exfalso;omega)|(refine int_eq ?_;exact hp)|refine co rfl (Uo rfl vq vq AA) ?_|refine ac ?_|(refine Tr.cn rfl ?_ ?_<;>intro h q)
theorem Ca {b:Nat} {s:DS} {n:Int} (hn:1≤n) (hn2:n≤1000000000):Ba prog 16 [ptr b 0,int n] (int (s.val n)) (Dc b s) (fun _=>Dc b s.Cd):=by
 refine Ba.of func16 rfl rfl BA fun M0 w0 S rs M1 w1=> ?_
 have hs:=s.h
 have VI:=s.h2
 refine ac ?_
 refine an ?_ ?_<;>intro h1 q1
 refine ac ?_
 refine Tr.ret (Fin.AF ?_)
 rw [DS.rN (s:=s) AA]
 refine Fin.GW [] rfl (AM.tmp rfl Lr) ?_ (fun _ _ _ _=>rfl)
 · refine int_eq ?_;exact (DS.rM AA n).symm
 have hlt:s.at_<s.l.length:=by omega
 obtain ⟨x,hx⟩:=at_ hlt
 refine ac ?_
 refine ap ?_
 refine wk [1,0] rfl ?_
 refine ac ?_
 refine co rfl (AD rfl underlying22 Bw vq vq AA (by rw [show ((s.at_:Nat):Int)+1-1=((s.at_:Nat):Int) by omega];exact Aa hx)) ?_
 refine ac ?_
 refine co rfl (CL (ACm AA AA) rfl rfl rfl) ?_
 refine ac ?_
 refine wk [4] rfl (Tr.ret ?_)
 rw [DS.xB hlt]
 refine Fin.GW [] rfl (AM.tmp rfl Lr) ?_ (fun _ _ _ _=>rfl)
 · refine int_eq ?_;exact (DS.xA hx n).symm
theorem W8 {b:Nat} {s:DS} {l:List Int} (hl:l≠[]) (hl2:l.length≤1000000000):Ba prog 34 [ptr b 0,ints l] (int (s.of l)) (Dc b s) (fun _=>Dc b s.Cd):=by
 refine Ba.of func34 rfl rfl BA fun M0 w0 S rs M1 w1=> ?_
 have hl0:1≤(l.length:Int):=by have:=List.length_pos_iff.2 hl;omega
 have hv:=s.DD hl0
 obtain ⟨x,hx⟩:=at_ (l:=l) (k:=(s.val l.length).toNat) AA
 refine ac ?_
 refine ap ?_
 refine TO.G4 0 rfl rfl AB (An rfl rfl AB rfl (Ca AA AA) ⟨kq,kz⟩) (tp rfl (AD rfl underlying22 Bw vq vq AA (Bf hx)) ?_)
 refine ap ?_
 refine Tr.ret (Fin.GW [] rfl (AM.tmp rfl Lr) ?_ (fun _ _ _ _=>rfl))
 · refine int_eq ?_;unfold DS.of;rw [hx];rfl
theorem l_ {b:Nat} {s:DS} {n:Int} (hn:1≤n) (hn2:n≤1000000000):Ba prog 39 [ptr b 0,int n] (bool (s.val n==n-1)) (Dc b s) (fun _=>Dc b s.Cd):=by
 refine Ba.of func39 rfl rfl BA fun M0 w0 S rs M1 w1=> ?_
 refine ac ?_
 refine ap ?_
 refine TO.G4 0 rfl rfl AB (An rfl rfl AB rfl (Ca AA AA) ⟨kq,kz⟩) ?_
 refine ap ?_
 refine Tr.ret (Fin.GW [] rfl (AM.tmp rfl Lr) ?_ (fun _ _ _ _=>rfl))
 · exact Lr
def tD (l:List Int) (hl:l.length≤1000000000) (v:Value):Ap:=match v with| .pointer (some a)=>Wf 104 a.block ⟨l,0,Nat.zero_le _,hl⟩|_=>Bp
theorem x8 {l:List Int} (hl:l.length≤1000000000):Ba prog 12 [ints l] (ex fun b=>ptr b 0) (Bp) (tD l hl):=by
 refine Ba.of func12 rfl rfl BA fun M0 w0 S rs M1 w1=> ?_
 refine ac ?_
 refine ap ?_
 refine TO.Uv rfl rfl AB rfl Cv (fun b1=> ?_)
 refine ap ?_
 refine Tr.ret (Fin.drop 1 ?_)
 refine Fin.GW [] rfl (AM.tmp rfl Lr) ?_ (by rintro _ _ _ rfl;rfl)
 · exact Ax b1 Lr
-- no type cipherplan/api.Fact here
-- no type cipherplan/api.AEv here
-- no type cipherplan/AHO.place here
theorem wK {d:Nat} {w:World} {x0 y0:Int} {x1 y1:Int}:(Op.equalIn (d+2) 81 (.agg #[.int .i64 x0,.int .i64 x1]) (.agg #[.int .i64 y0,.int .i64 y1])).run Tryz.prog w= .ok (decide (x0=y0∧x1=y1)) w:=by
 have h:=eqS (w:=w) (d:=d+1) (xs:= #[.int .i64 x0,.int .i64 x1]) (ys:= #[.int .i64 y0,.int .i64 y1]) Tryz.underlying81 BV (E_ AB (CH Cq rfl) (CH Cq rfl) (GN (d:=d+0) Tryz.underlying3) (E_ AB (CH Cq rfl) (CH Cq rfl) (GN (d:=d+0) Tryz.underlying3) (Mw)))
 refine h.trans (congrArg (fun b=>Result.ok b w) ?_)
 rw [Bool.eq_iff_iff];simp [and_assoc]
theorem P8 {E:Env} {I:Ce} {o:Oper} {u:TypeId} {x y:Operand} {x0 y0:Int} {x1 y1:Int} (ho:o.op= .binOp .eql 81 x y u) (hx:VL E x (agg [is (.int .i64 x0),is (.int .i64 x1)])) (hy:VL E y (agg [is (.int .i64 y0),is (.int .i64 y1)])):Ae Tryz.prog I o E (bool (decide (x0=y0∧x1=y1))):=
 Mv [.int .i64 x0,.int .i64 x1] [.int .i64 y0,.int .i64 y1] ho hx hy BV (fun w=>by rw [show Op.equal 81 _ _=Op.equalIn (9998+2) 81 _ _ from rfl];exact wK)
theorem P9 {E:Env} {I:Ce} {o:Oper} {u:TypeId} {x y:Operand} {x0 y0:Int} {x1 y1:Int} (ho:o.op= .binOp .neq 81 x y u) (hx:VL E x (agg [is (.int .i64 x0),is (.int .i64 x1)])) (hy:VL E y (agg [is (.int .i64 y0),is (.int .i64 y1)])):Ae Tryz.prog I o E (bool (!decide (x0=y0∧x1=y1))):=
 RP [.int .i64 x0,.int .i64 x1] [.int .i64 y0,.int .i64 y1] ho hx hy BV (fun w=>by rw [show Op.equal 81 _ _=Op.equalIn (9998+2) 81 _ _ from rfl];exact wK)
def Jb (a b:Int):Int:=if a<b then -1 else if b<a then 1 else 0
def orF (l:List Int):Int:=(l.find? fun x=>x !=0).getD 0
theorem tE {l:List Int} {k:Nat} {x:Int} (hx:l[k]? =some x) (h0:¬x=0) (h:∀j y,j<k→l[j]? =some y→(y !=0)=false):x=orF l:=by
 unfold orF
 have:l.find? (fun x=>x !=0)=some x:=by
  rw [List.find?_eq_some_iff_getElem]
  have hk:k<l.length:=by rcases Nat.lt_or_ge k l.length with h|h;exact h;rw [List.getElem?_eq_none h] at hx;cases hx
  rw [List.getElem?_eq_getElem hk] at hx
  simp only [Option.some.injEq] at hx
  refine ⟨by simpa using h0,k,hk,hx,fun j hj=> ?_⟩
  have:=h j _ hj (List.getElem?_eq_getElem AA)
  simpa using this
 rw [this];rfl
theorem mA {l:List Int} (h:∀j y,j<l.length→l[j]? =some y→(y !=0)=false):0=orF l:=by
 unfold orF
 have:l.find? (fun x=>x !=0)=none:=by
  rw [List.find?_eq_none]
  intro x hx
  obtain ⟨j,hj,rfl⟩:=List.mem_iff_getElem.1 hx
  have:=h j _ hj (List.getElem?_eq_getElem hj)
  simpa using this
 rw [this];rfl
def okc (c:UInt8):Bool:=decide (33≤c.toNat∧c.toNat≤126)
def named (s:List UInt8):Bool:=s.all okc&&decide (1≤s.length∧s.length≤32)
theorem VJ {β:Type} {p:β→Bool} {l:List β} {k:Nat} {x:β} (hx:l[k]? =some x) (hp:p x=false):l.all p=false:=by
 rw [Bool.eq_false_iff];intro h;rw [List.all_eq_true] at h;rw [h x (List.mem_of_getElem? hx)] at hp;cases hp
theorem M4 {β:Type} {p:β→Bool} {l:List β} (h:∀j y,j<l.length→l[j]? =some y→(!p y)=false):l.all p=true:=by
 rw [List.all_eq_true]
 intro y hy
 obtain ⟨j,hj⟩:=List.mem_iff_getElem?.1 hy
 have:=h j y af hj
 simpa using this
theorem mB {n:Int}  :BC prog 166 [int n] (bool false):=by
 refine fo func166 rfl ⟨rfl,rfl⟩ fun M0 w0=> ?_
 refine a3 ?_
 · exact bool_eq AV
theorem ZF {a b:Int}  :BC prog 115 [int a,int b] (int (Jb a b)):=by
 refine fo func115 rfl ⟨rfl,rfl⟩ fun M0 w0=> ?_
 · repeat' first|exact absurd h AB|(refine int_eq ?_;unfold Jb;(repeat split)<;>omega)|refine co rfl (Ct (mB) rfl rfl) ?_|refine ac ?_|(refine Tr.cn rfl ?_ ?_<;>intro h q)
theorem ACn {l:List Int}  :BC prog 223 [ints l] (int (orF l)):=by
 refine fo func223 rfl ⟨rfl,rfl⟩ fun M0 w0=>(Tr.Cf 0 rfl fun D_=> ?_)
 refine a3 ?_
 refine Tr.block (Tr.BD _ (kk [7,6,3] rfl) (fun k:Nat=>[(8,int ((k:Nat):Int))]) (fun k:Nat=>k≤(l).length∧(∀j y,j<k→l[j]? =some y→(y !=0)=false)) (fun k:Nat=>(l).length-k) 0 (⟨Nat.zero_le _,fun j y hj=>absurd hj AA⟩) kz ?_)
 rintro k ⟨BR,AX⟩
 refine ac ?_
 refine Tr.seq ?_
 refine Tr.cn rfl ?_ ?_<;>intro h1 q1
 have Ai:k<(l).length:=AH h1
 obtain ⟨x,Ah⟩:=at_ Ai
 refine ac ?_
 refine Tr.seq (Tr.block (Tr.seq (Tr.Aj (co rfl (AD rfl underlying22 Bw vq vq AA CM) ?_))))
 · repeat' first|exact int_eq (tE Ah Bh AX)|exact Fin.AL (k+1) ⟨⟨Ai,DV (p:=fun y=>y !=0) Ah (by simpa using by assumption) AX⟩,by omega⟩ ⟨⟨_,rfl,AG k⟩,kz⟩|refine ac ?_|(refine Tr.cn rfl ?_ ?_<;>intro h q)
 have BM:k=(l).length:=by have:=AJ h1;omega
 subst BM
 refine a3 ?_
 · exact int_eq (mA AX)
theorem Gp {s:List UInt8}  :BC prog 196 [str s] (bool (named s)):=by
 refine fo func196 rfl ⟨rfl,rfl⟩ fun M0 w0=> ?_
 refine ac ?_
 refine ag ?_ ?_<;>intro h1 q1
 refine a3 ?_
 · exact bH
 refine an ?_ ?_<;>intro h2 q2
 refine a2 ?_
 · exact bH
 refine a2 ?_
 refine Tr.block (Tr.BD _ (kk [0] rfl) (fun k:Nat=>[(3,int ((k:Nat):Int))]) (fun k:Nat=>k≤(s).length∧(∀j y,j<k→s[j]? =some y→(!okc y)=false)) (fun k:Nat=>(s).length-k) 0 (⟨Nat.zero_le _,fun j y hj=>absurd hj AA⟩) kz ?_)
 rintro k ⟨BR,AX⟩
 refine an ?_ ?_<;>intro h3 q3
 have Ai:k<(s).length:=AH h3
 obtain ⟨c,Ah⟩:=at_ Ai
 · repeat' first|(refine bool_eq ?_;unfold named;rw [VJ (p:=okc) Ah (by simp [okc];omega)];rfl)|(exact Fin.AL (k+1) ⟨⟨Ai,DV (p:=fun c=> !okc c) Ah (by simp [okc];omega) AX⟩,by omega⟩ ⟨⟨_,rfl,AG k⟩,kz⟩)|refine co rfl (U8 rfl underlying9 vq vq AA (U9 Bh)) ?_|refine cy h rfl (U8 rfl underlying9 vq vq AA (U9 Bh)) ?_|refine ac ?_|(refine Tr.cn rfl ?_ ?_<;>intro h q)|(refine Ch.cg rfl rfl rfl ?_ ?_<;>intro h q)
 have BM:k=(s).length:=by have:=AJ h3;omega
 subst BM
 refine a3 ?_
 · refine bool_eq ?_;unfold named;rw [M4 AX,Bool.true_and];symm;rw [decide_eq_true_eq];omega
structure ZG where
 name:List UInt8
 kind:Int
 way:Int
 sizes:List Int
 Te:List Int
def IK:List ZG:=[⟨[],0,0,[],[]⟩,⟨[109,100,53],1,0,[],[18]⟩,⟨[115,104,97,49],1,0,[],[60]⟩,⟨[115,104,97,50,53,54],1,0,[],[128]⟩,⟨[115,104,97,51,56,52],1,0,[],[192]⟩,⟨[114,115,97],2,1,[],[]⟩,⟨[100,115,97],2,1,[],[]⟩,⟨[101,99,100,115,97],2,2,[],[]⟩,⟨[101,100,50,53,53,49,57],2,0,[],[128]⟩,⟨[109,108,100,115,97],2,3,[44,65,87],[128,192,256]⟩,⟨[114,115,97,107,120],3,1,[],[]⟩,⟨[100,104,101],3,1,[],[]⟩,⟨[101,99,100,104,101],3,2,[],[]⟩,⟨[109,108,107,101,109],3,3,[512,768,1024],[128,192,256]⟩,⟨[114,99,52],4,3,[40,128],[40,60]⟩,⟨[100,101,115,51],4,3,[112,168],[80,112]⟩,⟨[97,101,115,99,98,99],4,3,[128,256],[128,256]⟩,⟨[97,101,115,103,99,109],4,3,[128,256],[128,256]⟩,⟨[99,104,97,99,104,97],4,0,[],[256]⟩,⟨[104,109,97,99,109,100,53],5,0,[],[64]⟩,⟨[104,109,97,99,115,104,97,49],5,0,[],[80]⟩,⟨[104,109,97,99,115,104,97,50,53,54],5,0,[],[128]⟩,⟨[97,101,97,100],5,0,[],[256]⟩]
def cO:ZG:=⟨[],0,0,[],[]⟩
def Es (CF:Int):ZG:=if 1≤CF∧CF≤22 then (IK[CF.toNat]?).getD cO else cO
theorem Ov {CF:Int} (h:1≤CF∧CF≤22):IK[CF.toNat]? =some (Es CF):=by
 have hl:CF.toNat<IK.length:=by show CF.toNat<23;omega
 unfold Es;rw [if_pos h,List.getElem?_eq_getElem hl];rfl
theorem fR {CF:Int} (h:1≤CF∧CF≤22):Es CF∈IK:=List.mem_of_getElem? (Ov h)
def mods:List (Int×Int):=[(1024,56),(2048,80),(3072,112),(7680,128),(15360,192)]
def ACo:List (Int×Int)→Int→Int
 |[],_=>256
 |p::l,b=>if b<p.1 then p.2 else ACo l b
def yA (b:Int):Int:=ACo mods b
def aX:List Int:=[160,224,256,384,521]
def Dr (CF bits:Int):Int:=
 if 1 ≤ CF ∧ CF ≤ 22 then
  if (Es CF).way=0 then (if bits=0 then ((Es CF).Te[0]?).getD 0 else 0)
  else if (Es CF).way=1 then (if 512≤bits∧bits≤16384 then yA bits else 0)
  else if (Es CF).way=2 then (if (aX.any fun x=>bits==x)=true then bits.tdiv 2 else 0)
  else if (Es CF).way=3 then (if 0≤idx (fun x=>bits==x) (Es CF).sizes then ((Es CF).Te[(idx (fun x=>bits==x) (Es CF).sizes).toNat]?).getD 0 else 0)
  else 0
 else 0
structure HJ where
 Hw:Int
 J8:List UInt8
 HZ:List UInt8
 PU:Int
 JQ:Int
 CR:Int
 VK:Int
 M6:Int
 from_:Int
 N8:Int
 auth:Bool
 path:Int
 names:List (List UInt8)
 fS:Int
 fT:Int
abbrev fU (l:List (List UInt8)):Pr:=slice 1 (l.map fun t=>[str t])
abbrev DO (c:HJ):List Pr:=[int c.Hw,str c.J8,str c.HZ,int c.PU,int c.JQ,int c.CR,int c.VK,int c.M6,int c.from_,int c.N8,bool c.auth,int c.path,fU c.names,int c.fS,int c.fT]
abbrev LW (l:List HJ):Pr:=slice 15 (l.map DO)
structure HJ.fits (c:HJ):Prop where
 J8:c.J8.length≤maxLen
 HZ:c.HZ.length≤maxLen
 names:∀s∈c.names,s.length≤maxLen
def H9 (n:Int):Bool:=decide (0≤n)&&decide (n≤2147483648)
def yB (n:Int):Bool:=decide (0≤n)&&decide (n<4294967296)
def Ky (o:List UInt8) (c:UInt8):Bool:=decide (97≤c.toNat∧c.toNat≤122)||decide (65≤c.toNat∧c.toNat≤90)||decide (48≤c.toNat∧c.toNat≤57)||decide (0≤Lib.indexByte o c)
def Qv (s:List UInt8):Bool:=s.all (Ky [45,95,46])&&decide (1≤s.length∧s.length≤32)
def nameAt (l:List (List UInt8)) (i:Nat):Bool:=named (l[i]?.getD [])&&(decide (i=0)||decide (Lib.compareBytes (l[i-1]?.getD []) (l[i]?.getD [])= -1))
def G_ (l:List (List UInt8)):Bool:=allI (nameAt l) l.length&&decide (l.length≤8)
def LO (CF bits kind:Int):Bool:=decide (Dr CF bits>0)&&(Es CF).kind==kind
def EA (c:HJ):Bool:=
 (decide (0≤c.Hw)&&decide (c.Hw≤1099511627776)&&named c.J8&&named c.HZ&&G_ c.names)&&
 (LO c.PU c.JQ 2&&H9 c.CR&&LO c.VK c.M6 1&&H9 c.fS&&yB c.fT)&&
 (decide (0≤c.from_)&&decide (c.from_≤c.N8)&&decide (c.N8≤40000))&&(decide (0≤c.path)&&decide (c.path≤8)&&(c.auth||c.path==0))
def VM (CF bits id:Int) (l:List HJ):Bool:=LO CF bits 2&&H9 id&&decide (l.length≤8)&&l.all EA&&match l with|[]=>true|c::_=>decide (c.PU=CF∧c.JQ=bits)&&c.CR==id
structure Hx where
 CF:Int
 bits:Int
 CR:Int
 chain:List HJ
abbrev FB (x:Hx):List Pr:=[int x.CF,int x.bits,int x.CR,LW x.chain]
abbrev yC (l:List Hx):Pr:=slice 4 (l.map FB)
def Hx.fits (x:Hx):Prop:=∀c∈x.chain,c.fits
structure CA where
 name:List UInt8
 least:Int
 most:Int
 A0:List Int
 own:Bool
 ids:List Hx
 anchors:List Int
 hashes:List Int
 LJ:Bool
abbrev Bg (e:CA):List Pr:=[str e.name,int e.least,int e.most,ints e.A0,bool e.own,yC e.ids,ints e.anchors,ints e.hashes,bool e.LJ]
structure CA.fits (e:CA):Prop where
 name:e.name.length≤maxLen
 ids:∀x∈e.ids,x.fits
def IL (l:List Int) (i:Nat):Bool:=decide (i=0)||decide (l[i-1]?.getD 0<l[i]?.getD 0)
def fV (l:List Int):Bool:=allI (IL l) l.length
def GO (l:List Int) (i:Nat):Bool:=decide (1≤l[i]?.getD 0∧l[i]?.getD 0≤16)&& !((l.take i).any fun x=>l[i]?.getD 0==x)
def Kz (l:List Int):Bool:=allI (GO l) l.length
def Rb (n:Int):Bool:=(Es n).kind==1
def idB (x:Hx):Bool:=VM x.CF x.bits x.CR x.chain
def GY (e:CA):Bool:=
 (Qv e.name&&decide (1≤e.least)&&decide (e.least≤e.most)&&decide (e.most≤4)&&Kz e.A0)&&
 (decide (e.ids.length≤4)&&decide (e.anchors.length≤16)&&fV e.anchors&&fV e.hashes)&&e.ids.all idB&&e.anchors.all H9&&e.hashes.all Rb
theorem getD_at {β:Type} {l:List β} {k:Nat} {x d:β} (h:l[k]? =some x):l[k]?.getD d=x:=by rw [h];rfl
abbrev DP:List Pr:=[any,any,any,any,any,any,any,any,any,any,any,any]
abbrev M7:List (List Pr):=[DP,DP,DP,DP,DP,DP,DP,DP,DP,DP,DP,DP,DP,DP,DP,DP]
theorem mC {k:Nat} (hk:k<16):M7[k]? =some DP:=by
 have hk':k<M7.length:=hk
 rw [List.getElem?_eq_getElem hk']
 have:∀r∈M7,r=DP:=by intro r hr;simp at hr;exact hr
 rw [this _ (List.getElem_mem hk')]
theorem fW {i:Nat} {p:Pr} (h:DP[i]? =some p):p=any:=by have:=List.mem_of_getElem? h;simp at this;exact this
theorem VN {ps:List Pr} (h:ps.length=12):Pr.le (agg ps) (agg DP):=fun M w v ⟨cs,h1,h2,h3⟩=>⟨cs,h1,h2,HL.vY (by rw [h3.length,h];rfl) fun i p v hp _=>by rw [fW hp];trivial⟩
def mD (CF bits id:Int) (l:List HJ):Bool:=match l with|[]=>true|c::_=>decide (c.PU=CF∧c.JQ=bits)&&c.CR==id
theorem fX {CF bits id:Int} {l:List HJ} (h:l.length=0):mD CF bits id l=true:=by rw [List.eq_nil_of_length_eq_zero h];rfl
theorem W9 {CF bits id:Int} {l:List HJ} {c:HJ} (h:l[0]? =some c):mD CF bits id l=(decide (c.PU=CF∧c.JQ=bits)&&c.CR==id):=by
 cases l with
 |nil=>simp at h
 |cons a l=>simp at h;subst h;rfl
theorem Gr (CF bits id:Int) (l:List HJ):VM CF bits id l=(LO CF bits 2&&H9 id&&decide (l.length≤8)&&l.all EA&&mD CF bits id l):=rfl
theorem M8 {β γ:Type} {f:β→γ} {l:List β} (h:l≠[]):0<(l.map f).length:=by rw [List.length_map];exact List.length_pos_iff.2 h
theorem fY {l:List (Int)} (h0:l≠[]) (hl:l.length≤1000000):Ba prog 131 [slice 1 (l.map (fun n:Int=>[int n]))] (lens (l.map (fun n:Int=>[int n])).length) (Bp) (fun v=>D8 3 1 (l.map (fun n:Int=>[int n])) v):=by
 refine Ba.of func131 rfl rfl BA fun M0 w0 S rs M1 w1=> ?_
 have hpos:=M8 (f:=(fun n:Int=>[int n])) h0
 refine a2 ?_
 refine co rfl (Ff rfl underlying22 vq) ?_
 refine ac ?_
 refine Tr.ex 4 rfl (fun z1=>Tr.fact 4 rfl fun Eh=> ?_)
 refine Tr.cn rfl ?_ ?_<;>intro h1 q1
 exfalso;have:=Eh h1;simp_all
 refine ac ?_
 refine ap ?_
 refine TO.pad ?_
 refine TO.Dj 0 rfl rfl AB (Iv rfl rfl AB rfl underlying22 Bw IY z3 rfl AB AB vq vq hpos Nt Df) (fun v1=> ?_)
 refine ap ?_
 refine Tr.ret (Fin.drop 1 ?_)
 refine Fin.Eo rfl rfl ?_ Po
 · exact Ij
theorem fZ   :BC prog 131 [slice 1 []] (full 1 []):=by
 refine fo func131 rfl ⟨rfl,rfl⟩ fun M0 w0=> ?_
 refine a2 ?_
 refine co rfl (Ff rfl underlying22 vq) ?_
 refine ac ?_
 refine Tr.ex 4 rfl (fun z1=>Tr.fact 4 rfl fun Eh=> ?_)
 · repeat' first|exact DL 1|exact Lr|refine co rfl (Mz rfl underlying22 Bw vq vq) ?_|refine ac ?_|(refine Tr.cn rfl ?_ ?_<;>intro h q)
theorem N9 {l:List (Int)} (hl:l.length≤1000000):Ba Tryz.prog 131 [slice 1 (l.map (fun n:Int=>[int n]))] (lens l.length) Bp (fun v=>Bs 3 1 (l.map (fun n:Int=>[int n])) v):=by
 by_cases h0:l=[]
 · subst h0;exact Ba.W0 fZ
 ·
  have:=Ba.Ra (by intro h;exact h0 Du) (fY h0 hl)
  rwa [List.length_map] at this
theorem fc {l:List (HJ)} (h0:l≠[]) (hl:l.length≤925904528640):Ba prog 241 [slice 15 (l.map DO)] (lens (l.map DO).length) (Bp) (fun v=>D8 189 15 (l.map DO) v):=by
 refine Ba.of func241 rfl rfl BA fun M0 w0 S rs M1 w1=> ?_
 have hpos:=M8 (f:=DO) h0
 refine a2 ?_
 refine co rfl (Ff rfl underlying82 vq) ?_
 refine ac ?_
 refine Tr.ex 4 rfl (fun z1=>Tr.fact 4 rfl fun Eh=> ?_)
 refine Tr.cn rfl ?_ ?_<;>intro h1 q1
 exfalso;have:=Eh h1;simp_all
 refine ac ?_
 refine ap ?_
 refine TO.pad ?_
 refine TO.Dj 0 rfl rfl AB (Iv rfl rfl AB rfl underlying82 C8 vw RJ rfl AB AB vq vq hpos Nt Df) (fun v1=> ?_)
 refine ap ?_
 refine Tr.ret (Fin.drop 1 ?_)
 refine Fin.Eo rfl rfl ?_ Po
 · exact Ij
theorem ff   :BC prog 241 [slice 15 []] (full 15 []):=by
 refine fo func241 rfl ⟨rfl,rfl⟩ fun M0 w0=> ?_
 refine a2 ?_
 refine co rfl (Ff rfl underlying82 vq) ?_
 refine ac ?_
 refine Tr.ex 4 rfl (fun z1=>Tr.fact 4 rfl fun Eh=> ?_)
 · repeat' first|exact DL 15|exact Lr|refine co rfl (Mz rfl underlying82 C8 vq vq) ?_|refine ac ?_|(refine Tr.cn rfl ?_ ?_<;>intro h q)
theorem fk {l:List (HJ)} (hl:l.length≤925904528640):Ba Tryz.prog 241 [slice 15 (l.map DO)] (lens l.length) Bp (fun v=>Bs 189 15 (l.map DO) v):=by
 by_cases h0:l=[]
 · subst h0;exact Ba.W0 ff
 ·
  have:=Ba.Ra (by intro h;exact h0 Du) (fc h0 hl)
  rwa [List.length_map] at this
theorem fm {l:List (List UInt8)} (h0:l≠[]) (hl:l.length≤8796093022208):Ba prog 242 [slice 1 (l.map (fun t:List UInt8=>[str t]))] (lens (l.map (fun t:List UInt8=>[str t])).length) (Bp) (fun v=>D8 9 1 (l.map (fun t:List UInt8=>[str t])) v):=by
 refine Ba.of func242 rfl rfl BA fun M0 w0 S rs M1 w1=> ?_
 have hpos:=M8 (f:=(fun t:List UInt8=>[str t])) h0
 refine a2 ?_
 refine co rfl (Ff rfl underlying127 vq) ?_
 refine ac ?_
 refine Tr.ex 4 rfl (fun z1=>Tr.fact 4 rfl fun Eh=> ?_)
 refine Tr.cn rfl ?_ ?_<;>intro h1 q1
 exfalso;have:=Eh h1;simp_all
 refine ac ?_
 refine ap ?_
 refine TO.pad ?_
 refine TO.Dj 0 rfl rfl AB (Iv rfl rfl AB rfl underlying127 Ms by9 z9 rfl AB AB vq vq hpos Nt Df) (fun v1=> ?_)
 refine ap ?_
 refine Tr.ret (Fin.drop 1 ?_)
 refine Fin.Eo rfl rfl ?_ Po
 · exact Ij
theorem fq   :BC prog 242 [slice 1 []] (full 1 []):=by
 refine fo func242 rfl ⟨rfl,rfl⟩ fun M0 w0=> ?_
 refine a2 ?_
 refine co rfl (Ff rfl underlying127 vq) ?_
 refine ac ?_
 refine Tr.ex 4 rfl (fun z1=>Tr.fact 4 rfl fun Eh=> ?_)
 · repeat' first|exact DL 1|exact Lr|refine co rfl (Mz rfl underlying127 Ms vq vq) ?_|refine ac ?_|(refine Tr.cn rfl ?_ ?_<;>intro h q)
theorem fu {l:List (List UInt8)} (hl:l.length≤8796093022208):BC Tryz.prog 242 [slice 1 (l.map (fun t:List UInt8=>[str t]))] (slice 1 (l.map (fun t:List UInt8=>[str t]))):=by
 by_cases h0:l=[]
 · subst h0;exact BC.le fq (fun _ _ _ h=>h) (B5 _ _)
 · exact (Ba.ABo (rows:=(l.map (fun t:List UInt8=>[str t]))) (BP fun _=>rfl) (fm h0 hl)).pure
structure Hx.small (x:Hx):Prop where
 chain:x.chain.length≤925904528640
 names:∀c∈x.chain,c.names.length≤8796093022208
theorem mE {x:Hx} (hx:x.small):BC prog 203 [agg (FB x)] (agg (FB x)):=by
 refine fo func203 rfl ⟨rfl,rfl⟩ fun M0 w0=> ?_
 have hch:=hx.chain
 refine Tr.seq (Tr.Ao ?_)
 refine TO.Uv rfl rfl AB rfl Cv (fun b1=> ?_)
 refine Tl rfl rfl rfl rfl WD So (fun b2=> ?_)
 refine ao ?_
 refine ao ?_
 refine TO.pad ?_
 refine TO.Dj 0 rfl rfl AB (Gm rfl rfl AB rfl (fk (l:=x.chain) AA) kz) (fun v1=> ?_)
 refine tp rfl (AW rfl k7 vq) (TO.DY 2 rfl rfl (Ay rfl rfl vq Ni ABE rfl BA rfl) ?_)
 refine ao ?_
 refine ac ?_
 refine co rfl (Ck 0 rfl (s_ rfl underlying82 Kx)) ?_
 refine ac ?_
 refine Tr.block (Tr.re 11 rfl (int_eq (by rw [List.length_map])) (Tr.BD _ (kk [11,10,2,1] rfl) (fun k:Nat=>[(12,int ((k:Nat):Int))]) (fun k:Nat=>k≤(x.chain).length) (fun k:Nat=>(x.chain).length-k) 0 (Nat.zero_le _) kz ?_))
 rintro k BR
 refine ac ?_
 refine Tr.seq ?_
 refine Tr.cn rfl ?_ ?_<;>intro h1 q1
 have Ai:k<(x.chain).length:=AH h1
 obtain ⟨c,Ah⟩:=at_ Ai
 have hcn:=hx.names c (List.mem_of_getElem? Ah)
 refine ac ?_
 refine ao ?_
 refine tp rfl (Ck 0 rfl (J6 rfl underlying82 C8 Kx vq AA Df)) ?_
 refine tp rfl (Ck 0 rfl (fQ rfl F_ C8 vq (BP fun _=>rfl) bV)) ?_
 refine Tl rfl rfl rfl rfl RJ LU (fun b3=> ?_)
 refine tm rfl ?_
 refine sf 0 4 ⟨rfl,rfl,rfl⟩ rfl rfl rfl rfl ?_
 refine ao ?_
 refine Tr.rx ?_
 refine ax ?_
 refine xo rfl (fun _=>Ct (fu hcn) rfl rfl) ?_
 refine IF 0 rfl rfl (J6 rfl underlying82 C8 Kx vq AA Df) ?_
 refine xo rfl (fun _=>ZD rfl Wp vq) ?_
 refine Cx.DY 0 rfl rfl (G9 rfl rfl vq Ni vk rfl (BP fun _=>rfl) bV AB (lS (f:=DO) Ah rfl)) ?_
 refine Cx.nil ⟨by kernel_rfl,?_⟩
 refine BJ.done al3 ?_
 refine ac ?_
 refine wk [12,11,10,2,1] rfl ?_
 refine ac ?_
 exact Fin.AL (k+1) ⟨Ai,by omega⟩ ⟨⟨_,rfl,AG k⟩,kz⟩
 have BM:k=(x.chain).length:=by have:=AJ h1;omega
 subst BM
 refine ac ?_
 refine Tr.seq (Tr.JO 2 0 3 rfl rfl AB rfl (EK _ _) (BP fun _=>rfl) ?_)
 refine ao ?_
 refine TO.AK 1 rfl rfl rfl vq Cv rfl E3 rfl rfl ?_
 refine ao ?_
 refine Tr.drop 0 (Tr.drop 1 (Tr.ret (Fin.CX rfl (AM.cell 0 rfl rfl Om E3 rfl Lr) ?_)))
 · exact Lr
structure Bb where
 AZ:Int
 kind:Int
 number:Int
 at_:Int
 C1:Hx
abbrev Et (c:Bb):List Pr:=[int c.AZ,int c.kind,int c.number,int c.at_,int c.C1.CF,int c.C1.bits,int c.C1.CR,LW c.C1.chain]
def Bo (key:Int) (l:List Hx):Int:=idx (fun x=>x.CR==key) l
theorem P_ {β:Type} {p:β→Bool} {l:List β} (h:0≤idx p l):∃x,l[(idx p l).toNat]? =some x∧p x=true∧(idx p l).toNat<l.length:=by
 unfold idx at*
 cases hf:l.findIdx? p with
 |none=>rw [hf] at h;simp at h
 |some i=>
  rw [List.findIdx?_eq_some_iff_getElem] at hf
  obtain ⟨h1,h2,_⟩:=hf
  refine ⟨l[i],?_,h2,by simpa using h1⟩
  simp
theorem Ss.perm {P:Program} {f:FuncId} {args:List Pr} {pre post post':List Ap} {res:Pr} (h:Ss P f args pre res post) (hp:post.Perm post'):Ss P f args pre res post':=
 ⟨h.1,fun M0 w0 S rs M w vs hI hv=>(h.2 M0 w0 S rs M w vs hI hv).mono fun _e _w' ⟨v,M',x,h1,h2,h3,h4,h5⟩=>⟨v,M',x,h1,h2,h3,h4,Az.perm (hp.append_right rs) h5⟩⟩
def cQ (x:Hx):Bool:=decide (x.CF=0∧x.bits=0)&&x.CR==0&&(((x.chain.length:Nat):Int)==0)
def ji (c:Bb):Bool:=if c.kind=1 then cQ c.C1 else if c.kind=5 then c.number==0 else c.at_==0&&cQ c.C1
structure CA.small (e:CA):Prop where
 A0:e.A0.length≤1000000
 anchors:e.anchors.length≤1000000
 hashes:e.hashes.length≤1000000
 YZ:e.ids.length≤1000000
 ids:∀x∈e.ids,x.small
theorem tF {c:Bb} (hx:c.C1.small):BC prog 155 [agg (Et c)] (agg (Et c)):=by
 refine fo func155 rfl ⟨rfl,rfl⟩ fun M0 w0=>(Tr.seq (Tr.Ao ?_))
 refine TO.Uv rfl rfl AB rfl Cv (fun b1=> ?_)
 refine Tl rfl rfl rfl rfl P5 LH (fun b2=> ?_)
 refine ap ?_
 refine ap ?_
 refine tp rfl (Ct (mE (x:=c.C1) hx) rfl rfl) ?_
 refine ap ?_
 refine ap ?_
 refine Tr.drop 1 (Tr.ret (Fin.CX rfl (AM.cell 0 rfl rfl HW Dp rfl Lr) ?_))
 · exact Lr
def J9 (b:Int) (l m:List Int):Int:=if 0≤idx (fun x=>b==x) l then (m[(idx (fun x=>b==x) l).toNat]?).getD 0 else 0
theorem fy {b:Int} {l m:List Int} {k:Nat} {x z:Int} (hx:l[k]? =some x) (he:x=b) (hz:m[k]? =some z) (h:∀j y,j<k→l[j]? =some y→(b==y)=false):z=J9 b l m:=by
 have:=EO (p:=fun x=>b==x) hx (by simp [he]) h
 unfold J9;rw [←this,if_pos AA,Int.toNat_natCast,hz];rfl
theorem ZH {b:Int} {l m:List Int} (h:∀j y,j<l.length→l[j]? =some y→(b==y)=false):0=J9 b l m:=by
 have:=FA (p:=fun x=>b==x) h
 unfold J9;rw [←this,if_neg AA]
def Gk (CF:Int):Int:=if CF=1 then 18 else if CF=2 then 60 else if CF=3∨CF=8∨CF=21 then 128 else if CF=4 then 192 else if CF=18∨CF=22 then 256 else if CF=19 then 64 else if CF=20 then 80 else 0
def Ob (b:Int):Int:=if b<512∨b>16384 then 0 else if b<1024 then 56 else if b<2048 then 80 else if b<3072 then 112 else if b<7680 then 128 else if b<15360 then 192 else 256
theorem mF (b:Int):Ob b=if 512≤b∧b≤16384 then yA b else 0:=by
 have h1:yA b=if b<1024 then 56 else if b<2048 then 80 else if b<3072 then 112 else if b<7680 then 128 else if b<15360 then 192 else 256:=rfl
 rw [h1];unfold Ob
 by_cases h:512≤b∧b≤16384
 · rw [if_pos h,if_neg AA]
 · rw [if_neg h,if_pos AA]
theorem Iw {b:Int} {l m:List Int} (hl:l.length≤m.length):BC prog 269 [int b,ints l,ints m] (int (J9 b l m)):=by
 refine fo func269 rfl ⟨rfl,rfl⟩ fun M0 w0=>(Tr.Cf 1 rfl fun Fl=> ?_)
 refine a2 ?_
 refine Tr.block (Tr.BD _ (kk [2,1,0] rfl) (fun k:Nat=>[(7,int ((k:Nat):Int))]) (fun k:Nat=>k≤(l).length∧(∀j y,j<k→l[j]? =some y→(b==y)=false)) (fun k:Nat=>(l).length-k) 0 (⟨Nat.zero_le _,fun j y hj=>absurd hj AA⟩) kz ?_)
 rintro k ⟨BR,AX⟩
 refine an ?_ ?_<;>intro h1 q1
 have Ai:k<(l).length:=AH h1
 obtain ⟨x,Ah⟩:=at_ Ai
 obtain ⟨z,hz⟩:=at_ (l:=m) (k:=k) AA
 · repeat' first|exact int_eq (fy Ah Bh hz AX)|(exact Fin.AL (k+1) ⟨⟨Ai,DV (p:=fun x=>b==x) Ah CE AX⟩,by omega⟩ ⟨⟨_,rfl,AG k⟩,kz⟩)|refine co rfl (AD rfl underlying22 Bw vq vq AA CM) ?_|refine ac ?_|(refine Tr.cn rfl ?_ ?_<;>intro h q)
 have BM:k=(l).length:=by have:=AJ h1;omega
 subst BM
 refine a3 ?_
 · exact int_eq (ZH AX)
theorem mG {CF:Int}  :BC prog 270 [int CF] (int (Gk CF)):=by
 refine fo func270 rfl ⟨rfl,rfl⟩ fun M0 w0=> ?_
 refine a2 ?_
 refine an ?_ ?_<;>intro h1 q1
 refine a2 ?_
 · refine int_eq ?_;unfold Gk;(repeat (rw [if_pos AA]))
 refine an ?_ ?_<;>intro h2 q2
 refine a2 ?_
 · exact Nl
 refine an ?_ ?_<;>intro h3 q3
 refine ac ?_
 refine Tr.cond rfl (fun _=> ?_) (fun h=>nomatch h3.symm.trans h)
 refine a2 ?_
 · exact Nl
 refine an ?_ ?_<;>intro h4 q4
 refine ac ?_
 refine Tr.cond rfl (fun _=> ?_) (fun h=>nomatch h4.symm.trans h)
 refine a2 ?_
 · exact Nl
 refine an ?_ ?_<;>intro h5 q5
 refine a2 ?_
 · exact Nl
 refine ac ?_
 refine wk [12,3] rfl ?_
 refine Tr.cn rfl ?_ ?_<;>intro h6 q6
 refine a2 ?_
 · exact Nl
 refine an ?_ ?_<;>intro h7 q7
 refine ac ?_
 refine Tr.cond rfl (fun _=> ?_) (fun h=>nomatch h7.symm.trans h)
 refine a2 ?_
 · exact Nl
 · repeat' first|(refine int_eq ?_;unfold Gk;(repeat (first|rw [if_pos AA]|rw [if_neg AA])))|(refine int_eq ?_;unfold Gk;(repeat (rw [if_neg AA])))|refine ac ?_|(refine Tr.cn rfl ?_ ?_<;>intro h q)
theorem Iy {b:Int}  :BC prog 268 [int b] (int (Ob b)):=by
 refine fo func268 rfl ⟨rfl,rfl⟩ fun M0 w0=> ?_
 refine ac ?_
 refine ac ?_
 refine Ch.cs 6 rfl ?_ ?_<;>intro h1 q1
 refine ac ?_
 refine ac ?_
 refine ac ?_
 · refine int_eq ?_;unfold Ob;(repeat (rw [if_pos AA]))
 refine ac ?_
 refine Tr.cn rfl ?_ ?_<;>intro h2 q2
 refine ac ?_
 refine ac ?_
 · refine int_eq ?_;unfold Ob;(repeat (rw [if_pos AA]))
 refine ac ?_
 refine Tr.cn rfl ?_ ?_<;>intro h3 q3
 refine ac ?_
 refine ac ?_
 · exact Qj
 refine ac ?_
 refine TN 0 13 rfl ?_
 refine Tr.cn rfl ?_ ?_<;>intro h4 q4
 refine ac ?_
 refine ac ?_
 · exact Qj
 refine ac ?_
 refine Tr.cn rfl ?_ ?_<;>intro h5 q5
 refine ac ?_
 refine ac ?_
 · exact Qj
 refine ac ?_
 refine Tr.cn rfl ?_ ?_<;>intro h6 q6
 refine ac ?_
 refine ac ?_
 · exact Qj
 refine ac ?_
 refine Tr.cn rfl ?_ ?_<;>intro h7 q7
 refine ac ?_
 refine ac ?_
 · exact Qj
 refine ac ?_
 refine ac ?_
 refine ac ?_
 · refine int_eq ?_;unfold Ob;(repeat (rw [if_neg AA]))
theorem tH (b c:Int):J9 b [0] [c]=if b=0 then c else 0:=by
 unfold J9 idx
 by_cases h:b=0
 · subst h;rfl
 ·
  have:List.findIdx? (fun x=>b==x) [0]=none:=by simp [h]
  rw [this,if_neg h];rfl
theorem UZ {CF b:Int} (h:CF=5∨CF=6∨CF=10∨CF=11):Ob b=Dr CF b:=by
 rw [mF]
 rcases h with rfl|rfl|rfl|rfl<;>rfl
theorem Sv {CF b:Int} (h:¬(CF=5∨CF=6∨CF=7∨CF=9∨CF=10∨CF=11∨CF=12∨CF=13∨CF=14∨CF=15∨CF=16∨CF=17)):J9 b [0] [Gk CF]=Dr CF b:=by
 rw [tH]
 by_cases hin:1≤CF∧CF≤22
 ·
  have ha:CF=1∨CF=2∨CF=3∨CF=4∨CF=8∨CF=18∨CF=19∨CF=20∨CF=21∨CF=22:=by omega
  rcases ha with rfl|rfl|rfl|rfl|rfl|rfl|rfl|rfl|rfl|rfl<;>rfl
 ·
  have h1:Gk CF=0:=by unfold Gk;(repeat (first|rw [if_pos AA]|rw [if_neg AA]))
  unfold Dr
  rw [h1,if_neg hin];split<;>rfl
theorem MP {CF b:Int} (h:CF=7∨CF=12):Dr CF b=if (aX.any fun x=>b==x)=true then b.tdiv 2 else 0:=by
 rcases h with rfl|rfl<;>rfl
theorem W_ {CF bits:Int}  :BC prog 229 [agg [int CF,int bits]] (int (Dr CF bits)):=by
 refine fo func229 rfl ⟨rfl,rfl⟩ fun M0 w0=> ?_
 iterate 4 refine ac ?_
 refine Tr.cn rfl ?_ ?_<;>intro h1 q1
 refine ac ?_
 refine Tr.cond rfl (fun _=> ?_) (fun h=>nomatch h1.symm.trans h)
 refine ac ?_
 refine co rfl (Ct (Iy) rfl rfl) ?_
 refine a2 ?_
 · exact Pj
 refine an ?_ ?_<;>intro h2 q2
 refine ac ?_
 refine Tr.cond rfl (fun _=> ?_) (fun h=>nomatch h2.symm.trans h)
 refine ac ?_
 refine co rfl (Ct (Iy) rfl rfl) ?_
 refine ac ?_
 refine wk [2] rfl ?_
 refine ac ?_
 · exact Pj
 refine an ?_ ?_<;>intro h3 q3
 refine ac ?_
 refine Tr.cond rfl (fun _=> ?_) (fun h=>nomatch h3.symm.trans h)
 refine ac ?_
 refine co rfl (Ct (Iy) rfl rfl) ?_
 refine ac ?_
 refine wk [2] rfl ?_
 refine ac ?_
 · exact Pj
 refine ac ?_
 refine wk [8,7,3,1] rfl ?_
 refine Tr.cn rfl ?_ ?_<;>intro h4 q4
 refine ac ?_
 refine co rfl (Ct (Iy) rfl rfl) ?_
 refine a2 ?_
 · exact Pj
 refine an ?_ ?_<;>intro h5 q5
 refine ac ?_
 refine Tr.cond rfl (fun _=> ?_) (fun h=>nomatch h5.symm.trans h)
 · exact jc
 refine an ?_ ?_<;>intro h11 Sw
 · exact jc
 refine an ?_ ?_<;>intro PL q17
 refine ac ?_
 refine co rfl (AR rfl (Iw (l:=[44,65,87]) (m:=[128,192,256]) AV) ⟨kq,GX,GX,trivial⟩) ?_
 refine ac ?_
 refine wk [2] rfl ?_
 refine ac ?_
 · refine int_eq ?_;have ha:CF=9:=AA;rcases ha with rfl<;>rfl
 refine an ?_ ?_<;>intro Sb q18
 refine ac ?_
 refine co rfl (AR rfl (Iw (l:=[512,768,1024]) (m:=[128,192,256]) AV) ⟨kq,GX,GX,trivial⟩) ?_
 refine ac ?_
 refine wk [2] rfl ?_
 refine ac ?_
 · refine int_eq ?_;have ha:CF=13:=AA;rcases ha with rfl<;>rfl
 refine ac ?_
 refine wk [50,7,3,1] rfl ?_
 refine Tr.cn rfl ?_ ?_<;>intro h19 q19
 refine ac ?_
 refine co rfl (AR rfl (Iw (l:=[40,128]) (m:=[40,60]) AV) ⟨kq,GX,GX,trivial⟩) ?_
 refine a2 ?_
 · refine int_eq ?_;have ha:CF=14:=AA;rcases ha with rfl<;>rfl
 refine an ?_ ?_<;>intro Sd q20
 refine ac ?_
 refine co rfl (AR rfl (Iw (l:=[112,168]) (m:=[80,112]) AV) ⟨kq,GX,GX,trivial⟩) ?_
 refine a2 ?_
 · refine int_eq ?_;have ha:CF=15:=AA;rcases ha with rfl<;>rfl
 refine an ?_ ?_<;>intro cR q21
 refine ac ?_
 refine Tr.cond rfl (fun _=> ?_) (fun h=>nomatch cR.symm.trans h)
 refine ac ?_
 refine co rfl (AR rfl (Iw (l:=[128,256]) (m:=[128,256]) AV) ⟨kq,GX,GX,trivial⟩) ?_
 refine a2 ?_
 · refine int_eq ?_;have ha:CF=16∨CF=17:=AA;rcases ha with rfl|rfl<;>rfl
 · repeat' first|(refine int_eq ?_;have ha:CF=16∨CF=17:=AA;rcases ha with rfl|rfl<;>rfl)|(refine int_eq ?_;exact Sv AA)|refine co rfl (AR rfl (Iw (l:=[128,256]) (m:=[128,256]) AV) ⟨kq,GX,GX,trivial⟩) ?_|refine co rfl (Ct (mG) rfl rfl) (co rfl (AO (xs:=[.tmp 73]) (rows:=[[_]]) rfl rfl underlying22 Bw z3 rfl AB ⟨⟨Am,Ni⟩,trivial⟩ AB) ?_)|refine co rfl (AR rfl (Iw (l:=[0]) (m:=[Gk CF]) AV) ⟨kq,GX,GX,trivial⟩) ?_|refine ac ?_|(refine Tr.cn rfl ?_ ?_<;>intro h q)
theorem J_ {CF bits:Int}  :BC prog 197 [agg [int CF,int bits]] (bool (decide (Dr CF bits>0))):=by
 refine fo func197 rfl ⟨rfl,rfl⟩ fun M0 w0=> ?_
 refine a2 ?_
 refine co rfl (Ct (W_) rfl rfl) ?_
 refine a2 ?_
 · exact Lr
def yD:List (List UInt8×Int):=IK.map fun r=>(r.name,r.kind)
theorem tI {CF:Int} (h:1≤CF∧CF≤22):yD[CF.toNat]? =some ((Es CF).name,(Es CF).kind):=by
 unfold yD;rw [List.getElem?_map,Ov h];rfl
theorem tJ   :BC prog 228 [] (slice 2 (yD.map fun r=>[str r.1,int r.2])):=by
 refine fo func228 rfl ⟨rfl,rfl⟩ fun M0 w0=> ?_
 refine a2 ?_
 refine wk [0] rfl ?_
 refine ac ?_
 · exact B5 _ _
theorem QA {CF:Int}  :BC prog 195 [int CF] (int (Es CF).kind):=by
 refine fo func195 rfl ⟨rfl,rfl⟩ fun M0 w0=> ?_
 refine ac ?_
 refine ag ?_ ?_<;>intro h1 q1
 refine a3 ?_
 · refine int_eq ?_;unfold Es;rw [if_neg AA];rfl
 refine an ?_ ?_<;>intro h2 q2
 refine a2 ?_
 · refine int_eq ?_;unfold Es;rw [if_neg AA];rfl
 have hin:1≤CF∧CF≤22:=by omega
 refine ac ?_
 refine Tr.seq (Tr.Aj (co rfl (kc0 (tJ) rfl) (cm rfl (co rfl (AD rfl underlying291 wC vq vq AA (Bf (f:=fun r:List UInt8×Int=>[str r.1,int r.2]) (tI hin))) ?_))))
 refine a2 ?_
 · exact Lr
theorem KA {CF bits:Int}  :BC prog 224 [agg [int CF,int bits]] (bool (decide (Dr CF bits>0)&&(Es CF).kind==2)):=by
 refine fo func224 rfl ⟨rfl,rfl⟩ fun M0 w0=> ?_
 refine ac ?_
 refine ac ?_
 refine co rfl (Ct (J_) rfl rfl) (cm rfl ?_)
 refine Ch.cs 5 rfl ?_ ?_<;>intro h1 q1
 refine ac ?_
 refine cy h1 rfl (Ct (QA) rfl rfl) ?_
 refine ac ?_
 refine ac ?_
 · refine bool_eq ?_;simp_all
 refine ac ?_
 refine ac ?_
 · exact Pp
def FH:CA:=⟨[],0,0,[],false,[],[],[],false⟩
def Bz:Hx:=⟨0,0,0,[]⟩
def He:Bb:=⟨0,0,0,0,Bz⟩
abbrev tL (l:List Int):Prop:=l.Pairwise (· < ·)
def E4 (l:List Int) (x:Int):Nat:=(l.takeWhile fun y=>decide (y<x)).length
theorem cT (l:List Int) (x:Int):E4 l x≤l.length:=by
 unfold E4
 have h:=List.takeWhile_append_dropWhile (p:=fun y=>decide (y<x)) (l:=l)
 have:=congrArg List.length h
 rw [List.length_append] at this;omega
theorem VO {x:Int}:∀{l:List Int} {k:Nat},k≤l.length→(∀(j:Nat) y,j<k→l[j]? =some y→y<x)→(∀y,l[k]? =some y→¬y<x)→E4 l x=k
  | [], k, hk, _, _ => by have : k = 0 := by simpa using hk
                          subst this;rfl
  |y::r,0,_,_,h2=>by unfold E4;rw [List.takeWhile_cons_of_neg (by simpa using h2 y rfl)];rfl
  |y::r,k+1,hk,h1,h2=>by
    have ih:=VO (l:=r) (k:=k) Py (fun j z hj hz=>h1 (j+1) z AA Kt) (fun z hz=>h2 z Kt)
    unfold E4 at ih ⊢
    rw [List.takeWhile_cons_of_pos (by simpa using h1 0 y AA rfl),List.length_cons,ih]
theorem VP {x:Int}:∀{l:List Int} {j:Nat} {y:Int},j<E4 l x→l[j]? =some y→y<x
 |[],j,y,h,_=>by unfold E4 at h;simp at h
 |z::r,j,y,h,hy=>by
  by_cases hz:z<x
  ·
   cases j with
   |zero=>simp at hy;subst hy;exact hz
   |succ j=>
    refine VP (l:=r) (j:=j) ?_ (by simpa using hy)
    unfold E4 at h ⊢
    rw [List.takeWhile_cons_of_pos Kt,List.length_cons] at h;omega
  · unfold E4 at h;rw [List.takeWhile_cons_of_neg Kt] at h;simp at h
theorem cU {x:Int}:∀{l:List Int} {y:Int},l[E4 l x]? =some y→¬y<x
 |[],y,h=>by simp at h
 |z::r,y,h=>by
  by_cases hz:z<x
  ·
   unfold E4 at h
   rw [List.takeWhile_cons_of_pos Kt,List.length_cons,List.getElem?_cons_succ] at h
   exact cU (l:=r) h
  · unfold E4 at h;rw [List.takeWhile_cons_of_neg Kt] at h;simp at h;subst h;exact hz
abbrev Fq (l:List Int) (x:Int):Bool:=(l[E4 l x]?).any (fun y=>decide (y=x))
abbrev ZI (l:List Int) (x:Int):List Int:=l.take (E4 l x)++[x]++l.drop (E4 l x)
theorem tM {l:List Int} (hs:tL l) {j k:Nat} {y z:Int} (hjk:j<k) (hy:l[j]? =some y) (hz:l[k]? =some z):y<z:=by
 have h1:=BN hy;have h2:=BN hz
 have:=List.pairwise_iff_getElem.1 hs j k h1 h2 hjk
 rw [List.getElem?_eq_getElem h1] at hy;rw [List.getElem?_eq_getElem h2] at hz
 cases hy;cases hz;exact this
theorem cV {l:List Int} {x:Int} {i:Nat} {y:Int} (hp:E4 l x=i) (hy:l[i]? =some y):Fq l x=decide (y=x):=by
 unfold Fq;rw [hp,hy];rfl
theorem QB {l:List Int} (h:fV l=true):tL l:=by
 unfold fV at h;rw [B7] at h
 have h1:∀(d i:Nat) y z,l[i]? =some y→l[i+d+1]? =some z→y<z:=by
  intro d
  induction d with
  |zero=>
   intro i y z hy hz
   have:=h (i+1) (BN hz)
   unfold IL at this
   rw [getD_at (show l[i+1]? =some z from hz),getD_at (show l[i+1-1]? =some y from hy)] at this
   simpa using this
  |succ d ih=>
   intro i y z hy hz
   obtain ⟨m,hm⟩:=at_ (l:=l) (k:=i+d+1) (by have:=BN hz;omega)
   have a1:=ih i y m hy hm
   have:=h (i+(d+1)+1) (BN hz)
   unfold IL at this
   rw [getD_at hz,getD_at (show l[i+(d+1)+1-1]? =some m from hm)] at this
   have:m<z:=by simpa using this
   omega
 refine List.pairwise_iff_getElem.2 fun i j hi hj hij=> ?_
 refine h1 (j-i-1) i _ _ (List.getElem?_eq_getElem hi) ?_
 rw [show i+(j-i-1)+1=j by omega];exact List.getElem?_eq_getElem hj
theorem VQ {l:List Int} {x:Int} (h:Fq l x=true):E4 l x<l.length:=by
 by_cases hp:E4 l x<l.length
 · exact hp
 · unfold Fq at h;rw [List.getElem?_eq_none AA] at h;cases h
abbrev LK (b:Bool):Int:=if b then 1 else 0
abbrev M9 (e:CA) (c:Bb):Int:=idx (fun y=>c.number==y) e.A0
def CD (e:CA) (c:Bb):Except Int (CA×Bb):=
 if c.kind = 1 then
  if ¬(0≤c.at_∧c.at_≤(e.A0.length:Nat)) then .error 2
  else if (e.A0.any fun y=>c.number==y)=true then .error 41
  else .ok ({ e with A0:=e.A0.take c.at_.toNat++[c.number]++e.A0.drop c.at_.toNat },⟨c.AZ,2,c.number,0,Bz⟩)
 else if c.kind = 2 then
  if M9 e c<0 then .error 41 else .ok ({ e with A0:=e.A0.eraseIdx (M9 e c).toNat },⟨c.AZ,1,c.number,M9 e c,Bz⟩)
 else if c.kind = 3 then
  if e.most=c.number then .error 41 else .ok ({ e with most:=c.number },⟨c.AZ,c.kind,e.most,0,Bz⟩)
 else if c.kind = 4 then
  if e.least=c.number then .error 41 else .ok ({ e with least:=c.number },⟨c.AZ,c.kind,e.least,0,Bz⟩)
 else if c.kind = 5 then
  if ¬(0≤c.at_∧c.at_≤(e.ids.length:Nat)) then .error 2
  else if 0≤Bo c.C1.CR e.ids then .error 41
  else .ok ({ e with ids:=e.ids.take c.at_.toNat++[c.C1]++e.ids.drop c.at_.toNat },⟨c.AZ,6,c.C1.CR,0,Bz⟩)
 else if c.kind = 6 then
  match e.ids[(Bo c.number e.ids).toNat]? with
  |none=> .error 41
  |some x=>
   if Bo c.number e.ids<0 then .error 41
   else if ((e.ids.drop (Bo c.number e.ids+1).toNat).any fun x=>x.CR==c.number)=true then .error 5
   else .ok ({ e with ids:=e.ids.eraseIdx (Bo c.number e.ids).toNat },⟨c.AZ,5,0,Bo c.number e.ids,x⟩)
 else if c.kind = 7 then
  if Fq e.anchors c.number=true then .error 41 else .ok ({ e with anchors:=ZI e.anchors c.number },⟨c.AZ,8,c.number,0,Bz⟩)
 else if c.kind = 8 then
  if Fq e.anchors c.number=true then .ok ({ e with anchors:=e.anchors.eraseIdx (E4 e.anchors c.number) },⟨c.AZ,7,c.number,0,Bz⟩) else .error 41
 else if c.kind = 9 then
  if Fq e.hashes c.number=true then .error 41 else .ok ({ e with hashes:=ZI e.hashes c.number },⟨c.AZ,10,c.number,0,Bz⟩)
 else if c.kind = 10 then
  if Fq e.hashes c.number=true then .ok ({ e with hashes:=e.hashes.eraseIdx (E4 e.hashes c.number) },⟨c.AZ,9,c.number,0,Bz⟩) else .error 41
 else if c.kind = 11 then
  if ¬(0≤c.number∧c.number≤1) then .error 2
  else if LK e.LJ=c.number then .error 41 else .ok ({ e with LJ:=(c.number==1) },⟨c.AZ,c.kind,LK e.LJ,0,Bz⟩)
 else
  if ¬(0≤c.number∧c.number≤1) then .error 2
  else if LK e.own=c.number then .error 41 else .ok ({ e with own:=(c.number==1) },⟨c.AZ,c.kind,LK e.own,0,Bz⟩)
def JW (c:Bb):Prop:=(1≤c.kind∧c.kind≤12)∧ji c=true
instance (c:Bb):Decidable (JW c):=inferInstanceAs (Decidable (_∧_))
def ED (e:CA) (c:Bb):CA×Bb×Int:=
 if GY e=false then (FH,He,19)
 else if ¬JW c then (FH,He,40)
 else match CD e c with
  | .error f=>(FH,He,f)
  | .ok (e2,b)=>if GY e2=true then (e2,b,0) else (FH,He,18)
theorem QC {e:CA} {c:Bb} (h:c.kind=1):CD e c=
  (
  if ¬(0≤c.at_∧c.at_≤(e.A0.length:Nat)) then .error 2
  else if (e.A0.any fun y=>c.number==y)=true then .error 41
  else .ok ({ e with A0:=e.A0.take c.at_.toNat++[c.number]++e.A0.drop c.at_.toNat },⟨c.AZ,2,c.number,0,Bz⟩)):=by
 unfold CD;rw [if_pos h]
theorem QD {e:CA} {c:Bb} (h:c.kind=2):CD e c=
  (
  if M9 e c<0 then .error 41 else .ok ({ e with A0:=e.A0.eraseIdx (M9 e c).toNat },⟨c.AZ,1,c.number,M9 e c,Bz⟩)):=by
 unfold CD;rw [if_neg BF];rw [if_pos h]
theorem QE {e:CA} {c:Bb} (h:c.kind=3):CD e c=
  (
  if e.most=c.number then .error 41 else .ok ({ e with most:=c.number },⟨c.AZ,c.kind,e.most,0,Bz⟩)):=by
 unfold CD;rw [if_neg BF];rw [if_neg BF];rw [if_pos h]
theorem QF {e:CA} {c:Bb} (h:c.kind=4):CD e c=
  (
  if e.least=c.number then .error 41 else .ok ({ e with least:=c.number },⟨c.AZ,c.kind,e.least,0,Bz⟩)):=by
 unfold CD;rw [if_neg BF];rw [if_neg BF];rw [if_neg BF];rw [if_pos h]
theorem QG {e:CA} {c:Bb} (h:c.kind=5):CD e c=
  (
  if ¬(0≤c.at_∧c.at_≤(e.ids.length:Nat)) then .error 2
  else if 0≤Bo c.C1.CR e.ids then .error 41
  else .ok ({ e with ids:=e.ids.take c.at_.toNat++[c.C1]++e.ids.drop c.at_.toNat },⟨c.AZ,6,c.C1.CR,0,Bz⟩)):=by
 unfold CD;rw [if_neg BF];rw [if_neg BF];rw [if_neg BF];rw [if_neg BF];rw [if_pos h]
theorem QH {e:CA} {c:Bb} (h:c.kind=6):CD e c=
  (
  match e.ids[(Bo c.number e.ids).toNat]? with
  |none=> .error 41
  |some x=>
   if Bo c.number e.ids<0 then .error 41
   else if ((e.ids.drop (Bo c.number e.ids+1).toNat).any fun x=>x.CR==c.number)=true then .error 5
   else .ok ({ e with ids:=e.ids.eraseIdx (Bo c.number e.ids).toNat },⟨c.AZ,5,0,Bo c.number e.ids,x⟩)):=by
 unfold CD;rw [if_neg BF];rw [if_neg BF];rw [if_neg BF];rw [if_neg BF];rw [if_neg BF];rw [if_pos h]
theorem QI {e:CA} {c:Bb} (h:c.kind=7):CD e c=
  (
  if Fq e.anchors c.number=true then .error 41 else .ok ({ e with anchors:=ZI e.anchors c.number },⟨c.AZ,8,c.number,0,Bz⟩)):=by
 unfold CD;rw [if_neg BF];rw [if_neg BF];rw [if_neg BF];rw [if_neg BF];rw [if_neg BF];rw [if_neg BF];rw [if_pos h]
theorem QJ {e:CA} {c:Bb} (h:c.kind=8):CD e c=
  (
  if Fq e.anchors c.number=true then .ok ({ e with anchors:=e.anchors.eraseIdx (E4 e.anchors c.number) },⟨c.AZ,7,c.number,0,Bz⟩) else .error 41):=by
 unfold CD;rw [if_neg BF];rw [if_neg BF];rw [if_neg BF];rw [if_neg BF];rw [if_neg BF];rw [if_neg BF];rw [if_neg BF];rw [if_pos h]
theorem QK {e:CA} {c:Bb} (h:c.kind=9):CD e c=
  (
  if Fq e.hashes c.number=true then .error 41 else .ok ({ e with hashes:=ZI e.hashes c.number },⟨c.AZ,10,c.number,0,Bz⟩)):=by
 unfold CD;rw [if_neg BF];rw [if_neg BF];rw [if_neg BF];rw [if_neg BF];rw [if_neg BF];rw [if_neg BF];rw [if_neg BF];rw [if_neg BF];rw [if_pos h]
theorem M_ {e:CA} {c:Bb} (h:c.kind=10):CD e c=
  (
  if Fq e.hashes c.number=true then .ok ({ e with hashes:=e.hashes.eraseIdx (E4 e.hashes c.number) },⟨c.AZ,9,c.number,0,Bz⟩) else .error 41):=by
 unfold CD;rw [if_neg BF];rw [if_neg BF];rw [if_neg BF];rw [if_neg BF];rw [if_neg BF];rw [if_neg BF];rw [if_neg BF];rw [if_neg BF];rw [if_neg BF];rw [if_pos h]
theorem NA {e:CA} {c:Bb} (h:c.kind=11):CD e c=
  (
  if ¬(0≤c.number∧c.number≤1) then .error 2
  else if LK e.LJ=c.number then .error 41 else .ok ({ e with LJ:=(c.number==1) },⟨c.AZ,c.kind,LK e.LJ,0,Bz⟩)):=by
 unfold CD;rw [if_neg BF];rw [if_neg BF];rw [if_neg BF];rw [if_neg BF];rw [if_neg BF];rw [if_neg BF];rw [if_neg BF];rw [if_neg BF];rw [if_neg BF];rw [if_neg BF];rw [if_pos h]
theorem NB {e:CA} {c:Bb} (h:c.kind=12):CD e c=
  (
  if ¬(0≤c.number∧c.number≤1) then .error 2
  else if LK e.own=c.number then .error 41 else .ok ({ e with own:=(c.number==1) },⟨c.AZ,c.kind,LK e.own,0,Bz⟩)):=by
 unfold CD;rw [if_neg BF];rw [if_neg BF];rw [if_neg BF];rw [if_neg BF];rw [if_neg BF];rw [if_neg BF];rw [if_neg BF];rw [if_neg BF];rw [if_neg BF];rw [if_neg BF];rw [if_neg BF]
theorem f_ {e:CA} {c:Bb} {f:Int} (h:GY e=true) (hc:JW c) (hs:CD e c= .error f):ED e c=(FH,He,f):=by
 unfold ED;rw [if_neg BF,if_neg (fun h=>h hc),hs]
theorem mH {e:CA} {c:Bb} {e2:CA} {b:Bb} (h:GY e=true) (hc:JW c) (hs:CD e c= .ok (e2,b)) (h2:GY e2=true):ED e c=(e2,b,0):=by
 unfold ED;rw [if_neg BF,if_neg (fun h=>h hc),hs];exact if_pos h2
theorem tN {e:CA} {c:Bb} {e2:CA} {b:Bb} (h:GY e=true) (hc:JW c) (hs:CD e c= .ok (e2,b)) (h2:GY e2=false):ED e c=(FH,He,18):=by
 unfold ED;rw [if_neg BF,if_neg (fun h=>h hc),hs];exact if_neg (by rw [h2];decide)
structure cW (e:CA):Prop where
 name:Qv e.name=true
 least:1≤e.least
 lm:e.least≤e.most
 most:e.most≤4
 A0:Kz e.A0=true
 YZ:e.ids.length≤4
 AAk:e.anchors.length≤16
 anc:fV e.anchors=true
 hash:fV e.hashes=true
 ids:e.ids.all idB=true
 keys:e.anchors.all H9=true
 hsh:e.hashes.all Rb=true
theorem DG {e:CA}:GY e=true↔cW e:=by
 unfold GY;simp only [Bool.and_eq_true,decide_eq_true_eq]
 exact ⟨fun ⟨⟨⟨⟨⟨⟨⟨⟨a,b⟩,c⟩,d⟩,f⟩,⟨⟨⟨g,h⟩,i⟩,j⟩⟩,k⟩,l⟩,m⟩=>⟨a,b,c,d,f,g,h,i,j,k,l,m⟩,fun ⟨a,b,c,d,f,g,h,i,j,k,l,m⟩=>⟨⟨⟨⟨⟨⟨⟨⟨a,b⟩,c⟩,d⟩,f⟩,⟨⟨⟨g,h⟩,i⟩,j⟩⟩,k⟩,l⟩,m⟩⟩
theorem gA:Bz.small:=⟨by show 0≤_;omega,fun c hc=>by cases hc⟩
abbrev Tf:List Pr:=[Ge .u8]
abbrev cX (m:Nat):Pr:=slice 1 (List.replicate m Tf)
abbrev Eu (B:Nat):Pr:=Cp.ex fun m:Nat=>fact (m≤B) (cX m)
abbrev EH:Pr:=Cp.ex fun b:Bool=>bool b
abbrev Bk (q:Pr):List Pr:=[Ge .i64,Eu 1000,EH,q]
abbrev KB (row:List Pr):Pr:=Cp.ex fun m:Nat=>fact (m≤20) (slice 4 (List.replicate m row))
abbrev Lz (D:Nat):Pr:=Cp.ex fun d:Int=>fact (0≤d∧d≤(D:Nat)) (int d)
theorem KC {r:List Pr} {m k:Nat} (h:k<m):(List.replicate m r)[((k:Nat):Int).toNat]? =some r:=by rw [Int.toNat_natCast,List.getElem?_replicate,if_pos h]
theorem cY {r:List Pr} {m:Nat}:List.replicate m r++[r]=List.replicate (m+1) r:=by rw [List.replicate_succ']
theorem NC {r:List Pr} {m k:Nat}:List.replicate m r++List.replicate k r=List.replicate (m+k) r:=by rw [List.replicate_append_replicate]
theorem Q7.refl:∀l:List Pr,Q7 l l
 |[]=>trivial
 |_::l=>⟨Pr.le_refl _,Q7.refl l⟩
theorem WY {sz:Nat} {rows rows':List (List Pr)} (hl:rows.length=rows'.length) (h:∀(i:Nat) r r',rows[i]? =some r→rows'[i]? =some r'→r.length=r'.length∧∀(j:Nat) p p',r[j]? =some p→r'[j]? =some p'→Pr.le p p'):Pr.le (slice sz rows) (slice sz rows'):=by
 rintro M w v ⟨a,cap,h1,h2,h3,h4,h5⟩
 refine ⟨a,cap,by rw [←hl];exact h1,by rw [←hl];exact h2,h3,h4,fun i row hr=> ?_⟩
 have hi:i<rows.length:=by rw [hl];exact BN hr
 have hr0:=List.getElem?_eq_getElem hi
 obtain ⟨g1,g2⟩:=h i _ _ hr0 hr
 obtain ⟨k1,ad,k2,k3⟩:=h5 i _ hr0
 refine ⟨by rw [←g1];exact k1,ad,k2,fun j p' hp'=> ?_⟩
 have hj:j<rows[i].length:=by rw [g1];exact BN hp'
 have hp:=List.getElem?_eq_getElem hj
 obtain ⟨u,c1,c2,c3,c4⟩:=k3 j _ hp
 exact ⟨u,c1,c2,c3,g2 j _ _ hp hp' _ _ _ c4⟩
theorem gB {sz:Nat} {rows:List (List Pr)} {r:List Pr} (h:∀q∈rows,q.length=r.length∧∀(j:Nat) p p',q[j]? =some p→r[j]? =some p'→Pr.le p p'):Pr.le (slice sz rows) (slice sz (List.replicate rows.length r)):=
 WY AV fun i q q' hq hq'=>by
  rw [List.getElem?_replicate,if_pos (BN hq)] at hq'
  cases hq'
  exact h q (List.mem_of_getElem? hq)
theorem Ya {β:Type} {l:List β} {f:β→Int}:Pr.le (slice 1 (l.map fun x=>[is (.int .u8 (f x))])) (cX l.length):=by
 have:=gB (sz:=1) (rows:=l.map fun x=>[is (.int .u8 (f x))]) (r:=Tf) (by
  intro q hq
  obtain ⟨x,_,rfl⟩:=List.mem_map.1 hq
  refine ⟨rfl,fun j p p' hp hp'=> ?_⟩
  cases j with
  |zero=>simp at hp hp';subst hp;subst hp';exact DA _ _
  |succ j=>simp at hp)
 rwa [List.length_map] at this
theorem Fy {B m:Nat} {p:Pr} (h:m≤B) (hp:Pr.le p (cX m)):Pr.le p (Eu B):=Ax m (A9 h hp)
theorem BC.Bk {P:Program} {f:FuncId} {row:List Pr} {res:Pr} (h:∀(t:Int) (b:Nat) (n:Bool) (m:Nat),b≤1000→m≤20→BC P f [agg [int t,cX b,bool n,slice 4 (List.replicate m row)]] res):BC P f [agg (Bk (KB row))] res:=by
 refine ⟨(h 0 0 false 0 AA AA).1,fun M w vs hb hv=> ?_⟩
 match vs,hv with
 |[u0],YL=>
  obtain ⟨⟨cs,rfl,ho,hcs⟩,_⟩:=YL
  match cs,hcs with
  |[c0,c1,c2,c3],hc=>
   obtain ⟨⟨t,h0⟩,⟨b,PJ,h1⟩,⟨n,h2⟩,⟨m,hm1,h3⟩,_⟩:=hc
   exact (h t b n m PJ hm1).2 M w _ hb ⟨⟨_,rfl,ho,h0,h1,h2,h3,trivial⟩,trivial⟩
theorem BC.mI {P:Program} {f:FuncId} {res:Pr} (h:∀(t:Int) (b:Nat) (n:Bool),b≤1000→BC P f [agg [int t,cX b,bool n,slice 4 []]] res):BC P f [agg [Ge .i64,Eu 1000,EH,slice 4 []]] res:=by
 refine ⟨(h 0 0 false AA).1,fun M w vs hb hv=> ?_⟩
 match vs,hv with
 |[u0],YL=>
  obtain ⟨⟨cs,rfl,ho,hcs⟩,_⟩:=YL
  match cs,hcs with
  |[c0,c1,c2,c3],hc=>
   obtain ⟨⟨t,h0⟩,⟨b,PJ,h1⟩,⟨n,h2⟩,h3,_⟩:=hc
   exact (h t b n PJ).2 M w _ hb ⟨⟨_,rfl,ho,h0,h1,h2,h3,trivial⟩,trivial⟩
theorem yE {n:Int}  :BC prog 289 [int n] (bool (decide (1≤n)&&decide (n≤255)&&(n.tmod 32 !=31))):=by
 refine fo func289 rfl ⟨rfl,rfl⟩ fun M0 w0=> ?_
 refine ac ?_
 refine ag ?_ ?_<;>intro h1 q1
 refine ag ?_ ?_<;>intro h2 q2
 refine MM h2 rfl (cy h2 rfl (Uo rfl vq vq AA) ?_)
 refine a2 ?_
 · refine bool_eq ?_;simp_all
 refine a2 ?_
 · exact Pp
 refine a2 ?_
 · exact Pp
theorem N_ {t:Int} {b:Nat} {n:Bool} {m:Nat} {q:Pr}  (hb:b≤1000) (hm:m≤20) (ih:m=0∨BC prog 258 [agg (Bk q)] (EH)):BC prog 258 [agg [int t,cX b,bool n,slice 4 (List.replicate m (Bk q))]] (EH):=by
 refine fo func258 rfl ⟨rfl,rfl⟩ fun M0 w0=> ?_
 have hlr:(List.replicate m (Bk q)).length=m:=List.length_replicate
 have hlb:(List.replicate b Tf).length=b:=List.length_replicate
 refine a2 ?_
 refine co rfl (Ct (yE) rfl rfl) ?_
 refine ag ?_ ?_<;>intro h1 q1
 refine ac ?_
 refine wk [38,1] rfl ?_
 refine a2 ?_
 · exact BK
 refine ac ?_
 refine cy h1 rfl (UJ rfl vq vq AA) (cy h1 rfl (Uo rfl vq vq AA) (cy h1 rfl kiq (cy h1 rfl (Yw rfl underlying4 vq vq) ?_)))
 refine ag ?_ ?_<;>intro h2 q2
 refine ac ?_
 refine wk [38,1] rfl ?_
 refine a2 ?_
 · exact BK
 refine ag ?_ ?_<;>intro h3 q3
 refine ac ?_
 refine cy h3 rfl (Cc rfl underlying241 vq) ?_
 refine ag ?_ ?_<;>intro h4 q4
 refine ac ?_
 refine wk [38,1] rfl ?_
 refine a2 ?_
 · exact BK
 refine ag ?_ ?_<;>intro h5 q5
 refine ac ?_
 refine cy h5 rfl (Cc rfl underlying283 vq) ?_
 refine ac ?_
 refine wk [38,1] rfl ?_
 refine Tr.cn rfl ?_ ?_<;>intro h6 q6
 refine a2 ?_
 · exact BK
 refine a2 ?_
 refine Tr.block (Tr.BD _ (kk [1] rfl) (fun k:Nat=>[(3,int ((k:Nat):Int))]) (fun k:Nat=>k≤((List.replicate m (Bk q)).length)) (fun k:Nat=>((List.replicate m (Bk q)).length)-k) 0 (Nat.zero_le _) kz ?_)
 rintro k BR
 refine ac ?_
 refine co rfl (Cc rfl underlying283 vq) ?_
 refine an ?_ ?_<;>intro h7 q7
 have Ai:k<((List.replicate m (Bk q)).length):=AH h7
 have hkm:k<m:=by simpa using Ai
 have ih2:=ih.resolve_left AA
 refine ac ?_
 refine ap ?_
 refine tp rfl (AD rfl underlying283 Ci vq vq AA (KC hkm)) (tp rfl (AP rfl DN Ci vq rfl rfl) (tp rfl (Ct (ih2) rfl rfl) ?_))
 refine TO.ex 51 rfl (fun z51=> ?_)
 refine ap ?_
 · exact Lh
 have BM:k=((List.replicate m (Bk q)).length):=by have:=AJ h7;omega
 refine a3 ?_
 · exact BK
 refine ac ?_
 refine wk [38,1] rfl ?_
 refine a2 ?_
 refine Tr.block (Tr.BD _ (kk [1] rfl) (fun k:Nat=>[(3,int ((k:Nat):Int))]) (fun k:Nat=>k≤((List.replicate m (Bk q)).length)) (fun k:Nat=>((List.replicate m (Bk q)).length)-k) 0 (Nat.zero_le _) kz ?_)
 rintro k BR
 refine ac ?_
 refine co rfl (Cc rfl underlying283 vq) ?_
 refine an ?_ ?_<;>intro h9 q9
 have Ai:k<((List.replicate m (Bk q)).length):=AH h9
 have hkm:k<m:=by simpa using Ai
 have ih2:=ih.resolve_left AA
 refine ac ?_
 refine ap ?_
 refine tp rfl (AD rfl underlying283 Ci vq vq AA (KC hkm)) (tp rfl (AP rfl DN Ci vq rfl rfl) (tp rfl (Ct (ih2) rfl rfl) ?_))
 refine TO.ex 51 rfl (fun z51=> ?_)
 refine ap ?_
 · exact Lh
 have BM:k=((List.replicate m (Bk q)).length):=by have:=AJ h9;omega
 refine a3 ?_
 · exact BK
 refine ag ?_ ?_<;>intro h11 Sw
 refine ac ?_
 refine cy h11 rfl (Cc rfl underlying283 vq) ?_
 refine ac ?_
 refine wk [38,1] rfl ?_
 refine Tr.cn rfl ?_ ?_<;>intro h12 WE
 refine a2 ?_
 · exact BK
 refine a2 ?_
 refine Tr.block (Tr.BD _ (kk [1] rfl) (fun k:Nat=>[(3,int ((k:Nat):Int))]) (fun k:Nat=>k≤((List.replicate m (Bk q)).length)) (fun k:Nat=>((List.replicate m (Bk q)).length)-k) 0 (Nat.zero_le _) kz ?_)
 rintro k BR
 refine ac ?_
 refine co rfl (Cc rfl underlying283 vq) ?_
 refine an ?_ ?_<;>intro Nf cZ
 have Ai:k<((List.replicate m (Bk q)).length):=AH Nf
 have hkm:k<m:=by simpa using Ai
 have ih2:=ih.resolve_left AA
 refine ac ?_
 refine ap ?_
 refine tp rfl (AD rfl underlying283 Ci vq vq AA (KC hkm)) (tp rfl (AP rfl DN Ci vq rfl rfl) (tp rfl (Ct (ih2) rfl rfl) ?_))
 refine TO.ex 51 rfl (fun z51=> ?_)
 refine ap ?_
 · exact Lh
 have BM:k=((List.replicate m (Bk q)).length):=by have:=AJ Nf;omega
 refine a3 ?_
 · exact BK
 refine ac ?_
 refine wk [38,1] rfl ?_
 refine a2 ?_
 refine Tr.block (Tr.BD _ (kk [1] rfl) (fun k:Nat=>[(3,int ((k:Nat):Int))]) (fun k:Nat=>k≤((List.replicate m (Bk q)).length)) (fun k:Nat=>((List.replicate m (Bk q)).length)-k) 0 (Nat.zero_le _) kz ?_)
 rintro k BR
 refine ac ?_
 refine co rfl (Cc rfl underlying283 vq) ?_
 refine an ?_ ?_<;>intro Wh q15
 have Ai:k<((List.replicate m (Bk q)).length):=AH Wh
 have hkm:k<m:=by simpa using Ai
 have ih2:=ih.resolve_left AA
 refine ac ?_
 refine ap ?_
 refine tp rfl (AD rfl underlying283 Ci vq vq AA (KC hkm)) (tp rfl (AP rfl DN Ci vq rfl rfl) (tp rfl (Ct (ih2) rfl rfl) ?_))
 refine TO.ex 51 rfl (fun z51=> ?_)
 refine ap ?_
 · exact Lh
 have BM:k=((List.replicate m (Bk q)).length):=by have:=AJ Wh;omega
 refine a3 ?_
 · exact BK
theorem Rc {t:Int} {b:Nat} {n:Bool} {m:Nat} {q:Pr} {D:Nat}  (hb:b≤1000) (hm:m≤20) (hD:D≤1000) (ih:m=0∨BC prog 259 [agg (Bk q)] (Lz D)):BC prog 259 [agg [int t,cX b,bool n,slice 4 (List.replicate m (Bk q))]] (Lz (D+1)):=by
 refine BC.of func259 rfl rfl BA fun M0 w0=> ?_
 have hlr:(List.replicate m (Bk q)).length=m:=List.length_replicate
 have hlb:(List.replicate b Tf).length=b:=List.length_replicate
 refine Tr.seq (Tr.Aj (co rfl (Bj rfl (Va rfl)) (cm rfl (Ch.nil (Fin.go (Tr.seq (Tr.Aj (cm rfl (Ch.nil (Fin.go (Tr.seq (Tr.seq (Tr.Aj ?_)))))))))))))
 refine cm rfl (Ch.nil (Fin.go (Tr.block (Tr.BD [(1,_)] ⟨ke rfl,trivial⟩ (fun k:Nat=>[(4,int ((k:Nat):Int)),(3,Lz D)]) (fun k:Nat=>k≤((List.replicate m (Bk q)).length)) (fun k:Nat=>((List.replicate m (Bk q)).length)-k) 0 (Nat.zero_le _) ⟨ke rfl,⟨_,rfl,Ax 0 (A9 AA (Lr))⟩,trivial⟩ ?_))))
 rintro k BR
 refine Tr.seq (Tr.seq (Tr.Aj (cm rfl (co rfl (PK rfl Mu rfl rfl) (co rfl (F5 rfl U6 rfl) (co rfl (Cc rfl underlying283 (vl rfl)) (co rfl (ki rfl rfl rfl rfl) (Ch.nil (Fin.go ?_)))))))))
 refine Tr.cn rfl ?_ ?_<;>intro h1 q1
 have Ai:k<((List.replicate m (Bk q)).length):=AH h1
 have hkm:k<m:=by simpa using Ai
 have ih2:=ih.resolve_left AA
 refine Tr.skip (Fin.go (Tr.seq (Tr.block (Tr.Ao (tm rfl ?_)))))
 refine TO.ex 12 rfl (fun z12=>TO.fact 12 rfl fun AHm=> ?_)
 refine tp rfl (PK rfl Mu rfl rfl) (tp rfl (F5 rfl U6 rfl) (tm rfl (tp rfl (AD rfl underlying283 Ci (vl rfl) (vl rfl) AA (KC hkm)) (tp rfl (AP rfl DN Ci (vl rfl) rfl rfl) (tp rfl (AR rfl (ih2) ⟨ke rfl,trivial⟩) ?_)))))
 refine TO.ex 18 rfl (fun z18=>TO.fact 18 rfl fun AGK=> ?_)
 refine tp rfl (Jv rfl (vl rfl) (vl rfl)) (tm rfl (TO.nil (Fin.block (Fin.go (F6 1 3 4 rfl (Tr.Aj (cm rfl (Lq rfl rfl rfl rfl AA (cm rfl (Ch.nil (Fin.AL (k+1) ⟨Ai,by omega⟩ ⟨⟨_,rfl,AG k⟩,⟨_,rfl,Ax _ (A9 AA (Lr))⟩,ke rfl,trivial⟩)))))))))))
 have BM:k=((List.replicate m (Bk q)).length):=by have:=AJ h1;omega
 refine Tr.exit (Fin.AY (Fin.AY (Fin.Au (Fin.go (Tr.seq (Tr.Ao (tm rfl ?_)))))))
 refine TO.ex 20 rfl (fun z20=>TO.fact 20 rfl fun AHn=> ?_)
 refine tp rfl (E0 rfl (vl rfl) (vl rfl) ?hin) ?_;case hin=>unfold Oc;omega
 refine tm rfl (TO.nil (Fin.go (Tr.ret (Fin.LF rfl (Br.D4 _ _) rfl ?_))))
 · exact Ax _ (A9 AA (Lr))
def Rd (n:Nat):Nat:=if h:n=0 then 0 else 1+Rd (n/256)
termination_by n
decreasing_by omega
theorem Tg:Rd 0=0:=by unfold Rd;simp
theorem XA {n:Nat} (h:0<n):Rd n=1+Rd (n/256):=by conv=>lhs;unfold Rd;rw [dif_neg AA]
theorem VR:∀(n:Nat),Rd n≤n:=by
 intro n
 induction n using Nat.strongRecOn with
 |_ n ih=>
  rcases Nat.eq_zero_or_pos n with h|h
  · subst h;rw [Tg];omega
  · rw [XA h];have:=ih (n/256) AA;omega
def gC (n:Nat):Nat:=if n<128 then 1 else 1+Rd n
theorem cj (n:Nat):gC n≤n+1:=by unfold gC;have:=VR n;split<;>omega
theorem qx (k:Int):Pr.le (slice 1 [[is (.int .u8 k)]]) (cX 1):=Ya (l:=[()]) (f:=fun _=>k)
theorem gD {n:Nat} (hn:n≤100000000):BC prog 290 [int ((n:Nat):Int)] (cX (gC n)):=by
 refine fo func290 rfl ⟨rfl,rfl⟩ fun M0 w0=> ?_
 refine ac ?_
 refine an ?_ ?_<;>intro h1 q1
 refine ac ?_
 refine co rfl (Ey rfl underlying3 underlying5 vq) (co rfl (AO (xs:=[.tmp 7]) (rows:=[Tf]) rfl rfl underlying241 Nh z5 rfl AB ⟨⟨Am,VL.le vq (Pr.le_trans (DA _ _) (Af _))⟩,trivial⟩ AB) ?_)
 refine a2 ?_
 · refine Pr.le_trans (B5 _ _) (Pr.le_of_eq ?_);unfold gC;rw [if_pos AA];rfl
 refine a2 ?_
 refine Tr.seq (Tr.block (Tr.B_ 5 1 (Tr.C7 [] trivial (fun (k:Nat) (acc:Nat) v=>[(0,int ((k:Nat):Int)),(3,Ac v (cX acc))]) (fun (k:Nat) (acc:Nat) v=>Hp M0 w0 FT ([At 5 1 v])) (fun (k:Nat) (acc:Nat)=>Rd k+acc=Rd n∧k≤n) (fun (k:Nat) (acc:Nat)=>k) (n) (0) (.slice none 0 0) (⟨by omega,by omega⟩) ⟨kq,⟨_,rfl,Bq rfl⟩,trivial⟩ (fun _ _ h=>h) ?_)))
 rintro k acc v ⟨hk1,hk2⟩
 refine an ?_ ?_<;>intro h2 q2
 have hk0:0<k:=by have:=DU.D7 h2;omega
 have hdg:=XA hk0
 have hle:=VR n
 refine ac ?_
 refine ap ?_
 refine tp rfl (Uo rfl vq vq AA) (tp rfl (Ey rfl underlying3 underlying5 vq) (tp rfl (AO (xs:=[.tmp 13]) (rows:=[Tf]) rfl rfl underlying241 Nh z5 rfl AB ⟨⟨Am,VL.le vq (Pr.le_trans (DA _ _) (Af _))⟩,trivial⟩ AB) ?_))
 refine tm rfl (TO.pad ?_)
 refine TO.Dj 0 rfl rfl AB (B8 rfl rfl rfl rfl underlying241 Nh cC z5 GX IZ (Bu BO vq)) (fun v1=> ?_)
 refine ap ?_
 refine ac ?_
 refine co rfl (UJ rfl vq vq AA) ?_
 refine ac ?_
 refine Fin.drop 1 ?_
 exact Fin.Bl (k/256) (acc+1) v1 (⟨⟨by omega,by omega⟩,by omega⟩) ⟨⟨_,rfl,int_eq (by rw [Int.tdiv_eq_ediv_of_nonneg AA,Gl Kq];omega)⟩,⟨_,rfl,BE (by rw [show ([Tf]:List (List Pr))=List.replicate 1 Tf from rfl,NC,Nat.add_comm])⟩,trivial⟩ (fun _ _ h=>h)
 have hk0:k=0:=by have:=DU.D7 h2;omega
 subst hk0
 have hle:=VR n
 rw [Tg] at hk1
 refine ac ?_
 refine ap ?_
 refine tp rfl (Cc rfl underlying241 IZ) (tp rfl kiq (tp rfl (Ey rfl underlying3 underlying5 vq) (tp rfl (AO (xs:=[.tmp 22]) (rows:=[Tf]) rfl rfl underlying241 Nh z5 rfl AB ⟨⟨Am,VL.le vq (Pr.le_trans (DA _ _) (Af _))⟩,trivial⟩ AB) ?_)))
 refine tm rfl (TO.pad ?_)
 refine TO.Dj 0 rfl rfl AB (B8 rfl rfl rfl rfl underlying241 Nh cC z5 GX IZ (Bu BO vq)) (fun v2=> ?_)
 refine ap ?_
 refine ac ?_
 · refine Pr.le_trans (As _ _) (Pr.le_of_eq ?_);unfold gC;rw [if_neg AA,show ([Tf]:List (List Pr))=List.replicate 1 Tf from rfl,NC,show acc=Rd n by omega]
theorem ZJ {t:Int} {b:Nat} {n:Bool} {m:Nat} {q:Pr} {B:Nat}  (hb:b≤1000) (hm:m≤20) (hB:B≤1000000) (ih:m=0∨BC prog 260 [agg (Bk q)] (Eu B)):BC prog 260 [agg [int t,cX b,bool n,slice 4 (List.replicate m (Bk q))]] (Eu (2*(1000+20*B)+2)):=by
 refine fo func260 rfl ⟨rfl,rfl⟩ fun M0 w0=> ?_
 have hlr:(List.replicate m (Bk q)).length=m:=List.length_replicate
 have hlb:(List.replicate b Tf).length=b:=List.length_replicate
 refine ac ?_
 refine ap ?_
 refine TO.pad ?_
 refine TO.Dj 0 rfl rfl AB (B8 rfl rfl rfl rfl underlying241 Nh cC z5 GX vq (Bu BO vq)) (fun v1=> ?_)
 refine ap ?_
 refine ac ?_
 refine Tr.block (Tr.C7 _ (kk [1] rfl) (fun (k:Nat) (acc:Nat) v=>[(4,int ((k:Nat):Int)),(3,Ac v (cX acc))]) (fun (k:Nat) (acc:Nat) v=>Hp M0 w0 FT ([At 5 1 v])) (fun (k:Nat) (acc:Nat)=>k≤m∧acc≤b+k*B) (fun (k:Nat) (acc:Nat)=>m-k) (0) (b) v1 (⟨by omega,by omega⟩) ⟨kq,⟨_,rfl,BE AV⟩,trivial⟩ (fun _ _ h=>h) ?_)
 rintro k acc v ⟨hk1,hk2⟩
 have hkB:k*B≤20*B:=Nat.mul_le_mul_right B AA
 refine ac ?_
 refine co rfl (Cc rfl underlying283 vq) ?_
 refine an ?_ ?_<;>intro h1 q1
 have hkm:k<m:=by have:=DU.D7 h1;rw [hlr] at this;omega
 have ih2:=ih.resolve_left AA
 refine ac ?_
 refine ap ?_
 refine tp rfl (AD rfl underlying283 Ci vq vq AA (KC hkm)) (tp rfl (AP rfl DN Ci vq rfl rfl) (tp rfl (Ct (ih2) rfl rfl) ?_))
 refine TO.ex 22 rfl (fun z22=>TO.fact 22 rfl fun AHo=> ?_)
 refine TO.Dj 0 rfl rfl AB (B8 rfl rfl rfl rfl underlying241 Nh cC z5 IZ vq (A_ BO Kx)) (fun v2=> ?_)
 refine ap ?_
 refine wk [4,3,1] rfl ?_
 refine ac ?_
 exact Fin.Bl (k+1) (acc+z22) v2 (⟨⟨by omega,by rw [Nat.succ_mul];omega⟩,by omega⟩) ⟨⟨_,rfl,AG k⟩,⟨_,rfl,BE (by rw [NC])⟩,kz⟩ (fun _ _ h=>h)
 have aY:k=m:=by have:=DU.D7 h1;rw [hlr] at this;omega
 have Sh:=cj acc
 refine ac ?_
 refine Tr.seq (Tr.pad (Tr.rx ?_))
 refine ay ?_
 refine xo rfl (fun _=>Ey rfl underlying3 underlying5 vq) (xo rfl (fun _=>AO (xs:=[.tmp 26]) (rows:=[Tf]) rfl rfl underlying241 Nh z5 rfl AB ⟨⟨Am,VL.le vq (Pr.le_trans (DA _ _) (Af _))⟩,trivial⟩ AB) ?_)
 refine xm rfl (xo rfl (fun _=>Cc rfl underlying241 IZ) ?_)
 refine xo rfl (fun _=>AR rfl (gD (n:=acc) AA) ⟨⟨_,rfl,int_eq AV⟩,trivial⟩) ?_
 refine Cx.ef 0 rfl rfl AB (B8 rfl rfl rfl rfl underlying241 Nh cC z5 GX vq (Bu BO vq)) ?_
 refine xm rfl ?_
 refine Cx.ef 0 rfl rfl AB (B8 rfl rfl rfl rfl underlying241 Nh cC z5 vq IZ fF) ?_
 refine Cx.ef 0 rfl rfl AB (Us rfl rfl AB rfl vq) ?_
 refine Cx.nil ⟨by kernel_rfl,?_⟩
 refine BJ.open_ 0 2 rfl rfl (fun v3=> ?_)
 refine BJ.done W7 (Fin.go (wk [2] rfl ?_))
 refine ac ?_
 · exact Fy (m:=1+gC acc+acc) (by have:=cj acc;omega) (Pr.le_trans (As _ _) (Pr.le_of_eq (by rw [show ([Tf]:List (List Pr))=List.replicate 1 Tf from rfl,NC,NC])))
theorem gE {q:Pr} {D B:Nat} (hf:BC prog 258 [agg (Bk q)] EH) (hd:BC prog 259 [agg (Bk q)] (Lz D)) (hp:BC prog 260 [agg (Bk q)] (Eu B)):BC prog 225 [agg (Bk q)] (D6 [Eu B,Ge .i64]):=by
 refine fo func225 rfl ⟨rfl,rfl⟩ fun M0 w0=> ?_
 refine ac ?_
 refine ap ?_
 refine tp rfl (Ct (hf) rfl rfl) ?_
 refine TO.ex 6 rfl (fun z6=> ?_)
 refine ap ?_
 refine Tr.cn rfl ?_ ?_<;>intro h1 q1
 refine ac ?_
 refine Tr.ret (Fin.AF (Fin.Dm rfl (Br.D4 _ _) rfl ?_ rfl ?_))
 · exact Ph
 · exact DA _ _
 refine ac ?_
 refine ap ?_
 refine tp rfl (Ct (hd) rfl rfl) ?_
 refine TO.ex 9 rfl (fun z9=>TO.fact 9 rfl fun hz9=> ?_)
 refine ap ?_
 refine Tr.cn rfl ?_ ?_<;>intro h2 q2
 refine ac ?_
 refine Tr.ret (Fin.AF (Fin.Dm rfl (Br.D4 _ _) rfl ?_ rfl ?_))
 · exact Ph
 · exact DA _ _
 refine a2 ?_
 refine co rfl (Ct (hp) rfl rfl) ?_
 refine ac ?_
 refine ap ?_
 refine TO.ex 13 rfl (fun z13=>TO.fact 13 rfl fun AHp=> ?_)
 refine tp rfl (Cc rfl underlying241 vq) ?_
 refine ap ?_
 refine wk [15,4] rfl ?_
 refine Tr.cn rfl ?_ ?_<;>intro h3 q3
 refine ac ?_
 refine Tr.ret (Fin.AF (Fin.Dm rfl (Br.D4 _ _) rfl ?_ rfl ?_))
 · exact Ph
 · exact DA _ _
 refine a2 ?_
 refine Tr.ret (Fin.Dm rfl (Br.D4 _ _) rfl ?_ rfl ?_)
 · exact Lr
 · exact DA _ _
theorem tO:IntKind.u8.wrap 0=0:=rfl
def lvI (x:Int):Nat:=if x≤0 then 0 else if x<256 then 1 else if x<65536 then 2 else if x<16777216 then 3 else if x<4294967296 then 4 else if x<1099511627776 then 5 else 6+x.toNat
theorem mJ {x:Int} (h:0<x):lvI (x/256)<lvI x:=by
 unfold lvI
 repeat' split
 all_goals omega
def KD (x h:Int):Nat:=if x=0 then (if 128≤h then 1 else 0) else lvI x+1
theorem tP {n h:Int} (h0:0≤n) (h1:n≤1099511627776):KD (n/256) h≤400:=by
 unfold KD lvI
 repeat' split
 all_goals omega
theorem HA {x h:Int} {t:Nat} (h0:0≤x) (hc:x≠0∨128≤h) (hi:t+KD x h≤400):(0≤x/256∧t+1+KD (x/256) (IntKind.u8.wrap x)≤400)∧KD (x/256) (IntKind.u8.wrap x)<KD x h:=by
 have key:KD (x/256) (IntKind.u8.wrap x)<KD x h:=by
  unfold KD
  by_cases hx:x=0
  ·
   subst hx
   rw [tO,if_pos AB,if_neg AB,if_pos rfl,if_pos AA];decide
  ·
   have:=mJ (x:=x) AA
   rw [if_neg hx]
   by_cases hy:x/256=0
   ·
    rw [if_pos hy];have:(if 128≤IntKind.u8.wrap x then 1 else 0)≤1:=by split<;>omega
    omega
   · rw [if_neg hy];omega
 exact ⟨⟨by omega,by omega⟩,key⟩
theorem Hf {P:Program} {I:Ce} {E:Env} {o:Oper} {t u:TypeId} {x y:Operand} {m:Int} (ho:o.op= .binOp .shr t x y u) (hx:VL E x (int m)) (hy:VL E y (is (.int .u64 8))) (h0:0≤m):Ae P I o E (int (m/256)):=
 Ae.same fun M w a he _=>by
  have h1:a.eval x= .int .i64 m:=hx.ev he Ar
  have h2:a.eval y= .int .u64 8:=hy.ev he Ar
  refine ⟨.int .i64 (m.fdiv 256),?_,congrArg (Value.int .i64) (Int.fdiv_eq_ediv_of_nonneg m AA)⟩
  simp only [execOp,ho,h1,h2]
  simp [eqGuard,binOp,Op.shift,IntKind.bits]
abbrev q0:Pr:=slice 4 []
theorem L1 {n:Int} (hn:0≤n∧n≤1099511627776):BC prog 263 [int n] (agg (Bk q0)):=by
 refine fo func263 rfl ⟨rfl,rfl⟩ fun M0 w0=>(Tr.seq (Tr.Ao ?_))
 refine Tl rfl rfl rfl rfl N6 LV (fun b1=> ?_)
 refine ap ?_
 refine ac ?_
 refine co rfl (Ey rfl underlying3 underlying5 vq) ?_
 refine a2 ?_
 refine co rfl (Hf rfl vq vq AA) ?_
 refine ac ?_
 refine Tr.block ?_
 refine Tr.Jz _ (kk [2] rfl) (fun (x:Int) (h:Int) (t:List Int)=>[(4,int x),(3,slice 1 ((h::t).map fun n=>[is (.int .u8 n)]))]) (fun (x:Int) (h:Int) (t:List Int)=>Hp M0 w0 FT ([AE true b1 285 (([.int .i64 0,.slice none 0 0,.bool false,.slice none 0 0]:List Value).map is)])) (fun (x:Int) (h:Int) (t:List Int)=>0≤x∧t.length+KD x h≤400) (fun (x:Int) (h:Int) (t:List Int)=>KD x h) (n/256) (IntKind.u8.wrap n) ([])  (⟨by omega,by simp only [List.length_nil];have:=tP (h:=IntKind.u8.wrap n) hn.1 hn.2;omega⟩) ⟨kq,⟨_,rfl,Pr.le_trans (B5 _ _) (Pr.le_of_eq rfl)⟩,trivial⟩ (fun _ _ h=>h) ?_
 rintro x h t  ⟨hx0,hmu⟩
 refine ag ?_ ?_<;>intro h1 q1
 refine ag ?_ ?_<;>intro h2 q2
 refine ac ?_
 refine wk [35,4,3,2] rfl ?_
 refine ac ?_
 refine ap ?_
 refine tp rfl (Ey rfl underlying3 underlying5 vq) ?_
 refine ap ?_
 refine TO.pad ?_
 refine TO.Dj 0 rfl rfl AB (B8 rfl rfl rfl rfl underlying241 Nh cC z5 GX vq (Bu BO vq)) (fun v1=> ?_)
 refine ap ?_
 refine ac ?_
 refine co rfl (Hf rfl vq vq AA) ?_
 refine ac ?_
 refine Fin.drop 0 (Fin.EZ (x/256) (IntKind.u8.wrap x) (h::t)  ((HA hx0 AA hmu)) ⟨kq,⟨_,rfl,Pr.le_trans (As _ _) (Pr.le_of_eq rfl)⟩,kz⟩ (fun _ _ h=>h))
 refine ag ?_ ?_<;>intro h3 q3
 refine MM h3 rfl ?_
 refine cy h3 rfl (AD rfl underlying241 Nh vq vq AA (Aa (k:=0) rfl)) ?_
 refine ag ?_ ?_<;>intro h4 q4
 refine ac ?_
 refine wk [35,4,3,2] rfl ?_
 refine ac ?_
 refine ap ?_
 refine tp rfl (Ey rfl underlying3 underlying5 vq) ?_
 refine ap ?_
 refine TO.pad ?_
 refine TO.Dj 0 rfl rfl AB (B8 rfl rfl rfl rfl underlying241 Nh cC z5 GX vq (Bu BO vq)) (fun v2=> ?_)
 refine ap ?_
 refine ac ?_
 refine co rfl (Hf rfl vq vq AA) ?_
 refine ac ?_
 refine Fin.drop 0 (Fin.EZ (x/256) (IntKind.u8.wrap x) (h::t)  ((HA hx0 AA hmu)) ⟨kq,⟨_,rfl,Pr.le_trans (As _ _) (Pr.le_of_eq rfl)⟩,kz⟩ (fun _ _ h=>h))
 refine ag ?_ ?_<;>intro h5 q5
 refine MM h5 rfl ?_
 refine cy h5 rfl (AD rfl underlying241 Nh vq vq AA (Aa (k:=0) rfl)) ?_
 refine ac ?_
 refine wk [35,4,3,2] rfl ?_
 refine Tr.cn rfl ?_ ?_<;>intro h6 q6
 have Se:=h6
 refine ac ?_
 refine ap ?_
 refine tp rfl (Ey rfl underlying3 underlying5 vq) ?_
 refine ap ?_
 refine TO.pad ?_
 refine TO.Dj 0 rfl rfl AB (B8 rfl rfl rfl rfl underlying241 Nh cC z5 GX vq (Bu BO vq)) (fun v3=> ?_)
 refine ap ?_
 refine ac ?_
 refine co rfl (Hf rfl vq vq AA) ?_
 refine ac ?_
 refine Fin.drop 0 (Fin.EZ (x/256) (IntKind.u8.wrap x) (h::t)  ((HA hx0 AA hmu)) ⟨kq,⟨_,rfl,Pr.le_trans (As _ _) (Pr.le_of_eq rfl)⟩,kz⟩ (fun _ _ h=>h))
 have Se:=h6
 refine ac ?_
 refine ap ?_
 refine Tr.ret (Fin.CX rfl (AM.cell 0 rfl rfl DN Ci rfl Lr) ?_)
 · exact Jp
 refine ac ?_
 refine wk [35,4,3,2] rfl ?_
 refine ac ?_
 refine ap ?_
 refine Tr.ret (Fin.CX rfl (AM.cell 0 rfl rfl DN Ci rfl Lr) ?_)
 · exact Jp
 refine ag ?_ ?_<;>intro h7 q7
 refine MM h7 rfl ?_
 refine cy h7 rfl (AD rfl underlying241 Nh vq vq AA (Aa (k:=0) rfl)) ?_
 refine ac ?_
 refine wk [35,4,3,2] rfl ?_
 refine Tr.cn rfl ?_ ?_<;>intro h8 q8
 have Se:=h8
 refine ac ?_
 refine ap ?_
 refine tp rfl (Ey rfl underlying3 underlying5 vq) ?_
 refine ap ?_
 refine TO.pad ?_
 refine TO.Dj 0 rfl rfl AB (B8 rfl rfl rfl rfl underlying241 Nh cC z5 GX vq (Bu BO vq)) (fun v4=> ?_)
 refine ap ?_
 refine ac ?_
 refine co rfl (Hf rfl vq vq AA) ?_
 refine ac ?_
 refine Fin.drop 0 (Fin.EZ (x/256) (IntKind.u8.wrap x) (h::t)  ((HA hx0 AA hmu)) ⟨kq,⟨_,rfl,Pr.le_trans (As _ _) (Pr.le_of_eq rfl)⟩,kz⟩ (fun _ _ h=>h))
 have Se:=h8
 refine ac ?_
 refine ap ?_
 refine Tr.ret (Fin.CX rfl (AM.cell 0 rfl rfl DN Ci rfl Lr) ?_)
 · exact Jp
 refine ac ?_
 refine wk [35,4,3,2] rfl ?_
 refine ac ?_
 refine ap ?_
 refine Tr.ret (Fin.CX rfl (AM.cell 0 rfl rfl DN Ci rfl Lr) ?_)
 · exact Jp
 refine ag ?_ ?_<;>intro h9 q9
 refine MM h9 rfl ?_
 refine cy h9 rfl (AD rfl underlying241 Nh vq vq AA (Aa (k:=0) rfl)) ?_
 refine ag ?_ ?_<;>intro h10 Re
 refine ac ?_
 refine wk [35,4,3,2] rfl ?_
 refine ac ?_
 refine ap ?_
 refine tp rfl (Ey rfl underlying3 underlying5 vq) ?_
 refine ap ?_
 refine TO.pad ?_
 refine TO.Dj 0 rfl rfl AB (B8 rfl rfl rfl rfl underlying241 Nh cC z5 GX vq (Bu BO vq)) (fun v5=> ?_)
 refine ap ?_
 refine ac ?_
 refine co rfl (Hf rfl vq vq AA) ?_
 refine ac ?_
 refine Fin.drop 0 (Fin.EZ (x/256) (IntKind.u8.wrap x) (h::t)  ((HA hx0 AA hmu)) ⟨kq,⟨_,rfl,Pr.le_trans (As _ _) (Pr.le_of_eq rfl)⟩,kz⟩ (fun _ _ h=>h))
 refine ag ?_ ?_<;>intro h11 Sw
 refine MM h11 rfl ?_
 refine cy h11 rfl (AD rfl underlying241 Nh vq vq AA (Aa (k:=0) rfl)) ?_
 refine ac ?_
 refine wk [35,4,3,2] rfl ?_
 refine Tr.cn rfl ?_ ?_<;>intro h12 WE
 have Se:=h12
 refine ac ?_
 refine ap ?_
 refine tp rfl (Ey rfl underlying3 underlying5 vq) ?_
 refine ap ?_
 refine TO.pad ?_
 refine TO.Dj 0 rfl rfl AB (B8 rfl rfl rfl rfl underlying241 Nh cC z5 GX vq (Bu BO vq)) (fun v6=> ?_)
 refine ap ?_
 refine ac ?_
 refine co rfl (Hf rfl vq vq AA) ?_
 refine ac ?_
 refine Fin.drop 0 (Fin.EZ (x/256) (IntKind.u8.wrap x) (h::t)  ((HA hx0 AA hmu)) ⟨kq,⟨_,rfl,Pr.le_trans (As _ _) (Pr.le_of_eq rfl)⟩,kz⟩ (fun _ _ h=>h))
 have Se:=h12
 refine ac ?_
 refine ap ?_
 refine Tr.ret (Fin.CX rfl (AM.cell 0 rfl rfl DN Ci rfl Lr) ?_)
 · exact Jp
 refine ac ?_
 refine wk [35,4,3,2] rfl ?_
 refine ac ?_
 refine ap ?_
 refine Tr.ret (Fin.CX rfl (AM.cell 0 rfl rfl DN Ci rfl Lr) ?_)
 · exact Jp
 refine ag ?_ ?_<;>intro Nf cZ
 refine MM Nf rfl ?_
 refine cy Nf rfl (AD rfl underlying241 Nh vq vq AA (Aa (k:=0) rfl)) ?_
 refine ac ?_
 refine wk [35,4,3,2] rfl ?_
 refine Tr.cn rfl ?_ ?_<;>intro Ng q14
 have Se:=Ng
 refine ac ?_
 refine ap ?_
 refine tp rfl (Ey rfl underlying3 underlying5 vq) ?_
 refine ap ?_
 refine TO.pad ?_
 refine TO.Dj 0 rfl rfl AB (B8 rfl rfl rfl rfl underlying241 Nh cC z5 GX vq (Bu BO vq)) (fun v7=> ?_)
 refine ap ?_
 refine ac ?_
 refine co rfl (Hf rfl vq vq AA) ?_
 refine ac ?_
 refine Fin.drop 0 (Fin.EZ (x/256) (IntKind.u8.wrap x) (h::t)  ((HA hx0 AA hmu)) ⟨kq,⟨_,rfl,Pr.le_trans (As _ _) (Pr.le_of_eq rfl)⟩,kz⟩ (fun _ _ h=>h))
 have Se:=Ng
 refine ac ?_
 refine ap ?_
 refine Tr.ret (Fin.CX rfl (AM.cell 0 rfl rfl DN Ci rfl Lr) ?_)
 · exact Jp
 refine ac ?_
 refine wk [35,4,3,2] rfl ?_
 refine ac ?_
 refine ap ?_
 refine Tr.ret (Fin.CX rfl (AM.cell 0 rfl rfl DN Ci rfl Lr) ?_)
 · exact Jp
theorem VS {s:List UInt8} (hs:s.length≤1000):BC prog 261 [str s] (agg (Bk q0)):=by
 refine fo func261 rfl ⟨rfl,rfl⟩ fun M0 w0=>(Tr.seq (Tr.Ao ?_))
 refine Tl rfl rfl rfl rfl N6 LV (fun b1=> ?_)
 refine ap ?_
 refine ap ?_
 refine tp rfl (lC rfl underlying9 underlying241 underlying5 vq Fz) ?_
 refine ap ?_
 refine Tr.ret (Fin.CX rfl (AM.cell 0 rfl rfl DN Ci rfl Lr) ?_)
 · exact BS ⟨DA _ _,Fy (m:=s.length) AA (Ya (f:=fun c:UInt8=>((c.toNat:Nat):Int))),Ax _ Lr,AQ 4,trivial⟩
theorem tQ {b:Bool}  :BC prog 265 [bool b] (agg (Bk q0)):=by
 refine fo func265 rfl ⟨rfl,rfl⟩ fun M0 w0=>(Tr.seq (Tr.Ao ?_))
 refine Tl rfl rfl rfl rfl N6 LV (fun b1=> ?_)
 refine ap ?_
 refine an ?_ ?_<;>intro h1 q1
 refine ap ?_
 refine tp rfl (Al (rows:=[(0,[_]),(1,[_])]) rfl lB LV ⟨⟨rfl,Ni⟩,⟨⟨rfl,⟨_,rfl,Pr.le_trans (B5 _ _) (Af _)⟩⟩,trivial⟩⟩ rfl) ?_
 refine ap ?_
 refine Tr.ret (Fin.AF (Fin.CX rfl (AM.cell 0 rfl rfl DN Ci rfl Lr) ?_))
 · exact aj
 refine ac ?_
 refine ap ?_
 refine tp rfl (Al (rows:=[(0,[_]),(1,[_])]) rfl lB LV ⟨⟨rfl,Ni⟩,⟨⟨rfl,⟨_,rfl,Pr.le_trans (B5 _ _) (Af _)⟩⟩,trivial⟩⟩ rfl) ?_
 refine ap ?_
 refine Tr.ret (Fin.CX rfl (AM.cell 0 rfl rfl DN Ci rfl Lr) ?_)
 · exact aj
theorem OA {m:Nat} {q:Pr} [One q]  (hm:m≤20) (ih:m=0∨BC prog 291 [q] q):BC prog 291 [slice 4 (List.replicate m (Bk q))] (slice 4 (List.replicate m (Bk q))):=by
 refine BC.of func291 rfl rfl BA fun M0 w0=> ?_
 have hlr:(List.replicate m (Bk q)).length=m:=List.length_replicate
 refine Tr.seq (Tr.Aj (cm rfl (Ch.nil (Fin.go (Tr.seq (Tr.Aj (cm rfl (Ch.nil (Fin.go (Tr.seq (Tr.seq (Tr.Aj (cm rfl ?_)))))))))))))
 refine Ch.nil (Fin.go (Tr.block (Tr.B_ 285 4 (Tr.Ep [(0,_)] ⟨ke rfl,trivial⟩ (fun k v=>[(4,int ((k:Nat):Int)),(3,Ac v (slice 4 (List.replicate k (Bk q))))]) (fun k v=>Hp M0 w0 FT ([At 285 4 v])) (fun k:Nat=>k≤((List.replicate m (Bk q)).length)) (fun k:Nat=>((List.replicate m (Bk q)).length)-k) 0 (.slice none 0 0) (Nat.zero_le _) ⟨ke rfl,⟨_,rfl,Bq rfl⟩,trivial⟩ (fun _ _ h=>h) ?_))))
 rintro k v BR
 refine Tr.seq (Tr.seq (Tr.Aj (cm rfl (cm rfl (co rfl (Cc rfl underlying283 (vl rfl)) (co rfl (ki rfl rfl rfl rfl) (Ch.nil (Fin.go ?_))))))))
 refine Tr.cn rfl ?_ ?_<;>intro h1 q1
 have Ai:k<((List.replicate m (Bk q)).length):=AH h1
 have hkm:k<m:=by simpa using Ai
 have ih2:=ih.resolve_left AA
 refine Tr.skip (Fin.go (Tr.seq (Tr.block (Tr.seq (Tr.Ao (tm rfl (tm rfl (tp rfl (AD rfl underlying283 Ci (vl rfl) (vl rfl) AA (KC hkm)) (tp rfl (AP rfl DN Ci (vl rfl) rfl rfl) ?_)))))))))
 refine Tl rfl rfl rfl rfl N6 LV (fun b1=> ?_)
 refine TO.AK 0 rfl rfl rfl (vl rfl) (Va rfl) rfl Ci rfl rfl (TO.nil (Fin.go (Tr.seq (Tr.Ao (tp rfl (AO (xs:=[]) (rows:=[]) rfl rfl underlying241 Nh z5 rfl AB trivial AB) (tp rfl (AW rfl U7 (vl rfl)) (TO.rd 0 rfl rfl rfl AB (BB rfl lA (vl rfl) rfl) ?_)))))))
 refine TO.ex 18 rfl (fun z18=>TO.fact 18 rfl fun AGK=> ?_)
 refine TO.pad ?_
 refine TO.Dj 0 rfl rfl AB (B8 rfl rfl rfl rfl underlying241 Nh cC z5 (Kf rfl) (vl rfl) (Bu BO (vl rfl))) (fun v1=> ?_)
 refine tp rfl (AW rfl U7 (vl rfl)) (TO.DY 1 rfl rfl (Ay rfl rfl (vl rfl) (Vo rfl) ABb rfl BA rfl) (TO.nil (Fin.go (WC 0 3 4 5 rfl (Tr.seq (Tr.Ao (tp rfl (AW rfl Mu (vl rfl)) (TO.rd 1 rfl rfl rfl AB (BB rfl U6 (vl rfl) rfl) (tp rfl (AR rfl (ih2) ⟨ke rfl,trivial⟩) (tp rfl (AW rfl Mu (vl rfl)) (TO.DY 1 rfl rfl (Ay rfl rfl (vl rfl) (Vo rfl) ABd rfl BA rfl) (TO.nil (Fin.go (Tr.Ao ?_))))))))))))))
 refine tm rfl (TO.rd 1 rfl rfl rfl AB (B4 rfl DN Ci (vl rfl) rfl rfl) (tp rfl (AO (xs:=[.tmp 26]) (rows:=[Bk q]) rfl rfl underlying283 Ci N6 rfl AB ⟨⟨Am,VL.le (vl rfl) (Pr.le_trans (BS (qs:=Bk q) ⟨Lr,Fy (m:=z18) AA (Pr.le_trans (As _ _) (Pr.le_of_eq rfl)),Lr,Lr,trivial⟩) (Ad _))⟩,trivial⟩ AB) ?_))
 refine TO.Dj 2 rfl rfl AB (B8 rfl rfl rfl rfl underlying283 Ci wB N6 (Kb rfl) (Kf rfl) (A_ BO (Ka rfl))) (fun v2=> ?_)
 refine tm rfl (TO.nil (Fin.block (Fin.go (Tr.drop 1 (Tr.Aj (cm rfl (Lq rfl rfl rfl rfl AA (cm rfl (Ch.nil (Fin.drop 0 (Fin.DM (k+1) v2 (⟨Ai,by omega⟩) ⟨⟨_,rfl,AG k⟩,⟨_,rfl,BE (by rw [cY])⟩,ke rfl,trivial⟩ (fun _ _ h=>h))))))))))))
 have BM:k=((List.replicate m (Bk q)).length):=by have:=AJ h1;omega
 refine Tr.exit (Fin.AY (Fin.AY (Fin.Au (Fin.go (Tr.seq (Tr.Aj (cm rfl (cm rfl (Ch.nil (Fin.go (Tr.ret (Fin.LF rfl (Br.D4 _ _) rfl ?_))))))))))))
 · exact Pr.le_trans (As _ _) (Pr.le_of_eq (by rw [BM,hlr]))
theorem VT {m:Nat} {q:Pr}  (hm:m≤20) (hc:BC prog 291 [slice 4 (List.replicate m (Bk q))] (slice 4 (List.replicate m (Bk q)))):BC prog 262 [slice 4 (List.replicate m (Bk q))] (agg (Bk (KB (Bk q)))):=by
 refine fo func262 rfl ⟨rfl,rfl⟩ fun M0 w0=>(Tr.seq (Tr.Ao ?_))
 refine Tl rfl rfl rfl rfl N6 LV (fun b1=> ?_)
 refine ap ?_
 refine ap ?_
 refine tp rfl (Ct (hc) rfl rfl) ?_
 refine ap ?_
 refine Tr.ret (Fin.CX rfl (AM.cell 0 rfl rfl DN Ci rfl Lr) ?_)
 · exact BS ⟨DA _ _,Fy (m:=0) AA (AQ 1),Ax _ Lr,Ax m (A9 hm Lr),trivial⟩
structure HJ.vf (c:HJ):Prop where
 s0:0≤c.Hw
 s1:c.Hw≤1099511627776
 iss:named c.J8=true
 sub:named c.HZ=true
 nm:G_ c.names=true
 key:LO c.PU c.JQ 2=true
 k0:0≤c.CR
 k1:c.CR≤2147483648
 hash:LO c.VK c.M6 1=true
 sk0:0≤c.fS
 sk1:c.fS≤2147483648
 su0:0≤c.fT
 su1:c.fT<4294967296
 f0:0≤c.from_
 ft:c.from_≤c.N8
 t1:c.N8≤40000
 p0:0≤c.path
 p1:c.path≤8
 ap:c.auth=true∨c.path=0
theorem JI {c:HJ} (hv:EA c=true):c.vf:=by
 simp only [EA,H9,yB,Bool.and_eq_true,Bool.or_eq_true,decide_eq_true_eq,beq_iff_eq] at hv
 obtain ⟨⟨⟨⟨⟨⟨⟨h1,h2⟩,h3⟩,h4⟩,h5⟩,⟨⟨⟨⟨h6,⟨h7,h8⟩⟩,h9⟩,⟨h10,h11⟩⟩,⟨h12,Nf⟩⟩⟩,⟨⟨Ng,Wh⟩,h16⟩⟩,⟨⟨PL,Sb⟩,h19⟩⟩:=hv
 exact ⟨h1,h2,h3,h4,h5,h6,h7,h8,h9,h10,h11,h12,Nf,Ng,Wh,h16,PL,Sb,h19⟩
theorem ck {c:HJ} (h:c.vf):EA c=true:=by
 simp only [EA,H9,yB,Bool.and_eq_true,Bool.or_eq_true,decide_eq_true_eq,beq_iff_eq]
 exact ⟨⟨⟨⟨⟨⟨⟨h.s0,h.s1⟩,h.iss⟩,h.sub⟩,h.nm⟩,⟨⟨⟨⟨h.key,⟨h.k0,h.k1⟩⟩,h.hash⟩,⟨h.sk0,h.sk1⟩⟩,⟨h.su0,h.su1⟩⟩⟩,⟨⟨h.f0,h.ft⟩,h.t1⟩⟩,⟨⟨h.p0,h.p1⟩,h.ap⟩⟩
theorem ZK {a b k:Int} (h:LO a b k=true):decide (Dr a b>0)=true∧(Es a).kind=k:=by
 unfold LO at h;simpa using h
theorem VU {l:List (List UInt8)} {k:Nat} {s:List UInt8} (h:nameAt l k=true) (hs:l[k]? =some s):named s=true:=by
 unfold nameAt at h;rw [hs] at h;simp at h;exact h.1
theorem cq {l:List (List UInt8)} {k:Nat} {s y:List UInt8} (h:nameAt l k=true) (hs:l[k]? =some s) (hy:l[k-1]? =some y) (hk:0<k):decide (Lib.compareBytes y s= -1)=true:=by
 unfold nameAt at h;rw [hs,hy] at h;simp at h
 rcases h.2 with h2|h2
 · omega
 · exact MY
theorem Th {c:HJ} (hv:EA c=true):BC prog 188 [agg (DO c)] (int 0):=by
 refine fo func188 rfl ⟨rfl,rfl⟩ fun M0 w0=> ?_
 obtain ⟨hs0,hs1,yF,hsub,hnm,hkey,hk0,hk1,wL,AGL,AGM,AGN,AGO,jW,hft,ht1,hp0,PR,hap⟩:=JI hv
 obtain ⟨ACp,ACq⟩:=ZK hkey
 obtain ⟨hh1,hh2⟩:=ZK wL
 have OB:=hnm
 unfold G_ at OB
 rw [Bool.and_eq_true,B7,decide_eq_true_eq] at OB
 obtain ⟨hall,ACr⟩:=OB
 refine ac ?_
 refine ag ?_ ?_<;>intro h1 q1
 exfalso;have:=q1;omega
 refine ag ?_ ?_<;>intro h2 q2
 exfalso;have:=q2;omega
 refine ac ?_
 refine cy h2 rfl (Ct (Gp) rfl rfl) ?_
 refine ag ?_ ?_<;>intro h3 q3
 rw [yF] at h3;exact absurd h3 AB
 refine ac ?_
 refine cy h3 rfl (Ct (Gp) rfl rfl) ?_
 refine ag ?_ ?_<;>intro h4 q4
 rw [hsub] at h4;exact absurd h4 AB
 refine ac ?_
 refine cy h4 rfl (Ct (KA) rfl rfl) ?_
 refine ag ?_ ?_<;>intro h5 q5
 rw [ACp,ACq] at h5;exact absurd h5 AB
 refine ag ?_ ?_<;>intro h6 q6
 exfalso;have:=q6;omega
 refine ac ?_
 refine wk [39,1] rfl ?_
 refine Tr.cn rfl ?_ ?_<;>intro h7 q7
 exfalso;have:=q7;omega
 refine a2 ?_
 refine co rfl (Ct (J_) rfl rfl) ?_
 refine ag ?_ ?_<;>intro h8 q8
 rw [hh1] at h8;exact absurd h8 AB
 refine ac ?_
 refine cy h8 rfl (Ct (QA) rfl rfl) ?_
 refine ag ?_ ?_<;>intro h9 q9
 rw [hh2] at h9;exact absurd h9 AB
 refine ag ?_ ?_<;>intro h10 Re
 exfalso;have:=Re;omega
 refine ag ?_ ?_<;>intro h11 Sw
 exfalso;have:=Sw;omega
 refine ac ?_
 refine wk [67,1] rfl ?_
 refine Tr.cn rfl ?_ ?_<;>intro h12 WE
 exfalso;have:=WE;omega
 refine ac ?_
 refine ag ?_ ?_<;>intro Nf cZ
 exfalso;have:=cZ;omega
 refine ag ?_ ?_<;>intro Ng q14
 exfalso;have:=q14;omega
 refine ag ?_ ?_<;>intro Wh q15
 refine ag ?_ ?_<;>intro h16 q16
 exfalso;have:=q16;simp_all
 refine ac ?_
 refine wk [91,1] rfl ?_
 refine Tr.cn rfl ?_ ?_<;>intro PL q17
 exfalso;have:=q17;omega
 refine a2 ?_
 refine Tr.block (Tr.BD _ (kk [1] rfl) (fun k:Nat=>[(3,int ((k:Nat):Int))]) (fun k:Nat=>k≤(c.names).length) (fun k:Nat=>(c.names).length-k) 0 (Nat.zero_le _) kz ?_)
 rintro k BR
 refine an ?_ ?_<;>intro Sb q18
 have Ai:k<(c.names).length:=AH Sb
 obtain ⟨s,Ah⟩:=at_ Ai
 have hat:=hall k AA
 have hna:=VU hat Ah
 refine a2 ?_
 refine co rfl (AD rfl underlying127 Ms vq vq AA (Aa Ah)) (co rfl (F5 rfl PM rfl) (co rfl (Ct (Gp) rfl rfl) ?_))
 refine ag ?_ ?_<;>intro h19 q19
 exfalso;rw [hna] at h19;exact absurd h19 AB
 refine ag ?_ ?_<;>intro Sd q20
 have L2:0<k:=by simpa using Sd
 obtain ⟨y,hy⟩:=at_ (l:=c.names) (k:=k-1) AA
 have hlt:=cq hat Ah hy L2
 refine ac ?_
 refine cy Sd rfl (AD rfl underlying127 Ms vq vq AA Li) ?_
 refine ac ?_
 refine cy Sd rfl (AD rfl underlying127 Ms vq vq AA (Aa Ah)) (cy Sd rfl (F5 rfl PM rfl) (cy Sd rfl (RO rfl vq vq) ?_))
 refine ac ?_
 refine wk [123,3,1] rfl ?_
 refine Tr.cn rfl ?_ ?_<;>intro cR q21
 exfalso;rw [hlt] at cR;exact absurd cR AB
 refine a2 ?_
 exact Fin.AL (k+1) ⟨Ai,by omega⟩ ⟨⟨_,rfl,AG k⟩,kz⟩
 refine ac ?_
 refine wk [123,3,1] rfl ?_
 refine a2 ?_
 exact Fin.AL (k+1) ⟨Ai,by omega⟩ ⟨⟨_,rfl,AG k⟩,kz⟩
 have BM:k=(c.names).length:=by have:=AJ Sb;omega
 refine ac ?_
 refine ag ?_ ?_<;>intro h22 q22
 exfalso;have:=q22;omega
 refine ag ?_ ?_<;>intro h23 q23
 exfalso;have:=q23;omega
 refine ag ?_ ?_<;>intro Np q24
 exfalso;have:=q24;omega
 refine ac ?_
 refine wk [145] rfl ?_
 refine Tr.cn rfl ?_ ?_<;>intro h25 q25
 exfalso;have:=q25;omega
 refine a3 ?_
 · exact Lr
 refine ac ?_
 refine wk [91,1] rfl ?_
 refine Tr.cn rfl ?_ ?_<;>intro h26 q26
 exfalso;have:=q26;omega
 refine a2 ?_
 refine Tr.block (Tr.BD _ (kk [1] rfl) (fun k:Nat=>[(3,int ((k:Nat):Int))]) (fun k:Nat=>k≤(c.names).length) (fun k:Nat=>(c.names).length-k) 0 (Nat.zero_le _) kz ?_)
 rintro k BR
 refine an ?_ ?_<;>intro h27 q27
 have Ai:k<(c.names).length:=AH h27
 obtain ⟨s,Ah⟩:=at_ Ai
 have hat:=hall k AA
 have hna:=VU hat Ah
 refine a2 ?_
 refine co rfl (AD rfl underlying127 Ms vq vq AA (Aa Ah)) (co rfl (F5 rfl PM rfl) (co rfl (Ct (Gp) rfl rfl) ?_))
 refine ag ?_ ?_<;>intro h28 q28
 exfalso;rw [hna] at h28;exact absurd h28 AB
 refine ag ?_ ?_<;>intro jX q29
 have L2:0<k:=by simpa using jX
 obtain ⟨y,hy⟩:=at_ (l:=c.names) (k:=k-1) AA
 have hlt:=cq hat Ah hy L2
 refine ac ?_
 refine cy jX rfl (AD rfl underlying127 Ms vq vq AA Li) ?_
 refine ac ?_
 refine cy jX rfl (AD rfl underlying127 Ms vq vq AA (Aa Ah)) (cy jX rfl (F5 rfl PM rfl) (cy jX rfl (RO rfl vq vq) ?_))
 refine ac ?_
 refine wk [123,3,1] rfl ?_
 refine Tr.cn rfl ?_ ?_<;>intro h30 q30
 exfalso;rw [hlt] at h30;exact absurd h30 AB
 refine a2 ?_
 exact Fin.AL (k+1) ⟨Ai,by omega⟩ ⟨⟨_,rfl,AG k⟩,kz⟩
 refine ac ?_
 refine wk [123,3,1] rfl ?_
 refine a2 ?_
 exact Fin.AL (k+1) ⟨Ai,by omega⟩ ⟨⟨_,rfl,AG k⟩,kz⟩
 have BM:k=(c.names).length:=by have:=AJ h27;omega
 refine ac ?_
 refine ag ?_ ?_<;>intro h31 q31
 exfalso;have:=q31;omega
 refine ag ?_ ?_<;>intro h32 q32
 exfalso;have:=q32;omega
 refine ag ?_ ?_<;>intro h33 q33
 exfalso;have:=q33;omega
 refine ac ?_
 refine wk [145] rfl ?_
 refine Tr.cn rfl ?_ ?_<;>intro h34 q34
 exfalso;have:=q34;omega
 refine a3 ?_
 · exact Lr
abbrev tR:Pr:=Cp.ex fun n:Int=>fact (0≤n∧n<4294967296) (is (.int .u32 n))
abbrev yG:Pr:=Cp.ex fun n:Int=>fact (0≤n∧n<4294967296) (int n)
theorem tS:Pr.le tR (Ge .u32):=fun _ _ _ ⟨n,_,h⟩=>⟨n,h⟩
section
variable {P:Program} {I:Ce} {E:Env} {o:Oper}
theorem mK {s t:TypeId} {x:Operand} {k k':IntKind} (ho:o.op= .convert s t x) (hs:P.underlying s=some (.int k)) (ht:P.underlying t=some (.int k')) (hx:VL E x (Ge k)):Ae P I o E (Ge k'):=
 Ae.same fun M w a he _=>by
  obtain ⟨n,h1⟩:=hx.ev he Ar
  have h1:a.eval x= .int k n:=h1
  refine ⟨.int k' (k'.wrap n),?_,_,rfl⟩
  simp [execOp,ho,h1,convert,run_underlying hs,run_underlying ht,Conv.intToInt,Sem.run_bind]
theorem tT {t u:TypeId} {x y:Operand} (ho:o.op= .binOp .mul t x y u) (hx:VL E x (Ge .u32)) (hy:VL E y (Ge .u32)):Ae P I o E tR:=
 Ae.same fun M w a he _=>by
  obtain ⟨m,h1⟩:=hx.ev he Ar
  obtain ⟨n,h2⟩:=hy.ev he Ar
  have h1:a.eval x= .int .u32 m:=h1
  have h2:a.eval y= .int .u32 n:=h2
  refine ⟨.int .u32 (IntKind.u32.wrap (m*n)),by simp [execOp,ho,h1,h2,eqGuard,binOp,Op.intArith],_,?_,rfl⟩
  rw [IntKind.wrap_u32];omega
theorem gF {s t:TypeId} {x:Operand} (ho:o.op= .convert s t x) (hs:P.underlying s=some (.int .u32)) (ht:P.underlying t=some (.int .i64)) (hx:VL E x tR):Ae P I o E yG:=
 Ae.same fun M w a he _=>by
  obtain ⟨n,hn,h1⟩:=hx.ev he Ar
  have h1:a.eval x= .int .u32 n:=h1
  refine ⟨.int .i64 (IntKind.i64.wrap n),?_,n,hn,by rw [Gl Kq];rfl⟩
  simp [execOp,ho,h1,convert,run_underlying hs,run_underlying ht,Conv.intToInt,Sem.run_bind]
end
theorem BC.KB {P:Program} {f:FuncId} {row:List Pr} (h:∀m,m≤20→BC P f [slice 4 (List.replicate m row)] (slice 4 (List.replicate m row))):BC P f [Go.Proofs.YtmocaapoeefgkaaGreatDoor.KB row] (Go.Proofs.YtmocaapoeefgkaaGreatDoor.KB row):=by
 refine ⟨(h 0 AA).1,fun M w vs hb hv=> ?_⟩
 match vs,hv with
 |[u0],YL=>
  obtain ⟨⟨m,hm,h0⟩,_⟩:=YL
  exact ((h m hm).2 M w [u0] hb ⟨h0,trivial⟩).mono fun e w' ⟨v,h1,h2,h3⟩=>⟨v,h1,⟨m,hm,h2⟩,h3⟩
theorem BC.Eu {P:Program} {f:FuncId} {B:Nat} {res:Pr} (h:∀m,m≤B→BC P f [cX m] res):BC P f [Go.Proofs.YtmocaapoeefgkaaGreatDoor.Eu B] res:=by
 refine ⟨(h 0 AA).1,fun M w vs hb hv=> ?_⟩
 match vs,hv with
 |[u0],YL=>
  obtain ⟨⟨m,hm,h0⟩,_⟩:=YL
  exact (h m hm).2 M w [u0] hb ⟨h0,trivial⟩
abbrev Nj:Pr:=KB (Bk q0)
abbrev qA2:Pr:=KB (Bk Nj)
theorem Ow:Pr.le q0 Nj:=Ax 0 (A9 AA (Pr.le_refl _))
theorem rc0:BC Tryz.prog 291 [q0] q0:=OA (m:=0) (q:=q0) AA (.inl rfl)
theorem rc1 (m:Nat) (hm:m≤20):BC Tryz.prog 291 [slice 4 (List.replicate m (Bk q0))] (slice 4 (List.replicate m (Bk q0))):=OA hm (.inr rc0)
theorem rc2 (m:Nat) (hm:m≤20):BC Tryz.prog 291 [slice 4 (List.replicate m (Bk Nj))] (slice 4 (List.replicate m (Bk Nj))):=OA hm (.inr (BC.KB rc1))
theorem rf0:BC Tryz.prog 258 [agg (Bk q0)] EH:=BC.mI fun t b n hb=>N_ (m:=0) (q:=q0) hb AA (.inl rfl)
theorem rf1:BC Tryz.prog 258 [agg (Bk Nj)] EH:=BC.Bk fun t b n m hb hm=>N_ hb hm (.inr rf0)
theorem rf2:BC Tryz.prog 258 [agg (Bk qA2)] EH:=BC.Bk fun t b n m hb hm=>N_ hb hm (.inr rf1)
theorem rd0:BC Tryz.prog 259 [agg (Bk q0)] (Lz 1):=BC.mI fun t b n hb=>Rc (m:=0) (q:=q0) (D:=0) hb AA AA (.inl rfl)
theorem rd1:BC Tryz.prog 259 [agg (Bk Nj)] (Lz 2):=BC.Bk fun t b n m hb hm=>Rc hb hm AA (.inr rd0)
theorem rd2:BC Tryz.prog 259 [agg (Bk qA2)] (Lz 3):=BC.Bk fun t b n m hb hm=>Rc hb hm AA (.inr rd1)
theorem rp0:BC Tryz.prog 260 [agg (Bk q0)] (Eu 2002):=BC.mI fun t b n hb=>ZJ (m:=0) (q:=q0) (B:=0) hb AA AA (.inl rfl)
theorem rp1:BC Tryz.prog 260 [agg (Bk Nj)] (Eu 82082):=BC.Bk fun t b n m hb hm=>ZJ (B:=2002) hb hm AA (.inr rp0)
theorem rp2:BC Tryz.prog 260 [agg (Bk qA2)] (Eu 3285282):=BC.Bk fun t b n m hb hm=>ZJ (B:=82082) hb hm AA (.inr rp1)
theorem rE2:BC Tryz.prog 225 [agg (Bk qA2)] (D6 [Eu 3285282,Ge .i64]):=gE rf2 rd2 rp2
structure HJ.ZL (c:HJ):Prop where
 Hw:c.Hw≤1099511627776
 CR:c.CR≤2147483648
 PU:0≤c.PU∧c.PU≤40000
 JQ:0≤c.JQ∧c.JQ≤40000
 VK:0≤c.VK∧c.VK≤40000
 M6:0≤c.M6∧c.M6≤40000
theorem K0 {s:List UInt8} (h:named s=true):s.length≤32:=by unfold named at h;simp at h;omega
theorem cr {a b:Int} (ha:0≤a∧a≤40000) (hb:0≤b∧b≤40000):BC prog 264 [agg [int a,int b]] (agg (Bk Nj)):=by
 refine fo func264 rfl ⟨rfl,rfl⟩ fun M0 w0=>(Tr.seq (Tr.Ao (tp rfl (Bj rfl (Va rfl)) ?_)))
 refine Tl rfl rfl rfl rfl N6 LV (fun b1=> ?_)
 refine ap ?_
 refine Tr.seq (Tr.rx ?_)
 refine ay ?_
 refine xo rfl (fun _=>Ct (L1 AA) rfl rfl) ?_
 refine ay ?_
 refine xo rfl (fun _=>Ct (L1 AA) rfl rfl) (xo rfl (fun _=>AO (xs:=[.tmp 5,.tmp 8]) (rows:=[_,_]) rfl rfl underlying283 Ci N6 rfl AB ⟨⟨Am,(Va rfl)⟩,⟨⟨Am,(Va rfl)⟩,trivial⟩⟩ AB) ?_)
 refine xo rfl (fun _=>AR rfl (VT (m:=2) (q:=q0) AA (rc1 _ AA)) ⟨(Kf rfl),trivial⟩) ?_
 refine Cx.DY 0 rfl rfl (Ay rfl rfl (vl rfl) (Va rfl) Ci rfl BA rfl) ?_
 refine Cx.nil ⟨by kernel_rfl,?_⟩
 refine BJ.done al1 (Fin.go (Tr.ret (Fin.CX rfl (AM.cell 0 rfl rfl DN Ci rfl Lr) ?_)))
 · exact Lr
theorem XB {c:HJ} (hv:EA c=true) (ht:c.ZL):BC prog 226 [agg (DO c)] (agg (Bk qA2)):=by
 refine fo func226 rfl ⟨rfl,rfl⟩ fun M0 w0=> ?_
 obtain ⟨hs0,hs1,yF,hsub,hnm,hkey,hk0,hk1,wL,AGL,AGM,AGN,AGO,jW,hft,ht1,hp0,PR,hap⟩:=JI hv
 obtain ⟨g1,g2,g3,g4,g5,g6⟩:=ht
 have OB:=hnm
 unfold G_ at OB
 rw [Bool.and_eq_true,B7,decide_eq_true_eq] at OB
 obtain ⟨hall,ACr⟩:=OB
 have bh:=K0 yF
 have hlj:=K0 hsub
 refine Tr.seq (Tr.Ao (tp rfl (Bj rfl (Va rfl)) ?_))
 refine Tl rfl rfl rfl rfl N6 LV (fun b1=> ?_)
 refine ap ?_
 refine a2 ?_
 refine Tr.block (Tr.B_ 285 4 (Tr.Ep _ (kk [2,1] rfl) (fun k v=>[(4,int ((k:Nat):Int)),(3,Ac v (slice 4 (List.replicate k (Bk q0))))]) (fun k v=>Hp M0 w0 FT ([At 285 4 v,AE true b1 285 (([.int .i64 0,.slice none 0 0,.bool false,.slice none 0 0]:List Value).map is)])) (fun k:Nat=>k≤(c.names).length) (fun k:Nat=>(c.names).length-k) 0 (.slice none 0 0) (Nat.zero_le _) ⟨ke rfl,⟨_,rfl,Bq rfl⟩,trivial⟩ (fun _ _ h=>h) ?_))
 rintro k v BR
 refine an ?_ ?_<;>intro h1 q1
 have Ai:k<(c.names).length:=AH h1
 obtain ⟨s,Ah⟩:=at_ Ai
 have hsn:=K0 (VU (hall k AA) Ah)
 refine ac ?_
 refine ap ?_
 refine tp rfl (AD rfl underlying127 Ms (vl rfl) (vl rfl) AA CM) ?_
 refine tp rfl (F5 rfl PM rfl) (tp rfl (Ct (VS AA) rfl rfl) (tp rfl (AO (xs:=[.tmp 18]) (rows:=[_]) rfl rfl underlying283 Ci N6 rfl AB ⟨⟨Am,(Va rfl)⟩,trivial⟩ AB) ?_))
 refine TO.Dj 0 rfl rfl AB (B8 rfl rfl rfl rfl underlying283 Ci wB N6 (Kb rfl) (Kf rfl) (A_ BO (Ka rfl))) (fun v1=> ?_)
 refine ap ?_
 refine wk [4,3,2,1] rfl ?_
 refine ac ?_
 exact Fin.DM (k+1) v1 (⟨Ai,by omega⟩) ⟨⟨_,rfl,AG k⟩,⟨_,rfl,BE (by rw [cY])⟩,kz⟩ (fun _ _ h=>h)
 have BM:k=(c.names).length:=by have:=AJ h1;omega
 refine ac ?_
 refine Tr.seq (Tr.rx ?_)
 refine ay ?_
 refine xo rfl (fun _=>Ct (L1 AA) rfl rfl) ?_
 refine ay ?_
 refine xo rfl (fun _=>Ct (VS AA) rfl rfl) ?_
 refine ay ?_
 refine xo rfl (fun _=>Ct (VS AA) rfl rfl) ?_
 refine ay ?_
 refine xo rfl (fun _=>Ct (cr g3 g4) rfl rfl) ?_
 refine ay ?_
 refine xo rfl (fun _=>Ct (L1 AA) rfl rfl) ?_
 refine ay ?_
 refine xo rfl (fun _=>Ct (cr g5 g6) rfl rfl) ?_
 refine ay ?_
 refine xo rfl (fun _=>Ct (L1 AA) rfl rfl) ?_
 refine ay ?_
 refine xo rfl (fun _=>Ct (L1 AA) rfl rfl) ?_
 refine ay ?_
 refine xo rfl (fun _=>Ct (tQ) rfl rfl) ?_
 refine ay ?_
 refine xo rfl (fun _=>Ct (L1 AA) rfl rfl) (xm rfl ?_)
 refine xo rfl (fun _=>AR rfl (VT (m:=c.names.length) (q:=q0) AA (rc1 _ AA)) ⟨⟨_,rfl,Pr.le_trans (As _ _) (Pr.le_of_eq (by rw [BM]))⟩,trivial⟩) ?_
 refine xo rfl (fun _=>AO (xs:=[.tmp 23,.tmp 26,.tmp 29,.tmp 32,.tmp 35,.tmp 38,.tmp 41,.tmp 44,.tmp 47,.tmp 50,.tmp 52]) (rows:=[Bk Nj,Bk Nj,Bk Nj,Bk Nj,Bk Nj,Bk Nj,Bk Nj,Bk Nj,Bk Nj,Bk Nj,Bk Nj]) rfl rfl underlying283 Ci N6 rfl AB ⟨⟨Am,VL.le (vl rfl) (Pr.le_trans (BS (qs:=Bk Nj) ⟨Lr,Lr,Lr,Ow,trivial⟩) (Ad _))⟩,⟨⟨Am,VL.le (vl rfl) (Pr.le_trans (BS (qs:=Bk Nj) ⟨Lr,Lr,Lr,Ow,trivial⟩) (Ad _))⟩,⟨⟨Am,VL.le (vl rfl) (Pr.le_trans (BS (qs:=Bk Nj) ⟨Lr,Lr,Lr,Ow,trivial⟩) (Ad _))⟩,⟨⟨Am,VL.le (vl rfl) (Ad _)⟩,⟨⟨Am,VL.le (vl rfl) (Pr.le_trans (BS (qs:=Bk Nj) ⟨Lr,Lr,Lr,Ow,trivial⟩) (Ad _))⟩,⟨⟨Am,VL.le (vl rfl) (Ad _)⟩,⟨⟨Am,VL.le (vl rfl) (Pr.le_trans (BS (qs:=Bk Nj) ⟨Lr,Lr,Lr,Ow,trivial⟩) (Ad _))⟩,⟨⟨Am,VL.le (vl rfl) (Pr.le_trans (BS (qs:=Bk Nj) ⟨Lr,Lr,Lr,Ow,trivial⟩) (Ad _))⟩,⟨⟨Am,VL.le (vl rfl) (Pr.le_trans (BS (qs:=Bk Nj) ⟨Lr,Lr,Lr,Ow,trivial⟩) (Ad _))⟩,⟨⟨Am,VL.le (vl rfl) (Pr.le_trans (BS (qs:=Bk Nj) ⟨Lr,Lr,Lr,Ow,trivial⟩) (Ad _))⟩,⟨⟨Am,VL.le (vl rfl) (Ad _)⟩,trivial⟩⟩⟩⟩⟩⟩⟩⟩⟩⟩⟩ AB) ?_
 refine xo rfl (fun _=>AR rfl (VT (m:=11) (q:=Nj) AA (rc2 _ AA)) ⟨(Kf rfl),trivial⟩) ?_
 refine Cx.DY 1 rfl rfl (Ay rfl rfl (vl rfl) (Va rfl) Ci rfl BA rfl) ?_
 refine Cx.nil ⟨by kernel_rfl,?_⟩
 refine BJ.done W7 (Fin.go (wk [2] rfl (Tr.ret (Fin.CX rfl (AM.cell 1 rfl rfl DN Ci rfl Lr) ?_))))
 · exact Lr
theorem gG {c:HJ} (hv:EA c=true) (ht:c.ZL):BC prog 189 [agg (DO c)] (D6 [Eu 3285282,Ge .i64]):=by
 refine fo func189 rfl ⟨rfl,rfl⟩ fun M0 w0=> ?_
 refine a2 ?_
 refine co rfl (Ct (Th hv) rfl rfl) ?_
 refine an ?_ ?_<;>intro h1 q1
 exact absurd h1 AB
 refine a2 ?_
 refine co rfl (Ct (XB hv ht) rfl rfl) (co rfl (Ct (rE2) rfl rfl) ?_)
 refine ac ?_
 refine Tr.ret (Fin.Dm rfl (Br.D4 _ _) rfl ?_ rfl ?_)
 · exact Lr
 · exact Lr
theorem cv {m:Nat} (hm:m≤100000000):BC prog 190 [cX m] (yG):=by
 refine fo func190 rfl ⟨rfl,rfl⟩ fun M0 w0=> ?_
 have hlr:(List.replicate m Tf).length=m:=List.length_replicate
 refine a3 ?_
 refine Tr.block (Tr.BD _ (kk [0] rfl) (fun k:Nat=>[(4,int ((k:Nat):Int)),(3,tR)]) (fun k:Nat=>k≤((List.replicate m Tf).length)) (fun k:Nat=>((List.replicate m Tf).length)-k) 0 (Nat.zero_le _) ⟨kq,⟨_,rfl,Ax _ (A9 AA Lr)⟩,trivial⟩ ?_)
 rintro k BR
 refine ac ?_
 refine co rfl (Cc rfl underlying241 vq) ?_
 refine an ?_ ?_<;>intro h1 q1
 have Ai:k<((List.replicate m Tf).length):=AH h1
 have hkm:k<m:=by simpa using Ai
 refine a2 ?_
 refine co rfl (AD rfl underlying241 Nh vq vq AA (KC hkm)) (co rfl (F5 rfl AA6 rfl) (co rfl (mK rfl underlying5 underlying180 vq) (co rfl (sy AB rfl (VL.le vq tS) vq) (co rfl (tT rfl vq (VL.le vq (DA _ _))) ?_))))
 refine ac ?_
 refine wk [4,3,0] rfl ?_
 refine ac ?_
 exact Fin.AL (k+1) ⟨Ai,by omega⟩ ⟨⟨_,rfl,AG k⟩,kz⟩
 have BM:k=((List.replicate m Tf).length):=by have:=AJ h1;omega
 refine a2 ?_
 refine co rfl (gF rfl underlying180 underlying3 vq) ?_
 refine a2 ?_
 · exact Lr
theorem mL {c:HJ} (hn:c.names.length≤1000):BC prog 187 [agg (DO c)] (agg (DO c)):=by
 refine fo func187 rfl ⟨rfl,rfl⟩ fun M0 w0=>(Tr.seq (Tr.Ao ?_))
 refine TO.Uv rfl rfl AB rfl Cv (fun b1=> ?_)
 refine Tl rfl rfl rfl rfl RJ LU (fun b2=> ?_)
 refine ap ?_
 refine ap ?_
 refine TO.pad ?_
 refine TO.Dj 0 rfl rfl AB (B8 rfl rfl rfl rfl underlying127 Ms by9 z9 GX vq (Bu BO vq)) (fun v1=> ?_)
 refine ap ?_
 refine ap ?_
 refine Tr.drop 2 (Tr.ret (Fin.CX rfl (AM.cell 1 rfl rfl F_ C8 rfl Lr) ?_))
 · exact BS ⟨Lr,Lr,Lr,Lr,Lr,Lr,Lr,Lr,Lr,Lr,Lr,Lr,Pr.le_trans (As _ _) (Pr.le_of_eq AV),Lr,Lr,trivial⟩
abbrev Rf (c:HJ) (key s:Int):HJ:=⟨c.Hw,c.J8,c.HZ,c.PU,c.JQ,c.CR,c.VK,c.M6,c.from_,c.N8,c.auth,c.path,c.names,key,s⟩
theorem mM {c:HJ} {key:Int} (hv:EA (Rf c 0 0)=true) (ht:(Rf c 0 0).ZL) (hk:0≤key∧key≤2147483648):BC prog 147 [agg (DO c),int key] (Cp.ex fun s:Int=>fact (0≤s∧s<4294967296) (D6 [agg (DO (Rf c key s)),int 0])):=by
 refine BC.of func147 rfl rfl BA fun M0 w0=> ?_
 have hnn:c.names.length≤1000:=by have:=(JI hv).nm;unfold G_ at this;simp at this;omega
 refine Tr.seq (Tr.Ao ?_)
 refine TO.Uv rfl rfl AB rfl (Va rfl) (fun b1=> ?_)
 refine Tl rfl rfl rfl rfl RJ LU (fun b2=> ?_)
 refine tm rfl (TO.nil (Fin.go (Tr.seq (Tr.Ao (TO.rd 1 rfl rfl rfl AB (B4 rfl F_ C8 (vl rfl) rfl rfl) ?_)))))
 refine tp rfl (AR rfl (mL (c:=c) hnn) ⟨ke rfl,trivial⟩) ?_
 refine TO.AK 1 rfl rfl rfl (vl rfl) (Va rfl) rfl C8 rfl rfl (TO.nil (Fin.go (Tr.seq (Tr.Ao (tp rfl (Al (rows:=[]) rfl vu vv trivial rfl) (tp rfl (AW rfl RK (vl rfl)) (TO.DY 1 rfl rfl (Ay rfl rfl (vl rfl) (Va rfl) k_ rfl BA rfl) (TO.nil (Fin.go (Tr.seq (Tr.seq (Tr.Aj (co rfl (Ck 1 rfl (B4 rfl F_ C8 (vl rfl) rfl rfl)) ?_)))))))))))))
 refine co rfl (AR rfl (Th (c:=Rf c 0 0) hv) ⟨ke rfl,trivial⟩) ?_
 refine co rfl (ki rfl rfl rfl rfl) (cm rfl ?_)
 refine Ch.cs 15 rfl ?_ ?_<;>intro h1 q1
 exact absurd h1 AB
 refine MM h1 rfl (cy h1 rfl (ki rfl rfl rfl rfl) (co rfl (Mk rfl rfl h1 rfl) (cm rfl ?_)))
 refine Ch.cs 19 rfl ?_ ?_<;>intro h2 q2
 exfalso;have:=q2;omega
 refine MM h2 rfl (cy h2 rfl (ki rfl rfl rfl rfl) (co rfl (Mk rfl rfl h2 rfl) (Ch.nil (Fin.go (WC 1 2 4 22 rfl ?_)))))
 refine Tr.cn rfl ?_ ?_<;>intro h3 q3
 exfalso;have:=q3;omega
 refine Tr.skip (Fin.go (Tr.seq (Tr.Aj (co rfl (Ck 1 rfl (B4 rfl F_ C8 (vl rfl) rfl rfl)) ?_))))
 refine co rfl (AR rfl (gG (c:=Rf c 0 0) hv ht) ⟨ke rfl,trivial⟩) ?_
 refine cm rfl (co rfl (Aq rfl (vl rfl) rfl) (co rfl (Aq rfl (vl rfl) rfl) (cm rfl (cm rfl (Ch.nil (Fin.go (Tr.seq (Tr.Ao (tm rfl (tm rfl (tp rfl (AR rfl (BC.Eu fun m hm=>cv AA) ⟨ke rfl,trivial⟩) ?_)))))))))))
 refine TO.ex 31 rfl (fun z31=>TO.fact 31 rfl fun AGP=> ?_)
 refine tp rfl (Al (rows:=[(0,[_]),(1,[_])]) rfl vu vv ⟨⟨rfl,(Vo rfl)⟩,⟨⟨rfl,(Vo rfl)⟩,trivial⟩⟩ rfl) (tp rfl (AW rfl RK (vl rfl)) (TO.DY 1 rfl rfl (Ay rfl rfl (vl rfl) (Va rfl) k_ rfl BA rfl) (TO.nil (Fin.go (TN 2 4 rfl (Tr.seq (Tr.Ao (TO.rd 1 rfl rfl rfl AB (B4 rfl F_ C8 (vl rfl) rfl rfl) (TO.AK 0 rfl rfl rfl (vl rfl) (Va rfl) rfl C8 rfl rfl (tm rfl (TO.nil (Fin.go (Tr.drop 1 (Tr.ret ?_))))))))))))))
 refine Fin.BZ rfl (AM.cell 0 rfl rfl F_ C8 rfl (Lr)) (AM.tmp rfl (Lr)) ?_
 · exact Ax z31 (A9 AGP (Lr))
abbrev LX (name:List UInt8) (a b id to key s:Int):HJ:=⟨id,[114,111,111,116],name,a,b,id,3,0,0,to,false,0,[name],key,s⟩
abbrev Hg (name:List UInt8) (a b id to key s:Int):Hx:=⟨a,b,id,[LX name a b id to key s]⟩
abbrev wM (name:List UInt8) (a b id to key:Int):Pr:=Cp.ex fun s:Int=>fact (0≤s∧s<4294967296) (agg (FB (Hg name a b id to key s)))
theorem wN   :BC prog 89 [] (agg [int 5,int 2048]):=by
 refine fo func89 rfl ⟨rfl,rfl⟩ fun M0 w0=>(Tr.seq (Tr.Ao ?_))
 refine Tl rfl rfl rfl rfl Kv EU (fun b1=> ?_)
 refine ap ?_
 refine ap ?_
 refine Tr.ret (Fin.CX rfl (AM.cell 0 rfl rfl JL LG rfl Lr) ?_)
 · exact Lr
theorem AGQ   :BC prog 93 [] (agg [int 7,int 256]):=by
 refine fo func93 rfl ⟨rfl,rfl⟩ fun M0 w0=>(Tr.seq (Tr.Ao ?_))
 refine Tl rfl rfl rfl rfl Kv EU (fun b1=> ?_)
 refine ap ?_
 refine ap ?_
 refine Tr.ret (Fin.CX rfl (AM.cell 0 rfl rfl JL LG rfl Lr) ?_)
 · exact Lr
theorem ZM {name:List UInt8} {a b id to key:Int} (hv:EA (LX name a b id to 0 0)=true) (ht:(LX name a b id to 0 0).ZL) (hk:0≤key∧key≤2147483648):BC prog 88 [str name,agg [int a,int b],int id,int key,int to] (wM name a b id to key):=by
 refine fo func88 rfl ⟨rfl,rfl⟩ fun M0 w0=>(Tr.seq (Tr.Ao (tp rfl (Bj rfl Cv) ?_)))
 refine Tl rfl rfl rfl rfl WD So (fun b1=> ?_)
 refine ap ?_
 refine ap ?_
 refine tp rfl (Al (rows:=[(0,[_]),(1,[_]),(2,[_]),(3,_),(4,[_]),(5,_),(7,[_]),(10,[_])]) rfl ABX LU ⟨⟨rfl,Ni⟩,⟨⟨rfl,Ni⟩,⟨⟨rfl,Ni⟩,⟨⟨rfl,Cv⟩,⟨⟨rfl,Ni⟩,⟨⟨rfl,Cv⟩,⟨⟨rfl,Ni⟩,⟨⟨rfl,⟨_,rfl,Pr.le_trans (B5 _ _) (Af _)⟩⟩,trivial⟩⟩⟩⟩⟩⟩⟩⟩ rfl) (TO.re 20 (agg (DO (LX name a b id to 0 0))) rfl (Pr.le_of_eq rfl) ?_)
 refine Tl rfl rfl rfl rfl RJ LU (fun b2=> ?_)
 refine ap ?_
 refine wk [11,10,6,3,2] rfl ?_
 refine ap ?_
 refine tp rfl (CL (mM (c:=LX name a b id to 0 0) hv ht hk) rfl rfl rfl) ?_
 refine TO.ex 24 rfl (fun z24=>TO.fact 24 rfl fun AGR=> ?_)
 refine ap ?_
 refine ap ?_
 refine tp rfl (Al (rows:=[(0,_),(1,[_]),(2,[_])]) rfl ABG So ⟨⟨rfl,Cv⟩,⟨⟨rfl,Ni⟩,⟨⟨rfl,⟨_,rfl,Pr.le_trans (B5 _ _) (Af _)⟩⟩,trivial⟩⟩⟩ rfl) ?_
 refine ap ?_
 refine Tr.drop 0 (wk [10] rfl (Tr.ret (Fin.CX rfl (AM.cell 0 rfl rfl Om E3 rfl Lr) ?_)))
 · exact Ax z24 (A9 AGR Lr)
def KE (s:DS) (l:List (List UInt8)):List UInt8:=(l[(s.val l.length).toNat]?).getD []
theorem XC {b:Nat} {s:DS} {l:List (List UInt8)} (hl:l≠[]) (hl2:l.length≤1000000000):Ba prog 91 [ptr b 0,fU l] (str (KE s l)) (Dc b s) (fun _=>Dc b s.Cd):=by
 refine Ba.of func91 rfl rfl BA fun M0 w0 S rs M1 w1=> ?_
 have hl0:1≤(l.length:Int):=by have:=List.length_pos_iff.2 hl;omega
 have hv:=s.DD hl0
 obtain ⟨x,hx⟩:=at_ (l:=l) (k:=(s.val l.length).toNat) AA
 refine ac ?_
 refine ap ?_
 refine TO.G4 0 rfl rfl AB (An rfl rfl AB rfl (Ca AA AA) ⟨kq,kz⟩) (tp rfl (AD rfl underlying127 Ms vq vq AA (Bf hx)) ?_)
 refine ap ?_
 refine Tr.ret (Fin.GW [] rfl (AM.tmp rfl Lr) ?_ (fun _ _ _ _=>rfl))
 · refine Pr.le_of_eq ?_;unfold KE;rw [hx];rfl
end Go.Proofs.YtmocaapoeefgkaaGreatDoor
