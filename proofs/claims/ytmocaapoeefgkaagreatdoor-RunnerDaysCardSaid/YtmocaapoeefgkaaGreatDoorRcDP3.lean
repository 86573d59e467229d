/-
  Part 3 of the texts that prove this claim, merged.
-/
import Derived.Test.YtmocaapoeefgkaaGreatDoorRows
import Derived.Test.YtmocaapoeefgkaaGreatDoorRcDP2
set_option linter.all false
set_option maxRecDepth 40000
set_option maxHeartbeats 16000000
namespace Cp
open Go Go.RowKit Go.Great
section
variable {P:Program} {L:Lg P} {n:Fm} {fz:Nat} {I:Cd}
def ABR (P:Program) (I':Cd) (M:Av) (w:World) (p:Pr):Result Next→Prop
 | .ok (.value v) w'=>∃M',p.h M' w' v∧Ext M w M' w'∧I'.h M' w'
 | .ok .skip w'=>∃M',p.h M' w' undef∧Ext M w M' w'∧I'.h M' w'
 | .ok (.enter f args) w'=>Calls P f args w' fun e w''=>∃v M',e= .returned v∧p.h M' w'' v∧Ext M w M' w''∧I'.h M' w''
 |_=>False
def kY (P:Program) (n:Fm) (I I':Cd) (o:Oper) (E:Env) (p:Pr):Prop:=o.guard=none∧∀M w (a:Act),a.tmps.size=n.sz→CZ M w E o a→I.h M w→ABR P I' M w p ((execOp a.eval o).run P w)
def S8 (P:Program) (n:Fm) (I:Cd) (ops:Array Oper):Nat→List Oper→Env→(Cd→Env→Prop)→Prop
 |_,[],_,_=>False
 |0,o::r,E,K=>∃p I',kY P n I I' o E p∧(∀d,o.dst=some d→d<n)∧Ch P n I' ops r (upd o p E) (K I')
 |c+1,o::r,E,K=>∃p,jd P I ops o E p∧(∀d,o.dst=some d→d<n)∧S8 P n I ops c r (upd o p E) K
theorem S8.op {ops:Array Oper} {o:Oper} {r:List Oper} {E:Env} {K:Cd→Env→Prop} {d c:Nat} {p:Pr} (hg:o.guard=none) (hd:o.dst=some d) (hn:d<n) (h:Ae P I o E p)
  (k:S8 P n I ops c r ((d,p)::E) K):S8 P n I ops (c+1) (o::r) E K:=
 ⟨p,by unfold jd;rw [hg];exact h,fun d' hd'=>by rw [hd] at hd';cases hd';exact hn,by unfold upd;rw [hd];exact k⟩
theorem S8.turn {ops:Array Oper} {o:Oper} {r:List Oper} {E:Env} {K:Cd→Env→Prop} {d:Nat} {p:Pr} (I':Cd) (hd:o.dst=some d) (hn:d<n) (h:kY P n I I' o E p)
  (k:Ch P n I' ops r ((d,p)::E) (K I')):S8 P n I ops 0 (o::r) E K:=
 ⟨p,I',h,fun d' hd'=>by rw [hd] at hd';cases hd';exact hn,by unfold upd;rw [hd];exact k⟩
def kZ (P:Program) (f:FuncId) (args:List Pr) (pre:List At) (res:Pr) (post:List At):Prop:=F3 (α:=Unit) P f args pre (fun _=>True) (fun _=>res) (fun _=>post)
section
variable {M0:Av} {w0:World} {S:Nat→Prop} {rs:List At} {E:Env} {o:Oper} {g:Func} {M1:Av} {w1:World}
theorem kZ.of {f : FuncId} {c : Code} {ps : List Pr} {pre post : List At} {res : Pr} (hf : P.funcs[f]? = some g) (hb : g.body = some c) (hname : (g.name == "runtime.NumGoroutine") = false) (hlen : ps.length ≤ g.ntmps)
  (h:∀M0 w0 S rs M1 w1,Tr (Xu P) g.ntmps (LP 0 ps) (Hp M0 w0 S (pre++Ak M1 w1::rs)) c (bodyPost P g (Qw M0 w0 S rs M1 w1 (fun _:Unit=>True) (fun _=>res) (fun _=>post)))):kZ P f ps pre res post:=
 F3.of hf hb hname hlen h
theorem BZ.pure {f:FuncId} {args:List Pr} {res:Pr} {R':Value→At} (h:BZ P f args res Bp R'):BD P f args res:=by
 refine ⟨h.1,fun M w vs hb hv=> ?_⟩
 refine (h.2 M w FO [] M w vs ((Ay.begin hb).JN (r:=Bp) rfl trivial) hv).mono ?_
 rintro e w' ⟨v,M',rfl,h2,h3,h4⟩
 exact ⟨v,rfl,res.st _ _ _ _ _ (Ext.less h4.m) h2,h4.below⟩
theorem sB {t e T:TypeId} {x:Operand} {sz j:Nat} {rows:List (List Pr)} {v:Value} (ho:o.op= .call { callee:= .builtin .len,args:= #[x],argTypes:= #[t] }) (ht:P.underlying t=some (.slice e)) (hx:VL E x (is v)):
  LQ P M0 w0 S j (SR.c (Bx T sz rows v)) o E (int ((rows.length:Nat):Int)):=by
 intro M w a rs he hI hj
 have h1:a.eval x=v:=hx.ev he DH
 have hj':rs[j]? =some (Bx T sz rows v):=hj
 have hrun:∃A c,v= .slice A rows.length c:=by
  rcases (hI.hold _ (List.mem_of_getElem? hj')).1 with ⟨rfl,A,hv⟩|⟨b,cap,spare,hv,_⟩
  · exact ⟨_,_,hv⟩
  · exact ⟨_,_,hv⟩
 obtain ⟨A,c,hv⟩:=hrun
 have:(execOp a.eval o).run P w= .ok (.value (.int .i64 ((rows.length:Nat):Int))) w:=by
  simp [execOp,ho,resolve,invoke,builtin,Builtin.len_,h1,hv,run_underlying ht,goInt]
 rw [this]
 exact ⟨rfl,Below.refl _ _⟩
end
end
section
variable {P:Program} {L:Lg P} {n:Fm} {fz:Nat} {E:Env} {M0:Av} {w0:World} {S:Nat→Prop} {rs:List At} {o:Oper}
def ABS (b off m:Nat):Pr where
 h _ _ u:=∃o c,u= .slice (some ⟨b,o,none⟩) m c∧(0<m→o=off)
 st _M _w _M' _w' _v _ h:=h
instance zQ (b off m:Nat):One (ABS b off m):=⟨by rintro M w u ⟨o,c,rfl,_⟩;exact ⟨rfl,rfl⟩⟩
theorem MZ {I:Cd} {t e:TypeId} {x y:Operand} {sz sz1 sz2:Nat} (ho:o.op= .call { callee:= .builtin .append,args:= #[x,y],argTypes:= #[t,t] }) (ht:P.underlying t=some (.slice e)) (hz:A0 P e=some sz) (hx:VL E x (full sz1 [])) (hy:VL E y (slice sz2 [])):Ae P I o E (full sz []):=
 Ae.same fun M w a he _=>by
  obtain ⟨_,A,h1⟩:=hx.ev he DH
  obtain ⟨A',c',h2,_⟩:=hy.ev he DH
  simp only [List.length_nil] at h1 h2
  refine ⟨.slice A 0 0,?_,ew sz A M w⟩
  have hrun:=GV (P:=P) (ty:=o.type) (A:=A) (A':=A') (n:=0) (c:=0) (c':=c') ht hz (Nat.le_refl _) w
  simp [execOp,ho,resolve,invoke,builtin,h1,h2,hrun]
end
section
variable {P:Program} {L:Lg P} {n:Fm} {fz:Nat} {E:Env} {M0:Av} {w0:World} {S:Nat→Prop} {rs:List At} {o:Oper}
end
section
variable {P:Program} {L:Lg P} {n:Fm} {fz:Nat} {E:Env} {M0:Av} {w0:World} {S:Nat→Prop} {rs:List At}
theorem St.MY {i j k sz b:Nat} {new:Bool} {T e:TypeId} {ps:List Pr} {rows:List (List Pr)} {v:Value} {p:Pr} (hi:rs[i]? =some (AF new b T ps)) (hj:rs[j]? =some (Bx e sz rows v)) (hij:j≠i) (hk:ps[k]? =some p) (hp:Pr.le p (is v)) (hl:∀r∈rows,r.length=sz) {a:Act} {w:World} (h:St n E (Hp M0 w0 S rs) a w):
  St n E (Hp M0 w0 S ((rs.set j Bp).set i (AF new b T (ps.set k (slice sz rows))))) a w:=by
 obtain ⟨M,h1,h2,h3,h4⟩:=h
 have h4:Ay M0 w0 S rs M w:=h4
 have hi':(rs.set j (Bx e sz rows v))[i]? =some (AF new b T ps):=by rw [List.getElem?_set_ne hij];exact hi
 obtain ⟨M',g1,g2,g3⟩:=h4.xR hj hl
 have gi:(rs.set j Bp)[i]? =some (AF new b T ps):=by rw [List.getElem?_set_ne hij];exact hi
 refine ⟨M',h1,h2,fun s q hq=>q.st _ _ _ _ _ g1 (h3 s q hq),g2.CR gi rfl rfl ?_⟩
 obtain ⟨c1,cs,c2,c3,c4⟩:=(g2.hold _ (List.mem_of_getElem? gi)).1
 exact ⟨c1,cs,c2,c3.set hk (fun u hu=>by rw [show u=v from hp _ _ _ hu];exact g3),c4⟩
theorem Tr.MY {Q:Exit→Act→World→Prop} {c:Code} (i j k:Nat) {sz b:Nat} {new:Bool} {T e:TypeId} {ps:List Pr} {rows:List (List Pr)} {v:Value} {p:Pr} (hi:rs[i]? =some (AF new b T ps)) (hj:rs[j]? =some (Bx e sz rows v)) (hij:j≠i) (hk:ps[k]? =some p) (hp:Pr.le p (is v)) (hl:∀r∈rows,r.length=sz)
  (kk:Tr L n E (Hp M0 w0 S ((rs.set j Bp).set i (AF new b T (ps.set k (slice sz rows))))) c Q):Tr L n E (Hp M0 w0 S rs) c Q:=Tr.conv (fun _ _ hs=>hs.MY hi hj hij hk hp hl) kk
end
theorem sC {β:Type} {f:β→List Pr} {l:List β} {k q m:Nat} {x:β} {qs:List Pr} (h:l[k]? =some x) (hq:(f x).take q++qs++(f x).drop (q+m)=f x):(l.map f).set k ((f x).take q++qs++(f x).drop (q+m))=l.map f:=by
 rw [hq]
 refine List.ext_getElem? fun i=> ?_
 rw [List.getElem?_set]
 by_cases hi:k=i
 ·
  subst hi
  rw [if_pos rfl,List.getElem?_map,h]
  have:=BI h
  rw [if_pos (by rw [List.length_map];exact this)];rfl
 · rw [if_neg hi]
theorem kf {β:Type} {f:β→List Pr} {l:List β} {k q m:Nat} {x:β} {qs:List Pr} (h:l[k]? =some x) (hq:(f x).take q++qs++(f x).drop (q+m)=f x):(l.map f).set ((k:Nat):Int).toNat ((f x).take q++qs++(f x).drop (q+m))=l.map f:=by
 rw [Int.toNat_natCast];exact sC h hq
section
variable {P:Program} {L:Lg P} {n:Fm} {fz:Nat} {E:Env} {M0:Av} {w0:World} {S:Nat→Prop} {rs:List At} {o:Oper} {g:Func} {M1:Av} {w1:World}
theorem Row.hd {M:Av} {w:World} {ad:Addr} {p q:Pr} {ps:List Pr} (h:Row M w ad 0 (p::ps)) (hq:∀u,p.h M w u→q.h M w u):Row M w ad 0 (q::ps):=by
 intro j r hr
 cases j with
 |zero=>
  simp at hr;subst hr
  obtain ⟨u,h1,h2,h3,h4⟩:=h 0 p rfl
  exact ⟨u,h1,h2,h3,hq u h4⟩
 |succ j=>exact h (j+1) r (by simpa using hr)
theorem TO.re {Q:Exit→Act→World→Prop} {ops:Array Oper} {l:List Oper} {I:Cd} (s:Nat) {q:Pr} (p:Pr) (hs:E.lookup s=some q) (hl:Pr.le q p) (k:TO P n ops l ((s,p)::E) I Q):TO P n ops l E I Q:=by
 intro m hm a w hst
 refine k m hm a w ?_
 obtain ⟨M,h1,h2,he,h4⟩:=hst
 refine ⟨M,h1,h2,fun s' r hr=> ?_,h4⟩
 simp only [List.lookup] at hr
 split at hr
 ·
  rename_i e1
  have:s'=s:=by simpa using e1
  subst this
  simp only [Option.some.injEq] at hr
  subst hr
  exact hl _ _ _ (he _ _ hs)
 · exact he _ _ hr
theorem Fin.Ik {Q:Exit→Act→World→Prop} {x:Exit} {r r':At} (k:Fin n E (Hp M0 w0 S (r'::r::rs)) Q x):Fin n E (Hp M0 w0 S (r::r'::rs)) Q x:=
 Fin.conv (fun _ _ ⟨M,h1,h2,h3,h4⟩=>⟨M,h1,h2,h3,Ay.perm (List.Perm.swap _ _ _) h4⟩) k
def Om (P:Program) (f:FuncId) (args:List Pr) (res:Value→Pr) (post:Value→List At):Prop:=F3 (α:=Value) P f args [] (fun _=>True) res post
theorem Om.of {f : FuncId} {c : Code} {ps : List Pr} {res : Value → Pr} {post : Value → List At} (hf : P.funcs[f]? = some g) (hb : g.body = some c) (hname : (g.name == "runtime.NumGoroutine") = false) (hlen : ps.length ≤ g.ntmps)
  (h:∀M0 w0 S rs M1 w1,Tr (Xu P) g.ntmps (LP 0 ps) (Hp M0 w0 S (Ak M1 w1::rs)) c (bodyPost P g (Qw M0 w0 S rs M1 w1 (fun _:Value=>True) res post))):Om P f ps res post:=
 F3.of hf hb hname hlen h
theorem Fin.xS {rv:ResultVar} {q:Pr} {res:Value→Pr} {post:Value→List At} {rs':List At} (v:Value) (dr:List At) (hr:g.results= #[rv]) (h:AO P E rs' rv q) (hl:Pr.le q (res v)) (hp:rs'.Perm (dr++(post v++Ak M1 w1::rs))):
  Fin ⟨fz,[]⟩ E (Hp M0 w0 S rs') (bodyPost P g (Qw M0 w0 S rs M1 w1 (fun _:Value=>True) res post)) .ret:=by
 rintro a w ⟨M,_,hd,he,hi⟩
 have hi:Ay M0 w0 S rs' M w:=hi
 obtain ⟨u,hu,hp'⟩:=h M w a he (fun q hq=>(hi.hold q hq).1)
 obtain ⟨h1,h2⟩:=JT (Ay.vV (Ay.perm hp hi))
 exact ⟨hd,u,results1 hr hu,_,M,v,rfl,trivial,hl _ _ _ hp',h1,h2⟩
theorem TO.kg {Q:Exit→Act→World→Prop} {ops:Array Oper} {r:List Oper} {f:FuncId} {xs:Array Operand} {ts:Array TypeId} {ps:List Pr} {res:Value→Pr} {post:Value→List At} {d:Nat} (hg:o.guard=none) (hd:o.dst=some d) (hn:d<n) (ho:o.op= .call { callee:= .value (.func f),args:=xs,argTypes:=ts }) (hf:Om P f ps res post)
  (hv:HV E xs.toList ps) (k:∀v,TO P n ops r ((d,res v)::E) (Hp M0 w0 S (post v++rs)) Q):TO P n ops (o::r) E (Hp M0 w0 S rs) Q:=
 TO.S7 rs hg hd hn ho hf hv (List.Perm.refl _) fun v _=>k v
end
section
variable {P:Program} {L:Lg P} {n:Fm} {fz:Nat} {E:Env} {I:Cd} {Q:Exit→Act→World→Prop} {ops:Array Oper} {o:Oper} {r:List Oper} {g j:Nat} {b want:Bool}
theorem TO.cases (g:Nat) {b:Bool} {l:List Oper} (_hb:E.lookup g=some (bool b)) (ht:b=true→TO P n ops l E I Q) (hf:b=false→TO P n ops l E I Q):TO P n ops l E I Q:=by
 cases b
 · exact hf rfl
 · exact ht rfl
theorem TO.ABT (hg:o.guard=some (j,want)) (hj:(ops[j]?).bind (·.dst)=some g) (hb:E.lookup g=some (bool b)) (MD:b=want) (h:∀(K:Act→World→Prop) M w (a:Act),a.tmps.size=n.sz→a.defers=n.df→FU M w E a→I.h M w→
  (∀E' I' a' w',TO P n ops r E' I' Q→St n E' I' a' w'→K a' w')→o.wp P a w K Q):TO P n ops (o::r) E I Q:=by
 intro k hl a w hs
 have h0:ops[k]? =some o:=by simpa using (hl 0).symm
 obtain ⟨M,hn,hd,he,hI⟩:=hs
 simp only [List.length_cons,List.range'_succ,wpS,h0]
 have hy:=IU (M:=M) (w:=w) (b:=some b) hj (he g _ hb)
 rw [HG hg hy,if_pos (by simp [MD])]
 exact (h _ M w a hn hd he hI fun E' I' a' w' hT hst=>hT (k+1) (fun j=>by have:=hl (j+1);simpa [Nat.add_assoc,Nat.add_comm 1 j] using this) a' w' hst)
theorem TO.Fh {d:Nat} {p:Pr} (hg:o.guard=some (j,want)) (hj:(ops[j]?).bind (·.dst)=some g) (hb:E.lookup g=some (bool b)) (MD:b=want) (hd:o.dst=some d) (hn:d<n) (h:Ae P I o E p) (k:TO P n ops r ((d,p)::E) I Q):TO P n ops (o::r) E I Q:=
 TO.ABT hg hj hb MD fun K M w a h1 h2 h3 h4 hK=>by
  refine Gr (h M w a (CT h3) h4) fun v w' hv hb'=>hK _ _ _ _ k ⟨M,?_,?_,?_,I.st _ _ _ hb' h4⟩
  · rw [B5];exact h1
  · rw [put_defers];exact h2
  ·
   have:=h3.put (o:=o) (p:=p) hb' hv (fun d' hd'=>by rw [hd] at hd';cases hd';rw [h1];exact hn)
   rw [show upd o p E=(d,p)::E by unfold upd;rw [hd]] at this;exact this
theorem TO.OI {d:Nat} (hg:o.guard=some (j,want)) (hj:(ops[j]?).bind (·.dst)=some g) (hb:E.lookup g=some (bool b)) (MD:b≠want) (hd:o.dst=some d) (hn:d<n) (kk:TO P n ops r ((d,is undef)::E) I Q):TO P n ops (o::r) E I Q:=by
 intro k hl a w hs
 have h0:ops[k]? =some o:=by simpa using (hl 0).symm
 obtain ⟨M,h1,h2,he,hI⟩:=hs
 simp only [List.length_cons,List.range'_succ,wpS,h0]
 have hy:=IU (M:=M) (w:=w) (b:=some b) hj (he g _ hb)
 rw [HG hg hy,if_neg (by simp [MD])]
 refine kk (k+1) (fun j=>by have:=hl (j+1);simpa [Nat.add_assoc,Nat.add_comm 1 j] using this) _ w ⟨M,by rw [B5];exact h1,by rw [put_defers];exact h2,?_,hI⟩
 have:=he.put (o:=o) (p:=is undef) (v:=undef) (Below.refl w.heap.size w) rfl (fun d' hd'=>by rw [hd] at hd';cases hd';rw [h1];exact hn)
 rw [show upd o (is undef) E=(d,is undef)::E by unfold upd;rw [hd]] at this;exact this
variable {M0:Av} {w0:World} {S:Nat→Prop} {rs:List At}
theorem TO.Wf {d:Nat} {p:Pr} (i:Nat) {R:At} {R':At} (hg:o.guard=some (j,want)) (hj:(ops[j]?).bind (·.dst)=some g) (hb:E.lookup g=some (bool b)) (MD:b=want) (hR:rs[i]? =some R) (hd:o.dst=some d) (hn:d<n) (h:DW P M0 w0 S n i (SR.c R) (SR.c R') { o with guard:=none } E p)
  (k:TO P n ops r ((d,p)::E) (Hp M0 w0 S (rs.set i R')) Q):TO P n ops (o::r) E (Hp M0 w0 S rs) Q:=
 TO.ABT hg hj hb MD fun K M w a hsz hdf he hI hK=>by
  have hw : ({ o with guard := none } : Oper).wp P a w K Q := MH (h.2 M w a rs hsz (CT he) hI hR) fun v w' M' hv hx R4 => hK _ _ _ _ k ⟨M', by rw [B5]; exact hsz, by rw [put_defers]; exact hdf, by
   intro s q hq
   simp only [List.lookup] at hq
   by_cases hs:s=d
   · subst hs;simp at hq;subst hq;show p.h M' w' ((a.put o.dst v).tmps.getD s undef);rw [hd,Bz Gp];exact hv
   · rw [show (s==d)=false by simpa using hs] at hq;show q.h M' w' ((a.put o.dst v).tmps.getD s undef);rw [hd,BU hs];exact q.st _ _ _ _ _ hx (he s q hq),R4⟩
  exact hw
end
section
variable {P:Program} {L:Lg P} {E:Env} {I:Cd} {o:Oper}
end
class T1 (P:Program) (t:TypeId):Prop where
 h:ES P t=true
class TA (P:Program) (t:TypeId):Prop where
 h:FW P t=true
class TZ (P:Program) (t:TypeId) (m:outParam Nat):Prop where
 h:A0 P t=some m
class TF (P:Program) (s f:Nat) (k:outParam Nat):Prop where
 h:AZ P s f=some k
class TU (P:Program) (t:TypeId) (d:outParam TypeDesc):Prop where
 h:P.underlying t=some d
class TB (P:Program) (t:TypeId) (place:outParam (Nat→Option (Nat×Nat))) (zs:outParam (List Value)):Prop where
 h:∀ps,P.built t ps=Instr.fill place zs.toArray ps
 z:zs.all (·.oneCell')=true
class TV (P:Program) (t:TypeId) (zs:outParam (List Value)):Prop where
 h:BW P t=some zs
 z:zs.all (·.oneCell')=true
class TM (P:Program):Prop where
 h:P.follows .mixedOrders=true
section
variable {P:Program} {L:Lg P} {n:Fm} {fz:Nat} {I:Cd} {ops:Array Oper} {o:Oper} {r:List Oper} {E:Env} {K:Env→Prop} {d g j:Nat} {b want:Bool} {p:Pr} {x y:Operand} {Q:Exit→Act→World→Prop} {t u:TypeId}
theorem AE4 [i:T1 P t] {ps:List Pr} (ho:o.op= .load t x) (hx:C4 E x=some (ref (p::ps))):Ae P I o E p:=Ef ho i.h (vl hx)
theorem AE5 [i:TA P t] {m:Nat} [z:TZ P t m] {ps qs:List Pr} (ho:o.op= .load t x) (hx:C4 E x=some (ref ps)) (hq:ps.take m=qs) (hm:qs.length=m):Ae P I o E (agg qs):=AQ ho i.h z.h (vl hx) hq hm
theorem AE6 {s:TypeId} {f k:Nat} [i:TF P s f k] {ps qs:List Pr} (ho:o.op= .fieldAddr s x f) (hx:C4 E x=some (ref ps)) (hq:ps.drop k=qs):Ae P I o E (ref qs):=FX ho i.h (vl hx) hq
theorem AE7 {s:TypeId} {f k:Nat} [i:TF P s f k] {b off:Nat} (ho:o.op= .fieldAddr s x f) (hx:C4 E x=some (ptr b off)):Ae P I o E (ptr b (off+k)):=Ac ho i.h (vl hx)
theorem AE8 {e:TypeId} [i:TU P t (.slice e)] {sz:Nat} {β:Type} {f:β→List Pr} {l:List β} (ho:o.op= .call { callee:= .builtin .len,args:= #[x],argTypes:= #[t] }) (hx:C4 E x=some (slice sz (l.map f))):Ae P I o E (int ((l.length:Nat):Int)):=CH ho i.h (vl hx)
theorem AE9 [i:TU P t .string] {a:List UInt8} (ho:o.op= .call { callee:= .builtin .len,args:= #[x],argTypes:= #[t] }) (hx:C4 E x=some (str a)):Ae P I o E (int ((a.length:Nat):Int)):=ry ho i.h (vl hx)
theorem AE_ [i:TU P t .bool] {b c:Bool} (ho:o.op= .binOp .eql t x y u) (hx:C4 E x=some (bool b)) (hy:C4 E y=some (bool c)):Ae P I o E (bool (b==c)):=jo ho i.h (vl hx) (vl hy)
theorem AFA {p:Pr} [One p] (ho:o.op= .box t x) (hx:C4 E x=some p):Ae P I o E (ref [p]):=Bn ho (VL.le (vl hx) (Af p))
theorem AFB {ps:List Pr} (ho:o.op= .box t x) (hx:C4 E x=some (agg ps)):Ae P I o E (ref ps):=Bn ho (VL.le (vl hx) (Ad ps))
class CP (p:Pr) (ps:outParam (List Pr)):Prop where
 h:Pr.le p (DK ps)
instance AFC (ps:List Pr):CP (agg ps) ps:=⟨Ad ps⟩
instance (priority:=low) AFD (p:Pr) [One p]:CP p [p]:=⟨Af p⟩
class CQ (p:Pr) (ps:outParam (List Pr)):Prop where
 h:Pr.le p (DK ps)
instance AFE (ps:List Pr):CQ (agg ps) ps:=⟨Ad ps⟩
instance AFF (k:IntKind) (n:Int):CQ (is (.int k n)) [is (.int k n)]:=⟨Af _⟩
instance ADi (b:Bool):CQ (is (.bool b)) [is (.bool b)]:=⟨Af _⟩
instance AFG (s:ByteArray):CQ (is (.string s)) [is (.string s)]:=⟨Af _⟩
instance AFH (a:Option Addr):CQ (is (.pointer a)) [is (.pointer a)]:=⟨Af _⟩
instance ABU (sz:Nat) (rows:List (List Pr)):CQ (slice sz rows) [slice sz rows]:=⟨Af _⟩
instance AFI (ps:List Pr):CQ (ref ps) [ref ps]:=⟨Af _⟩
instance AGq (f:Fn) (ps:List Pr):CQ (fn f ps) [fn f ps]:=⟨Af _⟩
theorem vf0:YZ E [] []:=trivial
theorem vf1 {i:Nat} {q:Pr} {row:List Pr} [c:CQ q row] {xs:List (Nat×Operand)} {rows:List (Nat×List Pr)} (hx:C4 E x=some q) (h:YZ E xs rows):YZ E ((i,x)::xs) ((i,row)::rows):=⟨⟨rfl,VL.le (vl hx) c.h⟩,h⟩
theorem vr0 {sz:Nat}:UU E sz [] []:=trivial
theorem vr1 {sz:Nat} {q:Pr} {row:List Pr} [c:CQ q row] {xs:List Operand} {rows:List (List Pr)} (hx:C4 E x=some q) (hl:row.length=sz) (h:UU E sz xs rows):UU E sz (x::xs) (row::rows):=⟨⟨hl,VL.le (vl hx) c.h⟩,h⟩
theorem AFJ {parts:Array (Nat×Operand)} {place:Nat→Option (Nat×Nat)} {zs:List Value} [i:TB P t place zs] {rows:List (Nat×List Pr)} {qs:List Pr} (ho:o.op= .build t parts) (hx:YZ E parts.toList rows) (hq:Sr place (zs.map is) rows=some qs):Ae P I o E (agg qs):=Al ho i.h i.z hx hq
theorem AFK {e:TypeId} {sz m:Nat} {zs:List Value} {xs:List Operand} {parts:Array (Nat×Operand)} {rows:List (List Pr)} [i:TU P t (.slice e)] [z:TZ P e sz] [v:TV P e zs] (ho:o.op= .buildSlice t m parts) (hp:parts.toList.map Prod.snd=xs) (hm:(m==xs.length&&(parts.toList.map Prod.fst==List.range m)&&zs.length==sz&&Nat.blt 0 sz&&Nat.ble (m*sz) 16777216)=true) (hx:UU E sz xs rows):Ae P I o E (full sz rows):=by
 simp only [Bool.and_eq_true,beq_iff_eq,Nat.blt_eq,Nat.ble_eq] at hm
 obtain ⟨⟨⟨⟨h1,h2⟩,h3⟩,h4⟩,h5⟩:=hm
 subst h1
 refine AM ho ?_ i.h z.h v.h h3 h4 hx h5
 refine List.ext_getElem (by rw [←hp];simp) fun k h6 h7=> ?_
 have h8:k<xs.length:=by simpa using h7
 simp only [List.getElem_map,List.getElem_zipIdx,Nat.zero_add]
 have e1:(parts.toList.map Prod.fst)[k]'(by simpa using h6)=k:=by simp only [h2];exact List.getElem_range _
 have e2:(parts.toList.map Prod.snd)[k]'(by simpa using h6)=xs[k]:=by simp only [hp]
 simp only [List.getElem_map] at e1 e2
 exact Prod.ext e1 e2
section
variable {M0:Av} {w0:World} {S:Nat→Prop} {b off:Nat} {T:TypeId} {new:Bool} {ps qs:List Pr} {m:Nat} {q:Pr}
theorem LY [i:T1 P t] (ho:o.op= .load t x) (hx:C4 E x=some (ptr b off)) (hp:ps[off]? =some p):LQ P M0 w0 S j (SR.c (AF new b T ps)) o E p:=BE ho i.h (vl hx) hp
theorem LZ [i:TA P t] [z:TZ P t m] (ho:o.op= .load t x) (hx:C4 E x=some (ptr b off)) (hq:(ps.drop off).take m=qs) (hm:qs.length=m):LQ P M0 w0 S j (SR.c (AF new b T ps)) o E (agg qs):=CU ho i.h z.h (vl hx) hq hm
theorem Wg {ps':List Pr} [z:TZ P t m] [c:CP q qs] (hg:o.guard=none) (ho:o.op= .store t x y) (hx:C4 E x=some (ptr b off)) (hy:C4 E y=some q) (hm:qs.length=m:=by rfl) (hl:Nat.ble (off+m) ps.length=true:=by rfl) (hps:ps.take off++qs++ps.drop (off+m)=ps':=by rfl):DW P M0 w0 S n j (SR.c (AF new b T ps)) (SR.c (AF new b T ps')) o E any:=A9 hg ho (vl hx) (VL.le (vl hy) c.h) z.h hm (Nat.le_of_ble_eq_true hl) hps
variable {rs:List At}
theorem sf (i s:Nat) [z:TZ P t m] [c:CP q qs] (hg:o.guard=none∧o.dst=none∧o.op= .store t x y) (hx:C4 E x=some (ptr b 0)) (hy:C4 E y=some q) (hi:rs[i]? =some (AF true b T ps)) (hs:E.lookup s=some (ptr b 0))
  (k:TO P n ops r ((s,ref qs)::E) (Hp M0 w0 S ((rs.set i (AF true b T qs)).eraseIdx i)) Q) (hm:qs.length=m:=by rfl) (hl:ps.length=m:=by rfl):TO P n ops (o::r) E (Hp M0 w0 S rs) Q:=
 TO.AK i hg.1 hg.2.1 hg.2.2 (vl hx) (VL.le (vl hy) c.h) hi z.h hm hl (TO.freeze (ps:=qs) i s (by
  have hlt:i<rs.length:=by rcases Nat.lt_or_ge i rs.length with h|h;exact h;rw [List.getElem?_eq_none h] at hi;cases hi
  rw [List.getElem?_set_self hlt]) hs k)
theorem sa (i:Nat) [z:TZ P t m] [c:CP q qs] (hg:o.guard=none∧o.dst=none∧o.op= .store t x y) (hx:C4 E x=some (ptr b 0)) (hy:C4 E y=some q) (hi:rs[i]? =some (AF new b T ps))
  (k:TO P n ops r E (Hp M0 w0 S (rs.set i (AF new b T qs))) Q) (hm:qs.length=m:=by rfl) (hl:ps.length=m:=by rfl):TO P n ops (o::r) E (Hp M0 w0 S rs) Q:=TO.AK i hg.1 hg.2.1 hg.2.2 (vl hx) (VL.le (vl hy) c.h) hi z.h hm hl k
end
def opk (o:Oper):Nat:=match o.op with
 | .move ..=>1
 | .assign ..=>1
 | .fieldAddr ..=>2
 | .load ..=>3
 | .binOp .add ..=>7
 | .binOp .sub ..=>8
 | .binOp ..=>4
 | .pick ..=>5
 | .nilCheck ..=>6
 | .call { callee:= .builtin .len,.. }=>9
 | .unOp ..=>10
 | .box ..=>11
 | .extract ..=>12
 | .makeFunc ..=>13
 | .build ..=>14
 | .buildSlice ..=>15
 | .store ..=>16
 |_=>0
def ABV (o:Oper):Bool:=o.guard.isNone
def grp (o:Oper):Nat:=if opk o=0 then 0 else if opk o<5 then 1 else if opk o<9 then 2 else if opk o<16 then 3 else 4
theorem AFL {m z:Int} (ho:o.op= .binOp .add t x y u) (hx:C4 E x=some (int m)) (hy:C4 E y=some (int z)) (hr: -9223372036854775808≤m+z∧m+z≤9223372036854775807):Ae P I o E (int (m+z)):=FE ho (vl hx) (vl hy) hr
theorem AFM {m z:Int} (ho:o.op= .binOp .sub t x y u) (hx:C4 E x=some (int m)) (hy:C4 E y=some (int z)) (hr: -9223372036854775808≤m-z∧m-z≤9223372036854775807):Ae P I o E (int (m-z)):=YS ho (vl hx) (vl hy) hr
theorem oF (h:Ae P I o E p:=by first|exact AE6 rfl rfl rfl|exact AE7 rfl rfl):Ae P I o E p:=h
theorem oL (h:Ae P I o E p:=by first|exact AE4 rfl rfl|exact AE5 rfl rfl rfl rfl|exact Cw 0 rfl (LY rfl rfl rfl)|exact Cw 0 rfl (LZ rfl rfl rfl rfl)|exact Cw 1 rfl (LY rfl rfl rfl)|exact Cw 1 rfl (LZ rfl rfl rfl rfl)|exact Cw 2 rfl (LY rfl rfl rfl)|exact Cw 2 rfl (LZ rfl rfl rfl rfl)|exact Cw 3 rfl (LY rfl rfl rfl)|exact Cw 3 rfl (LZ rfl rfl rfl rfl)|exact Cw 4 rfl (LY rfl rfl rfl)|exact Cw 4 rfl (LZ rfl rfl rfl rfl)):Ae P I o E p:=h
theorem oB (h:Ae P I o E p:=by first|exact ki rfl rfl rfl rfl|exact xI rfl (vl rfl) (vl rfl)|exact xJ rfl (vl rfl) (vl rfl)|exact AE_ rfl rfl rfl):Ae P I o E p:=h
theorem oP (h:Ae P I o E p:=by first|exact JD rfl rfl (by first|rfl|assumption) rfl|exact MM rfl rfl (by first|rfl|assumption) rfl|exact eu rfl (vl rfl) (vl rfl)|exact Yn rfl (vl rfl) (vl rfl)):Ae P I o E p:=h
theorem oN (h:Ae P I o E p:=by first|exact EH rfl (vl rfl)|exact JB rfl (vl rfl)|exact Ji rfl (vl rfl)):Ae P I o E p:=h
theorem oA (h:Ae P I o E p:=by first|exact AFL rfl rfl rfl AA|exact ki rfl rfl rfl rfl):Ae P I o E p:=h
theorem oS (h:Ae P I o E p:=by first|exact AFM rfl rfl rfl AA|exact ki rfl rfl rfl rfl):Ae P I o E p:=h
theorem oC (h:Ae P I o E p:=by first|exact AE8 rfl rfl|exact AE9 rfl rfl):Ae P I o E p:=h
theorem oU (h:Ae P I o E p:=by first|exact HW rfl (vl rfl)):Ae P I o E p:=h
theorem oO (h:Ae P I o E p:=by first|exact AFB rfl rfl|exact AFA rfl rfl):Ae P I o E p:=h
theorem oE (h:Ae P I o E p:=by first|exact BB rfl (vl rfl) rfl):Ae P I o E p:=h
theorem oM (h:Ae P I o E p:=by first|exact V2 rfl rfl):Ae P I o E p:=h
theorem oD (h:Ae P I o E p:=by first|exact AFJ rfl (by repeat any_goals first|exact vf0|refine' vf1 rfl ?_) (by rfl)):Ae P I o E p:=h
theorem oI (h:Ae P I o E p:=by first|exact AFK rfl rfl (by rfl) (by repeat any_goals first|exact vr0|refine' vr1 rfl (by rfl) ?_)):Ae P I o E p:=h
theorem kc0 {f:FuncId} {ts:Array TypeId} {res:Pr} (hf:BD P f [] res) (ho:o.op= .call { callee:= .value (.func f),args:= #[],argTypes:=ts }):Ae P I o E res:=AV ho hf trivial
theorem Cn {f:FuncId} {ts:Array TypeId} {x0:Operand} {p0:Pr} {res:Pr} (hf:BD P f [p0] res) (ho:o.op= .call { callee:= .value (.func f),args:= #[x0],argTypes:=ts }) (h0:C4 E x0=some p0):Ae P I o E res:=AV ho hf ⟨ke h0,trivial⟩
theorem CK {f:FuncId} {ts:Array TypeId} {x0:Operand} {p0:Pr} {x1:Operand} {p1:Pr} {res:Pr} (hf:BD P f [p0,p1] res) (ho:o.op= .call { callee:= .value (.func f),args:= #[x0,x1],argTypes:=ts }) (h0:C4 E x0=some p0) (h1:C4 E x1=some p1):Ae P I o E res:=AV ho hf ⟨ke h0,ke h1,trivial⟩
theorem K0 {f:FuncId} {ts:Array TypeId} {x0:Operand} {p0:Pr} {x1:Operand} {p1:Pr} {x2:Operand} {p2:Pr} {res:Pr} (hf:BD P f [p0,p1,p2] res) (ho:o.op= .call { callee:= .value (.func f),args:= #[x0,x1,x2],argTypes:=ts }) (h0:C4 E x0=some p0) (h1:C4 E x1=some p1) (h2:C4 E x2=some p2):Ae P I o E res:=AV ho hf ⟨ke h0,ke h1,ke h2,trivial⟩
theorem iU {f:FuncId} {ts:Array TypeId} {x0:Operand} {p0:Pr} {x1:Operand} {p1:Pr} {x2:Operand} {p2:Pr} {x3:Operand} {p3:Pr} {res:Pr} (hf:BD P f [p0,p1,p2,p3] res) (ho:o.op= .call { callee:= .value (.func f),args:= #[x0,x1,x2,x3],argTypes:=ts }) (h0:C4 E x0=some p0) (h1:C4 E x1=some p1) (h2:C4 E x2=some p2) (h3:C4 E x3=some p3):Ae P I o E res:=AV ho hf ⟨ke h0,ke h1,ke h2,ke h3,trivial⟩
theorem kc5 {f:FuncId} {ts:Array TypeId} {x0:Operand} {p0:Pr} {x1:Operand} {p1:Pr} {x2:Operand} {p2:Pr} {x3:Operand} {p3:Pr} {x4:Operand} {p4:Pr} {res:Pr} (hf:BD P f [p0,p1,p2,p3,p4] res) (ho:o.op= .call { callee:= .value (.func f),args:= #[x0,x1,x2,x3,x4],argTypes:=ts }) (h0:C4 E x0=some p0) (h1:C4 E x1=some p1) (h2:C4 E x2=some p2) (h3:C4 E x3=some p3) (h4:C4 E x4=some p4):Ae P I o E res:=AV ho hf ⟨ke h0,ke h1,ke h2,ke h3,ke h4,trivial⟩
theorem cP (_:ABV o=true) (h:Ch P n I ops (o::r) E K):Ch P n I ops (o::r) E K:=h
theorem cG (_:ABV o=false) (h:Ch P n I ops (o::r) E K):Ch P n I ops (o::r) E K:=h
theorem cK (k:Nat) (_:opk o=k) (h:Ch P n I ops (o::r) E K):Ch P n I ops (o::r) E K:=h
theorem cS (k:Nat) (_:grp o=k) (h:Ch P n I ops (o::r) E K):Ch P n I ops (o::r) E K:=h
theorem tK (k:Nat) (_:opk o=k) (h:TO P n ops (o::r) E I Q):TO P n ops (o::r) E I Q:=h
theorem tG (k:Nat) (_:grp o=k) (h:TO P n ops (o::r) E I Q):TO P n ops (o::r) E I Q:=h
theorem Tr.rm [i:TM P] {id:Nat} {l:List Oper} (hB:UO l=true) (h:Ch P n I l.toArray l E (fun E'=>Fin n E' I Q .normal)) (hc:calm l=true:=by with_unfolding_all rfl):Tr L n E I (.region id l.toArray true) Q:=Tr.qU i.h hB h hc
theorem Tr.ct {c:Operand} {y z:Code} (hc:C4 E c=some (bool true)) (k:Tr L n E I y Q):Tr L n E I (.cond c y z) Q:=Tr.cond hc (fun _=>k) (fun h=>nomatch h)
theorem Tr.cf {c:Operand} {y z:Code} (hc:C4 E c=some (bool false)) (k:Tr L n E I z Q):Tr L n E I (.cond c y z) Q:=Tr.cond hc (fun h=>nomatch h) (fun _=>k)
structure kj (G:Prop):Prop where
 k:G
theorem Cx.mono {M0:Av} {w0:World} {S:Nat→Prop}:∀{l:List Oper} {E:Env} {rs:List SR} {K K':List X→Env→List SR→Prop},(∀L E rs,K L E rs→K' L E rs)→Cx P M0 w0 S n ops l E rs K→Cx P M0 w0 S n ops l E rs K'
 |[],_,_,_,_,h,k=>h _ _ _ k
 |_::_,_,_,_,_,h,⟨p,k,h1,h2,h3⟩=>⟨p,k,h1,h2,Cx.mono (fun _ _ _=>h _ _ _) h3⟩
theorem Cx.keys {M0:Av} {w0:World} {S:Nat→Prop}:∀{l:List Oper} {E:Env} {rs:List SR} {K:List X→Env→List SR→Prop},Cx P M0 w0 S n ops l E rs K→∃ks:List KN,Cx P M0 w0 S n ops l E rs (fun L E' rs'=>L.map (·.k.LR)=ks∧K L E' rs')
 |[],_,_,_,k=>⟨[],rfl,k⟩
 |_::_,_,_,_,⟨p,k,h1,h2,h3⟩=>by
  obtain ⟨ks,h4⟩:=Cx.keys h3
  exact ⟨k.LR::ks,p,k,h1,h2,Cx.mono (fun L E rs h=>⟨by rw [List.map_cons,h.1],h.2⟩) h4⟩
theorem Tr.rx {Lo:Lg P} [i:TM P] {M0:Av} {w0:World} {S:Nat→Prop} {id:Nat} {l:List Oper} {Hu:List At}
  (h:Cx P M0 w0 S n l.toArray l E (Hu.map SR.c) (fun L E' rs'=>PD l (L.map (·.k.LR))=true∧BO n M0 w0 S E' rs' Q)) (hc:calm l=true:=by with_unfolding_all rfl):Tr Lo n E (Hp M0 w0 S Hu) (.region id l.toArray true) Q:=by
 obtain ⟨ks,hk⟩:=Cx.keys h
 obtain ⟨L,h1,h2,h3⟩:=UR l 0 E _ hk
 exact Tr.Gu i.h ks (by rw [←h3.1];exact h3.2.1) (hk.mono fun _ _ _ h=>⟨h.1,h.2.2⟩) hc
theorem al1 {rs:List At} {r0:At}:A8 (SR.c r0::rs.map SR.c) (r0::rs):= .cons (A8.map _)
theorem Wh {rs:List At} {r0:At} {r1:At}:A8 (SR.c r0::SR.c r1::rs.map SR.c) (r0::r1::rs):= .cons (.cons (A8.map _))
theorem al3 {rs:List At} {r0:At} {r1:At} {r2:At}:A8 (SR.c r0::SR.c r1::SR.c r2::rs.map SR.c) (r0::r1::r2::rs):= .cons (.cons (.cons (A8.map _)))
theorem al4 {rs:List At} {r0:At} {r1:At} {r2:At} {r3:At}:A8 (SR.c r0::SR.c r1::SR.c r2::SR.c r3::rs.map SR.c) (r0::r1::r2::r3::rs):= .cons (.cons (.cons (.cons (A8.map _))))
theorem al5 {rs:List At} {r0:At} {r1:At} {r2:At} {r3:At} {r4:At}:A8 (SR.c r0::SR.c r1::SR.c r2::SR.c r3::SR.c r4::rs.map SR.c) (r0::r1::r2::r3::r4::rs):= .cons (.cons (.cons (.cons (.cons (A8.map _)))))
theorem al6 {rs:List At} {r0:At} {r1:At} {r2:At} {r3:At} {r4:At} {r5:At}:A8 (SR.c r0::SR.c r1::SR.c r2::SR.c r3::SR.c r4::SR.c r5::rs.map SR.c) (r0::r1::r2::r3::r4::r5::rs):= .cons (.cons (.cons (.cons (.cons (.cons (A8.map _))))))
theorem fo {f : FuncId} {g : Func} {c : Code} {ps : List Pr} {res : Pr} (hf : P.funcs[f]? = some g) (hb : g.body = some c) (hname : ((g.name == "runtime.NumGoroutine") = false ∧ Nat.ble ps.length g.ntmps = true))
  (h:∀M0 w0,Tr (Xu P) g.ntmps (LP 0 ps) (Bse M0 w0) c (bodyPost P g (SA M0 w0 res))):BD P f ps res:=BD.of hf hb hname.1 (Nat.le_of_ble_eq_true hname.2) h
section
variable {M0:Av} {w0:World} {S:Nat→Prop} {rs:List SR} {KX:List X→Env→List SR→Prop}
theorem xId {l:List Oper} (h:Cx P M0 w0 S n ops l E rs KX):Cx P M0 w0 S n ops l E rs KX:=h
theorem xK (k:Nat) (_:opk o=k) (h:Cx P M0 w0 S n ops (o::r) E rs KX):Cx P M0 w0 S n ops (o::r) E rs KX:=h
theorem xG (k:Nat) (_:grp o=k) (h:Cx P M0 w0 S n ops (o::r) E rs KX):Cx P M0 w0 S n ops (o::r) E rs KX:=h
end
theorem cId {l:List Oper} (h:Ch P n I ops l E K):Ch P n I ops l E K:=h
theorem rId {c:Code} (h:Tr L n E I c Q):Tr L n E I c Q:=h
theorem fId {e:Exit} (h:Fin n E I Q e):Fin n E I Q e:=h
theorem tId {l:List Oper} (h:TO P n ops l E I Q):TO P n ops l E I Q:=h
theorem ac {G H:Prop} (k:G) (h:kj G→H:=by
 intro k
 repeat1' first
  |((with_reducible refine cId ?_);first
   |with_reducible refine Ch.nil ?_
   |(refine cP rfl ?_;first
    |(refine cS 1 rfl ?_;first
      |(refine cK 1 rfl ?_;refine cm rfl ?_)
      |(refine cK 2 rfl ?_;refine co rfl oF ?_)
      |(refine cK 3 rfl ?_;refine co rfl oL ?_)
      |(refine cK 4 rfl ?_;refine co rfl oB ?_))
    |(refine cS 2 rfl ?_;first
      |(refine cK 5 rfl ?_;refine co rfl oP ?_)
      |(refine cK 6 rfl ?_;refine co rfl oN ?_)
      |(refine cK 7 rfl ?_;refine co rfl oA ?_)
      |(refine cK 8 rfl ?_;refine co rfl oS ?_))
    |(refine cS 3 rfl ?_;first
      |(refine cK 9 rfl ?_;refine co rfl oC ?_)
      |(refine cK 10 rfl ?_;refine co rfl oU ?_)
      |(refine cK 11 rfl ?_;refine co rfl oO ?_)
      |(refine cK 12 rfl ?_;refine co rfl oE ?_)
      |(refine cK 13 rfl ?_;refine co rfl oM ?_)
      |(refine cK 14 rfl ?_;refine co rfl oD ?_)
      |(refine cK 15 rfl ?_;refine co rfl oI ?_)))
   |(refine cG rfl ?_;first
    |refine cu rfl ?_
    |refine cnt Bg rfl ?_
    |refine cnf Bg rfl ?_
    |(refine cS 1 rfl ?_;first
      |(refine cK 1 rfl ?_;refine ML FD rfl ?_)
      |(refine cK 2 rfl ?_;refine cy FD rfl oF ?_)
      |(refine cK 3 rfl ?_;refine cy FD rfl oL ?_)
      |(refine cK 4 rfl ?_;refine cy FD rfl oB ?_))
    |(refine cS 2 rfl ?_;first
      |(refine cK 5 rfl ?_;refine cy FD rfl oP ?_)
      |(refine cK 6 rfl ?_;refine cy FD rfl oN ?_)
      |(refine cK 7 rfl ?_;refine cy FD rfl oA ?_)
      |(refine cK 8 rfl ?_;refine cy FD rfl oS ?_))
    |(refine cS 3 rfl ?_;first
      |(refine cK 9 rfl ?_;refine cy FD rfl oC ?_)
      |(refine cK 10 rfl ?_;refine cy FD rfl oU ?_)
      |(refine cK 11 rfl ?_;refine cy FD rfl oO ?_)
      |(refine cK 12 rfl ?_;refine cy FD rfl oE ?_)
      |(refine cK 13 rfl ?_;refine cy FD rfl oM ?_)
      |(refine cK 14 rfl ?_;refine cy FD rfl oD ?_)
      |(refine cK 15 rfl ?_;refine cy FD rfl oI ?_))
    |refine cnd rfl rfl ?_))
  |((with_reducible refine rId ?_);first
   |with_reducible refine Tr.seq ?_
   |with_reducible refine Tr.Aj ?_
   |refine Tr.rm Be ?_
   |with_reducible refine Tr.skip ?_
   |with_reducible refine Tr.block ?_
   |with_reducible refine Tr.ret ?_
   |with_reducible refine Tr.exit ?_
   |refine Tr.ct rfl ?_
   |refine Tr.cf rfl ?_)
  |((with_reducible refine fId ?_);first
   |with_reducible refine Fin.AE ?_
   |with_reducible refine Fin.AR ?_
   |with_reducible refine Fin.AW ?_
   |with_reducible refine Fin.Au ?_
   |refine Fin.QK rfl ?_
   |with_reducible refine Fin.block ?_
   |refine Fin.Kw rfl (Br.Dz _ _) rfl ?_)
 first|with_reducible refine Fin.go ?_|with_reducible refine cId ?_|with_reducible refine tId ?_|with_reducible refine rId ?_|refine Fin.go ?_|skip
 exact k.k):H:=h ⟨k⟩
theorem ao {G H:Prop} (k:G) (h:kj G→H:=by
 intro k
 repeat1' first
  |((with_reducible refine tId ?_);first
   |with_reducible refine TO.nil ?_
   |(refine tG 1 rfl ?_;first
     |(refine tK 1 rfl ?_;refine tm rfl ?_)
     |(refine tK 2 rfl ?_;refine tp rfl oF ?_)
     |(refine tK 3 rfl ?_;refine tp rfl oL ?_)
     |(refine tK 4 rfl ?_;refine tp rfl oB ?_))
   |(refine tG 2 rfl ?_;first
     |(refine tK 5 rfl ?_;refine tp rfl oP ?_)
     |(refine tK 6 rfl ?_;refine tp rfl oN ?_)
     |(refine tK 7 rfl ?_;refine tp rfl oA ?_)
     |(refine tK 8 rfl ?_;refine tp rfl oS ?_))
   |(refine tG 3 rfl ?_;first
     |(refine tK 9 rfl ?_;refine tp rfl oC ?_)
     |(refine tK 10 rfl ?_;refine tp rfl oU ?_)
     |(refine tK 12 rfl ?_;refine tp rfl oE ?_)
     |(refine tK 13 rfl ?_;refine tp rfl oM ?_)
     |(refine tK 14 rfl ?_;refine tp rfl oD ?_)
     |(refine tK 15 rfl ?_;refine tp rfl oI ?_)))
  |((with_reducible refine rId ?_);first
   |with_reducible refine Tr.seq ?_
   |with_reducible refine Tr.Ap ?_
   |with_reducible refine Tr.skip ?_
   |with_reducible refine Tr.block ?_
   |with_reducible refine Tr.ret ?_
   |with_reducible refine Tr.exit ?_)
  |((with_reducible refine fId ?_);first
   |with_reducible refine Fin.AE ?_
   |with_reducible refine Fin.AR ?_
   |with_reducible refine Fin.AW ?_
   |with_reducible refine Fin.Au ?_
   |refine Fin.QK rfl ?_
   |with_reducible refine Fin.block ?_)
 first|with_reducible refine Fin.go ?_|with_reducible refine cId ?_|with_reducible refine tId ?_|with_reducible refine rId ?_|refine Fin.go ?_|skip
 exact k.k):H:=h ⟨k⟩
theorem ap {G H:Prop} (k:G) (h:kj G→H:=by
 intro k
 repeat1' first
  |((with_reducible refine tId ?_);first
   |with_reducible refine TO.nil ?_
   |(refine tG 1 rfl ?_;first
     |(refine tK 1 rfl ?_;refine tm rfl ?_)
     |(refine tK 2 rfl ?_;refine tp rfl oF ?_)
     |(refine tK 3 rfl ?_;refine tp rfl oL ?_)
     |(refine tK 4 rfl ?_;refine tp rfl oB ?_))
   |(refine tG 2 rfl ?_;first
     |(refine tK 5 rfl ?_;refine tp rfl oP ?_)
     |(refine tK 6 rfl ?_;refine tp rfl oN ?_)
     |(refine tK 7 rfl ?_;refine tp rfl oA ?_)
     |(refine tK 8 rfl ?_;refine tp rfl oS ?_))
   |(refine tG 3 rfl ?_;first
     |(refine tK 9 rfl ?_;refine tp rfl oC ?_)
     |(refine tK 10 rfl ?_;refine tp rfl oU ?_)
     |(refine tK 12 rfl ?_;refine tp rfl oE ?_)
     |(refine tK 13 rfl ?_;refine tp rfl oM ?_)
     |(refine tK 14 rfl ?_;refine tp rfl oD ?_)
     |(refine tK 15 rfl ?_;refine tp rfl oI ?_))
   |(refine tK 16 rfl ?_;first
    |refine sa 0 ⟨rfl,rfl,rfl⟩ rfl rfl rfl ?_
    |refine TO.Dv 0 rfl rfl (Wg rfl rfl rfl rfl) ?_
    |refine sa 1 ⟨rfl,rfl,rfl⟩ rfl rfl rfl ?_
    |refine TO.Dv 1 rfl rfl (Wg rfl rfl rfl rfl) ?_
    |refine sa 2 ⟨rfl,rfl,rfl⟩ rfl rfl rfl ?_
    |refine TO.Dv 2 rfl rfl (Wg rfl rfl rfl rfl) ?_
    |refine sa 3 ⟨rfl,rfl,rfl⟩ rfl rfl rfl ?_
    |refine TO.Dv 3 rfl rfl (Wg rfl rfl rfl rfl) ?_))
  |((with_reducible refine rId ?_);first
   |with_reducible refine Tr.seq ?_
   |with_reducible refine Tr.Ap ?_
   |with_reducible refine Tr.skip ?_
   |with_reducible refine Tr.block ?_
   |with_reducible refine Tr.ret ?_
   |with_reducible refine Tr.exit ?_)
  |((with_reducible refine fId ?_);first
   |with_reducible refine Fin.AE ?_
   |with_reducible refine Fin.AR ?_
   |with_reducible refine Fin.AW ?_
   |with_reducible refine Fin.Au ?_
   |refine Fin.QK rfl ?_
   |with_reducible refine Fin.block ?_)
 first|with_reducible refine Fin.go ?_|with_reducible refine cId ?_|with_reducible refine tId ?_|with_reducible refine rId ?_|refine Fin.go ?_|skip
 exact k.k):H:=h ⟨k⟩
theorem ax {G H:Prop} (k:G) (h:kj G→H:=by
 intro k
 repeat ((with_reducible refine xId ?_);first
   |(refine xG 1 rfl ?_;first
     |(refine xK 1 rfl ?_;refine xm rfl ?_)
     |(refine xK 2 rfl ?_;refine xo rfl (fun _=>oF) ?_)
     |(refine xK 3 rfl ?_;refine xo rfl (fun _=>oL) ?_)
     |(refine xK 4 rfl ?_;refine xo rfl (fun _=>oB) ?_))
   |(refine xG 2 rfl ?_;first
     |(refine xK 5 rfl ?_;refine xo rfl (fun _=>oP) ?_)
     |(refine xK 6 rfl ?_;refine xo rfl (fun _=>oN) ?_)
     |(refine xK 7 rfl ?_;refine xo rfl (fun _=>oA) ?_)
     |(refine xK 8 rfl ?_;refine xo rfl (fun _=>oS) ?_))
   |(refine xG 3 rfl ?_;first
     |(refine xK 9 rfl ?_;refine xo rfl (fun _=>oC) ?_)
     |(refine xK 10 rfl ?_;refine xo rfl (fun _=>oU) ?_)
     |(refine xK 11 rfl ?_;refine xo rfl (fun _=>oO) ?_)
     |(refine xK 12 rfl ?_;refine xo rfl (fun _=>oE) ?_)
     |(refine xK 13 rfl ?_;refine xo rfl (fun _=>oM) ?_)
     |(refine xK 14 rfl ?_;refine xo rfl (fun _=>oD) ?_))
   |(refine xK 3 rfl ?_;first
    |refine JC 0 rfl rfl (LY rfl rfl rfl) ?_
    |refine JC 0 rfl rfl (LZ rfl rfl rfl rfl) ?_
    |refine JC 1 rfl rfl (LY rfl rfl rfl) ?_
    |refine JC 1 rfl rfl (LZ rfl rfl rfl rfl) ?_
    |refine JC 2 rfl rfl (LY rfl rfl rfl) ?_
    |refine JC 2 rfl rfl (LZ rfl rfl rfl rfl) ?_
    |refine JC 3 rfl rfl (LY rfl rfl rfl) ?_
    |refine JC 3 rfl rfl (LZ rfl rfl rfl rfl) ?_
    |refine JC 4 rfl rfl (LY rfl rfl rfl) ?_
    |refine JC 4 rfl rfl (LZ rfl rfl rfl rfl) ?_))
 exact k.k):H:=h ⟨k⟩
theorem ay {G H:Prop} (k:G) (h:kj G→H:=by
 intro k
 repeat ((with_reducible refine xId ?_);first
   |(refine xG 1 rfl ?_;first
     |(refine xK 1 rfl ?_;refine xm rfl ?_)
     |(refine xK 2 rfl ?_;refine xo rfl (fun _=>oF) ?_)
     |(refine xK 3 rfl ?_;refine xo rfl (fun _=>oL) ?_)
     |(refine xK 4 rfl ?_;refine xo rfl (fun _=>oB) ?_))
   |(refine xG 2 rfl ?_;first
     |(refine xK 5 rfl ?_;refine xo rfl (fun _=>oP) ?_)
     |(refine xK 6 rfl ?_;refine xo rfl (fun _=>oN) ?_)
     |(refine xK 7 rfl ?_;refine xo rfl (fun _=>oA) ?_)
     |(refine xK 8 rfl ?_;refine xo rfl (fun _=>oS) ?_))
   |(refine xG 3 rfl ?_;first
     |(refine xK 9 rfl ?_;refine xo rfl (fun _=>oC) ?_)
     |(refine xK 10 rfl ?_;refine xo rfl (fun _=>oU) ?_)
     |(refine xK 11 rfl ?_;refine xo rfl (fun _=>oO) ?_)
     |(refine xK 12 rfl ?_;refine xo rfl (fun _=>oE) ?_)
     |(refine xK 13 rfl ?_;refine xo rfl (fun _=>oM) ?_)
     |(refine xK 14 rfl ?_;refine xo rfl (fun _=>oD) ?_))
   |(refine xK 3 rfl ?_;first
    |refine JC 0 rfl rfl (LY rfl rfl rfl) ?_
    |refine JC 0 rfl rfl (LZ rfl rfl rfl rfl) ?_
    |refine JC 1 rfl rfl (LY rfl rfl rfl) ?_
    |refine JC 1 rfl rfl (LZ rfl rfl rfl rfl) ?_
    |refine JC 2 rfl rfl (LY rfl rfl rfl) ?_
    |refine JC 2 rfl rfl (LZ rfl rfl rfl rfl) ?_
    |refine JC 3 rfl rfl (LY rfl rfl rfl) ?_
    |refine JC 3 rfl rfl (LZ rfl rfl rfl rfl) ?_
    |refine JC 4 rfl rfl (LY rfl rfl rfl) ?_
    |refine JC 4 rfl rfl (LZ rfl rfl rfl rfl) ?_)
   |(refine xK 16 rfl ?_;first
    |refine Cx.Dv 0 rfl rfl (Wg rfl rfl rfl rfl) ?_
    |refine Cx.Dv 1 rfl rfl (Wg rfl rfl rfl rfl) ?_
    |refine Cx.Dv 2 rfl rfl (Wg rfl rfl rfl rfl) ?_
    |refine Cx.Dv 3 rfl rfl (Wg rfl rfl rfl rfl) ?_))
 exact k.k):H:=h ⟨k⟩
theorem Ch.cg {l:List Oper} {b v:Bool} {g j:Nat} {pt pf:Prop} [ht:C3 b true pt] [hf:C3 b false pf] (_:o.guard=some (j,v)) (_:(ops[j]?.bind (·.dst))=some g) (hb:E.lookup g=some (bool b)) (k:b=true→pt→Ch P n I ops (o::l) E K) (k':b=false→pf→Ch P n I ops (o::l) E K):Ch P n I ops (o::l) E K:=Ch.cases g hb (fun h=>k h (ht.DZ h)) (fun h=>k' h (hf.DZ h))
theorem a2 {G H:Prop} (k:G) (h:kj G→H:=by
 intro k
 iterate 2 refine ac ?_
 exact k.k):H:=h ⟨k⟩
theorem a3 {G H:Prop} (k:G) (h:kj G→H:=by
 intro k
 iterate 3 refine ac ?_
 exact k.k):H:=h ⟨k⟩
theorem an {G L H:Prop} (k:G) (l:L) (h:kj G→kj L→H:=by
 intro k l
 refine ac ?_
 refine Tr.cn rfl ?_ ?_
 exact k.k
 exact l.k):H:=h ⟨k⟩ ⟨l⟩
theorem ag {G L H:Prop} (k:G) (l:L) (h:kj G→kj L→H:=by
 intro k l
 refine ac ?_
 refine Ch.cg rfl rfl rfl ?_ ?_
 exact k.k
 exact l.k):H:=h ⟨k⟩ ⟨l⟩
theorem Lr {p:Pr}:Pr.le p p:=Pr.le_refl p
theorem Vo {p:Pr} [One p] (h:C4 E x=some p):VL E x (DK [p]):=VL.le (vl h) (Af p)
theorem Va {ps:List Pr} (h:C4 E x=some (agg ps)):VL E x (DK ps):=VL.le (vl h) (Ad ps)
theorem Nb {a b:Nat} (h:Nat.ble a b=true):a≤b:=Nat.le_of_ble_eq_true h
theorem Kf {z:Nat} {l:List (List Pr)} (h:C4 E x=some (full z l)):VL E x (slice z l):=⟨_,h,B0 z l⟩
theorem Ka {v:Value} (h:C4 E x=some (Ab v p)):VL E x (is v):=⟨_,h,E0 v p⟩
theorem Kb {v:Value} (h:C4 E x=some (Ab v p)):VL E x p:=⟨_,h,Aq v p⟩
theorem OJ {p:Pr} [One p] (h:C4 E x=some p:=by exact rfl):VL E x (DK [p]):=Vo h
theorem C1 {ps:List Pr} (h:C4 E x=some (agg ps):=by exact rfl):VL E x (DK ps):=Va h
theorem GG {z:Nat} {l:List (List Pr)} (h:C4 E x=some (full z l):=by exact rfl):VL E x (slice z l):=Kf h
theorem Ja {v:Value} (h:C4 E x=some (Ab v p):=by exact rfl):VL E x (is v):=Ka h
theorem HA {v:Value} (h:C4 E x=some (Ab v p):=by exact rfl):VL E x p:=Kb h
theorem Tl {M0:Av} {w0:World} {S:Nat→Prop} {rs:List At} {T:TypeId} {zs:List Value} (hg:o.guard=none) (hd:o.dst=some d) (hn:Nat.blt d n=true) (ho:o.op= .alloc T) (hz:BW P T=some zs) (h1':zs.all (·.oneCell')=true)
  (k:∀b,TO P n ops r ((d,is (.pointer (some ⟨b,0,none⟩)))::E) (Hp M0 w0 S (AF true b T (zs.map is)::rs)) Q):TO P n ops (o::r) E (Hp M0 w0 S rs) Q:=TO.alloc hg hd (HY hn) ho hz h1' k
theorem B1 {M0:Av} {w0:World} {S:Nat→Prop} {t e:TypeId} {sz bytes:Nat} {zs:List Value} {rows rows':List (List Pr)} {R:SR} (hg:o.guard=none) (hd:o.dst=some d) (hn:Nat.blt d n=true) (ho:o.op= .call { callee:= .builtin .append,args:= #[x,y],argTypes:= #[t,t] })
  (ht:P.underlying t=some (.slice e)) (hz:A0 P e=some sz) (hby:Bu P e=some bytes) (Ea:BW P e=some zs) (hx:VL E x (slice sz rows)) (hy:VL E y (slice sz rows'))
  (hR:∀M w (a:Act),CZ M w E o a→R.at_ a=As e sz (a.eval x)∨(R.at_ a=Bp∧DY (a.eval x)=none)) (hzl:zs.length=sz:=by rfl) (hsz:Nat.blt 0 sz=true:=by rfl)
  (Gq:rows.length+rows'.length≤maxLen:=by simp only [List.length_map,List.length_append,List.length_cons,List.length_nil,List.length_replicate,List.length_take,List.length_drop];unfold maxLen;omega) (hfit:(rows.length+rows'.length)*bytes≤140737488355328:=by simp only [List.length_map,List.length_append,List.length_cons,List.length_nil,List.length_replicate,List.length_take,List.length_drop];omega):DW P M0 w0 S n j R ⟨d,As e sz⟩ o E (slice sz (rows++rows')):=D3 hg hd (HY hn) ho ht hz hby Ea hzl (HY hsz) hx hy Gq hfit hR
end
end Cp
namespace Go.Proofs.YtmocaapoeefgkaaGreatDoor
open Go Cp
instance ADj:TM Tryz.prog:=⟨mixed⟩
instance AHI:TV Tryz.prog 3 [.int .i64 0]:=⟨z3,zo3⟩
instance AFN:T1 Tryz.prog 3:=⟨Cj⟩
instance AGr:TZ Tryz.prog 3 1:=⟨Bt⟩
instance AFO:T1 Tryz.prog 4:=⟨eY⟩
instance AGs:TZ Tryz.prog 4 1:=⟨Vs⟩
instance qM:TU Tryz.prog 4 .bool:=⟨Tryz.underlying4⟩
instance AHJ:TV Tryz.prog 5 [.int .u8 0]:=⟨z5,zo5⟩
instance AFP:T1 Tryz.prog 5:=⟨AAh⟩
instance AGt:TZ Tryz.prog 5 1:=⟨NA⟩
instance AHK:TV Tryz.prog 9 [.string (ByteArray.mk #[])]:=⟨z9,zo9⟩
instance AFQ:T1 Tryz.prog 9:=⟨Oh⟩
instance AGu:TZ Tryz.prog 9 1:=⟨NT⟩
instance qN:TU Tryz.prog 9 .string:=⟨Tryz.underlying9⟩
instance ADk:T1 Tryz.prog 22:=⟨Qb⟩
instance AFR:TZ Tryz.prog 22 1:=⟨NU⟩
instance ko:TU Tryz.prog 22 (.slice 3):=⟨Tryz.underlying22⟩
instance ADl:T1 Tryz.prog 27:=⟨S0⟩
instance kr:TU Tryz.prog 27 (.slice 40):=⟨Tryz.underlying27⟩
instance ADm:T1 Tryz.prog 28:=⟨bT⟩
instance ku:TU Tryz.prog 28 (.slice 132):=⟨Tryz.underlying28⟩
instance ADn:T1 Tryz.prog 29:=⟨j7⟩
instance k5:TU Tryz.prog 29 (.slice 135):=⟨Tryz.underlying29⟩
instance AFS:TB Tryz.prog 31 (fun i=>(#[(0,1),(1,1),(2,1)]:Array (Nat×Nat))[i]?) (List.replicate 3 (.slice none 0 0)):=⟨AAj,Hx⟩
instance ADo:TA Tryz.prog 31:=⟨DT⟩
instance AFT:TZ Tryz.prog 31 3:=⟨DR⟩
instance ABW:TF Tryz.prog 31 0 0:=⟨Ic⟩
instance ABX:TF Tryz.prog 31 1 1:=⟨NV⟩
instance ABY:TF Tryz.prog 31 2 2:=⟨NW⟩
instance ADp:T1 Tryz.prog 32:=⟨AAl⟩
instance k6:TU Tryz.prog 32 (.slice 86):=⟨Tryz.underlying32⟩
instance ADq:T1 Tryz.prog 33:=⟨vA⟩
instance k7:TU Tryz.prog 33 (.slice 61):=⟨Tryz.underlying33⟩
instance AFU:TB Tryz.prog 35 (fun i=>(#[(0,1),(1,1),(2,1)]:Array (Nat×Nat))[i]?) (List.replicate 3 (.slice none 0 0)):=⟨LS,E3⟩
instance ADr:TA Tryz.prog 35:=⟨Cs⟩
instance AFV:TZ Tryz.prog 35 3:=⟨CI⟩
instance ABZ:TF Tryz.prog 35 0 0:=⟨Yd⟩
instance ABa:TF Tryz.prog 35 1 1:=⟨j8⟩
instance ABb:TF Tryz.prog 35 2 2:=⟨Ud⟩
instance ADs:T1 Tryz.prog 38:=⟨vB⟩
instance AFW:TZ Tryz.prog 38 1:=⟨j9⟩
instance k8:TU Tryz.prog 38 (.slice 84):=⟨Tryz.underlying38⟩
instance AFX:TB Tryz.prog 40 (fun i=>(#[(0,1),(1,1),(2,1),(3,1),(4,1),(5,1),(6,1),(7,1),(8,1)]:Array (Nat×Nat))[i]?) [.string (ByteArray.mk #[]),.int .i64 0,.int .i64 0,.slice none 0 0,.bool false,.slice none 0 0,.slice none 0 0,.slice none 0 0,.bool false]:=⟨qi,Ie⟩
instance ADt:TA Tryz.prog 40:=⟨Cy⟩
instance AFY:TZ Tryz.prog 40 9:=⟨CL⟩
instance ABc:TF Tryz.prog 40 0 0:=⟨j_⟩
instance ABd:TF Tryz.prog 40 1 1:=⟨wX⟩
instance ABe:TF Tryz.prog 40 2 2:=⟨Ye⟩
instance ABf:TF Tryz.prog 40 3 3:=⟨NX⟩
instance ABg:TF Tryz.prog 40 4 4:=⟨wY⟩
instance ABh:TF Tryz.prog 40 5 5:=⟨Qc⟩
instance ABi:TF Tryz.prog 40 6 6:=⟨kA⟩
instance ABj:TF Tryz.prog 40 7 7:=⟨kB⟩
instance ABk:TF Tryz.prog 40 8 8:=⟨wZ⟩
instance AFZ:TB Tryz.prog 42 (fun i=>(#[(0,3),(3,1),(4,1),(5,1),(6,1)]:Array (Nat×Nat))[i]?) [.slice none 0 0,.slice none 0 0,.slice none 0 0,.int .i64 0,.slice none 0 0,.slice none 0 0,.bool false]:=⟨qj,SE⟩
instance ADu:TA Tryz.prog 42:=⟨OA⟩
instance AFa:TZ Tryz.prog 42 7:=⟨NY⟩
instance ABl:TF Tryz.prog 42 0 0:=⟨we⟩
instance ABm:TF Tryz.prog 42 1 3:=⟨kC⟩
instance ABn:TF Tryz.prog 42 2 4:=⟨wg⟩
instance ABo:TF Tryz.prog 42 3 5:=⟨wh⟩
instance ABp:TF Tryz.prog 42 4 6:=⟨wj⟩
instance ADv:T1 Tryz.prog 43:=⟨AAm⟩
instance AGv:TV Tryz.prog 51 [.slice none 0 0]:=⟨z51,AAn⟩
instance ADw:T1 Tryz.prog 51:=⟨bU⟩
instance AFb:TZ Tryz.prog 51 1:=⟨Gf⟩
instance k9:TU Tryz.prog 51 (.slice 3):=⟨Tryz.underlying51⟩
instance AFc:TB Tryz.prog 61 (fun i=>(#[(0,1),(1,1)]:Array (Nat×Nat))[i]?) (List.replicate 2 (.int .i64 0)):=⟨AAo,Oi⟩
instance AGw:TV Tryz.prog 61 (List.replicate 2 (.int .i64 0)):=⟨Qd,Oi⟩
instance ADx:TA Tryz.prog 61:=⟨FH⟩
instance AFd:TZ Tryz.prog 61 2:=⟨Cf⟩
instance ABq:TF Tryz.prog 61 0 0:=⟨Yf⟩
instance ABr:TF Tryz.prog 61 1 1:=⟨Ue⟩
instance ADy:T1 Tryz.prog 75:=⟨AAp⟩
instance k_:TU Tryz.prog 75 (.slice 141):=⟨Tryz.underlying75⟩
instance ADz:TA Tryz.prog 77:=⟨OB⟩
instance AFe:TZ Tryz.prog 77 3:=⟨WM⟩
instance ABs:TF Tryz.prog 77 0 0:=⟨wo⟩
instance ABt:TF Tryz.prog 77 1 1:=⟨wq⟩
instance ABu:TF Tryz.prog 77 2 2:=⟨wu⟩
instance AFf:TB Tryz.prog 81 (fun i=>(#[(0,1),(1,1)]:Array (Nat×Nat))[i]?) (List.replicate 2 (.int .i64 0)):=⟨wv,EU⟩
instance AGx:TV Tryz.prog 81 (List.replicate 2 (.int .i64 0)):=⟨KW,EU⟩
instance AD0:TA Tryz.prog 81:=⟨JE⟩
instance AFg:TZ Tryz.prog 81 2:=⟨Ky⟩
instance ABv:TF Tryz.prog 81 0 0:=⟨wz⟩
instance ABw:TF Tryz.prog 81 1 1:=⟨w4⟩
instance AD1:T1 Tryz.prog 82:=⟨AAs⟩
instance AFh:TZ Tryz.prog 82 1:=⟨AAr⟩
instance lA:TU Tryz.prog 82 (.slice 189):=⟨Tryz.underlying82⟩
instance AFi:TB Tryz.prog 84 (fun i=>(#[(0,2),(2,1),(3,1)]:Array (Nat×Nat))[i]?) [.int .i64 0,.int .i64 0,.int .i64 0,.slice none 0 0]:=⟨AAt,WN⟩
instance AD2:TA Tryz.prog 84:=⟨S1⟩
instance AFj:TZ Tryz.prog 84 4:=⟨Fc⟩
instance ABx:TF Tryz.prog 84 0 0:=⟨w5⟩
instance ABy:TF Tryz.prog 84 1 2:=⟨w7⟩
instance ABz:TF Tryz.prog 84 2 3:=⟨kD⟩
instance AD3:TA Tryz.prog 86:=⟨HK⟩
instance AFk:TZ Tryz.prog 86 8:=⟨Dh⟩
instance AB0:TF Tryz.prog 86 0 0:=⟨w8⟩
instance AB1:TF Tryz.prog 86 1 1:=⟨w9⟩
instance AB2:TF Tryz.prog 86 2 2:=⟨w_⟩
instance AB3:TF Tryz.prog 86 3 3:=⟨xA⟩
instance AB4:TF Tryz.prog 86 4 4:=⟨xB⟩
instance AGy:TV Tryz.prog 99 [.slice none 0 0]:=⟨z99,AEx⟩
instance AD4:T1 Tryz.prog 99:=⟨AAu⟩
instance AFl:TZ Tryz.prog 99 1:=⟨ql⟩
instance lB:TU Tryz.prog 99 (.slice 51):=⟨Tryz.underlying99⟩
instance AD5:TB Tryz.prog 104 (fun i=>(#[(0,1),(1,1)]:Array (Nat×Nat))[i]?) [.slice none 0 0,.int .i64 0]:=⟨AAv,AAw⟩
instance zR:TF Tryz.prog 104 0 0:=⟨qm⟩
instance zS:TF Tryz.prog 104 1 1:=⟨qn⟩
instance AB5:T1 Tryz.prog 105:=⟨xC⟩
instance iV:TU Tryz.prog 105 (.slice 270):=⟨Tryz.underlying105⟩
instance AD6:TB Tryz.prog 107 (fun i=>(#[(0,1)]:Array (Nat×Nat))[i]?) [.slice none 0 0]:=⟨JF,EZ⟩
instance AB6:TA Tryz.prog 107:=⟨CM⟩
instance AD7:TZ Tryz.prog 107 1:=⟨Bm⟩
instance zT:TF Tryz.prog 107 0 0:=⟨bV⟩
instance AB7:T1 Tryz.prog 111:=⟨Yh⟩
instance AB8:TA Tryz.prog 114:=⟨NZ⟩
instance AD8:TZ Tryz.prog 114 2:=⟨S2⟩
instance zU:TF Tryz.prog 114 0 0:=⟨Uf⟩
instance AB9:TA Tryz.prog 116:=⟨Qe⟩
instance AD9:TZ Tryz.prog 116 2:=⟨WO⟩
instance AB_:T1 Tryz.prog 127:=⟨xD⟩
instance AD_:TZ Tryz.prog 127 1:=⟨vC⟩
instance iW:TU Tryz.prog 127 (.slice 9):=⟨Tryz.underlying127⟩
instance iX:TU Tryz.prog 128 (.slice 22):=⟨Tryz.underlying128⟩
instance ACA:TA Tryz.prog 132:=⟨Qf⟩
instance AEA:TZ Tryz.prog 132 2:=⟨Et⟩
instance zV:TF Tryz.prog 132 0 0:=⟨qo⟩
instance zW:TF Tryz.prog 132 1 1:=⟨qp⟩
instance ACB:T1 Tryz.prog 133:=⟨xE⟩
instance iY:TU Tryz.prog 133 (.slice 198):=⟨Tryz.underlying133⟩
instance AEB:TB Tryz.prog 135 (fun i=>(#[(0,1),(1,1),(2,1),(3,1),(4,1)]:Array (Nat×Nat))[i]?) [.string (ByteArray.mk #[]),.int .i64 0,.int .i64 0,.slice none 0 0,.int .i64 0]:=⟨AA2,WR⟩
instance AFm:TV Tryz.prog 135 [.string (ByteArray.mk #[]),.int .i64 0,.int .i64 0,.slice none 0 0,.int .i64 0]:=⟨Uh,WR⟩
instance ACC:TA Tryz.prog 135:=⟨Ug⟩
instance AEC:TZ Tryz.prog 135 5:=⟨HM⟩
instance zX:TF Tryz.prog 135 0 0:=⟨qq⟩
instance zY:TF Tryz.prog 135 1 1:=⟨qt⟩
instance zZ:TF Tryz.prog 135 2 2:=⟨qu⟩
instance za:TF Tryz.prog 135 3 3:=⟨Ui⟩
instance zb:TF Tryz.prog 135 4 4:=⟨qv⟩
instance AED:TB Tryz.prog 139 (fun i=>(#[(0,1),(1,1)]:Array (Nat×Nat))[i]?) (List.replicate 2 (.int .i64 0)):=⟨AA3,AA4⟩
instance ze:TF Tryz.prog 139 0 0:=⟨qw⟩
instance zf:TF Tryz.prog 139 1 1:=⟨qx⟩
instance AFn:TV Tryz.prog 141 [.int .i64 0,.int .i64 0,.slice none 0 0]:=⟨z141,Qh⟩
instance AEE:TZ Tryz.prog 141 3:=⟨Hy⟩
instance zg:TF Tryz.prog 141 0 0:=⟨qy⟩
instance zh:TF Tryz.prog 141 1 2:=⟨qz⟩
instance iZ:TU Tryz.prog 143 (.slice 81):=⟨Tryz.underlying143⟩
instance ACD:T1 Tryz.prog 160:=⟨xF⟩
instance ACE:T1 Tryz.prog 181:=⟨F1⟩
instance ACF:TA Tryz.prog 187:=⟨xH⟩
instance AEF:TZ Tryz.prog 187 2:=⟨kH⟩
instance zi:TF Tryz.prog 187 0 0:=⟨q_⟩
instance zj:TF Tryz.prog 187 1 1:=⟨rA⟩
instance AFo:TV Tryz.prog 189 [.int .i64 0,.string (ByteArray.mk #[]),.string (ByteArray.mk #[]),.int .i64 0,.int .i64 0,.int .i64 0,.int .i64 0,.int .i64 0,.int .i64 0,.int .i64 0,.bool false,.int .i64 0,.slice none 0 0,.int .i64 0,.int .i64 0]:=⟨Uj,OD⟩
instance ACG:TA Tryz.prog 189:=⟨Gz⟩
instance AEG:TZ Tryz.prog 189 15:=⟨Di⟩
instance zk:TF Tryz.prog 189 0 0:=⟨rB⟩
instance zl:TF Tryz.prog 189 1 1:=⟨rC⟩
instance xT:TF Tryz.prog 189 10 12:=⟨WS⟩
instance xU:TF Tryz.prog 189 11 13:=⟨Qi⟩
instance zm:TF Tryz.prog 189 2 2:=⟨rD⟩
instance zn:TF Tryz.prog 189 3 3:=⟨rE⟩
instance zo:TF Tryz.prog 189 4 5:=⟨rF⟩
instance zq:TF Tryz.prog 189 5 6:=⟨rG⟩
instance zu:TF Tryz.prog 189 6 8:=⟨rH⟩
instance zv:TF Tryz.prog 189 7 9:=⟨rI⟩
instance zw:TF Tryz.prog 189 8 10:=⟨rJ⟩
instance zx:TF Tryz.prog 189 9 11:=⟨rK⟩
instance AEH:TB Tryz.prog 198 (fun i=>(#[(0,2),(2,1)]:Array (Nat×Nat))[i]?) (List.replicate 3 (.int .i64 0)):=⟨ABA,vL⟩
instance AFp:TV Tryz.prog 198 (List.replicate 3 (.int .i64 0)):=⟨z198,vL⟩
instance AEI:TZ Tryz.prog 198 3:=⟨Jo⟩
instance zy:TF Tryz.prog 198 0 0:=⟨rL⟩
instance zz:TF Tryz.prog 198 1 2:=⟨rM⟩
instance ACH:T1 Tryz.prog 232:=⟨Jp⟩
instance ia:TU Tryz.prog 232 (.slice 181):=⟨Tryz.underlying232⟩
instance z7:TF Tryz.prog 234 0 0:=⟨rN⟩
instance z8:TF Tryz.prog 234 1 1:=⟨Ig⟩
instance ACI:T1 Tryz.prog 241:=⟨kI⟩
instance ig:TU Tryz.prog 241 (.slice 5):=⟨Tryz.underlying241⟩
instance AEJ:TB Tryz.prog 247 (fun i=>(#[(0,1),(1,1),(2,2),(4,2),(6,2),(8,2),(10,1),(11,1)]:Array (Nat×Nat))[i]?) [.int .i64 0,.string (ByteArray.mk #[]),.int .i64 0,.int .i64 0,.int .i64 0,.int .i64 0,.int .i64 0,.int .i64 0,.int .i64 0,.int .i64 0,.int .i64 0,.int .i64 0]:=⟨WT,Hz⟩
instance ACJ:TA Tryz.prog 247:=⟨Ih⟩
instance AEK:TZ Tryz.prog 247 12:=⟨Fo⟩
instance z_:TF Tryz.prog 247 2 2:=⟨rP⟩
instance AAA:TF Tryz.prog 247 3 4:=⟨rQ⟩
instance AAB:TF Tryz.prog 247 4 6:=⟨rR⟩
instance AAC:TF Tryz.prog 247 5 8:=⟨rS⟩
instance AAD:TF Tryz.prog 247 6 10:=⟨rT⟩
instance AAE:TF Tryz.prog 247 7 11:=⟨rU⟩
instance AEL:TB Tryz.prog 268 (fun i=>(#[(0,1),(1,1)]:Array (Nat×Nat))[i]?) (List.replicate 2 (.int .i64 0)):=⟨S3,Fe⟩
instance AFq:TV Tryz.prog 268 (List.replicate 2 (.int .i64 0)):=⟨JS,Fe⟩
instance ACK:TA Tryz.prog 268:=⟨Ct⟩
instance AEM:TZ Tryz.prog 268 2:=⟨CB⟩
instance AAF:TF Tryz.prog 268 1 1:=⟨rV⟩
instance AEN:TB Tryz.prog 270 (fun i=>(#[(0,1),(1,1),(2,2)]:Array (Nat×Nat))[i]?) [.int .i64 0,.slice none 0 0,.int .i64 0,.int .i64 0]:=⟨bY,Qj⟩
instance AFr:TV Tryz.prog 270 [.int .i64 0,.slice none 0 0,.int .i64 0,.int .i64 0]:=⟨rW,Qj⟩
instance AEO:TZ Tryz.prog 270 4:=⟨Fp⟩
instance ij:TU Tryz.prog 274 (.slice 99):=⟨Tryz.underlying274⟩
instance ACL:T1 Tryz.prog 283:=⟨Uk⟩
instance AEP:TB Tryz.prog 285 (fun i=>(#[(0,1),(1,1),(2,1),(3,1)]:Array (Nat×Nat))[i]?) [.int .i64 0,.slice none 0 0,.bool false,.slice none 0 0]:=⟨kJ,K_⟩
instance ACN:TA Tryz.prog 285:=⟨DL⟩
instance AEQ:TZ Tryz.prog 285 4:=⟨Cc⟩
instance AAG:TF Tryz.prog 285 0 0:=⟨rX⟩
instance AAH:TF Tryz.prog 285 1 1:=⟨Ul⟩
instance AAI:TF Tryz.prog 285 2 2:=⟨rY⟩
instance AAJ:TF Tryz.prog 285 3 3:=⟨MU⟩
instance AER:TB Tryz.prog 290 (fun i=>(#[(0,1),(1,1)]:Array (Nat×Nat))[i]?) [.string (ByteArray.mk #[]),.int .i64 0]:=⟨ABG,vO⟩
instance AFs:TV Tryz.prog 290 [.string (ByteArray.mk #[]),.int .i64 0]:=⟨AEz,vO⟩
instance AES:TZ Tryz.prog 290 2:=⟨vN⟩
instance AAK:TF Tryz.prog 290 1 1:=⟨rZ⟩
instance iq:TU Tryz.prog 291 (.slice 290):=⟨Tryz.underlying291⟩
instance ir:TU Tryz.prog 331 (.slice 268):=⟨Tryz.underlying331⟩
end Go.Proofs.YtmocaapoeefgkaaGreatDoor
namespace Go.Proofs.YtmocaapoeefgkaaGreatDoor
open Go Go.RowKit Cp Go.Proofs.Tryz
abbrev ints (l:List Int):Pr:=slice 1 (l.map fun n=>[int n])
def idx {β:Type} (p:β→Bool) (l:List β):Int:=match l.findIdx? p with|some i=>i|none=> -1
theorem EP {β:Type} {p:β→Bool} {l:List β} {k:Nat} {x:β} (hx:l[k]? =some x) (hp:p x=true) (h:∀j y,j<k→l[j]? =some y→p y=false):(k:Int)=idx p l:=by
 have:l.findIdx? p=some k:=by
  rw [List.findIdx?_eq_some_iff_getElem]
  have hk:k<l.length:=by rcases Nat.lt_or_ge k l.length with h|h;exact h;rw [List.getElem?_eq_none h] at hx;cases hx
  rw [List.getElem?_eq_getElem hk] at hx
  simp only [Option.some.injEq] at hx
  refine ⟨hk,by rw [hx];exact hp,fun j hj=> ?_⟩
  simpa using h j _ hj (List.getElem?_eq_getElem AA)
 unfold idx;rw [this]
theorem E5 {β:Type} {p:β→Bool} {l:List β} (h:∀j y,j<l.length→l[j]? =some y→p y=false):(-1:Int)=idx p l:=by
 have:l.findIdx? p=none:=by
  rw [List.findIdx?_eq_none_iff]
  intro x hx
  obtain ⟨j,hj,rfl⟩:=List.mem_iff_getElem.1 hx
  exact h j _ hj (List.getElem?_eq_getElem hj)
 unfold idx;rw [this]
theorem PJ {β:Type} (p:β→Bool) (l:List β):decide (idx p l≥0)=l.any p:=by
 unfold idx
 cases h:l.findIdx? p with
 |none=>rw [List.findIdx?_eq_none_iff] at h;simp;intro x hx;simpa using h x hx
 |some i=>
  rw [List.findIdx?_eq_some_iff_getElem] at h
  obtain ⟨h1,h2,_⟩:=h
  simp
  exact ⟨_,List.getElem_mem h1,h2⟩
theorem DP {β:Type} {p:β→Bool} {l:List β} {k:Nat} {x:β} (hx:l[k]? =some x) (hp:p x=false) (h:∀j y,j<k→l[j]? =some y→p y=false):∀j y,j<k+1→l[j]? =some y→p y=false:=by
 intro j y hj hy
 by_cases hjk:j=k
 · subst hjk;rw [hx] at hy;cases hy;exact hp
 · exact h j y AA hy
theorem Uv {l:List Int} {p:Int→Bool}  :BD prog 145 [ints l,eK prog (fun x:Int=>[int x]) (fun x=>bool (p x))] (int (idx p l)):=by
 refine fo func145 rfl ⟨rfl,rfl⟩ fun M0 w0=>(Tr.C6 0 rfl fun Eu=> ?_)
 refine a2 ?_
 refine Tr.block (Tr.BA _ (kk [7,1,0] rfl) (fun k:Nat=>[(8,int ((k:Nat):Int))]) (fun k:Nat=>k≤(l).length∧(∀j y,j<k→l[j]? =some y→p y=false)) (fun k:Nat=>(l).length-k) 0 (⟨Nat.zero_le _,fun j y hj=>absurd hj AA⟩) kz ?_)
 rintro k ⟨BV,AY⟩
 refine ac ?_
 refine Tr.seq ?_
 refine Tr.cn rfl ?_ ?_<;>intro h1 q1
 have Ah:k<(l).length:=AH h1
 obtain ⟨x,Ai⟩:=at_ Ah
 · repeat' first|exact int_eq (EP Ai Bg AY)|exact Fin.AL (k+1) ⟨⟨Ah,DP Ai Bg AY⟩,by omega⟩ ⟨⟨_,rfl,AG k⟩,kz⟩|refine co rfl (AD rfl underlying22 Bt vq vq AA CF) ?_|refine co rfl (GU rfl Cj rfl) (co rfl (ME x rfl vq kz) ?_)|refine ac ?_|(refine Tr.cn rfl ?_ ?_<;>intro h q)
 have BP:k=(l).length:=by have:=AJ h1;omega
 subst BP
 refine a3 ?_
 · exact int_eq (E5 AY)
theorem JH {l:List Int} {p:Int→Bool}  :BD prog 84 [ints l,eK prog (fun x:Int=>[int x]) (fun x=>bool (p x))] (bool (l.any p)):=by
 refine fo func84 rfl ⟨rfl,rfl⟩ fun M0 w0=> ?_
 refine a2 ?_
 refine co rfl (CK (Uv) rfl rfl rfl) ?_
 refine a2 ?_
 · exact bool_eq (PJ p l)
end Go.Proofs.YtmocaapoeefgkaaGreatDoor
namespace Go.Proofs.YtmocaapoeefgkaaGreatDoor
open Go Go.RowKit Cp Go.ChangeShapes Go.WideShapes Go.ChangeAt Go.Proofs.Tryz
theorem AFt:ownKnob Tryz.prog.godebug=none:=by kernel_rfl
theorem lC:laidOutB Tryz.prog=true:=by kernel_rfl
theorem u8_in {n:Int} (h:(Lit.int .u8 n).wf=true):0≤n∧n<256:=by
 simp only [Lit.wf,Bool.and_eq_true,decide_eq_true_eq] at h
 have h1:IntKind.u8.min=0:=rfl
 have h2:IntKind.u8.max=255:=rfl
 omega
theorem i64_in {n:Int} (h:(Lit.int .i64 n).wf=true):Oe n:=by
 simp only [Lit.wf,Bool.and_eq_true,decide_eq_true_eq] at h
 have h1:IntKind.i64.min= -9223372036854775808:=rfl
 have h2:IntKind.i64.max=9223372036854775807:=rfl
 unfold Oe;omega
theorem Yp {P:Program} {t e:TypeId} (ht:P.underlying t=some (.slice e)) (he:P.underlying e=some (.int .i64)) (hc:P.cellsOf e=1):MP P t (fun l:List Int=>l.length≤maxLen∧∀n∈l,Oe n) (fun l=>[ints l]):=
 (WG ht hc (Sx he)).map id (fun _ h=>⟨h.2,fun n hn=>i64_in (h.1 n hn)⟩) (fun _=>rfl)
end Go.Proofs.YtmocaapoeefgkaaGreatDoor
namespace Go.Proofs.YtmocaapoeefgkaaGreatDoor
open Go Go.RowKit Cp Go.Proofs.Tryz
abbrev DU (b:Nat) (s:DS):At:=WI 104 b s
theorem sD (n:Int) {k:Int} (hk:1≤k):(n.tmod k+k).tmod k=n % k:=by
 have h1: -k<n.tmod k:=by have:=Int.lt_tmod_of_pos n (b:=k) AA;omega
 rw [Int.tmod_eq_emod_of_nonneg AA,Int.tmod_def,show n-k*n.tdiv k+k=n+k*(1-n.tdiv k) by rw [Int.mul_sub];omega,Int.add_mul_emod_self_left]
theorem xV (n:Int) {k:Int} (hk:1≤k): -k<n.tmod k∧n.tmod k<k:=by
 have h1:=Int.lt_tmod_of_pos n (b:=k) AA
 have h2:=Int.tmod_lt_of_pos n (b:=k) AA
 omega
theorem sE {l:List Int}  :BD prog 10 [ints l] (bool (decide (l.length≤400))):=by
 refine fo func10 rfl ⟨rfl,rfl⟩ fun M0 w0=> ?_
 refine a3 ?_
 · exact O6
theorem ACO {n k:Int} (hk:1≤k) (hk2:k≤1000000000):BD prog 68 [int n,int k] (int (n % k)):=by
 refine fo func68 rfl ⟨rfl,rfl⟩ fun M0 w0=> ?_
 have hm:=xV n hk
 have hp:=sD n hk
 · repeat' first|(exfalso;omega)|(refine int_eq ?_;exact hp)|refine co rfl (QL rfl vq vq AA) ?_|refine ac ?_|(refine Tr.cn rfl ?_ ?_<;>intro h q)
theorem CY {b:Nat} {s:DS} {n:Int} (hn:1≤n) (hn2:n≤1000000000):BZ prog 16 [ptr b 0,int n] (int (s.val n)) (DU b s) (fun _=>DU b s.Cb):=by
 refine BZ.of func16 rfl rfl Ao fun M0 w0 S rs M1 w1=> ?_
 have hs:=s.h
 have Uw:=s.h2
 refine ac ?_
 refine an ?_ ?_<;>intro h1 q1
 refine ac ?_
 refine Tr.ret (Fin.AE ?_)
 rw [DS.qh (s:=s) AA]
 refine Fin.GN [] rfl (AO.tmp rfl Lr) ?_ (fun _ _ _ _=>rfl)
 · refine int_eq ?_;exact (DS.qg AA n).symm
 have hlt:s.at_<s.l.length:=by omega
 obtain ⟨x,hx⟩:=at_ hlt
 refine ac ?_
 refine ap ?_
 refine wk [1,0] rfl ?_
 refine ac ?_
 refine co rfl (AD rfl underlying22 Bt vq vq AA (by rw [show ((s.at_:Nat):Int)+1-1=((s.at_:Nat):Int) by omega];exact Aa hx)) ?_
 refine ac ?_
 refine co rfl (CK (ACO AA AA) rfl rfl rfl) ?_
 refine ac ?_
 refine wk [4] rfl (Tr.ret ?_)
 rw [DS.wT hlt]
 refine Fin.GN [] rfl (AO.tmp rfl Lr) ?_ (fun _ _ _ _=>rfl)
 · refine int_eq ?_;exact (DS.wS hx n).symm
theorem Wi {b:Nat} {s:DS} {l:List Int} (hl:l≠[]) (hl2:l.length≤1000000000):BZ prog 34 [ptr b 0,ints l] (int (s.of l)) (DU b s) (fun _=>DU b s.Cb):=by
 refine BZ.of func34 rfl rfl Ao fun M0 w0 S rs M1 w1=> ?_
 have hl0:1≤(l.length:Int):=by have:=List.length_pos_iff.2 hl;omega
 have hv:=s.DB hl0
 obtain ⟨x,hx⟩:=at_ (l:=l) (k:=(s.val l.length).toNat) AA
 refine ac ?_
 refine ap ?_
 refine TO.HJ 0 rfl rfl AB (An rfl rfl AB rfl (CY AA AA) ⟨kq,kz⟩) (tp rfl (AD rfl underlying22 Bt vq vq AA (Bc hx)) ?_)
 refine ap ?_
 refine Tr.ret (Fin.GN [] rfl (AO.tmp rfl Lr) ?_ (fun _ _ _ _=>rfl))
 · refine int_eq ?_;unfold DS.of;rw [hx];rfl
theorem lD {b:Nat} {s:DS} {n:Int} (hn:1≤n) (hn2:n≤1000000000):BZ prog 39 [ptr b 0,int n] (bool (s.val n==n-1)) (DU b s) (fun _=>DU b s.Cb):=by
 refine BZ.of func39 rfl rfl Ao fun M0 w0 S rs M1 w1=> ?_
 refine ac ?_
 refine ap ?_
 refine TO.HJ 0 rfl rfl AB (An rfl rfl AB rfl (CY AA AA) ⟨kq,kz⟩) ?_
 refine ap ?_
 refine Tr.ret (Fin.GN [] rfl (AO.tmp rfl Lr) ?_ (fun _ _ _ _=>rfl))
 · exact Lr
def sF (l:List Int) (hl:l.length≤1000000000) (v:Value):At:=match v with| .pointer (some a)=>WI 104 a.block ⟨l,0,Nat.zero_le _,hl⟩|_=>Bp
theorem xW {l:List Int} (hl:l.length≤1000000000):BZ prog 12 [ints l] (ex fun b=>ptr b 0) (Bp) (sF l hl):=by
 refine BZ.of func12 rfl rfl Ao fun M0 w0 S rs M1 w1=> ?_
 refine ac ?_
 refine ap ?_
 refine TO.V9 rfl rfl AB rfl C1 (fun b1=> ?_)
 refine ap ?_
 refine Tr.ret (Fin.drop 1 ?_)
 refine Fin.GN [] rfl (AO.tmp rfl Lr) ?_ (by rintro _ _ _ rfl;rfl)
 · exact Aw b1 Lr
-- no type cipherplan/api.Fact here
-- no type cipherplan/api.AET here
-- no type cipherplan/AGz.place here
theorem vW {d:Nat} {w:World} {x0 y0:Int} {x1 y1:Int}:(Op.equalIn (d+2) 81 (.agg #[.int .i64 x0,.int .i64 x1]) (.agg #[.int .i64 y0,.int .i64 y1])).run Tryz.prog w= .ok (decide (x0=y0∧x1=y1)) w:=by
 have h:=eqS (w:=w) (d:=d+1) (xs:= #[.int .i64 x0,.int .i64 x1]) (ys:= #[.int .i64 y0,.int .i64 y1]) Tryz.underlying81 Be (E4 AB (CC Cj rfl) (CC Cj rfl) (GF (d:=d+0) Tryz.underlying3) (E4 AB (CC Cj rfl) (CC Cj rfl) (GF (d:=d+0) Tryz.underlying3) (MV)))
 refine h.trans (congrArg (fun b=>Result.ok b w) ?_)
 rw [Bool.eq_iff_iff];simp [and_assoc]
theorem sG {E:Env} {I:Cd} {o:Oper} {u:TypeId} {x y:Operand} {x0 y0:Int} {x1 y1:Int} (ho:o.op= .binOp .eql 81 x y u) (hx:VL E x (agg [is (.int .i64 x0),is (.int .i64 x1)])) (hy:VL E y (agg [is (.int .i64 y0),is (.int .i64 y1)])):Ae Tryz.prog I o E (bool (decide (x0=y0∧x1=y1))):=
 Qn [.int .i64 x0,.int .i64 x1] [.int .i64 y0,.int .i64 y1] ho hx hy Be (fun w=>by rw [show Op.equal 81 _ _=Op.equalIn (9998+2) 81 _ _ from rfl];exact vW)
theorem PK {E:Env} {I:Cd} {o:Oper} {u:TypeId} {x y:Operand} {x0 y0:Int} {x1 y1:Int} (ho:o.op= .binOp .neq 81 x y u) (hx:VL E x (agg [is (.int .i64 x0),is (.int .i64 x1)])) (hy:VL E y (agg [is (.int .i64 y0),is (.int .i64 y1)])):Ae Tryz.prog I o E (bool (!decide (x0=y0∧x1=y1))):=
 Qo [.int .i64 x0,.int .i64 x1] [.int .i64 y0,.int .i64 y1] ho hx hy Be (fun w=>by rw [show Op.equal 81 _ _=Op.equalIn (9998+2) 81 _ _ from rfl];exact vW)
def JU (a b:Int):Int:=if a<b then -1 else if b<a then 1 else 0
def orF (l:List Int):Int:=(l.find? fun x=>x !=0).getD 0
theorem sH {l:List Int} {k:Nat} {x:Int} (hx:l[k]? =some x) (h0:¬x=0) (h:∀j y,j<k→l[j]? =some y→(y !=0)=false):x=orF l:=by
 unfold orF
 have:l.find? (fun x=>x !=0)=some x:=by
  rw [List.find?_eq_some_iff_getElem]
  have hk:k<l.length:=by rcases Nat.lt_or_ge k l.length with h|h;exact h;rw [List.getElem?_eq_none h] at hx;cases hx
  rw [List.getElem?_eq_getElem hk] at hx
  simp only [Option.some.injEq] at hx
  refine ⟨by simpa using h0,k,hk,hx,fun j hj=> ?_⟩
  have:=h j _ hj (List.getElem?_eq_getElem AA)
  simpa using this
 rw [this];rfl
theorem lE {l:List Int} (h:∀j y,j<l.length→l[j]? =some y→(y !=0)=false):0=orF l:=by
 unfold orF
 have:l.find? (fun x=>x !=0)=none:=by
  rw [List.find?_eq_none]
  intro x hx
  obtain ⟨j,hj,rfl⟩:=List.mem_iff_getElem.1 hx
  have:=h j _ hj (List.getElem?_eq_getElem hj)
  simpa using this
 rw [this];rfl
def okc (c:UInt8):Bool:=decide (33≤c.toNat∧c.toNat≤126)
def named (s:List UInt8):Bool:=s.all okc&&decide (1≤s.length∧s.length≤32)
theorem Ux {β:Type} {p:β→Bool} {l:List β} {k:Nat} {x:β} (hx:l[k]? =some x) (hp:p x=false):l.all p=false:=by
 rw [Bool.eq_false_iff];intro h;rw [List.all_eq_true] at h;rw [h x (List.mem_of_getElem? hx)] at hp;cases hp
theorem Ma {β:Type} {p:β→Bool} {l:List β} (h:∀j y,j<l.length→l[j]? =some y→(!p y)=false):l.all p=true:=by
 rw [List.all_eq_true]
 intro y hy
 obtain ⟨j,hj⟩:=List.mem_iff_getElem?.1 hy
 have:=h j y aB hj
 simpa using this
theorem lF {n:Int}  :BD prog 166 [int n] (bool false):=by
 refine fo func166 rfl ⟨rfl,rfl⟩ fun M0 w0=> ?_
 refine a3 ?_
 · exact bool_eq AU
theorem Yq {a b:Int}  :BD prog 115 [int a,int b] (int (JU a b)):=by
 refine fo func115 rfl ⟨rfl,rfl⟩ fun M0 w0=> ?_
 · repeat' first|exact absurd h AB|(refine int_eq ?_;unfold JU;(repeat split)<;>omega)|refine co rfl (Cn (lF) rfl rfl) ?_|refine ac ?_|(refine Tr.cn rfl ?_ ?_<;>intro h q)
theorem ACP {l:List Int}  :BD prog 223 [ints l] (int (orF l)):=by
 refine fo func223 rfl ⟨rfl,rfl⟩ fun M0 w0=>(Tr.C6 0 rfl fun Eu=> ?_)
 refine a3 ?_
 refine Tr.block (Tr.BA _ (kk [7,6,3] rfl) (fun k:Nat=>[(8,int ((k:Nat):Int))]) (fun k:Nat=>k≤(l).length∧(∀j y,j<k→l[j]? =some y→(y !=0)=false)) (fun k:Nat=>(l).length-k) 0 (⟨Nat.zero_le _,fun j y hj=>absurd hj AA⟩) kz ?_)
 rintro k ⟨BV,AY⟩
 refine ac ?_
 refine Tr.seq ?_
 refine Tr.cn rfl ?_ ?_<;>intro h1 q1
 have Ah:k<(l).length:=AH h1
 obtain ⟨x,Ai⟩:=at_ Ah
 refine ac ?_
 refine Tr.seq (Tr.block (Tr.seq (Tr.Aj (co rfl (AD rfl underlying22 Bt vq vq AA CF) ?_))))
 · repeat' first|exact int_eq (sH Ai Bg AY)|exact Fin.AL (k+1) ⟨⟨Ah,DP (p:=fun y=>y !=0) Ai (by simpa using by assumption) AY⟩,by omega⟩ ⟨⟨_,rfl,AG k⟩,kz⟩|refine ac ?_|(refine Tr.cn rfl ?_ ?_<;>intro h q)
 have BP:k=(l).length:=by have:=AJ h1;omega
 subst BP
 refine a3 ?_
 · exact int_eq (lE AY)
theorem Gg {s:List UInt8}  :BD prog 196 [str s] (bool (named s)):=by
 refine fo func196 rfl ⟨rfl,rfl⟩ fun M0 w0=> ?_
 refine ac ?_
 refine ag ?_ ?_<;>intro h1 q1
 refine a3 ?_
 · exact aR
 refine an ?_ ?_<;>intro h2 q2
 refine a2 ?_
 · exact aR
 refine a2 ?_
 refine Tr.block (Tr.BA _ (kk [0] rfl) (fun k:Nat=>[(3,int ((k:Nat):Int))]) (fun k:Nat=>k≤(s).length∧(∀j y,j<k→s[j]? =some y→(!okc y)=false)) (fun k:Nat=>(s).length-k) 0 (⟨Nat.zero_le _,fun j y hj=>absurd hj AA⟩) kz ?_)
 rintro k ⟨BV,AY⟩
 refine an ?_ ?_<;>intro h3 q3
 have Ah:k<(s).length:=AH h3
 obtain ⟨c,Ai⟩:=at_ Ah
 · repeat' first|(refine bool_eq ?_;unfold named;rw [Ux (p:=okc) Ai (by simp [okc];omega)];rfl)|(exact Fin.AL (k+1) ⟨⟨Ah,DP (p:=fun c=> !okc c) Ai (by simp [okc];omega) AY⟩,by omega⟩ ⟨⟨_,rfl,AG k⟩,kz⟩)|refine co rfl (Um rfl underlying9 vq vq AA (Un Bg)) ?_|refine cy h rfl (Um rfl underlying9 vq vq AA (Un Bg)) ?_|refine ac ?_|(refine Tr.cn rfl ?_ ?_<;>intro h q)|(refine Ch.cg rfl rfl rfl ?_ ?_<;>intro h q)
 have BP:k=(s).length:=by have:=AJ h3;omega
 subst BP
 refine a3 ?_
 · refine bool_eq ?_;unfold named;rw [Ma AY,Bool.true_and];symm;rw [decide_eq_true_eq];omega
structure Yr where
 name:List UInt8
 kind:Int
 way:Int
 sizes:List Int
 S9:List Int
def H6:List Yr:=[⟨[],0,0,[],[]⟩,⟨[109,100,53],1,0,[],[18]⟩,⟨[115,104,97,49],1,0,[],[60]⟩,⟨[115,104,97,50,53,54],1,0,[],[128]⟩,⟨[115,104,97,51,56,52],1,0,[],[192]⟩,⟨[114,115,97],2,1,[],[]⟩,⟨[100,115,97],2,1,[],[]⟩,⟨[101,99,100,115,97],2,2,[],[]⟩,⟨[101,100,50,53,53,49,57],2,0,[],[128]⟩,⟨[109,108,100,115,97],2,3,[44,65,87],[128,192,256]⟩,⟨[114,115,97,107,120],3,1,[],[]⟩,⟨[100,104,101],3,1,[],[]⟩,⟨[101,99,100,104,101],3,2,[],[]⟩,⟨[109,108,107,101,109],3,3,[512,768,1024],[128,192,256]⟩,⟨[114,99,52],4,3,[40,128],[40,60]⟩,⟨[100,101,115,51],4,3,[112,168],[80,112]⟩,⟨[97,101,115,99,98,99],4,3,[128,256],[128,256]⟩,⟨[97,101,115,103,99,109],4,3,[128,256],[128,256]⟩,⟨[99,104,97,99,104,97],4,0,[],[256]⟩,⟨[104,109,97,99,109,100,53],5,0,[],[64]⟩,⟨[104,109,97,99,115,104,97,49],5,0,[],[80]⟩,⟨[104,109,97,99,115,104,97,50,53,54],5,0,[],[128]⟩,⟨[97,101,97,100],5,0,[],[256]⟩]
def bg:Yr:=⟨[],0,0,[],[]⟩
def Ek (CA:Int):Yr:=if 1≤CA∧CA≤22 then (H6[CA.toNat]?).getD bg else bg
theorem OK {CA:Int} (h:1≤CA∧CA≤22):H6[CA.toNat]? =some (Ek CA):=by
 have hl:CA.toNat<H6.length:=by show CA.toNat<23;omega
 unfold Ek;rw [if_pos h,List.getElem?_eq_getElem hl];rfl
theorem e7 {CA:Int} (h:1≤CA∧CA≤22):Ek CA∈H6:=List.mem_of_getElem? (OK h)
def mods:List (Int×Int):=[(1024,56),(2048,80),(3072,112),(7680,128),(15360,192)]
def ACQ:List (Int×Int)→Int→Int
 |[],_=>256
 |p::l,b=>if b<p.1 then p.2 else ACQ l b
def xX (b:Int):Int:=ACQ mods b
def aA:List Int:=[160,224,256,384,521]
def Dj (CA bits:Int):Int:=
 if 1 ≤ CA ∧ CA ≤ 22 then
  if (Ek CA).way=0 then (if bits=0 then ((Ek CA).S9[0]?).getD 0 else 0)
  else if (Ek CA).way=1 then (if 512≤bits∧bits≤16384 then xX bits else 0)
  else if (Ek CA).way=2 then (if (aA.any fun x=>bits==x)=true then bits.tdiv 2 else 0)
  else if (Ek CA).way=3 then (if 0≤idx (fun x=>bits==x) (Ek CA).sizes then ((Ek CA).S9[(idx (fun x=>bits==x) (Ek CA).sizes).toNat]?).getD 0 else 0)
  else 0
 else 0
structure ID where
 Js:Int
 Nd:List UInt8
 KZ:List UInt8
 SI:Int
 LA:Int
 CS:Int
 Ys:Int
 Q0:Int
 from_:Int
 Nf:Int
 auth:Bool
 path:Int
 names:List (List UInt8)
 sI:Int
 sJ:Int
abbrev sK (l:List (List UInt8)):Pr:=slice 1 (l.map fun t=>[str t])
abbrev EL (c:ID):List Pr:=[int c.Js,str c.Nd,str c.KZ,int c.SI,int c.LA,int c.CS,int c.Ys,int c.Q0,int c.from_,int c.Nf,bool c.auth,int c.path,sK c.names,int c.sI,int c.sJ]
abbrev OL (l:List ID):Pr:=slice 15 (l.map EL)
structure ID.fits (c:ID):Prop where
 Nd:c.Nd.length≤maxLen
 KZ:c.KZ.length≤maxLen
 names:∀s∈c.names,s.length≤maxLen
def Hq (n:Int):Bool:=decide (0≤n)&&decide (n≤2147483648)
def xY (n:Int):Bool:=decide (0≤n)&&decide (n<4294967296)
def Kc (o:List UInt8) (c:UInt8):Bool:=decide (97≤c.toNat∧c.toNat≤122)||decide (65≤c.toNat∧c.toNat≤90)||decide (48≤c.toNat∧c.toNat≤57)||decide (0≤Lib.indexByte o c)
def QF (s:List UInt8):Bool:=s.all (Kc [45,95,46])&&decide (1≤s.length∧s.length≤32)
def nameAt (l:List (List UInt8)) (i:Nat):Bool:=named (l[i]?.getD [])&&(decide (i=0)||decide (Lib.compareBytes (l[i-1]?.getD []) (l[i]?.getD [])= -1))
def G0 (l:List (List UInt8)):Bool:=allI (nameAt l) l.length&&decide (l.length≤8)
def K7 (CA bits kind:Int):Bool:=decide (Dj CA bits>0)&&(Ek CA).kind==kind
def D6 (c:ID):Bool:=
 (decide (0≤c.Js)&&decide (c.Js≤1099511627776)&&named c.Nd&&named c.KZ&&G0 c.names)&&
 (K7 c.SI c.LA 2&&Hq c.CS&&K7 c.Ys c.Q0 1&&Hq c.sI&&xY c.sJ)&&
 (decide (0≤c.from_)&&decide (c.from_≤c.Nf)&&decide (c.Nf≤40000))&&(decide (0≤c.path)&&decide (c.path≤8)&&(c.auth||c.path==0))
def Uy (CA bits id:Int) (l:List ID):Bool:=K7 CA bits 2&&Hq id&&decide (l.length≤8)&&l.all D6&&match l with|[]=>true|c::_=>decide (c.SI=CA∧c.LA=bits)&&c.CS==id
structure JV where
 CA:Int
 bits:Int
 CS:Int
 chain:List ID
abbrev G1 (x:JV):List Pr:=[int x.CA,int x.bits,int x.CS,OL x.chain]
abbrev AFu (l:List JV):Pr:=slice 4 (l.map G1)
def JV.fits (x:JV):Prop:=∀c∈x.chain,c.fits
structure B_ where
 name:List UInt8
 least:Int
 most:Int
 Az:List Int
 own:Bool
 ids:List JV
 anchors:List Int
 hashes:List Int
 Mb:Bool
abbrev Bk (e:B_):List Pr:=[str e.name,int e.least,int e.most,ints e.Az,bool e.own,AFu e.ids,ints e.anchors,ints e.hashes,bool e.Mb]
structure B_.fits (e:B_):Prop where
 name:e.name.length≤maxLen
 ids:∀x∈e.ids,x.fits
def H7 (l:List Int) (i:Nat):Bool:=decide (i=0)||decide (l[i-1]?.getD 0<l[i]?.getD 0)
def e_ (l:List Int):Bool:=allI (H7 l) l.length
def GH (l:List Int) (i:Nat):Bool:=decide (1≤l[i]?.getD 0∧l[i]?.getD 0≤16)&& !((l.take i).any fun x=>l[i]?.getD 0==x)
def Ke (l:List Int):Bool:=allI (GH l) l.length
def Q1 (n:Int):Bool:=(Ek n).kind==1
def idB (x:JV):Bool:=Uy x.CA x.bits x.CS x.chain
def GO (e:B_):Bool:=
 (QF e.name&&decide (1≤e.least)&&decide (e.least≤e.most)&&decide (e.most≤4)&&Ke e.Az)&&
 (decide (e.ids.length≤4)&&decide (e.anchors.length≤16)&&e_ e.anchors&&e_ e.hashes)&&e.ids.all idB&&e.anchors.all Hq&&e.hashes.all Q1
theorem getD_at {β:Type} {l:List β} {k:Nat} {x d:β} (h:l[k]? =some x):l[k]?.getD d=x:=by rw [h];rfl
abbrev DN:List Pr:=[any,any,any,any,any,any,any,any,any,any,any,any]
abbrev Mc:List (List Pr):=[DN,DN,DN,DN,DN,DN,DN,DN,DN,DN,DN,DN,DN,DN,DN,DN]
theorem lG {k:Nat} (hk:k<16):Mc[k]? =some DN:=by
 have hk':k<Mc.length:=hk
 rw [List.getElem?_eq_getElem hk']
 have:∀r∈Mc,r=DN:=by intro r hr;simp at hr;exact hr
 rw [this _ (List.getElem_mem hk')]
theorem fA {i:Nat} {p:Pr} (h:DN[i]? =some p):p=any:=by have:=List.mem_of_getElem? h;simp at this;exact this
theorem Uz {ps:List Pr} (h:ps.length=12):Pr.le (agg ps) (agg DN):=fun M w v ⟨cs,h1,h2,h3⟩=>⟨cs,h1,h2,HL.u5 (by rw [h3.length,h];rfl) fun i p v hp _=>by rw [fA hp];trivial⟩
def lH (CA bits id:Int) (l:List ID):Bool:=match l with|[]=>true|c::_=>decide (c.SI=CA∧c.LA=bits)&&c.CS==id
theorem fB {CA bits id:Int} {l:List ID} (h:l.length=0):lH CA bits id l=true:=by rw [List.eq_nil_of_length_eq_zero h];rfl
theorem Wj {CA bits id:Int} {l:List ID} {c:ID} (h:l[0]? =some c):lH CA bits id l=(decide (c.SI=CA∧c.LA=bits)&&c.CS==id):=by
 cases l with
 |nil=>simp at h
 |cons a l=>simp at h;subst h;rfl
theorem Gh (CA bits id:Int) (l:List ID):Uy CA bits id l=(K7 CA bits 2&&Hq id&&decide (l.length≤8)&&l.all D6&&lH CA bits id l):=rfl
theorem Md {β γ:Type} {f:β→γ} {l:List β} (h:l≠[]):0<(l.map f).length:=by rw [List.length_map];exact List.length_pos_iff.2 h
theorem fC {l:List (Int)} (h0:l≠[]) (hl:l.length≤1000000):BZ prog 131 [slice 1 (l.map (fun n:Int=>[int n]))] (lens (l.map (fun n:Int=>[int n])).length) (Bp) (fun v=>D4 3 1 (l.map (fun n:Int=>[int n])) v):=by
 refine BZ.of func131 rfl rfl Ao fun M0 w0 S rs M1 w1=> ?_
 have hpos:=Md (f:=(fun n:Int=>[int n])) h0
 refine a2 ?_
 refine co rfl (Fa rfl underlying22 vq) ?_
 refine ac ?_
 refine Tr.ex 4 rfl (fun z1=>Tr.fact 4 rfl fun Eg=> ?_)
 refine Tr.cn rfl ?_ ?_<;>intro h1 q1
 exfalso;have:=Eg h1;simp_all
 refine ac ?_
 refine ap ?_
 refine TO.pad ?_
 refine TO.DQ 0 rfl rfl AB (Ij rfl rfl AB rfl underlying22 Bt He z3 rfl AB AB vq vq hpos NK EE) (fun v1=> ?_)
 refine ap ?_
 refine Tr.ret (Fin.drop 1 ?_)
 refine Fin.EB rfl rfl ?_ O5
 · exact IP
theorem fD   :BD prog 131 [slice 1 []] (full 1 []):=by
 refine fo func131 rfl ⟨rfl,rfl⟩ fun M0 w0=> ?_
 refine a2 ?_
 refine co rfl (Fa rfl underlying22 vq) ?_
 refine ac ?_
 refine Tr.ex 4 rfl (fun z1=>Tr.fact 4 rfl fun Eg=> ?_)
 · repeat' first|exact C8 1|exact Lr|refine co rfl (MZ rfl underlying22 Bt vq vq) ?_|refine ac ?_|(refine Tr.cn rfl ?_ ?_<;>intro h q)
theorem fE {l:List (Int)} (hl:l.length≤1000000):BZ Tryz.prog 131 [slice 1 (l.map (fun n:Int=>[int n]))] (lens l.length) Bp (fun v=>Bx 3 1 (l.map (fun n:Int=>[int n])) v):=by
 by_cases h0:l=[]
 · subst h0;exact BZ.Wd fD
 ·
  have:=BZ.Qy (by intro h;exact h0 Dn) (fC h0 hl)
  rwa [List.length_map] at this
theorem fF {l:List (ID)} (h0:l≠[]) (hl:l.length≤925904528640):BZ prog 241 [slice 15 (l.map EL)] (lens (l.map EL).length) (Bp) (fun v=>D4 189 15 (l.map EL) v):=by
 refine BZ.of func241 rfl rfl Ao fun M0 w0 S rs M1 w1=> ?_
 have hpos:=Md (f:=EL) h0
 refine a2 ?_
 refine co rfl (Fa rfl underlying82 vq) ?_
 refine ac ?_
 refine Tr.ex 4 rfl (fun z1=>Tr.fact 4 rfl fun Eg=> ?_)
 refine Tr.cn rfl ?_ ?_<;>intro h1 q1
 exfalso;have:=Eg h1;simp_all
 refine ac ?_
 refine ap ?_
 refine TO.pad ?_
 refine TO.DQ 0 rfl rfl AB (Ij rfl rfl AB rfl underlying82 Di vJ Uj rfl AB AB vq vq hpos NK EE) (fun v1=> ?_)
 refine ap ?_
 refine Tr.ret (Fin.drop 1 ?_)
 refine Fin.EB rfl rfl ?_ O5
 · exact IP
theorem fG   :BD prog 241 [slice 15 []] (full 15 []):=by
 refine fo func241 rfl ⟨rfl,rfl⟩ fun M0 w0=> ?_
 refine a2 ?_
 refine co rfl (Fa rfl underlying82 vq) ?_
 refine ac ?_
 refine Tr.ex 4 rfl (fun z1=>Tr.fact 4 rfl fun Eg=> ?_)
 · repeat' first|exact C8 15|exact Lr|refine co rfl (MZ rfl underlying82 Di vq vq) ?_|refine ac ?_|(refine Tr.cn rfl ?_ ?_<;>intro h q)
theorem fH {l:List (ID)} (hl:l.length≤925904528640):BZ Tryz.prog 241 [slice 15 (l.map EL)] (lens l.length) Bp (fun v=>Bx 189 15 (l.map EL) v):=by
 by_cases h0:l=[]
 · subst h0;exact BZ.Wd fG
 ·
  have:=BZ.Qy (by intro h;exact h0 Dn) (fF h0 hl)
  rwa [List.length_map] at this
theorem fI {l:List (List UInt8)} (h0:l≠[]) (hl:l.length≤8796093022208):BZ prog 242 [slice 1 (l.map (fun t:List UInt8=>[str t]))] (lens (l.map (fun t:List UInt8=>[str t])).length) (Bp) (fun v=>D4 9 1 (l.map (fun t:List UInt8=>[str t])) v):=by
 refine BZ.of func242 rfl rfl Ao fun M0 w0 S rs M1 w1=> ?_
 have hpos:=Md (f:=(fun t:List UInt8=>[str t])) h0
 refine a2 ?_
 refine co rfl (Fa rfl underlying127 vq) ?_
 refine ac ?_
 refine Tr.ex 4 rfl (fun z1=>Tr.fact 4 rfl fun Eg=> ?_)
 refine Tr.cn rfl ?_ ?_<;>intro h1 q1
 exfalso;have:=Eg h1;simp_all
 refine ac ?_
 refine ap ?_
 refine TO.pad ?_
 refine TO.DQ 0 rfl rfl AB (Ij rfl rfl AB rfl underlying127 NT by9 z9 rfl AB AB vq vq hpos NK EE) (fun v1=> ?_)
 refine ap ?_
 refine Tr.ret (Fin.drop 1 ?_)
 refine Fin.EB rfl rfl ?_ O5
 · exact IP
theorem fJ   :BD prog 242 [slice 1 []] (full 1 []):=by
 refine fo func242 rfl ⟨rfl,rfl⟩ fun M0 w0=> ?_
 refine a2 ?_
 refine co rfl (Fa rfl underlying127 vq) ?_
 refine ac ?_
 refine Tr.ex 4 rfl (fun z1=>Tr.fact 4 rfl fun Eg=> ?_)
 · repeat' first|exact C8 1|exact Lr|refine co rfl (MZ rfl underlying127 NT vq vq) ?_|refine ac ?_|(refine Tr.cn rfl ?_ ?_<;>intro h q)
theorem fK {l:List (List UInt8)} (hl:l.length≤8796093022208):BD Tryz.prog 242 [slice 1 (l.map (fun t:List UInt8=>[str t]))] (slice 1 (l.map (fun t:List UInt8=>[str t]))):=by
 by_cases h0:l=[]
 · subst h0;exact BD.le fJ (fun _ _ _ h=>h) (B0 _ _)
 · exact (BZ.ABQ (rows:=(l.map (fun t:List UInt8=>[str t]))) (Bb fun _=>rfl) (fI h0 hl)).pure
structure JV.small (x:JV):Prop where
 chain:x.chain.length≤925904528640
 names:∀c∈x.chain,c.names.length≤8796093022208
theorem lI {x:JV} (hx:x.small):BD prog 203 [agg (G1 x)] (agg (G1 x)):=by
 refine fo func203 rfl ⟨rfl,rfl⟩ fun M0 w0=> ?_
 have hch:=hx.chain
 refine Tr.seq (Tr.Ap ?_)
 refine TO.V9 rfl rfl AB rfl C1 (fun b1=> ?_)
 refine Tl rfl rfl rfl rfl Xw WN (fun b2=> ?_)
 refine ao ?_
 refine ao ?_
 refine TO.pad ?_
 refine TO.DQ 0 rfl rfl AB (IY rfl rfl AB rfl (fH (l:=x.chain) AA) kz) (fun v1=> ?_)
 refine tp rfl (Ac rfl kD vq) (TO.Dv 2 rfl rfl (A9 rfl rfl vq OJ AAr rfl Ao rfl) ?_)
 refine ao ?_
 refine ac ?_
 refine co rfl (Cw 0 rfl (sB rfl underlying82 Ja)) ?_
 refine ac ?_
 refine Tr.block (Tr.re 11 rfl (int_eq (by rw [List.length_map])) (Tr.BA _ (kk [11,10,2,1] rfl) (fun k:Nat=>[(12,int ((k:Nat):Int))]) (fun k:Nat=>k≤(x.chain).length) (fun k:Nat=>(x.chain).length-k) 0 (Nat.zero_le _) kz ?_))
 rintro k BV
 refine ac ?_
 refine Tr.seq ?_
 refine Tr.cn rfl ?_ ?_<;>intro h1 q1
 have Ah:k<(x.chain).length:=AH h1
 obtain ⟨c,Ai⟩:=at_ Ah
 have hcn:=hx.names c (List.mem_of_getElem? Ai)
 refine ac ?_
 refine ao ?_
 refine tp rfl (Cw 0 rfl (Qz rfl underlying82 Di Ja vq AA EE)) ?_
 refine tp rfl (Cw 0 rfl (ez rfl Gz Di vq (Bb fun _=>rfl) aq)) ?_
 refine Tl rfl rfl rfl rfl Uj OD (fun b3=> ?_)
 refine tm rfl ?_
 refine sf 0 4 ⟨rfl,rfl,rfl⟩ rfl rfl rfl rfl ?_
 refine ao ?_
 refine Tr.rx ?_
 refine ax ?_
 refine xo rfl (fun _=>Cn (fK hcn) rfl rfl) ?_
 refine JC 0 rfl rfl (Qz rfl underlying82 Di Ja vq AA EE) ?_
 refine xo rfl (fun _=>Yo rfl WS vq) ?_
 refine Cx.Dv 0 rfl rfl (LX rfl rfl vq OJ vC rfl (Bb fun _=>rfl) aq AB (kf (f:=EL) Ai rfl)) ?_
 refine Cx.nil ⟨by kernel_rfl,?_⟩
 refine BO.done al3 ?_
 refine ac ?_
 refine wk [12,11,10,2,1] rfl ?_
 refine ac ?_
 exact Fin.AL (k+1) ⟨Ah,by omega⟩ ⟨⟨_,rfl,AG k⟩,kz⟩
 have BP:k=(x.chain).length:=by have:=AJ h1;omega
 subst BP
 refine ac ?_
 refine Tr.seq (Tr.MY 2 0 3 rfl rfl AB rfl (E0 _ _) (Bb fun _=>rfl) ?_)
 refine ao ?_
 refine TO.AK 1 rfl rfl rfl vq C1 rfl Fc rfl rfl ?_
 refine ao ?_
 refine Tr.drop 0 (Tr.drop 1 (Tr.ret (Fin.CV rfl (AO.cell 0 rfl rfl S1 Fc rfl Lr) ?_)))
 · exact Lr
structure BX where
 AX:Int
 kind:Int
 number:Int
 at_:Int
 C2:JV
abbrev El (c:BX):List Pr:=[int c.AX,int c.kind,int c.number,int c.at_,int c.C2.CA,int c.C2.bits,int c.C2.CS,OL c.C2.chain]
def Bo (key:Int) (l:List JV):Int:=idx (fun x=>x.CS==key) l
theorem PL {β:Type} {p:β→Bool} {l:List β} (h:0≤idx p l):∃x,l[(idx p l).toNat]? =some x∧p x=true∧(idx p l).toNat<l.length:=by
 unfold idx at*
 cases hf:l.findIdx? p with
 |none=>rw [hf] at h;simp at h
 |some i=>
  rw [List.findIdx?_eq_some_iff_getElem] at hf
  obtain ⟨h1,h2,_⟩:=hf
  refine ⟨l[i],?_,h2,by simpa using h1⟩
  simp
theorem kZ.perm {P:Program} {f:FuncId} {args:List Pr} {pre post post':List At} {res:Pr} (h:kZ P f args pre res post) (hp:post.Perm post'):kZ P f args pre res post':=
 ⟨h.1,fun M0 w0 S rs M w vs hI hv=>(h.2 M0 w0 S rs M w vs hI hv).mono fun _e _w' ⟨v,M',x,h1,h2,h3,h4,h5⟩=>⟨v,M',x,h1,h2,h3,h4,Ay.perm (hp.append_right rs) h5⟩⟩
def bh (x:JV):Bool:=decide (x.CA=0∧x.bits=0)&&x.CS==0&&(((x.chain.length:Nat):Int)==0)
def jC (c:BX):Bool:=if c.kind=1 then bh c.C2 else if c.kind=5 then c.number==0 else c.at_==0&&bh c.C2
structure B_.small (e:B_):Prop where
 Az:e.Az.length≤1000000
 anchors:e.anchors.length≤1000000
 hashes:e.hashes.length≤1000000
 YE:e.ids.length≤1000000
 ids:∀x∈e.ids,x.small
theorem sL {c:BX} (hx:c.C2.small):BD prog 155 [agg (El c)] (agg (El c)):=by
 refine fo func155 rfl ⟨rfl,rfl⟩ fun M0 w0=>(Tr.seq (Tr.Ap ?_))
 refine TO.V9 rfl rfl AB rfl C1 (fun b1=> ?_)
 refine Tl rfl rfl rfl rfl PG Kz (fun b2=> ?_)
 refine ap ?_
 refine ap ?_
 refine tp rfl (Cn (lI (x:=c.C2) hx) rfl rfl) ?_
 refine ap ?_
 refine ap ?_
 refine Tr.drop 1 (Tr.ret (Fin.CV rfl (AO.cell 0 rfl rfl HK Dh rfl Lr) ?_))
 · exact Lr
def Jt (b:Int) (l m:List Int):Int:=if 0≤idx (fun x=>b==x) l then (m[(idx (fun x=>b==x) l).toNat]?).getD 0 else 0
theorem fL {b:Int} {l m:List Int} {k:Nat} {x z:Int} (hx:l[k]? =some x) (he:x=b) (hz:m[k]? =some z) (h:∀j y,j<k→l[j]? =some y→(b==y)=false):z=Jt b l m:=by
 have:=EP (p:=fun x=>b==x) hx (by simp [he]) h
 unfold Jt;rw [←this,if_pos AA,Int.toNat_natCast,hz];rfl
theorem Yt {b:Int} {l m:List Int} (h:∀j y,j<l.length→l[j]? =some y→(b==y)=false):0=Jt b l m:=by
 have:=E5 (p:=fun x=>b==x) h
 unfold Jt;rw [←this,if_neg AA]
def Gc (CA:Int):Int:=if CA=1 then 18 else if CA=2 then 60 else if CA=3∨CA=8∨CA=21 then 128 else if CA=4 then 192 else if CA=18∨CA=22 then 256 else if CA=19 then 64 else if CA=20 then 80 else 0
def N4 (b:Int):Int:=if b<512∨b>16384 then 0 else if b<1024 then 56 else if b<2048 then 80 else if b<3072 then 112 else if b<7680 then 128 else if b<15360 then 192 else 256
theorem lJ (b:Int):N4 b=if 512≤b∧b≤16384 then xX b else 0:=by
 have h1:xX b=if b<1024 then 56 else if b<2048 then 80 else if b<3072 then 112 else if b<7680 then 128 else if b<15360 then 192 else 256:=rfl
 rw [h1];unfold N4
 by_cases h:512≤b∧b≤16384
 · rw [if_pos h,if_neg AA]
 · rw [if_neg h,if_pos AA]
theorem Il {b:Int} {l m:List Int} (hl:l.length≤m.length):BD prog 269 [int b,ints l,ints m] (int (Jt b l m)):=by
 refine fo func269 rfl ⟨rfl,rfl⟩ fun M0 w0=>(Tr.C6 1 rfl fun G2=> ?_)
 refine a2 ?_
 refine Tr.block (Tr.BA _ (kk [2,1,0] rfl) (fun k:Nat=>[(7,int ((k:Nat):Int))]) (fun k:Nat=>k≤(l).length∧(∀j y,j<k→l[j]? =some y→(b==y)=false)) (fun k:Nat=>(l).length-k) 0 (⟨Nat.zero_le _,fun j y hj=>absurd hj AA⟩) kz ?_)
 rintro k ⟨BV,AY⟩
 refine an ?_ ?_<;>intro h1 q1
 have Ah:k<(l).length:=AH h1
 obtain ⟨x,Ai⟩:=at_ Ah
 obtain ⟨z,hz⟩:=at_ (l:=m) (k:=k) AA
 · repeat' first|exact int_eq (fL Ai Bg hz AY)|(exact Fin.AL (k+1) ⟨⟨Ah,DP (p:=fun x=>b==x) Ai B4 AY⟩,by omega⟩ ⟨⟨_,rfl,AG k⟩,kz⟩)|refine co rfl (AD rfl underlying22 Bt vq vq AA CF) ?_|refine ac ?_|(refine Tr.cn rfl ?_ ?_<;>intro h q)
 have BP:k=(l).length:=by have:=AJ h1;omega
 subst BP
 refine a3 ?_
 · exact int_eq (Yt AY)
theorem lK {CA:Int}  :BD prog 270 [int CA] (int (Gc CA)):=by
 refine fo func270 rfl ⟨rfl,rfl⟩ fun M0 w0=> ?_
 refine a2 ?_
 refine an ?_ ?_<;>intro h1 q1
 refine a2 ?_
 · refine int_eq ?_;unfold Gc;(repeat (rw [if_pos AA]))
 refine an ?_ ?_<;>intro h2 q2
 refine a2 ?_
 · exact ND
 refine an ?_ ?_<;>intro h3 q3
 refine ac ?_
 refine Tr.cond rfl (fun _=> ?_) (fun h=>nomatch h3.symm.trans h)
 refine a2 ?_
 · exact ND
 refine an ?_ ?_<;>intro h4 q4
 refine ac ?_
 refine Tr.cond rfl (fun _=> ?_) (fun h=>nomatch h4.symm.trans h)
 refine a2 ?_
 · exact ND
 refine an ?_ ?_<;>intro h5 q5
 refine a2 ?_
 · exact ND
 refine ac ?_
 refine wk [12,3] rfl ?_
 refine Tr.cn rfl ?_ ?_<;>intro h6 q6
 refine a2 ?_
 · exact ND
 refine an ?_ ?_<;>intro h7 q7
 refine ac ?_
 refine Tr.cond rfl (fun _=> ?_) (fun h=>nomatch h7.symm.trans h)
 refine a2 ?_
 · exact ND
 · repeat' first|(refine int_eq ?_;unfold Gc;(repeat (first|rw [if_pos AA]|rw [if_neg AA])))|(refine int_eq ?_;unfold Gc;(repeat (rw [if_neg AA])))|refine ac ?_|(refine Tr.cn rfl ?_ ?_<;>intro h q)
theorem Im {b:Int}  :BD prog 268 [int b] (int (N4 b)):=by
 refine fo func268 rfl ⟨rfl,rfl⟩ fun M0 w0=> ?_
 refine ac ?_
 refine ac ?_
 refine Ch.cs 6 rfl ?_ ?_<;>intro h1 q1
 refine ac ?_
 refine ac ?_
 refine ac ?_
 · refine int_eq ?_;unfold N4;(repeat (rw [if_pos AA]))
 refine ac ?_
 refine Tr.cn rfl ?_ ?_<;>intro h2 q2
 refine ac ?_
 refine ac ?_
 · refine int_eq ?_;unfold N4;(repeat (rw [if_pos AA]))
 refine ac ?_
 refine Tr.cn rfl ?_ ?_<;>intro h3 q3
 refine ac ?_
 refine ac ?_
 · exact P4
 refine ac ?_
 refine UX 0 13 rfl ?_
 refine Tr.cn rfl ?_ ?_<;>intro h4 q4
 refine ac ?_
 refine ac ?_
 · exact P4
 refine ac ?_
 refine Tr.cn rfl ?_ ?_<;>intro h5 q5
 refine ac ?_
 refine ac ?_
 · exact P4
 refine ac ?_
 refine Tr.cn rfl ?_ ?_<;>intro h6 q6
 refine ac ?_
 refine ac ?_
 · exact P4
 refine ac ?_
 refine Tr.cn rfl ?_ ?_<;>intro h7 q7
 refine ac ?_
 refine ac ?_
 · exact P4
 refine ac ?_
 refine ac ?_
 refine ac ?_
 · refine int_eq ?_;unfold N4;(repeat (rw [if_neg AA]))
theorem sM (b c:Int):Jt b [0] [c]=if b=0 then c else 0:=by
 unfold Jt idx
 by_cases h:b=0
 · subst h;rfl
 ·
  have:List.findIdx? (fun x=>b==x) [0]=none:=by simp [h]
  rw [this,if_neg h];rfl
theorem UA {CA b:Int} (h:CA=5∨CA=6∨CA=10∨CA=11):N4 b=Dj CA b:=by
 rw [lJ]
 rcases h with rfl|rfl|rfl|rfl<;>rfl
theorem SJ {CA b:Int} (h:¬(CA=5∨CA=6∨CA=7∨CA=9∨CA=10∨CA=11∨CA=12∨CA=13∨CA=14∨CA=15∨CA=16∨CA=17)):Jt b [0] [Gc CA]=Dj CA b:=by
 rw [sM]
 by_cases hin:1≤CA∧CA≤22
 ·
  have ha:CA=1∨CA=2∨CA=3∨CA=4∨CA=8∨CA=18∨CA=19∨CA=20∨CA=21∨CA=22:=by omega
  rcases ha with rfl|rfl|rfl|rfl|rfl|rfl|rfl|rfl|rfl|rfl<;>rfl
 ·
  have h1:Gc CA=0:=by unfold Gc;(repeat (first|rw [if_pos AA]|rw [if_neg AA]))
  unfold Dj
  rw [h1,if_neg hin];split<;>rfl
theorem L4 {CA b:Int} (h:CA=7∨CA=12):Dj CA b=if (aA.any fun x=>b==x)=true then b.tdiv 2 else 0:=by
 rcases h with rfl|rfl<;>rfl
theorem Wk {CA bits:Int}  :BD prog 229 [agg [int CA,int bits]] (int (Dj CA bits)):=by
 refine fo func229 rfl ⟨rfl,rfl⟩ fun M0 w0=> ?_
 iterate 4 refine ac ?_
 refine Tr.cn rfl ?_ ?_<;>intro h1 q1
 refine ac ?_
 refine Tr.cond rfl (fun _=> ?_) (fun h=>nomatch h1.symm.trans h)
 refine ac ?_
 refine co rfl (Cn (Im) rfl rfl) ?_
 refine a2 ?_
 · exact O1
 refine an ?_ ?_<;>intro h2 q2
 refine ac ?_
 refine Tr.cond rfl (fun _=> ?_) (fun h=>nomatch h2.symm.trans h)
 refine ac ?_
 refine co rfl (Cn (Im) rfl rfl) ?_
 refine ac ?_
 refine wk [2] rfl ?_
 refine ac ?_
 · exact O1
 refine an ?_ ?_<;>intro h3 q3
 refine ac ?_
 refine Tr.cond rfl (fun _=> ?_) (fun h=>nomatch h3.symm.trans h)
 refine ac ?_
 refine co rfl (Cn (Im) rfl rfl) ?_
 refine ac ?_
 refine wk [2] rfl ?_
 refine ac ?_
 · exact O1
 refine ac ?_
 refine wk [8,7,3,1] rfl ?_
 refine Tr.cn rfl ?_ ?_<;>intro h4 q4
 refine ac ?_
 refine co rfl (Cn (Im) rfl rfl) ?_
 refine a2 ?_
 · exact O1
 refine an ?_ ?_<;>intro h5 q5
 refine ac ?_
 refine Tr.cond rfl (fun _=> ?_) (fun h=>nomatch h5.symm.trans h)
 · exact i9
 refine an ?_ ?_<;>intro h11 SK
 · exact i9
 refine an ?_ ?_<;>intro Og q17
 refine ac ?_
 refine co rfl (AV rfl (Il (l:=[44,65,87]) (m:=[128,192,256]) AU) ⟨kq,GG,GG,trivial⟩) ?_
 refine ac ?_
 refine wk [2] rfl ?_
 refine ac ?_
 · refine int_eq ?_;have ha:CA=9:=AA;rcases ha with rfl<;>rfl
 refine an ?_ ?_<;>intro R5 q18
 refine ac ?_
 refine co rfl (AV rfl (Il (l:=[512,768,1024]) (m:=[128,192,256]) AU) ⟨kq,GG,GG,trivial⟩) ?_
 refine ac ?_
 refine wk [2] rfl ?_
 refine ac ?_
 · refine int_eq ?_;have ha:CA=13:=AA;rcases ha with rfl<;>rfl
 refine ac ?_
 refine wk [50,7,3,1] rfl ?_
 refine Tr.cn rfl ?_ ?_<;>intro h19 q19
 refine ac ?_
 refine co rfl (AV rfl (Il (l:=[40,128]) (m:=[40,60]) AU) ⟨kq,GG,GG,trivial⟩) ?_
 refine a2 ?_
 · refine int_eq ?_;have ha:CA=14:=AA;rcases ha with rfl<;>rfl
 refine an ?_ ?_<;>intro R7 q20
 refine ac ?_
 refine co rfl (AV rfl (Il (l:=[112,168]) (m:=[80,112]) AU) ⟨kq,GG,GG,trivial⟩) ?_
 refine a2 ?_
 · refine int_eq ?_;have ha:CA=15:=AA;rcases ha with rfl<;>rfl
 refine an ?_ ?_<;>intro bk q21
 refine ac ?_
 refine Tr.cond rfl (fun _=> ?_) (fun h=>nomatch bk.symm.trans h)
 refine ac ?_
 refine co rfl (AV rfl (Il (l:=[128,256]) (m:=[128,256]) AU) ⟨kq,GG,GG,trivial⟩) ?_
 refine a2 ?_
 · refine int_eq ?_;have ha:CA=16∨CA=17:=AA;rcases ha with rfl|rfl<;>rfl
 · repeat' first|(refine int_eq ?_;have ha:CA=16∨CA=17:=AA;rcases ha with rfl|rfl<;>rfl)|(refine int_eq ?_;exact SJ AA)|refine co rfl (AV rfl (Il (l:=[128,256]) (m:=[128,256]) AU) ⟨kq,GG,GG,trivial⟩) ?_|refine co rfl (Cn (lK) rfl rfl) (co rfl (AM (xs:=[.tmp 73]) (rows:=[[_]]) rfl rfl underlying22 Bt z3 rfl AB ⟨⟨Am,OJ⟩,trivial⟩ AB) ?_)|refine co rfl (AV rfl (Il (l:=[0]) (m:=[Gc CA]) AU) ⟨kq,GG,GG,trivial⟩) ?_|refine ac ?_|(refine Tr.cn rfl ?_ ?_<;>intro h q)
theorem Ju {CA bits:Int}  :BD prog 197 [agg [int CA,int bits]] (bool (decide (Dj CA bits>0))):=by
 refine fo func197 rfl ⟨rfl,rfl⟩ fun M0 w0=> ?_
 refine a2 ?_
 refine co rfl (Cn (Wk) rfl rfl) ?_
 refine a2 ?_
 · exact Lr
def xZ:List (List UInt8×Int):=H6.map fun r=>(r.name,r.kind)
theorem sN {CA:Int} (h:1≤CA∧CA≤22):xZ[CA.toNat]? =some ((Ek CA).name,(Ek CA).kind):=by
 unfold xZ;rw [List.getElem?_map,OK h];rfl
theorem sO   :BD prog 228 [] (slice 2 (xZ.map fun r=>[str r.1,int r.2])):=by
 refine fo func228 rfl ⟨rfl,rfl⟩ fun M0 w0=> ?_
 refine a2 ?_
 refine wk [0] rfl ?_
 refine ac ?_
 · exact B0 _ _
theorem PM {CA:Int}  :BD prog 195 [int CA] (int (Ek CA).kind):=by
 refine fo func195 rfl ⟨rfl,rfl⟩ fun M0 w0=> ?_
 refine ac ?_
 refine ag ?_ ?_<;>intro h1 q1
 refine a3 ?_
 · refine int_eq ?_;unfold Ek;rw [if_neg AA];rfl
 refine an ?_ ?_<;>intro h2 q2
 refine a2 ?_
 · refine int_eq ?_;unfold Ek;rw [if_neg AA];rfl
 have hin:1≤CA∧CA≤22:=by omega
 refine ac ?_
 refine Tr.seq (Tr.Aj (co rfl (kc0 (sO) rfl) (cm rfl (co rfl (AD rfl underlying291 vN vq vq AA (Bc (f:=fun r:List UInt8×Int=>[str r.1,int r.2]) (sN hin))) ?_))))
 refine a2 ?_
 · exact Lr
theorem Jv {CA bits:Int}  :BD prog 224 [agg [int CA,int bits]] (bool (decide (Dj CA bits>0)&&(Ek CA).kind==2)):=by
 refine fo func224 rfl ⟨rfl,rfl⟩ fun M0 w0=> ?_
 refine ac ?_
 refine ac ?_
 refine co rfl (Cn (Ju) rfl rfl) (cm rfl ?_)
 refine Ch.cs 5 rfl ?_ ?_<;>intro h1 q1
 refine ac ?_
 refine cy h1 rfl (Cn (PM) rfl rfl) ?_
 refine ac ?_
 refine ac ?_
 · refine bool_eq ?_;simp_all
 refine ac ?_
 refine ac ?_
 · exact O6
def FB:B_:=⟨[],0,0,[],false,[],[],[],false⟩
def Bv:JV:=⟨0,0,0,[]⟩
def HO:BX:=⟨0,0,0,0,Bv⟩
abbrev sP (l:List Int):Prop:=l.Pairwise (· < ·)
def Ew (l:List Int) (x:Int):Nat:=(l.takeWhile fun y=>decide (y<x)).length
theorem bl (l:List Int) (x:Int):Ew l x≤l.length:=by
 unfold Ew
 have h:=List.takeWhile_append_dropWhile (p:=fun y=>decide (y<x)) (l:=l)
 have:=congrArg List.length h
 rw [List.length_append] at this;omega
theorem U0 {x:Int}:∀{l:List Int} {k:Nat},k≤l.length→(∀(j:Nat) y,j<k→l[j]? =some y→y<x)→(∀y,l[k]? =some y→¬y<x)→Ew l x=k
  | [], k, hk, _, _ => by have : k = 0 := by simpa using hk
                          subst this;rfl
  |y::r,0,_,_,h2=>by unfold Ew;rw [List.takeWhile_cons_of_neg (by simpa using h2 y rfl)];rfl
  |y::r,k+1,hk,h1,h2=>by
    have ih:=U0 (l:=r) (k:=k) PC (fun j z hj hz=>h1 (j+1) z AA KT) (fun z hz=>h2 z KT)
    unfold Ew at ih ⊢
    rw [List.takeWhile_cons_of_pos (by simpa using h1 0 y AA rfl),List.length_cons,ih]
theorem U1 {x:Int}:∀{l:List Int} {j:Nat} {y:Int},j<Ew l x→l[j]? =some y→y<x
 |[],j,y,h,_=>by unfold Ew at h;simp at h
 |z::r,j,y,h,hy=>by
  by_cases hz:z<x
  ·
   cases j with
   |zero=>simp at hy;subst hy;exact hz
   |succ j=>
    refine U1 (l:=r) (j:=j) ?_ (by simpa using hy)
    unfold Ew at h ⊢
    rw [List.takeWhile_cons_of_pos KT,List.length_cons] at h;omega
  · unfold Ew at h;rw [List.takeWhile_cons_of_neg KT] at h;simp at h
theorem bn {x:Int}:∀{l:List Int} {y:Int},l[Ew l x]? =some y→¬y<x
 |[],y,h=>by simp at h
 |z::r,y,h=>by
  by_cases hz:z<x
  ·
   unfold Ew at h
   rw [List.takeWhile_cons_of_pos KT,List.length_cons,List.getElem?_cons_succ] at h
   exact bn (l:=r) h
  · unfold Ew at h;rw [List.takeWhile_cons_of_neg KT] at h;simp at h;subst h;exact hz
abbrev Fi (l:List Int) (x:Int):Bool:=(l[Ew l x]?).any (fun y=>decide (y=x))
abbrev Yu (l:List Int) (x:Int):List Int:=l.take (Ew l x)++[x]++l.drop (Ew l x)
theorem sQ {l:List Int} (hs:sP l) {j k:Nat} {y z:Int} (hjk:j<k) (hy:l[j]? =some y) (hz:l[k]? =some z):y<z:=by
 have h1:=BI hy;have h2:=BI hz
 have:=List.pairwise_iff_getElem.1 hs j k h1 h2 hjk
 rw [List.getElem?_eq_getElem h1] at hy;rw [List.getElem?_eq_getElem h2] at hz
 cases hy;cases hz;exact this
theorem bp {l:List Int} {x:Int} {i:Nat} {y:Int} (hp:Ew l x=i) (hy:l[i]? =some y):Fi l x=decide (y=x):=by
 unfold Fi;rw [hp,hy];rfl
theorem PN {l:List Int} (h:e_ l=true):sP l:=by
 unfold e_ at h;rw [B7] at h
 have h1:∀(d i:Nat) y z,l[i]? =some y→l[i+d+1]? =some z→y<z:=by
  intro d
  induction d with
  |zero=>
   intro i y z hy hz
   have:=h (i+1) (BI hz)
   unfold H7 at this
   rw [getD_at (show l[i+1]? =some z from hz),getD_at (show l[i+1-1]? =some y from hy)] at this
   simpa using this
  |succ d ih=>
   intro i y z hy hz
   obtain ⟨m,hm⟩:=at_ (l:=l) (k:=i+d+1) (by have:=BI hz;omega)
   have a1:=ih i y m hy hm
   have:=h (i+(d+1)+1) (BI hz)
   unfold H7 at this
   rw [getD_at hz,getD_at (show l[i+(d+1)+1-1]? =some m from hm)] at this
   have:m<z:=by simpa using this
   omega
 refine List.pairwise_iff_getElem.2 fun i j hi hj hij=> ?_
 refine h1 (j-i-1) i _ _ (List.getElem?_eq_getElem hi) ?_
 rw [show i+(j-i-1)+1=j by omega];exact List.getElem?_eq_getElem hj
theorem U2 {l:List Int} {x:Int} (h:Fi l x=true):Ew l x<l.length:=by
 by_cases hp:Ew l x<l.length
 · exact hp
 · unfold Fi at h;rw [List.getElem?_eq_none AA] at h;cases h
abbrev K1 (b:Bool):Int:=if b then 1 else 0
abbrev Me (e:B_) (c:BX):Int:=idx (fun y=>c.number==y) e.Az
def B9 (e:B_) (c:BX):Except Int (B_×BX):=
 if c.kind = 1 then
  if ¬(0≤c.at_∧c.at_≤(e.Az.length:Nat)) then .error 2
  else if (e.Az.any fun y=>c.number==y)=true then .error 41
  else .ok ({ e with Az:=e.Az.take c.at_.toNat++[c.number]++e.Az.drop c.at_.toNat },⟨c.AX,2,c.number,0,Bv⟩)
 else if c.kind = 2 then
  if Me e c<0 then .error 41 else .ok ({ e with Az:=e.Az.eraseIdx (Me e c).toNat },⟨c.AX,1,c.number,Me e c,Bv⟩)
 else if c.kind = 3 then
  if e.most=c.number then .error 41 else .ok ({ e with most:=c.number },⟨c.AX,c.kind,e.most,0,Bv⟩)
 else if c.kind = 4 then
  if e.least=c.number then .error 41 else .ok ({ e with least:=c.number },⟨c.AX,c.kind,e.least,0,Bv⟩)
 else if c.kind = 5 then
  if ¬(0≤c.at_∧c.at_≤(e.ids.length:Nat)) then .error 2
  else if 0≤Bo c.C2.CS e.ids then .error 41
  else .ok ({ e with ids:=e.ids.take c.at_.toNat++[c.C2]++e.ids.drop c.at_.toNat },⟨c.AX,6,c.C2.CS,0,Bv⟩)
 else if c.kind = 6 then
  match e.ids[(Bo c.number e.ids).toNat]? with
  |none=> .error 41
  |some x=>
   if Bo c.number e.ids<0 then .error 41
   else if ((e.ids.drop (Bo c.number e.ids+1).toNat).any fun x=>x.CS==c.number)=true then .error 5
   else .ok ({ e with ids:=e.ids.eraseIdx (Bo c.number e.ids).toNat },⟨c.AX,5,0,Bo c.number e.ids,x⟩)
 else if c.kind = 7 then
  if Fi e.anchors c.number=true then .error 41 else .ok ({ e with anchors:=Yu e.anchors c.number },⟨c.AX,8,c.number,0,Bv⟩)
 else if c.kind = 8 then
  if Fi e.anchors c.number=true then .ok ({ e with anchors:=e.anchors.eraseIdx (Ew e.anchors c.number) },⟨c.AX,7,c.number,0,Bv⟩) else .error 41
 else if c.kind = 9 then
  if Fi e.hashes c.number=true then .error 41 else .ok ({ e with hashes:=Yu e.hashes c.number },⟨c.AX,10,c.number,0,Bv⟩)
 else if c.kind = 10 then
  if Fi e.hashes c.number=true then .ok ({ e with hashes:=e.hashes.eraseIdx (Ew e.hashes c.number) },⟨c.AX,9,c.number,0,Bv⟩) else .error 41
 else if c.kind = 11 then
  if ¬(0≤c.number∧c.number≤1) then .error 2
  else if K1 e.Mb=c.number then .error 41 else .ok ({ e with Mb:=(c.number==1) },⟨c.AX,c.kind,K1 e.Mb,0,Bv⟩)
 else
  if ¬(0≤c.number∧c.number≤1) then .error 2
  else if K1 e.own=c.number then .error 41 else .ok ({ e with own:=(c.number==1) },⟨c.AX,c.kind,K1 e.own,0,Bv⟩)
def JM (c:BX):Prop:=(1≤c.kind∧c.kind≤12)∧jC c=true
instance (c:BX):Decidable (JM c):=inferInstanceAs (Decidable (_∧_))
def EC (e:B_) (c:BX):B_×BX×Int:=
 if GO e=false then (FB,HO,19)
 else if ¬JM c then (FB,HO,40)
 else match B9 e c with
  | .error f=>(FB,HO,f)
  | .ok (e2,b)=>if GO e2=true then (e2,b,0) else (FB,HO,18)
theorem PO {e:B_} {c:BX} (h:c.kind=1):B9 e c=
  (
  if ¬(0≤c.at_∧c.at_≤(e.Az.length:Nat)) then .error 2
  else if (e.Az.any fun y=>c.number==y)=true then .error 41
  else .ok ({ e with Az:=e.Az.take c.at_.toNat++[c.number]++e.Az.drop c.at_.toNat },⟨c.AX,2,c.number,0,Bv⟩)):=by
 unfold B9;rw [if_pos h]
theorem PR {e:B_} {c:BX} (h:c.kind=2):B9 e c=
  (
  if Me e c<0 then .error 41 else .ok ({ e with Az:=e.Az.eraseIdx (Me e c).toNat },⟨c.AX,1,c.number,Me e c,Bv⟩)):=by
 unfold B9;rw [if_neg BF];rw [if_pos h]
theorem PT {e:B_} {c:BX} (h:c.kind=3):B9 e c=
  (
  if e.most=c.number then .error 41 else .ok ({ e with most:=c.number },⟨c.AX,c.kind,e.most,0,Bv⟩)):=by
 unfold B9;rw [if_neg BF];rw [if_neg BF];rw [if_pos h]
theorem PU {e:B_} {c:BX} (h:c.kind=4):B9 e c=
  (
  if e.least=c.number then .error 41 else .ok ({ e with least:=c.number },⟨c.AX,c.kind,e.least,0,Bv⟩)):=by
 unfold B9;rw [if_neg BF];rw [if_neg BF];rw [if_neg BF];rw [if_pos h]
theorem PV {e:B_} {c:BX} (h:c.kind=5):B9 e c=
  (
  if ¬(0≤c.at_∧c.at_≤(e.ids.length:Nat)) then .error 2
  else if 0≤Bo c.C2.CS e.ids then .error 41
  else .ok ({ e with ids:=e.ids.take c.at_.toNat++[c.C2]++e.ids.drop c.at_.toNat },⟨c.AX,6,c.C2.CS,0,Bv⟩)):=by
 unfold B9;rw [if_neg BF];rw [if_neg BF];rw [if_neg BF];rw [if_neg BF];rw [if_pos h]
theorem PW {e:B_} {c:BX} (h:c.kind=6):B9 e c=
  (
  match e.ids[(Bo c.number e.ids).toNat]? with
  |none=> .error 41
  |some x=>
   if Bo c.number e.ids<0 then .error 41
   else if ((e.ids.drop (Bo c.number e.ids+1).toNat).any fun x=>x.CS==c.number)=true then .error 5
   else .ok ({ e with ids:=e.ids.eraseIdx (Bo c.number e.ids).toNat },⟨c.AX,5,0,Bo c.number e.ids,x⟩)):=by
 unfold B9;rw [if_neg BF];rw [if_neg BF];rw [if_neg BF];rw [if_neg BF];rw [if_neg BF];rw [if_pos h]
theorem PX {e:B_} {c:BX} (h:c.kind=7):B9 e c=
  (
  if Fi e.anchors c.number=true then .error 41 else .ok ({ e with anchors:=Yu e.anchors c.number },⟨c.AX,8,c.number,0,Bv⟩)):=by
 unfold B9;rw [if_neg BF];rw [if_neg BF];rw [if_neg BF];rw [if_neg BF];rw [if_neg BF];rw [if_neg BF];rw [if_pos h]
theorem PY {e:B_} {c:BX} (h:c.kind=8):B9 e c=
  (
  if Fi e.anchors c.number=true then .ok ({ e with anchors:=e.anchors.eraseIdx (Ew e.anchors c.number) },⟨c.AX,7,c.number,0,Bv⟩) else .error 41):=by
 unfold B9;rw [if_neg BF];rw [if_neg BF];rw [if_neg BF];rw [if_neg BF];rw [if_neg BF];rw [if_neg BF];rw [if_neg BF];rw [if_pos h]
theorem PZ {e:B_} {c:BX} (h:c.kind=9):B9 e c=
  (
  if Fi e.hashes c.number=true then .error 41 else .ok ({ e with hashes:=Yu e.hashes c.number },⟨c.AX,10,c.number,0,Bv⟩)):=by
 unfold B9;rw [if_neg BF];rw [if_neg BF];rw [if_neg BF];rw [if_neg BF];rw [if_neg BF];rw [if_neg BF];rw [if_neg BF];rw [if_neg BF];rw [if_pos h]
theorem Mf {e:B_} {c:BX} (h:c.kind=10):B9 e c=
  (
  if Fi e.hashes c.number=true then .ok ({ e with hashes:=e.hashes.eraseIdx (Ew e.hashes c.number) },⟨c.AX,9,c.number,0,Bv⟩) else .error 41):=by
 unfold B9;rw [if_neg BF];rw [if_neg BF];rw [if_neg BF];rw [if_neg BF];rw [if_neg BF];rw [if_neg BF];rw [if_neg BF];rw [if_neg BF];rw [if_neg BF];rw [if_pos h]
theorem Mg {e:B_} {c:BX} (h:c.kind=11):B9 e c=
  (
  if ¬(0≤c.number∧c.number≤1) then .error 2
  else if K1 e.Mb=c.number then .error 41 else .ok ({ e with Mb:=(c.number==1) },⟨c.AX,c.kind,K1 e.Mb,0,Bv⟩)):=by
 unfold B9;rw [if_neg BF];rw [if_neg BF];rw [if_neg BF];rw [if_neg BF];rw [if_neg BF];rw [if_neg BF];rw [if_neg BF];rw [if_neg BF];rw [if_neg BF];rw [if_neg BF];rw [if_pos h]
theorem Mh {e:B_} {c:BX} (h:c.kind=12):B9 e c=
  (
  if ¬(0≤c.number∧c.number≤1) then .error 2
  else if K1 e.own=c.number then .error 41 else .ok ({ e with own:=(c.number==1) },⟨c.AX,c.kind,K1 e.own,0,Bv⟩)):=by
 unfold B9;rw [if_neg BF];rw [if_neg BF];rw [if_neg BF];rw [if_neg BF];rw [if_neg BF];rw [if_neg BF];rw [if_neg BF];rw [if_neg BF];rw [if_neg BF];rw [if_neg BF];rw [if_neg BF]
theorem fM {e:B_} {c:BX} {f:Int} (h:GO e=true) (hc:JM c) (hs:B9 e c= .error f):EC e c=(FB,HO,f):=by
 unfold EC;rw [if_neg BF,if_neg (fun h=>h hc),hs]
theorem lM {e:B_} {c:BX} {e2:B_} {b:BX} (h:GO e=true) (hc:JM c) (hs:B9 e c= .ok (e2,b)) (h2:GO e2=true):EC e c=(e2,b,0):=by
 unfold EC;rw [if_neg BF,if_neg (fun h=>h hc),hs];exact if_pos h2
theorem sS {e:B_} {c:BX} {e2:B_} {b:BX} (h:GO e=true) (hc:JM c) (hs:B9 e c= .ok (e2,b)) (h2:GO e2=false):EC e c=(FB,HO,18):=by
 unfold EC;rw [if_neg BF,if_neg (fun h=>h hc),hs];exact if_neg (by rw [h2];decide)
structure bq (e:B_):Prop where
 name:QF e.name=true
 least:1≤e.least
 lm:e.least≤e.most
 most:e.most≤4
 Az:Ke e.Az=true
 YE:e.ids.length≤4
 AAM:e.anchors.length≤16
 anc:e_ e.anchors=true
 hash:e_ e.hashes=true
 ids:e.ids.all idB=true
 keys:e.anchors.all Hq=true
 hsh:e.hashes.all Q1=true
theorem DG {e:B_}:GO e=true↔bq e:=by
 unfold GO;simp only [Bool.and_eq_true,decide_eq_true_eq]
 exact ⟨fun ⟨⟨⟨⟨⟨⟨⟨⟨a,b⟩,c⟩,d⟩,f⟩,⟨⟨⟨g,h⟩,i⟩,j⟩⟩,k⟩,l⟩,m⟩=>⟨a,b,c,d,f,g,h,i,j,k,l,m⟩,fun ⟨a,b,c,d,f,g,h,i,j,k,l,m⟩=>⟨⟨⟨⟨⟨⟨⟨⟨a,b⟩,c⟩,d⟩,f⟩,⟨⟨⟨g,h⟩,i⟩,j⟩⟩,k⟩,l⟩,m⟩⟩
theorem fN:Bv.small:=⟨by show 0≤_;omega,fun c hc=>by cases hc⟩
abbrev S_:List Pr:=[GW .u8]
abbrev bt (m:Nat):Pr:=slice 1 (List.replicate m S_)
abbrev Em (B:Nat):Pr:=Cp.ex fun m:Nat=>fact (m≤B) (bt m)
abbrev EJ:Pr:=Cp.ex fun b:Bool=>bool b
abbrev Bh (q:Pr):List Pr:=[GW .i64,Em 1000,EJ,q]
abbrev Jw (row:List Pr):Pr:=Cp.ex fun m:Nat=>fact (m≤20) (slice 4 (List.replicate m row))
abbrev La (D:Nat):Pr:=Cp.ex fun d:Int=>fact (0≤d∧d≤(D:Nat)) (int d)
theorem Jx {r:List Pr} {m k:Nat} (h:k<m):(List.replicate m r)[((k:Nat):Int).toNat]? =some r:=by rw [Int.toNat_natCast,List.getElem?_replicate,if_pos h]
theorem bu {r:List Pr} {m:Nat}:List.replicate m r++[r]=List.replicate (m+1) r:=by rw [List.replicate_succ']
theorem Mi {r:List Pr} {m k:Nat}:List.replicate m r++List.replicate k r=List.replicate (m+k) r:=by rw [List.replicate_append_replicate]
theorem QV.refl:∀l:List Pr,QV l l
 |[]=>trivial
 |_::l=>⟨Pr.le_refl _,QV.refl l⟩
theorem WA {sz:Nat} {rows rows':List (List Pr)} (hl:rows.length=rows'.length) (h:∀(i:Nat) r r',rows[i]? =some r→rows'[i]? =some r'→r.length=r'.length∧∀(j:Nat) p p',r[j]? =some p→r'[j]? =some p'→Pr.le p p'):Pr.le (slice sz rows) (slice sz rows'):=by
 rintro M w v ⟨a,cap,h1,h2,h3,h4,h5⟩
 refine ⟨a,cap,by rw [←hl];exact h1,by rw [←hl];exact h2,h3,h4,fun i row hr=> ?_⟩
 have hi:i<rows.length:=by rw [hl];exact BI hr
 have hr0:=List.getElem?_eq_getElem hi
 obtain ⟨g1,g2⟩:=h i _ _ hr0 hr
 obtain ⟨k1,ad,k2,k3⟩:=h5 i _ hr0
 refine ⟨by rw [←g1];exact k1,ad,k2,fun j p' hp'=> ?_⟩
 have hj:j<rows[i].length:=by rw [g1];exact BI hp'
 have hp:=List.getElem?_eq_getElem hj
 obtain ⟨u,c1,c2,c3,c4⟩:=k3 j _ hp
 exact ⟨u,c1,c2,c3,g2 j _ _ hp hp' _ _ _ c4⟩
theorem fO {sz:Nat} {rows:List (List Pr)} {r:List Pr} (h:∀q∈rows,q.length=r.length∧∀(j:Nat) p p',q[j]? =some p→r[j]? =some p'→Pr.le p p'):Pr.le (slice sz rows) (slice sz (List.replicate rows.length r)):=
 WA AU fun i q q' hq hq'=>by
  rw [List.getElem?_replicate,if_pos (BI hq)] at hq'
  cases hq'
  exact h q (List.mem_of_getElem? hq)
theorem YF {β:Type} {l:List β} {f:β→Int}:Pr.le (slice 1 (l.map fun x=>[is (.int .u8 (f x))])) (bt l.length):=by
 have:=fO (sz:=1) (rows:=l.map fun x=>[is (.int .u8 (f x))]) (r:=S_) (by
  intro q hq
  obtain ⟨x,_,rfl⟩:=List.mem_map.1 hq
  refine ⟨rfl,fun j p p' hp hp'=> ?_⟩
  cases j with
  |zero=>simp at hp hp';subst hp;subst hp';exact DA _ _
  |succ j=>simp at hp)
 rwa [List.length_map] at this
theorem Ft {B m:Nat} {p:Pr} (h:m≤B) (hp:Pr.le p (bt m)):Pr.le p (Em B):=Aw m (A7 h hp)
theorem BD.Bh {P:Program} {f:FuncId} {row:List Pr} {res:Pr} (h:∀(t:Int) (b:Nat) (n:Bool) (m:Nat),b≤1000→m≤20→BD P f [agg [int t,bt b,bool n,slice 4 (List.replicate m row)]] res):BD P f [agg (Bh (Jw row))] res:=by
 refine ⟨(h 0 0 false 0 AA AA).1,fun M w vs hb hv=> ?_⟩
 match vs,hv with
 |[u0],bw=>
  obtain ⟨⟨cs,rfl,ho,hcs⟩,_⟩:=bw
  match cs,hcs with
  |[c0,c1,c2,c3],hc=>
   obtain ⟨⟨t,h0⟩,⟨b,M9,h1⟩,⟨n,h2⟩,⟨m,hm1,h3⟩,_⟩:=hc
   exact (h t b n m M9 hm1).2 M w _ hb ⟨⟨_,rfl,ho,h0,h1,h2,h3,trivial⟩,trivial⟩
theorem BD.lN {P:Program} {f:FuncId} {res:Pr} (h:∀(t:Int) (b:Nat) (n:Bool),b≤1000→BD P f [agg [int t,bt b,bool n,slice 4 []]] res):BD P f [agg [GW .i64,Em 1000,EJ,slice 4 []]] res:=by
 refine ⟨(h 0 0 false AA).1,fun M w vs hb hv=> ?_⟩
 match vs,hv with
 |[u0],bw=>
  obtain ⟨⟨cs,rfl,ho,hcs⟩,_⟩:=bw
  match cs,hcs with
  |[c0,c1,c2,c3],hc=>
   obtain ⟨⟨t,h0⟩,⟨b,M9,h1⟩,⟨n,h2⟩,h3,_⟩:=hc
   exact (h t b n M9).2 M w _ hb ⟨⟨_,rfl,ho,h0,h1,h2,h3,trivial⟩,trivial⟩
theorem xd {n:Int}  :BD prog 289 [int n] (bool (decide (1≤n)&&decide (n≤255)&&(n.tmod 32 !=31))):=by
 refine fo func289 rfl ⟨rfl,rfl⟩ fun M0 w0=> ?_
 refine ac ?_
 refine ag ?_ ?_<;>intro h1 q1
 refine ag ?_ ?_<;>intro h2 q2
 refine ML h2 rfl (cy h2 rfl (QL rfl vq vq AA) ?_)
 refine a2 ?_
 · refine bool_eq ?_;simp_all
 refine a2 ?_
 · exact O6
 refine a2 ?_
 · exact O6
theorem Ng {t:Int} {b:Nat} {n:Bool} {m:Nat} {q:Pr}  (hb:b≤1000) (hm:m≤20) (ih:m=0∨BD prog 258 [agg (Bh q)] (EJ)):BD prog 258 [agg [int t,bt b,bool n,slice 4 (List.replicate m (Bh q))]] (EJ):=by
 refine fo func258 rfl ⟨rfl,rfl⟩ fun M0 w0=> ?_
 have hlr:(List.replicate m (Bh q)).length=m:=List.length_replicate
 have hlb:(List.replicate b S_).length=b:=List.length_replicate
 refine a2 ?_
 refine co rfl (Cn (xd) rfl rfl) ?_
 refine ag ?_ ?_<;>intro h1 q1
 refine ac ?_
 refine wk [38,1] rfl ?_
 refine a2 ?_
 · exact BJ
 refine ac ?_
 refine cy h1 rfl (Tw rfl vq vq AA) (cy h1 rfl (QL rfl vq vq AA) (cy h1 rfl kiq (cy h1 rfl (Ya rfl underlying4 vq vq) ?_)))
 refine ag ?_ ?_<;>intro h2 q2
 refine ac ?_
 refine wk [38,1] rfl ?_
 refine a2 ?_
 · exact BJ
 refine ag ?_ ?_<;>intro h3 q3
 refine ac ?_
 refine cy h3 rfl (Ca rfl underlying241 vq) ?_
 refine ag ?_ ?_<;>intro h4 q4
 refine ac ?_
 refine wk [38,1] rfl ?_
 refine a2 ?_
 · exact BJ
 refine ag ?_ ?_<;>intro h5 q5
 refine ac ?_
 refine cy h5 rfl (Ca rfl underlying283 vq) ?_
 refine ac ?_
 refine wk [38,1] rfl ?_
 refine Tr.cn rfl ?_ ?_<;>intro h6 q6
 refine a2 ?_
 · exact BJ
 refine a2 ?_
 refine Tr.block (Tr.BA _ (kk [1] rfl) (fun k:Nat=>[(3,int ((k:Nat):Int))]) (fun k:Nat=>k≤((List.replicate m (Bh q)).length)) (fun k:Nat=>((List.replicate m (Bh q)).length)-k) 0 (Nat.zero_le _) kz ?_)
 rintro k BV
 refine ac ?_
 refine co rfl (Ca rfl underlying283 vq) ?_
 refine an ?_ ?_<;>intro h7 q7
 have Ah:k<((List.replicate m (Bh q)).length):=AH h7
 have hkm:k<m:=by simpa using Ah
 have ih2:=ih.resolve_left AA
 refine ac ?_
 refine ap ?_
 refine tp rfl (AD rfl underlying283 Cc vq vq AA (Jx hkm)) (tp rfl (AQ rfl DL Cc vq rfl rfl) (tp rfl (Cn (ih2) rfl rfl) ?_))
 refine TO.ex 51 rfl (fun z51=> ?_)
 refine ap ?_
 · exact LL
 have BP:k=((List.replicate m (Bh q)).length):=by have:=AJ h7;omega
 refine a3 ?_
 · exact BJ
 refine ac ?_
 refine wk [38,1] rfl ?_
 refine a2 ?_
 refine Tr.block (Tr.BA _ (kk [1] rfl) (fun k:Nat=>[(3,int ((k:Nat):Int))]) (fun k:Nat=>k≤((List.replicate m (Bh q)).length)) (fun k:Nat=>((List.replicate m (Bh q)).length)-k) 0 (Nat.zero_le _) kz ?_)
 rintro k BV
 refine ac ?_
 refine co rfl (Ca rfl underlying283 vq) ?_
 refine an ?_ ?_<;>intro h9 q9
 have Ah:k<((List.replicate m (Bh q)).length):=AH h9
 have hkm:k<m:=by simpa using Ah
 have ih2:=ih.resolve_left AA
 refine ac ?_
 refine ap ?_
 refine tp rfl (AD rfl underlying283 Cc vq vq AA (Jx hkm)) (tp rfl (AQ rfl DL Cc vq rfl rfl) (tp rfl (Cn (ih2) rfl rfl) ?_))
 refine TO.ex 51 rfl (fun z51=> ?_)
 refine ap ?_
 · exact LL
 have BP:k=((List.replicate m (Bh q)).length):=by have:=AJ h9;omega
 refine a3 ?_
 · exact BJ
 refine ag ?_ ?_<;>intro h11 SK
 refine ac ?_
 refine cy h11 rfl (Ca rfl underlying283 vq) ?_
 refine ac ?_
 refine wk [38,1] rfl ?_
 refine Tr.cn rfl ?_ ?_<;>intro h12 Vt
 refine a2 ?_
 · exact BJ
 refine a2 ?_
 refine Tr.block (Tr.BA _ (kk [1] rfl) (fun k:Nat=>[(3,int ((k:Nat):Int))]) (fun k:Nat=>k≤((List.replicate m (Bh q)).length)) (fun k:Nat=>((List.replicate m (Bh q)).length)-k) 0 (Nat.zero_le _) kz ?_)
 rintro k BV
 refine ac ?_
 refine co rfl (Ca rfl underlying283 vq) ?_
 refine an ?_ ?_<;>intro JR Yv
 have Ah:k<((List.replicate m (Bh q)).length):=AH JR
 have hkm:k<m:=by simpa using Ah
 have ih2:=ih.resolve_left AA
 refine ac ?_
 refine ap ?_
 refine tp rfl (AD rfl underlying283 Cc vq vq AA (Jx hkm)) (tp rfl (AQ rfl DL Cc vq rfl rfl) (tp rfl (Cn (ih2) rfl rfl) ?_))
 refine TO.ex 51 rfl (fun z51=> ?_)
 refine ap ?_
 · exact LL
 have BP:k=((List.replicate m (Bh q)).length):=by have:=AJ JR;omega
 refine a3 ?_
 · exact BJ
 refine ac ?_
 refine wk [38,1] rfl ?_
 refine a2 ?_
 refine Tr.block (Tr.BA _ (kk [1] rfl) (fun k:Nat=>[(3,int ((k:Nat):Int))]) (fun k:Nat=>k≤((List.replicate m (Bh q)).length)) (fun k:Nat=>((List.replicate m (Bh q)).length)-k) 0 (Nat.zero_le _) kz ?_)
 rintro k BV
 refine ac ?_
 refine co rfl (Ca rfl underlying283 vq) ?_
 refine an ?_ ?_<;>intro WJ q15
 have Ah:k<((List.replicate m (Bh q)).length):=AH WJ
 have hkm:k<m:=by simpa using Ah
 have ih2:=ih.resolve_left AA
 refine ac ?_
 refine ap ?_
 refine tp rfl (AD rfl underlying283 Cc vq vq AA (Jx hkm)) (tp rfl (AQ rfl DL Cc vq rfl rfl) (tp rfl (Cn (ih2) rfl rfl) ?_))
 refine TO.ex 51 rfl (fun z51=> ?_)
 refine ap ?_
 · exact LL
 have BP:k=((List.replicate m (Bh q)).length):=by have:=AJ WJ;omega
 refine a3 ?_
 · exact BJ
theorem Q2 {t:Int} {b:Nat} {n:Bool} {m:Nat} {q:Pr} {D:Nat}  (hb:b≤1000) (hm:m≤20) (hD:D≤1000) (ih:m=0∨BD prog 259 [agg (Bh q)] (La D)):BD prog 259 [agg [int t,bt b,bool n,slice 4 (List.replicate m (Bh q))]] (La (D+1)):=by
 refine BD.of func259 rfl rfl Ao fun M0 w0=> ?_
 have hlr:(List.replicate m (Bh q)).length=m:=List.length_replicate
 have hlb:(List.replicate b S_).length=b:=List.length_replicate
 refine Tr.seq (Tr.Aj (co rfl (Bn rfl (Va rfl)) (cm rfl (Ch.nil (Fin.go (Tr.seq (Tr.Aj (cm rfl (Ch.nil (Fin.go (Tr.seq (Tr.seq (Tr.Aj ?_)))))))))))))
 refine cm rfl (Ch.nil (Fin.go (Tr.block (Tr.BA [(1,_)] ⟨ke rfl,trivial⟩ (fun k:Nat=>[(4,int ((k:Nat):Int)),(3,La D)]) (fun k:Nat=>k≤((List.replicate m (Bh q)).length)) (fun k:Nat=>((List.replicate m (Bh q)).length)-k) 0 (Nat.zero_le _) ⟨ke rfl,⟨_,rfl,Aw 0 (A7 AA (Lr))⟩,trivial⟩ ?_))))
 rintro k BV
 refine Tr.seq (Tr.seq (Tr.Aj (cm rfl (co rfl (Ss rfl MU rfl rfl) (co rfl (GU rfl Uk rfl) (co rfl (Ca rfl underlying283 (vl rfl)) (co rfl (ki rfl rfl rfl rfl) (Ch.nil (Fin.go ?_)))))))))
 refine Tr.cn rfl ?_ ?_<;>intro h1 q1
 have Ah:k<((List.replicate m (Bh q)).length):=AH h1
 have hkm:k<m:=by simpa using Ah
 have ih2:=ih.resolve_left AA
 refine Tr.skip (Fin.go (Tr.seq (Tr.block (Tr.Ap (tm rfl ?_)))))
 refine TO.ex 12 rfl (fun z12=>TO.fact 12 rfl fun AHL=> ?_)
 refine tp rfl (Ss rfl MU rfl rfl) (tp rfl (GU rfl Uk rfl) (tm rfl (tp rfl (AD rfl underlying283 Cc (vl rfl) (vl rfl) AA (Jx hkm)) (tp rfl (AQ rfl DL Cc (vl rfl) rfl rfl) (tp rfl (AV rfl (ih2) ⟨ke rfl,trivial⟩) ?_)))))
 refine TO.ex 18 rfl (fun z18=>TO.fact 18 rfl fun AFv=> ?_)
 refine tp rfl (NP rfl (vl rfl) (vl rfl)) (tm rfl (TO.nil (Fin.block (Fin.go (GM 1 3 4 rfl (Tr.Aj (cm rfl (Kx rfl rfl rfl rfl AA (cm rfl (Ch.nil (Fin.AL (k+1) ⟨Ah,by omega⟩ ⟨⟨_,rfl,AG k⟩,⟨_,rfl,Aw _ (A7 AA (Lr))⟩,ke rfl,trivial⟩)))))))))))
 have BP:k=((List.replicate m (Bh q)).length):=by have:=AJ h1;omega
 refine Tr.exit (Fin.AW (Fin.AW (Fin.Au (Fin.go (Tr.seq (Tr.Ap (tm rfl ?_)))))))
 refine TO.ex 20 rfl (fun z20=>TO.fact 20 rfl fun AHM=> ?_)
 refine tp rfl (FE rfl (vl rfl) (vl rfl) ?hin) ?_;case hin=>unfold Oe;omega
 refine tm rfl (TO.nil (Fin.go (Tr.ret (Fin.Kw rfl (Br.Dz _ _) rfl ?_))))
 · exact Aw _ (A7 AA (Lr))
def Q3 (n:Nat):Nat:=if h:n=0 then 0 else 1+Q3 (n/256)
termination_by n
decreasing_by omega
theorem TC:Q3 0=0:=by unfold Q3;simp
theorem Wl {n:Nat} (h:0<n):Q3 n=1+Q3 (n/256):=by conv=>lhs;unfold Q3;rw [dif_neg AA]
theorem U3:∀(n:Nat),Q3 n≤n:=by
 intro n
 induction n using Nat.strongRecOn with
 |_ n ih=>
  rcases Nat.eq_zero_or_pos n with h|h
  · subst h;rw [TC];omega
  · rw [Wl h];have:=ih (n/256) AA;omega
def fP (n:Nat):Nat:=if n<128 then 1 else 1+Q3 n
theorem bz (n:Nat):fP n≤n+1:=by unfold fP;have:=U3 n;split<;>omega
theorem qP (k:Int):Pr.le (slice 1 [[is (.int .u8 k)]]) (bt 1):=YF (l:=[()]) (f:=fun _=>k)
theorem fQ {n:Nat} (hn:n≤100000000):BD prog 290 [int ((n:Nat):Int)] (bt (fP n)):=by
 refine fo func290 rfl ⟨rfl,rfl⟩ fun M0 w0=> ?_
 refine ac ?_
 refine an ?_ ?_<;>intro h1 q1
 refine ac ?_
 refine co rfl (Er rfl underlying3 underlying5 vq) (co rfl (AM (xs:=[.tmp 7]) (rows:=[S_]) rfl rfl underlying241 NA z5 rfl AB ⟨⟨Am,VL.le vq (Pr.le_trans (DA _ _) (Af _))⟩,trivial⟩ AB) ?_)
 refine a2 ?_
 · refine Pr.le_trans (B0 _ _) (Pr.le_of_eq ?_);unfold fP;rw [if_pos AA];rfl
 refine a2 ?_
 refine Tr.seq (Tr.block (Tr.B6 5 1 (Tr.C9 [] trivial (fun (k:Nat) (acc:Nat) v=>[(0,int ((k:Nat):Int)),(3,Ab v (bt acc))]) (fun (k:Nat) (acc:Nat) v=>Hp M0 w0 FO ([As 5 1 v])) (fun (k:Nat) (acc:Nat)=>Q3 k+acc=Q3 n∧k≤n) (fun (k:Nat) (acc:Nat)=>k) (n) (0) (.slice none 0 0) (⟨by omega,by omega⟩) ⟨kq,⟨_,rfl,Bl rfl⟩,trivial⟩ (fun _ _ h=>h) ?_)))
 rintro k acc v ⟨hk1,hk2⟩
 refine an ?_ ?_<;>intro h2 q2
 have hk0:0<k:=by have:=C3.DZ h2;omega
 have hdg:=Wl hk0
 have hle:=U3 n
 refine ac ?_
 refine ap ?_
 refine tp rfl (QL rfl vq vq AA) (tp rfl (Er rfl underlying3 underlying5 vq) (tp rfl (AM (xs:=[.tmp 13]) (rows:=[S_]) rfl rfl underlying241 NA z5 rfl AB ⟨⟨Am,VL.le vq (Pr.le_trans (DA _ _) (Af _))⟩,trivial⟩ AB) ?_))
 refine tm rfl (TO.pad ?_)
 refine TO.DQ 0 rfl rfl AB (B1 rfl rfl rfl rfl underlying241 NA bS z5 GG HA (Bq BN vq)) (fun v1=> ?_)
 refine ap ?_
 refine ac ?_
 refine co rfl (Tw rfl vq vq AA) ?_
 refine ac ?_
 refine Fin.drop 1 ?_
 exact Fin.Bi (k/256) (acc+1) v1 (⟨⟨by omega,by omega⟩,by omega⟩) ⟨⟨_,rfl,int_eq (by rw [Int.tdiv_eq_ediv_of_nonneg AA,Gd IJ];omega)⟩,⟨_,rfl,BC (by rw [show ([S_]:List (List Pr))=List.replicate 1 S_ from rfl,Mi,Nat.add_comm])⟩,trivial⟩ (fun _ _ h=>h)
 have hk0:k=0:=by have:=C3.DZ h2;omega
 subst hk0
 have hle:=U3 n
 rw [TC] at hk1
 refine ac ?_
 refine ap ?_
 refine tp rfl (Ca rfl underlying241 HA) (tp rfl kiq (tp rfl (Er rfl underlying3 underlying5 vq) (tp rfl (AM (xs:=[.tmp 22]) (rows:=[S_]) rfl rfl underlying241 NA z5 rfl AB ⟨⟨Am,VL.le vq (Pr.le_trans (DA _ _) (Af _))⟩,trivial⟩ AB) ?_)))
 refine tm rfl (TO.pad ?_)
 refine TO.DQ 0 rfl rfl AB (B1 rfl rfl rfl rfl underlying241 NA bS z5 GG HA (Bq BN vq)) (fun v2=> ?_)
 refine ap ?_
 refine ac ?_
 · refine Pr.le_trans (Aq _ _) (Pr.le_of_eq ?_);unfold fP;rw [if_neg AA,show ([S_]:List (List Pr))=List.replicate 1 S_ from rfl,Mi,show acc=Q3 n by omega]
theorem Yw {t:Int} {b:Nat} {n:Bool} {m:Nat} {q:Pr} {B:Nat}  (hb:b≤1000) (hm:m≤20) (hB:B≤1000000) (ih:m=0∨BD prog 260 [agg (Bh q)] (Em B)):BD prog 260 [agg [int t,bt b,bool n,slice 4 (List.replicate m (Bh q))]] (Em (2*(1000+20*B)+2)):=by
 refine fo func260 rfl ⟨rfl,rfl⟩ fun M0 w0=> ?_
 have hlr:(List.replicate m (Bh q)).length=m:=List.length_replicate
 have hlb:(List.replicate b S_).length=b:=List.length_replicate
 refine ac ?_
 refine ap ?_
 refine TO.pad ?_
 refine TO.DQ 0 rfl rfl AB (B1 rfl rfl rfl rfl underlying241 NA bS z5 GG vq (Bq BN vq)) (fun v1=> ?_)
 refine ap ?_
 refine ac ?_
 refine Tr.block (Tr.C9 _ (kk [1] rfl) (fun (k:Nat) (acc:Nat) v=>[(4,int ((k:Nat):Int)),(3,Ab v (bt acc))]) (fun (k:Nat) (acc:Nat) v=>Hp M0 w0 FO ([As 5 1 v])) (fun (k:Nat) (acc:Nat)=>k≤m∧acc≤b+k*B) (fun (k:Nat) (acc:Nat)=>m-k) (0) (b) v1 (⟨by omega,by omega⟩) ⟨kq,⟨_,rfl,BC AU⟩,trivial⟩ (fun _ _ h=>h) ?_)
 rintro k acc v ⟨hk1,hk2⟩
 have hkB:k*B≤20*B:=Nat.mul_le_mul_right B AA
 refine ac ?_
 refine co rfl (Ca rfl underlying283 vq) ?_
 refine an ?_ ?_<;>intro h1 q1
 have hkm:k<m:=by have:=C3.DZ h1;rw [hlr] at this;omega
 have ih2:=ih.resolve_left AA
 refine ac ?_
 refine ap ?_
 refine tp rfl (AD rfl underlying283 Cc vq vq AA (Jx hkm)) (tp rfl (AQ rfl DL Cc vq rfl rfl) (tp rfl (Cn (ih2) rfl rfl) ?_))
 refine TO.ex 22 rfl (fun z22=>TO.fact 22 rfl fun AHN=> ?_)
 refine TO.DQ 0 rfl rfl AB (B1 rfl rfl rfl rfl underlying241 NA bS z5 HA vq (Ax BN Ja)) (fun v2=> ?_)
 refine ap ?_
 refine wk [4,3,1] rfl ?_
 refine ac ?_
 exact Fin.Bi (k+1) (acc+z22) v2 (⟨⟨by omega,by rw [Nat.succ_mul];omega⟩,by omega⟩) ⟨⟨_,rfl,AG k⟩,⟨_,rfl,BC (by rw [Mi])⟩,kz⟩ (fun _ _ h=>h)
 have eH:k=m:=by have:=C3.DZ h1;rw [hlr] at this;omega
 have Xx:=bz acc
 refine ac ?_
 refine Tr.seq (Tr.pad (Tr.rx ?_))
 refine ay ?_
 refine xo rfl (fun _=>Er rfl underlying3 underlying5 vq) (xo rfl (fun _=>AM (xs:=[.tmp 26]) (rows:=[S_]) rfl rfl underlying241 NA z5 rfl AB ⟨⟨Am,VL.le vq (Pr.le_trans (DA _ _) (Af _))⟩,trivial⟩ AB) ?_)
 refine xm rfl (xo rfl (fun _=>Ca rfl underlying241 HA) ?_)
 refine xo rfl (fun _=>AV rfl (fQ (n:=acc) AA) ⟨⟨_,rfl,int_eq AU⟩,trivial⟩) ?_
 refine Cx.ef 0 rfl rfl AB (B1 rfl rfl rfl rfl underlying241 NA bS z5 GG vq (Bq BN vq)) ?_
 refine xm rfl ?_
 refine Cx.ef 0 rfl rfl AB (B1 rfl rfl rfl rfl underlying241 NA bS z5 vq HA eU) ?_
 refine Cx.ef 0 rfl rfl AB (UT rfl rfl AB rfl vq) ?_
 refine Cx.nil ⟨by kernel_rfl,?_⟩
 refine BO.open_ 0 2 rfl rfl (fun v3=> ?_)
 refine BO.done Wh (Fin.go (wk [2] rfl ?_))
 refine ac ?_
 · exact Ft (m:=1+fP acc+acc) (by have:=bz acc;omega) (Pr.le_trans (Aq _ _) (Pr.le_of_eq (by rw [show ([S_]:List (List Pr))=List.replicate 1 S_ from rfl,Mi,Mi])))
theorem fR {q:Pr} {D B:Nat} (hf:BD prog 258 [agg (Bh q)] EJ) (hd:BD prog 259 [agg (Bh q)] (La D)) (hp:BD prog 260 [agg (Bh q)] (Em B)):BD prog 225 [agg (Bh q)] (EA [Em B,GW .i64]):=by
 refine fo func225 rfl ⟨rfl,rfl⟩ fun M0 w0=> ?_
 refine ac ?_
 refine ap ?_
 refine tp rfl (Cn (hf) rfl rfl) ?_
 refine TO.ex 6 rfl (fun z6=> ?_)
 refine ap ?_
 refine Tr.cn rfl ?_ ?_<;>intro h1 q1
 refine ac ?_
 refine Tr.ret (Fin.AE (Fin.Dp rfl (Br.Dz _ _) rfl ?_ rfl ?_))
 · exact O0
 · exact DA _ _
 refine ac ?_
 refine ap ?_
 refine tp rfl (Cn (hd) rfl rfl) ?_
 refine TO.ex 9 rfl (fun z9=>TO.fact 9 rfl fun hz9=> ?_)
 refine ap ?_
 refine Tr.cn rfl ?_ ?_<;>intro h2 q2
 refine ac ?_
 refine Tr.ret (Fin.AE (Fin.Dp rfl (Br.Dz _ _) rfl ?_ rfl ?_))
 · exact O0
 · exact DA _ _
 refine a2 ?_
 refine co rfl (Cn (hp) rfl rfl) ?_
 refine ac ?_
 refine ap ?_
 refine TO.ex 13 rfl (fun z13=>TO.fact 13 rfl fun AHO=> ?_)
 refine tp rfl (Ca rfl underlying241 vq) ?_
 refine ap ?_
 refine wk [15,4] rfl ?_
 refine Tr.cn rfl ?_ ?_<;>intro h3 q3
 refine ac ?_
 refine Tr.ret (Fin.AE (Fin.Dp rfl (Br.Dz _ _) rfl ?_ rfl ?_))
 · exact O0
 · exact DA _ _
 refine a2 ?_
 refine Tr.ret (Fin.Dp rfl (Br.Dz _ _) rfl ?_ rfl ?_)
 · exact Lr
 · exact DA _ _
theorem sU:IntKind.u8.wrap 0=0:=rfl
def lvI (x:Int):Nat:=if x≤0 then 0 else if x<256 then 1 else if x<65536 then 2 else if x<16777216 then 3 else if x<4294967296 then 4 else if x<1099511627776 then 5 else 6+x.toNat
theorem lO {x:Int} (h:0<x):lvI (x/256)<lvI x:=by
 unfold lvI
 repeat' split
 all_goals omega
def Jy (x h:Int):Nat:=if x=0 then (if 128≤h then 1 else 0) else lvI x+1
theorem sV {n h:Int} (h0:0≤n) (h1:n≤1099511627776):Jy (n/256) h≤400:=by
 unfold Jy lvI
 repeat' split
 all_goals omega
theorem G3 {x h:Int} {t:Nat} (h0:0≤x) (hc:x≠0∨128≤h) (hi:t+Jy x h≤400):(0≤x/256∧t+1+Jy (x/256) (IntKind.u8.wrap x)≤400)∧Jy (x/256) (IntKind.u8.wrap x)<Jy x h:=by
 have key:Jy (x/256) (IntKind.u8.wrap x)<Jy x h:=by
  unfold Jy
  by_cases hx:x=0
  ·
   subst hx
   rw [sU,if_pos AB,if_neg AB,if_pos rfl,if_pos AA];decide
  ·
   have:=lO (x:=x) AA
   rw [if_neg hx]
   by_cases hy:x/256=0
   ·
    rw [if_pos hy];have:(if 128≤IntKind.u8.wrap x then 1 else 0)≤1:=by split<;>omega
    omega
   · rw [if_neg hy];omega
 exact ⟨⟨by omega,by omega⟩,key⟩
theorem HP {P:Program} {I:Cd} {E:Env} {o:Oper} {t u:TypeId} {x y:Operand} {m:Int} (ho:o.op= .binOp .shr t x y u) (hx:VL E x (int m)) (hy:VL E y (is (.int .u64 8))) (h0:0≤m):Ae P I o E (int (m/256)):=
 Ae.same fun M w a he _=>by
  have h1:a.eval x= .int .i64 m:=hx.ev he Ar
  have h2:a.eval y= .int .u64 8:=hy.ev he Ar
  refine ⟨.int .i64 (m.fdiv 256),?_,congrArg (Value.int .i64) (Int.fdiv_eq_ediv_of_nonneg m AA)⟩
  simp only [execOp,ho,h1,h2]
  simp [eqGuard,binOp,Op.shift,IntKind.bits]
abbrev q0:Pr:=slice 4 []
theorem Lb {n:Int} (hn:0≤n∧n≤1099511627776):BD prog 263 [int n] (agg (Bh q0)):=by
 refine fo func263 rfl ⟨rfl,rfl⟩ fun M0 w0=>(Tr.seq (Tr.Ap ?_))
 refine Tl rfl rfl rfl rfl Na K_ (fun b1=> ?_)
 refine ap ?_
 refine ac ?_
 refine co rfl (Er rfl underlying3 underlying5 vq) ?_
 refine a2 ?_
 refine co rfl (HP rfl vq vq AA) ?_
 refine ac ?_
 refine Tr.block ?_
 refine Tr.MT _ (kk [2] rfl) (fun (x:Int) (h:Int) (t:List Int)=>[(4,int x),(3,slice 1 ((h::t).map fun n=>[is (.int .u8 n)]))]) (fun (x:Int) (h:Int) (t:List Int)=>Hp M0 w0 FO ([AF true b1 285 (([.int .i64 0,.slice none 0 0,.bool false,.slice none 0 0]:List Value).map is)])) (fun (x:Int) (h:Int) (t:List Int)=>0≤x∧t.length+Jy x h≤400) (fun (x:Int) (h:Int) (t:List Int)=>Jy x h) (n/256) (IntKind.u8.wrap n) ([])  (⟨by omega,by simp only [List.length_nil];have:=sV (h:=IntKind.u8.wrap n) hn.1 hn.2;omega⟩) ⟨kq,⟨_,rfl,Pr.le_trans (B0 _ _) (Pr.le_of_eq rfl)⟩,trivial⟩ (fun _ _ h=>h) ?_
 rintro x h t  ⟨hx0,hmu⟩
 refine ag ?_ ?_<;>intro h1 q1
 refine ag ?_ ?_<;>intro h2 q2
 refine ac ?_
 refine wk [35,4,3,2] rfl ?_
 refine ac ?_
 refine ap ?_
 refine tp rfl (Er rfl underlying3 underlying5 vq) ?_
 refine ap ?_
 refine TO.pad ?_
 refine TO.DQ 0 rfl rfl AB (B1 rfl rfl rfl rfl underlying241 NA bS z5 GG vq (Bq BN vq)) (fun v1=> ?_)
 refine ap ?_
 refine ac ?_
 refine co rfl (HP rfl vq vq AA) ?_
 refine ac ?_
 refine Fin.drop 0 (Fin.E9 (x/256) (IntKind.u8.wrap x) (h::t)  ((G3 hx0 AA hmu)) ⟨kq,⟨_,rfl,Pr.le_trans (Aq _ _) (Pr.le_of_eq rfl)⟩,kz⟩ (fun _ _ h=>h))
 refine ag ?_ ?_<;>intro h3 q3
 refine ML h3 rfl ?_
 refine cy h3 rfl (AD rfl underlying241 NA vq vq AA (Aa (k:=0) rfl)) ?_
 refine ag ?_ ?_<;>intro h4 q4
 refine ac ?_
 refine wk [35,4,3,2] rfl ?_
 refine ac ?_
 refine ap ?_
 refine tp rfl (Er rfl underlying3 underlying5 vq) ?_
 refine ap ?_
 refine TO.pad ?_
 refine TO.DQ 0 rfl rfl AB (B1 rfl rfl rfl rfl underlying241 NA bS z5 GG vq (Bq BN vq)) (fun v2=> ?_)
 refine ap ?_
 refine ac ?_
 refine co rfl (HP rfl vq vq AA) ?_
 refine ac ?_
 refine Fin.drop 0 (Fin.E9 (x/256) (IntKind.u8.wrap x) (h::t)  ((G3 hx0 AA hmu)) ⟨kq,⟨_,rfl,Pr.le_trans (Aq _ _) (Pr.le_of_eq rfl)⟩,kz⟩ (fun _ _ h=>h))
 refine ag ?_ ?_<;>intro h5 q5
 refine ML h5 rfl ?_
 refine cy h5 rfl (AD rfl underlying241 NA vq vq AA (Aa (k:=0) rfl)) ?_
 refine ac ?_
 refine wk [35,4,3,2] rfl ?_
 refine Tr.cn rfl ?_ ?_<;>intro h6 q6
 have R8:=h6
 refine ac ?_
 refine ap ?_
 refine tp rfl (Er rfl underlying3 underlying5 vq) ?_
 refine ap ?_
 refine TO.pad ?_
 refine TO.DQ 0 rfl rfl AB (B1 rfl rfl rfl rfl underlying241 NA bS z5 GG vq (Bq BN vq)) (fun v3=> ?_)
 refine ap ?_
 refine ac ?_
 refine co rfl (HP rfl vq vq AA) ?_
 refine ac ?_
 refine Fin.drop 0 (Fin.E9 (x/256) (IntKind.u8.wrap x) (h::t)  ((G3 hx0 AA hmu)) ⟨kq,⟨_,rfl,Pr.le_trans (Aq _ _) (Pr.le_of_eq rfl)⟩,kz⟩ (fun _ _ h=>h))
 have R8:=h6
 refine ac ?_
 refine ap ?_
 refine Tr.ret (Fin.CV rfl (AO.cell 0 rfl rfl DL Cc rfl Lr) ?_)
 · exact Jd
 refine ac ?_
 refine wk [35,4,3,2] rfl ?_
 refine ac ?_
 refine ap ?_
 refine Tr.ret (Fin.CV rfl (AO.cell 0 rfl rfl DL Cc rfl Lr) ?_)
 · exact Jd
 refine ag ?_ ?_<;>intro h7 q7
 refine ML h7 rfl ?_
 refine cy h7 rfl (AD rfl underlying241 NA vq vq AA (Aa (k:=0) rfl)) ?_
 refine ac ?_
 refine wk [35,4,3,2] rfl ?_
 refine Tr.cn rfl ?_ ?_<;>intro h8 q8
 have R8:=h8
 refine ac ?_
 refine ap ?_
 refine tp rfl (Er rfl underlying3 underlying5 vq) ?_
 refine ap ?_
 refine TO.pad ?_
 refine TO.DQ 0 rfl rfl AB (B1 rfl rfl rfl rfl underlying241 NA bS z5 GG vq (Bq BN vq)) (fun v4=> ?_)
 refine ap ?_
 refine ac ?_
 refine co rfl (HP rfl vq vq AA) ?_
 refine ac ?_
 refine Fin.drop 0 (Fin.E9 (x/256) (IntKind.u8.wrap x) (h::t)  ((G3 hx0 AA hmu)) ⟨kq,⟨_,rfl,Pr.le_trans (Aq _ _) (Pr.le_of_eq rfl)⟩,kz⟩ (fun _ _ h=>h))
 have R8:=h8
 refine ac ?_
 refine ap ?_
 refine Tr.ret (Fin.CV rfl (AO.cell 0 rfl rfl DL Cc rfl Lr) ?_)
 · exact Jd
 refine ac ?_
 refine wk [35,4,3,2] rfl ?_
 refine ac ?_
 refine ap ?_
 refine Tr.ret (Fin.CV rfl (AO.cell 0 rfl rfl DL Cc rfl Lr) ?_)
 · exact Jd
 refine ag ?_ ?_<;>intro h9 q9
 refine ML h9 rfl ?_
 refine cy h9 rfl (AD rfl underlying241 NA vq vq AA (Aa (k:=0) rfl)) ?_
 refine ag ?_ ?_<;>intro h10 Q4
 refine ac ?_
 refine wk [35,4,3,2] rfl ?_
 refine ac ?_
 refine ap ?_
 refine tp rfl (Er rfl underlying3 underlying5 vq) ?_
 refine ap ?_
 refine TO.pad ?_
 refine TO.DQ 0 rfl rfl AB (B1 rfl rfl rfl rfl underlying241 NA bS z5 GG vq (Bq BN vq)) (fun v5=> ?_)
 refine ap ?_
 refine ac ?_
 refine co rfl (HP rfl vq vq AA) ?_
 refine ac ?_
 refine Fin.drop 0 (Fin.E9 (x/256) (IntKind.u8.wrap x) (h::t)  ((G3 hx0 AA hmu)) ⟨kq,⟨_,rfl,Pr.le_trans (Aq _ _) (Pr.le_of_eq rfl)⟩,kz⟩ (fun _ _ h=>h))
 refine ag ?_ ?_<;>intro h11 SK
 refine ML h11 rfl ?_
 refine cy h11 rfl (AD rfl underlying241 NA vq vq AA (Aa (k:=0) rfl)) ?_
 refine ac ?_
 refine wk [35,4,3,2] rfl ?_
 refine Tr.cn rfl ?_ ?_<;>intro h12 Vt
 have R8:=h12
 refine ac ?_
 refine ap ?_
 refine tp rfl (Er rfl underlying3 underlying5 vq) ?_
 refine ap ?_
 refine TO.pad ?_
 refine TO.DQ 0 rfl rfl AB (B1 rfl rfl rfl rfl underlying241 NA bS z5 GG vq (Bq BN vq)) (fun v6=> ?_)
 refine ap ?_
 refine ac ?_
 refine co rfl (HP rfl vq vq AA) ?_
 refine ac ?_
 refine Fin.drop 0 (Fin.E9 (x/256) (IntKind.u8.wrap x) (h::t)  ((G3 hx0 AA hmu)) ⟨kq,⟨_,rfl,Pr.le_trans (Aq _ _) (Pr.le_of_eq rfl)⟩,kz⟩ (fun _ _ h=>h))
 have R8:=h12
 refine ac ?_
 refine ap ?_
 refine Tr.ret (Fin.CV rfl (AO.cell 0 rfl rfl DL Cc rfl Lr) ?_)
 · exact Jd
 refine ac ?_
 refine wk [35,4,3,2] rfl ?_
 refine ac ?_
 refine ap ?_
 refine Tr.ret (Fin.CV rfl (AO.cell 0 rfl rfl DL Cc rfl Lr) ?_)
 · exact Jd
 refine ag ?_ ?_<;>intro JR Yv
 refine ML JR rfl ?_
 refine cy JR rfl (AD rfl underlying241 NA vq vq AA (Aa (k:=0) rfl)) ?_
 refine ac ?_
 refine wk [35,4,3,2] rfl ?_
 refine Tr.cn rfl ?_ ?_<;>intro Jm lP
 have R8:=Jm
 refine ac ?_
 refine ap ?_
 refine tp rfl (Er rfl underlying3 underlying5 vq) ?_
 refine ap ?_
 refine TO.pad ?_
 refine TO.DQ 0 rfl rfl AB (B1 rfl rfl rfl rfl underlying241 NA bS z5 GG vq (Bq BN vq)) (fun v7=> ?_)
 refine ap ?_
 refine ac ?_
 refine co rfl (HP rfl vq vq AA) ?_
 refine ac ?_
 refine Fin.drop 0 (Fin.E9 (x/256) (IntKind.u8.wrap x) (h::t)  ((G3 hx0 AA hmu)) ⟨kq,⟨_,rfl,Pr.le_trans (Aq _ _) (Pr.le_of_eq rfl)⟩,kz⟩ (fun _ _ h=>h))
 have R8:=Jm
 refine ac ?_
 refine ap ?_
 refine Tr.ret (Fin.CV rfl (AO.cell 0 rfl rfl DL Cc rfl Lr) ?_)
 · exact Jd
 refine ac ?_
 refine wk [35,4,3,2] rfl ?_
 refine ac ?_
 refine ap ?_
 refine Tr.ret (Fin.CV rfl (AO.cell 0 rfl rfl DL Cc rfl Lr) ?_)
 · exact Jd
theorem U4 {s:List UInt8} (hs:s.length≤1000):BD prog 261 [str s] (agg (Bh q0)):=by
 refine fo func261 rfl ⟨rfl,rfl⟩ fun M0 w0=>(Tr.seq (Tr.Ap ?_))
 refine Tl rfl rfl rfl rfl Na K_ (fun b1=> ?_)
 refine ap ?_
 refine ap ?_
 refine tp rfl (kK rfl underlying9 underlying241 underlying5 vq Fu) ?_
 refine ap ?_
 refine Tr.ret (Fin.CV rfl (AO.cell 0 rfl rfl DL Cc rfl Lr) ?_)
 · exact BT ⟨DA _ _,Ft (m:=s.length) AA (YF (f:=fun c:UInt8=>((c.toNat:Nat):Int))),Aw _ Lr,AP 4,trivial⟩
theorem sW {b:Bool}  :BD prog 265 [bool b] (agg (Bh q0)):=by
 refine fo func265 rfl ⟨rfl,rfl⟩ fun M0 w0=>(Tr.seq (Tr.Ap ?_))
 refine Tl rfl rfl rfl rfl Na K_ (fun b1=> ?_)
 refine ap ?_
 refine an ?_ ?_<;>intro h1 q1
 refine ap ?_
 refine tp rfl (Al (rows:=[(0,[_]),(1,[_])]) rfl kJ K_ ⟨⟨rfl,OJ⟩,⟨⟨rfl,⟨_,rfl,Pr.le_trans (B0 _ _) (Af _)⟩⟩,trivial⟩⟩ rfl) ?_
 refine ap ?_
 refine Tr.ret (Fin.AE (Fin.CV rfl (AO.cell 0 rfl rfl DL Cc rfl Lr) ?_))
 · exact aD
 refine ac ?_
 refine ap ?_
 refine tp rfl (Al (rows:=[(0,[_]),(1,[_])]) rfl kJ K_ ⟨⟨rfl,OJ⟩,⟨⟨rfl,⟨_,rfl,Pr.le_trans (B0 _ _) (Af _)⟩⟩,trivial⟩⟩ rfl) ?_
 refine ap ?_
 refine Tr.ret (Fin.CV rfl (AO.cell 0 rfl rfl DL Cc rfl Lr) ?_)
 · exact aD
theorem Nh {m:Nat} {q:Pr} [One q]  (hm:m≤20) (ih:m=0∨BD prog 291 [q] q):BD prog 291 [slice 4 (List.replicate m (Bh q))] (slice 4 (List.replicate m (Bh q))):=by
 refine BD.of func291 rfl rfl Ao fun M0 w0=> ?_
 have hlr:(List.replicate m (Bh q)).length=m:=List.length_replicate
 refine Tr.seq (Tr.Aj (cm rfl (Ch.nil (Fin.go (Tr.seq (Tr.Aj (cm rfl (Ch.nil (Fin.go (Tr.seq (Tr.seq (Tr.Aj (cm rfl ?_)))))))))))))
 refine Ch.nil (Fin.go (Tr.block (Tr.B6 285 4 (Tr.ET [(0,_)] ⟨ke rfl,trivial⟩ (fun k v=>[(4,int ((k:Nat):Int)),(3,Ab v (slice 4 (List.replicate k (Bh q))))]) (fun k v=>Hp M0 w0 FO ([As 285 4 v])) (fun k:Nat=>k≤((List.replicate m (Bh q)).length)) (fun k:Nat=>((List.replicate m (Bh q)).length)-k) 0 (.slice none 0 0) (Nat.zero_le _) ⟨ke rfl,⟨_,rfl,Bl rfl⟩,trivial⟩ (fun _ _ h=>h) ?_))))
 rintro k v BV
 refine Tr.seq (Tr.seq (Tr.Aj (cm rfl (cm rfl (co rfl (Ca rfl underlying283 (vl rfl)) (co rfl (ki rfl rfl rfl rfl) (Ch.nil (Fin.go ?_))))))))
 refine Tr.cn rfl ?_ ?_<;>intro h1 q1
 have Ah:k<((List.replicate m (Bh q)).length):=AH h1
 have hkm:k<m:=by simpa using Ah
 have ih2:=ih.resolve_left AA
 refine Tr.skip (Fin.go (Tr.seq (Tr.block (Tr.seq (Tr.Ap (tm rfl (tm rfl (tp rfl (AD rfl underlying283 Cc (vl rfl) (vl rfl) AA (Jx hkm)) (tp rfl (AQ rfl DL Cc (vl rfl) rfl rfl) ?_)))))))))
 refine Tl rfl rfl rfl rfl Na K_ (fun b1=> ?_)
 refine TO.AK 0 rfl rfl rfl (vl rfl) (Va rfl) rfl Cc rfl rfl (TO.nil (Fin.go (Tr.seq (Tr.Ap (tp rfl (AM (xs:=[]) (rows:=[]) rfl rfl underlying241 NA z5 rfl AB trivial AB) (tp rfl (Ac rfl Ul (vl rfl)) (TO.rd 0 rfl rfl rfl AB (BE rfl kI (vl rfl) rfl) ?_)))))))
 refine TO.ex 18 rfl (fun z18=>TO.fact 18 rfl fun AFv=> ?_)
 refine TO.pad ?_
 refine TO.DQ 0 rfl rfl AB (B1 rfl rfl rfl rfl underlying241 NA bS z5 (Kf rfl) (vl rfl) (Bq BN (vl rfl))) (fun v1=> ?_)
 refine tp rfl (Ac rfl Ul (vl rfl)) (TO.Dv 1 rfl rfl (A9 rfl rfl (vl rfl) (Vo rfl) ABD rfl Ao rfl) (TO.nil (Fin.go (UY 0 3 4 5 rfl (Tr.seq (Tr.Ap (tp rfl (Ac rfl MU (vl rfl)) (TO.rd 1 rfl rfl rfl AB (BE rfl Uk (vl rfl) rfl) (tp rfl (AV rfl (ih2) ⟨ke rfl,trivial⟩) (tp rfl (Ac rfl MU (vl rfl)) (TO.Dv 1 rfl rfl (A9 rfl rfl (vl rfl) (Vo rfl) ABF rfl Ao rfl) (TO.nil (Fin.go (Tr.Ap ?_))))))))))))))
 refine tm rfl (TO.rd 1 rfl rfl rfl AB (CU rfl DL Cc (vl rfl) rfl rfl) (tp rfl (AM (xs:=[.tmp 26]) (rows:=[Bh q]) rfl rfl underlying283 Cc Na rfl AB ⟨⟨Am,VL.le (vl rfl) (Pr.le_trans (BT (qs:=Bh q) ⟨Lr,Ft (m:=z18) AA (Pr.le_trans (Aq _ _) (Pr.le_of_eq rfl)),Lr,Lr,trivial⟩) (Ad _))⟩,trivial⟩ AB) ?_))
 refine TO.DQ 2 rfl rfl AB (B1 rfl rfl rfl rfl underlying283 Cc vM Na (Kb rfl) (Kf rfl) (Ax BN (Ka rfl))) (fun v2=> ?_)
 refine tm rfl (TO.nil (Fin.block (Fin.go (Tr.drop 1 (Tr.Aj (cm rfl (Kx rfl rfl rfl rfl AA (cm rfl (Ch.nil (Fin.drop 0 (Fin.DD (k+1) v2 (⟨Ah,by omega⟩) ⟨⟨_,rfl,AG k⟩,⟨_,rfl,BC (by rw [bu])⟩,ke rfl,trivial⟩ (fun _ _ h=>h))))))))))))
 have BP:k=((List.replicate m (Bh q)).length):=by have:=AJ h1;omega
 refine Tr.exit (Fin.AW (Fin.AW (Fin.Au (Fin.go (Tr.seq (Tr.Aj (cm rfl (cm rfl (Ch.nil (Fin.go (Tr.ret (Fin.Kw rfl (Br.Dz _ _) rfl ?_))))))))))))
 · exact Pr.le_trans (Aq _ _) (Pr.le_of_eq (by rw [BP,hlr]))
theorem U5 {m:Nat} {q:Pr}  (hm:m≤20) (hc:BD prog 291 [slice 4 (List.replicate m (Bh q))] (slice 4 (List.replicate m (Bh q)))):BD prog 262 [slice 4 (List.replicate m (Bh q))] (agg (Bh (Jw (Bh q)))):=by
 refine fo func262 rfl ⟨rfl,rfl⟩ fun M0 w0=>(Tr.seq (Tr.Ap ?_))
 refine Tl rfl rfl rfl rfl Na K_ (fun b1=> ?_)
 refine ap ?_
 refine ap ?_
 refine tp rfl (Cn (hc) rfl rfl) ?_
 refine ap ?_
 refine Tr.ret (Fin.CV rfl (AO.cell 0 rfl rfl DL Cc rfl Lr) ?_)
 · exact BT ⟨DA _ _,Ft (m:=0) AA (AP 1),Aw _ Lr,Aw m (A7 hm Lr),trivial⟩
structure ID.vf (c:ID):Prop where
 s0:0≤c.Js
 s1:c.Js≤1099511627776
 iss:named c.Nd=true
 sub:named c.KZ=true
 nm:G0 c.names=true
 key:K7 c.SI c.LA 2=true
 k0:0≤c.CS
 k1:c.CS≤2147483648
 hash:K7 c.Ys c.Q0 1=true
 sk0:0≤c.sI
 sk1:c.sI≤2147483648
 su0:0≤c.sJ
 su1:c.sJ<4294967296
 f0:0≤c.from_
 ft:c.from_≤c.Nf
 t1:c.Nf≤40000
 p0:0≤c.path
 p1:c.path≤8
 ap:c.auth=true∨c.path=0
theorem JA {c:ID} (hv:D6 c=true):c.vf:=by
 simp only [D6,Hq,xY,Bool.and_eq_true,Bool.or_eq_true,decide_eq_true_eq,beq_iff_eq] at hv
 obtain ⟨⟨⟨⟨⟨⟨⟨h1,h2⟩,h3⟩,h4⟩,h5⟩,⟨⟨⟨⟨h6,⟨h7,h8⟩⟩,h9⟩,⟨h10,h11⟩⟩,⟨h12,JR⟩⟩⟩,⟨⟨Jm,WJ⟩,h16⟩⟩,⟨⟨Og,R5⟩,h19⟩⟩:=hv
 exact ⟨h1,h2,h3,h4,h5,h6,h7,h8,h9,h10,h11,h12,JR,Jm,WJ,h16,Og,R5,h19⟩
theorem b_ {c:ID} (h:c.vf):D6 c=true:=by
 simp only [D6,Hq,xY,Bool.and_eq_true,Bool.or_eq_true,decide_eq_true_eq,beq_iff_eq]
 exact ⟨⟨⟨⟨⟨⟨⟨h.s0,h.s1⟩,h.iss⟩,h.sub⟩,h.nm⟩,⟨⟨⟨⟨h.key,⟨h.k0,h.k1⟩⟩,h.hash⟩,⟨h.sk0,h.sk1⟩⟩,⟨h.su0,h.su1⟩⟩⟩,⟨⟨h.f0,h.ft⟩,h.t1⟩⟩,⟨⟨h.p0,h.p1⟩,h.ap⟩⟩
theorem Yx {a b k:Int} (h:K7 a b k=true):decide (Dj a b>0)=true∧(Ek a).kind=k:=by
 unfold K7 at h;simpa using h
theorem U6 {l:List (List UInt8)} {k:Nat} {s:List UInt8} (h:nameAt l k=true) (hs:l[k]? =some s):named s=true:=by
 unfold nameAt at h;rw [hs] at h;simp at h;exact h.1
theorem cA {l:List (List UInt8)} {k:Nat} {s y:List UInt8} (h:nameAt l k=true) (hs:l[k]? =some s) (hy:l[k-1]? =some y) (hk:0<k):decide (Lib.compareBytes y s= -1)=true:=by
 unfold nameAt at h;rw [hs,hy] at h;simp at h
 rcases h.2 with h2|h2
 · omega
 · exact MB
theorem TD {c:ID} (hv:D6 c=true):BD prog 188 [agg (EL c)] (int 0):=by
 refine fo func188 rfl ⟨rfl,rfl⟩ fun M0 w0=> ?_
 obtain ⟨hs0,hs1,xe,hsub,hnm,hkey,hk0,hk1,vX,AFw,AFx,AFy,AFz,iw,hft,ht1,hp0,R6,hap⟩:=JA hv
 obtain ⟨ACR,ACS⟩:=Yx hkey
 obtain ⟨hh1,hh2⟩:=Yx vX
 have Ni:=hnm
 unfold G0 at Ni
 rw [Bool.and_eq_true,B7,decide_eq_true_eq] at Ni
 obtain ⟨hall,ACT⟩:=Ni
 refine ac ?_
 refine ag ?_ ?_<;>intro h1 q1
 exfalso;have:=q1;omega
 refine ag ?_ ?_<;>intro h2 q2
 exfalso;have:=q2;omega
 refine ac ?_
 refine cy h2 rfl (Cn (Gg) rfl rfl) ?_
 refine ag ?_ ?_<;>intro h3 q3
 rw [xe] at h3;exact absurd h3 AB
 refine ac ?_
 refine cy h3 rfl (Cn (Gg) rfl rfl) ?_
 refine ag ?_ ?_<;>intro h4 q4
 rw [hsub] at h4;exact absurd h4 AB
 refine ac ?_
 refine cy h4 rfl (Cn (Jv) rfl rfl) ?_
 refine ag ?_ ?_<;>intro h5 q5
 rw [ACR,ACS] at h5;exact absurd h5 AB
 refine ag ?_ ?_<;>intro h6 q6
 exfalso;have:=q6;omega
 refine ac ?_
 refine wk [39,1] rfl ?_
 refine Tr.cn rfl ?_ ?_<;>intro h7 q7
 exfalso;have:=q7;omega
 refine a2 ?_
 refine co rfl (Cn (Ju) rfl rfl) ?_
 refine ag ?_ ?_<;>intro h8 q8
 rw [hh1] at h8;exact absurd h8 AB
 refine ac ?_
 refine cy h8 rfl (Cn (PM) rfl rfl) ?_
 refine ag ?_ ?_<;>intro h9 q9
 rw [hh2] at h9;exact absurd h9 AB
 refine ag ?_ ?_<;>intro h10 Q4
 exfalso;have:=Q4;omega
 refine ag ?_ ?_<;>intro h11 SK
 exfalso;have:=SK;omega
 refine ac ?_
 refine wk [67,1] rfl ?_
 refine Tr.cn rfl ?_ ?_<;>intro h12 Vt
 exfalso;have:=Vt;omega
 refine ac ?_
 refine ag ?_ ?_<;>intro JR Yv
 exfalso;have:=Yv;omega
 refine ag ?_ ?_<;>intro Jm lP
 exfalso;have:=lP;omega
 refine ag ?_ ?_<;>intro WJ q15
 refine ag ?_ ?_<;>intro h16 q16
 exfalso;have:=q16;simp_all
 refine ac ?_
 refine wk [91,1] rfl ?_
 refine Tr.cn rfl ?_ ?_<;>intro Og q17
 exfalso;have:=q17;omega
 refine a2 ?_
 refine Tr.block (Tr.BA _ (kk [1] rfl) (fun k:Nat=>[(3,int ((k:Nat):Int))]) (fun k:Nat=>k≤(c.names).length) (fun k:Nat=>(c.names).length-k) 0 (Nat.zero_le _) kz ?_)
 rintro k BV
 refine an ?_ ?_<;>intro R5 q18
 have Ah:k<(c.names).length:=AH R5
 obtain ⟨s,Ai⟩:=at_ Ah
 have hat:=hall k AA
 have hna:=U6 hat Ai
 refine a2 ?_
 refine co rfl (AD rfl underlying127 NT vq vq AA (Aa Ai)) (co rfl (GU rfl Oh rfl) (co rfl (Cn (Gg) rfl rfl) ?_))
 refine ag ?_ ?_<;>intro h19 q19
 exfalso;rw [hna] at h19;exact absurd h19 AB
 refine ag ?_ ?_<;>intro R7 q20
 have Lc:0<k:=by simpa using R7
 obtain ⟨y,hy⟩:=at_ (l:=c.names) (k:=k-1) AA
 have hlt:=cA hat Ai hy Lc
 refine ac ?_
 refine cy R7 rfl (AD rfl underlying127 NT vq vq AA LM) ?_
 refine ac ?_
 refine cy R7 rfl (AD rfl underlying127 NT vq vq AA (Aa Ai)) (cy R7 rfl (GU rfl Oh rfl) (cy R7 rfl (Qm rfl vq vq) ?_))
 refine ac ?_
 refine wk [123,3,1] rfl ?_
 refine Tr.cn rfl ?_ ?_<;>intro bk q21
 exfalso;rw [hlt] at bk;exact absurd bk AB
 refine a2 ?_
 exact Fin.AL (k+1) ⟨Ah,by omega⟩ ⟨⟨_,rfl,AG k⟩,kz⟩
 refine ac ?_
 refine wk [123,3,1] rfl ?_
 refine a2 ?_
 exact Fin.AL (k+1) ⟨Ah,by omega⟩ ⟨⟨_,rfl,AG k⟩,kz⟩
 have BP:k=(c.names).length:=by have:=AJ R5;omega
 refine ac ?_
 refine ag ?_ ?_<;>intro h22 q22
 exfalso;have:=q22;omega
 refine ag ?_ ?_<;>intro h23 q23
 exfalso;have:=q23;omega
 refine ag ?_ ?_<;>intro NG q24
 exfalso;have:=q24;omega
 refine ac ?_
 refine wk [145] rfl ?_
 refine Tr.cn rfl ?_ ?_<;>intro h25 q25
 exfalso;have:=q25;omega
 refine a3 ?_
 · exact Lr
 refine ac ?_
 refine wk [91,1] rfl ?_
 refine Tr.cn rfl ?_ ?_<;>intro h26 q26
 exfalso;have:=q26;omega
 refine a2 ?_
 refine Tr.block (Tr.BA _ (kk [1] rfl) (fun k:Nat=>[(3,int ((k:Nat):Int))]) (fun k:Nat=>k≤(c.names).length) (fun k:Nat=>(c.names).length-k) 0 (Nat.zero_le _) kz ?_)
 rintro k BV
 refine an ?_ ?_<;>intro h27 q27
 have Ah:k<(c.names).length:=AH h27
 obtain ⟨s,Ai⟩:=at_ Ah
 have hat:=hall k AA
 have hna:=U6 hat Ai
 refine a2 ?_
 refine co rfl (AD rfl underlying127 NT vq vq AA (Aa Ai)) (co rfl (GU rfl Oh rfl) (co rfl (Cn (Gg) rfl rfl) ?_))
 refine ag ?_ ?_<;>intro h28 q28
 exfalso;rw [hna] at h28;exact absurd h28 AB
 refine ag ?_ ?_<;>intro iy q29
 have Lc:0<k:=by simpa using iy
 obtain ⟨y,hy⟩:=at_ (l:=c.names) (k:=k-1) AA
 have hlt:=cA hat Ai hy Lc
 refine ac ?_
 refine cy iy rfl (AD rfl underlying127 NT vq vq AA LM) ?_
 refine ac ?_
 refine cy iy rfl (AD rfl underlying127 NT vq vq AA (Aa Ai)) (cy iy rfl (GU rfl Oh rfl) (cy iy rfl (Qm rfl vq vq) ?_))
 refine ac ?_
 refine wk [123,3,1] rfl ?_
 refine Tr.cn rfl ?_ ?_<;>intro h30 q30
 exfalso;rw [hlt] at h30;exact absurd h30 AB
 refine a2 ?_
 exact Fin.AL (k+1) ⟨Ah,by omega⟩ ⟨⟨_,rfl,AG k⟩,kz⟩
 refine ac ?_
 refine wk [123,3,1] rfl ?_
 refine a2 ?_
 exact Fin.AL (k+1) ⟨Ah,by omega⟩ ⟨⟨_,rfl,AG k⟩,kz⟩
 have BP:k=(c.names).length:=by have:=AJ h27;omega
 refine ac ?_
 refine ag ?_ ?_<;>intro h31 q31
 exfalso;have:=q31;omega
 refine ag ?_ ?_<;>intro h32 q32
 exfalso;have:=q32;omega
 refine ag ?_ ?_<;>intro h33 q33
 exfalso;have:=q33;omega
 refine ac ?_
 refine wk [145] rfl ?_
 refine Tr.cn rfl ?_ ?_<;>intro h34 q34
 exfalso;have:=q34;omega
 refine a3 ?_
 · exact Lr
abbrev sX:Pr:=Cp.ex fun n:Int=>fact (0≤n∧n<4294967296) (is (.int .u32 n))
abbrev xg:Pr:=Cp.ex fun n:Int=>fact (0≤n∧n<4294967296) (int n)
theorem sY:Pr.le sX (GW .u32):=fun _ _ _ ⟨n,_,h⟩=>⟨n,h⟩
section
variable {P:Program} {I:Cd} {E:Env} {o:Oper}
theorem lQ {s t:TypeId} {x:Operand} {k k':IntKind} (ho:o.op= .convert s t x) (hs:P.underlying s=some (.int k)) (ht:P.underlying t=some (.int k')) (hx:VL E x (GW k)):Ae P I o E (GW k'):=
 Ae.same fun M w a he _=>by
  obtain ⟨n,h1⟩:=hx.ev he Ar
  have h1:a.eval x= .int k n:=h1
  refine ⟨.int k' (k'.wrap n),?_,_,rfl⟩
  simp [execOp,ho,h1,convert,run_underlying hs,run_underlying ht,Conv.intToInt,Sem.run_bind]
theorem sZ {t u:TypeId} {x y:Operand} (ho:o.op= .binOp .mul t x y u) (hx:VL E x (GW .u32)) (hy:VL E y (GW .u32)):Ae P I o E sX:=
 Ae.same fun M w a he _=>by
  obtain ⟨m,h1⟩:=hx.ev he Ar
  obtain ⟨n,h2⟩:=hy.ev he Ar
  have h1:a.eval x= .int .u32 m:=h1
  have h2:a.eval y= .int .u32 n:=h2
  refine ⟨.int .u32 (IntKind.u32.wrap (m*n)),by simp [execOp,ho,h1,h2,eqGuard,binOp,Op.intArith],_,?_,rfl⟩
  rw [IntKind.wrap_u32];omega
theorem fS {s t:TypeId} {x:Operand} (ho:o.op= .convert s t x) (hs:P.underlying s=some (.int .u32)) (ht:P.underlying t=some (.int .i64)) (hx:VL E x sX):Ae P I o E xg:=
 Ae.same fun M w a he _=>by
  obtain ⟨n,hn,h1⟩:=hx.ev he Ar
  have h1:a.eval x= .int .u32 n:=h1
  refine ⟨.int .i64 (IntKind.i64.wrap n),?_,n,hn,by rw [Gd IJ];rfl⟩
  simp [execOp,ho,h1,convert,run_underlying hs,run_underlying ht,Conv.intToInt,Sem.run_bind]
end
theorem BD.Jw {P:Program} {f:FuncId} {row:List Pr} (h:∀m,m≤20→BD P f [slice 4 (List.replicate m row)] (slice 4 (List.replicate m row))):BD P f [Go.Proofs.YtmocaapoeefgkaaGreatDoor.Jw row] (Go.Proofs.YtmocaapoeefgkaaGreatDoor.Jw row):=by
 refine ⟨(h 0 AA).1,fun M w vs hb hv=> ?_⟩
 match vs,hv with
 |[u0],bw=>
  obtain ⟨⟨m,hm,h0⟩,_⟩:=bw
  exact ((h m hm).2 M w [u0] hb ⟨h0,trivial⟩).mono fun e w' ⟨v,h1,h2,h3⟩=>⟨v,h1,⟨m,hm,h2⟩,h3⟩
theorem BD.Em {P:Program} {f:FuncId} {B:Nat} {res:Pr} (h:∀m,m≤B→BD P f [bt m] res):BD P f [Go.Proofs.YtmocaapoeefgkaaGreatDoor.Em B] res:=by
 refine ⟨(h 0 AA).1,fun M w vs hb hv=> ?_⟩
 match vs,hv with
 |[u0],bw=>
  obtain ⟨⟨m,hm,h0⟩,_⟩:=bw
  exact (h m hm).2 M w [u0] hb ⟨h0,trivial⟩
abbrev NB:Pr:=Jw (Bh q0)
abbrev qA2:Pr:=Jw (Bh NB)
theorem OM:Pr.le q0 NB:=Aw 0 (A7 AA (Pr.le_refl _))
theorem rc0:BD Tryz.prog 291 [q0] q0:=Nh (m:=0) (q:=q0) AA (.inl rfl)
theorem rc1 (m:Nat) (hm:m≤20):BD Tryz.prog 291 [slice 4 (List.replicate m (Bh q0))] (slice 4 (List.replicate m (Bh q0))):=Nh hm (.inr rc0)
theorem rc2 (m:Nat) (hm:m≤20):BD Tryz.prog 291 [slice 4 (List.replicate m (Bh NB))] (slice 4 (List.replicate m (Bh NB))):=Nh hm (.inr (BD.Jw rc1))
theorem rf0:BD Tryz.prog 258 [agg (Bh q0)] EJ:=BD.lN fun t b n hb=>Ng (m:=0) (q:=q0) hb AA (.inl rfl)
theorem rf1:BD Tryz.prog 258 [agg (Bh NB)] EJ:=BD.Bh fun t b n m hb hm=>Ng hb hm (.inr rf0)
theorem rf2:BD Tryz.prog 258 [agg (Bh qA2)] EJ:=BD.Bh fun t b n m hb hm=>Ng hb hm (.inr rf1)
theorem rd0:BD Tryz.prog 259 [agg (Bh q0)] (La 1):=BD.lN fun t b n hb=>Q2 (m:=0) (q:=q0) (D:=0) hb AA AA (.inl rfl)
theorem rd1:BD Tryz.prog 259 [agg (Bh NB)] (La 2):=BD.Bh fun t b n m hb hm=>Q2 hb hm AA (.inr rd0)
theorem rd2:BD Tryz.prog 259 [agg (Bh qA2)] (La 3):=BD.Bh fun t b n m hb hm=>Q2 hb hm AA (.inr rd1)
theorem rp0:BD Tryz.prog 260 [agg (Bh q0)] (Em 2002):=BD.lN fun t b n hb=>Yw (m:=0) (q:=q0) (B:=0) hb AA AA (.inl rfl)
theorem rp1:BD Tryz.prog 260 [agg (Bh NB)] (Em 82082):=BD.Bh fun t b n m hb hm=>Yw (B:=2002) hb hm AA (.inr rp0)
theorem rp2:BD Tryz.prog 260 [agg (Bh qA2)] (Em 3285282):=BD.Bh fun t b n m hb hm=>Yw (B:=82082) hb hm AA (.inr rp1)
theorem rE2:BD Tryz.prog 225 [agg (Bh qA2)] (EA [Em 3285282,GW .i64]):=fR rf2 rd2 rp2
structure ID.Yy (c:ID):Prop where
 Js:c.Js≤1099511627776
 CS:c.CS≤2147483648
 SI:0≤c.SI∧c.SI≤40000
 LA:0≤c.LA∧c.LA≤40000
 Ys:0≤c.Ys∧c.Ys≤40000
 Q0:0≤c.Q0∧c.Q0≤40000
theorem Kg {s:List UInt8} (h:named s=true):s.length≤32:=by unfold named at h;simp at h;omega
theorem cB {a b:Int} (ha:0≤a∧a≤40000) (hb:0≤b∧b≤40000):BD prog 264 [agg [int a,int b]] (agg (Bh NB)):=by
 refine fo func264 rfl ⟨rfl,rfl⟩ fun M0 w0=>(Tr.seq (Tr.Ap (tp rfl (Bn rfl (Va rfl)) ?_)))
 refine Tl rfl rfl rfl rfl Na K_ (fun b1=> ?_)
 refine ap ?_
 refine Tr.seq (Tr.rx ?_)
 refine ay ?_
 refine xo rfl (fun _=>Cn (Lb AA) rfl rfl) ?_
 refine ay ?_
 refine xo rfl (fun _=>Cn (Lb AA) rfl rfl) (xo rfl (fun _=>AM (xs:=[.tmp 5,.tmp 8]) (rows:=[_,_]) rfl rfl underlying283 Cc Na rfl AB ⟨⟨Am,(Va rfl)⟩,⟨⟨Am,(Va rfl)⟩,trivial⟩⟩ AB) ?_)
 refine xo rfl (fun _=>AV rfl (U5 (m:=2) (q:=q0) AA (rc1 _ AA)) ⟨(Kf rfl),trivial⟩) ?_
 refine Cx.Dv 0 rfl rfl (A9 rfl rfl (vl rfl) (Va rfl) Cc rfl Ao rfl) ?_
 refine Cx.nil ⟨by kernel_rfl,?_⟩
 refine BO.done al1 (Fin.go (Tr.ret (Fin.CV rfl (AO.cell 0 rfl rfl DL Cc rfl Lr) ?_)))
 · exact Lr
theorem Wm {c:ID} (hv:D6 c=true) (ht:c.Yy):BD prog 226 [agg (EL c)] (agg (Bh qA2)):=by
 refine fo func226 rfl ⟨rfl,rfl⟩ fun M0 w0=> ?_
 obtain ⟨hs0,hs1,xe,hsub,hnm,hkey,hk0,hk1,vX,AFw,AFx,AFy,AFz,iw,hft,ht1,hp0,R6,hap⟩:=JA hv
 obtain ⟨g1,g2,g3,g4,g5,g6⟩:=ht
 have Ni:=hnm
 unfold G0 at Ni
 rw [Bool.and_eq_true,B7,decide_eq_true_eq] at Ni
 obtain ⟨hall,ACT⟩:=Ni
 have bC:=Kg xe
 have hlj:=Kg hsub
 refine Tr.seq (Tr.Ap (tp rfl (Bn rfl (Va rfl)) ?_))
 refine Tl rfl rfl rfl rfl Na K_ (fun b1=> ?_)
 refine ap ?_
 refine a2 ?_
 refine Tr.block (Tr.B6 285 4 (Tr.ET _ (kk [2,1] rfl) (fun k v=>[(4,int ((k:Nat):Int)),(3,Ab v (slice 4 (List.replicate k (Bh q0))))]) (fun k v=>Hp M0 w0 FO ([As 285 4 v,AF true b1 285 (([.int .i64 0,.slice none 0 0,.bool false,.slice none 0 0]:List Value).map is)])) (fun k:Nat=>k≤(c.names).length) (fun k:Nat=>(c.names).length-k) 0 (.slice none 0 0) (Nat.zero_le _) ⟨ke rfl,⟨_,rfl,Bl rfl⟩,trivial⟩ (fun _ _ h=>h) ?_))
 rintro k v BV
 refine an ?_ ?_<;>intro h1 q1
 have Ah:k<(c.names).length:=AH h1
 obtain ⟨s,Ai⟩:=at_ Ah
 have hsn:=Kg (U6 (hall k AA) Ai)
 refine ac ?_
 refine ap ?_
 refine tp rfl (AD rfl underlying127 NT (vl rfl) (vl rfl) AA CF) ?_
 refine tp rfl (GU rfl Oh rfl) (tp rfl (Cn (U4 AA) rfl rfl) (tp rfl (AM (xs:=[.tmp 18]) (rows:=[_]) rfl rfl underlying283 Cc Na rfl AB ⟨⟨Am,(Va rfl)⟩,trivial⟩ AB) ?_))
 refine TO.DQ 0 rfl rfl AB (B1 rfl rfl rfl rfl underlying283 Cc vM Na (Kb rfl) (Kf rfl) (Ax BN (Ka rfl))) (fun v1=> ?_)
 refine ap ?_
 refine wk [4,3,2,1] rfl ?_
 refine ac ?_
 exact Fin.DD (k+1) v1 (⟨Ah,by omega⟩) ⟨⟨_,rfl,AG k⟩,⟨_,rfl,BC (by rw [bu])⟩,kz⟩ (fun _ _ h=>h)
 have BP:k=(c.names).length:=by have:=AJ h1;omega
 refine ac ?_
 refine Tr.seq (Tr.rx ?_)
 refine ay ?_
 refine xo rfl (fun _=>Cn (Lb AA) rfl rfl) ?_
 refine ay ?_
 refine xo rfl (fun _=>Cn (U4 AA) rfl rfl) ?_
 refine ay ?_
 refine xo rfl (fun _=>Cn (U4 AA) rfl rfl) ?_
 refine ay ?_
 refine xo rfl (fun _=>Cn (cB g3 g4) rfl rfl) ?_
 refine ay ?_
 refine xo rfl (fun _=>Cn (Lb AA) rfl rfl) ?_
 refine ay ?_
 refine xo rfl (fun _=>Cn (cB g5 g6) rfl rfl) ?_
 refine ay ?_
 refine xo rfl (fun _=>Cn (Lb AA) rfl rfl) ?_
 refine ay ?_
 refine xo rfl (fun _=>Cn (Lb AA) rfl rfl) ?_
 refine ay ?_
 refine xo rfl (fun _=>Cn (sW) rfl rfl) ?_
 refine ay ?_
 refine xo rfl (fun _=>Cn (Lb AA) rfl rfl) (xm rfl ?_)
 refine xo rfl (fun _=>AV rfl (U5 (m:=c.names.length) (q:=q0) AA (rc1 _ AA)) ⟨⟨_,rfl,Pr.le_trans (Aq _ _) (Pr.le_of_eq (by rw [BP]))⟩,trivial⟩) ?_
 refine xo rfl (fun _=>AM (xs:=[.tmp 23,.tmp 26,.tmp 29,.tmp 32,.tmp 35,.tmp 38,.tmp 41,.tmp 44,.tmp 47,.tmp 50,.tmp 52]) (rows:=[Bh NB,Bh NB,Bh NB,Bh NB,Bh NB,Bh NB,Bh NB,Bh NB,Bh NB,Bh NB,Bh NB]) rfl rfl underlying283 Cc Na rfl AB ⟨⟨Am,VL.le (vl rfl) (Pr.le_trans (BT (qs:=Bh NB) ⟨Lr,Lr,Lr,OM,trivial⟩) (Ad _))⟩,⟨⟨Am,VL.le (vl rfl) (Pr.le_trans (BT (qs:=Bh NB) ⟨Lr,Lr,Lr,OM,trivial⟩) (Ad _))⟩,⟨⟨Am,VL.le (vl rfl) (Pr.le_trans (BT (qs:=Bh NB) ⟨Lr,Lr,Lr,OM,trivial⟩) (Ad _))⟩,⟨⟨Am,VL.le (vl rfl) (Ad _)⟩,⟨⟨Am,VL.le (vl rfl) (Pr.le_trans (BT (qs:=Bh NB) ⟨Lr,Lr,Lr,OM,trivial⟩) (Ad _))⟩,⟨⟨Am,VL.le (vl rfl) (Ad _)⟩,⟨⟨Am,VL.le (vl rfl) (Pr.le_trans (BT (qs:=Bh NB) ⟨Lr,Lr,Lr,OM,trivial⟩) (Ad _))⟩,⟨⟨Am,VL.le (vl rfl) (Pr.le_trans (BT (qs:=Bh NB) ⟨Lr,Lr,Lr,OM,trivial⟩) (Ad _))⟩,⟨⟨Am,VL.le (vl rfl) (Pr.le_trans (BT (qs:=Bh NB) ⟨Lr,Lr,Lr,OM,trivial⟩) (Ad _))⟩,⟨⟨Am,VL.le (vl rfl) (Pr.le_trans (BT (qs:=Bh NB) ⟨Lr,Lr,Lr,OM,trivial⟩) (Ad _))⟩,⟨⟨Am,VL.le (vl rfl) (Ad _)⟩,trivial⟩⟩⟩⟩⟩⟩⟩⟩⟩⟩⟩ AB) ?_
 refine xo rfl (fun _=>AV rfl (U5 (m:=11) (q:=NB) AA (rc2 _ AA)) ⟨(Kf rfl),trivial⟩) ?_
 refine Cx.Dv 1 rfl rfl (A9 rfl rfl (vl rfl) (Va rfl) Cc rfl Ao rfl) ?_
 refine Cx.nil ⟨by kernel_rfl,?_⟩
 refine BO.done Wh (Fin.go (wk [2] rfl (Tr.ret (Fin.CV rfl (AO.cell 1 rfl rfl DL Cc rfl Lr) ?_))))
 · exact Lr
theorem fT {c:ID} (hv:D6 c=true) (ht:c.Yy):BD prog 189 [agg (EL c)] (EA [Em 3285282,GW .i64]):=by
 refine fo func189 rfl ⟨rfl,rfl⟩ fun M0 w0=> ?_
 refine a2 ?_
 refine co rfl (Cn (TD hv) rfl rfl) ?_
 refine an ?_ ?_<;>intro h1 q1
 exact absurd h1 AB
 refine a2 ?_
 refine co rfl (Cn (Wm hv ht) rfl rfl) (co rfl (Cn (rE2) rfl rfl) ?_)
 refine ac ?_
 refine Tr.ret (Fin.Dp rfl (Br.Dz _ _) rfl ?_ rfl ?_)
 · exact Lr
 · exact Lr
theorem cC {m:Nat} (hm:m≤100000000):BD prog 190 [bt m] (xg):=by
 refine fo func190 rfl ⟨rfl,rfl⟩ fun M0 w0=> ?_
 have hlr:(List.replicate m S_).length=m:=List.length_replicate
 refine a3 ?_
 refine Tr.block (Tr.BA _ (kk [0] rfl) (fun k:Nat=>[(4,int ((k:Nat):Int)),(3,sX)]) (fun k:Nat=>k≤((List.replicate m S_).length)) (fun k:Nat=>((List.replicate m S_).length)-k) 0 (Nat.zero_le _) ⟨kq,⟨_,rfl,Aw _ (A7 AA Lr)⟩,trivial⟩ ?_)
 rintro k BV
 refine ac ?_
 refine co rfl (Ca rfl underlying241 vq) ?_
 refine an ?_ ?_<;>intro h1 q1
 have Ah:k<((List.replicate m S_).length):=AH h1
 have hkm:k<m:=by simpa using Ah
 refine a2 ?_
 refine co rfl (AD rfl underlying241 NA vq vq AA (Jx hkm)) (co rfl (GU rfl AAh rfl) (co rfl (lQ rfl underlying5 underlying180 vq) (co rfl (r9 AB rfl (VL.le vq sY) vq) (co rfl (sZ rfl vq (VL.le vq (DA _ _))) ?_))))
 refine ac ?_
 refine wk [4,3,0] rfl ?_
 refine ac ?_
 exact Fin.AL (k+1) ⟨Ah,by omega⟩ ⟨⟨_,rfl,AG k⟩,kz⟩
 have BP:k=((List.replicate m S_).length):=by have:=AJ h1;omega
 refine a2 ?_
 refine co rfl (fS rfl underlying180 underlying3 vq) ?_
 refine a2 ?_
 · exact Lr
theorem lR {c:ID} (hn:c.names.length≤1000):BD prog 187 [agg (EL c)] (agg (EL c)):=by
 refine fo func187 rfl ⟨rfl,rfl⟩ fun M0 w0=>(Tr.seq (Tr.Ap ?_))
 refine TO.V9 rfl rfl AB rfl C1 (fun b1=> ?_)
 refine Tl rfl rfl rfl rfl Uj OD (fun b2=> ?_)
 refine ap ?_
 refine ap ?_
 refine TO.pad ?_
 refine TO.DQ 0 rfl rfl AB (B1 rfl rfl rfl rfl underlying127 NT by9 z9 GG vq (Bq BN vq)) (fun v1=> ?_)
 refine ap ?_
 refine ap ?_
 refine Tr.drop 2 (Tr.ret (Fin.CV rfl (AO.cell 1 rfl rfl Gz Di rfl Lr) ?_))
 · exact BT ⟨Lr,Lr,Lr,Lr,Lr,Lr,Lr,Lr,Lr,Lr,Lr,Lr,Pr.le_trans (Aq _ _) (Pr.le_of_eq AU),Lr,Lr,trivial⟩
abbrev Q5 (c:ID) (key s:Int):ID:=⟨c.Js,c.Nd,c.KZ,c.SI,c.LA,c.CS,c.Ys,c.Q0,c.from_,c.Nf,c.auth,c.path,c.names,key,s⟩
theorem lS {c:ID} {key:Int} (hv:D6 (Q5 c 0 0)=true) (ht:(Q5 c 0 0).Yy) (hk:0≤key∧key≤2147483648):BD prog 147 [agg (EL c),int key] (Cp.ex fun s:Int=>fact (0≤s∧s<4294967296) (EA [agg (EL (Q5 c key s)),int 0])):=by
 refine BD.of func147 rfl rfl Ao fun M0 w0=> ?_
 have hnn:c.names.length≤1000:=by have:=(JA hv).nm;unfold G0 at this;simp at this;omega
 refine Tr.seq (Tr.Ap ?_)
 refine TO.V9 rfl rfl AB rfl (Va rfl) (fun b1=> ?_)
 refine Tl rfl rfl rfl rfl Uj OD (fun b2=> ?_)
 refine tm rfl (TO.nil (Fin.go (Tr.seq (Tr.Ap (TO.rd 1 rfl rfl rfl AB (CU rfl Gz Di (vl rfl) rfl rfl) ?_)))))
 refine tp rfl (AV rfl (lR (c:=c) hnn) ⟨ke rfl,trivial⟩) ?_
 refine TO.AK 1 rfl rfl rfl (vl rfl) (Va rfl) rfl Di rfl rfl (TO.nil (Fin.go (Tr.seq (Tr.Ap (tp rfl (Al (rows:=[]) rfl vH vI trivial rfl) (tp rfl (Ac rfl Qi (vl rfl)) (TO.Dv 1 rfl rfl (A9 rfl rfl (vl rfl) (Va rfl) kH rfl Ao rfl) (TO.nil (Fin.go (Tr.seq (Tr.seq (Tr.Aj (co rfl (Cw 1 rfl (CU rfl Gz Di (vl rfl) rfl rfl)) ?_)))))))))))))
 refine co rfl (AV rfl (TD (c:=Q5 c 0 0) hv) ⟨ke rfl,trivial⟩) ?_
 refine co rfl (ki rfl rfl rfl rfl) (cm rfl ?_)
 refine Ch.cs 15 rfl ?_ ?_<;>intro h1 q1
 exact absurd h1 AB
 refine ML h1 rfl (cy h1 rfl (ki rfl rfl rfl rfl) (co rfl (MM rfl rfl h1 rfl) (cm rfl ?_)))
 refine Ch.cs 19 rfl ?_ ?_<;>intro h2 q2
 exfalso;have:=q2;omega
 refine ML h2 rfl (cy h2 rfl (ki rfl rfl rfl rfl) (co rfl (MM rfl rfl h2 rfl) (Ch.nil (Fin.go (UY 1 2 4 22 rfl ?_)))))
 refine Tr.cn rfl ?_ ?_<;>intro h3 q3
 exfalso;have:=q3;omega
 refine Tr.skip (Fin.go (Tr.seq (Tr.Aj (co rfl (Cw 1 rfl (CU rfl Gz Di (vl rfl) rfl rfl)) ?_))))
 refine co rfl (AV rfl (fT (c:=Q5 c 0 0) hv ht) ⟨ke rfl,trivial⟩) ?_
 refine cm rfl (co rfl (BB rfl (vl rfl) rfl) (co rfl (BB rfl (vl rfl) rfl) (cm rfl (cm rfl (Ch.nil (Fin.go (Tr.seq (Tr.Ap (tm rfl (tm rfl (tp rfl (AV rfl (BD.Em fun m hm=>cC AA) ⟨ke rfl,trivial⟩) ?_)))))))))))
 refine TO.ex 31 rfl (fun z31=>TO.fact 31 rfl fun AF0=> ?_)
 refine tp rfl (Al (rows:=[(0,[_]),(1,[_])]) rfl vH vI ⟨⟨rfl,(Vo rfl)⟩,⟨⟨rfl,(Vo rfl)⟩,trivial⟩⟩ rfl) (tp rfl (Ac rfl Qi (vl rfl)) (TO.Dv 1 rfl rfl (A9 rfl rfl (vl rfl) (Va rfl) kH rfl Ao rfl) (TO.nil (Fin.go (UX 2 4 rfl (Tr.seq (Tr.Ap (TO.rd 1 rfl rfl rfl AB (CU rfl Gz Di (vl rfl) rfl rfl) (TO.AK 0 rfl rfl rfl (vl rfl) (Va rfl) rfl Di rfl rfl (tm rfl (TO.nil (Fin.go (Tr.drop 1 (Tr.ret ?_))))))))))))))
 refine Fin.Ba rfl (AO.cell 0 rfl rfl Gz Di rfl (Lr)) (AO.tmp rfl (Lr)) ?_
 · exact Aw z31 (A7 AF0 (Lr))
abbrev LB (name:List UInt8) (a b id to key s:Int):ID:=⟨id,[114,111,111,116],name,a,b,id,3,0,0,to,false,0,[name],key,s⟩
abbrev HQ (name:List UInt8) (a b id to key s:Int):JV:=⟨a,b,id,[LB name a b id to key s]⟩
abbrev vY (name:List UInt8) (a b id to key:Int):Pr:=Cp.ex fun s:Int=>fact (0≤s∧s<4294967296) (agg (G1 (HQ name a b id to key s)))
theorem vZ   :BD prog 89 [] (agg [int 5,int 2048]):=by
 refine fo func89 rfl ⟨rfl,rfl⟩ fun M0 w0=>(Tr.seq (Tr.Ap ?_))
 refine Tl rfl rfl rfl rfl KW EU (fun b1=> ?_)
 refine ap ?_
 refine ap ?_
 refine Tr.ret (Fin.CV rfl (AO.cell 0 rfl rfl JE Ky rfl Lr) ?_)
 · exact Lr
theorem AF1   :BD prog 93 [] (agg [int 7,int 256]):=by
 refine fo func93 rfl ⟨rfl,rfl⟩ fun M0 w0=>(Tr.seq (Tr.Ap ?_))
 refine Tl rfl rfl rfl rfl KW EU (fun b1=> ?_)
 refine ap ?_
 refine ap ?_
 refine Tr.ret (Fin.CV rfl (AO.cell 0 rfl rfl JE Ky rfl Lr) ?_)
 · exact Lr
theorem Yz {name:List UInt8} {a b id to key:Int} (hv:D6 (LB name a b id to 0 0)=true) (ht:(LB name a b id to 0 0).Yy) (hk:0≤key∧key≤2147483648):BD prog 88 [str name,agg [int a,int b],int id,int key,int to] (vY name a b id to key):=by
 refine fo func88 rfl ⟨rfl,rfl⟩ fun M0 w0=>(Tr.seq (Tr.Ap (tp rfl (Bn rfl C1) ?_)))
 refine Tl rfl rfl rfl rfl Xw WN (fun b1=> ?_)
 refine ap ?_
 refine ap ?_
 refine tp rfl (Al (rows:=[(0,[_]),(1,[_]),(2,[_]),(3,_),(4,[_]),(5,_),(7,[_]),(10,[_])]) rfl AA_ OD ⟨⟨rfl,OJ⟩,⟨⟨rfl,OJ⟩,⟨⟨rfl,OJ⟩,⟨⟨rfl,C1⟩,⟨⟨rfl,OJ⟩,⟨⟨rfl,C1⟩,⟨⟨rfl,OJ⟩,⟨⟨rfl,⟨_,rfl,Pr.le_trans (B0 _ _) (Af _)⟩⟩,trivial⟩⟩⟩⟩⟩⟩⟩⟩ rfl) (TO.re 20 (agg (EL (LB name a b id to 0 0))) rfl (Pr.le_of_eq rfl) ?_)
 refine Tl rfl rfl rfl rfl Uj OD (fun b2=> ?_)
 refine ap ?_
 refine wk [11,10,6,3,2] rfl ?_
 refine ap ?_
 refine tp rfl (CK (lS (c:=LB name a b id to 0 0) hv ht hk) rfl rfl rfl) ?_
 refine TO.ex 24 rfl (fun z24=>TO.fact 24 rfl fun AF2=> ?_)
 refine ap ?_
 refine ap ?_
 refine tp rfl (Al (rows:=[(0,_),(1,[_]),(2,[_])]) rfl AAt WN ⟨⟨rfl,C1⟩,⟨⟨rfl,OJ⟩,⟨⟨rfl,⟨_,rfl,Pr.le_trans (B0 _ _) (Af _)⟩⟩,trivial⟩⟩⟩ rfl) ?_
 refine ap ?_
 refine Tr.drop 0 (wk [10] rfl (Tr.ret (Fin.CV rfl (AO.cell 0 rfl rfl S1 Fc rfl Lr) ?_)))
 · exact Aw z24 (A7 AF2 Lr)
def Jz (s:DS) (l:List (List UInt8)):List UInt8:=(l[(s.val l.length).toNat]?).getD []
theorem Wn {b:Nat} {s:DS} {l:List (List UInt8)} (hl:l≠[]) (hl2:l.length≤1000000000):BZ prog 91 [ptr b 0,sK l] (str (Jz s l)) (DU b s) (fun _=>DU b s.Cb):=by
 refine BZ.of func91 rfl rfl Ao fun M0 w0 S rs M1 w1=> ?_
 have hl0:1≤(l.length:Int):=by have:=List.length_pos_iff.2 hl;omega
 have hv:=s.DB hl0
 obtain ⟨x,hx⟩:=at_ (l:=l) (k:=(s.val l.length).toNat) AA
 refine ac ?_
 refine ap ?_
 refine TO.HJ 0 rfl rfl AB (An rfl rfl AB rfl (CY AA AA) ⟨kq,kz⟩) (tp rfl (AD rfl underlying127 NT vq vq AA (Bc hx)) ?_)
 refine ap ?_
 refine Tr.ret (Fin.GN [] rfl (AO.tmp rfl Lr) ?_ (fun _ _ _ _=>rfl))
 · refine Pr.le_of_eq ?_;unfold Jz;rw [hx];rfl
def Ff:List (List UInt8):=[[97,112,112],[100,98],[119,101,98]]
def On:List (List Int):=[[10,8,2],[8,2],[2,10,8,3]]
def Ld (i:Int):List Int:=(On[i.toNat]?).getD []
theorem sj {i:Int} (h:0≤i∧i<3):(On.map fun l=>[ints l])[i.toNat]? =some [ints (Ld i)]:=by
 have hl:i.toNat<On.length:=by show i.toNat<3;omega
 unfold Ld
 rw [List.getElem?_map,List.getElem?_eq_getElem hl];rfl
theorem Wo {i:Int} (h:0≤i∧i<3):Ld i∈On:=by
 have hl:i.toNat<On.length:=by show i.toNat<3;omega
 unfold Ld
 rw [List.getElem?_eq_getElem hl];exact List.getElem_mem hl
structure Y0 (i:Nat) (e:B_):Prop where
 name:Ff[i]? =some e.name
 least:e.least=1
 most:e.most=3∨e.most=4
 Az:e.Az∈On∨∃l∈On,e.Az=14::l
 ids:∃s:Int,(0≤s∧s<4294967296)∧e.ids=[HQ e.name 5 2048 (100+(i:Nat)) 901 1 s]
 anchors:e.anchors=[1]
 hashes:e.hashes=[2,3]
def lT (es:List B_):Prop:=∀(i:Nat) e,es[i]? =some e→Y0 i e
theorem Wp {es:List B_} {e:B_} (h:lT es) (he:Y0 es.length e):lT (es++[e]):=by
 intro i x hx
 rcases Nat.lt_or_ge i es.length with hi|hi
 · rw [List.getElem?_append_left hi] at hx;exact h i x hx
 ·
  rcases Nat.eq_or_lt_of_le hi with hi|hi
  · subst hi;rw [List.getElem?_append_right (Nat.le_refl _),Nat.sub_self] at hx;simp at hx;subst hx;exact he
  · rw [List.getElem?_eq_none B4] at hx;cases hx
theorem U7 {nm:List UInt8} {k:Nat} (h:Ff[k]? =some nm) {s:Int} (hs:0≤s∧s<4294967296) {key:Int} (hk:0≤key∧key≤2):D6 (LB nm 5 2048 (100+(k:Nat)) 901 key s)=true:=by
 have hlt:k<3:=BI h
 have hn:named nm=true:=by
  have hm:=List.mem_of_getElem? h
  revert hm;unfold Ff;intro hm;simp at hm
  rcases hm with rfl|rfl|rfl<;>decide
 refine b_ ⟨?_,?_,by show named [114,111,111,116]=true;decide,hn,?_,by show K7 5 2048 2=true;decide+kernel,?_,?_,by show K7 3 0 1=true;decide+kernel,hk.1,?_,hs.1,hs.2,by show (0:Int)≤0;omega,by show (0:Int)≤901;omega,by show (901:Int)≤40000;omega,by show (0:Int)≤0;omega,by show (0:Int)≤8;omega,.inr rfl⟩
 · show 0≤(100:Int)+(k:Nat);omega
 · show (100:Int)+(k:Nat)≤_;omega
 ·
  show G0 [nm]=true
  unfold G0;rw [Bool.and_eq_true];refine ⟨B7.2 fun j hj=> ?_,by simp⟩
  have:j=0:=by simp at hj;omega
  subst this;unfold nameAt;simp [hn]
 · show 0≤(100:Int)+(k:Nat);omega
 · show (100:Int)+(k:Nat)≤_;omega
 · show key≤_;omega
theorem TE {nm:List UInt8} {k:Nat} (h:k<3):(LB nm 5 2048 (100+(k:Nat)) 901 0 0).Yy:=
 ⟨by show (100:Int)+(k:Nat)≤1099511627776;omega,by show (100:Int)+(k:Nat)≤2147483648;omega,⟨by show (0:Int)≤5;omega,by show (5:Int)≤40000;omega⟩,⟨by show (0:Int)≤2048;omega,by show (2048:Int)≤40000;omega⟩,⟨by show (0:Int)≤3;omega,by show (3:Int)≤40000;omega⟩,⟨by show (0:Int)≤0;omega,by show (0:Int)≤40000;omega⟩⟩
theorem lU {β:Type} {l:List β} {n k:Nat} {x:β} (h:(l.take n)[k]? =some x):l[k]? =some x:=by
 have hlt:=BI h
 rw [List.length_take] at hlt
 rw [List.getElem?_take,if_pos AA] at h;exact h
theorem lV (i:Int):(Ld i).length≤4:=by
 unfold Ld
 cases h:On[i.toNat]? with
 |none=>show 0≤4;omega
 |some l=>
  have hm:=List.mem_of_getElem? h
  show l.length≤4
  unfold On at hm;simp at hm
  rcases hm with rfl|rfl|rfl<;>simp
theorem xh (s:DS):s.of [3,3,4]=3∨s.of [3,3,4]=4:=by have:=s.QZ (l:=[3,3,4]) AU;simp at this;exact this
end Go.Proofs.YtmocaapoeefgkaaGreatDoor
