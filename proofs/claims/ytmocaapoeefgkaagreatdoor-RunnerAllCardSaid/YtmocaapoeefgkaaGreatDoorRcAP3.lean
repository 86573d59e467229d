/-
  Part 3 of the texts that prove this claim, merged.
-/
import Derived.Test.YtmocaapoeefgkaaGreatDoorRows
import Derived.Test.YtmocaapoeefgkaaGreatDoorRcAP2
set_option linter.all false
set_option maxRecDepth 40000
set_option maxHeartbeats 16000000
namespace Cp
open Go Go.RowKit Go.Great
variable {ops:Array Oper} {xs:Array Operand} {ts:Array TypeId} {M:Av} {f:FuncId} {rows rows':List (List Pr)} {ps qs:List Pr} {rs rs':List At} {zs:List Value} {i k m:Nat} {p q:Pr} {R:At} {T e:TypeId} {v:Value} {w0:World}
section
variable {P:Program} {L:Lg P} {n:Fm} {fz:Nat} {E:Env} {M0:Av} {w0:World} {S:Nat→Prop} {rs:List At} {o:Oper} {g:Func} {M1:Av} {w1:World}
theorem Tf.gen {args args':List Pr} {pre:List At} {res:Pr} [KG res] (hfz:∀M0 w0 S rs M w,A7 M0 w0 S (pre++rs) M w→∃M',Ext M w M' w∧A7 M0 w0 S rs M' w∧∀vs,HL M w args vs→HL M' w args' vs) (h:A0 P f args' res):Tf P f args pre res pre:=by
 refine ⟨h.1,fun M0 w0 S rs M w vs hI hv=> ?_⟩
 obtain ⟨M',hx,QI,ha⟩:=hfz M0 w0 S rs M w hI
 refine (h.2 M' w vs QI.bd (ha vs hv)).mono ?_
 rintro e' w' ⟨u,rfl,h2,h3⟩
 exact ⟨u,M,(),rfl,trivial,KG.free _ _ _ _ h2,Ext.below h3,(Hp M0 w0 S _).st _ _ _ h3 hI⟩
theorem Row.hd {w:World} {ad:Addr} (h:Row M w ad 0 (p::ps)) (hq:∀u,p.h M w u→q.h M w u):Row M w ad 0 (q::ps):=by
 intro j r hr
 cases j with
 |zero=>
  simp at hr;subst hr
  obtain ⟨u,h1,h2,h3,h4⟩:=h 0 p rfl
  exact ⟨u,h1,h2,h3,hq u h4⟩
 |succ j=>exact h (j+1) r (by simpa using hr)
theorem Tf.look {wb ob:Nat} {WT OT:TypeId} {wps ops rows:List Pr} {rws:List (List Pr)} {sz:Nat} {res:Pr} [KG res] (hk:ops[k]? =some (is v)) (hl:∀r∈rws,r.length=sz) (ho:ops.set k (slice sz rws)=rows) (h:A0 P f (ref (ref rows::wps)::ps) res):Tf P f (ptr wb 0::ps) [AF true wb WT (ptr ob 0::wps),AF true ob OT ops,Ba e sz rws v] res [AF true wb WT (ptr ob 0::wps),AF true ob OT ops,Ba e sz rws v]:=by
 refine Tf.gen (fun M0 w0 S rs M w hI=> ?_) h
 obtain ⟨Ma,a1,a2⟩:=A7.CA (i:=1) (j:=2) (k:=k) hI rfl rfl AB hk hl
 rw [ho] at a2
 have a3:A7 M0 w0 S (AF true ob OT rows::AF true wb WT (ptr ob 0::wps)::Bf::rs) Ma w:=A7.perm (List.Perm.swap _ _ _) a2
 obtain ⟨Mb,b1,b2,b3⟩:=A7.QM a3
 obtain ⟨Mc,c1,c2,c3⟩:=A7.QM b1
 refine ⟨Mc,(a1.trans b2).trans c2,c1.J0,fun vs hv=> ?_⟩
 match vs,hv with
 |u0::vs1,XH=>
  obtain ⟨T6,QJ⟩:=XH
  refine ⟨⟨⟨wb,0,none⟩,T6,c3.hd fun u hu=>⟨⟨ob,0,none⟩,hu,b3.st c2⟩⟩,QJ.st ((a1.trans b2).trans c2)⟩
theorem TO.re {Q:Exit→Act→World→Prop} {l:List Oper} {I:C1} (s:Nat) (p:Pr) (hs:E.lookup s=some q) (hl:Pr.le q p) (k:TO P n ops l ((s,p)::E) I Q):TO P n ops l E I Q:=by
 intro m hm a w hst
 refine k m hm a w ?_
 obtain ⟨M,h1,h2,he,h4⟩:=hst
 refine ⟨M,h1,h2,fun s' r hr=> ?_,h4⟩
 simp only [List.lookup] at hr
 split at hr
 ·
  rename_i e1
  have:s'=s:=by simpa using e1
  subst this
  simp only [Option.some.injEq] at hr
  subst hr
  exact hl _ _ _ (he _ _ hs)
 · exact he _ _ hr
theorem Fin.G3 {Q:Exit→Act→World→Prop} {x:Exit} {r r':At} (k:Fin n E (Hp M0 w0 S (r'::r::rs)) Q x):Fin n E (Hp M0 w0 S (r::r'::rs)) Q x:=
 Fin.conv (fun _ _ ⟨M,h1,h2,h3,h4⟩=>⟨M,h1,h2,h3,A7.perm (List.Perm.swap _ _ _) h4⟩) k
def OY (P:Program) (f:FuncId) (args:List Pr) (res:Value→Pr) (post:Value→List At):Prop:=Ef (α:=Value) P f args [] (fun _=>True) res post
theorem OY.of {c : Code} {res : Value → Pr} {post : Value → List At} (hf : P.funcs[f]? = some g) (hb : g.body = some c) (hname : (g.name == "runtime.NumGoroutine") = false) (hlen : ps.length ≤ g.ntmps) (h : ∀ M0 w0 S rs M1 w1, Tr (ZK P) g.ntmps (MJ 0 ps) (Hp M0 w0 S (Ai M1 w1 :: rs)) c (bodyPost P g (PM M0 w0 S rs M1 w1 (fun _ : Value => True) res post))) : OY P f ps res post :=
 Ef.of hf hb hname hlen h
theorem Fin.AAX {rv:ResultVar} {res:Value→Pr} {post:Value→List At} (v:Value) (dr:List At) (hr:g.results= #[rv]) (h:AL P E rs' rv q) (hl:Pr.le q (res v)) (hp:rs'.Perm (dr++(post v++Ai M1 w1::rs))):
  Fin ⟨fz,[]⟩ E (Hp M0 w0 S rs') (bodyPost P g (PM M0 w0 S rs M1 w1 (fun _:Value=>True) res post)) .ret:=by
 rintro a w ⟨M,_,hd,he,hi⟩
 have hi:A7 M0 w0 S rs' M w:=hi
 obtain ⟨u,hu,hp'⟩:=h M w a he (fun q hq=>(hi.hold q hq).1)
 obtain ⟨h1,h2⟩:=GR (A7.oa (A7.perm hp hi))
 exact ⟨hd,u,results1 hr hu,_,M,v,rfl,trivial,hl _ _ _ hp',h1,h2⟩
theorem TO.oq {Q:Exit→Act→World→Prop} {r:List Oper} {res:Value→Pr} {post:Value→List At} {d:Nat} (hg:o.guard=none) (hd:o.dst=some d) (hn:d<n) (ho:o.op= .call { callee:= .value (.func f),args:=xs,argTypes:=ts }) (hf:OY P f ps res post) (hv:Gy E xs.toList ps) (k:∀v,TO P n ops r ((d,res v)::E) (Hp M0 w0 S (post v++rs)) Q):TO P n ops (o::r) E (Hp M0 w0 S rs) Q:=
 TO.Gs rs hg hd hn ho hf hv (List.Perm.refl _) fun v _=>k v
end
section
variable {P:Program} {L:Lg P} {n:Fm} {fz:Nat} {E:Env} {I:C1} {Q:Exit→Act→World→Prop} {ops:Array Oper} {o:Oper} {r:List Oper} {g j:Nat} {b want:Bool}
theorem TO.cases (g:Nat) {b:Bool} {l:List Oper} (_hb:E.lookup g=some (bool b)) (ht:b=true→TO P n ops l E I Q) (hf:b=false→TO P n ops l E I Q):TO P n ops l E I Q:=by
 cases b
 · exact hf rfl
 · exact ht rfl
theorem TO.AD4 (hg:o.guard=some (j,want)) (hj:(ops[j]?).bind (·.dst)=some g) (hb:E.lookup g=some (bool b)) (NF:b=want) (h:∀(K:Act→World→Prop) M w (a:Act),a.tmps.size=n.sz→a.defers=n.df→Fw M w E a→I.h M w→
  (∀E' I' a' w',TO P n ops r E' I' Q→St n E' I' a' w'→K a' w')→o.wp P a w K Q):TO P n ops (o::r) E I Q:=by
 intro k hl a w hs
 have h0:ops[k]? =some o:=by simpa using (hl 0).symm
 obtain ⟨M,hn,hd,he,hI⟩:=hs
 simp only [List.length_cons,List.range'_succ,wpS,h0]
 have hy:=JQ (M:=M) (w:=w) (b:=some b) hj (he g _ hb)
 rw [IB hg hy,if_pos (by simp [NF])]
 exact (h _ M w a hn hd he hI fun E' I' a' w' hT hst=>hT (k+1) (fun j=>by have:=hl (j+1);simpa [Nat.add_assoc,Nat.add_comm 1 j] using this) a' w' hst)
theorem TO.IG {d:Nat} (hg:o.guard=some (j,want)) (hj:(ops[j]?).bind (·.dst)=some g) (hb:E.lookup g=some (bool b)) (NF:b=want) (hd:o.dst=some d) (hn:d<n) (h:Ac P I o E p) (k:TO P n ops r ((d,p)::E) I Q):TO P n ops (o::r) E I Q:=
 TO.AD4 hg hj hb NF fun K M w a h1 h2 h3 h4 hK=>by
  refine HV (h M w a (Cj h3) h4) fun v w' hv hb'=>hK _ _ _ _ k ⟨M,?_,?_,?_,I.st _ _ _ hb' h4⟩
  · rw [CB];exact h1
  · rw [put_defers];exact h2
  ·
   have:=h3.put (o:=o) (p:=p) hb' hv (fun d' hd'=>by rw [hd] at hd';cases hd';rw [h1];exact hn)
   rw [show upd o p E=(d,p)::E by unfold upd;rw [hd]] at this;exact this
theorem TO.Tg {d:Nat} (hg:o.guard=some (j,want)) (hj:(ops[j]?).bind (·.dst)=some g) (hb:E.lookup g=some (bool b)) (NF:b≠want) (hd:o.dst=some d) (hn:d<n) (kk:TO P n ops r ((d,is undef)::E) I Q):TO P n ops (o::r) E I Q:=by
 intro k hl a w hs
 have h0:ops[k]? =some o:=by simpa using (hl 0).symm
 obtain ⟨M,h1,h2,he,hI⟩:=hs
 simp only [List.length_cons,List.range'_succ,wpS,h0]
 have hy:=JQ (M:=M) (w:=w) (b:=some b) hj (he g _ hb)
 rw [IB hg hy,if_neg (by simp [NF])]
 refine kk (k+1) (fun j=>by have:=hl (j+1);simpa [Nat.add_assoc,Nat.add_comm 1 j] using this) _ w ⟨M,by rw [CB];exact h1,by rw [put_defers];exact h2,?_,hI⟩
 have:=he.put (o:=o) (p:=is undef) (v:=undef) (Below.refl w.heap.size w) rfl (fun d' hd'=>by rw [hd] at hd';cases hd';rw [h1];exact hn)
 rw [show upd o (is undef) E=(d,is undef)::E by unfold upd;rw [hd]] at this;exact this
variable {M0:Av} {w0:World} {S:Nat→Prop} {rs:List At}
theorem TO.ot {d:Nat} (i:Nat) {R':At} (hg:o.guard=some (j,want)) (hj:(ops[j]?).bind (·.dst)=some g) (hb:E.lookup g=some (bool b)) (NF:b=want) (hR:rs[i]? =some R) (hd:o.dst=some d) (hn:d<n) (h:DH P M0 w0 S n i (SR.c R) (SR.c R') { o with guard:=none } E p) (k:TO P n ops r ((d,p)::E) (Hp M0 w0 S (rs.set i R')) Q):TO P n ops (o::r) E (Hp M0 w0 S rs) Q:=
 TO.AD4 hg hj hb NF fun K M w a hsz hdf he hI hK=>by
  have hw : ({ o with guard := none } : Oper).wp P a w K Q := NJ (h.2 M w a rs hsz (Cj he) hI hR) fun v w' M' hv hx QI => hK _ _ _ _ k ⟨M', by rw [CB]; exact hsz, by rw [put_defers]; exact hdf, by
   intro s q hq
   simp only [List.lookup] at hq
   by_cases hs:s=d
   · subst hs;simp at hq;subst hq;show p.h M' w' ((a.put o.dst v).tmps.getD s undef);rw [hd,Bz Gx];exact hv
   · rw [show (s==d)=false by simpa using hs] at hq;show q.h M' w' ((a.put o.dst v).tmps.getD s undef);rw [hd,BW hs];exact q.st _ _ _ _ _ hx (he s q hq),QI⟩
  exact hw
end
section
variable {P:Program} {L:Lg P} {E:Env} {I:C1} {o:Oper}
end
class T1 (P:Program) (t:TypeId):Prop where
 h:En P t=true
class TA (P:Program) (t:TypeId):Prop where
 h:Fy P t=true
class TZ (P:Program) (t:TypeId) (m:outParam Nat):Prop where
 h:A9 P t=some m
class TF (P:Program) (s f:Nat) (k:outParam Nat):Prop where
 h:Ab P s f=some k
class TU (P:Program) (t:TypeId) (d:outParam TypeDesc):Prop where
 h:P.underlying t=some d
class TB (P:Program) (t:TypeId) (place:outParam (Nat→Option (Nat×Nat))) (zs:outParam (List Value)):Prop where
 h:∀ps,P.built t ps=Instr.fill place zs.toArray ps
 z:zs.all (·.oneCell')=true
class TV (P:Program) (t:TypeId) (zs:outParam (List Value)):Prop where
 h:BZ P t=some zs
 z:zs.all (·.oneCell')=true
class TM (P:Program):Prop where
 h:P.follows .mixedOrders=true
section
variable {P:Program} {L:Lg P} {n:Fm} {fz:Nat} {I:C1} {ops:Array Oper} {o:Oper} {r:List Oper} {E:Env} {K:Env→Prop} {d g j:Nat} {b want:Bool} {p:Pr} {x y:Operand} {Q:Exit→Act→World→Prop} {t u:TypeId}
theorem AHi [i:T1 P t] (ho:o.op= .load t x) (hx:DV E x=some (ref (p::ps))):Ac P I o E p:=XP ho i.h (vl hx)
theorem AHj [i:TA P t] [z:TZ P t m] (ho:o.op= .load t x) (hx:DV E x=some (ref ps)) (hq:ps.take m=qs) (hm:qs.length=m):Ac P I o E (agg qs):=Ad ho i.h z.h (vl hx) hq hm
theorem AHk {s:TypeId} {f:Nat} [i:TF P s f k] (ho:o.op= .fieldAddr s x f) (hx:DV E x=some (ref ps)) (hq:ps.drop k=qs):Ac P I o E (ref qs):=NG ho i.h (vl hx) hq
theorem AHl {s:TypeId} {f:Nat} [i:TF P s f k] {b off:Nat} (ho:o.op= .fieldAddr s x f) (hx:DV E x=some (ptr b off)):Ac P I o E (ptr b (off+k)):=Aq ho i.h (vl hx)
theorem AHm [i:TU P t (.slice e)] {sz:Nat} {β:Type} {f:β→List Pr} {l:List β} (ho:o.op= .call { callee:= .builtin .len,args:= #[x],argTypes:= #[t] }) (hx:DV E x=some (slice sz (l.map f))):Ac P I o E (int ((l.length:Nat):Int)):=FP ho i.h (vl hx)
theorem AHn [i:TU P t .string] {a:List UInt8} (ho:o.op= .call { callee:= .builtin .len,args:= #[x],argTypes:= #[t] }) (hx:DV E x=some (str a)):Ac P I o E (int ((a.length:Nat):Int)):=vU ho i.h (vl hx)
theorem AHo [i:TU P t .bool] {b c:Bool} (ho:o.op= .binOp .eql t x y u) (hx:DV E x=some (bool b)) (hy:DV E y=some (bool c)):Ac P I o E (bool (b==c)):=zZ ho i.h (vl hx) (vl hy)
theorem AHp {p:Pr} [One p] (ho:o.op= .box t x) (hx:DV E x=some p):Ac P I o E (ref [p]):=BU ho (VL.le (vl hx) (Ag p))
theorem AHq (ho:o.op= .box t x) (hx:DV E x=some (agg ps)):Ac P I o E (ref ps):=BU ho (VL.le (vl hx) (AY ps))
class CP (p:Pr) (ps:outParam (List Pr)):Prop where
 h:Pr.le p (DA ps)
instance AHr (ps:List Pr):CP (agg ps) ps:=⟨AY ps⟩
instance (priority:=low) AHs (p:Pr) [One p]:CP p [p]:=⟨Ag p⟩
class CQ (p:Pr) (ps:outParam (List Pr)):Prop where
 h:Pr.le p (DA ps)
instance AHt (ps:List Pr):CQ (agg ps) ps:=⟨AY ps⟩
instance AHu (k:IntKind) (n:Int):CQ (is (.int k n)) [is (.int k n)]:=⟨Ag _⟩
instance AGL (b:Bool):CQ (is (.bool b)) [is (.bool b)]:=⟨Ag _⟩
instance AHv (s:ByteArray):CQ (is (.string s)) [is (.string s)]:=⟨Ag _⟩
instance AHw (a:Option Addr):CQ (is (.pointer a)) [is (.pointer a)]:=⟨Ag _⟩
instance AD5 (sz:Nat) (rows:List (List Pr)):CQ (slice sz rows) [slice sz rows]:=⟨Ag _⟩
instance AHx (ps:List Pr):CQ (ref ps) [ref ps]:=⟨Ag _⟩
instance AJY (f:Fn) (ps:List Pr):CQ (fn f ps) [fn f ps]:=⟨Ag _⟩
theorem vf0:Z2 E [] []:=trivial
theorem vf1 {row:List Pr} [c:CQ q row] {xs:List (Nat×Operand)} {rows:List (Nat×List Pr)} (hx:DV E x=some q) (h:Z2 E xs rows):Z2 E ((i,x)::xs) ((i,row)::rows):=⟨⟨rfl,VL.le (vl hx) c.h⟩,h⟩
theorem vr0 {sz:Nat}:Vi E sz [] []:=trivial
theorem vr1 {sz:Nat} {row:List Pr} [c:CQ q row] {xs:List Operand} (hx:DV E x=some q) (hl:row.length=sz) (h:Vi E sz xs rows):Vi E sz (x::xs) (row::rows):=⟨⟨hl,VL.le (vl hx) c.h⟩,h⟩
theorem AHy {parts:Array (Nat×Operand)} {place:Nat→Option (Nat×Nat)} [i:TB P t place zs] {rows:List (Nat×List Pr)} (ho:o.op= .build t parts) (hx:Z2 E parts.toList rows) (hq:UC place (zs.map is) rows=some qs):Ac P I o E (agg qs):=BO ho i.h i.z hx hq
theorem AHz {sz:Nat} {xs:List Operand} {parts:Array (Nat×Operand)} [i:TU P t (.slice e)] [z:TZ P e sz] [v:TV P e zs] (ho:o.op= .buildSlice t m parts) (hp:parts.toList.map Prod.snd=xs) (hm:(m==xs.length&&(parts.toList.map Prod.fst==List.range m)&&zs.length==sz&&Nat.blt 0 sz&&Nat.ble (m*sz) 16777216)=true) (hx:Vi E sz xs rows):Ac P I o E (full sz rows):=by
 simp only [Bool.and_eq_true,beq_iff_eq,Nat.blt_eq,Nat.ble_eq] at hm
 obtain ⟨⟨⟨⟨h1,h2⟩,h3⟩,h4⟩,h5⟩:=hm
 subst h1
 refine Af ho ?_ i.h z.h v.h h3 h4 hx h5
 refine List.ext_getElem (by rw [←hp];simp) fun k h6 h7=> ?_
 have h8:k<xs.length:=by simpa using h7
 simp only [List.getElem_map,List.getElem_zipIdx,Nat.zero_add]
 have e1:(parts.toList.map Prod.fst)[k]'(by simpa using h6)=k:=by grind
 have e2:(parts.toList.map Prod.snd)[k]'(by simpa using h6)=xs[k]:=by simp only [hp]
 simp only [List.getElem_map] at e1 e2
 exact Prod.ext e1 e2
section
variable {M0:Av} {w0:World} {S:Nat→Prop} {b off:Nat} {T:TypeId} {new:Bool} {ps qs:List Pr} {m:Nat} {q:Pr}
theorem MO [i:T1 P t] (ho:o.op= .load t x) (hx:DV E x=some (ptr b off)) (hp:ps[off]? =some p):KW P M0 w0 S j (SR.c (AF new b T ps)) o E p:=BT ho i.h (vl hx) hp
theorem MP [i:TA P t] [z:TZ P t m] (ho:o.op= .load t x) (hx:DV E x=some (ptr b off)) (hq:(ps.drop off).take m=qs) (hm:qs.length=m):KW P M0 w0 S j (SR.c (AF new b T ps)) o E (agg qs):=EL ho i.h z.h (vl hx) hq hm
theorem Xu {ps':List Pr} [z:TZ P t m] [c:CP q qs] (hg:o.guard=none) (ho:o.op= .store t x y) (hx:DV E x=some (ptr b off)) (hy:DV E y=some q) (hm:qs.length=m:=by rfl) (hl:Nat.ble (off+m) ps.length=true:=by rfl) (hps:ps.take off++qs++ps.drop (off+m)=ps':=by rfl):DH P M0 w0 S n j (SR.c (AF new b T ps)) (SR.c (AF new b T ps')) o E any:=BF hg ho (vl hx) (VL.le (vl hy) c.h) z.h hm (Nat.le_of_ble_eq_true hl) hps
variable {rs:List At}
theorem sf (i s:Nat) [z:TZ P t m] [c:CP q qs] (hg:o.guard=none∧o.dst=none∧o.op= .store t x y) (hx:DV E x=some (ptr b 0)) (hy:DV E y=some q) (hi:rs[i]? =some (AF true b T ps)) (hs:E.lookup s=some (ptr b 0))
  (k:TO P n ops r ((s,ref qs)::E) (Hp M0 w0 S ((rs.set i (AF true b T qs)).eraseIdx i)) Q) (hm:qs.length=m:=by rfl) (hl:ps.length=m:=by rfl):TO P n ops (o::r) E (Hp M0 w0 S rs) Q:=
 TO.AK i hg.1 hg.2.1 hg.2.2 (vl hx) (VL.le (vl hy) c.h) hi z.h hm hl (TO.freeze (ps:=qs) i s (by
  have hlt:i<rs.length:=by rcases Nat.lt_or_ge i rs.length with h|h;exact h;rw [List.getElem?_eq_none h] at hi;cases hi
  rw [List.getElem?_set_self hlt]) hs k)
theorem sa (i:Nat) [z:TZ P t m] [c:CP q qs] (hg:o.guard=none∧o.dst=none∧o.op= .store t x y) (hx:DV E x=some (ptr b 0)) (hy:DV E y=some q) (hi:rs[i]? =some (AF new b T ps))
  (k:TO P n ops r E (Hp M0 w0 S (rs.set i (AF new b T qs))) Q) (hm:qs.length=m:=by rfl) (hl:ps.length=m:=by rfl):TO P n ops (o::r) E (Hp M0 w0 S rs) Q:=TO.AK i hg.1 hg.2.1 hg.2.2 (vl hx) (VL.le (vl hy) c.h) hi z.h hm hl k
end
def opk (o:Oper):Nat:=match o.op with
 | .move ..=>1
 | .assign ..=>1
 | .fieldAddr ..=>2
 | .load ..=>3
 | .binOp .add ..=>7
 | .binOp .sub ..=>8
 | .binOp ..=>4
 | .pick ..=>5
 | .nilCheck ..=>6
 | .call { callee:= .builtin .len,.. }=>9
 | .unOp ..=>10
 | .box ..=>11
 | .extract ..=>12
 | .makeFunc ..=>13
 | .build ..=>14
 | .buildSlice ..=>15
 | .store ..=>16
 |_=>0
def AD6 (o:Oper):Bool:=o.guard.isNone
def grp (o:Oper):Nat:=if opk o=0 then 0 else if opk o<5 then 1 else if opk o<9 then 2 else if opk o<16 then 3 else 4
theorem AH0 {m z:Int} (ho:o.op= .binOp .add t x y u) (hx:DV E x=some (int m)) (hy:DV E y=some (int z)) (hr: -9223372036854775808≤m+z∧m+z≤9223372036854775807):Ac P I o E (int (m+z)):=Gz ho (vl hx) (vl hy) hr
theorem AH1 {m z:Int} (ho:o.op= .binOp .sub t x y u) (hx:DV E x=some (int m)) (hy:DV E y=some (int z)) (hr: -9223372036854775808≤m-z∧m-z≤9223372036854775807):Ac P I o E (int (m-z)):=Zv ho (vl hx) (vl hy) hr
theorem oF (h:Ac P I o E p:=by first|exact AHk rfl rfl rfl|exact AHl rfl rfl):Ac P I o E p:=h
theorem oL (h:Ac P I o E p:=by first|exact AHi rfl rfl|exact AHj rfl rfl rfl rfl|exact CC 0 rfl (MO rfl rfl rfl)|exact CC 0 rfl (MP rfl rfl rfl rfl)|exact CC 1 rfl (MO rfl rfl rfl)|exact CC 1 rfl (MP rfl rfl rfl rfl)|exact CC 2 rfl (MO rfl rfl rfl)|exact CC 2 rfl (MP rfl rfl rfl rfl)|exact CC 3 rfl (MO rfl rfl rfl)|exact CC 3 rfl (MP rfl rfl rfl rfl)|exact CC 4 rfl (MO rfl rfl rfl)|exact CC 4 rfl (MP rfl rfl rfl rfl)):Ac P I o E p:=h
theorem oB (h:Ac P I o E p:=by first|exact ki rfl rfl rfl rfl|exact AAO rfl (vl rfl) (vl rfl)|exact AAP rfl (vl rfl) (vl rfl)|exact AHo rfl rfl rfl):Ac P I o E p:=h
theorem oP (h:Ac P I o E p:=by first|exact kpt rfl rfl (by first|rfl|assumption) rfl|exact nL rfl rfl (by first|rfl|assumption) rfl|exact jG rfl (vl rfl) (vl rfl)|exact aB rfl (vl rfl) (vl rfl)):Ac P I o E p:=h
theorem oN (h:Ac P I o E p:=by first|exact EY rfl (vl rfl)|exact Jz rfl (vl rfl)|exact RU rfl (vl rfl)):Ac P I o E p:=h
theorem oA (h:Ac P I o E p:=by first|exact AH0 rfl rfl rfl AA|exact ki rfl rfl rfl rfl):Ac P I o E p:=h
theorem oS (h:Ac P I o E p:=by first|exact AH1 rfl rfl rfl AA|exact ki rfl rfl rfl rfl):Ac P I o E p:=h
theorem oC (h:Ac P I o E p:=by first|exact AHm rfl rfl|exact AHn rfl rfl):Ac P I o E p:=h
theorem oU (h:Ac P I o E p:=by first|exact MK rfl (vl rfl)):Ac P I o E p:=h
theorem oO (h:Ac P I o E p:=by first|exact AHq rfl rfl|exact AHp rfl rfl):Ac P I o E p:=h
theorem oE (h:Ac P I o E p:=by first|exact EA rfl (vl rfl) rfl):Ac P I o E p:=h
theorem oM (h:Ac P I o E p:=by first|exact XQ rfl rfl):Ac P I o E p:=h
theorem oD (h:Ac P I o E p:=by first|exact AHy rfl (by repeat any_goals first|exact vf0|refine' vf1 rfl ?_) (by rfl)):Ac P I o E p:=h
theorem oI (h:Ac P I o E p:=by first|exact AHz rfl rfl (by rfl) (by repeat any_goals first|exact vr0|refine' vr1 rfl (by rfl) ?_)):Ac P I o E p:=h
theorem kc0 {res:Pr} (hf:A0 P f [] res) (ho:o.op= .call { callee:= .value (.func f),args:= #[],argTypes:=ts }):Ac P I o E res:=Ah ho hf trivial
theorem CM {x0:Operand} {p0:Pr} {res:Pr} (hf:A0 P f [p0] res) (ho:o.op= .call { callee:= .value (.func f),args:= #[x0],argTypes:=ts }) (h0:DV E x0=some p0):Ac P I o E res:=Ah ho hf ⟨ke h0,trivial⟩
theorem Bq {x0:Operand} {p0:Pr} {x1:Operand} {p1:Pr} {res:Pr} (hf:A0 P f [p0,p1] res) (ho:o.op= .call { callee:= .value (.func f),args:= #[x0,x1],argTypes:=ts }) (h0:DV E x0=some p0) (h1:DV E x1=some p1):Ac P I o E res:=Ah ho hf ⟨ke h0,ke h1,trivial⟩
theorem Jd {x0:Operand} {p0:Pr} {x1:Operand} {p1:Pr} {x2:Operand} {p2:Pr} {res:Pr} (hf:A0 P f [p0,p1,p2] res) (ho:o.op= .call { callee:= .value (.func f),args:= #[x0,x1,x2],argTypes:=ts }) (h0:DV E x0=some p0) (h1:DV E x1=some p1) (h2:DV E x2=some p2):Ac P I o E res:=Ah ho hf ⟨ke h0,ke h1,ke h2,trivial⟩
theorem ZO {x0:Operand} {p0:Pr} {x1:Operand} {p1:Pr} {x2:Operand} {p2:Pr} {x3:Operand} {p3:Pr} {res:Pr} (hf:A0 P f [p0,p1,p2,p3] res) (ho:o.op= .call { callee:= .value (.func f),args:= #[x0,x1,x2,x3],argTypes:=ts }) (h0:DV E x0=some p0) (h1:DV E x1=some p1) (h2:DV E x2=some p2) (h3:DV E x3=some p3):Ac P I o E res:=Ah ho hf ⟨ke h0,ke h1,ke h2,ke h3,trivial⟩
theorem kc5 {x0:Operand} {p0:Pr} {x1:Operand} {p1:Pr} {x2:Operand} {p2:Pr} {x3:Operand} {p3:Pr} {x4:Operand} {p4:Pr} {res:Pr} (hf:A0 P f [p0,p1,p2,p3,p4] res) (ho:o.op= .call { callee:= .value (.func f),args:= #[x0,x1,x2,x3,x4],argTypes:=ts }) (h0:DV E x0=some p0) (h1:DV E x1=some p1) (h2:DV E x2=some p2) (h3:DV E x3=some p3) (h4:DV E x4=some p4):Ac P I o E res:=Ah ho hf ⟨ke h0,ke h1,ke h2,ke h3,ke h4,trivial⟩
theorem cP (_:AD6 o=true) (h:Ch P n I ops (o::r) E K):Ch P n I ops (o::r) E K:=h
theorem cG (_:AD6 o=false) (h:Ch P n I ops (o::r) E K):Ch P n I ops (o::r) E K:=h
theorem cK (k:Nat) (_:opk o=k) (h:Ch P n I ops (o::r) E K):Ch P n I ops (o::r) E K:=h
theorem cS (k:Nat) (_:grp o=k) (h:Ch P n I ops (o::r) E K):Ch P n I ops (o::r) E K:=h
theorem tK (k:Nat) (_:opk o=k) (h:TO P n ops (o::r) E I Q):TO P n ops (o::r) E I Q:=h
theorem tG (k:Nat) (_:grp o=k) (h:TO P n ops (o::r) E I Q):TO P n ops (o::r) E I Q:=h
theorem Tr.rm [i:TM P] {id:Nat} {l:List Oper} (hB:Ve l=true) (h:Ch P n I l.toArray l E (fun E'=>Fin n E' I Q .normal)) (hc:calm l=true:=by with_unfolding_all rfl):Tr L n E I (.region id l.toArray true) Q:=Tr.ACt i.h hB h hc
theorem Tr.ct {c:Operand} {y z:Code} (hc:DV E c=some (bool true)) (k:Tr L n E I y Q):Tr L n E I (.cond c y z) Q:=Tr.cond hc (fun _=>k) (fun h=>nomatch h)
theorem Tr.cf {c:Operand} {y z:Code} (hc:DV E c=some (bool false)) (k:Tr L n E I z Q):Tr L n E I (.cond c y z) Q:=Tr.cond hc (fun h=>nomatch h) (fun _=>k)
structure ow (G:Prop):Prop where
 k:G
theorem Cx.mono {M0:Av} {w0:World} {S:Nat→Prop}:∀{l:List Oper} {E:Env} {rs:List SR} {K K':List X→Env→List SR→Prop},(∀L E rs,K L E rs→K' L E rs)→Cx P M0 w0 S n ops l E rs K→Cx P M0 w0 S n ops l E rs K'
 |[],_,_,_,_,h,k=>h _ _ _ k
 |_::_,_,_,_,_,h,⟨p,k,h1,h2,h3⟩=>⟨p,k,h1,h2,Cx.mono (fun _ _ _=>h _ _ _) h3⟩
theorem Cx.keys {M0:Av} {w0:World} {S:Nat→Prop}:∀{l:List Oper} {E:Env} {rs:List SR} {K:List X→Env→List SR→Prop},Cx P M0 w0 S n ops l E rs K→∃ks:List KN,Cx P M0 w0 S n ops l E rs (fun L E' rs'=>L.map (·.k.ML)=ks∧K L E' rs')
 |[],_,_,_,k=>⟨[],rfl,k⟩
 |_::_,_,_,_,⟨p,k,h1,h2,h3⟩=>by
  obtain ⟨ks,h4⟩:=Cx.keys h3
  exact ⟨k.ML::ks,p,k,h1,h2,Cx.mono (fun L E rs h=>⟨by rw [List.map_cons,h.1],h.2⟩) h4⟩
theorem Tr.rx {Lo : Lg P} [i : TM P] {M0 : Av} {S : Nat → Prop} {id : Nat} {l : List Oper} {Is : List At} (h : Cx P M0 w0 S n l.toArray l E (Is.map SR.c) (fun L E' rs' => QH l (L.map (·.k.ML)) = true ∧ Aw n M0 w0 S E' rs' Q)) (hc : calm l = true := by with_unfolding_all rfl) : Tr Lo n E (Hp M0 w0 S Is) (.region id l.toArray true) Q := by
 obtain ⟨ks,hk⟩:=Cx.keys h
 obtain ⟨L,h1,h2,h3⟩:=Vf l 0 E _ hk
 exact Tr.XU i.h ks (by rw [←h3.1];exact h3.2.1) (hk.mono fun _ _ _ h=>⟨h.1,h.2.2⟩) hc
theorem al1 {r0:At}:CY (SR.c r0::rs.map SR.c) (r0::rs):= .cons (CY.map _)
theorem UL {r0:At} {r1:At}:CY (SR.c r0::SR.c r1::rs.map SR.c) (r0::r1::rs):= .cons (.cons (CY.map _))
theorem al3 {r0:At} {r1:At} {r2:At}:CY (SR.c r0::SR.c r1::SR.c r2::rs.map SR.c) (r0::r1::r2::rs):= .cons (.cons (.cons (CY.map _)))
theorem al4 {r0:At} {r1:At} {r2:At} {r3:At}:CY (SR.c r0::SR.c r1::SR.c r2::SR.c r3::rs.map SR.c) (r0::r1::r2::r3::rs):= .cons (.cons (.cons (.cons (CY.map _))))
theorem al5 {r0:At} {r1:At} {r2:At} {r3:At} {r4:At}:CY (SR.c r0::SR.c r1::SR.c r2::SR.c r3::SR.c r4::rs.map SR.c) (r0::r1::r2::r3::r4::rs):= .cons (.cons (.cons (.cons (.cons (CY.map _)))))
theorem fI {r0:At} {r1:At} {r2:At} {r3:At} {r4:At} {r5:At}:CY (SR.c r0::SR.c r1::SR.c r2::SR.c r3::SR.c r4::SR.c r5::rs.map SR.c) (r0::r1::r2::r3::r4::r5::rs):= .cons (.cons (.cons (.cons (.cons (.cons (CY.map _))))))
theorem al7 {r0:At} {r1:At} {r2:At} {r3:At} {r4:At} {r5:At} {r6:At}:CY (SR.c r0::SR.c r1::SR.c r2::SR.c r3::SR.c r4::SR.c r5::SR.c r6::rs.map SR.c) (r0::r1::r2::r3::r4::r5::r6::rs):= .cons (.cons (.cons (.cons (.cons (.cons (.cons (CY.map _)))))))
theorem al8 {r0:At} {r1:At} {r2:At} {r3:At} {r4:At} {r5:At} {r6:At} {r7:At}:CY (SR.c r0::SR.c r1::SR.c r2::SR.c r3::SR.c r4::SR.c r5::SR.c r6::SR.c r7::rs.map SR.c) (r0::r1::r2::r3::r4::r5::r6::r7::rs):= .cons (.cons (.cons (.cons (.cons (.cons (.cons (.cons (CY.map _))))))))
theorem fo {g : Func} {c : Code} {res : Pr} (hf : P.funcs[f]? = some g) (hb : g.body = some c) (hname : ((g.name == "runtime.NumGoroutine") = false ∧ Nat.ble ps.length g.ntmps = true)) (h : ∀ M0 w0, Tr (ZK P) g.ntmps (MJ 0 ps) (Bse M0 w0) c (bodyPost P g (TS M0 w0 res))) : A0 P f ps res := A0.of hf hb hname.1 (Nat.le_of_ble_eq_true hname.2) h
section
variable {M0:Av} {w0:World} {S:Nat→Prop} {rs:List SR} {KX:List X→Env→List SR→Prop}
theorem xId {l:List Oper} (h:Cx P M0 w0 S n ops l E rs KX):Cx P M0 w0 S n ops l E rs KX:=h
theorem xK (k:Nat) (_:opk o=k) (h:Cx P M0 w0 S n ops (o::r) E rs KX):Cx P M0 w0 S n ops (o::r) E rs KX:=h
theorem xG (k:Nat) (_:grp o=k) (h:Cx P M0 w0 S n ops (o::r) E rs KX):Cx P M0 w0 S n ops (o::r) E rs KX:=h
end
theorem cId {l:List Oper} (h:Ch P n I ops l E K):Ch P n I ops l E K:=h
theorem rId {c:Code} (h:Tr L n E I c Q):Tr L n E I c Q:=h
theorem fId {e:Exit} (h:Fin n E I Q e):Fin n E I Q e:=h
theorem tId {l:List Oper} (h:TO P n ops l E I Q):TO P n ops l E I Q:=h
theorem ac {G H:Prop} (k:G) (h:ow G→H:=by
 intro k
 repeat1' first
  |((with_reducible refine cId ?_);first
   |with_reducible refine Ch.nil ?_
   |(refine cP rfl ?_;first
    |(refine cS 1 rfl ?_;first
      |(refine cK 1 rfl ?_;refine cm rfl ?_)
      |(refine cK 2 rfl ?_;refine co rfl oF ?_)
      |(refine cK 3 rfl ?_;refine co rfl oL ?_)
      |(refine cK 4 rfl ?_;refine co rfl oB ?_))
    |(refine cS 2 rfl ?_;first
      |(refine cK 5 rfl ?_;refine co rfl oP ?_)
      |(refine cK 6 rfl ?_;refine co rfl oN ?_)
      |(refine cK 7 rfl ?_;refine co rfl oA ?_)
      |(refine cK 8 rfl ?_;refine co rfl oS ?_))
    |(refine cS 3 rfl ?_;first
      |(refine cK 9 rfl ?_;refine co rfl oC ?_)
      |(refine cK 10 rfl ?_;refine co rfl oU ?_)
      |(refine cK 11 rfl ?_;refine co rfl oO ?_)
      |(refine cK 12 rfl ?_;refine co rfl oE ?_)
      |(refine cK 13 rfl ?_;refine co rfl oM ?_)
      |(refine cK 14 rfl ?_;refine co rfl oD ?_)
      |(refine cK 15 rfl ?_;refine co rfl oI ?_)))
   |(refine cG rfl ?_;first
    |refine cu rfl ?_
    |refine cnt Bh rfl ?_
    |refine cnf Bh rfl ?_
    |(refine cS 1 rfl ?_;first
      |(refine cK 1 rfl ?_;refine ZM FU rfl ?_)
      |(refine cK 2 rfl ?_;refine cy FU rfl oF ?_)
      |(refine cK 3 rfl ?_;refine cy FU rfl oL ?_)
      |(refine cK 4 rfl ?_;refine cy FU rfl oB ?_))
    |(refine cS 2 rfl ?_;first
      |(refine cK 5 rfl ?_;refine cy FU rfl oP ?_)
      |(refine cK 6 rfl ?_;refine cy FU rfl oN ?_)
      |(refine cK 7 rfl ?_;refine cy FU rfl oA ?_)
      |(refine cK 8 rfl ?_;refine cy FU rfl oS ?_))
    |(refine cS 3 rfl ?_;first
      |(refine cK 9 rfl ?_;refine cy FU rfl oC ?_)
      |(refine cK 10 rfl ?_;refine cy FU rfl oU ?_)
      |(refine cK 11 rfl ?_;refine cy FU rfl oO ?_)
      |(refine cK 12 rfl ?_;refine cy FU rfl oE ?_)
      |(refine cK 13 rfl ?_;refine cy FU rfl oM ?_)
      |(refine cK 14 rfl ?_;refine cy FU rfl oD ?_)
      |(refine cK 15 rfl ?_;refine cy FU rfl oI ?_))
    |refine cnd rfl rfl ?_))
  |((with_reducible refine rId ?_);first
   |with_reducible refine Tr.seq ?_
   |with_reducible refine Tr.Bt ?_
   |refine Tr.rm Ak ?_
   |with_reducible refine Tr.skip ?_
   |with_reducible refine Tr.block ?_
   |with_reducible refine Tr.ret ?_
   |with_reducible refine Tr.exit ?_
   |refine Tr.ct rfl ?_
   |refine Tr.cf rfl ?_)
  |((with_reducible refine fId ?_);first
   |with_reducible refine Fin.AE ?_
   |with_reducible refine Fin.AU ?_
   |with_reducible refine Fin.BA ?_
   |with_reducible refine Fin.Bn ?_
   |refine Fin.RT rfl ?_
   |with_reducible refine Fin.block ?_
   |refine Fin.ACv rfl (Bv.EU _ _) rfl ?_)
 first|with_reducible refine Fin.go ?_|with_reducible refine cId ?_|with_reducible refine tId ?_|with_reducible refine rId ?_|refine Fin.go ?_|skip
 exact k.k):H:=h ⟨k⟩
theorem ao {G H:Prop} (k:G) (h:ow G→H:=by
 intro k
 repeat1' first
  |((with_reducible refine tId ?_);first
   |with_reducible refine TO.nil ?_
   |(refine tG 1 rfl ?_;first
     |(refine tK 1 rfl ?_;refine tm rfl ?_)
     |(refine tK 2 rfl ?_;refine tp rfl oF ?_)
     |(refine tK 3 rfl ?_;refine tp rfl oL ?_)
     |(refine tK 4 rfl ?_;refine tp rfl oB ?_))
   |(refine tG 2 rfl ?_;first
     |(refine tK 5 rfl ?_;refine tp rfl oP ?_)
     |(refine tK 6 rfl ?_;refine tp rfl oN ?_)
     |(refine tK 7 rfl ?_;refine tp rfl oA ?_)
     |(refine tK 8 rfl ?_;refine tp rfl oS ?_))
   |(refine tG 3 rfl ?_;first
     |(refine tK 9 rfl ?_;refine tp rfl oC ?_)
     |(refine tK 10 rfl ?_;refine tp rfl oU ?_)
     |(refine tK 12 rfl ?_;refine tp rfl oE ?_)
     |(refine tK 13 rfl ?_;refine tp rfl oM ?_)
     |(refine tK 14 rfl ?_;refine tp rfl oD ?_)
     |(refine tK 15 rfl ?_;refine tp rfl oI ?_)))
  |((with_reducible refine rId ?_);first
   |with_reducible refine Tr.seq ?_
   |with_reducible refine Tr.BE ?_
   |with_reducible refine Tr.skip ?_
   |with_reducible refine Tr.block ?_
   |with_reducible refine Tr.ret ?_
   |with_reducible refine Tr.exit ?_)
  |((with_reducible refine fId ?_);first
   |with_reducible refine Fin.AE ?_
   |with_reducible refine Fin.AU ?_
   |with_reducible refine Fin.BA ?_
   |with_reducible refine Fin.Bn ?_
   |refine Fin.RT rfl ?_
   |with_reducible refine Fin.block ?_)
 first|with_reducible refine Fin.go ?_|with_reducible refine cId ?_|with_reducible refine tId ?_|with_reducible refine rId ?_|refine Fin.go ?_|skip
 exact k.k):H:=h ⟨k⟩
theorem ap {G H:Prop} (k:G) (h:ow G→H:=by
 intro k
 repeat1' first
  |((with_reducible refine tId ?_);first
   |with_reducible refine TO.nil ?_
   |(refine tG 1 rfl ?_;first
     |(refine tK 1 rfl ?_;refine tm rfl ?_)
     |(refine tK 2 rfl ?_;refine tp rfl oF ?_)
     |(refine tK 3 rfl ?_;refine tp rfl oL ?_)
     |(refine tK 4 rfl ?_;refine tp rfl oB ?_))
   |(refine tG 2 rfl ?_;first
     |(refine tK 5 rfl ?_;refine tp rfl oP ?_)
     |(refine tK 6 rfl ?_;refine tp rfl oN ?_)
     |(refine tK 7 rfl ?_;refine tp rfl oA ?_)
     |(refine tK 8 rfl ?_;refine tp rfl oS ?_))
   |(refine tG 3 rfl ?_;first
     |(refine tK 9 rfl ?_;refine tp rfl oC ?_)
     |(refine tK 10 rfl ?_;refine tp rfl oU ?_)
     |(refine tK 12 rfl ?_;refine tp rfl oE ?_)
     |(refine tK 13 rfl ?_;refine tp rfl oM ?_)
     |(refine tK 14 rfl ?_;refine tp rfl oD ?_)
     |(refine tK 15 rfl ?_;refine tp rfl oI ?_))
   |(refine tK 16 rfl ?_;first
    |refine sa 0 ⟨rfl,rfl,rfl⟩ rfl rfl rfl ?_
    |refine TO.DP 0 rfl rfl (Xu rfl rfl rfl rfl) ?_
    |refine sa 1 ⟨rfl,rfl,rfl⟩ rfl rfl rfl ?_
    |refine TO.DP 1 rfl rfl (Xu rfl rfl rfl rfl) ?_
    |refine sa 2 ⟨rfl,rfl,rfl⟩ rfl rfl rfl ?_
    |refine TO.DP 2 rfl rfl (Xu rfl rfl rfl rfl) ?_
    |refine sa 3 ⟨rfl,rfl,rfl⟩ rfl rfl rfl ?_
    |refine TO.DP 3 rfl rfl (Xu rfl rfl rfl rfl) ?_))
  |((with_reducible refine rId ?_);first
   |with_reducible refine Tr.seq ?_
   |with_reducible refine Tr.BE ?_
   |with_reducible refine Tr.skip ?_
   |with_reducible refine Tr.block ?_
   |with_reducible refine Tr.ret ?_
   |with_reducible refine Tr.exit ?_)
  |((with_reducible refine fId ?_);first
   |with_reducible refine Fin.AE ?_
   |with_reducible refine Fin.AU ?_
   |with_reducible refine Fin.BA ?_
   |with_reducible refine Fin.Bn ?_
   |refine Fin.RT rfl ?_
   |with_reducible refine Fin.block ?_)
 first|with_reducible refine Fin.go ?_|with_reducible refine cId ?_|with_reducible refine tId ?_|with_reducible refine rId ?_|refine Fin.go ?_|skip
 exact k.k):H:=h ⟨k⟩
theorem ax {G H:Prop} (k:G) (h:ow G→H:=by
 intro k
 repeat ((with_reducible refine xId ?_);first
   |(refine xG 1 rfl ?_;first
     |(refine xK 1 rfl ?_;refine xm rfl ?_)
     |(refine xK 2 rfl ?_;refine xo rfl (fun _=>oF) ?_)
     |(refine xK 3 rfl ?_;refine xo rfl (fun _=>oL) ?_)
     |(refine xK 4 rfl ?_;refine xo rfl (fun _=>oB) ?_))
   |(refine xG 2 rfl ?_;first
     |(refine xK 5 rfl ?_;refine xo rfl (fun _=>oP) ?_)
     |(refine xK 6 rfl ?_;refine xo rfl (fun _=>oN) ?_)
     |(refine xK 7 rfl ?_;refine xo rfl (fun _=>oA) ?_)
     |(refine xK 8 rfl ?_;refine xo rfl (fun _=>oS) ?_))
   |(refine xG 3 rfl ?_;first
     |(refine xK 9 rfl ?_;refine xo rfl (fun _=>oC) ?_)
     |(refine xK 10 rfl ?_;refine xo rfl (fun _=>oU) ?_)
     |(refine xK 11 rfl ?_;refine xo rfl (fun _=>oO) ?_)
     |(refine xK 12 rfl ?_;refine xo rfl (fun _=>oE) ?_)
     |(refine xK 13 rfl ?_;refine xo rfl (fun _=>oM) ?_)
     |(refine xK 14 rfl ?_;refine xo rfl (fun _=>oD) ?_))
   |(refine xK 3 rfl ?_;first
    |refine JU 0 rfl rfl (MO rfl rfl rfl) ?_
    |refine JU 0 rfl rfl (MP rfl rfl rfl rfl) ?_
    |refine JU 1 rfl rfl (MO rfl rfl rfl) ?_
    |refine JU 1 rfl rfl (MP rfl rfl rfl rfl) ?_
    |refine JU 2 rfl rfl (MO rfl rfl rfl) ?_
    |refine JU 2 rfl rfl (MP rfl rfl rfl rfl) ?_
    |refine JU 3 rfl rfl (MO rfl rfl rfl) ?_
    |refine JU 3 rfl rfl (MP rfl rfl rfl rfl) ?_
    |refine JU 4 rfl rfl (MO rfl rfl rfl) ?_
    |refine JU 4 rfl rfl (MP rfl rfl rfl rfl) ?_))
 exact k.k):H:=h ⟨k⟩
theorem ay {G H:Prop} (k:G) (h:ow G→H:=by
 intro k
 repeat ((with_reducible refine xId ?_);first
   |(refine xG 1 rfl ?_;first
     |(refine xK 1 rfl ?_;refine xm rfl ?_)
     |(refine xK 2 rfl ?_;refine xo rfl (fun _=>oF) ?_)
     |(refine xK 3 rfl ?_;refine xo rfl (fun _=>oL) ?_)
     |(refine xK 4 rfl ?_;refine xo rfl (fun _=>oB) ?_))
   |(refine xG 2 rfl ?_;first
     |(refine xK 5 rfl ?_;refine xo rfl (fun _=>oP) ?_)
     |(refine xK 6 rfl ?_;refine xo rfl (fun _=>oN) ?_)
     |(refine xK 7 rfl ?_;refine xo rfl (fun _=>oA) ?_)
     |(refine xK 8 rfl ?_;refine xo rfl (fun _=>oS) ?_))
   |(refine xG 3 rfl ?_;first
     |(refine xK 9 rfl ?_;refine xo rfl (fun _=>oC) ?_)
     |(refine xK 10 rfl ?_;refine xo rfl (fun _=>oU) ?_)
     |(refine xK 11 rfl ?_;refine xo rfl (fun _=>oO) ?_)
     |(refine xK 12 rfl ?_;refine xo rfl (fun _=>oE) ?_)
     |(refine xK 13 rfl ?_;refine xo rfl (fun _=>oM) ?_)
     |(refine xK 14 rfl ?_;refine xo rfl (fun _=>oD) ?_))
   |(refine xK 3 rfl ?_;first
    |refine JU 0 rfl rfl (MO rfl rfl rfl) ?_
    |refine JU 0 rfl rfl (MP rfl rfl rfl rfl) ?_
    |refine JU 1 rfl rfl (MO rfl rfl rfl) ?_
    |refine JU 1 rfl rfl (MP rfl rfl rfl rfl) ?_
    |refine JU 2 rfl rfl (MO rfl rfl rfl) ?_
    |refine JU 2 rfl rfl (MP rfl rfl rfl rfl) ?_
    |refine JU 3 rfl rfl (MO rfl rfl rfl) ?_
    |refine JU 3 rfl rfl (MP rfl rfl rfl rfl) ?_
    |refine JU 4 rfl rfl (MO rfl rfl rfl) ?_
    |refine JU 4 rfl rfl (MP rfl rfl rfl rfl) ?_)
   |(refine xK 16 rfl ?_;first
    |refine Cx.DP 0 rfl rfl (Xu rfl rfl rfl rfl) ?_
    |refine Cx.DP 1 rfl rfl (Xu rfl rfl rfl rfl) ?_
    |refine Cx.DP 2 rfl rfl (Xu rfl rfl rfl rfl) ?_
    |refine Cx.DP 3 rfl rfl (Xu rfl rfl rfl rfl) ?_))
 exact k.k):H:=h ⟨k⟩
theorem Ch.cg {l:List Oper} {b v:Bool} {g j:Nat} {pt pf:Prop} [ht:EW b true pt] [hf:EW b false pf] (_:o.guard=some (j,v)) (_:(ops[j]?.bind (·.dst))=some g) (hb:E.lookup g=some (bool b)) (k:b=true→pt→Ch P n I ops (o::l) E K) (k':b=false→pf→Ch P n I ops (o::l) E K):Ch P n I ops (o::l) E K:=Ch.cases g hb (fun h=>k h (ht.E9 h)) (fun h=>k' h (hf.E9 h))
theorem a2 {G H:Prop} (k:G) (h:ow G→H:=by
 intro k
 iterate 2 refine ac ?_
 exact k.k):H:=h ⟨k⟩
theorem a3 {G H:Prop} (k:G) (h:ow G→H:=by
 intro k
 iterate 3 refine ac ?_
 exact k.k):H:=h ⟨k⟩
theorem an {G L H:Prop} (k:G) (l:L) (h:ow G→ow L→H:=by
 intro k l
 refine ac ?_
 refine Tr.cn rfl ?_ ?_
 exact k.k
 exact l.k):H:=h ⟨k⟩ ⟨l⟩
theorem ag {G L H:Prop} (k:G) (l:L) (h:ow G→ow L→H:=by
 intro k l
 refine ac ?_
 refine Ch.cg rfl rfl rfl ?_ ?_
 exact k.k
 exact l.k):H:=h ⟨k⟩ ⟨l⟩
theorem Lr {p:Pr}:Pr.le p p:=Pr.le_refl p
theorem Vo {p:Pr} [One p] (h:DV E x=some p):VL E x (DA [p]):=VL.le (vl h) (Ag p)
theorem Va (h:DV E x=some (agg ps)):VL E x (DA ps):=VL.le (vl h) (AY ps)
theorem Nb {a b:Nat} (h:Nat.ble a b=true):a≤b:=Nat.le_of_ble_eq_true h
theorem Kf {z:Nat} {l:List (List Pr)} (h:DV E x=some (full z l)):VL E x (slice z l):=⟨_,h,B4 z l⟩
theorem Ka (h:DV E x=some (AV v p)):VL E x (is v):=⟨_,h,Ct v p⟩
theorem Kb (h:DV E x=some (AV v p)):VL E x p:=⟨_,h,Ao v p⟩
theorem F7 {p:Pr} [One p] (h:DV E x=some p:=by exact rfl):VL E x (DA [p]):=Vo h
theorem Be (h:DV E x=some (agg ps):=by exact rfl):VL E x (DA ps):=Va h
theorem Db {z:Nat} {l:List (List Pr)} (h:DV E x=some (full z l):=by exact rfl):VL E x (slice z l):=Kf h
theorem FC (h:DV E x=some (AV v p):=by exact rfl):VL E x (is v):=Ka h
theorem Ea (h:DV E x=some (AV v p):=by exact rfl):VL E x p:=Kb h
theorem Tl {M0:Av} {S:Nat→Prop} (hg:o.guard=none) (hd:o.dst=some d) (hn:Nat.blt d n=true) (ho:o.op= .alloc T) (hz:BZ P T=some zs) (h1':zs.all (·.oneCell')=true) (k:∀b,TO P n ops r ((d,is (.pointer (some ⟨b,0,none⟩)))::E) (Hp M0 w0 S (AF true b T (zs.map is)::rs)) Q):TO P n ops (o::r) E (Hp M0 w0 S rs) Q:=TO.alloc hg hd (JT hn) ho hz h1' k
theorem B9 {M0:Av} {S:Nat→Prop} {t:TypeId} {sz bytes:Nat} {R:SR} (hg:o.guard=none) (hd:o.dst=some d) (hn:Nat.blt d n=true) (ho:o.op= .call { callee:= .builtin .append,args:= #[x,y],argTypes:= #[t,t] }) (ht:P.underlying t=some (.slice e)) (hz:A9 P e=some sz) (hby:B1 P e=some bytes) (Ev:BZ P e=some zs) (hx:VL E x (slice sz rows)) (hy:VL E y (slice sz rows')) (hR:∀M w (a:Act),Cn M w E o a→R.at_ a=As e sz (a.eval x)∨(R.at_ a=Bf∧Dx (a.eval x)=none)) (hzl:zs.length=sz:=by rfl) (hsz:Nat.blt 0 sz=true:=by rfl) (HF:rows.length+rows'.length≤maxLen:=by simp only [List.length_map,List.length_append,List.length_cons,List.length_nil,List.length_replicate,List.length_take,List.length_drop];unfold maxLen;omega) (hfit:(rows.length+rows'.length)*bytes≤140737488355328:=by simp only [List.length_map,List.length_append,List.length_cons,List.length_nil,List.length_replicate,List.length_take,List.length_drop];omega):DH P M0 w0 S n j R ⟨d,As e sz⟩ o E (slice sz (rows++rows')):=by grind [EM,JT]
end
end Cp
namespace Go.Proofs.YtmocaapoeefgkaaGreatDoor
open Go Cp
instance AGM:TM Tryz.prog:=⟨mixed⟩
instance AJ3:TV Tryz.prog 3 [.int .i64 0]:=⟨z3,zo3⟩
instance AH2:T1 Tryz.prog 3:=⟨DL⟩
instance AJZ:TZ Tryz.prog 3 1:=⟨Bi⟩
instance AH3:T1 Tryz.prog 4:=⟨jA⟩
instance AJa:TZ Tryz.prog 4 1:=⟨UF⟩
instance uH:TU Tryz.prog 4 .bool:=⟨Tryz.underlying4⟩
instance AJ4:TV Tryz.prog 5 [.int .u8 0]:=⟨z5,zo5⟩
instance AH4:T1 Tryz.prog 5:=⟨AC_⟩
instance AJb:TZ Tryz.prog 5 1:=⟨OS⟩
instance AJ5:TV Tryz.prog 9 [.string (ByteArray.mk #[])]:=⟨z9,zo9⟩
instance AH5:T1 Tryz.prog 9:=⟨Ri⟩
instance AJc:TZ Tryz.prog 9 1:=⟨O6⟩
instance uI:TU Tryz.prog 9 .string:=⟨Tryz.underlying9⟩
instance AGN:T1 Tryz.prog 22:=⟨ej⟩
instance AH6:TZ Tryz.prog 22 1:=⟨NO⟩
instance ox:TU Tryz.prog 22 (.slice 3):=⟨Tryz.underlying22⟩
instance AGO:T1 Tryz.prog 27:=⟨eo⟩
instance AH7:TZ Tryz.prog 27 1:=⟨ADA⟩
instance oy:TU Tryz.prog 27 (.slice 40):=⟨Tryz.underlying27⟩
instance AGP:T1 Tryz.prog 28:=⟨yW⟩
instance AH8:TZ Tryz.prog 28 1:=⟨AHX⟩
instance oz:TU Tryz.prog 28 (.slice 132):=⟨Tryz.underlying28⟩
instance AGQ:T1 Tryz.prog 29:=⟨ADB⟩
instance o9:TU Tryz.prog 29 (.slice 135):=⟨Tryz.underlying29⟩
instance AH9:TB Tryz.prog 31 (fun i=>(#[(0,1),(1,1),(2,1)]:Array (Nat×Nat))[i]?) (List.replicate 3 (.slice none 0 0)):=⟨ADC,Iw⟩
instance AGR:TA Tryz.prog 31:=⟨Gp⟩
instance AH_:TZ Tryz.prog 31 3:=⟨F5⟩
instance AD7:TF Tryz.prog 31 0 0:=⟨Rj⟩
instance AD8:TF Tryz.prog 31 1 1:=⟨nW⟩
instance AD9:TF Tryz.prog 31 2 2:=⟨Vs⟩
instance AGS:T1 Tryz.prog 32:=⟨ADD⟩
instance o_:TU Tryz.prog 32 (.slice 86):=⟨Tryz.underlying32⟩
instance AGT:T1 Tryz.prog 33:=⟨nX⟩
instance pE:TU Tryz.prog 33 (.slice 61):=⟨Tryz.underlying33⟩
instance AIA:TB Tryz.prog 35 (fun i=>(#[(0,1),(1,1),(2,1)]:Array (Nat×Nat))[i]?) (List.replicate 3 (.slice none 0 0)):=⟨nY,Gq⟩
instance AGU:TA Tryz.prog 35:=⟨Da⟩
instance AIB:TZ Tryz.prog 35 3:=⟨CU⟩
instance AD_:TF Tryz.prog 35 0 0:=⟨Vt⟩
instance AEA:TF Tryz.prog 35 1 1:=⟨Rk⟩
instance AEB:TF Tryz.prog 35 2 2:=⟨Z4⟩
instance AGV:T1 Tryz.prog 38:=⟨yX⟩
instance AIC:TZ Tryz.prog 38 1:=⟨zj⟩
instance pF:TU Tryz.prog 38 (.slice 84):=⟨Tryz.underlying38⟩
instance AID:TB Tryz.prog 40 (fun i=>(#[(0,1),(1,1),(2,1),(3,1),(4,1),(5,1),(6,1),(7,1),(8,1)]:Array (Nat×Nat))[i]?) [.string (ByteArray.mk #[]),.int .i64 0,.int .i64 0,.slice none 0 0,.bool false,.slice none 0 0,.slice none 0 0,.slice none 0 0,.bool false]:=⟨uZ,Hx⟩
instance AGW:TA Tryz.prog 40:=⟨DC⟩
instance AIE:TZ Tryz.prog 40 9:=⟨CS⟩
instance AEC:TF Tryz.prog 40 0 0:=⟨nZ⟩
instance AED:TF Tryz.prog 40 1 1:=⟨zl⟩
instance AEE:TF Tryz.prog 40 2 2:=⟨ng⟩
instance AEF:TF Tryz.prog 40 3 3:=⟨Vu⟩
instance AEG:TF Tryz.prog 40 4 4:=⟨zm⟩
instance AEH:TF Tryz.prog 40 5 5:=⟨Z5⟩
instance AEI:TF Tryz.prog 40 6 6:=⟨nh⟩
instance AEJ:TF Tryz.prog 40 7 7:=⟨nj⟩
instance AEK:TF Tryz.prog 40 8 8:=⟨zn⟩
instance AIF:TB Tryz.prog 42 (fun i=>(#[(0,3),(3,1),(4,1),(5,1),(6,1)]:Array (Nat×Nat))[i]?) [.slice none 0 0,.slice none 0 0,.slice none 0 0,.int .i64 0,.slice none 0 0,.slice none 0 0,.bool false]:=⟨jB,D7⟩
instance AGX:TA Tryz.prog 42:=⟨CW⟩
instance AIH:TZ Tryz.prog 42 7:=⟨B7⟩
instance AEL:TF Tryz.prog 42 0 0:=⟨Z6⟩
instance AEM:TF Tryz.prog 42 1 3:=⟨nk⟩
instance AEN:TF Tryz.prog 42 2 4:=⟨nq⟩
instance AEO:TF Tryz.prog 42 3 5:=⟨nr⟩
instance AEP:TF Tryz.prog 42 4 6:=⟨zo⟩
instance AGY:T1 Tryz.prog 43:=⟨ADF⟩
instance AJd:TV Tryz.prog 51 [.slice none 0 0]:=⟨z51,ADG⟩
instance AGZ:T1 Tryz.prog 51:=⟨eu⟩
instance AII:TZ Tryz.prog 51 1:=⟨HH⟩
instance pG:TU Tryz.prog 51 (.slice 3):=⟨Tryz.underlying51⟩
instance AIJ:TB Tryz.prog 61 (fun i=>(#[(0,1),(1,1)]:Array (Nat×Nat))[i]?) (List.replicate 2 (.int .i64 0)):=⟨AHY,Ta⟩
instance AJe:TV Tryz.prog 61 (List.replicate 2 (.int .i64 0)):=⟨QN,Ta⟩
instance AGa:TA Tryz.prog 61:=⟨Iy⟩
instance AIK:TZ Tryz.prog 61 2:=⟨DQ⟩
instance AEQ:TF Tryz.prog 61 0 0:=⟨nu⟩
instance AER:TF Tryz.prog 61 1 1:=⟨nv⟩
instance AGb:T1 Tryz.prog 75:=⟨ADH⟩
instance pH:TU Tryz.prog 75 (.slice 141):=⟨Tryz.underlying75⟩
instance AGc:TA Tryz.prog 77:=⟨yY⟩
instance AIL:TZ Tryz.prog 77 3:=⟨ADI⟩
instance AES:TF Tryz.prog 77 0 0:=⟨zu⟩
instance AET:TF Tryz.prog 77 1 1:=⟨zv⟩
instance AEU:TF Tryz.prog 77 2 2:=⟨zw⟩
instance AIM:TB Tryz.prog 81 (fun i=>(#[(0,1),(1,1)]:Array (Nat×Nat))[i]?) (List.replicate 2 (.int .i64 0)):=⟨zx,Eo⟩
instance AJf:TV Tryz.prog 81 (List.replicate 2 (.int .i64 0)):=⟨LS,Eo⟩
instance AGd:TA Tryz.prog 81:=⟨J3⟩
instance AIN:TZ Tryz.prog 81 2:=⟨Lt⟩
instance AEV:TF Tryz.prog 81 0 0:=⟨zy⟩
instance AEW:TF Tryz.prog 81 1 1:=⟨zz⟩
instance AGe:T1 Tryz.prog 82:=⟨ADL⟩
instance AIO:TZ Tryz.prog 82 1:=⟨ADK⟩
instance pI:TU Tryz.prog 82 (.slice 189):=⟨Tryz.underlying82⟩
instance AIP:TB Tryz.prog 84 (fun i=>(#[(0,2),(2,1),(3,1)]:Array (Nat×Nat))[i]?) [.int .i64 0,.int .i64 0,.int .i64 0,.slice none 0 0]:=⟨ADM,OV⟩
instance AJg:TV Tryz.prog 84 [.int .i64 0,.int .i64 0,.int .i64 0,.slice none 0 0]:=⟨Vv,OV⟩
instance AGf:TA Tryz.prog 84:=⟨PG⟩
instance AIQ:TZ Tryz.prog 84 4:=⟨Ep⟩
instance AEX:TF Tryz.prog 84 0 0:=⟨z7⟩
instance AEY:TF Tryz.prog 84 1 2:=⟨z8⟩
instance AEZ:TF Tryz.prog 84 2 3:=⟨nw⟩
instance AGg:TA Tryz.prog 86:=⟨GG⟩
instance AIR:TZ Tryz.prog 86 8:=⟨DB⟩
instance AEa:TF Tryz.prog 86 0 0:=⟨z_⟩
instance AEb:TF Tryz.prog 86 1 1:=⟨AAA⟩
instance AEc:TF Tryz.prog 86 2 2:=⟨AAB⟩
instance AEd:TF Tryz.prog 86 3 3:=⟨AAC⟩
instance AEe:TF Tryz.prog 86 4 4:=⟨AAD⟩
instance AJh:TV Tryz.prog 99 [.slice none 0 0]:=⟨z99,AHb⟩
instance AGh:T1 Tryz.prog 99:=⟨ADN⟩
instance AIS:TZ Tryz.prog 99 1:=⟨uc⟩
instance pJ:TU Tryz.prog 99 (.slice 51):=⟨Tryz.underlying99⟩
instance AGi:TB Tryz.prog 104 (fun i=>(#[(0,1),(1,1)]:Array (Nat×Nat))[i]?) [.slice none 0 0,.int .i64 0]:=⟨ADO,ADP⟩
instance AB6:TF Tryz.prog 104 0 0:=⟨ud⟩
instance AB7:TF Tryz.prog 104 1 1:=⟨ue⟩
instance AEf:T1 Tryz.prog 105:=⟨AAE⟩
instance l_:TU Tryz.prog 105 (.slice 270):=⟨Tryz.underlying105⟩
instance AGj:TB Tryz.prog 107 (fun i=>(#[(0,1)]:Array (Nat×Nat))[i]?) [.slice none 0 0]:=⟨ew,HA⟩
instance AEg:TA Tryz.prog 107:=⟨C2⟩
instance AGk:TZ Tryz.prog 107 1:=⟨B0⟩
instance AB8:TF Tryz.prog 107 0 0:=⟨ez⟩
instance AEh:T1 Tryz.prog 111:=⟨AAF⟩
instance AEi:T1 Tryz.prog 112:=⟨n5⟩
instance AGl:TB Tryz.prog 114 (fun i=>(#[(0,1),(1,1)]:Array (Nat×Nat))[i]?) (List.replicate 2 (.slice none 0 0)):=⟨ADS,ADT⟩
instance AEj:TA Tryz.prog 114:=⟨AAG⟩
instance AGm:TZ Tryz.prog 114 2:=⟨ADR⟩
instance AB9:TF Tryz.prog 114 0 0:=⟨uf⟩
instance AB_:TF Tryz.prog 114 1 1:=⟨e7⟩
instance AGn:TB Tryz.prog 116 (fun i=>(#[(0,1),(1,1)]:Array (Nat×Nat))[i]?) [.slice none 0 0,.int .i64 0]:=⟨ADV,ADW⟩
instance AEk:TA Tryz.prog 116:=⟨AAH⟩
instance AGo:TZ Tryz.prog 116 2:=⟨ADU⟩
instance AEl:T1 Tryz.prog 127:=⟨AAI⟩
instance AGp:TZ Tryz.prog 127 1:=⟨yZ⟩
instance mA:TU Tryz.prog 127 (.slice 9):=⟨Tryz.underlying127⟩
instance mB:TU Tryz.prog 128 (.slice 22):=⟨Tryz.underlying128⟩
instance AGq:TB Tryz.prog 132 (fun i=>(#[(0,1),(1,1)]:Array (Nat×Nat))[i]?) (List.replicate 2 (.int .i64 0)):=⟨ADX,Xg⟩
instance AIT:TV Tryz.prog 132 (List.replicate 2 (.int .i64 0)):=⟨jE,Xg⟩
instance AEm:TA Tryz.prog 132:=⟨Rl⟩
instance AGr:TZ Tryz.prog 132 2:=⟨Fe⟩
instance ACA:TF Tryz.prog 132 0 0:=⟨ug⟩
instance ACB:TF Tryz.prog 132 1 1:=⟨uh⟩
instance AEn:T1 Tryz.prog 133:=⟨AAJ⟩
instance mC:TU Tryz.prog 133 (.slice 198):=⟨Tryz.underlying133⟩
instance AGs:TB Tryz.prog 135 (fun i=>(#[(0,1),(1,1),(2,1),(3,1),(4,1)]:Array (Nat×Nat))[i]?) [.string (ByteArray.mk #[]),.int .i64 0,.int .i64 0,.slice none 0 0,.int .i64 0]:=⟨ADY,Xh⟩
instance AIU:TV Tryz.prog 135 [.string (ByteArray.mk #[]),.int .i64 0,.int .i64 0,.slice none 0 0,.int .i64 0]:=⟨Vx,Xh⟩
instance AEo:TA Tryz.prog 135:=⟨Vw⟩
instance AGt:TZ Tryz.prog 135 5:=⟨IE⟩
instance ACC:TF Tryz.prog 135 0 0:=⟨uj⟩
instance ACD:TF Tryz.prog 135 1 1:=⟨uk⟩
instance ACE:TF Tryz.prog 135 2 2:=⟨um⟩
instance ACF:TF Tryz.prog 135 3 3:=⟨Vy⟩
instance ACG:TF Tryz.prog 135 4 4:=⟨uo⟩
instance AGu:TB Tryz.prog 139 (fun i=>(#[(0,1),(1,1)]:Array (Nat×Nat))[i]?) (List.replicate 2 (.int .i64 0)):=⟨ADZ,ADa⟩
instance ACH:TF Tryz.prog 139 0 0:=⟨uq⟩
instance ACI:TF Tryz.prog 139 1 1:=⟨ur⟩
instance AIV:TV Tryz.prog 141 [.int .i64 0,.int .i64 0,.slice none 0 0]:=⟨z141,Rn⟩
instance AGv:TZ Tryz.prog 141 3:=⟨Iz⟩
instance ACJ:TF Tryz.prog 141 0 0:=⟨uu⟩
instance ACK:TF Tryz.prog 141 1 2:=⟨uv⟩
instance mD:TU Tryz.prog 143 (.slice 81):=⟨Tryz.underlying143⟩
instance AEp:T1 Tryz.prog 160:=⟨AAK⟩
instance AEq:T1 Tryz.prog 176:=⟨Ja⟩
instance AEr:T1 Tryz.prog 181:=⟨IZ⟩
instance AGw:TB Tryz.prog 187 (fun i=>(#[(0,1),(1,1)]:Array (Nat×Nat))[i]?) (List.replicate 2 (.int .i64 0)):=⟨ADh,ADi⟩
instance AEs:TA Tryz.prog 187:=⟨AAM⟩
instance AGx:TZ Tryz.prog 187 2:=⟨ADg⟩
instance ACL:TF Tryz.prog 187 0 0:=⟨uw⟩
instance ACN:TF Tryz.prog 187 1 1:=⟨ux⟩
instance AIW:TV Tryz.prog 189 [.int .i64 0,.string (ByteArray.mk #[]),.string (ByteArray.mk #[]),.int .i64 0,.int .i64 0,.int .i64 0,.int .i64 0,.int .i64 0,.int .i64 0,.int .i64 0,.bool false,.int .i64 0,.slice none 0 0,.int .i64 0,.int .i64 0]:=⟨Ro,L3⟩
instance AEt:TA Tryz.prog 189:=⟨Ia⟩
instance AGy:TZ Tryz.prog 189 15:=⟨Dv⟩
instance ACO:TF Tryz.prog 189 0 0:=⟨uy⟩
instance ACP:TF Tryz.prog 189 1 1:=⟨uz⟩
instance AAY:TF Tryz.prog 189 10 12:=⟨Xi⟩
instance AAZ:TF Tryz.prog 189 11 13:=⟨n8⟩
instance ACQ:TF Tryz.prog 189 2 2:=⟨u5⟩
instance ACR:TF Tryz.prog 189 3 3:=⟨u6⟩
instance ACS:TF Tryz.prog 189 4 5:=⟨u7⟩
instance ACT:TF Tryz.prog 189 5 6:=⟨u9⟩
instance ACU:TF Tryz.prog 189 6 8:=⟨u_⟩
instance ACV:TF Tryz.prog 189 7 9:=⟨vA⟩
instance ACW:TF Tryz.prog 189 8 10:=⟨vB⟩
instance ACX:TF Tryz.prog 189 9 11:=⟨vC⟩
instance AGz:TB Tryz.prog 198 (fun i=>(#[(0,2),(2,1)]:Array (Nat×Nat))[i]?) (List.replicate 3 (.int .i64 0)):=⟨ADk,yh⟩
instance AIX:TV Tryz.prog 198 (List.replicate 3 (.int .i64 0)):=⟨z198,yh⟩
instance AG0:TZ Tryz.prog 198 3:=⟨Ke⟩
instance ACY:TF Tryz.prog 198 0 0:=⟨vD⟩
instance ACZ:TF Tryz.prog 198 1 2:=⟨vE⟩
instance AEu:T1 Tryz.prog 232:=⟨Kg⟩
instance mE:TU Tryz.prog 232 (.slice 181):=⟨Tryz.underlying232⟩
instance ACa:TF Tryz.prog 234 0 0:=⟨vF⟩
instance ACb:TF Tryz.prog 234 1 1:=⟨LU⟩
instance AEv:T1 Tryz.prog 241:=⟨AAN⟩
instance AG1:TZ Tryz.prog 241 1:=⟨ADn⟩
instance mF:TU Tryz.prog 241 (.slice 5):=⟨Tryz.underlying241⟩
instance AG2:TB Tryz.prog 247 (fun i=>(#[(0,1),(1,1),(2,2),(4,2),(6,2),(8,2),(10,1),(11,1)]:Array (Nat×Nat))[i]?) [.int .i64 0,.string (ByteArray.mk #[]),.int .i64 0,.int .i64 0,.int .i64 0,.int .i64 0,.int .i64 0,.int .i64 0,.int .i64 0,.int .i64 0,.int .i64 0,.int .i64 0]:=⟨fA,J4⟩
instance AEw:TA Tryz.prog 247:=⟨Jb⟩
instance AG3:TZ Tryz.prog 247 12:=⟨Gr⟩
instance ACc:TF Tryz.prog 247 2 2:=⟨vG⟩
instance ACd:TF Tryz.prog 247 3 4:=⟨vH⟩
instance ACe:TF Tryz.prog 247 4 6:=⟨vI⟩
instance ACf:TF Tryz.prog 247 5 8:=⟨vJ⟩
instance ACg:TF Tryz.prog 247 6 10:=⟨vK⟩
instance ACh:TF Tryz.prog 247 7 11:=⟨vL⟩
instance AG4:TB Tryz.prog 268 (fun i=>(#[(0,1),(1,1)]:Array (Nat×Nat))[i]?) (List.replicate 2 (.int .i64 0)):=⟨UG,F6⟩
instance AIY:TV Tryz.prog 268 (List.replicate 2 (.int .i64 0)):=⟨KF,F6⟩
instance AEx:TA Tryz.prog 268:=⟨DM⟩
instance AG5:TZ Tryz.prog 268 2:=⟨CO⟩
instance ACi:TF Tryz.prog 268 1 1:=⟨vM⟩
instance AG6:TB Tryz.prog 270 (fun i=>(#[(0,1),(1,1),(2,2)]:Array (Nat×Nat))[i]?) [.int .i64 0,.slice none 0 0,.int .i64 0,.int .i64 0]:=⟨fC,Rp⟩
instance AIZ:TV Tryz.prog 270 [.int .i64 0,.slice none 0 0,.int .i64 0,.int .i64 0]:=⟨vN,Rp⟩
instance AG7:TZ Tryz.prog 270 4:=⟨GH⟩
instance mG:TU Tryz.prog 274 (.slice 99):=⟨Tryz.underlying274⟩
instance AEy:T1 Tryz.prog 283:=⟨n9⟩
instance AG8:TZ Tryz.prog 283 1:=⟨ADp⟩
instance AG9:TB Tryz.prog 285 (fun i=>(#[(0,1),(1,1),(2,1),(3,1)]:Array (Nat×Nat))[i]?) [.int .i64 0,.slice none 0 0,.bool false,.slice none 0 0]:=⟨n_,L4⟩
instance AEz:TA Tryz.prog 285:=⟨Dn⟩
instance AG_:TZ Tryz.prog 285 4:=⟨Cy⟩
instance ACj:TF Tryz.prog 285 0 0:=⟨vO⟩
instance ACk:TF Tryz.prog 285 1 1:=⟨vP⟩
instance ACl:TF Tryz.prog 285 2 2:=⟨vQ⟩
instance ACm:TF Tryz.prog 285 3 3:=⟨fD⟩
instance AHA:TB Tryz.prog 290 (fun i=>(#[(0,1),(1,1)]:Array (Nat×Nat))[i]?) [.string (ByteArray.mk #[]),.int .i64 0]:=⟨ADq,ym⟩
instance AIa:TV Tryz.prog 290 [.string (ByteArray.mk #[]),.int .i64 0]:=⟨AHd,ym⟩
instance AHB:TZ Tryz.prog 290 2:=⟨yl⟩
instance ACn:TF Tryz.prog 290 1 1:=⟨vR⟩
instance mH:TU Tryz.prog 291 (.slice 290):=⟨Tryz.underlying291⟩
instance mI:TU Tryz.prog 331 (.slice 268):=⟨Tryz.underlying331⟩
end Go.Proofs.YtmocaapoeefgkaaGreatDoor
namespace Go.Proofs.YtmocaapoeefgkaaGreatDoor
open Go Go.RowKit Cp Go.Proofs.Tryz
abbrev ints (l:List Int):Pr:=slice 1 (l.map fun n=>[int n])
def idx {β:Type} (p:β→Bool) (l:List β):Int:=match l.findIdx? p with|some i=>i|none=> -1
theorem El {β:Type} {p:β→Bool} {l:List β} {k:Nat} {x:β} (hx:l[k]? =some x) (hp:p x=true) (h:∀j y,j<k→l[j]? =some y→p y=false):(k:Int)=idx p l:=by
 have:l.findIdx? p=some k:=by
  rw [List.findIdx?_eq_some_iff_getElem]
  have hk:k<l.length:=by rcases Nat.lt_or_ge k l.length with h|h;exact h;rw [List.getElem?_eq_none h] at hx;cases hx
  rw [List.getElem?_eq_getElem hk] at hx
  simp only [Option.some.injEq] at hx
  refine ⟨hk,by rw [hx];exact hp,fun j hj=> ?_⟩
  simpa using h j _ hj (List.getElem?_eq_getElem AA)
 unfold idx;rw [this]
theorem F8 {β:Type} {p:β→Bool} {l:List β} (h:∀j y,j<l.length→l[j]? =some y→p y=false):(-1:Int)=idx p l:=by
 have:l.findIdx? p=none:=by
  rw [List.findIdx?_eq_none_iff]
  intro x hx
  obtain ⟨j,hj,rfl⟩:=List.mem_iff_getElem.1 hx
  exact h j _ hj (List.getElem?_eq_getElem hj)
 unfold idx;rw [this]
theorem QS {β:Type} (p:β→Bool) (l:List β):decide (idx p l≥0)=l.any p:=by
 unfold idx
 cases h:l.findIdx? p with
 |none=>rw [List.findIdx?_eq_none_iff] at h;simp;intro x hx;simpa using h x hx
 |some i=>
  rw [List.findIdx?_eq_some_iff_getElem] at h
  obtain ⟨h1,h2,_⟩:=h
  simp
  exact ⟨_,List.getElem_mem h1,h2⟩
theorem DR {β:Type} {p:β→Bool} {l:List β} {k:Nat} {x:β} (hx:l[k]? =some x) (hp:p x=false) (h:∀j y,j<k→l[j]? =some y→p y=false):∀j y,j<k+1→l[j]? =some y→p y=false:=by
 intro j y hj hy
 by_cases hjk:j=k
 · subst hjk;rw [hx] at hy;cases hy;exact hp
 · exact h j y AA hy
theorem V8 {l:List Int} {p:Int→Bool}  :A0 prog 145 [ints l,Zu prog (fun x:Int=>[int x]) (fun x=>bool (p x))] (int (idx p l)):=by
 refine fo func145 rfl ⟨rfl,rfl⟩ fun M0 w0=>(Tr.CG 0 rfl fun DN=> ?_)
 refine a2 ?_
 refine Tr.block (Tr.Ax _ (kk [7,1,0] rfl) (fun k:Nat=>[(8,int ((k:Nat):Int))]) (fun k:Nat=>k≤(l).length∧(∀j y,j<k→l[j]? =some y→p y=false)) (fun k:Nat=>(l).length-k) 0 (⟨Nat.zero_le _,fun j y hj=>absurd hj AA⟩) kz ?_)
 rintro k ⟨BJ,AQ⟩
 refine ac ?_
 refine Tr.seq ?_
 refine Tr.cn rfl ?_ ?_<;>intro h1 q1
 have AZ:k<(l).length:=AH h1
 obtain ⟨x,AX⟩:=at_ AZ
 · repeat' first|exact int_eq (El AX Bh AQ)|exact Fin.AM (k+1) ⟨⟨AZ,DR AX Bh AQ⟩,by omega⟩ ⟨⟨_,rfl,AG k⟩,kz⟩|refine co rfl (AD rfl underlying22 Bi vq vq AA CX) ?_|refine co rfl (Iv rfl DL rfl) (co rfl (KO x rfl vq kz) ?_)|refine ac ?_|(refine Tr.cn rfl ?_ ?_<;>intro h q)
 have A8:k=(l).length:=by have:=AJ h1;omega
 subst A8
 refine a3 ?_
 · exact int_eq (F8 AQ)
theorem J6 {l:List Int} {p:Int→Bool}  :A0 prog 84 [ints l,Zu prog (fun x:Int=>[int x]) (fun x=>bool (p x))] (bool (l.any p)):=by
 refine fo func84 rfl ⟨rfl,rfl⟩ fun M0 w0=> ?_
 refine a2 ?_
 refine co rfl (Bq (V8) rfl rfl rfl) ?_
 refine a2 ?_
 · exact bool_eq (QS p l)
end Go.Proofs.YtmocaapoeefgkaaGreatDoor
namespace Go.Proofs.YtmocaapoeefgkaaGreatDoor
open Go Go.RowKit Cp Go.ChangeShapes Go.WideShapes Go.ChangeAt Go.Proofs.Tryz
theorem AIb:ownKnob Tryz.prog.godebug=none:=by kernel_rfl
theorem pK:laidOutB Tryz.prog=true:=by kernel_rfl
theorem i64_in {n:Int} (h:(Lit.int .i64 n).wf=true):RO n:=by
 simp only [Lit.wf,Bool.and_eq_true,decide_eq_true_eq] at h
 have h1:IntKind.i64.min= -9223372036854775808:=rfl
 have h2:IntKind.i64.max=9223372036854775807:=rfl
 unfold RO;omega
theorem aD {P:Program} {t e:TypeId} (ht:P.underlying t=some (.slice e)) (he:P.underlying e=some (.int .i64)) (hc:P.cellsOf e=1):J1 P t (fun l:List Int=>l.length≤maxLen∧∀n∈l,RO n) (fun l=>[ints l]):=
 (Xa ht hc (Bo he)).map id (fun _ h=>⟨h.2,fun n hn=>i64_in (h.1 n hn)⟩) (fun _=>rfl)
end Go.Proofs.YtmocaapoeefgkaaGreatDoor
namespace Go.Proofs.YtmocaapoeefgkaaGreatDoor
open Go Go.RowKit Cp Go.Proofs.Tryz
variable {I:C1} {E:Env} {ps:List Pr} {b i k:Nat} {o:Oper} {p:Pr}
abbrev DT (b:Nat) (s:DS):At:=Xc 104 b s
theorem vi (n:Int) {k:Int} (hk:1≤k):(n.tmod k+k).tmod k=n % k:=by
 have h1: -k<n.tmod k:=by have:=Int.lt_tmod_of_pos n (b:=k) AA;omega
 rw [Int.tmod_eq_emod_of_nonneg AA,Int.tmod_def,show n-k*n.tdiv k+k=n+k*(1-n.tdiv k) by rw [Int.mul_sub];omega,Int.add_mul_emod_self_left]
theorem AAa (n:Int) {k:Int} (hk:1≤k): -k<n.tmod k∧n.tmod k<k:=by
 have h1:=Int.lt_tmod_of_pos n (b:=k) AA
 have h2:=Int.tmod_lt_of_pos n (b:=k) AA
 omega
theorem vk {l:List Int}  :A0 prog 10 [ints l] (bool (decide (l.length≤400))):=by
 refine fo func10 rfl ⟨rfl,rfl⟩ fun M0 w0=> ?_
 refine a3 ?_
 · exact QB
theorem AE0 {n k:Int} (hk:1≤k) (hk2:k≤1000000000):A0 prog 68 [int n,int k] (int (n % k)):=by
 refine fo func68 rfl ⟨rfl,rfl⟩ fun M0 w0=> ?_
 have hm:=AAa n hk
 have hp:=vi n hk
 · repeat' first|(exfalso;omega)|(refine int_eq ?_;exact hp)|refine co rfl (OJ rfl vq vq AA) ?_|refine ac ?_|(refine Tr.cn rfl ?_ ?_<;>intro h q)
theorem CI {s:DS} {n:Int} (hn:1≤n) (hn2:n≤1000000000):BP prog 16 [ptr b 0,int n] (int (s.val n)) (DT b s) (fun _=>DT b s.Ci):=by
 refine BP.of func16 rfl rfl Am fun M0 w0 S rs M1 w1=> ?_
 have hs:=s.h
 have V9:=s.h2
 refine ac ?_
 refine an ?_ ?_<;>intro h1 q1
 refine ac ?_
 refine Tr.ret (Fin.AE ?_)
 rw [DS.uY (s:=s) AA]
 refine Fin.Gn [] rfl (AL.tmp rfl Lr) ?_ (fun _ _ _ _=>rfl)
 · refine int_eq ?_;exact (DS.uX AA n).symm
 have hlt:s.at_<s.l.length:=by omega
 obtain ⟨x,hx⟩:=at_ hlt
 refine ac ?_
 refine ap ?_
 refine wk [1,0] rfl ?_
 refine ac ?_
 refine co rfl (AD rfl underlying22 Bi vq vq AA (by rw [show ((s.at_:Nat):Int)+1-1=((s.at_:Nat):Int) by omega];exact AR hx)) ?_
 refine ac ?_
 refine co rfl (Bq (AE0 AA AA) rfl rfl rfl) ?_
 refine ac ?_
 refine wk [4] rfl (Tr.ret ?_)
 rw [DS.zg hlt]
 refine Fin.Gn [] rfl (AL.tmp rfl Lr) ?_ (fun _ _ _ _=>rfl)
 · refine int_eq ?_;exact (DS.zf hx n).symm
theorem R6 {s:DS} {l:List Int} (hl:l≠[]) (hl2:l.length≤1000000000):BP prog 34 [ptr b 0,ints l] (int (s.of l)) (DT b s) (fun _=>DT b s.Ci):=by
 refine BP.of func34 rfl rfl Am fun M0 w0 S rs M1 w1=> ?_
 have hl0:1≤(l.length:Int):=by have:=List.length_pos_iff.2 hl;omega
 have hv:=s.DK hl0
 obtain ⟨x,hx⟩:=at_ (l:=l) (k:=(s.val l.length).toNat) AA
 refine ac ?_
 refine ap ?_
 refine TO.F0 0 rfl rfl AB (Ae rfl rfl AB rfl (CI AA AA) ⟨kq,kz⟩) (tp rfl (AD rfl underlying22 Bi vq vq AA (Bb hx)) ?_)
 refine ap ?_
 refine Tr.ret (Fin.Gn [] rfl (AL.tmp rfl Lr) ?_ (fun _ _ _ _=>rfl))
 · refine int_eq ?_;unfold DS.of;rw [hx];rfl
theorem aE {s:DS} {n:Int} (hn:1≤n) (hn2:n≤1000000000):BP prog 39 [ptr b 0,int n] (bool (s.val n==n-1)) (DT b s) (fun _=>DT b s.Ci):=by
 refine BP.of func39 rfl rfl Am fun M0 w0 S rs M1 w1=> ?_
 refine ac ?_
 refine ap ?_
 refine TO.F0 0 rfl rfl AB (Ae rfl rfl AB rfl (CI AA AA) ⟨kq,kz⟩) ?_
 refine ap ?_
 refine Tr.ret (Fin.Gn [] rfl (AL.tmp rfl Lr) ?_ (fun _ _ _ _=>rfl))
 · exact Lr
def vm (l:List Int) (hl:l.length≤1000000000) (v:Value):At:=match v with| .pointer (some a)=>Xc 104 a.block ⟨l,0,Nat.zero_le _,hl⟩|_=>Bf
theorem AAb {l:List Int} (hl:l.length≤1000000000):BP prog 12 [ints l] (ex fun b=>ptr b 0) (Bf) (vm l hl):=by
 refine BP.of func12 rfl rfl Am fun M0 w0 S rs M1 w1=> ?_
 refine ac ?_
 refine ap ?_
 refine TO.Vk rfl rfl AB rfl Be (fun b1=> ?_)
 refine ap ?_
 refine Tr.ret (Fin.drop 1 ?_)
 refine Fin.Gn [] rfl (AL.tmp rfl Lr) ?_ (by rintro _ _ _ rfl;rfl)
 · exact Az b1 Lr
-- no type cipherplan/api.Fact here
-- no type cipherplan/api.AHC here
-- no type cipherplan/AJi.place here
theorem yy {d:Nat} {w:World} {x0 y0:Int} {x1 y1:Int}:(Op.equalIn (d+2) 81 (.agg #[.int .i64 x0,.int .i64 x1]) (.agg #[.int .i64 y0,.int .i64 y1])).run Tryz.prog w= .ok (decide (x0=y0∧x1=y1)) w:=by
 have h:=eqS (w:=w) (d:=d+1) (xs:= #[.int .i64 x0,.int .i64 x1]) (ys:= #[.int .i64 y0,.int .i64 y1]) Tryz.underlying81 Ak (FI AB (CR DL rfl) (CR DL rfl) (Gf (d:=d+0) Tryz.underlying3) (FI AB (CR DL rfl) (CR DL rfl) (Gf (d:=d+0) Tryz.underlying3) (NS)))
 refine h.trans (congrArg (fun b=>Result.ok b w) ?_)
 rw [Bool.eq_iff_iff];simp [and_assoc]
theorem II {u:TypeId} {x y:Operand} {x0 y0:Int} {x1 y1:Int} (ho:o.op= .binOp .eql 81 x y u) (hx:VL E x (agg [is (.int .i64 x0),is (.int .i64 x1)])) (hy:VL E y (agg [is (.int .i64 y0),is (.int .i64 y1)])):Ac Tryz.prog I o E (bool (decide (x0=y0∧x1=y1))):=
 NQ [.int .i64 x0,.int .i64 x1] [.int .i64 y0,.int .i64 y1] ho hx hy Ak (fun w=>by rw [show Op.equal 81 _ _=Op.equalIn (9998+2) 81 _ _ from rfl];exact yy)
theorem NW {u:TypeId} {x y:Operand} {x0 y0:Int} {x1 y1:Int} (ho:o.op= .binOp .neq 81 x y u) (hx:VL E x (agg [is (.int .i64 x0),is (.int .i64 x1)])) (hy:VL E y (agg [is (.int .i64 y0),is (.int .i64 y1)])):Ac Tryz.prog I o E (bool (!decide (x0=y0∧x1=y1))):=
 NR [.int .i64 x0,.int .i64 x1] [.int .i64 y0,.int .i64 y1] ho hx hy Ak (fun w=>by rw [show Op.equal 81 _ _=Op.equalIn (9998+2) 81 _ _ from rfl];exact yy)
def KH (a b:Int):Int:=if a<b then -1 else if b<a then 1 else 0
def orF (l:List Int):Int:=(l.find? fun x=>x !=0).getD 0
theorem vn {l:List Int} {x:Int} (hx:l[k]? =some x) (h0:¬x=0) (h:∀j y,j<k→l[j]? =some y→(y !=0)=false):x=orF l:=by
 unfold orF
 have:l.find? (fun x=>x !=0)=some x:=by
  rw [List.find?_eq_some_iff_getElem]
  have hk:k<l.length:=by rcases Nat.lt_or_ge k l.length with h|h;exact h;rw [List.getElem?_eq_none h] at hx;cases hx
  rw [List.getElem?_eq_getElem hk] at hx
  simp only [Option.some.injEq] at hx
  refine ⟨by simpa using h0,k,hk,hx,fun j hj=> ?_⟩
  have:=h j _ hj (List.getElem?_eq_getElem AA)
  simpa using this
 rw [this];rfl
theorem pL {l:List Int} (h:∀j y,j<l.length→l[j]? =some y→(y !=0)=false):0=orF l:=by
 unfold orF
 have:l.find? (fun x=>x !=0)=none:=by
  rw [List.find?_eq_none]
  intro x hx
  obtain ⟨j,hj,rfl⟩:=List.mem_iff_getElem.1 hx
  have:=h j _ hj (List.getElem?_eq_getElem hj)
  simpa using this
 rw [this];rfl
def okc (c:UInt8):Bool:=decide (33≤c.toNat∧c.toNat≤126)
def named (s:List UInt8):Bool:=s.all okc&&decide (1≤s.length∧s.length≤32)
theorem V_ {β:Type} {p:β→Bool} {l:List β} {x:β} (hx:l[k]? =some x) (hp:p x=false):l.all p=false:=by grind
theorem NX {β:Type} {p:β→Bool} {l:List β} (h:∀j y,j<l.length→l[j]? =some y→(!p y)=false):l.all p=true:=by
 rw [List.all_eq_true]
 intro y hy
 obtain ⟨j,hj⟩:=List.mem_iff_getElem?.1 hy
 have:=h j y dI hj
 simpa using this
theorem pM {n:Int}  :A0 prog 166 [int n] (bool false):=by
 refine fo func166 rfl ⟨rfl,rfl⟩ fun M0 w0=> ?_
 refine a3 ?_
 · exact bool_eq AO
theorem aF {a b:Int}  :A0 prog 115 [int a,int b] (int (KH a b)):=by
 refine fo func115 rfl ⟨rfl,rfl⟩ fun M0 w0=> ?_
 · repeat' first|exact absurd h AB|(refine int_eq ?_;unfold KH;(repeat split)<;>omega)|refine co rfl (CM (pM) rfl rfl) ?_|refine ac ?_|(refine Tr.cn rfl ?_ ?_<;>intro h q)
theorem AE1 {l:List Int}  :A0 prog 223 [ints l] (int (orF l)):=by
 refine fo func223 rfl ⟨rfl,rfl⟩ fun M0 w0=>(Tr.CG 0 rfl fun DN=> ?_)
 refine a3 ?_
 refine Tr.block (Tr.Ax _ (kk [7,6,3] rfl) (fun k:Nat=>[(8,int ((k:Nat):Int))]) (fun k:Nat=>k≤(l).length∧(∀j y,j<k→l[j]? =some y→(y !=0)=false)) (fun k:Nat=>(l).length-k) 0 (⟨Nat.zero_le _,fun j y hj=>absurd hj AA⟩) kz ?_)
 rintro k ⟨BJ,AQ⟩
 refine ac ?_
 refine Tr.seq ?_
 refine Tr.cn rfl ?_ ?_<;>intro h1 q1
 have AZ:k<(l).length:=AH h1
 obtain ⟨x,AX⟩:=at_ AZ
 refine ac ?_
 refine Tr.seq (Tr.block (Tr.seq (Tr.Bt (co rfl (AD rfl underlying22 Bi vq vq AA CX) ?_))))
 · repeat' first|exact int_eq (vn AX Bh AQ)|exact Fin.AM (k+1) ⟨⟨AZ,DR (p:=fun y=>y !=0) AX (by simpa using by assumption) AQ⟩,by omega⟩ ⟨⟨_,rfl,AG k⟩,kz⟩|refine ac ?_|(refine Tr.cn rfl ?_ ?_<;>intro h q)
 have A8:k=(l).length:=by have:=AJ h1;omega
 subst A8
 refine a3 ?_
 · exact int_eq (pL AQ)
theorem HI {s:List UInt8}  :A0 prog 196 [str s] (bool (named s)):=by
 refine fo func196 rfl ⟨rfl,rfl⟩ fun M0 w0=> ?_
 refine ac ?_
 refine ag ?_ ?_<;>intro h1 q1
 refine a3 ?_
 · exact dY
 refine an ?_ ?_<;>intro h2 q2
 refine a2 ?_
 · exact dY
 refine a2 ?_
 refine Tr.block (Tr.Ax _ (kk [0] rfl) (fun k:Nat=>[(3,int ((k:Nat):Int))]) (fun k:Nat=>k≤(s).length∧(∀j y,j<k→s[j]? =some y→(!okc y)=false)) (fun k:Nat=>(s).length-k) 0 (⟨Nat.zero_le _,fun j y hj=>absurd hj AA⟩) kz ?_)
 rintro k ⟨BJ,AQ⟩
 refine an ?_ ?_<;>intro h3 q3
 have AZ:k<(s).length:=AH h3
 obtain ⟨c,AX⟩:=at_ AZ
 · repeat' first|(refine bool_eq ?_;unfold named;rw [V_ (p:=okc) AX (by simp [okc];omega)];rfl)|(exact Fin.AM (k+1) ⟨⟨AZ,DR (p:=fun c=> !okc c) AX (by simp [okc];omega) AQ⟩,by omega⟩ ⟨⟨_,rfl,AG k⟩,kz⟩)|refine co rfl (Vz rfl underlying9 vq vq AA (V0 Bh)) ?_|refine cy h rfl (Vz rfl underlying9 vq vq AA (V0 Bh)) ?_|refine ac ?_|(refine Tr.cn rfl ?_ ?_<;>intro h q)|(refine Ch.cg rfl rfl rfl ?_ ?_<;>intro h q)
 have A8:k=(s).length:=by have:=AJ h3;omega
 subst A8
 refine a3 ?_
 · refine bool_eq ?_;unfold named;rw [NX AQ,Bool.true_and];symm;rw [decide_eq_true_eq];omega
structure aG where
 name:List UInt8
 kind:Int
 way:Int
 sizes:List Int
 UM:List Int
def I2:List aG:=[⟨[],0,0,[],[]⟩,⟨[109,100,53],1,0,[],[18]⟩,⟨[115,104,97,49],1,0,[],[60]⟩,⟨[115,104,97,50,53,54],1,0,[],[128]⟩,⟨[115,104,97,51,56,52],1,0,[],[192]⟩,⟨[114,115,97],2,1,[],[]⟩,⟨[100,115,97],2,1,[],[]⟩,⟨[101,99,100,115,97],2,2,[],[]⟩,⟨[101,100,50,53,53,49,57],2,0,[],[128]⟩,⟨[109,108,100,115,97],2,3,[44,65,87],[128,192,256]⟩,⟨[114,115,97,107,120],3,1,[],[]⟩,⟨[100,104,101],3,1,[],[]⟩,⟨[101,99,100,104,101],3,2,[],[]⟩,⟨[109,108,107,101,109],3,3,[512,768,1024],[128,192,256]⟩,⟨[114,99,52],4,3,[40,128],[40,60]⟩,⟨[100,101,115,51],4,3,[112,168],[80,112]⟩,⟨[97,101,115,99,98,99],4,3,[128,256],[128,256]⟩,⟨[97,101,115,103,99,109],4,3,[128,256],[128,256]⟩,⟨[99,104,97,99,104,97],4,0,[],[256]⟩,⟨[104,109,97,99,109,100,53],5,0,[],[64]⟩,⟨[104,109,97,99,115,104,97,49],5,0,[],[80]⟩,⟨[104,109,97,99,115,104,97,50,53,54],5,0,[],[128]⟩,⟨[97,101,97,100],5,0,[],[256]⟩]
def fJ:aG:=⟨[],0,0,[],[]⟩
def E3 (CN:Int):aG:=if 1≤CN∧CN≤22 then (I2[CN.toNat]?).getD fJ else fJ
theorem PN {CN:Int} (h:1≤CN∧CN≤22):I2[CN.toNat]? =some (E3 CN):=by
 have hl:CN.toNat<I2.length:=by show CN.toNat<23;omega
 unfold E3;rw [if_pos h,List.getElem?_eq_getElem hl];rfl
theorem jJ {CN:Int} (h:1≤CN∧CN≤22):E3 CN∈I2:=List.mem_of_getElem? (PN h)
def mods:List (Int×Int):=[(1024,56),(2048,80),(3072,112),(7680,128),(15360,192)]
def AE2:List (Int×Int)→Int→Int
 |[],_=>256
 |p::l,b=>if b<p.1 then p.2 else AE2 l b
def AAc (b:Int):Int:=AE2 mods b
def cv:List Int:=[160,224,256,384,521]
def D8 (CN bits:Int):Int:=
 if 1 ≤ CN ∧ CN ≤ 22 then
  if (E3 CN).way=0 then (if bits=0 then ((E3 CN).UM[0]?).getD 0 else 0)
  else if (E3 CN).way=1 then (if 512≤bits∧bits≤16384 then AAc bits else 0)
  else if (E3 CN).way=2 then (if (cv.any fun x=>bits==x)=true then bits.tdiv 2 else 0)
  else if (E3 CN).way=3 then (if 0≤idx (fun x=>bits==x) (E3 CN).sizes then ((E3 CN).UM[(idx (fun x=>bits==x) (E3 CN).sizes).toNat]?).getD 0 else 0)
  else 0
 else 0
structure Gt where
 Ib:Int
 Kj:List UInt8
 IJ:List UInt8
 Pp:Int
 J7:Int
 Cd:Int
 WA:Int
 NY:Int
 from_:Int
 OZ:Int
 auth:Bool
 path:Int
 names:List (List UInt8)
 jK:Int
 jL:Int
abbrev Xv (l:List (List UInt8)):Pr:=slice 1 (l.map fun t=>[str t])
abbrev C0 (c:Gt):List Pr:=[int c.Ib,str c.Kj,str c.IJ,int c.Pp,int c.J7,int c.Cd,int c.WA,int c.NY,int c.from_,int c.OZ,bool c.auth,int c.path,Xv c.names,int c.jK,int c.jL]
abbrev J8 (l:List Gt):Pr:=slice 15 (l.map C0)
structure Gt.fits (c:Gt):Prop where
 Kj:c.Kj.length≤maxLen
 IJ:c.IJ.length≤maxLen
 names:∀s∈c.names,s.length≤maxLen
def Il (n:Int):Bool:=decide (0≤n)&&decide (n≤2147483648)
def AAd (n:Int):Bool:=decide (0≤n)&&decide (n<4294967296)
def LW (o:List UInt8) (c:UInt8):Bool:=decide (97≤c.toNat∧c.toNat≤122)||decide (65≤c.toNat∧c.toNat≤90)||decide (48≤c.toNat∧c.toNat≤57)||decide (0≤Lib.indexByte o c)
def RM (s:List UInt8):Bool:=s.all (LW [45,95,46])&&decide (1≤s.length∧s.length≤32)
def nameAt (l:List (List UInt8)) (i:Nat):Bool:=named (l[i]?.getD [])&&(decide (i=0)||decide (Lib.compareBytes (l[i-1]?.getD []) (l[i]?.getD [])= -1))
def He (l:List (List UInt8)):Bool:=allI (nameAt l) l.length&&decide (l.length≤8)
def L1 (CN bits kind:Int):Bool:=decide (D8 CN bits>0)&&(E3 CN).kind==kind
def EP (c:Gt):Bool:=
 (decide (0≤c.Ib)&&decide (c.Ib≤1099511627776)&&named c.Kj&&named c.IJ&&He c.names)&&
 (L1 c.Pp c.J7 2&&Il c.Cd&&L1 c.WA c.NY 1&&Il c.jK&&AAd c.jL)&&
 (decide (0≤c.from_)&&decide (c.from_≤c.OZ)&&decide (c.OZ≤40000))&&(decide (0≤c.path)&&decide (c.path≤8)&&(c.auth||c.path==0))
def WB (CN bits id:Int) (l:List Gt):Bool:=L1 CN bits 2&&Il id&&decide (l.length≤8)&&l.all EP&&match l with|[]=>true|c::_=>decide (c.Pp=CN∧c.J7=bits)&&c.Cd==id
structure Hw where
 CN:Int
 bits:Int
 Cd:Int
 chain:List Gt
abbrev E_ (x:Hw):List Pr:=[int x.CN,int x.bits,int x.Cd,J8 x.chain]
abbrev pN (l:List Hw):Pr:=slice 4 (l.map E_)
def Hw.fits (x:Hw):Prop:=∀c∈x.chain,c.fits
structure Bw where
 name:List UInt8
 least:Int
 most:Int
 A_:List Int
 own:Bool
 ids:List Hw
 anchors:List Int
 hashes:List Int
 Dz:Bool
abbrev BQ (e:Bw):List Pr:=[str e.name,int e.least,int e.most,ints e.A_,bool e.own,pN e.ids,ints e.anchors,ints e.hashes,bool e.Dz]
structure Bw.fits (e:Bw):Prop where
 name:e.name.length≤maxLen
 ids:∀x∈e.ids,x.fits
def I3 (l:List Int) (i:Nat):Bool:=decide (i=0)||decide (l[i-1]?.getD 0<l[i]?.getD 0)
def jM (l:List Int):Bool:=allI (I3 l) l.length
def Gg (l:List Int) (i:Nat):Bool:=decide (1≤l[i]?.getD 0∧l[i]?.getD 0≤16)&& !((l.take i).any fun x=>l[i]?.getD 0==x)
def LX (l:List Int):Bool:=allI (Gg l) l.length
def R7 (n:Int):Bool:=(E3 n).kind==1
def idB (x:Hw):Bool:=WB x.CN x.bits x.Cd x.chain
def G4 (e:Bw):Bool:=
 (RM e.name&&decide (1≤e.least)&&decide (e.least≤e.most)&&decide (e.most≤4)&&LX e.A_)&&
 (decide (e.ids.length≤4)&&decide (e.anchors.length≤16)&&jM e.anchors&&jM e.hashes)&&e.ids.all idB&&e.anchors.all Il&&e.hashes.all R7
theorem getD_at {β:Type} {l:List β} {x d:β} (h:l[k]? =some x):l[k]?.getD d=x:=by rw [h];rfl
abbrev Dq:List Pr:=[any,any,any,any,any,any,any,any,any,any,any,any]
abbrev NZ:List (List Pr):=[Dq,Dq,Dq,Dq,Dq,Dq,Dq,Dq,Dq,Dq,Dq,Dq,Dq,Dq,Dq,Dq]
theorem pO (hk:k<16):NZ[k]? =some Dq:=by
 have hk':k<NZ.length:=hk
 rw [List.getElem?_eq_getElem hk']
 have:∀r∈NZ,r=Dq:=by intro r hr;simp at hr;exact hr
 rw [this _ (List.getElem_mem hk')]
theorem jN (h:Dq[i]? =some p):p=any:=by have:=List.mem_of_getElem? h;simp at this;exact this
theorem WC (h:ps.length=12):Pr.le (agg ps) (agg Dq):=fun M w v ⟨cs,h1,h2,h3⟩=>⟨cs,h1,h2,HL.yR (by rw [h3.length,h];rfl) fun i p v hp _=>by rw [jN hp];trivial⟩
def pP (CN bits id:Int) (l:List Gt):Bool:=match l with|[]=>true|c::_=>decide (c.Pp=CN∧c.J7=bits)&&c.Cd==id
theorem jO {CN bits id:Int} {l:List Gt} (h:l.length=0):pP CN bits id l=true:=by rw [List.eq_nil_of_length_eq_zero h];rfl
theorem Xw {CN bits id:Int} {l:List Gt} {c:Gt} (h:l[0]? =some c):pP CN bits id l=(decide (c.Pp=CN∧c.J7=bits)&&c.Cd==id):=by
 cases l with
 |nil=>simp at h
 |cons a l=>simp at h;subst h;rfl
theorem HN (CN bits id:Int) (l:List Gt):WB CN bits id l=(L1 CN bits 2&&Il id&&decide (l.length≤8)&&l.all EP&&pP CN bits id l):=rfl
theorem Na {β γ:Type} {f:β→γ} {l:List β} (h:l≠[]):0<(l.map f).length:=by rw [List.length_map];exact List.length_pos_iff.2 h
theorem jP {l:List (Int)} (h0:l≠[]) (hl:l.length≤1000000):BP prog 131 [slice 1 (l.map (fun n:Int=>[int n]))] (lens (l.map (fun n:Int=>[int n])).length) (Bf) (fun v=>EN 3 1 (l.map (fun n:Int=>[int n])) v):=by
 refine BP.of func131 rfl rfl Am fun M0 w0 S rs M1 w1=> ?_
 have hpos:=Na (f:=(fun n:Int=>[int n])) h0
 refine a2 ?_
 refine co rfl (F3 rfl underlying22 vq) ?_
 refine ac ?_
 refine Tr.ex 4 rfl (fun z1=>Tr.fact 4 rfl fun Ex=> ?_)
 refine Tr.cn rfl ?_ ?_<;>intro h1 q1
 exfalso;have:=Ex h1;simp_all
 refine ac ?_
 refine ap ?_
 refine TO.pad ?_
 refine TO.Df 0 rfl rfl AB (Jc rfl rfl AB rfl underlying22 Bi G_ z3 rfl AB AB vq vq hpos IU B8) (fun v1=> ?_)
 refine ap ?_
 refine Tr.ret (Fin.drop 1 ?_)
 refine Fin.EV rfl rfl ?_ QA
 · exact HE
theorem jQ   :A0 prog 131 [slice 1 []] (full 1 []):=by
 refine fo func131 rfl ⟨rfl,rfl⟩ fun M0 w0=> ?_
 refine a2 ?_
 refine co rfl (F3 rfl underlying22 vq) ?_
 refine ac ?_
 refine Tr.ex 4 rfl (fun z1=>Tr.fact 4 rfl fun Ex=> ?_)
 · repeat' first|exact Ck 1|exact Lr|refine co rfl (NV rfl underlying22 Bi vq vq) ?_|refine ac ?_|(refine Tr.cn rfl ?_ ?_<;>intro h q)
theorem Oa {l:List (Int)} (hl:l.length≤1000000):BP Tryz.prog 131 [slice 1 (l.map (fun n:Int=>[int n]))] (lens l.length) Bf (fun v=>Ba 3 1 (l.map (fun n:Int=>[int n])) v):=by
 by_cases h0:l=[]
 · subst h0;exact BP.Xs jQ
 ·
  have:=BP.R5 (by intro h;exact h0 EJ) (jP h0 hl)
  rwa [List.length_map] at this
theorem jR {l:List (Gt)} (h0:l≠[]) (hl:l.length≤925904528640):BP prog 241 [slice 15 (l.map C0)] (lens (l.map C0).length) (Bf) (fun v=>EN 189 15 (l.map C0) v):=by
 refine BP.of func241 rfl rfl Am fun M0 w0 S rs M1 w1=> ?_
 have hpos:=Na (f:=C0) h0
 refine a2 ?_
 refine co rfl (F3 rfl underlying82 vq) ?_
 refine ac ?_
 refine Tr.ex 4 rfl (fun z1=>Tr.fact 4 rfl fun Ex=> ?_)
 refine Tr.cn rfl ?_ ?_<;>intro h1 q1
 exfalso;have:=Ex h1;simp_all
 refine ac ?_
 refine ap ?_
 refine TO.pad ?_
 refine TO.Df 0 rfl rfl AB (Jc rfl rfl AB rfl underlying82 Dv yf Ro rfl AB AB vq vq hpos IU B8) (fun v1=> ?_)
 refine ap ?_
 refine Tr.ret (Fin.drop 1 ?_)
 refine Fin.EV rfl rfl ?_ QA
 · exact HE
theorem jS   :A0 prog 241 [slice 15 []] (full 15 []):=by
 refine fo func241 rfl ⟨rfl,rfl⟩ fun M0 w0=> ?_
 refine a2 ?_
 refine co rfl (F3 rfl underlying82 vq) ?_
 refine ac ?_
 refine Tr.ex 4 rfl (fun z1=>Tr.fact 4 rfl fun Ex=> ?_)
 · repeat' first|exact Ck 15|exact Lr|refine co rfl (NV rfl underlying82 Dv vq vq) ?_|refine ac ?_|(refine Tr.cn rfl ?_ ?_<;>intro h q)
theorem jT {l:List (Gt)} (hl:l.length≤925904528640):BP Tryz.prog 241 [slice 15 (l.map C0)] (lens l.length) Bf (fun v=>Ba 189 15 (l.map C0) v):=by
 by_cases h0:l=[]
 · subst h0;exact BP.Xs jS
 ·
  have:=BP.R5 (by intro h;exact h0 EJ) (jR h0 hl)
  rwa [List.length_map] at this
theorem jU {l:List (List UInt8)} (h0:l≠[]) (hl:l.length≤8796093022208):BP prog 242 [slice 1 (l.map (fun t:List UInt8=>[str t]))] (lens (l.map (fun t:List UInt8=>[str t])).length) (Bf) (fun v=>EN 9 1 (l.map (fun t:List UInt8=>[str t])) v):=by
 refine BP.of func242 rfl rfl Am fun M0 w0 S rs M1 w1=> ?_
 have hpos:=Na (f:=(fun t:List UInt8=>[str t])) h0
 refine a2 ?_
 refine co rfl (F3 rfl underlying127 vq) ?_
 refine ac ?_
 refine Tr.ex 4 rfl (fun z1=>Tr.fact 4 rfl fun Ex=> ?_)
 refine Tr.cn rfl ?_ ?_<;>intro h1 q1
 exfalso;have:=Ex h1;simp_all
 refine ac ?_
 refine ap ?_
 refine TO.pad ?_
 refine TO.Df 0 rfl rfl AB (Jc rfl rfl AB rfl underlying127 O6 by9 z9 rfl AB AB vq vq hpos IU B8) (fun v1=> ?_)
 refine ap ?_
 refine Tr.ret (Fin.drop 1 ?_)
 refine Fin.EV rfl rfl ?_ QA
 · exact HE
theorem jV   :A0 prog 242 [slice 1 []] (full 1 []):=by
 refine fo func242 rfl ⟨rfl,rfl⟩ fun M0 w0=> ?_
 refine a2 ?_
 refine co rfl (F3 rfl underlying127 vq) ?_
 refine ac ?_
 refine Tr.ex 4 rfl (fun z1=>Tr.fact 4 rfl fun Ex=> ?_)
 · repeat' first|exact Ck 1|exact Lr|refine co rfl (NV rfl underlying127 O6 vq vq) ?_|refine ac ?_|(refine Tr.cn rfl ?_ ?_<;>intro h q)
theorem jW {l:List (List UInt8)} (hl:l.length≤8796093022208):A0 Tryz.prog 242 [slice 1 (l.map (fun t:List UInt8=>[str t]))] (slice 1 (l.map (fun t:List UInt8=>[str t]))):=by
 by_cases h0:l=[]
 · subst h0;exact A0.le jV (fun _ _ _ h=>h) (B4 _ _)
 · exact (BP.AD1 (rows:=(l.map (fun t:List UInt8=>[str t]))) (AW fun _=>rfl) (jU h0 hl)).pure
structure Hw.small (x:Hw):Prop where
 chain:x.chain.length≤925904528640
 names:∀c∈x.chain,c.names.length≤8796093022208
theorem pQ {x:Hw} (hx:x.small):A0 prog 203 [agg (E_ x)] (agg (E_ x)):=by
 refine fo func203 rfl ⟨rfl,rfl⟩ fun M0 w0=> ?_
 have hch:=hx.chain
 refine Tr.seq (Tr.BE ?_)
 refine TO.Vk rfl rfl AB rfl Be (fun b1=> ?_)
 refine Tl rfl rfl rfl rfl Vv OV (fun b2=> ?_)
 refine ao ?_
 refine ao ?_
 refine TO.pad ?_
 refine TO.Df 0 rfl rfl AB (F2 rfl rfl AB rfl (jT (l:=x.chain) AA) kz) (fun v1=> ?_)
 refine tp rfl (Aq rfl nw vq) (TO.DP 2 rfl rfl (BF rfl rfl vq F7 ADK rfl Am rfl) ?_)
 refine ao ?_
 refine ac ?_
 refine co rfl (CC 0 rfl (fH rfl underlying82 FC)) ?_
 refine ac ?_
 refine Tr.block (Tr.re 11 rfl (int_eq (by rw [List.length_map])) (Tr.Ax _ (kk [11,10,2,1] rfl) (fun k:Nat=>[(12,int ((k:Nat):Int))]) (fun k:Nat=>k≤(x.chain).length) (fun k:Nat=>(x.chain).length-k) 0 (Nat.zero_le _) kz ?_))
 rintro k BJ
 refine ac ?_
 refine Tr.seq ?_
 refine Tr.cn rfl ?_ ?_<;>intro h1 q1
 have AZ:k<(x.chain).length:=AH h1
 obtain ⟨c,AX⟩:=at_ AZ
 have hcn:=hx.names c (List.mem_of_getElem? AX)
 refine ac ?_
 refine ao ?_
 refine tp rfl (CC 0 rfl (Dy rfl underlying82 Dv FC vq AA B8)) ?_
 refine tp rfl (CC 0 rfl (jI rfl Ia Dv vq (AW fun _=>rfl) eG)) ?_
 refine Tl rfl rfl rfl rfl Ro L3 (fun b3=> ?_)
 refine tm rfl ?_
 refine sf 0 4 ⟨rfl,rfl,rfl⟩ rfl rfl rfl rfl ?_
 refine ao ?_
 refine Tr.rx ?_
 refine ax ?_
 refine xo rfl (fun _=>CM (jW hcn) rfl rfl) ?_
 refine JU 0 rfl rfl (Dy rfl underlying82 Dv FC vq AA B8) ?_
 refine xo rfl (fun _=>aC rfl Xi vq) ?_
 refine Cx.DP 0 rfl rfl (Ca rfl rfl vq F7 yZ rfl (AW fun _=>rfl) eG AB (oo (f:=C0) AX rfl)) ?_
 refine Cx.nil ⟨by kernel_rfl,?_⟩
 refine Aw.done al3 ?_
 refine ac ?_
 refine wk [12,11,10,2,1] rfl ?_
 refine ac ?_
 exact Fin.AM (k+1) ⟨AZ,by omega⟩ ⟨⟨_,rfl,AG k⟩,kz⟩
 have A8:k=(x.chain).length:=by have:=AJ h1;omega
 subst A8
 refine ac ?_
 refine Tr.seq (Tr.CA 2 0 3 rfl rfl AB rfl (Ct _ _) (AW fun _=>rfl) ?_)
 refine ao ?_
 refine TO.AK 1 rfl rfl rfl vq Be rfl Ep rfl rfl ?_
 refine ao ?_
 refine Tr.drop 0 (Tr.drop 1 (Tr.ret (Fin.Cf rfl (AL.cell 0 rfl rfl PG Ep rfl Lr) ?_)))
 · exact Lr
structure Bm where
 Aa:Int
 kind:Int
 number:Int
 at_:Int
 Cb:Hw
variable {I:C1} {E:Env} {f:FuncId} {rows rows':List (List Pr)} {args:List Pr} {b j k m n:Nat} {o:Oper} {x:Operand} {p q:Pr} {P:Program} {t:TypeId}
abbrev DO (c:Bm):List Pr:=[int c.Aa,int c.kind,int c.number,int c.at_,int c.Cb.CN,int c.Cb.bits,int c.Cb.Cd,J8 c.Cb.chain]
def Br (key:Int) (l:List Hw):Int:=idx (fun x=>x.Cd==key) l
theorem QT {β:Type} {p:β→Bool} {l:List β} (h:0≤idx p l):∃x,l[(idx p l).toNat]? =some x∧p x=true∧(idx p l).toNat<l.length:=by
 unfold idx at*
 cases hf:l.findIdx? p with
 |none=>rw [hf] at h;simp at h
 |some i=>
  rw [List.findIdx?_eq_some_iff_getElem] at hf
  obtain ⟨h1,h2,_⟩:=hf
  refine ⟨l[i],?_,h2,by simpa using h1⟩
  simp
theorem Tf.perm {pre post post':List At} {res:Pr} (h:Tf P f args pre res post) (hp:post.Perm post'):Tf P f args pre res post':=
 ⟨h.1,fun M0 w0 S rs M w vs hI hv=>(h.2 M0 w0 S rs M w vs hI hv).mono fun _e _w' ⟨v,M',x,h1,h2,h3,h4,h5⟩=>⟨v,M',x,h1,h2,h3,h4,A7.perm (hp.append_right rs) h5⟩⟩
def fK (x:Hw):Bool:=decide (x.CN=0∧x.bits=0)&&x.Cd==0&&(((x.chain.length:Nat):Int)==0)
def mT (c:Bm):Bool:=if c.kind=1 then fK c.Cb else if c.kind=5 then c.number==0 else c.at_==0&&fK c.Cb
structure Bw.small (e:Bw):Prop where
 A_:e.A_.length≤1000000
 anchors:e.anchors.length≤1000000
 hashes:e.hashes.length≤1000000
 Ze:e.ids.length≤1000000
 ids:∀x∈e.ids,x.small
theorem vo {c:Bm} (hx:c.Cb.small):A0 prog 155 [agg (DO c)] (agg (DO c)):=by
 refine fo func155 rfl ⟨rfl,rfl⟩ fun M0 w0=>(Tr.seq (Tr.BE ?_))
 refine TO.Vk rfl rfl AB rfl Be (fun b1=> ?_)
 refine Tl rfl rfl rfl rfl NP JZ (fun b2=> ?_)
 refine ap ?_
 refine ap ?_
 refine tp rfl (CM (pQ (x:=c.Cb) hx) rfl rfl) ?_
 refine ap ?_
 refine ap ?_
 refine Tr.drop 1 (Tr.ret (Fin.Cf rfl (AL.cell 0 rfl rfl GG DB rfl Lr) ?_))
 · exact Lr
def FT:Bw:=⟨[],0,0,[],false,[],[],[],false⟩
def B6:Hw:=⟨0,0,0,[]⟩
def IK:Bm:=⟨0,0,0,0,B6⟩
abbrev vp (l:List Int):Prop:=l.Pairwise (· < ·)
def FJ (l:List Int) (x:Int):Nat:=(l.takeWhile fun y=>decide (y<x)).length
theorem fL (l:List Int) (x:Int):FJ l x≤l.length:=by
 unfold FJ
 have h:=List.takeWhile_append_dropWhile (p:=fun y=>decide (y<x)) (l:=l)
 have:=congrArg List.length h
 rw [List.length_append] at this;omega
theorem WD {x:Int}:∀{l:List Int} {k:Nat},k≤l.length→(∀(j:Nat) y,j<k→l[j]? =some y→y<x)→(∀y,l[k]? =some y→¬y<x)→FJ l x=k
  | [], k, hk, _, _ => by have : k = 0 := by simpa using hk
                          subst this;rfl
  |y::r,0,_,_,h2=>by unfold FJ;rw [List.takeWhile_cons_of_neg (by simpa using h2 y rfl)];rfl
  |y::r,k+1,hk,h1,h2=>by
    have ih:=WD (l:=r) (k:=k) QG (fun j z hj hz=>h1 (j+1) z AA LO) (fun z hz=>h2 z LO)
    unfold FJ at ih ⊢
    rw [List.takeWhile_cons_of_pos (by simpa using h1 0 y AA rfl),List.length_cons,ih]
theorem WE {x:Int}:∀{l:List Int} {j:Nat} {y:Int},j<FJ l x→l[j]? =some y→y<x
 |[],j,y,h,_=>by unfold FJ at h;simp at h
 |z::r,j,y,h,hy=>by
  by_cases hz:z<x
  ·
   cases j with
   |zero=>simp at hy;subst hy;exact hz
   |succ j=>
    refine WE (l:=r) (j:=j) ?_ (by simpa using hy)
    unfold FJ at h ⊢
    rw [List.takeWhile_cons_of_pos LO,List.length_cons] at h;omega
  · unfold FJ at h;rw [List.takeWhile_cons_of_neg LO] at h;simp at h
theorem fM {x:Int}:∀{l:List Int} {y:Int},l[FJ l x]? =some y→¬y<x
 |[],y,h=>by simp at h
 |z::r,y,h=>by
  by_cases hz:z<x
  ·
   unfold FJ at h
   rw [List.takeWhile_cons_of_pos LO,List.length_cons,List.getElem?_cons_succ] at h
   exact fM (l:=r) h
  · unfold FJ at h;rw [List.takeWhile_cons_of_neg LO] at h;simp at h;subst h;exact hz
abbrev Gu (l:List Int) (x:Int):Bool:=(l[FJ l x]?).any (fun y=>decide (y=x))
abbrev aH (l:List Int) (x:Int):List Int:=l.take (FJ l x)++[x]++l.drop (FJ l x)
theorem vu {l:List Int} (hs:vp l) {y z:Int} (hjk:j<k) (hy:l[j]? =some y) (hz:l[k]? =some z):y<z:=by
 have h1:=BH hy;have h2:=BH hz
 have:=List.pairwise_iff_getElem.1 hs j k h1 h2 hjk
 rw [List.getElem?_eq_getElem h1] at hy;rw [List.getElem?_eq_getElem h2] at hz
 cases hy;cases hz;exact this
theorem QU {l:List Int} (h:jM l=true):vp l:=by
 unfold jM at h;rw [CD] at h
 have h1:∀(d i:Nat) y z,l[i]? =some y→l[i+d+1]? =some z→y<z:=by
  intro d
  induction d with
  |zero=>
   intro i y z hy hz
   have:=h (i+1) (BH hz)
   unfold I3 at this
   rw [getD_at (show l[i+1]? =some z from hz),getD_at (show l[i+1-1]? =some y from hy)] at this
   simpa using this
  |succ d ih=>
   intro i y z hy hz
   obtain ⟨m,hm⟩:=at_ (l:=l) (k:=i+d+1) (by have:=BH hz;omega)
   have a1:=ih i y m hy hm
   have:=h (i+(d+1)+1) (BH hz)
   unfold I3 at this
   rw [getD_at hz,getD_at (show l[i+(d+1)+1-1]? =some m from hm)] at this
   have:m<z:=by simpa using this
   omega
 refine List.pairwise_iff_getElem.2 fun i j hi hj hij=> ?_
 refine h1 (j-i-1) i _ _ (List.getElem?_eq_getElem hi) ?_
 rw [show i+(j-i-1)+1=j by omega];exact List.getElem?_eq_getElem hj
theorem WG {l:List Int} {x:Int} (h:Gu l x=true):FJ l x<l.length:=by
 by_cases hp:FJ l x<l.length
 · exact hp
 · unfold Gu at h;rw [List.getElem?_eq_none AA] at h;cases h
abbrev Nc (b:Bool):Int:=if b then 1 else 0
abbrev Nd (e:Bw) (c:Bm):Int:=idx (fun y=>c.number==y) e.A_
def CJ (e:Bw) (c:Bm):Except Int (Bw×Bm):=
 if c.kind = 1 then
  if ¬(0≤c.at_∧c.at_≤(e.A_.length:Nat)) then .error 2
  else if (e.A_.any fun y=>c.number==y)=true then .error 41
  else .ok ({ e with A_:=e.A_.take c.at_.toNat++[c.number]++e.A_.drop c.at_.toNat },⟨c.Aa,2,c.number,0,B6⟩)
 else if c.kind = 2 then
  if Nd e c<0 then .error 41 else .ok ({ e with A_:=e.A_.eraseIdx (Nd e c).toNat },⟨c.Aa,1,c.number,Nd e c,B6⟩)
 else if c.kind = 3 then
  if e.most=c.number then .error 41 else .ok ({ e with most:=c.number },⟨c.Aa,c.kind,e.most,0,B6⟩)
 else if c.kind = 4 then
  if e.least=c.number then .error 41 else .ok ({ e with least:=c.number },⟨c.Aa,c.kind,e.least,0,B6⟩)
 else if c.kind = 5 then
  if ¬(0≤c.at_∧c.at_≤(e.ids.length:Nat)) then .error 2
  else if 0≤Br c.Cb.Cd e.ids then .error 41
  else .ok ({ e with ids:=e.ids.take c.at_.toNat++[c.Cb]++e.ids.drop c.at_.toNat },⟨c.Aa,6,c.Cb.Cd,0,B6⟩)
 else if c.kind = 6 then
  match e.ids[(Br c.number e.ids).toNat]? with
  |none=> .error 41
  |some x=>
   if Br c.number e.ids<0 then .error 41
   else if ((e.ids.drop (Br c.number e.ids+1).toNat).any fun x=>x.Cd==c.number)=true then .error 5
   else .ok ({ e with ids:=e.ids.eraseIdx (Br c.number e.ids).toNat },⟨c.Aa,5,0,Br c.number e.ids,x⟩)
 else if c.kind = 7 then
  if Gu e.anchors c.number=true then .error 41 else .ok ({ e with anchors:=aH e.anchors c.number },⟨c.Aa,8,c.number,0,B6⟩)
 else if c.kind = 8 then
  if Gu e.anchors c.number=true then .ok ({ e with anchors:=e.anchors.eraseIdx (FJ e.anchors c.number) },⟨c.Aa,7,c.number,0,B6⟩) else .error 41
 else if c.kind = 9 then
  if Gu e.hashes c.number=true then .error 41 else .ok ({ e with hashes:=aH e.hashes c.number },⟨c.Aa,10,c.number,0,B6⟩)
 else if c.kind = 10 then
  if Gu e.hashes c.number=true then .ok ({ e with hashes:=e.hashes.eraseIdx (FJ e.hashes c.number) },⟨c.Aa,9,c.number,0,B6⟩) else .error 41
 else if c.kind = 11 then
  if ¬(0≤c.number∧c.number≤1) then .error 2
  else if Nc e.Dz=c.number then .error 41 else .ok ({ e with Dz:=(c.number==1) },⟨c.Aa,c.kind,Nc e.Dz,0,B6⟩)
 else
  if ¬(0≤c.number∧c.number≤1) then .error 2
  else if Nc e.own=c.number then .error 41 else .ok ({ e with own:=(c.number==1) },⟨c.Aa,c.kind,Nc e.own,0,B6⟩)
def KC (c:Bm):Prop:=(1≤c.kind∧c.kind≤12)∧mT c=true
instance (c:Bm):Decidable (KC c):=inferInstanceAs (Decidable (_∧_))
def Eg (e:Bw) (c:Bm):Bw×Bm×Int:=
 if G4 e=false then (FT,IK,19)
 else if ¬KC c then (FT,IK,40)
 else match CJ e c with
  | .error f=>(FT,IK,f)
  | .ok (e2,b)=>if G4 e2=true then (e2,b,0) else (FT,IK,18)
theorem QV {e:Bw} {c:Bm} (h:c.kind=1):CJ e c=
  (
  if ¬(0≤c.at_∧c.at_≤(e.A_.length:Nat)) then .error 2
  else if (e.A_.any fun y=>c.number==y)=true then .error 41
  else .ok ({ e with A_:=e.A_.take c.at_.toNat++[c.number]++e.A_.drop c.at_.toNat },⟨c.Aa,2,c.number,0,B6⟩)):=by
 unfold CJ;rw [if_pos h]
theorem QW {e:Bw} {c:Bm} (h:c.kind=2):CJ e c=
  (
  if Nd e c<0 then .error 41 else .ok ({ e with A_:=e.A_.eraseIdx (Nd e c).toNat },⟨c.Aa,1,c.number,Nd e c,B6⟩)):=by
 unfold CJ;rw [if_neg (by rw [h];decide)];rw [if_pos h]
theorem QX {e:Bw} {c:Bm} (h:c.kind=3):CJ e c=
  (
  if e.most=c.number then .error 41 else .ok ({ e with most:=c.number },⟨c.Aa,c.kind,e.most,0,B6⟩)):=by grind [CJ]
theorem QY {e:Bw} {c:Bm} (h:c.kind=4):CJ e c=
  (
  if e.least=c.number then .error 41 else .ok ({ e with least:=c.number },⟨c.Aa,c.kind,e.least,0,B6⟩)):=by grind [CJ]
theorem QZ {e:Bw} {c:Bm} (h:c.kind=5):CJ e c=
  (
  if ¬(0≤c.at_∧c.at_≤(e.ids.length:Nat)) then .error 2
  else if 0≤Br c.Cb.Cd e.ids then .error 41
  else .ok ({ e with ids:=e.ids.take c.at_.toNat++[c.Cb]++e.ids.drop c.at_.toNat },⟨c.Aa,6,c.Cb.Cd,0,B6⟩)):=by grind [CJ]
theorem Qa {e:Bw} {c:Bm} (h:c.kind=6):CJ e c=
  (
  match e.ids[(Br c.number e.ids).toNat]? with
  |none=> .error 41
  |some x=>
   if Br c.number e.ids<0 then .error 41
   else if ((e.ids.drop (Br c.number e.ids+1).toNat).any fun x=>x.Cd==c.number)=true then .error 5
   else .ok ({ e with ids:=e.ids.eraseIdx (Br c.number e.ids).toNat },⟨c.Aa,5,0,Br c.number e.ids,x⟩)):=by grind [CJ]
theorem Qb {e:Bw} {c:Bm} (h:c.kind=7):CJ e c=
  (
  if Gu e.anchors c.number=true then .error 41 else .ok ({ e with anchors:=aH e.anchors c.number },⟨c.Aa,8,c.number,0,B6⟩)):=by grind [CJ]
theorem Qc {e:Bw} {c:Bm} (h:c.kind=8):CJ e c=
  (
  if Gu e.anchors c.number=true then .ok ({ e with anchors:=e.anchors.eraseIdx (FJ e.anchors c.number) },⟨c.Aa,7,c.number,0,B6⟩) else .error 41):=by grind [CJ]
theorem Qd {e:Bw} {c:Bm} (h:c.kind=9):CJ e c=
  (
  if Gu e.hashes c.number=true then .error 41 else .ok ({ e with hashes:=aH e.hashes c.number },⟨c.Aa,10,c.number,0,B6⟩)):=by grind [CJ]
theorem Nf {e:Bw} {c:Bm} (h:c.kind=10):CJ e c=
  (
  if Gu e.hashes c.number=true then .ok ({ e with hashes:=e.hashes.eraseIdx (FJ e.hashes c.number) },⟨c.Aa,9,c.number,0,B6⟩) else .error 41):=by simp_all [CJ]
theorem Ng {e:Bw} {c:Bm} (h:c.kind=11):CJ e c=
  (
  if ¬(0≤c.number∧c.number≤1) then .error 2
  else if Nc e.Dz=c.number then .error 41 else .ok ({ e with Dz:=(c.number==1) },⟨c.Aa,c.kind,Nc e.Dz,0,B6⟩)):=by simp_all [CJ]
theorem Nh {e:Bw} {c:Bm} (h:c.kind=12):CJ e c=
  (
  if ¬(0≤c.number∧c.number≤1) then .error 2
  else if Nc e.own=c.number then .error 41 else .ok ({ e with own:=(c.number==1) },⟨c.Aa,c.kind,Nc e.own,0,B6⟩)):=by simp_all [CJ]
theorem jX {e:Bw} {c:Bm} {f:Int} (h:G4 e=true) (hc:KC c) (hs:CJ e c= .error f):Eg e c=(FT,IK,f):=by grind [Eg]
theorem pR {e:Bw} {c:Bm} {e2:Bw} {b:Bm} (h:G4 e=true) (hc:KC c) (hs:CJ e c= .ok (e2,b)) (h2:G4 e2=true):Eg e c=(e2,b,0):=by grind [Eg]
theorem vv {e:Bw} {c:Bm} {e2:Bw} {b:Bm} (h:G4 e=true) (hc:KC c) (hs:CJ e c= .ok (e2,b)) (h2:G4 e2=false):Eg e c=(FT,IK,18):=by grind [Eg]
structure fN (e:Bw):Prop where
 name:RM e.name=true
 least:1≤e.least
 lm:e.least≤e.most
 most:e.most≤4
 A_:LX e.A_=true
 Ze:e.ids.length≤4
 ACp:e.anchors.length≤16
 anc:jM e.anchors=true
 hash:jM e.hashes=true
 ids:e.ids.all idB=true
 keys:e.anchors.all Il=true
 hsh:e.hashes.all R7=true
theorem Dl {e:Bw}:G4 e=true↔fN e:=by
 unfold G4;simp only [Bool.and_eq_true,decide_eq_true_eq]
 exact ⟨fun ⟨⟨⟨⟨⟨⟨⟨⟨a,b⟩,c⟩,d⟩,f⟩,⟨⟨⟨g,h⟩,i⟩,j⟩⟩,k⟩,l⟩,m⟩=>⟨a,b,c,d,f,g,h,i,j,k,l,m⟩,fun ⟨a,b,c,d,f,g,h,i,j,k,l,m⟩=>⟨⟨⟨⟨⟨⟨⟨⟨a,b⟩,c⟩,d⟩,f⟩,⟨⟨⟨g,h⟩,i⟩,j⟩⟩,k⟩,l⟩,m⟩⟩
theorem jY:B6.small:=⟨by show 0≤_;omega,fun c hc=>by cases hc⟩
theorem pS {d:Nat} {w:World} {x0 y0:Int} {x1 y1:Int}:(Op.equalIn (d+2) 187 (.agg #[.int .i64 x0,.int .i64 x1]) (.agg #[.int .i64 y0,.int .i64 y1])).run Tryz.prog w= .ok (decide (x0=y0∧x1=y1)) w:=by
 have h:=eqS (w:=w) (d:=d+1) (xs:= #[.int .i64 x0,.int .i64 x1]) (ys:= #[.int .i64 y0,.int .i64 y1]) Tryz.underlying187 Ak (FI AB (CR DL rfl) (CR DL rfl) (Gf (d:=d+0) Tryz.underlying3) (FI AB (CR DL rfl) (CR DL rfl) (Gf (d:=d+0) Tryz.underlying3) (NS)))
 refine h.trans (congrArg (fun b=>Result.ok b w) ?_)
 rw [Bool.eq_iff_iff];simp [and_assoc]
theorem R8 {u:TypeId} {y:Operand} {x0 y0:Int} {x1 y1:Int} (ho:o.op= .binOp .eql 187 x y u) (hx:VL E x (agg [is (.int .i64 x0),is (.int .i64 x1)])) (hy:VL E y (agg [is (.int .i64 y0),is (.int .i64 y1)])):Ac Tryz.prog I o E (bool (decide (x0=y0∧x1=y1))):=
 NQ [.int .i64 x0,.int .i64 x1] [.int .i64 y0,.int .i64 y1] ho hx hy Ak (fun w=>by rw [show Op.equal 187 _ _=Op.equalIn (9998+2) 187 _ _ from rfl];exact pS)
theorem pT {u:TypeId} {y:Operand} {x0 y0:Int} {x1 y1:Int} (ho:o.op= .binOp .neq 187 x y u) (hx:VL E x (agg [is (.int .i64 x0),is (.int .i64 x1)])) (hy:VL E y (agg [is (.int .i64 y0),is (.int .i64 y1)])):Ac Tryz.prog I o E (bool (!decide (x0=y0∧x1=y1))):=
 NR [.int .i64 x0,.int .i64 x1] [.int .i64 y0,.int .i64 y1] ho hx hy Ak (fun w=>by rw [show Op.equal 187 _ _=Op.equalIn (9998+2) 187 _ _ from rfl];exact pS)
deriving instance DecidableEq for Gt
deriving instance DecidableEq for Hw
deriving instance DecidableEq for Bw
deriving instance DecidableEq for Bm
theorem Mv {α:Type} {a b:List α} {x y:α} (ha:a[k]? =some x) (hb:b[k]? =some y) (h:a.take k=b.take k) (e:x=y):a.take (k+1)=b.take (k+1):=by
 rw [List.take_add_one,List.take_add_one,ha,hb,h,e]
theorem T2 {α:Type} {a b:List α} {x y:α} (ha:a[k]? =some x) (hb:b[k]? =some y) (e:¬x=y):¬a=b:=by
 rintro rfl;rw [ha] at hb;cases hb;exact e rfl
theorem cw {α:Type} {a b:List α} (hl:a.length=b.length) (h:a.take a.length=b.take a.length):a=b:=by
 rw [List.take_length,hl,List.take_length] at h;exact h
theorem aI {a b:List (Int)}  :A0 prog 128 [ints a,ints b] (bool (decide (a=b))):=by
 refine fo func128 rfl ⟨rfl,rfl⟩ fun M0 w0=>(Tr.CG 0 rfl fun DN=>(Tr.CG 1 rfl fun ER=> ?_))
 refine ac ?_
 refine an ?_ ?_<;>intro h1 q1
 have hne:¬a.length=b.length:=by simp_all;omega
 refine a2 ?_
 · exact HT
 have Mu:a.length=b.length:=by simp_all;omega
 refine a2 ?_
 refine Tr.block (Tr.Ax _ (kk [1,0] rfl) (fun k:Nat=>[(5,int ((k:Nat):Int))]) (fun k:Nat=>k≤(a).length∧(a.take k=b.take k)) (fun k:Nat=>(a).length-k) 0 (⟨Nat.zero_le _,rfl⟩) kz ?_)
 rintro k ⟨BJ,AQ⟩
 refine an ?_ ?_<;>intro h2 q2
 have AZ:k<(a).length:=AH h2
 obtain ⟨x,AX⟩:=at_ AZ
 obtain ⟨y,hy⟩:=at_ (l:=b) (k:=k) AA
 · exact Zd
 have A8:k=(a).length:=by have:=AJ h2;omega
 subst A8
 refine a3 ?_
 · exact HU
theorem Xx {a b:List (List UInt8)}  :A0 prog 257 [Xv a,Xv b] (bool (decide (a=b))):=by
 refine fo func257 rfl ⟨rfl,rfl⟩ fun M0 w0=>(Tr.CG 0 rfl fun DN=>(Tr.CG 1 rfl fun ER=> ?_))
 refine ac ?_
 refine an ?_ ?_<;>intro h1 q1
 have hne:¬a.length=b.length:=by simp_all;omega
 refine a2 ?_
 · exact HT
 have Mu:a.length=b.length:=by simp_all;omega
 refine a2 ?_
 refine Tr.block (Tr.Ax _ (kk [1,0] rfl) (fun k:Nat=>[(5,int ((k:Nat):Int))]) (fun k:Nat=>k≤(a).length∧(a.take k=b.take k)) (fun k:Nat=>(a).length-k) 0 (⟨Nat.zero_le _,rfl⟩) kz ?_)
 rintro k ⟨BJ,AQ⟩
 refine an ?_ ?_<;>intro h2 q2
 have AZ:k<(a).length:=AH h2
 obtain ⟨x,AX⟩:=at_ AZ
 obtain ⟨y,hy⟩:=at_ (l:=b) (k:=k) AA
 · exact mO
 have A8:k=(a).length:=by have:=AJ h2;omega
 subst A8
 refine a3 ?_
 · exact HU
theorem pU {a b:Gt}  :A0 prog 221 [agg (C0 a),agg (C0 b)] (bool (decide (a=b))):=by
 refine fo func221 rfl ⟨rfl,rfl⟩ fun M0 w0=> ?_
 · repeat' first|(refine bool_eq ?_;cases a;cases b;simp_all)|refine cy h rfl (Bq (Xx) rfl rfl rfl) ?_|refine cy h rfl (R8 rfl vq vq) ?_|refine cy h rfl (II rfl vq vq) ?_|refine ac ?_|(refine Ch.cg rfl rfl rfl ?_ ?_<;>intro h q)
theorem Th {a b:List (Gt)}  :A0 prog 179 [J8 a,J8 b] (bool (decide (a=b))):=by
 refine fo func179 rfl ⟨rfl,rfl⟩ fun M0 w0=>(Tr.CG 0 rfl fun DN=>(Tr.CG 1 rfl fun ER=> ?_))
 refine ac ?_
 refine an ?_ ?_<;>intro h1 q1
 have hne:¬a.length=b.length:=by simp_all;omega
 refine a2 ?_
 · exact HT
 have Mu:a.length=b.length:=by simp_all;omega
 refine a2 ?_
 refine Tr.block (Tr.Ax _ (kk [1,0] rfl) (fun k:Nat=>[(5,int ((k:Nat):Int))]) (fun k:Nat=>k≤(a).length∧(a.take k=b.take k)) (fun k:Nat=>(a).length-k) 0 (⟨Nat.zero_le _,rfl⟩) kz ?_)
 rintro k ⟨BJ,AQ⟩
 refine an ?_ ?_<;>intro h2 q2
 have AZ:k<(a).length:=AH h2
 obtain ⟨x,AX⟩:=at_ AZ
 obtain ⟨y,hy⟩:=at_ (l:=b) (k:=k) AA
 · repeat' first|(refine bool_eq ?_;symm;rw [decide_eq_false_iff_not];refine T2 AX hy ?_;rintro rfl;simp_all)|exact Fin.AM (k+1) ⟨⟨AZ,Mv AX hy AQ Bp⟩,by omega⟩ ⟨⟨_,rfl,AG k⟩,kz⟩|refine co rfl (AD rfl underlying82 Dv vq vq AA (AR AX)) ?_|refine co rfl (AD rfl underlying82 Dv vq vq AA (AR hy)) (co rfl (Ad rfl Ia Dv vq rfl rfl) (co rfl (Bq (pU) rfl rfl rfl) ?_))|refine ac ?_|(refine Tr.cn rfl ?_ ?_<;>intro h q)
 have A8:k=(a).length:=by have:=AJ h2;omega
 subst A8
 refine a3 ?_
 · exact HU
theorem Xy {a b:List (Hw)}  :A0 prog 129 [pN a,pN b] (bool (decide (a=b))):=by
 refine fo func129 rfl ⟨rfl,rfl⟩ fun M0 w0=>(Tr.CG 0 rfl fun DN=>(Tr.CG 1 rfl fun ER=> ?_))
 refine ac ?_
 refine an ?_ ?_<;>intro h1 q1
 have hne:¬a.length=b.length:=by simp_all;omega
 refine a2 ?_
 · exact HT
 have Mu:a.length=b.length:=by simp_all;omega
 refine a2 ?_
 refine Tr.block (Tr.Ax _ (kk [1,0] rfl) (fun k:Nat=>[(5,int ((k:Nat):Int))]) (fun k:Nat=>k≤(a).length∧(a.take k=b.take k)) (fun k:Nat=>(a).length-k) 0 (⟨Nat.zero_le _,rfl⟩) kz ?_)
 rintro k ⟨BJ,AQ⟩
 refine an ?_ ?_<;>intro h2 q2
 have AZ:k<(a).length:=AH h2
 obtain ⟨x,AX⟩:=at_ AZ
 obtain ⟨y,hy⟩:=at_ (l:=b) (k:=k) AA
 · repeat' first|(refine bool_eq ?_;symm;rw [decide_eq_false_iff_not];refine T2 AX hy ?_;rintro rfl;simp_all)|(exact Fin.AM (k+1) ⟨⟨AZ,Mv AX hy AQ (by cases x;cases y;simp_all)⟩,by omega⟩ ⟨⟨_,rfl,AG k⟩,kz⟩)|refine co rfl (AD rfl underlying38 Ep vq vq AA (AR AX)) ?_|refine co rfl (AD rfl underlying38 Ep vq vq AA (AR hy)) ?_|refine co rfl (NW rfl vq vq) (cm rfl ?_)|refine cy h rfl (Bq (Th) rfl rfl rfl) ?_|refine cy h rfl (AD rfl underlying38 Ep vq vq AA (AR AX)) ?_|refine cy h rfl (AD rfl underlying38 Ep vq vq AA (AR hy)) ?_|refine ac ?_|(refine Tr.cn rfl ?_ ?_<;>intro h q)|(refine Ch.cg rfl rfl rfl ?_ ?_<;>intro h q)
 have A8:k=(a).length:=by have:=AJ h2;omega
 subst A8
 refine a3 ?_
 · exact HU
theorem Xz {a b:Bw}  :A0 prog 71 [agg (BQ a),agg (BQ b)] (bool (decide (a=b))):=by
 refine fo func71 rfl ⟨rfl,rfl⟩ fun M0 w0=> ?_
 · repeat' first|(refine bool_eq ?_;cases a;cases b;simp_all [Bool.beq_eq_decide_eq])|refine cy h rfl (Bq (Xy) rfl rfl rfl) ?_|refine cy h rfl (Bq (aI) rfl rfl rfl) ?_|refine ac ?_|(refine Ch.cg rfl rfl rfl ?_ ?_<;>intro h q)
theorem aJ {a b:Gt} (hn:a.names.length≤8796093022208):A0 prog 207 [agg (C0 a),agg (C0 b)] (bool (decide (a=b))):=by
 refine fo func207 rfl ⟨rfl,rfl⟩ fun M0 w0=> ?_
 refine ac ?_
 refine ag ?_ ?_<;>intro h1 q1
 refine ac ?_
 refine wk [89,3,2] rfl ?_
 refine a2 ?_
 · exact FR
 refine ag ?_ ?_<;>intro h2 q2
 refine ac ?_
 refine wk [89,3,2] rfl ?_
 refine a2 ?_
 · exact FR
 refine ag ?_ ?_<;>intro h3 q3
 refine ac ?_
 refine wk [89,3,2] rfl ?_
 refine a2 ?_
 · exact FR
 refine ac ?_
 refine cy h3 rfl (NW rfl vq vq) ?_
 refine ag ?_ ?_<;>intro h4 q4
 refine ac ?_
 refine wk [89,3,2] rfl ?_
 refine a2 ?_
 · exact FR
 refine ag ?_ ?_<;>intro h5 q5
 refine ac ?_
 refine wk [89,3,2] rfl ?_
 refine a2 ?_
 · exact FR
 refine ac ?_
 refine cy h5 rfl (NW rfl vq vq) ?_
 refine ag ?_ ?_<;>intro h6 q6
 refine ac ?_
 refine wk [89,3,2] rfl ?_
 refine a2 ?_
 · exact FR
 refine ag ?_ ?_<;>intro h7 q7
 refine ac ?_
 refine wk [89,3,2] rfl ?_
 refine a2 ?_
 · exact FR
 refine ag ?_ ?_<;>intro h8 q8
 refine ac ?_
 refine wk [89,3,2] rfl ?_
 refine a2 ?_
 · exact FR
 refine ac ?_
 refine cy h8 rfl (ON rfl underlying4 vq vq) ?_
 refine ag ?_ ?_<;>intro h9 q9
 refine ac ?_
 refine wk [89,3,2] rfl ?_
 refine a2 ?_
 · exact FR
 refine ag ?_ ?_<;>intro h10 R9
 refine ac ?_
 refine wk [89,3,2] rfl ?_
 refine a2 ?_
 · exact FR
 refine ac ?_
 refine cy h10 rfl (pT rfl vq vq) ?_
 refine ag ?_ ?_<;>intro h11 Ti
 refine ac ?_
 refine wk [89,3,2] rfl ?_
 refine a2 ?_
 · exact FR
 refine ac ?_
 refine wk [89,3,2] rfl ?_
 refine Tr.cn rfl ?_ ?_<;>intro h12 X0
 refine a2 ?_
 · exact FR
 have Mu:a.names.length=b.names.length:=by simp_all;omega
 refine a2 ?_
 refine Tr.block (Tr.Ax _ (kk [92,3,2] rfl) (fun k:Nat=>[(93,int ((k:Nat):Int))]) (fun k:Nat=>k≤(a.names).length∧(a.names.take k=b.names.take k)) (fun k:Nat=>(a.names).length-k) 0 (⟨Nat.zero_le _,rfl⟩) kz ?_)
 rintro k ⟨BJ,AQ⟩
 refine ac ?_
 refine Tr.seq ?_
 refine Tr.cn rfl ?_ ?_<;>intro OQ fO
 have AZ:k<(a.names).length:=AH OQ
 obtain ⟨x,AX⟩:=at_ AZ
 obtain ⟨y,hy⟩:=at_ (l:=b.names) (k:=k) AA
 · repeat' first|(refine bool_eq ?_;symm;rw [decide_eq_false_iff_not];rintro rfl;rw [AX] at hy;cases hy;simp_all)|exact Fin.AM (k+1) ⟨⟨AZ,Mv AX hy AQ Bp⟩,by omega⟩ ⟨⟨_,rfl,AG k⟩,kz⟩|refine co rfl (AD rfl underlying127 O6 vq vq AA (AR AX)) ?_|refine co rfl (AD rfl underlying127 O6 vq vq AA (AR hy)) ?_|refine ac ?_|(refine Tr.cn rfl ?_ ?_<;>intro h q)
 have A8:k=(a.names).length:=by have:=AJ OQ;omega
 subst A8
 refine a3 ?_
 · refine bool_eq ?_;have hnn:=cw Mu AQ;clear AQ Mu;cases a;cases b;simp_all
theorem R_ {a b:Hw} (hs:a.small):A0 prog 162 [agg (E_ a),agg (E_ b)] (bool (decide (a=b))):=by
 refine fo func162 rfl ⟨rfl,rfl⟩ fun M0 w0=> ?_
 have hsc:=hs.chain
 refine a2 ?_
 refine co rfl (NW rfl vq vq) (cm rfl ?_)
 refine Ch.cs 11 rfl ?_ ?_<;>intro h1 q1
 refine ac ?_
 refine wk [26,3,2] rfl ?_
 refine a2 ?_
 · exact FR
 refine ag ?_ ?_<;>intro h2 q2
 refine ac ?_
 refine wk [26,3,2] rfl ?_
 refine a2 ?_
 · exact FR
 refine ac ?_
 refine wk [26,3,2] rfl ?_
 refine Tr.cn rfl ?_ ?_<;>intro h3 q3
 refine a2 ?_
 · exact FR
 have Mu:a.chain.length=b.chain.length:=by simp_all;omega
 refine a2 ?_
 refine Tr.block (Tr.Ax _ (kk [29,3,2] rfl) (fun k:Nat=>[(30,int ((k:Nat):Int))]) (fun k:Nat=>k≤(a.chain).length∧(a.chain.take k=b.chain.take k)) (fun k:Nat=>(a.chain).length-k) 0 (⟨Nat.zero_le _,rfl⟩) kz ?_)
 rintro k ⟨BJ,AQ⟩
 refine ac ?_
 refine Tr.seq ?_
 refine Tr.cn rfl ?_ ?_<;>intro h4 q4
 have AZ:k<(a.chain).length:=AH h4
 obtain ⟨x,AX⟩:=at_ AZ
 obtain ⟨y,hy⟩:=at_ (l:=b.chain) (k:=k) AA
 have hxn:=hs.names x (List.mem_of_getElem? AX)
 · repeat' first|(refine bool_eq ?_;symm;rw [decide_eq_false_iff_not];rintro rfl;rw [AX] at hy;cases hy;simp_all)|exact Fin.AM (k+1) ⟨⟨AZ,Mv AX hy AQ Bp⟩,by omega⟩ ⟨⟨_,rfl,AG k⟩,kz⟩|refine co rfl (AD rfl underlying82 Dv vq vq AA (AR AX)) ?_|refine co rfl (AD rfl underlying82 Dv vq vq AA (AR hy)) (co rfl (Ad rfl Ia Dv vq rfl rfl) (co rfl (Bq (aJ hxn) rfl rfl rfl) ?_))|refine ac ?_|(refine Tr.cn rfl ?_ ?_<;>intro h q)
 have A8:k=(a.chain).length:=by have:=AJ h4;omega
 subst A8
 refine a3 ?_
 · refine bool_eq ?_;have hnn:=cw Mu AQ;clear AQ Mu hs;cases a;cases b;simp_all
theorem jZ {a b:Bm} (hs:a.Cb.small):A0 prog 106 [agg (DO a),agg (DO b)] (bool (decide (a=b))):=by
 refine fo func106 rfl ⟨rfl,rfl⟩ fun M0 w0=> ?_
 · repeat' first|(clear hs;refine bool_eq ?_;cases a;cases b;simp_all [Bool.beq_eq_decide_eq])|refine cy h rfl (Bq (R_ hs) rfl rfl rfl) ?_|refine ac ?_|(refine Ch.cg rfl rfl rfl ?_ ?_<;>intro h q)
def Kk (b:Int) (l m:List Int):Int:=if 0≤idx (fun x=>b==x) l then (m[(idx (fun x=>b==x) l).toNat]?).getD 0 else 0
theorem jc {b:Int} {l m:List Int} {x z:Int} (hx:l[k]? =some x) (he:x=b) (hz:m[k]? =some z) (h:∀j y,j<k→l[j]? =some y→(b==y)=false):z=Kk b l m:=by
 have:=El (p:=fun x=>b==x) hx (by simp [he]) h
 unfold Kk;rw [←this,if_pos AA,Int.toNat_natCast,hz];rfl
theorem aK {b:Int} {l m:List Int} (h:∀j y,j<l.length→l[j]? =some y→(b==y)=false):0=Kk b l m:=by grind [F8,Kk]
def HC (CN:Int):Int:=if CN=1 then 18 else if CN=2 then 60 else if CN=3∨CN=8∨CN=21 then 128 else if CN=4 then 192 else if CN=18∨CN=22 then 256 else if CN=19 then 64 else if CN=20 then 80 else 0
def O7 (b:Int):Int:=if b<512∨b>16384 then 0 else if b<1024 then 56 else if b<2048 then 80 else if b<3072 then 112 else if b<7680 then 128 else if b<15360 then 192 else 256
theorem pV (b:Int):O7 b=if 512≤b∧b≤16384 then AAc b else 0:=by
 have h1:AAc b=if b<1024 then 56 else if b<2048 then 80 else if b<3072 then 112 else if b<7680 then 128 else if b<15360 then 192 else 256:=rfl
 rw [h1];unfold O7
 by_cases h:512≤b∧b≤16384
 · rw [if_pos h,if_neg AA]
 · rw [if_neg h,if_pos AA]
theorem Je {b:Int} {l m:List Int} (hl:l.length≤m.length):A0 prog 269 [int b,ints l,ints m] (int (Kk b l m)):=by
 refine fo func269 rfl ⟨rfl,rfl⟩ fun M0 w0=>(Tr.CG 1 rfl fun ER=> ?_)
 refine a2 ?_
 refine Tr.block (Tr.Ax _ (kk [2,1,0] rfl) (fun k:Nat=>[(7,int ((k:Nat):Int))]) (fun k:Nat=>k≤(l).length∧(∀j y,j<k→l[j]? =some y→(b==y)=false)) (fun k:Nat=>(l).length-k) 0 (⟨Nat.zero_le _,fun j y hj=>absurd hj AA⟩) kz ?_)
 rintro k ⟨BJ,AQ⟩
 refine an ?_ ?_<;>intro h1 q1
 have AZ:k<(l).length:=AH h1
 obtain ⟨x,AX⟩:=at_ AZ
 obtain ⟨z,hz⟩:=at_ (l:=m) (k:=k) AA
 · repeat' first|exact int_eq (jc AX Bh hz AQ)|(exact Fin.AM (k+1) ⟨⟨AZ,DR (p:=fun x=>b==x) AX CL AQ⟩,by omega⟩ ⟨⟨_,rfl,AG k⟩,kz⟩)|refine co rfl (AD rfl underlying22 Bi vq vq AA CX) ?_|refine ac ?_|(refine Tr.cn rfl ?_ ?_<;>intro h q)
 have A8:k=(l).length:=by have:=AJ h1;omega
 subst A8
 refine a3 ?_
 · exact int_eq (aK AQ)
theorem pW {CN:Int}  :A0 prog 270 [int CN] (int (HC CN)):=by
 refine fo func270 rfl ⟨rfl,rfl⟩ fun M0 w0=> ?_
 refine a2 ?_
 refine an ?_ ?_<;>intro h1 q1
 refine a2 ?_
 · refine int_eq ?_;unfold HC;(repeat (rw [if_pos AA]))
 refine an ?_ ?_<;>intro h2 q2
 refine a2 ?_
 · exact OA
 refine an ?_ ?_<;>intro h3 q3
 refine ac ?_
 refine Tr.cond rfl (fun _=> ?_) (fun h=>nomatch h3.symm.trans h)
 refine a2 ?_
 · exact OA
 refine an ?_ ?_<;>intro h4 q4
 refine ac ?_
 refine Tr.cond rfl (fun _=> ?_) (fun h=>nomatch h4.symm.trans h)
 refine a2 ?_
 · exact OA
 refine an ?_ ?_<;>intro h5 q5
 refine a2 ?_
 · exact OA
 refine ac ?_
 refine wk [12,3] rfl ?_
 refine Tr.cn rfl ?_ ?_<;>intro h6 q6
 refine a2 ?_
 · exact OA
 refine an ?_ ?_<;>intro h7 q7
 refine ac ?_
 refine Tr.cond rfl (fun _=> ?_) (fun h=>nomatch h7.symm.trans h)
 refine a2 ?_
 · exact OA
 · repeat' first|(refine int_eq ?_;unfold HC;(repeat (first|rw [if_pos AA]|rw [if_neg AA])))|(refine int_eq ?_;unfold HC;(repeat (rw [if_neg AA])))|refine ac ?_|(refine Tr.cn rfl ?_ ?_<;>intro h q)
theorem Jf {b:Int}  :A0 prog 268 [int b] (int (O7 b)):=by
 refine fo func268 rfl ⟨rfl,rfl⟩ fun M0 w0=> ?_
 refine ac ?_
 refine ac ?_
 refine Ch.cs 6 rfl ?_ ?_<;>intro h1 q1
 refine ac ?_
 refine ac ?_
 refine ac ?_
 · refine int_eq ?_;unfold O7;(repeat (rw [if_pos AA]))
 refine ac ?_
 refine Tr.cn rfl ?_ ?_<;>intro h2 q2
 refine ac ?_
 refine ac ?_
 · refine int_eq ?_;unfold O7;(repeat (rw [if_pos AA]))
 refine ac ?_
 refine Tr.cn rfl ?_ ?_<;>intro h3 q3
 refine ac ?_
 refine ac ?_
 · exact RB
 refine ac ?_
 refine wk [13,0] rfl ?_
 refine Tr.cn rfl ?_ ?_<;>intro h4 q4
 refine ac ?_
 refine ac ?_
 · exact RB
 refine ac ?_
 refine Tr.cn rfl ?_ ?_<;>intro h5 q5
 refine ac ?_
 refine ac ?_
 · exact RB
 refine ac ?_
 refine Tr.cn rfl ?_ ?_<;>intro h6 q6
 refine ac ?_
 refine ac ?_
 · exact RB
 refine ac ?_
 refine Tr.cn rfl ?_ ?_<;>intro h7 q7
 refine ac ?_
 refine ac ?_
 · exact RB
 refine ac ?_
 refine ac ?_
 refine ac ?_
 · refine int_eq ?_;unfold O7;(repeat (rw [if_neg AA]))
theorem vw (b c:Int):Kk b [0] [c]=if b=0 then c else 0:=by grind [Kk,idx]
theorem VP {CN b:Int} (h:CN=5∨CN=6∨CN=10∨CN=11):O7 b=D8 CN b:=by
 rw [pV]
 rcases h with rfl|rfl|rfl|rfl<;>rfl
theorem Tj {CN b:Int} (h:¬(CN=5∨CN=6∨CN=7∨CN=9∨CN=10∨CN=11∨CN=12∨CN=13∨CN=14∨CN=15∨CN=16∨CN=17)):Kk b [0] [HC CN]=D8 CN b:=by
 rw [vw]
 by_cases hin:1≤CN∧CN≤22
 ·
  have ha:CN=1∨CN=2∨CN=3∨CN=4∨CN=8∨CN=18∨CN=19∨CN=20∨CN=21∨CN=22:=by omega
  rcases ha with rfl|rfl|rfl|rfl|rfl|rfl|rfl|rfl|rfl|rfl<;>rfl
 ·
  have h1:HC CN=0:=by unfold HC;(repeat (first|rw [if_pos AA]|rw [if_neg AA]))
  unfold D8
  rw [h1,if_neg hin];split<;>rfl
theorem Mw {CN b:Int} (h:CN=7∨CN=12):D8 CN b=if (cv.any fun x=>b==x)=true then b.tdiv 2 else 0:=by
 rcases h with rfl|rfl<;>rfl
theorem X5 {CN bits:Int}  :A0 prog 229 [agg [int CN,int bits]] (int (D8 CN bits)):=by
 refine fo func229 rfl ⟨rfl,rfl⟩ fun M0 w0=> ?_
 iterate 4 refine ac ?_
 refine Tr.cn rfl ?_ ?_<;>intro h1 q1
 refine ac ?_
 refine Tr.cond rfl (fun _=> ?_) (fun h=>nomatch h1.symm.trans h)
 refine ac ?_
 refine co rfl (CM (Jf) rfl rfl) ?_
 refine a2 ?_
 · exact P8
 refine an ?_ ?_<;>intro h2 q2
 refine ac ?_
 refine Tr.cond rfl (fun _=> ?_) (fun h=>nomatch h2.symm.trans h)
 refine ac ?_
 refine co rfl (CM (Jf) rfl rfl) ?_
 refine ac ?_
 refine wk [2] rfl ?_
 refine ac ?_
 · exact P8
 refine an ?_ ?_<;>intro h3 q3
 refine ac ?_
 refine Tr.cond rfl (fun _=> ?_) (fun h=>nomatch h3.symm.trans h)
 refine ac ?_
 refine co rfl (CM (Jf) rfl rfl) ?_
 refine ac ?_
 refine wk [2] rfl ?_
 refine ac ?_
 · exact P8
 refine ac ?_
 refine wk [8,7,3,1] rfl ?_
 refine Tr.cn rfl ?_ ?_<;>intro h4 q4
 refine ac ?_
 refine co rfl (CM (Jf) rfl rfl) ?_
 refine a2 ?_
 · exact P8
 refine an ?_ ?_<;>intro h5 q5
 refine ac ?_
 refine Tr.cond rfl (fun _=> ?_) (fun h=>nomatch h5.symm.trans h)
 · exact mP
 refine an ?_ ?_<;>intro h11 Ti
 · exact mP
 refine an ?_ ?_<;>intro N7 q17
 refine ac ?_
 refine co rfl (Ah rfl (Je (l:=[44,65,87]) (m:=[128,192,256]) AO) ⟨kq,Db,Db,trivial⟩) ?_
 refine ac ?_
 refine wk [2] rfl ?_
 refine ac ?_
 · refine int_eq ?_;have ha:CN=9:=AA;rcases ha with rfl<;>rfl
 refine an ?_ ?_<;>intro OR q18
 refine ac ?_
 refine co rfl (Ah rfl (Je (l:=[512,768,1024]) (m:=[128,192,256]) AO) ⟨kq,Db,Db,trivial⟩) ?_
 refine ac ?_
 refine wk [2] rfl ?_
 refine ac ?_
 · refine int_eq ?_;have ha:CN=13:=AA;rcases ha with rfl<;>rfl
 refine ac ?_
 refine wk [50,7,3,1] rfl ?_
 refine Tr.cn rfl ?_ ?_<;>intro mJ q19
 refine ac ?_
 refine co rfl (Ah rfl (Je (l:=[40,128]) (m:=[40,60]) AO) ⟨kq,Db,Db,trivial⟩) ?_
 refine a2 ?_
 · refine int_eq ?_;have ha:CN=14:=AA;rcases ha with rfl<;>rfl
 refine an ?_ ?_<;>intro TP q20
 refine ac ?_
 refine co rfl (Ah rfl (Je (l:=[112,168]) (m:=[80,112]) AO) ⟨kq,Db,Db,trivial⟩) ?_
 refine a2 ?_
 · refine int_eq ?_;have ha:CN=15:=AA;rcases ha with rfl<;>rfl
 refine an ?_ ?_<;>intro fP q21
 refine ac ?_
 refine Tr.cond rfl (fun _=> ?_) (fun h=>nomatch fP.symm.trans h)
 refine ac ?_
 refine co rfl (Ah rfl (Je (l:=[128,256]) (m:=[128,256]) AO) ⟨kq,Db,Db,trivial⟩) ?_
 refine a2 ?_
 · refine int_eq ?_;have ha:CN=16∨CN=17:=AA;rcases ha with rfl|rfl<;>rfl
 · repeat' first|(refine int_eq ?_;have ha:CN=16∨CN=17:=AA;rcases ha with rfl|rfl<;>rfl)|(refine int_eq ?_;exact Tj AA)|refine co rfl (Ah rfl (Je (l:=[128,256]) (m:=[128,256]) AO) ⟨kq,Db,Db,trivial⟩) ?_|refine co rfl (CM (pW) rfl rfl) (co rfl (Af (xs:=[.tmp 73]) (rows:=[[_]]) rfl rfl underlying22 Bi z3 rfl AB ⟨⟨An,F7⟩,trivial⟩ AB) ?_)|refine co rfl (Ah rfl (Je (l:=[0]) (m:=[HC CN]) AO) ⟨kq,Db,Db,trivial⟩) ?_|refine ac ?_|(refine Tr.cn rfl ?_ ?_<;>intro h q)
theorem Kl {CN bits:Int}  :A0 prog 197 [agg [int CN,int bits]] (bool (decide (D8 CN bits>0))):=by
 refine fo func197 rfl ⟨rfl,rfl⟩ fun M0 w0=> ?_
 refine a2 ?_
 refine co rfl (CM (X5) rfl rfl) ?_
 refine a2 ?_
 · exact Lr
def AAe:List (List UInt8×Int):=I2.map fun r=>(r.name,r.kind)
theorem v_ {CN:Int} (h:1≤CN∧CN≤22):AAe[CN.toNat]? =some ((E3 CN).name,(E3 CN).kind):=by
 unfold AAe;rw [List.getElem?_map,PN h];rfl
theorem wA   :A0 prog 228 [] (slice 2 (AAe.map fun r=>[str r.1,int r.2])):=by
 refine fo func228 rfl ⟨rfl,rfl⟩ fun M0 w0=> ?_
 refine a2 ?_
 refine wk [0] rfl ?_
 refine ac ?_
 · exact B4 _ _
theorem Qe {CN:Int}  :A0 prog 195 [int CN] (int (E3 CN).kind):=by
 refine fo func195 rfl ⟨rfl,rfl⟩ fun M0 w0=> ?_
 refine ac ?_
 refine ag ?_ ?_<;>intro h1 q1
 refine a3 ?_
 · refine int_eq ?_;unfold E3;rw [if_neg AA];rfl
 refine an ?_ ?_<;>intro h2 q2
 refine a2 ?_
 · refine int_eq ?_;unfold E3;rw [if_neg AA];rfl
 have hin:1≤CN∧CN≤22:=by omega
 refine ac ?_
 refine Tr.seq (Tr.Bt (co rfl (kc0 (wA) rfl) (cm rfl (co rfl (AD rfl underlying291 yl vq vq AA (Bb (f:=fun r:List UInt8×Int=>[str r.1,int r.2]) (v_ hin))) ?_))))
 refine a2 ?_
 · exact Lr
theorem Km {CN bits:Int}  :A0 prog 224 [agg [int CN,int bits]] (bool (decide (D8 CN bits>0)&&(E3 CN).kind==2)):=by
 refine fo func224 rfl ⟨rfl,rfl⟩ fun M0 w0=> ?_
 refine ac ?_
 refine ac ?_
 refine co rfl (CM (Kl) rfl rfl) (cm rfl ?_)
 refine Ch.cs 5 rfl ?_ ?_<;>intro h1 q1
 refine ac ?_
 refine cy h1 rfl (CM (Qe) rfl rfl) ?_
 refine ac ?_
 refine ac ?_
 · refine bool_eq ?_;simp_all
 refine ac ?_
 refine ac ?_
 · exact QB
abbrev UN:List Pr:=[G1 .u8]
abbrev fQ (m:Nat):Pr:=slice 1 (List.replicate m UN)
abbrev E4 (B:Nat):Pr:=Cp.ex fun m:Nat=>fact (m≤B) (fQ m)
abbrev Eb:Pr:=Cp.ex fun b:Bool=>bool b
abbrev Bj (q:Pr):List Pr:=[G1 .i64,E4 1000,Eb,q]
abbrev Kn (row:List Pr):Pr:=Cp.ex fun m:Nat=>fact (m≤20) (slice 4 (List.replicate m row))
abbrev MQ (D:Nat):Pr:=Cp.ex fun d:Int=>fact (0≤d∧d≤(D:Nat)) (int d)
theorem Ko {r:List Pr} (h:k<m):(List.replicate m r)[((k:Nat):Int).toNat]? =some r:=by rw [Int.toNat_natCast,List.getElem?_replicate,if_pos h]
theorem fR {r:List Pr}:List.replicate m r++[r]=List.replicate (m+1) r:=by rw [List.replicate_succ']
theorem Ni {r:List Pr}:List.replicate m r++List.replicate k r=List.replicate (m+k) r:=by rw [List.replicate_append_replicate]
theorem Rd.refl:∀l:List Pr,Rd l l
 |[]=>trivial
 |_::l=>⟨Pr.le_refl _,Rd.refl l⟩
theorem XY {sz:Nat} (hl:rows.length=rows'.length) (h:∀(i:Nat) r r',rows[i]? =some r→rows'[i]? =some r'→r.length=r'.length∧∀(j:Nat) p p',r[j]? =some p→r'[j]? =some p'→Pr.le p p'):Pr.le (slice sz rows) (slice sz rows'):=by
 rintro M w v ⟨a,cap,h1,h2,h3,h4,h5⟩
 refine ⟨a,cap,by rw [←hl];exact h1,by rw [←hl];exact h2,h3,h4,fun i row hr=> ?_⟩
 have hi:i<rows.length:=by rw [hl];exact BH hr
 have hr0:=List.getElem?_eq_getElem hi
 obtain ⟨g1,g2⟩:=h i _ _ hr0 hr
 obtain ⟨k1,ad,k2,k3⟩:=h5 i _ hr0
 refine ⟨by rw [←g1];exact k1,ad,k2,fun j p' hp'=> ?_⟩
 have hj:j<rows[i].length:=by rw [g1];exact BH hp'
 have hp:=List.getElem?_eq_getElem hj
 obtain ⟨u,c1,c2,c3,c4⟩:=k3 j _ hp
 exact ⟨u,c1,c2,c3,g2 j _ _ hp hp' _ _ _ c4⟩
theorem jd {sz:Nat} {r:List Pr} (h:∀q∈rows,q.length=r.length∧∀(j:Nat) p p',q[j]? =some p→r[j]? =some p'→Pr.le p p'):Pr.le (slice sz rows) (slice sz (List.replicate rows.length r)):=by grind [XY,BH]
theorem Zf {β:Type} {l:List β} {f:β→Int}:Pr.le (slice 1 (l.map fun x=>[is (.int .u8 (f x))])) (fQ l.length):=by
 have:=jd (sz:=1) (rows:=l.map fun x=>[is (.int .u8 (f x))]) (r:=UN) (by
  intro q hq
  obtain ⟨x,_,rfl⟩:=List.mem_map.1 hq
  refine ⟨rfl,fun j p p' hp hp'=> ?_⟩
  cases j with
  |zero=>simp at hp hp';subst hp;subst hp';exact Dc _ _
  |succ j=>simp at hp)
 rwa [List.length_map] at this
theorem GK {B:Nat} (h:m≤B) (hp:Pr.le p (fQ m)):Pr.le p (E4 B):=Az m (BC h hp)
theorem A0.Bj {row:List Pr} {res:Pr} (h:∀(t:Int) (b:Nat) (n:Bool) (m:Nat),b≤1000→m≤20→A0 P f [agg [int t,fQ b,bool n,slice 4 (List.replicate m row)]] res):A0 P f [agg (Bj (Kn row))] res:=by
 refine ⟨(h 0 0 false 0 AA AA).1,fun M w vs hb hv=> ?_⟩
 match vs,hv with
 |[u0],XH=>
  obtain ⟨⟨cs,rfl,ho,hcs⟩,_⟩:=XH
  match cs,hcs with
  |[c0,c1,c2,c3],hc=>
   obtain ⟨⟨t,h0⟩,⟨b,N6,h1⟩,⟨n,h2⟩,⟨m,hm1,h3⟩,_⟩:=hc
   exact (h t b n m N6 hm1).2 M w _ hb ⟨⟨_,rfl,ho,h0,h1,h2,h3,trivial⟩,trivial⟩
theorem A0.pX {res:Pr} (h:∀(t:Int) (b:Nat) (n:Bool),b≤1000→A0 P f [agg [int t,fQ b,bool n,slice 4 []]] res):A0 P f [agg [G1 .i64,E4 1000,Eb,slice 4 []]] res:=by
 refine ⟨(h 0 0 false AA).1,fun M w vs hb hv=> ?_⟩
 match vs,hv with
 |[u0],XH=>
  obtain ⟨⟨cs,rfl,ho,hcs⟩,_⟩:=XH
  match cs,hcs with
  |[c0,c1,c2,c3],hc=>
   obtain ⟨⟨t,h0⟩,⟨b,N6,h1⟩,⟨n,h2⟩,h3,_⟩:=hc
   exact (h t b n N6).2 M w _ hb ⟨⟨_,rfl,ho,h0,h1,h2,h3,trivial⟩,trivial⟩
theorem AAf {n:Int}  :A0 prog 289 [int n] (bool (decide (1≤n)&&decide (n≤255)&&(n.tmod 32 !=31))):=by
 refine fo func289 rfl ⟨rfl,rfl⟩ fun M0 w0=> ?_
 refine ac ?_
 refine ag ?_ ?_<;>intro h1 q1
 refine ag ?_ ?_<;>intro h2 q2
 refine ZM h2 rfl (cy h2 rfl (OJ rfl vq vq AA) ?_)
 refine a2 ?_
 · refine bool_eq ?_;simp_all
 refine a2 ?_
 · exact QB
 refine a2 ?_
 · exact QB
theorem Ob {t:Int} {n:Bool} (hb:b≤1000) (hm:m≤20) (ih:m=0∨A0 prog 258 [agg (Bj q)] (Eb)):A0 prog 258 [agg [int t,fQ b,bool n,slice 4 (List.replicate m (Bj q))]] (Eb):=by
 refine fo func258 rfl ⟨rfl,rfl⟩ fun M0 w0=> ?_
 have hlr:(List.replicate m (Bj q)).length=m:=List.length_replicate
 have hlb:(List.replicate b UN).length=b:=List.length_replicate
 refine a2 ?_
 refine co rfl (CM (AAf) rfl rfl) ?_
 refine ag ?_ ?_<;>intro h1 q1
 refine ac ?_
 refine wk [38,1] rfl ?_
 refine a2 ?_
 · exact Ar
 refine ac ?_
 refine cy h1 rfl (U6 rfl vq vq AA) (cy h1 rfl (OJ rfl vq vq AA) (cy h1 rfl Vl (cy h1 rfl (ON rfl underlying4 vq vq) ?_)))
 refine ag ?_ ?_<;>intro h2 q2
 refine ac ?_
 refine wk [38,1] rfl ?_
 refine a2 ?_
 · exact Ar
 refine ag ?_ ?_<;>intro h3 q3
 refine ac ?_
 refine cy h3 rfl (Cq rfl underlying241 vq) ?_
 refine ag ?_ ?_<;>intro h4 q4
 refine ac ?_
 refine wk [38,1] rfl ?_
 refine a2 ?_
 · exact Ar
 refine ag ?_ ?_<;>intro h5 q5
 refine ac ?_
 refine cy h5 rfl (Cq rfl underlying283 vq) ?_
 refine ac ?_
 refine wk [38,1] rfl ?_
 refine Tr.cn rfl ?_ ?_<;>intro h6 q6
 refine a2 ?_
 · exact Ar
 refine a2 ?_
 refine Tr.block (Tr.Ax _ (kk [1] rfl) (fun k:Nat=>[(3,int ((k:Nat):Int))]) (fun k:Nat=>k≤((List.replicate m (Bj q)).length)) (fun k:Nat=>((List.replicate m (Bj q)).length)-k) 0 (Nat.zero_le _) kz ?_)
 rintro k BJ
 refine ac ?_
 refine co rfl (Cq rfl underlying283 vq) ?_
 refine an ?_ ?_<;>intro h7 q7
 have AZ:k<((List.replicate m (Bj q)).length):=AH h7
 have hkm:k<m:=by simpa using AZ
 have ih2:=ih.resolve_left AA
 refine ac ?_
 refine ap ?_
 refine tp rfl (AD rfl underlying283 Cy vq vq AA (Ko hkm)) (tp rfl (Ad rfl Dn Cy vq rfl rfl) (tp rfl (CM (ih2) rfl rfl) ?_))
 refine TO.ex 51 rfl (fun z51=> ?_)
 refine ap ?_
 · exact ME
 have A8:k=((List.replicate m (Bj q)).length):=by have:=AJ h7;omega
 refine a3 ?_
 · exact Ar
 refine ac ?_
 refine wk [38,1] rfl ?_
 refine a2 ?_
 refine Tr.block (Tr.Ax _ (kk [1] rfl) (fun k:Nat=>[(3,int ((k:Nat):Int))]) (fun k:Nat=>k≤((List.replicate m (Bj q)).length)) (fun k:Nat=>((List.replicate m (Bj q)).length)-k) 0 (Nat.zero_le _) kz ?_)
 rintro k BJ
 refine ac ?_
 refine co rfl (Cq rfl underlying283 vq) ?_
 refine an ?_ ?_<;>intro h9 q9
 have AZ:k<((List.replicate m (Bj q)).length):=AH h9
 have hkm:k<m:=by simpa using AZ
 have ih2:=ih.resolve_left AA
 refine ac ?_
 refine ap ?_
 refine tp rfl (AD rfl underlying283 Cy vq vq AA (Ko hkm)) (tp rfl (Ad rfl Dn Cy vq rfl rfl) (tp rfl (CM (ih2) rfl rfl) ?_))
 refine TO.ex 51 rfl (fun z51=> ?_)
 refine ap ?_
 · exact ME
 have A8:k=((List.replicate m (Bj q)).length):=by have:=AJ h9;omega
 refine a3 ?_
 · exact Ar
 refine ag ?_ ?_<;>intro h11 Ti
 refine ac ?_
 refine cy h11 rfl (Cq rfl underlying283 vq) ?_
 refine ac ?_
 refine wk [38,1] rfl ?_
 refine Tr.cn rfl ?_ ?_<;>intro h12 X0
 refine a2 ?_
 · exact Ar
 refine a2 ?_
 refine Tr.block (Tr.Ax _ (kk [1] rfl) (fun k:Nat=>[(3,int ((k:Nat):Int))]) (fun k:Nat=>k≤((List.replicate m (Bj q)).length)) (fun k:Nat=>((List.replicate m (Bj q)).length)-k) 0 (Nat.zero_le _) kz ?_)
 rintro k BJ
 refine ac ?_
 refine co rfl (Cq rfl underlying283 vq) ?_
 refine an ?_ ?_<;>intro OQ fO
 have AZ:k<((List.replicate m (Bj q)).length):=AH OQ
 have hkm:k<m:=by simpa using AZ
 have ih2:=ih.resolve_left AA
 refine ac ?_
 refine ap ?_
 refine tp rfl (AD rfl underlying283 Cy vq vq AA (Ko hkm)) (tp rfl (Ad rfl Dn Cy vq rfl rfl) (tp rfl (CM (ih2) rfl rfl) ?_))
 refine TO.ex 51 rfl (fun z51=> ?_)
 refine ap ?_
 · exact ME
 have A8:k=((List.replicate m (Bj q)).length):=by have:=AJ OQ;omega
 refine a3 ?_
 · exact Ar
 refine ac ?_
 refine wk [38,1] rfl ?_
 refine a2 ?_
 refine Tr.block (Tr.Ax _ (kk [1] rfl) (fun k:Nat=>[(3,int ((k:Nat):Int))]) (fun k:Nat=>k≤((List.replicate m (Bj q)).length)) (fun k:Nat=>((List.replicate m (Bj q)).length)-k) 0 (Nat.zero_le _) kz ?_)
 rintro k BJ
 refine ac ?_
 refine co rfl (Cq rfl underlying283 vq) ?_
 refine an ?_ ?_<;>intro XG q15
 have AZ:k<((List.replicate m (Bj q)).length):=AH XG
 have hkm:k<m:=by simpa using AZ
 have ih2:=ih.resolve_left AA
 refine ac ?_
 refine ap ?_
 refine tp rfl (AD rfl underlying283 Cy vq vq AA (Ko hkm)) (tp rfl (Ad rfl Dn Cy vq rfl rfl) (tp rfl (CM (ih2) rfl rfl) ?_))
 refine TO.ex 51 rfl (fun z51=> ?_)
 refine ap ?_
 · exact ME
 have A8:k=((List.replicate m (Bj q)).length):=by have:=AJ XG;omega
 refine a3 ?_
 · exact Ar
theorem SA {t:Int} {n:Bool} {D:Nat} (hb:b≤1000) (hm:m≤20) (hD:D≤1000) (ih:m=0∨A0 prog 259 [agg (Bj q)] (MQ D)):A0 prog 259 [agg [int t,fQ b,bool n,slice 4 (List.replicate m (Bj q))]] (MQ (D+1)):=by
 refine fo func259 rfl ⟨rfl,rfl⟩ fun M0 w0=> ?_
 have hlr:(List.replicate m (Bj q)).length=m:=List.length_replicate
 have hlb:(List.replicate b UN).length=b:=List.length_replicate
 refine ac ?_
 refine ac ?_
 refine ac ?_
 refine Tr.block (Tr.Ax _ (kk [1] rfl) (fun k:Nat=>[(4,int ((k:Nat):Int)),(3,MQ D)]) (fun k:Nat=>k≤((List.replicate m (Bj q)).length)) (fun k:Nat=>((List.replicate m (Bj q)).length)-k) 0 (Nat.zero_le _) ⟨kq,⟨_,rfl,Az 0 (BC AA Lr)⟩,trivial⟩ ?_)
 rintro k BJ
 refine ac ?_
 refine co rfl (Cq rfl underlying283 vq) ?_
 refine ac ?_
 refine Tr.cn rfl ?_ ?_<;>intro h1 q1
 have AZ:k<((List.replicate m (Bj q)).length):=AH h1
 have hkm:k<m:=by simpa using AZ
 have ih2:=ih.resolve_left AA
 refine ac ?_
 refine Tr.seq (Tr.block (Tr.BE (tm rfl ?_)))
 refine TO.ex 12 rfl (fun z12=>TO.fact 12 rfl fun AJ6=> ?_)
 refine tp rfl (i7 rfl fD rfl rfl) (tp rfl (Iv rfl n9 rfl) (tm rfl (tp rfl (AD rfl underlying283 Cy (vl rfl) (vl rfl) AA (Ko hkm)) (tp rfl (Ad rfl Dn Cy (vl rfl) rfl rfl) (tp rfl (CM (ih2) rfl rfl) ?_)))))
 refine TO.ex 18 rfl (fun z18=>TO.fact 18 rfl fun AIc=> ?_)
 refine tp rfl (OK rfl vq vq) ?_
 refine ap ?_
 refine wk [4,3,1] rfl ?_
 refine ac ?_
 exact Fin.AM (k+1) ⟨AZ,by omega⟩ ⟨⟨_,rfl,AG k⟩,⟨_,rfl,Az _ (BC AA Lr)⟩,kz⟩
 have A8:k=((List.replicate m (Bj q)).length):=by have:=AJ h1;omega
 refine ac ?_
 refine ap ?_
 refine TO.ex 20 rfl (fun z20=>TO.fact 20 rfl fun AJ7=> ?_)
 refine ap ?_
 refine ac ?_
 · exact Az _ (BC AA Lr)
def SB (n:Nat):Nat:=if h:n=0 then 0 else 1+SB (n/256)
termination_by n
decreasing_by omega
theorem UO:SB 0=0:=by unfold SB;simp
theorem X6 (h:0<n):SB n=1+SB (n/256):=by conv=>lhs;unfold SB;rw [dif_neg AA]
theorem WH:∀(n:Nat),SB n≤n:=by
 intro n
 induction n using Nat.strongRecOn with
 |_ n ih=>
  rcases Nat.eq_zero_or_pos n with h|h
  · subst h;rw [UO];omega
  · rw [X6 h];have:=ih (n/256) AA;omega
def je (n:Nat):Nat:=if n<128 then 1 else 1+SB n
theorem fS (n:Nat):je n≤n+1:=by unfold je;have:=WH n;split<;>omega
theorem uK (k:Int):Pr.le (slice 1 [[is (.int .u8 k)]]) (fQ 1):=Zf (l:=[()]) (f:=fun _=>k)
theorem jf (hn:n≤100000000):A0 prog 290 [int ((n:Nat):Int)] (fQ (je n)):=by
 refine fo func290 rfl ⟨rfl,rfl⟩ fun M0 w0=> ?_
 refine ac ?_
 refine an ?_ ?_<;>intro h1 q1
 refine ac ?_
 refine co rfl (E8 rfl underlying3 underlying5 vq) (co rfl (Af (xs:=[.tmp 7]) (rows:=[UN]) rfl rfl underlying241 OS z5 rfl AB ⟨⟨An,VL.le vq (Pr.le_trans (Dc _ _) (Ag _))⟩,trivial⟩ AB) ?_)
 refine a2 ?_
 · refine Pr.le_trans (B4 _ _) (Pr.le_of_eq ?_);unfold je;rw [if_pos AA];rfl
 refine a2 ?_
 refine Tr.seq (Tr.block (Tr.B5 5 1 (Tr.DZ [] trivial (fun (k:Nat) (acc:Nat) v=>[(0,int ((k:Nat):Int)),(3,AV v (fQ acc))]) (fun (k:Nat) (acc:Nat) v=>Hp M0 w0 FO ([As 5 1 v])) (fun (k:Nat) (acc:Nat)=>SB k+acc=SB n∧k≤n) (fun (k:Nat) (acc:Nat)=>k) (n) (0) (.slice none 0 0) (⟨by omega,by omega⟩) ⟨kq,⟨_,rfl,Bg rfl⟩,trivial⟩ (fun _ _ h=>h) ?_)))
 rintro k acc v ⟨hk1,hk2⟩
 refine an ?_ ?_<;>intro h2 q2
 have hk0:0<k:=by have:=EW.E9 h2;omega
 have hdg:=X6 hk0
 have hle:=WH n
 refine ac ?_
 refine ap ?_
 refine tp rfl (OJ rfl vq vq AA) (tp rfl (E8 rfl underlying3 underlying5 vq) (tp rfl (Af (xs:=[.tmp 13]) (rows:=[UN]) rfl rfl underlying241 OS z5 rfl AB ⟨⟨An,VL.le vq (Pr.le_trans (Dc _ _) (Ag _))⟩,trivial⟩ AB) ?_))
 refine tm rfl (TO.pad ?_)
 refine TO.Df 0 rfl rfl AB (B9 rfl rfl rfl rfl underlying241 OS ec z5 Db Ea (Bs BK vq)) (fun v1=> ?_)
 refine ap ?_
 refine ac ?_
 refine co rfl (U6 rfl vq vq AA) ?_
 refine ac ?_
 refine Fin.drop 1 ?_
 exact Fin.Bk (k/256) (acc+1) v1 (⟨⟨by omega,by omega⟩,by omega⟩) ⟨⟨_,rfl,int_eq (by rw [Int.tdiv_eq_ediv_of_nonneg AA,HG NA];omega)⟩,⟨_,rfl,BB (by rw [show ([UN]:List (List Pr))=List.replicate 1 UN from rfl,Ni,Nat.add_comm])⟩,trivial⟩ (fun _ _ h=>h)
 have hk0:k=0:=by have:=EW.E9 h2;omega
 subst hk0
 have hle:=WH n
 rw [UO] at hk1
 refine ac ?_
 refine ap ?_
 refine tp rfl (Cq rfl underlying241 Ea) (tp rfl Vl (tp rfl (E8 rfl underlying3 underlying5 vq) (tp rfl (Af (xs:=[.tmp 22]) (rows:=[UN]) rfl rfl underlying241 OS z5 rfl AB ⟨⟨An,VL.le vq (Pr.le_trans (Dc _ _) (Ag _))⟩,trivial⟩ AB) ?_)))
 refine tm rfl (TO.pad ?_)
 refine TO.Df 0 rfl rfl AB (B9 rfl rfl rfl rfl underlying241 OS ec z5 Db Ea (Bs BK vq)) (fun v2=> ?_)
 refine ap ?_
 refine ac ?_
 · refine Pr.le_trans (Ao _ _) (Pr.le_of_eq ?_);unfold je;rw [if_neg AA,show ([UN]:List (List Pr))=List.replicate 1 UN from rfl,Ni,show acc=SB n by omega]
theorem aL {t:Int} {n:Bool} {B:Nat} (hb:b≤1000) (hm:m≤20) (hB:B≤1000000) (ih:m=0∨A0 prog 260 [agg (Bj q)] (E4 B)):A0 prog 260 [agg [int t,fQ b,bool n,slice 4 (List.replicate m (Bj q))]] (E4 (2*(1000+20*B)+2)):=by
 refine fo func260 rfl ⟨rfl,rfl⟩ fun M0 w0=> ?_
 have hlr:(List.replicate m (Bj q)).length=m:=List.length_replicate
 have hlb:(List.replicate b UN).length=b:=List.length_replicate
 refine ac ?_
 refine ap ?_
 refine TO.pad ?_
 refine TO.Df 0 rfl rfl AB (B9 rfl rfl rfl rfl underlying241 OS ec z5 Db vq (Bs BK vq)) (fun v1=> ?_)
 refine ap ?_
 refine ac ?_
 refine Tr.block (Tr.DZ _ (kk [1] rfl) (fun (k:Nat) (acc:Nat) v=>[(4,int ((k:Nat):Int)),(3,AV v (fQ acc))]) (fun (k:Nat) (acc:Nat) v=>Hp M0 w0 FO ([As 5 1 v])) (fun (k:Nat) (acc:Nat)=>k≤m∧acc≤b+k*B) (fun (k:Nat) (acc:Nat)=>m-k) (0) (b) v1 (⟨by omega,by omega⟩) ⟨kq,⟨_,rfl,BB AO⟩,trivial⟩ (fun _ _ h=>h) ?_)
 rintro k acc v ⟨hk1,hk2⟩
 have hkB:k*B≤20*B:=Nat.mul_le_mul_right B AA
 refine ac ?_
 refine co rfl (Cq rfl underlying283 vq) ?_
 refine an ?_ ?_<;>intro h1 q1
 have hkm:k<m:=by have:=EW.E9 h1;rw [hlr] at this;omega
 have ih2:=ih.resolve_left AA
 refine ac ?_
 refine ap ?_
 refine tp rfl (AD rfl underlying283 Cy vq vq AA (Ko hkm)) (tp rfl (Ad rfl Dn Cy vq rfl rfl) (tp rfl (CM (ih2) rfl rfl) ?_))
 refine TO.ex 22 rfl (fun z22=>TO.fact 22 rfl fun AJ8=> ?_)
 refine TO.Df 0 rfl rfl AB (B9 rfl rfl rfl rfl underlying241 OS ec z5 Ea vq (Ay BK FC)) (fun v2=> ?_)
 refine ap ?_
 refine wk [4,3,1] rfl ?_
 refine ac ?_
 exact Fin.Bk (k+1) (acc+z22) v2 (⟨⟨by omega,by rw [Nat.succ_mul];omega⟩,by omega⟩) ⟨⟨_,rfl,AG k⟩,⟨_,rfl,BB (by rw [Ni])⟩,kz⟩ (fun _ _ h=>h)
 have cz:k=m:=by have:=EW.E9 h1;rw [hlr] at this;omega
 have Mu:=fS acc
 refine ac ?_
 refine Tr.seq (Tr.pad (Tr.rx ?_))
 refine ay ?_
 refine xo rfl (fun _=>E8 rfl underlying3 underlying5 vq) (xo rfl (fun _=>Af (xs:=[.tmp 26]) (rows:=[UN]) rfl rfl underlying241 OS z5 rfl AB ⟨⟨An,VL.le vq (Pr.le_trans (Dc _ _) (Ag _))⟩,trivial⟩ AB) ?_)
 refine xm rfl (xo rfl (fun _=>Cq rfl underlying241 Ea) ?_)
 refine xo rfl (fun _=>Ah rfl (jf (n:=acc) AA) ⟨⟨_,rfl,int_eq AO⟩,trivial⟩) ?_
 refine Cx.ef 0 rfl rfl AB (B9 rfl rfl rfl rfl underlying241 OS ec z5 Db vq (Bs BK vq)) ?_
 refine xm rfl ?_
 refine Cx.ef 0 rfl rfl AB (B9 rfl rfl rfl rfl underlying241 OS ec z5 vq Ea iy) ?_
 refine Cx.ef 0 rfl rfl AB (Vh rfl rfl AB rfl vq) ?_
 refine Cx.nil ⟨by kernel_rfl,?_⟩
 refine Aw.open_ 0 2 rfl rfl (fun v3=> ?_)
 refine Aw.done UL (Fin.go (wk [2] rfl ?_))
 refine ac ?_
 · exact GK (m:=1+je acc+acc) (by have:=fS acc;omega) (Pr.le_trans (Ao _ _) (Pr.le_of_eq (by rw [show ([UN]:List (List Pr))=List.replicate 1 UN from rfl,Ni,Ni])))
theorem jg {D B:Nat} (hf:A0 prog 258 [agg (Bj q)] Eb) (hd:A0 prog 259 [agg (Bj q)] (MQ D)) (hp:A0 prog 260 [agg (Bj q)] (E4 B)):A0 prog 225 [agg (Bj q)] (C_ [E4 B,G1 .i64]):=by
 refine fo func225 rfl ⟨rfl,rfl⟩ fun M0 w0=> ?_
 refine ac ?_
 refine ap ?_
 refine tp rfl (CM (hf) rfl rfl) ?_
 refine TO.ex 6 rfl (fun z6=> ?_)
 refine ap ?_
 refine Tr.cn rfl ?_ ?_<;>intro h1 q1
 refine ac ?_
 refine Tr.ret (Fin.AE (Fin.C6 rfl (Bv.EU _ _) rfl ?_ rfl ?_))
 · exact P7
 · exact Dc _ _
 refine ac ?_
 refine ap ?_
 refine tp rfl (CM (hd) rfl rfl) ?_
 refine TO.ex 9 rfl (fun z9=>TO.fact 9 rfl fun hz9=> ?_)
 refine ap ?_
 refine Tr.cn rfl ?_ ?_<;>intro h2 q2
 refine ac ?_
 refine Tr.ret (Fin.AE (Fin.C6 rfl (Bv.EU _ _) rfl ?_ rfl ?_))
 · exact P7
 · exact Dc _ _
 refine a2 ?_
 refine co rfl (CM (hp) rfl rfl) ?_
 refine ac ?_
 refine ap ?_
 refine TO.ex 13 rfl (fun z13=>TO.fact 13 rfl fun AJ9=> ?_)
 refine tp rfl (Cq rfl underlying241 vq) ?_
 refine ap ?_
 refine wk [15,4] rfl ?_
 refine Tr.cn rfl ?_ ?_<;>intro h3 q3
 refine ac ?_
 refine Tr.ret (Fin.AE (Fin.C6 rfl (Bv.EU _ _) rfl ?_ rfl ?_))
 · exact P7
 · exact Dc _ _
 refine a2 ?_
 refine Tr.ret (Fin.C6 rfl (Bv.EU _ _) rfl ?_ rfl ?_)
 · exact Lr
 · exact Dc _ _
theorem wB:IntKind.u8.wrap 0=0:=rfl
def lvI (x:Int):Nat:=if x≤0 then 0 else if x<256 then 1 else if x<65536 then 2 else if x<16777216 then 3 else if x<4294967296 then 4 else if x<1099511627776 then 5 else 6+x.toNat
theorem pY {x:Int} (h:0<x):lvI (x/256)<lvI x:=by
 unfold lvI
 repeat' split
 all_goals omega
def Nj (x h:Int):Nat:=if x=0 then (if 128≤h then 1 else 0) else lvI x+1
theorem wC {n h:Int} (h0:0≤n) (h1:n≤1099511627776):Nj (n/256) h≤400:=by
 unfold Nj lvI
 repeat' split
 all_goals omega
theorem Hf {x h:Int} {t:Nat} (h0:0≤x) (hc:x≠0∨128≤h) (hi:t+Nj x h≤400):(0≤x/256∧t+1+Nj (x/256) (IntKind.u8.wrap x)≤400)∧Nj (x/256) (IntKind.u8.wrap x)<Nj x h:=by grind [Nj,wB,pY]
theorem IL {u:TypeId} {y:Operand} {m:Int} (ho:o.op= .binOp .shr t x y u) (hx:VL E x (int m)) (hy:VL E y (is (.int .u64 8))) (h0:0≤m):Ac P I o E (int (m/256)):=
 Ac.same fun M w a he _=>by
  have h1:a.eval x= .int .i64 m:=hx.ev he Au
  have h2:a.eval y= .int .u64 8:=hy.ev he Au
  refine ⟨.int .i64 (m.fdiv 256),?_,congrArg (Value.int .i64) (Int.fdiv_eq_ediv_of_nonneg m AA)⟩
  simp only [execOp,ho,h1,h2]
  simp [eqGuard,binOp,Op.shift,IntKind.bits]
abbrev q0:Pr:=slice 4 []
theorem MR {n:Int} (hn:0≤n∧n≤1099511627776):A0 prog 263 [int n] (agg (Bj q0)):=by
 refine fo func263 rfl ⟨rfl,rfl⟩ fun M0 w0=>(Tr.seq (Tr.BE ?_))
 refine Tl rfl rfl rfl rfl OW L4 (fun b1=> ?_)
 refine ap ?_
 refine ac ?_
 refine co rfl (E8 rfl underlying3 underlying5 vq) ?_
 refine a2 ?_
 refine co rfl (IL rfl vq vq AA) ?_
 refine ac ?_
 refine Tr.block ?_
 refine Tr.Kc _ (kk [2] rfl) (fun (x:Int) (h:Int) (t:List Int)=>[(4,int x),(3,slice 1 ((h::t).map fun n=>[is (.int .u8 n)]))]) (fun (x:Int) (h:Int) (t:List Int)=>Hp M0 w0 FO ([AF true b1 285 (([.int .i64 0,.slice none 0 0,.bool false,.slice none 0 0]:List Value).map is)])) (fun (x:Int) (h:Int) (t:List Int)=>0≤x∧t.length+Nj x h≤400) (fun (x:Int) (h:Int) (t:List Int)=>Nj x h) (n/256) (IntKind.u8.wrap n) ([])  (⟨by omega,by simp only [List.length_nil];have:=wC (h:=IntKind.u8.wrap n) hn.1 hn.2;omega⟩) ⟨kq,⟨_,rfl,Pr.le_trans (B4 _ _) (Pr.le_of_eq rfl)⟩,trivial⟩ (fun _ _ h=>h) ?_
 rintro x h t  ⟨hx0,hmu⟩
 refine ag ?_ ?_<;>intro h1 q1
 refine ag ?_ ?_<;>intro h2 q2
 refine ac ?_
 refine wk [35,4,3,2] rfl ?_
 refine ac ?_
 refine ap ?_
 refine tp rfl (E8 rfl underlying3 underlying5 vq) ?_
 refine ap ?_
 refine TO.pad ?_
 refine TO.Df 0 rfl rfl AB (B9 rfl rfl rfl rfl underlying241 OS ec z5 Db vq (Bs BK vq)) (fun v1=> ?_)
 refine ap ?_
 refine ac ?_
 refine co rfl (IL rfl vq vq AA) ?_
 refine ac ?_
 refine Fin.drop 0 (Fin.C4 (x/256) (IntKind.u8.wrap x) (h::t)  ((Hf hx0 AA hmu)) ⟨kq,⟨_,rfl,Pr.le_trans (Ao _ _) (Pr.le_of_eq rfl)⟩,kz⟩ (fun _ _ h=>h))
 refine ag ?_ ?_<;>intro h3 q3
 refine ZM h3 rfl ?_
 refine cy h3 rfl (AD rfl underlying241 OS vq vq AA (AR (k:=0) rfl)) ?_
 refine ag ?_ ?_<;>intro h4 q4
 refine ac ?_
 refine wk [35,4,3,2] rfl ?_
 refine ac ?_
 refine ap ?_
 refine tp rfl (E8 rfl underlying3 underlying5 vq) ?_
 refine ap ?_
 refine TO.pad ?_
 refine TO.Df 0 rfl rfl AB (B9 rfl rfl rfl rfl underlying241 OS ec z5 Db vq (Bs BK vq)) (fun v2=> ?_)
 refine ap ?_
 refine ac ?_
 refine co rfl (IL rfl vq vq AA) ?_
 refine ac ?_
 refine Fin.drop 0 (Fin.C4 (x/256) (IntKind.u8.wrap x) (h::t)  ((Hf hx0 AA hmu)) ⟨kq,⟨_,rfl,Pr.le_trans (Ao _ _) (Pr.le_of_eq rfl)⟩,kz⟩ (fun _ _ h=>h))
 refine ag ?_ ?_<;>intro h5 q5
 refine ZM h5 rfl ?_
 refine cy h5 rfl (AD rfl underlying241 OS vq vq AA (AR (k:=0) rfl)) ?_
 refine ac ?_
 refine wk [35,4,3,2] rfl ?_
 refine Tr.cn rfl ?_ ?_<;>intro h6 q6
 have TQ:=h6
 refine ac ?_
 refine ap ?_
 refine tp rfl (E8 rfl underlying3 underlying5 vq) ?_
 refine ap ?_
 refine TO.pad ?_
 refine TO.Df 0 rfl rfl AB (B9 rfl rfl rfl rfl underlying241 OS ec z5 Db vq (Bs BK vq)) (fun v3=> ?_)
 refine ap ?_
 refine ac ?_
 refine co rfl (IL rfl vq vq AA) ?_
 refine ac ?_
 refine Fin.drop 0 (Fin.C4 (x/256) (IntKind.u8.wrap x) (h::t)  ((Hf hx0 AA hmu)) ⟨kq,⟨_,rfl,Pr.le_trans (Ao _ _) (Pr.le_of_eq rfl)⟩,kz⟩ (fun _ _ h=>h))
 have TQ:=h6
 refine ac ?_
 refine ap ?_
 refine Tr.ret (Fin.Cf rfl (AL.cell 0 rfl rfl Dn Cy rfl Lr) ?_)
 · exact KM
 refine ac ?_
 refine wk [35,4,3,2] rfl ?_
 refine ac ?_
 refine ap ?_
 refine Tr.ret (Fin.Cf rfl (AL.cell 0 rfl rfl Dn Cy rfl Lr) ?_)
 · exact KM
 refine ag ?_ ?_<;>intro h7 q7
 refine ZM h7 rfl ?_
 refine cy h7 rfl (AD rfl underlying241 OS vq vq AA (AR (k:=0) rfl)) ?_
 refine ac ?_
 refine wk [35,4,3,2] rfl ?_
 refine Tr.cn rfl ?_ ?_<;>intro h8 q8
 have TQ:=h8
 refine ac ?_
 refine ap ?_
 refine tp rfl (E8 rfl underlying3 underlying5 vq) ?_
 refine ap ?_
 refine TO.pad ?_
 refine TO.Df 0 rfl rfl AB (B9 rfl rfl rfl rfl underlying241 OS ec z5 Db vq (Bs BK vq)) (fun v4=> ?_)
 refine ap ?_
 refine ac ?_
 refine co rfl (IL rfl vq vq AA) ?_
 refine ac ?_
 refine Fin.drop 0 (Fin.C4 (x/256) (IntKind.u8.wrap x) (h::t)  ((Hf hx0 AA hmu)) ⟨kq,⟨_,rfl,Pr.le_trans (Ao _ _) (Pr.le_of_eq rfl)⟩,kz⟩ (fun _ _ h=>h))
 have TQ:=h8
 refine ac ?_
 refine ap ?_
 refine Tr.ret (Fin.Cf rfl (AL.cell 0 rfl rfl Dn Cy rfl Lr) ?_)
 · exact KM
 refine ac ?_
 refine wk [35,4,3,2] rfl ?_
 refine ac ?_
 refine ap ?_
 refine Tr.ret (Fin.Cf rfl (AL.cell 0 rfl rfl Dn Cy rfl Lr) ?_)
 · exact KM
 refine ag ?_ ?_<;>intro h9 q9
 refine ZM h9 rfl ?_
 refine cy h9 rfl (AD rfl underlying241 OS vq vq AA (AR (k:=0) rfl)) ?_
 refine ag ?_ ?_<;>intro h10 R9
 refine ac ?_
 refine wk [35,4,3,2] rfl ?_
 refine ac ?_
 refine ap ?_
 refine tp rfl (E8 rfl underlying3 underlying5 vq) ?_
 refine ap ?_
 refine TO.pad ?_
 refine TO.Df 0 rfl rfl AB (B9 rfl rfl rfl rfl underlying241 OS ec z5 Db vq (Bs BK vq)) (fun v5=> ?_)
 refine ap ?_
 refine ac ?_
 refine co rfl (IL rfl vq vq AA) ?_
 refine ac ?_
 refine Fin.drop 0 (Fin.C4 (x/256) (IntKind.u8.wrap x) (h::t)  ((Hf hx0 AA hmu)) ⟨kq,⟨_,rfl,Pr.le_trans (Ao _ _) (Pr.le_of_eq rfl)⟩,kz⟩ (fun _ _ h=>h))
 refine ag ?_ ?_<;>intro h11 Ti
 refine ZM h11 rfl ?_
 refine cy h11 rfl (AD rfl underlying241 OS vq vq AA (AR (k:=0) rfl)) ?_
 refine ac ?_
 refine wk [35,4,3,2] rfl ?_
 refine Tr.cn rfl ?_ ?_<;>intro h12 X0
 have TQ:=h12
 refine ac ?_
 refine ap ?_
 refine tp rfl (E8 rfl underlying3 underlying5 vq) ?_
 refine ap ?_
 refine TO.pad ?_
 refine TO.Df 0 rfl rfl AB (B9 rfl rfl rfl rfl underlying241 OS ec z5 Db vq (Bs BK vq)) (fun v6=> ?_)
 refine ap ?_
 refine ac ?_
 refine co rfl (IL rfl vq vq AA) ?_
 refine ac ?_
 refine Fin.drop 0 (Fin.C4 (x/256) (IntKind.u8.wrap x) (h::t)  ((Hf hx0 AA hmu)) ⟨kq,⟨_,rfl,Pr.le_trans (Ao _ _) (Pr.le_of_eq rfl)⟩,kz⟩ (fun _ _ h=>h))
 have TQ:=h12
 refine ac ?_
 refine ap ?_
 refine Tr.ret (Fin.Cf rfl (AL.cell 0 rfl rfl Dn Cy rfl Lr) ?_)
 · exact KM
 refine ac ?_
 refine wk [35,4,3,2] rfl ?_
 refine ac ?_
 refine ap ?_
 refine Tr.ret (Fin.Cf rfl (AL.cell 0 rfl rfl Dn Cy rfl Lr) ?_)
 · exact KM
 refine ag ?_ ?_<;>intro OQ fO
 refine ZM OQ rfl ?_
 refine cy OQ rfl (AD rfl underlying241 OS vq vq AA (AR (k:=0) rfl)) ?_
 refine ac ?_
 refine wk [35,4,3,2] rfl ?_
 refine Tr.cn rfl ?_ ?_<;>intro NN q14
 have TQ:=NN
 refine ac ?_
 refine ap ?_
 refine tp rfl (E8 rfl underlying3 underlying5 vq) ?_
 refine ap ?_
 refine TO.pad ?_
 refine TO.Df 0 rfl rfl AB (B9 rfl rfl rfl rfl underlying241 OS ec z5 Db vq (Bs BK vq)) (fun v7=> ?_)
 refine ap ?_
 refine ac ?_
 refine co rfl (IL rfl vq vq AA) ?_
 refine ac ?_
 refine Fin.drop 0 (Fin.C4 (x/256) (IntKind.u8.wrap x) (h::t)  ((Hf hx0 AA hmu)) ⟨kq,⟨_,rfl,Pr.le_trans (Ao _ _) (Pr.le_of_eq rfl)⟩,kz⟩ (fun _ _ h=>h))
 have TQ:=NN
 refine ac ?_
 refine ap ?_
 refine Tr.ret (Fin.Cf rfl (AL.cell 0 rfl rfl Dn Cy rfl Lr) ?_)
 · exact KM
 refine ac ?_
 refine wk [35,4,3,2] rfl ?_
 refine ac ?_
 refine ap ?_
 refine Tr.ret (Fin.Cf rfl (AL.cell 0 rfl rfl Dn Cy rfl Lr) ?_)
 · exact KM
theorem WI {s:List UInt8} (hs:s.length≤1000):A0 prog 261 [str s] (agg (Bj q0)):=by
 refine fo func261 rfl ⟨rfl,rfl⟩ fun M0 w0=>(Tr.seq (Tr.BE ?_))
 refine Tl rfl rfl rfl rfl OW L4 (fun b1=> ?_)
 refine ap ?_
 refine ap ?_
 refine tp rfl (oG rfl underlying9 underlying241 underlying5 vq FV) ?_
 refine ap ?_
 refine Tr.ret (Fin.Cf rfl (AL.cell 0 rfl rfl Dn Cy rfl Lr) ?_)
 · exact BR ⟨Dc _ _,GK (m:=s.length) AA (Zf (f:=fun c:UInt8=>((c.toNat:Nat):Int))),Az _ Lr,AP 4,trivial⟩
theorem wD {b:Bool}  :A0 prog 265 [bool b] (agg (Bj q0)):=by
 refine fo func265 rfl ⟨rfl,rfl⟩ fun M0 w0=>(Tr.seq (Tr.BE ?_))
 refine Tl rfl rfl rfl rfl OW L4 (fun b1=> ?_)
 refine ap ?_
 refine an ?_ ?_<;>intro h1 q1
 refine ap ?_
 refine tp rfl (BO (rows:=[(0,[_]),(1,[_])]) rfl n_ L4 ⟨⟨rfl,F7⟩,⟨⟨rfl,⟨_,rfl,Pr.le_trans (B4 _ _) (Ag _)⟩⟩,trivial⟩⟩ rfl) ?_
 refine ap ?_
 refine Tr.ret (Fin.AE (Fin.Cf rfl (AL.cell 0 rfl rfl Dn Cy rfl Lr) ?_))
 · exact dK
 refine ac ?_
 refine ap ?_
 refine tp rfl (BO (rows:=[(0,[_]),(1,[_])]) rfl n_ L4 ⟨⟨rfl,F7⟩,⟨⟨rfl,⟨_,rfl,Pr.le_trans (B4 _ _) (Ag _)⟩⟩,trivial⟩⟩ rfl) ?_
 refine ap ?_
 refine Tr.ret (Fin.Cf rfl (AL.cell 0 rfl rfl Dn Cy rfl Lr) ?_)
 · exact dK
theorem Oc [One q] (hm:m≤20) (ih:m=0∨A0 prog 291 [q] q):A0 prog 291 [slice 4 (List.replicate m (Bj q))] (slice 4 (List.replicate m (Bj q))):=by
 refine fo func291 rfl ⟨rfl,rfl⟩ fun M0 w0=> ?_
 have hlr:(List.replicate m (Bj q)).length=m:=List.length_replicate
 refine ac ?_
 refine ac ?_
 refine ac ?_
 refine Tr.block (Tr.B5 285 4 (Tr.EC _ (kk [0] rfl) (fun k v=>[(4,int ((k:Nat):Int)),(3,AV v (slice 4 (List.replicate k (Bj q))))]) (fun k v=>Hp M0 w0 FO ([As 285 4 v])) (fun k:Nat=>k≤((List.replicate m (Bj q)).length)) (fun k:Nat=>((List.replicate m (Bj q)).length)-k) 0 (.slice none 0 0) (Nat.zero_le _) ⟨kq,⟨_,rfl,Bg rfl⟩,trivial⟩ (fun _ _ h=>h) ?_))
 rintro k v BJ
 refine ac ?_
 refine co rfl (Cq rfl underlying283 vq) ?_
 refine ac ?_
 refine Tr.cn rfl ?_ ?_<;>intro h1 q1
 have AZ:k<((List.replicate m (Bj q)).length):=AH h1
 have hkm:k<m:=by simpa using AZ
 have ih2:=ih.resolve_left AA
 refine ac ?_
 refine ap ?_
 refine tp rfl (AD rfl underlying283 Cy vq vq AA (Ko hkm)) (tp rfl (Ad rfl Dn Cy vq rfl rfl) ?_)
 refine Tl rfl rfl rfl rfl OW L4 (fun b1=> ?_)
 refine ap ?_
 refine ap ?_
 refine TO.ex 18 rfl (fun z18=>TO.fact 18 rfl fun AIc=> ?_)
 refine TO.pad ?_
 refine TO.Df 0 rfl rfl AB (B9 rfl rfl rfl rfl underlying241 OS ec z5 Db vq (Bs BK vq)) (fun v1=> ?_)
 refine ap ?_
 refine wk [5,4,3,0] rfl ?_
 refine ap ?_
 refine tp rfl (CM (ih2) rfl rfl) ?_
 refine ap ?_
 refine Tr.BE (tm rfl (TO.rd 1 rfl rfl rfl AB (EL rfl Dn Cy (vl rfl) rfl rfl) (tp rfl (Af (xs:=[.tmp 26]) (rows:=[Bj q]) rfl rfl underlying283 Cy OW rfl AB ⟨⟨An,VL.le (vl rfl) (Pr.le_trans (BR (qs:=Bj q) ⟨Lr,GK (m:=z18) AA (Pr.le_trans (Ao _ _) (Pr.le_of_eq rfl)),Lr,Lr,trivial⟩) (AY _))⟩,trivial⟩ AB) ?_)))
 refine TO.Df 2 rfl rfl AB (B9 rfl rfl rfl rfl underlying283 Cy yj OW (Kb rfl) (Kf rfl) (Ay BK (Ka rfl))) (fun v2=> ?_)
 refine ap ?_
 refine Tr.drop 1 ?_
 refine ac ?_
 refine Fin.drop 0 (Fin.C8 (k+1) v2 (⟨AZ,by omega⟩) ⟨⟨_,rfl,AG k⟩,⟨_,rfl,BB (by rw [fR])⟩,kz⟩ (fun _ _ h=>h))
 have A8:k=((List.replicate m (Bj q)).length):=by have:=AJ h1;omega
 refine ac ?_
 refine ac ?_
 refine ac ?_
 · exact Pr.le_trans (Ao _ _) (Pr.le_of_eq (by rw [A8,hlr]))
theorem WJ (hm:m≤20) (hc:A0 prog 291 [slice 4 (List.replicate m (Bj q))] (slice 4 (List.replicate m (Bj q)))):A0 prog 262 [slice 4 (List.replicate m (Bj q))] (agg (Bj (Kn (Bj q)))):=by
 refine fo func262 rfl ⟨rfl,rfl⟩ fun M0 w0=>(Tr.seq (Tr.BE ?_))
 refine Tl rfl rfl rfl rfl OW L4 (fun b1=> ?_)
 refine ap ?_
 refine ap ?_
 refine tp rfl (CM (hc) rfl rfl) ?_
 refine ap ?_
 refine Tr.ret (Fin.Cf rfl (AL.cell 0 rfl rfl Dn Cy rfl Lr) ?_)
 · exact BR ⟨Dc _ _,GK (m:=0) AA (AP 1),Az _ Lr,Az m (BC hm Lr),trivial⟩
structure Gt.vf (c:Gt):Prop where
 s0:0≤c.Ib
 s1:c.Ib≤1099511627776
 iss:named c.Kj=true
 sub:named c.IJ=true
 nm:He c.names=true
 key:L1 c.Pp c.J7 2=true
 k0:0≤c.Cd
 k1:c.Cd≤2147483648
 hash:L1 c.WA c.NY 1=true
 sk0:0≤c.jK
 sk1:c.jK≤2147483648
 su0:0≤c.jL
 su1:c.jL<4294967296
 f0:0≤c.from_
 ft:c.from_≤c.OZ
 t1:c.OZ≤40000
 p0:0≤c.path
 p1:c.path≤8
 ap:c.auth=true∨c.path=0
theorem Jy {c:Gt} (hv:EP c=true):c.vf:=by
 simp only [EP,Il,AAd,Bool.and_eq_true,Bool.or_eq_true,decide_eq_true_eq,beq_iff_eq] at hv
 obtain ⟨⟨⟨⟨⟨⟨⟨h1,h2⟩,h3⟩,h4⟩,h5⟩,⟨⟨⟨⟨h6,⟨h7,h8⟩⟩,h9⟩,⟨h10,h11⟩⟩,⟨h12,OQ⟩⟩⟩,⟨⟨NN,XG⟩,h16⟩⟩,⟨⟨N7,OR⟩,mJ⟩⟩:=hv
 exact ⟨h1,h2,h3,h4,h5,h6,h7,h8,h9,h10,h11,h12,OQ,NN,XG,h16,N7,OR,mJ⟩
theorem fT {c:Gt} (h:c.vf):EP c=true:=by
 simp only [EP,Il,AAd,Bool.and_eq_true,Bool.or_eq_true,decide_eq_true_eq,beq_iff_eq]
 exact ⟨⟨⟨⟨⟨⟨⟨h.s0,h.s1⟩,h.iss⟩,h.sub⟩,h.nm⟩,⟨⟨⟨⟨h.key,⟨h.k0,h.k1⟩⟩,h.hash⟩,⟨h.sk0,h.sk1⟩⟩,⟨h.su0,h.su1⟩⟩⟩,⟨⟨h.f0,h.ft⟩,h.t1⟩⟩,⟨⟨h.p0,h.p1⟩,h.ap⟩⟩
theorem aM {a b k:Int} (h:L1 a b k=true):decide (D8 a b>0)=true∧(E3 a).kind=k:=by
 unfold L1 at h;simpa using h
theorem WK {l:List (List UInt8)} {s:List UInt8} (h:nameAt l k=true) (hs:l[k]? =some s):named s=true:=by
 unfold nameAt at h;rw [hs] at h;simp at h;exact h.1
theorem fU {l:List (List UInt8)} {s y:List UInt8} (h:nameAt l k=true) (hs:l[k]? =some s) (hy:l[k-1]? =some y) (hk:0<k):decide (Lib.compareBytes y s= -1)=true:=by grind [nameAt]
theorem UP {c:Gt} (hv:EP c=true):A0 prog 188 [agg (C0 c)] (int 0):=by
 refine fo func188 rfl ⟨rfl,rfl⟩ fun M0 w0=> ?_
 obtain ⟨hs0,hs1,AAg,hsub,hnm,hkey,hk0,hk1,yz,AId,AIe,AIf,AIg,mK,hft,ht1,hp0,Te,hap⟩:=Jy hv
 obtain ⟨AE3,AE4⟩:=aM hkey
 obtain ⟨hh1,hh2⟩:=aM yz
 have Od:=hnm
 unfold He at Od
 rw [Bool.and_eq_true,CD,decide_eq_true_eq] at Od
 obtain ⟨hall,AE5⟩:=Od
 refine ac ?_
 refine ag ?_ ?_<;>intro h1 q1
 exfalso;have:=q1;omega
 refine ag ?_ ?_<;>intro h2 q2
 exfalso;have:=q2;omega
 refine ac ?_
 refine cy h2 rfl (CM (HI) rfl rfl) ?_
 refine ag ?_ ?_<;>intro h3 q3
 rw [AAg] at h3;exact absurd h3 AB
 refine ac ?_
 refine cy h3 rfl (CM (HI) rfl rfl) ?_
 refine ag ?_ ?_<;>intro h4 q4
 rw [hsub] at h4;exact absurd h4 AB
 refine ac ?_
 refine cy h4 rfl (CM (Km) rfl rfl) ?_
 refine ag ?_ ?_<;>intro h5 q5
 rw [AE3,AE4] at h5;exact absurd h5 AB
 refine ag ?_ ?_<;>intro h6 q6
 exfalso;have:=q6;omega
 refine ac ?_
 refine wk [39,1] rfl ?_
 refine Tr.cn rfl ?_ ?_<;>intro h7 q7
 exfalso;have:=q7;omega
 refine a2 ?_
 refine co rfl (CM (Kl) rfl rfl) ?_
 refine ag ?_ ?_<;>intro h8 q8
 rw [hh1] at h8;exact absurd h8 AB
 refine ac ?_
 refine cy h8 rfl (CM (Qe) rfl rfl) ?_
 refine ag ?_ ?_<;>intro h9 q9
 rw [hh2] at h9;exact absurd h9 AB
 refine ag ?_ ?_<;>intro h10 R9
 exfalso;have:=R9;omega
 refine ag ?_ ?_<;>intro h11 Ti
 exfalso;have:=Ti;omega
 refine ac ?_
 refine wk [67,1] rfl ?_
 refine Tr.cn rfl ?_ ?_<;>intro h12 X0
 exfalso;have:=X0;omega
 refine ac ?_
 refine ag ?_ ?_<;>intro OQ fO
 exfalso;have:=fO;omega
 refine ag ?_ ?_<;>intro NN q14
 exfalso;have:=q14;omega
 refine ag ?_ ?_<;>intro XG q15
 refine ag ?_ ?_<;>intro h16 q16
 exfalso;have:=q16;simp_all
 refine ac ?_
 refine wk [91,1] rfl ?_
 refine Tr.cn rfl ?_ ?_<;>intro N7 q17
 exfalso;have:=q17;omega
 refine a2 ?_
 refine Tr.block (Tr.Ax _ (kk [1] rfl) (fun k:Nat=>[(3,int ((k:Nat):Int))]) (fun k:Nat=>k≤(c.names).length) (fun k:Nat=>(c.names).length-k) 0 (Nat.zero_le _) kz ?_)
 rintro k BJ
 refine an ?_ ?_<;>intro OR q18
 have AZ:k<(c.names).length:=AH OR
 obtain ⟨s,AX⟩:=at_ AZ
 have hat:=hall k AA
 have hna:=WK hat AX
 refine a2 ?_
 refine co rfl (AD rfl underlying127 O6 vq vq AA (AR AX)) (co rfl (Iv rfl Ri rfl) (co rfl (CM (HI) rfl rfl) ?_))
 refine ag ?_ ?_<;>intro mJ q19
 exfalso;rw [hna] at mJ;exact absurd mJ AB
 refine ag ?_ ?_<;>intro TP q20
 have MS:0<k:=by simpa using TP
 obtain ⟨y,hy⟩:=at_ (l:=c.names) (k:=k-1) AA
 have hlt:=fU hat AX hy MS
 refine ac ?_
 refine cy TP rfl (AD rfl underlying127 O6 vq vq AA MG) ?_
 refine ac ?_
 refine cy TP rfl (AD rfl underlying127 O6 vq vq AA (AR AX)) (cy TP rfl (Iv rfl Ri rfl) (cy TP rfl (Rs rfl vq vq) ?_))
 refine ac ?_
 refine wk [123,3,1] rfl ?_
 refine Tr.cn rfl ?_ ?_<;>intro fP q21
 exfalso;rw [hlt] at fP;exact absurd fP AB
 refine a2 ?_
 exact Fin.AM (k+1) ⟨AZ,by omega⟩ ⟨⟨_,rfl,AG k⟩,kz⟩
 refine ac ?_
 refine wk [123,3,1] rfl ?_
 refine a2 ?_
 exact Fin.AM (k+1) ⟨AZ,by omega⟩ ⟨⟨_,rfl,AG k⟩,kz⟩
 have A8:k=(c.names).length:=by have:=AJ OR;omega
 refine ac ?_
 refine ag ?_ ?_<;>intro h22 q22
 exfalso;have:=q22;omega
 refine ag ?_ ?_<;>intro h23 q23
 exfalso;have:=q23;omega
 refine ag ?_ ?_<;>intro OB q24
 exfalso;have:=q24;omega
 refine ac ?_
 refine wk [145] rfl ?_
 refine Tr.cn rfl ?_ ?_<;>intro h25 q25
 exfalso;have:=q25;omega
 refine a3 ?_
 · exact Lr
 refine ac ?_
 refine wk [91,1] rfl ?_
 refine Tr.cn rfl ?_ ?_<;>intro h26 q26
 exfalso;have:=q26;omega
 refine a2 ?_
 refine Tr.block (Tr.Ax _ (kk [1] rfl) (fun k:Nat=>[(3,int ((k:Nat):Int))]) (fun k:Nat=>k≤(c.names).length) (fun k:Nat=>(c.names).length-k) 0 (Nat.zero_le _) kz ?_)
 rintro k BJ
 refine an ?_ ?_<;>intro h27 q27
 have AZ:k<(c.names).length:=AH h27
 obtain ⟨s,AX⟩:=at_ AZ
 have hat:=hall k AA
 have hna:=WK hat AX
 refine a2 ?_
 refine co rfl (AD rfl underlying127 O6 vq vq AA (AR AX)) (co rfl (Iv rfl Ri rfl) (co rfl (CM (HI) rfl rfl) ?_))
 refine ag ?_ ?_<;>intro h28 q28
 exfalso;rw [hna] at h28;exact absurd h28 AB
 refine ag ?_ ?_<;>intro mL q29
 have MS:0<k:=by simpa using mL
 obtain ⟨y,hy⟩:=at_ (l:=c.names) (k:=k-1) AA
 have hlt:=fU hat AX hy MS
 refine ac ?_
 refine cy mL rfl (AD rfl underlying127 O6 vq vq AA MG) ?_
 refine ac ?_
 refine cy mL rfl (AD rfl underlying127 O6 vq vq AA (AR AX)) (cy mL rfl (Iv rfl Ri rfl) (cy mL rfl (Rs rfl vq vq) ?_))
 refine ac ?_
 refine wk [123,3,1] rfl ?_
 refine Tr.cn rfl ?_ ?_<;>intro h30 q30
 exfalso;rw [hlt] at h30;exact absurd h30 AB
 refine a2 ?_
 exact Fin.AM (k+1) ⟨AZ,by omega⟩ ⟨⟨_,rfl,AG k⟩,kz⟩
 refine ac ?_
 refine wk [123,3,1] rfl ?_
 refine a2 ?_
 exact Fin.AM (k+1) ⟨AZ,by omega⟩ ⟨⟨_,rfl,AG k⟩,kz⟩
 have A8:k=(c.names).length:=by have:=AJ h27;omega
 refine ac ?_
 refine ag ?_ ?_<;>intro h31 q31
 exfalso;have:=q31;omega
 refine ag ?_ ?_<;>intro h32 q32
 exfalso;have:=q32;omega
 refine ag ?_ ?_<;>intro h33 q33
 exfalso;have:=q33;omega
 refine ac ?_
 refine wk [145] rfl ?_
 refine Tr.cn rfl ?_ ?_<;>intro h34 q34
 exfalso;have:=q34;omega
 refine a3 ?_
 · exact Lr
abbrev wE:Pr:=Cp.ex fun n:Int=>fact (0≤n∧n<4294967296) (is (.int .u32 n))
abbrev AAh:Pr:=Cp.ex fun n:Int=>fact (0≤n∧n<4294967296) (int n)
theorem wF:Pr.le wE (G1 .u32):=fun _ _ _ ⟨n,_,h⟩=>⟨n,h⟩
section
variable {P:Program} {I:C1} {E:Env} {o:Oper}
theorem pZ {s:TypeId} {k k':IntKind} (ho:o.op= .convert s t x) (hs:P.underlying s=some (.int k)) (ht:P.underlying t=some (.int k')) (hx:VL E x (G1 k)):Ac P I o E (G1 k'):=
 Ac.same fun M w a he _=>by
  obtain ⟨n,h1⟩:=hx.ev he Au
  have h1:a.eval x= .int k n:=h1
  refine ⟨.int k' (k'.wrap n),?_,_,rfl⟩
  simp [execOp,ho,h1,convert,run_underlying hs,run_underlying ht,Conv.intToInt,Sem.run_bind]
theorem wG {u:TypeId} {y:Operand} (ho:o.op= .binOp .mul t x y u) (hx:VL E x (G1 .u32)) (hy:VL E y (G1 .u32)):Ac P I o E wE:=
 Ac.same fun M w a he _=>by
  obtain ⟨m,h1⟩:=hx.ev he Au
  obtain ⟨n,h2⟩:=hy.ev he Au
  have h1:a.eval x= .int .u32 m:=h1
  have h2:a.eval y= .int .u32 n:=h2
  refine ⟨.int .u32 (IntKind.u32.wrap (m*n)),by simp [execOp,ho,h1,h2,eqGuard,binOp,Op.intArith],_,?_,rfl⟩
  rw [IntKind.wrap_u32];omega
theorem jh {s:TypeId} (ho:o.op= .convert s t x) (hs:P.underlying s=some (.int .u32)) (ht:P.underlying t=some (.int .i64)) (hx:VL E x wE):Ac P I o E AAh:=
 Ac.same fun M w a he _=>by
  obtain ⟨n,hn,h1⟩:=hx.ev he Au
  have h1:a.eval x= .int .u32 n:=h1
  refine ⟨.int .i64 (IntKind.i64.wrap n),?_,n,hn,by rw [HG NA];rfl⟩
  simp [execOp,ho,h1,convert,run_underlying hs,run_underlying ht,Conv.intToInt,Sem.run_bind]
end
theorem A0.Kn {row:List Pr} (h:∀m,m≤20→A0 P f [slice 4 (List.replicate m row)] (slice 4 (List.replicate m row))):A0 P f [Go.Proofs.YtmocaapoeefgkaaGreatDoor.Kn row] (Go.Proofs.YtmocaapoeefgkaaGreatDoor.Kn row):=by
 refine ⟨(h 0 AA).1,fun M w vs hb hv=> ?_⟩
 match vs,hv with
 |[u0],XH=>
  obtain ⟨⟨m,hm,h0⟩,_⟩:=XH
  exact ((h m hm).2 M w [u0] hb ⟨h0,trivial⟩).mono fun e w' ⟨v,h1,h2,h3⟩=>⟨v,h1,⟨m,hm,h2⟩,h3⟩
theorem A0.E4 {B:Nat} {res:Pr} (h:∀m,m≤B→A0 P f [fQ m] res):A0 P f [Go.Proofs.YtmocaapoeefgkaaGreatDoor.E4 B] res:=by
 refine ⟨(h 0 AA).1,fun M w vs hb hv=> ?_⟩
 match vs,hv with
 |[u0],XH=>
  obtain ⟨⟨m,hm,h0⟩,_⟩:=XH
  exact (h m hm).2 M w [u0] hb ⟨h0,trivial⟩
abbrev N8:Pr:=Kn (Bj q0)
abbrev qA2:Pr:=Kn (Bj N8)
theorem PO:Pr.le q0 N8:=Az 0 (BC AA (Pr.le_refl _))
theorem rc0:A0 Tryz.prog 291 [q0] q0:=Oc (m:=0) (q:=q0) AA (.inl rfl)
theorem rc1 (m:Nat) (hm:m≤20):A0 Tryz.prog 291 [slice 4 (List.replicate m (Bj q0))] (slice 4 (List.replicate m (Bj q0))):=Oc hm (.inr rc0)
theorem rc2 (m:Nat) (hm:m≤20):A0 Tryz.prog 291 [slice 4 (List.replicate m (Bj N8))] (slice 4 (List.replicate m (Bj N8))):=Oc hm (.inr (A0.Kn rc1))
theorem rf0:A0 Tryz.prog 258 [agg (Bj q0)] Eb:=A0.pX fun t b n hb=>Ob (m:=0) (q:=q0) hb AA (.inl rfl)
theorem rf1:A0 Tryz.prog 258 [agg (Bj N8)] Eb:=A0.Bj fun t b n m hb hm=>Ob hb hm (.inr rf0)
theorem rf2:A0 Tryz.prog 258 [agg (Bj qA2)] Eb:=A0.Bj fun t b n m hb hm=>Ob hb hm (.inr rf1)
theorem rd0:A0 Tryz.prog 259 [agg (Bj q0)] (MQ 1):=A0.pX fun t b n hb=>SA (m:=0) (q:=q0) (D:=0) hb AA AA (.inl rfl)
theorem rd1:A0 Tryz.prog 259 [agg (Bj N8)] (MQ 2):=A0.Bj fun t b n m hb hm=>SA hb hm AA (.inr rd0)
theorem rd2:A0 Tryz.prog 259 [agg (Bj qA2)] (MQ 3):=A0.Bj fun t b n m hb hm=>SA hb hm AA (.inr rd1)
theorem rp0:A0 Tryz.prog 260 [agg (Bj q0)] (E4 2002):=A0.pX fun t b n hb=>aL (m:=0) (q:=q0) (B:=0) hb AA AA (.inl rfl)
theorem rp1:A0 Tryz.prog 260 [agg (Bj N8)] (E4 82082):=A0.Bj fun t b n m hb hm=>aL (B:=2002) hb hm AA (.inr rp0)
theorem rp2:A0 Tryz.prog 260 [agg (Bj qA2)] (E4 3285282):=A0.Bj fun t b n m hb hm=>aL (B:=82082) hb hm AA (.inr rp1)
theorem rE2:A0 Tryz.prog 225 [agg (Bj qA2)] (C_ [E4 3285282,G1 .i64]):=jg rf2 rd2 rp2
structure Gt.aN (c:Gt):Prop where
 Ib:c.Ib≤1099511627776
 Cd:c.Cd≤2147483648
 Pp:0≤c.Pp∧c.Pp≤40000
 J7:0≤c.J7∧c.J7≤40000
 WA:0≤c.WA∧c.WA≤40000
 NY:0≤c.NY∧c.NY≤40000
theorem LY {s:List UInt8} (h:named s=true):s.length≤32:=by unfold named at h;simp at h;omega
theorem fV {a b:Int} (ha:0≤a∧a≤40000) (hb:0≤b∧b≤40000):A0 prog 264 [agg [int a,int b]] (agg (Bj N8)):=by
 refine fo func264 rfl ⟨rfl,rfl⟩ fun M0 w0=>(Tr.seq (Tr.BE (tp rfl (BU rfl Be) ?_)))
 refine Tl rfl rfl rfl rfl OW L4 (fun b1=> ?_)
 refine ap ?_
 refine Tr.seq (Tr.rx ?_)
 refine ay ?_
 refine xo rfl (fun _=>CM (MR AA) rfl rfl) ?_
 refine ay ?_
 refine xo rfl (fun _=>CM (MR AA) rfl rfl) (xo rfl (fun _=>Af (xs:=[.tmp 5,.tmp 8]) (rows:=[_,_]) rfl rfl underlying283 Cy OW rfl AB ⟨⟨An,(Va rfl)⟩,⟨⟨An,(Va rfl)⟩,trivial⟩⟩ AB) ?_)
 refine xo rfl (fun _=>Ah rfl (WJ (m:=2) (q:=q0) AA (rc1 _ AA)) ⟨Db,trivial⟩) ?_
 refine Cx.DP 0 rfl rfl (BF rfl rfl vq Be Cy rfl Am rfl) ?_
 refine Cx.nil ⟨by kernel_rfl,?_⟩
 refine Aw.done al1 (Fin.go (Tr.ret (Fin.Cf rfl (AL.cell 0 rfl rfl Dn Cy rfl Lr) ?_)))
 · exact Lr
theorem X7 {c:Gt} (hv:EP c=true) (ht:c.aN):A0 prog 226 [agg (C0 c)] (agg (Bj qA2)):=by
 refine fo func226 rfl ⟨rfl,rfl⟩ fun M0 w0=> ?_
 obtain ⟨hs0,hs1,AAg,hsub,hnm,hkey,hk0,hk1,yz,AId,AIe,AIf,AIg,mK,hft,ht1,hp0,Te,hap⟩:=Jy hv
 obtain ⟨g1,g2,g3,g4,g5,g6⟩:=ht
 have Od:=hnm
 unfold He at Od
 rw [Bool.and_eq_true,CD,decide_eq_true_eq] at Od
 obtain ⟨hall,AE5⟩:=Od
 have eN:=LY AAg
 have hlj:=LY hsub
 refine Tr.seq (Tr.BE (tp rfl (BU rfl Be) ?_))
 refine Tl rfl rfl rfl rfl OW L4 (fun b1=> ?_)
 refine ap ?_
 refine a2 ?_
 refine Tr.block (Tr.B5 285 4 (Tr.EC _ (kk [2,1] rfl) (fun k v=>[(4,int ((k:Nat):Int)),(3,AV v (slice 4 (List.replicate k (Bj q0))))]) (fun k v=>Hp M0 w0 FO ([As 285 4 v,AF true b1 285 (([.int .i64 0,.slice none 0 0,.bool false,.slice none 0 0]:List Value).map is)])) (fun k:Nat=>k≤(c.names).length) (fun k:Nat=>(c.names).length-k) 0 (.slice none 0 0) (Nat.zero_le _) ⟨kq,⟨_,rfl,Bg rfl⟩,trivial⟩ (fun _ _ h=>h) ?_))
 rintro k v BJ
 refine an ?_ ?_<;>intro h1 q1
 have AZ:k<(c.names).length:=AH h1
 obtain ⟨s,AX⟩:=at_ AZ
 have hsn:=LY (WK (hall k AA) AX)
 refine ac ?_
 refine ap ?_
 refine tp rfl (AD rfl underlying127 O6 vq vq AA CX) ?_
 refine tp rfl (Iv rfl Ri rfl) (tp rfl (CM (WI AA) rfl rfl) (tp rfl (Af (xs:=[.tmp 18]) (rows:=[_]) rfl rfl underlying283 Cy OW rfl AB ⟨⟨An,(Va rfl)⟩,trivial⟩ AB) ?_))
 refine TO.Df 0 rfl rfl AB (B9 rfl rfl rfl rfl underlying283 Cy yj OW Ea Db (Ay BK FC)) (fun v1=> ?_)
 refine ap ?_
 refine wk [4,3,2,1] rfl ?_
 refine ac ?_
 exact Fin.C8 (k+1) v1 (⟨AZ,by omega⟩) ⟨⟨_,rfl,AG k⟩,⟨_,rfl,BB (by rw [fR])⟩,kz⟩ (fun _ _ h=>h)
 have A8:k=(c.names).length:=by have:=AJ h1;omega
 refine ac ?_
 refine Tr.seq (Tr.rx ?_)
 refine ay ?_
 refine xo rfl (fun _=>CM (MR AA) rfl rfl) ?_
 refine ay ?_
 refine xo rfl (fun _=>CM (WI AA) rfl rfl) ?_
 refine ay ?_
 refine xo rfl (fun _=>CM (WI AA) rfl rfl) ?_
 refine ay ?_
 refine xo rfl (fun _=>CM (fV g3 g4) rfl rfl) ?_
 refine ay ?_
 refine xo rfl (fun _=>CM (MR AA) rfl rfl) ?_
 refine ay ?_
 refine xo rfl (fun _=>CM (fV g5 g6) rfl rfl) ?_
 refine ay ?_
 refine xo rfl (fun _=>CM (MR AA) rfl rfl) ?_
 refine ay ?_
 refine xo rfl (fun _=>CM (MR AA) rfl rfl) ?_
 refine ay ?_
 refine xo rfl (fun _=>CM (wD) rfl rfl) ?_
 refine ay ?_
 refine xo rfl (fun _=>CM (MR AA) rfl rfl) (xm rfl ?_)
 refine xo rfl (fun _=>Ah rfl (WJ (m:=c.names.length) (q:=q0) AA (rc1 _ AA)) ⟨⟨_,rfl,Pr.le_trans (Ao _ _) (Pr.le_of_eq (by rw [A8]))⟩,trivial⟩) ?_
 refine xo rfl (fun _=>Af (xs:=[.tmp 23,.tmp 26,.tmp 29,.tmp 32,.tmp 35,.tmp 38,.tmp 41,.tmp 44,.tmp 47,.tmp 50,.tmp 52]) (rows:=[Bj N8,Bj N8,Bj N8,Bj N8,Bj N8,Bj N8,Bj N8,Bj N8,Bj N8,Bj N8,Bj N8]) rfl rfl underlying283 Cy OW rfl AB ⟨⟨An,VL.le (vl rfl) (Pr.le_trans (BR (qs:=Bj N8) ⟨Lr,Lr,Lr,PO,trivial⟩) (AY _))⟩,⟨⟨An,VL.le (vl rfl) (Pr.le_trans (BR (qs:=Bj N8) ⟨Lr,Lr,Lr,PO,trivial⟩) (AY _))⟩,⟨⟨An,VL.le (vl rfl) (Pr.le_trans (BR (qs:=Bj N8) ⟨Lr,Lr,Lr,PO,trivial⟩) (AY _))⟩,⟨⟨An,VL.le (vl rfl) (AY _)⟩,⟨⟨An,VL.le (vl rfl) (Pr.le_trans (BR (qs:=Bj N8) ⟨Lr,Lr,Lr,PO,trivial⟩) (AY _))⟩,⟨⟨An,VL.le (vl rfl) (AY _)⟩,⟨⟨An,VL.le (vl rfl) (Pr.le_trans (BR (qs:=Bj N8) ⟨Lr,Lr,Lr,PO,trivial⟩) (AY _))⟩,⟨⟨An,VL.le (vl rfl) (Pr.le_trans (BR (qs:=Bj N8) ⟨Lr,Lr,Lr,PO,trivial⟩) (AY _))⟩,⟨⟨An,VL.le (vl rfl) (Pr.le_trans (BR (qs:=Bj N8) ⟨Lr,Lr,Lr,PO,trivial⟩) (AY _))⟩,⟨⟨An,VL.le (vl rfl) (Pr.le_trans (BR (qs:=Bj N8) ⟨Lr,Lr,Lr,PO,trivial⟩) (AY _))⟩,⟨⟨An,VL.le (vl rfl) (AY _)⟩,trivial⟩⟩⟩⟩⟩⟩⟩⟩⟩⟩⟩ AB) ?_
 refine xo rfl (fun _=>Ah rfl (WJ (m:=11) (q:=N8) AA (rc2 _ AA)) ⟨Db,trivial⟩) ?_
 refine Cx.DP 1 rfl rfl (BF rfl rfl vq Be Cy rfl Am rfl) ?_
 refine Cx.nil ⟨by kernel_rfl,?_⟩
 refine Aw.done UL (Fin.go (wk [2] rfl (Tr.ret (Fin.Cf rfl (AL.cell 1 rfl rfl Dn Cy rfl Lr) ?_))))
 · exact Lr
theorem ji {c:Gt} (hv:EP c=true) (ht:c.aN):A0 prog 189 [agg (C0 c)] (C_ [E4 3285282,G1 .i64]):=by
 refine fo func189 rfl ⟨rfl,rfl⟩ fun M0 w0=> ?_
 refine a2 ?_
 refine co rfl (CM (UP hv) rfl rfl) ?_
 refine an ?_ ?_<;>intro h1 q1
 exact absurd h1 AB
 refine a2 ?_
 refine co rfl (CM (X7 hv ht) rfl rfl) (co rfl (CM (rE2) rfl rfl) ?_)
 refine ac ?_
 refine Tr.ret (Fin.C6 rfl (Bv.EU _ _) rfl ?_ rfl ?_)
 · exact Lr
 · exact Lr
theorem fW (hm:m≤100000000):A0 prog 190 [fQ m] (AAh):=by
 refine fo func190 rfl ⟨rfl,rfl⟩ fun M0 w0=> ?_
 have hlr:(List.replicate m UN).length=m:=List.length_replicate
 refine a3 ?_
 refine Tr.block (Tr.Ax _ (kk [0] rfl) (fun k:Nat=>[(4,int ((k:Nat):Int)),(3,wE)]) (fun k:Nat=>k≤((List.replicate m UN).length)) (fun k:Nat=>((List.replicate m UN).length)-k) 0 (Nat.zero_le _) ⟨kq,⟨_,rfl,Az _ (BC AA Lr)⟩,trivial⟩ ?_)
 rintro k BJ
 refine ac ?_
 refine co rfl (Cq rfl underlying241 vq) ?_
 refine an ?_ ?_<;>intro h1 q1
 have AZ:k<((List.replicate m UN).length):=AH h1
 have hkm:k<m:=by simpa using AZ
 refine a2 ?_
 refine co rfl (AD rfl underlying241 OS vq vq AA (Ko hkm)) (co rfl (Iv rfl AC_ rfl) (co rfl (pZ rfl underlying5 underlying180 vq) (co rfl (vZ AB rfl (VL.le vq wF) vq) (co rfl (wG rfl vq (VL.le vq (Dc _ _))) ?_))))
 refine ac ?_
 refine wk [4,3,0] rfl ?_
 refine ac ?_
 exact Fin.AM (k+1) ⟨AZ,by omega⟩ ⟨⟨_,rfl,AG k⟩,kz⟩
 have A8:k=((List.replicate m UN).length):=by have:=AJ h1;omega
 refine a2 ?_
 refine co rfl (jh rfl underlying180 underlying3 vq) ?_
 refine a2 ?_
 · exact Lr
theorem pg {c:Gt} (hn:c.names.length≤1000):A0 prog 187 [agg (C0 c)] (agg (C0 c)):=by
 refine fo func187 rfl ⟨rfl,rfl⟩ fun M0 w0=>(Tr.seq (Tr.BE ?_))
 refine TO.Vk rfl rfl AB rfl Be (fun b1=> ?_)
 refine Tl rfl rfl rfl rfl Ro L3 (fun b2=> ?_)
 refine ap ?_
 refine ap ?_
 refine TO.pad ?_
 refine TO.Df 0 rfl rfl AB (B9 rfl rfl rfl rfl underlying127 O6 by9 z9 Db vq (Bs BK vq)) (fun v1=> ?_)
 refine ap ?_
 refine ap ?_
 refine Tr.drop 2 (Tr.ret (Fin.Cf rfl (AL.cell 1 rfl rfl Ia Dv rfl Lr) ?_))
 · exact BR ⟨Lr,Lr,Lr,Lr,Lr,Lr,Lr,Lr,Lr,Lr,Lr,Lr,Pr.le_trans (Ao _ _) (Pr.le_of_eq AO),Lr,Lr,trivial⟩
abbrev SC (c:Gt) (key s:Int):Gt:=⟨c.Ib,c.Kj,c.IJ,c.Pp,c.J7,c.Cd,c.WA,c.NY,c.from_,c.OZ,c.auth,c.path,c.names,key,s⟩
theorem pq {c:Gt} {key:Int} (hv:EP (SC c 0 0)=true) (ht:(SC c 0 0).aN) (hk:0≤key∧key≤2147483648):A0 prog 147 [agg (C0 c),int key] (Cp.ex fun s:Int=>fact (0≤s∧s<4294967296) (C_ [agg (C0 (SC c key s)),int 0])):=by
 refine fo func147 rfl ⟨rfl,rfl⟩ fun M0 w0=> ?_
 have hnn:c.names.length≤1000:=by have:=(Jy hv).nm;unfold He at this;simp at this;omega
 refine Tr.seq (Tr.BE ?_)
 refine TO.Vk rfl rfl AB rfl Be (fun b1=> ?_)
 refine Tl rfl rfl rfl rfl Ro L3 (fun b2=> ?_)
 refine ap ?_
 refine ap ?_
 refine tp rfl (CM (pg (c:=c) hnn) rfl rfl) ?_
 refine ap ?_
 refine ap ?_
 refine ac ?_
 refine co rfl (CM (UP (c:=SC c 0 0) hv) rfl rfl) ?_
 refine co rfl Vl (cm rfl ?_)
 refine Ch.cs 15 rfl ?_ ?_<;>intro h1 q1
 exact absurd h1 AB
 refine ZM h1 rfl (cy h1 rfl (ki rfl rfl rfl rfl) (co rfl (nL rfl rfl h1 rfl) (cm rfl ?_)))
 refine Ch.cs 19 rfl ?_ ?_<;>intro h2 q2
 exfalso;have:=q2;omega
 refine ac ?_
 refine wk [22,4,2,1] rfl ?_
 refine Tr.cn rfl ?_ ?_<;>intro h3 q3
 exfalso;have:=q3;omega
 refine ac ?_
 refine ac ?_
 refine co rfl (CM (ji (c:=SC c 0 0) hv ht) rfl rfl) ?_
 refine ac ?_
 refine ap ?_
 refine tp rfl (CM (A0.E4 fun m hm=>fW AA) rfl rfl) ?_
 refine TO.ex 31 rfl (fun z31=>TO.fact 31 rfl fun AIh=> ?_)
 refine ap ?_
 refine wk [4,2] rfl ?_
 refine ap ?_
 refine Tr.drop 1 (Tr.ret (Fin.BL rfl (AL.cell 0 rfl rfl Ia Dv rfl Lr) (AL.tmp rfl Lr) ?_))
 · exact Az z31 (BC AIh Lr)
abbrev L5 (name:List UInt8) (a b id to key s:Int):Gt:=⟨id,[114,111,111,116],name,a,b,id,3,0,0,to,false,0,[name],key,s⟩
abbrev IM (name:List UInt8) (a b id to key s:Int):Hw:=⟨a,b,id,[L5 name a b id to key s]⟩
abbrev y5 (name:List UInt8) (a b id to key:Int):Pr:=Cp.ex fun s:Int=>fact (0≤s∧s<4294967296) (agg (E_ (IM name a b id to key s)))
theorem y7   :A0 prog 89 [] (agg [int 5,int 2048]):=by
 refine fo func89 rfl ⟨rfl,rfl⟩ fun M0 w0=>(Tr.seq (Tr.BE ?_))
 refine Tl rfl rfl rfl rfl LS Eo (fun b1=> ?_)
 refine ap ?_
 refine ap ?_
 refine Tr.ret (Fin.Cf rfl (AL.cell 0 rfl rfl J3 Lt rfl Lr) ?_)
 · exact Lr
theorem AIi   :A0 prog 93 [] (agg [int 7,int 256]):=by
 refine fo func93 rfl ⟨rfl,rfl⟩ fun M0 w0=>(Tr.seq (Tr.BE ?_))
 refine Tl rfl rfl rfl rfl LS Eo (fun b1=> ?_)
 refine ap ?_
 refine ap ?_
 refine Tr.ret (Fin.Cf rfl (AL.cell 0 rfl rfl J3 Lt rfl Lr) ?_)
 · exact Lr
theorem aO {name:List UInt8} {a b id to key:Int} (hv:EP (L5 name a b id to 0 0)=true) (ht:(L5 name a b id to 0 0).aN) (hk:0≤key∧key≤2147483648):A0 prog 88 [str name,agg [int a,int b],int id,int key,int to] (y5 name a b id to key):=by
 refine fo func88 rfl ⟨rfl,rfl⟩ fun M0 w0=>(Tr.seq (Tr.BE (tp rfl (BU rfl Be) ?_)))
 refine Tl rfl rfl rfl rfl Vv OV (fun b1=> ?_)
 refine ap ?_
 refine ap ?_
 refine tp rfl (BO (rows:=[(0,[_]),(1,[_]),(2,[_]),(3,_),(4,[_]),(5,_),(7,[_]),(10,[_])]) rfl ADj L3 ⟨⟨rfl,F7⟩,⟨⟨rfl,F7⟩,⟨⟨rfl,F7⟩,⟨⟨rfl,Be⟩,⟨⟨rfl,F7⟩,⟨⟨rfl,Be⟩,⟨⟨rfl,F7⟩,⟨⟨rfl,⟨_,rfl,Pr.le_trans (B4 _ _) (Ag _)⟩⟩,trivial⟩⟩⟩⟩⟩⟩⟩⟩ rfl) (TO.re 20 (agg (C0 (L5 name a b id to 0 0))) rfl (Pr.le_of_eq rfl) ?_)
 refine Tl rfl rfl rfl rfl Ro L3 (fun b2=> ?_)
 refine ap ?_
 refine wk [11,10,6,3,2] rfl ?_
 refine ap ?_
 refine tp rfl (Bq (pq (c:=L5 name a b id to 0 0) hv ht hk) rfl rfl rfl) ?_
 refine TO.ex 24 rfl (fun z24=>TO.fact 24 rfl fun AIj=> ?_)
 refine ap ?_
 refine ap ?_
 refine tp rfl (BO (rows:=[(0,_),(1,[_]),(2,[_])]) rfl ADM OV ⟨⟨rfl,Be⟩,⟨⟨rfl,F7⟩,⟨⟨rfl,⟨_,rfl,Pr.le_trans (B4 _ _) (Ag _)⟩⟩,trivial⟩⟩⟩ rfl) ?_
 refine ap ?_
 refine Tr.drop 0 (wk [10] rfl (Tr.ret (Fin.Cf rfl (AL.cell 0 rfl rfl PG Ep rfl Lr) ?_)))
 · exact Az z24 (BC AIj Lr)
def Kq (s:DS) (l:List (List UInt8)):List UInt8:=(l[(s.val l.length).toNat]?).getD []
theorem X8 {s:DS} {l:List (List UInt8)} (hl:l≠[]) (hl2:l.length≤1000000000):BP prog 91 [ptr b 0,Xv l] (str (Kq s l)) (DT b s) (fun _=>DT b s.Ci):=by
 refine BP.of func91 rfl rfl Am fun M0 w0 S rs M1 w1=> ?_
 have hl0:1≤(l.length:Int):=by have:=List.length_pos_iff.2 hl;omega
 have hv:=s.DK hl0
 obtain ⟨x,hx⟩:=at_ (l:=l) (k:=(s.val l.length).toNat) AA
 refine ac ?_
 refine ap ?_
 refine TO.F0 0 rfl rfl AB (Ae rfl rfl AB rfl (CI AA AA) ⟨kq,kz⟩) (tp rfl (AD rfl underlying127 O6 vq vq AA (Bb hx)) ?_)
 refine ap ?_
 refine Tr.ret (Fin.Gn [] rfl (AL.tmp rfl Lr) ?_ (fun _ _ _ _=>rfl))
 · refine Pr.le_of_eq ?_;unfold Kq;rw [hx];rfl
end Go.Proofs.YtmocaapoeefgkaaGreatDoor
