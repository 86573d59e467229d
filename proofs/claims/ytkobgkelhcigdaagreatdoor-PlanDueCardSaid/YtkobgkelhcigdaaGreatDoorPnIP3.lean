/-
  Part 3 of the texts that prove this claim, merged.
-/
import Derived.Test.YtkobgkelhcigdaaGreatDoorPnIP2
set_option linter.all false
set_option maxRecDepth 40000
set_option maxHeartbeats 16000000
namespace Cp
open Go Go.RowKit Go.Great
section
variable {P:Program} {L:Lg P} {n:Fm} {fz:Nat} {E:Env} {M0:Av} {w0:World} {S:Nat→Prop} {rs:List Ao} {o:Oper}
def uW (b off m:Nat):Pr where
 h _ _ u:=∃o c,u= .slice (some ⟨b,o,none⟩) m c∧(0<m→o=off)
 st _M _w _M' _w' _v _ h:=h
instance rj (b off m:Nat):One (uW b off m):=⟨by rintro M w u ⟨o,c,rfl,_⟩;exact ⟨rfl,rfl⟩⟩
end
section
variable {P:Program} {L:Lg P} {n:Fm} {fz:Nat} {E:Env} {M0:Av} {w0:World} {S:Nat→Prop} {rs:List Ao} {o:Oper}
end
section
variable {P:Program} {L:Lg P} {n:Fm} {fz:Nat} {E:Env} {M0:Av} {w0:World} {S:Nat→Prop} {rs:List Ao}
theorem St.Mx {i j k sz b:Nat} {new:Bool} {T e:TypeId} {ps:List Pr} {rows:List (List Pr)} {v:Value} {p:Pr} (hi:rs[i]? =some (AB new b T ps)) (hj:rs[j]? =some (CV e sz rows v)) (hij:j≠i) (hk:ps[k]? =some p) (hp:Pr.le p (is v)) (hl:∀r∈rows,r.length=sz) {a:Act} {w:World} (h:St n E (Hp M0 w0 S rs) a w):
  St n E (Hp M0 w0 S ((rs.set j Bp).set i (AB new b T (ps.set k (slice sz rows))))) a w:=by
 obtain ⟨M,h1,h2,h3,h4⟩:=h
 have h4:At M0 w0 S rs M w:=h4
 have hi':(rs.set j (CV e sz rows v))[i]? =some (AB new b T ps):=by rw [List.getElem?_set_ne hij];exact hi
 obtain ⟨M',g1,g2,g3⟩:=h4.uT hj hl
 have gi:(rs.set j Bp)[i]? =some (AB new b T ps):=by rw [List.getElem?_set_ne hij];exact hi
 refine ⟨M',h1,h2,fun s q hq=>q.st _ _ _ _ _ g1 (h3 s q hq),g2.Cl gi rfl rfl ?_⟩
 obtain ⟨c1,cs,c2,c3,c4⟩:=(g2.hold _ (List.mem_of_getElem? gi)).1
 exact ⟨c1,cs,c2,c3.set hk (fun u hu=>by rw [show u=v from hp _ _ _ hu];exact g3),c4⟩
theorem Tr.Mx {Q:Exit→Act→World→Prop} {c:Code} (i j k:Nat) {sz b:Nat} {new:Bool} {T e:TypeId} {ps:List Pr} {rows:List (List Pr)} {v:Value} {p:Pr} (hi:rs[i]? =some (AB new b T ps)) (hj:rs[j]? =some (CV e sz rows v)) (hij:j≠i) (hk:ps[k]? =some p) (hp:Pr.le p (is v)) (hl:∀r∈rows,r.length=sz)
  (kk:Tr L n E (Hp M0 w0 S ((rs.set j Bp).set i (AB new b T (ps.set k (slice sz rows))))) c Q):Tr L n E (Hp M0 w0 S rs) c Q:=Tr.conv (fun _ _ hs=>hs.Mx hi hj hij hk hp hl) kk
end
section
variable {P:Program} {L:Lg P} {n:Fm} {fz:Nat} {E:Env} {M0:Av} {w0:World} {S:Nat→Prop} {rs:List Ao} {o:Oper} {g:Func} {M1:Av} {w1:World}
theorem Row.hd {M:Av} {w:World} {ad:Addr} {p q:Pr} {ps:List Pr} (h:Row M w ad 0 (p::ps)) (hq:∀u,p.h M w u→q.h M w u):Row M w ad 0 (q::ps):=by
 intro j r hr
 cases j with
 |zero=>
  simp at hr;subst hr
  obtain ⟨u,h1,h2,h3,h4⟩:=h 0 p rfl
  exact ⟨u,h1,h2,h3,hq u h4⟩
 |succ j=>exact h (j+1) r (by simpa using hr)
theorem TO.re {Q:Exit→Act→World→Prop} {ops:Array Oper} {l:List Oper} {I:CU} (s:Nat) {q:Pr} (p:Pr) (hs:E.lookup s=some q) (hl:Pr.le q p) (k:TO P n ops l ((s,p)::E) I Q):TO P n ops l E I Q:=by
 intro m hm a w hst
 refine k m hm a w ?_
 obtain ⟨M,h1,h2,he,h4⟩:=hst
 refine ⟨M,h1,h2,fun s' r hr=> ?_,h4⟩
 simp only [List.lookup] at hr
 split at hr
 ·
  rename_i e1
  have:s'=s:=by simpa using e1
  subst this
  simp only [Option.some.injEq] at hr
  subst hr
  exact hl _ _ _ (he _ _ hs)
 · exact he _ _ hr
theorem Fin.Ol {Q:Exit→Act→World→Prop} {x:Exit} {r r':Ao} (k:Fin n E (Hp M0 w0 S (r'::r::rs)) Q x):Fin n E (Hp M0 w0 S (r::r'::rs)) Q x:=
 Fin.conv (fun _ _ ⟨M,h1,h2,h3,h4⟩=>⟨M,h1,h2,h3,At.perm (List.Perm.swap _ _ _) h4⟩) k
def VF (P:Program) (f:FuncId) (args:List Pr) (res:Value→Pr) (post:Value→List Ao):Prop:=HV (α:=Value) P f args [] (fun _=>True) res post
theorem VF.of {f : FuncId} {c : Code} {ps : List Pr} {res : Value → Pr} {post : Value → List Ao} (hf : P.funcs[f]? = some g) (hb : g.body = some c) (hname : (g.name == "runtime.NumGoroutine") = false) (hlen : ps.length ≤ g.ntmps)
  (h:∀M0 w0 S rs M1 w1,Tr (Uj P) g.ntmps (KL 0 ps) (Hp M0 w0 S (Aj M1 w1::rs)) c (bodyPost P g (Oi M0 w0 S rs M1 w1 (fun _:Value=>True) res post))):VF P f ps res post:=
 HV.of hf hb hname hlen h
theorem Fin.uX {rv:ResultVar} {q:Pr} {res:Value→Pr} {post:Value→List Ao} {rs':List Ao} (v:Value) (dr:List Ao) (hr:g.results= #[rv]) (h:AO P E rs' rv q) (hl:Pr.le q (res v)) (hp:rs'.Perm (dr++(post v++Aj M1 w1::rs))):
  Fin ⟨fz,[]⟩ E (Hp M0 w0 S rs') (bodyPost P g (Oi M0 w0 S rs M1 w1 (fun _:Value=>True) res post)) .ret:=by
 rintro a w ⟨M,_,hd,he,hi⟩
 have hi:At M0 w0 S rs' M w:=hi
 obtain ⟨u,hu,hp'⟩:=h M w a he (fun q hq=>(hi.hold q hq).1)
 obtain ⟨h1,h2⟩:=YX (At.mY (At.perm hp hi))
 exact ⟨hd,u,results1 hr hu,_,M,v,rfl,trivial,hl _ _ _ hp',h1,h2⟩
theorem TO.bQ {Q:Exit→Act→World→Prop} {ops:Array Oper} {r:List Oper} {f:FuncId} {xs:Array Operand} {ts:Array TypeId} {ps:List Pr} {res:Value→Pr} {post:Value→List Ao} {d:Nat} (hg:o.guard=none) (hd:o.dst=some d) (hn:d<n) (ho:o.op= .call { callee:= .value (.func f),args:=xs,argTypes:=ts }) (hf:VF P f ps res post)
  (hv:G7 E xs.toList ps) (k:∀v,TO P n ops r ((d,res v)::E) (Hp M0 w0 S (post v++rs)) Q):TO P n ops (o::r) E (Hp M0 w0 S rs) Q:=
 TO.Qu rs hg hd hn ho hf hv (List.Perm.refl _) fun v _=>k v
end
section
variable {P:Program} {L:Lg P} {n:Fm} {fz:Nat} {E:Env} {I:CU} {Q:Exit→Act→World→Prop} {ops:Array Oper} {o:Oper} {r:List Oper} {g j:Nat} {b want:Bool}
theorem TO.cases (g:Nat) {b:Bool} {l:List Oper} (_hb:E.lookup g=some (bool b)) (ht:b=true→TO P n ops l E I Q) (hf:b=false→TO P n ops l E I Q):TO P n ops l E I Q:=by
 cases b
 · exact hf rfl
 · exact ht rfl
theorem TO.uY (hg:o.guard=some (j,want)) (hj:(ops[j]?).bind (·.dst)=some g) (hb:E.lookup g=some (bool b)) (K4:b=want) (h:∀(K:Act→World→Prop) M w (a:Act),a.tmps.size=n.sz→a.defers=n.df→E4 M w E a→I.h M w→
  (∀E' I' a' w',TO P n ops r E' I' Q→St n E' I' a' w'→K a' w')→o.wp P a w K Q):TO P n ops (o::r) E I Q:=by
 intro k hl a w hs
 have h0:ops[k]? =some o:=by simpa using (hl 0).symm
 obtain ⟨M,hn,hd,he,hI⟩:=hs
 simp only [List.length_cons,List.range'_succ,wpS,h0]
 have hy:=Hq (M:=M) (w:=w) (b:=some b) hj (he g _ hb)
 rw [Gy hg hy,if_pos (by simp [K4])]
 exact (h _ M w a hn hd he hI fun E' I' a' w' hT hst=>hT (k+1) (fun j=>by have:=hl (j+1);simpa [Nat.add_assoc,Nat.add_comm 1 j] using this) a' w' hst)
theorem TO.L2 {d:Nat} {p:Pr} (hg:o.guard=some (j,want)) (hj:(ops[j]?).bind (·.dst)=some g) (hb:E.lookup g=some (bool b)) (K4:b=want) (hd:o.dst=some d) (hn:d<n) (h:Aa P I o E p) (k:TO P n ops r ((d,p)::E) I Q):TO P n ops (o::r) E I Q:=
 TO.uY hg hj hb K4 fun K M w a h1 h2 h3 h4 hK=>by
  refine GK (h M w a (CH h3) h4) fun v w' hv hb'=>hK _ _ _ _ k ⟨M,?_,?_,?_,I.st _ _ _ hb' h4⟩
  · rw [Bm];exact h1
  · rw [put_defers];exact h2
  ·
   have:=h3.put (o:=o) (p:=p) hb' hv (fun d' hd'=>by rw [hd] at hd';cases hd';rw [h1];exact hn)
   rw [show upd o p E=(d,p)::E by unfold upd;rw [hd]] at this;exact this
theorem TO.R8 {d:Nat} (hg:o.guard=some (j,want)) (hj:(ops[j]?).bind (·.dst)=some g) (hb:E.lookup g=some (bool b)) (K4:b≠want) (hd:o.dst=some d) (hn:d<n) (kk:TO P n ops r ((d,is undef)::E) I Q):TO P n ops (o::r) E I Q:=by
 intro k hl a w hs
 have h0:ops[k]? =some o:=by simpa using (hl 0).symm
 obtain ⟨M,h1,h2,he,hI⟩:=hs
 simp only [List.length_cons,List.range'_succ,wpS,h0]
 have hy:=Hq (M:=M) (w:=w) (b:=some b) hj (he g _ hb)
 rw [Gy hg hy,if_neg (by simp [K4])]
 refine kk (k+1) (fun j=>by have:=hl (j+1);simpa [Nat.add_assoc,Nat.add_comm 1 j] using this) _ w ⟨M,by rw [Bm];exact h1,by rw [put_defers];exact h2,?_,hI⟩
 have:=he.put (o:=o) (p:=is undef) (v:=undef) (Below.refl w.heap.size w) rfl (fun d' hd'=>by rw [hd] at hd';cases hd';rw [h1];exact hn)
 rw [show upd o (is undef) E=(d,is undef)::E by unfold upd;rw [hd]] at this;exact this
variable {M0:Av} {w0:World} {S:Nat→Prop} {rs:List Ao}
theorem TO.pR {d:Nat} {p:Pr} (i:Nat) {R:Ao} {R':Ao} (hg:o.guard=some (j,want)) (hj:(ops[j]?).bind (·.dst)=some g) (hb:E.lookup g=some (bool b)) (K4:b=want) (hR:rs[i]? =some R) (hd:o.dst=some d) (hn:d<n) (h:DI P M0 w0 S n i (SR.c R) (SR.c R') { o with guard:=none } E p)
  (k:TO P n ops r ((d,p)::E) (Hp M0 w0 S (rs.set i R')) Q):TO P n ops (o::r) E (Hp M0 w0 S rs) Q:=
 TO.uY hg hj hb K4 fun K M w a hsz hdf he hI hK=>by
  have hw : ({ o with guard := none } : Oper).wp P a w K Q := K7 (h.2 M w a rs hsz (CH he) hI hR) fun v w' M' hv hx Sz => hK _ _ _ _ k ⟨M', by rw [Bm]; exact hsz, by rw [put_defers]; exact hdf, by
   intro s q hq
   simp only [List.lookup] at hq
   by_cases hs:s=d
   · subst hs;simp at hq;subst hq;show p.h M' w' ((a.put o.dst v).tmps.getD s undef);rw [hd,Ba (by rw [hsz];exact hn)];exact hv
   · rw [show (s==d)=false by simpa using hs] at hq;show q.h M' w' ((a.put o.dst v).tmps.getD s undef);rw [hd,BF hs];exact q.st _ _ _ _ _ hx (he s q hq),Sz⟩
  exact hw
end
section
variable {P:Program} {L:Lg P} {E:Env} {I:CU} {o:Oper}
end
class T1 (P:Program) (t:TypeId):Prop where
 h:D9 P t=true
class TA (P:Program) (t:TypeId):Prop where
 h:FU P t=true
class TZ (P:Program) (t:TypeId) (m:outParam Nat):Prop where
 h:Ay P t=some m
class TF (P:Program) (s f:Nat) (k:outParam Nat):Prop where
 h:AY P s f=some k
class TU (P:Program) (t:TypeId) (d:outParam TypeDesc):Prop where
 h:P.underlying t=some d
class TB (P:Program) (t:TypeId) (place:outParam (Nat→Option (Nat×Nat))) (zs:outParam (List Value)):Prop where
 h:∀ps,P.built t ps=Instr.fill place zs.toArray ps
 z:zs.all (·.oneCell')=true
class TV (P:Program) (t:TypeId) (zs:outParam (List Value)):Prop where
 h:BL P t=some zs
 z:zs.all (·.oneCell')=true
class TM (P:Program):Prop where
 h:P.follows .mixedOrders=true
section
variable {P:Program} {L:Lg P} {n:Fm} {fz:Nat} {I:CU} {ops:Array Oper} {o:Oper} {r:List Oper} {E:Env} {K:Env→Prop} {d g j:Nat} {b want:Bool} {p:Pr} {x y:Operand} {Q:Exit→Act→World→Prop} {t u:TypeId}
theorem zR [i:T1 P t] {ps:List Pr} (ho:o.op= .load t x) (hx:C6 E x=some (ref (p::ps))):Aa P I o E p:=EL ho i.h (vl hx)
theorem zS [i:TA P t] {m:Nat} [z:TZ P t m] {ps qs:List Pr} (ho:o.op= .load t x) (hx:C6 E x=some (ref ps)) (hq:ps.take m=qs) (hm:qs.length=m):Aa P I o E (agg qs):=AQ ho i.h z.h (vl hx) hq hm
theorem zT {s:TypeId} {f k:Nat} [i:TF P s f k] {ps qs:List Pr} (ho:o.op= .fieldAddr s x f) (hx:C6 E x=some (ref ps)) (hq:ps.drop k=qs):Aa P I o E (ref qs):=E6 ho i.h (vl hx) hq
theorem zU {s:TypeId} {f k:Nat} [i:TF P s f k] {b off:Nat} (ho:o.op= .fieldAddr s x f) (hx:C6 E x=some (ptr b off)):Aa P I o E (ptr b (off+k)):=Ac ho i.h (vl hx)
theorem zV {e:TypeId} [i:TU P t (.slice e)] {sz:Nat} {β:Type} {f:β→List Pr} {l:List β} (ho:o.op= .call { callee:= .builtin .len,args:= #[x],argTypes:= #[t] }) (hx:C6 E x=some (slice sz (l.map f))):Aa P I o E (int ((l.length:Nat):Int)):=Bo ho i.h (vl hx)
theorem zW [i:TU P t .string] {a:List UInt8} (ho:o.op= .call { callee:= .builtin .len,args:= #[x],argTypes:= #[t] }) (hx:C6 E x=some (str a)):Aa P I o E (int ((a.length:Nat):Int)):=jB ho i.h (vl hx)
theorem zX [i:TU P t .bool] {b c:Bool} (ho:o.op= .binOp .eql t x y u) (hx:C6 E x=some (bool b)) (hy:C6 E y=some (bool c)):Aa P I o E (bool (b==c)):=ng ho i.h (vl hx) (vl hy)
theorem zY {p:Pr} [One p] (ho:o.op= .box t x) (hx:C6 E x=some p):Aa P I o E (ref [p]):=Bb ho (VL.le (vl hx) (Ae p))
theorem zZ {ps:List Pr} (ho:o.op= .box t x) (hx:C6 E x=some (agg ps)):Aa P I o E (ref ps):=Bb ho (VL.le (vl hx) (AZ ps))
class CP (p:Pr) (ps:outParam (List Pr)):Prop where
 h:Pr.le p (DR ps)
instance za (ps:List Pr):CP (agg ps) ps:=⟨AZ ps⟩
instance (priority:=low) zb (p:Pr) [One p]:CP p [p]:=⟨Ae p⟩
class CQ (p:Pr) (ps:outParam (List Pr)):Prop where
 h:Pr.le p (DR ps)
instance ze (ps:List Pr):CQ (agg ps) ps:=⟨AZ ps⟩
instance zf (k:IntKind) (n:Int):CQ (is (.int k n)) [is (.int k n)]:=⟨Ae _⟩
instance xS (b:Bool):CQ (is (.bool b)) [is (.bool b)]:=⟨Ae _⟩
instance zg (s:ByteArray):CQ (is (.string s)) [is (.string s)]:=⟨Ae _⟩
instance zh (a:Option Addr):CQ (is (.pointer a)) [is (.pointer a)]:=⟨Ae _⟩
instance uZ (sz:Nat) (rows:List (List Pr)):CQ (slice sz rows) [slice sz rows]:=⟨Ae _⟩
instance zi (ps:List Pr):CQ (ref ps) [ref ps]:=⟨Ae _⟩
instance ABS (f:Fn) (ps:List Pr):CQ (fn f ps) [fn f ps]:=⟨Ae _⟩
theorem vf0:Uv E [] []:=trivial
theorem vf1 {i:Nat} {q:Pr} {row:List Pr} [c:CQ q row] {xs:List (Nat×Operand)} {rows:List (Nat×List Pr)} (hx:C6 E x=some q) (h:Uv E xs rows):Uv E ((i,x)::xs) ((i,row)::rows):=⟨⟨rfl,VL.le (vl hx) c.h⟩,h⟩
theorem vr0 {sz:Nat}:Ri E sz [] []:=trivial
theorem vr1 {sz:Nat} {q:Pr} {row:List Pr} [c:CQ q row] {xs:List Operand} {rows:List (List Pr)} (hx:C6 E x=some q) (hl:row.length=sz) (h:Ri E sz xs rows):Ri E sz (x::xs) (row::rows):=⟨⟨hl,VL.le (vl hx) c.h⟩,h⟩
theorem zj {parts:Array (Nat×Operand)} {place:Nat→Option (Nat×Nat)} {zs:List Value} [i:TB P t place zs] {rows:List (Nat×List Pr)} {qs:List Pr} (ho:o.op= .build t parts) (hx:Uv E parts.toList rows) (hq:Qf place (zs.map is) rows=some qs):Aa P I o E (agg qs):=Al ho i.h i.z hx hq
theorem zk {e:TypeId} {sz m:Nat} {zs:List Value} {xs:List Operand} {parts:Array (Nat×Operand)} {rows:List (List Pr)} [i:TU P t (.slice e)] [z:TZ P e sz] [v:TV P e zs] (ho:o.op= .buildSlice t m parts) (hp:parts.toList.map Prod.snd=xs) (hm:(m==xs.length&&(parts.toList.map Prod.fst==List.range m)&&zs.length==sz&&Nat.blt 0 sz&&Nat.ble (m*sz) 16777216)=true) (hx:Ri E sz xs rows):Aa P I o E (full sz rows):=by
 simp only [Bool.and_eq_true,beq_iff_eq,Nat.blt_eq,Nat.ble_eq] at hm
 obtain ⟨⟨⟨⟨h1,h2⟩,h3⟩,h4⟩,h5⟩:=hm
 subst h1
 refine AM ho ?_ i.h z.h v.h h3 h4 hx h5
 refine List.ext_getElem (by rw [←hp];simp) fun k h6 h7=> ?_
 have h8:k<xs.length:=by simpa using h7
 simp only [List.getElem_map,List.getElem_zipIdx,Nat.zero_add]
 have e1:(parts.toList.map Prod.fst)[k]'(by simpa using h6)=k:=by simp only [h2];exact List.getElem_range _
 have e2:(parts.toList.map Prod.snd)[k]'(by simpa using h6)=xs[k]:=by simp only [hp]
 simp only [List.getElem_map] at e1 e2
 exact Prod.ext e1 e2
section
variable {M0:Av} {w0:World} {S:Nat→Prop} {b off:Nat} {T:TypeId} {new:Bool} {ps qs:List Pr} {m:Nat} {q:Pr}
theorem KT [i:T1 P t] (ho:o.op= .load t x) (hx:C6 E x=some (ptr b off)) (hp:ps[off]? =some p):L7 P M0 w0 S j (SR.c (AB new b T ps)) o E p:=A_ ho i.h (vl hx) hp
theorem KU [i:TA P t] [z:TZ P t m] (ho:o.op= .load t x) (hx:C6 E x=some (ptr b off)) (hq:(ps.drop off).take m=qs) (hm:qs.length=m):L7 P M0 w0 S j (SR.c (AB new b T ps)) o E (agg qs):=CI ho i.h z.h (vl hx) hq hm
theorem Tg {ps':List Pr} [z:TZ P t m] [c:CP q qs] (hg:o.guard=none) (ho:o.op= .store t x y) (hx:C6 E x=some (ptr b off)) (hy:C6 E y=some q) (hm:qs.length=m:=by rfl) (hl:Nat.ble (off+m) ps.length=true:=by rfl) (hps:ps.take off++qs++ps.drop (off+m)=ps':=by rfl):DI P M0 w0 S n j (SR.c (AB new b T ps)) (SR.c (AB new b T ps')) o E any:=A0 hg ho (vl hx) (VL.le (vl hy) c.h) z.h hm (Nat.le_of_ble_eq_true hl) hps
variable {rs:List Ao}
theorem sf (i s:Nat) [z:TZ P t m] [c:CP q qs] (hg:o.guard=none∧o.dst=none∧o.op= .store t x y) (hx:C6 E x=some (ptr b 0)) (hy:C6 E y=some q) (hi:rs[i]? =some (AB true b T ps)) (hs:E.lookup s=some (ptr b 0))
  (k:TO P n ops r ((s,ref qs)::E) (Hp M0 w0 S ((rs.set i (AB true b T qs)).eraseIdx i)) Q) (hm:qs.length=m:=by rfl) (hl:ps.length=m:=by rfl):TO P n ops (o::r) E (Hp M0 w0 S rs) Q:=
 TO.AK i hg.1 hg.2.1 hg.2.2 (vl hx) (VL.le (vl hy) c.h) hi z.h hm hl (TO.freeze (ps:=qs) i s (by
  have hlt:i<rs.length:=by rcases Nat.lt_or_ge i rs.length with h|h;exact h;rw [List.getElem?_eq_none h] at hi;cases hi
  rw [List.getElem?_set_self hlt]) hs k)
theorem sa (i:Nat) [z:TZ P t m] [c:CP q qs] (hg:o.guard=none∧o.dst=none∧o.op= .store t x y) (hx:C6 E x=some (ptr b 0)) (hy:C6 E y=some q) (hi:rs[i]? =some (AB new b T ps))
  (k:TO P n ops r E (Hp M0 w0 S (rs.set i (AB new b T qs))) Q) (hm:qs.length=m:=by rfl) (hl:ps.length=m:=by rfl):TO P n ops (o::r) E (Hp M0 w0 S rs) Q:=TO.AK i hg.1 hg.2.1 hg.2.2 (vl hx) (VL.le (vl hy) c.h) hi z.h hm hl k
end
def opk (o:Oper):Nat:=match o.op with
 | .move ..=>1
 | .assign ..=>1
 | .fieldAddr ..=>2
 | .load ..=>3
 | .binOp .add ..=>7
 | .binOp .sub ..=>8
 | .binOp ..=>4
 | .pick ..=>5
 | .nilCheck ..=>6
 | .call { callee:= .builtin .len,.. }=>9
 | .unOp ..=>10
 | .box ..=>11
 | .extract ..=>12
 | .makeFunc ..=>13
 | .build ..=>14
 | .buildSlice ..=>15
 | .store ..=>16
 |_=>0
def uc (o:Oper):Bool:=o.guard.isNone
def grp (o:Oper):Nat:=if opk o=0 then 0 else if opk o<5 then 1 else if opk o<9 then 2 else if opk o<16 then 3 else 4
theorem zl {m z:Int} (ho:o.op= .binOp .add t x y u) (hx:C6 E x=some (int m)) (hy:C6 E y=some (int z)) (hr: -9223372036854775808≤m+z∧m+z≤9223372036854775807):Aa P I o E (int (m+z)):=Er ho (vl hx) (vl hy) hr
theorem zm {m z:Int} (ho:o.op= .binOp .sub t x y u) (hx:C6 E x=some (int m)) (hy:C6 E y=some (int z)) (hr: -9223372036854775808≤m-z∧m-z≤9223372036854775807):Aa P I o E (int (m-z)):=Uo ho (vl hx) (vl hy) hr
theorem oF (h:Aa P I o E p:=by first|exact zT rfl rfl rfl|exact zU rfl rfl):Aa P I o E p:=h
theorem oL (h:Aa P I o E p:=by first|exact zR rfl rfl|exact zS rfl rfl rfl rfl|exact DK 0 rfl (KT rfl rfl rfl)|exact DK 0 rfl (KU rfl rfl rfl rfl)|exact DK 1 rfl (KT rfl rfl rfl)|exact DK 1 rfl (KU rfl rfl rfl rfl)|exact DK 2 rfl (KT rfl rfl rfl)|exact DK 2 rfl (KU rfl rfl rfl rfl)|exact DK 3 rfl (KT rfl rfl rfl)|exact DK 3 rfl (KU rfl rfl rfl rfl)|exact DK 4 rfl (KT rfl rfl rfl)|exact DK 4 rfl (KU rfl rfl rfl rfl)):Aa P I o E p:=h
theorem oB (h:Aa P I o E p:=by first|exact ki rfl rfl rfl rfl|exact pG rfl (vl rfl) (vl rfl)|exact pH rfl (vl rfl) (vl rfl)|exact zX rfl rfl rfl):Aa P I o E p:=h
theorem oP (h:Aa P I o E p:=by first|exact Na rfl rfl (by first|rfl|assumption) rfl|exact Mq rfl rfl (by first|rfl|assumption) rfl|exact YW rfl (vl rfl) (vl rfl)|exact VB rfl (vl rfl) (vl rfl)):Aa P I o E p:=h
theorem oN (h:Aa P I o E p:=by first|exact Dq rfl (vl rfl)|exact IW rfl (vl rfl)|exact Iv rfl (vl rfl)):Aa P I o E p:=h
theorem oA (h:Aa P I o E p:=by first|exact zl rfl rfl rfl (by omega)|exact ki rfl rfl rfl rfl):Aa P I o E p:=h
theorem oS (h:Aa P I o E p:=by first|exact zm rfl rfl rfl (by omega)|exact ki rfl rfl rfl rfl):Aa P I o E p:=h
theorem oC (h:Aa P I o E p:=by first|exact zV rfl rfl|exact zW rfl rfl):Aa P I o E p:=h
theorem oU (h:Aa P I o E p:=by first|exact G8 rfl (vl rfl)):Aa P I o E p:=h
theorem oO (h:Aa P I o E p:=by first|exact zZ rfl rfl|exact zY rfl rfl):Aa P I o E p:=h
theorem oE (h:Aa P I o E p:=by first|exact Az rfl (vl rfl) rfl):Aa P I o E p:=h
theorem oM (h:Aa P I o E p:=by first|exact S3 rfl rfl):Aa P I o E p:=h
theorem oD (h:Aa P I o E p:=by first|exact zj rfl (by repeat any_goals first|exact vf0|refine' vf1 rfl ?_) (by rfl)):Aa P I o E p:=h
theorem oI (h:Aa P I o E p:=by first|exact zk rfl rfl (by rfl) (by repeat any_goals first|exact vr0|refine' vr1 rfl (by rfl) ?_)):Aa P I o E p:=h
theorem kc0 {f:FuncId} {ts:Array TypeId} {res:Pr} (hf:BA P f [] res) (ho:o.op= .call { callee:= .value (.func f),args:= #[],argTypes:=ts }):Aa P I o E res:=AR ho hf trivial
theorem Cq {f:FuncId} {ts:Array TypeId} {x0:Operand} {p0:Pr} {res:Pr} (hf:BA P f [p0] res) (ho:o.op= .call { callee:= .value (.func f),args:= #[x0],argTypes:=ts }) (h0:C6 E x0=some p0):Aa P I o E res:=AR ho hf ⟨ke h0,trivial⟩
theorem CF {f:FuncId} {ts:Array TypeId} {x0:Operand} {p0:Pr} {x1:Operand} {p1:Pr} {res:Pr} (hf:BA P f [p0,p1] res) (ho:o.op= .call { callee:= .value (.func f),args:= #[x0,x1],argTypes:=ts }) (h0:C6 E x0=some p0) (h1:C6 E x1=some p1):Aa P I o E res:=AR ho hf ⟨ke h0,ke h1,trivial⟩
theorem J2 {f:FuncId} {ts:Array TypeId} {x0:Operand} {p0:Pr} {x1:Operand} {p1:Pr} {x2:Operand} {p2:Pr} {res:Pr} (hf:BA P f [p0,p1,p2] res) (ho:o.op= .call { callee:= .value (.func f),args:= #[x0,x1,x2],argTypes:=ts }) (h0:C6 E x0=some p0) (h1:C6 E x1=some p1) (h2:C6 E x2=some p2):Aa P I o E res:=AR ho hf ⟨ke h0,ke h1,ke h2,trivial⟩
theorem Zv {f:FuncId} {ts:Array TypeId} {x0:Operand} {p0:Pr} {x1:Operand} {p1:Pr} {x2:Operand} {p2:Pr} {x3:Operand} {p3:Pr} {res:Pr} (hf:BA P f [p0,p1,p2,p3] res) (ho:o.op= .call { callee:= .value (.func f),args:= #[x0,x1,x2,x3],argTypes:=ts }) (h0:C6 E x0=some p0) (h1:C6 E x1=some p1) (h2:C6 E x2=some p2) (h3:C6 E x3=some p3):Aa P I o E res:=AR ho hf ⟨ke h0,ke h1,ke h2,ke h3,trivial⟩
theorem kc5 {f:FuncId} {ts:Array TypeId} {x0:Operand} {p0:Pr} {x1:Operand} {p1:Pr} {x2:Operand} {p2:Pr} {x3:Operand} {p3:Pr} {x4:Operand} {p4:Pr} {res:Pr} (hf:BA P f [p0,p1,p2,p3,p4] res) (ho:o.op= .call { callee:= .value (.func f),args:= #[x0,x1,x2,x3,x4],argTypes:=ts }) (h0:C6 E x0=some p0) (h1:C6 E x1=some p1) (h2:C6 E x2=some p2) (h3:C6 E x3=some p3) (h4:C6 E x4=some p4):Aa P I o E res:=AR ho hf ⟨ke h0,ke h1,ke h2,ke h3,ke h4,trivial⟩
theorem cP (_:uc o=true) (h:Ch P n I ops (o::r) E K):Ch P n I ops (o::r) E K:=h
theorem cG (_:uc o=false) (h:Ch P n I ops (o::r) E K):Ch P n I ops (o::r) E K:=h
theorem cK (k:Nat) (_:opk o=k) (h:Ch P n I ops (o::r) E K):Ch P n I ops (o::r) E K:=h
theorem cS (k:Nat) (_:grp o=k) (h:Ch P n I ops (o::r) E K):Ch P n I ops (o::r) E K:=h
theorem tK (k:Nat) (_:opk o=k) (h:TO P n ops (o::r) E I Q):TO P n ops (o::r) E I Q:=h
theorem tG (k:Nat) (_:grp o=k) (h:TO P n ops (o::r) E I Q):TO P n ops (o::r) E I Q:=h
theorem Tr.rm [i:TM P] {id:Nat} {l:List Oper} (hB:Ra l=true) (h:Ch P n I l.toArray l E (fun E'=>Fin n E' I Q .normal)) (hc:calm l=true:=by with_unfolding_all rfl):Tr L n E I (.region id l.toArray true) Q:=Tr.gY i.h hB h hc
theorem Tr.ct {c:Operand} {y z:Code} (hc:C6 E c=some (bool true)) (k:Tr L n E I y Q):Tr L n E I (.cond c y z) Q:=Tr.cond hc (fun _=>k) (fun h=>nomatch h)
theorem Tr.cf {c:Operand} {y z:Code} (hc:C6 E c=some (bool false)) (k:Tr L n E I z Q):Tr L n E I (.cond c y z) Q:=Tr.cond hc (fun h=>nomatch h) (fun _=>k)
structure bR (G:Prop):Prop where
 k:G
theorem Cx.mono {M0:Av} {w0:World} {S:Nat→Prop}:∀{l:List Oper} {E:Env} {rs:List SR} {K K':List X→Env→List SR→Prop},(∀L E rs,K L E rs→K' L E rs)→Cx P M0 w0 S n ops l E rs K→Cx P M0 w0 S n ops l E rs K'
 |[],_,_,_,_,h,k=>h _ _ _ k
 |_::_,_,_,_,_,h,⟨p,k,h1,h2,h3⟩=>⟨p,k,h1,h2,Cx.mono (fun _ _ _=>h _ _ _) h3⟩
theorem Cx.keys {M0:Av} {w0:World} {S:Nat→Prop}:∀{l:List Oper} {E:Env} {rs:List SR} {K:List X→Env→List SR→Prop},Cx P M0 w0 S n ops l E rs K→∃ks:List KN,Cx P M0 w0 S n ops l E rs (fun L E' rs'=>L.map (·.k.KO)=ks∧K L E' rs')
 |[],_,_,_,k=>⟨[],rfl,k⟩
 |_::_,_,_,_,⟨p,k,h1,h2,h3⟩=>by
  obtain ⟨ks,h4⟩:=Cx.keys h3
  exact ⟨k.KO::ks,p,k,h1,h2,Cx.mono (fun L E rs h=>⟨by rw [List.map_cons,h.1],h.2⟩) h4⟩
theorem Tr.rx {Lo:Lg P} [i:TM P] {M0:Av} {w0:World} {S:Nat→Prop} {id:Nat} {l:List Oper} {HN:List Ao}
  (h:Cx P M0 w0 S n l.toArray l E (HN.map SR.c) (fun L E' rs'=>NZ l (L.map (·.k.KO))=true∧BH n M0 w0 S E' rs' Q)) (hc:calm l=true:=by with_unfolding_all rfl):Tr Lo n E (Hp M0 w0 S HN) (.region id l.toArray true) Q:=by
 obtain ⟨ks,hk⟩:=Cx.keys h
 obtain ⟨L,h1,h2,h3⟩:=Re l 0 E _ hk
 exact Tr.F4 i.h ks (by rw [←h3.1];exact h3.2.1) (hk.mono fun _ _ _ h=>⟨h.1,h.2.2⟩) hc
theorem al1 {rs:List Ao} {r0:Ao}:Ar (SR.c r0::rs.map SR.c) (r0::rs):= .cons (Ar.map _)
theorem YY {rs:List Ao} {r0:Ao} {r1:Ao}:Ar (SR.c r0::SR.c r1::rs.map SR.c) (r0::r1::rs):= .cons (.cons (Ar.map _))
theorem al3 {rs:List Ao} {r0:Ao} {r1:Ao} {r2:Ao}:Ar (SR.c r0::SR.c r1::SR.c r2::rs.map SR.c) (r0::r1::r2::rs):= .cons (.cons (.cons (Ar.map _)))
theorem al4 {rs:List Ao} {r0:Ao} {r1:Ao} {r2:Ao} {r3:Ao}:Ar (SR.c r0::SR.c r1::SR.c r2::SR.c r3::rs.map SR.c) (r0::r1::r2::r3::rs):= .cons (.cons (.cons (.cons (Ar.map _))))
theorem al5 {rs:List Ao} {r0:Ao} {r1:Ao} {r2:Ao} {r3:Ao} {r4:Ao}:Ar (SR.c r0::SR.c r1::SR.c r2::SR.c r3::SR.c r4::rs.map SR.c) (r0::r1::r2::r3::r4::rs):= .cons (.cons (.cons (.cons (.cons (Ar.map _)))))
theorem al6 {rs:List Ao} {r0:Ao} {r1:Ao} {r2:Ao} {r3:Ao} {r4:Ao} {r5:Ao}:Ar (SR.c r0::SR.c r1::SR.c r2::SR.c r3::SR.c r4::SR.c r5::rs.map SR.c) (r0::r1::r2::r3::r4::r5::rs):= .cons (.cons (.cons (.cons (.cons (.cons (Ar.map _))))))
theorem fo {f : FuncId} {g : Func} {c : Code} {ps : List Pr} {res : Pr} (hf : P.funcs[f]? = some g) (hb : g.body = some c) (hname : ((g.name == "runtime.NumGoroutine") = false ∧ Nat.ble ps.length g.ntmps = true))
  (h:∀M0 w0,Tr (Uj P) g.ntmps (KL 0 ps) (Bse M0 w0) c (bodyPost P g (Rc M0 w0 res))):BA P f ps res:=BA.of hf hb hname.1 (Nat.le_of_ble_eq_true hname.2) h
section
variable {M0:Av} {w0:World} {S:Nat→Prop} {rs:List SR} {KX:List X→Env→List SR→Prop}
theorem xId {l:List Oper} (h:Cx P M0 w0 S n ops l E rs KX):Cx P M0 w0 S n ops l E rs KX:=h
theorem xK (k:Nat) (_:opk o=k) (h:Cx P M0 w0 S n ops (o::r) E rs KX):Cx P M0 w0 S n ops (o::r) E rs KX:=h
theorem xG (k:Nat) (_:grp o=k) (h:Cx P M0 w0 S n ops (o::r) E rs KX):Cx P M0 w0 S n ops (o::r) E rs KX:=h
end
theorem cId {l:List Oper} (h:Ch P n I ops l E K):Ch P n I ops l E K:=h
theorem rId {c:Code} (h:Tr L n E I c Q):Tr L n E I c Q:=h
theorem fId {e:Exit} (h:Fin n E I Q e):Fin n E I Q e:=h
theorem tId {l:List Oper} (h:TO P n ops l E I Q):TO P n ops l E I Q:=h
theorem ac {G H:Prop} (k:G) (h:bR G→H:=by
 intro k
 repeat1' first
  |((with_reducible refine cId ?_);first
   |with_reducible refine Ch.nil ?_
   |(refine cP rfl ?_;first
    |(refine cS 1 rfl ?_;first
      |(refine cK 1 rfl ?_;refine cm rfl ?_)
      |(refine cK 2 rfl ?_;refine co rfl oF ?_)
      |(refine cK 3 rfl ?_;refine co rfl oL ?_)
      |(refine cK 4 rfl ?_;refine co rfl oB ?_))
    |(refine cS 2 rfl ?_;first
      |(refine cK 5 rfl ?_;refine co rfl oP ?_)
      |(refine cK 6 rfl ?_;refine co rfl oN ?_)
      |(refine cK 7 rfl ?_;refine co rfl oA ?_)
      |(refine cK 8 rfl ?_;refine co rfl oS ?_))
    |(refine cS 3 rfl ?_;first
      |(refine cK 9 rfl ?_;refine co rfl oC ?_)
      |(refine cK 10 rfl ?_;refine co rfl oU ?_)
      |(refine cK 11 rfl ?_;refine co rfl oO ?_)
      |(refine cK 12 rfl ?_;refine co rfl oE ?_)
      |(refine cK 13 rfl ?_;refine co rfl oM ?_)
      |(refine cK 14 rfl ?_;refine co rfl oD ?_)
      |(refine cK 15 rfl ?_;refine co rfl oI ?_)))
   |(refine cG rfl ?_;first
    |refine cu rfl ?_
    |refine cnt (by assumption) rfl ?_
    |refine cnf (by assumption) rfl ?_
    |(refine cS 1 rfl ?_;first
      |(refine cK 1 rfl ?_;refine Jd (by first|assumption|rfl) rfl ?_)
      |(refine cK 2 rfl ?_;refine cy (by first|assumption|rfl) rfl oF ?_)
      |(refine cK 3 rfl ?_;refine cy (by first|assumption|rfl) rfl oL ?_)
      |(refine cK 4 rfl ?_;refine cy (by first|assumption|rfl) rfl oB ?_))
    |(refine cS 2 rfl ?_;first
      |(refine cK 5 rfl ?_;refine cy (by first|assumption|rfl) rfl oP ?_)
      |(refine cK 6 rfl ?_;refine cy (by first|assumption|rfl) rfl oN ?_)
      |(refine cK 7 rfl ?_;refine cy (by first|assumption|rfl) rfl oA ?_)
      |(refine cK 8 rfl ?_;refine cy (by first|assumption|rfl) rfl oS ?_))
    |(refine cS 3 rfl ?_;first
      |(refine cK 9 rfl ?_;refine cy (by first|assumption|rfl) rfl oC ?_)
      |(refine cK 10 rfl ?_;refine cy (by first|assumption|rfl) rfl oU ?_)
      |(refine cK 11 rfl ?_;refine cy (by first|assumption|rfl) rfl oO ?_)
      |(refine cK 12 rfl ?_;refine cy (by first|assumption|rfl) rfl oE ?_)
      |(refine cK 13 rfl ?_;refine cy (by first|assumption|rfl) rfl oM ?_)
      |(refine cK 14 rfl ?_;refine cy (by first|assumption|rfl) rfl oD ?_)
      |(refine cK 15 rfl ?_;refine cy (by first|assumption|rfl) rfl oI ?_))
    |refine cnd rfl rfl ?_))
  |((with_reducible refine rId ?_);first
   |with_reducible refine Tr.seq ?_
   |with_reducible refine Tr.Ah ?_
   |refine Tr.rm (by kernel_rfl) ?_
   |with_reducible refine Tr.skip ?_
   |with_reducible refine Tr.block ?_
   |with_reducible refine Tr.ret ?_
   |with_reducible refine Tr.exit ?_
   |refine Tr.ct rfl ?_
   |refine Tr.cf rfl ?_)
  |((with_reducible refine fId ?_);first
   |with_reducible refine Fin.AD ?_
   |with_reducible refine Fin.AX ?_
   |with_reducible refine Fin.Ad ?_
   |with_reducible refine Fin.Ax ?_
   |refine Fin.OB rfl ?_
   |with_reducible refine Fin.block ?_
   |refine Fin.Jz rfl (Bc.DZ _ _) rfl ?_)
 first|with_reducible refine Fin.go ?_|with_reducible refine cId ?_|with_reducible refine tId ?_|with_reducible refine rId ?_|refine Fin.go ?_|skip
 exact k.k):H:=h ⟨k⟩
theorem ao {G H:Prop} (k:G) (h:bR G→H:=by
 intro k
 repeat1' first
  |((with_reducible refine tId ?_);first
   |with_reducible refine TO.nil ?_
   |(refine tG 1 rfl ?_;first
     |(refine tK 1 rfl ?_;refine tm rfl ?_)
     |(refine tK 2 rfl ?_;refine tp rfl oF ?_)
     |(refine tK 3 rfl ?_;refine tp rfl oL ?_)
     |(refine tK 4 rfl ?_;refine tp rfl oB ?_))
   |(refine tG 2 rfl ?_;first
     |(refine tK 5 rfl ?_;refine tp rfl oP ?_)
     |(refine tK 6 rfl ?_;refine tp rfl oN ?_)
     |(refine tK 7 rfl ?_;refine tp rfl oA ?_)
     |(refine tK 8 rfl ?_;refine tp rfl oS ?_))
   |(refine tG 3 rfl ?_;first
     |(refine tK 9 rfl ?_;refine tp rfl oC ?_)
     |(refine tK 10 rfl ?_;refine tp rfl oU ?_)
     |(refine tK 12 rfl ?_;refine tp rfl oE ?_)
     |(refine tK 13 rfl ?_;refine tp rfl oM ?_)
     |(refine tK 14 rfl ?_;refine tp rfl oD ?_)
     |(refine tK 15 rfl ?_;refine tp rfl oI ?_)))
  |((with_reducible refine rId ?_);first
   |with_reducible refine Tr.seq ?_
   |with_reducible refine Tr.An ?_
   |with_reducible refine Tr.skip ?_
   |with_reducible refine Tr.block ?_
   |with_reducible refine Tr.ret ?_
   |with_reducible refine Tr.exit ?_)
  |((with_reducible refine fId ?_);first
   |with_reducible refine Fin.AD ?_
   |with_reducible refine Fin.AX ?_
   |with_reducible refine Fin.Ad ?_
   |with_reducible refine Fin.Ax ?_
   |refine Fin.OB rfl ?_
   |with_reducible refine Fin.block ?_)
 first|with_reducible refine Fin.go ?_|with_reducible refine cId ?_|with_reducible refine tId ?_|with_reducible refine rId ?_|refine Fin.go ?_|skip
 exact k.k):H:=h ⟨k⟩
theorem ap {G H:Prop} (k:G) (h:bR G→H:=by
 intro k
 repeat1' first
  |((with_reducible refine tId ?_);first
   |with_reducible refine TO.nil ?_
   |(refine tG 1 rfl ?_;first
     |(refine tK 1 rfl ?_;refine tm rfl ?_)
     |(refine tK 2 rfl ?_;refine tp rfl oF ?_)
     |(refine tK 3 rfl ?_;refine tp rfl oL ?_)
     |(refine tK 4 rfl ?_;refine tp rfl oB ?_))
   |(refine tG 2 rfl ?_;first
     |(refine tK 5 rfl ?_;refine tp rfl oP ?_)
     |(refine tK 6 rfl ?_;refine tp rfl oN ?_)
     |(refine tK 7 rfl ?_;refine tp rfl oA ?_)
     |(refine tK 8 rfl ?_;refine tp rfl oS ?_))
   |(refine tG 3 rfl ?_;first
     |(refine tK 9 rfl ?_;refine tp rfl oC ?_)
     |(refine tK 10 rfl ?_;refine tp rfl oU ?_)
     |(refine tK 12 rfl ?_;refine tp rfl oE ?_)
     |(refine tK 13 rfl ?_;refine tp rfl oM ?_)
     |(refine tK 14 rfl ?_;refine tp rfl oD ?_)
     |(refine tK 15 rfl ?_;refine tp rfl oI ?_))
   |(refine tK 16 rfl ?_;first
    |refine sa 0 ⟨rfl,rfl,rfl⟩ rfl rfl rfl ?_
    |refine TO.Dz 0 rfl rfl (Tg rfl rfl rfl rfl) ?_
    |refine sa 1 ⟨rfl,rfl,rfl⟩ rfl rfl rfl ?_
    |refine TO.Dz 1 rfl rfl (Tg rfl rfl rfl rfl) ?_
    |refine sa 2 ⟨rfl,rfl,rfl⟩ rfl rfl rfl ?_
    |refine TO.Dz 2 rfl rfl (Tg rfl rfl rfl rfl) ?_
    |refine sa 3 ⟨rfl,rfl,rfl⟩ rfl rfl rfl ?_
    |refine TO.Dz 3 rfl rfl (Tg rfl rfl rfl rfl) ?_))
  |((with_reducible refine rId ?_);first
   |with_reducible refine Tr.seq ?_
   |with_reducible refine Tr.An ?_
   |with_reducible refine Tr.skip ?_
   |with_reducible refine Tr.block ?_
   |with_reducible refine Tr.ret ?_
   |with_reducible refine Tr.exit ?_)
  |((with_reducible refine fId ?_);first
   |with_reducible refine Fin.AD ?_
   |with_reducible refine Fin.AX ?_
   |with_reducible refine Fin.Ad ?_
   |with_reducible refine Fin.Ax ?_
   |refine Fin.OB rfl ?_
   |with_reducible refine Fin.block ?_)
 first|with_reducible refine Fin.go ?_|with_reducible refine cId ?_|with_reducible refine tId ?_|with_reducible refine rId ?_|refine Fin.go ?_|skip
 exact k.k):H:=h ⟨k⟩
theorem ax {G H:Prop} (k:G) (h:bR G→H:=by
 intro k
 repeat ((with_reducible refine xId ?_);first
   |(refine xG 1 rfl ?_;first
     |(refine xK 1 rfl ?_;refine xm rfl ?_)
     |(refine xK 2 rfl ?_;refine xo rfl (fun _=>oF) ?_)
     |(refine xK 3 rfl ?_;refine xo rfl (fun _=>oL) ?_)
     |(refine xK 4 rfl ?_;refine xo rfl (fun _=>oB) ?_))
   |(refine xG 2 rfl ?_;first
     |(refine xK 5 rfl ?_;refine xo rfl (fun _=>oP) ?_)
     |(refine xK 6 rfl ?_;refine xo rfl (fun _=>oN) ?_)
     |(refine xK 7 rfl ?_;refine xo rfl (fun _=>oA) ?_)
     |(refine xK 8 rfl ?_;refine xo rfl (fun _=>oS) ?_))
   |(refine xG 3 rfl ?_;first
     |(refine xK 9 rfl ?_;refine xo rfl (fun _=>oC) ?_)
     |(refine xK 10 rfl ?_;refine xo rfl (fun _=>oU) ?_)
     |(refine xK 11 rfl ?_;refine xo rfl (fun _=>oO) ?_)
     |(refine xK 12 rfl ?_;refine xo rfl (fun _=>oE) ?_)
     |(refine xK 13 rfl ?_;refine xo rfl (fun _=>oM) ?_)
     |(refine xK 14 rfl ?_;refine xo rfl (fun _=>oD) ?_))
   |(refine xK 3 rfl ?_;first
    |refine Iw 0 rfl rfl (KT rfl rfl rfl) ?_
    |refine Iw 0 rfl rfl (KU rfl rfl rfl rfl) ?_
    |refine Iw 1 rfl rfl (KT rfl rfl rfl) ?_
    |refine Iw 1 rfl rfl (KU rfl rfl rfl rfl) ?_
    |refine Iw 2 rfl rfl (KT rfl rfl rfl) ?_
    |refine Iw 2 rfl rfl (KU rfl rfl rfl rfl) ?_
    |refine Iw 3 rfl rfl (KT rfl rfl rfl) ?_
    |refine Iw 3 rfl rfl (KU rfl rfl rfl rfl) ?_
    |refine Iw 4 rfl rfl (KT rfl rfl rfl) ?_
    |refine Iw 4 rfl rfl (KU rfl rfl rfl rfl) ?_))
 exact k.k):H:=h ⟨k⟩
theorem ay {G H:Prop} (k:G) (h:bR G→H:=by
 intro k
 repeat ((with_reducible refine xId ?_);first
   |(refine xG 1 rfl ?_;first
     |(refine xK 1 rfl ?_;refine xm rfl ?_)
     |(refine xK 2 rfl ?_;refine xo rfl (fun _=>oF) ?_)
     |(refine xK 3 rfl ?_;refine xo rfl (fun _=>oL) ?_)
     |(refine xK 4 rfl ?_;refine xo rfl (fun _=>oB) ?_))
   |(refine xG 2 rfl ?_;first
     |(refine xK 5 rfl ?_;refine xo rfl (fun _=>oP) ?_)
     |(refine xK 6 rfl ?_;refine xo rfl (fun _=>oN) ?_)
     |(refine xK 7 rfl ?_;refine xo rfl (fun _=>oA) ?_)
     |(refine xK 8 rfl ?_;refine xo rfl (fun _=>oS) ?_))
   |(refine xG 3 rfl ?_;first
     |(refine xK 9 rfl ?_;refine xo rfl (fun _=>oC) ?_)
     |(refine xK 10 rfl ?_;refine xo rfl (fun _=>oU) ?_)
     |(refine xK 11 rfl ?_;refine xo rfl (fun _=>oO) ?_)
     |(refine xK 12 rfl ?_;refine xo rfl (fun _=>oE) ?_)
     |(refine xK 13 rfl ?_;refine xo rfl (fun _=>oM) ?_)
     |(refine xK 14 rfl ?_;refine xo rfl (fun _=>oD) ?_))
   |(refine xK 3 rfl ?_;first
    |refine Iw 0 rfl rfl (KT rfl rfl rfl) ?_
    |refine Iw 0 rfl rfl (KU rfl rfl rfl rfl) ?_
    |refine Iw 1 rfl rfl (KT rfl rfl rfl) ?_
    |refine Iw 1 rfl rfl (KU rfl rfl rfl rfl) ?_
    |refine Iw 2 rfl rfl (KT rfl rfl rfl) ?_
    |refine Iw 2 rfl rfl (KU rfl rfl rfl rfl) ?_
    |refine Iw 3 rfl rfl (KT rfl rfl rfl) ?_
    |refine Iw 3 rfl rfl (KU rfl rfl rfl rfl) ?_
    |refine Iw 4 rfl rfl (KT rfl rfl rfl) ?_
    |refine Iw 4 rfl rfl (KU rfl rfl rfl rfl) ?_)
   |(refine xK 16 rfl ?_;first
    |refine Cx.Dz 0 rfl rfl (Tg rfl rfl rfl rfl) ?_
    |refine Cx.Dz 1 rfl rfl (Tg rfl rfl rfl rfl) ?_
    |refine Cx.Dz 2 rfl rfl (Tg rfl rfl rfl rfl) ?_
    |refine Cx.Dz 3 rfl rfl (Tg rfl rfl rfl rfl) ?_))
 exact k.k):H:=h ⟨k⟩
theorem Ch.cg {l:List Oper} {b v:Bool} {g j:Nat} {pt pf:Prop} [ht:D_ b true pt] [hf:D_ b false pf] (_:o.guard=some (j,v)) (_:(ops[j]?.bind (·.dst))=some g) (hb:E.lookup g=some (bool b)) (k:b=true→pt→Ch P n I ops (o::l) E K) (k':b=false→pf→Ch P n I ops (o::l) E K):Ch P n I ops (o::l) E K:=Ch.cases g hb (fun h=>k h (ht.Eo h)) (fun h=>k' h (hf.Eo h))
theorem a2 {G H:Prop} (k:G) (h:bR G→H:=by
 intro k
 iterate 2 refine ac ?_
 exact k.k):H:=h ⟨k⟩
theorem a3 {G H:Prop} (k:G) (h:bR G→H:=by
 intro k
 iterate 3 refine ac ?_
 exact k.k):H:=h ⟨k⟩
theorem an {G L H:Prop} (k:G) (l:L) (h:bR G→bR L→H:=by
 intro k l
 refine ac ?_
 refine Tr.cn rfl ?_ ?_
 exact k.k
 exact l.k):H:=h ⟨k⟩ ⟨l⟩
theorem ag {G L H:Prop} (k:G) (l:L) (h:bR G→bR L→H:=by
 intro k l
 refine ac ?_
 refine Ch.cg rfl rfl rfl ?_ ?_
 exact k.k
 exact l.k):H:=h ⟨k⟩ ⟨l⟩
theorem Lr {p:Pr}:Pr.le p p:=Pr.le_refl p
theorem Vo {p:Pr} [One p] (h:C6 E x=some p):VL E x (DR [p]):=VL.le (vl h) (Ae p)
theorem Va {ps:List Pr} (h:C6 E x=some (agg ps)):VL E x (DR ps):=VL.le (vl h) (AZ ps)
theorem Nb {a b:Nat} (h:Nat.ble a b=true):a≤b:=Nat.le_of_ble_eq_true h
theorem Kf {z:Nat} {l:List (List Pr)} (h:C6 E x=some (full z l)):VL E x (slice z l):=⟨_,h,Bq z l⟩
theorem Ka {v:Value} (h:C6 E x=some (Ag v p)):VL E x (is v):=⟨_,h,Fw v p⟩
theorem Kb {v:Value} (h:C6 E x=some (Ag v p)):VL E x p:=⟨_,h,Ak v p⟩
theorem Tl {M0:Av} {w0:World} {S:Nat→Prop} {rs:List Ao} {T:TypeId} {zs:List Value} (hg:o.guard=none) (hd:o.dst=some d) (hn:Nat.blt d n=true) (ho:o.op= .alloc T) (hz:BL P T=some zs) (h1':zs.all (·.oneCell')=true)
  (k:∀b,TO P n ops r ((d,is (.pointer (some ⟨b,0,none⟩)))::E) (Hp M0 w0 S (AB true b T (zs.map is)::rs)) Q):TO P n ops (o::r) E (Hp M0 w0 S rs) Q:=TO.alloc hg hd (HB hn) ho hz h1' k
theorem Bt {M0:Av} {w0:World} {S:Nat→Prop} {t e:TypeId} {sz bytes:Nat} {zs:List Value} {rows rows':List (List Pr)} {R:SR} (hg:o.guard=none) (hd:o.dst=some d) (hn:Nat.blt d n=true) (ho:o.op= .call { callee:= .builtin .append,args:= #[x,y],argTypes:= #[t,t] })
  (ht:P.underlying t=some (.slice e)) (hz:Ay P e=some sz) (hby:Bk P e=some bytes) (EM:BL P e=some zs) (hx:VL E x (slice sz rows)) (hy:VL E y (slice sz rows'))
  (hR:∀M w (a:Act),CL M w E o a→R.at_ a=Aq e sz (a.eval x)∨(R.at_ a=Bp∧C_ (a.eval x)=none)) (hzl:zs.length=sz:=by rfl) (hsz:Nat.blt 0 sz=true:=by rfl)
  (Fv:rows.length+rows'.length≤maxLen:=by simp only [List.length_map,List.length_append,List.length_cons,List.length_nil,List.length_replicate,List.length_take,List.length_drop];unfold maxLen;omega) (hfit:(rows.length+rows'.length)*bytes≤140737488355328:=by simp only [List.length_map,List.length_append,List.length_cons,List.length_nil,List.length_replicate,List.length_take,List.length_drop];omega):DI P M0 w0 S n j R ⟨d,Aq e sz⟩ o E (slice sz (rows++rows')):=D7 hg hd (HB hn) ho ht hz hby EM hzl (HB hsz) hx hy Fv hfit hR
end
end Cp
namespace Go.Proofs.YtkobgkelhcigdaaGreatDoor
open Go Cp
instance xT:TM Tryz.prog:=⟨mixed⟩
instance ABv:TV Tryz.prog 3 [.int .i64 0]:=⟨z3,zo3⟩
instance zn:T1 Tryz.prog 3:=⟨Cz⟩
instance ABT:TZ Tryz.prog 3 1:=⟨B4⟩
instance zo:T1 Tryz.prog 4:=⟨YR⟩
instance ABU:TZ Tryz.prog 4 1:=⟨S1⟩
instance gQ:TU Tryz.prog 4 .bool:=⟨Tryz.underlying4⟩
instance ABw:TV Tryz.prog 5 [.int .u8 0]:=⟨z5,zo5⟩
instance zq:T1 Tryz.prog 5:=⟨tN⟩
instance ABV:TZ Tryz.prog 5 1:=⟨L1⟩
instance ABx:TV Tryz.prog 9 [.string (ByteArray.mk #[])]:=⟨z9,zo9⟩
instance zu:T1 Tryz.prog 9:=⟨NP⟩
instance ABW:TZ Tryz.prog 9 1:=⟨NO⟩
instance gR:TU Tryz.prog 9 .string:=⟨Tryz.underlying9⟩
instance xU:T1 Tryz.prog 22:=⟨Qn⟩
instance zv:TZ Tryz.prog 22 1:=⟨MC⟩
instance bS:TU Tryz.prog 22 (.slice 3):=⟨Tryz.underlying22⟩
instance xV:T1 Tryz.prog 27:=⟨Qo⟩
instance bT:TU Tryz.prog 27 (.slice 79):=⟨Tryz.underlying27⟩
instance xW:T1 Tryz.prog 28:=⟨Wr⟩
instance bU:TU Tryz.prog 28 (.slice 88):=⟨Tryz.underlying28⟩
instance xX:T1 Tryz.prog 29:=⟨aV⟩
instance bV:TU Tryz.prog 29 (.slice 91):=⟨Tryz.underlying29⟩
instance zw:TB Tryz.prog 31 (fun i=>(#[(0,1),(1,1),(2,1)]:Array (Nat×Nat))[i]?) (List.replicate 3 (.slice none 0 0)):=⟨tP,HR⟩
instance xY:TA Tryz.prog 31:=⟨C8⟩
instance zx:TZ Tryz.prog 31 3:=⟨C7⟩
instance ud:TF Tryz.prog 31 0 0:=⟨Hw⟩
instance ue:TF Tryz.prog 31 1 1:=⟨MD⟩
instance uf:TF Tryz.prog 31 2 2:=⟨ME⟩
instance xZ:T1 Tryz.prog 32:=⟨mE⟩
instance bW:TU Tryz.prog 32 (.slice 96):=⟨Tryz.underlying32⟩
instance xd:T1 Tryz.prog 33:=⟨mF⟩
instance bX:TU Tryz.prog 33 (.slice 117):=⟨Tryz.underlying33⟩
instance zy:TB Tryz.prog 35 (fun i=>(#[(0,1),(1,1),(2,1)]:Array (Nat×Nat))[i]?) (List.replicate 3 (.slice none 0 0)):=⟨MF,FF⟩
instance xe:TA Tryz.prog 35:=⟨CY⟩
instance zz:TZ Tryz.prog 35 3:=⟨B5⟩
instance ug:TF Tryz.prog 35 0 0:=⟨Uz⟩
instance uh:TF Tryz.prog 35 1 1:=⟨aW⟩
instance uj:TF Tryz.prog 35 2 2:=⟨U0⟩
instance ABX:TV Tryz.prog 38 [.slice none 0 0]:=⟨z38,tQ⟩
instance xg:T1 Tryz.prog 38:=⟨Ws⟩
instance z7:TZ Tryz.prog 38 1:=⟨F9⟩
instance bY:TU Tryz.prog 38 (.slice 3):=⟨Tryz.underlying38⟩
instance xh:T1 Tryz.prog 39:=⟨tR⟩
instance z8:TB Tryz.prog 48 (fun i=>(#[(0,1),(1,1)]:Array (Nat×Nat))[i]?) [.slice none 0 0,.int .i64 0]:=⟨y_,zA⟩
instance uk:TF Tryz.prog 48 0 0:=⟨nw⟩
instance um:TF Tryz.prog 48 1 1:=⟨n5⟩
instance xj:T1 Tryz.prog 51:=⟨tS⟩
instance bZ:TU Tryz.prog 51 (.slice 190):=⟨Tryz.underlying51⟩
instance z_:TB Tryz.prog 53 (fun i=>(#[(0,1)]:Array (Nat×Nat))[i]?) [.slice none 0 0]:=⟨NQ,F_⟩
instance xl:TA Tryz.prog 53:=⟨Cu⟩
instance AAA:TZ Tryz.prog 53 1:=⟨CJ⟩
instance uo:TF Tryz.prog 53 0 0:=⟨aX⟩
instance xp:T1 Tryz.prog 56:=⟨tT⟩
instance bf:TU Tryz.prog 56 (.slice 114):=⟨Tryz.underlying56⟩
instance xq:TA Tryz.prog 58:=⟨Mt⟩
instance AAB:TZ Tryz.prog 58 3:=⟨TN⟩
instance uq:TF Tryz.prog 58 0 0:=⟨n7⟩
instance ur:TF Tryz.prog 58 1 1:=⟨n8⟩
instance uu:TF Tryz.prog 58 2 2:=⟨n9⟩
instance xu:T1 Tryz.prog 60:=⟨aY⟩
instance xw:TA Tryz.prog 63:=⟨Qp⟩
instance AAC:TZ Tryz.prog 63 2:=⟨YS⟩
instance uv:TF Tryz.prog 63 0 0:=⟨U1⟩
instance xx:TA Tryz.prog 65:=⟨TP⟩
instance AAD:TZ Tryz.prog 65 2:=⟨aa⟩
instance xy:T1 Tryz.prog 75:=⟨tV⟩
instance AAE:TZ Tryz.prog 75 1:=⟨zH⟩
instance bg:TU Tryz.prog 75 (.slice 9):=⟨Tryz.underlying75⟩
instance bh:TU Tryz.prog 76 (.slice 22):=⟨Tryz.underlying76⟩
instance xz:T1 Tryz.prog 77:=⟨mH⟩
instance AAF:TZ Tryz.prog 77 1:=⟨af⟩
instance bk:TU Tryz.prog 77 (.slice 84):=⟨Tryz.underlying77⟩
instance AAG:TB Tryz.prog 79 (fun i=>(#[(0,1),(1,1),(2,1),(3,1),(4,1),(5,1),(6,1),(7,1),(8,1)]:Array (Nat×Nat))[i]?) [.string (ByteArray.mk #[]),.int .i64 0,.int .i64 0,.slice none 0 0,.bool false,.slice none 0 0,.slice none 0 0,.slice none 0 0,.bool false]:=⟨iF,Hx⟩
instance x5:TA Tryz.prog 79:=⟨Cg⟩
instance AAH:TZ Tryz.prog 79 9:=⟨B_⟩
instance uw:TF Tryz.prog 79 0 0:=⟨ah⟩
instance ux:TF Tryz.prog 79 1 1:=⟨oG⟩
instance uy:TF Tryz.prog 79 2 2:=⟨U2⟩
instance uz:TF Tryz.prog 79 3 3:=⟨MG⟩
instance u5:TF Tryz.prog 79 4 4:=⟨oH⟩
instance u6:TF Tryz.prog 79 5 5:=⟨OS⟩
instance u7:TF Tryz.prog 79 6 6:=⟨aj⟩
instance u9:TF Tryz.prog 79 7 7:=⟨ak⟩
instance u_:TF Tryz.prog 79 8 8:=⟨oJ⟩
instance AAI:TB Tryz.prog 81 (fun i=>(#[(0,1),(1,1)]:Array (Nat×Nat))[i]?) (List.replicate 2 (.int .i64 0)):=⟨oK,EA⟩
instance ABY:TV Tryz.prog 81 (List.replicate 2 (.int .i64 0)):=⟨Jg,EA⟩
instance x6:TA Tryz.prog 81:=⟨Ia⟩
instance AAJ:TZ Tryz.prog 81 2:=⟨J1⟩
instance vA:TF Tryz.prog 81 0 0:=⟨oQ⟩
instance vB:TF Tryz.prog 81 1 1:=⟨oV⟩
instance x7:T1 Tryz.prog 82:=⟨tW⟩
instance AAK:TZ Tryz.prog 82 1:=⟨zI⟩
instance bl:TU Tryz.prog 82 (.slice 126):=⟨Tryz.underlying82⟩
instance AAL:TB Tryz.prog 84 (fun i=>(#[(0,2),(2,1),(3,1)]:Array (Nat×Nat))[i]?) [.int .i64 0,.int .i64 0,.int .i64 0,.slice none 0 0]:=⟨tX,U3⟩
instance x8:TA Tryz.prog 84:=⟨TQ⟩
instance AAM:TZ Tryz.prog 84 4:=⟨FZ⟩
instance vC:TF Tryz.prog 84 0 0:=⟨oW⟩
instance vD:TF Tryz.prog 84 1 2:=⟨oX⟩
instance vE:TF Tryz.prog 84 2 3:=⟨oY⟩
instance yA:TA Tryz.prog 88:=⟨TR⟩
instance AAN:TZ Tryz.prog 88 2:=⟨Gj⟩
instance vF:TF Tryz.prog 88 0 0:=⟨oa⟩
instance vG:TF Tryz.prog 88 1 1:=⟨og⟩
instance yB:T1 Tryz.prog 89:=⟨tg⟩
instance bn:TU Tryz.prog 89 (.slice 131):=⟨Tryz.underlying89⟩
instance AAO:TB Tryz.prog 91 (fun i=>(#[(0,1),(1,1),(2,1),(3,1),(4,1)]:Array (Nat×Nat))[i]?) [.string (ByteArray.mk #[]),.int .i64 0,.int .i64 0,.slice none 0 0,.int .i64 0]:=⟨zJ,au⟩
instance ABZ:TV Tryz.prog 91 [.string (ByteArray.mk #[]),.int .i64 0,.int .i64 0,.slice none 0 0,.int .i64 0]:=⟨z91,au⟩
instance yC:TA Tryz.prog 91:=⟨Wt⟩
instance AAP:TZ Tryz.prog 91 5:=⟨LK⟩
instance vH:TF Tryz.prog 91 0 0:=⟨om⟩
instance vI:TF Tryz.prog 91 1 1:=⟨oo⟩
instance vJ:TF Tryz.prog 91 2 2:=⟨oq⟩
instance vK:TF Tryz.prog 91 3 3:=⟨U5⟩
instance vL:TF Tryz.prog 91 4 4:=⟨ot⟩
instance yD:TA Tryz.prog 96:=⟨Ib⟩
instance AAQ:TZ Tryz.prog 96 8:=⟨Di⟩
instance vM:TF Tryz.prog 96 0 0:=⟨ow⟩
instance vN:TF Tryz.prog 96 1 1:=⟨ox⟩
instance vO:TF Tryz.prog 96 2 2:=⟨oy⟩
instance vP:TF Tryz.prog 96 3 3:=⟨oz⟩
instance vQ:TF Tryz.prog 96 4 4:=⟨o9⟩
instance yE:TB Tryz.prog 112 (fun i=>(#[(0,1),(1,1)]:Array (Nat×Nat))[i]?) (List.replicate 2 (.int .i64 0)):=⟨th,tj⟩
instance ru:TF Tryz.prog 112 0 0:=⟨iG⟩
instance ry:TF Tryz.prog 112 1 1:=⟨iH⟩
instance AAR:TV Tryz.prog 114 [.int .i64 0,.int .i64 0,.slice none 0 0]:=⟨YV,OU⟩
instance yF:TZ Tryz.prog 114 3:=⟨HS⟩
instance rz:TF Tryz.prog 114 0 0:=⟨iI⟩
instance r6:TF Tryz.prog 114 1 2:=⟨iJ⟩
instance yG:TB Tryz.prog 117 (fun i=>(#[(0,1),(1,1)]:Array (Nat×Nat))[i]?) (List.replicate 2 (.int .i64 0)):=⟨mI,Iz⟩
instance AAS:TV Tryz.prog 117 (List.replicate 2 (.int .i64 0)):=⟨z117,Iz⟩
instance vR:TA Tryz.prog 117:=⟨Dt⟩
instance yH:TZ Tryz.prog 117 2:=⟨Bl⟩
instance r7:TF Tryz.prog 117 0 0:=⟨Rp⟩
instance r8:TF Tryz.prog 117 1 1:=⟨Rr⟩
instance vS:TA Tryz.prog 124:=⟨o_⟩
instance yI:TZ Tryz.prog 124 2:=⟨av⟩
instance r9:TF Tryz.prog 124 0 0:=⟨iK⟩
instance r_:TF Tryz.prog 124 1 1:=⟨iL⟩
instance AAT:TV Tryz.prog 126 [.int .i64 0,.string (ByteArray.mk #[]),.string (ByteArray.mk #[]),.int .i64 0,.int .i64 0,.int .i64 0,.int .i64 0,.int .i64 0,.int .i64 0,.int .i64 0,.bool false,.int .i64 0,.slice none 0 0,.int .i64 0,.int .i64 0]:=⟨U7,OV⟩
instance vT:TA Tryz.prog 126:=⟨HD⟩
instance yJ:TZ Tryz.prog 126 15:=⟨EH⟩
instance sA:TF Tryz.prog 126 0 0:=⟨iM⟩
instance sB:TF Tryz.prog 126 1 1:=⟨iN⟩
instance pS:TF Tryz.prog 126 10 12:=⟨az⟩
instance pT:TF Tryz.prog 126 11 13:=⟨OW⟩
instance sC:TF Tryz.prog 126 2 2:=⟨iO⟩
instance sD:TF Tryz.prog 126 3 3:=⟨iP⟩
instance sE:TF Tryz.prog 126 4 5:=⟨iQ⟩
instance sF:TF Tryz.prog 126 5 6:=⟨iR⟩
instance sG:TF Tryz.prog 126 6 8:=⟨iS⟩
instance sH:TF Tryz.prog 126 7 9:=⟨iT⟩
instance sI:TF Tryz.prog 126 8 10:=⟨iU⟩
instance sJ:TF Tryz.prog 126 9 11:=⟨iV⟩
instance Zw:TU Tryz.prog 129 (.slice 81):=⟨Tryz.underlying129⟩
instance yK:TB Tryz.prog 131 (fun i=>(#[(0,2),(2,1)]:Array (Nat×Nat))[i]?) (List.replicate 3 (.int .i64 0)):=⟨t_,mM⟩
instance AAU:TV Tryz.prog 131 (List.replicate 3 (.int .i64 0)):=⟨z131,mM⟩
instance yL:TZ Tryz.prog 131 3:=⟨I2⟩
instance sK:TF Tryz.prog 131 0 0:=⟨iW⟩
instance sL:TF Tryz.prog 131 1 2:=⟨iX⟩
instance vU:T1 Tryz.prog 146:=⟨pE⟩
instance vV:T1 Tryz.prog 153:=⟨Fa⟩
instance vW:T1 Tryz.prog 158:=⟨I3⟩
instance Zx:TU Tryz.prog 158 (.slice 153):=⟨Tryz.underlying158⟩
instance sM:TF Tryz.prog 160 0 0:=⟨iY⟩
instance sN:TF Tryz.prog 160 1 1:=⟨Hy⟩
instance vX:T1 Tryz.prog 166:=⟨a_⟩
instance Zy:TU Tryz.prog 166 (.slice 5):=⟨Tryz.underlying166⟩
instance yM:TB Tryz.prog 172 (fun i=>(#[(0,1),(1,1),(2,2),(4,2),(6,2),(8,2),(10,1),(11,1)]:Array (Nat×Nat))[i]?) [.int .i64 0,.string (ByteArray.mk #[]),.int .i64 0,.int .i64 0,.int .i64 0,.int .i64 0,.int .i64 0,.int .i64 0,.int .i64 0,.int .i64 0,.int .i64 0,.int .i64 0]:=⟨TS,HT⟩
instance vY:TA Tryz.prog 172:=⟨Hz⟩
instance yN:TZ Tryz.prog 172 12:=⟨FL⟩
instance sO:TF Tryz.prog 172 2 2:=⟨ia⟩
instance sP:TF Tryz.prog 172 3 4:=⟨ig⟩
instance sQ:TF Tryz.prog 172 4 6:=⟨ij⟩
instance sS:TF Tryz.prog 172 5 8:=⟨iq⟩
instance sU:TF Tryz.prog 172 6 10:=⟨ir⟩
instance sV:TF Tryz.prog 172 7 11:=⟨iw⟩
instance yO:TB Tryz.prog 188 (fun i=>(#[(0,1),(1,1)]:Array (Nat×Nat))[i]?) (List.replicate 2 (.int .i64 0)):=⟨Qq,E_⟩
instance AAV:TV Tryz.prog 188 (List.replicate 2 (.int .i64 0)):=⟨Io,E_⟩
instance vZ:TA Tryz.prog 188:=⟨Cf⟩
instance yP:TZ Tryz.prog 188 2:=⟨Bu⟩
instance sW:TF Tryz.prog 188 1 1:=⟨iy⟩
instance yQ:TB Tryz.prog 190 (fun i=>(#[(0,1),(1,1),(2,2)]:Array (Nat×Nat))[i]?) [.int .i64 0,.slice none 0 0,.int .i64 0,.int .i64 0]:=⟨Wv,OX⟩
instance AAW:TV Tryz.prog 190 [.int .i64 0,.slice none 0 0,.int .i64 0,.int .i64 0]:=⟨iz,OX⟩
instance yR:TZ Tryz.prog 190 4:=⟨FM⟩
instance Zz:TU Tryz.prog 194 (.slice 197):=⟨Tryz.underlying194⟩
instance AAX:TV Tryz.prog 197 [.slice none 0 0]:=⟨uI,uH⟩
instance vc:T1 Tryz.prog 197:=⟨pF⟩
instance yS:TZ Tryz.prog 197 1:=⟨Ww⟩
instance Z0:TU Tryz.prog 197 (.slice 38):=⟨Tryz.underlying197⟩
instance ve:T1 Tryz.prog 209:=⟨Rs⟩
instance yT:TB Tryz.prog 211 (fun i=>(#[(0,1),(1,1),(2,1),(3,1)]:Array (Nat×Nat))[i]?) [.int .i64 0,.slice none 0 0,.bool false,.slice none 0 0]:=⟨bA,KA⟩
instance vg:TA Tryz.prog 211:=⟨C0⟩
instance yU:TZ Tryz.prog 211 4:=⟨CN⟩
instance sX:TF Tryz.prog 211 0 0:=⟨i6⟩
instance sY:TF Tryz.prog 211 1 1:=⟨Rt⟩
instance sZ:TF Tryz.prog 211 2 2:=⟨i7⟩
instance sj:TF Tryz.prog 211 3 3:=⟨LN⟩
instance yV:TB Tryz.prog 216 (fun i=>(#[(0,1),(1,1)]:Array (Nat×Nat))[i]?) [.string (ByteArray.mk #[]),.int .i64 0]:=⟨uK,mQ⟩
instance AAY:TV Tryz.prog 216 [.string (ByteArray.mk #[]),.int .i64 0]:=⟨zL,mQ⟩
instance yW:TZ Tryz.prog 216 2:=⟨mP⟩
instance sk:TF Tryz.prog 216 1 1:=⟨i9⟩
instance Z1:TU Tryz.prog 217 (.slice 216):=⟨Tryz.underlying217⟩
instance Z2:TU Tryz.prog 256 (.slice 188):=⟨Tryz.underlying256⟩
end Go.Proofs.YtkobgkelhcigdaaGreatDoor
namespace Go.Proofs.YtkobgkelhcigdaaGreatDoor
open Go Go.RowKit Cp Go.Proofs.Tryz
abbrev C1 (b:Nat) (s:DS):Ao:=TI 48 b s
theorem jJ (n:Int) {k:Int} (hk:1≤k):(n.tmod k+k).tmod k=n % k:=by
 have h1: -k<n.tmod k:=by have:=Int.lt_tmod_of_pos n (b:=k) (by omega);omega
 rw [Int.tmod_eq_emod_of_nonneg (by omega),Int.tmod_def,show n-k*n.tdiv k+k=n+k*(1-n.tdiv k) by rw [Int.mul_sub];omega,Int.add_mul_emod_self_left]
theorem pU (n:Int) {k:Int} (hk:1≤k): -k<n.tmod k∧n.tmod k<k:=by
 have h1:=Int.lt_tmod_of_pos n (b:=k) (by omega)
 have h2:=Int.tmod_lt_of_pos n (b:=k) (by omega)
 omega
theorem jK {l:List Int}  :BA prog 4 [ints l] (bool (decide (l.length≤400))):=by
 refine fo func4 rfl ⟨rfl,rfl⟩ fun M0 w0=> ?_
 refine a3 ?_
 · refine bool_eq ?_;simp_all;omega
theorem vh {n k:Int} (hk:1≤k) (hk2:k≤1000000000):BA prog 22 [int n,int k] (int (n % k)):=by
 refine fo func22 rfl ⟨rfl,rfl⟩ fun M0 w0=> ?_
 have hm:=pU n hk
 have hp:=jJ n hk
 · repeat' first|(exfalso;omega)|(refine int_eq ?_;exact hp)|refine co rfl (Rd rfl (vl rfl) (vl rfl) (by omega)) ?_|refine ac ?_|(refine Tr.cn rfl ?_ ?_<;>intro h q)
theorem CE {b:Nat} {s:DS} {n:Int} (hn:1≤n) (hn2:n≤1000000000):CX prog 11 [ptr b 0,int n] (int (s.val n)) (C1 b s) (fun _=>C1 b s.CM):=by
 refine CX.of func11 rfl rfl (by exact Nb rfl) fun M0 w0 S rs M1 w1=> ?_
 have hs:=s.h
 have R9:=s.h2
 refine ac ?_
 refine an ?_ ?_<;>intro h1 q1
 refine ac ?_
 refine Tr.ret (Fin.AD ?_)
 rw [DS.iD (s:=s) (by omega)]
 refine Fin.Fy [] rfl (AO.tmp rfl (Lr)) ?_ (fun _ _ _ _=>rfl)
 · refine int_eq ?_;exact (DS.iC (by omega) n).symm
 have hlt:s.at_<s.l.length:=by omega
 obtain ⟨x,hx⟩:=at_ hlt
 refine ac ?_
 refine ap ?_
 refine Cc 0 1 rfl ?_
 refine ac ?_
 refine co rfl (AA rfl underlying22 B4 (vl rfl) (vl rfl) (by omega) (by rw [show ((s.at_:Nat):Int)+1-1=((s.at_:Nat):Int) by omega];exact AP hx)) ?_
 refine ac ?_
 refine co rfl (CF (vh (by omega) (by omega)) rfl rfl rfl) ?_
 refine ac ?_
 refine FX 4 rfl (Tr.ret ?_)
 rw [DS.nq hlt]
 refine Fin.Fy [] rfl (AO.tmp rfl (Lr)) ?_ (fun _ _ _ _=>rfl)
 · refine int_eq ?_;exact (DS.nk hx n).symm
theorem Th {b:Nat} {s:DS} {l:List Int} (hl:l≠[]) (mR:l.length≤1000000000):CX prog 18 [ptr b 0,ints l] (int (s.of l)) (C1 b s) (fun _=>C1 b s.CM):=by
 refine CX.of func18 rfl rfl (by exact Nb rfl) fun M0 w0 S rs M1 w1=> ?_
 have hl0:1≤(l.length:Int):=by have:=List.length_pos_iff.2 hl;omega
 have hv:=s.Ci hl0
 obtain ⟨x,hx⟩:=at_ (l:=l) (k:=(s.val l.length).toNat) (by omega)
 refine ac ?_
 refine ap ?_
 refine TO.Jc 0 rfl rfl (by decide) (As rfl rfl (by decide) rfl (CE (by omega) (by omega)) ⟨ke rfl,ke rfl,trivial⟩) (tp rfl (AA rfl underlying22 B4 (vl rfl) (vl rfl) (by omega) (BS hx)) ?_)
 refine ap ?_
 refine Tr.ret (Fin.Fy [] rfl (AO.tmp rfl (Lr)) ?_ (fun _ _ _ _=>rfl))
 · refine int_eq ?_;unfold DS.of;rw [hx];rfl
theorem bp {b:Nat} {s:DS} {n:Int} (hn:1≤n) (hn2:n≤1000000000):CX prog 26 [ptr b 0,int n] (bool (s.val n==n-1)) (C1 b s) (fun _=>C1 b s.CM):=by
 refine CX.of func26 rfl rfl (by exact Nb rfl) fun M0 w0 S rs M1 w1=> ?_
 refine ac ?_
 refine ap ?_
 refine TO.Jc 0 rfl rfl (by decide) (As rfl rfl (by decide) rfl (CE (by omega) (by omega)) ⟨ke rfl,ke rfl,trivial⟩) ?_
 refine ap ?_
 refine Tr.ret (Fin.Fy [] rfl (AO.tmp rfl (Lr)) ?_ (fun _ _ _ _=>rfl))
 · exact Lr
def jL (l:List Int) (hl:l.length≤1000000000) (v:Value):Ao:=match v with| .pointer (some a)=>TI 48 a.block ⟨l,0,Nat.zero_le _,hl⟩|_=>Bp
theorem pV {l:List Int} (hl:l.length≤1000000000):CX prog 6 [ints l] (ex fun b=>ptr b 0) (Bp) (jL l hl):=by
 refine CX.of func6 rfl rfl (by exact Nb rfl) fun M0 w0 S rs M1 w1=> ?_
 refine ac ?_
 refine ap ?_
 refine TO.aH rfl rfl (by decide) rfl (Va rfl) (fun b1=> ?_)
 refine ap ?_
 refine Tr.ret (Fin.drop 1 ?_)
 refine Fin.Fy [] rfl (AO.tmp rfl (Lr)) ?_ (by rintro _ _ _ rfl;rfl)
 · exact AJ b1 (Lr)
-- no type cipherplan/api.Fact here
-- no type cipherplan/api.yX here
-- no type cipherplan/ABa.place here
theorem mZ {d:Nat} {w:World} {x0 y0:Int} {x1 y1:Int}:(Op.equalIn (d+2) 81 (.agg #[.int .i64 x0,.int .i64 x1]) (.agg #[.int .i64 y0,.int .i64 y1])).run Tryz.prog w= .ok (decide (x0=y0∧x1=y1)) w:=by
 have h:=eqS (w:=w) (d:=d+1) (xs:= #[.int .i64 x0,.int .i64 x1]) (ys:= #[.int .i64 y0,.int .i64 y1]) Tryz.underlying81 (by kernel_rfl) (Em (by decide) (Bv Cz rfl) (Bv Cz rfl) (Fq (d:=d+0) Tryz.underlying3) (Em (by decide) (Bv Cz rfl) (Bv Cz rfl) (Fq (d:=d+0) Tryz.underlying3) (LO)))
 refine h.trans (congrArg (fun b=>Result.ok b w) ?_)
 rw [Bool.eq_iff_iff];simp [and_assoc]
theorem jM {E:Env} {I:CU} {o:Oper} {u:TypeId} {x y:Operand} {x0 y0:Int} {x1 y1:Int} (ho:o.op= .binOp .eql 81 x y u) (hx:VL E x (agg [is (.int .i64 x0),is (.int .i64 x1)])) (hy:VL E y (agg [is (.int .i64 y0),is (.int .i64 y1)])):Aa Tryz.prog I o E (bool (decide (x0=y0∧x1=y1))):=
 Ob [.int .i64 x0,.int .i64 x1] [.int .i64 y0,.int .i64 y1] ho hx hy (by kernel_rfl) (fun w=>by rw [show Op.equal 81 _ _=Op.equalIn (9998+2) 81 _ _ from rfl];exact mZ)
theorem Nd {E:Env} {I:CU} {o:Oper} {u:TypeId} {x y:Operand} {x0 y0:Int} {x1 y1:Int} (ho:o.op= .binOp .neq 81 x y u) (hx:VL E x (agg [is (.int .i64 x0),is (.int .i64 x1)])) (hy:VL E y (agg [is (.int .i64 y0),is (.int .i64 y1)])):Aa Tryz.prog I o E (bool (!decide (x0=y0∧x1=y1))):=
 Oc [.int .i64 x0,.int .i64 x1] [.int .i64 y0,.int .i64 y1] ho hx hy (by kernel_rfl) (fun w=>by rw [show Op.equal 81 _ _=Op.equalIn (9998+2) 81 _ _ from rfl];exact mZ)
def VG (a b:Int):Int:=if a<b then -1 else if b<a then 1 else 0
def orF (l:List Int):Int:=(l.find? fun x=>x !=0).getD 0
theorem jN {l:List Int} {k:Nat} {x:Int} (hx:l[k]? =some x) (h0:¬x=0) (h:∀j y,j<k→l[j]? =some y→(y !=0)=false):x=orF l:=by
 unfold orF
 have:l.find? (fun x=>x !=0)=some x:=by
  rw [List.find?_eq_some_iff_getElem]
  have hk:k<l.length:=by rcases Nat.lt_or_ge k l.length with h|h;exact h;rw [List.getElem?_eq_none h] at hx;cases hx
  rw [List.getElem?_eq_getElem hk] at hx
  simp only [Option.some.injEq] at hx
  refine ⟨by simpa using h0,k,hk,hx,fun j hj=> ?_⟩
  have:=h j _ hj (List.getElem?_eq_getElem (by omega))
  simpa using this
 rw [this];rfl
theorem bq {l:List Int} (h:∀j y,j<l.length→l[j]? =some y→(y !=0)=false):0=orF l:=by
 unfold orF
 have:l.find? (fun x=>x !=0)=none:=by
  rw [List.find?_eq_none]
  intro x hx
  obtain ⟨j,hj,rfl⟩:=List.mem_iff_getElem.1 hx
  have:=h j _ hj (List.getElem?_eq_getElem hj)
  simpa using this
 rw [this];rfl
def okc (c:UInt8):Bool:=decide (33≤c.toNat∧c.toNat≤126)
def named (s:List UInt8):Bool:=s.all okc&&decide (1≤s.length∧s.length≤32)
theorem R_ {β:Type} {p:β→Bool} {l:List β} {k:Nat} {x:β} (hx:l[k]? =some x) (hp:p x=false):l.all p=false:=by
 rw [Bool.eq_false_iff];intro h;rw [List.all_eq_true] at h;rw [h x (List.mem_of_getElem? hx)] at hp;cases hp
theorem LU {β:Type} {p:β→Bool} {l:List β} (h:∀j y,j<l.length→l[j]? =some y→(!p y)=false):l.all p=true:=by
 rw [List.all_eq_true]
 intro y hy
 obtain ⟨j,hj⟩:=List.mem_iff_getElem?.1 hy
 have:=h j y (by rcases Nat.lt_or_ge j l.length with h|h;exact h;rw [List.getElem?_eq_none h] at hj;cases hj) hj
 simpa using this
theorem bt {n:Int}  :BA prog 145 [int n] (bool false):=by
 refine fo func145 rfl ⟨rfl,rfl⟩ fun M0 w0=> ?_
 refine a3 ?_
 · exact bool_eq (by simp)
theorem bu {a b:Int}  :BA prog 115 [int a,int b] (int (VG a b)):=by
 refine fo func115 rfl ⟨rfl,rfl⟩ fun M0 w0=> ?_
 · repeat' first|exact absurd h (by decide)|(refine int_eq ?_;unfold VG;(repeat split)<;>omega)|refine co rfl (Cq (bt) rfl rfl) ?_|refine ac ?_|(refine Tr.cn rfl ?_ ?_<;>intro h q)
theorem vi {l:List Int}  :BA prog 114 [ints l] (int (orF l)):=by
 refine fo func114 rfl ⟨rfl,rfl⟩ fun M0 w0=>(Tr.Cv 0 rfl fun Ew=> ?_)
 refine a3 ?_
 refine Tr.block (Tr.A9 [(3,_),(6,_),(7,_)] (L_ rfl) (fun k:Nat=>[(8,int ((k:Nat):Int))]) (fun k:Nat=>k≤(l).length∧(∀j y,j<k→l[j]? =some y→(y !=0)=false)) (fun k:Nat=>(l).length-k) 0 (⟨Nat.zero_le _,fun j y hj=>absurd hj (by omega)⟩) ⟨ke rfl,trivial⟩ ?_)
 rintro k ⟨BP,AW⟩
 refine ac ?_
 refine Tr.seq ?_
 refine Tr.cn rfl ?_ ?_<;>intro h1 q1
 have Ai:k<(l).length:=AG h1
 obtain ⟨x,Af⟩:=at_ Ai
 refine ac ?_
 refine Tr.seq (Tr.block (Tr.seq (Tr.Ah (co rfl (AA rfl underlying22 B4 (vl rfl) (vl rfl) (by omega) (by exact AP (by assumption))) ?_))))
 · repeat' first|exact int_eq (jN Af (by assumption) AW)|exact Fin.AL (k+1) ⟨⟨Ai,Du (p:=fun y=>y !=0) Af (by simpa using by assumption) AW⟩,by omega⟩ ⟨⟨_,rfl,AE k⟩,ke rfl,ke rfl,ke rfl,trivial⟩|refine ac ?_|(refine Tr.cn rfl ?_ ?_<;>intro h q)
 have BJ:k=(l).length:=by have:=AH h1;omega
 subst BJ
 refine a3 ?_
 · exact int_eq (bq AW)
theorem GA {s:List UInt8}  :BA prog 77 [str s] (bool (named s)):=by
 refine fo func77 rfl ⟨rfl,rfl⟩ fun M0 w0=> ?_
 refine ac ?_
 refine ag ?_ ?_<;>intro h1 q1
 refine a3 ?_
 · refine bool_eq ?_;unfold named;rw [Bool.and_eq_false_iff.2 (.inr (by simp;omega))]
 refine an ?_ ?_<;>intro h2 q2
 refine a2 ?_
 · refine bool_eq ?_;unfold named;rw [Bool.and_eq_false_iff.2 (.inr (by simp;omega))]
 refine a2 ?_
 refine Tr.block (Tr.A9 [(0,_)] ⟨ke rfl,trivial⟩ (fun k:Nat=>[(3,int ((k:Nat):Int))]) (fun k:Nat=>k≤(s).length∧(∀j y,j<k→s[j]? =some y→(!okc y)=false)) (fun k:Nat=>(s).length-k) 0 (⟨Nat.zero_le _,fun j y hj=>absurd hj (by omega)⟩) ⟨ke rfl,trivial⟩ ?_)
 rintro k ⟨BP,AW⟩
 refine an ?_ ?_<;>intro h3 q3
 have Ai:k<(s).length:=AG h3
 obtain ⟨c,Af⟩:=at_ Ai
 · repeat' first|(refine bool_eq ?_;unfold named;rw [R_ (p:=okc) Af (by simp [okc];omega)];rfl)|(exact Fin.AL (k+1) ⟨⟨Ai,Du (p:=fun c=> !okc c) Af (by simp [okc];omega) AW⟩,by omega⟩ ⟨⟨_,rfl,AE k⟩,ke rfl,trivial⟩)|refine co rfl (Rv rfl underlying9 (vl rfl) (vl rfl) (by omega) (Rw (by assumption))) ?_|refine cy h rfl (Rv rfl underlying9 (vl rfl) (vl rfl) (by omega) (Rw (by assumption))) ?_|refine ac ?_|(refine Tr.cn rfl ?_ ?_<;>intro h q)|(refine Ch.cg rfl rfl rfl ?_ ?_<;>intro h q)
 have BJ:k=(s).length:=by have:=AH h3;omega
 subst BJ
 refine a3 ?_
 · refine bool_eq ?_;unfold named;rw [LU AW,Bool.true_and];symm;rw [decide_eq_true_eq];omega
structure VH where
 name:List UInt8
 kind:Int
 way:Int
 sizes:List Int
 Qw:List Int
def HW:List VH:=[⟨[],0,0,[],[]⟩,⟨[109,100,53],1,0,[],[18]⟩,⟨[115,104,97,49],1,0,[],[60]⟩,⟨[115,104,97,50,53,54],1,0,[],[128]⟩,⟨[115,104,97,51,56,52],1,0,[],[192]⟩,⟨[114,115,97],2,1,[],[]⟩,⟨[100,115,97],2,1,[],[]⟩,⟨[101,99,100,115,97],2,2,[],[]⟩,⟨[101,100,50,53,53,49,57],2,0,[],[128]⟩,⟨[109,108,100,115,97],2,3,[44,65,87],[128,192,256]⟩,⟨[114,115,97,107,120],3,1,[],[]⟩,⟨[100,104,101],3,1,[],[]⟩,⟨[101,99,100,104,101],3,2,[],[]⟩,⟨[109,108,107,101,109],3,3,[512,768,1024],[128,192,256]⟩,⟨[114,99,52],4,3,[40,128],[40,60]⟩,⟨[100,101,115,51],4,3,[112,168],[80,112]⟩,⟨[97,101,115,99,98,99],4,3,[128,256],[128,256]⟩,⟨[97,101,115,103,99,109],4,3,[128,256],[128,256]⟩,⟨[99,104,97,99,104,97],4,0,[],[256]⟩,⟨[104,109,97,99,109,100,53],5,0,[],[64]⟩,⟨[104,109,97,99,115,104,97,49],5,0,[],[80]⟩,⟨[104,109,97,99,115,104,97,50,53,54],5,0,[],[128]⟩,⟨[97,101,97,100],5,0,[],[256]⟩]
def W0:VH:=⟨[],0,0,[],[]⟩
def EP (Bw:Int):VH:=if 1≤Bw∧Bw≤22 then (HW[Bw.toNat]?).getD W0 else W0
theorem My {Bw:Int} (h:1≤Bw∧Bw≤22):HW[Bw.toNat]? =some (EP Bw):=by
 have hl:Bw.toNat<HW.length:=by show Bw.toNat<23;omega
 unfold EP;rw [if_pos h,List.getElem?_eq_getElem hl];rfl
theorem YZ {Bw:Int} (h:1≤Bw∧Bw≤22):EP Bw∈HW:=List.mem_of_getElem? (My h)
def mods:List (Int×Int):=[(1024,56),(2048,80),(3072,112),(7680,128),(15360,192)]
def vk:List (Int×Int)→Int→Int
 |[],_=>256
 |p::l,b=>if b<p.1 then p.2 else vk l b
def pW (b:Int):Int:=vk mods b
def Ti:List Int:=[160,224,256,384,521]
def DN (Bw bits:Int):Int:=
 if 1 ≤ Bw ∧ Bw ≤ 22 then
  if (EP Bw).way=0 then (if bits=0 then ((EP Bw).Qw[0]?).getD 0 else 0)
  else if (EP Bw).way=1 then (if 512≤bits∧bits≤16384 then pW bits else 0)
  else if (EP Bw).way=2 then (if (Ti.any fun x=>bits==x)=true then bits.tdiv 2 else 0)
  else if (EP Bw).way=3 then (if 0≤idx (fun x=>bits==x) (EP Bw).sizes then ((EP Bw).Qw[(idx (fun x=>bits==x) (EP Bw).sizes).toNat]?).getD 0 else 0)
  else 0
 else 0
structure Ie where
 I5:Int
 MK:List UInt8
 Jh:List UInt8
 QE:Int
 KB:Int
 CG:Int
 VI:Int
 Om:Int
 from_:Int
 ML:Int
 auth:Bool
 path:Int
 names:List (List UInt8)
 jO:Int
 jP:Int
abbrev jQ (l:List (List UInt8)):Pr:=slice 1 (l.map fun t=>[str t])
abbrev FN (c:Ie):List Pr:=[int c.I5,str c.MK,str c.Jh,int c.QE,int c.KB,int c.CG,int c.VI,int c.Om,int c.from_,int c.ML,bool c.auth,int c.path,jQ c.names,int c.jO,int c.jP]
abbrev Mz (l:List Ie):Pr:=slice 15 (l.map FN)
structure Ie.fits (c:Ie):Prop where
 MK:c.MK.length≤maxLen
 Jh:c.Jh.length≤maxLen
 names:∀s∈c.names,s.length≤maxLen
def GS (n:Int):Bool:=decide (0≤n)&&decide (n≤2147483648)
def pX (n:Int):Bool:=decide (0≤n)&&decide (n<4294967296)
def Ji (o:List UInt8) (c:UInt8):Bool:=decide (97≤c.toNat∧c.toNat≤122)||decide (65≤c.toNat∧c.toNat≤90)||decide (48≤c.toNat∧c.toNat≤57)||decide (0≤Lib.indexByte o c)
def M4 (s:List UInt8):Bool:=s.all (Ji [45,95,46])&&decide (1≤s.length∧s.length≤32)
def nameAt (l:List (List UInt8)) (i:Nat):Bool:=named (l[i]?.getD [])&&(decide (i=0)||decide (Lib.compareBytes (l[i-1]?.getD []) (l[i]?.getD [])= -1))
def GU (l:List (List UInt8)):Bool:=allI (nameAt l) l.length&&decide (l.length≤8)
def GC (Bw bits kind:Int):Bool:=decide (DN Bw bits>0)&&(EP Bw).kind==kind
def Dc (c:Ie):Bool:=
 (decide (0≤c.I5)&&decide (c.I5≤1099511627776)&&named c.MK&&named c.Jh&&GU c.names)&&
 (GC c.QE c.KB 2&&GS c.CG&&GC c.VI c.Om 1&&GS c.jO&&pX c.jP)&&
 (decide (0≤c.from_)&&decide (c.from_≤c.ML)&&decide (c.ML≤40000))&&(decide (0≤c.path)&&decide (c.path≤8)&&(c.auth||c.path==0))
def SA (Bw bits id:Int) (l:List Ie):Bool:=GC Bw bits 2&&GS id&&decide (l.length≤8)&&l.all Dc&&match l with|[]=>true|c::_=>decide (c.QE=Bw∧c.KB=bits)&&c.CG==id
structure It where
 Bw:Int
 bits:Int
 CG:Int
 chain:List Ie
abbrev HX (x:It):List Pr:=[int x.Bw,int x.bits,int x.CG,Mz x.chain]
abbrev AAZ (l:List It):Pr:=slice 4 (l.map HX)
def It.fits (x:It):Prop:=∀c∈x.chain,c.fits
structure Bs where
 name:List UInt8
 least:Int
 most:Int
 Ap:List Int
 own:Bool
 ids:List It
 anchors:List Int
 hashes:List Int
 LV:Bool
abbrev BV (e:Bs):List Pr:=[str e.name,int e.least,int e.most,ints e.Ap,bool e.own,AAZ e.ids,ints e.anchors,ints e.hashes,bool e.LV]
structure Bs.fits (e:Bs):Prop where
 name:e.name.length≤maxLen
 ids:∀x∈e.ids,x.fits
def HY (l:List Int) (i:Nat):Bool:=decide (i=0)||decide (l[i-1]?.getD 0<l[i]?.getD 0)
def Ya (l:List Int):Bool:=allI (HY l) l.length
def Ft (l:List Int) (i:Nat):Bool:=decide (1≤l[i]?.getD 0∧l[i]?.getD 0≤16)&& !((l.take i).any fun x=>l[i]?.getD 0==x)
def Jj (l:List Int):Bool:=allI (Ft l) l.length
def On (n:Int):Bool:=(EP n).kind==1
def me (x:It):Bool:=SA x.Bw x.bits x.CG x.chain
def Fz (e:Bs):Bool:=
 (M4 e.name&&decide (1≤e.least)&&decide (e.least≤e.most)&&decide (e.most≤4)&&Jj e.Ap)&&
 (decide (e.ids.length≤4)&&decide (e.anchors.length≤16)&&Ya e.anchors&&Ya e.hashes)&&e.ids.all me&&e.anchors.all GS&&e.hashes.all On
theorem getD_at {β:Type} {l:List β} {k:Nat} {x d:β} (h:l[k]? =some x):l[k]?.getD d=x:=by rw [h];rfl
abbrev C2:List Pr:=[any,any,any,any,any,any,any,any,any,any,any,any]
abbrev LW:List (List Pr):=[C2,C2,C2,C2,C2,C2,C2,C2,C2,C2,C2,C2,C2,C2,C2,C2]
theorem bw {k:Nat} (hk:k<16):LW[k]? =some C2:=by
 have hk':k<LW.length:=hk
 rw [List.getElem?_eq_getElem hk']
 have:∀r∈LW,r=C2:=by intro r hr;simp at hr;exact hr
 rw [this _ (List.getElem_mem hk')]
theorem Yb {i:Nat} {p:Pr} (h:C2[i]? =some p):p=any:=by have:=List.mem_of_getElem? h;simp at this;exact this
theorem SB {ps:List Pr} (h:ps.length=12):Pr.le (agg ps) (agg C2):=fun M w v ⟨cs,h1,h2,h3⟩=>⟨cs,h1,h2,HL.lf (by rw [h3.length,h];rfl) fun i p v hp _=>by rw [Yb hp];trivial⟩
def bz (Bw bits id:Int) (l:List Ie):Bool:=match l with|[]=>true|c::_=>decide (c.QE=Bw∧c.KB=bits)&&c.CG==id
theorem Yc {Bw bits id:Int} {l:List Ie} (h:l.length=0):bz Bw bits id l=true:=by rw [List.eq_nil_of_length_eq_zero h];rfl
theorem Tj {Bw bits id:Int} {l:List Ie} {c:Ie} (h:l[0]? =some c):bz Bw bits id l=(decide (c.QE=Bw∧c.KB=bits)&&c.CG==id):=by
 cases l with
 |nil=>simp at h
 |cons a l=>simp at h;subst h;rfl
theorem Ex (Bw bits id:Int) (l:List Ie):SA Bw bits id l=(GC Bw bits 2&&GS id&&decide (l.length≤8)&&l.all Dc&&bz Bw bits id l):=rfl
structure It.small (x:It):Prop where
 chain:x.chain.length≤925904528640
 names:∀c∈x.chain,c.names.length≤8796093022208
structure BQ where
 AV:Int
 kind:Int
 number:Int
 at_:Int
 Cw:It
abbrev Et (c:BQ):List Pr:=[int c.AV,int c.kind,int c.number,int c.at_,int c.Cw.Bw,int c.Cw.bits,int c.Cw.CG,Mz c.Cw.chain]
def BW (key:Int) (l:List It):Int:=idx (fun x=>x.CG==key) l
theorem Nf {β:Type} {p:β→Bool} {l:List β} (h:0≤idx p l):∃x,l[(idx p l).toNat]? =some x∧p x=true∧(idx p l).toNat<l.length:=by
 unfold idx at*
 cases hf:l.findIdx? p with
 |none=>rw [hf] at h;simp at h
 |some i=>
  rw [List.findIdx?_eq_some_iff_getElem] at hf
  obtain ⟨h1,h2,_⟩:=hf
  refine ⟨l[i],?_,h2,by simpa using h1⟩
  simp
theorem bP.perm {P:Program} {f:FuncId} {args:List Pr} {pre post post':List Ao} {res:Pr} (h:bP P f args pre res post) (hp:post.Perm post'):bP P f args pre res post':=
 ⟨h.1,fun M0 w0 S rs M w vs hI hv=>(h.2 M0 w0 S rs M w vs hI hv).mono fun _e _w' ⟨v,M',x,h1,h2,h3,h4,h5⟩=>⟨v,M',x,h1,h2,h3,h4,At.perm (hp.append_right rs) h5⟩⟩
def W4 (x:It):Bool:=decide (x.Bw=0∧x.bits=0)&&x.CG==0&&(((x.chain.length:Nat):Int)==0)
def Oo (c:BQ):Bool:=if c.kind=1 then W4 c.Cw else if c.kind=5 then c.number==0 else c.at_==0&&W4 c.Cw
structure Bs.small (e:Bs):Prop where
 Ap:e.Ap.length≤1000000
 anchors:e.anchors.length≤1000000
 hashes:e.hashes.length≤1000000
 Qx:e.ids.length≤1000000
 ids:∀x∈e.ids,x.small
def I6 (b:Int) (l m:List Int):Int:=if 0≤idx (fun x=>b==x) l then (m[(idx (fun x=>b==x) l).toNat]?).getD 0 else 0
theorem Yd {b:Int} {l m:List Int} {k:Nat} {x z:Int} (hx:l[k]? =some x) (he:x=b) (hz:m[k]? =some z) (h:∀j y,j<k→l[j]? =some y→(b==y)=false):z=I6 b l m:=by
 have:=D8 (p:=fun x=>b==x) hx (by simp [he]) h
 unfold I6;rw [←this,if_pos (by omega),Int.toNat_natCast,hz];rfl
theorem VJ {b:Int} {l m:List Int} (h:∀j y,j<l.length→l[j]? =some y→(b==y)=false):0=I6 b l m:=by
 have:=GR (p:=fun x=>b==x) h
 unfold I6;rw [←this,if_neg (by omega)]
def EI (Bw:Int):Int:=if Bw=1 then 18 else if Bw=2 then 60 else if Bw=3∨Bw=8∨Bw=21 then 128 else if Bw=4 then 192 else if Bw=18∨Bw=22 then 256 else if Bw=19 then 64 else if Bw=20 then 80 else 0
def Ig (b:Int):Int:=if b<512∨b>16384 then 0 else if b<1024 then 56 else if b<2048 then 80 else if b<3072 then 112 else if b<7680 then 128 else if b<15360 then 192 else 256
theorem b_ (b:Int):Ig b=if 512≤b∧b≤16384 then pW b else 0:=by
 have h1:pW b=if b<1024 then 56 else if b<2048 then 80 else if b<3072 then 112 else if b<7680 then 128 else if b<15360 then 192 else 256:=rfl
 rw [h1];unfold Ig
 by_cases h:512≤b∧b≤16384
 · rw [if_pos h,if_neg (by omega)]
 · rw [if_neg h,if_pos (by omega)]
theorem H9 {b:Int} {l m:List Int} (hl:l.length≤m.length):BA prog 129 [int b,ints l,ints m] (int (I6 b l m)):=by
 refine fo func129 rfl ⟨rfl,rfl⟩ fun M0 w0=>(Tr.Cv 1 rfl fun GV=> ?_)
 refine a2 ?_
 refine Tr.block (Tr.A9 [(0,_),(1,_),(2,_)] (L_ rfl) (fun k:Nat=>[(7,int ((k:Nat):Int))]) (fun k:Nat=>k≤(l).length∧(∀j y,j<k→l[j]? =some y→(b==y)=false)) (fun k:Nat=>(l).length-k) 0 (⟨Nat.zero_le _,fun j y hj=>absurd hj (by omega)⟩) ⟨ke rfl,trivial⟩ ?_)
 rintro k ⟨BP,AW⟩
 refine an ?_ ?_<;>intro h1 q1
 have Ai:k<(l).length:=AG h1
 obtain ⟨x,Af⟩:=at_ Ai
 obtain ⟨z,hz⟩:=at_ (l:=m) (k:=k) (by omega)
 · repeat' first|exact int_eq (Yd Af (by assumption) hz AW)|(exact Fin.AL (k+1) ⟨⟨Ai,Du (p:=fun x=>b==x) Af (by simp;omega) AW⟩,by omega⟩ ⟨⟨_,rfl,AE k⟩,ke rfl,ke rfl,ke rfl,trivial⟩)|refine co rfl (AA rfl underlying22 B4 (vl rfl) (vl rfl) (by omega) (by exact AP (by assumption))) ?_|refine ac ?_|(refine Tr.cn rfl ?_ ?_<;>intro h q)
 have BJ:k=(l).length:=by have:=AH h1;omega
 subst BJ
 refine a3 ?_
 · exact int_eq (VJ AW)
theorem cA {Bw:Int}  :BA prog 130 [int Bw] (int (EI Bw)):=by
 refine fo func130 rfl ⟨rfl,rfl⟩ fun M0 w0=> ?_
 refine a2 ?_
 refine an ?_ ?_<;>intro h1 q1
 refine a2 ?_
 · refine int_eq ?_;unfold EI;(repeat (rw [if_pos (by omega)]))
 refine an ?_ ?_<;>intro h2 q2
 refine a2 ?_
 · refine int_eq ?_;unfold EI;(repeat (first|rw [if_pos (by omega)]|rw [if_neg (by omega)]))
 refine an ?_ ?_<;>intro h3 q3
 refine ac ?_
 refine Tr.cond rfl (fun _=> ?_) (fun h=>nomatch h3.symm.trans h)
 refine a2 ?_
 · refine int_eq ?_;unfold EI;(repeat (first|rw [if_pos (by omega)]|rw [if_neg (by omega)]))
 refine an ?_ ?_<;>intro h4 q4
 refine ac ?_
 refine Tr.cond rfl (fun _=> ?_) (fun h=>nomatch h4.symm.trans h)
 refine a2 ?_
 · refine int_eq ?_;unfold EI;(repeat (first|rw [if_pos (by omega)]|rw [if_neg (by omega)]))
 refine an ?_ ?_<;>intro h5 q5
 refine a2 ?_
 · refine int_eq ?_;unfold EI;(repeat (first|rw [if_pos (by omega)]|rw [if_neg (by omega)]))
 refine ac ?_
 refine Cc 3 12 rfl ?_
 refine Tr.cn rfl ?_ ?_<;>intro h6 q6
 refine a2 ?_
 · refine int_eq ?_;unfold EI;(repeat (first|rw [if_pos (by omega)]|rw [if_neg (by omega)]))
 refine an ?_ ?_<;>intro h7 q7
 refine ac ?_
 refine Tr.cond rfl (fun _=> ?_) (fun h=>nomatch h7.symm.trans h)
 refine a2 ?_
 · refine int_eq ?_;unfold EI;(repeat (first|rw [if_pos (by omega)]|rw [if_neg (by omega)]))
 · repeat' first|(refine int_eq ?_;unfold EI;(repeat (first|rw [if_pos (by omega)]|rw [if_neg (by omega)])))|(refine int_eq ?_;unfold EI;(repeat (rw [if_neg (by omega)])))|refine ac ?_|(refine Tr.cn rfl ?_ ?_<;>intro h q)
theorem H_ {b:Int}  :BA prog 128 [int b] (int (Ig b)):=by
 refine fo func128 rfl ⟨rfl,rfl⟩ fun M0 w0=> ?_
 refine ac ?_
 refine ac ?_
 refine Ch.cs 6 rfl ?_ ?_<;>intro h1 q1
 refine ac ?_
 refine ac ?_
 refine ac ?_
 · refine int_eq ?_;unfold Ig;(repeat (rw [if_pos (by omega)]))
 refine ac ?_
 refine Tr.cn rfl ?_ ?_<;>intro h2 q2
 refine ac ?_
 refine ac ?_
 · refine int_eq ?_;unfold Ig;(repeat (rw [if_pos (by omega)]))
 refine ac ?_
 refine Tr.cn rfl ?_ ?_<;>intro h3 q3
 refine ac ?_
 refine ac ?_
 · refine int_eq ?_;unfold Ig;(repeat (first|rw [if_pos (by omega)]|rw [if_neg (by omega)]))
 refine ac ?_
 refine Cc 0 13 rfl ?_
 refine Tr.cn rfl ?_ ?_<;>intro h4 q4
 refine ac ?_
 refine ac ?_
 · refine int_eq ?_;unfold Ig;(repeat (first|rw [if_pos (by omega)]|rw [if_neg (by omega)]))
 refine ac ?_
 refine Tr.cn rfl ?_ ?_<;>intro h5 q5
 refine ac ?_
 refine ac ?_
 · refine int_eq ?_;unfold Ig;(repeat (first|rw [if_pos (by omega)]|rw [if_neg (by omega)]))
 refine ac ?_
 refine Tr.cn rfl ?_ ?_<;>intro h6 q6
 refine ac ?_
 refine ac ?_
 · refine int_eq ?_;unfold Ig;(repeat (first|rw [if_pos (by omega)]|rw [if_neg (by omega)]))
 refine ac ?_
 refine Tr.cn rfl ?_ ?_<;>intro h7 q7
 refine ac ?_
 refine ac ?_
 · refine int_eq ?_;unfold Ig;(repeat (first|rw [if_pos (by omega)]|rw [if_neg (by omega)]))
 refine ac ?_
 refine ac ?_
 refine ac ?_
 · refine int_eq ?_;unfold Ig;(repeat (rw [if_neg (by omega)]))
theorem jR (b c:Int):I6 b [0] [c]=if b=0 then c else 0:=by
 unfold I6 idx
 by_cases h:b=0
 · subst h;rfl
 ·
  have:List.findIdx? (fun x=>b==x) [0]=none:=by simp [h]
  rw [this,if_neg h];rfl
theorem GD {Bw b:Int} (h:Bw=5∨Bw=6∨Bw=10∨Bw=11):Ig b=DN Bw b:=by
 rw [b_]
 rcases h with rfl|rfl|rfl|rfl<;>rfl
theorem QF {Bw b:Int} (h:¬(Bw=5∨Bw=6∨Bw=7∨Bw=9∨Bw=10∨Bw=11∨Bw=12∨Bw=13∨Bw=14∨Bw=15∨Bw=16∨Bw=17)):I6 b [0] [EI Bw]=DN Bw b:=by
 rw [jR]
 by_cases hin:1≤Bw∧Bw≤22
 ·
  have ha:Bw=1∨Bw=2∨Bw=3∨Bw=4∨Bw=8∨Bw=18∨Bw=19∨Bw=20∨Bw=21∨Bw=22:=by omega
  rcases ha with rfl|rfl|rfl|rfl|rfl|rfl|rfl|rfl|rfl|rfl<;>rfl
 ·
  have h1:EI Bw=0:=by unfold EI;(repeat (first|rw [if_pos (by omega)]|rw [if_neg (by omega)]))
  unfold DN
  rw [h1,if_neg hin];split<;>rfl
theorem GF {Bw b:Int} (h:Bw=7∨Bw=12):DN Bw b=if (Ti.any fun x=>b==x)=true then b.tdiv 2 else 0:=by
 rcases h with rfl|rfl<;>rfl
theorem Tk {Bw bits:Int}  :BA prog 100 [agg [int Bw,int bits]] (int (DN Bw bits)):=by
 refine fo func100 rfl ⟨rfl,rfl⟩ fun M0 w0=> ?_
 iterate 4 refine ac ?_
 refine Tr.cn rfl ?_ ?_<;>intro h1 q1
 refine ac ?_
 refine Tr.cond rfl (fun _=> ?_) (fun h=>nomatch h1.symm.trans h)
 refine ac ?_
 refine co rfl (Cq (H_) rfl rfl) ?_
 refine a2 ?_
 · refine int_eq ?_;exact GD (by omega)
 refine an ?_ ?_<;>intro h2 q2
 refine ac ?_
 refine Tr.cond rfl (fun _=> ?_) (fun h=>nomatch h2.symm.trans h)
 refine ac ?_
 refine co rfl (Cq (H_) rfl rfl) ?_
 refine ac ?_
 refine FX 2 rfl ?_
 refine ac ?_
 · refine int_eq ?_;exact GD (by omega)
 refine an ?_ ?_<;>intro h3 q3
 refine ac ?_
 refine Tr.cond rfl (fun _=> ?_) (fun h=>nomatch h3.symm.trans h)
 refine ac ?_
 refine co rfl (Cq (H_) rfl rfl) ?_
 refine ac ?_
 refine FX 2 rfl ?_
 refine ac ?_
 · refine int_eq ?_;exact GD (by omega)
 refine ac ?_
 refine Ef 1 3 7 8 rfl ?_
 refine Tr.cn rfl ?_ ?_<;>intro h4 q4
 refine ac ?_
 refine co rfl (Cq (H_) rfl rfl) ?_
 refine a2 ?_
 · refine int_eq ?_;exact GD (by omega)
 refine an ?_ ?_<;>intro h5 q5
 refine ac ?_
 refine Tr.cond rfl (fun _=> ?_) (fun h=>nomatch h5.symm.trans h)
 · repeat' first|(refine int_eq ?_;rw [GF (by omega)];have hb:bits=160∨bits=224∨bits=256∨bits=384∨bits=521:=(by omega);rcases hb with rfl|rfl|rfl|rfl|rfl<;>rfl)|(refine int_eq ?_;rw [GF (by omega),if_neg (by simp [Ti];omega)])|refine co rfl (OC rfl (vl rfl) (vl rfl) (by omega)) ?_|refine ac ?_|(refine Tr.cn rfl ?_ ?_<;>intro h q)|(refine Ch.cg rfl rfl rfl ?_ ?_<;>intro h q)
 refine an ?_ ?_<;>intro h11 QG
 · repeat' first|(refine int_eq ?_;rw [GF (by omega)];have hb:bits=160∨bits=224∨bits=256∨bits=384∨bits=521:=(by omega);rcases hb with rfl|rfl|rfl|rfl|rfl<;>rfl)|(refine int_eq ?_;rw [GF (by omega),if_neg (by simp [Ti];omega)])|refine co rfl (OC rfl (vl rfl) (vl rfl) (by omega)) ?_|refine ac ?_|(refine Tr.cn rfl ?_ ?_<;>intro h q)|(refine Ch.cg rfl rfl rfl ?_ ?_<;>intro h q)
 refine an ?_ ?_<;>intro NN jS
 refine ac ?_
 refine co rfl (AR rfl (H9 (l:=[44,65,87]) (m:=[128,192,256]) (by simp)) ⟨ke rfl,(Kf rfl),(Kf rfl),trivial⟩) ?_
 refine ac ?_
 refine FX 2 rfl ?_
 refine ac ?_
 · refine int_eq ?_;have ha:Bw=9:=(by omega);rcases ha with rfl<;>rfl
 refine an ?_ ?_<;>intro P4 q18
 refine ac ?_
 refine co rfl (AR rfl (H9 (l:=[512,768,1024]) (m:=[128,192,256]) (by simp)) ⟨ke rfl,(Kf rfl),(Kf rfl),trivial⟩) ?_
 refine ac ?_
 refine FX 2 rfl ?_
 refine ac ?_
 · refine int_eq ?_;have ha:Bw=13:=(by omega);rcases ha with rfl<;>rfl
 refine ac ?_
 refine Ef 1 3 7 50 rfl ?_
 refine Tr.cn rfl ?_ ?_<;>intro gS q19
 refine ac ?_
 refine co rfl (AR rfl (H9 (l:=[40,128]) (m:=[40,60]) (by simp)) ⟨ke rfl,(Kf rfl),(Kf rfl),trivial⟩) ?_
 refine a2 ?_
 · refine int_eq ?_;have ha:Bw=14:=(by omega);rcases ha with rfl<;>rfl
 refine an ?_ ?_<;>intro P5 q20
 refine ac ?_
 refine co rfl (AR rfl (H9 (l:=[112,168]) (m:=[80,112]) (by simp)) ⟨ke rfl,(Kf rfl),(Kf rfl),trivial⟩) ?_
 refine a2 ?_
 · refine int_eq ?_;have ha:Bw=15:=(by omega);rcases ha with rfl<;>rfl
 refine an ?_ ?_<;>intro W6 q21
 refine ac ?_
 refine Tr.cond rfl (fun _=> ?_) (fun h=>nomatch W6.symm.trans h)
 refine ac ?_
 refine co rfl (AR rfl (H9 (l:=[128,256]) (m:=[128,256]) (by simp)) ⟨ke rfl,(Kf rfl),(Kf rfl),trivial⟩) ?_
 refine a2 ?_
 · refine int_eq ?_;have ha:Bw=16∨Bw=17:=(by omega);rcases ha with rfl|rfl<;>rfl
 · repeat' first|(refine int_eq ?_;have ha:Bw=16∨Bw=17:=(by omega);rcases ha with rfl|rfl<;>rfl)|(refine int_eq ?_;exact QF (by omega))|refine co rfl (AR rfl (H9 (l:=[128,256]) (m:=[128,256]) (by simp)) ⟨ke rfl,(Kf rfl),(Kf rfl),trivial⟩) ?_|refine co rfl (Cq (cA) rfl rfl) (co rfl (AM (xs:=[.tmp 73]) (rows:=[[_]]) rfl rfl underlying22 B4 z3 rfl (by decide) ⟨⟨(by exact rfl),(Vo rfl)⟩,trivial⟩ (by decide)) ?_)|refine co rfl (AR rfl (H9 (l:=[0]) (m:=[EI Bw]) (by simp)) ⟨ke rfl,(Kf rfl),(Kf rfl),trivial⟩) ?_|refine ac ?_|(refine Tr.cn rfl ?_ ?_<;>intro h q)
theorem I7 {Bw bits:Int}  :BA prog 78 [agg [int Bw,int bits]] (bool (decide (DN Bw bits>0))):=by
 refine fo func78 rfl ⟨rfl,rfl⟩ fun M0 w0=> ?_
 refine a2 ?_
 refine co rfl (Cq (Tk) rfl rfl) ?_
 refine a2 ?_
 · exact Lr
def pY:List (List UInt8×Int):=HW.map fun r=>(r.name,r.kind)
theorem jT {Bw:Int} (h:1≤Bw∧Bw≤22):pY[Bw.toNat]? =some ((EP Bw).name,(EP Bw).kind):=by
 unfold pY;rw [List.getElem?_map,My h];rfl
theorem jU   :BA prog 99 [] (slice 2 (pY.map fun r=>[str r.1,int r.2])):=by
 refine fo func99 rfl ⟨rfl,rfl⟩ fun M0 w0=> ?_
 refine a2 ?_
 refine FX 0 rfl ?_
 refine ac ?_
 · exact Bq _ _
theorem Ng {Bw:Int}  :BA prog 76 [int Bw] (int (EP Bw).kind):=by
 refine fo func76 rfl ⟨rfl,rfl⟩ fun M0 w0=> ?_
 refine ac ?_
 refine ag ?_ ?_<;>intro h1 q1
 refine a3 ?_
 · refine int_eq ?_;unfold EP;rw [if_neg (by omega)];rfl
 refine an ?_ ?_<;>intro h2 q2
 refine a2 ?_
 · refine int_eq ?_;unfold EP;rw [if_neg (by omega)];rfl
 have hin:1≤Bw∧Bw≤22:=by omega
 refine ac ?_
 refine Tr.seq (Tr.Ah (co rfl (kc0 (jU) rfl) (cm rfl (co rfl (AA rfl underlying217 mP (vl rfl) (vl rfl) (by omega) (BS (f:=fun r:List UInt8×Int=>[str r.1,int r.2]) (jT hin))) ?_))))
 refine a2 ?_
 · exact Lr
theorem I8 {Bw bits:Int}  :BA prog 95 [agg [int Bw,int bits]] (bool (decide (DN Bw bits>0)&&(EP Bw).kind==2)):=by
 refine fo func95 rfl ⟨rfl,rfl⟩ fun M0 w0=> ?_
 refine ac ?_
 refine ac ?_
 refine co rfl (Cq (I7) rfl rfl) (cm rfl ?_)
 refine Ch.cs 5 rfl ?_ ?_<;>intro h1 q1
 refine ac ?_
 refine cy h1 rfl (Cq (Ng) rfl rfl) ?_
 refine ac ?_
 refine ac ?_
 · refine bool_eq ?_;simp_all
 refine ac ?_
 refine ac ?_
 · refine bool_eq ?_;simp_all;omega
def Dv:Bs:=⟨[],0,0,[],false,[],[],[],false⟩
def Bi:It:=⟨0,0,0,[]⟩
def G3:BQ:=⟨0,0,0,0,Bi⟩
abbrev jV (l:List Int):Prop:=l.Pairwise (· < ·)
def Eg (l:List Int) (x:Int):Nat:=(l.takeWhile fun y=>decide (y<x)).length
theorem W7 (l:List Int) (x:Int):Eg l x≤l.length:=by
 unfold Eg
 have h:=List.takeWhile_append_dropWhile (p:=fun y=>decide (y<x)) (l:=l)
 have:=congrArg List.length h
 rw [List.length_append] at this;omega
theorem SC {x:Int}:∀{l:List Int} {k:Nat},k≤l.length→(∀(j:Nat) y,j<k→l[j]? =some y→y<x)→(∀y,l[k]? =some y→¬y<x)→Eg l x=k
  | [], k, hk, _, _ => by have : k = 0 := by simpa using hk
                          subst this;rfl
  |y::r,0,_,_,h2=>by unfold Eg;rw [List.takeWhile_cons_of_neg (by simpa using h2 y rfl)];rfl
  |y::r,k+1,hk,h1,h2=>by
    have ih:=SC (l:=r) (k:=k) (by simpa using hk) (fun j z hj hz=>h1 (j+1) z (by omega) (by simpa using hz)) (fun z hz=>h2 z (by simpa using hz))
    unfold Eg at ih ⊢
    rw [List.takeWhile_cons_of_pos (by simpa using h1 0 y (by omega) rfl),List.length_cons,ih]
theorem SD {x:Int}:∀{l:List Int} {j:Nat} {y:Int},j<Eg l x→l[j]? =some y→y<x
 |[],j,y,h,_=>by unfold Eg at h;simp at h
 |z::r,j,y,h,hy=>by
  by_cases hz:z<x
  ·
   cases j with
   |zero=>simp at hy;subst hy;exact hz
   |succ j=>
    refine SD (l:=r) (j:=j) ?_ (by simpa using hy)
    unfold Eg at h ⊢
    rw [List.takeWhile_cons_of_pos (by simpa using hz),List.length_cons] at h;omega
  · unfold Eg at h;rw [List.takeWhile_cons_of_neg (by simpa using hz)] at h;simp at h
theorem W8 {x:Int}:∀{l:List Int} {y:Int},l[Eg l x]? =some y→¬y<x
 |[],y,h=>by simp at h
 |z::r,y,h=>by
  by_cases hz:z<x
  ·
   unfold Eg at h
   rw [List.takeWhile_cons_of_pos (by simpa using hz),List.length_cons,List.getElem?_cons_succ] at h
   exact W8 (l:=r) h
  · unfold Eg at h;rw [List.takeWhile_cons_of_neg (by simpa using hz)] at h;simp at h;subst h;exact hz
abbrev FG (l:List Int) (x:Int):Bool:=(l[Eg l x]?).any (fun y=>decide (y=x))
abbrev VK (l:List Int) (x:Int):List Int:=l.take (Eg l x)++[x]++l.drop (Eg l x)
theorem jW {l:List Int} (hs:jV l) {j k:Nat} {y z:Int} (hjk:j<k) (hy:l[j]? =some y) (hz:l[k]? =some z):y<z:=by
 have h1:=BD hy;have h2:=BD hz
 have:=List.pairwise_iff_getElem.1 hs j k h1 h2 hjk
 rw [List.getElem?_eq_getElem h1] at hy;rw [List.getElem?_eq_getElem h2] at hz
 cases hy;cases hz;exact this
theorem W9 {l:List Int} {x:Int} {i:Nat} {y:Int} (hp:Eg l x=i) (hy:l[i]? =some y):FG l x=decide (y=x):=by
 unfold FG;rw [hp,hy];rfl
theorem Nh {l:List Int} (h:Ya l=true):jV l:=by
 unfold Ya at h;rw [Bn] at h
 have h1:∀(d i:Nat) y z,l[i]? =some y→l[i+d+1]? =some z→y<z:=by
  intro d
  induction d with
  |zero=>
   intro i y z hy hz
   have:=h (i+1) (BD hz)
   unfold HY at this
   rw [getD_at (show l[i+1]? =some z from hz),getD_at (show l[i+1-1]? =some y from hy)] at this
   simpa using this
  |succ d ih=>
   intro i y z hy hz
   obtain ⟨m,hm⟩:=at_ (l:=l) (k:=i+d+1) (by have:=BD hz;omega)
   have a1:=ih i y m hy hm
   have:=h (i+(d+1)+1) (BD hz)
   unfold HY at this
   rw [getD_at hz,getD_at (show l[i+(d+1)+1-1]? =some m from hm)] at this
   have:m<z:=by simpa using this
   omega
 refine List.pairwise_iff_getElem.2 fun i j hi hj hij=> ?_
 refine h1 (j-i-1) i _ _ (List.getElem?_eq_getElem hi) ?_
 rw [show i+(j-i-1)+1=j by omega];exact List.getElem?_eq_getElem hj
theorem SE {l:List Int} {x:Int} (h:FG l x=true):Eg l x<l.length:=by
 by_cases hp:Eg l x<l.length
 · exact hp
 · unfold FG at h;rw [List.getElem?_eq_none (by omega)] at h;cases h
abbrev J3 (b:Bool):Int:=if b then 1 else 0
abbrev LX (e:Bs) (c:BQ):Int:=idx (fun y=>c.number==y) e.Ap
def Br (e:Bs) (c:BQ):Except Int (Bs×BQ):=
 if c.kind = 1 then
  if ¬(0≤c.at_∧c.at_≤(e.Ap.length:Nat)) then .error 2
  else if (e.Ap.any fun y=>c.number==y)=true then .error 41
  else .ok ({ e with Ap:=e.Ap.take c.at_.toNat++[c.number]++e.Ap.drop c.at_.toNat },⟨c.AV,2,c.number,0,Bi⟩)
 else if c.kind = 2 then
  if LX e c<0 then .error 41 else .ok ({ e with Ap:=e.Ap.eraseIdx (LX e c).toNat },⟨c.AV,1,c.number,LX e c,Bi⟩)
 else if c.kind = 3 then
  if e.most=c.number then .error 41 else .ok ({ e with most:=c.number },⟨c.AV,c.kind,e.most,0,Bi⟩)
 else if c.kind = 4 then
  if e.least=c.number then .error 41 else .ok ({ e with least:=c.number },⟨c.AV,c.kind,e.least,0,Bi⟩)
 else if c.kind = 5 then
  if ¬(0≤c.at_∧c.at_≤(e.ids.length:Nat)) then .error 2
  else if 0≤BW c.Cw.CG e.ids then .error 41
  else .ok ({ e with ids:=e.ids.take c.at_.toNat++[c.Cw]++e.ids.drop c.at_.toNat },⟨c.AV,6,c.Cw.CG,0,Bi⟩)
 else if c.kind = 6 then
  match e.ids[(BW c.number e.ids).toNat]? with
  |none=> .error 41
  |some x=>
   if BW c.number e.ids<0 then .error 41
   else if ((e.ids.drop (BW c.number e.ids+1).toNat).any fun x=>x.CG==c.number)=true then .error 5
   else .ok ({ e with ids:=e.ids.eraseIdx (BW c.number e.ids).toNat },⟨c.AV,5,0,BW c.number e.ids,x⟩)
 else if c.kind = 7 then
  if FG e.anchors c.number=true then .error 41 else .ok ({ e with anchors:=VK e.anchors c.number },⟨c.AV,8,c.number,0,Bi⟩)
 else if c.kind = 8 then
  if FG e.anchors c.number=true then .ok ({ e with anchors:=e.anchors.eraseIdx (Eg e.anchors c.number) },⟨c.AV,7,c.number,0,Bi⟩) else .error 41
 else if c.kind = 9 then
  if FG e.hashes c.number=true then .error 41 else .ok ({ e with hashes:=VK e.hashes c.number },⟨c.AV,10,c.number,0,Bi⟩)
 else if c.kind = 10 then
  if FG e.hashes c.number=true then .ok ({ e with hashes:=e.hashes.eraseIdx (Eg e.hashes c.number) },⟨c.AV,9,c.number,0,Bi⟩) else .error 41
 else if c.kind = 11 then
  if ¬(0≤c.number∧c.number≤1) then .error 2
  else if J3 e.LV=c.number then .error 41 else .ok ({ e with LV:=(c.number==1) },⟨c.AV,c.kind,J3 e.LV,0,Bi⟩)
 else
  if ¬(0≤c.number∧c.number≤1) then .error 2
  else if J3 e.own=c.number then .error 41 else .ok ({ e with own:=(c.number==1) },⟨c.AV,c.kind,J3 e.own,0,Bi⟩)
def Gk (c:BQ):Prop:=(1≤c.kind∧c.kind≤12)∧Oo c=true
instance (c:BQ):Decidable (Gk c):=inferInstanceAs (Decidable (_∧_))
def Dl (e:Bs) (c:BQ):Bs×BQ×Int:=
 if Fz e=false then (Dv,G3,19)
 else if ¬Gk c then (Dv,G3,40)
 else match Br e c with
  | .error f=>(Dv,G3,f)
  | .ok (e2,b)=>if Fz e2=true then (e2,b,0) else (Dv,G3,18)
theorem Ni {e:Bs} {c:BQ} (h:c.kind=1):Br e c=
  (
  if ¬(0≤c.at_∧c.at_≤(e.Ap.length:Nat)) then .error 2
  else if (e.Ap.any fun y=>c.number==y)=true then .error 41
  else .ok ({ e with Ap:=e.Ap.take c.at_.toNat++[c.number]++e.Ap.drop c.at_.toNat },⟨c.AV,2,c.number,0,Bi⟩)):=by
 unfold Br;rw [if_pos h]
theorem Nj {e:Bs} {c:BQ} (h:c.kind=2):Br e c=
  (
  if LX e c<0 then .error 41 else .ok ({ e with Ap:=e.Ap.eraseIdx (LX e c).toNat },⟨c.AV,1,c.number,LX e c,Bi⟩)):=by
 unfold Br;rw [if_neg (by rw [h];decide)];rw [if_pos h]
theorem Nk {e:Bs} {c:BQ} (h:c.kind=3):Br e c=
  (
  if e.most=c.number then .error 41 else .ok ({ e with most:=c.number },⟨c.AV,c.kind,e.most,0,Bi⟩)):=by
 unfold Br;rw [if_neg (by rw [h];decide)];rw [if_neg (by rw [h];decide)];rw [if_pos h]
theorem Nl {e:Bs} {c:BQ} (h:c.kind=4):Br e c=
  (
  if e.least=c.number then .error 41 else .ok ({ e with least:=c.number },⟨c.AV,c.kind,e.least,0,Bi⟩)):=by
 unfold Br;rw [if_neg (by rw [h];decide)];rw [if_neg (by rw [h];decide)];rw [if_neg (by rw [h];decide)];rw [if_pos h]
theorem Nn {e:Bs} {c:BQ} (h:c.kind=5):Br e c=
  (
  if ¬(0≤c.at_∧c.at_≤(e.ids.length:Nat)) then .error 2
  else if 0≤BW c.Cw.CG e.ids then .error 41
  else .ok ({ e with ids:=e.ids.take c.at_.toNat++[c.Cw]++e.ids.drop c.at_.toNat },⟨c.AV,6,c.Cw.CG,0,Bi⟩)):=by
 unfold Br;rw [if_neg (by rw [h];decide)];rw [if_neg (by rw [h];decide)];rw [if_neg (by rw [h];decide)];rw [if_neg (by rw [h];decide)];rw [if_pos h]
theorem Np {e:Bs} {c:BQ} (h:c.kind=6):Br e c=
  (
  match e.ids[(BW c.number e.ids).toNat]? with
  |none=> .error 41
  |some x=>
   if BW c.number e.ids<0 then .error 41
   else if ((e.ids.drop (BW c.number e.ids+1).toNat).any fun x=>x.CG==c.number)=true then .error 5
   else .ok ({ e with ids:=e.ids.eraseIdx (BW c.number e.ids).toNat },⟨c.AV,5,0,BW c.number e.ids,x⟩)):=by
 unfold Br;rw [if_neg (by rw [h];decide)];rw [if_neg (by rw [h];decide)];rw [if_neg (by rw [h];decide)];rw [if_neg (by rw [h];decide)];rw [if_neg (by rw [h];decide)];rw [if_pos h]
theorem Nq {e:Bs} {c:BQ} (h:c.kind=7):Br e c=
  (
  if FG e.anchors c.number=true then .error 41 else .ok ({ e with anchors:=VK e.anchors c.number },⟨c.AV,8,c.number,0,Bi⟩)):=by
 unfold Br;rw [if_neg (by rw [h];decide)];rw [if_neg (by rw [h];decide)];rw [if_neg (by rw [h];decide)];rw [if_neg (by rw [h];decide)];rw [if_neg (by rw [h];decide)];rw [if_neg (by rw [h];decide)];rw [if_pos h]
theorem Nr {e:Bs} {c:BQ} (h:c.kind=8):Br e c=
  (
  if FG e.anchors c.number=true then .ok ({ e with anchors:=e.anchors.eraseIdx (Eg e.anchors c.number) },⟨c.AV,7,c.number,0,Bi⟩) else .error 41):=by
 unfold Br;rw [if_neg (by rw [h];decide)];rw [if_neg (by rw [h];decide)];rw [if_neg (by rw [h];decide)];rw [if_neg (by rw [h];decide)];rw [if_neg (by rw [h];decide)];rw [if_neg (by rw [h];decide)];rw [if_neg (by rw [h];decide)];rw [if_pos h]
theorem Ns {e:Bs} {c:BQ} (h:c.kind=9):Br e c=
  (
  if FG e.hashes c.number=true then .error 41 else .ok ({ e with hashes:=VK e.hashes c.number },⟨c.AV,10,c.number,0,Bi⟩)):=by
 unfold Br;rw [if_neg (by rw [h];decide)];rw [if_neg (by rw [h];decide)];rw [if_neg (by rw [h];decide)];rw [if_neg (by rw [h];decide)];rw [if_neg (by rw [h];decide)];rw [if_neg (by rw [h];decide)];rw [if_neg (by rw [h];decide)];rw [if_neg (by rw [h];decide)];rw [if_pos h]
theorem LY {e:Bs} {c:BQ} (h:c.kind=10):Br e c=
  (
  if FG e.hashes c.number=true then .ok ({ e with hashes:=e.hashes.eraseIdx (Eg e.hashes c.number) },⟨c.AV,9,c.number,0,Bi⟩) else .error 41):=by
 unfold Br;rw [if_neg (by rw [h];decide)];rw [if_neg (by rw [h];decide)];rw [if_neg (by rw [h];decide)];rw [if_neg (by rw [h];decide)];rw [if_neg (by rw [h];decide)];rw [if_neg (by rw [h];decide)];rw [if_neg (by rw [h];decide)];rw [if_neg (by rw [h];decide)];rw [if_neg (by rw [h];decide)];rw [if_pos h]
theorem LZ {e:Bs} {c:BQ} (h:c.kind=11):Br e c=
  (
  if ¬(0≤c.number∧c.number≤1) then .error 2
  else if J3 e.LV=c.number then .error 41 else .ok ({ e with LV:=(c.number==1) },⟨c.AV,c.kind,J3 e.LV,0,Bi⟩)):=by
 unfold Br;rw [if_neg (by rw [h];decide)];rw [if_neg (by rw [h];decide)];rw [if_neg (by rw [h];decide)];rw [if_neg (by rw [h];decide)];rw [if_neg (by rw [h];decide)];rw [if_neg (by rw [h];decide)];rw [if_neg (by rw [h];decide)];rw [if_neg (by rw [h];decide)];rw [if_neg (by rw [h];decide)];rw [if_neg (by rw [h];decide)];rw [if_pos h]
theorem La {e:Bs} {c:BQ} (h:c.kind=12):Br e c=
  (
  if ¬(0≤c.number∧c.number≤1) then .error 2
  else if J3 e.own=c.number then .error 41 else .ok ({ e with own:=(c.number==1) },⟨c.AV,c.kind,J3 e.own,0,Bi⟩)):=by
 unfold Br;rw [if_neg (by rw [h];decide)];rw [if_neg (by rw [h];decide)];rw [if_neg (by rw [h];decide)];rw [if_neg (by rw [h];decide)];rw [if_neg (by rw [h];decide)];rw [if_neg (by rw [h];decide)];rw [if_neg (by rw [h];decide)];rw [if_neg (by rw [h];decide)];rw [if_neg (by rw [h];decide)];rw [if_neg (by rw [h];decide)];rw [if_neg (by rw [h];decide)]
theorem Ye {e:Bs} {c:BQ} {f:Int} (h:Fz e=true) (hc:Gk c) (hs:Br e c= .error f):Dl e c=(Dv,G3,f):=by
 unfold Dl;rw [if_neg (by rw [h];decide),if_neg (fun h=>h hc),hs]
theorem cB {e:Bs} {c:BQ} {e2:Bs} {b:BQ} (h:Fz e=true) (hc:Gk c) (hs:Br e c= .ok (e2,b)) (h2:Fz e2=true):Dl e c=(e2,b,0):=by
 unfold Dl;rw [if_neg (by rw [h];decide),if_neg (fun h=>h hc),hs];exact if_pos h2
theorem jX {e:Bs} {c:BQ} {e2:Bs} {b:BQ} (h:Fz e=true) (hc:Gk c) (hs:Br e c= .ok (e2,b)) (h2:Fz e2=false):Dl e c=(Dv,G3,18):=by
 unfold Dl;rw [if_neg (by rw [h];decide),if_neg (fun h=>h hc),hs];exact if_neg (by rw [h2];decide)
structure W_ (e:Bs):Prop where
 name:M4 e.name=true
 least:1≤e.least
 lm:e.least≤e.most
 most:e.most≤4
 Ap:Jj e.Ap=true
 Qx:e.ids.length≤4
 VM:e.anchors.length≤16
 anc:Ya e.anchors=true
 hash:Ya e.hashes=true
 ids:e.ids.all me=true
 keys:e.anchors.all GS=true
 hsh:e.hashes.all On=true
theorem CA {e:Bs}:Fz e=true↔W_ e:=by
 unfold Fz;simp only [Bool.and_eq_true,decide_eq_true_eq]
 exact ⟨fun ⟨⟨⟨⟨⟨⟨⟨⟨a,b⟩,c⟩,d⟩,f⟩,⟨⟨⟨g,h⟩,i⟩,j⟩⟩,k⟩,l⟩,m⟩=>⟨a,b,c,d,f,g,h,i,j,k,l,m⟩,fun ⟨a,b,c,d,f,g,h,i,j,k,l,m⟩=>⟨⟨⟨⟨⟨⟨⟨⟨a,b⟩,c⟩,d⟩,f⟩,⟨⟨⟨g,h⟩,i⟩,j⟩⟩,k⟩,l⟩,m⟩⟩
theorem Yf:Bi.small:=⟨by show 0≤_;omega,fun c hc=>by cases hc⟩
abbrev Qy:List Pr:=[F5 .u8]
abbrev XA (m:Nat):Pr:=slice 1 (List.replicate m Qy)
abbrev ER (B:Nat):Pr:=Cp.ex fun m:Nat=>fact (m≤B) (XA m)
abbrev Dw:Pr:=Cp.ex fun b:Bool=>bool b
abbrev BR (q:Pr):List Pr:=[F5 .i64,ER 1000,Dw,q]
abbrev I9 (row:List Pr):Pr:=Cp.ex fun m:Nat=>fact (m≤20) (slice 4 (List.replicate m row))
abbrev KV (D:Nat):Pr:=Cp.ex fun d:Int=>fact (0≤d∧d≤(D:Nat)) (int d)
theorem I_ {r:List Pr} {m k:Nat} (h:k<m):(List.replicate m r)[((k:Nat):Int).toNat]? =some r:=by rw [Int.toNat_natCast,List.getElem?_replicate,if_pos h]
theorem XB {r:List Pr} {m:Nat}:List.replicate m r++[r]=List.replicate (m+1) r:=by rw [List.replicate_succ']
theorem Lb {r:List Pr} {m k:Nat}:List.replicate m r++List.replicate k r=List.replicate (m+k) r:=by rw [List.replicate_append_replicate]
theorem OL.refl:∀l:List Pr,OL l l
 |[]=>trivial
 |_::l=>⟨Pr.le_refl _,OL.refl l⟩
theorem TD {sz:Nat} {rows rows':List (List Pr)} (hl:rows.length=rows'.length) (h:∀(i:Nat) r r',rows[i]? =some r→rows'[i]? =some r'→r.length=r'.length∧∀(j:Nat) p p',r[j]? =some p→r'[j]? =some p'→Pr.le p p'):Pr.le (slice sz rows) (slice sz rows'):=by
 rintro M w v ⟨a,cap,h1,h2,h3,h4,h5⟩
 refine ⟨a,cap,by rw [←hl];exact h1,by rw [←hl];exact h2,h3,h4,fun i row hr=> ?_⟩
 have hi:i<rows.length:=by rw [hl];exact BD hr
 have hr0:=List.getElem?_eq_getElem hi
 obtain ⟨g1,g2⟩:=h i _ _ hr0 hr
 obtain ⟨k1,ad,k2,k3⟩:=h5 i _ hr0
 refine ⟨by rw [←g1];exact k1,ad,k2,fun j p' hp'=> ?_⟩
 have hj:j<rows[i].length:=by rw [g1];exact BD hp'
 have hp:=List.getElem?_eq_getElem hj
 obtain ⟨u,c1,c2,c3,c4⟩:=k3 j _ hp
 exact ⟨u,c1,c2,c3,g2 j _ _ hp hp' _ _ _ c4⟩
theorem Yg {sz:Nat} {rows:List (List Pr)} {r:List Pr} (h:∀q∈rows,q.length=r.length∧∀(j:Nat) p p',q[j]? =some p→r[j]? =some p'→Pr.le p p'):Pr.le (slice sz rows) (slice sz (List.replicate rows.length r)):=
 TD (by simp) fun i q q' hq hq' => by
  rw [List.getElem?_replicate,if_pos (BD hq)] at hq'
  cases hq'
  exact h q (List.mem_of_getElem? hq)
theorem HF {β:Type} {l:List β} {f:β→Int}:Pr.le (slice 1 (l.map fun x=>[is (.int .u8 (f x))])) (XA l.length):=by
 have:=Yg (sz:=1) (rows:=l.map fun x=>[is (.int .u8 (f x))]) (r:=Qy) (by
  intro q hq
  obtain ⟨x,_,rfl⟩:=List.mem_map.1 hq
  refine ⟨rfl,fun j p p' hp hp'=> ?_⟩
  cases j with
  |zero=>simp at hp hp';subst hp;subst hp';exact B6 _ _
  |succ j=>simp at hp)
 rwa [List.length_map] at this
theorem B9 {B m:Nat} {p:Pr} (h:m≤B) (hp:Pr.le p (XA m)):Pr.le p (ER B):=AJ m (AU h hp)
theorem BA.BR {P:Program} {f:FuncId} {row:List Pr} {res:Pr} (h:∀(t:Int) (b:Nat) (n:Bool) (m:Nat),b≤1000→m≤20→BA P f [agg [int t,XA b,bool n,slice 4 (List.replicate m row)]] res):BA P f [agg (BR (I9 row))] res:=by
 refine ⟨(h 0 0 false 0 (by omega) (by omega)).1,fun M w vs hb hv=> ?_⟩
 match vs,hv with
 |[u0],XC=>
  obtain ⟨⟨cs,rfl,ho,hcs⟩,_⟩:=XC
  match cs,hcs with
  |[c0,c1,c2,c3],hc=>
   obtain ⟨⟨t,h0⟩,⟨b,P3,h1⟩,⟨n,h2⟩,⟨m,hm1,h3⟩,_⟩:=hc
   exact (h t b n m P3 hm1).2 M w _ hb ⟨⟨_,rfl,ho,h0,h1,h2,h3,trivial⟩,trivial⟩
theorem BA.cC {P:Program} {f:FuncId} {res:Pr} (h:∀(t:Int) (b:Nat) (n:Bool),b≤1000→BA P f [agg [int t,XA b,bool n,slice 4 []]] res):BA P f [agg [F5 .i64,ER 1000,Dw,slice 4 []]] res:=by
 refine ⟨(h 0 0 false (by omega)).1,fun M w vs hb hv=> ?_⟩
 match vs,hv with
 |[u0],XC=>
  obtain ⟨⟨cs,rfl,ho,hcs⟩,_⟩:=XC
  match cs,hcs with
  |[c0,c1,c2,c3],hc=>
   obtain ⟨⟨t,h0⟩,⟨b,P3,h1⟩,⟨n,h2⟩,h3,_⟩:=hc
   exact (h t b n P3).2 M w _ hb ⟨⟨_,rfl,ho,h0,h1,h2,h3,trivial⟩,trivial⟩
theorem pZ {n:Int}  :BA prog 146 [int n] (bool (decide (1≤n)&&decide (n≤255)&&(n.tmod 32 !=31))):=by
 refine fo func146 rfl ⟨rfl,rfl⟩ fun M0 w0=> ?_
 refine ac ?_
 refine ag ?_ ?_<;>intro h1 q1
 refine ag ?_ ?_<;>intro h2 q2
 refine Jd h2 rfl (cy h2 rfl (Rd rfl (vl rfl) (vl rfl) (by omega)) ?_)
 refine a2 ?_
 · refine bool_eq ?_;simp_all
 refine a2 ?_
 · refine bool_eq ?_;simp_all;omega
 refine a2 ?_
 · refine bool_eq ?_;simp_all;omega
theorem MM {t:Int} {b:Nat} {n:Bool} {m:Nat} {q:Pr}  (hb:b≤1000) (hm:m≤20) (ih:m=0∨BA prog 118 [agg (BR q)] (Dw)):BA prog 118 [agg [int t,XA b,bool n,slice 4 (List.replicate m (BR q))]] (Dw):=by
 refine fo func118 rfl ⟨rfl,rfl⟩ fun M0 w0=> ?_
 have hlr:(List.replicate m (BR q)).length=m:=List.length_replicate
 have hlb:(List.replicate b Qy).length=b:=List.length_replicate
 refine a2 ?_
 refine co rfl (Cq (pZ) rfl rfl) ?_
 refine ag ?_ ?_<;>intro h1 q1
 refine ac ?_
 refine Cc 1 38 rfl ?_
 refine a2 ?_
 · exact AJ _ (Lr)
 refine ac ?_
 refine cy h1 rfl (OC rfl (vl rfl) (vl rfl) (by omega)) (cy h1 rfl (Rd rfl (vl rfl) (vl rfl) (by omega)) (cy h1 rfl (ki rfl rfl rfl rfl) (cy h1 rfl (Uw rfl underlying4 (vl rfl) (vl rfl)) ?_)))
 refine ag ?_ ?_<;>intro h2 q2
 refine ac ?_
 refine Cc 1 38 rfl ?_
 refine a2 ?_
 · exact AJ _ (Lr)
 refine ag ?_ ?_<;>intro h3 q3
 refine ac ?_
 refine cy h3 rfl (Bz rfl underlying166 (vl rfl)) ?_
 refine ag ?_ ?_<;>intro h4 q4
 refine ac ?_
 refine Cc 1 38 rfl ?_
 refine a2 ?_
 · exact AJ _ (Lr)
 refine ag ?_ ?_<;>intro h5 q5
 refine ac ?_
 refine cy h5 rfl (Bz rfl underlying209 (vl rfl)) ?_
 refine ac ?_
 refine Cc 1 38 rfl ?_
 refine Tr.cn rfl ?_ ?_<;>intro h6 q6
 refine a2 ?_
 · exact AJ _ (Lr)
 refine a2 ?_
 refine Tr.block (Tr.A9 [(1,_)] ⟨ke rfl,trivial⟩ (fun k:Nat=>[(3,int ((k:Nat):Int))]) (fun k:Nat=>k≤((List.replicate m (BR q)).length)) (fun k:Nat=>((List.replicate m (BR q)).length)-k) 0 (Nat.zero_le _) ⟨ke rfl,trivial⟩ ?_)
 rintro k BP
 refine ac ?_
 refine co rfl (Bz rfl underlying209 (vl rfl)) ?_
 refine an ?_ ?_<;>intro h7 q7
 have Ai:k<((List.replicate m (BR q)).length):=AG h7
 have hkm:k<m:=by simpa using Ai
 have ih2:=ih.resolve_left (by omega)
 refine ac ?_
 refine ap ?_
 refine tp rfl (AA rfl underlying209 CN (vl rfl) (vl rfl) (by omega) (I_ hkm)) (tp rfl (AQ rfl C0 CN (vl rfl) rfl rfl) (tp rfl (Cq (ih2) rfl rfl) ?_))
 refine TO.ex 51 rfl (fun z51=> ?_)
 refine ap ?_
 · repeat' first|exact AJ _ (Lr)|exact Fin.AL (k+1) ⟨Ai,by omega⟩ ⟨⟨_,rfl,AE k⟩,ke rfl,trivial⟩|refine ac ?_|(refine Tr.cn rfl ?_ ?_<;>intro h q)
 have BJ:k=((List.replicate m (BR q)).length):=by have:=AH h7;omega
 refine a3 ?_
 · exact AJ _ (Lr)
 refine ac ?_
 refine Cc 1 38 rfl ?_
 refine a2 ?_
 refine Tr.block (Tr.A9 [(1,_)] ⟨ke rfl,trivial⟩ (fun k:Nat=>[(3,int ((k:Nat):Int))]) (fun k:Nat=>k≤((List.replicate m (BR q)).length)) (fun k:Nat=>((List.replicate m (BR q)).length)-k) 0 (Nat.zero_le _) ⟨ke rfl,trivial⟩ ?_)
 rintro k BP
 refine ac ?_
 refine co rfl (Bz rfl underlying209 (vl rfl)) ?_
 refine an ?_ ?_<;>intro h9 q9
 have Ai:k<((List.replicate m (BR q)).length):=AG h9
 have hkm:k<m:=by simpa using Ai
 have ih2:=ih.resolve_left (by omega)
 refine ac ?_
 refine ap ?_
 refine tp rfl (AA rfl underlying209 CN (vl rfl) (vl rfl) (by omega) (I_ hkm)) (tp rfl (AQ rfl C0 CN (vl rfl) rfl rfl) (tp rfl (Cq (ih2) rfl rfl) ?_))
 refine TO.ex 51 rfl (fun z51=> ?_)
 refine ap ?_
 · repeat' first|exact AJ _ (Lr)|exact Fin.AL (k+1) ⟨Ai,by omega⟩ ⟨⟨_,rfl,AE k⟩,ke rfl,trivial⟩|refine ac ?_|(refine Tr.cn rfl ?_ ?_<;>intro h q)
 have BJ:k=((List.replicate m (BR q)).length):=by have:=AH h9;omega
 refine a3 ?_
 · exact AJ _ (Lr)
 refine ag ?_ ?_<;>intro h11 QG
 refine ac ?_
 refine cy h11 rfl (Bz rfl underlying209 (vl rfl)) ?_
 refine ac ?_
 refine Cc 1 38 rfl ?_
 refine Tr.cn rfl ?_ ?_<;>intro h12 Ul
 refine a2 ?_
 · exact AJ _ (Lr)
 refine a2 ?_
 refine Tr.block (Tr.A9 [(1,_)] ⟨ke rfl,trivial⟩ (fun k:Nat=>[(3,int ((k:Nat):Int))]) (fun k:Nat=>k≤((List.replicate m (BR q)).length)) (fun k:Nat=>((List.replicate m (BR q)).length)-k) 0 (Nat.zero_le _) ⟨ke rfl,trivial⟩ ?_)
 rintro k BP
 refine ac ?_
 refine co rfl (Bz rfl underlying209 (vl rfl)) ?_
 refine an ?_ ?_<;>intro Ms Yh
 have Ai:k<((List.replicate m (BR q)).length):=AG Ms
 have hkm:k<m:=by simpa using Ai
 have ih2:=ih.resolve_left (by omega)
 refine ac ?_
 refine ap ?_
 refine tp rfl (AA rfl underlying209 CN (vl rfl) (vl rfl) (by omega) (I_ hkm)) (tp rfl (AQ rfl C0 CN (vl rfl) rfl rfl) (tp rfl (Cq (ih2) rfl rfl) ?_))
 refine TO.ex 51 rfl (fun z51=> ?_)
 refine ap ?_
 · repeat' first|exact AJ _ (Lr)|exact Fin.AL (k+1) ⟨Ai,by omega⟩ ⟨⟨_,rfl,AE k⟩,ke rfl,trivial⟩|refine ac ?_|(refine Tr.cn rfl ?_ ?_<;>intro h q)
 have BJ:k=((List.replicate m (BR q)).length):=by have:=AH Ms;omega
 refine a3 ?_
 · exact AJ _ (Lr)
 refine ac ?_
 refine Cc 1 38 rfl ?_
 refine a2 ?_
 refine Tr.block (Tr.A9 [(1,_)] ⟨ke rfl,trivial⟩ (fun k:Nat=>[(3,int ((k:Nat):Int))]) (fun k:Nat=>k≤((List.replicate m (BR q)).length)) (fun k:Nat=>((List.replicate m (BR q)).length)-k) 0 (Nat.zero_le _) ⟨ke rfl,trivial⟩ ?_)
 rintro k BP
 refine ac ?_
 refine co rfl (Bz rfl underlying209 (vl rfl)) ?_
 refine an ?_ ?_<;>intro TJ q15
 have Ai:k<((List.replicate m (BR q)).length):=AG TJ
 have hkm:k<m:=by simpa using Ai
 have ih2:=ih.resolve_left (by omega)
 refine ac ?_
 refine ap ?_
 refine tp rfl (AA rfl underlying209 CN (vl rfl) (vl rfl) (by omega) (I_ hkm)) (tp rfl (AQ rfl C0 CN (vl rfl) rfl rfl) (tp rfl (Cq (ih2) rfl rfl) ?_))
 refine TO.ex 51 rfl (fun z51=> ?_)
 refine ap ?_
 · repeat' first|exact AJ _ (Lr)|exact Fin.AL (k+1) ⟨Ai,by omega⟩ ⟨⟨_,rfl,AE k⟩,ke rfl,trivial⟩|refine ac ?_|(refine Tr.cn rfl ?_ ?_<;>intro h q)
 have BJ:k=((List.replicate m (BR q)).length):=by have:=AH TJ;omega
 refine a3 ?_
 · exact AJ _ (Lr)
theorem Oq {t:Int} {b:Nat} {n:Bool} {m:Nat} {q:Pr} {D:Nat}  (hb:b≤1000) (hm:m≤20) (hD:D≤1000) (ih:m=0∨BA prog 119 [agg (BR q)] (KV D)):BA prog 119 [agg [int t,XA b,bool n,slice 4 (List.replicate m (BR q))]] (KV (D+1)):=by
 refine BA.of func119 rfl rfl (by exact Nb rfl) fun M0 w0=> ?_
 have hlr:(List.replicate m (BR q)).length=m:=List.length_replicate
 have hlb:(List.replicate b Qy).length=b:=List.length_replicate
 refine Tr.seq (Tr.Ah (co rfl (Bb rfl (Va rfl)) (cm rfl (Ch.nil (Fin.go (Tr.seq (Tr.Ah (cm rfl (Ch.nil (Fin.go (Tr.seq (Tr.seq (Tr.Ah ?_)))))))))))))
 refine cm rfl (Ch.nil (Fin.go (Tr.block (Tr.A9 [(1,_)] ⟨ke rfl,trivial⟩ (fun k:Nat=>[(4,int ((k:Nat):Int)),(3,KV D)]) (fun k:Nat=>k≤((List.replicate m (BR q)).length)) (fun k:Nat=>((List.replicate m (BR q)).length)-k) 0 (Nat.zero_le _) ⟨ke rfl,⟨_,rfl,AJ 0 (AU (by omega) (Lr))⟩,trivial⟩ ?_))))
 rintro k BP
 refine Tr.seq (Tr.seq (Tr.Ah (cm rfl (co rfl (S0 rfl LN rfl rfl) (co rfl (Gg rfl Rs rfl) (co rfl (Bz rfl underlying209 (vl rfl)) (co rfl (ki rfl rfl rfl rfl) (Ch.nil (Fin.go ?_)))))))))
 refine Tr.cn rfl ?_ ?_<;>intro h1 q1
 have Ai:k<((List.replicate m (BR q)).length):=AG h1
 have hkm:k<m:=by simpa using Ai
 have ih2:=ih.resolve_left (by omega)
 refine Tr.skip (Fin.go (Tr.seq (Tr.block (Tr.An (tm rfl ?_)))))
 refine TO.ex 12 rfl (fun z12=>TO.fact 12 rfl fun ABy=> ?_)
 refine tp rfl (S0 rfl LN rfl rfl) (tp rfl (Gg rfl Rs rfl) (tm rfl (tp rfl (AA rfl underlying209 CN (vl rfl) (vl rfl) (by omega) (I_ hkm)) (tp rfl (AQ rfl C0 CN (vl rfl) rfl rfl) (tp rfl (AR rfl (ih2) ⟨ke rfl,trivial⟩) ?_)))))
 refine TO.ex 18 rfl (fun z18=>TO.fact 18 rfl fun AAa=> ?_)
 refine tp rfl (KM rfl (vl rfl) (vl rfl)) (tm rfl (TO.nil (Fin.block (Fin.go (Cd 1 3 4 rfl (Tr.Ah (cm rfl (J8 rfl rfl rfl rfl (by omega) (cm rfl (Ch.nil (Fin.AL (k+1) ⟨Ai,by omega⟩ ⟨⟨_,rfl,AE k⟩,⟨_,rfl,AJ _ (AU (by omega) (Lr))⟩,ke rfl,trivial⟩)))))))))))
 have BJ:k=((List.replicate m (BR q)).length):=by have:=AH h1;omega
 refine Tr.exit (Fin.Ad (Fin.Ad (Fin.Ax (Fin.go (Tr.seq (Tr.An (tm rfl ?_)))))))
 refine TO.ex 20 rfl (fun z20=>TO.fact 20 rfl fun ABz=> ?_)
 refine tp rfl (Er rfl (vl rfl) (vl rfl) ?hin) ?_;case hin=>unfold Kz;omega
 refine tm rfl (TO.nil (Fin.go (Tr.ret (Fin.Jz rfl (Bc.DZ _ _) rfl ?_))))
 · exact AJ _ (AU (by omega) (Lr))
def Ot (n:Nat):Nat:=if h:n=0 then 0 else 1+Ot (n/256)
termination_by n
decreasing_by omega
theorem Qz:Ot 0=0:=by unfold Ot;simp
theorem Tm {n:Nat} (h:0<n):Ot n=1+Ot (n/256):=by conv=>lhs;unfold Ot;rw [dif_neg (by omega)]
theorem SF:∀(n:Nat),Ot n≤n:=by
 intro n
 induction n using Nat.strongRecOn with
 |_ n ih=>
  rcases Nat.eq_zero_or_pos n with h|h
  · subst h;rw [Qz];omega
  · rw [Tm h];have:=ih (n/256) (by omega);omega
def Yi (n:Nat):Nat:=if n<128 then 1 else 1+Ot n
theorem XD (n:Nat):Yi n≤n+1:=by unfold Yi;have:=SF n;split<;>omega
theorem XE (k:Int):Pr.le (slice 1 [[is (.int .u8 k)]]) (XA 1):=HF (l:=[()]) (f:=fun _=>k)
theorem Yj {n:Nat} (hn:n≤100000000):BA prog 147 [int ((n:Nat):Int)] (XA (Yi n)):=by
 refine fo func147 rfl ⟨rfl,rfl⟩ fun M0 w0=> ?_
 refine ac ?_
 refine an ?_ ?_<;>intro h1 q1
 refine ac ?_
 refine co rfl (EU rfl underlying3 underlying5 (vl rfl)) (co rfl (AM (xs:=[.tmp 7]) (rows:=[Qy]) rfl rfl underlying166 L1 z5 rfl (by decide) ⟨⟨(by exact rfl),VL.le (vl rfl) (Pr.le_trans (B6 _ _) (Ae _))⟩,trivial⟩ (by decide)) ?_)
 refine a2 ?_
 · refine Pr.le_trans (Bq _ _) (Pr.le_of_eq ?_);unfold Yi;rw [if_pos (by omega)];rfl
 refine a2 ?_
 refine Tr.seq (Tr.block (Tr.B0 5 1 (Tr.Cm [] trivial (fun (k:Nat) (acc:Nat) v=>[(0,int ((k:Nat):Int)),(3,Ag v (XA acc))]) (fun (k:Nat) (acc:Nat) v=>Hp M0 w0 FR ([Aq 5 1 v])) (fun (k:Nat) (acc:Nat)=>Ot k+acc=Ot n∧k≤n) (fun (k:Nat) (acc:Nat)=>k) (n) (0) (.slice none 0 0) (⟨by omega,by omega⟩) ⟨ke rfl,⟨_,rfl,Bf rfl⟩,trivial⟩ (fun _ _ h=>h) ?_)))
 rintro k acc v ⟨hk1,hk2⟩
 refine an ?_ ?_<;>intro h2 q2
 have hk0:0<k:=by have:=D_.Eo h2;omega
 have hdg:=Tm hk0
 have hle:=SF n
 refine ac ?_
 refine ap ?_
 refine tp rfl (Rd rfl (vl rfl) (vl rfl) (by omega)) (tp rfl (EU rfl underlying3 underlying5 (vl rfl)) (tp rfl (AM (xs:=[.tmp 13]) (rows:=[Qy]) rfl rfl underlying166 L1 z5 rfl (by decide) ⟨⟨(by exact rfl),VL.le (vl rfl) (Pr.le_trans (B6 _ _) (Ae _))⟩,trivial⟩ (by decide)) ?_))
 refine tm rfl (TO.pad ?_)
 refine TO.Dh 0 rfl rfl (by decide) (Bt rfl rfl rfl rfl underlying166 L1 Wq z5 (Kf rfl) (Kb rfl) (Bh (by exact List.Mem.head _) (vl rfl))) (fun v1=> ?_)
 refine ap ?_
 refine ac ?_
 refine co rfl (OC rfl (vl rfl) (vl rfl) (by omega)) ?_
 refine ac ?_
 refine Fin.drop 1 ?_
 exact Fin.BT (k/256) (acc+1) v1 (⟨⟨by omega,by omega⟩,by omega⟩) ⟨⟨_,rfl,int_eq (by rw [Int.tdiv_eq_ediv_of_nonneg (by omega),F8 (by unfold Kz;omega)];omega)⟩,⟨_,rfl,A7 (by rw [show ([Qy]:List (List Pr))=List.replicate 1 Qy from rfl,Lb,Nat.add_comm])⟩,trivial⟩ (fun _ _ h=>h)
 have hk0:k=0:=by have:=D_.Eo h2;omega
 subst hk0
 have hle:=SF n
 rw [Qz] at hk1
 refine ac ?_
 refine ap ?_
 refine tp rfl (Bz rfl underlying166 (Kb rfl)) (tp rfl (ki rfl rfl rfl rfl) (tp rfl (EU rfl underlying3 underlying5 (vl rfl)) (tp rfl (AM (xs:=[.tmp 22]) (rows:=[Qy]) rfl rfl underlying166 L1 z5 rfl (by decide) ⟨⟨(by exact rfl),VL.le (vl rfl) (Pr.le_trans (B6 _ _) (Ae _))⟩,trivial⟩ (by decide)) ?_)))
 refine tm rfl (TO.pad ?_)
 refine TO.Dh 0 rfl rfl (by decide) (Bt rfl rfl rfl rfl underlying166 L1 Wq z5 (Kf rfl) (Kb rfl) (Bh (by exact List.Mem.head _) (vl rfl))) (fun v2=> ?_)
 refine ap ?_
 refine ac ?_
 · refine Pr.le_trans (Ak _ _) (Pr.le_of_eq ?_);unfold Yi;rw [if_neg (by omega),show ([Qy]:List (List Pr))=List.replicate 1 Qy from rfl,Lb,show acc=Ot n by omega]
theorem VN {t:Int} {b:Nat} {n:Bool} {m:Nat} {q:Pr} {B:Nat}  (hb:b≤1000) (hm:m≤20) (hB:B≤1000000) (ih:m=0∨BA prog 120 [agg (BR q)] (ER B)):BA prog 120 [agg [int t,XA b,bool n,slice 4 (List.replicate m (BR q))]] (ER (2*(1000+20*B)+2)):=by
 refine fo func120 rfl ⟨rfl,rfl⟩ fun M0 w0=> ?_
 have hlr:(List.replicate m (BR q)).length=m:=List.length_replicate
 have hlb:(List.replicate b Qy).length=b:=List.length_replicate
 refine ac ?_
 refine ap ?_
 refine TO.pad ?_
 refine TO.Dh 0 rfl rfl (by decide) (Bt rfl rfl rfl rfl underlying166 L1 Wq z5 (Kf rfl) (vl rfl) (Bh (by exact List.Mem.head _) (vl rfl))) (fun v1=> ?_)
 refine ap ?_
 refine ac ?_
 refine Tr.block (Tr.Cm [(1,_)] ⟨ke rfl,trivial⟩ (fun (k:Nat) (acc:Nat) v=>[(4,int ((k:Nat):Int)),(3,Ag v (XA acc))]) (fun (k:Nat) (acc:Nat) v=>Hp M0 w0 FR ([Aq 5 1 v])) (fun (k:Nat) (acc:Nat)=>k≤m∧acc≤b+k*B) (fun (k:Nat) (acc:Nat)=>m-k) (0) (b) v1 (⟨by omega,by omega⟩) ⟨ke rfl,⟨_,rfl,A7 (by simp)⟩,trivial⟩ (fun _ _ h=>h) ?_)
 rintro k acc v ⟨hk1,hk2⟩
 have hkB:k*B≤20*B:=Nat.mul_le_mul_right B (by omega)
 refine ac ?_
 refine co rfl (Bz rfl underlying209 (vl rfl)) ?_
 refine an ?_ ?_<;>intro h1 q1
 have hkm:k<m:=by have:=D_.Eo h1;rw [hlr] at this;omega
 have ih2:=ih.resolve_left (by omega)
 refine ac ?_
 refine ap ?_
 refine tp rfl (AA rfl underlying209 CN (vl rfl) (vl rfl) (by omega) (I_ hkm)) (tp rfl (AQ rfl C0 CN (vl rfl) rfl rfl) (tp rfl (Cq (ih2) rfl rfl) ?_))
 refine TO.ex 22 rfl (fun z22=>TO.fact 22 rfl fun AB0=> ?_)
 refine TO.Dh 0 rfl rfl (by decide) (Bt rfl rfl rfl rfl underlying166 L1 Wq z5 (Kb rfl) (vl rfl) (Au (by exact List.Mem.head _) (Ka rfl))) (fun v2=> ?_)
 refine ap ?_
 refine Cd 1 3 4 rfl ?_
 refine ac ?_
 exact Fin.BT (k+1) (acc+z22) v2 (⟨⟨by omega,by rw [Nat.succ_mul];omega⟩,by omega⟩) ⟨⟨_,rfl,AE k⟩,⟨_,rfl,A7 (by rw [Lb])⟩,ke rfl,trivial⟩ (fun _ _ h=>h)
 have VO:k=m:=by have:=D_.Eo h1;rw [hlr] at this;omega
 have Yk:=XD acc
 refine ac ?_
 refine Tr.seq (Tr.pad (Tr.rx ?_))
 refine ay ?_
 refine xo rfl (fun _=>EU rfl underlying3 underlying5 (vl rfl)) (xo rfl (fun _=>AM (xs:=[.tmp 26]) (rows:=[Qy]) rfl rfl underlying166 L1 z5 rfl (by decide) ⟨⟨(by exact rfl),VL.le (vl rfl) (Pr.le_trans (B6 _ _) (Ae _))⟩,trivial⟩ (by decide)) ?_)
 refine xm rfl (xo rfl (fun _=>Bz rfl underlying166 (Kb rfl)) ?_)
 refine xo rfl (fun _=>AR rfl (Yj (n:=acc) (by omega)) ⟨⟨_,rfl,int_eq (by simp)⟩,trivial⟩) ?_
 refine Cx.ef 0 rfl rfl (by decide) (Bt rfl rfl rfl rfl underlying166 L1 Wq z5 (Kf rfl) (vl rfl) (Bh (by exact List.Mem.head _) (vl rfl))) ?_
 refine xm rfl ?_
 refine Cx.ef 0 rfl rfl (by decide) (Bt rfl rfl rfl rfl underlying166 L1 Wq z5 (vl rfl) (Kb rfl) YM) ?_
 refine Cx.ef 0 rfl rfl (by decide) (Rh rfl rfl (by decide) rfl (vl rfl)) ?_
 refine Cx.nil ⟨by kernel_rfl,?_⟩
 refine BH.open_ 0 2 rfl rfl (fun v3=> ?_)
 refine BH.done YY (Fin.go (FX 2 rfl ?_))
 refine ac ?_
 · exact B9 (m:=1+Yi acc+acc) (by have:=XD acc;omega) (Pr.le_trans (Ak _ _) (Pr.le_of_eq (by rw [show ([Qy]:List (List Pr))=List.replicate 1 Qy from rfl,Lb,Lb])))
theorem Yl {q:Pr} {D B:Nat} (hf:BA prog 118 [agg (BR q)] Dw) (hd:BA prog 119 [agg (BR q)] (KV D)) (hp:BA prog 120 [agg (BR q)] (ER B)):BA prog 96 [agg (BR q)] (EK [ER B,F5 .i64]):=by
 refine fo func96 rfl ⟨rfl,rfl⟩ fun M0 w0=> ?_
 refine ac ?_
 refine ap ?_
 refine tp rfl (Cq (hf) rfl rfl) ?_
 refine TO.ex 6 rfl (fun z6=> ?_)
 refine ap ?_
 refine Tr.cn rfl ?_ ?_<;>intro h1 q1
 refine ac ?_
 refine Tr.ret (Fin.AD (Fin.DG rfl (Bc.DZ _ _) rfl ?_ rfl ?_))
 · exact B9 (m:=0) (by omega) (AF 1)
 · exact B6 _ _
 refine ac ?_
 refine ap ?_
 refine tp rfl (Cq (hd) rfl rfl) ?_
 refine TO.ex 9 rfl (fun z9=>TO.fact 9 rfl fun hz9=> ?_)
 refine ap ?_
 refine Tr.cn rfl ?_ ?_<;>intro h2 q2
 refine ac ?_
 refine Tr.ret (Fin.AD (Fin.DG rfl (Bc.DZ _ _) rfl ?_ rfl ?_))
 · exact B9 (m:=0) (by omega) (AF 1)
 · exact B6 _ _
 refine a2 ?_
 refine co rfl (Cq (hp) rfl rfl) ?_
 refine ac ?_
 refine ap ?_
 refine TO.ex 13 rfl (fun z13=>TO.fact 13 rfl fun AB1=> ?_)
 refine tp rfl (Bz rfl underlying166 (vl rfl)) ?_
 refine ap ?_
 refine Cc 4 15 rfl ?_
 refine Tr.cn rfl ?_ ?_<;>intro h3 q3
 refine ac ?_
 refine Tr.ret (Fin.AD (Fin.DG rfl (Bc.DZ _ _) rfl ?_ rfl ?_))
 · exact B9 (m:=0) (by omega) (AF 1)
 · exact B6 _ _
 refine a2 ?_
 refine Tr.ret (Fin.DG rfl (Bc.DZ _ _) rfl ?_ rfl ?_)
 · exact Lr
 · exact B6 _ _
theorem jY:IntKind.u8.wrap 0=0:=rfl
def lvI (x:Int):Nat:=if x≤0 then 0 else if x<256 then 1 else if x<65536 then 2 else if x<16777216 then 3 else if x<4294967296 then 4 else if x<1099511627776 then 5 else 6+x.toNat
theorem cE {x:Int} (h:0<x):lvI (x/256)<lvI x:=by
 unfold lvI
 repeat' split
 all_goals omega
def JA (x h:Int):Nat:=if x=0 then (if 128≤h then 1 else 0) else lvI x+1
theorem jZ {n h:Int} (h0:0≤n) (h1:n≤1099511627776):JA (n/256) h≤400:=by
 unfold JA lvI
 repeat' split
 all_goals omega
theorem GW {x h:Int} {t:Nat} (h0:0≤x) (hc:x≠0∨128≤h) (hi:t+JA x h≤400):(0≤x/256∧t+1+JA (x/256) (IntKind.u8.wrap x)≤400)∧JA (x/256) (IntKind.u8.wrap x)<JA x h:=by
 have key:JA (x/256) (IntKind.u8.wrap x)<JA x h:=by
  unfold JA
  by_cases hx:x=0
  ·
   subst hx
   rw [jY,if_pos (by decide),if_neg (by decide),if_pos rfl,if_pos (by omega)];decide
  ·
   have:=cE (x:=x) (by omega)
   rw [if_neg hx]
   by_cases hy:x/256=0
   ·
    rw [if_pos hy];have:(if 128≤IntKind.u8.wrap x then 1 else 0)≤1:=by split<;>omega
    omega
   · rw [if_neg hy];omega
 exact ⟨⟨by omega,by omega⟩,key⟩
theorem G4 {P:Program} {I:CU} {E:Env} {o:Oper} {t u:TypeId} {x y:Operand} {m:Int} (ho:o.op= .binOp .shr t x y u) (hx:VL E x (int m)) (hy:VL E y (is (.int .u64 8))) (h0:0≤m):Aa P I o E (int (m/256)):=
 Aa.same fun M w a he _=>by
  have h1:a.eval x= .int .i64 m:=hx.ev he (by simp [ho,Op.operands])
  have h2:a.eval y= .int .u64 8:=hy.ev he (by simp [ho,Op.operands])
  refine ⟨.int .i64 (m.fdiv 256),?_,congrArg (Value.int .i64) (Int.fdiv_eq_ediv_of_nonneg m (by omega))⟩
  simp only [execOp,ho,h1,h2]
  simp [eqGuard,binOp,Op.shift,IntKind.bits]
abbrev q0:Pr:=slice 4 []
theorem KW {n:Int} (hn:0≤n∧n≤1099511627776):BA prog 123 [int n] (agg (BR q0)):=by
 refine fo func123 rfl ⟨rfl,rfl⟩ fun M0 w0=>(Tr.seq (Tr.An ?_))
 refine Tl rfl rfl rfl rfl MH KA (fun b1=> ?_)
 refine ap ?_
 refine ac ?_
 refine co rfl (EU rfl underlying3 underlying5 (vl rfl)) ?_
 refine a2 ?_
 refine co rfl (G4 rfl (vl rfl) (vl rfl) (by omega)) ?_
 refine ac ?_
 refine Tr.block ?_
 refine Tr.Iy [(2,_)] ⟨ke rfl,trivial⟩ (fun (x:Int) (h:Int) (t:List Int)=>[(4,int x),(3,slice 1 ((h::t).map fun n=>[is (.int .u8 n)]))]) (fun (x:Int) (h:Int) (t:List Int)=>Hp M0 w0 FR ([AB true b1 211 (([.int .i64 0,.slice none 0 0,.bool false,.slice none 0 0]:List Value).map is)])) (fun (x:Int) (h:Int) (t:List Int)=>0≤x∧t.length+JA x h≤400) (fun (x:Int) (h:Int) (t:List Int)=>JA x h) (n/256) (IntKind.u8.wrap n) ([])  (⟨by omega,by simp only [List.length_nil];have:=jZ (h:=IntKind.u8.wrap n) hn.1 hn.2;omega⟩) ⟨ke rfl,⟨_,rfl,Pr.le_trans (Bq _ _) (Pr.le_of_eq rfl)⟩,trivial⟩ (fun _ _ h=>h) ?_
 rintro x h t  ⟨hx0,hmu⟩
 refine ag ?_ ?_<;>intro h1 q1
 refine ag ?_ ?_<;>intro h2 q2
 refine ac ?_
 refine Ef 2 3 4 35 rfl ?_
 refine ac ?_
 refine ap ?_
 refine tp rfl (EU rfl underlying3 underlying5 (vl rfl)) ?_
 refine ap ?_
 refine TO.pad ?_
 refine TO.Dh 0 rfl rfl (by decide) (Bt rfl rfl rfl rfl underlying166 L1 Wq z5 (Kf rfl) (vl rfl) (Bh (by exact List.Mem.head _) (vl rfl))) (fun v1=> ?_)
 refine ap ?_
 refine ac ?_
 refine co rfl (G4 rfl (vl rfl) (vl rfl) (by omega)) ?_
 refine ac ?_
 refine Fin.drop 0 (Fin.EV (x/256) (IntKind.u8.wrap x) (h::t)  ((GW hx0 (by omega) hmu)) ⟨ke rfl,⟨_,rfl,Pr.le_trans (Ak _ _) (Pr.le_of_eq rfl)⟩,ke rfl,trivial⟩ (fun _ _ h=>h))
 refine ag ?_ ?_<;>intro h3 q3
 refine Jd h3 rfl ?_
 refine cy h3 rfl (AA rfl underlying166 L1 (vl rfl) (vl rfl) (by omega) (AP (k:=0) rfl)) ?_
 refine ag ?_ ?_<;>intro h4 q4
 refine ac ?_
 refine Ef 2 3 4 35 rfl ?_
 refine ac ?_
 refine ap ?_
 refine tp rfl (EU rfl underlying3 underlying5 (vl rfl)) ?_
 refine ap ?_
 refine TO.pad ?_
 refine TO.Dh 0 rfl rfl (by decide) (Bt rfl rfl rfl rfl underlying166 L1 Wq z5 (Kf rfl) (vl rfl) (Bh (by exact List.Mem.head _) (vl rfl))) (fun v2=> ?_)
 refine ap ?_
 refine ac ?_
 refine co rfl (G4 rfl (vl rfl) (vl rfl) (by omega)) ?_
 refine ac ?_
 refine Fin.drop 0 (Fin.EV (x/256) (IntKind.u8.wrap x) (h::t)  ((GW hx0 (by omega) hmu)) ⟨ke rfl,⟨_,rfl,Pr.le_trans (Ak _ _) (Pr.le_of_eq rfl)⟩,ke rfl,trivial⟩ (fun _ _ h=>h))
 refine ag ?_ ?_<;>intro h5 q5
 refine Jd h5 rfl ?_
 refine cy h5 rfl (AA rfl underlying166 L1 (vl rfl) (vl rfl) (by omega) (AP (k:=0) rfl)) ?_
 refine ac ?_
 refine Ef 2 3 4 35 rfl ?_
 refine Tr.cn rfl ?_ ?_<;>intro h6 q6
 have Tn:=h6
 refine ac ?_
 refine ap ?_
 refine tp rfl (EU rfl underlying3 underlying5 (vl rfl)) ?_
 refine ap ?_
 refine TO.pad ?_
 refine TO.Dh 0 rfl rfl (by decide) (Bt rfl rfl rfl rfl underlying166 L1 Wq z5 (Kf rfl) (vl rfl) (Bh (by exact List.Mem.head _) (vl rfl))) (fun v3=> ?_)
 refine ap ?_
 refine ac ?_
 refine co rfl (G4 rfl (vl rfl) (vl rfl) (by omega)) ?_
 refine ac ?_
 refine Fin.drop 0 (Fin.EV (x/256) (IntKind.u8.wrap x) (h::t)  ((GW hx0 (by omega) hmu)) ⟨ke rfl,⟨_,rfl,Pr.le_trans (Ak _ _) (Pr.le_of_eq rfl)⟩,ke rfl,trivial⟩ (fun _ _ h=>h))
 have Tn:=h6
 refine ac ?_
 refine ap ?_
 refine Tr.ret (Fin.CS rfl (AO.cell 0 rfl rfl C0 CN rfl (Lr)) ?_)
 · exact Aw ⟨B6 _ _,B9 (m:=(h::t).length) (by simp only [List.length_cons];omega) HF,AJ _ (Lr),AF 4,trivial⟩
 refine ac ?_
 refine Ef 2 3 4 35 rfl ?_
 refine ac ?_
 refine ap ?_
 refine Tr.ret (Fin.CS rfl (AO.cell 0 rfl rfl C0 CN rfl (Lr)) ?_)
 · exact Aw ⟨B6 _ _,B9 (m:=(h::t).length) (by simp only [List.length_cons];omega) HF,AJ _ (Lr),AF 4,trivial⟩
 refine ag ?_ ?_<;>intro h7 q7
 refine Jd h7 rfl ?_
 refine cy h7 rfl (AA rfl underlying166 L1 (vl rfl) (vl rfl) (by omega) (AP (k:=0) rfl)) ?_
 refine ac ?_
 refine Ef 2 3 4 35 rfl ?_
 refine Tr.cn rfl ?_ ?_<;>intro h8 q8
 have Tn:=h8
 refine ac ?_
 refine ap ?_
 refine tp rfl (EU rfl underlying3 underlying5 (vl rfl)) ?_
 refine ap ?_
 refine TO.pad ?_
 refine TO.Dh 0 rfl rfl (by decide) (Bt rfl rfl rfl rfl underlying166 L1 Wq z5 (Kf rfl) (vl rfl) (Bh (by exact List.Mem.head _) (vl rfl))) (fun v4=> ?_)
 refine ap ?_
 refine ac ?_
 refine co rfl (G4 rfl (vl rfl) (vl rfl) (by omega)) ?_
 refine ac ?_
 refine Fin.drop 0 (Fin.EV (x/256) (IntKind.u8.wrap x) (h::t)  ((GW hx0 (by omega) hmu)) ⟨ke rfl,⟨_,rfl,Pr.le_trans (Ak _ _) (Pr.le_of_eq rfl)⟩,ke rfl,trivial⟩ (fun _ _ h=>h))
 have Tn:=h8
 refine ac ?_
 refine ap ?_
 refine Tr.ret (Fin.CS rfl (AO.cell 0 rfl rfl C0 CN rfl (Lr)) ?_)
 · exact Aw ⟨B6 _ _,B9 (m:=(h::t).length) (by simp only [List.length_cons];omega) HF,AJ _ (Lr),AF 4,trivial⟩
 refine ac ?_
 refine Ef 2 3 4 35 rfl ?_
 refine ac ?_
 refine ap ?_
 refine Tr.ret (Fin.CS rfl (AO.cell 0 rfl rfl C0 CN rfl (Lr)) ?_)
 · exact Aw ⟨B6 _ _,B9 (m:=(h::t).length) (by simp only [List.length_cons];omega) HF,AJ _ (Lr),AF 4,trivial⟩
 refine ag ?_ ?_<;>intro h9 q9
 refine Jd h9 rfl ?_
 refine cy h9 rfl (AA rfl underlying166 L1 (vl rfl) (vl rfl) (by omega) (AP (k:=0) rfl)) ?_
 refine ag ?_ ?_<;>intro h10 QH
 refine ac ?_
 refine Ef 2 3 4 35 rfl ?_
 refine ac ?_
 refine ap ?_
 refine tp rfl (EU rfl underlying3 underlying5 (vl rfl)) ?_
 refine ap ?_
 refine TO.pad ?_
 refine TO.Dh 0 rfl rfl (by decide) (Bt rfl rfl rfl rfl underlying166 L1 Wq z5 (Kf rfl) (vl rfl) (Bh (by exact List.Mem.head _) (vl rfl))) (fun v5=> ?_)
 refine ap ?_
 refine ac ?_
 refine co rfl (G4 rfl (vl rfl) (vl rfl) (by omega)) ?_
 refine ac ?_
 refine Fin.drop 0 (Fin.EV (x/256) (IntKind.u8.wrap x) (h::t)  ((GW hx0 (by omega) hmu)) ⟨ke rfl,⟨_,rfl,Pr.le_trans (Ak _ _) (Pr.le_of_eq rfl)⟩,ke rfl,trivial⟩ (fun _ _ h=>h))
 refine ag ?_ ?_<;>intro h11 QG
 refine Jd h11 rfl ?_
 refine cy h11 rfl (AA rfl underlying166 L1 (vl rfl) (vl rfl) (by omega) (AP (k:=0) rfl)) ?_
 refine ac ?_
 refine Ef 2 3 4 35 rfl ?_
 refine Tr.cn rfl ?_ ?_<;>intro h12 Ul
 have Tn:=h12
 refine ac ?_
 refine ap ?_
 refine tp rfl (EU rfl underlying3 underlying5 (vl rfl)) ?_
 refine ap ?_
 refine TO.pad ?_
 refine TO.Dh 0 rfl rfl (by decide) (Bt rfl rfl rfl rfl underlying166 L1 Wq z5 (Kf rfl) (vl rfl) (Bh (by exact List.Mem.head _) (vl rfl))) (fun v6=> ?_)
 refine ap ?_
 refine ac ?_
 refine co rfl (G4 rfl (vl rfl) (vl rfl) (by omega)) ?_
 refine ac ?_
 refine Fin.drop 0 (Fin.EV (x/256) (IntKind.u8.wrap x) (h::t)  ((GW hx0 (by omega) hmu)) ⟨ke rfl,⟨_,rfl,Pr.le_trans (Ak _ _) (Pr.le_of_eq rfl)⟩,ke rfl,trivial⟩ (fun _ _ h=>h))
 have Tn:=h12
 refine ac ?_
 refine ap ?_
 refine Tr.ret (Fin.CS rfl (AO.cell 0 rfl rfl C0 CN rfl (Lr)) ?_)
 · exact Aw ⟨B6 _ _,B9 (m:=(h::t).length) (by simp only [List.length_cons];omega) HF,AJ _ (Lr),AF 4,trivial⟩
 refine ac ?_
 refine Ef 2 3 4 35 rfl ?_
 refine ac ?_
 refine ap ?_
 refine Tr.ret (Fin.CS rfl (AO.cell 0 rfl rfl C0 CN rfl (Lr)) ?_)
 · exact Aw ⟨B6 _ _,B9 (m:=(h::t).length) (by simp only [List.length_cons];omega) HF,AJ _ (Lr),AF 4,trivial⟩
 refine ag ?_ ?_<;>intro Ms Yh
 refine Jd Ms rfl ?_
 refine cy Ms rfl (AA rfl underlying166 L1 (vl rfl) (vl rfl) (by omega) (AP (k:=0) rfl)) ?_
 refine ac ?_
 refine Ef 2 3 4 35 rfl ?_
 refine Tr.cn rfl ?_ ?_<;>intro Lz jc
 have Tn:=Lz
 refine ac ?_
 refine ap ?_
 refine tp rfl (EU rfl underlying3 underlying5 (vl rfl)) ?_
 refine ap ?_
 refine TO.pad ?_
 refine TO.Dh 0 rfl rfl (by decide) (Bt rfl rfl rfl rfl underlying166 L1 Wq z5 (Kf rfl) (vl rfl) (Bh (by exact List.Mem.head _) (vl rfl))) (fun v7=> ?_)
 refine ap ?_
 refine ac ?_
 refine co rfl (G4 rfl (vl rfl) (vl rfl) (by omega)) ?_
 refine ac ?_
 refine Fin.drop 0 (Fin.EV (x/256) (IntKind.u8.wrap x) (h::t)  ((GW hx0 (by omega) hmu)) ⟨ke rfl,⟨_,rfl,Pr.le_trans (Ak _ _) (Pr.le_of_eq rfl)⟩,ke rfl,trivial⟩ (fun _ _ h=>h))
 have Tn:=Lz
 refine ac ?_
 refine ap ?_
 refine Tr.ret (Fin.CS rfl (AO.cell 0 rfl rfl C0 CN rfl (Lr)) ?_)
 · exact Aw ⟨B6 _ _,B9 (m:=(h::t).length) (by simp only [List.length_cons];omega) HF,AJ _ (Lr),AF 4,trivial⟩
 refine ac ?_
 refine Ef 2 3 4 35 rfl ?_
 refine ac ?_
 refine ap ?_
 refine Tr.ret (Fin.CS rfl (AO.cell 0 rfl rfl C0 CN rfl (Lr)) ?_)
 · exact Aw ⟨B6 _ _,B9 (m:=(h::t).length) (by simp only [List.length_cons];omega) HF,AJ _ (Lr),AF 4,trivial⟩
theorem SG {s:List UInt8} (hs:s.length≤1000):BA prog 121 [str s] (agg (BR q0)):=by
 refine fo func121 rfl ⟨rfl,rfl⟩ fun M0 w0=>(Tr.seq (Tr.An ?_))
 refine Tl rfl rfl rfl rfl MH KA (fun b1=> ?_)
 refine ap ?_
 refine ap ?_
 refine tp rfl (bC rfl underlying9 underlying166 underlying5 (vl rfl) (by unfold maxLen;omega)) ?_
 refine ap ?_
 refine Tr.ret (Fin.CS rfl (AO.cell 0 rfl rfl C0 CN rfl (Lr)) ?_)
 · exact Aw ⟨B6 _ _,B9 (m:=s.length) (by omega) (HF (f:=fun c:UInt8=>((c.toNat:Nat):Int))),AJ _ (Lr),AF 4,trivial⟩
theorem jd {b:Bool}  :BA prog 125 [bool b] (agg (BR q0)):=by
 refine fo func125 rfl ⟨rfl,rfl⟩ fun M0 w0=>(Tr.seq (Tr.An ?_))
 refine Tl rfl rfl rfl rfl MH KA (fun b1=> ?_)
 refine ap ?_
 refine an ?_ ?_<;>intro h1 q1
 refine ap ?_
 refine tp rfl (Al (rows:=[(0,[_]),(1,[_])]) rfl bA KA ⟨⟨rfl,(Vo rfl)⟩,⟨⟨rfl,⟨_,rfl,Pr.le_trans (Bq _ _) (Ae _)⟩⟩,trivial⟩⟩ rfl) ?_
 refine ap ?_
 refine Tr.ret (Fin.AD (Fin.CS rfl (AO.cell 0 rfl rfl C0 CN rfl (Lr)) ?_))
 · exact Aw ⟨B6 _ _,B9 (m:=1) (by omega) (XE _),AJ _ (Lr),AF 4,trivial⟩
 refine ac ?_
 refine ap ?_
 refine tp rfl (Al (rows:=[(0,[_]),(1,[_])]) rfl bA KA ⟨⟨rfl,(Vo rfl)⟩,⟨⟨rfl,⟨_,rfl,Pr.le_trans (Bq _ _) (Ae _)⟩⟩,trivial⟩⟩ rfl) ?_
 refine ap ?_
 refine Tr.ret (Fin.CS rfl (AO.cell 0 rfl rfl C0 CN rfl (Lr)) ?_)
 · exact Aw ⟨B6 _ _,B9 (m:=1) (by omega) (XE _),AJ _ (Lr),AF 4,trivial⟩
theorem MN {m:Nat} {q:Pr} [One q]  (hm:m≤20) (ih:m=0∨BA prog 148 [q] q):BA prog 148 [slice 4 (List.replicate m (BR q))] (slice 4 (List.replicate m (BR q))):=by
 refine BA.of func148 rfl rfl (by exact Nb rfl) fun M0 w0=> ?_
 have hlr:(List.replicate m (BR q)).length=m:=List.length_replicate
 refine Tr.seq (Tr.Ah (cm rfl (Ch.nil (Fin.go (Tr.seq (Tr.Ah (cm rfl (Ch.nil (Fin.go (Tr.seq (Tr.seq (Tr.Ah (cm rfl ?_)))))))))))))
 refine Ch.nil (Fin.go (Tr.block (Tr.B0 211 4 (Tr.E8 [(0,_)] ⟨ke rfl,trivial⟩ (fun k v=>[(4,int ((k:Nat):Int)),(3,Ag v (slice 4 (List.replicate k (BR q))))]) (fun k v=>Hp M0 w0 FR ([Aq 211 4 v])) (fun k:Nat=>k≤((List.replicate m (BR q)).length)) (fun k:Nat=>((List.replicate m (BR q)).length)-k) 0 (.slice none 0 0) (Nat.zero_le _) ⟨ke rfl,⟨_,rfl,Bf rfl⟩,trivial⟩ (fun _ _ h=>h) ?_))))
 rintro k v BP
 refine Tr.seq (Tr.seq (Tr.Ah (cm rfl (cm rfl (co rfl (Bz rfl underlying209 (vl rfl)) (co rfl (ki rfl rfl rfl rfl) (Ch.nil (Fin.go ?_))))))))
 refine Tr.cn rfl ?_ ?_<;>intro h1 q1
 have Ai:k<((List.replicate m (BR q)).length):=AG h1
 have hkm:k<m:=by simpa using Ai
 have ih2:=ih.resolve_left (by omega)
 refine Tr.skip (Fin.go (Tr.seq (Tr.block (Tr.seq (Tr.An (tm rfl (tm rfl (tp rfl (AA rfl underlying209 CN (vl rfl) (vl rfl) (by omega) (I_ hkm)) (tp rfl (AQ rfl C0 CN (vl rfl) rfl rfl) ?_)))))))))
 refine Tl rfl rfl rfl rfl MH KA (fun b1=> ?_)
 refine TO.AK 0 rfl rfl rfl (vl rfl) (Va rfl) rfl CN rfl rfl (TO.nil (Fin.go (Tr.seq (Tr.An (tp rfl (AM (xs:=[]) (rows:=[]) rfl rfl underlying166 L1 z5 rfl (by decide) trivial (by decide)) (tp rfl (Ac rfl Rt (vl rfl)) (TO.rd 0 rfl rfl rfl (by decide) (A_ rfl a_ (vl rfl) rfl) ?_)))))))
 refine TO.ex 18 rfl (fun z18=>TO.fact 18 rfl fun AAa=> ?_)
 refine TO.pad ?_
 refine TO.Dh 0 rfl rfl (by decide) (Bt rfl rfl rfl rfl underlying166 L1 Wq z5 (Kf rfl) (vl rfl) (Bh (by exact List.Mem.head _) (vl rfl))) (fun v1=> ?_)
 refine tp rfl (Ac rfl Rt (vl rfl)) (TO.Dz 1 rfl rfl (A0 rfl rfl (vl rfl) (Vo rfl) uE rfl (by exact Nb rfl) rfl) (TO.nil (Fin.go (Ef 0 3 4 5 rfl (Tr.seq (Tr.An (tp rfl (Ac rfl LN (vl rfl)) (TO.rd 1 rfl rfl rfl (by decide) (A_ rfl Rs (vl rfl) rfl) (tp rfl (AR rfl (ih2) ⟨ke rfl,trivial⟩) (tp rfl (Ac rfl LN (vl rfl)) (TO.Dz 1 rfl rfl (A0 rfl rfl (vl rfl) (Vo rfl) uJ rfl (by exact Nb rfl) rfl) (TO.nil (Fin.go (Tr.An ?_))))))))))))))
 refine tm rfl (TO.rd 1 rfl rfl rfl (by decide) (CI rfl C0 CN (vl rfl) rfl rfl) (tp rfl (AM (xs:=[.tmp 26]) (rows:=[BR q]) rfl rfl underlying209 CN MH rfl (by decide) ⟨⟨(by exact rfl),VL.le (vl rfl) (Pr.le_trans (Aw (qs:=BR q) ⟨Lr,B9 (m:=z18) (by omega) (Pr.le_trans (Ak _ _) (Pr.le_of_eq rfl)),Lr,Lr,trivial⟩) (AZ _))⟩,trivial⟩ (by decide)) ?_))
 refine TO.Dh 2 rfl rfl (by decide) (Bt rfl rfl rfl rfl underlying209 CN mO MH (Kb rfl) (Kf rfl) (Au (by exact List.Mem.head _) (Ka rfl))) (fun v2=> ?_)
 refine tm rfl (TO.nil (Fin.block (Fin.go (Tr.drop 1 (Tr.Ah (cm rfl (J8 rfl rfl rfl rfl (by omega) (cm rfl (Ch.nil (Fin.drop 0 (Fin.Da (k+1) v2 (⟨Ai,by omega⟩) ⟨⟨_,rfl,AE k⟩,⟨_,rfl,A7 (by rw [XB])⟩,ke rfl,trivial⟩ (fun _ _ h=>h))))))))))))
 have BJ:k=((List.replicate m (BR q)).length):=by have:=AH h1;omega
 refine Tr.exit (Fin.Ad (Fin.Ad (Fin.Ax (Fin.go (Tr.seq (Tr.Ah (cm rfl (cm rfl (Ch.nil (Fin.go (Tr.ret (Fin.Jz rfl (Bc.DZ _ _) rfl ?_))))))))))))
 · exact Pr.le_trans (Ak _ _) (Pr.le_of_eq (by rw [BJ,hlr]))
theorem SH {m:Nat} {q:Pr}  (hm:m≤20) (hc:BA prog 148 [slice 4 (List.replicate m (BR q))] (slice 4 (List.replicate m (BR q)))):BA prog 122 [slice 4 (List.replicate m (BR q))] (agg (BR (I9 (BR q)))):=by
 refine fo func122 rfl ⟨rfl,rfl⟩ fun M0 w0=>(Tr.seq (Tr.An ?_))
 refine Tl rfl rfl rfl rfl MH KA (fun b1=> ?_)
 refine ap ?_
 refine ap ?_
 refine tp rfl (Cq (hc) rfl rfl) ?_
 refine ap ?_
 refine Tr.ret (Fin.CS rfl (AO.cell 0 rfl rfl C0 CN rfl (Lr)) ?_)
 · exact Aw ⟨B6 _ _,B9 (m:=0) (by omega) (AF 1),AJ _ (Lr),AJ m (AU hm (Lr)),trivial⟩
structure Ie.vf (c:Ie):Prop where
 s0:0≤c.I5
 s1:c.I5≤1099511627776
 iss:named c.MK=true
 sub:named c.Jh=true
 nm:GU c.names=true
 key:GC c.QE c.KB 2=true
 k0:0≤c.CG
 k1:c.CG≤2147483648
 hash:GC c.VI c.Om 1=true
 sk0:0≤c.jO
 sk1:c.jO≤2147483648
 su0:0≤c.jP
 su1:c.jP<4294967296
 f0:0≤c.from_
 ft:c.from_≤c.ML
 t1:c.ML≤40000
 p0:0≤c.path
 p1:c.path≤8
 ap:c.auth=true∨c.path=0
theorem De {c:Ie} (hv:Dc c=true):c.vf:=by
 simp only [Dc,GS,pX,Bool.and_eq_true,Bool.or_eq_true,decide_eq_true_eq,beq_iff_eq] at hv
 obtain ⟨⟨⟨⟨⟨⟨⟨h1,h2⟩,h3⟩,h4⟩,h5⟩,⟨⟨⟨⟨h6,⟨h7,h8⟩⟩,h9⟩,⟨h10,h11⟩⟩,⟨h12,Ms⟩⟩⟩,⟨⟨Lz,TJ⟩,h16⟩⟩,⟨⟨NN,P4⟩,gS⟩⟩:=hv
 exact ⟨h1,h2,h3,h4,h5,h6,h7,h8,h9,h10,h11,h12,Ms,Lz,TJ,h16,NN,P4,gS⟩
theorem XF {c:Ie} (h:c.vf):Dc c=true:=by
 simp only [Dc,GS,pX,Bool.and_eq_true,Bool.or_eq_true,decide_eq_true_eq,beq_iff_eq]
 exact ⟨⟨⟨⟨⟨⟨⟨h.s0,h.s1⟩,h.iss⟩,h.sub⟩,h.nm⟩,⟨⟨⟨⟨h.key,⟨h.k0,h.k1⟩⟩,h.hash⟩,⟨h.sk0,h.sk1⟩⟩,⟨h.su0,h.su1⟩⟩⟩,⟨⟨h.f0,h.ft⟩,h.t1⟩⟩,⟨⟨h.p0,h.p1⟩,h.ap⟩⟩
theorem VP {a b k:Int} (h:GC a b k=true):decide (DN a b>0)=true∧(EP a).kind=k:=by
 unfold GC at h;simpa using h
theorem SI {l:List (List UInt8)} {k:Nat} {s:List UInt8} (h:nameAt l k=true) (hs:l[k]? =some s):named s=true:=by
 unfold nameAt at h;rw [hs] at h;simp at h;exact h.1
theorem XG {l:List (List UInt8)} {k:Nat} {s y:List UInt8} (h:nameAt l k=true) (hs:l[k]? =some s) (hy:l[k-1]? =some y) (hk:0<k):decide (Lib.compareBytes y s= -1)=true:=by
 unfold nameAt at h;rw [hs,hy] at h;simp at h
 rcases h.2 with h2|h2
 · omega
 · simpa using h2
theorem Q0 {c:Ie} (hv:Dc c=true):BA prog 69 [agg (FN c)] (int 0):=by
 refine fo func69 rfl ⟨rfl,rfl⟩ fun M0 w0=> ?_
 obtain ⟨hs0,hs1,pg,hsub,hnm,hkey,hk0,hk1,mg,AAb,AAc,AAd,AAe,Z3,hft,ht1,nZ,bL,hap⟩:=De hv
 obtain ⟨vm,vn⟩:=VP hkey
 obtain ⟨hh1,hh2⟩:=VP mg
 have MO:=hnm
 unfold GU at MO
 rw [Bool.and_eq_true,Bn,decide_eq_true_eq] at MO
 obtain ⟨hall,vo⟩:=MO
 refine ac ?_
 refine ag ?_ ?_<;>intro h1 q1
 exfalso;have:=q1;omega
 refine ag ?_ ?_<;>intro h2 q2
 exfalso;have:=q2;omega
 refine ac ?_
 refine cy h2 rfl (Cq (GA) rfl rfl) ?_
 refine ag ?_ ?_<;>intro h3 q3
 rw [pg] at h3;exact absurd h3 (by decide)
 refine ac ?_
 refine cy h3 rfl (Cq (GA) rfl rfl) ?_
 refine ag ?_ ?_<;>intro h4 q4
 rw [hsub] at h4;exact absurd h4 (by decide)
 refine ac ?_
 refine cy h4 rfl (Cq (I8) rfl rfl) ?_
 refine ag ?_ ?_<;>intro h5 q5
 rw [vm,vn] at h5;exact absurd h5 (by decide)
 refine ag ?_ ?_<;>intro h6 q6
 exfalso;have:=q6;omega
 refine ac ?_
 refine Cc 1 39 rfl ?_
 refine Tr.cn rfl ?_ ?_<;>intro h7 q7
 exfalso;have:=q7;omega
 refine a2 ?_
 refine co rfl (Cq (I7) rfl rfl) ?_
 refine ag ?_ ?_<;>intro h8 q8
 rw [hh1] at h8;exact absurd h8 (by decide)
 refine ac ?_
 refine cy h8 rfl (Cq (Ng) rfl rfl) ?_
 refine ag ?_ ?_<;>intro h9 q9
 rw [hh2] at h9;exact absurd h9 (by decide)
 refine ag ?_ ?_<;>intro h10 QH
 exfalso;have:=QH;omega
 refine ag ?_ ?_<;>intro h11 QG
 exfalso;have:=QG;omega
 refine ac ?_
 refine Cc 1 67 rfl ?_
 refine Tr.cn rfl ?_ ?_<;>intro h12 Ul
 exfalso;have:=Ul;omega
 refine ac ?_
 refine ag ?_ ?_<;>intro Ms Yh
 exfalso;have:=Yh;omega
 refine ag ?_ ?_<;>intro Lz jc
 exfalso;have:=jc;omega
 refine ag ?_ ?_<;>intro TJ q15
 refine ag ?_ ?_<;>intro h16 q16
 exfalso;have:=q16;simp_all
 refine ac ?_
 refine Cc 1 91 rfl ?_
 refine Tr.cn rfl ?_ ?_<;>intro NN jS
 exfalso;have:=jS;omega
 refine a2 ?_
 refine Tr.block (Tr.A9 [(1,_)] ⟨ke rfl,trivial⟩ (fun k:Nat=>[(3,int ((k:Nat):Int))]) (fun k:Nat=>k≤(c.names).length) (fun k:Nat=>(c.names).length-k) 0 (Nat.zero_le _) ⟨ke rfl,trivial⟩ ?_)
 rintro k BP
 refine an ?_ ?_<;>intro P4 q18
 have Ai:k<(c.names).length:=AG P4
 obtain ⟨s,Af⟩:=at_ Ai
 have hat:=hall k (by omega)
 have hna:=SI hat Af
 refine a2 ?_
 refine co rfl (AA rfl underlying75 NO (vl rfl) (vl rfl) (by omega) (AP Af)) (co rfl (Gg rfl NP rfl) (co rfl (Cq (GA) rfl rfl) ?_))
 refine ag ?_ ?_<;>intro gS q19
 exfalso;rw [hna] at gS;exact absurd gS (by decide)
 refine ag ?_ ?_<;>intro P5 q20
 have KY:0<k:=by simpa using P5
 obtain ⟨y,hy⟩:=at_ (l:=c.names) (k:=k-1) (by omega)
 have hlt:=XG hat Af hy KY
 refine ac ?_
 refine cy P5 rfl (AA rfl underlying75 NO (vl rfl) (vl rfl) (by omega) (by rw [show ((k:Nat):Int)-1=((k-1:Nat):Int) by omega];exact AP hy)) ?_
 refine ac ?_
 refine cy P5 rfl (AA rfl underlying75 NO (vl rfl) (vl rfl) (by omega) (AP Af)) (cy P5 rfl (Gg rfl NP rfl) (cy P5 rfl (Oa rfl (vl rfl) (vl rfl)) ?_))
 refine ac ?_
 refine Cd 1 3 123 rfl ?_
 refine Tr.cn rfl ?_ ?_<;>intro W6 q21
 exfalso;rw [hlt] at W6;exact absurd W6 (by decide)
 refine a2 ?_
 exact Fin.AL (k+1) ⟨Ai,by omega⟩ ⟨⟨_,rfl,AE k⟩,ke rfl,trivial⟩
 refine ac ?_
 refine Cd 1 3 123 rfl ?_
 refine a2 ?_
 exact Fin.AL (k+1) ⟨Ai,by omega⟩ ⟨⟨_,rfl,AE k⟩,ke rfl,trivial⟩
 have BJ:k=(c.names).length:=by have:=AH P4;omega
 refine ac ?_
 refine ag ?_ ?_<;>intro h22 q22
 exfalso;have:=q22;omega
 refine ag ?_ ?_<;>intro h23 q23
 exfalso;have:=q23;omega
 refine ag ?_ ?_<;>intro Jk q24
 exfalso;have:=q24;omega
 refine ac ?_
 refine FX 145 rfl ?_
 refine Tr.cn rfl ?_ ?_<;>intro h25 q25
 exfalso;have:=q25;omega
 refine a3 ?_
 · exact Lr
 refine ac ?_
 refine Cc 1 91 rfl ?_
 refine Tr.cn rfl ?_ ?_<;>intro h26 q26
 exfalso;have:=q26;omega
 refine a2 ?_
 refine Tr.block (Tr.A9 [(1,_)] ⟨ke rfl,trivial⟩ (fun k:Nat=>[(3,int ((k:Nat):Int))]) (fun k:Nat=>k≤(c.names).length) (fun k:Nat=>(c.names).length-k) 0 (Nat.zero_le _) ⟨ke rfl,trivial⟩ ?_)
 rintro k BP
 refine an ?_ ?_<;>intro h27 q27
 have Ai:k<(c.names).length:=AG h27
 obtain ⟨s,Af⟩:=at_ Ai
 have hat:=hall k (by omega)
 have hna:=SI hat Af
 refine a2 ?_
 refine co rfl (AA rfl underlying75 NO (vl rfl) (vl rfl) (by omega) (AP Af)) (co rfl (Gg rfl NP rfl) (co rfl (Cq (GA) rfl rfl) ?_))
 refine ag ?_ ?_<;>intro h28 q28
 exfalso;rw [hna] at h28;exact absurd h28 (by decide)
 refine ag ?_ ?_<;>intro Z4 q29
 have KY:0<k:=by simpa using Z4
 obtain ⟨y,hy⟩:=at_ (l:=c.names) (k:=k-1) (by omega)
 have hlt:=XG hat Af hy KY
 refine ac ?_
 refine cy Z4 rfl (AA rfl underlying75 NO (vl rfl) (vl rfl) (by omega) (by rw [show ((k:Nat):Int)-1=((k-1:Nat):Int) by omega];exact AP hy)) ?_
 refine ac ?_
 refine cy Z4 rfl (AA rfl underlying75 NO (vl rfl) (vl rfl) (by omega) (AP Af)) (cy Z4 rfl (Gg rfl NP rfl) (cy Z4 rfl (Oa rfl (vl rfl) (vl rfl)) ?_))
 refine ac ?_
 refine Cd 1 3 123 rfl ?_
 refine Tr.cn rfl ?_ ?_<;>intro h30 q30
 exfalso;rw [hlt] at h30;exact absurd h30 (by decide)
 refine a2 ?_
 exact Fin.AL (k+1) ⟨Ai,by omega⟩ ⟨⟨_,rfl,AE k⟩,ke rfl,trivial⟩
 refine ac ?_
 refine Cd 1 3 123 rfl ?_
 refine a2 ?_
 exact Fin.AL (k+1) ⟨Ai,by omega⟩ ⟨⟨_,rfl,AE k⟩,ke rfl,trivial⟩
 have BJ:k=(c.names).length:=by have:=AH h27;omega
 refine ac ?_
 refine ag ?_ ?_<;>intro h31 q31
 exfalso;have:=q31;omega
 refine ag ?_ ?_<;>intro h32 q32
 exfalso;have:=q32;omega
 refine ag ?_ ?_<;>intro h33 q33
 exfalso;have:=q33;omega
 refine ac ?_
 refine FX 145 rfl ?_
 refine Tr.cn rfl ?_ ?_<;>intro h34 q34
 exfalso;have:=q34;omega
 refine a3 ?_
 · exact Lr
abbrev je:Pr:=Cp.ex fun n:Int=>fact (0≤n∧n<4294967296) (is (.int .u32 n))
abbrev pq:Pr:=Cp.ex fun n:Int=>fact (0≤n∧n<4294967296) (int n)
theorem jf:Pr.le je (F5 .u32):=fun _ _ _ ⟨n,_,h⟩=>⟨n,h⟩
section
variable {P:Program} {I:CU} {E:Env} {o:Oper}
theorem cF {s t:TypeId} {x:Operand} {k k':IntKind} (ho:o.op= .convert s t x) (hs:P.underlying s=some (.int k)) (ht:P.underlying t=some (.int k')) (hx:VL E x (F5 k)):Aa P I o E (F5 k'):=
 Aa.same fun M w a he _=>by
  obtain ⟨n,h1⟩:=hx.ev he (by simp [ho,Op.operands])
  have h1:a.eval x= .int k n:=h1
  refine ⟨.int k' (k'.wrap n),?_,_,rfl⟩
  simp [execOp,ho,h1,convert,run_underlying hs,run_underlying ht,Conv.intToInt,Sem.run_bind]
theorem jg {t u:TypeId} {x y:Operand} (ho:o.op= .binOp .mul t x y u) (hx:VL E x (F5 .u32)) (hy:VL E y (F5 .u32)):Aa P I o E je:=
 Aa.same fun M w a he _=>by
  obtain ⟨m,h1⟩:=hx.ev he (by simp [ho,Op.operands])
  obtain ⟨n,h2⟩:=hy.ev he (by simp [ho,Op.operands])
  have h1:a.eval x= .int .u32 m:=h1
  have h2:a.eval y= .int .u32 n:=h2
  refine ⟨.int .u32 (IntKind.u32.wrap (m*n)),by simp [execOp,ho,h1,h2,eqGuard,binOp,Op.intArith],_,?_,rfl⟩
  rw [IntKind.wrap_u32];omega
theorem Ym {s t:TypeId} {x:Operand} (ho:o.op= .convert s t x) (hs:P.underlying s=some (.int .u32)) (ht:P.underlying t=some (.int .i64)) (hx:VL E x je):Aa P I o E pq:=
 Aa.same fun M w a he _=>by
  obtain ⟨n,hn,h1⟩:=hx.ev he (by simp [ho,Op.operands])
  have h1:a.eval x= .int .u32 n:=h1
  refine ⟨.int .i64 (IntKind.i64.wrap n),?_,n,hn,by rw [F8 (by unfold Kz;omega)];rfl⟩
  simp [execOp,ho,h1,convert,run_underlying hs,run_underlying ht,Conv.intToInt,Sem.run_bind]
end
theorem BA.I9 {P:Program} {f:FuncId} {row:List Pr} (h:∀m,m≤20→BA P f [slice 4 (List.replicate m row)] (slice 4 (List.replicate m row))):BA P f [Go.Proofs.YtkobgkelhcigdaaGreatDoor.I9 row] (Go.Proofs.YtkobgkelhcigdaaGreatDoor.I9 row):=by
 refine ⟨(h 0 (by omega)).1,fun M w vs hb hv=> ?_⟩
 match vs,hv with
 |[u0],XC=>
  obtain ⟨⟨m,hm,h0⟩,_⟩:=XC
  exact ((h m hm).2 M w [u0] hb ⟨h0,trivial⟩).mono fun e w' ⟨v,h1,h2,h3⟩=>⟨v,h1,⟨m,hm,h2⟩,h3⟩
theorem BA.ER {P:Program} {f:FuncId} {B:Nat} {res:Pr} (h:∀m,m≤B→BA P f [XA m] res):BA P f [Go.Proofs.YtkobgkelhcigdaaGreatDoor.ER B] res:=by
 refine ⟨(h 0 (by omega)).1,fun M w vs hb hv=> ?_⟩
 match vs,hv with
 |[u0],XC=>
  obtain ⟨⟨m,hm,h0⟩,_⟩:=XC
  exact (h m hm).2 M w [u0] hb ⟨h0,trivial⟩
abbrev L3:Pr:=I9 (BR q0)
abbrev qA2:Pr:=I9 (BR L3)
theorem M6:Pr.le q0 L3:=AJ 0 (AU (by omega) (Pr.le_refl _))
theorem rc0:BA Tryz.prog 148 [q0] q0:=MN (m:=0) (q:=q0) (by omega) (.inl rfl)
theorem rc1 (m:Nat) (hm:m≤20):BA Tryz.prog 148 [slice 4 (List.replicate m (BR q0))] (slice 4 (List.replicate m (BR q0))):=MN hm (.inr rc0)
theorem rc2 (m:Nat) (hm:m≤20):BA Tryz.prog 148 [slice 4 (List.replicate m (BR L3))] (slice 4 (List.replicate m (BR L3))):=MN hm (.inr (BA.I9 rc1))
theorem rf0:BA Tryz.prog 118 [agg (BR q0)] Dw:=BA.cC fun t b n hb=>MM (m:=0) (q:=q0) hb (by omega) (.inl rfl)
theorem rf1:BA Tryz.prog 118 [agg (BR L3)] Dw:=BA.BR fun t b n m hb hm=>MM hb hm (.inr rf0)
theorem rf2:BA Tryz.prog 118 [agg (BR qA2)] Dw:=BA.BR fun t b n m hb hm=>MM hb hm (.inr rf1)
theorem rd0:BA Tryz.prog 119 [agg (BR q0)] (KV 1):=BA.cC fun t b n hb=>Oq (m:=0) (q:=q0) (D:=0) hb (by omega) (by omega) (.inl rfl)
theorem rd1:BA Tryz.prog 119 [agg (BR L3)] (KV 2):=BA.BR fun t b n m hb hm=>Oq hb hm (by omega) (.inr rd0)
theorem rd2:BA Tryz.prog 119 [agg (BR qA2)] (KV 3):=BA.BR fun t b n m hb hm=>Oq hb hm (by omega) (.inr rd1)
theorem rp0:BA Tryz.prog 120 [agg (BR q0)] (ER 2002):=BA.cC fun t b n hb=>VN (m:=0) (q:=q0) (B:=0) hb (by omega) (by omega) (.inl rfl)
theorem rp1:BA Tryz.prog 120 [agg (BR L3)] (ER 82082):=BA.BR fun t b n m hb hm=>VN (B:=2002) hb hm (by omega) (.inr rp0)
theorem rp2:BA Tryz.prog 120 [agg (BR qA2)] (ER 3285282):=BA.BR fun t b n m hb hm=>VN (B:=82082) hb hm (by omega) (.inr rp1)
theorem rE2:BA Tryz.prog 96 [agg (BR qA2)] (EK [ER 3285282,F5 .i64]):=Yl rf2 rd2 rp2
structure Ie.VQ (c:Ie):Prop where
 I5:c.I5≤1099511627776
 CG:c.CG≤2147483648
 QE:0≤c.QE∧c.QE≤40000
 KB:0≤c.KB∧c.KB≤40000
 VI:0≤c.VI∧c.VI≤40000
 Om:0≤c.Om∧c.Om≤40000
theorem Jl {s:List UInt8} (h:named s=true):s.length≤32:=by unfold named at h;simp at h;omega
theorem XH {a b:Int} (ha:0≤a∧a≤40000) (hb:0≤b∧b≤40000):BA prog 124 [agg [int a,int b]] (agg (BR L3)):=by
 refine fo func124 rfl ⟨rfl,rfl⟩ fun M0 w0=>(Tr.seq (Tr.An (tp rfl (Bb rfl (Va rfl)) ?_)))
 refine Tl rfl rfl rfl rfl MH KA (fun b1=> ?_)
 refine ap ?_
 refine Tr.seq (Tr.rx ?_)
 refine ay ?_
 refine xo rfl (fun _=>Cq (KW (by omega)) rfl rfl) ?_
 refine ay ?_
 refine xo rfl (fun _=>Cq (KW (by omega)) rfl rfl) (xo rfl (fun _=>AM (xs:=[.tmp 5,.tmp 8]) (rows:=[_,_]) rfl rfl underlying209 CN MH rfl (by decide) ⟨⟨(by exact rfl),(Va rfl)⟩,⟨⟨(by exact rfl),(Va rfl)⟩,trivial⟩⟩ (by decide)) ?_)
 refine xo rfl (fun _=>AR rfl (SH (m:=2) (q:=q0) (by omega) (rc1 _ (by omega))) ⟨(Kf rfl),trivial⟩) ?_
 refine Cx.Dz 0 rfl rfl (A0 rfl rfl (vl rfl) (Va rfl) CN rfl (by exact Nb rfl) rfl) ?_
 refine Cx.nil ⟨by kernel_rfl,?_⟩
 refine BH.done al1 (Fin.go (Tr.ret (Fin.CS rfl (AO.cell 0 rfl rfl C0 CN rfl (Lr)) ?_)))
 · exact Lr
theorem To {c:Ie} (hv:Dc c=true) (ht:c.VQ):BA prog 97 [agg (FN c)] (agg (BR qA2)):=by
 refine fo func97 rfl ⟨rfl,rfl⟩ fun M0 w0=> ?_
 obtain ⟨hs0,hs1,pg,hsub,hnm,hkey,hk0,hk1,mg,AAb,AAc,AAd,AAe,Z3,hft,ht1,nZ,bL,hap⟩:=De hv
 obtain ⟨g1,g2,g3,g4,g5,g6⟩:=ht
 have MO:=hnm
 unfold GU at MO
 rw [Bool.and_eq_true,Bn,decide_eq_true_eq] at MO
 obtain ⟨hall,vo⟩:=MO
 have Wd:=Jl pg
 have gM:=Jl hsub
 refine Tr.seq (Tr.An (tp rfl (Bb rfl (Va rfl)) ?_))
 refine Tl rfl rfl rfl rfl MH KA (fun b1=> ?_)
 refine ap ?_
 refine a2 ?_
 refine Tr.block (Tr.B0 211 4 (Tr.E8 [(1,_),(2,_)] ⟨ke rfl,ke rfl,trivial⟩ (fun k v=>[(4,int ((k:Nat):Int)),(3,Ag v (slice 4 (List.replicate k (BR q0))))]) (fun k v=>Hp M0 w0 FR ([Aq 211 4 v,AB true b1 211 (([.int .i64 0,.slice none 0 0,.bool false,.slice none 0 0]:List Value).map is)])) (fun k:Nat=>k≤(c.names).length) (fun k:Nat=>(c.names).length-k) 0 (.slice none 0 0) (Nat.zero_le _) ⟨ke rfl,⟨_,rfl,Bf rfl⟩,trivial⟩ (fun _ _ h=>h) ?_))
 rintro k v BP
 refine an ?_ ?_<;>intro h1 q1
 have Ai:k<(c.names).length:=AG h1
 obtain ⟨s,Af⟩:=at_ Ai
 have hsn:=Jl (SI (hall k (by omega)) Af)
 refine ac ?_
 refine ap ?_
 refine tp rfl (AA rfl underlying75 NO (vl rfl) (vl rfl) (by omega) (by exact AP (by assumption))) ?_
 refine tp rfl (Gg rfl NP rfl) (tp rfl (Cq (SG (by omega)) rfl rfl) (tp rfl (AM (xs:=[.tmp 18]) (rows:=[_]) rfl rfl underlying209 CN MH rfl (by decide) ⟨⟨(by exact rfl),(Va rfl)⟩,trivial⟩ (by decide)) ?_))
 refine TO.Dh 0 rfl rfl (by decide) (Bt rfl rfl rfl rfl underlying209 CN mO MH (Kb rfl) (Kf rfl) (Au (by exact List.Mem.head _) (Ka rfl))) (fun v1=> ?_)
 refine ap ?_
 refine Ef 1 2 3 4 rfl ?_
 refine ac ?_
 exact Fin.Da (k+1) v1 (⟨Ai,by omega⟩) ⟨⟨_,rfl,AE k⟩,⟨_,rfl,A7 (by rw [XB])⟩,ke rfl,ke rfl,trivial⟩ (fun _ _ h=>h)
 have BJ:k=(c.names).length:=by have:=AH h1;omega
 refine ac ?_
 refine Tr.seq (Tr.rx ?_)
 refine ay ?_
 refine xo rfl (fun _=>Cq (KW (by omega)) rfl rfl) ?_
 refine ay ?_
 refine xo rfl (fun _=>Cq (SG (by omega)) rfl rfl) ?_
 refine ay ?_
 refine xo rfl (fun _=>Cq (SG (by omega)) rfl rfl) ?_
 refine ay ?_
 refine xo rfl (fun _=>Cq (XH g3 g4) rfl rfl) ?_
 refine ay ?_
 refine xo rfl (fun _=>Cq (KW (by omega)) rfl rfl) ?_
 refine ay ?_
 refine xo rfl (fun _=>Cq (XH g5 g6) rfl rfl) ?_
 refine ay ?_
 refine xo rfl (fun _=>Cq (KW (by omega)) rfl rfl) ?_
 refine ay ?_
 refine xo rfl (fun _=>Cq (KW (by omega)) rfl rfl) ?_
 refine ay ?_
 refine xo rfl (fun _=>Cq (jd) rfl rfl) ?_
 refine ay ?_
 refine xo rfl (fun _=>Cq (KW (by omega)) rfl rfl) (xm rfl ?_)
 refine xo rfl (fun _=>AR rfl (SH (m:=c.names.length) (q:=q0) (by omega) (rc1 _ (by omega))) ⟨⟨_,rfl,Pr.le_trans (Ak _ _) (Pr.le_of_eq (by rw [BJ]))⟩,trivial⟩) ?_
 refine xo rfl (fun _=>AM (xs:=[.tmp 23,.tmp 26,.tmp 29,.tmp 32,.tmp 35,.tmp 38,.tmp 41,.tmp 44,.tmp 47,.tmp 50,.tmp 52]) (rows:=[BR L3,BR L3,BR L3,BR L3,BR L3,BR L3,BR L3,BR L3,BR L3,BR L3,BR L3]) rfl rfl underlying209 CN MH rfl (by decide) ⟨⟨(by exact rfl),VL.le (vl rfl) (Pr.le_trans (Aw (qs:=BR L3) ⟨Lr,Lr,Lr,M6,trivial⟩) (AZ _))⟩,⟨⟨(by exact rfl),VL.le (vl rfl) (Pr.le_trans (Aw (qs:=BR L3) ⟨Lr,Lr,Lr,M6,trivial⟩) (AZ _))⟩,⟨⟨(by exact rfl),VL.le (vl rfl) (Pr.le_trans (Aw (qs:=BR L3) ⟨Lr,Lr,Lr,M6,trivial⟩) (AZ _))⟩,⟨⟨(by exact rfl),VL.le (vl rfl) (AZ _)⟩,⟨⟨(by exact rfl),VL.le (vl rfl) (Pr.le_trans (Aw (qs:=BR L3) ⟨Lr,Lr,Lr,M6,trivial⟩) (AZ _))⟩,⟨⟨(by exact rfl),VL.le (vl rfl) (AZ _)⟩,⟨⟨(by exact rfl),VL.le (vl rfl) (Pr.le_trans (Aw (qs:=BR L3) ⟨Lr,Lr,Lr,M6,trivial⟩) (AZ _))⟩,⟨⟨(by exact rfl),VL.le (vl rfl) (Pr.le_trans (Aw (qs:=BR L3) ⟨Lr,Lr,Lr,M6,trivial⟩) (AZ _))⟩,⟨⟨(by exact rfl),VL.le (vl rfl) (Pr.le_trans (Aw (qs:=BR L3) ⟨Lr,Lr,Lr,M6,trivial⟩) (AZ _))⟩,⟨⟨(by exact rfl),VL.le (vl rfl) (Pr.le_trans (Aw (qs:=BR L3) ⟨Lr,Lr,Lr,M6,trivial⟩) (AZ _))⟩,⟨⟨(by exact rfl),VL.le (vl rfl) (AZ _)⟩,trivial⟩⟩⟩⟩⟩⟩⟩⟩⟩⟩⟩ (by decide)) ?_
 refine xo rfl (fun _=>AR rfl (SH (m:=11) (q:=L3) (by omega) (rc2 _ (by omega))) ⟨(Kf rfl),trivial⟩) ?_
 refine Cx.Dz 1 rfl rfl (A0 rfl rfl (vl rfl) (Va rfl) CN rfl (by exact Nb rfl) rfl) ?_
 refine Cx.nil ⟨by kernel_rfl,?_⟩
 refine BH.done YY (Fin.go (FX 2 rfl (Tr.ret (Fin.CS rfl (AO.cell 1 rfl rfl C0 CN rfl (Lr)) ?_))))
 · exact Lr
theorem Yn {c:Ie} (hv:Dc c=true) (ht:c.VQ):BA prog 70 [agg (FN c)] (EK [ER 3285282,F5 .i64]):=by
 refine fo func70 rfl ⟨rfl,rfl⟩ fun M0 w0=> ?_
 refine a2 ?_
 refine co rfl (Cq (Q0 hv) rfl rfl) ?_
 refine an ?_ ?_<;>intro h1 q1
 exact absurd h1 (by decide)
 refine a2 ?_
 refine co rfl (Cq (To hv ht) rfl rfl) (co rfl (Cq (rE2) rfl rfl) ?_)
 refine ac ?_
 refine Tr.ret (Fin.DG rfl (Bc.DZ _ _) rfl ?_ rfl ?_)
 · exact Lr
 · exact Lr
theorem XI {m:Nat} (hm:m≤100000000):BA prog 71 [XA m] (pq):=by
 refine fo func71 rfl ⟨rfl,rfl⟩ fun M0 w0=> ?_
 have hlr:(List.replicate m Qy).length=m:=List.length_replicate
 refine a3 ?_
 refine Tr.block (Tr.A9 [(0,_)] ⟨ke rfl,trivial⟩ (fun k:Nat=>[(4,int ((k:Nat):Int)),(3,je)]) (fun k:Nat=>k≤((List.replicate m Qy).length)) (fun k:Nat=>((List.replicate m Qy).length)-k) 0 (Nat.zero_le _) ⟨ke rfl,⟨_,rfl,AJ _ (AU (by omega) (Lr))⟩,trivial⟩ ?_)
 rintro k BP
 refine ac ?_
 refine co rfl (Bz rfl underlying166 (vl rfl)) ?_
 refine an ?_ ?_<;>intro h1 q1
 have Ai:k<((List.replicate m Qy).length):=AG h1
 have hkm:k<m:=by simpa using Ai
 refine a2 ?_
 refine co rfl (AA rfl underlying166 L1 (vl rfl) (vl rfl) (by omega) (I_ hkm)) (co rfl (Gg rfl tN rfl) (co rfl (cF rfl underlying5 underlying152 (vl rfl)) (co rfl (jH (by decide) rfl (VL.le (vl rfl) jf) (vl rfl)) (co rfl (jg rfl (vl rfl) (VL.le (vl rfl) (B6 _ _))) ?_))))
 refine ac ?_
 refine Cd 0 3 4 rfl ?_
 refine ac ?_
 exact Fin.AL (k+1) ⟨Ai,by omega⟩ ⟨⟨_,rfl,AE k⟩,ke rfl,ke rfl,trivial⟩
 have BJ:k=((List.replicate m Qy).length):=by have:=AH h1;omega
 refine a2 ?_
 refine co rfl (Ym rfl underlying152 underlying3 (vl rfl)) ?_
 refine a2 ?_
 · exact Lr
theorem cH {c:Ie} (hn:c.names.length≤1000):BA prog 68 [agg (FN c)] (agg (FN c)):=by
 refine fo func68 rfl ⟨rfl,rfl⟩ fun M0 w0=>(Tr.seq (Tr.An ?_))
 refine TO.aH rfl rfl (by decide) rfl (Va rfl) (fun b1=> ?_)
 refine Tl rfl rfl rfl rfl U7 OV (fun b2=> ?_)
 refine ap ?_
 refine ap ?_
 refine TO.pad ?_
 refine TO.Dh 0 rfl rfl (by decide) (Bt rfl rfl rfl rfl underlying75 NO by9 z9 (Kf rfl) (vl rfl) (Bh (by exact List.Mem.head _) (vl rfl))) (fun v1=> ?_)
 refine ap ?_
 refine ap ?_
 refine Tr.drop 2 (Tr.ret (Fin.CS rfl (AO.cell 1 rfl rfl HD EH rfl (Lr)) ?_))
 · exact Aw ⟨Lr,Lr,Lr,Lr,Lr,Lr,Lr,Lr,Lr,Lr,Lr,Lr,Pr.le_trans (Ak _ _) (Pr.le_of_eq (by simp)),Lr,Lr,trivial⟩
abbrev Ou (c:Ie) (key s:Int):Ie:=⟨c.I5,c.MK,c.Jh,c.QE,c.KB,c.CG,c.VI,c.Om,c.from_,c.ML,c.auth,c.path,c.names,key,s⟩
theorem cI {c:Ie} {key:Int} (hv:Dc (Ou c 0 0)=true) (ht:(Ou c 0 0).VQ) (hk:0≤key∧key≤2147483648):BA prog 49 [agg (FN c),int key] (Cp.ex fun s:Int=>fact (0≤s∧s<4294967296) (EK [agg (FN (Ou c key s)),int 0])):=by
 refine BA.of func49 rfl rfl (by exact Nb rfl) fun M0 w0=> ?_
 have hnn:c.names.length≤1000:=by have:=(De hv).nm;unfold GU at this;simp at this;omega
 refine Tr.seq (Tr.An ?_)
 refine TO.aH rfl rfl (by decide) rfl (Va rfl) (fun b1=> ?_)
 refine Tl rfl rfl rfl rfl U7 OV (fun b2=> ?_)
 refine tm rfl (TO.nil (Fin.go (Tr.seq (Tr.An (TO.rd 1 rfl rfl rfl (by decide) (CI rfl HD EH (vl rfl) rfl rfl) ?_)))))
 refine tp rfl (AR rfl (cH (c:=c) hnn) ⟨ke rfl,trivial⟩) ?_
 refine TO.AK 1 rfl rfl rfl (vl rfl) (Va rfl) rfl EH rfl rfl (TO.nil (Fin.go (Tr.seq (Tr.An (tp rfl (Al (rows:=[]) rfl mJ mK trivial rfl) (tp rfl (Ac rfl OW (vl rfl)) (TO.Dz 1 rfl rfl (A0 rfl rfl (vl rfl) (Va rfl) av rfl (by exact Nb rfl) rfl) (TO.nil (Fin.go (Tr.seq (Tr.seq (Tr.Ah (co rfl (DK 1 rfl (CI rfl HD EH (vl rfl) rfl rfl)) ?_)))))))))))))
 refine co rfl (AR rfl (Q0 (c:=Ou c 0 0) hv) ⟨ke rfl,trivial⟩) ?_
 refine co rfl (ki rfl rfl rfl rfl) (cm rfl ?_)
 refine Ch.cs 15 rfl ?_ ?_<;>intro h1 q1
 exact absurd h1 (by decide)
 refine Jd h1 rfl (cy h1 rfl (ki rfl rfl rfl rfl) (co rfl (Mq rfl rfl h1 rfl) (cm rfl ?_)))
 refine Ch.cs 19 rfl ?_ ?_<;>intro h2 q2
 exfalso;have:=q2;omega
 refine Jd h2 rfl (cy h2 rfl (ki rfl rfl rfl rfl) (co rfl (Mq rfl rfl h2 rfl) (Ch.nil (Fin.go (Ef 1 2 4 22 rfl ?_)))))
 refine Tr.cn rfl ?_ ?_<;>intro h3 q3
 exfalso;have:=q3;omega
 refine Tr.skip (Fin.go (Tr.seq (Tr.Ah (co rfl (DK 1 rfl (CI rfl HD EH (vl rfl) rfl rfl)) ?_))))
 refine co rfl (AR rfl (Yn (c:=Ou c 0 0) hv ht) ⟨ke rfl,trivial⟩) ?_
 refine cm rfl (co rfl (Az rfl (vl rfl) rfl) (co rfl (Az rfl (vl rfl) rfl) (cm rfl (cm rfl (Ch.nil (Fin.go (Tr.seq (Tr.An (tm rfl (tm rfl (tp rfl (AR rfl (BA.ER fun m hm=>XI (by omega)) ⟨ke rfl,trivial⟩) ?_)))))))))))
 refine TO.ex 31 rfl (fun z31=>TO.fact 31 rfl fun AAf=> ?_)
 refine tp rfl (Al (rows:=[(0,[_]),(1,[_])]) rfl mJ mK ⟨⟨rfl,(Vo rfl)⟩,⟨⟨rfl,(Vo rfl)⟩,trivial⟩⟩ rfl) (tp rfl (Ac rfl OW (vl rfl)) (TO.Dz 1 rfl rfl (A0 rfl rfl (vl rfl) (Va rfl) av rfl (by exact Nb rfl) rfl) (TO.nil (Fin.go (Cc 2 4 rfl (Tr.seq (Tr.An (TO.rd 1 rfl rfl rfl (by decide) (CI rfl HD EH (vl rfl) rfl rfl) (TO.AK 0 rfl rfl rfl (vl rfl) (Va rfl) rfl EH rfl rfl (tm rfl (TO.nil (Fin.go (Tr.drop 1 (Tr.ret ?_))))))))))))))
 refine Fin.BK rfl (AO.cell 0 rfl rfl HD EH rfl (Lr)) (AO.tmp rfl (Lr)) ?_
 · exact AJ z31 (AU AAf (Lr))
abbrev KC (name:List UInt8) (a b id to key s:Int):Ie:=⟨id,[114,111,111,116],name,a,b,id,3,0,0,to,false,0,[name],key,s⟩
abbrev G5 (name:List UInt8) (a b id to key s:Int):It:=⟨a,b,id,[KC name a b id to key s]⟩
abbrev mh (name:List UInt8) (a b id to key:Int):Pr:=Cp.ex fun s:Int=>fact (0≤s∧s<4294967296) (agg (HX (G5 name a b id to key s)))
theorem mj   :BA prog 28 [] (agg [int 5,int 2048]):=by
 refine fo func28 rfl ⟨rfl,rfl⟩ fun M0 w0=>(Tr.seq (Tr.An ?_))
 refine Tl rfl rfl rfl rfl Jg EA (fun b1=> ?_)
 refine ap ?_
 refine ap ?_
 refine Tr.ret (Fin.CS rfl (AO.cell 0 rfl rfl Ia J1 rfl (Lr)) ?_)
 · exact Lr
theorem AAg   :BA prog 32 [] (agg [int 7,int 256]):=by
 refine fo func32 rfl ⟨rfl,rfl⟩ fun M0 w0=>(Tr.seq (Tr.An ?_))
 refine Tl rfl rfl rfl rfl Jg EA (fun b1=> ?_)
 refine ap ?_
 refine ap ?_
 refine Tr.ret (Fin.CS rfl (AO.cell 0 rfl rfl Ia J1 rfl (Lr)) ?_)
 · exact Lr
theorem VR {name:List UInt8} {a b id to key:Int} (hv:Dc (KC name a b id to 0 0)=true) (ht:(KC name a b id to 0 0).VQ) (hk:0≤key∧key≤2147483648):BA prog 27 [str name,agg [int a,int b],int id,int key,int to] (mh name a b id to key):=by
 refine fo func27 rfl ⟨rfl,rfl⟩ fun M0 w0=>(Tr.seq (Tr.An (tp rfl (Bb rfl (Va rfl)) ?_)))
 refine Tl rfl rfl rfl rfl U4 U3 (fun b1=> ?_)
 refine ap ?_
 refine ap ?_
 refine tp rfl (Al (rows:=[(0,[_]),(1,[_]),(2,[_]),(3,_),(4,[_]),(5,_),(7,[_]),(10,[_])]) rfl tw OV ⟨⟨rfl,(Vo rfl)⟩,⟨⟨rfl,(Vo rfl)⟩,⟨⟨rfl,(Vo rfl)⟩,⟨⟨rfl,(Va rfl)⟩,⟨⟨rfl,(Vo rfl)⟩,⟨⟨rfl,(Va rfl)⟩,⟨⟨rfl,(Vo rfl)⟩,⟨⟨rfl,⟨_,rfl,Pr.le_trans (Bq _ _) (Ae _)⟩⟩,trivial⟩⟩⟩⟩⟩⟩⟩⟩ rfl) (TO.re 20 (agg (FN (KC name a b id to 0 0))) rfl (Pr.le_of_eq rfl) ?_)
 refine Tl rfl rfl rfl rfl U7 OV (fun b2=> ?_)
 refine ap ?_
 refine KP 2 3 6 10 11 rfl ?_
 refine ap ?_
 refine tp rfl (CF (cI (c:=KC name a b id to 0 0) hv ht hk) rfl rfl rfl) ?_
 refine TO.ex 24 rfl (fun z24=>TO.fact 24 rfl fun AAh=> ?_)
 refine ap ?_
 refine ap ?_
 refine tp rfl (Al (rows:=[(0,_),(1,[_]),(2,[_])]) rfl tX U3 ⟨⟨rfl,(Va rfl)⟩,⟨⟨rfl,(Vo rfl)⟩,⟨⟨rfl,⟨_,rfl,Pr.le_trans (Bq _ _) (Ae _)⟩⟩,trivial⟩⟩⟩ rfl) ?_
 refine ap ?_
 refine Tr.drop 0 (FX 10 rfl (Tr.ret (Fin.CS rfl (AO.cell 0 rfl rfl TQ FZ rfl (Lr)) ?_)))
 · exact AJ z24 (AU AAh (Lr))
def JB (s:DS) (l:List (List UInt8)):List UInt8:=(l[(s.val l.length).toNat]?).getD []
theorem Tp {b:Nat} {s:DS} {l:List (List UInt8)} (hl:l≠[]) (mR:l.length≤1000000000):CX prog 30 [ptr b 0,jQ l] (str (JB s l)) (C1 b s) (fun _=>C1 b s.CM):=by
 refine CX.of func30 rfl rfl (by exact Nb rfl) fun M0 w0 S rs M1 w1=> ?_
 have hl0:1≤(l.length:Int):=by have:=List.length_pos_iff.2 hl;omega
 have hv:=s.Ci hl0
 obtain ⟨x,hx⟩:=at_ (l:=l) (k:=(s.val l.length).toNat) (by omega)
 refine ac ?_
 refine ap ?_
 refine TO.Jc 0 rfl rfl (by decide) (As rfl rfl (by decide) rfl (CE (by omega) (by omega)) ⟨ke rfl,ke rfl,trivial⟩) (tp rfl (AA rfl underlying75 NO (vl rfl) (vl rfl) (by omega) (BS hx)) ?_)
 refine ap ?_
 refine Tr.ret (Fin.Fy [] rfl (AO.tmp rfl (Lr)) ?_ (fun _ _ _ _=>rfl))
 · refine Pr.le_of_eq ?_;unfold JB;rw [hx];rfl
def FB:List (List UInt8):=[[97,112,112],[100,98],[119,101,98]]
def NT:List (List Int):=[[10,8,2],[8,2],[2,10,8,3]]
def KZ (i:Int):List Int:=(NT[i.toNat]?).getD []
theorem jh {i:Int} (h:0≤i∧i<3):(NT.map fun l=>[ints l])[i.toNat]? =some [ints (KZ i)]:=by
 have hl:i.toNat<NT.length:=by show i.toNat<3;omega
 unfold KZ
 rw [List.getElem?_map,List.getElem?_eq_getElem hl];rfl
theorem Tq {i:Int} (h:0≤i∧i<3):KZ i∈NT:=by
 have hl:i.toNat<NT.length:=by show i.toNat<3;omega
 unfold KZ
 rw [List.getElem?_eq_getElem hl];exact List.getElem_mem hl
structure VS (i:Nat) (e:Bs):Prop where
 name:FB[i]? =some e.name
 least:e.least=1
 most:e.most=3∨e.most=4
 Ap:e.Ap∈NT∨∃l∈NT,e.Ap=14::l
 ids:∃s:Int,(0≤s∧s<4294967296)∧e.ids=[G5 e.name 5 2048 (100+(i:Nat)) 901 1 s]
 anchors:e.anchors=[1]
 hashes:e.hashes=[2,3]
def cJ (es:List Bs):Prop:=∀(i:Nat) e,es[i]? =some e→VS i e
theorem Ts {es:List Bs} {e:Bs} (h:cJ es) (he:VS es.length e):cJ (es++[e]):=by
 intro i x hx
 rcases Nat.lt_or_ge i es.length with hi|hi
 · rw [List.getElem?_append_left hi] at hx;exact h i x hx
 ·
  rcases Nat.eq_or_lt_of_le hi with hi|hi
  · subst hi;rw [List.getElem?_append_right (Nat.le_refl _),Nat.sub_self] at hx;simp at hx;subst hx;exact he
  · rw [List.getElem?_eq_none (by simp;omega)] at hx;cases hx
theorem SJ {nm:List UInt8} {k:Nat} (h:FB[k]? =some nm) {s:Int} (hs:0≤s∧s<4294967296) {key:Int} (hk:0≤key∧key≤2):Dc (KC nm 5 2048 (100+(k:Nat)) 901 key s)=true:=by
 have hlt:k<3:=BD h
 have hn:named nm=true:=by
  have hm:=List.mem_of_getElem? h
  revert hm;unfold FB;intro hm;simp at hm
  rcases hm with rfl|rfl|rfl<;>decide
 refine XF ⟨?_,?_,by show named [114,111,111,116]=true;decide,hn,?_,by show GC 5 2048 2=true;decide+kernel,?_,?_,by show GC 3 0 1=true;decide+kernel,hk.1,?_,hs.1,hs.2,by show (0:Int)≤0;omega,by show (0:Int)≤901;omega,by show (901:Int)≤40000;omega,by show (0:Int)≤0;omega,by show (0:Int)≤8;omega,.inr rfl⟩
 · show 0≤(100:Int)+(k:Nat);omega
 · show (100:Int)+(k:Nat)≤_;omega
 ·
  show GU [nm]=true
  unfold GU;rw [Bool.and_eq_true];refine ⟨Bn.2 fun j hj=> ?_,by simp⟩
  have:j=0:=by simp at hj;omega
  subst this;unfold nameAt;simp [hn]
 · show 0≤(100:Int)+(k:Nat);omega
 · show (100:Int)+(k:Nat)≤_;omega
 · show key≤_;omega
theorem Q1 {nm:List UInt8} {k:Nat} (h:k<3):(KC nm 5 2048 (100+(k:Nat)) 901 0 0).VQ:=
 ⟨by show (100:Int)+(k:Nat)≤1099511627776;omega,by show (100:Int)+(k:Nat)≤2147483648;omega,⟨by show (0:Int)≤5;omega,by show (5:Int)≤40000;omega⟩,⟨by show (0:Int)≤2048;omega,by show (2048:Int)≤40000;omega⟩,⟨by show (0:Int)≤3;omega,by show (3:Int)≤40000;omega⟩,⟨by show (0:Int)≤0;omega,by show (0:Int)≤40000;omega⟩⟩
theorem cL {β:Type} {l:List β} {n k:Nat} {x:β} (h:(l.take n)[k]? =some x):l[k]? =some x:=by
 have hlt:=BD h
 rw [List.length_take] at hlt
 rw [List.getElem?_take,if_pos (by omega)] at h;exact h
theorem cM (i:Int):(KZ i).length≤4:=by
 unfold KZ
 cases h:NT[i.toNat]? with
 |none=>show 0≤4;omega
 |some l=>
  have hm:=List.mem_of_getElem? h
  show l.length≤4
  unfold NT at hm;simp at hm
  rcases hm with rfl|rfl|rfl<;>simp
theorem pz (s:DS):s.of [3,3,4]=3∨s.of [3,3,4]=4:=by have:=s.OR (l:=[3,3,4]) (by simp);simp at this;exact this
abbrev vp:List (List Int):=NT++NT.map (14:: ·)
theorem JC {i:Nat} {e:Bs} (h:VS i e):e.Ap∈vp:=by
 rcases h.Ap with h|⟨l,h,h2⟩
 · exact List.mem_append_left _ h
 · rw [h2];exact List.mem_append_right _ (List.mem_map_of_mem h)
theorem SK:∀l∈vp,Jj l=true∧l.length≤5:=by decide+kernel
theorem SL:∀n∈FB,M4 n=true∧n.length≤3:=by decide+kernel
theorem ji:[2,3].all On=true:=by decide+kernel
theorem jj:GC 5 2048 2=true:=by decide+kernel
theorem cN {nm:List UInt8} {k:Nat} {id:Int} (h:FB[k]? =some nm) (hid:id=100+(k:Nat)) {s:Int} (hs:0≤s∧s<4294967296):me (G5 nm 5 2048 id 901 1 s)=true:=by
 subst hid
 have hk:k<3:=BD h
 have hv:=SJ h hs (key:=1) (by omega)
 have hk2:GS (100+(k:Nat))=true:=by unfold GS;simp;omega
 unfold me SA;simp only [jj,hk2,List.all_cons,List.all_nil,hv];simp
theorem jk {i:Nat} {e:Bs} (h:VS i e):W_ e:=by
 have hn:=SL _ (List.mem_of_getElem? h.name)
 have hs:=SK _ (JC h)
 obtain ⟨s,hs1,R9⟩:=h.ids
 have hm:=h.most;have hl:=h.least
 refine ⟨hn.1,by omega,by omega,by omega,hs.1,by rw [R9];simp,by rw [h.anchors];simp,by rw [h.anchors];decide,by rw [h.hashes];decide,?_,by rw [h.anchors];decide,by rw [h.hashes];exact ji⟩
 rw [R9];simp only [List.all_cons,List.all_nil,cN h.name rfl hs1,Bool.and_self]
theorem Q2 {i:Nat} {e:Bs} (h:VS i e):e.fits:=by
 have hn:=SL _ (List.mem_of_getElem? h.name)
 obtain ⟨s,hs1,R9⟩:=h.ids
 refine ⟨by unfold maxLen;omega,fun x hx c hc=> ?_⟩
 rw [R9] at hx;simp at hx;subst hx;simp at hc;subst hc
 exact ⟨by show 4≤maxLen;unfold maxLen;omega,by show e.name.length≤maxLen;unfold maxLen;omega,fun n hn2=>by simp at hn2;subst hn2;unfold maxLen;omega⟩
theorem Ov {i:Nat} {e:Bs} (h:VS i e):e.small:=by
 have hs:=SK _ (JC h)
 obtain ⟨s,hs1,R9⟩:=h.ids
 refine ⟨by omega,by rw [h.anchors];simp,by rw [h.hashes];simp,by rw [R9];simp,fun x hx=> ?_⟩
 rw [R9] at hx;simp at hx;subst hx
 exact ⟨by simp,fun c hc=>by simp at hc;subst hc;simp⟩
theorem cO:Bi.fits:=fun c hc=>by cases hc
theorem vq {nm:List UInt8} (h:nm∈FB) {a b id key s:Int} (hab:(a=5∧b=2048)∨(a=7∧b=256)) (hid:0≤id∧id≤1000) (hs:0≤s∧s<4294967296) (hk:0≤key∧key≤2):Dc (KC nm a b id 901 key s)=true:=by
 have hn:named nm=true:=by
  revert h;unfold FB;intro hm;simp at hm
  rcases hm with rfl|rfl|rfl<;>decide
 have hof:GC a b 2=true:=by rcases hab with ⟨rfl,rfl⟩|⟨rfl,rfl⟩<;>decide+kernel
 refine XF ⟨?_,?_,by show named [114,111,111,116]=true;decide,hn,?_,hof,?_,?_,by show GC 3 0 1=true;decide+kernel,hk.1,?_,hs.1,hs.2,by show (0:Int)≤0;omega,by show (0:Int)≤901;omega,by show (901:Int)≤40000;omega,by show (0:Int)≤0;omega,by show (0:Int)≤8;omega,.inr rfl⟩
 · show 0≤id;omega
 · show id≤_;omega
 ·
  show GU [nm]=true
  unfold GU;rw [Bool.and_eq_true];refine ⟨Bn.2 fun j hj=> ?_,by simp⟩
  have:j=0:=by simp at hj;omega
  subst this;unfold nameAt;simp [hn]
 · show 0≤id;omega
 · show id≤_;omega
 · show key≤_;omega
theorem vu {nm:List UInt8} {a b id:Int} (hab:(a=5∧b=2048)∨(a=7∧b=256)) (hid:0≤id∧id≤1000):(KC nm a b id 901 0 0).VQ:=
 ⟨by show id≤1099511627776;omega,by show id≤2147483648;omega,⟨by show (0:Int)≤a;omega,by show a≤40000;omega⟩,⟨by show (0:Int)≤b;omega,by show b≤40000;omega⟩,⟨by show (0:Int)≤3;omega,by show (3:Int)≤40000;omega⟩,⟨by show (0:Int)≤0;omega,by show (0:Int)≤40000;omega⟩⟩
structure AAi (es:List Bs) (c:BQ):Prop where
 lo:0≤c.AV
 hi:c.AV<(es.length:Nat)
 kind:1≤c.kind∧c.kind≤12
 fits:c.Cw.fits
 small:c.Cw.small
abbrev p_ (nm:List UInt8) (a b id to key:Int):Pr:=Cp.ex fun s:Int=>fact (0≤s∧s<4294967296) (Mz [KC nm a b id to key s])
theorem vv {nm:List UInt8} (h:nm∈FB) {a b id key s:Int}:(G5 nm a b id 901 key s).fits∧(G5 nm a b id 901 key s).small:=by
 have hn:=(SL _ h).2
 refine ⟨fun c hc=> ?_,⟨by simp,fun c hc=>by simp at hc;subst hc;simp⟩⟩
 simp at hc;subst hc
 exact ⟨by show 4≤maxLen;unfold maxLen;omega,by show nm.length≤maxLen;unfold maxLen;omega,fun n hn2=>by simp at hn2;subst hn2;unfold maxLen;omega⟩
structure Tt where
 Bw:Int
 bits:Int
 day:Int
 deriving DecidableEq
abbrev AAj (x:Tt):List Pr:=[int x.Bw,int x.bits,int x.day]
abbrev cQ (l:List Tt):Pr:=slice 3 (l.map AAj)
structure SM where
 name:List UInt8
 kind:Int
 IA:Int
 links:List Tt
 Kc:Int
 deriving DecidableEq
abbrev XJ (x:SM):List Pr:=[str x.name,int x.kind,int x.IA,cQ x.links,int x.Kc]
abbrev Ow (l:List SM):Pr:=slice 5 (l.map XJ)
structure Ho where
 client:Int
 server:Int
 deriving DecidableEq
abbrev qA (x:Ho):List Pr:=[int x.client,int x.server]
abbrev HZ (l:List Ho):Pr:=slice 2 (l.map qA)
abbrev Ey:Tt:=⟨0,0,0⟩
abbrev F7:Ho:=⟨0,0⟩
def Fc (l:List Tt) (i:Nat):Bool:=decide (DN (l[i]?.getD Ey).Bw (l[i]?.getD Ey).bits>0)&&decide (0≤(l[i]?.getD Ey).day)&&decide ((l[i]?.getD Ey).day≤40000)&&(decide (i=0)||decide ((l[i-1]?.getD Ey).day<(l[i]?.getD Ey).day))
def M7 (x:SM):Bool:=(named x.name&&decide (x.kind=1∨x.kind=2)&&decide (1≤x.IA)&&decide (x.IA≤4)&&decide (1≤x.links.length)&&decide (x.links.length≤8))&&allI (Fc x.links) x.links.length&&(decide ((x.links[0]?.getD Ey).day≤x.Kc)&&decide (x.Kc≤40000))
structure vw (x:SM):Prop where
 name:named x.name=true
 kind:x.kind=1∨x.kind=2
 p1:1≤x.IA
 p4:x.IA≤4
 l1:1≤x.links.length
 l8:x.links.length≤8
 lnk:∀j,j<x.links.length→Fc x.links j=true
 u0:(x.links[0]?.getD Ey).day≤x.Kc
 u1:x.Kc≤40000
theorem CK {x:SM}:M7 x=true↔vw x:=by
 unfold M7
 simp only [Bool.and_eq_true,decide_eq_true_eq,Bn]
 exact ⟨fun ⟨⟨⟨⟨⟨⟨⟨h1,h2⟩,h3⟩,h4⟩,h5⟩,h6⟩,h7⟩,h8,h9⟩=>⟨h1,h2,h3,h4,h5,h6,h7,h8,h9⟩,fun h=>⟨⟨⟨⟨⟨⟨⟨h.name,h.kind⟩,h.p1⟩,h.p4⟩,h.l1⟩,h.l8⟩,h.lnk⟩,h.u0,h.u1⟩⟩
def DA (n:Nat) (l:List Ho) (i:Nat):Bool:=(decide (0≤(l[i]?.getD F7).client∧(l[i]?.getD F7).client<n)&&decide (0≤(l[i]?.getD F7).server∧(l[i]?.getD F7).server<n)&&decide ((l[i]?.getD F7).client≠(l[i]?.getD F7).server))&&(decide (i=0)||decide ((l[i-1]?.getD F7).client<(l[i]?.getD F7).client∨((l[i-1]?.getD F7).client=(l[i]?.getD F7).client∧(l[i-1]?.getD F7).server<(l[i]?.getD F7).server)))
def SN (n:Nat) (l:List Ho):Bool:=allI (DA n l) l.length&&decide (l.length≤40)
theorem VT {x:SM}  :BA prog 51 [agg (XJ x)] (int (if M7 x then 0 else 30)):=by
 refine fo func51 rfl ⟨rfl,rfl⟩ fun M0 w0=> ?_
 refine ac ?_
 refine FX 1 rfl (Tr.S7 [1] [] ((named x.name=true∧(x.kind=1∨x.kind=2)∧1≤x.IA∧x.IA≤4)∧1≤x.links.length∧x.links.length≤8∧(x.links[0]?.getD Ey).day≤x.Kc∧x.Kc≤40000) ?_ (fun hpre=> ?_))
 refine ac ?_
 refine co rfl (Cq (GA) rfl rfl) ?_
 refine ag ?_ ?_<;>intro h2 q2
 refine ac ?_
 refine Cc 1 54 rfl ?_
 refine a2 ?_
 · refine int_eq (if_neg (fun hv=> ?_)).symm;have ok:=CK.1 hv;have o1:=ok.name;have o2:=ok.kind;have o3:=ok.p1;have o4:=ok.p4;have o5:=ok.l1;have o6:=ok.l8;have o7:=ok.u0;have o8:=ok.u1;(simp_all)
 refine ag ?_ ?_<;>intro h3 q3
 refine ag ?_ ?_<;>intro h4 q4
 refine ac ?_
 refine Cc 1 54 rfl ?_
 refine a2 ?_
 · refine int_eq (if_neg (fun hv=> ?_)).symm;have ok:=CK.1 hv;have o1:=ok.name;have o2:=ok.kind;have o3:=ok.p1;have o4:=ok.p4;have o5:=ok.l1;have o6:=ok.l8;have o7:=ok.u0;have o8:=ok.u1;(omega)
 refine ag ?_ ?_<;>intro h5 q5
 refine ac ?_
 refine Cc 1 54 rfl ?_
 refine a2 ?_
 · refine int_eq (if_neg (fun hv=> ?_)).symm;have ok:=CK.1 hv;have o1:=ok.name;have o2:=ok.kind;have o3:=ok.p1;have o4:=ok.p4;have o5:=ok.l1;have o6:=ok.l8;have o7:=ok.u0;have o8:=ok.u1;(omega)
 refine ag ?_ ?_<;>intro h6 q6
 refine ac ?_
 refine Cc 1 54 rfl ?_
 refine a2 ?_
 · refine int_eq (if_neg (fun hv=> ?_)).symm;have ok:=CK.1 hv;have o1:=ok.name;have o2:=ok.kind;have o3:=ok.p1;have o4:=ok.p4;have o5:=ok.l1;have o6:=ok.l8;have o7:=ok.u0;have o8:=ok.u1;(omega)
 refine ag ?_ ?_<;>intro h7 q7
 refine ac ?_
 refine Cc 1 54 rfl ?_
 refine a2 ?_
 · refine int_eq (if_neg (fun hv=> ?_)).symm;have ok:=CK.1 hv;have o1:=ok.name;have o2:=ok.kind;have o3:=ok.p1;have o4:=ok.p4;have o5:=ok.l1;have o6:=ok.l8;have o7:=ok.u0;have o8:=ok.u1;(omega)
 refine ag ?_ ?_<;>intro h8 q8
 refine ac ?_
 refine Cc 1 54 rfl ?_
 refine a2 ?_
 · refine int_eq (if_neg (fun hv=> ?_)).symm;have ok:=CK.1 hv;have o1:=ok.name;have o2:=ok.kind;have o3:=ok.p1;have o4:=ok.p4;have o5:=ok.l1;have o6:=ok.l8;have o7:=ok.u0;have o8:=ok.u1;(omega)
 refine ag ?_ ?_<;>intro h9 q9
 refine ac ?_
 refine Cc 1 54 rfl ?_
 refine a2 ?_
 · refine int_eq (if_neg (fun hv=> ?_)).symm;have ok:=CK.1 hv;have o1:=ok.name;have o2:=ok.kind;have o3:=ok.p1;have o4:=ok.p4;have o5:=ok.l1;have o6:=ok.l8;have o7:=ok.u0;have o8:=ok.u1;(omega)
 obtain ⟨c0,hc0⟩:=at_ (l:=x.links) (k:=0) (by omega)
 have jl:=getD_at (d:=Ey) hc0
 refine ac ?_
 refine cy h9 rfl (AA rfl underlying89 I2 (vl rfl) (vl rfl) (by omega) (AP (k:=0) hc0)) ?_
 refine ac ?_
 refine Cc 1 54 rfl ?_
 refine Tr.cn rfl ?_ ?_<;>intro h10 QH
 refine a2 ?_
 · refine int_eq (if_neg (fun hv=> ?_)).symm;have ok:=CK.1 hv;have o1:=ok.name;have o2:=ok.kind;have o3:=ok.p1;have o4:=ok.p4;have o5:=ok.l1;have o6:=ok.l8;have o7:=ok.u0;have o8:=ok.u1;(simp_all;omega)
 refine Tr.skip ?_
 exact Fin.AL () ⟨⟨by simp_all,by omega,by omega,by omega⟩,by omega,by omega,by rw [jl];omega,by omega⟩ ⟨ke rfl,trivial⟩
 refine ag ?_ ?_<;>intro h11 QG
 refine ac ?_
 refine Cc 1 54 rfl ?_
 refine a2 ?_
 · refine int_eq (if_neg (fun hv=> ?_)).symm;have ok:=CK.1 hv;have o1:=ok.name;have o2:=ok.kind;have o3:=ok.p1;have o4:=ok.p4;have o5:=ok.l1;have o6:=ok.l8;have o7:=ok.u0;have o8:=ok.u1;(omega)
 refine ag ?_ ?_<;>intro h12 Ul
 refine ac ?_
 refine Cc 1 54 rfl ?_
 refine a2 ?_
 · refine int_eq (if_neg (fun hv=> ?_)).symm;have ok:=CK.1 hv;have o1:=ok.name;have o2:=ok.kind;have o3:=ok.p1;have o4:=ok.p4;have o5:=ok.l1;have o6:=ok.l8;have o7:=ok.u0;have o8:=ok.u1;(omega)
 refine ag ?_ ?_<;>intro Ms Yh
 refine ac ?_
 refine Cc 1 54 rfl ?_
 refine a2 ?_
 · refine int_eq (if_neg (fun hv=> ?_)).symm;have ok:=CK.1 hv;have o1:=ok.name;have o2:=ok.kind;have o3:=ok.p1;have o4:=ok.p4;have o5:=ok.l1;have o6:=ok.l8;have o7:=ok.u0;have o8:=ok.u1;(omega)
 refine ag ?_ ?_<;>intro Lz jc
 refine ac ?_
 refine Cc 1 54 rfl ?_
 refine a2 ?_
 · refine int_eq (if_neg (fun hv=> ?_)).symm;have ok:=CK.1 hv;have o1:=ok.name;have o2:=ok.kind;have o3:=ok.p1;have o4:=ok.p4;have o5:=ok.l1;have o6:=ok.l8;have o7:=ok.u0;have o8:=ok.u1;(omega)
 refine ag ?_ ?_<;>intro TJ q15
 refine ac ?_
 refine Cc 1 54 rfl ?_
 refine a2 ?_
 · refine int_eq (if_neg (fun hv=> ?_)).symm;have ok:=CK.1 hv;have o1:=ok.name;have o2:=ok.kind;have o3:=ok.p1;have o4:=ok.p4;have o5:=ok.l1;have o6:=ok.l8;have o7:=ok.u0;have o8:=ok.u1;(omega)
 obtain ⟨c0,hc0⟩:=at_ (l:=x.links) (k:=0) (by omega)
 have jl:=getD_at (d:=Ey) hc0
 refine ac ?_
 refine cy TJ rfl (AA rfl underlying89 I2 (vl rfl) (vl rfl) (by omega) (AP (k:=0) hc0)) ?_
 refine ac ?_
 refine Cc 1 54 rfl ?_
 refine Tr.cn rfl ?_ ?_<;>intro h16 q16
 refine a2 ?_
 · refine int_eq (if_neg (fun hv=> ?_)).symm;have ok:=CK.1 hv;have o1:=ok.name;have o2:=ok.kind;have o3:=ok.p1;have o4:=ok.p4;have o5:=ok.l1;have o6:=ok.l8;have o7:=ok.u0;have o8:=ok.u1;(simp_all;omega)
 refine Tr.skip ?_
 exact Fin.AL () ⟨⟨by simp_all,by omega,by omega,by omega⟩,by omega,by omega,by rw [jl];omega,by omega⟩ ⟨ke rfl,trivial⟩
 obtain ⟨⟨hq1,YH,pJ,hq4⟩,hq5,hq6,hq7,hq8⟩:=hpre
 refine ac ?_
 refine Tr.block (Tr.A9 [(1,_)] ⟨ke rfl,trivial⟩ (fun k:Nat=>[(3,int ((k:Nat):Int))]) (fun k:Nat=>k≤(x.links).length∧(∀j,j<k→Fc x.links j=true)) (fun k:Nat=>(x.links).length-k) 0 (⟨Nat.zero_le _,fun j hj=>absurd hj (by omega)⟩) ⟨ke rfl,trivial⟩ ?_)
 rintro k ⟨BP,AW⟩
 refine an ?_ ?_<;>intro NN jS
 have Ai:k<(x.links).length:=AG NN
 obtain ⟨c,Af⟩:=at_ Ai
 have hg:=getD_at (d:=Ey) Af
 refine a2 ?_
 refine co rfl (AA rfl underlying89 I2 (vl rfl) (vl rfl) (by omega) (AP Af)) ?_
 refine ac ?_
 refine co rfl (Cq (I7) rfl rfl) ?_
 refine ag ?_ ?_<;>intro P4 q18
 refine ac ?_
 refine Cd 1 3 107 rfl ?_
 refine a2 ?_
 · refine int_eq (if_neg (fun hv=> ?_)).symm;have ok:=CK.1 hv;have o1:=ok.name;have o2:=ok.kind;have o3:=ok.p1;have o4:=ok.p4;have o5:=ok.l1;have o6:=ok.l8;have o7:=ok.u0;have o8:=ok.u1;(have h_:=ok.lnk k (by omega);unfold Fc at h_;rw [hg] at h_;simp_all;omega)
 refine ac ?_
 refine cy P4 rfl (AA rfl underlying89 I2 (vl rfl) (vl rfl) (by omega) (AP Af)) ?_
 refine ag ?_ ?_<;>intro gS q19
 refine ac ?_
 refine Cd 1 3 107 rfl ?_
 refine a2 ?_
 · refine int_eq (if_neg (fun hv=> ?_)).symm;have ok:=CK.1 hv;have o1:=ok.name;have o2:=ok.kind;have o3:=ok.p1;have o4:=ok.p4;have o5:=ok.l1;have o6:=ok.l8;have o7:=ok.u0;have o8:=ok.u1;(have h_:=ok.lnk k (by omega);unfold Fc at h_;rw [hg] at h_;simp_all;omega)
 refine ac ?_
 refine cy gS rfl (AA rfl underlying89 I2 (vl rfl) (vl rfl) (by omega) (AP Af)) ?_
 refine ag ?_ ?_<;>intro P5 q20
 refine ac ?_
 refine Cd 1 3 107 rfl ?_
 refine a2 ?_
 · refine int_eq (if_neg (fun hv=> ?_)).symm;have ok:=CK.1 hv;have o1:=ok.name;have o2:=ok.kind;have o3:=ok.p1;have o4:=ok.p4;have o5:=ok.l1;have o6:=ok.l8;have o7:=ok.u0;have o8:=ok.u1;(have h_:=ok.lnk k (by omega);unfold Fc at h_;rw [hg] at h_;simp_all;omega)
 refine ag ?_ ?_<;>intro W6 q21
 have hk0:0<k:=by simpa using W6
 obtain ⟨y,hy⟩:=at_ (l:=x.links) (k:=k-1) (by omega)
 have SO:=getD_at (d:=Ey) hy
 · repeat' first|(refine int_eq (if_neg (fun hv=> ?_)).symm;have ok:=CK.1 hv;have o1:=ok.name;have o2:=ok.kind;have o3:=ok.p1;have o4:=ok.p4;have o5:=ok.l1;have o6:=ok.l8;have o7:=ok.u0;have o8:=ok.u1;(have h_:=ok.lnk k (by omega);unfold Fc at h_;rw [hg,SO] at h_;simp_all;omega))|(exact Fin.AL (k+1) ⟨⟨Ai,Db AW (by unfold Fc;rw [hg,SO];simp_all)⟩,by omega⟩ ⟨⟨_,rfl,AE k⟩,ke rfl,trivial⟩)|(refine cy W6 rfl (AA rfl underlying89 I2 (vl rfl) (vl rfl) (by omega) (by rw [show ((k:Nat):Int)-1=((k-1:Nat):Int) by omega];exact AP hy)) ?_)|refine cy W6 rfl (AA rfl underlying89 I2 (vl rfl) (vl rfl) (by omega) (AP Af)) ?_|refine ac ?_|(refine Tr.cn rfl ?_ ?_<;>intro h q)
 have KY:¬0<k:=by simpa using W6
 refine ac ?_
 refine Cd 1 3 107 rfl ?_
 refine a2 ?_
 exact Fin.AL (k+1) ⟨⟨Ai,Db AW (by unfold Fc;rw [hg];simp_all)⟩,by omega⟩ ⟨⟨_,rfl,AE k⟩,ke rfl,trivial⟩
 have BJ:k=(x.links).length:=by have:=AH NN;omega
 subst BJ
 refine a3 ?_
 · refine int_eq (if_pos (CK.2 ⟨hq1,YH,pJ,hq4,hq5,hq6,AW,by omega,by omega⟩)).symm
end Go.Proofs.YtkobgkelhcigdaaGreatDoor
