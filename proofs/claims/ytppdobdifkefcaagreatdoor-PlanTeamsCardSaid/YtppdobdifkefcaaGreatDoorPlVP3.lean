/-
  Part 3 of the texts that prove this claim, merged.
-/
import Derived.Test.YtppdobdifkefcaaGreatDoorRows
import Derived.Test.YtppdobdifkefcaaGreatDoorPlVP2
set_option linter.all false
set_option maxRecDepth 40000
set_option maxHeartbeats 16000000
namespace Cp
open Go Go.RowKit Go.Great
class T1 (P:Program) (t:TypeId):Prop where
 h:Dl P t=true
class TA (P:Program) (t:TypeId):Prop where
 h:EV P t=true
class TZ (P:Program) (t:TypeId) (m:outParam Nat):Prop where
 h:Af P t=some m
class TF (P:Program) (s f:Nat) (k:outParam Nat):Prop where
 h:AP P s f=some k
class TU (P:Program) (t:TypeId) (d:outParam TypeDesc):Prop where
 h:P.underlying t=some d
class TB (P:Program) (t:TypeId) (place:outParam (Nat→Option (Nat×Nat))) (zs:outParam (List Value)):Prop where
 h:∀ps,P.built t ps=Instr.fill place zs.toArray ps
 z:zs.all (·.oneCell')=true
class TV (P:Program) (t:TypeId) (zs:outParam (List Value)):Prop where
 h:A7 P t=some zs
 z:zs.all (·.oneCell')=true
class TM (P:Program):Prop where
 h:P.follows .mixedOrders=true
section
variable {P:Program} {L:Lg P} {n:Fm} {fz:Nat} {I:B6} {ops:Array Oper} {o:Oper} {r:List Oper} {E:Env} {K:Env→Prop} {d g j:Nat} {b want:Bool} {p:Pr} {x y:Operand} {Q:Exit→Act→World→Prop} {t u:TypeId}
theorem pW [i:T1 P t] {ps:List Pr} (ho:o.op= .load t x) (hx:CZ E x=some (ref (p::ps))):AR P I o E p:=Bg ho i.h (vl hx)
theorem pX [i:TA P t] {m:Nat} [z:TZ P t m] {ps qs:List Pr} (ho:o.op= .load t x) (hx:CZ E x=some (ref ps)) (hq:ps.take m=qs) (hm:qs.length=m):AR P I o E (agg qs):=AF ho i.h z.h (vl hx) hq hm
theorem pY {s:TypeId} {f k:Nat} [i:TF P s f k] {ps qs:List Pr} (ho:o.op= .fieldAddr s x f) (hx:CZ E x=some (ref ps)) (hq:ps.drop k=qs):AR P I o E (ref qs):=BN ho i.h (vl hx) hq
theorem pZ {s:TypeId} {f k:Nat} [i:TF P s f k] {b off:Nat} (ho:o.op= .fieldAddr s x f) (hx:CZ E x=some (ptr b off)):AR P I o E (ptr b (off+k)):=AO ho i.h (vl hx)
theorem pg {e:TypeId} [i:TU P t (.slice e)] {sz:Nat} {β:Type} {f:β→List Pr} {l:List β} (ho:o.op= .call { callee:= .builtin .len,args:= #[x],argTypes:= #[t] }) (hx:CZ E x=some (slice sz (l.map f))):AR P I o E (int ((l.length:Nat):Int)):=Bq ho i.h (vl hx)
theorem pq [i:TU P t .string] {a:List UInt8} (ho:o.op= .call { callee:= .builtin .len,args:= #[x],argTypes:= #[t] }) (hx:CZ E x=some (str a)):AR P I o E (int ((a.length:Nat):Int)):=Yp ho i.h (vl hx)
theorem pz [i:TU P t .bool] {b c:Bool} (ho:o.op= .binOp .eql t x y u) (hx:CZ E x=some (bool b)) (hy:CZ E y=some (bool c)):AR P I o E (bool (b==c)):=bf ho i.h (vl hx) (vl hy)
theorem p_ {p:Pr} [One p] (ho:o.op= .box t x) (hx:CZ E x=some p):AR P I o E (ref [p]):=Dh ho (VL.le (vl hx) (AD p))
theorem qA {ps:List Pr} (ho:o.op= .box t x) (hx:CZ E x=some (agg ps)):AR P I o E (ref ps):=Dh ho (VL.le (vl hx) (AJ ps))
class CP (p:Pr) (ps:outParam (List Pr)):Prop where
 h:Pr.le p (CI ps)
instance qB (ps:List Pr):CP (agg ps) ps:=⟨AJ ps⟩
instance (priority:=low) qC (p:Pr) [One p]:CP p [p]:=⟨AD p⟩
class CQ (p:Pr) (ps:outParam (List Pr)):Prop where
 h:Pr.le p (CI ps)
instance qD (ps:List Pr):CQ (agg ps) ps:=⟨AJ ps⟩
instance qE (k:IntKind) (n:Int):CQ (is (.int k n)) [is (.int k n)]:=⟨AD _⟩
instance mh (b:Bool):CQ (is (.bool b)) [is (.bool b)]:=⟨AD _⟩
instance qF (s:ByteArray):CQ (is (.string s)) [is (.string s)]:=⟨AD _⟩
instance qG (a:Option Addr):CQ (is (.pointer a)) [is (.pointer a)]:=⟨AD _⟩
instance jh (sz:Nat) (rows:List (List Pr)):CQ (slice sz rows) [slice sz rows]:=⟨AD _⟩
instance qH (ps:List Pr):CQ (ref ps) [ref ps]:=⟨AD _⟩
instance r7 (f:Fn) (ps:List Pr):CQ (fn f ps) [fn f ps]:=⟨AD _⟩
theorem vf0:QZ E [] []:=trivial
theorem vf1 {i:Nat} {q:Pr} {row:List Pr} [c:CQ q row] {xs:List (Nat×Operand)} {rows:List (Nat×List Pr)} (hx:CZ E x=some q) (h:QZ E xs rows):QZ E ((i,x)::xs) ((i,row)::rows):=⟨⟨rfl,VL.le (vl hx) c.h⟩,h⟩
theorem vr0 {sz:Nat}:MY E sz [] []:=trivial
theorem vr1 {sz:Nat} {q:Pr} {row:List Pr} [c:CQ q row] {xs:List Operand} {rows:List (List Pr)} (hx:CZ E x=some q) (hl:row.length=sz) (h:MY E sz xs rows):MY E sz (x::xs) (row::rows):=⟨⟨hl,VL.le (vl hx) c.h⟩,h⟩
theorem qI {parts:Array (Nat×Operand)} {place:Nat→Option (Nat×Nat)} {zs:List Value} [i:TB P t place zs] {rows:List (Nat×List Pr)} {qs:List Pr} (ho:o.op= .build t parts) (hx:QZ E parts.toList rows) (hq:Mp place (zs.map is) rows=some qs):AR P I o E (agg qs):=Ad ho i.h i.z hx hq
theorem qJ {e:TypeId} {sz m:Nat} {zs:List Value} {xs:List Operand} {parts:Array (Nat×Operand)} {rows:List (List Pr)} [i:TU P t (.slice e)] [z:TZ P e sz] [v:TV P e zs] (ho:o.op= .buildSlice t m parts) (hp:parts.toList.map Prod.snd=xs) (hm:(m==xs.length&&(parts.toList.map Prod.fst==List.range m)&&zs.length==sz&&Nat.blt 0 sz&&Nat.ble (m*sz) 16777216)=true) (hx:MY E sz xs rows):AR P I o E (full sz rows):=by
 simp only [Bool.and_eq_true,beq_iff_eq,Nat.blt_eq,Nat.ble_eq] at hm
 obtain ⟨⟨⟨⟨h1,h2⟩,h3⟩,h4⟩,h5⟩:=hm
 subst h1
 refine AQ ho ?_ i.h z.h v.h h3 h4 hx h5
 refine List.ext_getElem (by rw [←hp];simp) fun k h6 h7=> ?_
 have h8:k<xs.length:=by simpa using h7
 simp only [List.getElem_map,List.getElem_zipIdx,Nat.zero_add]
 have e1:(parts.toList.map Prod.fst)[k]'(by simpa using h6)=k:=by simp only [h2];exact List.getElem_range _
 have e2:(parts.toList.map Prod.snd)[k]'(by simpa using h6)=xs[k]:=by simp only [hp]
 simp only [List.getElem_map] at e1 e2
 exact Prod.ext e1 e2
section
variable {M0:Av} {w0:World} {S:Nat→Prop} {b off:Nat} {T:TypeId} {new:Bool} {ps qs:List Pr} {m:Nat} {q:Pr}
theorem Ia [i:T1 P t] (ho:o.op= .load t x) (hx:CZ E x=some (ptr b off)) (hp:ps[off]? =some p):IE P M0 w0 S j (SR.c (AB new b T ps)) o E p:=Aj ho i.h (vl hx) hp
theorem Ib [i:TA P t] [z:TZ P t m] (ho:o.op= .load t x) (hx:CZ E x=some (ptr b off)) (hq:(ps.drop off).take m=qs) (hm:qs.length=m):IE P M0 w0 S j (SR.c (AB new b T ps)) o E (agg qs):=B1 ho i.h z.h (vl hx) hq hm
theorem O7 {ps':List Pr} [z:TZ P t m] [c:CP q qs] (hg:o.guard=none) (ho:o.op= .store t x y) (hx:CZ E x=some (ptr b off)) (hy:CZ E y=some q) (hm:qs.length=m:=by rfl) (hl:Nat.ble (off+m) ps.length=true:=by rfl) (hps:ps.take off++qs++ps.drop (off+m)=ps':=by rfl):C5 P M0 w0 S n j (SR.c (AB new b T ps)) (SR.c (AB new b T ps')) o E any:=BP hg ho (vl hx) (VL.le (vl hy) c.h) z.h hm (Nat.le_of_ble_eq_true hl) hps
variable {rs:List Ae}
theorem sf (i s:Nat) [z:TZ P t m] [c:CP q qs] (hg:o.guard=none∧o.dst=none∧o.op= .store t x y) (hx:CZ E x=some (ptr b 0)) (hy:CZ E y=some q) (hi:rs[i]? =some (AB true b T ps)) (hs:E.lookup s=some (ptr b 0))
  (k:TO P n ops r ((s,ref qs)::E) (Hp M0 w0 S ((rs.set i (AB true b T qs)).eraseIdx i)) Q) (hm:qs.length=m:=by rfl) (hl:ps.length=m:=by rfl):TO P n ops (o::r) E (Hp M0 w0 S rs) Q:=
 TO.Ap i hg.1 hg.2.1 hg.2.2 (vl hx) (VL.le (vl hy) c.h) hi z.h hm hl (TO.freeze (ps:=qs) i s (by
  have hlt:i<rs.length:=by rcases Nat.lt_or_ge i rs.length with h|h;exact h;rw [List.getElem?_eq_none h] at hi;cases hi
  rw [List.getElem?_set_self hlt]) hs k)
theorem sa (i:Nat) [z:TZ P t m] [c:CP q qs] (hg:o.guard=none∧o.dst=none∧o.op= .store t x y) (hx:CZ E x=some (ptr b 0)) (hy:CZ E y=some q) (hi:rs[i]? =some (AB new b T ps))
  (k:TO P n ops r E (Hp M0 w0 S (rs.set i (AB new b T qs))) Q) (hm:qs.length=m:=by rfl) (hl:ps.length=m:=by rfl):TO P n ops (o::r) E (Hp M0 w0 S rs) Q:=TO.Ap i hg.1 hg.2.1 hg.2.2 (vl hx) (VL.le (vl hy) c.h) hi z.h hm hl k
end
def dK (o:Oper):Nat:=match o.op with
 | .move ..=>1
 | .assign ..=>1
 | .fieldAddr ..=>2
 | .load ..=>3
 | .binOp .add ..=>7
 | .binOp .sub ..=>8
 | .binOp ..=>4
 | .pick ..=>5
 | .nilCheck ..=>6
 | .call { callee:= .builtin .len,.. }=>9
 | .unOp ..=>10
 | .box ..=>11
 | .extract ..=>12
 | .makeFunc ..=>13
 | .build ..=>14
 | .buildSlice ..=>15
 | .store ..=>16
 |_=>0
def ji (o:Oper):Bool:=o.guard.isNone
def grp (o:Oper):Nat:=if dK o=0 then 0 else if dK o<5 then 1 else if dK o<9 then 2 else if dK o<16 then 3 else 4
theorem qK {m z:Int} (ho:o.op= .binOp .add t x y u) (hx:CZ E x=some (int m)) (hy:CZ E y=some (int z)) (hr: -9223372036854775808≤m+z∧m+z≤9223372036854775807):AR P I o E (int (m+z)):=Dz ho (vl hx) (vl hy) hr
theorem qL {m z:Int} (ho:o.op= .binOp .sub t x y u) (hx:CZ E x=some (int m)) (hy:CZ E y=some (int z)) (hr: -9223372036854775808≤m-z∧m-z≤9223372036854775807):AR P I o E (int (m-z)):=QN ho (vl hx) (vl hy) hr
theorem oF (h:AR P I o E p:=by first|exact pY rfl rfl rfl|exact pZ rfl rfl):AR P I o E p:=h
theorem oL (h:AR P I o E p:=by first|exact pW rfl rfl|exact pX rfl rfl rfl rfl|exact CT 0 rfl (Ia rfl rfl rfl)|exact CT 0 rfl (Ib rfl rfl rfl rfl)|exact CT 1 rfl (Ia rfl rfl rfl)|exact CT 1 rfl (Ib rfl rfl rfl rfl)|exact CT 2 rfl (Ia rfl rfl rfl)|exact CT 2 rfl (Ib rfl rfl rfl rfl)|exact CT 3 rfl (Ia rfl rfl rfl)|exact CT 3 rfl (Ib rfl rfl rfl rfl)|exact CT 4 rfl (Ia rfl rfl rfl)|exact CT 4 rfl (Ib rfl rfl rfl rfl)):AR P I o E p:=h
theorem oB (h:AR P I o E p:=by first|exact ki rfl rfl rfl rfl|exact c_ rfl (vl rfl) (vl rfl)|exact dA rfl (vl rfl) (vl rfl)|exact pz rfl rfl rfl):AR P I o E p:=h
theorem oP (h:AR P I o E p:=by first|exact SB rfl rfl (by first|rfl|assumption) rfl|exact LZ rfl rfl (by first|rfl|assumption) rfl|exact Ta rfl (vl rfl) (vl rfl)|exact Qj rfl (vl rfl) (vl rfl)):AR P I o E p:=h
theorem oN (h:AR P I o E p:=by first|exact C1 rfl (vl rfl)|exact Kt rfl (vl rfl)|exact LO rfl (vl rfl)):AR P I o E p:=h
theorem oA (h:AR P I o E p:=by first|exact qK rfl rfl rfl (by omega)|exact ki rfl rfl rfl rfl):AR P I o E p:=h
theorem oS (h:AR P I o E p:=by first|exact qL rfl rfl rfl (by omega)|exact ki rfl rfl rfl rfl):AR P I o E p:=h
theorem oC (h:AR P I o E p:=by first|exact pg rfl rfl|exact pq rfl rfl):AR P I o E p:=h
theorem oU (h:AR P I o E p:=by first|exact QO rfl (vl rfl)):AR P I o E p:=h
theorem oO (h:AR P I o E p:=by first|exact qA rfl rfl|exact p_ rfl rfl):AR P I o E p:=h
theorem oE (h:AR P I o E p:=by first|exact CJ rfl (vl rfl) rfl):AR P I o E p:=h
theorem oM (h:AR P I o E p:=by first|exact KQ rfl rfl):AR P I o E p:=h
theorem oD (h:AR P I o E p:=by first|exact qI rfl (by repeat any_goals first|exact vf0|refine' vf1 rfl ?_) (by rfl)):AR P I o E p:=h
theorem oI (h:AR P I o E p:=by first|exact qJ rfl rfl (by rfl) (by repeat any_goals first|exact vr0|refine' vr1 rfl (by rfl) ?_)):AR P I o E p:=h
theorem mj {f:FuncId} {ts:Array TypeId} {res:Pr} (hf:A9 P f [] res) (ho:o.op= .call { callee:= .value (.func f),args:= #[],argTypes:=ts }):AR P I o E res:=AW ho hf trivial
theorem CN {f:FuncId} {ts:Array TypeId} {x0:Operand} {p0:Pr} {res:Pr} (hf:A9 P f [p0] res) (ho:o.op= .call { callee:= .value (.func f),args:= #[x0],argTypes:=ts }) (h0:CZ E x0=some p0):AR P I o E res:=AW ho hf ⟨ke h0,trivial⟩
theorem DK {f:FuncId} {ts:Array TypeId} {x0:Operand} {p0:Pr} {x1:Operand} {p1:Pr} {res:Pr} (hf:A9 P f [p0,p1] res) (ho:o.op= .call { callee:= .value (.func f),args:= #[x0,x1],argTypes:=ts }) (h0:CZ E x0=some p0) (h1:CZ E x1=some p1):AR P I o E res:=AW ho hf ⟨ke h0,ke h1,trivial⟩
theorem jj {f:FuncId} {ts:Array TypeId} {x0:Operand} {p0:Pr} {x1:Operand} {p1:Pr} {x2:Operand} {p2:Pr} {res:Pr} (hf:A9 P f [p0,p1,p2] res) (ho:o.op= .call { callee:= .value (.func f),args:= #[x0,x1,x2],argTypes:=ts }) (h0:CZ E x0=some p0) (h1:CZ E x1=some p1) (h2:CZ E x2=some p2):AR P I o E res:=AW ho hf ⟨ke h0,ke h1,ke h2,trivial⟩
theorem kc4 {f:FuncId} {ts:Array TypeId} {x0:Operand} {p0:Pr} {x1:Operand} {p1:Pr} {x2:Operand} {p2:Pr} {x3:Operand} {p3:Pr} {res:Pr} (hf:A9 P f [p0,p1,p2,p3] res) (ho:o.op= .call { callee:= .value (.func f),args:= #[x0,x1,x2,x3],argTypes:=ts }) (h0:CZ E x0=some p0) (h1:CZ E x1=some p1) (h2:CZ E x2=some p2) (h3:CZ E x3=some p3):AR P I o E res:=AW ho hf ⟨ke h0,ke h1,ke h2,ke h3,trivial⟩
theorem cP (_:ji o=true) (h:Ch P n I ops (o::r) E K):Ch P n I ops (o::r) E K:=h
theorem cG (_:ji o=false) (h:Ch P n I ops (o::r) E K):Ch P n I ops (o::r) E K:=h
theorem cK (k:Nat) (_:dK o=k) (h:Ch P n I ops (o::r) E K):Ch P n I ops (o::r) E K:=h
theorem cS (k:Nat) (_:grp o=k) (h:Ch P n I ops (o::r) E K):Ch P n I ops (o::r) E K:=h
theorem tK (k:Nat) (_:dK o=k) (h:TO P n ops (o::r) E I Q):TO P n ops (o::r) E I Q:=h
theorem tG (k:Nat) (_:grp o=k) (h:TO P n ops (o::r) E I Q):TO P n ops (o::r) E I Q:=h
theorem Tr.rm [i:TM P] {id:Nat} {l:List Oper} (hB:Ni l=true) (h:Ch P n I l.toArray l E (fun E'=>Fin n E' I Q .normal)) (hc:calm l=true:=by with_unfolding_all rfl):Tr L n E I (.region id l.toArray true) Q:=Tr.bQ i.h hB h hc
theorem Tr.ct {c:Operand} {y z:Code} (hc:CZ E c=some (bool true)) (k:Tr L n E I y Q):Tr L n E I (.cond c y z) Q:=Tr.cond hc (fun _=>k) (fun h=>nomatch h)
theorem Tr.cf {c:Operand} {y z:Code} (hc:CZ E c=some (bool false)) (k:Tr L n E I z Q):Tr L n E I (.cond c y z) Q:=Tr.cond hc (fun h=>nomatch h) (fun _=>k)
structure Vd (G:Prop):Prop where
 k:G
theorem Cx.mono {M0:Av} {w0:World} {S:Nat→Prop}:∀{l:List Oper} {E:Env} {rs:List SR} {K K':List X→Env→List SR→Prop},(∀L E rs,K L E rs→K' L E rs)→Cx P M0 w0 S n ops l E rs K→Cx P M0 w0 S n ops l E rs K'
 |[],_,_,_,_,h,k=>h _ _ _ k
 |_::_,_,_,_,_,h,⟨p,k,h1,h2,h3⟩=>⟨p,k,h1,h2,Cx.mono (fun _ _ _=>h _ _ _) h3⟩
theorem Cx.keys {M0:Av} {w0:World} {S:Nat→Prop}:∀{l:List Oper} {E:Env} {rs:List SR} {K:List X→Env→List SR→Prop},Cx P M0 w0 S n ops l E rs K→∃ks:List KN,Cx P M0 w0 S n ops l E rs (fun L E' rs'=>L.map (·.k.IF)=ks∧K L E' rs')
 |[],_,_,_,k=>⟨[],rfl,k⟩
 |_::_,_,_,_,⟨p,k,h1,h2,h3⟩=>by
  obtain ⟨ks,h4⟩:=Cx.keys h3
  exact ⟨k.IF::ks,p,k,h1,h2,Cx.mono (fun L E rs h=>⟨by rw [List.map_cons,h.1],h.2⟩) h4⟩
theorem Tr.rx {Lo:Lg P} [i:TM P] {M0:Av} {w0:World} {S:Nat→Prop} {id:Nat} {l:List Oper} {F0:List Ae}
  (h:Cx P M0 w0 S n l.toArray l E (F0.map SR.c) (fun L E' rs'=>K3 l (L.map (·.k.IF))=true∧BE n M0 w0 S E' rs' Q)) (hc:calm l=true:=by with_unfolding_all rfl):Tr Lo n E (Hp M0 w0 S F0) (.region id l.toArray true) Q:=by
 obtain ⟨ks,hk⟩:=Cx.keys h
 obtain ⟨L,h1,h2,h3⟩:=Nk l 0 E _ hk
 exact Tr.Hh i.h ks (by rw [←h3.1];exact h3.2.1) (hk.mono fun _ _ _ h=>⟨h.1,h.2.2⟩) hc
theorem al1 {rs:List Ae} {r0:Ae}:An (SR.c r0::rs.map SR.c) (r0::rs):= .cons (An.map _)
theorem al2 {rs:List Ae} {r0:Ae} {r1:Ae}:An (SR.c r0::SR.c r1::rs.map SR.c) (r0::r1::rs):= .cons (.cons (An.map _))
theorem al3 {rs:List Ae} {r0:Ae} {r1:Ae} {r2:Ae}:An (SR.c r0::SR.c r1::SR.c r2::rs.map SR.c) (r0::r1::r2::rs):= .cons (.cons (.cons (An.map _)))
theorem al5 {rs:List Ae} {r0:Ae} {r1:Ae} {r2:Ae} {r3:Ae} {r4:Ae}:An (SR.c r0::SR.c r1::SR.c r2::SR.c r3::SR.c r4::rs.map SR.c) (r0::r1::r2::r3::r4::rs):= .cons (.cons (.cons (.cons (.cons (An.map _)))))
theorem al6 {rs:List Ae} {r0:Ae} {r1:Ae} {r2:Ae} {r3:Ae} {r4:Ae} {r5:Ae}:An (SR.c r0::SR.c r1::SR.c r2::SR.c r3::SR.c r4::SR.c r5::rs.map SR.c) (r0::r1::r2::r3::r4::r5::rs):= .cons (.cons (.cons (.cons (.cons (.cons (An.map _))))))
theorem fo {f : FuncId} {g : Func} {c : Code} {ps : List Pr} {res : Pr} (hf : P.funcs[f]? = some g) (hb : g.body = some c) (hname : ((g.name == "runtime.NumGoroutine") = false ∧ Nat.ble ps.length g.ntmps = true))
  (h:∀M0 w0,Tr (Rt P) g.ntmps (IC 0 ps) (Bse M0 w0) c (bodyPost P g (QM M0 w0 res))):A9 P f ps res:=A9.of hf hb hname.1 (Nat.le_of_ble_eq_true hname.2) h
section
variable {M0:Av} {w0:World} {S:Nat→Prop} {rs:List SR} {KX:List X→Env→List SR→Prop}
theorem xId {l:List Oper} (h:Cx P M0 w0 S n ops l E rs KX):Cx P M0 w0 S n ops l E rs KX:=h
theorem xK (k:Nat) (_:dK o=k) (h:Cx P M0 w0 S n ops (o::r) E rs KX):Cx P M0 w0 S n ops (o::r) E rs KX:=h
theorem xG (k:Nat) (_:grp o=k) (h:Cx P M0 w0 S n ops (o::r) E rs KX):Cx P M0 w0 S n ops (o::r) E rs KX:=h
end
theorem cId {l:List Oper} (h:Ch P n I ops l E K):Ch P n I ops l E K:=h
theorem gB {c:Code} (h:Tr L n E I c Q):Tr L n E I c Q:=h
theorem fId {e:Exit} (h:Fin n E I Q e):Fin n E I Q e:=h
theorem jk {l:List Oper} (h:TO P n ops l E I Q):TO P n ops l E I Q:=h
theorem ac {G H:Prop} (k:G) (h:Vd G→H:=by
 intro k
 repeat1' first
  |((with_reducible refine cId ?_);first
   |with_reducible refine Ch.nil ?_
   |(refine cP rfl ?_;first
    |(refine cS 1 rfl ?_;first
      |(refine cK 1 rfl ?_;refine cm rfl ?_)
      |(refine cK 2 rfl ?_;refine co rfl oF ?_)
      |(refine cK 3 rfl ?_;refine co rfl oL ?_)
      |(refine cK 4 rfl ?_;refine co rfl oB ?_))
    |(refine cS 2 rfl ?_;first
      |(refine cK 5 rfl ?_;refine co rfl oP ?_)
      |(refine cK 6 rfl ?_;refine co rfl oN ?_)
      |(refine cK 7 rfl ?_;refine co rfl oA ?_)
      |(refine cK 8 rfl ?_;refine co rfl oS ?_))
    |(refine cS 3 rfl ?_;first
      |(refine cK 9 rfl ?_;refine co rfl oC ?_)
      |(refine cK 10 rfl ?_;refine co rfl oU ?_)
      |(refine cK 11 rfl ?_;refine co rfl oO ?_)
      |(refine cK 12 rfl ?_;refine co rfl oE ?_)
      |(refine cK 13 rfl ?_;refine co rfl oM ?_)
      |(refine cK 14 rfl ?_;refine co rfl oD ?_)
      |(refine cK 15 rfl ?_;refine co rfl oI ?_)))
   |(refine cG rfl ?_;first
    |refine cu rfl ?_
    |refine cnt (by assumption) rfl ?_
    |refine cnf (by assumption) rfl ?_
    |(refine cS 1 rfl ?_;first
      |(refine cK 1 rfl ?_;refine K4 (by first|assumption|rfl) rfl ?_)
      |(refine cK 2 rfl ?_;refine cy (by first|assumption|rfl) rfl oF ?_)
      |(refine cK 3 rfl ?_;refine cy (by first|assumption|rfl) rfl oL ?_)
      |(refine cK 4 rfl ?_;refine cy (by first|assumption|rfl) rfl oB ?_))
    |(refine cS 2 rfl ?_;first
      |(refine cK 5 rfl ?_;refine cy (by first|assumption|rfl) rfl oP ?_)
      |(refine cK 6 rfl ?_;refine cy (by first|assumption|rfl) rfl oN ?_)
      |(refine cK 7 rfl ?_;refine cy (by first|assumption|rfl) rfl oA ?_)
      |(refine cK 8 rfl ?_;refine cy (by first|assumption|rfl) rfl oS ?_))
    |(refine cS 3 rfl ?_;first
      |(refine cK 9 rfl ?_;refine cy (by first|assumption|rfl) rfl oC ?_)
      |(refine cK 10 rfl ?_;refine cy (by first|assumption|rfl) rfl oU ?_)
      |(refine cK 11 rfl ?_;refine cy (by first|assumption|rfl) rfl oO ?_)
      |(refine cK 12 rfl ?_;refine cy (by first|assumption|rfl) rfl oE ?_)
      |(refine cK 13 rfl ?_;refine cy (by first|assumption|rfl) rfl oM ?_)
      |(refine cK 14 rfl ?_;refine cy (by first|assumption|rfl) rfl oD ?_)
      |(refine cK 15 rfl ?_;refine cy (by first|assumption|rfl) rfl oI ?_))
    |refine cnd rfl rfl ?_))
  |((with_reducible refine gB ?_);first
   |with_reducible refine Tr.seq ?_
   |with_reducible refine Tr.Ao ?_
   |refine Tr.rm (by kernel_rfl) ?_
   |with_reducible refine Tr.skip ?_
   |with_reducible refine Tr.block ?_
   |with_reducible refine Tr.ret ?_
   |with_reducible refine Tr.exit ?_
   |refine Tr.ct rfl ?_
   |refine Tr.cf rfl ?_)
  |((with_reducible refine fId ?_);first
   |with_reducible refine Fin.AH ?_
   |with_reducible refine Fin.Ah ?_
   |with_reducible refine Fin.Ac ?_
   |with_reducible refine Fin.Az ?_
   |refine Fin.LL rfl ?_
   |with_reducible refine Fin.block ?_
   |refine Fin.bR rfl (DA.Ht _ _) rfl ?_)
 first|with_reducible refine Fin.go ?_|with_reducible refine cId ?_|with_reducible refine jk ?_|with_reducible refine gB ?_|refine Fin.go ?_|skip
 exact k.k):H:=h ⟨k⟩
theorem ao {G H:Prop} (k:G) (h:Vd G→H:=by
 intro k
 repeat1' first
  |((with_reducible refine jk ?_);first
   |with_reducible refine TO.nil ?_
   |(refine tG 1 rfl ?_;first
     |(refine tK 1 rfl ?_;refine tm rfl ?_)
     |(refine tK 2 rfl ?_;refine tp rfl oF ?_)
     |(refine tK 3 rfl ?_;refine tp rfl oL ?_)
     |(refine tK 4 rfl ?_;refine tp rfl oB ?_))
   |(refine tG 2 rfl ?_;first
     |(refine tK 5 rfl ?_;refine tp rfl oP ?_)
     |(refine tK 6 rfl ?_;refine tp rfl oN ?_)
     |(refine tK 7 rfl ?_;refine tp rfl oA ?_)
     |(refine tK 8 rfl ?_;refine tp rfl oS ?_))
   |(refine tG 3 rfl ?_;first
     |(refine tK 9 rfl ?_;refine tp rfl oC ?_)
     |(refine tK 10 rfl ?_;refine tp rfl oU ?_)
     |(refine tK 12 rfl ?_;refine tp rfl oE ?_)
     |(refine tK 13 rfl ?_;refine tp rfl oM ?_)
     |(refine tK 14 rfl ?_;refine tp rfl oD ?_)
     |(refine tK 15 rfl ?_;refine tp rfl oI ?_)))
  |((with_reducible refine gB ?_);first
   |with_reducible refine Tr.seq ?_
   |with_reducible refine Tr.As ?_
   |with_reducible refine Tr.skip ?_
   |with_reducible refine Tr.block ?_
   |with_reducible refine Tr.ret ?_
   |with_reducible refine Tr.exit ?_)
  |((with_reducible refine fId ?_);first
   |with_reducible refine Fin.AH ?_
   |with_reducible refine Fin.Ah ?_
   |with_reducible refine Fin.Ac ?_
   |with_reducible refine Fin.Az ?_
   |refine Fin.LL rfl ?_
   |with_reducible refine Fin.block ?_)
 first|with_reducible refine Fin.go ?_|with_reducible refine cId ?_|with_reducible refine jk ?_|with_reducible refine gB ?_|refine Fin.go ?_|skip
 exact k.k):H:=h ⟨k⟩
theorem ap {G H:Prop} (k:G) (h:Vd G→H:=by
 intro k
 repeat1' first
  |((with_reducible refine jk ?_);first
   |with_reducible refine TO.nil ?_
   |(refine tG 1 rfl ?_;first
     |(refine tK 1 rfl ?_;refine tm rfl ?_)
     |(refine tK 2 rfl ?_;refine tp rfl oF ?_)
     |(refine tK 3 rfl ?_;refine tp rfl oL ?_)
     |(refine tK 4 rfl ?_;refine tp rfl oB ?_))
   |(refine tG 2 rfl ?_;first
     |(refine tK 5 rfl ?_;refine tp rfl oP ?_)
     |(refine tK 6 rfl ?_;refine tp rfl oN ?_)
     |(refine tK 7 rfl ?_;refine tp rfl oA ?_)
     |(refine tK 8 rfl ?_;refine tp rfl oS ?_))
   |(refine tG 3 rfl ?_;first
     |(refine tK 9 rfl ?_;refine tp rfl oC ?_)
     |(refine tK 10 rfl ?_;refine tp rfl oU ?_)
     |(refine tK 12 rfl ?_;refine tp rfl oE ?_)
     |(refine tK 13 rfl ?_;refine tp rfl oM ?_)
     |(refine tK 14 rfl ?_;refine tp rfl oD ?_)
     |(refine tK 15 rfl ?_;refine tp rfl oI ?_))
   |(refine tK 16 rfl ?_;first
    |refine sa 0 ⟨rfl,rfl,rfl⟩ rfl rfl rfl ?_
    |refine TO.Ew 0 rfl rfl (O7 rfl rfl rfl rfl) ?_
    |refine sa 1 ⟨rfl,rfl,rfl⟩ rfl rfl rfl ?_
    |refine TO.Ew 1 rfl rfl (O7 rfl rfl rfl rfl) ?_
    |refine sa 2 ⟨rfl,rfl,rfl⟩ rfl rfl rfl ?_
    |refine TO.Ew 2 rfl rfl (O7 rfl rfl rfl rfl) ?_
    |refine sa 3 ⟨rfl,rfl,rfl⟩ rfl rfl rfl ?_
    |refine TO.Ew 3 rfl rfl (O7 rfl rfl rfl rfl) ?_))
  |((with_reducible refine gB ?_);first
   |with_reducible refine Tr.seq ?_
   |with_reducible refine Tr.As ?_
   |with_reducible refine Tr.skip ?_
   |with_reducible refine Tr.block ?_
   |with_reducible refine Tr.ret ?_
   |with_reducible refine Tr.exit ?_)
  |((with_reducible refine fId ?_);first
   |with_reducible refine Fin.AH ?_
   |with_reducible refine Fin.Ah ?_
   |with_reducible refine Fin.Ac ?_
   |with_reducible refine Fin.Az ?_
   |refine Fin.LL rfl ?_
   |with_reducible refine Fin.block ?_)
 first|with_reducible refine Fin.go ?_|with_reducible refine cId ?_|with_reducible refine jk ?_|with_reducible refine gB ?_|refine Fin.go ?_|skip
 exact k.k):H:=h ⟨k⟩
theorem ax {G H:Prop} (k:G) (h:Vd G→H:=by
 intro k
 repeat ((with_reducible refine xId ?_);first
   |(refine xG 1 rfl ?_;first
     |(refine xK 1 rfl ?_;refine xm rfl ?_)
     |(refine xK 2 rfl ?_;refine xo rfl (fun _=>oF) ?_)
     |(refine xK 3 rfl ?_;refine xo rfl (fun _=>oL) ?_)
     |(refine xK 4 rfl ?_;refine xo rfl (fun _=>oB) ?_))
   |(refine xG 2 rfl ?_;first
     |(refine xK 5 rfl ?_;refine xo rfl (fun _=>oP) ?_)
     |(refine xK 6 rfl ?_;refine xo rfl (fun _=>oN) ?_)
     |(refine xK 7 rfl ?_;refine xo rfl (fun _=>oA) ?_)
     |(refine xK 8 rfl ?_;refine xo rfl (fun _=>oS) ?_))
   |(refine xG 3 rfl ?_;first
     |(refine xK 9 rfl ?_;refine xo rfl (fun _=>oC) ?_)
     |(refine xK 10 rfl ?_;refine xo rfl (fun _=>oU) ?_)
     |(refine xK 11 rfl ?_;refine xo rfl (fun _=>oO) ?_)
     |(refine xK 12 rfl ?_;refine xo rfl (fun _=>oE) ?_)
     |(refine xK 13 rfl ?_;refine xo rfl (fun _=>oM) ?_)
     |(refine xK 14 rfl ?_;refine xo rfl (fun _=>oD) ?_))
   |(refine xK 3 rfl ?_;first
    |refine GL 0 rfl rfl (Ia rfl rfl rfl) ?_
    |refine GL 0 rfl rfl (Ib rfl rfl rfl rfl) ?_
    |refine GL 1 rfl rfl (Ia rfl rfl rfl) ?_
    |refine GL 1 rfl rfl (Ib rfl rfl rfl rfl) ?_
    |refine GL 2 rfl rfl (Ia rfl rfl rfl) ?_
    |refine GL 2 rfl rfl (Ib rfl rfl rfl rfl) ?_
    |refine GL 3 rfl rfl (Ia rfl rfl rfl) ?_
    |refine GL 3 rfl rfl (Ib rfl rfl rfl rfl) ?_
    |refine GL 4 rfl rfl (Ia rfl rfl rfl) ?_
    |refine GL 4 rfl rfl (Ib rfl rfl rfl rfl) ?_))
 exact k.k):H:=h ⟨k⟩
theorem ay {G H:Prop} (k:G) (h:Vd G→H:=by
 intro k
 repeat ((with_reducible refine xId ?_);first
   |(refine xG 1 rfl ?_;first
     |(refine xK 1 rfl ?_;refine xm rfl ?_)
     |(refine xK 2 rfl ?_;refine xo rfl (fun _=>oF) ?_)
     |(refine xK 3 rfl ?_;refine xo rfl (fun _=>oL) ?_)
     |(refine xK 4 rfl ?_;refine xo rfl (fun _=>oB) ?_))
   |(refine xG 2 rfl ?_;first
     |(refine xK 5 rfl ?_;refine xo rfl (fun _=>oP) ?_)
     |(refine xK 6 rfl ?_;refine xo rfl (fun _=>oN) ?_)
     |(refine xK 7 rfl ?_;refine xo rfl (fun _=>oA) ?_)
     |(refine xK 8 rfl ?_;refine xo rfl (fun _=>oS) ?_))
   |(refine xG 3 rfl ?_;first
     |(refine xK 9 rfl ?_;refine xo rfl (fun _=>oC) ?_)
     |(refine xK 10 rfl ?_;refine xo rfl (fun _=>oU) ?_)
     |(refine xK 11 rfl ?_;refine xo rfl (fun _=>oO) ?_)
     |(refine xK 12 rfl ?_;refine xo rfl (fun _=>oE) ?_)
     |(refine xK 13 rfl ?_;refine xo rfl (fun _=>oM) ?_)
     |(refine xK 14 rfl ?_;refine xo rfl (fun _=>oD) ?_))
   |(refine xK 3 rfl ?_;first
    |refine GL 0 rfl rfl (Ia rfl rfl rfl) ?_
    |refine GL 0 rfl rfl (Ib rfl rfl rfl rfl) ?_
    |refine GL 1 rfl rfl (Ia rfl rfl rfl) ?_
    |refine GL 1 rfl rfl (Ib rfl rfl rfl rfl) ?_
    |refine GL 2 rfl rfl (Ia rfl rfl rfl) ?_
    |refine GL 2 rfl rfl (Ib rfl rfl rfl rfl) ?_
    |refine GL 3 rfl rfl (Ia rfl rfl rfl) ?_
    |refine GL 3 rfl rfl (Ib rfl rfl rfl rfl) ?_
    |refine GL 4 rfl rfl (Ia rfl rfl rfl) ?_
    |refine GL 4 rfl rfl (Ib rfl rfl rfl rfl) ?_)
   |(refine xK 16 rfl ?_;first
    |refine Cx.Ew 0 rfl rfl (O7 rfl rfl rfl rfl) ?_
    |refine Cx.Ew 1 rfl rfl (O7 rfl rfl rfl rfl) ?_
    |refine Cx.Ew 2 rfl rfl (O7 rfl rfl rfl rfl) ?_
    |refine Cx.Ew 3 rfl rfl (O7 rfl rfl rfl rfl) ?_))
 exact k.k):H:=h ⟨k⟩
theorem Ch.cg {l:List Oper} {b v:Bool} {g j:Nat} {pt pf:Prop} [ht:C6 b true pt] [hf:C6 b false pf] (_:o.guard=some (j,v)) (_:(ops[j]?.bind (·.dst))=some g) (hb:E.lookup g=some (bool b)) (k:b=true→pt→Ch P n I ops (o::l) E K) (k':b=false→pf→Ch P n I ops (o::l) E K):Ch P n I ops (o::l) E K:=Ch.cases g hb (fun h=>k h (ht.Dj h)) (fun h=>k' h (hf.Dj h))
theorem a2 {G H:Prop} (k:G) (h:Vd G→H:=by
 intro k
 iterate 2 refine ac ?_
 exact k.k):H:=h ⟨k⟩
theorem a3 {G H:Prop} (k:G) (h:Vd G→H:=by
 intro k
 iterate 3 refine ac ?_
 exact k.k):H:=h ⟨k⟩
theorem an {G L H:Prop} (k:G) (l:L) (h:Vd G→Vd L→H:=by
 intro k l
 refine ac ?_
 refine Tr.cn rfl ?_ ?_
 exact k.k
 exact l.k):H:=h ⟨k⟩ ⟨l⟩
theorem ag {G L H:Prop} (k:G) (l:L) (h:Vd G→Vd L→H:=by
 intro k l
 refine ac ?_
 refine Ch.cg rfl rfl rfl ?_ ?_
 exact k.k
 exact l.k):H:=h ⟨k⟩ ⟨l⟩
theorem Lr {p:Pr}:Pr.le p p:=Pr.le_refl p
theorem Vo {p:Pr} [One p] (h:CZ E x=some p):VL E x (CI [p]):=VL.le (vl h) (AD p)
theorem Va {ps:List Pr} (h:CZ E x=some (agg ps)):VL E x (CI ps):=VL.le (vl h) (AJ ps)
theorem Nb {a b:Nat} (h:Nat.ble a b=true):a≤b:=Nat.le_of_ble_eq_true h
theorem Kf {z:Nat} {l:List (List Pr)} (h:CZ E x=some (full z l)):VL E x (slice z l):=⟨_,h,Am z l⟩
theorem Ka {v:Value} (h:CZ E x=some (Ab v p)):VL E x (is v):=⟨_,h,EB v p⟩
theorem Kb {v:Value} (h:CZ E x=some (Ab v p)):VL E x p:=⟨_,h,Ai v p⟩
theorem Tl {M0:Av} {w0:World} {S:Nat→Prop} {rs:List Ae} {T:TypeId} {zs:List Value} (hg:o.guard=none) (hd:o.dst=some d) (hn:Nat.blt d n=true) (ho:o.op= .alloc T) (hz:A7 P T=some zs) (h1':zs.all (·.oneCell')=true)
  (k:∀b,TO P n ops r ((d,is (.pointer (some ⟨b,0,none⟩)))::E) (Hp M0 w0 S (AB true b T (zs.map is)::rs)) Q):TO P n ops (o::r) E (Hp M0 w0 S rs) Q:=TO.alloc hg hd (Fi hn) ho hz h1' k
theorem DY {M0:Av} {w0:World} {S:Nat→Prop} {t e:TypeId} {sz bytes:Nat} {zs:List Value} {rows rows':List (List Pr)} {R:SR} (hg:o.guard=none) (hd:o.dst=some d) (hn:Nat.blt d n=true) (ho:o.op= .call { callee:= .builtin .append,args:= #[x,y],argTypes:= #[t,t] })
  (ht:P.underlying t=some (.slice e)) (hz:Af P e=some sz) (hby:Bb P e=some bytes) (DV:A7 P e=some zs) (hx:VL E x (slice sz rows)) (hy:VL E y (slice sz rows'))
  (hR:∀M w (a:Act),Bs M w E o a→R.at_ a=Ax e sz (a.eval x)∨(R.at_ a=BC∧Cl (a.eval x)=none)) (hzl:zs.length=sz:=by rfl) (hsz:Nat.blt 0 sz=true:=by rfl)
  (EP:rows.length+rows'.length≤maxLen:=by simp only [List.length_map,List.length_append,List.length_cons,List.length_nil,List.length_replicate,List.length_take,List.length_drop];unfold maxLen;omega) (hfit:(rows.length+rows'.length)*bytes≤140737488355328:=by simp only [List.length_map,List.length_append,List.length_cons,List.length_nil,List.length_replicate,List.length_take,List.length_drop];omega):C5 P M0 w0 S n j R ⟨d,Ax e sz⟩ o E (slice sz (rows++rows')):=TQ hg hd (Fi hn) ho ht hz hby DV hzl (Fi hsz) hx hy EP hfit hR
end
end Cp
namespace Go.Proofs.YtppdobdifkefcaaGreatDoor
open Go Cp
instance mm:TM Tryz.prog:=⟨mixed⟩
instance sU:TV Tryz.prog 3 [.int .i64 0]:=⟨z3,zo3⟩
instance qM:T1 Tryz.prog 3:=⟨DC⟩
instance r8:TZ Tryz.prog 3 1:=⟨Ce⟩
instance qN:T1 Tryz.prog 4:=⟨ow⟩
instance sV:TV Tryz.prog 5 [.int .u8 0]:=⟨z5,zo5⟩
instance qO:T1 Tryz.prog 5:=⟨iP⟩
instance r9:TZ Tryz.prog 5 1:=⟨Iy⟩
instance sW:TV Tryz.prog 9 [.string (ByteArray.mk #[])]:=⟨z9,zo9⟩
instance qP:T1 Tryz.prog 9:=⟨Ku⟩
instance r_:TZ Tryz.prog 9 1:=⟨KV⟩
instance Xq:TU Tryz.prog 9 .string:=⟨Tryz.underlying9⟩
instance mo:T1 Tryz.prog 22:=⟨ES⟩
instance Ve:TU Tryz.prog 22 (.slice 3):=⟨Tryz.underlying22⟩
instance mq:T1 Tryz.prog 27:=⟨Oq⟩
instance Vf:TU Tryz.prog 27 (.slice 74):=⟨Tryz.underlying27⟩
instance mu:T1 Tryz.prog 28:=⟨SG⟩
instance Vg:TU Tryz.prog 28 (.slice 78):=⟨Tryz.underlying28⟩
instance mw:T1 Tryz.prog 29:=⟨U9⟩
instance Vh:TU Tryz.prog 29 (.slice 81):=⟨Tryz.underlying29⟩
instance mz:TA Tryz.prog 31:=⟨E7⟩
instance qQ:TZ Tryz.prog 31 3:=⟨Gp⟩
instance jl:TF Tryz.prog 31 0 0:=⟨IP⟩
instance jm:TF Tryz.prog 31 1 1:=⟨Js⟩
instance jo:TF Tryz.prog 31 2 2:=⟨Lf⟩
instance m8:T1 Tryz.prog 33:=⟨iT⟩
instance Vi:TU Tryz.prog 33 (.slice 87):=⟨Tryz.underlying33⟩
instance m9:TA Tryz.prog 35:=⟨Ge⟩
instance qR:TZ Tryz.prog 35 3:=⟨Jt⟩
instance jq:TF Tryz.prog 35 0 0:=⟨bt⟩
instance jr:TF Tryz.prog 35 1 1:=⟨U_⟩
instance jt:TF Tryz.prog 35 2 2:=⟨bu⟩
instance m_:T1 Tryz.prog 37:=⟨SH⟩
instance Vj:TU Tryz.prog 37 (.slice 62):=⟨Tryz.underlying37⟩
instance nA:T1 Tryz.prog 39:=⟨VA⟩
instance Vk:TU Tryz.prog 39 (.slice 49):=⟨Tryz.underlying39⟩
instance qS:TB Tryz.prog 42 (fun i=>(#[(0,1),(1,1),(2,1)]:Array (Nat×Nat))[i]?) (List.replicate 3 (.slice none 0 0)):=⟨TX,Gz⟩
instance nB:TA Tryz.prog 42:=⟨ET⟩
instance qT:TZ Tryz.prog 42 3:=⟨Di⟩
instance ju:TF Tryz.prog 42 0 0:=⟨Ju⟩
instance jv:TF Tryz.prog 42 1 1:=⟨Qd⟩
instance jw:TF Tryz.prog 42 2 2:=⟨EF⟩
instance qU:TB Tryz.prog 49 (fun i=>(#[(0,1),(1,1)]:Array (Nat×Nat))[i]?) (List.replicate 2 (.int .i64 0)):=⟨o9,Ot⟩
instance sA:TV Tryz.prog 49 (List.replicate 2 (.int .i64 0)):=⟨z49,Ot⟩
instance nC:TA Tryz.prog 49:=⟨KW⟩
instance qV:TZ Tryz.prog 49 2:=⟨Er⟩
instance jx:TF Tryz.prog 49 0 0:=⟨Lh⟩
instance jy:TF Tryz.prog 49 1 1:=⟨Li⟩
instance qW:TB Tryz.prog 57 (fun i=>(#[(0,1),(1,1)]:Array (Nat×Nat))[i]?) (List.replicate 2 (.int .i64 0)):=⟨bz,DD⟩
instance sB:TV Tryz.prog 57 (List.replicate 2 (.int .i64 0)):=⟨HQ,DD⟩
instance nD:TA Tryz.prog 57:=⟨Bj⟩
instance qX:TZ Tryz.prog 57 2:=⟨Cn⟩
instance jz:TF Tryz.prog 57 0 0:=⟨b_⟩
instance j0:TF Tryz.prog 57 1 1:=⟨cA⟩
instance nE:T1 Tryz.prog 58:=⟨iW⟩
instance qY:TZ Tryz.prog 58 1:=⟨iV⟩
instance Vl:TU Tryz.prog 58 (.slice 107):=⟨Tryz.underlying58⟩
instance qZ:TB Tryz.prog 60 (fun i=>(#[(0,2),(2,1),(3,1)]:Array (Nat×Nat))[i]?) [.int .i64 0,.int .i64 0,.int .i64 0,.slice none 0 0]:=⟨iX,Qe⟩
instance nF:TA Tryz.prog 60:=⟨Ou⟩
instance qa:TZ Tryz.prog 60 4:=⟨Kv⟩
instance j4:TF Tryz.prog 60 0 0:=⟨cC⟩
instance j5:TF Tryz.prog 60 1 2:=⟨cE⟩
instance j6:TF Tryz.prog 60 2 3:=⟨VB⟩
instance nG:TA Tryz.prog 62:=⟨G0⟩
instance qb:TZ Tryz.prog 62 8:=⟨Ct⟩
instance j7:TF Tryz.prog 62 0 0:=⟨VC⟩
instance j8:TF Tryz.prog 62 1 1:=⟨cF⟩
instance j9:TF Tryz.prog 62 2 2:=⟨cH⟩
instance j_:TF Tryz.prog 62 4 4:=⟨cI⟩
instance qc:TB Tryz.prog 66 (fun i=>(#[(0,1),(1,1)]:Array (Nat×Nat))[i]?) [.slice none 0 0,.int .i64 0]:=⟨o_,pE⟩
instance kA:TF Tryz.prog 66 0 0:=⟨cJ⟩
instance kB:TF Tryz.prog 66 1 1:=⟨cL⟩
instance nH:T1 Tryz.prog 67:=⟨iZ⟩
instance qd:TZ Tryz.prog 67 1:=⟨iY⟩
instance Vm:TU Tryz.prog 67 (.slice 9):=⟨Tryz.underlying67⟩
instance nI:T1 Tryz.prog 71:=⟨ia⟩
instance qg:TZ Tryz.prog 71 1:=⟨pF⟩
instance nJ:T1 Tryz.prog 72:=⟨aG⟩
instance Vn:TU Tryz.prog 72 (.slice 60):=⟨Tryz.underlying72⟩
instance nK:TA Tryz.prog 74:=⟨Mt⟩
instance qh:TZ Tryz.prog 74 9:=⟨F6⟩
instance kC:TF Tryz.prog 74 0 0:=⟨VD⟩
instance kD:TF Tryz.prog 74 1 1:=⟨cN⟩
instance kE:TF Tryz.prog 74 2 2:=⟨Qf⟩
instance kG:TF Tryz.prog 74 3 3:=⟨Ll⟩
instance kH:TF Tryz.prog 74 5 5:=⟨Nw⟩
instance kI:TF Tryz.prog 74 6 6:=⟨cO⟩
instance kJ:TF Tryz.prog 74 7 7:=⟨cQ⟩
instance qi:TZ Tryz.prog 78 2:=⟨Hl⟩
instance kK:TF Tryz.prog 78 0 0:=⟨cR⟩
instance kL:TF Tryz.prog 78 1 1:=⟨cT⟩
instance nL:T1 Tryz.prog 79:=⟨ir⟩
instance Vp:TU Tryz.prog 79 (.slice 112):=⟨Tryz.underlying79⟩
instance qj:TB Tryz.prog 81 (fun i=>(#[(0,1),(1,1),(2,1),(3,1),(4,1)]:Array (Nat×Nat))[i]?) [.string (ByteArray.mk #[]),.int .i64 0,.int .i64 0,.slice none 0 0,.int .i64 0]:=⟨pK,cU⟩
instance nM:TA Tryz.prog 81:=⟨SI⟩
instance ql:TZ Tryz.prog 81 5:=⟨Kw⟩
instance kM:TF Tryz.prog 81 0 0:=⟨cV⟩
instance kN:TF Tryz.prog 81 1 1:=⟨cW⟩
instance kO:TF Tryz.prog 81 2 2:=⟨cX⟩
instance kP:TF Tryz.prog 81 3 3:=⟨VG⟩
instance kQ:TF Tryz.prog 81 4 4:=⟨cY⟩
instance qm:TB Tryz.prog 85 (fun i=>(#[(0,1),(1,1)]:Array (Nat×Nat))[i]?) (List.replicate 2 (.int .i64 0)):=⟨pL,pM⟩
instance kR:TF Tryz.prog 85 0 0:=⟨cZ⟩
instance kS:TF Tryz.prog 85 1 1:=⟨cj⟩
instance sC:TV Tryz.prog 87 [.int .i64 0,.int .i64 0,.slice none 0 0]:=⟨z87,YO⟩
instance qn:TZ Tryz.prog 87 3:=⟨Nx⟩
instance kU:TF Tryz.prog 87 0 0:=⟨ck⟩
instance kV:TF Tryz.prog 87 1 2:=⟨cq⟩
instance Vq:TU Tryz.prog 91 (.slice 3):=⟨Tryz.underlying91⟩
instance gC:TF Tryz.prog 105 0 0:=⟨YP⟩
instance gD:TF Tryz.prog 105 1 1:=⟨YQ⟩
instance qo:TV Tryz.prog 107 [.int .i64 0,.string (ByteArray.mk #[]),.string (ByteArray.mk #[]),.int .i64 0,.int .i64 0,.int .i64 0,.int .i64 0,.int .i64 0,.int .i64 0,.int .i64 0,.bool false,.int .i64 0,.slice none 0 0,.int .i64 0,.int .i64 0]:=⟨z107,KY⟩
instance kW:TA Tryz.prog 107:=⟨E8⟩
instance nN:TZ Tryz.prog 107 15:=⟨C7⟩
instance gE:TF Tryz.prog 107 0 0:=⟨YR⟩
instance gF:TF Tryz.prog 107 1 1:=⟨YS⟩
instance dL:TF Tryz.prog 107 10 12:=⟨Ow⟩
instance dM:TF Tryz.prog 107 11 13:=⟨Lm⟩
instance gG:TF Tryz.prog 107 2 2:=⟨YT⟩
instance gH:TF Tryz.prog 107 3 3:=⟨YU⟩
instance gI:TF Tryz.prog 107 4 5:=⟨YV⟩
instance gJ:TF Tryz.prog 107 5 6:=⟨YW⟩
instance gK:TF Tryz.prog 107 6 8:=⟨YX⟩
instance gL:TF Tryz.prog 107 7 9:=⟨YY⟩
instance gM:TF Tryz.prog 107 8 10:=⟨YZ⟩
instance gN:TF Tryz.prog 107 9 11:=⟨Ya⟩
instance Uf:TU Tryz.prog 110 (.slice 57):=⟨Tryz.underlying110⟩
instance nO:TB Tryz.prog 112 (fun i=>(#[(0,2),(2,1)]:Array (Nat×Nat))[i]?) (List.replicate 3 (.int .i64 0)):=⟨i6,VI⟩
instance qp:TV Tryz.prog 112 (List.replicate 3 (.int .i64 0)):=⟨cv,VI⟩
instance nP:TZ Tryz.prog 112 3:=⟨FZ⟩
instance gO:TF Tryz.prog 112 0 0:=⟨Yb⟩
instance gP:TF Tryz.prog 112 1 2:=⟨Yc⟩
instance kX:T1 Tryz.prog 118:=⟨Fl⟩
instance kY:T1 Tryz.prog 123:=⟨cw⟩
instance nQ:TZ Tryz.prog 123 1:=⟨jA⟩
instance kZ:T1 Tryz.prog 138:=⟨VJ⟩
instance Ug:TU Tryz.prog 138 (.slice 5):=⟨Tryz.underlying138⟩
instance kf:T1 Tryz.prog 148:=⟨IU⟩
instance Uh:TU Tryz.prog 148 (.slice 118):=⟨Tryz.underlying148⟩
instance gQ:TF Tryz.prog 150 0 0:=⟨Yd⟩
instance gR:TF Tryz.prog 150 1 1:=⟨HR⟩
instance nR:TB Tryz.prog 157 (fun i=>(#[(0,1),(1,1),(2,2),(4,2),(6,2),(8,2),(10,1),(11,1)]:Array (Nat×Nat))[i]?) [.int .i64 0,.string (ByteArray.mk #[]),.int .i64 0,.int .i64 0,.int .i64 0,.int .i64 0,.int .i64 0,.int .i64 0,.int .i64 0,.int .i64 0,.int .i64 0,.int .i64 0]:=⟨SK,JE⟩
instance kg:TA Tryz.prog 157:=⟨G1⟩
instance nS:TZ Tryz.prog 157 12:=⟨Ek⟩
instance kj:T1 Tryz.prog 163:=⟨Ny⟩
instance nT:TB Tryz.prog 165 (fun i=>(#[(0,1),(1,1),(2,1),(3,1)]:Array (Nat×Nat))[i]?) [.int .i64 0,.slice none 0 0,.bool false,.slice none 0 0]:=⟨VK,Hy⟩
instance ko:TA Tryz.prog 165:=⟨CL⟩
instance nU:TZ Tryz.prog 165 4:=⟨Bk⟩
instance gS:TF Tryz.prog 165 0 0:=⟨Yg⟩
instance gT:TF Tryz.prog 165 1 1:=⟨Nz⟩
instance gU:TF Tryz.prog 165 2 2:=⟨Yh⟩
instance gV:TF Tryz.prog 165 3 3:=⟨JF⟩
instance nV:TB Tryz.prog 176 (fun i=>some (i*8,8)) (List.replicate 256 (.int .i64 0)):=⟨jG,jH⟩
instance nW:TB Tryz.prog 183 (fun i=>(#[(0,1),(1,1)]:Array (Nat×Nat))[i]?) [.string (ByteArray.mk #[]),.int .i64 0]:=⟨jI,aO⟩
instance qq:TV Tryz.prog 183 [.string (ByteArray.mk #[]),.int .i64 0]:=⟨z183,aO⟩
instance nX:TZ Tryz.prog 183 2:=⟨aN⟩
instance gW:TF Tryz.prog 183 1 1:=⟨Yi⟩
instance Ui:TU Tryz.prog 184 (.slice 183):=⟨Tryz.underlying184⟩
instance nY:TB Tryz.prog 203 (fun i=>(#[(0,1),(1,1),(2,1),(3,1),(4,1)]:Array (Nat×Nat))[i]?) [.string (ByteArray.mk #[]),.int .i64 0,.int .i64 0,.slice none 0 0,.slice none 0 0]:=⟨DG,Co⟩
instance nZ:TZ Tryz.prog 203 5:=⟨Mu⟩
instance gX:TF Tryz.prog 203 1 1:=⟨Yj⟩
instance gY:TF Tryz.prog 203 2 2:=⟨Yk⟩
instance gZ:TF Tryz.prog 203 3 3:=⟨Yl⟩
instance ga:TF Tryz.prog 203 4 4:=⟨Ym⟩
instance ng:TB Tryz.prog 207 (fun i=>some (i*5,5)) [.string (ByteArray.mk #[]),.int .i64 0,.int .i64 0,.slice none 0 0,.slice none 0 0,.string (ByteArray.mk #[]),.int .i64 0,.int .i64 0,.slice none 0 0,.slice none 0 0,.string (ByteArray.mk #[]),.int .i64 0,.int .i64 0,.slice none 0 0,.slice none 0 0,.string (ByteArray.mk #[]),.int .i64 0,.int .i64 0,.slice none 0 0,.slice none 0 0,.string (ByteArray.mk #[]),.int .i64 0,.int .i64 0,.slice none 0 0,.slice none 0 0,.string (ByteArray.mk #[]),.int .i64 0,.int .i64 0,.slice none 0 0,.slice none 0 0,.string (ByteArray.mk #[]),.int .i64 0,.int .i64 0,.slice none 0 0,.slice none 0 0,.string (ByteArray.mk #[]),.int .i64 0,.int .i64 0,.slice none 0 0,.slice none 0 0,.string (ByteArray.mk #[]),.int .i64 0,.int .i64 0,.slice none 0 0,.slice none 0 0,.string (ByteArray.mk #[]),.int .i64 0,.int .i64 0,.slice none 0 0,.slice none 0 0,.string (ByteArray.mk #[]),.int .i64 0,.int .i64 0,.slice none 0 0,.slice none 0 0,.string (ByteArray.mk #[]),.int .i64 0,.int .i64 0,.slice none 0 0,.slice none 0 0,.string (ByteArray.mk #[]),.int .i64 0,.int .i64 0,.slice none 0 0,.slice none 0 0,.string (ByteArray.mk #[]),.int .i64 0,.int .i64 0,.slice none 0 0,.slice none 0 0,.string (ByteArray.mk #[]),.int .i64 0,.int .i64 0,.slice none 0 0,.slice none 0 0,.string (ByteArray.mk #[]),.int .i64 0,.int .i64 0,.slice none 0 0,.slice none 0 0,.string (ByteArray.mk #[]),.int .i64 0,.int .i64 0,.slice none 0 0,.slice none 0 0,.string (ByteArray.mk #[]),.int .i64 0,.int .i64 0,.slice none 0 0,.slice none 0 0,.string (ByteArray.mk #[]),.int .i64 0,.int .i64 0,.slice none 0 0,.slice none 0 0,.string (ByteArray.mk #[]),.int .i64 0,.int .i64 0,.slice none 0 0,.slice none 0 0,.string (ByteArray.mk #[]),.int .i64 0,.int .i64 0,.slice none 0 0,.slice none 0 0,.string (ByteArray.mk #[]),.int .i64 0,.int .i64 0,.slice none 0 0,.slice none 0 0,.string (ByteArray.mk #[]),.int .i64 0,.int .i64 0,.slice none 0 0,.slice none 0 0]:=⟨jJ,aQ⟩
instance nh:TZ Tryz.prog 207 115:=⟨aP⟩
instance nj:TB Tryz.prog 211 (fun i=>some (i*1,1)) (List.replicate 2 (.int .i64 0)):=⟨jK,aS⟩
instance nk:TZ Tryz.prog 211 2:=⟨aR⟩
instance nq:TB Tryz.prog 212 (fun i=>some (i*2,2)) (List.replicate 10 (.int .i64 0)):=⟨jL,jM⟩
end Go.Proofs.YtppdobdifkefcaaGreatDoor
namespace Go.Proofs.YtppdobdifkefcaaGreatDoor
open Go Go.RowKit Cp Go.Proofs.Tryz
abbrev ints (l:List Int):Pr:=slice 1 (l.map fun n=>[int n])
def idx {β:Type} (p:β→Bool) (l:List β):Int:=match l.findIdx? p with|some i=>i|none=> -1
theorem Ey {β:Type} {p:β→Bool} {l:List β} {k:Nat} {x:β} (hx:l[k]? =some x) (hp:p x=true) (h:∀j y,j<k→l[j]? =some y→p y=false):(k:Int)=idx p l:=by
 have:l.findIdx? p=some k:=by
  rw [List.findIdx?_eq_some_iff_getElem]
  have hk:k<l.length:=by rcases Nat.lt_or_ge k l.length with h|h;exact h;rw [List.getElem?_eq_none h] at hx;cases hx
  rw [List.getElem?_eq_getElem hk] at hx
  simp only [Option.some.injEq] at hx
  refine ⟨hk,by rw [hx];exact hp,fun j hj=> ?_⟩
  simpa using h j _ hj (List.getElem?_eq_getElem (by omega))
 unfold idx;rw [this]
theorem G3 {β:Type} {p:β→Bool} {l:List β} (h:∀j y,j<l.length→l[j]? =some y→p y=false):(-1:Int)=idx p l:=by
 have:l.findIdx? p=none:=by
  rw [List.findIdx?_eq_none_iff]
  intro x hx
  obtain ⟨j,hj,rfl⟩:=List.mem_iff_getElem.1 hx
  exact h j _ hj (List.getElem?_eq_getElem hj)
 unfold idx;rw [this]
theorem K7 {β:Type} (p:β→Bool) (l:List β):decide (idx p l≥0)=l.any p:=by
 unfold idx
 cases h:l.findIdx? p with
 |none=>rw [List.findIdx?_eq_none_iff] at h;simp;intro x hx;simpa using h x hx
 |some i=>
  rw [List.findIdx?_eq_some_iff_getElem] at h
  obtain ⟨h1,h2,_⟩:=h
  simp
  exact ⟨_,List.getElem_mem h1,h2⟩
theorem CB {β:Type} {p:β→Bool} {l:List β} {k:Nat} {x:β} (hx:l[k]? =some x) (hp:p x=false) (h:∀j y,j<k→l[j]? =some y→p y=false):∀j y,j<k+1→l[j]? =some y→p y=false:=by
 intro j y hj hy
 by_cases hjk:j=k
 · subst hjk;rw [hx] at hy;cases hy;exact hp
 · exact h j y (by omega) hy
theorem N5 {l:List Int} {p:Int→Bool}  :A9 prog 81 [ints l,QL prog (fun x:Int=>[int x]) (fun x=>bool (p x))] (int (idx p l)):=by
 refine fo func81 rfl ⟨rfl,rfl⟩ fun M0 w0=>(Tr.Fg 0 rfl fun Hz=> ?_)
 refine a2 ?_
 refine Tr.block (Tr.BH [(0,_),(1,_),(7,_)] (Nr rfl) (fun k:Nat=>[(8,int ((k:Nat):Int))]) (fun k:Nat=>k≤(l).length∧(∀j y,j<k→l[j]? =some y→p y=false)) (fun k:Nat=>(l).length-k) 0 (⟨Nat.zero_le _,fun j y hj=>absurd hj (by omega)⟩) ⟨ke rfl,trivial⟩ ?_)
 rintro k ⟨BR,AG⟩
 refine ac ?_
 refine Tr.seq ?_
 refine Tr.cn rfl ?_ ?_<;>intro h1 q1
 have Aa:k<(l).length:=AL h1
 obtain ⟨x,AY⟩:=at_ Aa
 · repeat' first|exact int_eq (Ey AY (by assumption) AG)|exact Fin.AK (k+1) ⟨⟨Aa,CB AY (by assumption) AG⟩,by omega⟩ ⟨⟨_,rfl,AE k⟩,ke rfl,ke rfl,ke rfl,trivial⟩|refine co rfl (AA rfl underlying22 Ce (vl rfl) (vl rfl) (by omega) (by exact AU (by assumption))) ?_|refine co rfl (Gd rfl DC rfl) (co rfl (E5 x rfl (vl rfl) ⟨ke rfl,trivial⟩) ?_)|refine ac ?_|(refine Tr.cn rfl ?_ ?_<;>intro h q)
 have A_:k=(l).length:=by have:=AM h1;omega
 subst A_
 refine a3 ?_
 · exact int_eq (G3 AG)
theorem CS {l:List Int} {p:Int→Bool}  :A9 prog 55 [ints l,QL prog (fun x:Int=>[int x]) (fun x=>bool (p x))] (bool (l.any p)):=by
 refine fo func55 rfl ⟨rfl,rfl⟩ fun M0 w0=> ?_
 refine a2 ?_
 refine co rfl (DK (N5) rfl rfl rfl) ?_
 refine a2 ?_
 · exact bool_eq (K7 p l)
theorem O8 {l:List Int} {v:Int}  :A9 prog 113 [ints l,int v] (int (idx (fun x=>v==x) l)):=by
 refine fo func113 rfl ⟨rfl,rfl⟩ fun M0 w0=>(Tr.Fg 0 rfl fun Hz=> ?_)
 refine a2 ?_
 refine Tr.block (Tr.BH [(0,_),(1,_),(7,_)] (Nr rfl) (fun k:Nat=>[(8,int ((k:Nat):Int))]) (fun k:Nat=>k≤(l).length∧(∀j y,j<k→l[j]? =some y→(v==y)=false)) (fun k:Nat=>(l).length-k) 0 (⟨Nat.zero_le _,fun j y hj=>absurd hj (by omega)⟩) ⟨ke rfl,trivial⟩ ?_)
 rintro k ⟨BR,AG⟩
 refine ac ?_
 refine Tr.seq ?_
 refine Tr.cn rfl ?_ ?_<;>intro h1 q1
 have Aa:k<(l).length:=AL h1
 obtain ⟨x,AY⟩:=at_ Aa
 · repeat' first|exact int_eq (Ey (p:=fun x=>v==x) AY (by assumption) AG)|exact Fin.AK (k+1) ⟨⟨Aa,CB (p:=fun x=>v==x) AY (by assumption) AG⟩,by omega⟩ ⟨⟨_,rfl,AE k⟩,ke rfl,ke rfl,ke rfl,trivial⟩|refine co rfl (AA rfl underlying22 Ce (vl rfl) (vl rfl) (by omega) (by exact AU (by assumption))) ?_|refine ac ?_|(refine Tr.cn rfl ?_ ?_<;>intro h q)
 have A_:k=(l).length:=by have:=AM h1;omega
 subst A_
 refine a3 ?_
 · exact int_eq (G3 AG)
theorem Fa {l:List Int} {v:Int}  :A9 prog 80 [ints l,int v] (bool (l.any fun x=>v==x)):=by
 refine fo func80 rfl ⟨rfl,rfl⟩ fun M0 w0=> ?_
 refine a2 ?_
 refine co rfl (DK (O8) rfl rfl rfl) ?_
 refine a2 ?_
 · exact bool_eq (K7 _ l)
theorem Vr {l:List Int} (hl:l.length≤1000000000):BJ prog 50 [ints l] (ints l) (BC) (Ax 3 1):=by
 refine BJ.of func50 rfl rfl (by exact Nb rfl) fun M0 w0 S rs M1 w1=> ?_
 refine a2 ?_
 refine co rfl (ED rfl underlying22 (vl rfl)) ?_
 refine ac ?_
 refine Tr.ex 4 rfl (fun z1=>Tr.fact 4 rfl fun GH=> ?_)
 refine Tr.cn rfl ?_ ?_<;>intro h1 q1
 refine ac ?_
 refine Tr.ret (Fin.AH (Fin.DB 3 1 (Fin.drop 1 ?_)))
 refine Fin.D8 rfl rfl ?_ (by rintro _ _ _ rfl;rfl)
 · (have aZ:l=[]:=(by simpa using GH h1));subst aZ;exact AV 1
 refine ac ?_
 refine ap ?_
 refine TO.pad ?_
 refine TO.GJ 0 rfl rfl (by decide) (DY rfl rfl rfl rfl underlying22 Ce U8 z3 (Kf rfl) (vl rfl) (Bt (by exact List.Mem.head _) (vl rfl))) (fun v1=> ?_)
 refine ap ?_
 refine Tr.ret (Fin.drop 1 ?_)
 refine Fin.D8 rfl rfl ?_ (by intro _ _ _ h;rw [h.1])
 · exact Pr.le_trans (Ai _ _) (Pr.le_of_eq (by simp))
end Go.Proofs.YtppdobdifkefcaaGreatDoor
namespace Go.Proofs.YtppdobdifkefcaaGreatDoor
open Go Go.RowKit Cp Go.ChangeShapes Go.WideShapes Go.ChangeAt Go.Proofs.Tryz
theorem qt:ownKnob Tryz.prog.godebug=none:=by kernel_rfl
theorem Vs:laidOutB Tryz.prog=true:=by kernel_rfl
theorem u8_in {n:Int} (h:(Lit.int .u8 n).wf=true):0≤n∧n<256:=by
 simp only [Lit.wf,Bool.and_eq_true,decide_eq_true_eq] at h
 have h1:IntKind.u8.min=0:=rfl
 have h2:IntKind.u8.max=255:=rfl
 omega
theorem i64_in {n:Int} (h:(Lit.int .i64 n).wf=true):Jo n:=by
 simp only [Lit.wf,Bool.and_eq_true,decide_eq_true_eq] at h
 have h1:IntKind.i64.min= -9223372036854775808:=rfl
 have h2:IntKind.i64.max=9223372036854775807:=rfl
 unfold Jo;omega
theorem Qm {P:Program} {t e:TypeId} (ht:P.underlying t=some (.slice e)) (he:P.underlying e=some (.int .i64)) (hc:P.cellsOf e=1):JA P t (fun l:List Int=>l.length≤maxLen∧∀n∈l,Jo n) (fun l=>[ints l]):=
 (Ol ht hc (Ms he)).map id (fun _ h=>⟨h.2,fun n hn=>i64_in (h.1 n hn)⟩) (fun _=>rfl)
end Go.Proofs.YtppdobdifkefcaaGreatDoor
namespace Go.Proofs.YtppdobdifkefcaaGreatDoor
open Go Go.RowKit Cp Go.Proofs.Tryz
-- no type cipherplan/api.Fact here
-- no type cipherplan/api.nr here
-- no type cipherplan/sD.place here
theorem kr {d:Nat} {w:World} {x0 y0:Int} {x1 y1:Int}:(Op.equalIn (d+2) 57 (.agg #[.int .i64 x0,.int .i64 x1]) (.agg #[.int .i64 y0,.int .i64 y1])).run Tryz.prog w= .ok (decide (x0=y0∧x1=y1)) w:=by
 have h:=eqS (w:=w) (d:=d+1) (xs:= #[.int .i64 x0,.int .i64 x1]) (ys:= #[.int .i64 y0,.int .i64 y1]) Tryz.underlying57 (by kernel_rfl) (O0 (by decide) (HS DC rfl) (HS DC rfl) (SL (d:=d+0) Tryz.underlying3) (O0 (by decide) (HS DC rfl) (HS DC rfl) (SL (d:=d+0) Tryz.underlying3) (Yq)))
 refine h.trans (congrArg (fun b=>Result.ok b w) ?_)
 rw [Bool.eq_iff_iff];simp [and_assoc]
theorem SO {E:Env} {I:B6} {o:Oper} {u:TypeId} {x y:Operand} {x0 y0:Int} {x1 y1:Int} (ho:o.op= .binOp .eql 57 x y u) (hx:VL E x (agg [is (.int .i64 x0),is (.int .i64 x1)])) (hy:VL E y (agg [is (.int .i64 y0),is (.int .i64 y1)])):AR Tryz.prog I o E (bool (decide (x0=y0∧x1=y1))):=
 VN [.int .i64 x0,.int .i64 x1] [.int .i64 y0,.int .i64 y1] ho hx hy (by kernel_rfl) (fun w=>by rw [show Op.equal 57 _ _=Op.equalIn (9998+2) 57 _ _ from rfl];exact kr)
def Qn (a b:Int):Int:=if a<b then -1 else if b<a then 1 else 0
def dN (l:List Int):Int:=(l.find? fun x=>x !=0).getD 0
theorem Yz {l:List Int} {k:Nat} {x:Int} (hx:l[k]? =some x) (h0:¬x=0) (h:∀j y,j<k→l[j]? =some y→(y !=0)=false):x=dN l:=by
 unfold dN
 have:l.find? (fun x=>x !=0)=some x:=by
  rw [List.find?_eq_some_iff_getElem]
  have hk:k<l.length:=by rcases Nat.lt_or_ge k l.length with h|h;exact h;rw [List.getElem?_eq_none h] at hx;cases hx
  rw [List.getElem?_eq_getElem hk] at hx
  simp only [Option.some.injEq] at hx
  refine ⟨by simpa using h0,k,hk,hx,fun j hj=> ?_⟩
  have:=h j _ hj (List.getElem?_eq_getElem (by omega))
  simpa using this
 rw [this];rfl
theorem Vt {l:List Int} (h:∀j y,j<l.length→l[j]? =some y→(y !=0)=false):0=dN l:=by
 unfold dN
 have:l.find? (fun x=>x !=0)=none:=by
  rw [List.find?_eq_none]
  intro x hx
  obtain ⟨j,hj,rfl⟩:=List.mem_iff_getElem.1 hx
  have:=h j _ hj (List.getElem?_eq_getElem hj)
  simpa using this
 rw [this];rfl
def Vu (c:UInt8):Bool:=decide (33≤c.toNat∧c.toNat≤126)
def named (s:List UInt8):Bool:=s.all Vu&&decide (1≤s.length∧s.length≤32)
theorem GP {β:Type} {p:β→Bool} {l:List β} {k:Nat} {x:β} (hx:l[k]? =some x) (hp:p x=false):l.all p=false:=by
 rw [Bool.eq_false_iff];intro h;rw [List.all_eq_true] at h;rw [h x (List.mem_of_getElem? hx)] at hp;cases hp
theorem EH {β:Type} {p:β→Bool} {l:List β} (h:∀j y,j<l.length→l[j]? =some y→(!p y)=false):l.all p=true:=by
 rw [List.all_eq_true]
 intro y hy
 obtain ⟨j,hj⟩:=List.mem_iff_getElem?.1 hy
 have:=h j y (by rcases Nat.lt_or_ge j l.length with h|h;exact h;rw [List.getElem?_eq_none h] at hj;cases hj) hj
 simpa using this
theorem Vv {n:Int}  :A9 prog 130 [int n] (bool false):=by
 refine fo func130 rfl ⟨rfl,rfl⟩ fun M0 w0=> ?_
 refine a3 ?_
 · exact bool_eq (by simp)
theorem Vw {a b:Int}  :A9 prog 105 [int a,int b] (int (Qn a b)):=by
 refine fo func105 rfl ⟨rfl,rfl⟩ fun M0 w0=> ?_
 · repeat' first|exact absurd h (by decide)|(refine int_eq ?_;unfold Qn;(repeat split)<;>omega)|refine co rfl (CN (Vv) rfl rfl) ?_|refine ac ?_|(refine Tr.cn rfl ?_ ?_<;>intro h q)
theorem ku {l:List Int}  :A9 prog 104 [ints l] (int (dN l)):=by
 refine fo func104 rfl ⟨rfl,rfl⟩ fun M0 w0=>(Tr.Fg 0 rfl fun Hz=> ?_)
 refine a3 ?_
 refine Tr.block (Tr.BH [(3,_),(6,_),(7,_)] (Nr rfl) (fun k:Nat=>[(8,int ((k:Nat):Int))]) (fun k:Nat=>k≤(l).length∧(∀j y,j<k→l[j]? =some y→(y !=0)=false)) (fun k:Nat=>(l).length-k) 0 (⟨Nat.zero_le _,fun j y hj=>absurd hj (by omega)⟩) ⟨ke rfl,trivial⟩ ?_)
 rintro k ⟨BR,AG⟩
 refine ac ?_
 refine Tr.seq ?_
 refine Tr.cn rfl ?_ ?_<;>intro h1 q1
 have Aa:k<(l).length:=AL h1
 obtain ⟨x,AY⟩:=at_ Aa
 refine ac ?_
 refine Tr.seq (Tr.block (Tr.seq (Tr.Ao (co rfl (AA rfl underlying22 Ce (vl rfl) (vl rfl) (by omega) (by exact AU (by assumption))) ?_))))
 · repeat' first|exact int_eq (Yz AY (by assumption) AG)|exact Fin.AK (k+1) ⟨⟨Aa,CB (p:=fun y=>y !=0) AY (by simpa using by assumption) AG⟩,by omega⟩ ⟨⟨_,rfl,AE k⟩,ke rfl,ke rfl,ke rfl,trivial⟩|refine ac ?_|(refine Tr.cn rfl ?_ ?_<;>intro h q)
 have A_:k=(l).length:=by have:=AM h1;omega
 subst A_
 refine a3 ?_
 · exact int_eq (Vt AG)
theorem K8 {s:List UInt8} (hs:s.length≤maxLen):A9 prog 102 [str s] (bool (named s)):=by
 refine fo func102 rfl ⟨rfl,rfl⟩ fun M0 w0=> ?_
 refine a2 ?_
 refine co rfl (Lq rfl underlying9 underlying138 underlying5 (vl rfl) (by assumption)) ?_
 refine ac ?_
 refine Tr.block (Tr.Fg 6 rfl fun hl6=>(Tr.BH [(0,_),(6,_),(7,_)] (Nr rfl) (fun k:Nat=>[(8,int ((k:Nat):Int))]) (fun k:Nat=>k≤(s).length∧(∀j y,j<k→s[j]? =some y→(!Vu y)=false)) (fun k:Nat=>(s).length-k) 0 (⟨Nat.zero_le _,fun j y hj=>absurd hj (by omega)⟩) ⟨ke rfl,trivial⟩ ?_))
 rintro k ⟨BR,AG⟩
 refine ac ?_
 refine Tr.seq ?_
 refine Tr.cn rfl ?_ ?_<;>intro h1 q1
 have Aa:k<(s).length:=AL h1
 obtain ⟨c,AY⟩:=at_ Aa
 refine ac ?_
 refine Tr.seq (Tr.block (Tr.seq (Tr.Ao (co rfl (AA rfl underlying138 Iy (vl rfl) (vl rfl) (by omega) (by exact AU (by assumption))) ?_))))
 · repeat' first|(refine bool_eq ?_;unfold named;rw [GP (p:=Vu) AY (by simp [Vu];omega)];rfl)|(exact Fin.AK (k+1) ⟨⟨Aa,CB (p:=fun c=> !Vu c) AY (by simp [Vu];omega) AG⟩,by omega⟩ ⟨⟨_,rfl,AE k⟩,ke rfl,ke rfl,ke rfl,trivial⟩)|refine ac ?_|(refine Tr.cn rfl ?_ ?_<;>intro h q)|(refine Ch.cg rfl rfl rfl ?_ ?_<;>intro h q)
 have A_:k=(s).length:=by have:=AM h1;omega
 subst A_
 · repeat' first|(refine bool_eq ?_;unfold named;rw [EH AG,Bool.true_and];rw [decide_eq_decide];omega)|(refine bool_eq ?_;unfold named;rw [EH AG,Bool.true_and];(symm;rw [decide_eq_false_iff_not];omega))|refine ac ?_|(refine Ch.cg rfl rfl rfl ?_ ?_<;>intro h q)
theorem Es {s:List UInt8}  :A9 prog 88 [str s] (bool (named s)):=by
 refine fo func88 rfl ⟨rfl,rfl⟩ fun M0 w0=> ?_
 refine ac ?_
 refine ag ?_ ?_<;>intro h1 q1
 refine a3 ?_
 · refine bool_eq ?_;unfold named;rw [Bool.and_eq_false_iff.2 (.inr (by simp;omega))]
 refine an ?_ ?_<;>intro h2 q2
 refine a2 ?_
 · refine bool_eq ?_;unfold named;rw [Bool.and_eq_false_iff.2 (.inr (by simp;omega))]
 refine a2 ?_
 refine Tr.block (Tr.BH [(0,_)] ⟨ke rfl,trivial⟩ (fun k:Nat=>[(3,int ((k:Nat):Int))]) (fun k:Nat=>k≤(s).length∧(∀j y,j<k→s[j]? =some y→(!Vu y)=false)) (fun k:Nat=>(s).length-k) 0 (⟨Nat.zero_le _,fun j y hj=>absurd hj (by omega)⟩) ⟨ke rfl,trivial⟩ ?_)
 rintro k ⟨BR,AG⟩
 refine an ?_ ?_<;>intro h3 q3
 have Aa:k<(s).length:=AL h3
 obtain ⟨c,AY⟩:=at_ Aa
 · repeat' first|(refine bool_eq ?_;unfold named;rw [GP (p:=Vu) AY (by simp [Vu];omega)];rfl)|(exact Fin.AK (k+1) ⟨⟨Aa,CB (p:=fun c=> !Vu c) AY (by simp [Vu];omega) AG⟩,by omega⟩ ⟨⟨_,rfl,AE k⟩,ke rfl,trivial⟩)|refine co rfl (N1 rfl underlying9 (vl rfl) (vl rfl) (by omega) (N2 (by assumption))) ?_|refine cy h rfl (N1 rfl underlying9 (vl rfl) (vl rfl) (by omega) (N2 (by assumption))) ?_|refine ac ?_|(refine Tr.cn rfl ?_ ?_<;>intro h q)|(refine Ch.cg rfl rfl rfl ?_ ?_<;>intro h q)
 have A_:k=(s).length:=by have:=AM h3;omega
 subst A_
 refine a3 ?_
 · refine bool_eq ?_;unfold named;rw [EH AG,Bool.true_and];symm;rw [decide_eq_true_eq];omega
structure N6 where
 name:List UInt8
 kind:Int
 way:Int
 sizes:List Int
 EY:List Int
abbrev dO (r:N6):List Pr:=[str r.name,int r.kind,int r.way,ints r.sizes,ints r.EY]
def E_:List N6:=[⟨[],0,0,[],[]⟩,⟨[109,100,53],1,0,[],[18]⟩,⟨[115,104,97,49],1,0,[],[60]⟩,⟨[115,104,97,50,53,54],1,0,[],[128]⟩,⟨[115,104,97,51,56,52],1,0,[],[192]⟩,⟨[114,115,97],2,1,[],[]⟩,⟨[100,115,97],2,1,[],[]⟩,⟨[101,99,100,115,97],2,2,[],[]⟩,⟨[101,100,50,53,53,49,57],2,0,[],[128]⟩,⟨[109,108,100,115,97],2,3,[44,65,87],[128,192,256]⟩,⟨[114,115,97,107,120],3,1,[],[]⟩,⟨[100,104,101],3,1,[],[]⟩,⟨[101,99,100,104,101],3,2,[],[]⟩,⟨[109,108,107,101,109],3,3,[512,768,1024],[128,192,256]⟩,⟨[114,99,52],4,3,[40,128],[40,60]⟩,⟨[100,101,115,51],4,3,[112,168],[80,112]⟩,⟨[97,101,115,99,98,99],4,3,[128,256],[128,256]⟩,⟨[97,101,115,103,99,109],4,3,[128,256],[128,256]⟩,⟨[99,104,97,99,104,97],4,0,[],[256]⟩,⟨[104,109,97,99,109,100,53],5,0,[],[64]⟩,⟨[104,109,97,99,115,104,97,49],5,0,[],[80]⟩,⟨[104,109,97,99,115,104,97,50,53,54],5,0,[],[128]⟩,⟨[97,101,97,100],5,0,[],[256]⟩]
def SP:N6:=⟨[],0,0,[],[]⟩
def Cc (BI:Int):N6:=if 1≤BI∧BI≤22 then (E_[BI.toNat]?).getD SP else SP
theorem G4 {BI:Int} (h:1≤BI∧BI≤22):E_[BI.toNat]? =some (Cc BI):=by
 have hl:BI.toNat<E_.length:=by show BI.toNat<23;omega
 unfold Cc;rw [if_pos h,List.getElem?_eq_getElem hl];rfl
theorem L1 {β:Type} {f:β→List Pr} {sz:Nat} (hf:∀x,(f x).length=sz):∀{l:List β} {i:Nat} {x:β},l[i]? =some x→((l.flatMap f).drop (i*sz)).take sz=f x
 |[],_,_,h=>by simp at h
 |a::l,0,x,h=>by
  simp at h;subst h
  rw [List.flatMap_cons,Nat.zero_mul,List.drop_zero,List.take_append_of_le_length (by rw [hf];exact Nat.le_refl _),List.take_of_length_le (by rw [hf];exact Nat.le_refl _)]
 |a::l,i+1,x,h=>by
  rw [List.flatMap_cons,Nat.succ_mul,Nat.add_comm,←List.drop_drop,List.drop_left' (hf a)]
  exact L1 hf (by simpa using h)
theorem drop_cons {β:Type} {l:List β} {k:Nat} {x:β} (h:l[k]? =some x):l.drop k=x::l.drop (k+1):=by
 have hk:k<l.length:=by rcases Nat.lt_or_ge k l.length with h'|h';exact h';rw [List.getElem?_eq_none h'] at h;cases h
 rw [List.drop_eq_getElem_cons hk]
 rw [List.getElem?_eq_getElem hk] at h
 simp at h;rw [h]
def mods:List (Int×Int):=[(1024,56),(2048,80),(3072,112),(7680,128),(15360,192)]
def dP:List (Int×Int)→Int→Int
 |[],_=>256
 |p::l,b=>if b<p.1 then p.2 else dP l b
def Vx (b:Int):Int:=dP mods b
theorem dQ   :A9 prog 148 [] (agg (E_.flatMap dO)):=by
 refine fo func148 rfl ⟨rfl,rfl⟩ fun M0 w0=>(Tr.seq (Tr.As ?_))
 refine Tl rfl rfl rfl rfl pQ aQ (fun b1=> ?_)
 refine ap ?_
 refine ap ?_
 refine tp rfl (Ad (rows:=[(0,[_]),(1,[_]),(2,[_]),(3,[_]),(4,[_])]) rfl DG Co ⟨⟨rfl,(Vo rfl)⟩,⟨⟨rfl,(Vo rfl)⟩,⟨⟨rfl,(Vo rfl)⟩,⟨⟨rfl,⟨_,rfl,Pr.le_trans (AV 1) (AD _)⟩⟩,⟨⟨rfl,⟨_,rfl,Pr.le_trans (Am _ _) (AD _)⟩⟩,trivial⟩⟩⟩⟩⟩ rfl) (tp rfl (oI) ?_)
 refine tp rfl (Ad (rows:=[(0,[_]),(1,[_]),(2,[_]),(3,[_]),(4,[_])]) rfl DG Co ⟨⟨rfl,(Vo rfl)⟩,⟨⟨rfl,(Vo rfl)⟩,⟨⟨rfl,(Vo rfl)⟩,⟨⟨rfl,⟨_,rfl,Pr.le_trans (AV 1) (AD _)⟩⟩,⟨⟨rfl,⟨_,rfl,Pr.le_trans (Am _ _) (AD _)⟩⟩,trivial⟩⟩⟩⟩⟩ rfl) (tp rfl (oI) ?_)
 refine tp rfl (Ad (rows:=[(0,[_]),(1,[_]),(2,[_]),(3,[_]),(4,[_])]) rfl DG Co ⟨⟨rfl,(Vo rfl)⟩,⟨⟨rfl,(Vo rfl)⟩,⟨⟨rfl,(Vo rfl)⟩,⟨⟨rfl,⟨_,rfl,Pr.le_trans (AV 1) (AD _)⟩⟩,⟨⟨rfl,⟨_,rfl,Pr.le_trans (Am _ _) (AD _)⟩⟩,trivial⟩⟩⟩⟩⟩ rfl) (tp rfl (oI) ?_)
 refine tp rfl (Ad (rows:=[(0,[_]),(1,[_]),(2,[_]),(3,[_]),(4,[_])]) rfl DG Co ⟨⟨rfl,(Vo rfl)⟩,⟨⟨rfl,(Vo rfl)⟩,⟨⟨rfl,(Vo rfl)⟩,⟨⟨rfl,⟨_,rfl,Pr.le_trans (AV 1) (AD _)⟩⟩,⟨⟨rfl,⟨_,rfl,Pr.le_trans (Am _ _) (AD _)⟩⟩,trivial⟩⟩⟩⟩⟩ rfl) (tp rfl (Ad (rows:=[(0,[_]),(1,[_]),(2,[_]),(3,[_]),(4,[_])]) rfl DG Co ⟨⟨rfl,(Vo rfl)⟩,⟨⟨rfl,(Vo rfl)⟩,⟨⟨rfl,(Vo rfl)⟩,⟨⟨rfl,⟨_,rfl,Pr.le_trans (AV 1) (AD _)⟩⟩,⟨⟨rfl,⟨_,rfl,Pr.le_trans (AV 1) (AD _)⟩⟩,trivial⟩⟩⟩⟩⟩ rfl) (tp rfl (Ad (rows:=[(0,[_]),(1,[_]),(2,[_]),(3,[_]),(4,[_])]) rfl DG Co ⟨⟨rfl,(Vo rfl)⟩,⟨⟨rfl,(Vo rfl)⟩,⟨⟨rfl,(Vo rfl)⟩,⟨⟨rfl,⟨_,rfl,Pr.le_trans (AV 1) (AD _)⟩⟩,⟨⟨rfl,⟨_,rfl,Pr.le_trans (AV 1) (AD _)⟩⟩,trivial⟩⟩⟩⟩⟩ rfl) (tp rfl (Ad (rows:=[(0,[_]),(1,[_]),(2,[_]),(3,[_]),(4,[_])]) rfl DG Co ⟨⟨rfl,(Vo rfl)⟩,⟨⟨rfl,(Vo rfl)⟩,⟨⟨rfl,(Vo rfl)⟩,⟨⟨rfl,⟨_,rfl,Pr.le_trans (AV 1) (AD _)⟩⟩,⟨⟨rfl,⟨_,rfl,Pr.le_trans (AV 1) (AD _)⟩⟩,trivial⟩⟩⟩⟩⟩ rfl) (tp rfl (oI) ?_))))
 refine tp rfl (Ad (rows:=[(0,[_]),(1,[_]),(2,[_]),(3,[_]),(4,[_])]) rfl DG Co ⟨⟨rfl,(Vo rfl)⟩,⟨⟨rfl,(Vo rfl)⟩,⟨⟨rfl,(Vo rfl)⟩,⟨⟨rfl,⟨_,rfl,Pr.le_trans (AV 1) (AD _)⟩⟩,⟨⟨rfl,⟨_,rfl,Pr.le_trans (Am _ _) (AD _)⟩⟩,trivial⟩⟩⟩⟩⟩ rfl) ?_
 refine ap ?_
 refine tp rfl (Ad (rows:=[(0,[_]),(1,[_]),(2,[_]),(3,[_]),(4,[_])]) rfl DG Co ⟨⟨rfl,(Vo rfl)⟩,⟨⟨rfl,(Vo rfl)⟩,⟨⟨rfl,(Vo rfl)⟩,⟨⟨rfl,⟨_,rfl,Pr.le_trans (Am _ _) (AD _)⟩⟩,⟨⟨rfl,⟨_,rfl,Pr.le_trans (Am _ _) (AD _)⟩⟩,trivial⟩⟩⟩⟩⟩ rfl) (tp rfl (Ad (rows:=[(0,[_]),(1,[_]),(2,[_]),(3,[_]),(4,[_])]) rfl DG Co ⟨⟨rfl,(Vo rfl)⟩,⟨⟨rfl,(Vo rfl)⟩,⟨⟨rfl,(Vo rfl)⟩,⟨⟨rfl,⟨_,rfl,Pr.le_trans (AV 1) (AD _)⟩⟩,⟨⟨rfl,⟨_,rfl,Pr.le_trans (AV 1) (AD _)⟩⟩,trivial⟩⟩⟩⟩⟩ rfl) (tp rfl (Ad (rows:=[(0,[_]),(1,[_]),(2,[_]),(3,[_]),(4,[_])]) rfl DG Co ⟨⟨rfl,(Vo rfl)⟩,⟨⟨rfl,(Vo rfl)⟩,⟨⟨rfl,(Vo rfl)⟩,⟨⟨rfl,⟨_,rfl,Pr.le_trans (AV 1) (AD _)⟩⟩,⟨⟨rfl,⟨_,rfl,Pr.le_trans (AV 1) (AD _)⟩⟩,trivial⟩⟩⟩⟩⟩ rfl) (tp rfl (Ad (rows:=[(0,[_]),(1,[_]),(2,[_]),(3,[_]),(4,[_])]) rfl DG Co ⟨⟨rfl,(Vo rfl)⟩,⟨⟨rfl,(Vo rfl)⟩,⟨⟨rfl,(Vo rfl)⟩,⟨⟨rfl,⟨_,rfl,Pr.le_trans (AV 1) (AD _)⟩⟩,⟨⟨rfl,⟨_,rfl,Pr.le_trans (AV 1) (AD _)⟩⟩,trivial⟩⟩⟩⟩⟩ rfl) ?_)))
 refine ap ?_
 refine tp rfl (Ad (rows:=[(0,[_]),(1,[_]),(2,[_]),(3,[_]),(4,[_])]) rfl DG Co ⟨⟨rfl,(Vo rfl)⟩,⟨⟨rfl,(Vo rfl)⟩,⟨⟨rfl,(Vo rfl)⟩,⟨⟨rfl,⟨_,rfl,Pr.le_trans (Am _ _) (AD _)⟩⟩,⟨⟨rfl,⟨_,rfl,Pr.le_trans (Am _ _) (AD _)⟩⟩,trivial⟩⟩⟩⟩⟩ rfl) ?_
 refine ap ?_
 refine tp rfl (Ad (rows:=[(0,[_]),(1,[_]),(2,[_]),(3,[_]),(4,[_])]) rfl DG Co ⟨⟨rfl,(Vo rfl)⟩,⟨⟨rfl,(Vo rfl)⟩,⟨⟨rfl,(Vo rfl)⟩,⟨⟨rfl,⟨_,rfl,Pr.le_trans (Am _ _) (AD _)⟩⟩,⟨⟨rfl,⟨_,rfl,Pr.le_trans (Am _ _) (AD _)⟩⟩,trivial⟩⟩⟩⟩⟩ rfl) ?_
 refine ap ?_
 refine tp rfl (Ad (rows:=[(0,[_]),(1,[_]),(2,[_]),(3,[_]),(4,[_])]) rfl DG Co ⟨⟨rfl,(Vo rfl)⟩,⟨⟨rfl,(Vo rfl)⟩,⟨⟨rfl,(Vo rfl)⟩,⟨⟨rfl,⟨_,rfl,Pr.le_trans (Am _ _) (AD _)⟩⟩,⟨⟨rfl,⟨_,rfl,Pr.le_trans (Am _ _) (AD _)⟩⟩,trivial⟩⟩⟩⟩⟩ rfl) ?_
 refine ap ?_
 refine tp rfl (Ad (rows:=[(0,[_]),(1,[_]),(2,[_]),(3,[_]),(4,[_])]) rfl DG Co ⟨⟨rfl,(Vo rfl)⟩,⟨⟨rfl,(Vo rfl)⟩,⟨⟨rfl,(Vo rfl)⟩,⟨⟨rfl,⟨_,rfl,Pr.le_trans (Am _ _) (AD _)⟩⟩,⟨⟨rfl,⟨_,rfl,Pr.le_trans (Am _ _) (AD _)⟩⟩,trivial⟩⟩⟩⟩⟩ rfl) ?_
 refine ap ?_
 refine tp rfl (Ad (rows:=[(0,[_]),(1,[_]),(2,[_]),(3,[_]),(4,[_])]) rfl DG Co ⟨⟨rfl,(Vo rfl)⟩,⟨⟨rfl,(Vo rfl)⟩,⟨⟨rfl,(Vo rfl)⟩,⟨⟨rfl,⟨_,rfl,Pr.le_trans (Am _ _) (AD _)⟩⟩,⟨⟨rfl,⟨_,rfl,Pr.le_trans (Am _ _) (AD _)⟩⟩,trivial⟩⟩⟩⟩⟩ rfl) (tp rfl (oI) ?_)
 refine tp rfl (Ad (rows:=[(0,[_]),(1,[_]),(2,[_]),(3,[_]),(4,[_])]) rfl DG Co ⟨⟨rfl,(Vo rfl)⟩,⟨⟨rfl,(Vo rfl)⟩,⟨⟨rfl,(Vo rfl)⟩,⟨⟨rfl,⟨_,rfl,Pr.le_trans (AV 1) (AD _)⟩⟩,⟨⟨rfl,⟨_,rfl,Pr.le_trans (Am _ _) (AD _)⟩⟩,trivial⟩⟩⟩⟩⟩ rfl) (tp rfl (oI) ?_)
 refine tp rfl (Ad (rows:=[(0,[_]),(1,[_]),(2,[_]),(3,[_]),(4,[_])]) rfl DG Co ⟨⟨rfl,(Vo rfl)⟩,⟨⟨rfl,(Vo rfl)⟩,⟨⟨rfl,(Vo rfl)⟩,⟨⟨rfl,⟨_,rfl,Pr.le_trans (AV 1) (AD _)⟩⟩,⟨⟨rfl,⟨_,rfl,Pr.le_trans (Am _ _) (AD _)⟩⟩,trivial⟩⟩⟩⟩⟩ rfl) (tp rfl (oI) ?_)
 refine tp rfl (Ad (rows:=[(0,[_]),(1,[_]),(2,[_]),(3,[_]),(4,[_])]) rfl DG Co ⟨⟨rfl,(Vo rfl)⟩,⟨⟨rfl,(Vo rfl)⟩,⟨⟨rfl,(Vo rfl)⟩,⟨⟨rfl,⟨_,rfl,Pr.le_trans (AV 1) (AD _)⟩⟩,⟨⟨rfl,⟨_,rfl,Pr.le_trans (Am _ _) (AD _)⟩⟩,trivial⟩⟩⟩⟩⟩ rfl) (tp rfl (oI) ?_)
 refine tp rfl (Ad (rows:=[(0,[_]),(1,[_]),(2,[_]),(3,[_]),(4,[_])]) rfl DG Co ⟨⟨rfl,(Vo rfl)⟩,⟨⟨rfl,(Vo rfl)⟩,⟨⟨rfl,(Vo rfl)⟩,⟨⟨rfl,⟨_,rfl,Pr.le_trans (AV 1) (AD _)⟩⟩,⟨⟨rfl,⟨_,rfl,Pr.le_trans (Am _ _) (AD _)⟩⟩,trivial⟩⟩⟩⟩⟩ rfl) (tp rfl (oI) ?_)
 refine tp rfl (Ad (rows:=[(0,[_]),(1,[_]),(2,[_]),(3,[_]),(4,[_])]) rfl DG Co ⟨⟨rfl,(Vo rfl)⟩,⟨⟨rfl,(Vo rfl)⟩,⟨⟨rfl,(Vo rfl)⟩,⟨⟨rfl,⟨_,rfl,Pr.le_trans (AV 1) (AD _)⟩⟩,⟨⟨rfl,⟨_,rfl,Pr.le_trans (Am _ _) (AD _)⟩⟩,trivial⟩⟩⟩⟩⟩ rfl) ?_
 refine ap ?_
 refine FD 0 rfl (Tr.ret (Fin.Cm rfl (BK.cell 0 rfl rfl cx aP rfl (Lr)) ?_))
 · exact BB ⟨Lr,Lr,Lr,AV 1,AV 1,Lr,Lr,Lr,Lr,Lr,Lr,Lr,Lr,Lr,Lr,Lr,Lr,Lr,Lr,Lr,Lr,Lr,Lr,Lr,Lr,Lr,Lr,Lr,Lr,Lr,Lr,Lr,Lr,Lr,Lr,Lr,Lr,Lr,Lr,Lr,Lr,Lr,Lr,Lr,Lr,Lr,Lr,Lr,Lr,Lr,Lr,Lr,Lr,Lr,Lr,Lr,Lr,Lr,Lr,Lr,Lr,Lr,Lr,Lr,Lr,Lr,Lr,Lr,Lr,Lr,Lr,Lr,Lr,Lr,Lr,Lr,Lr,Lr,Lr,Lr,Lr,Lr,Lr,Lr,Lr,Lr,Lr,Lr,Lr,Lr,Lr,Lr,Lr,Lr,Lr,Lr,Lr,Lr,Lr,Lr,Lr,Lr,Lr,Lr,Lr,Lr,Lr,Lr,Lr,Lr,Lr,Lr,Lr,Lr,Lr,trivial⟩
theorem k4 {BI:Int}  :A9 prog 143 [int BI] (Iv [agg (dO (Cc BI)),bool (decide (1≤BI∧BI≤22))]):=by
 refine fo func143 rfl ⟨rfl,rfl⟩ fun M0 w0=>(Tr.seq (Tr.As ?_))
 refine Tl rfl rfl rfl rfl z203 Co (fun b1=> ?_)
 refine ap ?_
 refine ag ?_ ?_<;>intro h1 q1
 refine ac ?_
 refine Tr.cond rfl (fun _=> ?_) (fun h=>nomatch h)
 refine Tr.seq (Tr.As (tp rfl (Ad (rows:=[]) rfl DG Co trivial rfl) (TO.Ap 0 rfl rfl rfl (vl rfl) (Va rfl) rfl Mu rfl rfl (tm rfl (TO.nil (Fin.go (Tr.ret (Fin.AH (Fin.Hx rfl (BK.cell 0 rfl rfl N0 Mu rfl (Lr)) (BK.tmp rfl (Lr)) ?_)))))))))
 · refine EE ⟨?_,bool_eq (by symm;rw [decide_eq_false_iff_not];omega),trivial⟩;unfold Cc;rw [if_neg (by omega)];exact BB ⟨Lr,Lr,Lr,AV 1,AV 1,trivial⟩
 refine an ?_ ?_<;>intro h2 q2
 refine ap ?_
 refine Tr.ret (Fin.AH (Fin.Hx rfl (BK.cell 0 rfl rfl N0 Mu rfl (Lr)) (BK.tmp rfl (Lr)) ?_))
 · refine EE ⟨?_,bool_eq (by symm;rw [decide_eq_false_iff_not];omega),trivial⟩;unfold Cc;rw [if_neg (by omega)];exact BB ⟨Lr,Lr,Lr,AV 1,AV 1,trivial⟩
 have hin:1≤BI∧BI≤22:=by omega
 refine ac ?_
 refine Tr.seq (Tr.As (tp rfl (mj (dQ) rfl) (tm rfl (tp rfl (Oz rfl underlying207 N0 Mu (vl rfl) (vl rfl) (by omega) (by omega) (L1 (f:=dO) (fun _=>rfl) (G4 hin))) ?_))))
 refine ap ?_
 refine Tr.ret (Fin.Hx rfl (BK.cell 0 rfl rfl N0 Mu rfl (Lr)) (BK.tmp rfl (Lr)) ?_)
 · exact EE ⟨Lr,bool_eq (by symm;rw [decide_eq_true_eq];exact hin),trivial⟩
theorem Qo {BI:Int}  :A9 prog 127 [int BI] (int (Cc BI).kind):=by
 refine fo func127 rfl ⟨rfl,rfl⟩ fun M0 w0=> ?_
 refine ac ?_
 refine ao ?_
 refine tp rfl (CN (k4) rfl rfl) ?_
 refine ao ?_
 refine Tl rfl rfl rfl rfl z203 Co (fun b1=> ?_)
 refine sf 0 3 ⟨rfl,rfl,rfl⟩ rfl rfl rfl rfl ?_
 refine ao ?_
 refine a2 ?_
 · exact Lr
theorem Tf {b:Int}  :A9 prog 145 [int b] (int (Vx b)):=by
 refine fo func145 rfl ⟨rfl,rfl⟩ fun M0 w0=> ?_
 have hml:mods.length=5:=rfl
 refine a2 ?_
 refine Tr.block (Tr.re 10 rfl (Pr.le_of_eq (show _=agg (mods.flatMap fun p=>[int p.1,int p.2]) from rfl)) (Tr.BH [(0,_),(10,_)] (iO rfl) (fun k:Nat=>[(11,int ((k:Nat):Int))]) (fun k:Nat=>k≤(mods).length∧(Vx b=dP (mods.drop k) b)) (fun k:Nat=>(mods).length-k) 0 (⟨Nat.zero_le _,rfl⟩) ⟨ke rfl,trivial⟩ ?_))
 rintro k ⟨BR,AG⟩
 refine ac ?_
 refine Tr.seq ?_
 refine Tr.cn rfl ?_ ?_<;>intro h1 q1
 have Aa:k<(mods).length:=AL h1
 obtain ⟨p,AY⟩:=at_ Aa
 have hL:k<5:=Aa
 have hdr:=drop_cons AY
 refine ac ?_
 refine Tr.seq (Tr.block (Tr.seq (Tr.As (tp rfl (Oz rfl underlying212 cz aR (vl rfl) (vl rfl) (by omega) (by omega) (L1 (f:=fun p:Int×Int=>[int p.1,int p.2]) (fun _=>rfl) AY)) ?_))))
 refine Tl rfl rfl rfl rfl pR aS (fun b1=> ?_)
 refine sf 0 4 ⟨rfl,rfl,rfl⟩ rfl rfl rfl rfl ?_
 refine ao ?_
 refine ac ?_
 refine co rfl (D7 rfl underlying211 Ce (vl rfl) (vl rfl) (by omega) (by omega) rfl) (co rfl (GK rfl DC (vl rfl) rfl) ?_)
 refine an ?_ ?_<;>intro h2 q2
 refine Tr.seq (Tr.Ao (co rfl (D7 rfl underlying211 Ce (vl rfl) (vl rfl) (by omega) (by omega) rfl) (co rfl (GK rfl DC (vl rfl) rfl) ?_)))
 refine ac ?_
 refine FD 2 rfl ?_
 refine ac ?_
 · refine int_eq ?_;rw [AG,hdr];exact (if_pos (by omega)).symm
 refine a2 ?_
 exact Fin.AK (k+1) ⟨⟨Aa,(by rw [AG,hdr];exact if_neg (by omega))⟩,by omega⟩ ⟨⟨_,rfl,AE k⟩,ke rfl,ke rfl,trivial⟩
 have A_:k=(mods).length:=by have:=AM h1;omega
 subst A_
 refine a3 ?_
 · refine int_eq ?_;rw [AG,List.drop_length];rfl
def M7:List Int:=[160,224,256,384,521]
def BS (BI bits:Int):Int:=
 if 1 ≤ BI ∧ BI ≤ 22 then
  if (Cc BI).way=0 then (if bits=0 then ((Cc BI).EY[0]?).getD 0 else 0)
  else if (Cc BI).way=1 then (if 512≤bits∧bits≤16384 then Vx bits else 0)
  else if (Cc BI).way=2 then (if (M7.any fun x=>bits==x)=true then bits.tdiv 2 else 0)
  else if (Cc BI).way=3 then (if 0≤idx (fun x=>bits==x) (Cc BI).sizes then ((Cc BI).EY[(idx (fun x=>bits==x) (Cc BI).sizes).toNat]?).getD 0 else 0)
  else 0
 else 0
theorem Qp {BI:Int} (h:1≤BI∧BI≤22):Cc BI∈E_.tail:=by
 have h1:=G4 h
 refine List.mem_of_getElem? (i:=BI.toNat-1) ?_
 rw [List.getElem?_tail,show BI.toNat-1+1=BI.toNat by omega];exact h1
theorem dR:∀r∈E_.tail,(r.way=0→1≤r.EY.length)∧(r.way=3→r.sizes.length≤r.EY.length):=by decide
theorem dS {β:Type} (p:β→Bool) (l:List β):idx p l<l.length:=by
 unfold idx
 cases h:l.findIdx? p with
 |none=>simp;omega
 |some i=>rw [List.findIdx?_eq_some_iff_getElem] at h;obtain ⟨h1,_⟩:=h;simp;omega
theorem Qq {BI bits:Int}  :A9 prog 129 [agg [int BI,int bits]] (int (BS BI bits)):=by
 refine fo func129 rfl ⟨rfl,rfl⟩ fun M0 w0=> ?_
 refine ac ?_
 refine ao ?_
 refine tp rfl (CN (k4) rfl rfl) ?_
 refine ao ?_
 refine Tl rfl rfl rfl rfl z203 Co (fun b1=> ?_)
 refine sf 0 3 ⟨rfl,rfl,rfl⟩ rfl rfl rfl rfl ?_
 refine ao ?_
 refine ac ?_
 refine FX 1 3 13 rfl ?_
 refine Tr.cn rfl ?_ ?_<;>intro h1 q1
 refine a2 ?_
 · refine int_eq ?_;unfold BS;rw [if_neg (by intro hh;simp [hh] at h1)]
 have hin:1≤BI∧BI≤22:=by simpa using h1
 obtain ⟨hc0,hc3⟩:=dR _ (Qp hin)
 refine a2 ?_
 refine an ?_ ?_<;>intro h2 q2
 refine an ?_ ?_<;>intro h3 q3
 obtain ⟨z,hz⟩:=at_ (l:=(Cc BI).EY) (k:=0) (hc0 (by omega))
 refine ac ?_
 refine co rfl (AA rfl underlying22 Ce (vl rfl) (vl rfl) (by omega) (AU (k:=0) hz)) ?_
 refine ac ?_
 refine FD 2 rfl ?_
 refine ac ?_
 · refine int_eq ?_;unfold BS;rw [if_pos hin,if_pos (by omega),if_pos (by omega),hz];rfl
 refine a3 ?_
 · refine int_eq ?_;unfold BS;rw [if_pos hin,if_pos (by omega),if_neg (by omega)]
 refine an ?_ ?_<;>intro h4 q4
 · repeat' first|(refine int_eq ?_;unfold BS;rw [if_pos hin,if_neg (by omega),if_pos (by omega),if_pos (by omega)])|(refine int_eq ?_;unfold BS;rw [if_pos hin,if_neg (by omega),if_pos (by omega),if_neg (by omega)])|refine co rfl (CN (Tf) rfl rfl) ?_|refine ac ?_|(refine Tr.cn rfl ?_ ?_<;>intro h q)|(refine Ch.cg rfl rfl rfl ?_ ?_<;>intro h q)
 refine an ?_ ?_<;>intro h7 q7
 refine ac ?_
 refine co rfl (AW rfl (Fa (l:=M7)) ⟨(Kf rfl),ke rfl,trivial⟩) ?_
 refine ac ?_
 refine CY 1 43 rfl ?_
 refine Tr.cn rfl ?_ ?_<;>intro h8 q8
 have hb:bits=160∨bits=224∨bits=256∨bits=384∨bits=521:=by simpa [M7] using h8
 refine ac ?_
 refine co rfl (LM rfl (vl rfl) (vl rfl) (by omega)) ?_
 refine a2 ?_
 · refine int_eq ?_;unfold BS;rw [if_pos hin,if_neg (by omega),if_neg (by omega),if_pos (by omega),if_pos (by assumption)];rcases hb with h|h|h|h|h<;>rw [h]<;>rfl
 refine a3 ?_
 · refine int_eq ?_;unfold BS;rw [if_pos hin,if_neg (by omega),if_neg (by omega),if_pos (by omega),if_neg (A0 (by assumption))]
 refine an ?_ ?_<;>intro h9 q9
 refine ac ?_
 refine co rfl (DK (O8) rfl rfl rfl) ?_
 refine ac ?_
 refine CY 3 5 rfl ?_
 refine an ?_ ?_<;>intro h10 O9
 have hlt:=dS (fun x=>bits==x) (Cc BI).sizes
 obtain ⟨z,hz⟩:=at_ (l:=(Cc BI).EY) (k:=(idx (fun x=>bits==x) (Cc BI).sizes).toNat) (by have:=hc3 (by omega);omega)
 refine ac ?_
 refine co rfl (AA rfl underlying22 Ce (vl rfl) (vl rfl) (by omega) (Cf hz)) ?_
 refine a2 ?_
 · refine int_eq ?_;unfold BS;rw [if_pos hin,if_neg (by omega),if_neg (by omega),if_neg (by omega),if_pos (by omega),if_pos (by assumption),hz];rfl
 refine a3 ?_
 · refine int_eq ?_;unfold BS;rw [if_pos hin,if_neg (by omega),if_neg (by omega),if_neg (by omega),if_pos (by omega),if_neg (by omega)]
 refine a2 ?_
 refine FD 2 rfl ?_
 refine ac ?_
 · refine int_eq ?_;unfold BS;rw [if_pos hin,if_neg (by omega),if_neg (by omega),if_neg (by omega),if_neg (by omega)]
theorem N7 {BI bits:Int}  :A9 prog 103 [agg [int BI,int bits]] (bool (decide (BS BI bits>0))):=by
 refine fo func103 rfl ⟨rfl,rfl⟩ fun M0 w0=> ?_
 refine a2 ?_
 refine co rfl (CN (Qq) rfl rfl) ?_
 refine a2 ?_
 · exact Lr
structure Gt where
 G5:Int
 Ic:List UInt8
 GQ:List UInt8
 Ma:Int
 H6:Int
 DZ:Int
 Qr:Int
 L2:Int
 from_:Int
 gb:Int
 auth:Bool
 path:Int
 names:List (List UInt8)
 Y0:Int
 Y1:Int
abbrev Y2 (l:List (List UInt8)):Pr:=slice 1 (l.map fun t=>[str t])
abbrev DN (c:Gt):List Pr:=[int c.G5,str c.Ic,str c.GQ,int c.Ma,int c.H6,int c.DZ,int c.Qr,int c.L2,int c.from_,int c.gb,bool c.auth,int c.path,Y2 c.names,int c.Y0,int c.Y1]
abbrev M8 (l:List Gt):Pr:=slice 15 (l.map DN)
structure Gt.fits (c:Gt):Prop where
 Ic:c.Ic.length≤maxLen
 GQ:c.GQ.length≤maxLen
 names:∀s∈c.names,s.length≤maxLen
def EI (n:Int):Bool:=decide (0≤n)&&decide (n≤2147483648)
def Tg (n:Int):Bool:=decide (0≤n)&&decide (n<4294967296)
def Bv (o:List UInt8) (c:UInt8):Bool:=decide (97≤c.toNat∧c.toNat≤122)||decide (65≤c.toNat∧c.toNat≤90)||decide (48≤c.toNat∧c.toNat≤57)||decide (0≤Lib.indexByte o c)
def Gg (s:List UInt8):Bool:=s.all (Bv [45,95,46])&&decide (1≤s.length∧s.length≤32)
def nameAt (l:List (List UInt8)) (i:Nat):Bool:=named (l[i]?.getD [])&&(decide (i=0)||decide (Lib.compareBytes (l[i-1]?.getD []) (l[i]?.getD [])= -1))
def D4 (l:List (List UInt8)):Bool:=allI (nameAt l) l.length&&decide (l.length≤8)
def EJ (BI bits kind:Int):Bool:=decide (BS BI bits>0)&&(Cc BI).kind==kind
def CC (c:Gt):Bool:=
 (decide (0≤c.G5)&&decide (c.G5≤1099511627776)&&named c.Ic&&named c.GQ&&D4 c.names)&&
 (EJ c.Ma c.H6 2&&EI c.DZ&&EJ c.Qr c.L2 1&&EI c.Y0&&Tg c.Y1)&&
 (decide (0≤c.from_)&&decide (c.from_≤c.gb)&&decide (c.gb≤40000))&&(decide (0≤c.path)&&decide (c.path≤8)&&(c.auth||c.path==0))
def L3 (BI bits id:Int) (l:List Gt):Bool:=EJ BI bits 2&&EI id&&decide (l.length≤8)&&l.all CC&&match l with|[]=>true|c::_=>decide (c.Ma=BI∧c.H6=bits)&&c.DZ==id
structure QK where
 BI:Int
 bits:Int
 DZ:Int
 chain:List Gt
abbrev L4 (x:QK):List Pr:=[int x.BI,int x.bits,int x.DZ,M8 x.chain]
abbrev qu (l:List QK):Pr:=slice 4 (l.map L4)
def QK.fits (x:QK):Prop:=∀c∈x.chain,c.fits
structure Ez where
 name:List UInt8
 least:Int
 most:Int
 Bc:List Int
 own:Bool
 ids:List QK
 anchors:List Int
 hashes:List Int
 qv:Bool
abbrev Cv (e:Ez):List Pr:=[str e.name,int e.least,int e.most,ints e.Bc,bool e.own,qu e.ids,ints e.anchors,ints e.hashes,bool e.qv]
structure Ez.fits (e:Ez):Prop where
 name:e.name.length≤maxLen
 ids:∀x∈e.ids,x.fits
def El (l:List Int) (i:Nat):Bool:=decide (i=0)||decide (l[i-1]?.getD 0<l[i]?.getD 0)
def Qs (l:List Int):Bool:=allI (El l) l.length
def Ck (l:List Int) (i:Nat):Bool:=decide (1≤l[i]?.getD 0∧l[i]?.getD 0≤16)&& !((l.take i).any fun x=>l[i]?.getD 0==x)
def Ed (l:List Int):Bool:=allI (Ck l) l.length
def G6 (n:Int):Bool:=(Cc n).kind==1
def Th (x:QK):Bool:=L3 x.BI x.bits x.DZ x.chain
def Gq (e:Ez):Bool:=
 (Gg e.name&&decide (1≤e.least)&&decide (e.least≤e.most)&&decide (e.most≤4)&&Ed e.Bc)&&
 (decide (e.ids.length≤4)&&decide (e.anchors.length≤16)&&Qs e.anchors&&Qs e.hashes)&&e.ids.all Th&&e.anchors.all EI&&e.hashes.all G6
theorem SQ {β:Type} (p:β→Bool) (l:List β):(l.any fun x=> !p x)= !l.all p:=by
 induction l with
 |nil=>rfl
 |cons a l ih=>rw [List.any_cons,List.all_cons,ih];cases p a<;>rfl
theorem getD_at {β:Type} {l:List β} {k:Nat} {x d:β} (h:l[k]? =some x):l[k]?.getD d=x:=by rw [h];rfl
theorem dU {s:List UInt8} {c:UInt8}  :A9 prog 146 [str s,is (.int .u8 ((c.toNat:Nat):Int))] (int (Lib.indexByte s c)):=by
 refine fo func146 rfl ⟨rfl,rfl⟩ fun M0 w0=> ?_
 refine a2 ?_
 refine co rfl (Ql rfl func152 (by kernel_rfl) (by kernel_rfl) (by kernel_rfl) (by kernel_rfl) (vl rfl) (vl rfl)) ?_
 refine a2 ?_
 · exact Lr
theorem KZ {s:List UInt8} {c:UInt8}  :A9 prog 141 [str s,is (.int .u8 ((c.toNat:Nat):Int))] (int (Lib.indexByte s c)):=by
 refine fo func141 rfl ⟨rfl,rfl⟩ fun M0 w0=> ?_
 refine a2 ?_
 refine co rfl (DK (dU) rfl rfl rfl) ?_
 refine a2 ?_
 · exact Lr
theorem Vy {o:List UInt8} {c:UInt8}  :A9 prog 125 [is (.int .u8 ((c.toNat:Nat):Int)),str o] (bool (Bv o c)):=by
 refine fo func125 rfl ⟨rfl,rfl⟩ fun M0 w0=> ?_
 refine ac ?_
 refine ag ?_ ?_<;>intro h1 q1
 refine ag ?_ ?_<;>intro h2 q2
 refine ac ?_
 refine FD 4 rfl ?_
 refine ac ?_
 · refine bool_eq ?_;unfold Bv;simp_all;omega
 refine ag ?_ ?_<;>intro h3 q3
 refine ag ?_ ?_<;>intro h4 q4
 refine ac ?_
 refine FD 4 rfl ?_
 refine ac ?_
 · refine bool_eq ?_;unfold Bv;simp_all;omega
 refine ag ?_ ?_<;>intro h5 q5
 · repeat' first|(refine bool_eq ?_;unfold Bv;simp_all;omega)|refine cy h rfl (DK (KZ) rfl rfl rfl) ?_|refine ac ?_|(refine Ch.cg rfl rfl rfl ?_ ?_<;>intro h q)
 refine ac ?_
 refine cy rfl rfl (DK (KZ) rfl rfl rfl) ?_
 refine ac ?_
 refine FD 4 rfl ?_
 refine ac ?_
 · refine bool_eq ?_;unfold Bv;simp_all;omega
 refine ag ?_ ?_<;>intro h7 q7
 · repeat' first|(refine bool_eq ?_;unfold Bv;simp_all;omega)|refine cy h rfl (DK (KZ) rfl rfl rfl) ?_|refine ac ?_|(refine Ch.cg rfl rfl rfl ?_ ?_<;>intro h q)
 refine ac ?_
 refine cy rfl rfl (DK (KZ) rfl rfl rfl) ?_
 refine ac ?_
 refine FD 4 rfl ?_
 refine ac ?_
 · refine bool_eq ?_;unfold Bv;simp_all;omega
 refine ag ?_ ?_<;>intro h9 q9
 refine ag ?_ ?_<;>intro h10 O9
 refine ac ?_
 refine FD 4 rfl ?_
 refine ac ?_
 · refine bool_eq ?_;unfold Bv;simp_all;omega
 refine ag ?_ ?_<;>intro h11 SS
 · repeat' first|(refine bool_eq ?_;unfold Bv;simp_all;omega)|refine cy h rfl (DK (KZ) rfl rfl rfl) ?_|refine ac ?_|(refine Ch.cg rfl rfl rfl ?_ ?_<;>intro h q)
 refine ac ?_
 refine cy rfl rfl (DK (KZ) rfl rfl rfl) ?_
 refine ac ?_
 refine FD 4 rfl ?_
 refine ac ?_
 · refine bool_eq ?_;unfold Bv;simp_all;omega
 refine ag ?_ ?_<;>intro MU Uj
 · repeat' first|(refine bool_eq ?_;unfold Bv;simp_all;omega)|refine cy h rfl (DK (KZ) rfl rfl rfl) ?_|refine ac ?_|(refine Ch.cg rfl rfl rfl ?_ ?_<;>intro h q)
 refine ac ?_
 refine cy rfl rfl (DK (KZ) rfl rfl rfl) ?_
 refine ac ?_
 refine FD 4 rfl ?_
 refine ac ?_
 · refine bool_eq ?_;unfold Bv;simp_all;omega
theorem dV {s:List UInt8} (hs:s.length≤maxLen):A9 prog 93 [str s] (bool (Gg s)):=by
 refine fo func93 rfl ⟨rfl,rfl⟩ fun M0 w0=> ?_
 refine a2 ?_
 refine co rfl (Lq rfl underlying9 underlying138 underlying5 (vl rfl) (by assumption)) ?_
 refine ac ?_
 refine Tr.block (Tr.Fg 6 rfl fun hl6=>(Tr.BH [(0,_),(6,_),(7,_)] (Nr rfl) (fun k:Nat=>[(8,int ((k:Nat):Int))]) (fun k:Nat=>k≤(s).length∧(∀j y,j<k→s[j]? =some y→(!Bv [45,95,46] y)=false)) (fun k:Nat=>(s).length-k) 0 (⟨Nat.zero_le _,fun j y hj=>absurd hj (by omega)⟩) ⟨ke rfl,trivial⟩ ?_))
 rintro k ⟨BR,AG⟩
 refine ac ?_
 refine Tr.seq ?_
 refine Tr.cn rfl ?_ ?_<;>intro h1 q1
 have Aa:k<(s).length:=AL h1
 obtain ⟨c,AY⟩:=at_ Aa
 refine ac ?_
 refine Tr.seq (Tr.block (Tr.seq (Tr.Ao (co rfl (AA rfl underlying138 Iy (vl rfl) (vl rfl) (by omega) (by exact AU (by assumption))) ?_))))
 · repeat' first|(refine bool_eq ?_;unfold Gg;rw [GP (p:=Bv [45,95,46]) AY (by simp_all)];rfl)|exact Fin.AK (k+1) ⟨⟨Aa,CB (p:=fun c=> !Bv [45,95,46] c) AY (by simp_all) AG⟩,by omega⟩ ⟨⟨_,rfl,AE k⟩,ke rfl,ke rfl,ke rfl,trivial⟩|refine co rfl (DK (Vy) rfl rfl rfl) ?_|refine ac ?_|(refine Tr.cn rfl ?_ ?_<;>intro h q)
 have A_:k=(s).length:=by have:=AM h1;omega
 subst A_
 · repeat' first|(refine bool_eq ?_;unfold Gg;rw [EH AG,Bool.true_and];rw [decide_eq_decide];omega)|(refine bool_eq ?_;unfold Gg;rw [EH AG,Bool.true_and];symm;rw [decide_eq_false_iff_not];omega)|refine ac ?_|(refine Ch.cg rfl rfl rfl ?_ ?_<;>intro h q)
theorem Qt {n:Int}  :A9 prog 99 [int n] (bool (EI n)):=by
 refine fo func99 rfl ⟨rfl,rfl⟩ fun M0 w0=> ?_
 refine ac ?_
 refine ac ?_
 refine Ch.cs 5 rfl ?_ ?_<;>intro h1 q1
 refine ac ?_
 refine ac ?_
 · refine bool_eq ?_;unfold EI;simp_all
 refine ac ?_
 refine ac ?_
 · refine bool_eq ?_;unfold EI;simp_all;omega
theorem dW:Entry Tryz.prog 99:=⟨_,Tryz.func99,rfl,rfl⟩
theorem dX {n:Int}  :A9 prog 151 [int n] (bool (Tg n)):=by
 refine fo func151 rfl ⟨rfl,rfl⟩ fun M0 w0=> ?_
 refine ac ?_
 refine ac ?_
 refine Ch.cs 5 rfl ?_ ?_<;>intro h1 q1
 refine ac ?_
 refine ac ?_
 · refine bool_eq ?_;unfold Tg;simp_all
 refine ac ?_
 refine ac ?_
 · refine bool_eq ?_;unfold Tg;simp_all;omega
theorem aa {BI bits kind:Int}  :A9 prog 150 [agg [int BI,int bits],int kind] (bool (EJ BI bits kind)):=by
 refine fo func150 rfl ⟨rfl,rfl⟩ fun M0 w0=> ?_
 refine ac ?_
 refine ac ?_
 refine co rfl (CN (N7) rfl rfl) (cm rfl ?_)
 refine Ch.cs 7 rfl ?_ ?_<;>intro h1 q1
 refine ac ?_
 refine cy h1 rfl (CN (Qo) rfl rfl) ?_
 refine ac ?_
 refine ac ?_
 · refine bool_eq ?_;unfold EJ;simp_all
 refine ac ?_
 refine ac ?_
 · refine bool_eq ?_;unfold EJ;simp_all;omega
theorem Vz {l:List (List UInt8)} (hf:∀s∈l,s.length≤maxLen):A9 prog 149 [Y2 l] (bool (D4 l)):=by
 refine fo func149 rfl ⟨rfl,rfl⟩ fun M0 w0=>(Tr.Fg 0 rfl fun Hz=> ?_)
 refine a2 ?_
 refine Tr.block (Tr.BH [(0,_),(5,_),(6,_)] (Nr rfl) (fun k:Nat=>[(7,int ((k:Nat):Int))]) (fun k:Nat=>k≤(l).length∧(∀j,j<k→nameAt l j=true)) (fun k:Nat=>(l).length-k) 0 (⟨Nat.zero_le _,fun j hj=>absurd hj (by omega)⟩) ⟨ke rfl,trivial⟩ ?_)
 rintro k ⟨BR,AG⟩
 refine ac ?_
 refine Tr.seq ?_
 refine Tr.cn rfl ?_ ?_<;>intro h1 q1
 have Aa:k<(l).length:=AL h1
 obtain ⟨s,AY⟩:=at_ Aa
 have hsf:=hf s (List.mem_of_getElem? AY)
 have hg:=getD_at (d:=[]) AY
 refine a2 ?_
 refine co rfl (AA rfl underlying67 KV (vl rfl) (vl rfl) (by omega) (AU AY)) ?_
 refine a2 ?_
 refine co rfl (CN (K8 hsf) rfl rfl) ?_
 refine ag ?_ ?_<;>intro h2 q2
 refine ac ?_
 refine K5 0 5 6 7 27 rfl ?_
 refine a2 ?_
 · refine bool_eq ?_;unfold D4;rw [C8 (p:=nameAt l) (k:=k) (by omega) (by unfold nameAt;rw [hg];simp_all)];rfl
 refine ag ?_ ?_<;>intro h3 q3
 have hk0:0<k:=by simpa using h3
 obtain ⟨y,hy⟩:=at_ (l:=l) (k:=k-1) (by omega)
 have Ho:=getD_at (d:=[]) hy
 · repeat' first|(refine bool_eq ?_;unfold D4;rw [C8 (p:=nameAt l) (k:=k) (by omega) (by unfold nameAt;rw [hg,Ho];simp_all;omega)];rfl)|(exact Fin.AK (k+1) ⟨⟨Aa,BT AG (by unfold nameAt;rw [hg,Ho];simp_all)⟩,by omega⟩ ⟨⟨_,rfl,AE k⟩,ke rfl,ke rfl,ke rfl,trivial⟩)|(refine cy h3 rfl (AA rfl underlying67 KV (vl rfl) (vl rfl) (by omega) (by rw [show ((k:Nat):Int)-1=((k-1:Nat):Int) by omega];exact AU hy)) ?_)|refine cy h3 rfl (IW rfl (vl rfl) (vl rfl)) ?_|refine ac ?_|(refine Tr.cn rfl ?_ ?_<;>intro h q)
 refine ac ?_
 refine K5 0 5 6 7 27 rfl ?_
 refine a2 ?_
 exact Fin.AK (k+1) ⟨⟨Aa,BT AG (by unfold nameAt;rw [hg];simp_all)⟩,by omega⟩ ⟨⟨_,rfl,AE k⟩,ke rfl,ke rfl,ke rfl,trivial⟩
 have A_:k=(l).length:=by have:=AM h1;omega
 subst A_
 refine a3 ?_
 · refine bool_eq ?_;unfold D4;rw [JI AG,Bool.true_and];simp;omega
theorem V0 {c:Gt} (hc:c.fits):A9 prog 144 [agg (DN c)] (bool (CC c)):=by
 refine fo func144 rfl ⟨rfl,rfl⟩ fun M0 w0=> ?_
 · repeat' first|(refine bool_eq ?_;unfold CC;simp_all;omega)|(refine bool_eq ?_;unfold CC;simp_all)|refine cy h rfl (CN (K8 hc.Ic) rfl rfl) ?_|refine cy h rfl (CN (K8 hc.GQ) rfl rfl) ?_|refine cy h rfl (CN (Vz hc.names) rfl rfl) ?_|refine co rfl (DK (aa) rfl rfl rfl) ?_|refine cy h rfl (DK (aa) rfl rfl rfl) ?_|refine cy h rfl (CN (dX) rfl rfl) ?_|refine cy h rfl (CN (Qt) rfl rfl) ?_|refine ac ?_|(refine Tr.cn rfl ?_ ?_<;>intro h q)|(refine Ch.cg rfl rfl rfl ?_ ?_<;>intro h q)
theorem V1 {c:Gt} (hc:c.fits):A9 prog 128 [agg (DN c)] (int (if CC c then 0 else 9)):=by
 refine fo func128 rfl ⟨rfl,rfl⟩ fun M0 w0=> ?_
 · repeat' first|(refine int_eq ?_;simp_all)|refine co rfl (CN (V0 (by assumption)) rfl rfl) ?_|refine ac ?_|(refine Tr.cn rfl ?_ ?_<;>intro h q)
abbrev B4:List Pr:=[any,any,any,any,any,any,any,any,any,any,any,any]
abbrev CD:List (List Pr):=[B4,B4,B4,B4,B4,B4,B4,B4,B4,B4,B4,B4,B4,B4,B4,B4]
theorem dY {q:List Pr} {k o:Nat} (hk:k<16) (ho:o=k*12):(CD.flatten++q)[o]? =some any:=by
 subst ho
 have h:CD[k]? =some B4:=by
  have hk':k<CD.length:=hk
  rw [List.getElem?_eq_getElem hk']
  have:∀r∈CD,r=B4:=by intro r hr;simp at hr;exact hr
  rw [this _ (List.getElem_mem hk')]
 have hl:∀r∈CD,r.length=12:=by intro r hr;simp at hr;rw [hr];rfl
 rw [List.getElem?_append_left (by rw [CM hl];show k*12<16*12;omega)]
 exact GM (j:=0) hl h (by omega)
theorem O_ {k:Nat} (hk:k<16):CD[k]? =some B4:=by
 have hk':k<CD.length:=hk
 rw [List.getElem?_eq_getElem hk']
 have:∀r∈CD,r=B4:=by intro r hr;simp at hr;exact hr
 rw [this _ (List.getElem_mem hk')]
theorem SU:∀r∈CD,r.length=12:=by intro r hr;simp at hr;rw [hr];rfl
theorem Ti {i:Nat} {p:Pr} (h:B4[i]? =some p):p=any:=by have:=List.mem_of_getElem? h;simp at this;exact this
theorem Bw {ps:List Pr} (h:ps.length=12):Pr.le (agg ps) (agg B4):=fun M w v ⟨cs,h1,h2,h3⟩=>⟨cs,h1,h2,HL.Z7 (by rw [h3.length,h];rfl) fun i p v hp _=>by rw [Ti hp];trivial⟩
def V2 (BI bits id:Int) (l:List Gt):Bool:=match l with|[]=>true|c::_=>decide (c.Ma=BI∧c.H6=bits)&&c.DZ==id
theorem M9 {BI bits id:Int} {l:List Gt} (h:l.length=0):V2 BI bits id l=true:=by rw [List.eq_nil_of_length_eq_zero h];rfl
theorem JK {BI bits id:Int} {l:List Gt} {c:Gt} (h:l[0]? =some c):V2 BI bits id l=(decide (c.Ma=BI∧c.H6=bits)&&c.DZ==id):=by
 cases l with
 |nil=>simp at h
 |cons a l=>simp at h;subst h;rfl
theorem Bl (BI bits id:Int) (l:List Gt):L3 BI bits id l=(EJ BI bits 2&&EI id&&decide (l.length≤8)&&l.all CC&&V2 BI bits id l):=rfl
theorem Gh {a b:Int}  :A9 prog 147 [int a,int b] (agg [int a,int b]):=by
 refine fo func147 rfl ⟨rfl,rfl⟩ fun M0 w0=>(Tr.seq (Tr.As ?_))
 refine Tl rfl rfl rfl rfl HQ DD (fun b1=> ?_)
 refine ap ?_
 refine ap ?_
 refine Tr.ret (Fin.Cm rfl (BK.cell 0 rfl rfl Bj Cn rfl (Lr)) ?_)
 · exact Lr
theorem V3   :A9 prog 142 [] (slice 12 CD):=by
 refine fo func142 rfl ⟨rfl,rfl⟩ fun M0 w0=> ?_
 refine ac ?_
 refine Tr.seq (Tr.As ?_)
 iterate 4 refine tp rfl (DK (Gh) rfl rfl rfl) ?_
 refine tp rfl (Ad (rows:=[]) rfl bz DD trivial rfl) ?_
 refine Tl rfl rfl rfl rfl HQ DD (fun b1=> ?_)
 refine Tl rfl rfl rfl rfl HQ DD (fun b2=> ?_)
 refine Tl rfl rfl rfl rfl HQ DD (fun b3=> ?_)
 refine Tl rfl rfl rfl rfl HQ DD (fun b4=> ?_)
 refine Tl rfl rfl rfl rfl HQ DD (fun b5=> ?_)
 refine sf 4 1 ⟨rfl,rfl,rfl⟩ rfl rfl rfl rfl ?_
 refine sf 3 2 ⟨rfl,rfl,rfl⟩ rfl rfl rfl rfl ?_
 refine sf 2 3 ⟨rfl,rfl,rfl⟩ rfl rfl rfl rfl ?_
 refine sf 1 4 ⟨rfl,rfl,rfl⟩ rfl rfl rfl rfl ?_
 refine sf 0 5 ⟨rfl,rfl,rfl⟩ rfl rfl rfl rfl ?_
 refine TO.nil (Fin.go (K5 1 2 3 4 5 rfl (Tr.seq (Tr.As ?_))))
 iterate 5 refine tp rfl (DK (Gh) rfl rfl rfl) ?_
 refine Tl rfl rfl rfl rfl HQ DD (fun b6=> ?_)
 refine Tl rfl rfl rfl rfl HQ DD (fun b7=> ?_)
 refine Tl rfl rfl rfl rfl HQ DD (fun b8=> ?_)
 refine Tl rfl rfl rfl rfl HQ DD (fun b9=> ?_)
 refine Tl rfl rfl rfl rfl HQ DD (fun b10=> ?_)
 refine sf 4 6 ⟨rfl,rfl,rfl⟩ rfl rfl rfl rfl ?_
 refine sf 3 7 ⟨rfl,rfl,rfl⟩ rfl rfl rfl rfl ?_
 refine sf 2 8 ⟨rfl,rfl,rfl⟩ rfl rfl rfl rfl ?_
 refine sf 1 9 ⟨rfl,rfl,rfl⟩ rfl rfl rfl rfl ?_
 refine sf 0 10 ⟨rfl,rfl,rfl⟩ rfl rfl rfl rfl ?_
 refine TO.nil (Fin.go (Nq 1 2 3 4 5 6 7 8 9 10 rfl (Tr.seq (Tr.As ?_))))
 iterate 4 refine tp rfl (DK (Gh) rfl rfl rfl) ?_
 refine Tl rfl rfl rfl rfl HQ DD (fun b11=> ?_)
 refine Tl rfl rfl rfl rfl HQ DD (fun b12=> ?_)
 refine Tl rfl rfl rfl rfl HQ DD (fun b13=> ?_)
 refine Tl rfl rfl rfl rfl HQ DD (fun b14=> ?_)
 refine sf 3 11 ⟨rfl,rfl,rfl⟩ rfl rfl rfl rfl ?_
 refine sf 2 12 ⟨rfl,rfl,rfl⟩ rfl rfl rfl rfl ?_
 refine sf 1 13 ⟨rfl,rfl,rfl⟩ rfl rfl rfl rfl ?_
 refine sf 0 14 ⟨rfl,rfl,rfl⟩ rfl rfl rfl rfl ?_
 refine TO.nil (Fin.go (YE 1 2 3 4 5 6 7 8 9 10 11 12 13 14 rfl (Tr.seq (Tr.pad (Tr.rx (xo rfl (fun _=>AF rfl Bj Cn (vl rfl) rfl rfl) (xo rfl (fun _=>AF rfl Bj Cn (vl rfl) rfl rfl) (xo rfl (fun _=>DK (Gh) rfl rfl rfl) (xo rfl (fun _=>AF rfl Bj Cn (vl rfl) rfl rfl) (xo rfl (fun _=>oD) (xo rfl (fun _=>AF rfl Bj Cn (vl rfl) rfl rfl) (xo rfl (fun _=>AF rfl Bj Cn (vl rfl) rfl rfl) (xo rfl (fun _=>DK (Gh) rfl rfl rfl) ?_)))))))))))))
 refine xo rfl (fun _=>AF rfl Bj Cn (vl rfl) rfl rfl) (xo rfl (fun _=>oD) ?_)
 iterate 4 refine xo rfl (fun _=>AF rfl Bj Cn (vl rfl) rfl rfl) ?_
 refine xo rfl (fun _=>oD) (xo rfl (fun _=>DK (Gh) rfl rfl rfl) (xo rfl (fun _=>AF rfl Bj Cn (vl rfl) rfl rfl) (xo rfl (fun _=>AF rfl Bj Cn (vl rfl) rfl rfl) (xo rfl (fun _=>AF rfl Bj Cn (vl rfl) rfl rfl) (xo rfl (fun _=>oD) (xo rfl (fun _=>DK (Gh) rfl rfl rfl) (xo rfl (fun _=>AF rfl Bj Cn (vl rfl) rfl rfl) (xo rfl (fun _=>AF rfl Bj Cn (vl rfl) rfl rfl) (xo rfl (fun _=>AF rfl Bj Cn (vl rfl) rfl rfl) (xo rfl (fun _=>oD) ?_))))))))))
 iterate 4 refine xo rfl (fun _=>AF rfl Bj Cn (vl rfl) rfl rfl) ?_
 refine xo rfl (fun _=>oD) (xo rfl (fun _=>DK (Gh) rfl rfl rfl) (xo rfl (fun _=>AF rfl Bj Cn (vl rfl) rfl rfl) (xo rfl (fun _=>AF rfl Bj Cn (vl rfl) rfl rfl) (xo rfl (fun _=>AF rfl Bj Cn (vl rfl) rfl rfl) (xo rfl (fun _=>oD) ?_)))))
 iterate 4 refine xo rfl (fun _=>AF rfl Bj Cn (vl rfl) rfl rfl) ?_
 refine xo rfl (fun _=>oD) (xo rfl (fun _=>AF rfl Bj Cn (vl rfl) rfl rfl) (xo rfl (fun _=>AF rfl Bj Cn (vl rfl) rfl rfl) (xo rfl (fun _=>DK (Gh) rfl rfl rfl) (xo rfl (fun _=>DK (Gh) rfl rfl rfl) (xo rfl (fun _=>oD) ?_)))))
 iterate 4 refine xo rfl (fun _=>AF rfl Bj Cn (vl rfl) rfl rfl) ?_
 refine xo rfl (fun _=>oD) (xo rfl (fun _=>DK (Gh) rfl rfl rfl) (xo rfl (fun _=>AF rfl Bj Cn (vl rfl) rfl rfl) (xo rfl (fun _=>AF rfl Bj Cn (vl rfl) rfl rfl) (xo rfl (fun _=>AF rfl Bj Cn (vl rfl) rfl rfl) (xo rfl (fun _=>oD) ?_)))))
 iterate 4 refine xo rfl (fun _=>AF rfl Bj Cn (vl rfl) rfl rfl) ?_
 refine xo rfl (fun _=>oD) ?_
 iterate 4 refine xo rfl (fun _=>AF rfl Bj Cn (vl rfl) rfl rfl) ?_
 refine xo rfl (fun _=>oD) ?_
 iterate 4 refine xo rfl (fun _=>AF rfl Bj Cn (vl rfl) rfl rfl) ?_
 refine xo rfl (fun _=>oD) ?_
 iterate 4 refine xo rfl (fun _=>AF rfl Bj Cn (vl rfl) rfl rfl) ?_
 refine xo rfl (fun _=>oD) (xo rfl (fun _=>DK (Gh) rfl rfl rfl) (xo rfl (fun _=>AF rfl Bj Cn (vl rfl) rfl rfl) (xo rfl (fun _=>AF rfl Bj Cn (vl rfl) rfl rfl) (xo rfl (fun _=>AF rfl Bj Cn (vl rfl) rfl rfl) (xo rfl (fun _=>oD) (Cx.ef 0 rfl rfl (by decide) (Te (xs:=[.tmp 35,.tmp 40,.tmp 45,.tmp 50,.tmp 55,.tmp 60,.tmp 65,.tmp 70,.tmp 75,.tmp 80,.tmp 85,.tmp 90,.tmp 95,.tmp 100,.tmp 105,.tmp 110]) (rows:=CD) rfl rfl (by decide) rfl rfl underlying180 Ek z157 rfl (by decide) ⟨⟨(by exact rfl),VL.le (vl rfl) (Pr.le_trans (Bw rfl) (AJ _))⟩,⟨⟨(by exact rfl),VL.le (vl rfl) (Pr.le_trans (Bw rfl) (AJ _))⟩,⟨⟨(by exact rfl),VL.le (vl rfl) (Pr.le_trans (Bw rfl) (AJ _))⟩,⟨⟨(by exact rfl),VL.le (vl rfl) (Pr.le_trans (Bw rfl) (AJ _))⟩,⟨⟨(by exact rfl),VL.le (vl rfl) (Pr.le_trans (Bw rfl) (AJ _))⟩,⟨⟨(by exact rfl),VL.le (vl rfl) (Pr.le_trans (Bw rfl) (AJ _))⟩,⟨⟨(by exact rfl),VL.le (vl rfl) (Pr.le_trans (Bw rfl) (AJ _))⟩,⟨⟨(by exact rfl),VL.le (vl rfl) (Pr.le_trans (Bw rfl) (AJ _))⟩,⟨⟨(by exact rfl),VL.le (vl rfl) (Pr.le_trans (Bw rfl) (AJ _))⟩,⟨⟨(by exact rfl),VL.le (vl rfl) (Pr.le_trans (Bw rfl) (AJ _))⟩,⟨⟨(by exact rfl),VL.le (vl rfl) (Pr.le_trans (Bw rfl) (AJ _))⟩,⟨⟨(by exact rfl),VL.le (vl rfl) (Pr.le_trans (Bw rfl) (AJ _))⟩,⟨⟨(by exact rfl),VL.le (vl rfl) (Pr.le_trans (Bw rfl) (AJ _))⟩,⟨⟨(by exact rfl),VL.le (vl rfl) (Pr.le_trans (Bw rfl) (AJ _))⟩,⟨⟨(by exact rfl),VL.le (vl rfl) (Pr.le_trans (Bw rfl) (AJ _))⟩,⟨⟨(by exact rfl),VL.le (vl rfl) (Pr.le_trans (Bw rfl) (AJ _))⟩,trivial⟩⟩⟩⟩⟩⟩⟩⟩⟩⟩⟩⟩⟩⟩⟩⟩ (by decide) (by decide)) ?_))))))
 refine Cx.ef 0 rfl rfl (by decide) (Nn rfl rfl (by decide) rfl (vl rfl)) ?_
 refine Cx.nil ⟨by kernel_rfl,?_⟩
 refine BE.open_ 0 15 rfl rfl (fun v1=> ?_)
 refine BE.done al1 (Fin.go (FD 15 rfl (Tr.seq (Tr.seq (Tr.Ln 0 rfl fun b15 sE sX qw qx qy qz=> ?_)))))
 subst qw
 refine ac ?_
 refine co rfl (JG rfl underlying180 (Ka rfl)) ?_
 refine ac ?_
 refine Tr.block (Tr.BH [(15,_),(113,_)] (iO rfl) (fun k:Nat=>[(114,int ((k:Nat):Int))]) (fun k:Nat=>k≤(CD.length)) (fun k:Nat=>(CD.length)-k) 0 (Nat.zero_le _) ⟨ke rfl,trivial⟩ ?_)
 rintro k BR
 refine ac ?_
 refine Tr.seq ?_
 refine Tr.cn rfl ?_ ?_<;>intro h1 q1
 have Aa:k<(CD.length):=AL h1
 have q_:k<16:=Aa
 refine a2 ?_
 refine Tr.As (tm rfl (tm rfl (tm rfl ?_)))
 refine tp rfl (Dz rfl (vl rfl) (vl rfl) ?hin) ?_;case hin=>unfold Jo;omega
 refine tp rfl (BZ rfl underlying180 Ek (Ka rfl) (vl rfl) (by omega) (by omega)) (tp rfl (AO rfl Yf (vl rfl)) ?_)
 refine TO.Ew 0 rfl rfl (BP rfl rfl (vl rfl) (VL.le (vl rfl) (Yv _)) Ce rfl (by rw [List.length_append,CM SU];show _≤16*12+_;omega) (Yw (dY q_ (by omega)))) ?_
 refine TO.nil ?_
 refine a2 ?_
 exact Fin.AK (k+1) ⟨Aa,by omega⟩ ⟨⟨_,rfl,AE k⟩,ke rfl,ke rfl,trivial⟩
 have A_:k=(CD.length):=by have:=AM h1;omega
 subst A_
 refine ac ?_
 refine Tr.seq ?_
 refine Tr.Qg (sz:=12) CD 0 15 rfl rfl (EB _ _) SU qx qy (by rw [List.length_map];exact qz) ?_
 refine a2 ?_
 · exact Ai _ _
theorem Y3 {code:Int}  :A9 prog 126 [int code] (Iv [agg B4,int (if 1≤code∧code≤16 then 0 else 8)]):=by
 refine fo func126 rfl ⟨rfl,rfl⟩ fun M0 w0=> ?_
 have hL:CD.length=16:=rfl
 refine Tr.seq (Tr.As ?_)
 refine Tl rfl rfl rfl rfl z157 JE (fun b1=> ?_)
 refine ap ?_
 refine Tr.seq (Tr.Ao (co rfl (mj (V3) rfl) ?_))
 refine ac ?_
 refine ag ?_ ?_<;>intro h1 q1
 refine ac ?_
 refine Tr.cond rfl (fun _=> ?_) (fun h=>nomatch h)
 refine Tr.seq (Tr.As (tp rfl (Ad (rows:=[]) rfl SK JE trivial rfl) (TO.Ap 0 rfl rfl rfl (vl rfl) (Va rfl) rfl Ek rfl rfl (tm rfl (TO.nil (Fin.go (CY 2 3 rfl (Tr.ret (Fin.AH (Fin.Hx rfl (BK.cell 0 rfl rfl G1 Ek rfl (Lr)) (BK.tmp rfl (Lr)) ?_))))))))))
 · exact EE ⟨Bw rfl,int_eq (by rw [if_neg];simp_all;omega),trivial⟩
 refine ac ?_
 refine cy h1 rfl (CA rfl underlying180 (vl rfl)) ?_
 refine an ?_ ?_<;>intro h2 q2
 refine ap ?_
 refine CY 2 3 rfl (Tr.ret (Fin.AH (Fin.Hx rfl (BK.cell 0 rfl rfl G1 Ek rfl (Lr)) (BK.tmp rfl (Lr)) ?_)))
 · exact EE ⟨Bw rfl,int_eq (by rw [if_neg];simp_all),trivial⟩
 have hin:1≤code∧code≤16:=by omega
 refine ac ?_
 refine ap ?_
 refine tp rfl (AA rfl underlying180 Ek (vl rfl) (vl rfl) (by omega) (O_ (by omega))) ?_
 refine ap ?_
 refine CY 2 3 rfl (Tr.ret (Fin.Hx rfl (BK.cell 0 rfl rfl G1 Ek rfl (Lr)) (BK.tmp rfl (Lr)) ?_))
 · exact EE ⟨Lr,int_eq (by rw [if_pos hin]),trivial⟩
theorem Y4 {BI bits id:Int} {l:List Gt} (hf:∀c∈l,c.fits):A9 prog 96 [agg [int BI,int bits],int id,M8 l] (bool (L3 BI bits id l)):=by
 refine fo func96 rfl ⟨rfl,rfl⟩ fun M0 w0=>(Tr.Fg 2 rfl fun k5=> ?_)
 refine a2 ?_
 refine co rfl (CN (N7) rfl rfl) ?_
 refine ag ?_ ?_<;>intro h1 q1
 refine ac ?_
 refine Fw 1 2 3 27 rfl ?_
 refine a2 ?_
 · refine bool_eq ?_;rw [Bl];unfold EJ;simp_all;omega
 refine ac ?_
 refine cy h1 rfl (CN (Qo) rfl rfl) ?_
 refine ag ?_ ?_<;>intro h2 q2
 refine ac ?_
 refine Fw 1 2 3 27 rfl ?_
 refine a2 ?_
 · refine bool_eq ?_;rw [Bl];unfold EJ;simp_all
 refine K4 h2 rfl (cy h2 rfl (CN (Qt) rfl rfl) ?_)
 refine ag ?_ ?_<;>intro h3 q3
 refine ac ?_
 refine Fw 1 2 3 27 rfl ?_
 refine a2 ?_
 · refine bool_eq ?_;rw [Bl];unfold EJ;simp_all
 refine ac ?_
 refine Fw 1 2 3 27 rfl ?_
 refine Tr.cn rfl ?_ ?_<;>intro h4 q4
 refine a2 ?_
 · refine bool_eq ?_;rw [Bl];unfold EJ;simp_all;omega
 refine a2 ?_
 refine Tr.block (Tr.BH [(1,_),(2,_),(3,_),(28,_),(29,_)] (kk5 rfl) (fun k:Nat=>[(30,int ((k:Nat):Int))]) (fun k:Nat=>k≤(l).length∧(∀j y,j<k→l[j]? =some y→(!CC y)=false)) (fun k:Nat=>(l).length-k) 0 (⟨Nat.zero_le _,fun j y hj=>absurd hj (by omega)⟩) ⟨ke rfl,trivial⟩ ?_)
 rintro k ⟨BR,AG⟩
 refine ac ?_
 refine Tr.seq ?_
 refine Tr.cn rfl ?_ ?_<;>intro h5 q5
 have Aa:k<(l).length:=AL h5
 obtain ⟨c,AY⟩:=at_ Aa
 have hcf:=hf c (List.mem_of_getElem? AY)
 refine ac ?_
 refine Tr.seq (Tr.block (Tr.seq (Tr.As (tp rfl (AA rfl underlying58 C7 (vl rfl) (vl rfl) (by omega) (by exact AU (by assumption))) ?_))))
 refine tp rfl (AF rfl E8 C7 (vl rfl) rfl rfl) ?_
 refine Tl rfl rfl rfl rfl z107 KY (fun b1=> ?_)
 refine sf 0 8 ⟨rfl,rfl,rfl⟩ rfl rfl rfl rfl ?_
 refine ao ?_
 · repeat' first|(refine bool_eq ?_;rw [Bl];unfold EJ;rw [GP (p:=CC) AY (by simp_all)];simp)|exact Fin.AK (k+1) ⟨⟨Aa,CB (p:=fun c=> !CC c) AY (by simp_all) AG⟩,by omega⟩ ⟨⟨_,rfl,AE k⟩,ke rfl,ke rfl,ke rfl,ke rfl,ke rfl,trivial⟩|refine co rfl (CN (V1 hcf) rfl rfl) ?_|refine ac ?_|(refine Tr.cn rfl ?_ ?_<;>intro h q)
 have A_:k=(l).length:=by have:=AM h5;omega
 subst A_
 have hall:=EH AG
 refine ac ?_
 refine ag ?_ ?_<;>intro h7 q7
 refine ac ?_
 refine FD 6 rfl ?_
 refine ac ?_
 · refine bool_eq ?_;rw [Bl];unfold EJ;rw [hall,M9 (by simp_all)];simp_all
 obtain ⟨c0,hc0⟩:=at_ (l:=l) (k:=0) (by have:=h7;simp at this;exact List.length_pos_iff.2 this)
 refine K4 h7 rfl ?_
 refine cy h7 rfl (AA rfl underlying58 C7 (vl rfl) (vl rfl) (by omega) (AU (k:=0) hc0)) ?_
 refine ac ?_
 refine cy h7 rfl (SO rfl (vl rfl) (vl rfl)) (K4 h7 rfl ?_)
 refine Ch.cs 48 rfl ?_ ?_<;>intro h8 q8
 refine K4 h8 rfl ?_
 refine cy h8 rfl (AA rfl underlying58 C7 (vl rfl) (vl rfl) (by omega) (AU (k:=0) hc0)) ?_
 refine ac ?_
 refine FD 6 rfl ?_
 refine ac ?_
 · refine bool_eq ?_;rw [Bl];unfold EJ;rw [hall,JK hc0];clear hall AG hf hc0;simp_all;omega
 refine ac ?_
 refine FD 6 rfl ?_
 refine ac ?_
 · refine bool_eq ?_;rw [Bl];unfold EJ;rw [hall,JK hc0];clear hall AG hf hc0;simp_all
theorem M_ {l:List Int}  :A9 prog 95 [ints l] (bool (Qs l)):=by
 refine fo func95 rfl ⟨rfl,rfl⟩ fun M0 w0=>(Tr.Fg 0 rfl fun Hz=> ?_)
 refine a2 ?_
 refine Tr.block (Tr.BH [(0,_),(5,_)] (iO rfl) (fun k:Nat=>[(6,int ((k:Nat):Int))]) (fun k:Nat=>k≤(l).length∧(∀j,j<k→El l j=true)) (fun k:Nat=>(l).length-k) 0 (⟨Nat.zero_le _,fun j hj=>absurd hj (by omega)⟩) ⟨ke rfl,trivial⟩ ?_)
 rintro k ⟨BR,AG⟩
 refine ac ?_
 refine Tr.seq ?_
 refine Tr.cn rfl ?_ ?_<;>intro h1 q1
 have Aa:k<(l).length:=AL h1
 obtain ⟨x,AY⟩:=at_ Aa
 have hg:=getD_at (d:=(0:Int)) AY
 refine a2 ?_
 refine ag ?_ ?_<;>intro h2 q2
 have hk0:0<k:=by simpa using h2
 obtain ⟨y,hy⟩:=at_ (l:=l) (k:=k-1) (by omega)
 have Ho:=getD_at (d:=(0:Int)) hy
 · repeat' first|(refine bool_eq ?_;unfold Qs;exact (C8 (p:=El l) (k:=k) (by omega) (by unfold El;rw [hg,Ho];simp_all;omega)).symm)|(exact Fin.AK (k+1) ⟨⟨Aa,BT AG (by unfold El;rw [hg,Ho];simp_all)⟩,by omega⟩ ⟨⟨_,rfl,AE k⟩,ke rfl,ke rfl,trivial⟩)|(refine cy h2 rfl (AA rfl underlying22 Ce (vl rfl) (vl rfl) (by omega) (by rw [show ((k:Nat):Int)-1=((k-1:Nat):Int) by omega];exact AU hy)) ?_)|refine cy h2 rfl (AA rfl underlying22 Ce (vl rfl) (vl rfl) (by omega) (AU AY)) ?_|refine ac ?_|(refine Tr.cn rfl ?_ ?_<;>intro h q)
 refine ac ?_
 refine Fw 0 5 6 22 rfl ?_
 refine a2 ?_
 exact Fin.AK (k+1) ⟨⟨Aa,BT AG (by unfold El;rw [hg];simp_all)⟩,by omega⟩ ⟨⟨_,rfl,AE k⟩,ke rfl,ke rfl,trivial⟩
 have A_:k=(l).length:=by have:=AM h1;omega
 subst A_
 refine a3 ?_
 · refine bool_eq ?_;unfold Qs;exact (JI AG).symm
theorem dZ {n:Int}  :A9 prog 100 [int n] (bool (G6 n)):=by
 refine fo func100 rfl ⟨rfl,rfl⟩ fun M0 w0=> ?_
 refine a2 ?_
 refine co rfl (CN (Qo) rfl rfl) ?_
 refine a2 ?_
 · exact Lr
theorem e_hash:Entry Tryz.prog 100:=⟨_,Tryz.func100,rfl,rfl⟩
theorem V4 {l:List Int}  :A9 prog 94 [ints l] (bool (Ed l)):=by
 refine fo func94 rfl ⟨rfl,rfl⟩ fun M0 w0=>(Tr.Fg 0 rfl fun Hz=> ?_)
 refine a2 ?_
 refine Tr.block (Tr.BH [(0,_),(7,_),(8,_)] (Nr rfl) (fun k:Nat=>[(9,int ((k:Nat):Int))]) (fun k:Nat=>k≤(l).length∧(∀j,j<k→Ck l j=true)) (fun k:Nat=>(l).length-k) 0 (⟨Nat.zero_le _,fun j hj=>absurd hj (by omega)⟩) ⟨ke rfl,trivial⟩ ?_)
 rintro k ⟨BR,AG⟩
 refine ac ?_
 refine Tr.seq ?_
 refine Tr.cn rfl ?_ ?_<;>intro h1 q1
 have Aa:k<(l).length:=AL h1
 obtain ⟨x,AY⟩:=at_ Aa
 have hg:=getD_at (d:=(0:Int)) AY
 refine a2 ?_
 refine co rfl (AA rfl underlying22 Ce (vl rfl) (vl rfl) (by omega) (by exact AU (by assumption))) ?_
 refine ac ?_
 refine ao ?_
 refine tp rfl (CN (Y3) rfl rfl) ?_
 refine ao ?_
 refine Tl rfl rfl rfl rfl z157 JE (fun b1=> ?_)
 refine sf 0 5 ⟨rfl,rfl,rfl⟩ rfl rfl rfl rfl ?_
 refine ao ?_
 refine TT 0 3 4 6 7 8 9 rfl ?_
 refine ag ?_ ?_<;>intro h2 q2
 have dc:¬(1≤x∧x≤16):=by intro hh;rw [if_pos hh] at h2;exact absurd h2 (by decide)
 refine ac ?_
 refine K5 0 7 8 9 27 rfl ?_
 refine a2 ?_
 · refine bool_eq ?_;unfold Ed;exact (C8 (p:=Ck l) (k:=k) (by omega) (by unfold Ck;rw [hg];rw [decide_eq_false dc];rfl)).symm
 have hin:1≤x∧x≤16:=by refine Decidable.byContradiction fun hh=> ?_;rw [if_neg hh] at h2;exact absurd h2 (by decide)
 refine ac ?_
 refine cy h2 rfl (IX rfl underlying22 Ce (vl rfl) (vl rfl) (by omega) (by simp;omega)) ?_
 refine K4 h2 rfl ?_
 · repeat' first|(refine bool_eq ?_;unfold Ed;exact (C8 (p:=Ck l) (k:=k) (by omega) (by unfold Ck;rw [hg];rw [decide_eq_true hin];simp_all)).symm)|(exact Fin.AK (k+1) ⟨⟨Aa,BT AG (by unfold Ck;rw [hg];rw [decide_eq_true hin];simp_all)⟩,by omega⟩ ⟨⟨_,rfl,AE k⟩,ke rfl,ke rfl,ke rfl,trivial⟩)|refine cy h2 rfl (AW rfl (Fa (l:=l.take k) (v:=x)) ⟨⟨_,rfl,Pr.le_of_eq (by rw [←List.map_take,Int.toNat_natCast])⟩,ke rfl,trivial⟩) ?_|refine ac ?_|(refine Tr.cn rfl ?_ ?_<;>intro h q)
 have A_:k=(l).length:=by have:=AM h1;omega
 subst A_
 refine a3 ?_
 · refine bool_eq ?_;unfold Ed;exact (JI AG).symm
theorem dh {p:Int→Bool} {n:Int}  :A9 prog 98 [int n,ref [QL prog (fun x:Int=>[int x]) (fun x=>bool (p x))]] (bool (!p n)):=by
 refine fo func98 rfl ⟨rfl,rfl⟩ fun M0 w0=> ?_
 refine a2 ?_
 refine co rfl (E5 n rfl (vl rfl) ⟨ke rfl,trivial⟩) ?_
 refine a2 ?_
 · exact Lr
theorem dj:Entry Tryz.prog 98:=⟨_,Tryz.func98,rfl,rfl⟩
theorem k6 {p:Int→Bool}  :A9 prog 97 [QL prog (fun x:Int=>[int x]) (fun x=>bool (p x))] (QL prog (fun x:Int=>[int x]) (fun x=>bool (!p x))):=by
 refine fo func97 rfl ⟨rfl,rfl⟩ fun M0 w0=> ?_
 refine a3 ?_
 · exact CH dj (fun x=>dh (p:=p) (n:=x))
theorem k7:Entry Tryz.prog 97:=⟨_,Tryz.func97,rfl,rfl⟩
theorem V5 {e:Ez} (hf:e.fits):A9 prog 70 [agg (Cv e)] (int (if Gq e then 0 else 19)):=by
 refine fo func70 rfl ⟨rfl,rfl⟩ fun M0 w0=> ?_
 refine a2 ?_
 refine co rfl (CN (dV hf.name) rfl rfl) ?_
 refine ag ?_ ?_<;>intro h1 q1
 refine ac ?_
 refine CY 1 32 rfl ?_
 refine a2 ?_
 · refine int_eq ?_;unfold Gq;simp_all
 refine ag ?_ ?_<;>intro h2 q2
 refine ac ?_
 refine CY 1 32 rfl ?_
 refine a2 ?_
 · refine int_eq ?_;unfold Gq;simp_all;omega
 refine ag ?_ ?_<;>intro h3 q3
 refine ac ?_
 refine CY 1 32 rfl ?_
 refine a2 ?_
 · refine int_eq ?_;unfold Gq;simp_all;omega
 refine ag ?_ ?_<;>intro h4 q4
 refine ac ?_
 refine CY 1 32 rfl ?_
 refine a2 ?_
 · refine int_eq ?_;unfold Gq;simp_all;omega
 refine ac ?_
 refine cy h4 rfl (CN (V4) rfl rfl) ?_
 refine ac ?_
 refine CY 1 32 rfl ?_
 refine Tr.cn rfl ?_ ?_<;>intro h5 q5
 refine a2 ?_
 · refine int_eq ?_;unfold Gq;simp_all
 refine ac ?_
 refine ag ?_ ?_<;>intro h6 q6
 refine ac ?_
 refine CY 1 54 rfl ?_
 refine a2 ?_
 · refine int_eq ?_;unfold Gq;simp_all;omega
 refine ag ?_ ?_<;>intro h7 q7
 refine ac ?_
 refine CY 1 54 rfl ?_
 refine a2 ?_
 · refine int_eq ?_;unfold Gq;simp_all;omega
 refine ac ?_
 refine cy h7 rfl (CN (M_) rfl rfl) ?_
 refine ag ?_ ?_<;>intro h8 q8
 refine ac ?_
 refine CY 1 54 rfl ?_
 refine a2 ?_
 · refine int_eq ?_;unfold Gq;simp_all
 refine ac ?_
 refine cy h8 rfl (CN (M_) rfl rfl) ?_
 refine ac ?_
 refine CY 1 54 rfl ?_
 refine Tr.cn rfl ?_ ?_<;>intro h9 q9
 refine a2 ?_
 · refine int_eq ?_;unfold Gq;simp_all
 refine a2 ?_
 refine Tr.block (Tr.BH [(1,_),(56,_),(57,_)] (Nr rfl) (fun k:Nat=>[(58,int ((k:Nat):Int))]) (fun k:Nat=>k≤(e.ids).length∧(∀j y,j<k→e.ids[j]? =some y→(!Th y)=false)) (fun k:Nat=>(e.ids).length-k) 0 (⟨Nat.zero_le _,fun j y hj=>absurd hj (by omega)⟩) ⟨ke rfl,trivial⟩ ?_)
 rintro k ⟨BR,AG⟩
 refine ac ?_
 refine Tr.seq ?_
 refine Tr.cn rfl ?_ ?_<;>intro h10 O9
 have Aa:k<(e.ids).length:=AL h10
 obtain ⟨x,AY⟩:=at_ Aa
 have k8:=hf.ids x (List.mem_of_getElem? AY)
 refine ac ?_
 refine Tr.seq (Tr.block (Tr.seq (Tr.As (tp rfl (AA rfl underlying72 Kv (vl rfl) (vl rfl) (by omega) (by exact AU (by assumption))) ?_))))
 refine tp rfl (AF rfl Ou Kv (vl rfl) rfl rfl) ?_
 refine Tl rfl rfl rfl rfl cB Qe (fun b1=> ?_)
 refine sf 0 4 ⟨rfl,rfl,rfl⟩ rfl rfl rfl rfl ?_
 refine ao ?_
 · repeat' first|(refine int_eq ?_;unfold Gq;rw [GP (p:=Th) AY (by unfold Th;simp_all)];simp)|(exact Fin.AK (k+1) ⟨⟨Aa,CB (p:=fun c=> !Th c) AY (by unfold Th;simp_all) AG⟩,by omega⟩ ⟨⟨_,rfl,AE k⟩,ke rfl,ke rfl,ke rfl,trivial⟩)|refine co rfl (jj (Y4 k8) rfl rfl rfl rfl) ?_|refine ac ?_|(refine Tr.cn rfl ?_ ?_<;>intro h q)
 have A_:k=(e.ids).length:=by have:=AM h10;omega
 subst A_
 have hall:=EH AG
 refine a2 ?_
 refine Tr.seq (Tr.seq (Tr.re 5 rfl (CH (dom:=fun p:Int→Bool=>[QL prog (fun x:Int=>[int x]) (fun x=>bool (p x))]) (res:=fun p=>QL prog (fun x:Int=>[int x]) (fun x=>bool (!p x))) k7 (fun p=>k6 (p:=p))) ?_))
 refine ac ?_
 refine co rfl (E5 EI rfl (vl rfl) ⟨⟨_,rfl,CH (dom:=fun n:Int=>[int n]) (res:=fun n=>bool (EI n)) dW (fun n=>Qt (n:=n))⟩,trivial⟩) ?_
 refine co rfl (DK (CS (l:=e.anchors) (p:=fun n=> !EI n)) rfl rfl rfl) ?_
 refine cm rfl ?_
 · repeat' first|(refine int_eq ?_;unfold Gq;rw [if_neg];intro hh;simp only [Bool.and_eq_true] at hh;have g1:=hh.1.2;have g2:=hh.2;clear hh AG hf hall;simp only [SQ,g1,g2,Bool.not_true,Bool.false_eq_true] at*)|(refine int_eq ?_;unfold Gq;simp_all;omega)|refine cy h rfl (E5 G6 rfl (vl rfl) ⟨⟨_,rfl,CH (dom:=fun n:Int=>[int n]) (res:=fun n=>bool (G6 n)) e_hash (fun n=>dZ (n:=n))⟩,trivial⟩) ?_|refine cy h rfl (DK (CS (l:=e.hashes) (p:=fun n=> !G6 n)) rfl rfl rfl) ?_|refine ac ?_|(refine Tr.cn rfl ?_ ?_<;>intro h q)|(refine Ch.cg rfl rfl rfl ?_ ?_<;>intro h q)
theorem JL {β γ:Type} {f:β→γ} {l:List β} (h:l≠[]):0<(l.map f).length:=by rw [List.length_map];exact List.length_pos_iff.2 h
theorem Tj {l:List (Int)} (h0:l≠[]) (hl:l.length≤1000000):BJ prog 50 [slice 1 (l.map (fun n:Int=>[int n]))] (lens (l.map (fun n:Int=>[int n])).length) (BC) (fun v=>Cb 3 1 (l.map (fun n:Int=>[int n])) v):=by
 refine BJ.of func50 rfl rfl (by exact Nb rfl) fun M0 w0 S rs M1 w1=> ?_
 have hpos:=JL (f:=(fun n:Int=>[int n])) h0
 refine a2 ?_
 refine co rfl (ED rfl underlying22 (vl rfl)) ?_
 refine ac ?_
 refine Tr.ex 4 rfl (fun z1=>Tr.fact 4 rfl fun GH=> ?_)
 refine Tr.cn rfl ?_ ?_<;>intro h1 q1
 exfalso;have:=GH h1;simp_all
 refine ac ?_
 refine ap ?_
 refine TO.pad ?_
 refine TO.GJ 0 rfl rfl (by decide) (GN rfl rfl (by decide) rfl underlying22 Ce U8 z3 rfl (by decide) (by decide) (vl rfl) (vl rfl) hpos (by rw [List.length_map];unfold maxLen;omega) (by rw [List.length_map];omega)) (fun v1=> ?_)
 refine ap ?_
 refine Tr.ret (Fin.drop 1 ?_)
 refine Fin.D8 rfl rfl ?_ (by intro _ _ _ h;rw [h.1])
 · exact Ai _ _
theorem Tk   :A9 prog 50 [slice 1 []] (full 1 []):=by
 refine fo func50 rfl ⟨rfl,rfl⟩ fun M0 w0=> ?_
 refine a2 ?_
 refine co rfl (ED rfl underlying22 (vl rfl)) ?_
 refine ac ?_
 refine Tr.ex 4 rfl (fun z1=>Tr.fact 4 rfl fun GH=> ?_)
 · repeat' first|exact F1 1|exact Lr|refine co rfl (JJ rfl underlying22 Ce (vl rfl) (vl rfl)) ?_|refine ac ?_|(refine Tr.cn rfl ?_ ?_<;>intro h q)
theorem Tm {l:List (Int)} (hl:l.length≤1000000):BJ Tryz.prog 50 [slice 1 (l.map (fun n:Int=>[int n]))] (lens l.length) BC (fun v=>BQ 3 1 (l.map (fun n:Int=>[int n])) v):=by
 by_cases h0:l=[]
 · subst h0;exact BJ.O4 Tk
 ·
  have:=BJ.Lz (by intro h;exact h0 (by simpa using h)) (Tj h0 hl)
  rwa [List.length_map] at this
theorem Tn {l:List (Gt)} (h0:l≠[]) (hl:l.length≤925904528640):BJ prog 107 [slice 15 (l.map DN)] (lens (l.map DN).length) (BC) (fun v=>Cb 107 15 (l.map DN) v):=by
 refine BJ.of func107 rfl rfl (by exact Nb rfl) fun M0 w0 S rs M1 w1=> ?_
 have hpos:=JL (f:=DN) h0
 refine a2 ?_
 refine co rfl (ED rfl underlying58 (vl rfl)) ?_
 refine ac ?_
 refine Tr.ex 4 rfl (fun z1=>Tr.fact 4 rfl fun GH=> ?_)
 refine Tr.cn rfl ?_ ?_<;>intro h1 q1
 exfalso;have:=GH h1;simp_all
 refine ac ?_
 refine ap ?_
 refine TO.pad ?_
 refine TO.GJ 0 rfl rfl (by decide) (GN rfl rfl (by decide) rfl underlying58 C7 aK z107 rfl (by decide) (by decide) (vl rfl) (vl rfl) hpos (by rw [List.length_map];unfold maxLen;omega) (by rw [List.length_map];omega)) (fun v1=> ?_)
 refine ap ?_
 refine Tr.ret (Fin.drop 1 ?_)
 refine Fin.D8 rfl rfl ?_ (by intro _ _ _ h;rw [h.1])
 · exact Ai _ _
theorem To   :A9 prog 107 [slice 15 []] (full 15 []):=by
 refine fo func107 rfl ⟨rfl,rfl⟩ fun M0 w0=> ?_
 refine a2 ?_
 refine co rfl (ED rfl underlying58 (vl rfl)) ?_
 refine ac ?_
 refine Tr.ex 4 rfl (fun z1=>Tr.fact 4 rfl fun GH=> ?_)
 · repeat' first|exact F1 15|exact Lr|refine co rfl (JJ rfl underlying58 C7 (vl rfl) (vl rfl)) ?_|refine ac ?_|(refine Tr.cn rfl ?_ ?_<;>intro h q)
theorem Tp {l:List (Gt)} (hl:l.length≤925904528640):BJ Tryz.prog 107 [slice 15 (l.map DN)] (lens l.length) BC (fun v=>BQ 107 15 (l.map DN) v):=by
 by_cases h0:l=[]
 · subst h0;exact BJ.O4 To
 ·
  have:=BJ.Lz (by intro h;exact h0 (by simpa using h)) (Tn h0 hl)
  rwa [List.length_map] at this
theorem Tq {l:List (List UInt8)} (h0:l≠[]) (hl:l.length≤8796093022208):BJ prog 108 [slice 1 (l.map (fun t:List UInt8=>[str t]))] (lens (l.map (fun t:List UInt8=>[str t])).length) (BC) (fun v=>Cb 9 1 (l.map (fun t:List UInt8=>[str t])) v):=by
 refine BJ.of func108 rfl rfl (by exact Nb rfl) fun M0 w0 S rs M1 w1=> ?_
 have hpos:=JL (f:=(fun t:List UInt8=>[str t])) h0
 refine a2 ?_
 refine co rfl (ED rfl underlying67 (vl rfl)) ?_
 refine ac ?_
 refine Tr.ex 4 rfl (fun z1=>Tr.fact 4 rfl fun GH=> ?_)
 refine Tr.cn rfl ?_ ?_<;>intro h1 q1
 exfalso;have:=GH h1;simp_all
 refine ac ?_
 refine ap ?_
 refine TO.pad ?_
 refine TO.GJ 0 rfl rfl (by decide) (GN rfl rfl (by decide) rfl underlying67 KV ox z9 rfl (by decide) (by decide) (vl rfl) (vl rfl) hpos (by rw [List.length_map];unfold maxLen;omega) (by rw [List.length_map];omega)) (fun v1=> ?_)
 refine ap ?_
 refine Tr.ret (Fin.drop 1 ?_)
 refine Fin.D8 rfl rfl ?_ (by intro _ _ _ h;rw [h.1])
 · exact Ai _ _
theorem Ts   :A9 prog 108 [slice 1 []] (full 1 []):=by
 refine fo func108 rfl ⟨rfl,rfl⟩ fun M0 w0=> ?_
 refine a2 ?_
 refine co rfl (ED rfl underlying67 (vl rfl)) ?_
 refine ac ?_
 refine Tr.ex 4 rfl (fun z1=>Tr.fact 4 rfl fun GH=> ?_)
 · repeat' first|exact F1 1|exact Lr|refine co rfl (JJ rfl underlying67 KV (vl rfl) (vl rfl)) ?_|refine ac ?_|(refine Tr.cn rfl ?_ ?_<;>intro h q)
theorem Tt {l:List (List UInt8)} (hl:l.length≤8796093022208):A9 Tryz.prog 108 [slice 1 (l.map (fun t:List UInt8=>[str t]))] (slice 1 (l.map (fun t:List UInt8=>[str t]))):=by
 by_cases h0:l=[]
 · subst h0;exact A9.le Ts (fun _ _ _ h=>h) (Am _ _)
 · exact (BJ.jc (rows:=(l.map (fun t:List UInt8=>[str t]))) (BD fun _=>rfl) (Tq h0 hl)).pure
structure QK.small (x:QK):Prop where
 chain:x.chain.length≤925904528640
 names:∀c∈x.chain,c.names.length≤8796093022208
theorem V6 {x:QK} (hx:x.small):A9 prog 78 [agg (L4 x)] (agg (L4 x)):=by
 refine fo func78 rfl ⟨rfl,rfl⟩ fun M0 w0=> ?_
 have hch:=hx.chain
 refine Tr.seq (Tr.As ?_)
 refine TO.Od rfl rfl (by decide) rfl (Va rfl) (fun b1=> ?_)
 refine Tl rfl rfl rfl rfl cB Qe (fun b2=> ?_)
 refine ao ?_
 refine ao ?_
 refine TO.pad ?_
 refine TO.GJ 0 rfl rfl (by decide) (FW rfl rfl (by decide) rfl (Tp (l:=x.chain) (by omega)) ⟨ke rfl,trivial⟩) (fun v1=> ?_)
 refine tp rfl (AO rfl VB (vl rfl)) (TO.Ew 2 rfl rfl (BP rfl rfl (vl rfl) (Vo rfl) iV rfl (by exact Nb rfl) rfl) ?_)
 refine ao ?_
 refine ac ?_
 refine co rfl (CT 0 rfl (Yx rfl underlying58 (Ka rfl))) ?_
 refine ac ?_
 refine Tr.block (Tr.re 11 rfl (int_eq (by rw [List.length_map])) (Tr.BH [(1,_),(2,_),(10,_),(11,_)] (fc rfl) (fun k:Nat=>[(12,int ((k:Nat):Int))]) (fun k:Nat=>k≤(x.chain).length) (fun k:Nat=>(x.chain).length-k) 0 (Nat.zero_le _) ⟨ke rfl,trivial⟩ ?_))
 rintro k BR
 refine ac ?_
 refine Tr.seq ?_
 refine Tr.cn rfl ?_ ?_<;>intro h1 q1
 have Aa:k<(x.chain).length:=AL h1
 obtain ⟨c,AY⟩:=at_ Aa
 have hcn:=hx.names c (List.mem_of_getElem? AY)
 refine ac ?_
 refine ao ?_
 refine tp rfl (CT 0 rfl (GO rfl underlying58 C7 (Ka rfl) (vl rfl) (by omega) (by rw [List.length_map];omega))) ?_
 refine tp rfl (CT 0 rfl (Td rfl E8 C7 (vl rfl) (BD fun _=>rfl) (by rw [Int.toNat_natCast,List.getElem?_map,AY];rfl))) ?_
 refine Tl rfl rfl rfl rfl z107 KY (fun b3=> ?_)
 refine tm rfl ?_
 refine sf 0 4 ⟨rfl,rfl,rfl⟩ rfl rfl rfl rfl ?_
 refine ao ?_
 refine Tr.rx ?_
 refine ax ?_
 refine xo rfl (fun _=>CN (Tt hcn) rfl rfl) ?_
 refine GL 0 rfl rfl (GO rfl underlying58 C7 (Ka rfl) (vl rfl) (by omega) (by rw [List.length_map];omega)) ?_
 refine xo rfl (fun _=>Qk rfl Ow (vl rfl)) ?_
 refine Cx.Ew 0 rfl rfl (E9 rfl rfl (vl rfl) (Vo rfl) iY rfl (BD fun _=>rfl) (by rw [Int.toNat_natCast,List.getElem?_map,AY];rfl) (by decide) (VY (f:=DN) AY rfl)) ?_
 refine Cx.nil ⟨by kernel_rfl,?_⟩
 refine BE.done al3 ?_
 refine ac ?_
 refine K5 1 2 10 11 12 rfl ?_
 refine ac ?_
 exact Fin.AK (k+1) ⟨Aa,by omega⟩ ⟨⟨_,rfl,AE k⟩,ke rfl,ke rfl,ke rfl,ke rfl,trivial⟩
 have A_:k=(x.chain).length:=by have:=AM h1;omega
 subst A_
 refine ac ?_
 refine Tr.seq (Tr.G2 2 0 3 rfl rfl (by decide) rfl (EB _ _) (BD fun _=>rfl) ?_)
 refine ao ?_
 refine TO.Ap 1 rfl rfl rfl (vl rfl) (Va rfl) rfl Kv rfl rfl ?_
 refine ao ?_
 refine Tr.drop 0 (Tr.drop 1 (Tr.ret (Fin.Cm rfl (BK.cell 0 rfl rfl Ou Kv rfl (Lr)) ?_)))
 · exact Lr
structure B8 where
 BA:Int
 kind:Int
 number:Int
 at_:Int
 JM:QK
abbrev GR (c:B8):List Pr:=[int c.BA,int c.kind,int c.number,int c.at_,int c.JM.BI,int c.JM.bits,int c.JM.DZ,M8 c.JM.chain]
theorem VX.perm {P:Program} {f:FuncId} {args:List Pr} {pre post post':List Ae} {res:Pr} (h:VX P f args pre res post) (hp:post.Perm post'):VX P f args pre res post':=
 ⟨h.1,fun M0 w0 S rs M w vs hI hv=>(h.2 M0 w0 S rs M w vs hI hv).mono fun _e _w' ⟨v,M',x,h1,h2,h3,h4,h5⟩=>⟨v,M',x,h1,h2,h3,h4,Al.perm (hp.append_right rs) h5⟩⟩
def af (x:QK):Bool:=decide (x.BI=0∧x.bits=0)&&x.DZ==0&&(((x.chain.length:Nat):Int)==0)
def k9 (c:B8):Bool:=if c.kind=1 then af c.JM else if c.kind=5 then c.number==0 else c.at_==0&&af c.JM
structure Ez.small (e:Ez):Prop where
 Bc:e.Bc.length≤1000000
 anchors:e.anchors.length≤1000000
 hashes:e.hashes.length≤1000000
 ah:e.ids.length≤1000000
 ids:∀x∈e.ids,x.small
theorem Y5 {c:B8} (hx:c.JM.small):A9 prog 51 [agg (GR c)] (agg (GR c)):=by
 refine fo func51 rfl ⟨rfl,rfl⟩ fun M0 w0=>(Tr.seq (Tr.As ?_))
 refine TO.Od rfl rfl (by decide) rfl (Va rfl) (fun b1=> ?_)
 refine Tl rfl rfl rfl rfl Lj JD (fun b2=> ?_)
 refine ap ?_
 refine ap ?_
 refine tp rfl (CN (V6 (x:=c.JM) hx) rfl rfl) ?_
 refine ap ?_
 refine ap ?_
 refine Tr.drop 1 (Tr.ret (Fin.Cm rfl (BK.cell 0 rfl rfl G0 Ct rfl (Lr)) ?_))
 · exact Lr
abbrev Cw (b:Nat) (s:DS):Ae:=On 66 b s
theorem Y6 (n:Int) {k:Int} (hk:1≤k):(n.tmod k+k).tmod k=n % k:=by
 have h1: -k<n.tmod k:=by have:=Int.lt_tmod_of_pos n (b:=k) (by omega);omega
 rw [Int.tmod_eq_emod_of_nonneg (by omega),Int.tmod_def,show n-k*n.tdiv k+k=n+k*(1-n.tdiv k) by rw [Int.mul_sub];omega,Int.add_mul_emod_self_left]
theorem dm (n:Int) {k:Int} (hk:1≤k): -k<n.tmod k∧n.tmod k<k:=by
 have h1:=Int.lt_tmod_of_pos n (b:=k) (by omega)
 have h2:=Int.tmod_lt_of_pos n (b:=k) (by omega)
 omega
theorem Y7 {l:List Int}  :A9 prog 5 [ints l] (bool (decide (l.length≤400))):=by
 refine fo func5 rfl ⟨rfl,rfl⟩ fun M0 w0=> ?_
 refine a3 ?_
 · refine bool_eq ?_;simp_all;omega
theorem k_ {n k:Int} (hk:1≤k) (hk2:k≤1000000000):A9 prog 42 [int n,int k] (int (n % k)):=by
 refine fo func42 rfl ⟨rfl,rfl⟩ fun M0 w0=> ?_
 have hm:=dm n hk
 have hp:=Y6 n hk
 · repeat' first|(exfalso;omega)|(refine int_eq ?_;exact hp)|refine co rfl (ID rfl (vl rfl) (vl rfl) (by omega)) ?_|refine ac ?_|(refine Tr.cn rfl ?_ ?_<;>intro h q)
theorem Bx {b:Nat} {s:DS} {n:Int} (hn:1≤n) (hn2:n≤1000000000):BJ prog 20 [ptr b 0,int n] (int (s.val n)) (Cw b s) (fun _=>Cw b s.Bo):=by
 refine BJ.of func20 rfl rfl (by exact Nb rfl) fun M0 w0 S rs M1 w1=> ?_
 have hs:=s.h
 have Uk:=s.h2
 refine ac ?_
 refine an ?_ ?_<;>intro h1 q1
 refine ac ?_
 refine Tr.ret (Fin.AH ?_)
 rw [DS.YL (s:=s) (by omega)]
 refine Fin.F5 [] rfl (BK.tmp rfl (Lr)) ?_ (fun _ _ _ _=>rfl)
 · refine int_eq ?_;exact (DS.YK (by omega) n).symm
 have hlt:s.at_<s.l.length:=by omega
 obtain ⟨x,hx⟩:=at_ hlt
 refine ac ?_
 refine ap ?_
 refine CY 0 1 rfl ?_
 refine ac ?_
 refine co rfl (AA rfl underlying22 Ce (vl rfl) (vl rfl) (by omega) (by rw [show ((s.at_:Nat):Int)+1-1=((s.at_:Nat):Int) by omega];exact AU hx)) ?_
 refine ac ?_
 refine co rfl (DK (k_ (by omega) (by omega)) rfl rfl rfl) ?_
 refine ac ?_
 refine FD 4 rfl (Tr.ret ?_)
 rw [DS.bn hlt]
 refine Fin.F5 [] rfl (BK.tmp rfl (Lr)) ?_ (fun _ _ _ _=>rfl)
 · refine int_eq ?_;exact (DS.bl hx n).symm
theorem SV {b:Nat} {s:DS} {l:List Int} (hl:l≠[]) (gh:l.length≤1000000000):BJ prog 21 [ptr b 0,ints l] (int (s.of l)) (Cw b s) (fun _=>Cw b s.Bo):=by
 refine BJ.of func21 rfl rfl (by exact Nb rfl) fun M0 w0 S rs M1 w1=> ?_
 have aZ:1≤(l.length:Int):=by have:=List.length_pos_iff.2 hl;omega
 have hv:=s.Ca aZ
 obtain ⟨x,hx⟩:=at_ (l:=l) (k:=(s.val l.length).toNat) (by omega)
 refine ac ?_
 refine ap ?_
 refine TO.Hu 0 rfl rfl (by decide) (Ag rfl rfl (by decide) rfl (Bx (by omega) (by omega)) ⟨ke rfl,ke rfl,trivial⟩) (tp rfl (AA rfl underlying22 Ce (vl rfl) (vl rfl) (by omega) (Cf hx)) ?_)
 refine ap ?_
 refine Tr.ret (Fin.F5 [] rfl (BK.tmp rfl (Lr)) ?_ (fun _ _ _ _=>rfl))
 · refine int_eq ?_;unfold DS.of;rw [hx];rfl
theorem V7 {b:Nat} {s:DS} {n:Int} (hn:1≤n) (hn2:n≤1000000000):BJ prog 22 [ptr b 0,int n] (bool (s.val n==n-1)) (Cw b s) (fun _=>Cw b s.Bo):=by
 refine BJ.of func22 rfl rfl (by exact Nb rfl) fun M0 w0 S rs M1 w1=> ?_
 refine ac ?_
 refine ap ?_
 refine TO.Hu 0 rfl rfl (by decide) (Ag rfl rfl (by decide) rfl (Bx (by omega) (by omega)) ⟨ke rfl,ke rfl,trivial⟩) ?_
 refine ap ?_
 refine Tr.ret (Fin.F5 [] rfl (BK.tmp rfl (Lr)) ?_ (fun _ _ _ _=>rfl))
 · exact Lr
def Y8 (l:List Int) (hl:l.length≤1000000000) (v:Value):Ae:=match v with| .pointer (some a)=>On 66 a.block ⟨l,0,Nat.zero_le _,hl⟩|_=>BC
theorem dn {l:List Int} (hl:l.length≤1000000000):BJ prog 7 [ints l] (ex fun b=>ptr b 0) (BC) (Y8 l hl):=by
 refine BJ.of func7 rfl rfl (by exact Nb rfl) fun M0 w0 S rs M1 w1=> ?_
 refine ac ?_
 refine ap ?_
 refine TO.Od rfl rfl (by decide) rfl (Va rfl) (fun b1=> ?_)
 refine ap ?_
 refine Tr.ret (Fin.drop 1 ?_)
 refine Fin.F5 [] rfl (BK.tmp rfl (Lr)) ?_ (by rintro _ _ _ rfl;rfl)
 · exact Bp b1 (Lr)
def G7 (b:Int) (l m:List Int):Int:=if 0≤idx (fun x=>b==x) l then (m[(idx (fun x=>b==x) l).toNat]?).getD 0 else 0
theorem Tu {b:Int} {l m:List Int} {k:Nat} {x z:Int} (hx:l[k]? =some x) (he:x=b) (hz:m[k]? =some z) (h:∀j y,j<k→l[j]? =some y→(b==y)=false):z=G7 b l m:=by
 have:=Ey (p:=fun x=>b==x) hx (by simp [he]) h
 unfold G7;rw [←this,if_pos (by omega),Int.toNat_natCast,hz];rfl
theorem Qu {b:Int} {l m:List Int} (h:∀j y,j<l.length→l[j]? =some y→(b==y)=false):0=G7 b l m:=by
 have:=G3 (p:=fun x=>b==x) h
 unfold G7;rw [←this,if_neg (by omega)]
def DH (BI:Int):Int:=if BI=1 then 18 else if BI=2 then 60 else if BI=3∨BI=8∨BI=21 then 128 else if BI=4 then 192 else if BI=18∨BI=22 then 256 else if BI=19 then 64 else if BI=20 then 80 else 0
def Gi (b:Int):Int:=if b<512∨b>16384 then 0 else if b<1024 then 56 else if b<2048 then 80 else if b<3072 then 112 else if b<7680 then 128 else if b<15360 then 192 else 256
theorem V8 (b:Int):Gi b=if 512≤b∧b≤16384 then Vx b else 0:=by
 have h1:Vx b=if b<1024 then 56 else if b<2048 then 80 else if b<3072 then 112 else if b<7680 then 128 else if b<15360 then 192 else 256:=rfl
 rw [h1];unfold Gi
 by_cases h:512≤b∧b≤16384
 · rw [if_pos h,if_neg (by omega)]
 · rw [if_neg h,if_pos (by omega)]
theorem GS {b:Int} {l m:List Int} (hl:l.length≤m.length):A9 prog 136 [int b,ints l,ints m] (int (G7 b l m)):=by
 refine fo func136 rfl ⟨rfl,rfl⟩ fun M0 w0=>(Tr.Fg 1 rfl fun V9=> ?_)
 refine a2 ?_
 refine Tr.block (Tr.BH [(0,_),(1,_),(2,_)] (Nr rfl) (fun k:Nat=>[(7,int ((k:Nat):Int))]) (fun k:Nat=>k≤(l).length∧(∀j y,j<k→l[j]? =some y→(b==y)=false)) (fun k:Nat=>(l).length-k) 0 (⟨Nat.zero_le _,fun j y hj=>absurd hj (by omega)⟩) ⟨ke rfl,trivial⟩ ?_)
 rintro k ⟨BR,AG⟩
 refine an ?_ ?_<;>intro h1 q1
 have Aa:k<(l).length:=AL h1
 obtain ⟨x,AY⟩:=at_ Aa
 obtain ⟨z,hz⟩:=at_ (l:=m) (k:=k) (by omega)
 · repeat' first|exact int_eq (Tu AY (by assumption) hz AG)|(exact Fin.AK (k+1) ⟨⟨Aa,CB (p:=fun x=>b==x) AY (by simp;omega) AG⟩,by omega⟩ ⟨⟨_,rfl,AE k⟩,ke rfl,ke rfl,ke rfl,trivial⟩)|refine co rfl (AA rfl underlying22 Ce (vl rfl) (vl rfl) (by omega) (by exact AU (by assumption))) ?_|refine ac ?_|(refine Tr.cn rfl ?_ ?_<;>intro h q)
 have A_:k=(l).length:=by have:=AM h1;omega
 subst A_
 refine a3 ?_
 · exact int_eq (Qu AG)
theorem V_ {BI:Int}  :A9 prog 137 [int BI] (int (DH BI)):=by
 refine fo func137 rfl ⟨rfl,rfl⟩ fun M0 w0=> ?_
 refine a2 ?_
 refine an ?_ ?_<;>intro h1 q1
 refine a2 ?_
 · refine int_eq ?_;unfold DH;(repeat (rw [if_pos (by omega)]))
 refine an ?_ ?_<;>intro h2 q2
 refine a2 ?_
 · refine int_eq ?_;unfold DH;(repeat (first|rw [if_pos (by omega)]|rw [if_neg (by omega)]))
 refine an ?_ ?_<;>intro h3 q3
 refine ac ?_
 refine Tr.cond rfl (fun _=> ?_) (fun h=>nomatch h3.symm.trans h)
 refine a2 ?_
 · refine int_eq ?_;unfold DH;(repeat (first|rw [if_pos (by omega)]|rw [if_neg (by omega)]))
 refine an ?_ ?_<;>intro h4 q4
 refine ac ?_
 refine Tr.cond rfl (fun _=> ?_) (fun h=>nomatch h4.symm.trans h)
 refine a2 ?_
 · refine int_eq ?_;unfold DH;(repeat (first|rw [if_pos (by omega)]|rw [if_neg (by omega)]))
 refine an ?_ ?_<;>intro h5 q5
 refine a2 ?_
 · refine int_eq ?_;unfold DH;(repeat (first|rw [if_pos (by omega)]|rw [if_neg (by omega)]))
 refine ac ?_
 refine CY 3 12 rfl ?_
 refine Tr.cn rfl ?_ ?_<;>intro h6 q6
 refine a2 ?_
 · refine int_eq ?_;unfold DH;(repeat (first|rw [if_pos (by omega)]|rw [if_neg (by omega)]))
 refine an ?_ ?_<;>intro h7 q7
 refine ac ?_
 refine Tr.cond rfl (fun _=> ?_) (fun h=>nomatch h7.symm.trans h)
 refine a2 ?_
 · refine int_eq ?_;unfold DH;(repeat (first|rw [if_pos (by omega)]|rw [if_neg (by omega)]))
 · repeat' first|(refine int_eq ?_;unfold DH;(repeat (first|rw [if_pos (by omega)]|rw [if_neg (by omega)])))|(refine int_eq ?_;unfold DH;(repeat (rw [if_neg (by omega)])))|refine ac ?_|(refine Tr.cn rfl ?_ ?_<;>intro h q)
theorem GU {b:Int}  :A9 prog 135 [int b] (int (Gi b)):=by
 refine fo func135 rfl ⟨rfl,rfl⟩ fun M0 w0=> ?_
 refine ac ?_
 refine ac ?_
 refine Ch.cs 6 rfl ?_ ?_<;>intro h1 q1
 refine ac ?_
 refine ac ?_
 refine ac ?_
 · refine int_eq ?_;unfold Gi;(repeat (rw [if_pos (by omega)]))
 refine ac ?_
 refine Tr.cn rfl ?_ ?_<;>intro h2 q2
 refine ac ?_
 refine ac ?_
 · refine int_eq ?_;unfold Gi;(repeat (rw [if_pos (by omega)]))
 refine ac ?_
 refine Tr.cn rfl ?_ ?_<;>intro h3 q3
 refine ac ?_
 refine ac ?_
 · refine int_eq ?_;unfold Gi;(repeat (first|rw [if_pos (by omega)]|rw [if_neg (by omega)]))
 refine ac ?_
 refine CY 0 13 rfl ?_
 refine Tr.cn rfl ?_ ?_<;>intro h4 q4
 refine ac ?_
 refine ac ?_
 · refine int_eq ?_;unfold Gi;(repeat (first|rw [if_pos (by omega)]|rw [if_neg (by omega)]))
 refine ac ?_
 refine Tr.cn rfl ?_ ?_<;>intro h5 q5
 refine ac ?_
 refine ac ?_
 · refine int_eq ?_;unfold Gi;(repeat (first|rw [if_pos (by omega)]|rw [if_neg (by omega)]))
 refine ac ?_
 refine Tr.cn rfl ?_ ?_<;>intro h6 q6
 refine ac ?_
 refine ac ?_
 · refine int_eq ?_;unfold Gi;(repeat (first|rw [if_pos (by omega)]|rw [if_neg (by omega)]))
 refine ac ?_
 refine Tr.cn rfl ?_ ?_<;>intro h7 q7
 refine ac ?_
 refine ac ?_
 · refine int_eq ?_;unfold Gi;(repeat (first|rw [if_pos (by omega)]|rw [if_neg (by omega)]))
 refine ac ?_
 refine ac ?_
 refine ac ?_
 · refine int_eq ?_;unfold Gi;(repeat (rw [if_neg (by omega)]))
theorem Y9 (b c:Int):G7 b [0] [c]=if b=0 then c else 0:=by
 unfold G7 idx
 by_cases h:b=0
 · subst h;rfl
 ·
  have:List.findIdx? (fun x=>b==x) [0]=none:=by simp [h]
  rw [this,if_neg h];rfl
theorem Et {BI b:Int} (h:BI=5∨BI=6∨BI=10∨BI=11):Gi b=BS BI b:=by
 rw [V8]
 rcases h with rfl|rfl|rfl|rfl<;>rfl
theorem Mb {BI b:Int} (h:¬(BI=5∨BI=6∨BI=7∨BI=9∨BI=10∨BI=11∨BI=12∨BI=13∨BI=14∨BI=15∨BI=16∨BI=17)):G7 b [0] [DH BI]=BS BI b:=by
 rw [Y9]
 by_cases hin:1≤BI∧BI≤22
 ·
  have ha:BI=1∨BI=2∨BI=3∨BI=4∨BI=8∨BI=18∨BI=19∨BI=20∨BI=21∨BI=22:=by omega
  rcases ha with rfl|rfl|rfl|rfl|rfl|rfl|rfl|rfl|rfl|rfl<;>rfl
 ·
  have h1:DH BI=0:=by unfold DH;(repeat (first|rw [if_pos (by omega)]|rw [if_neg (by omega)]))
  unfold BS
  rw [h1,if_neg hin];split<;>rfl
theorem Eu {BI b:Int} (h:BI=7∨BI=12):BS BI b=if (M7.any fun x=>b==x)=true then b.tdiv 2 else 0:=by
 rcases h with rfl|rfl<;>rfl
theorem PB {BI bits:Int}  :A9 prog 116 [agg [int BI,int bits]] (int (BS BI bits)):=by
 refine fo func116 rfl ⟨rfl,rfl⟩ fun M0 w0=> ?_
 iterate 4 refine ac ?_
 refine Tr.cn rfl ?_ ?_<;>intro h1 q1
 refine ac ?_
 refine Tr.cond rfl (fun _=> ?_) (fun h=>nomatch h1.symm.trans h)
 refine ac ?_
 refine co rfl (CN (GU) rfl rfl) ?_
 refine a2 ?_
 · refine int_eq ?_;exact Et (by omega)
 refine an ?_ ?_<;>intro h2 q2
 refine ac ?_
 refine Tr.cond rfl (fun _=> ?_) (fun h=>nomatch h2.symm.trans h)
 refine ac ?_
 refine co rfl (CN (GU) rfl rfl) ?_
 refine ac ?_
 refine FD 2 rfl ?_
 refine ac ?_
 · refine int_eq ?_;exact Et (by omega)
 refine an ?_ ?_<;>intro h3 q3
 refine ac ?_
 refine Tr.cond rfl (fun _=> ?_) (fun h=>nomatch h3.symm.trans h)
 refine ac ?_
 refine co rfl (CN (GU) rfl rfl) ?_
 refine ac ?_
 refine FD 2 rfl ?_
 refine ac ?_
 · refine int_eq ?_;exact Et (by omega)
 refine ac ?_
 refine Fw 1 3 7 8 rfl ?_
 refine Tr.cn rfl ?_ ?_<;>intro h4 q4
 refine ac ?_
 refine co rfl (CN (GU) rfl rfl) ?_
 refine a2 ?_
 · refine int_eq ?_;exact Et (by omega)
 refine an ?_ ?_<;>intro h5 q5
 refine ac ?_
 refine Tr.cond rfl (fun _=> ?_) (fun h=>nomatch h5.symm.trans h)
 · repeat' first|(refine int_eq ?_;rw [Eu (by omega)];have hb:bits=160∨bits=224∨bits=256∨bits=384∨bits=521:=(by omega);rcases hb with rfl|rfl|rfl|rfl|rfl<;>rfl)|(refine int_eq ?_;rw [Eu (by omega),if_neg (by simp [M7];omega)])|refine co rfl (LM rfl (vl rfl) (vl rfl) (by omega)) ?_|refine ac ?_|(refine Tr.cn rfl ?_ ?_<;>intro h q)|(refine Ch.cg rfl rfl rfl ?_ ?_<;>intro h q)
 refine an ?_ ?_<;>intro h11 SS
 · repeat' first|(refine int_eq ?_;rw [Eu (by omega)];have hb:bits=160∨bits=224∨bits=256∨bits=384∨bits=521:=(by omega);rcases hb with rfl|rfl|rfl|rfl|rfl<;>rfl)|(refine int_eq ?_;rw [Eu (by omega),if_neg (by simp [M7];omega)])|refine co rfl (LM rfl (vl rfl) (vl rfl) (by omega)) ?_|refine ac ?_|(refine Tr.cn rfl ?_ ?_<;>intro h q)|(refine Ch.cg rfl rfl rfl ?_ ?_<;>intro h q)
 refine an ?_ ?_<;>intro NA Xr
 refine ac ?_
 refine co rfl (AW rfl (GS (l:=[44,65,87]) (m:=[128,192,256]) (by simp)) ⟨ke rfl,(Kf rfl),(Kf rfl),trivial⟩) ?_
 refine ac ?_
 refine FD 2 rfl ?_
 refine ac ?_
 · refine int_eq ?_;have ha:BI=9:=(by omega);rcases ha with rfl<;>rfl
 refine an ?_ ?_<;>intro Kc aj
 refine ac ?_
 refine co rfl (AW rfl (GS (l:=[512,768,1024]) (m:=[128,192,256]) (by simp)) ⟨ke rfl,(Kf rfl),(Kf rfl),trivial⟩) ?_
 refine ac ?_
 refine FD 2 rfl ?_
 refine ac ?_
 · refine int_eq ?_;have ha:BI=13:=(by omega);rcases ha with rfl<;>rfl
 refine ac ?_
 refine Fw 1 3 7 50 rfl ?_
 refine Tr.cn rfl ?_ ?_<;>intro Xs lA
 refine ac ?_
 refine co rfl (AW rfl (GS (l:=[40,128]) (m:=[40,60]) (by simp)) ⟨ke rfl,(Kf rfl),(Kf rfl),trivial⟩) ?_
 refine a2 ?_
 · refine int_eq ?_;have ha:BI=14:=(by omega);rcases ha with rfl<;>rfl
 refine an ?_ ?_<;>intro NB nu
 refine ac ?_
 refine co rfl (AW rfl (GS (l:=[112,168]) (m:=[80,112]) (by simp)) ⟨ke rfl,(Kf rfl),(Kf rfl),trivial⟩) ?_
 refine a2 ?_
 · refine int_eq ?_;have ha:BI=15:=(by omega);rcases ha with rfl<;>rfl
 refine an ?_ ?_<;>intro Xt q21
 refine ac ?_
 refine Tr.cond rfl (fun _=> ?_) (fun h=>nomatch Xt.symm.trans h)
 refine ac ?_
 refine co rfl (AW rfl (GS (l:=[128,256]) (m:=[128,256]) (by simp)) ⟨ke rfl,(Kf rfl),(Kf rfl),trivial⟩) ?_
 refine a2 ?_
 · refine int_eq ?_;have ha:BI=16∨BI=17:=(by omega);rcases ha with rfl|rfl<;>rfl
 · repeat' first|(refine int_eq ?_;have ha:BI=16∨BI=17:=(by omega);rcases ha with rfl|rfl<;>rfl)|(refine int_eq ?_;exact Mb (by omega))|refine co rfl (AW rfl (GS (l:=[128,256]) (m:=[128,256]) (by simp)) ⟨ke rfl,(Kf rfl),(Kf rfl),trivial⟩) ?_|refine co rfl (CN (V_) rfl rfl) (co rfl (AQ (xs:=[.tmp 73]) (rows:=[[_]]) rfl rfl underlying22 Ce z3 rfl (by decide) ⟨⟨(by exact rfl),(Vo rfl)⟩,trivial⟩ (by decide)) ?_)|refine co rfl (AW rfl (GS (l:=[0]) (m:=[DH BI]) (by simp)) ⟨ke rfl,(Kf rfl),(Kf rfl),trivial⟩) ?_|refine ac ?_|(refine Tr.cn rfl ?_ ?_<;>intro h q)
theorem JN {BI bits:Int}  :A9 prog 89 [agg [int BI,int bits]] (bool (decide (BS BI bits>0))):=by
 refine fo func89 rfl ⟨rfl,rfl⟩ fun M0 w0=> ?_
 refine a2 ?_
 refine co rfl (CN (PB) rfl rfl) ?_
 refine a2 ?_
 · exact Lr
def dw:List (List UInt8×Int):=E_.map fun r=>(r.name,r.kind)
theorem Y_ {BI:Int} (h:1≤BI∧BI≤22):dw[BI.toNat]? =some ((Cc BI).name,(Cc BI).kind):=by
 unfold dw;rw [List.getElem?_map,G4 h];rfl
theorem ZA   :A9 prog 115 [] (slice 2 (dw.map fun r=>[str r.1,int r.2])):=by
 refine fo func115 rfl ⟨rfl,rfl⟩ fun M0 w0=> ?_
 refine a2 ?_
 refine FD 0 rfl ?_
 refine ac ?_
 · exact Am _ _
theorem K9 {BI:Int}  :A9 prog 87 [int BI] (int (Cc BI).kind):=by
 refine fo func87 rfl ⟨rfl,rfl⟩ fun M0 w0=> ?_
 refine ac ?_
 refine ag ?_ ?_<;>intro h1 q1
 refine a3 ?_
 · refine int_eq ?_;unfold Cc;rw [if_neg (by omega)];rfl
 refine an ?_ ?_<;>intro h2 q2
 refine a2 ?_
 · refine int_eq ?_;unfold Cc;rw [if_neg (by omega)];rfl
 have hin:1≤BI∧BI≤22:=by omega
 refine ac ?_
 refine Tr.seq (Tr.Ao (co rfl (mj (ZA) rfl) (cm rfl (co rfl (AA rfl underlying184 aN (vl rfl) (vl rfl) (by omega) (Cf (f:=fun r:List UInt8×Int=>[str r.1,int r.2]) (Y_ hin))) ?_))))
 refine a2 ?_
 · exact Lr
theorem G8 {BI bits:Int}  :A9 prog 90 [agg [int BI,int bits]] (bool (decide (BS BI bits>0)&&(Cc BI).kind==2)):=by
 refine fo func90 rfl ⟨rfl,rfl⟩ fun M0 w0=> ?_
 refine ac ?_
 refine ac ?_
 refine co rfl (CN (JN) rfl rfl) (cm rfl ?_)
 refine Ch.cs 5 rfl ?_ ?_<;>intro h1 q1
 refine ac ?_
 refine cy h1 rfl (CN (K9) rfl rfl) ?_
 refine ac ?_
 refine ac ?_
 · refine bool_eq ?_;simp_all
 refine ac ?_
 refine ac ?_
 · refine bool_eq ?_;simp_all;omega
def G9:Ez:=⟨[],0,0,[],false,[],[],[],false⟩
def dx:QK:=⟨0,0,0,[]⟩
def ZB:B8:=⟨0,0,0,0,dx⟩
def rA (c:B8):Prop:=(1≤c.kind∧c.kind≤12)∧k9 c=true
instance (c:B8):Decidable (rA c):=inferInstanceAs (Decidable (_∧_))
structure ak (e:Ez):Prop where
 name:Gg e.name=true
 least:1≤e.least
 lm:e.least≤e.most
 most:e.most≤4
 Bc:Ed e.Bc=true
 ah:e.ids.length≤4
 Qv:e.anchors.length≤16
 anc:Qs e.anchors=true
 hash:Qs e.hashes=true
 ids:e.ids.all Th=true
 keys:e.anchors.all EI=true
 hsh:e.hashes.all G6=true
theorem B5 {e:Ez}:Gq e=true↔ak e:=by
 unfold Gq;simp only [Bool.and_eq_true,decide_eq_true_eq]
 exact ⟨fun ⟨⟨⟨⟨⟨⟨⟨⟨a,b⟩,c⟩,d⟩,f⟩,⟨⟨⟨g,h⟩,i⟩,j⟩⟩,k⟩,l⟩,m⟩=>⟨a,b,c,d,f,g,h,i,j,k,l,m⟩,fun ⟨a,b,c,d,f,g,h,i,j,k,l,m⟩=>⟨⟨⟨⟨⟨⟨⟨⟨a,b⟩,c⟩,d⟩,f⟩,⟨⟨⟨g,h⟩,i⟩,j⟩⟩,k⟩,l⟩,m⟩⟩
abbrev NC:List Pr:=[IZ .u8]
abbrev SW (m:Nat):Pr:=slice 1 (List.replicate m NC)
abbrev D5 (B:Nat):Pr:=Cp.ex fun m:Nat=>fact (m≤B) (SW m)
abbrev PC:Pr:=Cp.ex fun b:Bool=>bool b
abbrev A8 (q:Pr):List Pr:=[IZ .i64,D5 1000,PC,q]
abbrev G_ (row:List Pr):Pr:=Cp.ex fun m:Nat=>fact (m≤20) (slice 4 (List.replicate m row))
abbrev Ie (D:Nat):Pr:=Cp.ex fun d:Int=>fact (0≤d∧d≤(D:Nat)) (int d)
theorem HA {r:List Pr} {m k:Nat} (h:k<m):(List.replicate m r)[((k:Nat):Int).toNat]? =some r:=by rw [Int.toNat_natCast,List.getElem?_replicate,if_pos h]
theorem SX {r:List Pr} {m:Nat}:List.replicate m r++[r]=List.replicate (m+1) r:=by rw [List.replicate_succ']
theorem JO {r:List Pr} {m k:Nat}:List.replicate m r++List.replicate k r=List.replicate (m+k) r:=by rw [List.replicate_append_replicate]
theorem LX.refl:∀l:List Pr,LX l l
 |[]=>trivial
 |_::l=>⟨Pr.le_refl _,LX.refl l⟩
theorem Oe {sz:Nat} {rows rows':List (List Pr)} (hl:rows.length=rows'.length) (h:∀(i:Nat) r r',rows[i]? =some r→rows'[i]? =some r'→r.length=r'.length∧∀(j:Nat) p p',r[j]? =some p→r'[j]? =some p'→Pr.le p p'):Pr.le (slice sz rows) (slice sz rows'):=by
 rintro M w v ⟨a,cap,h1,h2,h3,h4,h5⟩
 refine ⟨a,cap,by rw [←hl];exact h1,by rw [←hl];exact h2,h3,h4,fun i row hr=> ?_⟩
 have hi:i<rows.length:=by rw [hl];exact BM hr
 have Xm:=List.getElem?_eq_getElem hi
 obtain ⟨g1,g2⟩:=h i _ _ Xm hr
 obtain ⟨k1,ad,k2,k3⟩:=h5 i _ Xm
 refine ⟨by rw [←g1];exact k1,ad,k2,fun j p' hp'=> ?_⟩
 have hj:j<rows[i].length:=by rw [g1];exact BM hp'
 have hp:=List.getElem?_eq_getElem hj
 obtain ⟨u,c1,c2,c3,c4⟩:=k3 j _ hp
 exact ⟨u,c1,c2,c3,g2 j _ _ hp hp' _ _ _ c4⟩
theorem Tv {sz:Nat} {rows:List (List Pr)} {r:List Pr} (h:∀q∈rows,q.length=r.length∧∀(j:Nat) p p',q[j]? =some p→r[j]? =some p'→Pr.le p p'):Pr.le (slice sz rows) (slice sz (List.replicate rows.length r)):=
 Oe (by simp) fun i q q' hq hq' => by
  rw [List.getElem?_replicate,if_pos (BM hq)] at hq'
  cases hq'
  exact h q (List.mem_of_getElem? hq)
theorem Fp {β:Type} {l:List β} {f:β→Int}:Pr.le (slice 1 (l.map fun x=>[is (.int .u8 (f x))])) (SW l.length):=by
 have:=Tv (sz:=1) (rows:=l.map fun x=>[is (.int .u8 (f x))]) (r:=NC) (by
  intro q hq
  obtain ⟨x,_,rfl⟩:=List.mem_map.1 hq
  refine ⟨rfl,fun j p p' hp hp'=> ?_⟩
  cases j with
  |zero=>simp at hp hp';subst hp;subst hp';exact Br _ _
  |succ j=>simp at hp)
 rwa [List.length_map] at this
theorem Bh {B m:Nat} {p:Pr} (h:m≤B) (hp:Pr.le p (SW m)):Pr.le p (D5 B):=Bp m (Dx h hp)
theorem A9.A8 {P:Program} {f:FuncId} {row:List Pr} {res:Pr} (h:∀(t:Int) (b:Nat) (n:Bool) (m:Nat),b≤1000→m≤20→A9 P f [agg [int t,SW b,bool n,slice 4 (List.replicate m row)]] res):A9 P f [agg (A8 (G_ row))] res:=by
 refine ⟨(h 0 0 false 0 (by omega) (by omega)).1,fun M w vs hb hv=> ?_⟩
 match vs,hv with
 |[u0],Xu=>
  obtain ⟨⟨cs,rfl,ho,hcs⟩,_⟩:=Xu
  match cs,hcs with
  |[c0,c1,c2,c3],hc=>
   obtain ⟨⟨t,h0⟩,⟨b,OS,h1⟩,⟨n,h2⟩,⟨m,hm1,h3⟩,_⟩:=hc
   exact (h t b n m OS hm1).2 M w _ hb ⟨⟨_,rfl,ho,h0,h1,h2,h3,trivial⟩,trivial⟩
theorem A9.WA {P:Program} {f:FuncId} {res:Pr} (h:∀(t:Int) (b:Nat) (n:Bool),b≤1000→A9 P f [agg [int t,SW b,bool n,slice 4 []]] res):A9 P f [agg [IZ .i64,D5 1000,PC,slice 4 []]] res:=by
 refine ⟨(h 0 0 false (by omega)).1,fun M w vs hb hv=> ?_⟩
 match vs,hv with
 |[u0],Xu=>
  obtain ⟨⟨cs,rfl,ho,hcs⟩,_⟩:=Xu
  match cs,hcs with
  |[c0,c1,c2,c3],hc=>
   obtain ⟨⟨t,h0⟩,⟨b,OS,h1⟩,⟨n,h2⟩,h3,_⟩:=hc
   exact (h t b n OS).2 M w _ hb ⟨⟨_,rfl,ho,h0,h1,h2,h3,trivial⟩,trivial⟩
theorem dz {n:Int}  :A9 prog 138 [int n] (bool (decide (1≤n)&&decide (n≤255)&&(n.tmod 32 !=31))):=by
 refine fo func138 rfl ⟨rfl,rfl⟩ fun M0 w0=> ?_
 refine ac ?_
 refine ag ?_ ?_<;>intro h1 q1
 refine ag ?_ ?_<;>intro h2 q2
 refine K4 h2 rfl (cy h2 rfl (ID rfl (vl rfl) (vl rfl) (by omega)) ?_)
 refine a2 ?_
 · refine bool_eq ?_;simp_all
 refine a2 ?_
 · refine bool_eq ?_;simp_all;omega
 refine a2 ?_
 · refine bool_eq ?_;simp_all;omega
theorem Jy {t:Int} {b:Nat} {n:Bool} {m:Nat} {q:Pr}  (hb:b≤1000) (hm:m≤20) (ih:m=0∨A9 prog 117 [agg (A8 q)] (PC)):A9 prog 117 [agg [int t,SW b,bool n,slice 4 (List.replicate m (A8 q))]] (PC):=by
 refine fo func117 rfl ⟨rfl,rfl⟩ fun M0 w0=> ?_
 have hlr:(List.replicate m (A8 q)).length=m:=List.length_replicate
 have hlb:(List.replicate b NC).length=b:=List.length_replicate
 refine a2 ?_
 refine co rfl (CN (dz) rfl rfl) ?_
 refine ag ?_ ?_<;>intro h1 q1
 refine ac ?_
 refine CY 1 38 rfl ?_
 refine a2 ?_
 · exact Bp _ (Lr)
 refine ac ?_
 refine cy h1 rfl (LM rfl (vl rfl) (vl rfl) (by omega)) (cy h1 rfl (ID rfl (vl rfl) (vl rfl) (by omega)) (cy h1 rfl (ki rfl rfl rfl rfl) (cy h1 rfl (bg rfl underlying4 (vl rfl) (vl rfl)) ?_)))
 refine ag ?_ ?_<;>intro h2 q2
 refine ac ?_
 refine CY 1 38 rfl ?_
 refine a2 ?_
 · exact Bp _ (Lr)
 refine ag ?_ ?_<;>intro h3 q3
 refine ac ?_
 refine cy h3 rfl (CA rfl underlying138 (vl rfl)) ?_
 refine ag ?_ ?_<;>intro h4 q4
 refine ac ?_
 refine CY 1 38 rfl ?_
 refine a2 ?_
 · exact Bp _ (Lr)
 refine ag ?_ ?_<;>intro h5 q5
 refine ac ?_
 refine cy h5 rfl (CA rfl underlying163 (vl rfl)) ?_
 refine ac ?_
 refine CY 1 38 rfl ?_
 refine Tr.cn rfl ?_ ?_<;>intro h6 q6
 refine a2 ?_
 · exact Bp _ (Lr)
 refine a2 ?_
 refine Tr.block (Tr.BH [(1,_)] ⟨ke rfl,trivial⟩ (fun k:Nat=>[(3,int ((k:Nat):Int))]) (fun k:Nat=>k≤((List.replicate m (A8 q)).length)) (fun k:Nat=>((List.replicate m (A8 q)).length)-k) 0 (Nat.zero_le _) ⟨ke rfl,trivial⟩ ?_)
 rintro k BR
 refine ac ?_
 refine co rfl (CA rfl underlying163 (vl rfl)) ?_
 refine an ?_ ?_<;>intro h7 q7
 have Aa:k<((List.replicate m (A8 q)).length):=AL h7
 have hkm:k<m:=by simpa using Aa
 have ih2:=ih.resolve_left (by omega)
 refine ac ?_
 refine ap ?_
 refine tp rfl (AA rfl underlying163 Bk (vl rfl) (vl rfl) (by omega) (HA hkm)) (tp rfl (AF rfl CL Bk (vl rfl) rfl rfl) (tp rfl (CN (ih2) rfl rfl) ?_))
 refine TO.ex 51 rfl (fun z51=> ?_)
 refine ap ?_
 · repeat' first|exact Bp _ (Lr)|exact Fin.AK (k+1) ⟨Aa,by omega⟩ ⟨⟨_,rfl,AE k⟩,ke rfl,trivial⟩|refine ac ?_|(refine Tr.cn rfl ?_ ?_<;>intro h q)
 have A_:k=((List.replicate m (A8 q)).length):=by have:=AM h7;omega
 refine a3 ?_
 · exact Bp _ (Lr)
 refine ac ?_
 refine CY 1 38 rfl ?_
 refine a2 ?_
 refine Tr.block (Tr.BH [(1,_)] ⟨ke rfl,trivial⟩ (fun k:Nat=>[(3,int ((k:Nat):Int))]) (fun k:Nat=>k≤((List.replicate m (A8 q)).length)) (fun k:Nat=>((List.replicate m (A8 q)).length)-k) 0 (Nat.zero_le _) ⟨ke rfl,trivial⟩ ?_)
 rintro k BR
 refine ac ?_
 refine co rfl (CA rfl underlying163 (vl rfl)) ?_
 refine an ?_ ?_<;>intro h9 q9
 have Aa:k<((List.replicate m (A8 q)).length):=AL h9
 have hkm:k<m:=by simpa using Aa
 have ih2:=ih.resolve_left (by omega)
 refine ac ?_
 refine ap ?_
 refine tp rfl (AA rfl underlying163 Bk (vl rfl) (vl rfl) (by omega) (HA hkm)) (tp rfl (AF rfl CL Bk (vl rfl) rfl rfl) (tp rfl (CN (ih2) rfl rfl) ?_))
 refine TO.ex 51 rfl (fun z51=> ?_)
 refine ap ?_
 · repeat' first|exact Bp _ (Lr)|exact Fin.AK (k+1) ⟨Aa,by omega⟩ ⟨⟨_,rfl,AE k⟩,ke rfl,trivial⟩|refine ac ?_|(refine Tr.cn rfl ?_ ?_<;>intro h q)
 have A_:k=((List.replicate m (A8 q)).length):=by have:=AM h9;omega
 refine a3 ?_
 · exact Bp _ (Lr)
 refine ag ?_ ?_<;>intro h11 SS
 refine ac ?_
 refine cy h11 rfl (CA rfl underlying163 (vl rfl)) ?_
 refine ac ?_
 refine CY 1 38 rfl ?_
 refine Tr.cn rfl ?_ ?_<;>intro h12 Tw
 refine a2 ?_
 · exact Bp _ (Lr)
 refine a2 ?_
 refine Tr.block (Tr.BH [(1,_)] ⟨ke rfl,trivial⟩ (fun k:Nat=>[(3,int ((k:Nat):Int))]) (fun k:Nat=>k≤((List.replicate m (A8 q)).length)) (fun k:Nat=>((List.replicate m (A8 q)).length)-k) 0 (Nat.zero_le _) ⟨ke rfl,trivial⟩ ?_)
 rintro k BR
 refine ac ?_
 refine co rfl (CA rfl underlying163 (vl rfl)) ?_
 refine an ?_ ?_<;>intro MU Uj
 have Aa:k<((List.replicate m (A8 q)).length):=AL MU
 have hkm:k<m:=by simpa using Aa
 have ih2:=ih.resolve_left (by omega)
 refine ac ?_
 refine ap ?_
 refine tp rfl (AA rfl underlying163 Bk (vl rfl) (vl rfl) (by omega) (HA hkm)) (tp rfl (AF rfl CL Bk (vl rfl) rfl rfl) (tp rfl (CN (ih2) rfl rfl) ?_))
 refine TO.ex 51 rfl (fun z51=> ?_)
 refine ap ?_
 · repeat' first|exact Bp _ (Lr)|exact Fin.AK (k+1) ⟨Aa,by omega⟩ ⟨⟨_,rfl,AE k⟩,ke rfl,trivial⟩|refine ac ?_|(refine Tr.cn rfl ?_ ?_<;>intro h q)
 have A_:k=((List.replicate m (A8 q)).length):=by have:=AM MU;omega
 refine a3 ?_
 · exact Bp _ (Lr)
 refine ac ?_
 refine CY 1 38 rfl ?_
 refine a2 ?_
 refine Tr.block (Tr.BH [(1,_)] ⟨ke rfl,trivial⟩ (fun k:Nat=>[(3,int ((k:Nat):Int))]) (fun k:Nat=>k≤((List.replicate m (A8 q)).length)) (fun k:Nat=>((List.replicate m (A8 q)).length)-k) 0 (Nat.zero_le _) ⟨ke rfl,trivial⟩ ?_)
 rintro k BR
 refine ac ?_
 refine co rfl (CA rfl underlying163 (vl rfl)) ?_
 refine an ?_ ?_<;>intro MV ZC
 have Aa:k<((List.replicate m (A8 q)).length):=AL MV
 have hkm:k<m:=by simpa using Aa
 have ih2:=ih.resolve_left (by omega)
 refine ac ?_
 refine ap ?_
 refine tp rfl (AA rfl underlying163 Bk (vl rfl) (vl rfl) (by omega) (HA hkm)) (tp rfl (AF rfl CL Bk (vl rfl) rfl rfl) (tp rfl (CN (ih2) rfl rfl) ?_))
 refine TO.ex 51 rfl (fun z51=> ?_)
 refine ap ?_
 · repeat' first|exact Bp _ (Lr)|exact Fin.AK (k+1) ⟨Aa,by omega⟩ ⟨⟨_,rfl,AE k⟩,ke rfl,trivial⟩|refine ac ?_|(refine Tr.cn rfl ?_ ?_<;>intro h q)
 have A_:k=((List.replicate m (A8 q)).length):=by have:=AM MV;omega
 refine a3 ?_
 · exact Bp _ (Lr)
theorem L5 {t:Int} {b:Nat} {n:Bool} {m:Nat} {q:Pr} {D:Nat}  (hb:b≤1000) (hm:m≤20) (hD:D≤1000) (ih:m=0∨A9 prog 118 [agg (A8 q)] (Ie D)):A9 prog 118 [agg [int t,SW b,bool n,slice 4 (List.replicate m (A8 q))]] (Ie (D+1)):=by
 refine A9.of func118 rfl rfl (by exact Nb rfl) fun M0 w0=> ?_
 have hlr:(List.replicate m (A8 q)).length=m:=List.length_replicate
 have hlb:(List.replicate b NC).length=b:=List.length_replicate
 refine Tr.seq (Tr.Ao (co rfl (Dh rfl (Va rfl)) (cm rfl (Ch.nil (Fin.go (Tr.seq (Tr.Ao (cm rfl (Ch.nil (Fin.go (Tr.seq (Tr.seq (Tr.Ao ?_)))))))))))))
 refine cm rfl (Ch.nil (Fin.go (Tr.block (Tr.BH [(1,_)] ⟨ke rfl,trivial⟩ (fun k:Nat=>[(4,int ((k:Nat):Int)),(3,Ie D)]) (fun k:Nat=>k≤((List.replicate m (A8 q)).length)) (fun k:Nat=>((List.replicate m (A8 q)).length)-k) 0 (Nat.zero_le _) ⟨ke rfl,⟨_,rfl,Bp 0 (Dx (by omega) (Lr))⟩,trivial⟩ ?_))))
 rintro k BR
 refine Tr.seq (Tr.seq (Tr.Ao (cm rfl (co rfl (Of rfl JF rfl rfl) (co rfl (Gd rfl Ny rfl) (co rfl (CA rfl underlying163 (vl rfl)) (co rfl (ki rfl rfl rfl rfl) (Ch.nil (Fin.go ?_)))))))))
 refine Tr.cn rfl ?_ ?_<;>intro h1 q1
 have Aa:k<((List.replicate m (A8 q)).length):=AL h1
 have hkm:k<m:=by simpa using Aa
 have ih2:=ih.resolve_left (by omega)
 refine Tr.skip (Fin.go (Tr.seq (Tr.block (Tr.As (tm rfl ?_)))))
 refine TO.ex 12 rfl (fun z12=>TO.fact 12 rfl fun sY=> ?_)
 refine tp rfl (Of rfl JF rfl rfl) (tp rfl (Gd rfl Ny rfl) (tm rfl (tp rfl (AA rfl underlying163 Bk (vl rfl) (vl rfl) (by omega) (HA hkm)) (tp rfl (AF rfl CL Bk (vl rfl) rfl rfl) (tp rfl (AW rfl (ih2) ⟨ke rfl,trivial⟩) ?_)))))
 refine TO.ex 18 rfl (fun oy=>TO.fact 18 rfl fun rB=> ?_)
 refine tp rfl (LN rfl (vl rfl) (vl rfl)) (tm rfl (TO.nil (Fin.block (Fin.go (FX 1 3 4 rfl (Tr.Ao (cm rfl (SA rfl rfl rfl rfl (by omega) (cm rfl (Ch.nil (Fin.AK (k+1) ⟨Aa,by omega⟩ ⟨⟨_,rfl,AE k⟩,⟨_,rfl,Bp _ (Dx (by omega) (Lr))⟩,ke rfl,trivial⟩)))))))))))
 have A_:k=((List.replicate m (A8 q)).length):=by have:=AM h1;omega
 refine Tr.exit (Fin.Ac (Fin.Ac (Fin.Az (Fin.go (Tr.seq (Tr.As (tm rfl ?_)))))))
 refine TO.ex 20 rfl (fun z20=>TO.fact 20 rfl fun sZ=> ?_)
 refine tp rfl (Dz rfl (vl rfl) (vl rfl) ?hin) ?_;case hin=>unfold Jo;omega
 refine tm rfl (TO.nil (Fin.go (Tr.ret (Fin.bR rfl (DA.Ht _ _) rfl ?_))))
 · exact Bp _ (Dx (by omega) (Lr))
def L6 (n:Nat):Nat:=if h:n=0 then 0 else 1+L6 (n/256)
termination_by n
decreasing_by omega
theorem ND:L6 0=0:=by unfold L6;simp
theorem PD {n:Nat} (h:0<n):L6 n=1+L6 (n/256):=by conv=>lhs;unfold L6;rw [dif_neg (by omega)]
theorem N8:∀(n:Nat),L6 n≤n:=by
 intro n
 induction n using Nat.strongRecOn with
 |_ n ih=>
  rcases Nat.eq_zero_or_pos n with h|h
  · subst h;rw [ND];omega
  · rw [PD h];have:=ih (n/256) (by omega);omega
def Tx (n:Nat):Nat:=if n<128 then 1 else 1+L6 n
theorem SY (n:Nat):Tx n≤n+1:=by unfold Tx;have:=N8 n;split<;>omega
theorem SZ (k:Int):Pr.le (slice 1 [[is (.int .u8 k)]]) (SW 1):=Fp (l:=[()]) (f:=fun _=>k)
theorem Ty {n:Nat} (hn:n≤100000000):A9 prog 139 [int ((n:Nat):Int)] (SW (Tx n)):=by
 refine fo func139 rfl ⟨rfl,rfl⟩ fun M0 w0=> ?_
 refine ac ?_
 refine an ?_ ?_<;>intro h1 q1
 refine ac ?_
 refine co rfl (DW rfl underlying3 underlying5 (vl rfl)) (co rfl (AQ (xs:=[.tmp 7]) (rows:=[NC]) rfl rfl underlying138 Iy z5 rfl (by decide) ⟨⟨(by exact rfl),VL.le (vl rfl) (Pr.le_trans (Br _ _) (AD _))⟩,trivial⟩ (by decide)) ?_)
 refine a2 ?_
 · refine Pr.le_trans (Am _ _) (Pr.le_of_eq ?_);unfold Tx;rw [if_pos (by omega)];rfl
 refine a2 ?_
 refine Tr.seq (Tr.block (Tr.DB 5 1 (Tr.Ld [] trivial (fun (k:Nat) (acc:Nat) v=>[(0,int ((k:Nat):Int)),(3,Ab v (SW acc))]) (fun (k:Nat) (acc:Nat) v=>Hp M0 w0 OR ([Ax 5 1 v])) (fun (k:Nat) (acc:Nat)=>L6 k+acc=L6 n∧k≤n) (fun (k:Nat) (acc:Nat)=>k) (n) (0) (.slice none 0 0) (⟨by omega,by omega⟩) ⟨ke rfl,⟨_,rfl,Cg rfl⟩,trivial⟩ (fun _ _ h=>h) ?_)))
 rintro k acc v ⟨hk1,hk2⟩
 refine an ?_ ?_<;>intro h2 q2
 have hk0:0<k:=by have:=C6.Dj h2;omega
 have hdg:=PD hk0
 have hle:=N8 n
 refine ac ?_
 refine ap ?_
 refine tp rfl (ID rfl (vl rfl) (vl rfl) (by omega)) (tp rfl (DW rfl underlying3 underlying5 (vl rfl)) (tp rfl (AQ (xs:=[.tmp 13]) (rows:=[NC]) rfl rfl underlying138 Iy z5 rfl (by decide) ⟨⟨(by exact rfl),VL.le (vl rfl) (Pr.le_trans (Br _ _) (AD _))⟩,trivial⟩ (by decide)) ?_))
 refine tm rfl (TO.pad ?_)
 refine TO.GJ 0 rfl rfl (by decide) (DY rfl rfl rfl rfl underlying138 Iy SF z5 (Kf rfl) (Kb rfl) (Bt (by exact List.Mem.head _) (vl rfl))) (fun v1=> ?_)
 refine ap ?_
 refine ac ?_
 refine co rfl (LM rfl (vl rfl) (vl rfl) (by omega)) ?_
 refine ac ?_
 refine Fin.drop 1 ?_
 exact Fin.Ci (k/256) (acc+1) v1 (⟨⟨by omega,by omega⟩,by omega⟩) ⟨⟨_,rfl,int_eq (by rw [Int.tdiv_eq_ediv_of_nonneg (by omega),I2 (by unfold Jo;omega)];omega)⟩,⟨_,rfl,CK (by rw [show ([NC]:List (List Pr))=List.replicate 1 NC from rfl,JO,Nat.add_comm])⟩,trivial⟩ (fun _ _ h=>h)
 have hk0:k=0:=by have:=C6.Dj h2;omega
 subst hk0
 have hle:=N8 n
 rw [ND] at hk1
 refine ac ?_
 refine ap ?_
 refine tp rfl (CA rfl underlying138 (Kb rfl)) (tp rfl (ki rfl rfl rfl rfl) (tp rfl (DW rfl underlying3 underlying5 (vl rfl)) (tp rfl (AQ (xs:=[.tmp 22]) (rows:=[NC]) rfl rfl underlying138 Iy z5 rfl (by decide) ⟨⟨(by exact rfl),VL.le (vl rfl) (Pr.le_trans (Br _ _) (AD _))⟩,trivial⟩ (by decide)) ?_)))
 refine tm rfl (TO.pad ?_)
 refine TO.GJ 0 rfl rfl (by decide) (DY rfl rfl rfl rfl underlying138 Iy SF z5 (Kf rfl) (Kb rfl) (Bt (by exact List.Mem.head _) (vl rfl))) (fun v2=> ?_)
 refine ap ?_
 refine ac ?_
 · refine Pr.le_trans (Ai _ _) (Pr.le_of_eq ?_);unfold Tx;rw [if_neg (by omega),show ([NC]:List (List Pr))=List.replicate 1 NC from rfl,JO,show acc=L6 n by omega]
theorem Qw {t:Int} {b:Nat} {n:Bool} {m:Nat} {q:Pr} {B:Nat}  (hb:b≤1000) (hm:m≤20) (hB:B≤1000000) (ih:m=0∨A9 prog 119 [agg (A8 q)] (D5 B)):A9 prog 119 [agg [int t,SW b,bool n,slice 4 (List.replicate m (A8 q))]] (D5 (2*(1000+20*B)+2)):=by
 refine fo func119 rfl ⟨rfl,rfl⟩ fun M0 w0=> ?_
 have hlr:(List.replicate m (A8 q)).length=m:=List.length_replicate
 have hlb:(List.replicate b NC).length=b:=List.length_replicate
 refine ac ?_
 refine ap ?_
 refine TO.pad ?_
 refine TO.GJ 0 rfl rfl (by decide) (DY rfl rfl rfl rfl underlying138 Iy SF z5 (Kf rfl) (vl rfl) (Bt (by exact List.Mem.head _) (vl rfl))) (fun v1=> ?_)
 refine ap ?_
 refine ac ?_
 refine Tr.block (Tr.Ld [(1,_)] ⟨ke rfl,trivial⟩ (fun (k:Nat) (acc:Nat) v=>[(4,int ((k:Nat):Int)),(3,Ab v (SW acc))]) (fun (k:Nat) (acc:Nat) v=>Hp M0 w0 OR ([Ax 5 1 v])) (fun (k:Nat) (acc:Nat)=>k≤m∧acc≤b+k*B) (fun (k:Nat) (acc:Nat)=>m-k) (0) (b) v1 (⟨by omega,by omega⟩) ⟨ke rfl,⟨_,rfl,CK (by simp)⟩,trivial⟩ (fun _ _ h=>h) ?_)
 rintro k acc v ⟨hk1,hk2⟩
 have hkB:k*B≤20*B:=Nat.mul_le_mul_right B (by omega)
 refine ac ?_
 refine co rfl (CA rfl underlying163 (vl rfl)) ?_
 refine an ?_ ?_<;>intro h1 q1
 have hkm:k<m:=by have:=C6.Dj h1;rw [hlr] at this;omega
 have ih2:=ih.resolve_left (by omega)
 refine ac ?_
 refine ap ?_
 refine tp rfl (AA rfl underlying163 Bk (vl rfl) (vl rfl) (by omega) (HA hkm)) (tp rfl (AF rfl CL Bk (vl rfl) rfl rfl) (tp rfl (CN (ih2) rfl rfl) ?_))
 refine TO.ex 22 rfl (fun z22=>TO.fact 22 rfl fun sj=> ?_)
 refine TO.GJ 0 rfl rfl (by decide) (DY rfl rfl rfl rfl underlying138 Iy SF z5 (Kb rfl) (vl rfl) (CO (by exact List.Mem.head _) (Ka rfl))) (fun v2=> ?_)
 refine ap ?_
 refine FX 1 3 4 rfl ?_
 refine ac ?_
 exact Fin.Ci (k+1) (acc+z22) v2 (⟨⟨by omega,by rw [Nat.succ_mul];omega⟩,by omega⟩) ⟨⟨_,rfl,AE k⟩,⟨_,rfl,CK (by rw [JO])⟩,ke rfl,trivial⟩ (fun _ _ h=>h)
 have hke:k=m:=by have:=C6.Dj h1;rw [hlr] at this;omega
 have hll:=SY acc
 refine ac ?_
 refine Tr.seq (Tr.pad (Tr.rx ?_))
 refine ay ?_
 refine xo rfl (fun _=>DW rfl underlying3 underlying5 (vl rfl)) (xo rfl (fun _=>AQ (xs:=[.tmp 26]) (rows:=[NC]) rfl rfl underlying138 Iy z5 rfl (by decide) ⟨⟨(by exact rfl),VL.le (vl rfl) (Pr.le_trans (Br _ _) (AD _))⟩,trivial⟩ (by decide)) ?_)
 refine xm rfl (xo rfl (fun _=>CA rfl underlying138 (Kb rfl)) ?_)
 refine xo rfl (fun _=>AW rfl (Ty (n:=acc) (by omega)) ⟨⟨_,rfl,int_eq (by simp)⟩,trivial⟩) ?_
 refine Cx.ef 0 rfl rfl (by decide) (DY rfl rfl rfl rfl underlying138 Iy SF z5 (Kf rfl) (vl rfl) (Bt (by exact List.Mem.head _) (vl rfl))) ?_
 refine xm rfl ?_
 refine Cx.ef 0 rfl rfl (by decide) (DY rfl rfl rfl rfl underlying138 Iy SF z5 (vl rfl) (Kb rfl) TR) ?_
 refine Cx.ef 0 rfl rfl (by decide) (Nn rfl rfl (by decide) rfl (vl rfl)) ?_
 refine Cx.nil ⟨by kernel_rfl,?_⟩
 refine BE.open_ 0 2 rfl rfl (fun v3=> ?_)
 refine BE.done al2 (Fin.go (FD 2 rfl ?_))
 refine ac ?_
 · exact Bh (m:=1+Tx acc+acc) (by have:=SY acc;omega) (Pr.le_trans (Ai _ _) (Pr.le_of_eq (by rw [show ([NC]:List (List Pr))=List.replicate 1 NC from rfl,JO,JO])))
theorem Tz {q:Pr} {D B:Nat} (hf:A9 prog 117 [agg (A8 q)] PC) (hd:A9 prog 118 [agg (A8 q)] (Ie D)) (hp:A9 prog 119 [agg (A8 q)] (D5 B)):A9 prog 91 [agg (A8 q)] (Iv [D5 B,IZ .i64]):=by
 refine fo func91 rfl ⟨rfl,rfl⟩ fun M0 w0=> ?_
 refine ac ?_
 refine ap ?_
 refine tp rfl (CN (hf) rfl rfl) ?_
 refine TO.ex 6 rfl (fun z6=> ?_)
 refine ap ?_
 refine Tr.cn rfl ?_ ?_<;>intro h1 q1
 refine ac ?_
 refine Tr.ret (Fin.AH (Fin.Eg rfl (DA.Ht _ _) rfl ?_ rfl ?_))
 · exact Bh (m:=0) (by omega) (AV 1)
 · exact Br _ _
 refine ac ?_
 refine ap ?_
 refine tp rfl (CN (hd) rfl rfl) ?_
 refine TO.ex 9 rfl (fun z9=>TO.fact 9 rfl fun hz9=> ?_)
 refine ap ?_
 refine Tr.cn rfl ?_ ?_<;>intro h2 q2
 refine ac ?_
 refine Tr.ret (Fin.AH (Fin.Eg rfl (DA.Ht _ _) rfl ?_ rfl ?_))
 · exact Bh (m:=0) (by omega) (AV 1)
 · exact Br _ _
 refine a2 ?_
 refine co rfl (CN (hp) rfl rfl) ?_
 refine ac ?_
 refine ap ?_
 refine TO.ex 13 rfl (fun z13=>TO.fact 13 rfl fun sk=> ?_)
 refine tp rfl (CA rfl underlying138 (vl rfl)) ?_
 refine ap ?_
 refine CY 4 15 rfl ?_
 refine Tr.cn rfl ?_ ?_<;>intro h3 q3
 refine ac ?_
 refine Tr.ret (Fin.AH (Fin.Eg rfl (DA.Ht _ _) rfl ?_ rfl ?_))
 · exact Bh (m:=0) (by omega) (AV 1)
 · exact Br _ _
 refine a2 ?_
 refine Tr.ret (Fin.Eg rfl (DA.Ht _ _) rfl ?_ rfl ?_)
 · exact Lr
 · exact Br _ _
theorem ZD:IntKind.u8.wrap 0=0:=rfl
def H7 (x h:Int):Nat:=(2*x).toNat+(if 128≤h then 1 else 0)
theorem FA {x h:Int} {t:Nat} (h0:0≤x) (hc:x≠0∨128≤h) (hi:t+H7 x h≤400):(0≤x/256∧t+1+H7 (x/256) (IntKind.u8.wrap x)≤400)∧H7 (x/256) (IntKind.u8.wrap x)<H7 x h:=by
 have key:H7 (x/256) (IntKind.u8.wrap x)<H7 x h:=by
  unfold H7
  by_cases hx:x=0
  ·
   subst hx
   rw [ZD,if_neg (by omega),if_pos (by omega)];decide
  ·
   have:(if 128≤IntKind.u8.wrap x then 1 else 0)≤1:=by split<;>omega
   have:0≤(if 128≤h then 1 else 0):=by split<;>omega
   omega
 exact ⟨⟨by omega,by omega⟩,key⟩
theorem Fb {P:Program} {I:B6} {E:Env} {o:Oper} {t u:TypeId} {x y:Operand} {m:Int} (ho:o.op= .binOp .shr t x y u) (hx:VL E x (int m)) (hy:VL E y (is (.int .u64 8))) (h0:0≤m):AR P I o E (int (m/256)):=
 AR.same fun M w a he _=>by
  have h1:a.eval x= .int .i64 m:=hx.ev he (by simp [ho,Op.operands])
  have h2:a.eval y= .int .u64 8:=hy.ev he (by simp [ho,Op.operands])
  refine ⟨.int .i64 (m.fdiv 256),?_,congrArg (Value.int .i64) (Int.fdiv_eq_ediv_of_nonneg m (by omega))⟩
  simp only [execOp,ho,h1,h2]
  simp [eqGuard,binOp,Op.shift,IntKind.bits]
abbrev q0:Pr:=slice 4 []
theorem Ig {n:Int} (hn:0≤n∧n≤40000):A9 prog 122 [int n] (agg (A8 q0)):=by
 refine fo func122 rfl ⟨rfl,rfl⟩ fun M0 w0=>(Tr.seq (Tr.As ?_))
 refine Tl rfl rfl rfl rfl Jv Hy (fun b1=> ?_)
 refine ap ?_
 refine ac ?_
 refine co rfl (DW rfl underlying3 underlying5 (vl rfl)) ?_
 refine a2 ?_
 refine co rfl (Fb rfl (vl rfl) (vl rfl) (by omega)) ?_
 refine ac ?_
 refine Tr.block ?_
 refine Tr.Om [(2,_)] ⟨ke rfl,trivial⟩ (fun (x:Int) (h:Int) (t:List Int)=>[(4,int x),(3,slice 1 ((h::t).map fun n=>[is (.int .u8 n)]))]) (fun (x:Int) (h:Int) (t:List Int)=>Hp M0 w0 OR ([AB true b1 165 (([.int .i64 0,.slice none 0 0,.bool false,.slice none 0 0]:List Value).map is)])) (fun (x:Int) (h:Int) (t:List Int)=>0≤x∧t.length+H7 x h≤400) (fun (x:Int) (h:Int) (t:List Int)=>H7 x h) (n/256) (IntKind.u8.wrap n) ([])  (⟨by omega,by unfold H7;simp only [List.length_nil];split<;>omega⟩) ⟨ke rfl,⟨_,rfl,Pr.le_trans (Am _ _) (Pr.le_of_eq rfl)⟩,trivial⟩ (fun _ _ h=>h) ?_
 rintro x h t  ⟨hx0,d_⟩
 refine ag ?_ ?_<;>intro h1 q1
 refine ag ?_ ?_<;>intro h2 q2
 refine ac ?_
 refine Fw 2 3 4 35 rfl ?_
 refine ac ?_
 refine ap ?_
 refine tp rfl (DW rfl underlying3 underlying5 (vl rfl)) ?_
 refine ap ?_
 refine TO.pad ?_
 refine TO.GJ 0 rfl rfl (by decide) (DY rfl rfl rfl rfl underlying138 Iy SF z5 (Kf rfl) (vl rfl) (Bt (by exact List.Mem.head _) (vl rfl))) (fun v1=> ?_)
 refine ap ?_
 refine ac ?_
 refine co rfl (Fb rfl (vl rfl) (vl rfl) (by omega)) ?_
 refine ac ?_
 refine Fin.drop 0 (Fin.FY (x/256) (IntKind.u8.wrap x) (h::t)  ((FA hx0 (by omega) d_)) ⟨ke rfl,⟨_,rfl,Pr.le_trans (Ai _ _) (Pr.le_of_eq rfl)⟩,ke rfl,trivial⟩ (fun _ _ h=>h))
 refine ag ?_ ?_<;>intro h3 q3
 refine K4 h3 rfl ?_
 refine cy h3 rfl (AA rfl underlying138 Iy (vl rfl) (vl rfl) (by omega) (AU (k:=0) rfl)) ?_
 refine ag ?_ ?_<;>intro h4 q4
 refine ac ?_
 refine Fw 2 3 4 35 rfl ?_
 refine ac ?_
 refine ap ?_
 refine tp rfl (DW rfl underlying3 underlying5 (vl rfl)) ?_
 refine ap ?_
 refine TO.pad ?_
 refine TO.GJ 0 rfl rfl (by decide) (DY rfl rfl rfl rfl underlying138 Iy SF z5 (Kf rfl) (vl rfl) (Bt (by exact List.Mem.head _) (vl rfl))) (fun v2=> ?_)
 refine ap ?_
 refine ac ?_
 refine co rfl (Fb rfl (vl rfl) (vl rfl) (by omega)) ?_
 refine ac ?_
 refine Fin.drop 0 (Fin.FY (x/256) (IntKind.u8.wrap x) (h::t)  ((FA hx0 (by omega) d_)) ⟨ke rfl,⟨_,rfl,Pr.le_trans (Ai _ _) (Pr.le_of_eq rfl)⟩,ke rfl,trivial⟩ (fun _ _ h=>h))
 refine ag ?_ ?_<;>intro h5 q5
 refine K4 h5 rfl ?_
 refine cy h5 rfl (AA rfl underlying138 Iy (vl rfl) (vl rfl) (by omega) (AU (k:=0) rfl)) ?_
 refine ac ?_
 refine Fw 2 3 4 35 rfl ?_
 refine Tr.cn rfl ?_ ?_<;>intro h6 q6
 have eA:=h6
 refine ac ?_
 refine ap ?_
 refine tp rfl (DW rfl underlying3 underlying5 (vl rfl)) ?_
 refine ap ?_
 refine TO.pad ?_
 refine TO.GJ 0 rfl rfl (by decide) (DY rfl rfl rfl rfl underlying138 Iy SF z5 (Kf rfl) (vl rfl) (Bt (by exact List.Mem.head _) (vl rfl))) (fun v3=> ?_)
 refine ap ?_
 refine ac ?_
 refine co rfl (Fb rfl (vl rfl) (vl rfl) (by omega)) ?_
 refine ac ?_
 refine Fin.drop 0 (Fin.FY (x/256) (IntKind.u8.wrap x) (h::t)  ((FA hx0 (by omega) d_)) ⟨ke rfl,⟨_,rfl,Pr.le_trans (Ai _ _) (Pr.le_of_eq rfl)⟩,ke rfl,trivial⟩ (fun _ _ h=>h))
 have eA:=h6
 refine ac ?_
 refine ap ?_
 refine Tr.ret (Fin.Cm rfl (BK.cell 0 rfl rfl CL Bk rfl (Lr)) ?_)
 · exact BB ⟨Br _ _,Bh (m:=(h::t).length) (by simp only [List.length_cons];omega) Fp,Bp _ (Lr),AV 4,trivial⟩
 refine ac ?_
 refine Fw 2 3 4 35 rfl ?_
 refine ac ?_
 refine ap ?_
 refine Tr.ret (Fin.Cm rfl (BK.cell 0 rfl rfl CL Bk rfl (Lr)) ?_)
 · exact BB ⟨Br _ _,Bh (m:=(h::t).length) (by simp only [List.length_cons];omega) Fp,Bp _ (Lr),AV 4,trivial⟩
 refine ag ?_ ?_<;>intro h7 q7
 refine K4 h7 rfl ?_
 refine cy h7 rfl (AA rfl underlying138 Iy (vl rfl) (vl rfl) (by omega) (AU (k:=0) rfl)) ?_
 refine ac ?_
 refine Fw 2 3 4 35 rfl ?_
 refine Tr.cn rfl ?_ ?_<;>intro h8 q8
 have eA:=h8
 refine ac ?_
 refine ap ?_
 refine tp rfl (DW rfl underlying3 underlying5 (vl rfl)) ?_
 refine ap ?_
 refine TO.pad ?_
 refine TO.GJ 0 rfl rfl (by decide) (DY rfl rfl rfl rfl underlying138 Iy SF z5 (Kf rfl) (vl rfl) (Bt (by exact List.Mem.head _) (vl rfl))) (fun v4=> ?_)
 refine ap ?_
 refine ac ?_
 refine co rfl (Fb rfl (vl rfl) (vl rfl) (by omega)) ?_
 refine ac ?_
 refine Fin.drop 0 (Fin.FY (x/256) (IntKind.u8.wrap x) (h::t)  ((FA hx0 (by omega) d_)) ⟨ke rfl,⟨_,rfl,Pr.le_trans (Ai _ _) (Pr.le_of_eq rfl)⟩,ke rfl,trivial⟩ (fun _ _ h=>h))
 have eA:=h8
 refine ac ?_
 refine ap ?_
 refine Tr.ret (Fin.Cm rfl (BK.cell 0 rfl rfl CL Bk rfl (Lr)) ?_)
 · exact BB ⟨Br _ _,Bh (m:=(h::t).length) (by simp only [List.length_cons];omega) Fp,Bp _ (Lr),AV 4,trivial⟩
 refine ac ?_
 refine Fw 2 3 4 35 rfl ?_
 refine ac ?_
 refine ap ?_
 refine Tr.ret (Fin.Cm rfl (BK.cell 0 rfl rfl CL Bk rfl (Lr)) ?_)
 · exact BB ⟨Br _ _,Bh (m:=(h::t).length) (by simp only [List.length_cons];omega) Fp,Bp _ (Lr),AV 4,trivial⟩
 refine ag ?_ ?_<;>intro h9 q9
 refine K4 h9 rfl ?_
 refine cy h9 rfl (AA rfl underlying138 Iy (vl rfl) (vl rfl) (by omega) (AU (k:=0) rfl)) ?_
 refine ag ?_ ?_<;>intro h10 O9
 refine ac ?_
 refine Fw 2 3 4 35 rfl ?_
 refine ac ?_
 refine ap ?_
 refine tp rfl (DW rfl underlying3 underlying5 (vl rfl)) ?_
 refine ap ?_
 refine TO.pad ?_
 refine TO.GJ 0 rfl rfl (by decide) (DY rfl rfl rfl rfl underlying138 Iy SF z5 (Kf rfl) (vl rfl) (Bt (by exact List.Mem.head _) (vl rfl))) (fun v5=> ?_)
 refine ap ?_
 refine ac ?_
 refine co rfl (Fb rfl (vl rfl) (vl rfl) (by omega)) ?_
 refine ac ?_
 refine Fin.drop 0 (Fin.FY (x/256) (IntKind.u8.wrap x) (h::t)  ((FA hx0 (by omega) d_)) ⟨ke rfl,⟨_,rfl,Pr.le_trans (Ai _ _) (Pr.le_of_eq rfl)⟩,ke rfl,trivial⟩ (fun _ _ h=>h))
 refine ag ?_ ?_<;>intro h11 SS
 refine K4 h11 rfl ?_
 refine cy h11 rfl (AA rfl underlying138 Iy (vl rfl) (vl rfl) (by omega) (AU (k:=0) rfl)) ?_
 refine ac ?_
 refine Fw 2 3 4 35 rfl ?_
 refine Tr.cn rfl ?_ ?_<;>intro h12 Tw
 have eA:=h12
 refine ac ?_
 refine ap ?_
 refine tp rfl (DW rfl underlying3 underlying5 (vl rfl)) ?_
 refine ap ?_
 refine TO.pad ?_
 refine TO.GJ 0 rfl rfl (by decide) (DY rfl rfl rfl rfl underlying138 Iy SF z5 (Kf rfl) (vl rfl) (Bt (by exact List.Mem.head _) (vl rfl))) (fun v6=> ?_)
 refine ap ?_
 refine ac ?_
 refine co rfl (Fb rfl (vl rfl) (vl rfl) (by omega)) ?_
 refine ac ?_
 refine Fin.drop 0 (Fin.FY (x/256) (IntKind.u8.wrap x) (h::t)  ((FA hx0 (by omega) d_)) ⟨ke rfl,⟨_,rfl,Pr.le_trans (Ai _ _) (Pr.le_of_eq rfl)⟩,ke rfl,trivial⟩ (fun _ _ h=>h))
 have eA:=h12
 refine ac ?_
 refine ap ?_
 refine Tr.ret (Fin.Cm rfl (BK.cell 0 rfl rfl CL Bk rfl (Lr)) ?_)
 · exact BB ⟨Br _ _,Bh (m:=(h::t).length) (by simp only [List.length_cons];omega) Fp,Bp _ (Lr),AV 4,trivial⟩
 refine ac ?_
 refine Fw 2 3 4 35 rfl ?_
 refine ac ?_
 refine ap ?_
 refine Tr.ret (Fin.Cm rfl (BK.cell 0 rfl rfl CL Bk rfl (Lr)) ?_)
 · exact BB ⟨Br _ _,Bh (m:=(h::t).length) (by simp only [List.length_cons];omega) Fp,Bp _ (Lr),AV 4,trivial⟩
 refine ag ?_ ?_<;>intro MU Uj
 refine K4 MU rfl ?_
 refine cy MU rfl (AA rfl underlying138 Iy (vl rfl) (vl rfl) (by omega) (AU (k:=0) rfl)) ?_
 refine ac ?_
 refine Fw 2 3 4 35 rfl ?_
 refine Tr.cn rfl ?_ ?_<;>intro Jz Xv
 have eA:=Jz
 refine ac ?_
 refine ap ?_
 refine tp rfl (DW rfl underlying3 underlying5 (vl rfl)) ?_
 refine ap ?_
 refine TO.pad ?_
 refine TO.GJ 0 rfl rfl (by decide) (DY rfl rfl rfl rfl underlying138 Iy SF z5 (Kf rfl) (vl rfl) (Bt (by exact List.Mem.head _) (vl rfl))) (fun v7=> ?_)
 refine ap ?_
 refine ac ?_
 refine co rfl (Fb rfl (vl rfl) (vl rfl) (by omega)) ?_
 refine ac ?_
 refine Fin.drop 0 (Fin.FY (x/256) (IntKind.u8.wrap x) (h::t)  ((FA hx0 (by omega) d_)) ⟨ke rfl,⟨_,rfl,Pr.le_trans (Ai _ _) (Pr.le_of_eq rfl)⟩,ke rfl,trivial⟩ (fun _ _ h=>h))
 have eA:=Jz
 refine ac ?_
 refine ap ?_
 refine Tr.ret (Fin.Cm rfl (BK.cell 0 rfl rfl CL Bk rfl (Lr)) ?_)
 · exact BB ⟨Br _ _,Bh (m:=(h::t).length) (by simp only [List.length_cons];omega) Fp,Bp _ (Lr),AV 4,trivial⟩
 refine ac ?_
 refine Fw 2 3 4 35 rfl ?_
 refine ac ?_
 refine ap ?_
 refine Tr.ret (Fin.Cm rfl (BK.cell 0 rfl rfl CL Bk rfl (Lr)) ?_)
 · exact BB ⟨Br _ _,Bh (m:=(h::t).length) (by simp only [List.length_cons];omega) Fp,Bp _ (Lr),AV 4,trivial⟩
theorem N9 {s:List UInt8} (hs:s.length≤1000):A9 prog 120 [str s] (agg (A8 q0)):=by
 refine fo func120 rfl ⟨rfl,rfl⟩ fun M0 w0=>(Tr.seq (Tr.As ?_))
 refine Tl rfl rfl rfl rfl Jv Hy (fun b1=> ?_)
 refine ap ?_
 refine ap ?_
 refine tp rfl (Lq rfl underlying9 underlying138 underlying5 (vl rfl) (by unfold maxLen;omega)) ?_
 refine ap ?_
 refine Tr.ret (Fin.Cm rfl (BK.cell 0 rfl rfl CL Bk rfl (Lr)) ?_)
 · exact BB ⟨Br _ _,Bh (m:=s.length) (by omega) (Fp (f:=fun c:UInt8=>((c.toNat:Nat):Int))),Bp _ (Lr),AV 4,trivial⟩
theorem ZE {b:Bool}  :A9 prog 124 [bool b] (agg (A8 q0)):=by
 refine fo func124 rfl ⟨rfl,rfl⟩ fun M0 w0=>(Tr.seq (Tr.As ?_))
 refine Tl rfl rfl rfl rfl Jv Hy (fun b1=> ?_)
 refine ap ?_
 refine an ?_ ?_<;>intro h1 q1
 refine ap ?_
 refine tp rfl (Ad (rows:=[(0,[_]),(1,[_])]) rfl VK Hy ⟨⟨rfl,(Vo rfl)⟩,⟨⟨rfl,⟨_,rfl,Pr.le_trans (Am _ _) (AD _)⟩⟩,trivial⟩⟩ rfl) ?_
 refine ap ?_
 refine Tr.ret (Fin.AH (Fin.Cm rfl (BK.cell 0 rfl rfl CL Bk rfl (Lr)) ?_))
 · exact BB ⟨Br _ _,Bh (m:=1) (by omega) (SZ _),Bp _ (Lr),AV 4,trivial⟩
 refine ac ?_
 refine ap ?_
 refine tp rfl (Ad (rows:=[(0,[_]),(1,[_])]) rfl VK Hy ⟨⟨rfl,(Vo rfl)⟩,⟨⟨rfl,⟨_,rfl,Pr.le_trans (Am _ _) (AD _)⟩⟩,trivial⟩⟩ rfl) ?_
 refine ap ?_
 refine Tr.ret (Fin.Cm rfl (BK.cell 0 rfl rfl CL Bk rfl (Lr)) ?_)
 · exact BB ⟨Br _ _,Bh (m:=1) (by omega) (SZ _),Bp _ (Lr),AV 4,trivial⟩
theorem J0 {m:Nat} {q:Pr} [One q]  (hm:m≤20) (ih:m=0∨A9 prog 140 [q] q):A9 prog 140 [slice 4 (List.replicate m (A8 q))] (slice 4 (List.replicate m (A8 q))):=by
 refine A9.of func140 rfl rfl (by exact Nb rfl) fun M0 w0=> ?_
 have hlr:(List.replicate m (A8 q)).length=m:=List.length_replicate
 refine Tr.seq (Tr.Ao (cm rfl (Ch.nil (Fin.go (Tr.seq (Tr.Ao (cm rfl (Ch.nil (Fin.go (Tr.seq (Tr.seq (Tr.Ao (cm rfl ?_)))))))))))))
 refine Ch.nil (Fin.go (Tr.block (Tr.DB 165 4 (Tr.Gx [(0,_)] ⟨ke rfl,trivial⟩ (fun k v=>[(4,int ((k:Nat):Int)),(3,Ab v (slice 4 (List.replicate k (A8 q))))]) (fun k v=>Hp M0 w0 OR ([Ax 165 4 v])) (fun k:Nat=>k≤((List.replicate m (A8 q)).length)) (fun k:Nat=>((List.replicate m (A8 q)).length)-k) 0 (.slice none 0 0) (Nat.zero_le _) ⟨ke rfl,⟨_,rfl,Cg rfl⟩,trivial⟩ (fun _ _ h=>h) ?_))))
 rintro k v BR
 refine Tr.seq (Tr.seq (Tr.Ao (cm rfl (cm rfl (co rfl (CA rfl underlying163 (vl rfl)) (co rfl (ki rfl rfl rfl rfl) (Ch.nil (Fin.go ?_))))))))
 refine Tr.cn rfl ?_ ?_<;>intro h1 q1
 have Aa:k<((List.replicate m (A8 q)).length):=AL h1
 have hkm:k<m:=by simpa using Aa
 have ih2:=ih.resolve_left (by omega)
 refine Tr.skip (Fin.go (Tr.seq (Tr.block (Tr.seq (Tr.As (tm rfl (tm rfl (tp rfl (AA rfl underlying163 Bk (vl rfl) (vl rfl) (by omega) (HA hkm)) (tp rfl (AF rfl CL Bk (vl rfl) rfl rfl) ?_)))))))))
 refine Tl rfl rfl rfl rfl Jv Hy (fun b1=> ?_)
 refine TO.Ap 0 rfl rfl rfl (vl rfl) (Va rfl) rfl Bk rfl rfl (TO.nil (Fin.go (Tr.seq (Tr.As (tp rfl (AQ (xs:=[]) (rows:=[]) rfl rfl underlying138 Iy z5 rfl (by decide) trivial (by decide)) (tp rfl (AO rfl Nz (vl rfl)) (TO.rd 0 rfl rfl rfl (by decide) (Aj rfl VJ (vl rfl) rfl) ?_)))))))
 refine TO.ex 18 rfl (fun oy=>TO.fact 18 rfl fun rB=> ?_)
 refine TO.pad ?_
 refine TO.GJ 0 rfl rfl (by decide) (DY rfl rfl rfl rfl underlying138 Iy SF z5 (Kf rfl) (vl rfl) (Bt (by exact List.Mem.head _) (vl rfl))) (fun v1=> ?_)
 refine tp rfl (AO rfl Nz (vl rfl)) (TO.Ew 1 rfl rfl (BP rfl rfl (vl rfl) (Vo rfl) jC rfl (by exact Nb rfl) rfl) (TO.nil (Fin.go (Fw 0 3 4 5 rfl (Tr.seq (Tr.As (tp rfl (AO rfl JF (vl rfl)) (TO.rd 1 rfl rfl rfl (by decide) (Aj rfl Ny (vl rfl) rfl) (tp rfl (AW rfl (ih2) ⟨ke rfl,trivial⟩) (tp rfl (AO rfl JF (vl rfl)) (TO.Ew 1 rfl rfl (BP rfl rfl (vl rfl) (Vo rfl) jF rfl (by exact Nb rfl) rfl) (TO.nil (Fin.go (Tr.As ?_))))))))))))))
 refine tm rfl (TO.rd 1 rfl rfl rfl (by decide) (B1 rfl CL Bk (vl rfl) rfl rfl) (tp rfl (AQ (xs:=[.tmp 26]) (rows:=[A8 q]) rfl rfl underlying163 Bk Jv rfl (by decide) ⟨⟨(by exact rfl),VL.le (vl rfl) (Pr.le_trans (BB (qs:=A8 q) ⟨Lr,Bh (m:=oy) (by omega) (Pr.le_trans (Ai _ _) (Pr.le_of_eq rfl)),Lr,Lr,trivial⟩) (AJ _))⟩,trivial⟩ (by decide)) ?_))
 refine TO.GJ 2 rfl rfl (by decide) (DY rfl rfl rfl rfl underlying163 Bk aM Jv (Kb rfl) (Kf rfl) (CO (by exact List.Mem.head _) (Ka rfl))) (fun v2=> ?_)
 refine tm rfl (TO.nil (Fin.block (Fin.go (Tr.drop 1 (Tr.Ao (cm rfl (SA rfl rfl rfl rfl (by omega) (cm rfl (Ch.nil (Fin.drop 0 (Fin.Hv (k+1) v2 (⟨Aa,by omega⟩) ⟨⟨_,rfl,AE k⟩,⟨_,rfl,CK (by rw [SX])⟩,ke rfl,trivial⟩ (fun _ _ h=>h))))))))))))
 have A_:k=((List.replicate m (A8 q)).length):=by have:=AM h1;omega
 refine Tr.exit (Fin.Ac (Fin.Ac (Fin.Az (Fin.go (Tr.seq (Tr.Ao (cm rfl (cm rfl (Ch.nil (Fin.go (Tr.ret (Fin.bR rfl (DA.Ht _ _) rfl ?_))))))))))))
 · exact Pr.le_trans (Ai _ _) (Pr.le_of_eq (by rw [A_,hlr]))
theorem N_ {m:Nat} {q:Pr}  (hm:m≤20) (hc:A9 prog 140 [slice 4 (List.replicate m (A8 q))] (slice 4 (List.replicate m (A8 q)))):A9 prog 121 [slice 4 (List.replicate m (A8 q))] (agg (A8 (G_ (A8 q)))):=by
 refine fo func121 rfl ⟨rfl,rfl⟩ fun M0 w0=>(Tr.seq (Tr.As ?_))
 refine Tl rfl rfl rfl rfl Jv Hy (fun b1=> ?_)
 refine ap ?_
 refine ap ?_
 refine tp rfl (CN (hc) rfl rfl) ?_
 refine ap ?_
 refine Tr.ret (Fin.Cm rfl (BK.cell 0 rfl rfl CL Bk rfl (Lr)) ?_)
 · exact BB ⟨Br _ _,Bh (m:=0) (by omega) (AV 1),Bp _ (Lr),Bp m (Dx hm (Lr)),trivial⟩
structure Gt.vf (c:Gt):Prop where
 s0:0≤c.G5
 s1:c.G5≤1099511627776
 iss:named c.Ic=true
 sub:named c.GQ=true
 nm:D4 c.names=true
 key:EJ c.Ma c.H6 2=true
 k0:0≤c.DZ
 k1:c.DZ≤2147483648
 hash:EJ c.Qr c.L2 1=true
 sk0:0≤c.Y0
 sk1:c.Y0≤2147483648
 su0:0≤c.Y1
 su1:c.Y1<4294967296
 f0:0≤c.from_
 ft:c.from_≤c.gb
 t1:c.gb≤40000
 p0:0≤c.path
 p1:c.path≤8
 ap:c.auth=true∨c.path=0
theorem Cy {c:Gt} (hv:CC c=true):c.vf:=by
 simp only [CC,EI,Tg,Bool.and_eq_true,Bool.or_eq_true,decide_eq_true_eq,beq_iff_eq] at hv
 obtain ⟨⟨⟨⟨⟨⟨⟨h1,h2⟩,h3⟩,h4⟩,h5⟩,⟨⟨⟨⟨h6,⟨h7,h8⟩⟩,h9⟩,⟨h10,h11⟩⟩,⟨h12,MU⟩⟩⟩,⟨⟨Jz,MV⟩,h16⟩⟩,⟨⟨NA,Kc⟩,Xs⟩⟩:=hv
 exact ⟨h1,h2,h3,h4,h5,h6,h7,h8,h9,h10,h11,h12,MU,Jz,MV,h16,NA,Kc,Xs⟩
theorem Sa {c:Gt} (h:c.vf):CC c=true:=by
 simp only [CC,EI,Tg,Bool.and_eq_true,Bool.or_eq_true,decide_eq_true_eq,beq_iff_eq]
 exact ⟨⟨⟨⟨⟨⟨⟨h.s0,h.s1⟩,h.iss⟩,h.sub⟩,h.nm⟩,⟨⟨⟨⟨h.key,⟨h.k0,h.k1⟩⟩,h.hash⟩,⟨h.sk0,h.sk1⟩⟩,⟨h.su0,h.su1⟩⟩⟩,⟨⟨h.f0,h.ft⟩,h.t1⟩⟩,⟨⟨h.p0,h.p1⟩,h.ap⟩⟩
theorem WB {a b k:Int} (h:EJ a b k=true):decide (BS a b>0)=true∧(Cc a).kind=k:=by
 unfold EJ at h;simpa using h
theorem OA {l:List (List UInt8)} {k:Nat} {s:List UInt8} (h:nameAt l k=true) (hs:l[k]? =some s):named s=true:=by
 unfold nameAt at h;rw [hs] at h;simp at h;exact h.1
theorem Sb {l:List (List UInt8)} {k:Nat} {s y:List UInt8} (h:nameAt l k=true) (hs:l[k]? =some s) (hy:l[k-1]? =some y) (hk:0<k):decide (Lib.compareBytes y s= -1)=true:=by
 unfold nameAt at h;rw [hs,hy] at h;simp at h
 rcases h.2 with h2|h2
 · omega
 · simpa using h2
theorem NF {c:Gt} (hv:CC c=true):A9 prog 66 [agg (DN c)] (int 0):=by
 refine fo func66 rfl ⟨rfl,rfl⟩ fun M0 w0=> ?_
 obtain ⟨hs0,hs1,eB,hsub,hnm,hkey,hk0,hk1,aq,rC,rD,rE,rF,Xw,hft,ht1,iH,hp1,hap⟩:=Cy hv
 obtain ⟨lB,lC⟩:=WB hkey
 obtain ⟨hh1,hh2⟩:=WB aq
 have J1:=hnm
 unfold D4 at J1
 rw [Bool.and_eq_true,Ba,decide_eq_true_eq] at J1
 obtain ⟨hall,lD⟩:=J1
 refine ac ?_
 refine ag ?_ ?_<;>intro h1 q1
 exfalso;have:=q1;omega
 refine ag ?_ ?_<;>intro h2 q2
 exfalso;have:=q2;omega
 refine ac ?_
 refine cy h2 rfl (CN (Es) rfl rfl) ?_
 refine ag ?_ ?_<;>intro h3 q3
 rw [eB] at h3;exact absurd h3 (by decide)
 refine ac ?_
 refine cy h3 rfl (CN (Es) rfl rfl) ?_
 refine ag ?_ ?_<;>intro h4 q4
 rw [hsub] at h4;exact absurd h4 (by decide)
 refine ac ?_
 refine cy h4 rfl (CN (G8) rfl rfl) ?_
 refine ag ?_ ?_<;>intro h5 q5
 rw [lB,lC] at h5;exact absurd h5 (by decide)
 refine ag ?_ ?_<;>intro h6 q6
 exfalso;have:=q6;omega
 refine ac ?_
 refine CY 1 39 rfl ?_
 refine Tr.cn rfl ?_ ?_<;>intro h7 q7
 exfalso;have:=q7;omega
 refine a2 ?_
 refine co rfl (CN (JN) rfl rfl) ?_
 refine ag ?_ ?_<;>intro h8 q8
 rw [hh1] at h8;exact absurd h8 (by decide)
 refine ac ?_
 refine cy h8 rfl (CN (K9) rfl rfl) ?_
 refine ag ?_ ?_<;>intro h9 q9
 rw [hh2] at h9;exact absurd h9 (by decide)
 refine ag ?_ ?_<;>intro h10 O9
 exfalso;have:=O9;omega
 refine ag ?_ ?_<;>intro h11 SS
 exfalso;have:=SS;omega
 refine ac ?_
 refine CY 1 67 rfl ?_
 refine Tr.cn rfl ?_ ?_<;>intro h12 Tw
 exfalso;have:=Tw;omega
 refine ac ?_
 refine ag ?_ ?_<;>intro MU Uj
 exfalso;have:=Uj;omega
 refine ag ?_ ?_<;>intro Jz Xv
 exfalso;have:=Xv;omega
 refine ag ?_ ?_<;>intro MV ZC
 refine ag ?_ ?_<;>intro h16 au
 exfalso;have:=au;simp_all
 refine ac ?_
 refine CY 1 91 rfl ?_
 refine Tr.cn rfl ?_ ?_<;>intro NA Xr
 exfalso;have:=Xr;omega
 refine a2 ?_
 refine Tr.block (Tr.BH [(1,_)] ⟨ke rfl,trivial⟩ (fun k:Nat=>[(3,int ((k:Nat):Int))]) (fun k:Nat=>k≤(c.names).length) (fun k:Nat=>(c.names).length-k) 0 (Nat.zero_le _) ⟨ke rfl,trivial⟩ ?_)
 rintro k BR
 refine an ?_ ?_<;>intro Kc aj
 have Aa:k<(c.names).length:=AL Kc
 obtain ⟨s,AY⟩:=at_ Aa
 have hat:=hall k (by omega)
 have hna:=OA hat AY
 refine a2 ?_
 refine co rfl (AA rfl underlying67 KV (vl rfl) (vl rfl) (by omega) (AU AY)) (co rfl (Gd rfl Ku rfl) (co rfl (CN (Es) rfl rfl) ?_))
 refine ag ?_ ?_<;>intro Xs lA
 exfalso;rw [hna] at Xs;exact absurd Xs (by decide)
 refine ag ?_ ?_<;>intro NB nu
 have HB:0<k:=by simpa using NB
 obtain ⟨y,hy⟩:=at_ (l:=c.names) (k:=k-1) (by omega)
 have hlt:=Sb hat AY hy HB
 refine ac ?_
 refine cy NB rfl (AA rfl underlying67 KV (vl rfl) (vl rfl) (by omega) (by rw [show ((k:Nat):Int)-1=((k-1:Nat):Int) by omega];exact AU hy)) ?_
 refine ac ?_
 refine cy NB rfl (AA rfl underlying67 KV (vl rfl) (vl rfl) (by omega) (AU AY)) (cy NB rfl (Gd rfl Ku rfl) (cy NB rfl (IW rfl (vl rfl) (vl rfl)) ?_))
 refine ac ?_
 refine FX 1 3 123 rfl ?_
 refine Tr.cn rfl ?_ ?_<;>intro Xt q21
 exfalso;rw [hlt] at Xt;exact absurd Xt (by decide)
 refine a2 ?_
 exact Fin.AK (k+1) ⟨Aa,by omega⟩ ⟨⟨_,rfl,AE k⟩,ke rfl,trivial⟩
 refine ac ?_
 refine FX 1 3 123 rfl ?_
 refine a2 ?_
 exact Fin.AK (k+1) ⟨Aa,by omega⟩ ⟨⟨_,rfl,AE k⟩,ke rfl,trivial⟩
 have A_:k=(c.names).length:=by have:=AM Kc;omega
 refine ac ?_
 refine ag ?_ ?_<;>intro h22 q22
 exfalso;have:=q22;omega
 refine ag ?_ ?_<;>intro h23 q23
 exfalso;have:=q23;omega
 refine ag ?_ ?_<;>intro Ke q24
 exfalso;have:=q24;omega
 refine ac ?_
 refine FD 145 rfl ?_
 refine Tr.cn rfl ?_ ?_<;>intro h25 q25
 exfalso;have:=q25;omega
 refine a3 ?_
 · exact Lr
 refine ac ?_
 refine CY 1 91 rfl ?_
 refine Tr.cn rfl ?_ ?_<;>intro h26 q26
 exfalso;have:=q26;omega
 refine a2 ?_
 refine Tr.block (Tr.BH [(1,_)] ⟨ke rfl,trivial⟩ (fun k:Nat=>[(3,int ((k:Nat):Int))]) (fun k:Nat=>k≤(c.names).length) (fun k:Nat=>(c.names).length-k) 0 (Nat.zero_le _) ⟨ke rfl,trivial⟩ ?_)
 rintro k BR
 refine an ?_ ?_<;>intro lE q27
 have Aa:k<(c.names).length:=AL lE
 obtain ⟨s,AY⟩:=at_ Aa
 have hat:=hall k (by omega)
 have hna:=OA hat AY
 refine a2 ?_
 refine co rfl (AA rfl underlying67 KV (vl rfl) (vl rfl) (by omega) (AU AY)) (co rfl (Gd rfl Ku rfl) (co rfl (CN (Es) rfl rfl) ?_))
 refine ag ?_ ?_<;>intro h28 q28
 exfalso;rw [hna] at h28;exact absurd h28 (by decide)
 refine ag ?_ ?_<;>intro Ul q29
 have HB:0<k:=by simpa using Ul
 obtain ⟨y,hy⟩:=at_ (l:=c.names) (k:=k-1) (by omega)
 have hlt:=Sb hat AY hy HB
 refine ac ?_
 refine cy Ul rfl (AA rfl underlying67 KV (vl rfl) (vl rfl) (by omega) (by rw [show ((k:Nat):Int)-1=((k-1:Nat):Int) by omega];exact AU hy)) ?_
 refine ac ?_
 refine cy Ul rfl (AA rfl underlying67 KV (vl rfl) (vl rfl) (by omega) (AU AY)) (cy Ul rfl (Gd rfl Ku rfl) (cy Ul rfl (IW rfl (vl rfl) (vl rfl)) ?_))
 refine ac ?_
 refine FX 1 3 123 rfl ?_
 refine Tr.cn rfl ?_ ?_<;>intro h30 q30
 exfalso;rw [hlt] at h30;exact absurd h30 (by decide)
 refine a2 ?_
 exact Fin.AK (k+1) ⟨Aa,by omega⟩ ⟨⟨_,rfl,AE k⟩,ke rfl,trivial⟩
 refine ac ?_
 refine FX 1 3 123 rfl ?_
 refine a2 ?_
 exact Fin.AK (k+1) ⟨Aa,by omega⟩ ⟨⟨_,rfl,AE k⟩,ke rfl,trivial⟩
 have A_:k=(c.names).length:=by have:=AM lE;omega
 refine ac ?_
 refine ag ?_ ?_<;>intro h31 q31
 exfalso;have:=q31;omega
 refine ag ?_ ?_<;>intro h32 q32
 exfalso;have:=q32;omega
 refine ag ?_ ?_<;>intro h33 q33
 exfalso;have:=q33;omega
 refine ac ?_
 refine FD 145 rfl ?_
 refine Tr.cn rfl ?_ ?_<;>intro h34 q34
 exfalso;have:=q34;omega
 refine a3 ?_
 · exact Lr
abbrev ZF:Pr:=Cp.ex fun n:Int=>fact (0≤n∧n<4294967296) (is (.int .u32 n))
abbrev lF:Pr:=Cp.ex fun n:Int=>fact (0≤n∧n<4294967296) (int n)
theorem ZG:Pr.le ZF (IZ .u32):=fun _ _ _ ⟨n,_,h⟩=>⟨n,h⟩
section
variable {P:Program} {I:B6} {E:Env} {o:Oper}
theorem WC {s t:TypeId} {x:Operand} {k k':IntKind} (ho:o.op= .convert s t x) (hs:P.underlying s=some (.int k)) (ht:P.underlying t=some (.int k')) (hx:VL E x (IZ k)):AR P I o E (IZ k'):=
 AR.same fun M w a he _=>by
  obtain ⟨n,h1⟩:=hx.ev he (by simp [ho,Op.operands])
  have h1:a.eval x= .int k n:=h1
  refine ⟨.int k' (k'.wrap n),?_,_,rfl⟩
  simp [execOp,ho,h1,convert,run_underlying hs,run_underlying ht,Conv.intToInt,Sem.run_bind]
theorem ZH {t u:TypeId} {x y:Operand} (ho:o.op= .binOp .mul t x y u) (hx:VL E x (IZ .u32)) (hy:VL E y (IZ .u32)):AR P I o E ZF:=
 AR.same fun M w a he _=>by
  obtain ⟨m,h1⟩:=hx.ev he (by simp [ho,Op.operands])
  obtain ⟨n,h2⟩:=hy.ev he (by simp [ho,Op.operands])
  have h1:a.eval x= .int .u32 m:=h1
  have h2:a.eval y= .int .u32 n:=h2
  refine ⟨.int .u32 (IntKind.u32.wrap (m*n)),by simp [execOp,ho,h1,h2,eqGuard,binOp,Op.intArith],_,?_,rfl⟩
  rw [IntKind.wrap_u32];omega
theorem T0 {s t:TypeId} {x:Operand} (ho:o.op= .convert s t x) (hs:P.underlying s=some (.int .u32)) (ht:P.underlying t=some (.int .i64)) (hx:VL E x ZF):AR P I o E lF:=
 AR.same fun M w a he _=>by
  obtain ⟨n,hn,h1⟩:=hx.ev he (by simp [ho,Op.operands])
  have h1:a.eval x= .int .u32 n:=h1
  refine ⟨.int .i64 (IntKind.i64.wrap n),?_,n,hn,by rw [I2 (by unfold Jo;omega)];rfl⟩
  simp [execOp,ho,h1,convert,run_underlying hs,run_underlying ht,Conv.intToInt,Sem.run_bind]
end
theorem A9.G_ {P:Program} {f:FuncId} {row:List Pr} (h:∀m,m≤20→A9 P f [slice 4 (List.replicate m row)] (slice 4 (List.replicate m row))):A9 P f [Go.Proofs.YtppdobdifkefcaaGreatDoor.G_ row] (Go.Proofs.YtppdobdifkefcaaGreatDoor.G_ row):=by
 refine ⟨(h 0 (by omega)).1,fun M w vs hb hv=> ?_⟩
 match vs,hv with
 |[u0],Xu=>
  obtain ⟨⟨m,hm,h0⟩,_⟩:=Xu
  exact ((h m hm).2 M w [u0] hb ⟨h0,trivial⟩).mono fun e w' ⟨v,h1,h2,h3⟩=>⟨v,h1,⟨m,hm,h2⟩,h3⟩
theorem A9.D5 {P:Program} {f:FuncId} {B:Nat} {res:Pr} (h:∀m,m≤B→A9 P f [SW m] res):A9 P f [Go.Proofs.YtppdobdifkefcaaGreatDoor.D5 B] res:=by
 refine ⟨(h 0 (by omega)).1,fun M w vs hb hv=> ?_⟩
 match vs,hv with
 |[u0],Xu=>
  obtain ⟨⟨m,hm,h0⟩,_⟩:=Xu
  exact (h m hm).2 M w [u0] hb ⟨h0,trivial⟩
abbrev Jh:Pr:=G_ (A8 q0)
abbrev lG:Pr:=G_ (A8 Jh)
theorem Kg:Pr.le q0 Jh:=Bp 0 (Dx (by omega) (Pr.le_refl _))
theorem rc0:A9 Tryz.prog 140 [q0] q0:=J0 (m:=0) (q:=q0) (by omega) (.inl rfl)
theorem rc1 (m:Nat) (hm:m≤20):A9 Tryz.prog 140 [slice 4 (List.replicate m (A8 q0))] (slice 4 (List.replicate m (A8 q0))):=J0 hm (.inr rc0)
theorem rc2 (m:Nat) (hm:m≤20):A9 Tryz.prog 140 [slice 4 (List.replicate m (A8 Jh))] (slice 4 (List.replicate m (A8 Jh))):=J0 hm (.inr (A9.G_ rc1))
theorem rf0:A9 Tryz.prog 117 [agg (A8 q0)] PC:=A9.WA fun t b n hb=>Jy (m:=0) (q:=q0) hb (by omega) (.inl rfl)
theorem rf1:A9 Tryz.prog 117 [agg (A8 Jh)] PC:=A9.A8 fun t b n m hb hm=>Jy hb hm (.inr rf0)
theorem rf2:A9 Tryz.prog 117 [agg (A8 lG)] PC:=A9.A8 fun t b n m hb hm=>Jy hb hm (.inr rf1)
theorem rd0:A9 Tryz.prog 118 [agg (A8 q0)] (Ie 1):=A9.WA fun t b n hb=>L5 (m:=0) (q:=q0) (D:=0) hb (by omega) (by omega) (.inl rfl)
theorem rd1:A9 Tryz.prog 118 [agg (A8 Jh)] (Ie 2):=A9.A8 fun t b n m hb hm=>L5 hb hm (by omega) (.inr rd0)
theorem rd2:A9 Tryz.prog 118 [agg (A8 lG)] (Ie 3):=A9.A8 fun t b n m hb hm=>L5 hb hm (by omega) (.inr rd1)
theorem rp0:A9 Tryz.prog 119 [agg (A8 q0)] (D5 2002):=A9.WA fun t b n hb=>Qw (m:=0) (q:=q0) (B:=0) hb (by omega) (by omega) (.inl rfl)
theorem rp1:A9 Tryz.prog 119 [agg (A8 Jh)] (D5 82082):=A9.A8 fun t b n m hb hm=>Qw (B:=2002) hb hm (by omega) (.inr rp0)
theorem rp2:A9 Tryz.prog 119 [agg (A8 lG)] (D5 3285282):=A9.A8 fun t b n m hb hm=>Qw (B:=82082) hb hm (by omega) (.inr rp1)
theorem rE2:A9 Tryz.prog 91 [agg (A8 lG)] (Iv [D5 3285282,IZ .i64]):=Tz rf2 rd2 rp2
structure Gt.T2 (c:Gt):Prop where
 G5:c.G5≤40000
 DZ:c.DZ≤40000
 Ma:0≤c.Ma∧c.Ma≤40000
 H6:0≤c.H6∧c.H6≤40000
 Qr:0≤c.Qr∧c.Qr≤40000
 L2:0≤c.L2∧c.L2≤40000
theorem HU {s:List UInt8} (h:named s=true):s.length≤32:=by unfold named at h;simp at h;omega
theorem Sc {a b:Int} (ha:0≤a∧a≤40000) (hb:0≤b∧b≤40000):A9 prog 123 [agg [int a,int b]] (agg (A8 Jh)):=by
 refine fo func123 rfl ⟨rfl,rfl⟩ fun M0 w0=>(Tr.seq (Tr.As (tp rfl (Dh rfl (Va rfl)) ?_)))
 refine Tl rfl rfl rfl rfl Jv Hy (fun b1=> ?_)
 refine ap ?_
 refine Tr.seq (Tr.rx ?_)
 refine ay ?_
 refine xo rfl (fun _=>CN (Ig ha) rfl rfl) ?_
 refine ay ?_
 refine xo rfl (fun _=>CN (Ig hb) rfl rfl) (xo rfl (fun _=>AQ (xs:=[.tmp 5,.tmp 8]) (rows:=[_,_]) rfl rfl underlying163 Bk Jv rfl (by decide) ⟨⟨(by exact rfl),(Va rfl)⟩,⟨⟨(by exact rfl),(Va rfl)⟩,trivial⟩⟩ (by decide)) ?_)
 refine xo rfl (fun _=>AW rfl (N_ (m:=2) (q:=q0) (by omega) (rc1 _ (by omega))) ⟨(Kf rfl),trivial⟩) ?_
 refine Cx.Ew 0 rfl rfl (BP rfl rfl (vl rfl) (Va rfl) Bk rfl (by exact Nb rfl) rfl) ?_
 refine Cx.nil ⟨by kernel_rfl,?_⟩
 refine BE.done al1 (Fin.go (Tr.ret (Fin.Cm rfl (BK.cell 0 rfl rfl CL Bk rfl (Lr)) ?_)))
 · exact Lr
theorem WD {c:Gt} (hv:CC c=true) (ht:c.T2):A9 prog 92 [agg (DN c)] (agg (A8 lG)):=by
 refine fo func92 rfl ⟨rfl,rfl⟩ fun M0 w0=> ?_
 obtain ⟨hs0,hs1,eB,hsub,hnm,hkey,hk0,hk1,aq,rC,rD,rE,rF,Xw,hft,ht1,iH,hp1,hap⟩:=Cy hv
 obtain ⟨g1,g2,g3,g4,g5,g6⟩:=ht
 have J1:=hnm
 unfold D4 at J1
 rw [Bool.and_eq_true,Ba,decide_eq_true_eq] at J1
 obtain ⟨hall,lD⟩:=J1
 have Ry:=HU eB
 have Xk:=HU hsub
 refine Tr.seq (Tr.As (tp rfl (Dh rfl (Va rfl)) ?_))
 refine Tl rfl rfl rfl rfl Jv Hy (fun b1=> ?_)
 refine ap ?_
 refine a2 ?_
 refine Tr.block (Tr.DB 165 4 (Tr.Gx [(1,_),(2,_)] ⟨ke rfl,ke rfl,trivial⟩ (fun k v=>[(4,int ((k:Nat):Int)),(3,Ab v (slice 4 (List.replicate k (A8 q0))))]) (fun k v=>Hp M0 w0 OR ([Ax 165 4 v,AB true b1 165 (([.int .i64 0,.slice none 0 0,.bool false,.slice none 0 0]:List Value).map is)])) (fun k:Nat=>k≤(c.names).length) (fun k:Nat=>(c.names).length-k) 0 (.slice none 0 0) (Nat.zero_le _) ⟨ke rfl,⟨_,rfl,Cg rfl⟩,trivial⟩ (fun _ _ h=>h) ?_))
 rintro k v BR
 refine an ?_ ?_<;>intro h1 q1
 have Aa:k<(c.names).length:=AL h1
 obtain ⟨s,AY⟩:=at_ Aa
 have hsn:=HU (OA (hall k (by omega)) AY)
 refine ac ?_
 refine ap ?_
 refine tp rfl (AA rfl underlying67 KV (vl rfl) (vl rfl) (by omega) (by exact AU (by assumption))) ?_
 refine tp rfl (Gd rfl Ku rfl) (tp rfl (CN (N9 (by omega)) rfl rfl) (tp rfl (AQ (xs:=[.tmp 18]) (rows:=[_]) rfl rfl underlying163 Bk Jv rfl (by decide) ⟨⟨(by exact rfl),(Va rfl)⟩,trivial⟩ (by decide)) ?_))
 refine TO.GJ 0 rfl rfl (by decide) (DY rfl rfl rfl rfl underlying163 Bk aM Jv (Kb rfl) (Kf rfl) (CO (by exact List.Mem.head _) (Ka rfl))) (fun v1=> ?_)
 refine ap ?_
 refine Fw 1 2 3 4 rfl ?_
 refine ac ?_
 exact Fin.Hv (k+1) v1 (⟨Aa,by omega⟩) ⟨⟨_,rfl,AE k⟩,⟨_,rfl,CK (by rw [SX])⟩,ke rfl,ke rfl,trivial⟩ (fun _ _ h=>h)
 have A_:k=(c.names).length:=by have:=AM h1;omega
 refine ac ?_
 refine Tr.seq (Tr.rx ?_)
 refine ay ?_
 refine xo rfl (fun _=>CN (Ig (by omega)) rfl rfl) ?_
 refine ay ?_
 refine xo rfl (fun _=>CN (N9 (by omega)) rfl rfl) ?_
 refine ay ?_
 refine xo rfl (fun _=>CN (N9 (by omega)) rfl rfl) ?_
 refine ay ?_
 refine xo rfl (fun _=>CN (Sc g3 g4) rfl rfl) ?_
 refine ay ?_
 refine xo rfl (fun _=>CN (Ig (by omega)) rfl rfl) ?_
 refine ay ?_
 refine xo rfl (fun _=>CN (Sc g5 g6) rfl rfl) ?_
 refine ay ?_
 refine xo rfl (fun _=>CN (Ig (by omega)) rfl rfl) ?_
 refine ay ?_
 refine xo rfl (fun _=>CN (Ig (by omega)) rfl rfl) ?_
 refine ay ?_
 refine xo rfl (fun _=>CN (ZE) rfl rfl) ?_
 refine ay ?_
 refine xo rfl (fun _=>CN (Ig (by omega)) rfl rfl) (xm rfl ?_)
 refine xo rfl (fun _=>AW rfl (N_ (m:=c.names.length) (q:=q0) (by omega) (rc1 _ (by omega))) ⟨⟨_,rfl,Pr.le_trans (Ai _ _) (Pr.le_of_eq (by rw [A_]))⟩,trivial⟩) ?_
 refine xo rfl (fun _=>AQ (xs:=[.tmp 23,.tmp 26,.tmp 29,.tmp 32,.tmp 35,.tmp 38,.tmp 41,.tmp 44,.tmp 47,.tmp 50,.tmp 52]) (rows:=[A8 Jh,A8 Jh,A8 Jh,A8 Jh,A8 Jh,A8 Jh,A8 Jh,A8 Jh,A8 Jh,A8 Jh,A8 Jh]) rfl rfl underlying163 Bk Jv rfl (by decide) ⟨⟨(by exact rfl),VL.le (vl rfl) (Pr.le_trans (BB (qs:=A8 Jh) ⟨Lr,Lr,Lr,Kg,trivial⟩) (AJ _))⟩,⟨⟨(by exact rfl),VL.le (vl rfl) (Pr.le_trans (BB (qs:=A8 Jh) ⟨Lr,Lr,Lr,Kg,trivial⟩) (AJ _))⟩,⟨⟨(by exact rfl),VL.le (vl rfl) (Pr.le_trans (BB (qs:=A8 Jh) ⟨Lr,Lr,Lr,Kg,trivial⟩) (AJ _))⟩,⟨⟨(by exact rfl),VL.le (vl rfl) (AJ _)⟩,⟨⟨(by exact rfl),VL.le (vl rfl) (Pr.le_trans (BB (qs:=A8 Jh) ⟨Lr,Lr,Lr,Kg,trivial⟩) (AJ _))⟩,⟨⟨(by exact rfl),VL.le (vl rfl) (AJ _)⟩,⟨⟨(by exact rfl),VL.le (vl rfl) (Pr.le_trans (BB (qs:=A8 Jh) ⟨Lr,Lr,Lr,Kg,trivial⟩) (AJ _))⟩,⟨⟨(by exact rfl),VL.le (vl rfl) (Pr.le_trans (BB (qs:=A8 Jh) ⟨Lr,Lr,Lr,Kg,trivial⟩) (AJ _))⟩,⟨⟨(by exact rfl),VL.le (vl rfl) (Pr.le_trans (BB (qs:=A8 Jh) ⟨Lr,Lr,Lr,Kg,trivial⟩) (AJ _))⟩,⟨⟨(by exact rfl),VL.le (vl rfl) (Pr.le_trans (BB (qs:=A8 Jh) ⟨Lr,Lr,Lr,Kg,trivial⟩) (AJ _))⟩,⟨⟨(by exact rfl),VL.le (vl rfl) (AJ _)⟩,trivial⟩⟩⟩⟩⟩⟩⟩⟩⟩⟩⟩ (by decide)) ?_
 refine xo rfl (fun _=>AW rfl (N_ (m:=11) (q:=Jh) (by omega) (rc2 _ (by omega))) ⟨(Kf rfl),trivial⟩) ?_
 refine Cx.Ew 1 rfl rfl (BP rfl rfl (vl rfl) (Va rfl) Bk rfl (by exact Nb rfl) rfl) ?_
 refine Cx.nil ⟨by kernel_rfl,?_⟩
 refine BE.done al2 (Fin.go (FD 2 rfl (Tr.ret (Fin.Cm rfl (BK.cell 1 rfl rfl CL Bk rfl (Lr)) ?_))))
 · exact Lr
theorem T3 {c:Gt} (hv:CC c=true) (ht:c.T2):A9 prog 67 [agg (DN c)] (Iv [D5 3285282,IZ .i64]):=by
 refine fo func67 rfl ⟨rfl,rfl⟩ fun M0 w0=> ?_
 refine a2 ?_
 refine co rfl (CN (NF hv) rfl rfl) ?_
 refine an ?_ ?_<;>intro h1 q1
 exact absurd h1 (by decide)
 refine a2 ?_
 refine co rfl (CN (WD hv ht) rfl rfl) (co rfl (CN (rE2) rfl rfl) ?_)
 refine ac ?_
 refine Tr.ret (Fin.Eg rfl (DA.Ht _ _) rfl ?_ rfl ?_)
 · exact Lr
 · exact Lr
theorem ZI {m:Nat} (hm:m≤100000000):A9 prog 68 [SW m] (lF):=by
 refine fo func68 rfl ⟨rfl,rfl⟩ fun M0 w0=> ?_
 have hlr:(List.replicate m NC).length=m:=List.length_replicate
 refine a3 ?_
 refine Tr.block (Tr.BH [(0,_)] ⟨ke rfl,trivial⟩ (fun k:Nat=>[(4,int ((k:Nat):Int)),(3,ZF)]) (fun k:Nat=>k≤((List.replicate m NC).length)) (fun k:Nat=>((List.replicate m NC).length)-k) 0 (Nat.zero_le _) ⟨ke rfl,⟨_,rfl,Bp _ (Dx (by omega) (Lr))⟩,trivial⟩ ?_)
 rintro k BR
 refine ac ?_
 refine co rfl (CA rfl underlying138 (vl rfl)) ?_
 refine an ?_ ?_<;>intro h1 q1
 have Aa:k<((List.replicate m NC).length):=AL h1
 have hkm:k<m:=by simpa using Aa
 refine a2 ?_
 refine co rfl (AA rfl underlying138 Iy (vl rfl) (vl rfl) (by omega) (HA hkm)) (co rfl (Gd rfl iP rfl) (co rfl (WC rfl underlying5 underlying117 (vl rfl)) (co rfl (Yt (by decide) rfl (VL.le (vl rfl) ZG) (vl rfl)) (co rfl (ZH rfl (vl rfl) (VL.le (vl rfl) (Br _ _))) ?_))))
 refine ac ?_
 refine FX 0 3 4 rfl ?_
 refine ac ?_
 exact Fin.AK (k+1) ⟨Aa,by omega⟩ ⟨⟨_,rfl,AE k⟩,ke rfl,ke rfl,trivial⟩
 have A_:k=((List.replicate m NC).length):=by have:=AM h1;omega
 refine a2 ?_
 refine co rfl (T0 rfl underlying117 underlying3 (vl rfl)) ?_
 refine a2 ?_
 · exact Lr
theorem WE {c:Gt} (hn:c.names.length≤1000):A9 prog 65 [agg (DN c)] (agg (DN c)):=by
 refine fo func65 rfl ⟨rfl,rfl⟩ fun M0 w0=>(Tr.seq (Tr.As ?_))
 refine TO.Od rfl rfl (by decide) rfl (Va rfl) (fun b1=> ?_)
 refine Tl rfl rfl rfl rfl z107 KY (fun b2=> ?_)
 refine ap ?_
 refine ap ?_
 refine TO.pad ?_
 refine TO.GJ 0 rfl rfl (by decide) (DY rfl rfl rfl rfl underlying67 KV ox z9 (Kf rfl) (vl rfl) (Bt (by exact List.Mem.head _) (vl rfl))) (fun v1=> ?_)
 refine ap ?_
 refine ap ?_
 refine Tr.drop 2 (Tr.ret (Fin.Cm rfl (BK.cell 1 rfl rfl E8 C7 rfl (Lr)) ?_))
 · exact BB ⟨Lr,Lr,Lr,Lr,Lr,Lr,Lr,Lr,Lr,Lr,Lr,Lr,Pr.le_trans (Ai _ _) (Pr.le_of_eq (by simp)),Lr,Lr,trivial⟩
abbrev L7 (c:Gt) (key s:Int):Gt:=⟨c.G5,c.Ic,c.GQ,c.Ma,c.H6,c.DZ,c.Qr,c.L2,c.from_,c.gb,c.auth,c.path,c.names,key,s⟩
theorem WG {c:Gt} {key:Int} (hv:CC (L7 c 0 0)=true) (ht:(L7 c 0 0).T2) (hk:0≤key∧key≤2147483648):A9 prog 43 [agg (DN c),int key] (Cp.ex fun s:Int=>fact (0≤s∧s<4294967296) (Iv [agg (DN (L7 c key s)),int 0])):=by
 refine A9.of func43 rfl rfl (by exact Nb rfl) fun M0 w0=> ?_
 have hnn:c.names.length≤1000:=by have:=(Cy hv).nm;unfold D4 at this;simp at this;omega
 refine Tr.seq (Tr.As ?_)
 refine TO.Od rfl rfl (by decide) rfl (Va rfl) (fun b1=> ?_)
 refine Tl rfl rfl rfl rfl z107 KY (fun b2=> ?_)
 refine tm rfl (TO.nil (Fin.go (Tr.seq (Tr.As (TO.rd 1 rfl rfl rfl (by decide) (B1 rfl E8 C7 (vl rfl) rfl rfl) ?_)))))
 refine tp rfl (AW rfl (WE (c:=c) hnn) ⟨ke rfl,trivial⟩) ?_
 refine TO.Ap 1 rfl rfl rfl (vl rfl) (Va rfl) rfl C7 rfl rfl (TO.nil (Fin.go (Tr.seq (Tr.As (tp rfl (Ad (rows:=[]) rfl aI aJ trivial rfl) (tp rfl (AO rfl Lm (vl rfl)) (TO.Ew 1 rfl rfl (BP rfl rfl (vl rfl) (Va rfl) aH rfl (by exact Nb rfl) rfl) (TO.nil (Fin.go (Tr.seq (Tr.seq (Tr.Ao (co rfl (CT 1 rfl (B1 rfl E8 C7 (vl rfl) rfl rfl)) ?_)))))))))))))
 refine co rfl (AW rfl (NF (c:=L7 c 0 0) hv) ⟨ke rfl,trivial⟩) ?_
 refine co rfl (ki rfl rfl rfl rfl) (cm rfl ?_)
 refine Ch.cs 15 rfl ?_ ?_<;>intro h1 q1
 exact absurd h1 (by decide)
 refine K4 h1 rfl (cy h1 rfl (ki rfl rfl rfl rfl) (co rfl (LZ rfl rfl h1 rfl) (cm rfl ?_)))
 refine Ch.cs 19 rfl ?_ ?_<;>intro h2 q2
 exfalso;have:=q2;omega
 refine K4 h2 rfl (cy h2 rfl (ki rfl rfl rfl rfl) (co rfl (LZ rfl rfl h2 rfl) (Ch.nil (Fin.go (Fw 1 2 4 22 rfl ?_)))))
 refine Tr.cn rfl ?_ ?_<;>intro h3 q3
 exfalso;have:=q3;omega
 refine Tr.skip (Fin.go (Tr.seq (Tr.Ao (co rfl (CT 1 rfl (B1 rfl E8 C7 (vl rfl) rfl rfl)) ?_))))
 refine co rfl (AW rfl (T3 (c:=L7 c 0 0) hv ht) ⟨ke rfl,trivial⟩) ?_
 refine cm rfl (co rfl (CJ rfl (vl rfl) rfl) (co rfl (CJ rfl (vl rfl) rfl) (cm rfl (cm rfl (Ch.nil (Fin.go (Tr.seq (Tr.As (tm rfl (tm rfl (tp rfl (AW rfl (A9.D5 fun m hm=>ZI (by omega)) ⟨ke rfl,trivial⟩) ?_)))))))))))
 refine TO.ex 31 rfl (fun z31=>TO.fact 31 rfl fun rG=> ?_)
 refine tp rfl (Ad (rows:=[(0,[_]),(1,[_])]) rfl aI aJ ⟨⟨rfl,(Vo rfl)⟩,⟨⟨rfl,(Vo rfl)⟩,trivial⟩⟩ rfl) (tp rfl (AO rfl Lm (vl rfl)) (TO.Ew 1 rfl rfl (BP rfl rfl (vl rfl) (Va rfl) aH rfl (by exact Nb rfl) rfl) (TO.nil (Fin.go (CY 2 4 rfl (Tr.seq (Tr.As (TO.rd 1 rfl rfl rfl (by decide) (B1 rfl E8 C7 (vl rfl) rfl rfl) (TO.Ap 0 rfl rfl rfl (vl rfl) (Va rfl) rfl C7 rfl rfl (tm rfl (TO.nil (Fin.go (Tr.drop 1 (Tr.ret ?_))))))))))))))
 refine Fin.Hx rfl (BK.cell 0 rfl rfl E8 C7 rfl (Lr)) (BK.tmp rfl (Lr)) ?_
 · exact Bp z31 (Dx rG (Lr))
end Go.Proofs.YtppdobdifkefcaaGreatDoor
