/-
  Part 3 of the texts that prove this claim, merged.
-/
import Derived.Test.YtmpglcehonnpkaaGreatPnGP2
set_option linter.all false
set_option maxRecDepth 40000
set_option maxHeartbeats 16000000
namespace Cp
open Go Go.RowKit Go.Great
class T1 (P:Program) (t:TypeId):Prop where
 h:EA P t=true
class TA (P:Program) (t:TypeId):Prop where
 h:Ev P t=true
class TZ (P:Program) (t:TypeId) (m:outParam Nat):Prop where
 h:Ax P t=some m
class TF (P:Program) (s f:Nat) (k:outParam Nat):Prop where
 h:AY P s f=some k
class TU (P:Program) (t:TypeId) (d:outParam TypeDesc):Prop where
 h:P.underlying t=some d
class TB (P:Program) (t:TypeId) (place:outParam (Nat→Option (Nat×Nat))) (zs:outParam (List Value)):Prop where
 h:∀ps,P.built t ps=Instr.fill place zs.toArray ps
 z:zs.all (·.oneCell')=true
class TV (P:Program) (t:TypeId) (zs:outParam (List Value)):Prop where
 h:BJ P t=some zs
 z:zs.all (·.oneCell')=true
class TM (P:Program):Prop where
 h:P.follows .mixedOrders=true
section
variable {P:Program} {L:Lg P} {n:Fm} {fz:Nat} {I:CT} {ops:Array Oper} {o:Oper} {r:List Oper} {E:Env} {K:Env→Prop} {d g j:Nat} {b want:Bool} {p:Pr} {x y:Operand} {Q:Exit→Act→World→Prop} {t u:TypeId}
theorem vW [i:T1 P t] {ps:List Pr} (ho:o.op= .load t x) (hx:Cs E x=some (ref (p::ps))):Ac P I o E p:=RQ ho i.h (vl hx)
theorem vX [i:TA P t] {m:Nat} [z:TZ P t m] {ps qs:List Pr} (ho:o.op= .load t x) (hx:Cs E x=some (ref ps)) (hq:ps.take m=qs) (hm:qs.length=m):Ac P I o E (agg qs):=AR ho i.h z.h (vl hx) hq hm
theorem vY {s:TypeId} {f k:Nat} [i:TF P s f k] {ps qs:List Pr} (ho:o.op= .fieldAddr s x f) (hx:Cs E x=some (ref ps)) (hq:ps.drop k=qs):Ac P I o E (ref qs):=J1 ho i.h (vl hx) hq
theorem vZ {s:TypeId} {f k:Nat} [i:TF P s f k] {b off:Nat} (ho:o.op= .fieldAddr s x f) (hx:Cs E x=some (ptr b off)):Ac P I o E (ptr b (off+k)):=Ae ho i.h (vl hx)
theorem vc {e:TypeId} [i:TU P t (.slice e)] {sz:Nat} {β:Type} {f:β→List Pr} {l:List β} (ho:o.op= .call { callee:= .builtin .len,args:= #[x],argTypes:= #[t] }) (hx:Cs E x=some (slice sz (l.map f))):Ac P I o E (int ((l.length:Nat):Int)):=BF ho i.h (vl hx)
theorem ve [i:TU P t .string] {a:List UInt8} (ho:o.op= .call { callee:= .builtin .len,args:= #[x],argTypes:= #[t] }) (hx:Cs E x=some (str a)):Ac P I o E (int ((a.length:Nat):Int)):=dc ho i.h (vl hx)
theorem vg [i:TU P t .bool] {b c:Bool} (ho:o.op= .binOp .eql t x y u) (hx:Cs E x=some (bool b)) (hy:Cs E y=some (bool c)):Ac P I o E (bool (b==c)):=jS ho i.h (vl hx) (vl hy)
theorem vh {p:Pr} [One p] (ho:o.op= .box t x) (hx:Cs E x=some p):Ac P I o E (ref [p]):=BZ ho (VL.le (vl hx) (Aj p))
theorem vi {ps:List Pr} (ho:o.op= .box t x) (hx:Cs E x=some (agg ps)):Ac P I o E (ref ps):=BZ ho (VL.le (vl hx) (Aa ps))
class CP (p:Pr) (ps:outParam (List Pr)):Prop where
 h:Pr.le p (DF ps)
instance vk (ps:List Pr):CP (agg ps) ps:=⟨Aa ps⟩
instance (priority:=low) vm (p:Pr) [One p]:CP p [p]:=⟨Aj p⟩
class CQ (p:Pr) (ps:outParam (List Pr)):Prop where
 h:Pr.le p (DF ps)
instance vn (ps:List Pr):CQ (agg ps) ps:=⟨Aa ps⟩
instance vo (k:IntKind) (n:Int):CQ (is (.int k n)) [is (.int k n)]:=⟨Aj _⟩
instance tT (b:Bool):CQ (is (.bool b)) [is (.bool b)]:=⟨Aj _⟩
instance vp (s:ByteArray):CQ (is (.string s)) [is (.string s)]:=⟨Aj _⟩
instance vq (a:Option Addr):CQ (is (.pointer a)) [is (.pointer a)]:=⟨Aj _⟩
instance qK (sz:Nat) (rows:List (List Pr)):CQ (slice sz rows) [slice sz rows]:=⟨Aj _⟩
instance vr (ps:List Pr):CQ (ref ps) [ref ps]:=⟨Aj _⟩
instance yD (f:Fn) (ps:List Pr):CQ (fn f ps) [fn f ps]:=⟨Aj _⟩
theorem vf0:TI E [] []:=trivial
theorem vf1 {i:Nat} {q:Pr} {row:List Pr} [c:CQ q row] {xs:List (Nat×Operand)} {rows:List (Nat×List Pr)} (hx:Cs E x=some q) (h:TI E xs rows):TI E ((i,x)::xs) ((i,row)::rows):=⟨⟨rfl,VL.le (vl hx) c.h⟩,h⟩
theorem vr0 {sz:Nat}:QI E sz [] []:=trivial
theorem vr1 {sz:Nat} {q:Pr} {row:List Pr} [c:CQ q row] {xs:List Operand} {rows:List (List Pr)} (hx:Cs E x=some q) (hl:row.length=sz) (h:QI E sz xs rows):QI E sz (x::xs) (row::rows):=⟨⟨hl,VL.le (vl hx) c.h⟩,h⟩
theorem vu {parts:Array (Nat×Operand)} {place:Nat→Option (Nat×Nat)} {zs:List Value} [i:TB P t place zs] {rows:List (Nat×List Pr)} {qs:List Pr} (ho:o.op= .build t parts) (hx:TI E parts.toList rows) (hq:O6 place (zs.map is) rows=some qs):Ac P I o E (agg qs):=Ai ho i.h i.z hx hq
theorem vv {e:TypeId} {sz m:Nat} {zs:List Value} {xs:List Operand} {parts:Array (Nat×Operand)} {rows:List (List Pr)} [i:TU P t (.slice e)] [z:TZ P e sz] [v:TV P e zs] (ho:o.op= .buildSlice t m parts) (hp:parts.toList.map Prod.snd=xs) (hm:(m==xs.length&&(parts.toList.map Prod.fst==List.range m)&&zs.length==sz&&Nat.blt 0 sz&&Nat.ble (m*sz) 16777216)=true) (hx:QI E sz xs rows):Ac P I o E (full sz rows):=by
 simp only [Bool.and_eq_true,beq_iff_eq,Nat.blt_eq,Nat.ble_eq] at hm
 obtain ⟨⟨⟨⟨h1,h2⟩,h3⟩,h4⟩,h5⟩:=hm
 subst h1
 refine AL ho ?_ i.h z.h v.h h3 h4 hx h5
 refine List.ext_getElem (by rw [←hp];simp) fun k h6 h7=> ?_
 have h8:k<xs.length:=by simpa using h7
 simp only [List.getElem_map,List.getElem_zipIdx,Nat.zero_add]
 have e1:(parts.toList.map Prod.fst)[k]'(by simpa using h6)=k:=by simp only [h2];exact List.getElem_range _
 have e2:(parts.toList.map Prod.snd)[k]'(by simpa using h6)=xs[k]:=by simp only [hp]
 simp only [List.getElem_map] at e1 e2
 exact Prod.ext e1 e2
section
variable {M0:Av} {w0:World} {S:Nat→Prop} {b off:Nat} {T:TypeId} {new:Bool} {ps qs:List Pr} {m:Nat} {q:Pr}
theorem JY [i:T1 P t] (ho:o.op= .load t x) (hx:Cs E x=some (ptr b off)) (hp:ps[off]? =some p):ME P M0 w0 S j (SR.c (AE new b T ps)) o E p:=B4 ho i.h (vl hx) hp
theorem JZ [i:TA P t] [z:TZ P t m] (ho:o.op= .load t x) (hx:Cs E x=some (ptr b off)) (hq:(ps.drop off).take m=qs) (hm:qs.length=m):ME P M0 w0 S j (SR.c (AE new b T ps)) o E (agg qs):=B_ ho i.h z.h (vl hx) hq hm
theorem Ru {ps':List Pr} [z:TZ P t m] [c:CP q qs] (hg:o.guard=none) (ho:o.op= .store t x y) (hx:Cs E x=some (ptr b off)) (hy:Cs E y=some q) (hm:qs.length=m:=by rfl) (hl:Nat.ble (off+m) ps.length=true:=by rfl) (hps:ps.take off++qs++ps.drop (off+m)=ps':=by rfl):Dn P M0 w0 S n j (SR.c (AE new b T ps)) (SR.c (AE new b T ps')) o E any:=Ay hg ho (vl hx) (VL.le (vl hy) c.h) z.h hm (Nat.le_of_ble_eq_true hl) hps
variable {rs:List As}
theorem sf (i s:Nat) [z:TZ P t m] [c:CP q qs] (hg:o.guard=none∧o.dst=none∧o.op= .store t x y) (hx:Cs E x=some (ptr b 0)) (hy:Cs E y=some q) (hi:rs[i]? =some (AE true b T ps)) (hs:E.lookup s=some (ptr b 0))
  (k:TO P n ops r ((s,ref qs)::E) (Hp M0 w0 S ((rs.set i (AE true b T qs)).eraseIdx i)) Q) (hm:qs.length=m:=by rfl) (hl:ps.length=m:=by rfl):TO P n ops (o::r) E (Hp M0 w0 S rs) Q:=
 TO.AK i hg.1 hg.2.1 hg.2.2 (vl hx) (VL.le (vl hy) c.h) hi z.h hm hl (TO.freeze (ps:=qs) i s (by
  have hlt:i<rs.length:=by rcases Nat.lt_or_ge i rs.length with h|h;exact h;rw [List.getElem?_eq_none h] at hi;cases hi
  rw [List.getElem?_set_self hlt]) hs k)
theorem sa (i:Nat) [z:TZ P t m] [c:CP q qs] (hg:o.guard=none∧o.dst=none∧o.op= .store t x y) (hx:Cs E x=some (ptr b 0)) (hy:Cs E y=some q) (hi:rs[i]? =some (AE new b T ps))
  (k:TO P n ops r E (Hp M0 w0 S (rs.set i (AE new b T qs))) Q) (hm:qs.length=m:=by rfl) (hl:ps.length=m:=by rfl):TO P n ops (o::r) E (Hp M0 w0 S rs) Q:=TO.AK i hg.1 hg.2.1 hg.2.2 (vl hx) (VL.le (vl hy) c.h) hi z.h hm hl k
end
def kN (o:Oper):Nat:=match o.op with
 | .move ..=>1
 | .assign ..=>1
 | .fieldAddr ..=>2
 | .load ..=>3
 | .binOp .add ..=>7
 | .binOp .sub ..=>8
 | .binOp ..=>4
 | .pick ..=>5
 | .nilCheck ..=>6
 | .call { callee:= .builtin .len,.. }=>9
 | .unOp ..=>10
 | .box ..=>11
 | .extract ..=>12
 | .makeFunc ..=>13
 | .build ..=>14
 | .buildSlice ..=>15
 | .store ..=>16
 |_=>0
def qL (o:Oper):Bool:=o.guard.isNone
def grp (o:Oper):Nat:=if kN o=0 then 0 else if kN o<5 then 1 else if kN o<9 then 2 else if kN o<16 then 3 else 4
theorem vw {m z:Int} (ho:o.op= .binOp .add t x y u) (hx:Cs E x=some (int m)) (hy:Cs E y=some (int z)) (hr: -9223372036854775808≤m+z∧m+z≤9223372036854775807):Ac P I o E (int (m+z)):=Ge ho (vl hx) (vl hy) hr
theorem v_ {m z:Int} (ho:o.op= .binOp .sub t x y u) (hx:Cs E x=some (int m)) (hy:Cs E y=some (int z)) (hr: -9223372036854775808≤m-z∧m-z≤9223372036854775807):Ac P I o E (int (m-z)):=JS ho (vl hx) (vl hy) hr
theorem oF (h:Ac P I o E p:=by first|exact vY rfl rfl rfl|exact vZ rfl rfl):Ac P I o E p:=h
theorem oL (h:Ac P I o E p:=by first|exact vW rfl rfl|exact vX rfl rfl rfl rfl|exact Dr 0 rfl (JY rfl rfl rfl)|exact Dr 0 rfl (JZ rfl rfl rfl rfl)|exact Dr 1 rfl (JY rfl rfl rfl)|exact Dr 1 rfl (JZ rfl rfl rfl rfl)|exact Dr 2 rfl (JY rfl rfl rfl)|exact Dr 2 rfl (JZ rfl rfl rfl rfl)|exact Dr 3 rfl (JY rfl rfl rfl)|exact Dr 3 rfl (JZ rfl rfl rfl rfl)|exact Dr 4 rfl (JY rfl rfl rfl)|exact Dr 4 rfl (JZ rfl rfl rfl rfl)):Ac P I o E p:=h
theorem oB (h:Ac P I o E p:=by first|exact ki rfl rfl rfl rfl|exact kD rfl (vl rfl) (vl rfl)|exact kE rfl (vl rfl) (vl rfl)|exact vg rfl rfl rfl):Ac P I o E p:=h
theorem oP (h:Ac P I o E p:=by first|exact HK rfl rfl (by first|rfl|assumption) rfl|exact HM rfl rfl (by first|rfl|assumption) rfl|exact WV rfl (vl rfl) (vl rfl)|exact Td rfl (vl rfl) (vl rfl)):Ac P I o E p:=h
theorem oN (h:Ac P I o E p:=by first|exact QG rfl (vl rfl)|exact MD rfl (vl rfl)|exact M6 rfl (vl rfl)):Ac P I o E p:=h
theorem oA (h:Ac P I o E p:=by first|exact vw rfl rfl rfl (by omega)|exact ki rfl rfl rfl rfl):Ac P I o E p:=h
theorem oS (h:Ac P I o E p:=by first|exact v_ rfl rfl rfl (by omega)|exact ki rfl rfl rfl rfl):Ac P I o E p:=h
theorem oC (h:Ac P I o E p:=by first|exact vc rfl rfl|exact ve rfl rfl):Ac P I o E p:=h
theorem oU (h:Ac P I o E p:=by first|exact HI rfl (vl rfl)):Ac P I o E p:=h
theorem oO (h:Ac P I o E p:=by first|exact vi rfl rfl|exact vh rfl rfl):Ac P I o E p:=h
theorem oE (h:Ac P I o E p:=by first|exact BA rfl (vl rfl) rfl):Ac P I o E p:=h
theorem oM (h:Ac P I o E p:=by first|exact RR rfl rfl):Ac P I o E p:=h
theorem oD (h:Ac P I o E p:=by first|exact vu rfl (by repeat any_goals first|exact vf0|refine' vf1 rfl ?_) (by rfl)):Ac P I o E p:=h
theorem oI (h:Ac P I o E p:=by first|exact vv rfl rfl (by rfl) (by repeat any_goals first|exact vr0|refine' vr1 rfl (by rfl) ?_)):Ac P I o E p:=h
theorem kc0 {f:FuncId} {ts:Array TypeId} {res:Pr} (hf:Az P f [] res) (ho:o.op= .call { callee:= .value (.func f),args:= #[],argTypes:=ts }):Ac P I o E res:=AQ ho hf trivial
theorem Ce {f:FuncId} {ts:Array TypeId} {x0:Operand} {p0:Pr} {res:Pr} (hf:Az P f [p0] res) (ho:o.op= .call { callee:= .value (.func f),args:= #[x0],argTypes:=ts }) (h0:Cs E x0=some p0):Ac P I o E res:=AQ ho hf ⟨ke h0,trivial⟩
theorem CS {f:FuncId} {ts:Array TypeId} {x0:Operand} {p0:Pr} {x1:Operand} {p1:Pr} {res:Pr} (hf:Az P f [p0,p1] res) (ho:o.op= .call { callee:= .value (.func f),args:= #[x0,x1],argTypes:=ts }) (h0:Cs E x0=some p0) (h1:Cs E x1=some p1):Ac P I o E res:=AQ ho hf ⟨ke h0,ke h1,trivial⟩
theorem JH {f:FuncId} {ts:Array TypeId} {x0:Operand} {p0:Pr} {x1:Operand} {p1:Pr} {x2:Operand} {p2:Pr} {res:Pr} (hf:Az P f [p0,p1,p2] res) (ho:o.op= .call { callee:= .value (.func f),args:= #[x0,x1,x2],argTypes:=ts }) (h0:Cs E x0=some p0) (h1:Cs E x1=some p1) (h2:Cs E x2=some p2):Ac P I o E res:=AQ ho hf ⟨ke h0,ke h1,ke h2,trivial⟩
theorem Yz {f:FuncId} {ts:Array TypeId} {x0:Operand} {p0:Pr} {x1:Operand} {p1:Pr} {x2:Operand} {p2:Pr} {x3:Operand} {p3:Pr} {res:Pr} (hf:Az P f [p0,p1,p2,p3] res) (ho:o.op= .call { callee:= .value (.func f),args:= #[x0,x1,x2,x3],argTypes:=ts }) (h0:Cs E x0=some p0) (h1:Cs E x1=some p1) (h2:Cs E x2=some p2) (h3:Cs E x3=some p3):Ac P I o E res:=AQ ho hf ⟨ke h0,ke h1,ke h2,ke h3,trivial⟩
theorem kc5 {f:FuncId} {ts:Array TypeId} {x0:Operand} {p0:Pr} {x1:Operand} {p1:Pr} {x2:Operand} {p2:Pr} {x3:Operand} {p3:Pr} {x4:Operand} {p4:Pr} {res:Pr} (hf:Az P f [p0,p1,p2,p3,p4] res) (ho:o.op= .call { callee:= .value (.func f),args:= #[x0,x1,x2,x3,x4],argTypes:=ts }) (h0:Cs E x0=some p0) (h1:Cs E x1=some p1) (h2:Cs E x2=some p2) (h3:Cs E x3=some p3) (h4:Cs E x4=some p4):Ac P I o E res:=AQ ho hf ⟨ke h0,ke h1,ke h2,ke h3,ke h4,trivial⟩
theorem cP (_:qL o=true) (h:Ch P n I ops (o::r) E K):Ch P n I ops (o::r) E K:=h
theorem cG (_:qL o=false) (h:Ch P n I ops (o::r) E K):Ch P n I ops (o::r) E K:=h
theorem cK (k:Nat) (_:kN o=k) (h:Ch P n I ops (o::r) E K):Ch P n I ops (o::r) E K:=h
theorem cS (k:Nat) (_:grp o=k) (h:Ch P n I ops (o::r) E K):Ch P n I ops (o::r) E K:=h
theorem tK (k:Nat) (_:kN o=k) (h:TO P n ops (o::r) E I Q):TO P n ops (o::r) E I Q:=h
theorem tG (k:Nat) (_:grp o=k) (h:TO P n ops (o::r) E I Q):TO P n ops (o::r) E I Q:=h
theorem Tr.rm [i:TM P] {id:Nat} {l:List Oper} (hB:QA l=true) (h:Ch P n I l.toArray l E (fun E'=>Fin n E' I Q .normal)) (hc:calm l=true:=by with_unfolding_all rfl):Tr L n E I (.region id l.toArray true) Q:=Tr.QC i.h hB h hc
theorem Tr.ct {c:Operand} {y z:Code} (hc:Cs E c=some (bool true)) (k:Tr L n E I y Q):Tr L n E I (.cond c y z) Q:=Tr.cond hc (fun _=>k) (fun h=>nomatch h)
theorem Tr.cf {c:Operand} {y z:Code} (hc:Cs E c=some (bool false)) (k:Tr L n E I z Q):Tr L n E I (.cond c y z) Q:=Tr.cond hc (fun h=>nomatch h) (fun _=>k)
structure Y0 (G:Prop):Prop where
 k:G
theorem Cx.mono {M0:Av} {w0:World} {S:Nat→Prop}:∀{l:List Oper} {E:Env} {rs:List SR} {K K':List X→Env→List SR→Prop},(∀L E rs,K L E rs→K' L E rs)→Cx P M0 w0 S n ops l E rs K→Cx P M0 w0 S n ops l E rs K'
 |[],_,_,_,_,h,k=>h _ _ _ k
 |_::_,_,_,_,_,h,⟨p,k,h1,h2,h3⟩=>⟨p,k,h1,h2,Cx.mono (fun _ _ _=>h _ _ _) h3⟩
theorem Cx.keys {M0:Av} {w0:World} {S:Nat→Prop}:∀{l:List Oper} {E:Env} {rs:List SR} {K:List X→Env→List SR→Prop},Cx P M0 w0 S n ops l E rs K→∃ks:List KN,Cx P M0 w0 S n ops l E rs (fun L E' rs'=>L.map (·.k.JU)=ks∧K L E' rs')
 |[],_,_,_,k=>⟨[],rfl,k⟩
 |_::_,_,_,_,⟨p,k,h1,h2,h3⟩=>by
  obtain ⟨ks,h4⟩:=Cx.keys h3
  exact ⟨k.JU::ks,p,k,h1,h2,Cx.mono (fun L E rs h=>⟨by rw [List.map_cons,h.1],h.2⟩) h4⟩
theorem Tr.rx {Lo:Lg P} [i:TM P] {M0:Av} {w0:World} {S:Nat→Prop} {id:Nat} {l:List Oper} {Gx:List As}
  (h:Cx P M0 w0 S n l.toArray l E (Gx.map SR.c) (fun L E' rs'=>MV l (L.map (·.k.JU))=true∧BQ n M0 w0 S E' rs' Q)) (hc:calm l=true:=by with_unfolding_all rfl):Tr Lo n E (Hp M0 w0 S Gx) (.region id l.toArray true) Q:=by
 obtain ⟨ks,hk⟩:=Cx.keys h
 obtain ⟨L,h1,h2,h3⟩:=QE l 0 E _ hk
 exact Tr.IB i.h ks (by rw [←h3.1];exact h3.2.1) (hk.mono fun _ _ _ h=>⟨h.1,h.2.2⟩) hc
theorem al1 {rs:List As} {r0:As}:BC (SR.c r0::rs.map SR.c) (r0::rs):= .cons (BC.map _)
theorem VE {rs:List As} {r0:As} {r1:As}:BC (SR.c r0::SR.c r1::rs.map SR.c) (r0::r1::rs):= .cons (.cons (BC.map _))
theorem al3 {rs:List As} {r0:As} {r1:As} {r2:As}:BC (SR.c r0::SR.c r1::SR.c r2::rs.map SR.c) (r0::r1::r2::rs):= .cons (.cons (.cons (BC.map _)))
theorem al4 {rs:List As} {r0:As} {r1:As} {r2:As} {r3:As}:BC (SR.c r0::SR.c r1::SR.c r2::SR.c r3::rs.map SR.c) (r0::r1::r2::r3::rs):= .cons (.cons (.cons (.cons (BC.map _))))
theorem al5 {rs:List As} {r0:As} {r1:As} {r2:As} {r3:As} {r4:As}:BC (SR.c r0::SR.c r1::SR.c r2::SR.c r3::SR.c r4::rs.map SR.c) (r0::r1::r2::r3::r4::rs):= .cons (.cons (.cons (.cons (.cons (BC.map _)))))
theorem al6 {rs:List As} {r0:As} {r1:As} {r2:As} {r3:As} {r4:As} {r5:As}:BC (SR.c r0::SR.c r1::SR.c r2::SR.c r3::SR.c r4::SR.c r5::rs.map SR.c) (r0::r1::r2::r3::r4::r5::rs):= .cons (.cons (.cons (.cons (.cons (.cons (BC.map _))))))
theorem fo {f : FuncId} {g : Func} {c : Code} {ps : List Pr} {res : Pr} (hf : P.funcs[f]? = some g) (hb : g.body = some c) (hname : ((g.name == "runtime.NumGoroutine") = false ∧ Nat.ble ps.length g.ntmps = true))
  (h:∀M0 w0,Tr (jI P) g.ntmps (Kz 0 ps) (Bse M0 w0) c (bodyPost P g (Ob M0 w0 res))):Az P f ps res:=Az.of hf hb hname.1 (Nat.le_of_ble_eq_true hname.2) h
section
variable {M0:Av} {w0:World} {S:Nat→Prop} {rs:List SR} {KX:List X→Env→List SR→Prop}
theorem xId {l:List Oper} (h:Cx P M0 w0 S n ops l E rs KX):Cx P M0 w0 S n ops l E rs KX:=h
theorem xK (k:Nat) (_:kN o=k) (h:Cx P M0 w0 S n ops (o::r) E rs KX):Cx P M0 w0 S n ops (o::r) E rs KX:=h
theorem xG (k:Nat) (_:grp o=k) (h:Cx P M0 w0 S n ops (o::r) E rs KX):Cx P M0 w0 S n ops (o::r) E rs KX:=h
end
theorem cId {l:List Oper} (h:Ch P n I ops l E K):Ch P n I ops l E K:=h
theorem me {c:Code} (h:Tr L n E I c Q):Tr L n E I c Q:=h
theorem fId {e:Exit} (h:Fin n E I Q e):Fin n E I Q e:=h
theorem tId {l:List Oper} (h:TO P n ops l E I Q):TO P n ops l E I Q:=h
theorem ac {G H:Prop} (k:G) (h:Y0 G→H:=by
 intro k
 repeat1' first
  |((with_reducible refine cId ?_);first
   |with_reducible refine Ch.nil ?_
   |(refine cP rfl ?_;first
    |(refine cS 1 rfl ?_;first
      |(refine cK 1 rfl ?_;refine cm rfl ?_)
      |(refine cK 2 rfl ?_;refine co rfl oF ?_)
      |(refine cK 3 rfl ?_;refine co rfl oL ?_)
      |(refine cK 4 rfl ?_;refine co rfl oB ?_))
    |(refine cS 2 rfl ?_;first
      |(refine cK 5 rfl ?_;refine co rfl oP ?_)
      |(refine cK 6 rfl ?_;refine co rfl oN ?_)
      |(refine cK 7 rfl ?_;refine co rfl oA ?_)
      |(refine cK 8 rfl ?_;refine co rfl oS ?_))
    |(refine cS 3 rfl ?_;first
      |(refine cK 9 rfl ?_;refine co rfl oC ?_)
      |(refine cK 10 rfl ?_;refine co rfl oU ?_)
      |(refine cK 11 rfl ?_;refine co rfl oO ?_)
      |(refine cK 12 rfl ?_;refine co rfl oE ?_)
      |(refine cK 13 rfl ?_;refine co rfl oM ?_)
      |(refine cK 14 rfl ?_;refine co rfl oD ?_)
      |(refine cK 15 rfl ?_;refine co rfl oI ?_)))
   |(refine cG rfl ?_;first
    |refine cu rfl ?_
    |refine cnt (by assumption) rfl ?_
    |refine cnf (by assumption) rfl ?_
    |(refine cS 1 rfl ?_;first
      |(refine cK 1 rfl ?_;refine FZ (by first|assumption|rfl) rfl ?_)
      |(refine cK 2 rfl ?_;refine cy (by first|assumption|rfl) rfl oF ?_)
      |(refine cK 3 rfl ?_;refine cy (by first|assumption|rfl) rfl oL ?_)
      |(refine cK 4 rfl ?_;refine cy (by first|assumption|rfl) rfl oB ?_))
    |(refine cS 2 rfl ?_;first
      |(refine cK 5 rfl ?_;refine cy (by first|assumption|rfl) rfl oP ?_)
      |(refine cK 6 rfl ?_;refine cy (by first|assumption|rfl) rfl oN ?_)
      |(refine cK 7 rfl ?_;refine cy (by first|assumption|rfl) rfl oA ?_)
      |(refine cK 8 rfl ?_;refine cy (by first|assumption|rfl) rfl oS ?_))
    |(refine cS 3 rfl ?_;first
      |(refine cK 9 rfl ?_;refine cy (by first|assumption|rfl) rfl oC ?_)
      |(refine cK 10 rfl ?_;refine cy (by first|assumption|rfl) rfl oU ?_)
      |(refine cK 11 rfl ?_;refine cy (by first|assumption|rfl) rfl oO ?_)
      |(refine cK 12 rfl ?_;refine cy (by first|assumption|rfl) rfl oE ?_)
      |(refine cK 13 rfl ?_;refine cy (by first|assumption|rfl) rfl oM ?_)
      |(refine cK 14 rfl ?_;refine cy (by first|assumption|rfl) rfl oD ?_)
      |(refine cK 15 rfl ?_;refine cy (by first|assumption|rfl) rfl oI ?_))
    |refine bn rfl rfl ?_))
  |((with_reducible refine me ?_);first
   |with_reducible refine Tr.seq ?_
   |with_reducible refine Tr.AW ?_
   |refine Tr.rm (by kernel_rfl) ?_
   |with_reducible refine Tr.skip ?_
   |with_reducible refine Tr.block ?_
   |with_reducible refine Tr.ret ?_
   |with_reducible refine Tr.exit ?_
   |refine Tr.ct rfl ?_
   |refine Tr.cf rfl ?_)
  |((with_reducible refine fId ?_);first
   |with_reducible refine Fin.AB ?_
   |with_reducible refine Fin.AX ?_
   |with_reducible refine Fin.AS ?_
   |with_reducible refine Fin.Ak ?_
   |refine Fin.Mz rfl ?_
   |with_reducible refine Fin.block ?_
   |refine Fin.DZ rfl (BE.CZ _ _) rfl ?_)
 first|with_reducible refine Fin.go ?_|with_reducible refine cId ?_|with_reducible refine tId ?_|with_reducible refine me ?_|refine Fin.go ?_|skip
 exact k.k):H:=h ⟨k⟩
theorem ao {G H:Prop} (k:G) (h:Y0 G→H:=by
 intro k
 repeat1' first
  |((with_reducible refine tId ?_);first
   |with_reducible refine TO.nil ?_
   |(refine tG 1 rfl ?_;first
     |(refine tK 1 rfl ?_;refine tm rfl ?_)
     |(refine tK 2 rfl ?_;refine tp rfl oF ?_)
     |(refine tK 3 rfl ?_;refine tp rfl oL ?_)
     |(refine tK 4 rfl ?_;refine tp rfl oB ?_))
   |(refine tG 2 rfl ?_;first
     |(refine tK 5 rfl ?_;refine tp rfl oP ?_)
     |(refine tK 6 rfl ?_;refine tp rfl oN ?_)
     |(refine tK 7 rfl ?_;refine tp rfl oA ?_)
     |(refine tK 8 rfl ?_;refine tp rfl oS ?_))
   |(refine tG 3 rfl ?_;first
     |(refine tK 9 rfl ?_;refine tp rfl oC ?_)
     |(refine tK 10 rfl ?_;refine tp rfl oU ?_)
     |(refine tK 12 rfl ?_;refine tp rfl oE ?_)
     |(refine tK 13 rfl ?_;refine tp rfl oM ?_)
     |(refine tK 14 rfl ?_;refine tp rfl oD ?_)
     |(refine tK 15 rfl ?_;refine tp rfl oI ?_)))
  |((with_reducible refine me ?_);first
   |with_reducible refine Tr.seq ?_
   |with_reducible refine Tr.An ?_
   |with_reducible refine Tr.skip ?_
   |with_reducible refine Tr.block ?_
   |with_reducible refine Tr.ret ?_
   |with_reducible refine Tr.exit ?_)
  |((with_reducible refine fId ?_);first
   |with_reducible refine Fin.AB ?_
   |with_reducible refine Fin.AX ?_
   |with_reducible refine Fin.AS ?_
   |with_reducible refine Fin.Ak ?_
   |refine Fin.Mz rfl ?_
   |with_reducible refine Fin.block ?_)
 first|with_reducible refine Fin.go ?_|with_reducible refine cId ?_|with_reducible refine tId ?_|with_reducible refine me ?_|refine Fin.go ?_|skip
 exact k.k):H:=h ⟨k⟩
theorem ap {G H:Prop} (k:G) (h:Y0 G→H:=by
 intro k
 repeat1' first
  |((with_reducible refine tId ?_);first
   |with_reducible refine TO.nil ?_
   |(refine tG 1 rfl ?_;first
     |(refine tK 1 rfl ?_;refine tm rfl ?_)
     |(refine tK 2 rfl ?_;refine tp rfl oF ?_)
     |(refine tK 3 rfl ?_;refine tp rfl oL ?_)
     |(refine tK 4 rfl ?_;refine tp rfl oB ?_))
   |(refine tG 2 rfl ?_;first
     |(refine tK 5 rfl ?_;refine tp rfl oP ?_)
     |(refine tK 6 rfl ?_;refine tp rfl oN ?_)
     |(refine tK 7 rfl ?_;refine tp rfl oA ?_)
     |(refine tK 8 rfl ?_;refine tp rfl oS ?_))
   |(refine tG 3 rfl ?_;first
     |(refine tK 9 rfl ?_;refine tp rfl oC ?_)
     |(refine tK 10 rfl ?_;refine tp rfl oU ?_)
     |(refine tK 12 rfl ?_;refine tp rfl oE ?_)
     |(refine tK 13 rfl ?_;refine tp rfl oM ?_)
     |(refine tK 14 rfl ?_;refine tp rfl oD ?_)
     |(refine tK 15 rfl ?_;refine tp rfl oI ?_))
   |(refine tK 16 rfl ?_;first
    |refine sa 0 ⟨rfl,rfl,rfl⟩ rfl rfl rfl ?_
    |refine TO.Dp 0 rfl rfl (Ru rfl rfl rfl rfl) ?_
    |refine sa 1 ⟨rfl,rfl,rfl⟩ rfl rfl rfl ?_
    |refine TO.Dp 1 rfl rfl (Ru rfl rfl rfl rfl) ?_
    |refine sa 2 ⟨rfl,rfl,rfl⟩ rfl rfl rfl ?_
    |refine TO.Dp 2 rfl rfl (Ru rfl rfl rfl rfl) ?_
    |refine sa 3 ⟨rfl,rfl,rfl⟩ rfl rfl rfl ?_
    |refine TO.Dp 3 rfl rfl (Ru rfl rfl rfl rfl) ?_))
  |((with_reducible refine me ?_);first
   |with_reducible refine Tr.seq ?_
   |with_reducible refine Tr.An ?_
   |with_reducible refine Tr.skip ?_
   |with_reducible refine Tr.block ?_
   |with_reducible refine Tr.ret ?_
   |with_reducible refine Tr.exit ?_)
  |((with_reducible refine fId ?_);first
   |with_reducible refine Fin.AB ?_
   |with_reducible refine Fin.AX ?_
   |with_reducible refine Fin.AS ?_
   |with_reducible refine Fin.Ak ?_
   |refine Fin.Mz rfl ?_
   |with_reducible refine Fin.block ?_)
 first|with_reducible refine Fin.go ?_|with_reducible refine cId ?_|with_reducible refine tId ?_|with_reducible refine me ?_|refine Fin.go ?_|skip
 exact k.k):H:=h ⟨k⟩
theorem ax {G H:Prop} (k:G) (h:Y0 G→H:=by
 intro k
 repeat ((with_reducible refine xId ?_);first
   |(refine xG 1 rfl ?_;first
     |(refine xK 1 rfl ?_;refine xm rfl ?_)
     |(refine xK 2 rfl ?_;refine xo rfl (fun _=>oF) ?_)
     |(refine xK 3 rfl ?_;refine xo rfl (fun _=>oL) ?_)
     |(refine xK 4 rfl ?_;refine xo rfl (fun _=>oB) ?_))
   |(refine xG 2 rfl ?_;first
     |(refine xK 5 rfl ?_;refine xo rfl (fun _=>oP) ?_)
     |(refine xK 6 rfl ?_;refine xo rfl (fun _=>oN) ?_)
     |(refine xK 7 rfl ?_;refine xo rfl (fun _=>oA) ?_)
     |(refine xK 8 rfl ?_;refine xo rfl (fun _=>oS) ?_))
   |(refine xG 3 rfl ?_;first
     |(refine xK 9 rfl ?_;refine xo rfl (fun _=>oC) ?_)
     |(refine xK 10 rfl ?_;refine xo rfl (fun _=>oU) ?_)
     |(refine xK 11 rfl ?_;refine xo rfl (fun _=>oO) ?_)
     |(refine xK 12 rfl ?_;refine xo rfl (fun _=>oE) ?_)
     |(refine xK 13 rfl ?_;refine xo rfl (fun _=>oM) ?_)
     |(refine xK 14 rfl ?_;refine xo rfl (fun _=>oD) ?_))
   |(refine xK 3 rfl ?_;first
    |refine H9 0 rfl rfl (JY rfl rfl rfl) ?_
    |refine H9 0 rfl rfl (JZ rfl rfl rfl rfl) ?_
    |refine H9 1 rfl rfl (JY rfl rfl rfl) ?_
    |refine H9 1 rfl rfl (JZ rfl rfl rfl rfl) ?_
    |refine H9 2 rfl rfl (JY rfl rfl rfl) ?_
    |refine H9 2 rfl rfl (JZ rfl rfl rfl rfl) ?_
    |refine H9 3 rfl rfl (JY rfl rfl rfl) ?_
    |refine H9 3 rfl rfl (JZ rfl rfl rfl rfl) ?_
    |refine H9 4 rfl rfl (JY rfl rfl rfl) ?_
    |refine H9 4 rfl rfl (JZ rfl rfl rfl rfl) ?_))
 exact k.k):H:=h ⟨k⟩
theorem ay {G H:Prop} (k:G) (h:Y0 G→H:=by
 intro k
 repeat ((with_reducible refine xId ?_);first
   |(refine xG 1 rfl ?_;first
     |(refine xK 1 rfl ?_;refine xm rfl ?_)
     |(refine xK 2 rfl ?_;refine xo rfl (fun _=>oF) ?_)
     |(refine xK 3 rfl ?_;refine xo rfl (fun _=>oL) ?_)
     |(refine xK 4 rfl ?_;refine xo rfl (fun _=>oB) ?_))
   |(refine xG 2 rfl ?_;first
     |(refine xK 5 rfl ?_;refine xo rfl (fun _=>oP) ?_)
     |(refine xK 6 rfl ?_;refine xo rfl (fun _=>oN) ?_)
     |(refine xK 7 rfl ?_;refine xo rfl (fun _=>oA) ?_)
     |(refine xK 8 rfl ?_;refine xo rfl (fun _=>oS) ?_))
   |(refine xG 3 rfl ?_;first
     |(refine xK 9 rfl ?_;refine xo rfl (fun _=>oC) ?_)
     |(refine xK 10 rfl ?_;refine xo rfl (fun _=>oU) ?_)
     |(refine xK 11 rfl ?_;refine xo rfl (fun _=>oO) ?_)
     |(refine xK 12 rfl ?_;refine xo rfl (fun _=>oE) ?_)
     |(refine xK 13 rfl ?_;refine xo rfl (fun _=>oM) ?_)
     |(refine xK 14 rfl ?_;refine xo rfl (fun _=>oD) ?_))
   |(refine xK 3 rfl ?_;first
    |refine H9 0 rfl rfl (JY rfl rfl rfl) ?_
    |refine H9 0 rfl rfl (JZ rfl rfl rfl rfl) ?_
    |refine H9 1 rfl rfl (JY rfl rfl rfl) ?_
    |refine H9 1 rfl rfl (JZ rfl rfl rfl rfl) ?_
    |refine H9 2 rfl rfl (JY rfl rfl rfl) ?_
    |refine H9 2 rfl rfl (JZ rfl rfl rfl rfl) ?_
    |refine H9 3 rfl rfl (JY rfl rfl rfl) ?_
    |refine H9 3 rfl rfl (JZ rfl rfl rfl rfl) ?_
    |refine H9 4 rfl rfl (JY rfl rfl rfl) ?_
    |refine H9 4 rfl rfl (JZ rfl rfl rfl rfl) ?_)
   |(refine xK 16 rfl ?_;first
    |refine Cx.Dp 0 rfl rfl (Ru rfl rfl rfl rfl) ?_
    |refine Cx.Dp 1 rfl rfl (Ru rfl rfl rfl rfl) ?_
    |refine Cx.Dp 2 rfl rfl (Ru rfl rfl rfl rfl) ?_
    |refine Cx.Dp 3 rfl rfl (Ru rfl rfl rfl rfl) ?_))
 exact k.k):H:=h ⟨k⟩
theorem Ch.cg {l:List Oper} {b v:Bool} {g j:Nat} {pt pf:Prop} [ht:D_ b true pt] [hf:D_ b false pf] (_:o.guard=some (j,v)) (_:(ops[j]?.bind (·.dst))=some g) (hb:E.lookup g=some (bool b)) (k:b=true→pt→Ch P n I ops (o::l) E K) (k':b=false→pf→Ch P n I ops (o::l) E K):Ch P n I ops (o::l) E K:=Ch.cases g hb (fun h=>k h (ht.Ey h)) (fun h=>k' h (hf.Ey h))
theorem a2 {G H:Prop} (k:G) (h:Y0 G→H:=by
 intro k
 iterate 2 refine ac ?_
 exact k.k):H:=h ⟨k⟩
theorem a3 {G H:Prop} (k:G) (h:Y0 G→H:=by
 intro k
 iterate 3 refine ac ?_
 exact k.k):H:=h ⟨k⟩
theorem an {G L H:Prop} (k:G) (l:L) (h:Y0 G→Y0 L→H:=by
 intro k l
 refine ac ?_
 refine Tr.cn rfl ?_ ?_
 exact k.k
 exact l.k):H:=h ⟨k⟩ ⟨l⟩
theorem ag {G L H:Prop} (k:G) (l:L) (h:Y0 G→Y0 L→H:=by
 intro k l
 refine ac ?_
 refine Ch.cg rfl rfl rfl ?_ ?_
 exact k.k
 exact l.k):H:=h ⟨k⟩ ⟨l⟩
theorem Lr {p:Pr}:Pr.le p p:=Pr.le_refl p
theorem Vo {p:Pr} [One p] (h:Cs E x=some p):VL E x (DF [p]):=VL.le (vl h) (Aj p)
theorem Va {ps:List Pr} (h:Cs E x=some (agg ps)):VL E x (DF ps):=VL.le (vl h) (Aa ps)
theorem Nb {a b:Nat} (h:Nat.ble a b=true):a≤b:=Nat.le_of_ble_eq_true h
theorem Kf {z:Nat} {l:List (List Pr)} (h:Cs E x=some (full z l)):VL E x (slice z l):=⟨_,h,Bp z l⟩
theorem Ka {v:Value} (h:Cs E x=some (Ag v p)):VL E x (is v):=⟨_,h,J6 v p⟩
theorem Kb {v:Value} (h:Cs E x=some (Ag v p)):VL E x p:=⟨_,h,Ah v p⟩
theorem Tl {M0:Av} {w0:World} {S:Nat→Prop} {rs:List As} {T:TypeId} {zs:List Value} (hg:o.guard=none) (hd:o.dst=some d) (hn:Nat.blt d n=true) (ho:o.op= .alloc T) (hz:BJ P T=some zs) (h1':zs.all (·.oneCell')=true)
  (k:∀b,TO P n ops r ((d,is (.pointer (some ⟨b,0,none⟩)))::E) (Hp M0 w0 S (AE true b T (zs.map is)::rs)) Q):TO P n ops (o::r) E (Hp M0 w0 S rs) Q:=TO.alloc hg hd (Gi hn) ho hz h1' k
theorem Bl {M0:Av} {w0:World} {S:Nat→Prop} {t e:TypeId} {sz bytes:Nat} {zs:List Value} {rows Al:List (List Pr)} {R:SR} (hg:o.guard=none) (hd:o.dst=some d) (hn:Nat.blt d n=true) (ho:o.op= .call { callee:= .builtin .append,args:= #[x,y],argTypes:= #[t,t] })
  (ht:P.underlying t=some (.slice e)) (hz:Ax P e=some sz) (hby:Bi P e=some bytes) (EZ:BJ P e=some zs) (hx:VL E x (slice sz rows)) (hy:VL E y (slice sz Al))
  (hR:∀M w (a:Act),CL M w E o a→R.at_ a=Ap e sz (a.eval x)∨(R.at_ a=CD∧Cy (a.eval x)=none)) (hzl:zs.length=sz:=by rfl) (hsz:Nat.blt 0 sz=true:=by rfl)
  (FG:rows.length+Al.length≤maxLen:=by simp only [List.length_map,List.length_append,List.length_cons,List.length_nil,List.length_replicate,List.length_take,List.length_drop];unfold maxLen;omega) (hfit:(rows.length+Al.length)*bytes≤140737488355328:=by simp only [List.length_map,List.length_append,List.length_cons,List.length_nil,List.length_replicate,List.length_take,List.length_drop];omega):Dn P M0 w0 S n j R ⟨d,Ap e sz⟩ o E (slice sz (rows++Al)):=Db hg hd (Gi hn) ho ht hz hby EZ hzl (Gi hsz) hx hy FG hfit hR
end
end Cp
namespace Go.Proofs.YtmpglcehonnpkaaGreat
open Go Cp
instance tU:TM Tryz.prog:=⟨mixed⟩
instance yh:TV Tryz.prog 3 [.int .i64 0]:=⟨z3,zo3⟩
instance wA:T1 Tryz.prog 3:=⟨Bo⟩
instance yE:TZ Tryz.prog 3 1:=⟨Bh⟩
instance wB:T1 Tryz.prog 4:=⟨YQ⟩
instance yF:TZ Tryz.prog 4 1:=⟨S3⟩
instance bp:TU Tryz.prog 4 .bool:=⟨Tryz.underlying4⟩
instance yj:TV Tryz.prog 5 [.int .u8 0]:=⟨z5,zo5⟩
instance wC:T1 Tryz.prog 5:=⟨oq⟩
instance yG:TZ Tryz.prog 5 1:=⟨K6⟩
instance yl:TV Tryz.prog 9 [.string (ByteArray.mk #[])]:=⟨z9,zo9⟩
instance wD:T1 Tryz.prog 9:=⟨MJ⟩
instance yH:TZ Tryz.prog 9 1:=⟨MI⟩
instance bq:TU Tryz.prog 9 .string:=⟨Tryz.underlying9⟩
instance tV:T1 Tryz.prog 22:=⟨ID⟩
instance wE:TZ Tryz.prog 22 1:=⟨K7⟩
instance Y1:TU Tryz.prog 22 (.slice 3):=⟨Tryz.underlying22⟩
instance tW:T1 Tryz.prog 25:=⟨PD⟩
instance Y2:TU Tryz.prog 25 (.slice 70):=⟨Tryz.underlying25⟩
instance tX:T1 Tryz.prog 26:=⟨U4⟩
instance Y3:TU Tryz.prog 26 (.slice 79):=⟨Tryz.underlying26⟩
instance tY:T1 Tryz.prog 27:=⟨YR⟩
instance Y4:TU Tryz.prog 27 (.slice 82):=⟨Tryz.underlying27⟩
instance wF:TB Tryz.prog 29 (fun i=>(#[(0,1),(1,1),(2,1)]:Array (Nat×Nat))[i]?) (List.replicate 3 (.slice none 0 0)):=⟨ow,G1⟩
instance tZ:TA Tryz.prog 29:=⟨Cu⟩
instance wG:TZ Tryz.prog 29 3:=⟨Ct⟩
instance qM:TF Tryz.prog 29 0 0:=⟨HQ⟩
instance qN:TF Tryz.prog 29 1 1:=⟨K8⟩
instance qO:TF Tryz.prog 29 2 2:=⟨K9⟩
instance td:T1 Tryz.prog 30:=⟨gz⟩
instance Y5:TU Tryz.prog 30 (.slice 87):=⟨Tryz.underlying30⟩
instance tg:T1 Tryz.prog 31:=⟨ox⟩
instance Y6:TU Tryz.prog 31 (.slice 109):=⟨Tryz.underlying31⟩
instance wH:TB Tryz.prog 33 (fun i=>(#[(0,1),(1,1),(2,1)]:Array (Nat×Nat))[i]?) (List.replicate 3 (.slice none 0 0)):=⟨K_,Ej⟩
instance th:TA Tryz.prog 33:=⟨CV⟩
instance wI:TZ Tryz.prog 33 3:=⟨B2⟩
instance qP:TF Tryz.prog 33 0 0:=⟨TP⟩
instance qQ:TF Tryz.prog 33 1 1:=⟨jc⟩
instance qR:TF Tryz.prog 33 2 2:=⟨IE⟩
instance tj:T1 Tryz.prog 42:=⟨oy⟩
instance Y7:TU Tryz.prog 42 (.slice 167):=⟨Tryz.underlying42⟩
instance wJ:TB Tryz.prog 44 (fun i=>(#[(0,1)]:Array (Nat×Nat))[i]?) [.slice none 0 0]:=⟨MK,Fa⟩
instance tq:TA Tryz.prog 44:=⟨Cj⟩
instance wK:TZ Tryz.prog 44 1:=⟨CA⟩
instance qS:TF Tryz.prog 44 0 0:=⟨YS⟩
instance tr:T1 Tryz.prog 45:=⟨oz⟩
instance tu:T1 Tryz.prog 48:=⟨o9⟩
instance Y8:TU Tryz.prog 48 (.slice 106):=⟨Tryz.underlying48⟩
instance tv:TA Tryz.prog 50:=⟨Ls⟩
instance wL:TZ Tryz.prog 50 3:=⟨Ri⟩
instance qT:TF Tryz.prog 50 0 0:=⟨je⟩
instance qU:TF Tryz.prog 50 1 1:=⟨jf⟩
instance qV:TF Tryz.prog 50 2 2:=⟨jg⟩
instance tw:T1 Tryz.prog 52:=⟨YT⟩
instance t_:TA Tryz.prog 55:=⟨PF⟩
instance wM:TZ Tryz.prog 55 2:=⟨WQ⟩
instance qW:TF Tryz.prog 55 0 0:=⟨TQ⟩
instance uA:TA Tryz.prog 57:=⟨Rj⟩
instance wN:TZ Tryz.prog 57 2:=⟨YV⟩
instance wO:TB Tryz.prog 61 (fun i=>(#[(0,1),(1,1)]:Array (Nat×Nat))[i]?) [.slice none 0 0,.int .i64 0]:=⟨vM,vN⟩
instance qX:TF Tryz.prog 61 0 0:=⟨jh⟩
instance qY:TF Tryz.prog 61 1 1:=⟨ji⟩
instance uB:T1 Tryz.prog 64:=⟨pE⟩
instance wP:TZ Tryz.prog 64 1:=⟨vO⟩
instance Y9:TU Tryz.prog 64 (.slice 9):=⟨Tryz.underlying64⟩
instance Y_:TU Tryz.prog 66 (.slice 22):=⟨Tryz.underlying66⟩
instance uC:T1 Tryz.prog 68:=⟨hO⟩
instance wQ:TZ Tryz.prog 68 1:=⟨YW⟩
instance ZA:TU Tryz.prog 68 (.slice 75):=⟨Tryz.underlying68⟩
instance wR:TB Tryz.prog 70 (fun i=>(#[(0,1),(1,1),(2,1),(3,1),(4,1),(5,1),(6,1),(7,1),(8,1)]:Array (Nat×Nat))[i]?) [.string (ByteArray.mk #[]),.int .i64 0,.int .i64 0,.slice none 0 0,.bool false,.slice none 0 0,.slice none 0 0,.slice none 0 0,.bool false]:=⟨ck,HR⟩
instance uD:TA Tryz.prog 70:=⟨CW⟩
instance wS:TZ Tryz.prog 70 9:=⟨B5⟩
instance qZ:TF Tryz.prog 70 0 0:=⟨YX⟩
instance qa:TF Tryz.prog 70 1 1:=⟨jk⟩
instance qb:TF Tryz.prog 70 2 2:=⟨TR⟩
instance qc:TF Tryz.prog 70 3 3:=⟨LA⟩
instance qd:TF Tryz.prog 70 4 4:=⟨jl⟩
instance qg:TF Tryz.prog 70 5 5:=⟨NK⟩
instance qh:TF Tryz.prog 70 6 6:=⟨YY⟩
instance qi:TF Tryz.prog 70 7 7:=⟨YZ⟩
instance qj:TF Tryz.prog 70 8 8:=⟨jm⟩
instance wT:TB Tryz.prog 72 (fun i=>(#[(0,1),(1,1)]:Array (Nat×Nat))[i]?) (List.replicate 2 (.int .i64 0)):=⟨jo,De⟩
instance yI:TV Tryz.prog 72 (List.replicate 2 (.int .i64 0)):=⟨z72,De⟩
instance uE:TA Tryz.prog 72:=⟨Hu⟩
instance wU:TZ Tryz.prog 72 2:=⟨JA⟩
instance ql:TF Tryz.prog 72 0 0:=⟨jq⟩
instance qm:TF Tryz.prog 72 1 1:=⟨jr⟩
instance uF:T1 Tryz.prog 73:=⟨pF⟩
instance wV:TZ Tryz.prog 73 1:=⟨vP⟩
instance ZB:TU Tryz.prog 73 (.slice 114):=⟨Tryz.underlying73⟩
instance wW:TB Tryz.prog 75 (fun i=>(#[(0,2),(2,1),(3,1)]:Array (Nat×Nat))[i]?) [.int .i64 0,.int .i64 0,.int .i64 0,.slice none 0 0]:=⟨pG,TS⟩
instance uG:TA Tryz.prog 75:=⟨Rk⟩
instance wX:TZ Tryz.prog 75 4:=⟨E0⟩
instance qn:TF Tryz.prog 75 0 0:=⟨jt⟩
instance qo:TF Tryz.prog 75 1 2:=⟨ju⟩
instance qp:TF Tryz.prog 75 2 3:=⟨jv⟩
instance uH:TA Tryz.prog 79:=⟨Rl⟩
instance wY:TZ Tryz.prog 79 2:=⟨F_⟩
instance qq:TF Tryz.prog 79 0 0:=⟨jx⟩
instance qt:TF Tryz.prog 79 1 1:=⟨jy⟩
instance uI:T1 Tryz.prog 80:=⟨pK⟩
instance ZC:TU Tryz.prog 80 (.slice 119):=⟨Tryz.underlying80⟩
instance wZ:TB Tryz.prog 82 (fun i=>(#[(0,1),(1,1),(2,1),(3,1),(4,1)]:Array (Nat×Nat))[i]?) [.string (ByteArray.mk #[]),.int .i64 0,.int .i64 0,.slice none 0 0,.int .i64 0]:=⟨vQ,Yb⟩
instance yJ:TV Tryz.prog 82 [.string (ByteArray.mk #[]),.int .i64 0,.int .i64 0,.slice none 0 0,.int .i64 0]:=⟨cq,Yb⟩
instance uJ:TA Tryz.prog 82:=⟨U5⟩
instance we:TZ Tryz.prog 82 5:=⟨KG⟩
instance qu:TF Tryz.prog 82 0 0:=⟨j0⟩
instance qv:TF Tryz.prog 82 1 1:=⟨j4⟩
instance qw:TF Tryz.prog 82 2 2:=⟨j5⟩
instance qx:TF Tryz.prog 82 3 3:=⟨TT⟩
instance qy:TF Tryz.prog 82 4 4:=⟨j6⟩
instance uK:TA Tryz.prog 87:=⟨Hv⟩
instance wg:TZ Tryz.prog 87 8:=⟨DO⟩
instance qz:TF Tryz.prog 87 0 0:=⟨j7⟩
instance q_:TF Tryz.prog 87 1 1:=⟨j8⟩
instance rA:TF Tryz.prog 87 2 2:=⟨j9⟩
instance rB:TF Tryz.prog 87 3 3:=⟨j_⟩
instance rC:TF Tryz.prog 87 4 4:=⟨kA⟩
instance rD:T1 Tryz.prog 101:=⟨QS⟩
instance Xl:TU Tryz.prog 101 (.slice 3):=⟨Tryz.underlying101⟩
instance uL:TB Tryz.prog 104 (fun i=>(#[(0,1),(1,1)]:Array (Nat×Nat))[i]?) (List.replicate 2 (.int .i64 0)):=⟨pL,pM⟩
instance mg:TF Tryz.prog 104 0 0:=⟨cr⟩
instance mh:TF Tryz.prog 104 1 1:=⟨cv⟩
instance wh:TV Tryz.prog 106 [.int .i64 0,.int .i64 0,.slice none 0 0]:=⟨WT,NM⟩
instance uM:TZ Tryz.prog 106 3:=⟨G2⟩
instance mj:TF Tryz.prog 106 0 0:=⟨cw⟩
instance mm:TF Tryz.prog 106 1 2:=⟨cx⟩
instance uN:TB Tryz.prog 109 (fun i=>(#[(0,1),(1,1)]:Array (Nat×Nat))[i]?) (List.replicate 2 (.int .i64 0)):=⟨Yc,JF⟩
instance wj:TV Tryz.prog 109 (List.replicate 2 (.int .i64 0)):=⟨z109,JF⟩
instance uO:TZ Tryz.prog 109 2:=⟨Bt⟩
instance mo:TF Tryz.prog 109 0 0:=⟨KJ⟩
instance mq:TF Tryz.prog 109 1 1:=⟨KK⟩
instance rE:TA Tryz.prog 112:=⟨kB⟩
instance uP:TZ Tryz.prog 112 2:=⟨Yd⟩
instance mu:TF Tryz.prog 112 0 0:=⟨cz⟩
instance mw:TF Tryz.prog 112 1 1:=⟨c_⟩
instance wm:TV Tryz.prog 114 [.int .i64 0,.string (ByteArray.mk #[]),.string (ByteArray.mk #[]),.int .i64 0,.int .i64 0,.int .i64 0,.int .i64 0,.int .i64 0,.int .i64 0,.int .i64 0,.bool false,.int .i64 0,.slice none 0 0,.int .i64 0,.int .i64 0]:=⟨TX,NN⟩
instance rF:TA Tryz.prog 114:=⟨Gk⟩
instance uQ:TZ Tryz.prog 114 15:=⟨Dl⟩
instance mz:TF Tryz.prog 114 0 0:=⟨dA⟩
instance m8:TF Tryz.prog 114 1 1:=⟨dB⟩
instance kO:TF Tryz.prog 114 10 12:=⟨Ye⟩
instance kP:TF Tryz.prog 114 11 13:=⟨NO⟩
instance m9:TF Tryz.prog 114 2 2:=⟨dD⟩
instance m_:TF Tryz.prog 114 3 3:=⟨dF⟩
instance nA:TF Tryz.prog 114 4 5:=⟨dG⟩
instance nB:TF Tryz.prog 114 5 6:=⟨dH⟩
instance nC:TF Tryz.prog 114 6 8:=⟨dI⟩
instance nD:TF Tryz.prog 114 7 9:=⟨dJ⟩
instance nE:TF Tryz.prog 114 8 10:=⟨dK⟩
instance nF:TF Tryz.prog 114 9 11:=⟨dL⟩
instance Xm:TU Tryz.prog 117 (.slice 72):=⟨Tryz.underlying117⟩
instance uR:TB Tryz.prog 119 (fun i=>(#[(0,2),(2,1)]:Array (Nat×Nat))[i]?) (List.replicate 3 (.int .i64 0)):=⟨pQ,iD⟩
instance wo:TV Tryz.prog 119 (List.replicate 3 (.int .i64 0)):=⟨z119,iD⟩
instance uS:TZ Tryz.prog 119 3:=⟨IF⟩
instance nG:TF Tryz.prog 119 0 0:=⟨dM⟩
instance nH:TF Tryz.prog 119 1 2:=⟨dN⟩
instance rG:T1 Tryz.prog 134:=⟨Yf⟩
instance rH:T1 Tryz.prog 142:=⟨Yg⟩
instance Xn:TU Tryz.prog 142 (.slice 5):=⟨Tryz.underlying142⟩
instance uT:TB Tryz.prog 148 (fun i=>(#[(0,1),(1,1),(2,2),(4,2),(6,2),(8,2),(10,1),(11,1)]:Array (Nat×Nat))[i]?) [.int .i64 0,.string (ByteArray.mk #[]),.int .i64 0,.int .i64 0,.int .i64 0,.int .i64 0,.int .i64 0,.int .i64 0,.int .i64 0,.int .i64 0,.int .i64 0,.int .i64 0]:=⟨Rm,G3⟩
instance rI:TA Tryz.prog 148:=⟨HS⟩
instance uU:TZ Tryz.prog 148 12:=⟨Ep⟩
instance nI:TF Tryz.prog 148 2 2:=⟨dO⟩
instance nJ:TF Tryz.prog 148 3 4:=⟨dP⟩
instance nK:TF Tryz.prog 148 4 6:=⟨dQ⟩
instance nL:TF Tryz.prog 148 5 8:=⟨dR⟩
instance nM:TF Tryz.prog 148 6 10:=⟨dS⟩
instance nN:TF Tryz.prog 148 7 11:=⟨dU⟩
instance uV:TB Tryz.prog 165 (fun i=>(#[(0,1),(1,1)]:Array (Nat×Nat))[i]?) (List.replicate 2 (.int .i64 0)):=⟨PG,Ed⟩
instance wq:TV Tryz.prog 165 (List.replicate 2 (.int .i64 0)):=⟨H8,Ed⟩
instance rJ:TA Tryz.prog 165:=⟨CU⟩
instance uW:TZ Tryz.prog 165 2:=⟨Bm⟩
instance nO:TF Tryz.prog 165 1 1:=⟨dV⟩
instance uX:TB Tryz.prog 167 (fun i=>(#[(0,1),(1,1),(2,2)]:Array (Nat×Nat))[i]?) [.int .i64 0,.slice none 0 0,.int .i64 0,.int .i64 0]:=⟨U7,NP⟩
instance wu:TV Tryz.prog 167 [.int .i64 0,.slice none 0 0,.int .i64 0,.int .i64 0]:=⟨z167,NP⟩
instance uY:TZ Tryz.prog 167 4:=⟨Er⟩
instance Xo:TU Tryz.prog 171 (.slice 174):=⟨Tryz.underlying171⟩
instance wv:TV Tryz.prog 174 [.slice none 0 0]:=⟨pX,pW⟩
instance rK:T1 Tryz.prog 174:=⟨kC⟩
instance uZ:TZ Tryz.prog 174 1:=⟨U8⟩
instance Xp:TU Tryz.prog 174 (.slice 101):=⟨Tryz.underlying174⟩
instance rL:T1 Tryz.prog 185:=⟨QT⟩
instance uc:TB Tryz.prog 187 (fun i=>(#[(0,1),(1,1),(2,1),(3,1)]:Array (Nat×Nat))[i]?) [.int .i64 0,.slice none 0 0,.bool false,.slice none 0 0]:=⟨Yh,JG⟩
instance rM:TA Tryz.prog 187:=⟨Cn⟩
instance ud:TZ Tryz.prog 187 4:=⟨CF⟩
instance nP:TF Tryz.prog 187 0 0:=⟨dW⟩
instance nQ:TF Tryz.prog 187 1 1:=⟨QU⟩
instance nR:TF Tryz.prog 187 2 2:=⟨dX⟩
instance nS:TF Tryz.prog 187 3 3:=⟨KL⟩
instance ue:TB Tryz.prog 193 (fun i=>(#[(0,1),(1,1)]:Array (Nat×Nat))[i]?) [.string (ByteArray.mk #[]),.int .i64 0]:=⟨pZ,iG⟩
instance wz:TV Tryz.prog 193 [.string (ByteArray.mk #[]),.int .i64 0]:=⟨z193,iG⟩
instance uf:TZ Tryz.prog 193 2:=⟨iF⟩
instance nT:TF Tryz.prog 193 1 1:=⟨dY⟩
instance Xq:TU Tryz.prog 194 (.slice 193):=⟨Tryz.underlying194⟩
instance Xr:TU Tryz.prog 234 (.slice 165):=⟨Tryz.underlying234⟩
end Go.Proofs.YtmpglcehonnpkaaGreat
namespace Go.Proofs.YtmpglcehonnpkaaGreat
open Go Go.RowKit Cp Go.Proofs.Tryz
abbrev Cv (b:Nat) (s:DS):As:=Re 61 b s
theorem dz (n:Int) {k:Int} (hk:1≤k):(n.tmod k+k).tmod k=n % k:=by
 have h1: -k<n.tmod k:=by have:=Int.lt_tmod_of_pos n (b:=k) (by omega);omega
 rw [Int.tmod_eq_emod_of_nonneg (by omega),Int.tmod_def,show n-k*n.tdiv k+k=n+k*(1-n.tdiv k) by rw [Int.mul_sub];omega,Int.add_mul_emod_self_left]
theorem kQ (n:Int) {k:Int} (hk:1≤k): -k<n.tmod k∧n.tmod k<k:=by
 have h1:=Int.lt_tmod_of_pos n (b:=k) (by omega)
 have h2:=Int.tmod_lt_of_pos n (b:=k) (by omega)
 omega
theorem d_ {l:List Int}  :Az prog 4 [ints l] (bool (decide (l.length≤400))):=by
 refine fo func4 rfl ⟨rfl,rfl⟩ fun M0 w0=> ?_
 refine a3 ?_
 · refine bool_eq ?_;simp_all;omega
theorem rN {n k:Int} (hk:1≤k) (hk2:k≤1000000000):Az prog 40 [int n,int k] (int (n % k)):=by
 refine fo func40 rfl ⟨rfl,rfl⟩ fun M0 w0=> ?_
 have hm:=kQ n hk
 have hp:=dz n hk
 · repeat' first|(exfalso;omega)|(refine int_eq ?_;exact hp)|refine co rfl (QD rfl (vl rfl) (vl rfl) (by omega)) ?_|refine ac ?_|(refine Tr.cn rfl ?_ ?_<;>intro h q)
theorem CC {b:Nat} {s:DS} {n:Int} (hn:1≤n) (hn2:n≤1000000000):C2 prog 19 [ptr b 0,int n] (int (s.val n)) (Cv b s) (fun _=>Cv b s.CE):=by
 refine C2.of func19 rfl rfl (by exact Nb rfl) fun M0 w0 S rs M1 w1=> ?_
 have hs:=s.h
 have Rv:=s.h2
 refine ac ?_
 refine an ?_ ?_<;>intro h1 q1
 refine ac ?_
 refine Tr.ret (Fin.AB ?_)
 rw [DS.cj (s:=s) (by omega)]
 refine Fin.Fx [] rfl (AP.tmp rfl (Lr)) ?_ (fun _ _ _ _=>rfl)
 · refine int_eq ?_;exact (DS.cZ (by omega) n).symm
 have hlt:s.at_<s.l.length:=by omega
 obtain ⟨x,hx⟩:=at_ hlt
 refine ac ?_
 refine ap ?_
 refine CY 0 1 rfl ?_
 refine ac ?_
 refine co rfl (AA rfl underlying22 Bh (vl rfl) (vl rfl) (by omega) (by rw [show ((s.at_:Nat):Int)+1-1=((s.at_:Nat):Int) by omega];exact AO hx)) ?_
 refine ac ?_
 refine co rfl (CS (rN (by omega) (by omega)) rfl rfl rfl) ?_
 refine ac ?_
 refine Eh 4 rfl (Tr.ret ?_)
 rw [DS.jW hlt]
 refine Fin.Fx [] rfl (AP.tmp rfl (Lr)) ?_ (fun _ _ _ _=>rfl)
 · refine int_eq ?_;exact (DS.jV hx n).symm
theorem Rw {b:Nat} {s:DS} {l:List Int} (hl:l≠[]) (nU:l.length≤1000000000):C2 prog 15 [ptr b 0,ints l] (int (s.of l)) (Cv b s) (fun _=>Cv b s.CE):=by
 refine C2.of func15 rfl rfl (by exact Nb rfl) fun M0 w0 S rs M1 w1=> ?_
 have hl0:1≤(l.length:Int):=by have:=List.length_pos_iff.2 hl;omega
 have hv:=s.Cf hl0
 obtain ⟨x,hx⟩:=at_ (l:=l) (k:=(s.val l.length).toNat) (by omega)
 refine ac ?_
 refine ap ?_
 refine TO.Jv 0 rfl rfl (by decide) (Aw rfl rfl (by decide) rfl (CC (by omega) (by omega)) ⟨ke rfl,ke rfl,trivial⟩) (tp rfl (AA rfl underlying22 Bh (vl rfl) (vl rfl) (by omega) (BB hx)) ?_)
 refine ap ?_
 refine Tr.ret (Fin.Fx [] rfl (AP.tmp rfl (Lr)) ?_ (fun _ _ _ _=>rfl))
 · refine int_eq ?_;unfold DS.of;rw [hx];rfl
theorem ZD {b:Nat} {s:DS} {n:Int} (hn:1≤n) (hn2:n≤1000000000):C2 prog 20 [ptr b 0,int n] (bool (s.val n==n-1)) (Cv b s) (fun _=>Cv b s.CE):=by
 refine C2.of func20 rfl rfl (by exact Nb rfl) fun M0 w0 S rs M1 w1=> ?_
 refine ac ?_
 refine ap ?_
 refine TO.Jv 0 rfl rfl (by decide) (Aw rfl rfl (by decide) rfl (CC (by omega) (by omega)) ⟨ke rfl,ke rfl,trivial⟩) ?_
 refine ap ?_
 refine Tr.ret (Fin.Fx [] rfl (AP.tmp rfl (Lr)) ?_ (fun _ _ _ _=>rfl))
 · exact Lr
def eA (l:List Int) (hl:l.length≤1000000000) (v:Value):As:=match v with| .pointer (some a)=>Re 61 a.block ⟨l,0,Nat.zero_le _,hl⟩|_=>CD
theorem kR {l:List Int} (hl:l.length≤1000000000):C2 prog 7 [ints l] (ex fun b=>ptr b 0) (CD) (eA l hl):=by
 refine C2.of func7 rfl rfl (by exact Nb rfl) fun M0 w0 S rs M1 w1=> ?_
 refine ac ?_
 refine ap ?_
 refine TO.cM rfl rfl (by decide) rfl (Va rfl) (fun b1=> ?_)
 refine ap ?_
 refine Tr.ret (Fin.drop 1 ?_)
 refine Fin.Fx [] rfl (AP.tmp rfl (Lr)) ?_ (by rintro _ _ _ rfl;rfl)
 · exact AG b1 (Lr)
-- no type cipherplan/api.Fact here
-- no type cipherplan/api.ug here
-- no type cipherplan/yK.place here
theorem iP {d:Nat} {w:World} {x0 y0:Int} {x1 y1:Int}:(Op.equalIn (d+2) 72 (.agg #[.int .i64 x0,.int .i64 x1]) (.agg #[.int .i64 y0,.int .i64 y1])).run Tryz.prog w= .ok (decide (x0=y0∧x1=y1)) w:=by
 have h:=eqS (w:=w) (d:=d+1) (xs:= #[.int .i64 x0,.int .i64 x1]) (ys:= #[.int .i64 y0,.int .i64 y1]) Tryz.underlying72 (by kernel_rfl) (ED (by decide) (Bn Bo rfl) (Bn Bo rfl) (FA (d:=d+0) Tryz.underlying3) (ED (by decide) (Bn Bo rfl) (Bn Bo rfl) (FA (d:=d+0) Tryz.underlying3) (KM)))
 refine h.trans (congrArg (fun b=>Result.ok b w) ?_)
 rw [Bool.eq_iff_iff];simp [and_assoc]
theorem eB {E:Env} {I:CT} {o:Oper} {u:TypeId} {x y:Operand} {x0 y0:Int} {x1 y1:Int} (ho:o.op= .binOp .eql 72 x y u) (hx:VL E x (agg [is (.int .i64 x0),is (.int .i64 x1)])) (hy:VL E y (agg [is (.int .i64 y0),is (.int .i64 y1)])):Ac Tryz.prog I o E (bool (decide (x0=y0∧x1=y1))):=
 NS [.int .i64 x0,.int .i64 x1] [.int .i64 y0,.int .i64 y1] ho hx hy (by kernel_rfl) (fun w=>by rw [show Op.equal 72 _ _=Op.equalIn (9998+2) 72 _ _ from rfl];exact iP)
theorem MY {E:Env} {I:CT} {o:Oper} {u:TypeId} {x y:Operand} {x0 y0:Int} {x1 y1:Int} (ho:o.op= .binOp .neq 72 x y u) (hx:VL E x (agg [is (.int .i64 x0),is (.int .i64 x1)])) (hy:VL E y (agg [is (.int .i64 y0),is (.int .i64 y1)])):Ac Tryz.prog I o E (bool (!decide (x0=y0∧x1=y1))):=
 NT [.int .i64 x0,.int .i64 x1] [.int .i64 y0,.int .i64 y1] ho hx hy (by kernel_rfl) (fun w=>by rw [show Op.equal 72 _ _=Op.equalIn (9998+2) 72 _ _ from rfl];exact iP)
def ZE (a b:Int):Int:=if a<b then -1 else if b<a then 1 else 0
def nV (c:UInt8):Bool:=decide (33≤c.toNat∧c.toNat≤126)
def named (s:List UInt8):Bool:=s.all nV&&decide (1≤s.length∧s.length≤32)
theorem Qe {β:Type} {p:β→Bool} {l:List β} {k:Nat} {x:β} (hx:l[k]? =some x) (hp:p x=false):l.all p=false:=by
 rw [Bool.eq_false_iff];intro h;rw [List.all_eq_true] at h;rw [h x (List.mem_of_getElem? hx)] at hp;cases hp
theorem KR {β:Type} {p:β→Bool} {l:List β} (h:∀j y,j<l.length→l[j]? =some y→(!p y)=false):l.all p=true:=by
 rw [List.all_eq_true]
 intro y hy
 obtain ⟨j,hj⟩:=List.mem_iff_getElem?.1 hy
 have:=h j y (by rcases Nat.lt_or_ge j l.length with h|h;exact h;rw [List.getElem?_eq_none h] at hj;cases hj) hj
 simpa using this
theorem ZF {n:Int}  :Az prog 39 [int n] (bool false):=by
 refine fo func39 rfl ⟨rfl,rfl⟩ fun M0 w0=> ?_
 refine a3 ?_
 · exact bool_eq (by simp)
theorem kS {a b:Int}  :Az prog 18 [int a,int b] (int (ZE a b)):=by
 refine fo func18 rfl ⟨rfl,rfl⟩ fun M0 w0=> ?_
 · repeat' first|exact absurd h (by decide)|(refine int_eq ?_;unfold ZE;(repeat split)<;>omega)|refine co rfl (Ce (ZF) rfl rfl) ?_|refine ac ?_|(refine Tr.cn rfl ?_ ?_<;>intro h q)
theorem Fb {s:List UInt8}  :Az prog 64 [str s] (bool (named s)):=by
 refine fo func64 rfl ⟨rfl,rfl⟩ fun M0 w0=> ?_
 refine ac ?_
 refine ag ?_ ?_<;>intro h1 q1
 refine a3 ?_
 · refine bool_eq ?_;unfold named;rw [Bool.and_eq_false_iff.2 (.inr (by simp;omega))]
 refine an ?_ ?_<;>intro h2 q2
 refine a2 ?_
 · refine bool_eq ?_;unfold named;rw [Bool.and_eq_false_iff.2 (.inr (by simp;omega))]
 refine a2 ?_
 refine Tr.block (Tr.A7 [(0,_)] ⟨ke rfl,trivial⟩ (fun k:Nat=>[(3,int ((k:Nat):Int))]) (fun k:Nat=>k≤(s).length∧(∀j y,j<k→s[j]? =some y→(!nV y)=false)) (fun k:Nat=>(s).length-k) 0 (⟨Nat.zero_le _,fun j y hj=>absurd hj (by omega)⟩) ⟨ke rfl,trivial⟩ ?_)
 rintro k ⟨BN,Ab⟩
 refine an ?_ ?_<;>intro h3 q3
 have Af:k<(s).length:=AH h3
 obtain ⟨c,Ad⟩:=at_ Af
 · repeat' first|(refine bool_eq ?_;unfold named;rw [Qe (p:=nV) Ad (by simp [nV];omega)];rfl)|(exact Fin.AM (k+1) ⟨⟨Af,EM (p:=fun c=> !nV c) Ad (by simp [nV];omega) Ab⟩,by omega⟩ ⟨⟨_,rfl,AD k⟩,ke rfl,trivial⟩)|refine co rfl (QW rfl underlying9 (vl rfl) (vl rfl) (by omega) (QX (by assumption))) ?_|refine cy h rfl (QW rfl underlying9 (vl rfl) (vl rfl) (by omega) (QX (by assumption))) ?_|refine ac ?_|(refine Tr.cn rfl ?_ ?_<;>intro h q)|(refine Ch.cg rfl rfl rfl ?_ ?_<;>intro h q)
 have BI:k=(s).length:=by have:=AJ h3;omega
 subst BI
 refine a3 ?_
 · refine bool_eq ?_;unfold named;rw [KR Ab,Bool.true_and];symm;rw [decide_eq_true_eq];omega
structure Th where
 name:List UInt8
 kind:Int
 way:Int
 sizes:List Int
 PN:List Int
def G5:List Th:=[⟨[],0,0,[],[]⟩,⟨[109,100,53],1,0,[],[18]⟩,⟨[115,104,97,49],1,0,[],[60]⟩,⟨[115,104,97,50,53,54],1,0,[],[128]⟩,⟨[115,104,97,51,56,52],1,0,[],[192]⟩,⟨[114,115,97],2,1,[],[]⟩,⟨[100,115,97],2,1,[],[]⟩,⟨[101,99,100,115,97],2,2,[],[]⟩,⟨[101,100,50,53,53,49,57],2,0,[],[128]⟩,⟨[109,108,100,115,97],2,3,[44,65,87],[128,192,256]⟩,⟨[114,115,97,107,120],3,1,[],[]⟩,⟨[100,104,101],3,1,[],[]⟩,⟨[101,99,100,104,101],3,2,[],[]⟩,⟨[109,108,107,101,109],3,3,[512,768,1024],[128,192,256]⟩,⟨[114,99,52],4,3,[40,128],[40,60]⟩,⟨[100,101,115,51],4,3,[112,168],[80,112]⟩,⟨[97,101,115,99,98,99],4,3,[128,256],[128,256]⟩,⟨[97,101,115,103,99,109],4,3,[128,256],[128,256]⟩,⟨[99,104,97,99,104,97],4,0,[],[256]⟩,⟨[104,109,97,99,109,100,53],5,0,[],[64]⟩,⟨[104,109,97,99,115,104,97,49],5,0,[],[80]⟩,⟨[104,109,97,99,115,104,97,50,53,54],5,0,[],[128]⟩,⟨[97,101,97,100],5,0,[],[256]⟩]
def VF:Th:=⟨[],0,0,[],[]⟩
def Du (Bq:Int):Th:=if 1≤Bq∧Bq≤22 then (G5[Bq.toNat]?).getD VF else VF
theorem Lw {Bq:Int} (h:1≤Bq∧Bq≤22):G5[Bq.toNat]? =some (Du Bq):=by
 have hl:Bq.toNat<G5.length:=by show Bq.toNat<23;omega
 unfold Du;rw [if_pos h,List.getElem?_eq_getElem hl];rfl
theorem WW {Bq:Int} (h:1≤Bq∧Bq≤22):Du Bq∈G5:=List.mem_of_getElem? (Lw h)
def mods:List (Int×Int):=[(1024,56),(2048,80),(3072,112),(7680,128),(15360,192)]
def rO:List (Int×Int)→Int→Int
 |[],_=>256
 |p::l,b=>if b<p.1 then p.2 else rO l b
def kT (b:Int):Int:=rO mods b
def Ry:List Int:=[160,224,256,384,521]
def C6 (Bq bits:Int):Int:=
 if 1 ≤ Bq ∧ Bq ≤ 22 then
  if (Du Bq).way=0 then (if bits=0 then ((Du Bq).PN[0]?).getD 0 else 0)
  else if (Du Bq).way=1 then (if 512≤bits∧bits≤16384 then kT bits else 0)
  else if (Du Bq).way=2 then (if (Ry.any fun x=>bits==x)=true then bits.tdiv 2 else 0)
  else if (Du Bq).way=3 then (if 0≤idx (fun x=>bits==x) (Du Bq).sizes then ((Du Bq).PN[(idx (fun x=>bits==x) (Du Bq).sizes).toNat]?).getD 0 else 0)
  else 0
 else 0
structure Hx where
 IJ:Int
 LF:List UInt8
 Iw:List UInt8
 Og:Int
 JI:Int
 B8:Int
 Ti:Int
 Ng:Int
 from_:Int
 LG:Int
 auth:Bool
 path:Int
 names:List (List UInt8)
 eC:Int
 eD:Int
abbrev eE (l:List (List UInt8)):Pr:=slice 1 (l.map fun t=>[str t])
abbrev Es (c:Hx):List Pr:=[int c.IJ,str c.LF,str c.Iw,int c.Og,int c.JI,int c.B8,int c.Ti,int c.Ng,int c.from_,int c.LG,bool c.auth,int c.path,eE c.names,int c.eC,int c.eD]
abbrev Lx (l:List Hx):Pr:=slice 15 (l.map Es)
structure Hx.fits (c:Hx):Prop where
 LF:c.LF.length≤maxLen
 Iw:c.Iw.length≤maxLen
 names:∀s∈c.names,s.length≤maxLen
def Fz (n:Int):Bool:=decide (0≤n)&&decide (n≤2147483648)
def kU (n:Int):Bool:=decide (0≤n)&&decide (n<4294967296)
def Iy (o:List UInt8) (c:UInt8):Bool:=decide (97≤c.toNat∧c.toNat≤122)||decide (65≤c.toNat∧c.toNat≤90)||decide (48≤c.toNat∧c.toNat≤57)||decide (0≤Lib.indexByte o c)
def Ly (s:List UInt8):Bool:=s.all (Iy [45,95,46])&&decide (1≤s.length∧s.length≤32)
def nameAt (l:List (List UInt8)) (i:Nat):Bool:=named (l[i]?.getD [])&&(decide (i=0)||decide (Lib.compareBytes (l[i-1]?.getD []) (l[i]?.getD [])= -1))
def F0 (l:List (List UInt8)):Bool:=allI (nameAt l) l.length&&decide (l.length≤8)
def Fc (Bq bits kind:Int):Bool:=decide (C6 Bq bits>0)&&(Du Bq).kind==kind
def DI (c:Hx):Bool:=
 (decide (0≤c.IJ)&&decide (c.IJ≤1099511627776)&&named c.LF&&named c.Iw&&F0 c.names)&&
 (Fc c.Og c.JI 2&&Fz c.B8&&Fc c.Ti c.Ng 1&&Fz c.eC&&kU c.eD)&&
 (decide (0≤c.from_)&&decide (c.from_≤c.LG)&&decide (c.LG≤40000))&&(decide (0≤c.path)&&decide (c.path≤8)&&(c.auth||c.path==0))
def Qf (Bq bits id:Int) (l:List Hx):Bool:=Fc Bq bits 2&&Fz id&&decide (l.length≤8)&&l.all DI&&match l with|[]=>true|c::_=>decide (c.Og=Bq∧c.JI=bits)&&c.B8==id
structure H_ where
 Bq:Int
 bits:Int
 B8:Int
 chain:List Hx
abbrev G6 (x:H_):List Pr:=[int x.Bq,int x.bits,int x.B8,Lx x.chain]
abbrev w4 (l:List H_):Pr:=slice 4 (l.map G6)
def H_.fits (x:H_):Prop:=∀c∈x.chain,c.fits
structure Bk where
 name:List UInt8
 least:Int
 most:Int
 Ao:List Int
 own:Bool
 ids:List H_
 anchors:List Int
 hashes:List Int
 KS:Bool
abbrev BP (e:Bk):List Pr:=[str e.name,int e.least,int e.most,ints e.Ao,bool e.own,w4 e.ids,ints e.anchors,ints e.hashes,bool e.KS]
structure Bk.fits (e:Bk):Prop where
 name:e.name.length≤maxLen
 ids:∀x∈e.ids,x.fits
def G7 (l:List Int) (i:Nat):Bool:=decide (i=0)||decide (l[i-1]?.getD 0<l[i]?.getD 0)
def WX (l:List Int):Bool:=allI (G7 l) l.length
def FB (l:List Int) (i:Nat):Bool:=decide (1≤l[i]?.getD 0∧l[i]?.getD 0≤16)&& !((l.take i).any fun x=>l[i]?.getD 0==x)
def Iz (l:List Int):Bool:=allI (FB l) l.length
def Nh (n:Int):Bool:=(Du n).kind==1
def iQ (x:H_):Bool:=Qf x.Bq x.bits x.B8 x.chain
def FH (e:Bk):Bool:=
 (Ly e.name&&decide (1≤e.least)&&decide (e.least≤e.most)&&decide (e.most≤4)&&Iz e.Ao)&&
 (decide (e.ids.length≤4)&&decide (e.anchors.length≤16)&&WX e.anchors&&WX e.hashes)&&e.ids.all iQ&&e.anchors.all Fz&&e.hashes.all Nh
theorem getD_at {β:Type} {l:List β} {k:Nat} {x d:β} (h:l[k]? =some x):l[k]?.getD d=x:=by rw [h];rfl
abbrev Co:List Pr:=[any,any,any,any,any,any,any,any,any,any,any,any]
abbrev KT:List (List Pr):=[Co,Co,Co,Co,Co,Co,Co,Co,Co,Co,Co,Co,Co,Co,Co,Co]
theorem ZG {k:Nat} (hk:k<16):KT[k]? =some Co:=by
 have hk':k<KT.length:=hk
 rw [List.getElem?_eq_getElem hk']
 have:∀r∈KT,r=Co:=by intro r hr;simp at hr;exact hr
 rw [this _ (List.getElem_mem hk')]
theorem WY {i:Nat} {p:Pr} (h:Co[i]? =some p):p=any:=by have:=List.mem_of_getElem? h;simp at this;exact this
theorem Qg {ps:List Pr} (h:ps.length=12):Pr.le (agg ps) (agg Co):=fun M w v ⟨cs,h1,h2,h3⟩=>⟨cs,h1,h2,HL.gY (by rw [h3.length,h];rfl) fun i p v hp _=>by rw [WY hp];trivial⟩
def ZH (Bq bits id:Int) (l:List Hx):Bool:=match l with|[]=>true|c::_=>decide (c.Og=Bq∧c.JI=bits)&&c.B8==id
theorem WZ {Bq bits id:Int} {l:List Hx} (h:l.length=0):ZH Bq bits id l=true:=by rw [List.eq_nil_of_length_eq_zero h];rfl
theorem Rz {Bq bits id:Int} {l:List Hx} {c:Hx} (h:l[0]? =some c):ZH Bq bits id l=(decide (c.Og=Bq∧c.JI=bits)&&c.B8==id):=by
 cases l with
 |nil=>simp at h
 |cons a l=>simp at h;subst h;rfl
theorem ET (Bq bits id:Int) (l:List Hx):Qf Bq bits id l=(Fc Bq bits 2&&Fz id&&decide (l.length≤8)&&l.all DI&&ZH Bq bits id l):=rfl
structure H_.small (x:H_):Prop where
 chain:x.chain.length≤925904528640
 names:∀c∈x.chain,c.names.length≤8796093022208
structure BK where
 AV:Int
 kind:Int
 number:Int
 at_:Int
 Ck:H_
abbrev EP (c:BK):List Pr:=[int c.AV,int c.kind,int c.number,int c.at_,int c.Ck.Bq,int c.Ck.bits,int c.Ck.B8,Lx c.Ck.chain]
def BR (key:Int) (l:List H_):Int:=idx (fun x=>x.B8==key) l
theorem MZ {β:Type} {p:β→Bool} {l:List β} (h:0≤idx p l):∃x,l[(idx p l).toNat]? =some x∧p x=true∧(idx p l).toNat<l.length:=by
 unfold idx at*
 cases hf:l.findIdx? p with
 |none=>rw [hf] at h;simp at h
 |some i=>
  rw [List.findIdx?_eq_some_iff_getElem] at hf
  obtain ⟨h1,h2,_⟩:=hf
  refine ⟨l[i],?_,h2,by simpa using h1⟩
  simp
theorem Yw.perm {P:Program} {f:FuncId} {args:List Pr} {pre post post':List As} {res:Pr} (h:Yw P f args pre res post) (hp:post.Perm post'):Yw P f args pre res post':=
 ⟨h.1,fun M0 w0 S rs M w vs hI hv=>(h.2 M0 w0 S rs M w vs hI hv).mono fun _e _w' ⟨v,M',x,h1,h2,h3,h4,h5⟩=>⟨v,M',x,h1,h2,h3,h4,A8.perm (hp.append_right rs) h5⟩⟩
def VG (x:H_):Bool:=decide (x.Bq=0∧x.bits=0)&&x.B8==0&&(((x.chain.length:Nat):Int)==0)
def Ni (c:BK):Bool:=if c.kind=1 then VG c.Ck else if c.kind=5 then c.number==0 else c.at_==0&&VG c.Ck
structure Bk.small (e:Bk):Prop where
 Ao:e.Ao.length≤1000000
 anchors:e.anchors.length≤1000000
 hashes:e.hashes.length≤1000000
 PO:e.ids.length≤1000000
 ids:∀x∈e.ids,x.small
def IK (b:Int) (l m:List Int):Int:=if 0≤idx (fun x=>b==x) l then (m[(idx (fun x=>b==x) l).toNat]?).getD 0 else 0
theorem Wa {b:Int} {l m:List Int} {k:Nat} {x z:Int} (hx:l[k]? =some x) (he:x=b) (hz:m[k]? =some z) (h:∀j y,j<k→l[j]? =some y→(b==y)=false):z=IK b l m:=by
 have:=Dx (p:=fun x=>b==x) hx (by simp [he]) h
 unfold IK;rw [←this,if_pos (by omega),Int.toNat_natCast,hz];rfl
theorem Tj {b:Int} {l m:List Int} (h:∀j y,j<l.length→l[j]? =some y→(b==y)=false):0=IK b l m:=by
 have:=G4 (p:=fun x=>b==x) h
 unfold IK;rw [←this,if_neg (by omega)]
def Dm (Bq:Int):Int:=if Bq=1 then 18 else if Bq=2 then 60 else if Bq=3∨Bq=8∨Bq=21 then 128 else if Bq=4 then 192 else if Bq=18∨Bq=22 then 256 else if Bq=19 then 64 else if Bq=20 then 80 else 0
def Hy (b:Int):Int:=if b<512∨b>16384 then 0 else if b<1024 then 56 else if b<2048 then 80 else if b<3072 then 112 else if b<7680 then 128 else if b<15360 then 192 else 256
theorem ZI (b:Int):Hy b=if 512≤b∧b≤16384 then kT b else 0:=by
 have h1:kT b=if b<1024 then 56 else if b<2048 then 80 else if b<3072 then 112 else if b<7680 then 128 else if b<15360 then 192 else 256:=rfl
 rw [h1];unfold Hy
 by_cases h:512≤b∧b≤16384
 · rw [if_pos h,if_neg (by omega)]
 · rw [if_neg h,if_pos (by omega)]
theorem HT {b:Int} {l m:List Int} (hl:l.length≤m.length):Az prog 115 [int b,ints l,ints m] (int (IK b l m)):=by
 refine fo func115 rfl ⟨rfl,rfl⟩ fun M0 w0=>(Tr.C8 1 rfl fun Hz=> ?_)
 refine a2 ?_
 refine Tr.block (Tr.A7 [(0,_),(1,_),(2,_)] (MW rfl) (fun k:Nat=>[(7,int ((k:Nat):Int))]) (fun k:Nat=>k≤(l).length∧(∀j y,j<k→l[j]? =some y→(b==y)=false)) (fun k:Nat=>(l).length-k) 0 (⟨Nat.zero_le _,fun j y hj=>absurd hj (by omega)⟩) ⟨ke rfl,trivial⟩ ?_)
 rintro k ⟨BN,Ab⟩
 refine an ?_ ?_<;>intro h1 q1
 have Af:k<(l).length:=AH h1
 obtain ⟨x,Ad⟩:=at_ Af
 obtain ⟨z,hz⟩:=at_ (l:=m) (k:=k) (by omega)
 · repeat' first|exact int_eq (Wa Ad (by assumption) hz Ab)|(exact Fin.AM (k+1) ⟨⟨Af,EM (p:=fun x=>b==x) Ad (by simp;omega) Ab⟩,by omega⟩ ⟨⟨_,rfl,AD k⟩,ke rfl,ke rfl,ke rfl,trivial⟩)|refine co rfl (AA rfl underlying22 Bh (vl rfl) (vl rfl) (by omega) (by exact AO (by assumption))) ?_|refine ac ?_|(refine Tr.cn rfl ?_ ?_<;>intro h q)
 have BI:k=(l).length:=by have:=AJ h1;omega
 subst BI
 refine a3 ?_
 · exact int_eq (Tj Ab)
theorem ZJ {Bq:Int}  :Az prog 116 [int Bq] (int (Dm Bq)):=by
 refine fo func116 rfl ⟨rfl,rfl⟩ fun M0 w0=> ?_
 refine a2 ?_
 refine an ?_ ?_<;>intro h1 q1
 refine a2 ?_
 · refine int_eq ?_;unfold Dm;(repeat (rw [if_pos (by omega)]))
 refine an ?_ ?_<;>intro h2 q2
 refine a2 ?_
 · refine int_eq ?_;unfold Dm;(repeat (first|rw [if_pos (by omega)]|rw [if_neg (by omega)]))
 refine an ?_ ?_<;>intro h3 q3
 refine ac ?_
 refine Tr.cond rfl (fun _=> ?_) (fun h=>nomatch h3.symm.trans h)
 refine a2 ?_
 · refine int_eq ?_;unfold Dm;(repeat (first|rw [if_pos (by omega)]|rw [if_neg (by omega)]))
 refine an ?_ ?_<;>intro h4 q4
 refine ac ?_
 refine Tr.cond rfl (fun _=> ?_) (fun h=>nomatch h4.symm.trans h)
 refine a2 ?_
 · refine int_eq ?_;unfold Dm;(repeat (first|rw [if_pos (by omega)]|rw [if_neg (by omega)]))
 refine an ?_ ?_<;>intro h5 q5
 refine a2 ?_
 · refine int_eq ?_;unfold Dm;(repeat (first|rw [if_pos (by omega)]|rw [if_neg (by omega)]))
 refine ac ?_
 refine CY 3 12 rfl ?_
 refine Tr.cn rfl ?_ ?_<;>intro h6 q6
 refine a2 ?_
 · refine int_eq ?_;unfold Dm;(repeat (first|rw [if_pos (by omega)]|rw [if_neg (by omega)]))
 refine an ?_ ?_<;>intro h7 q7
 refine ac ?_
 refine Tr.cond rfl (fun _=> ?_) (fun h=>nomatch h7.symm.trans h)
 refine a2 ?_
 · refine int_eq ?_;unfold Dm;(repeat (first|rw [if_pos (by omega)]|rw [if_neg (by omega)]))
 · repeat' first|(refine int_eq ?_;unfold Dm;(repeat (first|rw [if_pos (by omega)]|rw [if_neg (by omega)])))|(refine int_eq ?_;unfold Dm;(repeat (rw [if_neg (by omega)])))|refine ac ?_|(refine Tr.cn rfl ?_ ?_<;>intro h q)
theorem HU {b:Int}  :Az prog 114 [int b] (int (Hy b)):=by
 refine fo func114 rfl ⟨rfl,rfl⟩ fun M0 w0=> ?_
 refine ac ?_
 refine ac ?_
 refine Ch.cs 6 rfl ?_ ?_<;>intro h1 q1
 refine ac ?_
 refine ac ?_
 refine ac ?_
 · refine int_eq ?_;unfold Hy;(repeat (rw [if_pos (by omega)]))
 refine ac ?_
 refine Tr.cn rfl ?_ ?_<;>intro h2 q2
 refine ac ?_
 refine ac ?_
 · refine int_eq ?_;unfold Hy;(repeat (rw [if_pos (by omega)]))
 refine ac ?_
 refine Tr.cn rfl ?_ ?_<;>intro h3 q3
 refine ac ?_
 refine ac ?_
 · refine int_eq ?_;unfold Hy;(repeat (first|rw [if_pos (by omega)]|rw [if_neg (by omega)]))
 refine ac ?_
 refine CY 0 13 rfl ?_
 refine Tr.cn rfl ?_ ?_<;>intro h4 q4
 refine ac ?_
 refine ac ?_
 · refine int_eq ?_;unfold Hy;(repeat (first|rw [if_pos (by omega)]|rw [if_neg (by omega)]))
 refine ac ?_
 refine Tr.cn rfl ?_ ?_<;>intro h5 q5
 refine ac ?_
 refine ac ?_
 · refine int_eq ?_;unfold Hy;(repeat (first|rw [if_pos (by omega)]|rw [if_neg (by omega)]))
 refine ac ?_
 refine Tr.cn rfl ?_ ?_<;>intro h6 q6
 refine ac ?_
 refine ac ?_
 · refine int_eq ?_;unfold Hy;(repeat (first|rw [if_pos (by omega)]|rw [if_neg (by omega)]))
 refine ac ?_
 refine Tr.cn rfl ?_ ?_<;>intro h7 q7
 refine ac ?_
 refine ac ?_
 · refine int_eq ?_;unfold Hy;(repeat (first|rw [if_pos (by omega)]|rw [if_neg (by omega)]))
 refine ac ?_
 refine ac ?_
 refine ac ?_
 · refine int_eq ?_;unfold Hy;(repeat (rw [if_neg (by omega)]))
theorem eF (b c:Int):IK b [0] [c]=if b=0 then c else 0:=by
 unfold IK idx
 by_cases h:b=0
 · subst h;rfl
 ·
  have:List.findIdx? (fun x=>b==x) [0]=none:=by simp [h]
  rw [this,if_neg h];rfl
theorem Fe {Bq b:Int} (h:Bq=5∨Bq=6∨Bq=10∨Bq=11):Hy b=C6 Bq b:=by
 rw [ZI]
 rcases h with rfl|rfl|rfl|rfl<;>rfl
theorem Oh {Bq b:Int} (h:¬(Bq=5∨Bq=6∨Bq=7∨Bq=9∨Bq=10∨Bq=11∨Bq=12∨Bq=13∨Bq=14∨Bq=15∨Bq=16∨Bq=17)):IK b [0] [Dm Bq]=C6 Bq b:=by
 rw [eF]
 by_cases hin:1≤Bq∧Bq≤22
 ·
  have ha:Bq=1∨Bq=2∨Bq=3∨Bq=4∨Bq=8∨Bq=18∨Bq=19∨Bq=20∨Bq=21∨Bq=22:=by omega
  rcases ha with rfl|rfl|rfl|rfl|rfl|rfl|rfl|rfl|rfl|rfl<;>rfl
 ·
  have h1:Dm Bq=0:=by unfold Dm;(repeat (first|rw [if_pos (by omega)]|rw [if_neg (by omega)]))
  unfold C6
  rw [h1,if_neg hin];split<;>rfl
theorem Ff {Bq b:Int} (h:Bq=7∨Bq=12):C6 Bq b=if (Ry.any fun x=>b==x)=true then b.tdiv 2 else 0:=by
 rcases h with rfl|rfl<;>rfl
theorem R3 {Bq bits:Int}  :Az prog 88 [agg [int Bq,int bits]] (int (C6 Bq bits)):=by
 refine fo func88 rfl ⟨rfl,rfl⟩ fun M0 w0=> ?_
 iterate 4 refine ac ?_
 refine Tr.cn rfl ?_ ?_<;>intro h1 q1
 refine ac ?_
 refine Tr.cond rfl (fun _=> ?_) (fun h=>nomatch h1.symm.trans h)
 refine ac ?_
 refine co rfl (Ce (HU) rfl rfl) ?_
 refine a2 ?_
 · refine int_eq ?_;exact Fe (by omega)
 refine an ?_ ?_<;>intro h2 q2
 refine ac ?_
 refine Tr.cond rfl (fun _=> ?_) (fun h=>nomatch h2.symm.trans h)
 refine ac ?_
 refine co rfl (Ce (HU) rfl rfl) ?_
 refine ac ?_
 refine Eh 2 rfl ?_
 refine ac ?_
 · refine int_eq ?_;exact Fe (by omega)
 refine an ?_ ?_<;>intro h3 q3
 refine ac ?_
 refine Tr.cond rfl (fun _=> ?_) (fun h=>nomatch h3.symm.trans h)
 refine ac ?_
 refine co rfl (Ce (HU) rfl rfl) ?_
 refine ac ?_
 refine Eh 2 rfl ?_
 refine ac ?_
 · refine int_eq ?_;exact Fe (by omega)
 refine ac ?_
 refine D7 1 3 7 8 rfl ?_
 refine Tr.cn rfl ?_ ?_<;>intro h4 q4
 refine ac ?_
 refine co rfl (Ce (HU) rfl rfl) ?_
 refine a2 ?_
 · refine int_eq ?_;exact Fe (by omega)
 refine an ?_ ?_<;>intro h5 q5
 refine ac ?_
 refine Tr.cond rfl (fun _=> ?_) (fun h=>nomatch h5.symm.trans h)
 · repeat' first|(refine int_eq ?_;rw [Ff (by omega)];have hb:bits=160∨bits=224∨bits=256∨bits=384∨bits=521:=(by omega);rcases hb with rfl|rfl|rfl|rfl|rfl<;>rfl)|(refine int_eq ?_;rw [Ff (by omega),if_neg (by simp [Ry];omega)])|refine co rfl (M4 rfl (vl rfl) (vl rfl) (by omega)) ?_|refine ac ?_|(refine Tr.cn rfl ?_ ?_<;>intro h q)|(refine Ch.cg rfl rfl rfl ?_ ?_<;>intro h q)
 refine an ?_ ?_<;>intro h11 PR
 · repeat' first|(refine int_eq ?_;rw [Ff (by omega)];have hb:bits=160∨bits=224∨bits=256∨bits=384∨bits=521:=(by omega);rcases hb with rfl|rfl|rfl|rfl|rfl<;>rfl)|(refine int_eq ?_;rw [Ff (by omega),if_neg (by simp [Ry];omega)])|refine co rfl (M4 rfl (vl rfl) (vl rfl) (by omega)) ?_|refine ac ?_|(refine Tr.cn rfl ?_ ?_<;>intro h q)|(refine Ch.cg rfl rfl rfl ?_ ?_<;>intro h q)
 refine an ?_ ?_<;>intro MH eG
 refine ac ?_
 refine co rfl (AQ rfl (HT (l:=[44,65,87]) (m:=[128,192,256]) (by simp)) ⟨ke rfl,(Kf rfl),(Kf rfl),trivial⟩) ?_
 refine ac ?_
 refine Eh 2 rfl ?_
 refine ac ?_
 · refine int_eq ?_;have ha:Bq=9:=(by omega);rcases ha with rfl<;>rfl
 refine an ?_ ?_<;>intro OX kV
 refine ac ?_
 refine co rfl (AQ rfl (HT (l:=[512,768,1024]) (m:=[128,192,256]) (by simp)) ⟨ke rfl,(Kf rfl),(Kf rfl),trivial⟩) ?_
 refine ac ?_
 refine Eh 2 rfl ?_
 refine ac ?_
 · refine int_eq ?_;have ha:Bq=13:=(by omega);rcases ha with rfl<;>rfl
 refine ac ?_
 refine D7 1 3 7 50 rfl ?_
 refine Tr.cn rfl ?_ ?_<;>intro bt q19
 refine ac ?_
 refine co rfl (AQ rfl (HT (l:=[40,128]) (m:=[40,60]) (by simp)) ⟨ke rfl,(Kf rfl),(Kf rfl),trivial⟩) ?_
 refine a2 ?_
 · refine int_eq ?_;have ha:Bq=14:=(by omega);rcases ha with rfl<;>rfl
 refine an ?_ ?_<;>intro OY nW
 refine ac ?_
 refine co rfl (AQ rfl (HT (l:=[112,168]) (m:=[80,112]) (by simp)) ⟨ke rfl,(Kf rfl),(Kf rfl),trivial⟩) ?_
 refine a2 ?_
 · refine int_eq ?_;have ha:Bq=15:=(by omega);rcases ha with rfl<;>rfl
 refine an ?_ ?_<;>intro VH q21
 refine ac ?_
 refine Tr.cond rfl (fun _=> ?_) (fun h=>nomatch VH.symm.trans h)
 refine ac ?_
 refine co rfl (AQ rfl (HT (l:=[128,256]) (m:=[128,256]) (by simp)) ⟨ke rfl,(Kf rfl),(Kf rfl),trivial⟩) ?_
 refine a2 ?_
 · refine int_eq ?_;have ha:Bq=16∨Bq=17:=(by omega);rcases ha with rfl|rfl<;>rfl
 · repeat' first|(refine int_eq ?_;have ha:Bq=16∨Bq=17:=(by omega);rcases ha with rfl|rfl<;>rfl)|(refine int_eq ?_;exact Oh (by omega))|refine co rfl (AQ rfl (HT (l:=[128,256]) (m:=[128,256]) (by simp)) ⟨ke rfl,(Kf rfl),(Kf rfl),trivial⟩) ?_|refine co rfl (Ce (ZJ) rfl rfl) (co rfl (AL (xs:=[.tmp 73]) (rows:=[[_]]) rfl rfl underlying22 Bh z3 rfl (by decide) ⟨⟨(by exact rfl),(Vo rfl)⟩,trivial⟩ (by decide)) ?_)|refine co rfl (AQ rfl (HT (l:=[0]) (m:=[Dm Bq]) (by simp)) ⟨ke rfl,(Kf rfl),(Kf rfl),trivial⟩) ?_|refine ac ?_|(refine Tr.cn rfl ?_ ?_<;>intro h q)
theorem IL {Bq bits:Int}  :Az prog 65 [agg [int Bq,int bits]] (bool (decide (C6 Bq bits>0))):=by
 refine fo func65 rfl ⟨rfl,rfl⟩ fun M0 w0=> ?_
 refine a2 ?_
 refine co rfl (Ce (R3) rfl rfl) ?_
 refine a2 ?_
 · exact Lr
def kW:List (List UInt8×Int):=G5.map fun r=>(r.name,r.kind)
theorem eH {Bq:Int} (h:1≤Bq∧Bq≤22):kW[Bq.toNat]? =some ((Du Bq).name,(Du Bq).kind):=by
 unfold kW;rw [List.getElem?_map,Lw h];rfl
theorem eI   :Az prog 87 [] (slice 2 (kW.map fun r=>[str r.1,int r.2])):=by
 refine fo func87 rfl ⟨rfl,rfl⟩ fun M0 w0=> ?_
 refine a2 ?_
 refine Eh 0 rfl ?_
 refine ac ?_
 · exact Bp _ _
theorem Ma {Bq:Int}  :Az prog 63 [int Bq] (int (Du Bq).kind):=by
 refine fo func63 rfl ⟨rfl,rfl⟩ fun M0 w0=> ?_
 refine ac ?_
 refine ag ?_ ?_<;>intro h1 q1
 refine a3 ?_
 · refine int_eq ?_;unfold Du;rw [if_neg (by omega)];rfl
 refine an ?_ ?_<;>intro h2 q2
 refine a2 ?_
 · refine int_eq ?_;unfold Du;rw [if_neg (by omega)];rfl
 have hin:1≤Bq∧Bq≤22:=by omega
 refine ac ?_
 refine Tr.seq (Tr.AW (co rfl (kc0 (eI) rfl) (cm rfl (co rfl (AA rfl underlying194 iF (vl rfl) (vl rfl) (by omega) (BB (f:=fun r:List UInt8×Int=>[str r.1,int r.2]) (eH hin))) ?_))))
 refine a2 ?_
 · exact Lr
theorem IM {Bq bits:Int}  :Az prog 83 [agg [int Bq,int bits]] (bool (decide (C6 Bq bits>0)&&(Du Bq).kind==2)):=by
 refine fo func83 rfl ⟨rfl,rfl⟩ fun M0 w0=> ?_
 refine ac ?_
 refine ac ?_
 refine co rfl (Ce (IL) rfl rfl) (cm rfl ?_)
 refine Ch.cs 5 rfl ?_ ?_<;>intro h1 q1
 refine ac ?_
 refine cy h1 rfl (Ce (Ma) rfl rfl) ?_
 refine ac ?_
 refine ac ?_
 · refine bool_eq ?_;simp_all
 refine ac ?_
 refine ac ?_
 · refine bool_eq ?_;simp_all;omega
def DV:Bk:=⟨[],0,0,[],false,[],[],[],false⟩
def Bc:H_:=⟨0,0,0,[]⟩
def GZ:BK:=⟨0,0,0,0,Bc⟩
abbrev eJ (l:List Int):Prop:=l.Pairwise (· < ·)
def D9 (l:List Int) (x:Int):Nat:=(l.takeWhile fun y=>decide (y<x)).length
theorem VI (l:List Int) (x:Int):D9 l x≤l.length:=by
 unfold D9
 have h:=List.takeWhile_append_dropWhile (p:=fun y=>decide (y<x)) (l:=l)
 have:=congrArg List.length h
 rw [List.length_append] at this;omega
theorem Qh {x:Int}:∀{l:List Int} {k:Nat},k≤l.length→(∀(j:Nat) y,j<k→l[j]? =some y→y<x)→(∀y,l[k]? =some y→¬y<x)→D9 l x=k
  | [], k, hk, _, _ => by have : k = 0 := by simpa using hk
                          subst this;rfl
  |y::r,0,_,_,h2=>by unfold D9;rw [List.takeWhile_cons_of_neg (by simpa using h2 y rfl)];rfl
  |y::r,k+1,hk,h1,h2=>by
    have ih:=Qh (l:=r) (k:=k) (by simpa using hk) (fun j z hj hz=>h1 (j+1) z (by omega) (by simpa using hz)) (fun z hz=>h2 z (by simpa using hz))
    unfold D9 at ih ⊢
    rw [List.takeWhile_cons_of_pos (by simpa using h1 0 y (by omega) rfl),List.length_cons,ih]
theorem Qi {x:Int}:∀{l:List Int} {j:Nat} {y:Int},j<D9 l x→l[j]? =some y→y<x
 |[],j,y,h,_=>by unfold D9 at h;simp at h
 |z::r,j,y,h,hy=>by
  by_cases hz:z<x
  ·
   cases j with
   |zero=>simp at hy;subst hy;exact hz
   |succ j=>
    refine Qi (l:=r) (j:=j) ?_ (by simpa using hy)
    unfold D9 at h ⊢
    rw [List.takeWhile_cons_of_pos (by simpa using hz),List.length_cons] at h;omega
  · unfold D9 at h;rw [List.takeWhile_cons_of_neg (by simpa using hz)] at h;simp at h
theorem VJ {x:Int}:∀{l:List Int} {y:Int},l[D9 l x]? =some y→¬y<x
 |[],y,h=>by simp at h
 |z::r,y,h=>by
  by_cases hz:z<x
  ·
   unfold D9 at h
   rw [List.takeWhile_cons_of_pos (by simpa using hz),List.length_cons,List.getElem?_cons_succ] at h
   exact VJ (l:=r) h
  · unfold D9 at h;rw [List.takeWhile_cons_of_neg (by simpa using hz)] at h;simp at h;subst h;exact hz
abbrev Ek (l:List Int) (x:Int):Bool:=(l[D9 l x]?).any (fun y=>decide (y=x))
abbrev Tk (l:List Int) (x:Int):List Int:=l.take (D9 l x)++[x]++l.drop (D9 l x)
theorem eK {l:List Int} (hs:eJ l) {j k:Nat} {y z:Int} (hjk:j<k) (hy:l[j]? =some y) (hz:l[k]? =some z):y<z:=by
 have h1:=A0 hy;have h2:=A0 hz
 have:=List.pairwise_iff_getElem.1 hs j k h1 h2 hjk
 rw [List.getElem?_eq_getElem h1] at hy;rw [List.getElem?_eq_getElem h2] at hz
 cases hy;cases hz;exact this
theorem VK {l:List Int} {x:Int} {i:Nat} {y:Int} (hp:D9 l x=i) (hy:l[i]? =some y):Ek l x=decide (y=x):=by
 unfold Ek;rw [hp,hy];rfl
theorem Mb {l:List Int} (h:WX l=true):eJ l:=by
 unfold WX at h;rw [Bv] at h
 have h1:∀(d i:Nat) y z,l[i]? =some y→l[i+d+1]? =some z→y<z:=by
  intro d
  induction d with
  |zero=>
   intro i y z hy hz
   have:=h (i+1) (A0 hz)
   unfold G7 at this
   rw [getD_at (show l[i+1]? =some z from hz),getD_at (show l[i+1-1]? =some y from hy)] at this
   simpa using this
  |succ d ih=>
   intro i y z hy hz
   obtain ⟨m,hm⟩:=at_ (l:=l) (k:=i+d+1) (by have:=A0 hz;omega)
   have a1:=ih i y m hy hm
   have:=h (i+(d+1)+1) (A0 hz)
   unfold G7 at this
   rw [getD_at hz,getD_at (show l[i+(d+1)+1-1]? =some m from hm)] at this
   have:m<z:=by simpa using this
   omega
 refine List.pairwise_iff_getElem.2 fun i j hi hj hij=> ?_
 refine h1 (j-i-1) i _ _ (List.getElem?_eq_getElem hi) ?_
 rw [show i+(j-i-1)+1=j by omega];exact List.getElem?_eq_getElem hj
theorem Qj {l:List Int} {x:Int} (h:Ek l x=true):D9 l x<l.length:=by
 by_cases hp:D9 l x<l.length
 · exact hp
 · unfold Ek at h;rw [List.getElem?_eq_none (by omega)] at h;cases h
abbrev JB (b:Bool):Int:=if b then 1 else 0
abbrev KU (e:Bk) (c:BK):Int:=idx (fun y=>c.number==y) e.Ao
def Bj (e:Bk) (c:BK):Except Int (Bk×BK):=
 if c.kind = 1 then
  if ¬(0≤c.at_∧c.at_≤(e.Ao.length:Nat)) then .error 2
  else if (e.Ao.any fun y=>c.number==y)=true then .error 41
  else .ok ({ e with Ao:=e.Ao.take c.at_.toNat++[c.number]++e.Ao.drop c.at_.toNat },⟨c.AV,2,c.number,0,Bc⟩)
 else if c.kind = 2 then
  if KU e c<0 then .error 41 else .ok ({ e with Ao:=e.Ao.eraseIdx (KU e c).toNat },⟨c.AV,1,c.number,KU e c,Bc⟩)
 else if c.kind = 3 then
  if e.most=c.number then .error 41 else .ok ({ e with most:=c.number },⟨c.AV,c.kind,e.most,0,Bc⟩)
 else if c.kind = 4 then
  if e.least=c.number then .error 41 else .ok ({ e with least:=c.number },⟨c.AV,c.kind,e.least,0,Bc⟩)
 else if c.kind = 5 then
  if ¬(0≤c.at_∧c.at_≤(e.ids.length:Nat)) then .error 2
  else if 0≤BR c.Ck.B8 e.ids then .error 41
  else .ok ({ e with ids:=e.ids.take c.at_.toNat++[c.Ck]++e.ids.drop c.at_.toNat },⟨c.AV,6,c.Ck.B8,0,Bc⟩)
 else if c.kind = 6 then
  match e.ids[(BR c.number e.ids).toNat]? with
  |none=> .error 41
  |some x=>
   if BR c.number e.ids<0 then .error 41
   else if ((e.ids.drop (BR c.number e.ids+1).toNat).any fun x=>x.B8==c.number)=true then .error 5
   else .ok ({ e with ids:=e.ids.eraseIdx (BR c.number e.ids).toNat },⟨c.AV,5,0,BR c.number e.ids,x⟩)
 else if c.kind = 7 then
  if Ek e.anchors c.number=true then .error 41 else .ok ({ e with anchors:=Tk e.anchors c.number },⟨c.AV,8,c.number,0,Bc⟩)
 else if c.kind = 8 then
  if Ek e.anchors c.number=true then .ok ({ e with anchors:=e.anchors.eraseIdx (D9 e.anchors c.number) },⟨c.AV,7,c.number,0,Bc⟩) else .error 41
 else if c.kind = 9 then
  if Ek e.hashes c.number=true then .error 41 else .ok ({ e with hashes:=Tk e.hashes c.number },⟨c.AV,10,c.number,0,Bc⟩)
 else if c.kind = 10 then
  if Ek e.hashes c.number=true then .ok ({ e with hashes:=e.hashes.eraseIdx (D9 e.hashes c.number) },⟨c.AV,9,c.number,0,Bc⟩) else .error 41
 else if c.kind = 11 then
  if ¬(0≤c.number∧c.number≤1) then .error 2
  else if JB e.KS=c.number then .error 41 else .ok ({ e with KS:=(c.number==1) },⟨c.AV,c.kind,JB e.KS,0,Bc⟩)
 else
  if ¬(0≤c.number∧c.number≤1) then .error 2
  else if JB e.own=c.number then .error 41 else .ok ({ e with own:=(c.number==1) },⟨c.AV,c.kind,JB e.own,0,Bc⟩)
def GA (c:BK):Prop:=(1≤c.kind∧c.kind≤12)∧Ni c=true
instance (c:BK):Decidable (GA c):=inferInstanceAs (Decidable (_∧_))
def DR (e:Bk) (c:BK):Bk×BK×Int:=
 if FH e=false then (DV,GZ,19)
 else if ¬GA c then (DV,GZ,40)
 else match Bj e c with
  | .error f=>(DV,GZ,f)
  | .ok (e2,b)=>if FH e2=true then (e2,b,0) else (DV,GZ,18)
theorem Mc {e:Bk} {c:BK} (h:c.kind=1):Bj e c=
  (
  if ¬(0≤c.at_∧c.at_≤(e.Ao.length:Nat)) then .error 2
  else if (e.Ao.any fun y=>c.number==y)=true then .error 41
  else .ok ({ e with Ao:=e.Ao.take c.at_.toNat++[c.number]++e.Ao.drop c.at_.toNat },⟨c.AV,2,c.number,0,Bc⟩)):=by
 unfold Bj;rw [if_pos h]
theorem Md {e:Bk} {c:BK} (h:c.kind=2):Bj e c=
  (
  if KU e c<0 then .error 41 else .ok ({ e with Ao:=e.Ao.eraseIdx (KU e c).toNat },⟨c.AV,1,c.number,KU e c,Bc⟩)):=by
 unfold Bj;rw [if_neg (by rw [h];decide)];rw [if_pos h]
theorem Me {e:Bk} {c:BK} (h:c.kind=3):Bj e c=
  (
  if e.most=c.number then .error 41 else .ok ({ e with most:=c.number },⟨c.AV,c.kind,e.most,0,Bc⟩)):=by
 unfold Bj;rw [if_neg (by rw [h];decide)];rw [if_neg (by rw [h];decide)];rw [if_pos h]
theorem Mf {e:Bk} {c:BK} (h:c.kind=4):Bj e c=
  (
  if e.least=c.number then .error 41 else .ok ({ e with least:=c.number },⟨c.AV,c.kind,e.least,0,Bc⟩)):=by
 unfold Bj;rw [if_neg (by rw [h];decide)];rw [if_neg (by rw [h];decide)];rw [if_neg (by rw [h];decide)];rw [if_pos h]
theorem Mg {e:Bk} {c:BK} (h:c.kind=5):Bj e c=
  (
  if ¬(0≤c.at_∧c.at_≤(e.ids.length:Nat)) then .error 2
  else if 0≤BR c.Ck.B8 e.ids then .error 41
  else .ok ({ e with ids:=e.ids.take c.at_.toNat++[c.Ck]++e.ids.drop c.at_.toNat },⟨c.AV,6,c.Ck.B8,0,Bc⟩)):=by
 unfold Bj;rw [if_neg (by rw [h];decide)];rw [if_neg (by rw [h];decide)];rw [if_neg (by rw [h];decide)];rw [if_neg (by rw [h];decide)];rw [if_pos h]
theorem Mh {e:Bk} {c:BK} (h:c.kind=6):Bj e c=
  (
  match e.ids[(BR c.number e.ids).toNat]? with
  |none=> .error 41
  |some x=>
   if BR c.number e.ids<0 then .error 41
   else if ((e.ids.drop (BR c.number e.ids+1).toNat).any fun x=>x.B8==c.number)=true then .error 5
   else .ok ({ e with ids:=e.ids.eraseIdx (BR c.number e.ids).toNat },⟨c.AV,5,0,BR c.number e.ids,x⟩)):=by
 unfold Bj;rw [if_neg (by rw [h];decide)];rw [if_neg (by rw [h];decide)];rw [if_neg (by rw [h];decide)];rw [if_neg (by rw [h];decide)];rw [if_neg (by rw [h];decide)];rw [if_pos h]
theorem Mi {e:Bk} {c:BK} (h:c.kind=7):Bj e c=
  (
  if Ek e.anchors c.number=true then .error 41 else .ok ({ e with anchors:=Tk e.anchors c.number },⟨c.AV,8,c.number,0,Bc⟩)):=by
 unfold Bj;rw [if_neg (by rw [h];decide)];rw [if_neg (by rw [h];decide)];rw [if_neg (by rw [h];decide)];rw [if_neg (by rw [h];decide)];rw [if_neg (by rw [h];decide)];rw [if_neg (by rw [h];decide)];rw [if_pos h]
theorem Mj {e:Bk} {c:BK} (h:c.kind=8):Bj e c=
  (
  if Ek e.anchors c.number=true then .ok ({ e with anchors:=e.anchors.eraseIdx (D9 e.anchors c.number) },⟨c.AV,7,c.number,0,Bc⟩) else .error 41):=by
 unfold Bj;rw [if_neg (by rw [h];decide)];rw [if_neg (by rw [h];decide)];rw [if_neg (by rw [h];decide)];rw [if_neg (by rw [h];decide)];rw [if_neg (by rw [h];decide)];rw [if_neg (by rw [h];decide)];rw [if_neg (by rw [h];decide)];rw [if_pos h]
theorem Mk {e:Bk} {c:BK} (h:c.kind=9):Bj e c=
  (
  if Ek e.hashes c.number=true then .error 41 else .ok ({ e with hashes:=Tk e.hashes c.number },⟨c.AV,10,c.number,0,Bc⟩)):=by
 unfold Bj;rw [if_neg (by rw [h];decide)];rw [if_neg (by rw [h];decide)];rw [if_neg (by rw [h];decide)];rw [if_neg (by rw [h];decide)];rw [if_neg (by rw [h];decide)];rw [if_neg (by rw [h];decide)];rw [if_neg (by rw [h];decide)];rw [if_neg (by rw [h];decide)];rw [if_pos h]
theorem KV {e:Bk} {c:BK} (h:c.kind=10):Bj e c=
  (
  if Ek e.hashes c.number=true then .ok ({ e with hashes:=e.hashes.eraseIdx (D9 e.hashes c.number) },⟨c.AV,9,c.number,0,Bc⟩) else .error 41):=by
 unfold Bj;rw [if_neg (by rw [h];decide)];rw [if_neg (by rw [h];decide)];rw [if_neg (by rw [h];decide)];rw [if_neg (by rw [h];decide)];rw [if_neg (by rw [h];decide)];rw [if_neg (by rw [h];decide)];rw [if_neg (by rw [h];decide)];rw [if_neg (by rw [h];decide)];rw [if_neg (by rw [h];decide)];rw [if_pos h]
theorem KW {e:Bk} {c:BK} (h:c.kind=11):Bj e c=
  (
  if ¬(0≤c.number∧c.number≤1) then .error 2
  else if JB e.KS=c.number then .error 41 else .ok ({ e with KS:=(c.number==1) },⟨c.AV,c.kind,JB e.KS,0,Bc⟩)):=by
 unfold Bj;rw [if_neg (by rw [h];decide)];rw [if_neg (by rw [h];decide)];rw [if_neg (by rw [h];decide)];rw [if_neg (by rw [h];decide)];rw [if_neg (by rw [h];decide)];rw [if_neg (by rw [h];decide)];rw [if_neg (by rw [h];decide)];rw [if_neg (by rw [h];decide)];rw [if_neg (by rw [h];decide)];rw [if_neg (by rw [h];decide)];rw [if_pos h]
theorem KY {e:Bk} {c:BK} (h:c.kind=12):Bj e c=
  (
  if ¬(0≤c.number∧c.number≤1) then .error 2
  else if JB e.own=c.number then .error 41 else .ok ({ e with own:=(c.number==1) },⟨c.AV,c.kind,JB e.own,0,Bc⟩)):=by
 unfold Bj;rw [if_neg (by rw [h];decide)];rw [if_neg (by rw [h];decide)];rw [if_neg (by rw [h];decide)];rw [if_neg (by rw [h];decide)];rw [if_neg (by rw [h];decide)];rw [if_neg (by rw [h];decide)];rw [if_neg (by rw [h];decide)];rw [if_neg (by rw [h];decide)];rw [if_neg (by rw [h];decide)];rw [if_neg (by rw [h];decide)];rw [if_neg (by rw [h];decide)]
theorem Wb {e:Bk} {c:BK} {f:Int} (h:FH e=true) (hc:GA c) (hs:Bj e c= .error f):DR e c=(DV,GZ,f):=by
 unfold DR;rw [if_neg (by rw [h];decide),if_neg (fun h=>h hc),hs]
theorem ZK {e:Bk} {c:BK} {e2:Bk} {b:BK} (h:FH e=true) (hc:GA c) (hs:Bj e c= .ok (e2,b)) (h2:FH e2=true):DR e c=(e2,b,0):=by
 unfold DR;rw [if_neg (by rw [h];decide),if_neg (fun h=>h hc),hs];exact if_pos h2
theorem eL {e:Bk} {c:BK} {e2:Bk} {b:BK} (h:FH e=true) (hc:GA c) (hs:Bj e c= .ok (e2,b)) (h2:FH e2=false):DR e c=(DV,GZ,18):=by
 unfold DR;rw [if_neg (by rw [h];decide),if_neg (fun h=>h hc),hs];exact if_neg (by rw [h2];decide)
structure VM (e:Bk):Prop where
 name:Ly e.name=true
 least:1≤e.least
 lm:e.least≤e.most
 most:e.most≤4
 Ao:Iz e.Ao=true
 PO:e.ids.length≤4
 Tm:e.anchors.length≤16
 anc:WX e.anchors=true
 hash:WX e.hashes=true
 ids:e.ids.all iQ=true
 keys:e.anchors.all Fz=true
 hsh:e.hashes.all Nh=true
theorem B6 {e:Bk}:FH e=true↔VM e:=by
 unfold FH;simp only [Bool.and_eq_true,decide_eq_true_eq]
 exact ⟨fun ⟨⟨⟨⟨⟨⟨⟨⟨a,b⟩,c⟩,d⟩,f⟩,⟨⟨⟨g,h⟩,i⟩,j⟩⟩,k⟩,l⟩,m⟩=>⟨a,b,c,d,f,g,h,i,j,k,l,m⟩,fun ⟨a,b,c,d,f,g,h,i,j,k,l,m⟩=>⟨⟨⟨⟨⟨⟨⟨⟨a,b⟩,c⟩,d⟩,f⟩,⟨⟨⟨g,h⟩,i⟩,j⟩⟩,k⟩,l⟩,m⟩⟩
theorem Wc:Bc.small:=⟨by show 0≤_;omega,fun c hc=>by cases hc⟩
abbrev PT:List Pr:=[FQ .u8]
abbrev VN (m:Nat):Pr:=slice 1 (List.replicate m PT)
abbrev Dv (B:Nat):Pr:=Cp.ex fun m:Nat=>fact (m≤B) (VN m)
abbrev DW:Pr:=Cp.ex fun b:Bool=>bool b
abbrev BL (q:Pr):List Pr:=[FQ .i64,Dv 1000,DW,q]
abbrev IP (row:List Pr):Pr:=Cp.ex fun m:Nat=>fact (m≤20) (slice 4 (List.replicate m row))
abbrev Ja (D:Nat):Pr:=Cp.ex fun d:Int=>fact (0≤d∧d≤(D:Nat)) (int d)
theorem IQ {r:List Pr} {m k:Nat} (h:k<m):(List.replicate m r)[((k:Nat):Int).toNat]? =some r:=by rw [Int.toNat_natCast,List.getElem?_replicate,if_pos h]
theorem VO {r:List Pr} {m:Nat}:List.replicate m r++[r]=List.replicate (m+1) r:=by rw [List.replicate_succ']
theorem KZ {r:List Pr} {m k:Nat}:List.replicate m r++List.replicate k r=List.replicate (m+k) r:=by rw [List.replicate_append_replicate]
theorem OW.refl:∀l:List Pr,OW l l
 |[]=>trivial
 |_::l=>⟨Pr.le_refl _,OW.refl l⟩
theorem Ra {sz:Nat} {rows Al:List (List Pr)} (hl:rows.length=Al.length) (h:∀(i:Nat) r r',rows[i]? =some r→Al[i]? =some r'→r.length=r'.length∧∀(j:Nat) p p',r[j]? =some p→r'[j]? =some p'→Pr.le p p'):Pr.le (slice sz rows) (slice sz Al):=by
 rintro M w v ⟨a,cap,h1,h2,h3,h4,h5⟩
 refine ⟨a,cap,by rw [←hl];exact h1,by rw [←hl];exact h2,h3,h4,fun i row hr=> ?_⟩
 have hi:i<rows.length:=by rw [hl];exact A0 hr
 have jP:=List.getElem?_eq_getElem hi
 obtain ⟨g1,g2⟩:=h i _ _ jP hr
 obtain ⟨k1,ad,k2,k3⟩:=h5 i _ jP
 refine ⟨by rw [←g1];exact k1,ad,k2,fun j p' hp'=> ?_⟩
 have hj:j<rows[i].length:=by rw [g1];exact A0 hp'
 have hp:=List.getElem?_eq_getElem hj
 obtain ⟨u,c1,c2,c3,c4⟩:=k3 j _ hp
 exact ⟨u,c1,c2,c3,g2 j _ _ hp hp' _ _ _ c4⟩
theorem Wd {sz:Nat} {rows:List (List Pr)} {r:List Pr} (h:∀q∈rows,q.length=r.length∧∀(j:Nat) p p',q[j]? =some p→r[j]? =some p'→Pr.le p p'):Pr.le (slice sz rows) (slice sz (List.replicate rows.length r)):=
 Ra (by simp) fun i q q' hq hq' => by
  rw [List.getElem?_replicate,if_pos (A0 hq)] at hq'
  cases hq'
  exact h q (List.mem_of_getElem? hq)
theorem Gm {β:Type} {l:List β} {f:β→Int}:Pr.le (slice 1 (l.map fun x=>[is (.int .u8 (f x))])) (VN l.length):=by
 have:=Wd (sz:=1) (rows:=l.map fun x=>[is (.int .u8 (f x))]) (r:=PT) (by
  intro q hq
  obtain ⟨x,_,rfl⟩:=List.mem_map.1 hq
  refine ⟨rfl,fun j p p' hp hp'=> ?_⟩
  cases j with
  |zero=>simp at hp hp';subst hp;subst hp';exact Bx _ _
  |succ j=>simp at hp)
 rwa [List.length_map] at this
theorem B3 {B m:Nat} {p:Pr} (h:m≤B) (hp:Pr.le p (VN m)):Pr.le p (Dv B):=AG m (AU h hp)
theorem Az.BL {P:Program} {f:FuncId} {row:List Pr} {res:Pr} (h:∀(t:Int) (b:Nat) (n:Bool) (m:Nat),b≤1000→m≤20→Az P f [agg [int t,VN b,bool n,slice 4 (List.replicate m row)]] res):Az P f [agg (BL (IP row))] res:=by
 refine ⟨(h 0 0 false 0 (by omega) (by omega)).1,fun M w vs hb hv=> ?_⟩
 match vs,hv with
 |[u0],Xs=>
  obtain ⟨⟨cs,rfl,ho,hcs⟩,_⟩:=Xs
  match cs,hcs with
  |[c0,c1,c2,c3],hc=>
   obtain ⟨⟨t,h0⟩,⟨b,OV,h1⟩,⟨n,h2⟩,⟨m,hm1,h3⟩,_⟩:=hc
   exact (h t b n m OV hm1).2 M w _ hb ⟨⟨_,rfl,ho,h0,h1,h2,h3,trivial⟩,trivial⟩
theorem Az.ZL {P:Program} {f:FuncId} {res:Pr} (h:∀(t:Int) (b:Nat) (n:Bool),b≤1000→Az P f [agg [int t,VN b,bool n,slice 4 []]] res):Az P f [agg [FQ .i64,Dv 1000,DW,slice 4 []]] res:=by
 refine ⟨(h 0 0 false (by omega)).1,fun M w vs hb hv=> ?_⟩
 match vs,hv with
 |[u0],Xs=>
  obtain ⟨⟨cs,rfl,ho,hcs⟩,_⟩:=Xs
  match cs,hcs with
  |[c0,c1,c2,c3],hc=>
   obtain ⟨⟨t,h0⟩,⟨b,OV,h1⟩,⟨n,h2⟩,h3,_⟩:=hc
   exact (h t b n OV).2 M w _ hb ⟨⟨_,rfl,ho,h0,h1,h2,h3,trivial⟩,trivial⟩
theorem kX {n:Int}  :Az prog 134 [int n] (bool (decide (1≤n)&&decide (n≤255)&&(n.tmod 32 !=31))):=by
 refine fo func134 rfl ⟨rfl,rfl⟩ fun M0 w0=> ?_
 refine ac ?_
 refine ag ?_ ?_<;>intro h1 q1
 refine ag ?_ ?_<;>intro h2 q2
 refine FZ h2 rfl (cy h2 rfl (QD rfl (vl rfl) (vl rfl) (by omega)) ?_)
 refine a2 ?_
 · refine bool_eq ?_;simp_all
 refine a2 ?_
 · refine bool_eq ?_;simp_all;omega
 refine a2 ?_
 · refine bool_eq ?_;simp_all;omega
theorem LH {t:Int} {b:Nat} {n:Bool} {m:Nat} {q:Pr}  (hb:b≤1000) (hm:m≤20) (ih:m=0∨Az prog 104 [agg (BL q)] (DW)):Az prog 104 [agg [int t,VN b,bool n,slice 4 (List.replicate m (BL q))]] (DW):=by
 refine fo func104 rfl ⟨rfl,rfl⟩ fun M0 w0=> ?_
 have hlr:(List.replicate m (BL q)).length=m:=List.length_replicate
 have hlb:(List.replicate b PT).length=b:=List.length_replicate
 refine a2 ?_
 refine co rfl (Ce (kX) rfl rfl) ?_
 refine ag ?_ ?_<;>intro h1 q1
 refine ac ?_
 refine CY 1 38 rfl ?_
 refine a2 ?_
 · exact AG _ (Lr)
 refine ac ?_
 refine cy h1 rfl (M4 rfl (vl rfl) (vl rfl) (by omega)) (cy h1 rfl (QD rfl (vl rfl) (vl rfl) (by omega)) (cy h1 rfl (ki rfl rfl rfl rfl) (cy h1 rfl (TJ rfl underlying4 (vl rfl) (vl rfl)) ?_)))
 refine ag ?_ ?_<;>intro h2 q2
 refine ac ?_
 refine CY 1 38 rfl ?_
 refine a2 ?_
 · exact AG _ (Lr)
 refine ag ?_ ?_<;>intro h3 q3
 refine ac ?_
 refine cy h3 rfl (Br rfl underlying142 (vl rfl)) ?_
 refine ag ?_ ?_<;>intro h4 q4
 refine ac ?_
 refine CY 1 38 rfl ?_
 refine a2 ?_
 · exact AG _ (Lr)
 refine ag ?_ ?_<;>intro h5 q5
 refine ac ?_
 refine cy h5 rfl (Br rfl underlying185 (vl rfl)) ?_
 refine ac ?_
 refine CY 1 38 rfl ?_
 refine Tr.cn rfl ?_ ?_<;>intro h6 q6
 refine a2 ?_
 · exact AG _ (Lr)
 refine a2 ?_
 refine Tr.block (Tr.A7 [(1,_)] ⟨ke rfl,trivial⟩ (fun k:Nat=>[(3,int ((k:Nat):Int))]) (fun k:Nat=>k≤((List.replicate m (BL q)).length)) (fun k:Nat=>((List.replicate m (BL q)).length)-k) 0 (Nat.zero_le _) ⟨ke rfl,trivial⟩ ?_)
 rintro k BN
 refine ac ?_
 refine co rfl (Br rfl underlying185 (vl rfl)) ?_
 refine an ?_ ?_<;>intro h7 q7
 have Af:k<((List.replicate m (BL q)).length):=AH h7
 have hkm:k<m:=by simpa using Af
 have ih2:=ih.resolve_left (by omega)
 refine ac ?_
 refine ap ?_
 refine tp rfl (AA rfl underlying185 CF (vl rfl) (vl rfl) (by omega) (IQ hkm)) (tp rfl (AR rfl Cn CF (vl rfl) rfl rfl) (tp rfl (Ce (ih2) rfl rfl) ?_))
 refine TO.ex 51 rfl (fun z51=> ?_)
 refine ap ?_
 · repeat' first|exact AG _ (Lr)|exact Fin.AM (k+1) ⟨Af,by omega⟩ ⟨⟨_,rfl,AD k⟩,ke rfl,trivial⟩|refine ac ?_|(refine Tr.cn rfl ?_ ?_<;>intro h q)
 have BI:k=((List.replicate m (BL q)).length):=by have:=AJ h7;omega
 refine a3 ?_
 · exact AG _ (Lr)
 refine ac ?_
 refine CY 1 38 rfl ?_
 refine a2 ?_
 refine Tr.block (Tr.A7 [(1,_)] ⟨ke rfl,trivial⟩ (fun k:Nat=>[(3,int ((k:Nat):Int))]) (fun k:Nat=>k≤((List.replicate m (BL q)).length)) (fun k:Nat=>((List.replicate m (BL q)).length)-k) 0 (Nat.zero_le _) ⟨ke rfl,trivial⟩ ?_)
 rintro k BN
 refine ac ?_
 refine co rfl (Br rfl underlying185 (vl rfl)) ?_
 refine an ?_ ?_<;>intro h9 q9
 have Af:k<((List.replicate m (BL q)).length):=AH h9
 have hkm:k<m:=by simpa using Af
 have ih2:=ih.resolve_left (by omega)
 refine ac ?_
 refine ap ?_
 refine tp rfl (AA rfl underlying185 CF (vl rfl) (vl rfl) (by omega) (IQ hkm)) (tp rfl (AR rfl Cn CF (vl rfl) rfl rfl) (tp rfl (Ce (ih2) rfl rfl) ?_))
 refine TO.ex 51 rfl (fun z51=> ?_)
 refine ap ?_
 · repeat' first|exact AG _ (Lr)|exact Fin.AM (k+1) ⟨Af,by omega⟩ ⟨⟨_,rfl,AD k⟩,ke rfl,trivial⟩|refine ac ?_|(refine Tr.cn rfl ?_ ?_<;>intro h q)
 have BI:k=((List.replicate m (BL q)).length):=by have:=AJ h9;omega
 refine a3 ?_
 · exact AG _ (Lr)
 refine ag ?_ ?_<;>intro h11 PR
 refine ac ?_
 refine cy h11 rfl (Br rfl underlying185 (vl rfl)) ?_
 refine ac ?_
 refine CY 1 38 rfl ?_
 refine Tr.cn rfl ?_ ?_<;>intro h12 S6
 refine a2 ?_
 · exact AG _ (Lr)
 refine a2 ?_
 refine Tr.block (Tr.A7 [(1,_)] ⟨ke rfl,trivial⟩ (fun k:Nat=>[(3,int ((k:Nat):Int))]) (fun k:Nat=>k≤((List.replicate m (BL q)).length)) (fun k:Nat=>((List.replicate m (BL q)).length)-k) 0 (Nat.zero_le _) ⟨ke rfl,trivial⟩ ?_)
 rintro k BN
 refine ac ?_
 refine co rfl (Br rfl underlying185 (vl rfl)) ?_
 refine an ?_ ?_<;>intro MG Xt
 have Af:k<((List.replicate m (BL q)).length):=AH MG
 have hkm:k<m:=by simpa using Af
 have ih2:=ih.resolve_left (by omega)
 refine ac ?_
 refine ap ?_
 refine tp rfl (AA rfl underlying185 CF (vl rfl) (vl rfl) (by omega) (IQ hkm)) (tp rfl (AR rfl Cn CF (vl rfl) rfl rfl) (tp rfl (Ce (ih2) rfl rfl) ?_))
 refine TO.ex 51 rfl (fun z51=> ?_)
 refine ap ?_
 · repeat' first|exact AG _ (Lr)|exact Fin.AM (k+1) ⟨Af,by omega⟩ ⟨⟨_,rfl,AD k⟩,ke rfl,trivial⟩|refine ac ?_|(refine Tr.cn rfl ?_ ?_<;>intro h q)
 have BI:k=((List.replicate m (BL q)).length):=by have:=AJ MG;omega
 refine a3 ?_
 · exact AG _ (Lr)
 refine ac ?_
 refine CY 1 38 rfl ?_
 refine a2 ?_
 refine Tr.block (Tr.A7 [(1,_)] ⟨ke rfl,trivial⟩ (fun k:Nat=>[(3,int ((k:Nat):Int))]) (fun k:Nat=>k≤((List.replicate m (BL q)).length)) (fun k:Nat=>((List.replicate m (BL q)).length)-k) 0 (Nat.zero_le _) ⟨ke rfl,trivial⟩ ?_)
 rintro k BN
 refine ac ?_
 refine co rfl (Br rfl underlying185 (vl rfl)) ?_
 refine an ?_ ?_<;>intro Rf kY
 have Af:k<((List.replicate m (BL q)).length):=AH Rf
 have hkm:k<m:=by simpa using Af
 have ih2:=ih.resolve_left (by omega)
 refine ac ?_
 refine ap ?_
 refine tp rfl (AA rfl underlying185 CF (vl rfl) (vl rfl) (by omega) (IQ hkm)) (tp rfl (AR rfl Cn CF (vl rfl) rfl rfl) (tp rfl (Ce (ih2) rfl rfl) ?_))
 refine TO.ex 51 rfl (fun z51=> ?_)
 refine ap ?_
 · repeat' first|exact AG _ (Lr)|exact Fin.AM (k+1) ⟨Af,by omega⟩ ⟨⟨_,rfl,AD k⟩,ke rfl,trivial⟩|refine ac ?_|(refine Tr.cn rfl ?_ ?_<;>intro h q)
 have BI:k=((List.replicate m (BL q)).length):=by have:=AJ Rf;omega
 refine a3 ?_
 · exact AG _ (Lr)
theorem Nj {t:Int} {b:Nat} {n:Bool} {m:Nat} {q:Pr} {D:Nat}  (hb:b≤1000) (hm:m≤20) (hD:D≤1000) (ih:m=0∨Az prog 105 [agg (BL q)] (Ja D)):Az prog 105 [agg [int t,VN b,bool n,slice 4 (List.replicate m (BL q))]] (Ja (D+1)):=by
 refine Az.of func105 rfl rfl (by exact Nb rfl) fun M0 w0=> ?_
 have hlr:(List.replicate m (BL q)).length=m:=List.length_replicate
 have hlb:(List.replicate b PT).length=b:=List.length_replicate
 refine Tr.seq (Tr.AW (co rfl (BZ rfl (Va rfl)) (cm rfl (Ch.nil (Fin.go (Tr.seq (Tr.AW (cm rfl (Ch.nil (Fin.go (Tr.seq (Tr.seq (Tr.AW ?_)))))))))))))
 refine cm rfl (Ch.nil (Fin.go (Tr.block (Tr.A7 [(1,_)] ⟨ke rfl,trivial⟩ (fun k:Nat=>[(4,int ((k:Nat):Int)),(3,Ja D)]) (fun k:Nat=>k≤((List.replicate m (BL q)).length)) (fun k:Nat=>((List.replicate m (BL q)).length)-k) 0 (Nat.zero_le _) ⟨ke rfl,⟨_,rfl,AG 0 (AU (by omega) (Lr))⟩,trivial⟩ ?_))))
 rintro k BN
 refine Tr.seq (Tr.seq (Tr.AW (cm rfl (co rfl (Kt rfl KL rfl rfl) (co rfl (DQ rfl QT rfl) (co rfl (Br rfl underlying185 (vl rfl)) (co rfl (ki rfl rfl rfl rfl) (Ch.nil (Fin.go ?_)))))))))
 refine Tr.cn rfl ?_ ?_<;>intro h1 q1
 have Af:k<((List.replicate m (BL q)).length):=AH h1
 have hkm:k<m:=by simpa using Af
 have ih2:=ih.resolve_left (by omega)
 refine Tr.skip (Fin.go (Tr.seq (Tr.block (Tr.An (tm rfl ?_)))))
 refine TO.ex 12 rfl (fun z12=>TO.fact 12 rfl fun ym=> ?_)
 refine tp rfl (Kt rfl KL rfl rfl) (tp rfl (DQ rfl QT rfl) (tm rfl (tp rfl (AA rfl underlying185 CF (vl rfl) (vl rfl) (by omega) (IQ hkm)) (tp rfl (AR rfl Cn CF (vl rfl) rfl rfl) (tp rfl (AQ rfl (ih2) ⟨ke rfl,trivial⟩) ?_)))))
 refine TO.ex 18 rfl (fun z18=>TO.fact 18 rfl fun w5=> ?_)
 refine tp rfl (JT rfl (vl rfl) (vl rfl)) (tm rfl (TO.nil (Fin.block (Fin.go (CR 1 3 4 rfl (Tr.AW (cm rfl (GV rfl rfl rfl rfl (by omega) (cm rfl (Ch.nil (Fin.AM (k+1) ⟨Af,by omega⟩ ⟨⟨_,rfl,AD k⟩,⟨_,rfl,AG _ (AU (by omega) (Lr))⟩,ke rfl,trivial⟩)))))))))))
 have BI:k=((List.replicate m (BL q)).length):=by have:=AJ h1;omega
 refine Tr.exit (Fin.AS (Fin.AS (Fin.Ak (Fin.go (Tr.seq (Tr.An (tm rfl ?_)))))))
 refine TO.ex 20 rfl (fun z20=>TO.fact 20 rfl fun yp=> ?_)
 refine tp rfl (Ge rfl (vl rfl) (vl rfl) ?hin) ?_;case hin=>unfold K1;omega
 refine tm rfl (TO.nil (Fin.go (Tr.ret (Fin.DZ rfl (BE.CZ _ _) rfl ?_))))
 · exact AG _ (AU (by omega) (Lr))
def Nk (n:Nat):Nat:=if h:n=0 then 0 else 1+Nk (n/256)
termination_by n
decreasing_by omega
theorem PU:Nk 0=0:=by unfold Nk;simp
theorem R4 {n:Nat} (h:0<n):Nk n=1+Nk (n/256):=by conv=>lhs;unfold Nk;rw [dif_neg (by omega)]
theorem Qk:∀(n:Nat),Nk n≤n:=by
 intro n
 induction n using Nat.strongRecOn with
 |_ n ih=>
  rcases Nat.eq_zero_or_pos n with h|h
  · subst h;rw [PU];omega
  · rw [R4 h];have:=ih (n/256) (by omega);omega
def We (n:Nat):Nat:=if n<128 then 1 else 1+Nk n
theorem VP (n:Nat):We n≤n+1:=by unfold We;have:=Qk n;split<;>omega
theorem VQ (k:Int):Pr.le (slice 1 [[is (.int .u8 k)]]) (VN 1):=Gm (l:=[()]) (f:=fun _=>k)
theorem Wf {n:Nat} (hn:n≤100000000):Az prog 135 [int ((n:Nat):Int)] (VN (We n)):=by
 refine fo func135 rfl ⟨rfl,rfl⟩ fun M0 w0=> ?_
 refine ac ?_
 refine an ?_ ?_<;>intro h1 q1
 refine ac ?_
 refine co rfl (EK rfl underlying3 underlying5 (vl rfl)) (co rfl (AL (xs:=[.tmp 7]) (rows:=[PT]) rfl rfl underlying142 K6 z5 rfl (by decide) ⟨⟨(by exact rfl),VL.le (vl rfl) (Pr.le_trans (Bx _ _) (Aj _))⟩,trivial⟩ (by decide)) ?_)
 refine a2 ?_
 · refine Pr.le_trans (Bp _ _) (Pr.le_of_eq ?_);unfold We;rw [if_pos (by omega)];rfl
 refine a2 ?_
 refine Tr.seq (Tr.block (Tr.Bs 5 1 (Tr.Cc [] trivial (fun (k:Nat) (acc:Nat) v=>[(0,int ((k:Nat):Int)),(3,Ag v (VN acc))]) (fun (k:Nat) (acc:Nat) v=>Hp M0 w0 Eo ([Ap 5 1 v])) (fun (k:Nat) (acc:Nat)=>Nk k+acc=Nk n∧k≤n) (fun (k:Nat) (acc:Nat)=>k) (n) (0) (.slice none 0 0) (⟨by omega,by omega⟩) ⟨ke rfl,⟨_,rfl,BX rfl⟩,trivial⟩ (fun _ _ h=>h) ?_)))
 rintro k acc v ⟨hk1,hk2⟩
 refine an ?_ ?_<;>intro h2 q2
 have hk0:0<k:=by have:=D_.Ey h2;omega
 have hdg:=R4 hk0
 have hle:=Qk n
 refine ac ?_
 refine ap ?_
 refine tp rfl (QD rfl (vl rfl) (vl rfl) (by omega)) (tp rfl (EK rfl underlying3 underlying5 (vl rfl)) (tp rfl (AL (xs:=[.tmp 13]) (rows:=[PT]) rfl rfl underlying142 K6 z5 rfl (by decide) ⟨⟨(by exact rfl),VL.le (vl rfl) (Pr.le_trans (Bx _ _) (Aj _))⟩,trivial⟩ (by decide)) ?_))
 refine tm rfl (TO.pad ?_)
 refine TO.DP 0 rfl rfl (by decide) (Bl rfl rfl rfl rfl underlying142 K6 U3 z5 (Kf rfl) (Kb rfl) (Ba (by exact List.Mem.head _) (vl rfl))) (fun v1=> ?_)
 refine ap ?_
 refine ac ?_
 refine co rfl (M4 rfl (vl rfl) (vl rfl) (by omega)) ?_
 refine ac ?_
 refine Fin.drop 1 ?_
 exact Fin.BM (k/256) (acc+1) v1 (⟨⟨by omega,by omega⟩,by omega⟩) ⟨⟨_,rfl,int_eq (by rw [Int.tdiv_eq_ediv_of_nonneg (by omega),GR (by unfold K1;omega)];omega)⟩,⟨_,rfl,Au (by rw [show ([PT]:List (List Pr))=List.replicate 1 PT from rfl,KZ,Nat.add_comm])⟩,trivial⟩ (fun _ _ h=>h)
 have hk0:k=0:=by have:=D_.Ey h2;omega
 subst hk0
 have hle:=Qk n
 rw [PU] at hk1
 refine ac ?_
 refine ap ?_
 refine tp rfl (Br rfl underlying142 (Kb rfl)) (tp rfl (ki rfl rfl rfl rfl) (tp rfl (EK rfl underlying3 underlying5 (vl rfl)) (tp rfl (AL (xs:=[.tmp 22]) (rows:=[PT]) rfl rfl underlying142 K6 z5 rfl (by decide) ⟨⟨(by exact rfl),VL.le (vl rfl) (Pr.le_trans (Bx _ _) (Aj _))⟩,trivial⟩ (by decide)) ?_)))
 refine tm rfl (TO.pad ?_)
 refine TO.DP 0 rfl rfl (by decide) (Bl rfl rfl rfl rfl underlying142 K6 U3 z5 (Kf rfl) (Kb rfl) (Ba (by exact List.Mem.head _) (vl rfl))) (fun v2=> ?_)
 refine ap ?_
 refine ac ?_
 · refine Pr.le_trans (Ah _ _) (Pr.le_of_eq ?_);unfold We;rw [if_neg (by omega),show ([PT]:List (List Pr))=List.replicate 1 PT from rfl,KZ,show acc=Nk n by omega]
theorem Tn {t:Int} {b:Nat} {n:Bool} {m:Nat} {q:Pr} {B:Nat}  (hb:b≤1000) (hm:m≤20) (hB:B≤1000000) (ih:m=0∨Az prog 106 [agg (BL q)] (Dv B)):Az prog 106 [agg [int t,VN b,bool n,slice 4 (List.replicate m (BL q))]] (Dv (2*(1000+20*B)+2)):=by
 refine fo func106 rfl ⟨rfl,rfl⟩ fun M0 w0=> ?_
 have hlr:(List.replicate m (BL q)).length=m:=List.length_replicate
 have hlb:(List.replicate b PT).length=b:=List.length_replicate
 refine ac ?_
 refine ap ?_
 refine TO.pad ?_
 refine TO.DP 0 rfl rfl (by decide) (Bl rfl rfl rfl rfl underlying142 K6 U3 z5 (Kf rfl) (vl rfl) (Ba (by exact List.Mem.head _) (vl rfl))) (fun v1=> ?_)
 refine ap ?_
 refine ac ?_
 refine Tr.block (Tr.Cc [(1,_)] ⟨ke rfl,trivial⟩ (fun (k:Nat) (acc:Nat) v=>[(4,int ((k:Nat):Int)),(3,Ag v (VN acc))]) (fun (k:Nat) (acc:Nat) v=>Hp M0 w0 Eo ([Ap 5 1 v])) (fun (k:Nat) (acc:Nat)=>k≤m∧acc≤b+k*B) (fun (k:Nat) (acc:Nat)=>m-k) (0) (b) v1 (⟨by omega,by omega⟩) ⟨ke rfl,⟨_,rfl,Au (by simp)⟩,trivial⟩ (fun _ _ h=>h) ?_)
 rintro k acc v ⟨hk1,hk2⟩
 have hkB:k*B≤20*B:=Nat.mul_le_mul_right B (by omega)
 refine ac ?_
 refine co rfl (Br rfl underlying185 (vl rfl)) ?_
 refine an ?_ ?_<;>intro h1 q1
 have hkm:k<m:=by have:=D_.Ey h1;rw [hlr] at this;omega
 have ih2:=ih.resolve_left (by omega)
 refine ac ?_
 refine ap ?_
 refine tp rfl (AA rfl underlying185 CF (vl rfl) (vl rfl) (by omega) (IQ hkm)) (tp rfl (AR rfl Cn CF (vl rfl) rfl rfl) (tp rfl (Ce (ih2) rfl rfl) ?_))
 refine TO.ex 22 rfl (fun z22=>TO.fact 22 rfl fun yq=> ?_)
 refine TO.DP 0 rfl rfl (by decide) (Bl rfl rfl rfl rfl underlying142 K6 U3 z5 (Kb rfl) (vl rfl) (Aq (by exact List.Mem.head _) (Ka rfl))) (fun v2=> ?_)
 refine ap ?_
 refine CR 1 3 4 rfl ?_
 refine ac ?_
 exact Fin.BM (k+1) (acc+z22) v2 (⟨⟨by omega,by rw [Nat.succ_mul];omega⟩,by omega⟩) ⟨⟨_,rfl,AD k⟩,⟨_,rfl,Au (by rw [KZ])⟩,ke rfl,trivial⟩ (fun _ _ h=>h)
 have VR:k=m:=by have:=D_.Ey h1;rw [hlr] at this;omega
 have VS:=VP acc
 refine ac ?_
 refine Tr.seq (Tr.pad (Tr.rx ?_))
 refine ay ?_
 refine xo rfl (fun _=>EK rfl underlying3 underlying5 (vl rfl)) (xo rfl (fun _=>AL (xs:=[.tmp 26]) (rows:=[PT]) rfl rfl underlying142 K6 z5 rfl (by decide) ⟨⟨(by exact rfl),VL.le (vl rfl) (Pr.le_trans (Bx _ _) (Aj _))⟩,trivial⟩ (by decide)) ?_)
 refine xm rfl (xo rfl (fun _=>Br rfl underlying142 (Kb rfl)) ?_)
 refine xo rfl (fun _=>AQ rfl (Wf (n:=acc) (by omega)) ⟨⟨_,rfl,int_eq (by simp)⟩,trivial⟩) ?_
 refine Cx.ef 0 rfl rfl (by decide) (Bl rfl rfl rfl rfl underlying142 K6 U3 z5 (Kf rfl) (vl rfl) (Ba (by exact List.Mem.head _) (vl rfl))) ?_
 refine xm rfl ?_
 refine Cx.ef 0 rfl rfl (by decide) (Bl rfl rfl rfl rfl underlying142 K6 U3 z5 (vl rfl) (Kb rfl) WM) ?_
 refine Cx.ef 0 rfl rfl (by decide) (QH rfl rfl (by decide) rfl (vl rfl)) ?_
 refine Cx.nil ⟨by kernel_rfl,?_⟩
 refine BQ.open_ 0 2 rfl rfl (fun v3=> ?_)
 refine BQ.done VE (Fin.go (Eh 2 rfl ?_))
 refine ac ?_
 · exact B3 (m:=1+We acc+acc) (by have:=VP acc;omega) (Pr.le_trans (Ah _ _) (Pr.le_of_eq (by rw [show ([PT]:List (List Pr))=List.replicate 1 PT from rfl,KZ,KZ])))
theorem Wg {q:Pr} {D B:Nat} (hf:Az prog 104 [agg (BL q)] DW) (hd:Az prog 105 [agg (BL q)] (Ja D)) (hp:Az prog 106 [agg (BL q)] (Dv B)):Az prog 84 [agg (BL q)] (EI [Dv B,FQ .i64]):=by
 refine fo func84 rfl ⟨rfl,rfl⟩ fun M0 w0=> ?_
 refine ac ?_
 refine ap ?_
 refine tp rfl (Ce (hf) rfl rfl) ?_
 refine TO.ex 6 rfl (fun z6=> ?_)
 refine ap ?_
 refine Tr.cn rfl ?_ ?_<;>intro h1 q1
 refine ac ?_
 refine Tr.ret (Fin.AB (Fin.DN rfl (BE.CZ _ _) rfl ?_ rfl ?_))
 · exact B3 (m:=0) (by omega) (AF 1)
 · exact Bx _ _
 refine ac ?_
 refine ap ?_
 refine tp rfl (Ce (hd) rfl rfl) ?_
 refine TO.ex 9 rfl (fun z9=>TO.fact 9 rfl fun hz9=> ?_)
 refine ap ?_
 refine Tr.cn rfl ?_ ?_<;>intro h2 q2
 refine ac ?_
 refine Tr.ret (Fin.AB (Fin.DN rfl (BE.CZ _ _) rfl ?_ rfl ?_))
 · exact B3 (m:=0) (by omega) (AF 1)
 · exact Bx _ _
 refine a2 ?_
 refine co rfl (Ce (hp) rfl rfl) ?_
 refine ac ?_
 refine ap ?_
 refine TO.ex 13 rfl (fun z13=>TO.fact 13 rfl fun yt=> ?_)
 refine tp rfl (Br rfl underlying142 (vl rfl)) ?_
 refine ap ?_
 refine CY 4 15 rfl ?_
 refine Tr.cn rfl ?_ ?_<;>intro h3 q3
 refine ac ?_
 refine Tr.ret (Fin.AB (Fin.DN rfl (BE.CZ _ _) rfl ?_ rfl ?_))
 · exact B3 (m:=0) (by omega) (AF 1)
 · exact Bx _ _
 refine a2 ?_
 refine Tr.ret (Fin.DN rfl (BE.CZ _ _) rfl ?_ rfl ?_)
 · exact Lr
 · exact Bx _ _
theorem eM:IntKind.u8.wrap 0=0:=rfl
def lvI (x:Int):Nat:=if x≤0 then 0 else if x<256 then 1 else if x<65536 then 2 else if x<16777216 then 3 else if x<4294967296 then 4 else if x<1099511627776 then 5 else 6+x.toNat
theorem ZM {x:Int} (h:0<x):lvI (x/256)<lvI x:=by
 unfold lvI
 repeat' split
 all_goals omega
def IU (x h:Int):Nat:=if x=0 then (if 128≤h then 1 else 0) else lvI x+1
theorem eN {n h:Int} (h0:0≤n) (h1:n≤1099511627776):IU (n/256) h≤400:=by
 unfold IU lvI
 repeat' split
 all_goals omega
theorem F1 {x h:Int} {t:Nat} (h0:0≤x) (hc:x≠0∨128≤h) (hi:t+IU x h≤400):(0≤x/256∧t+1+IU (x/256) (IntKind.u8.wrap x)≤400)∧IU (x/256) (IntKind.u8.wrap x)<IU x h:=by
 have key:IU (x/256) (IntKind.u8.wrap x)<IU x h:=by
  unfold IU
  by_cases hx:x=0
  ·
   subst hx
   rw [eM,if_pos (by decide),if_neg (by decide),if_pos rfl,if_pos (by omega)];decide
  ·
   have:=ZM (x:=x) (by omega)
   rw [if_neg hx]
   by_cases hy:x/256=0
   ·
    rw [if_pos hy];have:(if 128≤IntKind.u8.wrap x then 1 else 0)≤1:=by split<;>omega
    omega
   · rw [if_neg hy];omega
 exact ⟨⟨by omega,by omega⟩,key⟩
theorem Ga {P:Program} {I:CT} {E:Env} {o:Oper} {t u:TypeId} {x y:Operand} {m:Int} (ho:o.op= .binOp .shr t x y u) (hx:VL E x (int m)) (hy:VL E y (is (.int .u64 8))) (h0:0≤m):Ac P I o E (int (m/256)):=
 Ac.same fun M w a he _=>by
  have h1:a.eval x= .int .i64 m:=hx.ev he (by simp [ho,Op.operands])
  have h2:a.eval y= .int .u64 8:=hy.ev he (by simp [ho,Op.operands])
  refine ⟨.int .i64 (m.fdiv 256),?_,congrArg (Value.int .i64) (Int.fdiv_eq_ediv_of_nonneg m (by omega))⟩
  simp only [execOp,ho,h1,h2]
  simp [eqGuard,binOp,Op.shift,IntKind.bits]
abbrev q0:Pr:=slice 4 []
theorem Jb {n:Int} (hn:0≤n∧n≤1099511627776):Az prog 109 [int n] (agg (BL q0)):=by
 refine fo func109 rfl ⟨rfl,rfl⟩ fun M0 w0=>(Tr.seq (Tr.An ?_))
 refine Tl rfl rfl rfl rfl LC JG (fun b1=> ?_)
 refine ap ?_
 refine ac ?_
 refine co rfl (EK rfl underlying3 underlying5 (vl rfl)) ?_
 refine a2 ?_
 refine co rfl (Ga rfl (vl rfl) (vl rfl) (by omega)) ?_
 refine ac ?_
 refine Tr.block ?_
 refine Tr.NI [(2,_)] ⟨ke rfl,trivial⟩ (fun (x:Int) (h:Int) (t:List Int)=>[(4,int x),(3,slice 1 ((h::t).map fun n=>[is (.int .u8 n)]))]) (fun (x:Int) (h:Int) (t:List Int)=>Hp M0 w0 Eo ([AE true b1 187 (([.int .i64 0,.slice none 0 0,.bool false,.slice none 0 0]:List Value).map is)])) (fun (x:Int) (h:Int) (t:List Int)=>0≤x∧t.length+IU x h≤400) (fun (x:Int) (h:Int) (t:List Int)=>IU x h) (n/256) (IntKind.u8.wrap n) ([])  (⟨by omega,by simp only [List.length_nil];have:=eN (h:=IntKind.u8.wrap n) hn.1 hn.2;omega⟩) ⟨ke rfl,⟨_,rfl,Pr.le_trans (Bp _ _) (Pr.le_of_eq rfl)⟩,trivial⟩ (fun _ _ h=>h) ?_
 rintro x h t  ⟨hx0,kZ⟩
 refine ag ?_ ?_<;>intro h1 q1
 refine ag ?_ ?_<;>intro h2 q2
 refine ac ?_
 refine D7 2 3 4 35 rfl ?_
 refine ac ?_
 refine ap ?_
 refine tp rfl (EK rfl underlying3 underlying5 (vl rfl)) ?_
 refine ap ?_
 refine TO.pad ?_
 refine TO.DP 0 rfl rfl (by decide) (Bl rfl rfl rfl rfl underlying142 K6 U3 z5 (Kf rfl) (vl rfl) (Ba (by exact List.Mem.head _) (vl rfl))) (fun v1=> ?_)
 refine ap ?_
 refine ac ?_
 refine co rfl (Ga rfl (vl rfl) (vl rfl) (by omega)) ?_
 refine ac ?_
 refine Fin.drop 0 (Fin.E_ (x/256) (IntKind.u8.wrap x) (h::t)  ((F1 hx0 (by omega) kZ)) ⟨ke rfl,⟨_,rfl,Pr.le_trans (Ah _ _) (Pr.le_of_eq rfl)⟩,ke rfl,trivial⟩ (fun _ _ h=>h))
 refine ag ?_ ?_<;>intro h3 q3
 refine FZ h3 rfl ?_
 refine cy h3 rfl (AA rfl underlying142 K6 (vl rfl) (vl rfl) (by omega) (AO (k:=0) rfl)) ?_
 refine ag ?_ ?_<;>intro h4 q4
 refine ac ?_
 refine D7 2 3 4 35 rfl ?_
 refine ac ?_
 refine ap ?_
 refine tp rfl (EK rfl underlying3 underlying5 (vl rfl)) ?_
 refine ap ?_
 refine TO.pad ?_
 refine TO.DP 0 rfl rfl (by decide) (Bl rfl rfl rfl rfl underlying142 K6 U3 z5 (Kf rfl) (vl rfl) (Ba (by exact List.Mem.head _) (vl rfl))) (fun v2=> ?_)
 refine ap ?_
 refine ac ?_
 refine co rfl (Ga rfl (vl rfl) (vl rfl) (by omega)) ?_
 refine ac ?_
 refine Fin.drop 0 (Fin.E_ (x/256) (IntKind.u8.wrap x) (h::t)  ((F1 hx0 (by omega) kZ)) ⟨ke rfl,⟨_,rfl,Pr.le_trans (Ah _ _) (Pr.le_of_eq rfl)⟩,ke rfl,trivial⟩ (fun _ _ h=>h))
 refine ag ?_ ?_<;>intro h5 q5
 refine FZ h5 rfl ?_
 refine cy h5 rfl (AA rfl underlying142 K6 (vl rfl) (vl rfl) (by omega) (AO (k:=0) rfl)) ?_
 refine ac ?_
 refine D7 2 3 4 35 rfl ?_
 refine Tr.cn rfl ?_ ?_<;>intro h6 q6
 have OZ:=h6
 refine ac ?_
 refine ap ?_
 refine tp rfl (EK rfl underlying3 underlying5 (vl rfl)) ?_
 refine ap ?_
 refine TO.pad ?_
 refine TO.DP 0 rfl rfl (by decide) (Bl rfl rfl rfl rfl underlying142 K6 U3 z5 (Kf rfl) (vl rfl) (Ba (by exact List.Mem.head _) (vl rfl))) (fun v3=> ?_)
 refine ap ?_
 refine ac ?_
 refine co rfl (Ga rfl (vl rfl) (vl rfl) (by omega)) ?_
 refine ac ?_
 refine Fin.drop 0 (Fin.E_ (x/256) (IntKind.u8.wrap x) (h::t)  ((F1 hx0 (by omega) kZ)) ⟨ke rfl,⟨_,rfl,Pr.le_trans (Ah _ _) (Pr.le_of_eq rfl)⟩,ke rfl,trivial⟩ (fun _ _ h=>h))
 have OZ:=h6
 refine ac ?_
 refine ap ?_
 refine Tr.ret (Fin.CJ rfl (AP.cell 0 rfl rfl Cn CF rfl (Lr)) ?_)
 · exact Ar ⟨Bx _ _,B3 (m:=(h::t).length) (by simp only [List.length_cons];omega) Gm,AG _ (Lr),AF 4,trivial⟩
 refine ac ?_
 refine D7 2 3 4 35 rfl ?_
 refine ac ?_
 refine ap ?_
 refine Tr.ret (Fin.CJ rfl (AP.cell 0 rfl rfl Cn CF rfl (Lr)) ?_)
 · exact Ar ⟨Bx _ _,B3 (m:=(h::t).length) (by simp only [List.length_cons];omega) Gm,AG _ (Lr),AF 4,trivial⟩
 refine ag ?_ ?_<;>intro h7 q7
 refine FZ h7 rfl ?_
 refine cy h7 rfl (AA rfl underlying142 K6 (vl rfl) (vl rfl) (by omega) (AO (k:=0) rfl)) ?_
 refine ac ?_
 refine D7 2 3 4 35 rfl ?_
 refine Tr.cn rfl ?_ ?_<;>intro h8 q8
 have OZ:=h8
 refine ac ?_
 refine ap ?_
 refine tp rfl (EK rfl underlying3 underlying5 (vl rfl)) ?_
 refine ap ?_
 refine TO.pad ?_
 refine TO.DP 0 rfl rfl (by decide) (Bl rfl rfl rfl rfl underlying142 K6 U3 z5 (Kf rfl) (vl rfl) (Ba (by exact List.Mem.head _) (vl rfl))) (fun v4=> ?_)
 refine ap ?_
 refine ac ?_
 refine co rfl (Ga rfl (vl rfl) (vl rfl) (by omega)) ?_
 refine ac ?_
 refine Fin.drop 0 (Fin.E_ (x/256) (IntKind.u8.wrap x) (h::t)  ((F1 hx0 (by omega) kZ)) ⟨ke rfl,⟨_,rfl,Pr.le_trans (Ah _ _) (Pr.le_of_eq rfl)⟩,ke rfl,trivial⟩ (fun _ _ h=>h))
 have OZ:=h8
 refine ac ?_
 refine ap ?_
 refine Tr.ret (Fin.CJ rfl (AP.cell 0 rfl rfl Cn CF rfl (Lr)) ?_)
 · exact Ar ⟨Bx _ _,B3 (m:=(h::t).length) (by simp only [List.length_cons];omega) Gm,AG _ (Lr),AF 4,trivial⟩
 refine ac ?_
 refine D7 2 3 4 35 rfl ?_
 refine ac ?_
 refine ap ?_
 refine Tr.ret (Fin.CJ rfl (AP.cell 0 rfl rfl Cn CF rfl (Lr)) ?_)
 · exact Ar ⟨Bx _ _,B3 (m:=(h::t).length) (by simp only [List.length_cons];omega) Gm,AG _ (Lr),AF 4,trivial⟩
 refine ag ?_ ?_<;>intro h9 q9
 refine FZ h9 rfl ?_
 refine cy h9 rfl (AA rfl underlying142 K6 (vl rfl) (vl rfl) (by omega) (AO (k:=0) rfl)) ?_
 refine ag ?_ ?_<;>intro h10 Oa
 refine ac ?_
 refine D7 2 3 4 35 rfl ?_
 refine ac ?_
 refine ap ?_
 refine tp rfl (EK rfl underlying3 underlying5 (vl rfl)) ?_
 refine ap ?_
 refine TO.pad ?_
 refine TO.DP 0 rfl rfl (by decide) (Bl rfl rfl rfl rfl underlying142 K6 U3 z5 (Kf rfl) (vl rfl) (Ba (by exact List.Mem.head _) (vl rfl))) (fun v5=> ?_)
 refine ap ?_
 refine ac ?_
 refine co rfl (Ga rfl (vl rfl) (vl rfl) (by omega)) ?_
 refine ac ?_
 refine Fin.drop 0 (Fin.E_ (x/256) (IntKind.u8.wrap x) (h::t)  ((F1 hx0 (by omega) kZ)) ⟨ke rfl,⟨_,rfl,Pr.le_trans (Ah _ _) (Pr.le_of_eq rfl)⟩,ke rfl,trivial⟩ (fun _ _ h=>h))
 refine ag ?_ ?_<;>intro h11 PR
 refine FZ h11 rfl ?_
 refine cy h11 rfl (AA rfl underlying142 K6 (vl rfl) (vl rfl) (by omega) (AO (k:=0) rfl)) ?_
 refine ac ?_
 refine D7 2 3 4 35 rfl ?_
 refine Tr.cn rfl ?_ ?_<;>intro h12 S6
 have OZ:=h12
 refine ac ?_
 refine ap ?_
 refine tp rfl (EK rfl underlying3 underlying5 (vl rfl)) ?_
 refine ap ?_
 refine TO.pad ?_
 refine TO.DP 0 rfl rfl (by decide) (Bl rfl rfl rfl rfl underlying142 K6 U3 z5 (Kf rfl) (vl rfl) (Ba (by exact List.Mem.head _) (vl rfl))) (fun v6=> ?_)
 refine ap ?_
 refine ac ?_
 refine co rfl (Ga rfl (vl rfl) (vl rfl) (by omega)) ?_
 refine ac ?_
 refine Fin.drop 0 (Fin.E_ (x/256) (IntKind.u8.wrap x) (h::t)  ((F1 hx0 (by omega) kZ)) ⟨ke rfl,⟨_,rfl,Pr.le_trans (Ah _ _) (Pr.le_of_eq rfl)⟩,ke rfl,trivial⟩ (fun _ _ h=>h))
 have OZ:=h12
 refine ac ?_
 refine ap ?_
 refine Tr.ret (Fin.CJ rfl (AP.cell 0 rfl rfl Cn CF rfl (Lr)) ?_)
 · exact Ar ⟨Bx _ _,B3 (m:=(h::t).length) (by simp only [List.length_cons];omega) Gm,AG _ (Lr),AF 4,trivial⟩
 refine ac ?_
 refine D7 2 3 4 35 rfl ?_
 refine ac ?_
 refine ap ?_
 refine Tr.ret (Fin.CJ rfl (AP.cell 0 rfl rfl Cn CF rfl (Lr)) ?_)
 · exact Ar ⟨Bx _ _,B3 (m:=(h::t).length) (by simp only [List.length_cons];omega) Gm,AG _ (Lr),AF 4,trivial⟩
 refine ag ?_ ?_<;>intro MG Xt
 refine FZ MG rfl ?_
 refine cy MG rfl (AA rfl underlying142 K6 (vl rfl) (vl rfl) (by omega) (AO (k:=0) rfl)) ?_
 refine ac ?_
 refine D7 2 3 4 35 rfl ?_
 refine Tr.cn rfl ?_ ?_<;>intro Ku eO
 have OZ:=Ku
 refine ac ?_
 refine ap ?_
 refine tp rfl (EK rfl underlying3 underlying5 (vl rfl)) ?_
 refine ap ?_
 refine TO.pad ?_
 refine TO.DP 0 rfl rfl (by decide) (Bl rfl rfl rfl rfl underlying142 K6 U3 z5 (Kf rfl) (vl rfl) (Ba (by exact List.Mem.head _) (vl rfl))) (fun v7=> ?_)
 refine ap ?_
 refine ac ?_
 refine co rfl (Ga rfl (vl rfl) (vl rfl) (by omega)) ?_
 refine ac ?_
 refine Fin.drop 0 (Fin.E_ (x/256) (IntKind.u8.wrap x) (h::t)  ((F1 hx0 (by omega) kZ)) ⟨ke rfl,⟨_,rfl,Pr.le_trans (Ah _ _) (Pr.le_of_eq rfl)⟩,ke rfl,trivial⟩ (fun _ _ h=>h))
 have OZ:=Ku
 refine ac ?_
 refine ap ?_
 refine Tr.ret (Fin.CJ rfl (AP.cell 0 rfl rfl Cn CF rfl (Lr)) ?_)
 · exact Ar ⟨Bx _ _,B3 (m:=(h::t).length) (by simp only [List.length_cons];omega) Gm,AG _ (Lr),AF 4,trivial⟩
 refine ac ?_
 refine D7 2 3 4 35 rfl ?_
 refine ac ?_
 refine ap ?_
 refine Tr.ret (Fin.CJ rfl (AP.cell 0 rfl rfl Cn CF rfl (Lr)) ?_)
 · exact Ar ⟨Bx _ _,B3 (m:=(h::t).length) (by simp only [List.length_cons];omega) Gm,AG _ (Lr),AF 4,trivial⟩
theorem Ql {s:List UInt8} (hs:s.length≤1000):Az prog 107 [str s] (agg (BL q0)):=by
 refine fo func107 rfl ⟨rfl,rfl⟩ fun M0 w0=>(Tr.seq (Tr.An ?_))
 refine Tl rfl rfl rfl rfl LC JG (fun b1=> ?_)
 refine ap ?_
 refine ap ?_
 refine tp rfl (Yi rfl underlying9 underlying142 underlying5 (vl rfl) (by unfold maxLen;omega)) ?_
 refine ap ?_
 refine Tr.ret (Fin.CJ rfl (AP.cell 0 rfl rfl Cn CF rfl (Lr)) ?_)
 · exact Ar ⟨Bx _ _,B3 (m:=s.length) (by omega) (Gm (f:=fun c:UInt8=>((c.toNat:Nat):Int))),AG _ (Lr),AF 4,trivial⟩
theorem eP {b:Bool}  :Az prog 111 [bool b] (agg (BL q0)):=by
 refine fo func111 rfl ⟨rfl,rfl⟩ fun M0 w0=>(Tr.seq (Tr.An ?_))
 refine Tl rfl rfl rfl rfl LC JG (fun b1=> ?_)
 refine ap ?_
 refine an ?_ ?_<;>intro h1 q1
 refine ap ?_
 refine tp rfl (Ai (rows:=[(0,[_]),(1,[_])]) rfl Yh JG ⟨⟨rfl,(Vo rfl)⟩,⟨⟨rfl,⟨_,rfl,Pr.le_trans (Bp _ _) (Aj _)⟩⟩,trivial⟩⟩ rfl) ?_
 refine ap ?_
 refine Tr.ret (Fin.AB (Fin.CJ rfl (AP.cell 0 rfl rfl Cn CF rfl (Lr)) ?_))
 · exact Ar ⟨Bx _ _,B3 (m:=1) (by omega) (VQ _),AG _ (Lr),AF 4,trivial⟩
 refine ac ?_
 refine ap ?_
 refine tp rfl (Ai (rows:=[(0,[_]),(1,[_])]) rfl Yh JG ⟨⟨rfl,(Vo rfl)⟩,⟨⟨rfl,⟨_,rfl,Pr.le_trans (Bp _ _) (Aj _)⟩⟩,trivial⟩⟩ rfl) ?_
 refine ap ?_
 refine Tr.ret (Fin.CJ rfl (AP.cell 0 rfl rfl Cn CF rfl (Lr)) ?_)
 · exact Ar ⟨Bx _ _,B3 (m:=1) (by omega) (VQ _),AG _ (Lr),AF 4,trivial⟩
theorem LI {m:Nat} {q:Pr} [One q]  (hm:m≤20) (ih:m=0∨Az prog 136 [q] q):Az prog 136 [slice 4 (List.replicate m (BL q))] (slice 4 (List.replicate m (BL q))):=by
 refine Az.of func136 rfl rfl (by exact Nb rfl) fun M0 w0=> ?_
 have hlr:(List.replicate m (BL q)).length=m:=List.length_replicate
 refine Tr.seq (Tr.AW (cm rfl (Ch.nil (Fin.go (Tr.seq (Tr.AW (cm rfl (Ch.nil (Fin.go (Tr.seq (Tr.seq (Tr.AW (cm rfl ?_)))))))))))))
 refine Ch.nil (Fin.go (Tr.block (Tr.Bs 187 4 (Tr.EN [(0,_)] ⟨ke rfl,trivial⟩ (fun k v=>[(4,int ((k:Nat):Int)),(3,Ag v (slice 4 (List.replicate k (BL q))))]) (fun k v=>Hp M0 w0 Eo ([Ap 187 4 v])) (fun k:Nat=>k≤((List.replicate m (BL q)).length)) (fun k:Nat=>((List.replicate m (BL q)).length)-k) 0 (.slice none 0 0) (Nat.zero_le _) ⟨ke rfl,⟨_,rfl,BX rfl⟩,trivial⟩ (fun _ _ h=>h) ?_))))
 rintro k v BN
 refine Tr.seq (Tr.seq (Tr.AW (cm rfl (cm rfl (co rfl (Br rfl underlying185 (vl rfl)) (co rfl (ki rfl rfl rfl rfl) (Ch.nil (Fin.go ?_))))))))
 refine Tr.cn rfl ?_ ?_<;>intro h1 q1
 have Af:k<((List.replicate m (BL q)).length):=AH h1
 have hkm:k<m:=by simpa using Af
 have ih2:=ih.resolve_left (by omega)
 refine Tr.skip (Fin.go (Tr.seq (Tr.block (Tr.seq (Tr.An (tm rfl (tm rfl (tp rfl (AA rfl underlying185 CF (vl rfl) (vl rfl) (by omega) (IQ hkm)) (tp rfl (AR rfl Cn CF (vl rfl) rfl rfl) ?_)))))))))
 refine Tl rfl rfl rfl rfl LC JG (fun b1=> ?_)
 refine TO.AK 0 rfl rfl rfl (vl rfl) (Va rfl) rfl CF rfl rfl (TO.nil (Fin.go (Tr.seq (Tr.An (tp rfl (AL (xs:=[]) (rows:=[]) rfl rfl underlying142 K6 z5 rfl (by decide) trivial (by decide)) (tp rfl (Ae rfl QU (vl rfl)) (TO.rd 0 rfl rfl rfl (by decide) (B4 rfl Yg (vl rfl) rfl) ?_)))))))
 refine TO.ex 18 rfl (fun z18=>TO.fact 18 rfl fun w5=> ?_)
 refine TO.pad ?_
 refine TO.DP 0 rfl rfl (by decide) (Bl rfl rfl rfl rfl underlying142 K6 U3 z5 (Kf rfl) (vl rfl) (Ba (by exact List.Mem.head _) (vl rfl))) (fun v1=> ?_)
 refine tp rfl (Ae rfl QU (vl rfl)) (TO.Dp 1 rfl rfl (Ay rfl rfl (vl rfl) (Vo rfl) pT rfl (by exact Nb rfl) rfl) (TO.nil (Fin.go (D7 0 3 4 5 rfl (Tr.seq (Tr.An (tp rfl (Ae rfl KL (vl rfl)) (TO.rd 1 rfl rfl rfl (by decide) (B4 rfl QT (vl rfl) rfl) (tp rfl (AQ rfl (ih2) ⟨ke rfl,trivial⟩) (tp rfl (Ae rfl KL (vl rfl)) (TO.Dp 1 rfl rfl (Ay rfl rfl (vl rfl) (Vo rfl) pY rfl (by exact Nb rfl) rfl) (TO.nil (Fin.go (Tr.An ?_))))))))))))))
 refine tm rfl (TO.rd 1 rfl rfl rfl (by decide) (B_ rfl Cn CF (vl rfl) rfl rfl) (tp rfl (AL (xs:=[.tmp 26]) (rows:=[BL q]) rfl rfl underlying185 CF LC rfl (by decide) ⟨⟨(by exact rfl),VL.le (vl rfl) (Pr.le_trans (Ar (qs:=BL q) ⟨Lr,B3 (m:=z18) (by omega) (Pr.le_trans (Ah _ _) (Pr.le_of_eq rfl)),Lr,Lr,trivial⟩) (Aa _))⟩,trivial⟩ (by decide)) ?_))
 refine TO.DP 2 rfl rfl (by decide) (Bl rfl rfl rfl rfl underlying185 CF iE LC (Kb rfl) (Kf rfl) (Aq (by exact List.Mem.head _) (Ka rfl))) (fun v2=> ?_)
 refine tm rfl (TO.nil (Fin.block (Fin.go (Tr.drop 1 (Tr.AW (cm rfl (GV rfl rfl rfl rfl (by omega) (cm rfl (Ch.nil (Fin.drop 0 (Fin.DC (k+1) v2 (⟨Af,by omega⟩) ⟨⟨_,rfl,AD k⟩,⟨_,rfl,Au (by rw [VO])⟩,ke rfl,trivial⟩ (fun _ _ h=>h))))))))))))
 have BI:k=((List.replicate m (BL q)).length):=by have:=AJ h1;omega
 refine Tr.exit (Fin.AS (Fin.AS (Fin.Ak (Fin.go (Tr.seq (Tr.AW (cm rfl (cm rfl (Ch.nil (Fin.go (Tr.ret (Fin.DZ rfl (BE.CZ _ _) rfl ?_))))))))))))
 · exact Pr.le_trans (Ah _ _) (Pr.le_of_eq (by rw [BI,hlr]))
theorem Qm {m:Nat} {q:Pr}  (hm:m≤20) (hc:Az prog 136 [slice 4 (List.replicate m (BL q))] (slice 4 (List.replicate m (BL q)))):Az prog 108 [slice 4 (List.replicate m (BL q))] (agg (BL (IP (BL q)))):=by
 refine fo func108 rfl ⟨rfl,rfl⟩ fun M0 w0=>(Tr.seq (Tr.An ?_))
 refine Tl rfl rfl rfl rfl LC JG (fun b1=> ?_)
 refine ap ?_
 refine ap ?_
 refine tp rfl (Ce (hc) rfl rfl) ?_
 refine ap ?_
 refine Tr.ret (Fin.CJ rfl (AP.cell 0 rfl rfl Cn CF rfl (Lr)) ?_)
 · exact Ar ⟨Bx _ _,B3 (m:=0) (by omega) (AF 1),AG _ (Lr),AG m (AU hm (Lr)),trivial⟩
structure Hx.vf (c:Hx):Prop where
 s0:0≤c.IJ
 s1:c.IJ≤1099511627776
 iss:named c.LF=true
 sub:named c.Iw=true
 nm:F0 c.names=true
 key:Fc c.Og c.JI 2=true
 k0:0≤c.B8
 k1:c.B8≤2147483648
 hash:Fc c.Ti c.Ng 1=true
 sk0:0≤c.eC
 sk1:c.eC≤2147483648
 su0:0≤c.eD
 su1:c.eD<4294967296
 f0:0≤c.from_
 ft:c.from_≤c.LG
 t1:c.LG≤40000
 p0:0≤c.path
 p1:c.path≤8
 ap:c.auth=true∨c.path=0
theorem DK {c:Hx} (hv:DI c=true):c.vf:=by
 simp only [DI,Fz,kU,Bool.and_eq_true,Bool.or_eq_true,decide_eq_true_eq,beq_iff_eq] at hv
 obtain ⟨⟨⟨⟨⟨⟨⟨h1,h2⟩,h3⟩,h4⟩,h5⟩,⟨⟨⟨⟨h6,⟨h7,h8⟩⟩,h9⟩,⟨h10,h11⟩⟩,⟨h12,MG⟩⟩⟩,⟨⟨Ku,Rf⟩,h16⟩⟩,⟨⟨MH,OX⟩,bt⟩⟩:=hv
 exact ⟨h1,h2,h3,h4,h5,h6,h7,h8,h9,h10,h11,h12,MG,Ku,Rf,h16,MH,OX,bt⟩
theorem VT {c:Hx} (h:c.vf):DI c=true:=by
 simp only [DI,Fz,kU,Bool.and_eq_true,Bool.or_eq_true,decide_eq_true_eq,beq_iff_eq]
 exact ⟨⟨⟨⟨⟨⟨⟨h.s0,h.s1⟩,h.iss⟩,h.sub⟩,h.nm⟩,⟨⟨⟨⟨h.key,⟨h.k0,h.k1⟩⟩,h.hash⟩,⟨h.sk0,h.sk1⟩⟩,⟨h.su0,h.su1⟩⟩⟩,⟨⟨h.f0,h.ft⟩,h.t1⟩⟩,⟨⟨h.p0,h.p1⟩,h.ap⟩⟩
theorem To {a b k:Int} (h:Fc a b k=true):decide (C6 a b>0)=true∧(Du a).kind=k:=by
 unfold Fc at h;simpa using h
theorem Qn {l:List (List UInt8)} {k:Nat} {s:List UInt8} (h:nameAt l k=true) (hs:l[k]? =some s):named s=true:=by
 unfold nameAt at h;rw [hs] at h;simp at h;exact h.1
theorem VU {l:List (List UInt8)} {k:Nat} {s y:List UInt8} (h:nameAt l k=true) (hs:l[k]? =some s) (hy:l[k-1]? =some y) (hk:0<k):decide (Lib.compareBytes y s= -1)=true:=by
 unfold nameAt at h;rw [hs,hy] at h;simp at h
 rcases h.2 with h2|h2
 · omega
 · simpa using h2
theorem PV {c:Hx} (hv:DI c=true):Az prog 56 [agg (Es c)] (int 0):=by
 refine fo func56 rfl ⟨rfl,rfl⟩ fun M0 w0=> ?_
 obtain ⟨hs0,hs1,kf,hsub,hnm,hkey,hk0,hk1,iR,w7,w8,w9,w_,Xu,hft,ht1,jQ,R5,hap⟩:=DK hv
 obtain ⟨rP,rQ⟩:=To hkey
 obtain ⟨hh1,hh2⟩:=To iR
 have LJ:=hnm
 unfold F0 at LJ
 rw [Bool.and_eq_true,Bv,decide_eq_true_eq] at LJ
 obtain ⟨hall,rR⟩:=LJ
 refine ac ?_
 refine ag ?_ ?_<;>intro h1 q1
 exfalso;have:=q1;omega
 refine ag ?_ ?_<;>intro h2 q2
 exfalso;have:=q2;omega
 refine ac ?_
 refine cy h2 rfl (Ce (Fb) rfl rfl) ?_
 refine ag ?_ ?_<;>intro h3 q3
 rw [kf] at h3;exact absurd h3 (by decide)
 refine ac ?_
 refine cy h3 rfl (Ce (Fb) rfl rfl) ?_
 refine ag ?_ ?_<;>intro h4 q4
 rw [hsub] at h4;exact absurd h4 (by decide)
 refine ac ?_
 refine cy h4 rfl (Ce (IM) rfl rfl) ?_
 refine ag ?_ ?_<;>intro h5 q5
 rw [rP,rQ] at h5;exact absurd h5 (by decide)
 refine ag ?_ ?_<;>intro h6 q6
 exfalso;have:=q6;omega
 refine ac ?_
 refine CY 1 39 rfl ?_
 refine Tr.cn rfl ?_ ?_<;>intro h7 q7
 exfalso;have:=q7;omega
 refine a2 ?_
 refine co rfl (Ce (IL) rfl rfl) ?_
 refine ag ?_ ?_<;>intro h8 q8
 rw [hh1] at h8;exact absurd h8 (by decide)
 refine ac ?_
 refine cy h8 rfl (Ce (Ma) rfl rfl) ?_
 refine ag ?_ ?_<;>intro h9 q9
 rw [hh2] at h9;exact absurd h9 (by decide)
 refine ag ?_ ?_<;>intro h10 Oa
 exfalso;have:=Oa;omega
 refine ag ?_ ?_<;>intro h11 PR
 exfalso;have:=PR;omega
 refine ac ?_
 refine CY 1 67 rfl ?_
 refine Tr.cn rfl ?_ ?_<;>intro h12 S6
 exfalso;have:=S6;omega
 refine ac ?_
 refine ag ?_ ?_<;>intro MG Xt
 exfalso;have:=Xt;omega
 refine ag ?_ ?_<;>intro Ku eO
 exfalso;have:=eO;omega
 refine ag ?_ ?_<;>intro Rf kY
 refine ag ?_ ?_<;>intro h16 kg
 exfalso;have:=kg;simp_all
 refine ac ?_
 refine CY 1 91 rfl ?_
 refine Tr.cn rfl ?_ ?_<;>intro MH eG
 exfalso;have:=eG;omega
 refine a2 ?_
 refine Tr.block (Tr.A7 [(1,_)] ⟨ke rfl,trivial⟩ (fun k:Nat=>[(3,int ((k:Nat):Int))]) (fun k:Nat=>k≤(c.names).length) (fun k:Nat=>(c.names).length-k) 0 (Nat.zero_le _) ⟨ke rfl,trivial⟩ ?_)
 rintro k BN
 refine an ?_ ?_<;>intro OX kV
 have Af:k<(c.names).length:=AH OX
 obtain ⟨s,Ad⟩:=at_ Af
 have hat:=hall k (by omega)
 have hna:=Qn hat Ad
 refine a2 ?_
 refine co rfl (AA rfl underlying64 MI (vl rfl) (vl rfl) (by omega) (AO Ad)) (co rfl (DQ rfl MJ rfl) (co rfl (Ce (Fb) rfl rfl) ?_))
 refine ag ?_ ?_<;>intro bt q19
 exfalso;rw [hna] at bt;exact absurd bt (by decide)
 refine ag ?_ ?_<;>intro OY nW
 have Jc:0<k:=by simpa using OY
 obtain ⟨y,hy⟩:=at_ (l:=c.names) (k:=k-1) (by omega)
 have hlt:=VU hat Ad hy Jc
 refine ac ?_
 refine cy OY rfl (AA rfl underlying64 MI (vl rfl) (vl rfl) (by omega) (by rw [show ((k:Nat):Int)-1=((k-1:Nat):Int) by omega];exact AO hy)) ?_
 refine ac ?_
 refine cy OY rfl (AA rfl underlying64 MI (vl rfl) (vl rfl) (by omega) (AO Ad)) (cy OY rfl (DQ rfl MJ rfl) (cy OY rfl (NR rfl (vl rfl) (vl rfl)) ?_))
 refine ac ?_
 refine CR 1 3 123 rfl ?_
 refine Tr.cn rfl ?_ ?_<;>intro VH q21
 exfalso;rw [hlt] at VH;exact absurd VH (by decide)
 refine a2 ?_
 exact Fin.AM (k+1) ⟨Af,by omega⟩ ⟨⟨_,rfl,AD k⟩,ke rfl,trivial⟩
 refine ac ?_
 refine CR 1 3 123 rfl ?_
 refine a2 ?_
 exact Fin.AM (k+1) ⟨Af,by omega⟩ ⟨⟨_,rfl,AD k⟩,ke rfl,trivial⟩
 have BI:k=(c.names).length:=by have:=AJ OX;omega
 refine ac ?_
 refine ag ?_ ?_<;>intro h22 q22
 exfalso;have:=q22;omega
 refine ag ?_ ?_<;>intro h23 q23
 exfalso;have:=q23;omega
 refine ag ?_ ?_<;>intro PW q24
 exfalso;have:=q24;omega
 refine ac ?_
 refine Eh 145 rfl ?_
 refine Tr.cn rfl ?_ ?_<;>intro h25 q25
 exfalso;have:=q25;omega
 refine a3 ?_
 · exact Lr
 refine ac ?_
 refine CY 1 91 rfl ?_
 refine Tr.cn rfl ?_ ?_<;>intro h26 q26
 exfalso;have:=q26;omega
 refine a2 ?_
 refine Tr.block (Tr.A7 [(1,_)] ⟨ke rfl,trivial⟩ (fun k:Nat=>[(3,int ((k:Nat):Int))]) (fun k:Nat=>k≤(c.names).length) (fun k:Nat=>(c.names).length-k) 0 (Nat.zero_le _) ⟨ke rfl,trivial⟩ ?_)
 rintro k BN
 refine an ?_ ?_<;>intro nX q27
 have Af:k<(c.names).length:=AH nX
 obtain ⟨s,Ad⟩:=at_ Af
 have hat:=hall k (by omega)
 have hna:=Qn hat Ad
 refine a2 ?_
 refine co rfl (AA rfl underlying64 MI (vl rfl) (vl rfl) (by omega) (AO Ad)) (co rfl (DQ rfl MJ rfl) (co rfl (Ce (Fb) rfl rfl) ?_))
 refine ag ?_ ?_<;>intro h28 q28
 exfalso;rw [hna] at h28;exact absurd h28 (by decide)
 refine ag ?_ ?_<;>intro Xv q29
 have Jc:0<k:=by simpa using Xv
 obtain ⟨y,hy⟩:=at_ (l:=c.names) (k:=k-1) (by omega)
 have hlt:=VU hat Ad hy Jc
 refine ac ?_
 refine cy Xv rfl (AA rfl underlying64 MI (vl rfl) (vl rfl) (by omega) (by rw [show ((k:Nat):Int)-1=((k-1:Nat):Int) by omega];exact AO hy)) ?_
 refine ac ?_
 refine cy Xv rfl (AA rfl underlying64 MI (vl rfl) (vl rfl) (by omega) (AO Ad)) (cy Xv rfl (DQ rfl MJ rfl) (cy Xv rfl (NR rfl (vl rfl) (vl rfl)) ?_))
 refine ac ?_
 refine CR 1 3 123 rfl ?_
 refine Tr.cn rfl ?_ ?_<;>intro h30 q30
 exfalso;rw [hlt] at h30;exact absurd h30 (by decide)
 refine a2 ?_
 exact Fin.AM (k+1) ⟨Af,by omega⟩ ⟨⟨_,rfl,AD k⟩,ke rfl,trivial⟩
 refine ac ?_
 refine CR 1 3 123 rfl ?_
 refine a2 ?_
 exact Fin.AM (k+1) ⟨Af,by omega⟩ ⟨⟨_,rfl,AD k⟩,ke rfl,trivial⟩
 have BI:k=(c.names).length:=by have:=AJ nX;omega
 refine ac ?_
 refine ag ?_ ?_<;>intro h31 q31
 exfalso;have:=q31;omega
 refine ag ?_ ?_<;>intro h32 q32
 exfalso;have:=q32;omega
 refine ag ?_ ?_<;>intro h33 q33
 exfalso;have:=q33;omega
 refine ac ?_
 refine Eh 145 rfl ?_
 refine Tr.cn rfl ?_ ?_<;>intro h34 q34
 exfalso;have:=q34;omega
 refine a3 ?_
 · exact Lr
abbrev eR:Pr:=Cp.ex fun n:Int=>fact (0≤n∧n<4294967296) (is (.int .u32 n))
abbrev kj:Pr:=Cp.ex fun n:Int=>fact (0≤n∧n<4294967296) (int n)
theorem eS:Pr.le eR (FQ .u32):=fun _ _ _ ⟨n,_,h⟩=>⟨n,h⟩
section
variable {P:Program} {I:CT} {E:Env} {o:Oper}
theorem ZN {s t:TypeId} {x:Operand} {k k':IntKind} (ho:o.op= .convert s t x) (hs:P.underlying s=some (.int k)) (ht:P.underlying t=some (.int k')) (hx:VL E x (FQ k)):Ac P I o E (FQ k'):=
 Ac.same fun M w a he _=>by
  obtain ⟨n,h1⟩:=hx.ev he (by simp [ho,Op.operands])
  have h1:a.eval x= .int k n:=h1
  refine ⟨.int k' (k'.wrap n),?_,_,rfl⟩
  simp [execOp,ho,h1,convert,run_underlying hs,run_underlying ht,Conv.intToInt,Sem.run_bind]
theorem eT {t u:TypeId} {x y:Operand} (ho:o.op= .binOp .mul t x y u) (hx:VL E x (FQ .u32)) (hy:VL E y (FQ .u32)):Ac P I o E eR:=
 Ac.same fun M w a he _=>by
  obtain ⟨m,h1⟩:=hx.ev he (by simp [ho,Op.operands])
  obtain ⟨n,h2⟩:=hy.ev he (by simp [ho,Op.operands])
  have h1:a.eval x= .int .u32 m:=h1
  have h2:a.eval y= .int .u32 n:=h2
  refine ⟨.int .u32 (IntKind.u32.wrap (m*n)),by simp [execOp,ho,h1,h2,eqGuard,binOp,Op.intArith],_,?_,rfl⟩
  rw [IntKind.wrap_u32];omega
theorem Wh {s t:TypeId} {x:Operand} (ho:o.op= .convert s t x) (hs:P.underlying s=some (.int .u32)) (ht:P.underlying t=some (.int .i64)) (hx:VL E x eR):Ac P I o E kj:=
 Ac.same fun M w a he _=>by
  obtain ⟨n,hn,h1⟩:=hx.ev he (by simp [ho,Op.operands])
  have h1:a.eval x= .int .u32 n:=h1
  refine ⟨.int .i64 (IntKind.i64.wrap n),?_,n,hn,by rw [GR (by unfold K1;omega)];rfl⟩
  simp [execOp,ho,h1,convert,run_underlying hs,run_underlying ht,Conv.intToInt,Sem.run_bind]
end
theorem Az.IP {P:Program} {f:FuncId} {row:List Pr} (h:∀m,m≤20→Az P f [slice 4 (List.replicate m row)] (slice 4 (List.replicate m row))):Az P f [Go.Proofs.YtmpglcehonnpkaaGreat.IP row] (Go.Proofs.YtmpglcehonnpkaaGreat.IP row):=by
 refine ⟨(h 0 (by omega)).1,fun M w vs hb hv=> ?_⟩
 match vs,hv with
 |[u0],Xs=>
  obtain ⟨⟨m,hm,h0⟩,_⟩:=Xs
  exact ((h m hm).2 M w [u0] hb ⟨h0,trivial⟩).mono fun e w' ⟨v,h1,h2,h3⟩=>⟨v,h1,⟨m,hm,h2⟩,h3⟩
theorem Az.Dv {P:Program} {f:FuncId} {B:Nat} {res:Pr} (h:∀m,m≤B→Az P f [VN m] res):Az P f [Go.Proofs.YtmpglcehonnpkaaGreat.Dv B] res:=by
 refine ⟨(h 0 (by omega)).1,fun M w vs hb hv=> ?_⟩
 match vs,hv with
 |[u0],Xs=>
  obtain ⟨⟨m,hm,h0⟩,_⟩:=Xs
  exact (h m hm).2 M w [u0] hb ⟨h0,trivial⟩
abbrev Kv:Pr:=IP (BL q0)
abbrev qA2:Pr:=IP (BL Kv)
theorem Lz:Pr.le q0 Kv:=AG 0 (AU (by omega) (Pr.le_refl _))
theorem rc0:Az Tryz.prog 136 [q0] q0:=LI (m:=0) (q:=q0) (by omega) (.inl rfl)
theorem rc1 (m:Nat) (hm:m≤20):Az Tryz.prog 136 [slice 4 (List.replicate m (BL q0))] (slice 4 (List.replicate m (BL q0))):=LI hm (.inr rc0)
theorem rc2 (m:Nat) (hm:m≤20):Az Tryz.prog 136 [slice 4 (List.replicate m (BL Kv))] (slice 4 (List.replicate m (BL Kv))):=LI hm (.inr (Az.IP rc1))
theorem rf0:Az Tryz.prog 104 [agg (BL q0)] DW:=Az.ZL fun t b n hb=>LH (m:=0) (q:=q0) hb (by omega) (.inl rfl)
theorem rf1:Az Tryz.prog 104 [agg (BL Kv)] DW:=Az.BL fun t b n m hb hm=>LH hb hm (.inr rf0)
theorem rf2:Az Tryz.prog 104 [agg (BL qA2)] DW:=Az.BL fun t b n m hb hm=>LH hb hm (.inr rf1)
theorem rd0:Az Tryz.prog 105 [agg (BL q0)] (Ja 1):=Az.ZL fun t b n hb=>Nj (m:=0) (q:=q0) (D:=0) hb (by omega) (by omega) (.inl rfl)
theorem rd1:Az Tryz.prog 105 [agg (BL Kv)] (Ja 2):=Az.BL fun t b n m hb hm=>Nj hb hm (by omega) (.inr rd0)
theorem rd2:Az Tryz.prog 105 [agg (BL qA2)] (Ja 3):=Az.BL fun t b n m hb hm=>Nj hb hm (by omega) (.inr rd1)
theorem rp0:Az Tryz.prog 106 [agg (BL q0)] (Dv 2002):=Az.ZL fun t b n hb=>Tn (m:=0) (q:=q0) (B:=0) hb (by omega) (by omega) (.inl rfl)
theorem rp1:Az Tryz.prog 106 [agg (BL Kv)] (Dv 82082):=Az.BL fun t b n m hb hm=>Tn (B:=2002) hb hm (by omega) (.inr rp0)
theorem rp2:Az Tryz.prog 106 [agg (BL qA2)] (Dv 3285282):=Az.BL fun t b n m hb hm=>Tn (B:=82082) hb hm (by omega) (.inr rp1)
theorem rE2:Az Tryz.prog 84 [agg (BL qA2)] (EI [Dv 3285282,FQ .i64]):=Wg rf2 rd2 rp2
structure Hx.Tp (c:Hx):Prop where
 IJ:c.IJ≤1099511627776
 B8:c.B8≤2147483648
 Og:0≤c.Og∧c.Og≤40000
 JI:0≤c.JI∧c.JI≤40000
 Ti:0≤c.Ti∧c.Ti≤40000
 Ng:0≤c.Ng∧c.Ng≤40000
theorem I0 {s:List UInt8} (h:named s=true):s.length≤32:=by unfold named at h;simp at h;omega
theorem VV {a b:Int} (ha:0≤a∧a≤40000) (hb:0≤b∧b≤40000):Az prog 110 [agg [int a,int b]] (agg (BL Kv)):=by
 refine fo func110 rfl ⟨rfl,rfl⟩ fun M0 w0=>(Tr.seq (Tr.An (tp rfl (BZ rfl (Va rfl)) ?_)))
 refine Tl rfl rfl rfl rfl LC JG (fun b1=> ?_)
 refine ap ?_
 refine Tr.seq (Tr.rx ?_)
 refine ay ?_
 refine xo rfl (fun _=>Ce (Jb (by omega)) rfl rfl) ?_
 refine ay ?_
 refine xo rfl (fun _=>Ce (Jb (by omega)) rfl rfl) (xo rfl (fun _=>AL (xs:=[.tmp 5,.tmp 8]) (rows:=[_,_]) rfl rfl underlying185 CF LC rfl (by decide) ⟨⟨(by exact rfl),(Va rfl)⟩,⟨⟨(by exact rfl),(Va rfl)⟩,trivial⟩⟩ (by decide)) ?_)
 refine xo rfl (fun _=>AQ rfl (Qm (m:=2) (q:=q0) (by omega) (rc1 _ (by omega))) ⟨(Kf rfl),trivial⟩) ?_
 refine Cx.Dp 0 rfl rfl (Ay rfl rfl (vl rfl) (Va rfl) CF rfl (by exact Nb rfl) rfl) ?_
 refine Cx.nil ⟨by kernel_rfl,?_⟩
 refine BQ.done al1 (Fin.go (Tr.ret (Fin.CJ rfl (AP.cell 0 rfl rfl Cn CF rfl (Lr)) ?_)))
 · exact Lr
theorem R6 {c:Hx} (hv:DI c=true) (ht:c.Tp):Az prog 85 [agg (Es c)] (agg (BL qA2)):=by
 refine fo func85 rfl ⟨rfl,rfl⟩ fun M0 w0=> ?_
 obtain ⟨hs0,hs1,kf,hsub,hnm,hkey,hk0,hk1,iR,w7,w8,w9,w_,Xu,hft,ht1,jQ,R5,hap⟩:=DK hv
 obtain ⟨g1,g2,g3,g4,g5,g6⟩:=ht
 have LJ:=hnm
 unfold F0 at LJ
 rw [Bool.and_eq_true,Bv,decide_eq_true_eq] at LJ
 obtain ⟨hall,rR⟩:=LJ
 have Uq:=I0 kf
 have bh:=I0 hsub
 refine Tr.seq (Tr.An (tp rfl (BZ rfl (Va rfl)) ?_))
 refine Tl rfl rfl rfl rfl LC JG (fun b1=> ?_)
 refine ap ?_
 refine a2 ?_
 refine Tr.block (Tr.Bs 187 4 (Tr.EN [(1,_),(2,_)] ⟨ke rfl,ke rfl,trivial⟩ (fun k v=>[(4,int ((k:Nat):Int)),(3,Ag v (slice 4 (List.replicate k (BL q0))))]) (fun k v=>Hp M0 w0 Eo ([Ap 187 4 v,AE true b1 187 (([.int .i64 0,.slice none 0 0,.bool false,.slice none 0 0]:List Value).map is)])) (fun k:Nat=>k≤(c.names).length) (fun k:Nat=>(c.names).length-k) 0 (.slice none 0 0) (Nat.zero_le _) ⟨ke rfl,⟨_,rfl,BX rfl⟩,trivial⟩ (fun _ _ h=>h) ?_))
 rintro k v BN
 refine an ?_ ?_<;>intro h1 q1
 have Af:k<(c.names).length:=AH h1
 obtain ⟨s,Ad⟩:=at_ Af
 have hsn:=I0 (Qn (hall k (by omega)) Ad)
 refine ac ?_
 refine ap ?_
 refine tp rfl (AA rfl underlying64 MI (vl rfl) (vl rfl) (by omega) (by exact AO (by assumption))) ?_
 refine tp rfl (DQ rfl MJ rfl) (tp rfl (Ce (Ql (by omega)) rfl rfl) (tp rfl (AL (xs:=[.tmp 18]) (rows:=[_]) rfl rfl underlying185 CF LC rfl (by decide) ⟨⟨(by exact rfl),(Va rfl)⟩,trivial⟩ (by decide)) ?_))
 refine TO.DP 0 rfl rfl (by decide) (Bl rfl rfl rfl rfl underlying185 CF iE LC (Kb rfl) (Kf rfl) (Aq (by exact List.Mem.head _) (Ka rfl))) (fun v1=> ?_)
 refine ap ?_
 refine D7 1 2 3 4 rfl ?_
 refine ac ?_
 exact Fin.DC (k+1) v1 (⟨Af,by omega⟩) ⟨⟨_,rfl,AD k⟩,⟨_,rfl,Au (by rw [VO])⟩,ke rfl,ke rfl,trivial⟩ (fun _ _ h=>h)
 have BI:k=(c.names).length:=by have:=AJ h1;omega
 refine ac ?_
 refine Tr.seq (Tr.rx ?_)
 refine ay ?_
 refine xo rfl (fun _=>Ce (Jb (by omega)) rfl rfl) ?_
 refine ay ?_
 refine xo rfl (fun _=>Ce (Ql (by omega)) rfl rfl) ?_
 refine ay ?_
 refine xo rfl (fun _=>Ce (Ql (by omega)) rfl rfl) ?_
 refine ay ?_
 refine xo rfl (fun _=>Ce (VV g3 g4) rfl rfl) ?_
 refine ay ?_
 refine xo rfl (fun _=>Ce (Jb (by omega)) rfl rfl) ?_
 refine ay ?_
 refine xo rfl (fun _=>Ce (VV g5 g6) rfl rfl) ?_
 refine ay ?_
 refine xo rfl (fun _=>Ce (Jb (by omega)) rfl rfl) ?_
 refine ay ?_
 refine xo rfl (fun _=>Ce (Jb (by omega)) rfl rfl) ?_
 refine ay ?_
 refine xo rfl (fun _=>Ce (eP) rfl rfl) ?_
 refine ay ?_
 refine xo rfl (fun _=>Ce (Jb (by omega)) rfl rfl) (xm rfl ?_)
 refine xo rfl (fun _=>AQ rfl (Qm (m:=c.names.length) (q:=q0) (by omega) (rc1 _ (by omega))) ⟨⟨_,rfl,Pr.le_trans (Ah _ _) (Pr.le_of_eq (by rw [BI]))⟩,trivial⟩) ?_
 refine xo rfl (fun _=>AL (xs:=[.tmp 23,.tmp 26,.tmp 29,.tmp 32,.tmp 35,.tmp 38,.tmp 41,.tmp 44,.tmp 47,.tmp 50,.tmp 52]) (rows:=[BL Kv,BL Kv,BL Kv,BL Kv,BL Kv,BL Kv,BL Kv,BL Kv,BL Kv,BL Kv,BL Kv]) rfl rfl underlying185 CF LC rfl (by decide) ⟨⟨(by exact rfl),VL.le (vl rfl) (Pr.le_trans (Ar (qs:=BL Kv) ⟨Lr,Lr,Lr,Lz,trivial⟩) (Aa _))⟩,⟨⟨(by exact rfl),VL.le (vl rfl) (Pr.le_trans (Ar (qs:=BL Kv) ⟨Lr,Lr,Lr,Lz,trivial⟩) (Aa _))⟩,⟨⟨(by exact rfl),VL.le (vl rfl) (Pr.le_trans (Ar (qs:=BL Kv) ⟨Lr,Lr,Lr,Lz,trivial⟩) (Aa _))⟩,⟨⟨(by exact rfl),VL.le (vl rfl) (Aa _)⟩,⟨⟨(by exact rfl),VL.le (vl rfl) (Pr.le_trans (Ar (qs:=BL Kv) ⟨Lr,Lr,Lr,Lz,trivial⟩) (Aa _))⟩,⟨⟨(by exact rfl),VL.le (vl rfl) (Aa _)⟩,⟨⟨(by exact rfl),VL.le (vl rfl) (Pr.le_trans (Ar (qs:=BL Kv) ⟨Lr,Lr,Lr,Lz,trivial⟩) (Aa _))⟩,⟨⟨(by exact rfl),VL.le (vl rfl) (Pr.le_trans (Ar (qs:=BL Kv) ⟨Lr,Lr,Lr,Lz,trivial⟩) (Aa _))⟩,⟨⟨(by exact rfl),VL.le (vl rfl) (Pr.le_trans (Ar (qs:=BL Kv) ⟨Lr,Lr,Lr,Lz,trivial⟩) (Aa _))⟩,⟨⟨(by exact rfl),VL.le (vl rfl) (Pr.le_trans (Ar (qs:=BL Kv) ⟨Lr,Lr,Lr,Lz,trivial⟩) (Aa _))⟩,⟨⟨(by exact rfl),VL.le (vl rfl) (Aa _)⟩,trivial⟩⟩⟩⟩⟩⟩⟩⟩⟩⟩⟩ (by decide)) ?_
 refine xo rfl (fun _=>AQ rfl (Qm (m:=11) (q:=Kv) (by omega) (rc2 _ (by omega))) ⟨(Kf rfl),trivial⟩) ?_
 refine Cx.Dp 1 rfl rfl (Ay rfl rfl (vl rfl) (Va rfl) CF rfl (by exact Nb rfl) rfl) ?_
 refine Cx.nil ⟨by kernel_rfl,?_⟩
 refine BQ.done VE (Fin.go (Eh 2 rfl (Tr.ret (Fin.CJ rfl (AP.cell 1 rfl rfl Cn CF rfl (Lr)) ?_))))
 · exact Lr
theorem Wi {c:Hx} (hv:DI c=true) (ht:c.Tp):Az prog 57 [agg (Es c)] (EI [Dv 3285282,FQ .i64]):=by
 refine fo func57 rfl ⟨rfl,rfl⟩ fun M0 w0=> ?_
 refine a2 ?_
 refine co rfl (Ce (PV hv) rfl rfl) ?_
 refine an ?_ ?_<;>intro h1 q1
 exact absurd h1 (by decide)
 refine a2 ?_
 refine co rfl (Ce (R6 hv ht) rfl rfl) (co rfl (Ce (rE2) rfl rfl) ?_)
 refine ac ?_
 refine Tr.ret (Fin.DN rfl (BE.CZ _ _) rfl ?_ rfl ?_)
 · exact Lr
 · exact Lr
theorem VW {m:Nat} (hm:m≤100000000):Az prog 58 [VN m] (kj):=by
 refine fo func58 rfl ⟨rfl,rfl⟩ fun M0 w0=> ?_
 have hlr:(List.replicate m PT).length=m:=List.length_replicate
 refine a3 ?_
 refine Tr.block (Tr.A7 [(0,_)] ⟨ke rfl,trivial⟩ (fun k:Nat=>[(4,int ((k:Nat):Int)),(3,eR)]) (fun k:Nat=>k≤((List.replicate m PT).length)) (fun k:Nat=>((List.replicate m PT).length)-k) 0 (Nat.zero_le _) ⟨ke rfl,⟨_,rfl,AG _ (AU (by omega) (Lr))⟩,trivial⟩ ?_)
 rintro k BN
 refine ac ?_
 refine co rfl (Br rfl underlying142 (vl rfl)) ?_
 refine an ?_ ?_<;>intro h1 q1
 have Af:k<((List.replicate m PT).length):=AH h1
 have hkm:k<m:=by simpa using Af
 refine a2 ?_
 refine co rfl (AA rfl underlying142 K6 (vl rfl) (vl rfl) (by omega) (IQ hkm)) (co rfl (DQ rfl oq rfl) (co rfl (ZN rfl underlying5 underlying189 (vl rfl)) (co rfl (dm (by decide) rfl (VL.le (vl rfl) eS) (vl rfl)) (co rfl (eT rfl (vl rfl) (VL.le (vl rfl) (Bx _ _))) ?_))))
 refine ac ?_
 refine CR 0 3 4 rfl ?_
 refine ac ?_
 exact Fin.AM (k+1) ⟨Af,by omega⟩ ⟨⟨_,rfl,AD k⟩,ke rfl,ke rfl,trivial⟩
 have BI:k=((List.replicate m PT).length):=by have:=AJ h1;omega
 refine a2 ?_
 refine co rfl (Wh rfl underlying189 underlying3 (vl rfl)) ?_
 refine a2 ?_
 · exact Lr
theorem ZO {c:Hx} (hn:c.names.length≤1000):Az prog 55 [agg (Es c)] (agg (Es c)):=by
 refine fo func55 rfl ⟨rfl,rfl⟩ fun M0 w0=>(Tr.seq (Tr.An ?_))
 refine TO.cM rfl rfl (by decide) rfl (Va rfl) (fun b1=> ?_)
 refine Tl rfl rfl rfl rfl TX NN (fun b2=> ?_)
 refine ap ?_
 refine ap ?_
 refine TO.pad ?_
 refine TO.DP 0 rfl rfl (by decide) (Bl rfl rfl rfl rfl underlying64 MI by9 z9 (Kf rfl) (vl rfl) (Ba (by exact List.Mem.head _) (vl rfl))) (fun v1=> ?_)
 refine ap ?_
 refine ap ?_
 refine Tr.drop 2 (Tr.ret (Fin.CJ rfl (AP.cell 1 rfl rfl Gk Dl rfl (Lr)) ?_))
 · exact Ar ⟨Lr,Lr,Lr,Lr,Lr,Lr,Lr,Lr,Lr,Lr,Lr,Lr,Pr.le_trans (Ah _ _) (Pr.le_of_eq (by simp)),Lr,Lr,trivial⟩
abbrev Nl (c:Hx) (key s:Int):Hx:=⟨c.IJ,c.LF,c.Iw,c.Og,c.JI,c.B8,c.Ti,c.Ng,c.from_,c.LG,c.auth,c.path,c.names,key,s⟩
theorem ZP {c:Hx} {key:Int} (hv:DI (Nl c 0 0)=true) (ht:(Nl c 0 0).Tp) (hk:0≤key∧key≤2147483648):Az prog 41 [agg (Es c),int key] (Cp.ex fun s:Int=>fact (0≤s∧s<4294967296) (EI [agg (Es (Nl c key s)),int 0])):=by
 refine Az.of func41 rfl rfl (by exact Nb rfl) fun M0 w0=> ?_
 have hnn:c.names.length≤1000:=by have:=(DK hv).nm;unfold F0 at this;simp at this;omega
 refine Tr.seq (Tr.An ?_)
 refine TO.cM rfl rfl (by decide) rfl (Va rfl) (fun b1=> ?_)
 refine Tl rfl rfl rfl rfl TX NN (fun b2=> ?_)
 refine tm rfl (TO.nil (Fin.go (Tr.seq (Tr.An (TO.rd 1 rfl rfl rfl (by decide) (B_ rfl Gk Dl (vl rfl) rfl rfl) ?_)))))
 refine tp rfl (AQ rfl (ZO (c:=c) hnn) ⟨ke rfl,trivial⟩) ?_
 refine TO.AK 1 rfl rfl rfl (vl rfl) (Va rfl) rfl Dl rfl rfl (TO.nil (Fin.go (Tr.seq (Tr.An (tp rfl (Ai (rows:=[]) rfl iA iB trivial rfl) (tp rfl (Ae rfl NO (vl rfl)) (TO.Dp 1 rfl rfl (Ay rfl rfl (vl rfl) (Va rfl) Yd rfl (by exact Nb rfl) rfl) (TO.nil (Fin.go (Tr.seq (Tr.seq (Tr.AW (co rfl (Dr 1 rfl (B_ rfl Gk Dl (vl rfl) rfl rfl)) ?_)))))))))))))
 refine co rfl (AQ rfl (PV (c:=Nl c 0 0) hv) ⟨ke rfl,trivial⟩) ?_
 refine co rfl (ki rfl rfl rfl rfl) (cm rfl ?_)
 refine Ch.cs 15 rfl ?_ ?_<;>intro h1 q1
 exact absurd h1 (by decide)
 refine FZ h1 rfl (cy h1 rfl (ki rfl rfl rfl rfl) (co rfl (HM rfl rfl h1 rfl) (cm rfl ?_)))
 refine Ch.cs 19 rfl ?_ ?_<;>intro h2 q2
 exfalso;have:=q2;omega
 refine FZ h2 rfl (cy h2 rfl (ki rfl rfl rfl rfl) (co rfl (HM rfl rfl h2 rfl) (Ch.nil (Fin.go (D7 1 2 4 22 rfl ?_)))))
 refine Tr.cn rfl ?_ ?_<;>intro h3 q3
 exfalso;have:=q3;omega
 refine Tr.skip (Fin.go (Tr.seq (Tr.AW (co rfl (Dr 1 rfl (B_ rfl Gk Dl (vl rfl) rfl rfl)) ?_))))
 refine co rfl (AQ rfl (Wi (c:=Nl c 0 0) hv ht) ⟨ke rfl,trivial⟩) ?_
 refine cm rfl (co rfl (BA rfl (vl rfl) rfl) (co rfl (BA rfl (vl rfl) rfl) (cm rfl (cm rfl (Ch.nil (Fin.go (Tr.seq (Tr.An (tm rfl (tm rfl (tp rfl (AQ rfl (Az.Dv fun m hm=>VW (by omega)) ⟨ke rfl,trivial⟩) ?_)))))))))))
 refine TO.ex 31 rfl (fun z31=>TO.fact 31 rfl fun xA=> ?_)
 refine tp rfl (Ai (rows:=[(0,[_]),(1,[_])]) rfl iA iB ⟨⟨rfl,(Vo rfl)⟩,⟨⟨rfl,(Vo rfl)⟩,trivial⟩⟩ rfl) (tp rfl (Ae rfl NO (vl rfl)) (TO.Dp 1 rfl rfl (Ay rfl rfl (vl rfl) (Va rfl) Yd rfl (by exact Nb rfl) rfl) (TO.nil (Fin.go (CY 2 4 rfl (Tr.seq (Tr.An (TO.rd 1 rfl rfl rfl (by decide) (B_ rfl Gk Dl (vl rfl) rfl rfl) (TO.AK 0 rfl rfl rfl (vl rfl) (Va rfl) rfl Dl rfl rfl (tm rfl (TO.nil (Fin.go (Tr.drop 1 (Tr.ret ?_))))))))))))))
 refine Fin.BD rfl (AP.cell 0 rfl rfl Gk Dl rfl (Lr)) (AP.tmp rfl (Lr)) ?_
 · exact AG z31 (AU xA (Lr))
abbrev JJ (name:List UInt8) (a b id to key s:Int):Hx:=⟨id,[114,111,111,116],name,a,b,id,3,0,0,to,false,0,[name],key,s⟩
abbrev Gb (name:List UInt8) (a b id to key s:Int):H_:=⟨a,b,id,[JJ name a b id to key s]⟩
abbrev iS (name:List UInt8) (a b id to key:Int):Pr:=Cp.ex fun s:Int=>fact (0≤s∧s<4294967296) (agg (G6 (Gb name a b id to key s)))
theorem iT   :Az prog 22 [] (agg [int 5,int 2048]):=by
 refine fo func22 rfl ⟨rfl,rfl⟩ fun M0 w0=>(Tr.seq (Tr.An ?_))
 refine Tl rfl rfl rfl rfl z72 De (fun b1=> ?_)
 refine ap ?_
 refine ap ?_
 refine Tr.ret (Fin.CJ rfl (AP.cell 0 rfl rfl Hu JA rfl (Lr)) ?_)
 · exact Lr
theorem xB   :Az prog 26 [] (agg [int 7,int 256]):=by
 refine fo func26 rfl ⟨rfl,rfl⟩ fun M0 w0=>(Tr.seq (Tr.An ?_))
 refine Tl rfl rfl rfl rfl z72 De (fun b1=> ?_)
 refine ap ?_
 refine ap ?_
 refine Tr.ret (Fin.CJ rfl (AP.cell 0 rfl rfl Hu JA rfl (Lr)) ?_)
 · exact Lr
theorem Tq {name:List UInt8} {a b id to key:Int} (hv:DI (JJ name a b id to 0 0)=true) (ht:(JJ name a b id to 0 0).Tp) (hk:0≤key∧key≤2147483648):Az prog 21 [str name,agg [int a,int b],int id,int key,int to] (iS name a b id to key):=by
 refine fo func21 rfl ⟨rfl,rfl⟩ fun M0 w0=>(Tr.seq (Tr.An (tp rfl (BZ rfl (Va rfl)) ?_)))
 refine Tl rfl rfl rfl rfl z75 TS (fun b1=> ?_)
 refine ap ?_
 refine ap ?_
 refine tp rfl (Ai (rows:=[(0,[_]),(1,[_]),(2,[_]),(3,_),(4,[_]),(5,_),(7,[_]),(10,[_])]) rfl pP NN ⟨⟨rfl,(Vo rfl)⟩,⟨⟨rfl,(Vo rfl)⟩,⟨⟨rfl,(Vo rfl)⟩,⟨⟨rfl,(Va rfl)⟩,⟨⟨rfl,(Vo rfl)⟩,⟨⟨rfl,(Va rfl)⟩,⟨⟨rfl,(Vo rfl)⟩,⟨⟨rfl,⟨_,rfl,Pr.le_trans (Bp _ _) (Aj _)⟩⟩,trivial⟩⟩⟩⟩⟩⟩⟩⟩ rfl) (TO.re 20 (agg (Es (JJ name a b id to 0 0))) rfl (Pr.le_of_eq rfl) ?_)
 refine Tl rfl rfl rfl rfl TX NN (fun b2=> ?_)
 refine ap ?_
 refine JV 2 3 6 10 11 rfl ?_
 refine ap ?_
 refine tp rfl (CS (ZP (c:=JJ name a b id to 0 0) hv ht hk) rfl rfl rfl) ?_
 refine TO.ex 24 rfl (fun z24=>TO.fact 24 rfl fun xC=> ?_)
 refine ap ?_
 refine ap ?_
 refine tp rfl (Ai (rows:=[(0,_),(1,[_]),(2,[_])]) rfl pG TS ⟨⟨rfl,(Va rfl)⟩,⟨⟨rfl,(Vo rfl)⟩,⟨⟨rfl,⟨_,rfl,Pr.le_trans (Bp _ _) (Aj _)⟩⟩,trivial⟩⟩⟩ rfl) ?_
 refine ap ?_
 refine Tr.drop 0 (Eh 10 rfl (Tr.ret (Fin.CJ rfl (AP.cell 0 rfl rfl Rk E0 rfl (Lr)) ?_)))
 · exact AG z24 (AU xC (Lr))
def IV (s:DS) (l:List (List UInt8)):List UInt8:=(l[(s.val l.length).toNat]?).getD []
theorem R7 {b:Nat} {s:DS} {l:List (List UInt8)} (hl:l≠[]) (nU:l.length≤1000000000):C2 prog 24 [ptr b 0,eE l] (str (IV s l)) (Cv b s) (fun _=>Cv b s.CE):=by
 refine C2.of func24 rfl rfl (by exact Nb rfl) fun M0 w0 S rs M1 w1=> ?_
 have hl0:1≤(l.length:Int):=by have:=List.length_pos_iff.2 hl;omega
 have hv:=s.Cf hl0
 obtain ⟨x,hx⟩:=at_ (l:=l) (k:=(s.val l.length).toNat) (by omega)
 refine ac ?_
 refine ap ?_
 refine TO.Jv 0 rfl rfl (by decide) (Aw rfl rfl (by decide) rfl (CC (by omega) (by omega)) ⟨ke rfl,ke rfl,trivial⟩) (tp rfl (AA rfl underlying64 MI (vl rfl) (vl rfl) (by omega) (BB hx)) ?_)
 refine ap ?_
 refine Tr.ret (Fin.Fx [] rfl (AP.tmp rfl (Lr)) ?_ (fun _ _ _ _=>rfl))
 · refine Pr.le_of_eq ?_;unfold IV;rw [hx];rfl
def Ee:List (List UInt8):=[[97,112,112],[100,98],[119,101,98]]
def MN:List (List Int):=[[10,8,2],[8,2],[2,10,8,3]]
def Jd (i:Int):List Int:=(MN[i.toNat]?).getD []
theorem eU {i:Int} (h:0≤i∧i<3):(MN.map fun l=>[ints l])[i.toNat]? =some [ints (Jd i)]:=by
 have hl:i.toNat<MN.length:=by show i.toNat<3;omega
 unfold Jd
 rw [List.getElem?_map,List.getElem?_eq_getElem hl];rfl
theorem R8 {i:Int} (h:0≤i∧i<3):Jd i∈MN:=by
 have hl:i.toNat<MN.length:=by show i.toNat<3;omega
 unfold Jd
 rw [List.getElem?_eq_getElem hl];exact List.getElem_mem hl
structure Ts (i:Nat) (e:Bk):Prop where
 name:Ee[i]? =some e.name
 least:e.least=1
 most:e.most=3∨e.most=4
 Ao:e.Ao∈MN∨∃l∈MN,e.Ao=14::l
 ids:∃s:Int,(0≤s∧s<4294967296)∧e.ids=[Gb e.name 5 2048 (100+(i:Nat)) 901 1 s]
 anchors:e.anchors=[1]
 hashes:e.hashes=[2,3]
def ZQ (es:List Bk):Prop:=∀(i:Nat) e,es[i]? =some e→Ts i e
theorem R9 {es:List Bk} {e:Bk} (h:ZQ es) (he:Ts es.length e):ZQ (es++[e]):=by
 intro i x hx
 rcases Nat.lt_or_ge i es.length with hi|hi
 · rw [List.getElem?_append_left hi] at hx;exact h i x hx
 ·
  rcases Nat.eq_or_lt_of_le hi with hi|hi
  · subst hi;rw [List.getElem?_append_right (Nat.le_refl _),Nat.sub_self] at hx;simp at hx;subst hx;exact he
  · rw [List.getElem?_eq_none (by simp;omega)] at hx;cases hx
theorem Qo {nm:List UInt8} {k:Nat} (h:Ee[k]? =some nm) {s:Int} (hs:0≤s∧s<4294967296) {key:Int} (hk:0≤key∧key≤2):DI (JJ nm 5 2048 (100+(k:Nat)) 901 key s)=true:=by
 have hlt:k<3:=A0 h
 have hn:named nm=true:=by
  have hm:=List.mem_of_getElem? h
  revert hm;unfold Ee;intro hm;simp at hm
  rcases hm with rfl|rfl|rfl<;>decide
 refine VT ⟨?_,?_,by show named [114,111,111,116]=true;decide,hn,?_,by show Fc 5 2048 2=true;decide+kernel,?_,?_,by show Fc 3 0 1=true;decide+kernel,hk.1,?_,hs.1,hs.2,by show (0:Int)≤0;omega,by show (0:Int)≤901;omega,by show (901:Int)≤40000;omega,by show (0:Int)≤0;omega,by show (0:Int)≤8;omega,.inr rfl⟩
 · show 0≤(100:Int)+(k:Nat);omega
 · show (100:Int)+(k:Nat)≤_;omega
 ·
  show F0 [nm]=true
  unfold F0;rw [Bool.and_eq_true];refine ⟨Bv.2 fun j hj=> ?_,by simp⟩
  have:j=0:=by simp at hj;omega
  subst this;unfold nameAt;simp [hn]
 · show 0≤(100:Int)+(k:Nat);omega
 · show (100:Int)+(k:Nat)≤_;omega
 · show key≤_;omega
theorem PX {nm:List UInt8} {k:Nat} (h:k<3):(JJ nm 5 2048 (100+(k:Nat)) 901 0 0).Tp:=
 ⟨by show (100:Int)+(k:Nat)≤1099511627776;omega,by show (100:Int)+(k:Nat)≤2147483648;omega,⟨by show (0:Int)≤5;omega,by show (5:Int)≤40000;omega⟩,⟨by show (0:Int)≤2048;omega,by show (2048:Int)≤40000;omega⟩,⟨by show (0:Int)≤3;omega,by show (3:Int)≤40000;omega⟩,⟨by show (0:Int)≤0;omega,by show (0:Int)≤40000;omega⟩⟩
theorem ZR {β:Type} {l:List β} {n k:Nat} {x:β} (h:(l.take n)[k]? =some x):l[k]? =some x:=by
 have hlt:=A0 h
 rw [List.length_take] at hlt
 rw [List.getElem?_take,if_pos (by omega)] at h;exact h
theorem ZS (i:Int):(Jd i).length≤4:=by
 unfold Jd
 cases h:MN[i.toNat]? with
 |none=>show 0≤4;omega
 |some l=>
  have hm:=List.mem_of_getElem? h
  show l.length≤4
  unfold MN at hm;simp at hm
  rcases hm with rfl|rfl|rfl<;>simp
theorem ko (s:DS):s.of [3,3,4]=3∨s.of [3,3,4]=4:=by have:=s.NJ (l:=[3,3,4]) (by simp);simp at this;exact this
abbrev rS:List (List Int):=MN++MN.map (14:: ·)
theorem IW {i:Nat} {e:Bk} (h:Ts i e):e.Ao∈rS:=by
 rcases h.Ao with h|⟨l,h,h2⟩
 · exact List.mem_append_left _ h
 · rw [h2];exact List.mem_append_right _ (List.mem_map_of_mem h)
theorem Qp:∀l∈rS,Iz l=true∧l.length≤5:=by decide+kernel
theorem Qq:∀n∈Ee,Ly n=true∧n.length≤3:=by decide+kernel
theorem eV:[2,3].all Nh=true:=by decide+kernel
theorem eW:Fc 5 2048 2=true:=by decide+kernel
theorem ZT {nm:List UInt8} {k:Nat} {id:Int} (h:Ee[k]? =some nm) (hid:id=100+(k:Nat)) {s:Int} (hs:0≤s∧s<4294967296):iQ (Gb nm 5 2048 id 901 1 s)=true:=by
 subst hid
 have hk:k<3:=A0 h
 have hv:=Qo h hs (key:=1) (by omega)
 have hk2:Fz (100+(k:Nat))=true:=by unfold Fz;simp;omega
 unfold iQ Qf;simp only [eW,hk2,List.all_cons,List.all_nil,hv];simp
theorem eX {i:Nat} {e:Bk} (h:Ts i e):VM e:=by
 have hn:=Qq _ (List.mem_of_getElem? h.name)
 have hs:=Qp _ (IW h)
 obtain ⟨s,hs1,Rv⟩:=h.ids
 have hm:=h.most;have hl:=h.least
 refine ⟨hn.1,by omega,by omega,by omega,hs.1,by rw [Rv];simp,by rw [h.anchors];simp,by rw [h.anchors];decide,by rw [h.hashes];decide,?_,by rw [h.anchors];decide,by rw [h.hashes];exact eV⟩
 rw [Rv];simp only [List.all_cons,List.all_nil,ZT h.name rfl hs1,Bool.and_self]
theorem PY {i:Nat} {e:Bk} (h:Ts i e):e.fits:=by
 have hn:=Qq _ (List.mem_of_getElem? h.name)
 obtain ⟨s,hs1,Rv⟩:=h.ids
 refine ⟨by unfold maxLen;omega,fun x hx c hc=> ?_⟩
 rw [Rv] at hx;simp at hx;subst hx;simp at hc;subst hc
 exact ⟨by show 4≤maxLen;unfold maxLen;omega,by show e.name.length≤maxLen;unfold maxLen;omega,fun n hn2=>by simp at hn2;subst hn2;unfold maxLen;omega⟩
theorem Nn {i:Nat} {e:Bk} (h:Ts i e):e.small:=by
 have hs:=Qp _ (IW h)
 obtain ⟨s,hs1,Rv⟩:=h.ids
 refine ⟨by omega,by rw [h.anchors];simp,by rw [h.hashes];simp,by rw [Rv];simp,fun x hx=> ?_⟩
 rw [Rv] at hx;simp at hx;subst hx
 exact ⟨by simp,fun c hc=>by simp at hc;subst hc;simp⟩
theorem ZU:Bc.fits:=fun c hc=>by cases hc
theorem rT {nm:List UInt8} (h:nm∈Ee) {a b id key s:Int} (hab:(a=5∧b=2048)∨(a=7∧b=256)) (hid:0≤id∧id≤1000) (hs:0≤s∧s<4294967296) (hk:0≤key∧key≤2):DI (JJ nm a b id 901 key s)=true:=by
 have hn:named nm=true:=by
  revert h;unfold Ee;intro hm;simp at hm
  rcases hm with rfl|rfl|rfl<;>decide
 have hof:Fc a b 2=true:=by rcases hab with ⟨rfl,rfl⟩|⟨rfl,rfl⟩<;>decide+kernel
 refine VT ⟨?_,?_,by show named [114,111,111,116]=true;decide,hn,?_,hof,?_,?_,by show Fc 3 0 1=true;decide+kernel,hk.1,?_,hs.1,hs.2,by show (0:Int)≤0;omega,by show (0:Int)≤901;omega,by show (901:Int)≤40000;omega,by show (0:Int)≤0;omega,by show (0:Int)≤8;omega,.inr rfl⟩
 · show 0≤id;omega
 · show id≤_;omega
 ·
  show F0 [nm]=true
  unfold F0;rw [Bool.and_eq_true];refine ⟨Bv.2 fun j hj=> ?_,by simp⟩
  have:j=0:=by simp at hj;omega
  subst this;unfold nameAt;simp [hn]
 · show 0≤id;omega
 · show id≤_;omega
 · show key≤_;omega
theorem rU {nm:List UInt8} {a b id:Int} (hab:(a=5∧b=2048)∨(a=7∧b=256)) (hid:0≤id∧id≤1000):(JJ nm a b id 901 0 0).Tp:=
 ⟨by show id≤1099511627776;omega,by show id≤2147483648;omega,⟨by show (0:Int)≤a;omega,by show a≤40000;omega⟩,⟨by show (0:Int)≤b;omega,by show b≤40000;omega⟩,⟨by show (0:Int)≤3;omega,by show (3:Int)≤40000;omega⟩,⟨by show (0:Int)≤0;omega,by show (0:Int)≤40000;omega⟩⟩
structure xD (es:List Bk) (c:BK):Prop where
 lo:0≤c.AV
 hi:c.AV<(es.length:Nat)
 kind:1≤c.kind∧c.kind≤12
 fits:c.Ck.fits
 small:c.Ck.small
abbrev kr (nm:List UInt8) (a b id to key:Int):Pr:=Cp.ex fun s:Int=>fact (0≤s∧s<4294967296) (Lx [JJ nm a b id to key s])
theorem rV {nm:List UInt8} (h:nm∈Ee) {a b id key s:Int}:(Gb nm a b id 901 key s).fits∧(Gb nm a b id 901 key s).small:=by
 have hn:=(Qq _ h).2
 refine ⟨fun c hc=> ?_,⟨by simp,fun c hc=>by simp at hc;subst hc;simp⟩⟩
 simp at hc;subst hc
 exact ⟨by show 4≤maxLen;unfold maxLen;omega,by show nm.length≤maxLen;unfold maxLen;omega,fun n hn2=>by simp at hn2;subst hn2;unfold maxLen;omega⟩
structure R_ where
 Bq:Int
 bits:Int
 day:Int
 deriving DecidableEq
abbrev xE (x:R_):List Pr:=[int x.Bq,int x.bits,int x.day]
abbrev ZV (l:List R_):Pr:=slice 3 (l.map xE)
structure Qr where
 name:List UInt8
 kind:Int
 HV:Int
 links:List R_
 Je:Int
 deriving DecidableEq
abbrev VX (x:Qr):List Pr:=[str x.name,int x.kind,int x.HV,ZV x.links,int x.Je]
abbrev Np (l:List Qr):Pr:=slice 5 (l.map VX)
structure HE where
 client:Int
 server:Int
 deriving DecidableEq
abbrev ku (x:HE):List Pr:=[int x.client,int x.server]
abbrev G8 (l:List HE):Pr:=slice 2 (l.map ku)
abbrev EU:R_:=⟨0,0,0⟩
abbrev FW:HE:=⟨0,0⟩
def E4 (l:List R_) (i:Nat):Bool:=decide (C6 (l[i]?.getD EU).Bq (l[i]?.getD EU).bits>0)&&decide (0≤(l[i]?.getD EU).day)&&decide ((l[i]?.getD EU).day≤40000)&&(decide (i=0)||decide ((l[i-1]?.getD EU).day<(l[i]?.getD EU).day))
def L1 (x:Qr):Bool:=(named x.name&&decide (x.kind=1∨x.kind=2)&&decide (1≤x.HV)&&decide (x.HV≤4)&&decide (1≤x.links.length)&&decide (x.links.length≤8))&&allI (E4 x.links) x.links.length&&(decide ((x.links[0]?.getD EU).day≤x.Je)&&decide (x.Je≤40000))
structure rW (x:Qr):Prop where
 name:named x.name=true
 kind:x.kind=1∨x.kind=2
 p1:1≤x.HV
 p4:x.HV≤4
 l1:1≤x.links.length
 l8:x.links.length≤8
 lnk:∀j,j<x.links.length→E4 x.links j=true
 u0:(x.links[0]?.getD EU).day≤x.Je
 u1:x.Je≤40000
theorem CB {x:Qr}:L1 x=true↔rW x:=by
 unfold L1
 simp only [Bool.and_eq_true,decide_eq_true_eq,Bv]
 exact ⟨fun ⟨⟨⟨⟨⟨⟨⟨h1,h2⟩,h3⟩,h4⟩,h5⟩,h6⟩,h7⟩,h8,h9⟩=>⟨h1,h2,h3,h4,h5,h6,h7,h8,h9⟩,fun h=>⟨⟨⟨⟨⟨⟨⟨h.name,h.kind⟩,h.p1⟩,h.p4⟩,h.l1⟩,h.l8⟩,h.lnk⟩,h.u0,h.u1⟩⟩
def Cz (n:Nat) (l:List HE) (i:Nat):Bool:=(decide (0≤(l[i]?.getD FW).client∧(l[i]?.getD FW).client<n)&&decide (0≤(l[i]?.getD FW).server∧(l[i]?.getD FW).server<n)&&decide ((l[i]?.getD FW).client≠(l[i]?.getD FW).server))&&(decide (i=0)||decide ((l[i-1]?.getD FW).client<(l[i]?.getD FW).client∨((l[i-1]?.getD FW).client=(l[i]?.getD FW).client∧(l[i-1]?.getD FW).server<(l[i]?.getD FW).server)))
def Qs (n:Nat) (l:List HE):Bool:=allI (Cz n l) l.length&&decide (l.length≤40)
theorem Tt {x:Qr}  :Az prog 43 [agg (VX x)] (int (if L1 x then 0 else 30)):=by
 refine fo func43 rfl ⟨rfl,rfl⟩ fun M0 w0=> ?_
 refine ac ?_
 refine Eh 1 rfl (Tr.RT [1] [] ((named x.name=true∧(x.kind=1∨x.kind=2)∧1≤x.HV∧x.HV≤4)∧1≤x.links.length∧x.links.length≤8∧(x.links[0]?.getD EU).day≤x.Je∧x.Je≤40000) ?_ (fun hpre=> ?_))
 refine ac ?_
 refine co rfl (Ce (Fb) rfl rfl) ?_
 refine ag ?_ ?_<;>intro h2 q2
 refine ac ?_
 refine CY 1 54 rfl ?_
 refine a2 ?_
 · refine int_eq (if_neg (fun hv=> ?_)).symm;have ok:=CB.1 hv;have o1:=ok.name;have o2:=ok.kind;have o3:=ok.p1;have o4:=ok.p4;have o5:=ok.l1;have o6:=ok.l8;have o7:=ok.u0;have o8:=ok.u1;(simp_all)
 refine ag ?_ ?_<;>intro h3 q3
 refine ag ?_ ?_<;>intro h4 q4
 refine ac ?_
 refine CY 1 54 rfl ?_
 refine a2 ?_
 · refine int_eq (if_neg (fun hv=> ?_)).symm;have ok:=CB.1 hv;have o1:=ok.name;have o2:=ok.kind;have o3:=ok.p1;have o4:=ok.p4;have o5:=ok.l1;have o6:=ok.l8;have o7:=ok.u0;have o8:=ok.u1;(omega)
 refine ag ?_ ?_<;>intro h5 q5
 refine ac ?_
 refine CY 1 54 rfl ?_
 refine a2 ?_
 · refine int_eq (if_neg (fun hv=> ?_)).symm;have ok:=CB.1 hv;have o1:=ok.name;have o2:=ok.kind;have o3:=ok.p1;have o4:=ok.p4;have o5:=ok.l1;have o6:=ok.l8;have o7:=ok.u0;have o8:=ok.u1;(omega)
 refine ag ?_ ?_<;>intro h6 q6
 refine ac ?_
 refine CY 1 54 rfl ?_
 refine a2 ?_
 · refine int_eq (if_neg (fun hv=> ?_)).symm;have ok:=CB.1 hv;have o1:=ok.name;have o2:=ok.kind;have o3:=ok.p1;have o4:=ok.p4;have o5:=ok.l1;have o6:=ok.l8;have o7:=ok.u0;have o8:=ok.u1;(omega)
 refine ag ?_ ?_<;>intro h7 q7
 refine ac ?_
 refine CY 1 54 rfl ?_
 refine a2 ?_
 · refine int_eq (if_neg (fun hv=> ?_)).symm;have ok:=CB.1 hv;have o1:=ok.name;have o2:=ok.kind;have o3:=ok.p1;have o4:=ok.p4;have o5:=ok.l1;have o6:=ok.l8;have o7:=ok.u0;have o8:=ok.u1;(omega)
 refine ag ?_ ?_<;>intro h8 q8
 refine ac ?_
 refine CY 1 54 rfl ?_
 refine a2 ?_
 · refine int_eq (if_neg (fun hv=> ?_)).symm;have ok:=CB.1 hv;have o1:=ok.name;have o2:=ok.kind;have o3:=ok.p1;have o4:=ok.p4;have o5:=ok.l1;have o6:=ok.l8;have o7:=ok.u0;have o8:=ok.u1;(omega)
 refine ag ?_ ?_<;>intro h9 q9
 refine ac ?_
 refine CY 1 54 rfl ?_
 refine a2 ?_
 · refine int_eq (if_neg (fun hv=> ?_)).symm;have ok:=CB.1 hv;have o1:=ok.name;have o2:=ok.kind;have o3:=ok.p1;have o4:=ok.p4;have o5:=ok.l1;have o6:=ok.l8;have o7:=ok.u0;have o8:=ok.u1;(omega)
 obtain ⟨c0,hc0⟩:=at_ (l:=x.links) (k:=0) (by omega)
 have nY:=getD_at (d:=EU) hc0
 refine ac ?_
 refine cy h9 rfl (AA rfl underlying80 IF (vl rfl) (vl rfl) (by omega) (AO (k:=0) hc0)) ?_
 refine ac ?_
 refine CY 1 54 rfl ?_
 refine Tr.cn rfl ?_ ?_<;>intro h10 Oa
 refine a2 ?_
 · refine int_eq (if_neg (fun hv=> ?_)).symm;have ok:=CB.1 hv;have o1:=ok.name;have o2:=ok.kind;have o3:=ok.p1;have o4:=ok.p4;have o5:=ok.l1;have o6:=ok.l8;have o7:=ok.u0;have o8:=ok.u1;(simp_all;omega)
 refine Tr.skip ?_
 exact Fin.AM () ⟨⟨by simp_all,by omega,by omega,by omega⟩,by omega,by omega,by rw [nY];omega,by omega⟩ ⟨ke rfl,trivial⟩
 refine ag ?_ ?_<;>intro h11 PR
 refine ac ?_
 refine CY 1 54 rfl ?_
 refine a2 ?_
 · refine int_eq (if_neg (fun hv=> ?_)).symm;have ok:=CB.1 hv;have o1:=ok.name;have o2:=ok.kind;have o3:=ok.p1;have o4:=ok.p4;have o5:=ok.l1;have o6:=ok.l8;have o7:=ok.u0;have o8:=ok.u1;(omega)
 refine ag ?_ ?_<;>intro h12 S6
 refine ac ?_
 refine CY 1 54 rfl ?_
 refine a2 ?_
 · refine int_eq (if_neg (fun hv=> ?_)).symm;have ok:=CB.1 hv;have o1:=ok.name;have o2:=ok.kind;have o3:=ok.p1;have o4:=ok.p4;have o5:=ok.l1;have o6:=ok.l8;have o7:=ok.u0;have o8:=ok.u1;(omega)
 refine ag ?_ ?_<;>intro MG Xt
 refine ac ?_
 refine CY 1 54 rfl ?_
 refine a2 ?_
 · refine int_eq (if_neg (fun hv=> ?_)).symm;have ok:=CB.1 hv;have o1:=ok.name;have o2:=ok.kind;have o3:=ok.p1;have o4:=ok.p4;have o5:=ok.l1;have o6:=ok.l8;have o7:=ok.u0;have o8:=ok.u1;(omega)
 refine ag ?_ ?_<;>intro Ku eO
 refine ac ?_
 refine CY 1 54 rfl ?_
 refine a2 ?_
 · refine int_eq (if_neg (fun hv=> ?_)).symm;have ok:=CB.1 hv;have o1:=ok.name;have o2:=ok.kind;have o3:=ok.p1;have o4:=ok.p4;have o5:=ok.l1;have o6:=ok.l8;have o7:=ok.u0;have o8:=ok.u1;(omega)
 refine ag ?_ ?_<;>intro Rf kY
 refine ac ?_
 refine CY 1 54 rfl ?_
 refine a2 ?_
 · refine int_eq (if_neg (fun hv=> ?_)).symm;have ok:=CB.1 hv;have o1:=ok.name;have o2:=ok.kind;have o3:=ok.p1;have o4:=ok.p4;have o5:=ok.l1;have o6:=ok.l8;have o7:=ok.u0;have o8:=ok.u1;(omega)
 obtain ⟨c0,hc0⟩:=at_ (l:=x.links) (k:=0) (by omega)
 have nY:=getD_at (d:=EU) hc0
 refine ac ?_
 refine cy Rf rfl (AA rfl underlying80 IF (vl rfl) (vl rfl) (by omega) (AO (k:=0) hc0)) ?_
 refine ac ?_
 refine CY 1 54 rfl ?_
 refine Tr.cn rfl ?_ ?_<;>intro h16 kg
 refine a2 ?_
 · refine int_eq (if_neg (fun hv=> ?_)).symm;have ok:=CB.1 hv;have o1:=ok.name;have o2:=ok.kind;have o3:=ok.p1;have o4:=ok.p4;have o5:=ok.l1;have o6:=ok.l8;have o7:=ok.u0;have o8:=ok.u1;(simp_all;omega)
 refine Tr.skip ?_
 exact Fin.AM () ⟨⟨by simp_all,by omega,by omega,by omega⟩,by omega,by omega,by rw [nY];omega,by omega⟩ ⟨ke rfl,trivial⟩
 obtain ⟨⟨hq1,WI,kH,hq4⟩,hq5,hq6,hq7,hq8⟩:=hpre
 refine ac ?_
 refine Tr.block (Tr.A7 [(1,_)] ⟨ke rfl,trivial⟩ (fun k:Nat=>[(3,int ((k:Nat):Int))]) (fun k:Nat=>k≤(x.links).length∧(∀j,j<k→E4 x.links j=true)) (fun k:Nat=>(x.links).length-k) 0 (⟨Nat.zero_le _,fun j hj=>absurd hj (by omega)⟩) ⟨ke rfl,trivial⟩ ?_)
 rintro k ⟨BN,Ab⟩
 refine an ?_ ?_<;>intro MH eG
 have Af:k<(x.links).length:=AH MH
 obtain ⟨c,Ad⟩:=at_ Af
 have hg:=getD_at (d:=EU) Ad
 refine a2 ?_
 refine co rfl (AA rfl underlying80 IF (vl rfl) (vl rfl) (by omega) (AO Ad)) ?_
 refine ac ?_
 refine co rfl (Ce (IL) rfl rfl) ?_
 refine ag ?_ ?_<;>intro OX kV
 refine ac ?_
 refine CR 1 3 107 rfl ?_
 refine a2 ?_
 · refine int_eq (if_neg (fun hv=> ?_)).symm;have ok:=CB.1 hv;have o1:=ok.name;have o2:=ok.kind;have o3:=ok.p1;have o4:=ok.p4;have o5:=ok.l1;have o6:=ok.l8;have o7:=ok.u0;have o8:=ok.u1;(have h_:=ok.lnk k (by omega);unfold E4 at h_;rw [hg] at h_;simp_all;omega)
 refine ac ?_
 refine cy OX rfl (AA rfl underlying80 IF (vl rfl) (vl rfl) (by omega) (AO Ad)) ?_
 refine ag ?_ ?_<;>intro bt q19
 refine ac ?_
 refine CR 1 3 107 rfl ?_
 refine a2 ?_
 · refine int_eq (if_neg (fun hv=> ?_)).symm;have ok:=CB.1 hv;have o1:=ok.name;have o2:=ok.kind;have o3:=ok.p1;have o4:=ok.p4;have o5:=ok.l1;have o6:=ok.l8;have o7:=ok.u0;have o8:=ok.u1;(have h_:=ok.lnk k (by omega);unfold E4 at h_;rw [hg] at h_;simp_all;omega)
 refine ac ?_
 refine cy bt rfl (AA rfl underlying80 IF (vl rfl) (vl rfl) (by omega) (AO Ad)) ?_
 refine ag ?_ ?_<;>intro OY nW
 refine ac ?_
 refine CR 1 3 107 rfl ?_
 refine a2 ?_
 · refine int_eq (if_neg (fun hv=> ?_)).symm;have ok:=CB.1 hv;have o1:=ok.name;have o2:=ok.kind;have o3:=ok.p1;have o4:=ok.p4;have o5:=ok.l1;have o6:=ok.l8;have o7:=ok.u0;have o8:=ok.u1;(have h_:=ok.lnk k (by omega);unfold E4 at h_;rw [hg] at h_;simp_all;omega)
 refine ag ?_ ?_<;>intro VH q21
 have hk0:0<k:=by simpa using VH
 obtain ⟨y,hy⟩:=at_ (l:=x.links) (k:=k-1) (by omega)
 have Qt:=getD_at (d:=EU) hy
 · repeat' first|(refine int_eq (if_neg (fun hv=> ?_)).symm;have ok:=CB.1 hv;have o1:=ok.name;have o2:=ok.kind;have o3:=ok.p1;have o4:=ok.p4;have o5:=ok.l1;have o6:=ok.l8;have o7:=ok.u0;have o8:=ok.u1;(have h_:=ok.lnk k (by omega);unfold E4 at h_;rw [hg,Qt] at h_;simp_all;omega))|(exact Fin.AM (k+1) ⟨⟨Af,Dc Ab (by unfold E4;rw [hg,Qt];simp_all)⟩,by omega⟩ ⟨⟨_,rfl,AD k⟩,ke rfl,trivial⟩)|(refine cy VH rfl (AA rfl underlying80 IF (vl rfl) (vl rfl) (by omega) (by rw [show ((k:Nat):Int)-1=((k-1:Nat):Int) by omega];exact AO hy)) ?_)|refine cy VH rfl (AA rfl underlying80 IF (vl rfl) (vl rfl) (by omega) (AO Ad)) ?_|refine ac ?_|(refine Tr.cn rfl ?_ ?_<;>intro h q)
 have Jc:¬0<k:=by simpa using VH
 refine ac ?_
 refine CR 1 3 107 rfl ?_
 refine a2 ?_
 exact Fin.AM (k+1) ⟨⟨Af,Dc Ab (by unfold E4;rw [hg];simp_all)⟩,by omega⟩ ⟨⟨_,rfl,AD k⟩,ke rfl,trivial⟩
 have BI:k=(x.links).length:=by have:=AJ MH;omega
 subst BI
 refine a3 ?_
 · refine int_eq (if_pos (CB.2 ⟨hq1,WI,kH,hq4,hq5,hq6,Ab,by omega,by omega⟩)).symm
theorem k5 {d:Nat} {w:World} {x0 y0:Int} {x1 y1:Int}:(Op.equalIn (d+2) 112 (.agg #[.int .i64 x0,.int .i64 x1]) (.agg #[.int .i64 y0,.int .i64 y1])).run Tryz.prog w= .ok (decide (x0=y0∧x1=y1)) w:=by
 have h:=eqS (w:=w) (d:=d+1) (xs:= #[.int .i64 x0,.int .i64 x1]) (ys:= #[.int .i64 y0,.int .i64 y1]) Tryz.underlying112 (by kernel_rfl) (ED (by decide) (Bn Bo rfl) (Bn Bo rfl) (FA (d:=d+0) Tryz.underlying3) (ED (by decide) (Bn Bo rfl) (Bn Bo rfl) (FA (d:=d+0) Tryz.underlying3) (KM)))
 refine h.trans (congrArg (fun b=>Result.ok b w) ?_)
 rw [Bool.eq_iff_iff];simp [and_assoc]
theorem ZW {E:Env} {I:CT} {o:Oper} {u:TypeId} {x y:Operand} {x0 y0:Int} {x1 y1:Int} (ho:o.op= .binOp .neq 112 x y u) (hx:VL E x (agg [is (.int .i64 x0),is (.int .i64 x1)])) (hy:VL E y (agg [is (.int .i64 y0),is (.int .i64 y1)])):Ac Tryz.prog I o E (bool (!decide (x0=y0∧x1=y1))):=
 NT [.int .i64 x0,.int .i64 x1] [.int .i64 y0,.int .i64 y1] ho hx hy (by kernel_rfl) (fun w=>by rw [show Op.equal 112 _ _=Op.equalIn (9998+2) 112 _ _ from rfl];exact k5)
deriving instance DecidableEq for Hx
deriving instance DecidableEq for H_
deriving instance DecidableEq for Bk
deriving instance DecidableEq for BK
theorem iU {α:Type} {a b:List α} {k:Nat} {x y:α} (ha:a[k]? =some x) (hb:b[k]? =some y) (h:a.take k=b.take k) (e:x=y):a.take (k+1)=b.take (k+1):=by
 rw [List.take_add_one,List.take_add_one,ha,hb,h,e]
theorem iV {α:Type} {a b:List α} (hl:a.length=b.length) (h:a.take a.length=b.take a.length):a=b:=by
 rw [List.take_length,hl,List.take_length] at h;exact h
theorem Tu {a b:Hx} (hn:a.names.length≤8796093022208):Az prog 177 [agg (Es a),agg (Es b)] (bool (decide (a=b))):=by
 refine fo func177 rfl ⟨rfl,rfl⟩ fun M0 w0=> ?_
 refine ac ?_
 refine ag ?_ ?_<;>intro h1 q1
 refine ac ?_
 refine CR 2 3 89 rfl ?_
 refine a2 ?_
 · refine bool_eq ?_;symm;rw [decide_eq_false_iff_not];rintro rfl;simp_all
 refine ag ?_ ?_<;>intro h2 q2
 refine ac ?_
 refine CR 2 3 89 rfl ?_
 refine a2 ?_
 · refine bool_eq ?_;symm;rw [decide_eq_false_iff_not];rintro rfl;simp_all
 refine ag ?_ ?_<;>intro h3 q3
 refine ac ?_
 refine CR 2 3 89 rfl ?_
 refine a2 ?_
 · refine bool_eq ?_;symm;rw [decide_eq_false_iff_not];rintro rfl;simp_all
 refine ac ?_
 refine cy h3 rfl (MY rfl (vl rfl) (vl rfl)) ?_
 refine ag ?_ ?_<;>intro h4 q4
 refine ac ?_
 refine CR 2 3 89 rfl ?_
 refine a2 ?_
 · refine bool_eq ?_;symm;rw [decide_eq_false_iff_not];rintro rfl;simp_all
 refine ag ?_ ?_<;>intro h5 q5
 refine ac ?_
 refine CR 2 3 89 rfl ?_
 refine a2 ?_
 · refine bool_eq ?_;symm;rw [decide_eq_false_iff_not];rintro rfl;simp_all
 refine ac ?_
 refine cy h5 rfl (MY rfl (vl rfl) (vl rfl)) ?_
 refine ag ?_ ?_<;>intro h6 q6
 refine ac ?_
 refine CR 2 3 89 rfl ?_
 refine a2 ?_
 · refine bool_eq ?_;symm;rw [decide_eq_false_iff_not];rintro rfl;simp_all
 refine ag ?_ ?_<;>intro h7 q7
 refine ac ?_
 refine CR 2 3 89 rfl ?_
 refine a2 ?_
 · refine bool_eq ?_;symm;rw [decide_eq_false_iff_not];rintro rfl;simp_all
 refine ag ?_ ?_<;>intro h8 q8
 refine ac ?_
 refine CR 2 3 89 rfl ?_
 refine a2 ?_
 · refine bool_eq ?_;symm;rw [decide_eq_false_iff_not];rintro rfl;simp_all
 refine ac ?_
 refine cy h8 rfl (TJ rfl underlying4 (vl rfl) (vl rfl)) ?_
 refine ag ?_ ?_<;>intro h9 q9
 refine ac ?_
 refine CR 2 3 89 rfl ?_
 refine a2 ?_
 · refine bool_eq ?_;symm;rw [decide_eq_false_iff_not];rintro rfl;simp_all
 refine ag ?_ ?_<;>intro h10 Oa
 refine ac ?_
 refine CR 2 3 89 rfl ?_
 refine a2 ?_
 · refine bool_eq ?_;symm;rw [decide_eq_false_iff_not];rintro rfl;simp_all
 refine ac ?_
 refine cy h10 rfl (ZW rfl (vl rfl) (vl rfl)) ?_
 refine ag ?_ ?_<;>intro h11 PR
 refine ac ?_
 refine CR 2 3 89 rfl ?_
 refine a2 ?_
 · refine bool_eq ?_;symm;rw [decide_eq_false_iff_not];rintro rfl;simp_all
 refine ac ?_
 refine CR 2 3 89 rfl ?_
 refine Tr.cn rfl ?_ ?_<;>intro h12 S6
 refine a2 ?_
 · refine bool_eq ?_;symm;rw [decide_eq_false_iff_not];rintro rfl;simp_all
 have VS:a.names.length=b.names.length:=by simp_all;omega
 refine a2 ?_
 refine Tr.block (Tr.A7 [(2,_),(3,_),(92,_)] (MW rfl) (fun k:Nat=>[(93,int ((k:Nat):Int))]) (fun k:Nat=>k≤(a.names).length∧(a.names.take k=b.names.take k)) (fun k:Nat=>(a.names).length-k) 0 (⟨Nat.zero_le _,rfl⟩) ⟨ke rfl,trivial⟩ ?_)
 rintro k ⟨BN,Ab⟩
 refine ac ?_
 refine Tr.seq ?_
 refine Tr.cn rfl ?_ ?_<;>intro MG Xt
 have Af:k<(a.names).length:=AH MG
 obtain ⟨x,Ad⟩:=at_ Af
 obtain ⟨y,hy⟩:=at_ (l:=b.names) (k:=k) (by omega)
 · repeat' first|(refine bool_eq ?_;symm;rw [decide_eq_false_iff_not];rintro rfl;rw [Ad] at hy;cases hy;simp_all)|exact Fin.AM (k+1) ⟨⟨Af,iU Ad hy Ab (by simp_all)⟩,by omega⟩ ⟨⟨_,rfl,AD k⟩,ke rfl,ke rfl,ke rfl,trivial⟩|refine co rfl (AA rfl underlying64 MI (vl rfl) (vl rfl) (by omega) (AO Ad)) ?_|refine co rfl (AA rfl underlying64 MI (vl rfl) (vl rfl) (by omega) (AO hy)) ?_|refine ac ?_|(refine Tr.cn rfl ?_ ?_<;>intro h q)
 have BI:k=(a.names).length:=by have:=AJ MG;omega
 subst BI
 refine a3 ?_
 · refine bool_eq ?_;have hnn:=iV VS Ab;clear Ab VS;cases a;cases b;simp_all
theorem Tv {a b:H_} (hs:a.small):Az prog 172 [agg (G6 a),agg (G6 b)] (bool (decide (a=b))):=by
 refine fo func172 rfl ⟨rfl,rfl⟩ fun M0 w0=> ?_
 have hsc:=hs.chain
 refine a2 ?_
 refine co rfl (MY rfl (vl rfl) (vl rfl)) (cm rfl ?_)
 refine Ch.cs 11 rfl ?_ ?_<;>intro h1 q1
 refine ac ?_
 refine CR 2 3 26 rfl ?_
 refine a2 ?_
 · refine bool_eq ?_;symm;rw [decide_eq_false_iff_not];rintro rfl;simp_all
 refine ag ?_ ?_<;>intro h2 q2
 refine ac ?_
 refine CR 2 3 26 rfl ?_
 refine a2 ?_
 · refine bool_eq ?_;symm;rw [decide_eq_false_iff_not];rintro rfl;simp_all
 refine ac ?_
 refine CR 2 3 26 rfl ?_
 refine Tr.cn rfl ?_ ?_<;>intro h3 q3
 refine a2 ?_
 · refine bool_eq ?_;symm;rw [decide_eq_false_iff_not];rintro rfl;simp_all
 have VS:a.chain.length=b.chain.length:=by simp_all;omega
 refine a2 ?_
 refine Tr.block (Tr.A7 [(2,_),(3,_),(29,_)] (MW rfl) (fun k:Nat=>[(30,int ((k:Nat):Int))]) (fun k:Nat=>k≤(a.chain).length∧(a.chain.take k=b.chain.take k)) (fun k:Nat=>(a.chain).length-k) 0 (⟨Nat.zero_le _,rfl⟩) ⟨ke rfl,trivial⟩ ?_)
 rintro k ⟨BN,Ab⟩
 refine ac ?_
 refine Tr.seq ?_
 refine Tr.cn rfl ?_ ?_<;>intro h4 q4
 have Af:k<(a.chain).length:=AH h4
 obtain ⟨x,Ad⟩:=at_ Af
 obtain ⟨y,hy⟩:=at_ (l:=b.chain) (k:=k) (by omega)
 have nZ:=hs.names x (List.mem_of_getElem? Ad)
 · repeat' first|(refine bool_eq ?_;symm;rw [decide_eq_false_iff_not];rintro rfl;rw [Ad] at hy;cases hy;simp_all)|exact Fin.AM (k+1) ⟨⟨Af,iU Ad hy Ab (by simp_all)⟩,by omega⟩ ⟨⟨_,rfl,AD k⟩,ke rfl,ke rfl,ke rfl,trivial⟩|refine co rfl (AA rfl underlying73 Dl (vl rfl) (vl rfl) (by omega) (AO Ad)) ?_|refine co rfl (AA rfl underlying73 Dl (vl rfl) (vl rfl) (by omega) (AO hy)) (co rfl (AR rfl Gk Dl (vl rfl) rfl rfl) (co rfl (CS (Tu nZ) rfl rfl rfl) ?_))|refine ac ?_|(refine Tr.cn rfl ?_ ?_<;>intro h q)
 have BI:k=(a.chain).length:=by have:=AJ h4;omega
 subst BI
 refine a3 ?_
 · refine bool_eq ?_;have hnn:=iV VS Ab;clear Ab VS hs;cases a;cases b;simp_all
theorem VY {k:Int} (hk:1≤k∧k≤12):k=1∨k=2∨k=3∨k=4∨k=5∨k=6∨k=7∨k=8∨k=9∨k=10∨k=11∨k=12:=by omega
theorem SA {e:Bk} {c:BK} {f:Int} (hc:GA c) (h:Bj e c= .error f):f≠0:=by
 rcases VY hc.1 with hk|hk|hk|hk|hk|hk|hk|hk|hk|hk|hk|hk
 · rw [Mc hk] at h;(repeat' (split at h))<;>first|(injection h with h;omega)|(cases h;done)
 · rw [Md hk] at h;(repeat' (split at h))<;>first|(injection h with h;omega)|(cases h;done)
 · rw [Me hk] at h;(repeat' (split at h))<;>first|(injection h with h;omega)|(cases h;done)
 · rw [Mf hk] at h;(repeat' (split at h))<;>first|(injection h with h;omega)|(cases h;done)
 · rw [Mg hk] at h;(repeat' (split at h))<;>first|(injection h with h;omega)|(cases h;done)
 · rw [Mh hk] at h;(repeat' (split at h))<;>first|(injection h with h;omega)|(cases h;done)
 · rw [Mi hk] at h;(repeat' (split at h))<;>first|(injection h with h;omega)|(cases h;done)
 · rw [Mj hk] at h;(repeat' (split at h))<;>first|(injection h with h;omega)|(cases h;done)
 · rw [Mk hk] at h;(repeat' (split at h))<;>first|(injection h with h;omega)|(cases h;done)
 · rw [KV hk] at h;(repeat' (split at h))<;>first|(injection h with h;omega)|(cases h;done)
 · rw [KW hk] at h;(repeat' (split at h))<;>first|(injection h with h;omega)|(cases h;done)
 · rw [KY hk] at h;(repeat' (split at h))<;>first|(injection h with h;omega)|(cases h;done)
theorem Wj {e:Bk} {c:BK} {x:Bk} {b:BK} (h:DR e c=(x,b,0)):VM e∧GA c∧Bj e c= .ok (x,b)∧VM x:=by
 unfold DR at h
 split at h
 · cases h
 next h1=>
 split at h
 · cases h
 next h2=>
 have h1 : FH e = true := by cases hh : FH e with
  |true=>rfl
  |false=>exact absurd hh h1
 have h2:GA c:=Classical.not_not.1 h2
 cases hs:Bj e c with
 |error f=>
  rw [hs] at h
  simp only [Prod.mk.injEq] at h
  exact absurd h.2.2 (SA h2 hs)
 |ok r=>
  obtain ⟨x',b'⟩:=r
  rw [hs] at h
  simp only at h
  split at h
  next h3=>simp only [Prod.mk.injEq,and_true] at h;obtain ⟨rfl,rfl⟩:=h;exact ⟨B6.1 h1,h2,rfl,B6.1 h3⟩
  · cases h
section
variable {α:Type} {p:α→Bool} {l:List α} {a:α} {i:Nat}
end
theorem Tw {l:List Int} (h:Iz l=true) {i j:Nat} {n:Int} (hi:l[i]? =some n) (hj:l[j]? =some n):i=j:=by
 unfold Iz at h;rw [Bv] at h
 have key:∀{a b:Nat},a<b→l[a]? =some n→l[b]? =some n→False:=by
  intro a b hab ha hb
  have:=h b (A0 hb)
  unfold FB at this
  rw [getD_at hb] at this
  simp only [Bool.and_eq_true,Bool.not_eq_true',List.any_eq_false] at this
  have:=this.2 n (List.mem_of_getElem? (show (l.take b)[a]? =some n by rw [List.getElem?_take,if_pos hab];exact ha))
  simp at this
 rcases Nat.lt_trichotomy i j with h1|h1|h1
 · exact (key h1 hi hj).elim
 · exact h1
 · exact (key h1 hj hi).elim
end Go.Proofs.YtmpglcehonnpkaaGreat
