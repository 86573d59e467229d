/-
  Part 3 of the texts that prove this claim, merged.
-/
import Derived.Test.YtppdobdifkefcaaGreatDoorRows
import Derived.Test.YtppdobdifkefcaaGreatDoorPlWP2
set_option linter.all false
set_option maxRecDepth 40000
set_option maxHeartbeats 16000000
namespace Cp
open Go Go.RowKit Go.Great
class T1 (P:Program) (t:TypeId):Prop where
 h:C9 P t=true
class TA (P:Program) (t:TypeId):Prop where
 h:Dp P t=true
class TZ (P:Program) (t:TypeId) (m:outParam Nat):Prop where
 h:Af P t=some m
class TF (P:Program) (s f:Nat) (k:outParam Nat):Prop where
 h:AK P s f=some k
class TU (P:Program) (t:TypeId) (d:outParam TypeDesc):Prop where
 h:P.underlying t=some d
class TB (P:Program) (t:TypeId) (place:outParam (Nat→Option (Nat×Nat))) (zs:outParam (List Value)):Prop where
 h:∀ps,P.built t ps=Instr.fill place zs.toArray ps
 z:zs.all (·.oneCell')=true
class TV (P:Program) (t:TypeId) (zs:outParam (List Value)):Prop where
 h:Ax P t=some zs
 z:zs.all (·.oneCell')=true
class TM (P:Program):Prop where
 h:P.follows .mixedOrders=true
section
variable {P:Program} {L:Lg P} {n:Fm} {fz:Nat} {I:Bn} {ops:Array Oper} {o:Oper} {r:List Oper} {E:Env} {K:Env→Prop} {d g j:Nat} {b want:Bool} {p:Pr} {x y:Operand} {Q:Exit→Act→World→Prop} {t u:TypeId}
theorem mz [i:T1 P t] {ps:List Pr} (ho:o.op= .load t x) (hx:CB E x=some (ref (p::ps))):AH P I o E p:=BU ho i.h (vl hx)
theorem m8 [i:TA P t] {m:Nat} [z:TZ P t m] {ps qs:List Pr} (ho:o.op= .load t x) (hx:CB E x=some (ref ps)) (hq:ps.take m=qs) (hm:qs.length=m):AH P I o E (agg qs):=AM ho i.h z.h (vl hx) hq hm
theorem m9 {s:TypeId} {f k:Nat} [i:TF P s f k] {ps qs:List Pr} (ho:o.op= .fieldAddr s x f) (hx:CB E x=some (ref ps)) (hq:ps.drop k=qs):AH P I o E (ref qs):=BC ho i.h (vl hx) hq
theorem m_ {s:TypeId} {f k:Nat} [i:TF P s f k] {b off:Nat} (ho:o.op= .fieldAddr s x f) (hx:CB E x=some (ptr b off)):AH P I o E (ptr b (off+k)):=AO ho i.h (vl hx)
theorem nA {e:TypeId} [i:TU P t (.slice e)] {sz:Nat} {β:Type} {f:β→List Pr} {l:List β} (ho:o.op= .call { callee:= .builtin .len,args:= #[x],argTypes:= #[t] }) (hx:CB E x=some (slice sz (l.map f))):AH P I o E (int ((l.length:Nat):Int)):=B6 ho i.h (vl hx)
theorem nB [i:TU P t .string] {a:List UInt8} (ho:o.op= .call { callee:= .builtin .len,args:= #[x],argTypes:= #[t] }) (hx:CB E x=some (str a)):AH P I o E (int ((a.length:Nat):Int)):=W8 ho i.h (vl hx)
theorem nC [i:TU P t .bool] {b c:Bool} (ho:o.op= .binOp .eql t x y u) (hx:CB E x=some (bool b)) (hy:CB E y=some (bool c)):AH P I o E (bool (b==c)):=ZS ho i.h (vl hx) (vl hy)
theorem nD {p:Pr} [One p] (ho:o.op= .box t x) (hx:CB E x=some p):AH P I o E (ref [p]):=Dq ho (VL.le (vl hx) (AD p))
theorem nE {ps:List Pr} (ho:o.op= .box t x) (hx:CB E x=some (agg ps)):AH P I o E (ref ps):=Dq ho (VL.le (vl hx) (AV ps))
class CP (p:Pr) (ps:outParam (List Pr)):Prop where
 h:Pr.le p (B0 ps)
instance nF (ps:List Pr):CP (agg ps) ps:=⟨AV ps⟩
instance (priority:=low) nG (p:Pr) [One p]:CP p [p]:=⟨AD p⟩
class CQ (p:Pr) (ps:outParam (List Pr)):Prop where
 h:Pr.le p (B0 ps)
instance nH (ps:List Pr):CQ (agg ps) ps:=⟨AV ps⟩
instance nI (k:IntKind) (n:Int):CQ (is (.int k n)) [is (.int k n)]:=⟨AD _⟩
instance j8 (b:Bool):CQ (is (.bool b)) [is (.bool b)]:=⟨AD _⟩
instance nJ (s:ByteArray):CQ (is (.string s)) [is (.string s)]:=⟨AD _⟩
instance nK (a:Option Addr):CQ (is (.pointer a)) [is (.pointer a)]:=⟨AD _⟩
instance gI (sz:Nat) (rows:List (List Pr)):CQ (slice sz rows) [slice sz rows]:=⟨AD _⟩
instance nL (ps:List Pr):CQ (ref ps) [ref ps]:=⟨AD _⟩
instance p_ (f:Fn) (ps:List Pr):CQ (fn f ps) [fn f ps]:=⟨AD _⟩
theorem vf0:O2 E [] []:=trivial
theorem vf1 {i:Nat} {q:Pr} {row:List Pr} [c:CQ q row] {xs:List (Nat×Operand)} {rows:List (Nat×List Pr)} (hx:CB E x=some q) (h:O2 E xs rows):O2 E ((i,x)::xs) ((i,row)::rows):=⟨⟨rfl,VL.le (vl hx) c.h⟩,h⟩
theorem vr0 {sz:Nat}:LJ E sz [] []:=trivial
theorem vr1 {sz:Nat} {q:Pr} {row:List Pr} [c:CQ q row] {xs:List Operand} {rows:List (List Pr)} (hx:CB E x=some q) (hl:row.length=sz) (h:LJ E sz xs rows):LJ E sz (x::xs) (row::rows):=⟨⟨hl,VL.le (vl hx) c.h⟩,h⟩
theorem nM {parts:Array (Nat×Operand)} {place:Nat→Option (Nat×Nat)} {zs:List Value} [i:TB P t place zs] {rows:List (Nat×List Pr)} {qs:List Pr} (ho:o.op= .build t parts) (hx:O2 E parts.toList rows) (hq:La place (zs.map is) rows=some qs):AH P I o E (agg qs):=Ab ho i.h i.z hx hq
theorem nN {e:TypeId} {sz m:Nat} {zs:List Value} {xs:List Operand} {parts:Array (Nat×Operand)} {rows:List (List Pr)} [i:TU P t (.slice e)] [z:TZ P e sz] [v:TV P e zs] (ho:o.op= .buildSlice t m parts) (hp:parts.toList.map Prod.snd=xs) (hm:(m==xs.length&&(parts.toList.map Prod.fst==List.range m)&&zs.length==sz&&Nat.blt 0 sz&&Nat.ble (m*sz) 16777216)=true) (hx:LJ E sz xs rows):AH P I o E (full sz rows):=by
 simp only [Bool.and_eq_true,beq_iff_eq,Nat.blt_eq,Nat.ble_eq] at hm
 obtain ⟨⟨⟨⟨h1,h2⟩,h3⟩,h4⟩,h5⟩:=hm
 subst h1
 refine AG ho ?_ i.h z.h v.h h3 h4 hx h5
 refine List.ext_getElem (by rw [←hp];simp) fun k h6 h7=> ?_
 have h8:k<xs.length:=by simpa using h7
 simp only [List.getElem_map,List.getElem_zipIdx,Nat.zero_add]
 have e1:(parts.toList.map Prod.fst)[k]'(by simpa using h6)=k:=by simp only [h2];exact List.getElem_range _
 have e2:(parts.toList.map Prod.snd)[k]'(by simpa using h6)=xs[k]:=by simp only [hp]
 simp only [List.getElem_map] at e1 e2
 exact Prod.ext e1 e2
section
variable {M0:Av} {w0:World} {S:Nat→Prop} {b off:Nat} {T:TypeId} {new:Bool} {ps qs:List Pr} {m:Nat} {q:Pr}
theorem G_ [i:T1 P t] (ho:o.op= .load t x) (hx:CB E x=some (ptr b off)) (hp:ps[off]? =some p):Gx P M0 w0 S j (SR.c (AB new b T ps)) o E p:=Aq ho i.h (vl hx) hp
theorem HA [i:TA P t] [z:TZ P t m] (ho:o.op= .load t x) (hx:CB E x=some (ptr b off)) (hq:(ps.drop off).take m=qs) (hm:qs.length=m):Gx P M0 w0 S j (SR.c (AB new b T ps)) o E (agg qs):=CX ho i.h z.h (vl hx) hq hm
theorem Nl {ps':List Pr} [z:TZ P t m] [c:CP q qs] (hg:o.guard=none) (ho:o.op= .store t x y) (hx:CB E x=some (ptr b off)) (hy:CB E y=some q) (hm:qs.length=m:=by rfl) (hl:Nat.ble (off+m) ps.length=true:=by rfl) (hps:ps.take off++qs++ps.drop (off+m)=ps':=by rfl):Cd P M0 w0 S n j (SR.c (AB new b T ps)) (SR.c (AB new b T ps')) o E any:=BI hg ho (vl hx) (VL.le (vl hy) c.h) z.h hm (Nat.le_of_ble_eq_true hl) hps
variable {rs:List Aa}
theorem sf (i s:Nat) [z:TZ P t m] [c:CP q qs] (hg:o.guard=none∧o.dst=none∧o.op= .store t x y) (hx:CB E x=some (ptr b 0)) (hy:CB E y=some q) (hi:rs[i]? =some (AB true b T ps)) (hs:E.lookup s=some (ptr b 0))
  (k:TO P n ops r ((s,ref qs)::E) (Hp M0 w0 S ((rs.set i (AB true b T qs)).eraseIdx i)) Q) (hm:qs.length=m:=by rfl) (hl:ps.length=m:=by rfl):TO P n ops (o::r) E (Hp M0 w0 S rs) Q:=
 TO.At i hg.1 hg.2.1 hg.2.2 (vl hx) (VL.le (vl hy) c.h) hi z.h hm hl (TO.freeze (ps:=qs) i s (by
  have hlt:i<rs.length:=by rcases Nat.lt_or_ge i rs.length with h|h;exact h;rw [List.getElem?_eq_none h] at hi;cases hi
  rw [List.getElem?_set_self hlt]) hs k)
theorem sa (i:Nat) [z:TZ P t m] [c:CP q qs] (hg:o.guard=none∧o.dst=none∧o.op= .store t x y) (hx:CB E x=some (ptr b 0)) (hy:CB E y=some q) (hi:rs[i]? =some (AB new b T ps))
  (k:TO P n ops r E (Hp M0 w0 S (rs.set i (AB new b T qs))) Q) (hm:qs.length=m:=by rfl) (hl:ps.length=m:=by rfl):TO P n ops (o::r) E (Hp M0 w0 S rs) Q:=TO.At i hg.1 hg.2.1 hg.2.2 (vl hx) (VL.le (vl hy) c.h) hi z.h hm hl k
end
def aF (o:Oper):Nat:=match o.op with
 | .move ..=>1
 | .assign ..=>1
 | .fieldAddr ..=>2
 | .load ..=>3
 | .binOp .add ..=>7
 | .binOp .sub ..=>8
 | .binOp ..=>4
 | .pick ..=>5
 | .nilCheck ..=>6
 | .call { callee:= .builtin .len,.. }=>9
 | .unOp ..=>10
 | .box ..=>11
 | .extract ..=>12
 | .makeFunc ..=>13
 | .build ..=>14
 | .buildSlice ..=>15
 | .store ..=>16
 |_=>0
def gJ (o:Oper):Bool:=o.guard.isNone
def nO (o:Oper):Nat:=if aF o=0 then 0 else if aF o<5 then 1 else if aF o<9 then 2 else if aF o<16 then 3 else 4
theorem nP {m z:Int} (ho:o.op= .binOp .add t x y u) (hx:CB E x=some (int m)) (hy:CB E y=some (int z)) (hr: -9223372036854775808≤m+z∧m+z≤9223372036854775807):AH P I o E (int (m+z)):=C4 ho (vl hx) (vl hy) hr
theorem nQ {m z:Int} (ho:o.op= .binOp .sub t x y u) (hx:CB E x=some (int m)) (hy:CB E y=some (int z)) (hr: -9223372036854775808≤m-z∧m-z≤9223372036854775807):AH P I o E (int (m-z)):=Ov ho (vl hx) (vl hy) hr
theorem oF (h:AH P I o E p:=by first|exact m9 rfl rfl rfl|exact m_ rfl rfl):AH P I o E p:=h
theorem oL (h:AH P I o E p:=by first|exact mz rfl rfl|exact m8 rfl rfl rfl rfl|exact CH 0 rfl (G_ rfl rfl rfl)|exact CH 0 rfl (HA rfl rfl rfl rfl)|exact CH 1 rfl (G_ rfl rfl rfl)|exact CH 1 rfl (HA rfl rfl rfl rfl)|exact CH 2 rfl (G_ rfl rfl rfl)|exact CH 2 rfl (HA rfl rfl rfl rfl)|exact CH 3 rfl (G_ rfl rfl rfl)|exact CH 3 rfl (HA rfl rfl rfl rfl)|exact CH 4 rfl (G_ rfl rfl rfl)|exact CH 4 rfl (HA rfl rfl rfl rfl)):AH P I o E p:=h
theorem oB (h:AH P I o E p:=by first|exact ki rfl rfl rfl rfl|exact Z5 rfl (vl rfl) (vl rfl)|exact Z6 rfl (vl rfl) (vl rfl)|exact nC rfl rfl rfl):AH P I o E p:=h
theorem oP (h:AH P I o E p:=by first|exact Qj rfl rfl (by first|rfl|assumption) rfl|exact ND rfl rfl (by first|rfl|assumption) rfl|exact Rw rfl (vl rfl) (vl rfl)|exact PI rfl (vl rfl) (vl rfl)):AH P I o E p:=h
theorem oN (h:AH P I o E p:=by first|exact CO rfl (vl rfl)|exact JT rfl (vl rfl)|exact Jz rfl (vl rfl)):AH P I o E p:=h
theorem oA (h:AH P I o E p:=by first|exact nP rfl rfl rfl (by omega)|exact ki rfl rfl rfl rfl):AH P I o E p:=h
theorem oS (h:AH P I o E p:=by first|exact nQ rfl rfl rfl (by omega)|exact ki rfl rfl rfl rfl):AH P I o E p:=h
theorem oC (h:AH P I o E p:=by first|exact nA rfl rfl|exact nB rfl rfl):AH P I o E p:=h
theorem oU (h:AH P I o E p:=by first|exact ML rfl (vl rfl)):AH P I o E p:=h
theorem oO (h:AH P I o E p:=by first|exact nE rfl rfl|exact nD rfl rfl):AH P I o E p:=h
theorem oE (h:AH P I o E p:=by first|exact DK rfl (vl rfl) rfl):AH P I o E p:=h
theorem oM (h:AH P I o E p:=by first|exact I_ rfl rfl):AH P I o E p:=h
theorem oD (h:AH P I o E p:=by first|exact nM rfl (by repeat any_goals first|exact vf0|refine' vf1 rfl ?_) (by rfl)):AH P I o E p:=h
theorem oI (h:AH P I o E p:=by first|exact nN rfl rfl (by rfl) (by repeat any_goals first|exact vr0|refine' vr1 rfl (by rfl) ?_)):AH P I o E p:=h
theorem nR {f:FuncId} {ts:Array TypeId} {res:Pr} (hf:A7 P f [] res) (ho:o.op= .call { callee:= .value (.func f),args:= #[],argTypes:=ts }):AH P I o E res:=Ag ho hf trivial
theorem Ca {f:FuncId} {ts:Array TypeId} {x0:Operand} {p0:Pr} {res:Pr} (hf:A7 P f [p0] res) (ho:o.op= .call { callee:= .value (.func f),args:= #[x0],argTypes:=ts }) (h0:CB E x0=some p0):AH P I o E res:=Ag ho hf ⟨ke h0,trivial⟩
theorem EB {f:FuncId} {ts:Array TypeId} {x0:Operand} {p0:Pr} {x1:Operand} {p1:Pr} {res:Pr} (hf:A7 P f [p0,p1] res) (ho:o.op= .call { callee:= .value (.func f),args:= #[x0,x1],argTypes:=ts }) (h0:CB E x0=some p0) (h1:CB E x1=some p1):AH P I o E res:=Ag ho hf ⟨ke h0,ke h1,trivial⟩
theorem nS {f:FuncId} {ts:Array TypeId} {x0:Operand} {p0:Pr} {x1:Operand} {p1:Pr} {x2:Operand} {p2:Pr} {res:Pr} (hf:A7 P f [p0,p1,p2] res) (ho:o.op= .call { callee:= .value (.func f),args:= #[x0,x1,x2],argTypes:=ts }) (h0:CB E x0=some p0) (h1:CB E x1=some p1) (h2:CB E x2=some p2):AH P I o E res:=Ag ho hf ⟨ke h0,ke h1,ke h2,trivial⟩
theorem kc4 {f:FuncId} {ts:Array TypeId} {x0:Operand} {p0:Pr} {x1:Operand} {p1:Pr} {x2:Operand} {p2:Pr} {x3:Operand} {p3:Pr} {res:Pr} (hf:A7 P f [p0,p1,p2,p3] res) (ho:o.op= .call { callee:= .value (.func f),args:= #[x0,x1,x2,x3],argTypes:=ts }) (h0:CB E x0=some p0) (h1:CB E x1=some p1) (h2:CB E x2=some p2) (h3:CB E x3=some p3):AH P I o E res:=Ag ho hf ⟨ke h0,ke h1,ke h2,ke h3,trivial⟩
theorem cP (_:gJ o=true) (h:Ch P n I ops (o::r) E K):Ch P n I ops (o::r) E K:=h
theorem cG (_:gJ o=false) (h:Ch P n I ops (o::r) E K):Ch P n I ops (o::r) E K:=h
theorem cK (k:Nat) (_:aF o=k) (h:Ch P n I ops (o::r) E K):Ch P n I ops (o::r) E K:=h
theorem cS (k:Nat) (_:nO o=k) (h:Ch P n I ops (o::r) E K):Ch P n I ops (o::r) E K:=h
theorem tK (k:Nat) (_:aF o=k) (h:TO P n ops (o::r) E I Q):TO P n ops (o::r) E I Q:=h
theorem tG (k:Nat) (_:nO o=k) (h:TO P n ops (o::r) E I Q):TO P n ops (o::r) E I Q:=h
theorem Tr.rm [i:TM P] {id:Nat} {l:List Oper} (hB:MJ l=true) (h:Ch P n I l.toArray l E (fun E'=>Fin n E' I Q .normal)) (hc:calm l=true:=by with_unfolding_all rfl):Tr L n E I (.region id l.toArray true) Q:=Tr.ZH i.h hB h hc
theorem Tr.ct {c:Operand} {y z:Code} (hc:CB E c=some (bool true)) (k:Tr L n E I y Q):Tr L n E I (.cond c y z) Q:=Tr.cond hc (fun _=>k) (fun h=>nomatch h)
theorem Tr.cf {c:Operand} {y z:Code} (hc:CB E c=some (bool false)) (k:Tr L n E I z Q):Tr L n E I (.cond c y z) Q:=Tr.cond hc (fun h=>nomatch h) (fun _=>k)
structure T6 (G:Prop):Prop where
 k:G
theorem Cx.mono {M0:Av} {w0:World} {S:Nat→Prop}:∀{l:List Oper} {E:Env} {rs:List SR} {K K':List X→Env→List SR→Prop},(∀L E rs,K L E rs→K' L E rs)→Cx P M0 w0 S n ops l E rs K→Cx P M0 w0 S n ops l E rs K'
 |[],_,_,_,_,h,k=>h _ _ _ k
 |_::_,_,_,_,_,h,⟨p,k,h1,h2,h3⟩=>⟨p,k,h1,h2,Cx.mono (fun _ _ _=>h _ _ _) h3⟩
theorem Cx.keys {M0:Av} {w0:World} {S:Nat→Prop}:∀{l:List Oper} {E:Env} {rs:List SR} {K:List X→Env→List SR→Prop},Cx P M0 w0 S n ops l E rs K→∃ks:List KN,Cx P M0 w0 S n ops l E rs (fun L E' rs'=>L.map (·.k.Gy)=ks∧K L E' rs')
 |[],_,_,_,k=>⟨[],rfl,k⟩
 |_::_,_,_,_,⟨p,k,h1,h2,h3⟩=>by
  obtain ⟨ks,h4⟩:=Cx.keys h3
  exact ⟨k.Gy::ks,p,k,h1,h2,Cx.mono (fun L E rs h=>⟨by rw [List.map_cons,h.1],h.2⟩) h4⟩
theorem Tr.rx {Lo:Lg P} [i:TM P] {M0:Av} {w0:World} {S:Nat→Prop} {id:Nat} {l:List Oper} {E7:List Aa}
  (h:Cx P M0 w0 S n l.toArray l E (E7.map SR.c) (fun L E' rs'=>Jc l (L.map (·.k.Gy))=true∧BH n M0 w0 S E' rs' Q)) (hc:calm l=true:=by with_unfolding_all rfl):Tr Lo n E (Hp M0 w0 S E7) (.region id l.toArray true) Q:=by
 obtain ⟨ks,hk⟩:=Cx.keys h
 obtain ⟨L,h1,h2,h3⟩:=MM l 0 E _ hk
 exact Tr.JU i.h ks (by rw [←h3.1];exact h3.2.1) (hk.mono fun _ _ _ h=>⟨h.1,h.2.2⟩) hc
theorem nT {rs:List Aa} {r0:Aa}:A0 (SR.c r0::rs.map SR.c) (r0::rs):= .cons (A0.map _)
theorem al2 {rs:List Aa} {r0:Aa} {r1:Aa}:A0 (SR.c r0::SR.c r1::rs.map SR.c) (r0::r1::rs):= .cons (.cons (A0.map _))
theorem al3 {rs:List Aa} {r0:Aa} {r1:Aa} {r2:Aa}:A0 (SR.c r0::SR.c r1::SR.c r2::rs.map SR.c) (r0::r1::r2::rs):= .cons (.cons (.cons (A0.map _)))
theorem al5 {rs:List Aa} {r0:Aa} {r1:Aa} {r2:Aa} {r3:Aa} {r4:Aa}:A0 (SR.c r0::SR.c r1::SR.c r2::SR.c r3::SR.c r4::rs.map SR.c) (r0::r1::r2::r3::r4::rs):= .cons (.cons (.cons (.cons (.cons (A0.map _)))))
theorem al6 {rs:List Aa} {r0:Aa} {r1:Aa} {r2:Aa} {r3:Aa} {r4:Aa} {r5:Aa}:A0 (SR.c r0::SR.c r1::SR.c r2::SR.c r3::SR.c r4::SR.c r5::rs.map SR.c) (r0::r1::r2::r3::r4::r5::rs):= .cons (.cons (.cons (.cons (.cons (.cons (A0.map _))))))
theorem al7 {rs:List Aa} {r0:Aa} {r1:Aa} {r2:Aa} {r3:Aa} {r4:Aa} {r5:Aa} {r6:Aa}:A0 (SR.c r0::SR.c r1::SR.c r2::SR.c r3::SR.c r4::SR.c r5::SR.c r6::rs.map SR.c) (r0::r1::r2::r3::r4::r5::r6::rs):= .cons (.cons (.cons (.cons (.cons (.cons (.cons (A0.map _)))))))
theorem fo {f : FuncId} {g : Func} {c : Code} {ps : List Pr} {res : Pr} (hf : P.funcs[f]? = some g) (hb : g.body = some c) (hname : ((g.name == "runtime.NumGoroutine") = false ∧ Nat.ble ps.length g.ntmps = true))
  (h:∀M0 w0,Tr (QT P) g.ntmps (Gw 0 ps) (Bse M0 w0) c (bodyPost P g (Ou M0 w0 res))):A7 P f ps res:=A7.of hf hb hname.1 (Nat.le_of_ble_eq_true hname.2) h
section
variable {M0:Av} {w0:World} {S:Nat→Prop} {rs:List SR} {KX:List X→Env→List SR→Prop}
theorem xId {l:List Oper} (h:Cx P M0 w0 S n ops l E rs KX):Cx P M0 w0 S n ops l E rs KX:=h
theorem xK (k:Nat) (_:aF o=k) (h:Cx P M0 w0 S n ops (o::r) E rs KX):Cx P M0 w0 S n ops (o::r) E rs KX:=h
theorem xG (k:Nat) (_:nO o=k) (h:Cx P M0 w0 S n ops (o::r) E rs KX):Cx P M0 w0 S n ops (o::r) E rs KX:=h
end
theorem cId {l:List Oper} (h:Ch P n I ops l E K):Ch P n I ops l E K:=h
theorem cw {c:Code} (h:Tr L n E I c Q):Tr L n E I c Q:=h
theorem fId {e:Exit} (h:Fin n E I Q e):Fin n E I Q e:=h
theorem gK {l:List Oper} (h:TO P n ops l E I Q):TO P n ops l E I Q:=h
theorem ac {G H:Prop} (k:G) (h:T6 G→H:=by
 intro k
 repeat1' first
  |((with_reducible refine cId ?_);first
   |with_reducible refine Ch.nil ?_
   |(refine cP rfl ?_;first
    |(refine cS 1 rfl ?_;first
      |(refine cK 1 rfl ?_;refine cm rfl ?_)
      |(refine cK 2 rfl ?_;refine co rfl oF ?_)
      |(refine cK 3 rfl ?_;refine co rfl oL ?_)
      |(refine cK 4 rfl ?_;refine co rfl oB ?_))
    |(refine cS 2 rfl ?_;first
      |(refine cK 5 rfl ?_;refine co rfl oP ?_)
      |(refine cK 6 rfl ?_;refine co rfl oN ?_)
      |(refine cK 7 rfl ?_;refine co rfl oA ?_)
      |(refine cK 8 rfl ?_;refine co rfl oS ?_))
    |(refine cS 3 rfl ?_;first
      |(refine cK 9 rfl ?_;refine co rfl oC ?_)
      |(refine cK 10 rfl ?_;refine co rfl oU ?_)
      |(refine cK 11 rfl ?_;refine co rfl oO ?_)
      |(refine cK 12 rfl ?_;refine co rfl oE ?_)
      |(refine cK 13 rfl ?_;refine co rfl oM ?_)
      |(refine cK 14 rfl ?_;refine co rfl oD ?_)
      |(refine cK 15 rfl ?_;refine co rfl oI ?_)))
   |(refine cG rfl ?_;first
    |refine cu rfl ?_
    |refine cnt (by assumption) rfl ?_
    |refine cnf (by assumption) rfl ?_
    |(refine cS 1 rfl ?_;first
      |(refine cK 1 rfl ?_;refine Lb (by first|assumption|rfl) rfl ?_)
      |(refine cK 2 rfl ?_;refine cy (by first|assumption|rfl) rfl oF ?_)
      |(refine cK 3 rfl ?_;refine cy (by first|assumption|rfl) rfl oL ?_)
      |(refine cK 4 rfl ?_;refine cy (by first|assumption|rfl) rfl oB ?_))
    |(refine cS 2 rfl ?_;first
      |(refine cK 5 rfl ?_;refine cy (by first|assumption|rfl) rfl oP ?_)
      |(refine cK 6 rfl ?_;refine cy (by first|assumption|rfl) rfl oN ?_)
      |(refine cK 7 rfl ?_;refine cy (by first|assumption|rfl) rfl oA ?_)
      |(refine cK 8 rfl ?_;refine cy (by first|assumption|rfl) rfl oS ?_))
    |(refine cS 3 rfl ?_;first
      |(refine cK 9 rfl ?_;refine cy (by first|assumption|rfl) rfl oC ?_)
      |(refine cK 10 rfl ?_;refine cy (by first|assumption|rfl) rfl oU ?_)
      |(refine cK 11 rfl ?_;refine cy (by first|assumption|rfl) rfl oO ?_)
      |(refine cK 12 rfl ?_;refine cy (by first|assumption|rfl) rfl oE ?_)
      |(refine cK 13 rfl ?_;refine cy (by first|assumption|rfl) rfl oM ?_)
      |(refine cK 14 rfl ?_;refine cy (by first|assumption|rfl) rfl oD ?_)
      |(refine cK 15 rfl ?_;refine cy (by first|assumption|rfl) rfl oI ?_))
    |refine cnd rfl rfl ?_))
  |((with_reducible refine cw ?_);first
   |with_reducible refine Tr.seq ?_
   |with_reducible refine Tr.Ai ?_
   |refine Tr.rm (by kernel_rfl) ?_
   |with_reducible refine Tr.skip ?_
   |with_reducible refine Tr.block ?_
   |with_reducible refine Tr.ret ?_
   |with_reducible refine Tr.exit ?_
   |refine Tr.ct rfl ?_
   |refine Tr.cf rfl ?_)
  |((with_reducible refine fId ?_);first
   |with_reducible refine Fin.AE ?_
   |with_reducible refine Fin.Ae ?_
   |with_reducible refine Fin.AU ?_
   |with_reducible refine Fin.Am ?_
   |refine Fin.Jw rfl ?_
   |with_reducible refine Fin.block ?_
   |refine Fin.ZI rfl (Cq.HN _ _) rfl ?_)
 first|with_reducible refine Fin.go ?_|with_reducible refine cId ?_|with_reducible refine gK ?_|with_reducible refine cw ?_|refine Fin.go ?_|skip
 exact k.k):H:=h ⟨k⟩
theorem ao {G H:Prop} (k:G) (h:T6 G→H:=by
 intro k
 repeat1' first
  |((with_reducible refine gK ?_);first
   |with_reducible refine TO.nil ?_
   |(refine tG 1 rfl ?_;first
     |(refine tK 1 rfl ?_;refine tm rfl ?_)
     |(refine tK 2 rfl ?_;refine tp rfl oF ?_)
     |(refine tK 3 rfl ?_;refine tp rfl oL ?_)
     |(refine tK 4 rfl ?_;refine tp rfl oB ?_))
   |(refine tG 2 rfl ?_;first
     |(refine tK 5 rfl ?_;refine tp rfl oP ?_)
     |(refine tK 6 rfl ?_;refine tp rfl oN ?_)
     |(refine tK 7 rfl ?_;refine tp rfl oA ?_)
     |(refine tK 8 rfl ?_;refine tp rfl oS ?_))
   |(refine tG 3 rfl ?_;first
     |(refine tK 9 rfl ?_;refine tp rfl oC ?_)
     |(refine tK 10 rfl ?_;refine tp rfl oU ?_)
     |(refine tK 12 rfl ?_;refine tp rfl oE ?_)
     |(refine tK 13 rfl ?_;refine tp rfl oM ?_)
     |(refine tK 14 rfl ?_;refine tp rfl oD ?_)
     |(refine tK 15 rfl ?_;refine tp rfl oI ?_)))
  |((with_reducible refine cw ?_);first
   |with_reducible refine Tr.seq ?_
   |with_reducible refine Tr.Az ?_
   |with_reducible refine Tr.skip ?_
   |with_reducible refine Tr.block ?_
   |with_reducible refine Tr.ret ?_
   |with_reducible refine Tr.exit ?_)
  |((with_reducible refine fId ?_);first
   |with_reducible refine Fin.AE ?_
   |with_reducible refine Fin.Ae ?_
   |with_reducible refine Fin.AU ?_
   |with_reducible refine Fin.Am ?_
   |refine Fin.Jw rfl ?_
   |with_reducible refine Fin.block ?_)
 first|with_reducible refine Fin.go ?_|with_reducible refine cId ?_|with_reducible refine gK ?_|with_reducible refine cw ?_|refine Fin.go ?_|skip
 exact k.k):H:=h ⟨k⟩
theorem ap {G H:Prop} (k:G) (h:T6 G→H:=by
 intro k
 repeat1' first
  |((with_reducible refine gK ?_);first
   |with_reducible refine TO.nil ?_
   |(refine tG 1 rfl ?_;first
     |(refine tK 1 rfl ?_;refine tm rfl ?_)
     |(refine tK 2 rfl ?_;refine tp rfl oF ?_)
     |(refine tK 3 rfl ?_;refine tp rfl oL ?_)
     |(refine tK 4 rfl ?_;refine tp rfl oB ?_))
   |(refine tG 2 rfl ?_;first
     |(refine tK 5 rfl ?_;refine tp rfl oP ?_)
     |(refine tK 6 rfl ?_;refine tp rfl oN ?_)
     |(refine tK 7 rfl ?_;refine tp rfl oA ?_)
     |(refine tK 8 rfl ?_;refine tp rfl oS ?_))
   |(refine tG 3 rfl ?_;first
     |(refine tK 9 rfl ?_;refine tp rfl oC ?_)
     |(refine tK 10 rfl ?_;refine tp rfl oU ?_)
     |(refine tK 12 rfl ?_;refine tp rfl oE ?_)
     |(refine tK 13 rfl ?_;refine tp rfl oM ?_)
     |(refine tK 14 rfl ?_;refine tp rfl oD ?_)
     |(refine tK 15 rfl ?_;refine tp rfl oI ?_))
   |(refine tK 16 rfl ?_;first
    |refine sa 0 ⟨rfl,rfl,rfl⟩ rfl rfl rfl ?_
    |refine TO.E3 0 rfl rfl (Nl rfl rfl rfl rfl) ?_
    |refine sa 1 ⟨rfl,rfl,rfl⟩ rfl rfl rfl ?_
    |refine TO.E3 1 rfl rfl (Nl rfl rfl rfl rfl) ?_
    |refine sa 2 ⟨rfl,rfl,rfl⟩ rfl rfl rfl ?_
    |refine TO.E3 2 rfl rfl (Nl rfl rfl rfl rfl) ?_
    |refine sa 3 ⟨rfl,rfl,rfl⟩ rfl rfl rfl ?_
    |refine TO.E3 3 rfl rfl (Nl rfl rfl rfl rfl) ?_))
  |((with_reducible refine cw ?_);first
   |with_reducible refine Tr.seq ?_
   |with_reducible refine Tr.Az ?_
   |with_reducible refine Tr.skip ?_
   |with_reducible refine Tr.block ?_
   |with_reducible refine Tr.ret ?_
   |with_reducible refine Tr.exit ?_)
  |((with_reducible refine fId ?_);first
   |with_reducible refine Fin.AE ?_
   |with_reducible refine Fin.Ae ?_
   |with_reducible refine Fin.AU ?_
   |with_reducible refine Fin.Am ?_
   |refine Fin.Jw rfl ?_
   |with_reducible refine Fin.block ?_)
 first|with_reducible refine Fin.go ?_|with_reducible refine cId ?_|with_reducible refine gK ?_|with_reducible refine cw ?_|refine Fin.go ?_|skip
 exact k.k):H:=h ⟨k⟩
theorem ax {G H:Prop} (k:G) (h:T6 G→H:=by
 intro k
 repeat ((with_reducible refine xId ?_);first
   |(refine xG 1 rfl ?_;first
     |(refine xK 1 rfl ?_;refine xm rfl ?_)
     |(refine xK 2 rfl ?_;refine xo rfl (fun _=>oF) ?_)
     |(refine xK 3 rfl ?_;refine xo rfl (fun _=>oL) ?_)
     |(refine xK 4 rfl ?_;refine xo rfl (fun _=>oB) ?_))
   |(refine xG 2 rfl ?_;first
     |(refine xK 5 rfl ?_;refine xo rfl (fun _=>oP) ?_)
     |(refine xK 6 rfl ?_;refine xo rfl (fun _=>oN) ?_)
     |(refine xK 7 rfl ?_;refine xo rfl (fun _=>oA) ?_)
     |(refine xK 8 rfl ?_;refine xo rfl (fun _=>oS) ?_))
   |(refine xG 3 rfl ?_;first
     |(refine xK 9 rfl ?_;refine xo rfl (fun _=>oC) ?_)
     |(refine xK 10 rfl ?_;refine xo rfl (fun _=>oU) ?_)
     |(refine xK 11 rfl ?_;refine xo rfl (fun _=>oO) ?_)
     |(refine xK 12 rfl ?_;refine xo rfl (fun _=>oE) ?_)
     |(refine xK 13 rfl ?_;refine xo rfl (fun _=>oM) ?_)
     |(refine xK 14 rfl ?_;refine xo rfl (fun _=>oD) ?_))
   |(refine xK 3 rfl ?_;first
    |refine Ie 0 rfl rfl (G_ rfl rfl rfl) ?_
    |refine Ie 0 rfl rfl (HA rfl rfl rfl rfl) ?_
    |refine Ie 1 rfl rfl (G_ rfl rfl rfl) ?_
    |refine Ie 1 rfl rfl (HA rfl rfl rfl rfl) ?_
    |refine Ie 2 rfl rfl (G_ rfl rfl rfl) ?_
    |refine Ie 2 rfl rfl (HA rfl rfl rfl rfl) ?_
    |refine Ie 3 rfl rfl (G_ rfl rfl rfl) ?_
    |refine Ie 3 rfl rfl (HA rfl rfl rfl rfl) ?_
    |refine Ie 4 rfl rfl (G_ rfl rfl rfl) ?_
    |refine Ie 4 rfl rfl (HA rfl rfl rfl rfl) ?_))
 exact k.k):H:=h ⟨k⟩
theorem ay {G H:Prop} (k:G) (h:T6 G→H:=by
 intro k
 repeat ((with_reducible refine xId ?_);first
   |(refine xG 1 rfl ?_;first
     |(refine xK 1 rfl ?_;refine xm rfl ?_)
     |(refine xK 2 rfl ?_;refine xo rfl (fun _=>oF) ?_)
     |(refine xK 3 rfl ?_;refine xo rfl (fun _=>oL) ?_)
     |(refine xK 4 rfl ?_;refine xo rfl (fun _=>oB) ?_))
   |(refine xG 2 rfl ?_;first
     |(refine xK 5 rfl ?_;refine xo rfl (fun _=>oP) ?_)
     |(refine xK 6 rfl ?_;refine xo rfl (fun _=>oN) ?_)
     |(refine xK 7 rfl ?_;refine xo rfl (fun _=>oA) ?_)
     |(refine xK 8 rfl ?_;refine xo rfl (fun _=>oS) ?_))
   |(refine xG 3 rfl ?_;first
     |(refine xK 9 rfl ?_;refine xo rfl (fun _=>oC) ?_)
     |(refine xK 10 rfl ?_;refine xo rfl (fun _=>oU) ?_)
     |(refine xK 11 rfl ?_;refine xo rfl (fun _=>oO) ?_)
     |(refine xK 12 rfl ?_;refine xo rfl (fun _=>oE) ?_)
     |(refine xK 13 rfl ?_;refine xo rfl (fun _=>oM) ?_)
     |(refine xK 14 rfl ?_;refine xo rfl (fun _=>oD) ?_))
   |(refine xK 3 rfl ?_;first
    |refine Ie 0 rfl rfl (G_ rfl rfl rfl) ?_
    |refine Ie 0 rfl rfl (HA rfl rfl rfl rfl) ?_
    |refine Ie 1 rfl rfl (G_ rfl rfl rfl) ?_
    |refine Ie 1 rfl rfl (HA rfl rfl rfl rfl) ?_
    |refine Ie 2 rfl rfl (G_ rfl rfl rfl) ?_
    |refine Ie 2 rfl rfl (HA rfl rfl rfl rfl) ?_
    |refine Ie 3 rfl rfl (G_ rfl rfl rfl) ?_
    |refine Ie 3 rfl rfl (HA rfl rfl rfl rfl) ?_
    |refine Ie 4 rfl rfl (G_ rfl rfl rfl) ?_
    |refine Ie 4 rfl rfl (HA rfl rfl rfl rfl) ?_)
   |(refine xK 16 rfl ?_;first
    |refine Cx.E3 0 rfl rfl (Nl rfl rfl rfl rfl) ?_
    |refine Cx.E3 1 rfl rfl (Nl rfl rfl rfl rfl) ?_
    |refine Cx.E3 2 rfl rfl (Nl rfl rfl rfl rfl) ?_
    |refine Cx.E3 3 rfl rfl (Nl rfl rfl rfl rfl) ?_))
 exact k.k):H:=h ⟨k⟩
theorem Ch.cg {l:List Oper} {b v:Bool} {g j:Nat} {pt pf:Prop} [ht:C5 b true pt] [hf:C5 b false pf] (_:o.guard=some (j,v)) (_:(ops[j]?.bind (·.dst))=some g) (hb:E.lookup g=some (bool b)) (k:b=true→pt→Ch P n I ops (o::l) E K) (k':b=false→pf→Ch P n I ops (o::l) E K):Ch P n I ops (o::l) E K:=Ch.cases g hb (fun h=>k h (ht.Di h)) (fun h=>k' h (hf.Di h))
theorem a2 {G H:Prop} (k:G) (h:T6 G→H:=by
 intro k
 iterate 2 refine ac ?_
 exact k.k):H:=h ⟨k⟩
theorem a3 {G H:Prop} (k:G) (h:T6 G→H:=by
 intro k
 iterate 3 refine ac ?_
 exact k.k):H:=h ⟨k⟩
theorem an {G L H:Prop} (k:G) (l:L) (h:T6 G→T6 L→H:=by
 intro k l
 refine ac ?_
 refine Tr.cn rfl ?_ ?_
 exact k.k
 exact l.k):H:=h ⟨k⟩ ⟨l⟩
theorem ag {G L H:Prop} (k:G) (l:L) (h:T6 G→T6 L→H:=by
 intro k l
 refine ac ?_
 refine Ch.cg rfl rfl rfl ?_ ?_
 exact k.k
 exact l.k):H:=h ⟨k⟩ ⟨l⟩
theorem Lr {p:Pr}:Pr.le p p:=Pr.le_refl p
theorem Vo {p:Pr} [One p] (h:CB E x=some p):VL E x (B0 [p]):=VL.le (vl h) (AD p)
theorem Va {ps:List Pr} (h:CB E x=some (agg ps)):VL E x (B0 ps):=VL.le (vl h) (AV ps)
theorem Nb {a b:Nat} (h:Nat.ble a b=true):a≤b:=Nat.le_of_ble_eq_true h
theorem Kf {z:Nat} {l:List (List Pr)} (h:CB E x=some (full z l)):VL E x (slice z l):=⟨_,h,Al z l⟩
theorem Ka {v:Value} (h:CB E x=some (AZ v p)):VL E x (is v):=⟨_,h,D6 v p⟩
theorem Kb {v:Value} (h:CB E x=some (AZ v p)):VL E x p:=⟨_,h,Aj v p⟩
theorem Tl {M0:Av} {w0:World} {S:Nat→Prop} {rs:List Aa} {T:TypeId} {zs:List Value} (hg:o.guard=none) (hd:o.dst=some d) (hn:Nat.blt d n=true) (ho:o.op= .alloc T) (hz:Ax P T=some zs) (h1':zs.all (·.oneCell')=true)
  (k:∀b,TO P n ops r ((d,is (.pointer (some ⟨b,0,none⟩)))::E) (Hp M0 w0 S (AB true b T (zs.map is)::rs)) Q):TO P n ops (o::r) E (Hp M0 w0 S rs) Q:=TO.alloc hg hd (Et hn) ho hz h1' k
theorem Cg {M0:Av} {w0:World} {S:Nat→Prop} {t e:TypeId} {sz bytes:Nat} {zs:List Value} {rows rows':List (List Pr)} {R:SR} (hg:o.guard=none) (hd:o.dst=some d) (hn:Nat.blt d n=true) (ho:o.op= .call { callee:= .builtin .append,args:= #[x,y],argTypes:= #[t,t] })
  (ht:P.underlying t=some (.slice e)) (hz:Af P e=some sz) (hby:BZ P e=some bytes) (DO:Ax P e=some zs) (hx:VL E x (slice sz rows)) (hy:VL E y (slice sz rows'))
  (hR:∀M w (a:Act),Bi M w E o a→R.at_ a=As e sz (a.eval x)∨(R.at_ a=BA∧CG (a.eval x)=none)) (hzl:zs.length=sz:=by rfl) (hsz:Nat.blt 0 sz=true:=by rfl)
  (Er:rows.length+rows'.length≤maxLen:=by simp only [List.length_map,List.length_append,List.length_cons,List.length_nil,List.length_replicate,List.length_take,List.length_drop];unfold maxLen;omega) (hfit:(rows.length+rows'.length)*bytes≤140737488355328:=by simp only [List.length_map,List.length_append,List.length_cons,List.length_nil,List.length_replicate,List.length_take,List.length_drop];omega):Cd P M0 w0 S n j R ⟨d,As e sz⟩ o E (slice sz (rows++rows')):=Ia hg hd (Et hn) ho ht hz hby DO hzl (Et hsz) hx hy Er hfit hR
end
end Cp
namespace Go.Proofs.YtppdobdifkefcaaGreatDoor
open Go Cp
instance j9:TM Tryz.prog:=⟨mixed⟩
instance qU:TV Tryz.prog 3 [.int .i64 0]:=⟨z3,zo3⟩
instance nU:T1 Tryz.prog 3:=⟨C6⟩
instance qA:TZ Tryz.prog 3 1:=⟨C8⟩
instance nV:T1 Tryz.prog 4:=⟨mD⟩
instance qV:TV Tryz.prog 5 [.int .u8 0]:=⟨z5,zo5⟩
instance nW:T1 Tryz.prog 5:=⟨eV⟩
instance qB:TZ Tryz.prog 5 1:=⟨HP⟩
instance qW:TV Tryz.prog 9 [.string (ByteArray.mk #[])]:=⟨z9,zo9⟩
instance nX:T1 Tryz.prog 9:=⟨NW⟩
instance qC:TZ Tryz.prog 9 1:=⟨MU⟩
instance WA:TU Tryz.prog 9 .string:=⟨Tryz.underlying9⟩
instance j_:T1 Tryz.prog 22:=⟨Ee⟩
instance T7:TU Tryz.prog 22 (.slice 3):=⟨Tryz.underlying22⟩
instance kA:T1 Tryz.prog 27:=⟨NX⟩
instance T8:TU Tryz.prog 27 (.slice 74):=⟨Tryz.underlying27⟩
instance kB:T1 Tryz.prog 28:=⟨Qn⟩
instance T9:TU Tryz.prog 28 (.slice 78):=⟨Tryz.underlying28⟩
instance kC:T1 Tryz.prog 29:=⟨Td⟩
instance T_:TU Tryz.prog 29 (.slice 81):=⟨Tryz.underlying29⟩
instance kD:TA Tryz.prog 31:=⟨Hh⟩
instance nY:TZ Tryz.prog 31 3:=⟨JV⟩
instance gL:TF Tryz.prog 31 0 0:=⟨G4⟩
instance gM:TF Tryz.prog 31 1 1:=⟨Ih⟩
instance gN:TF Tryz.prog 31 2 2:=⟨KG⟩
instance kE:T1 Tryz.prog 33:=⟨eZ⟩
instance UA:TU Tryz.prog 33 (.slice 87):=⟨Tryz.underlying33⟩
instance kG:TA Tryz.prog 35:=⟨Lf⟩
instance nZ:TZ Tryz.prog 35 3:=⟨O9⟩
instance gO:TF Tryz.prog 35 0 0:=⟨Te⟩
instance gP:TF Tryz.prog 35 1 1:=⟨Tf⟩
instance gQ:TF Tryz.prog 35 2 2:=⟨Za⟩
instance kH:T1 Tryz.prog 37:=⟨Qo⟩
instance UB:TU Tryz.prog 37 (.slice 62):=⟨Tryz.underlying37⟩
instance kI:T1 Tryz.prog 39:=⟨Qp⟩
instance UC:TU Tryz.prog 39 (.slice 49):=⟨Tryz.underlying39⟩
instance ng:TB Tryz.prog 42 (fun i=>(#[(0,1),(1,1),(2,1)]:Array (Nat×Nat))[i]?) (List.replicate 3 (.slice none 0 0)):=⟨Tg,LM⟩
instance kJ:TA Tryz.prog 42:=⟨JG⟩
instance nh:TZ Tryz.prog 42 3:=⟨F6⟩
instance gR:TF Tryz.prog 42 0 0:=⟨KH⟩
instance gS:TF Tryz.prog 42 1 1:=⟨MV⟩
instance gT:TF Tryz.prog 42 2 2:=⟨Ew⟩
instance qD:TV Tryz.prog 49 (List.replicate 2 (.int .i64 0)):=⟨z49,MW⟩
instance kK:TA Tryz.prog 49:=⟨Gl⟩
instance nj:TZ Tryz.prog 49 2:=⟨CT⟩
instance gU:TF Tryz.prog 49 0 0:=⟨MX⟩
instance gV:TF Tryz.prog 49 1 1:=⟨MY⟩
instance nk:TB Tryz.prog 57 (fun i=>(#[(0,1),(1,1)]:Array (Nat×Nat))[i]?) (List.replicate 2 (.int .i64 0)):=⟨ec,Ex⟩
instance qE:TV Tryz.prog 57 (List.replicate 2 (.int .i64 0)):=⟨MZ,Ex⟩
instance kL:TA Tryz.prog 57:=⟨Bj⟩
instance nq:TZ Tryz.prog 57 2:=⟨Cf⟩
instance gW:TF Tryz.prog 57 0 0:=⟨Zb⟩
instance gX:TF Tryz.prog 57 1 1:=⟨Zc⟩
instance kM:T1 Tryz.prog 58:=⟨ej⟩
instance UD:TU Tryz.prog 58 (.slice 107):=⟨Tryz.underlying58⟩
instance kN:TA Tryz.prog 60:=⟨Qq⟩
instance nr:TZ Tryz.prog 60 4:=⟨NY⟩
instance gY:TF Tryz.prog 60 0 0:=⟨Zd⟩
instance gZ:TF Tryz.prog 60 1 2:=⟨Ze⟩
instance ga:TF Tryz.prog 60 2 3:=⟨Th⟩
instance kO:TA Tryz.prog 62:=⟨Lh⟩
instance nu:TZ Tryz.prog 62 8:=⟨Dg⟩
instance gb:TF Tryz.prog 62 0 0:=⟨Zf⟩
instance gh:TF Tryz.prog 62 4 4:=⟨Zg⟩
instance nv:TB Tryz.prog 66 (fun i=>(#[(0,1),(1,1)]:Array (Nat×Nat))[i]?) [.slice none 0 0,.int .i64 0]:=⟨mL,mM⟩
instance gj:TF Tryz.prog 66 0 0:=⟨Zh⟩
instance gl:TF Tryz.prog 66 1 1:=⟨Zi⟩
instance kP:T1 Tryz.prog 67:=⟨ew⟩
instance nw:TZ Tryz.prog 67 1:=⟨eu⟩
instance UE:TU Tryz.prog 67 (.slice 9):=⟨Tryz.underlying67⟩
instance kQ:T1 Tryz.prog 71:=⟨ey⟩
instance nx:TZ Tryz.prog 71 1:=⟨mN⟩
instance kR:T1 Tryz.prog 72:=⟨Yb⟩
instance UF:TU Tryz.prog 72 (.slice 60):=⟨Tryz.underlying72⟩
instance kS:TA Tryz.prog 74:=⟨NZ⟩
instance ny:TZ Tryz.prog 74 9:=⟨Hj⟩
instance gm:TF Tryz.prog 74 0 0:=⟨Ti⟩
instance gp:TF Tryz.prog 74 1 1:=⟨Zk⟩
instance gq:TF Tryz.prog 74 2 2:=⟨PC⟩
instance gr:TF Tryz.prog 74 3 3:=⟨KI⟩
instance gu:TF Tryz.prog 74 5 5:=⟨Mb⟩
instance gv:TF Tryz.prog 74 6 6:=⟨Zl⟩
instance gw:TF Tryz.prog 74 7 7:=⟨Zm⟩
instance n5:TZ Tryz.prog 78 2:=⟨Mc⟩
instance gy:TF Tryz.prog 78 0 0:=⟨Zo⟩
instance gz:TF Tryz.prog 78 1 1:=⟨Zp⟩
instance kU:T1 Tryz.prog 79:=⟨fB⟩
instance UG:TU Tryz.prog 79 (.slice 112):=⟨Tryz.underlying79⟩
instance n7:TB Tryz.prog 81 (fun i=>(#[(0,1),(1,1),(2,1),(3,1),(4,1)]:Array (Nat×Nat))[i]?) [.string (ByteArray.mk #[]),.int .i64 0,.int .i64 0,.slice none 0 0,.int .i64 0]:=⟨mS,Zq⟩
instance kV:TA Tryz.prog 81:=⟨Tj⟩
instance n8:TZ Tryz.prog 81 5:=⟨LN⟩
instance g_:TF Tryz.prog 81 0 0:=⟨Zr⟩
instance hO:TF Tryz.prog 81 1 1:=⟨Zs⟩
instance hY:TF Tryz.prog 81 2 2:=⟨Zt⟩
instance iA:TF Tryz.prog 81 3 3:=⟨Tk⟩
instance iB:TF Tryz.prog 81 4 4:=⟨Zu⟩
instance n9:TB Tryz.prog 85 (fun i=>(#[(0,1),(1,1)]:Array (Nat×Nat))[i]?) (List.replicate 2 (.int .i64 0)):=⟨mT,mU⟩
instance iC:TF Tryz.prog 85 0 0:=⟨Zv⟩
instance iD:TF Tryz.prog 85 1 1:=⟨Zw⟩
instance n_:TB Tryz.prog 87 (fun i=>(#[(0,2),(2,1)]:Array (Nat×Nat))[i]?) [.int .i64 0,.int .i64 0,.slice none 0 0]:=⟨mW,Zx⟩
instance oG:TZ Tryz.prog 87 3:=⟨KJ⟩
instance iE:TF Tryz.prog 87 0 0:=⟨Zy⟩
instance iF:TF Tryz.prog 87 1 2:=⟨Zz⟩
instance UH:TU Tryz.prog 91 (.slice 3):=⟨Tryz.underlying91⟩
instance cx:TF Tryz.prog 105 0 0:=⟨We⟩
instance cz:TF Tryz.prog 105 1 1:=⟨Wf⟩
instance oH:TV Tryz.prog 107 [.int .i64 0,.string (ByteArray.mk #[]),.string (ByteArray.mk #[]),.int .i64 0,.int .i64 0,.int .i64 0,.int .i64 0,.int .i64 0,.int .i64 0,.int .i64 0,.bool false,.int .i64 0,.slice none 0 0,.int .i64 0,.int .i64 0]:=⟨z107,KK⟩
instance iG:TA Tryz.prog 107:=⟨FQ⟩
instance kW:TZ Tryz.prog 107 15:=⟨Dj⟩
instance c_:TF Tryz.prog 107 0 0:=⟨Wg⟩
instance dA:TF Tryz.prog 107 1 1:=⟨Wh⟩
instance aG:TF Tryz.prog 107 10 12:=⟨Na⟩
instance aH:TF Tryz.prog 107 11 13:=⟨KL⟩
instance dB:TF Tryz.prog 107 2 2:=⟨Wi⟩
instance dD:TF Tryz.prog 107 3 3:=⟨Wj⟩
instance dF:TF Tryz.prog 107 4 5:=⟨Wk⟩
instance dG:TF Tryz.prog 107 5 6:=⟨Wl⟩
instance dH:TF Tryz.prog 107 6 8:=⟨Wm⟩
instance dI:TF Tryz.prog 107 7 9:=⟨Wn⟩
instance dJ:TF Tryz.prog 107 8 10:=⟨Wo⟩
instance dK:TF Tryz.prog 107 9 11:=⟨Wp⟩
instance S2:TU Tryz.prog 110 (.slice 57):=⟨Tryz.underlying110⟩
instance kX:TB Tryz.prog 112 (fun i=>(#[(0,2),(2,1)]:Array (Nat×Nat))[i]?) (List.replicate 3 (.int .i64 0)):=⟨fG,Tn⟩
instance oJ:TV Tryz.prog 112 (List.replicate 3 (.int .i64 0)):=⟨Z1,Tn⟩
instance kY:TZ Tryz.prog 112 3:=⟨KM⟩
instance dL:TF Tryz.prog 112 0 0:=⟨Wq⟩
instance dM:TF Tryz.prog 112 1 2:=⟨Wr⟩
instance iH:T1 Tryz.prog 118:=⟨Ey⟩
instance iI:T1 Tryz.prog 123:=⟨Z2⟩
instance kZ:TZ Tryz.prog 123 1:=⟨fK⟩
instance iJ:T1 Tryz.prog 138:=⟨To⟩
instance S3:TU Tryz.prog 138 (.slice 5):=⟨Tryz.underlying138⟩
instance iK:T1 Tryz.prog 148:=⟨G6⟩
instance S4:TU Tryz.prog 148 (.slice 118):=⟨Tryz.underlying148⟩
instance dN:TF Tryz.prog 150 0 0:=⟨Ws⟩
instance dO:TF Tryz.prog 150 1 1:=⟨GV⟩
instance kf:TB Tryz.prog 157 (fun i=>(#[(0,1),(1,1),(2,2),(4,2),(6,2),(8,2),(10,1),(11,1)]:Array (Nat×Nat))[i]?) [.int .i64 0,.string (ByteArray.mk #[]),.int .i64 0,.int .i64 0,.int .i64 0,.int .i64 0,.int .i64 0,.int .i64 0,.int .i64 0,.int .i64 0,.int .i64 0,.int .i64 0]:=⟨Yg,Qs⟩
instance iL:TA Tryz.prog 157:=⟨Md⟩
instance kg:TZ Tryz.prog 157 12:=⟨JH⟩
instance iM:T1 Tryz.prog 163:=⟨Me⟩
instance kj:TB Tryz.prog 165 (fun i=>(#[(0,1),(1,1),(2,1),(3,1)]:Array (Nat×Nat))[i]?) [.int .i64 0,.slice none 0 0,.bool false,.slice none 0 0]:=⟨Tp,Gm⟩
instance iN:TA Tryz.prog 165:=⟨Bu⟩
instance ko:TZ Tryz.prog 165 4:=⟨Bb⟩
instance dP:TF Tryz.prog 165 0 0:=⟨Wv⟩
instance dQ:TF Tryz.prog 165 1 1:=⟨Mf⟩
instance dR:TF Tryz.prog 165 2 2:=⟨Ww⟩
instance dS:TF Tryz.prog 165 3 3:=⟨Hl⟩
instance kr:TB Tryz.prog 176 (fun i=>some (i*8,8)) (List.replicate 256 (.int .i64 0)):=⟨fQ,fR⟩
instance ku:TB Tryz.prog 183 (fun i=>(#[(0,1),(1,1)]:Array (Nat×Nat))[i]?) [.string (ByteArray.mk #[]),.int .i64 0]:=⟨fS,Yj⟩
instance oK:TV Tryz.prog 183 [.string (ByteArray.mk #[]),.int .i64 0]:=⟨z183,Yj⟩
instance k4:TZ Tryz.prog 183 2:=⟨Yi⟩
instance dU:TF Tryz.prog 183 1 1:=⟨Wx⟩
instance S5:TU Tryz.prog 184 (.slice 183):=⟨Tryz.underlying184⟩
instance k5:TB Tryz.prog 203 (fun i=>(#[(0,1),(1,1),(2,1),(3,1),(4,1)]:Array (Nat×Nat))[i]?) [.string (ByteArray.mk #[]),.int .i64 0,.int .i64 0,.slice none 0 0,.slice none 0 0]:=⟨Cl,CJ⟩
instance k6:TZ Tryz.prog 203 5:=⟨Li⟩
instance dV:TF Tryz.prog 203 1 1:=⟨Wy⟩
instance dW:TF Tryz.prog 203 2 2:=⟨Wz⟩
instance dX:TF Tryz.prog 203 3 3:=⟨W0⟩
instance dY:TF Tryz.prog 203 4 4:=⟨W4⟩
instance k7:TB Tryz.prog 207 (fun i=>some (i*5,5)) [.string (ByteArray.mk #[]),.int .i64 0,.int .i64 0,.slice none 0 0,.slice none 0 0,.string (ByteArray.mk #[]),.int .i64 0,.int .i64 0,.slice none 0 0,.slice none 0 0,.string (ByteArray.mk #[]),.int .i64 0,.int .i64 0,.slice none 0 0,.slice none 0 0,.string (ByteArray.mk #[]),.int .i64 0,.int .i64 0,.slice none 0 0,.slice none 0 0,.string (ByteArray.mk #[]),.int .i64 0,.int .i64 0,.slice none 0 0,.slice none 0 0,.string (ByteArray.mk #[]),.int .i64 0,.int .i64 0,.slice none 0 0,.slice none 0 0,.string (ByteArray.mk #[]),.int .i64 0,.int .i64 0,.slice none 0 0,.slice none 0 0,.string (ByteArray.mk #[]),.int .i64 0,.int .i64 0,.slice none 0 0,.slice none 0 0,.string (ByteArray.mk #[]),.int .i64 0,.int .i64 0,.slice none 0 0,.slice none 0 0,.string (ByteArray.mk #[]),.int .i64 0,.int .i64 0,.slice none 0 0,.slice none 0 0,.string (ByteArray.mk #[]),.int .i64 0,.int .i64 0,.slice none 0 0,.slice none 0 0,.string (ByteArray.mk #[]),.int .i64 0,.int .i64 0,.slice none 0 0,.slice none 0 0,.string (ByteArray.mk #[]),.int .i64 0,.int .i64 0,.slice none 0 0,.slice none 0 0,.string (ByteArray.mk #[]),.int .i64 0,.int .i64 0,.slice none 0 0,.slice none 0 0,.string (ByteArray.mk #[]),.int .i64 0,.int .i64 0,.slice none 0 0,.slice none 0 0,.string (ByteArray.mk #[]),.int .i64 0,.int .i64 0,.slice none 0 0,.slice none 0 0,.string (ByteArray.mk #[]),.int .i64 0,.int .i64 0,.slice none 0 0,.slice none 0 0,.string (ByteArray.mk #[]),.int .i64 0,.int .i64 0,.slice none 0 0,.slice none 0 0,.string (ByteArray.mk #[]),.int .i64 0,.int .i64 0,.slice none 0 0,.slice none 0 0,.string (ByteArray.mk #[]),.int .i64 0,.int .i64 0,.slice none 0 0,.slice none 0 0,.string (ByteArray.mk #[]),.int .i64 0,.int .i64 0,.slice none 0 0,.slice none 0 0,.string (ByteArray.mk #[]),.int .i64 0,.int .i64 0,.slice none 0 0,.slice none 0 0,.string (ByteArray.mk #[]),.int .i64 0,.int .i64 0,.slice none 0 0,.slice none 0 0]:=⟨fT,Yl⟩
instance k8:TZ Tryz.prog 207 115:=⟨Yk⟩
instance k9:TB Tryz.prog 211 (fun i=>some (i*1,1)) (List.replicate 2 (.int .i64 0)):=⟨fU,Yn⟩
instance k_:TZ Tryz.prog 211 2:=⟨Ym⟩
instance lA:TB Tryz.prog 212 (fun i=>some (i*2,2)) (List.replicate 10 (.int .i64 0)):=⟨fV,fW⟩
end Go.Proofs.YtppdobdifkefcaaGreatDoor
namespace Go.Proofs.YtppdobdifkefcaaGreatDoor
open Go Go.RowKit Cp Go.Proofs.Tryz
abbrev ints (l:List Int):Pr:=slice 1 (l.map fun n=>[int n])
def idx {β:Type} (p:β→Bool) (l:List β):Int:=match l.findIdx? p with|some i=>i|none=> -1
theorem EJ {β:Type} {p:β→Bool} {l:List β} {k:Nat} {x:β} (hx:l[k]? =some x) (hp:p x=true) (h:∀j y,j<k→l[j]? =some y→p y=false):(k:Int)=idx p l:=by
 have:l.findIdx? p=some k:=by
  rw [List.findIdx?_eq_some_iff_getElem]
  have hk:k<l.length:=by rcases Nat.lt_or_ge k l.length with h|h;exact h;rw [List.getElem?_eq_none h] at hx;cases hx
  rw [List.getElem?_eq_getElem hk] at hx
  simp only [Option.some.injEq] at hx
  refine ⟨hk,by rw [hx];exact hp,fun j hj=> ?_⟩
  simpa using h j _ hj (List.getElem?_eq_getElem (by omega))
 unfold idx;rw [this]
theorem F7 {β:Type} {p:β→Bool} {l:List β} (h:∀j y,j<l.length→l[j]? =some y→p y=false):(-1:Int)=idx p l:=by
 have:l.findIdx? p=none:=by
  rw [List.findIdx?_eq_none_iff]
  intro x hx
  obtain ⟨j,hj,rfl⟩:=List.mem_iff_getElem.1 hx
  exact h j _ hj (List.getElem?_eq_getElem hj)
 unfold idx;rw [this]
theorem Jf {β:Type} (p:β→Bool) (l:List β):decide (idx p l≥0)=l.any p:=by
 unfold idx
 cases h:l.findIdx? p with
 |none=>rw [List.findIdx?_eq_none_iff] at h;simp;intro x hx;simpa using h x hx
 |some i=>
  rw [List.findIdx?_eq_some_iff_getElem] at h
  obtain ⟨h1,h2,_⟩:=h
  simp
  exact ⟨_,List.getElem_mem h1,h2⟩
theorem Cm {β:Type} {p:β→Bool} {l:List β} {k:Nat} {x:β} (hx:l[k]? =some x) (hp:p x=false) (h:∀j y,j<k→l[j]? =some y→p y=false):∀j y,j<k+1→l[j]? =some y→p y=false:=by
 intro j y hj hy
 by_cases hjk:j=k
 · subst hjk;rw [hx] at hy;cases hy;exact hp
 · exact h j y (by omega) hy
theorem Ml {l:List Int} {p:Int→Bool}  :A7 prog 81 [ints l,Oq prog (fun x:Int=>[int x]) (fun x=>bool (p x))] (int (idx p l)):=by
 refine fo func81 rfl ⟨rfl,rfl⟩ fun M0 w0=>(Tr.EF 0 rfl fun Fp=> ?_)
 refine a2 ?_
 refine Tr.block (Tr.BK [(0,_),(1,_),(7,_)] (LK rfl) (fun k:Nat=>[(8,int ((k:Nat):Int))]) (fun k:Nat=>k≤(l).length∧(∀j y,j<k→l[j]? =some y→p y=false)) (fun k:Nat=>(l).length-k) 0 (⟨Nat.zero_le _,fun j y hj=>absurd hj (by omega)⟩) ⟨ke rfl,trivial⟩ ?_)
 rintro k ⟨BO,AJ⟩
 refine ac ?_
 refine Tr.seq ?_
 refine Tr.cn rfl ?_ ?_<;>intro h1 q1
 have Ad:k<(l).length:=AQ h1
 obtain ⟨x,Ac⟩:=at_ Ad
 · repeat' first|exact int_eq (EJ Ac (by assumption) AJ)|exact Fin.AP (k+1) ⟨⟨Ad,Cm Ac (by assumption) AJ⟩,by omega⟩ ⟨⟨_,rfl,AF k⟩,ke rfl,ke rfl,ke rfl,trivial⟩|refine co rfl (AA rfl underlying22 C8 (vl rfl) (vl rfl) (by omega) (by exact Ah (by assumption))) ?_|refine co rfl (G0 rfl C6 rfl) (co rfl (EP x rfl (vl rfl) ⟨ke rfl,trivial⟩) ?_)|refine ac ?_|(refine Tr.cn rfl ?_ ?_<;>intro h q)
 have BF:k=(l).length:=by have:=AR h1;omega
 subst BF
 refine a3 ?_
 · exact int_eq (F7 AJ)
theorem B5 {l:List Int} {p:Int→Bool}  :A7 prog 55 [ints l,Oq prog (fun x:Int=>[int x]) (fun x=>bool (p x))] (bool (l.any p)):=by
 refine fo func55 rfl ⟨rfl,rfl⟩ fun M0 w0=> ?_
 refine a2 ?_
 refine co rfl (EB (Ml) rfl rfl rfl) ?_
 refine a2 ?_
 · exact bool_eq (Jf p l)
theorem Nn {l:List Int} {v:Int}  :A7 prog 113 [ints l,int v] (int (idx (fun x=>v==x) l)):=by
 refine fo func113 rfl ⟨rfl,rfl⟩ fun M0 w0=>(Tr.EF 0 rfl fun Fp=> ?_)
 refine a2 ?_
 refine Tr.block (Tr.BK [(0,_),(1,_),(7,_)] (LK rfl) (fun k:Nat=>[(8,int ((k:Nat):Int))]) (fun k:Nat=>k≤(l).length∧(∀j y,j<k→l[j]? =some y→(v==y)=false)) (fun k:Nat=>(l).length-k) 0 (⟨Nat.zero_le _,fun j y hj=>absurd hj (by omega)⟩) ⟨ke rfl,trivial⟩ ?_)
 rintro k ⟨BO,AJ⟩
 refine ac ?_
 refine Tr.seq ?_
 refine Tr.cn rfl ?_ ?_<;>intro h1 q1
 have Ad:k<(l).length:=AQ h1
 obtain ⟨x,Ac⟩:=at_ Ad
 · repeat' first|exact int_eq (EJ (p:=fun x=>v==x) Ac (by assumption) AJ)|exact Fin.AP (k+1) ⟨⟨Ad,Cm (p:=fun x=>v==x) Ac (by assumption) AJ⟩,by omega⟩ ⟨⟨_,rfl,AF k⟩,ke rfl,ke rfl,ke rfl,trivial⟩|refine co rfl (AA rfl underlying22 C8 (vl rfl) (vl rfl) (by omega) (by exact Ah (by assumption))) ?_|refine ac ?_|(refine Tr.cn rfl ?_ ?_<;>intro h q)
 have BF:k=(l).length:=by have:=AR h1;omega
 subst BF
 refine a3 ?_
 · exact int_eq (F7 AJ)
theorem Ef {l:List Int} {v:Int}  :A7 prog 80 [ints l,int v] (bool (l.any fun x=>v==x)):=by
 refine fo func80 rfl ⟨rfl,rfl⟩ fun M0 w0=> ?_
 refine a2 ?_
 refine co rfl (EB (Nn) rfl rfl rfl) ?_
 refine a2 ?_
 · exact bool_eq (Jf _ l)
theorem UI {l:List Int} (hl:l.length≤1000000000):A9 prog 50 [ints l] (ints l) (BA) (As 3 1):=by
 refine A9.of func50 rfl rfl (by exact Nb rfl) fun M0 w0 S rs M1 w1=> ?_
 refine a2 ?_
 refine co rfl (DY rfl underlying22 (vl rfl)) ?_
 refine ac ?_
 refine Tr.ex 4 rfl (fun z1=>Tr.fact 4 rfl fun Gj=> ?_)
 refine Tr.cn rfl ?_ ?_<;>intro h1 q1
 refine ac ?_
 refine Tr.ret (Fin.AE (Fin.Cs 3 1 (Fin.drop 1 ?_)))
 refine Fin.D7 rfl rfl ?_ (by rintro _ _ _ rfl;rfl)
 · (have iO:l=[]:=(by simpa using Gj h1));subst iO;exact AL 1
 refine ac ?_
 refine ap ?_
 refine TO.pad ?_
 refine TO.Es 0 rfl rfl (by decide) (Cg rfl rfl rfl rfl underlying22 C8 V9 z3 (Kf rfl) (vl rfl) (BV (by exact List.Mem.head _) (vl rfl))) (fun v1=> ?_)
 refine ap ?_
 refine Tr.ret (Fin.drop 1 ?_)
 refine Fin.D7 rfl rfl ?_ (by intro _ _ _ h;rw [h.1])
 · exact Pr.le_trans (Aj _ _) (Pr.le_of_eq (by simp))
end Go.Proofs.YtppdobdifkefcaaGreatDoor
namespace Go.Proofs.YtppdobdifkefcaaGreatDoor
open Go Go.RowKit Cp Go.ChangeShapes Go.WideShapes Go.ChangeAt Go.Proofs.Tryz
theorem oQ:ownKnob Tryz.prog.godebug=none:=by kernel_rfl
theorem UJ:laidOutB Tryz.prog=true:=by kernel_rfl
theorem u8_in {n:Int} (h:(Lit.int .u8 n).wf=true):0≤n∧n<256:=by
 simp only [Lit.wf,Bool.and_eq_true,decide_eq_true_eq] at h
 have h1:IntKind.u8.min=0:=rfl
 have h2:IntKind.u8.max=255:=rfl
 omega
theorem i64_in {n:Int} (h:(Lit.int .i64 n).wf=true):HS n:=by
 simp only [Lit.wf,Bool.and_eq_true,decide_eq_true_eq] at h
 have h1:IntKind.i64.min= -9223372036854775808:=rfl
 have h2:IntKind.i64.max=9223372036854775807:=rfl
 unfold HS;omega
theorem PL {P:Program} {t e:TypeId} (ht:P.underlying t=some (.slice e)) (he:P.underlying e=some (.int .i64)) (hc:P.cellsOf e=1):HZ P t (fun l:List Int=>l.length≤maxLen∧∀n∈l,HS n) (fun l=>[ints l]):=
 (NR ht hc (Ld he)).map id (fun _ h=>⟨h.2,fun n hn=>i64_in (h.1 n hn)⟩) (fun _=>rfl)
end Go.Proofs.YtppdobdifkefcaaGreatDoor
namespace Go.Proofs.YtppdobdifkefcaaGreatDoor
open Go Go.RowKit Cp Go.Proofs.Tryz
-- no type cipherplan/api.Fact here
-- no type cipherplan/api.lB here
-- no type cipherplan/qF.place here
theorem iP {d:Nat} {w:World} {x0 y0:Int} {x1 y1:Int}:(Op.equalIn (d+2) 57 (.agg #[.int .i64 x0,.int .i64 x1]) (.agg #[.int .i64 y0,.int .i64 y1])).run Tryz.prog w= .ok (decide (x0=y0∧x1=y1)) w:=by
 have h:=eqS (w:=w) (d:=d+1) (xs:= #[.int .i64 x0,.int .i64 x1]) (ys:= #[.int .i64 y0,.int .i64 y1]) Tryz.underlying57 (by kernel_rfl) (Ho (by decide) (DQ C6 rfl) (DQ C6 rfl) (Jd (d:=d+0) Tryz.underlying3) (Ho (by decide) (DQ C6 rfl) (DQ C6 rfl) (Jd (d:=d+0) Tryz.underlying3) (Qw)))
 refine h.trans (congrArg (fun b=>Result.ok b w) ?_)
 rw [Bool.eq_iff_iff];simp [and_assoc]
theorem XG {E:Env} {I:Bn} {o:Oper} {u:TypeId} {x y:Operand} {x0 y0:Int} {x1 y1:Int} (ho:o.op= .binOp .eql 57 x y u) (hx:VL E x (agg [is (.int .i64 x0),is (.int .i64 x1)])) (hy:VL E y (agg [is (.int .i64 y0),is (.int .i64 y1)])):AH Tryz.prog I o E (bool (decide (x0=y0∧x1=y1))):=
 Ng [.int .i64 x0,.int .i64 x1] [.int .i64 y0,.int .i64 y1] ho hx hy (by kernel_rfl) (fun w=>by rw [show Op.equal 57 _ _=Op.equalIn (9998+2) 57 _ _ from rfl];exact iP)
def PM (a b:Int):Int:=if a<b then -1 else if b<a then 1 else 0
def aI (l:List Int):Int:=(l.find? fun x=>x !=0).getD 0
theorem XH {l:List Int} {k:Nat} {x:Int} (hx:l[k]? =some x) (h0:¬x=0) (h:∀j y,j<k→l[j]? =some y→(y !=0)=false):x=aI l:=by
 unfold aI
 have:l.find? (fun x=>x !=0)=some x:=by
  rw [List.find?_eq_some_iff_getElem]
  have hk:k<l.length:=by rcases Nat.lt_or_ge k l.length with h|h;exact h;rw [List.getElem?_eq_none h] at hx;cases hx
  rw [List.getElem?_eq_getElem hk] at hx
  simp only [Option.some.injEq] at hx
  refine ⟨by simpa using h0,k,hk,hx,fun j hj=> ?_⟩
  have:=h j _ hj (List.getElem?_eq_getElem (by omega))
  simpa using this
 rw [this];rfl
theorem UK {l:List Int} (h:∀j y,j<l.length→l[j]? =some y→(y !=0)=false):0=aI l:=by
 unfold aI
 have:l.find? (fun x=>x !=0)=none:=by
  rw [List.find?_eq_none]
  intro x hx
  obtain ⟨j,hj,rfl⟩:=List.mem_iff_getElem.1 hx
  have:=h j _ hj (List.getElem?_eq_getElem hj)
  simpa using this
 rw [this];rfl
def UL (c:UInt8):Bool:=decide (33≤c.toNat∧c.toNat≤126)
def named (s:List UInt8):Bool:=s.all UL&&decide (1≤s.length∧s.length≤32)
theorem Hv {β:Type} {p:β→Bool} {l:List β} {k:Nat} {x:β} (hx:l[k]? =some x) (hp:p x=false):l.all p=false:=by
 rw [Bool.eq_false_iff];intro h;rw [List.all_eq_true] at h;rw [h x (List.mem_of_getElem? hx)] at hp;cases hp
theorem FV {β:Type} {p:β→Bool} {l:List β} (h:∀j y,j<l.length→l[j]? =some y→(!p y)=false):l.all p=true:=by
 rw [List.all_eq_true]
 intro y hy
 obtain ⟨j,hj⟩:=List.mem_iff_getElem?.1 hy
 have:=h j y (by rcases Nat.lt_or_ge j l.length with h|h;exact h;rw [List.getElem?_eq_none h] at hj;cases hj) hj
 simpa using this
theorem UM {n:Int}  :A7 prog 130 [int n] (bool false):=by
 refine fo func130 rfl ⟨rfl,rfl⟩ fun M0 w0=> ?_
 refine a3 ?_
 · exact bool_eq (by simp)
theorem UN {a b:Int}  :A7 prog 105 [int a,int b] (int (PM a b)):=by
 refine fo func105 rfl ⟨rfl,rfl⟩ fun M0 w0=> ?_
 · repeat' first|exact absurd h (by decide)|(refine int_eq ?_;unfold PM;(repeat split)<;>omega)|refine co rfl (Ca (UM) rfl rfl) ?_|refine ac ?_|(refine Tr.cn rfl ?_ ?_<;>intro h q)
theorem iQ {l:List Int}  :A7 prog 104 [ints l] (int (aI l)):=by
 refine fo func104 rfl ⟨rfl,rfl⟩ fun M0 w0=>(Tr.EF 0 rfl fun Fp=> ?_)
 refine a3 ?_
 refine Tr.block (Tr.BK [(3,_),(6,_),(7,_)] (LK rfl) (fun k:Nat=>[(8,int ((k:Nat):Int))]) (fun k:Nat=>k≤(l).length∧(∀j y,j<k→l[j]? =some y→(y !=0)=false)) (fun k:Nat=>(l).length-k) 0 (⟨Nat.zero_le _,fun j y hj=>absurd hj (by omega)⟩) ⟨ke rfl,trivial⟩ ?_)
 rintro k ⟨BO,AJ⟩
 refine ac ?_
 refine Tr.seq ?_
 refine Tr.cn rfl ?_ ?_<;>intro h1 q1
 have Ad:k<(l).length:=AQ h1
 obtain ⟨x,Ac⟩:=at_ Ad
 refine ac ?_
 refine Tr.seq (Tr.block (Tr.seq (Tr.Ai (co rfl (AA rfl underlying22 C8 (vl rfl) (vl rfl) (by omega) (by exact Ah (by assumption))) ?_))))
 · repeat' first|exact int_eq (XH Ac (by assumption) AJ)|exact Fin.AP (k+1) ⟨⟨Ad,Cm (p:=fun y=>y !=0) Ac (by simpa using by assumption) AJ⟩,by omega⟩ ⟨⟨_,rfl,AF k⟩,ke rfl,ke rfl,ke rfl,trivial⟩|refine ac ?_|(refine Tr.cn rfl ?_ ?_<;>intro h q)
 have BF:k=(l).length:=by have:=AR h1;omega
 subst BF
 refine a3 ?_
 · exact int_eq (UK AJ)
theorem Jg {s:List UInt8} (hs:s.length≤maxLen):A7 prog 102 [str s] (bool (named s)):=by
 refine fo func102 rfl ⟨rfl,rfl⟩ fun M0 w0=> ?_
 refine a2 ?_
 refine co rfl (KQ rfl underlying9 underlying138 underlying5 (vl rfl) (by assumption)) ?_
 refine ac ?_
 refine Tr.block (Tr.EF 6 rfl fun hl6=>(Tr.BK [(0,_),(6,_),(7,_)] (LK rfl) (fun k:Nat=>[(8,int ((k:Nat):Int))]) (fun k:Nat=>k≤(s).length∧(∀j y,j<k→s[j]? =some y→(!UL y)=false)) (fun k:Nat=>(s).length-k) 0 (⟨Nat.zero_le _,fun j y hj=>absurd hj (by omega)⟩) ⟨ke rfl,trivial⟩ ?_))
 rintro k ⟨BO,AJ⟩
 refine ac ?_
 refine Tr.seq ?_
 refine Tr.cn rfl ?_ ?_<;>intro h1 q1
 have Ad:k<(s).length:=AQ h1
 obtain ⟨c,Ac⟩:=at_ Ad
 refine ac ?_
 refine Tr.seq (Tr.block (Tr.seq (Tr.Ai (co rfl (AA rfl underlying138 HP (vl rfl) (vl rfl) (by omega) (by exact Ah (by assumption))) ?_))))
 · repeat' first|(refine bool_eq ?_;unfold named;rw [Hv (p:=UL) Ac (by simp [UL];omega)];rfl)|(exact Fin.AP (k+1) ⟨⟨Ad,Cm (p:=fun c=> !UL c) Ac (by simp [UL];omega) AJ⟩,by omega⟩ ⟨⟨_,rfl,AF k⟩,ke rfl,ke rfl,ke rfl,trivial⟩)|refine ac ?_|(refine Tr.cn rfl ?_ ?_<;>intro h q)|(refine Ch.cg rfl rfl rfl ?_ ?_<;>intro h q)
 have BF:k=(s).length:=by have:=AR h1;omega
 subst BF
 · repeat' first|(refine bool_eq ?_;unfold named;rw [FV AJ,Bool.true_and];rw [decide_eq_decide];omega)|(refine bool_eq ?_;unfold named;rw [FV AJ,Bool.true_and];(symm;rw [decide_eq_false_iff_not];omega))|refine ac ?_|(refine Ch.cg rfl rfl rfl ?_ ?_<;>intro h q)
theorem Jh {s:List UInt8}  :A7 prog 88 [str s] (bool (named s)):=by
 refine fo func88 rfl ⟨rfl,rfl⟩ fun M0 w0=> ?_
 refine ac ?_
 refine ag ?_ ?_<;>intro h1 q1
 refine a3 ?_
 · refine bool_eq ?_;unfold named;rw [Bool.and_eq_false_iff.2 (.inr (by simp;omega))]
 refine an ?_ ?_<;>intro h2 q2
 refine a2 ?_
 · refine bool_eq ?_;unfold named;rw [Bool.and_eq_false_iff.2 (.inr (by simp;omega))]
 refine a2 ?_
 refine Tr.block (Tr.BK [(0,_)] ⟨ke rfl,trivial⟩ (fun k:Nat=>[(3,int ((k:Nat):Int))]) (fun k:Nat=>k≤(s).length∧(∀j y,j<k→s[j]? =some y→(!UL y)=false)) (fun k:Nat=>(s).length-k) 0 (⟨Nat.zero_le _,fun j y hj=>absurd hj (by omega)⟩) ⟨ke rfl,trivial⟩ ?_)
 rintro k ⟨BO,AJ⟩
 refine an ?_ ?_<;>intro h3 q3
 have Ad:k<(s).length:=AQ h3
 obtain ⟨c,Ac⟩:=at_ Ad
 · repeat' first|(refine bool_eq ?_;unfold named;rw [Hv (p:=UL) Ac (by simp [UL];omega)];rfl)|(exact Fin.AP (k+1) ⟨⟨Ad,Cm (p:=fun c=> !UL c) Ac (by simp [UL];omega) AJ⟩,by omega⟩ ⟨⟨_,rfl,AF k⟩,ke rfl,trivial⟩)|refine co rfl (Qu rfl underlying9 (vl rfl) (vl rfl) (by omega) (Qv (by assumption))) ?_|refine cy h rfl (Qu rfl underlying9 (vl rfl) (vl rfl) (by omega) (Qv (by assumption))) ?_|refine ac ?_|(refine Tr.cn rfl ?_ ?_<;>intro h q)|(refine Ch.cg rfl rfl rfl ?_ ?_<;>intro h q)
 have BF:k=(s).length:=by have:=AR h3;omega
 subst BF
 refine a3 ?_
 · refine bool_eq ?_;unfold named;rw [FV AJ,Bool.true_and];symm;rw [decide_eq_true_eq];omega
structure Mm where
 name:List UInt8
 kind:Int
 way:Int
 sizes:List Int
 Du:List Int
abbrev aJ (r:Mm):List Pr:=[str r.name,int r.kind,int r.way,ints r.sizes,ints r.Du]
def EU:List Mm:=[⟨[],0,0,[],[]⟩,⟨[109,100,53],1,0,[],[18]⟩,⟨[115,104,97,49],1,0,[],[60]⟩,⟨[115,104,97,50,53,54],1,0,[],[128]⟩,⟨[115,104,97,51,56,52],1,0,[],[192]⟩,⟨[114,115,97],2,1,[],[]⟩,⟨[100,115,97],2,1,[],[]⟩,⟨[101,99,100,115,97],2,2,[],[]⟩,⟨[101,100,50,53,53,49,57],2,0,[],[128]⟩,⟨[109,108,100,115,97],2,3,[44,65,87],[128,192,256]⟩,⟨[114,115,97,107,120],3,1,[],[]⟩,⟨[100,104,101],3,1,[],[]⟩,⟨[101,99,100,104,101],3,2,[],[]⟩,⟨[109,108,107,101,109],3,3,[512,768,1024],[128,192,256]⟩,⟨[114,99,52],4,3,[40,128],[40,60]⟩,⟨[100,101,115,51],4,3,[112,168],[80,112]⟩,⟨[97,101,115,99,98,99],4,3,[128,256],[128,256]⟩,⟨[97,101,115,103,99,109],4,3,[128,256],[128,256]⟩,⟨[99,104,97,99,104,97],4,0,[],[256]⟩,⟨[104,109,97,99,109,100,53],5,0,[],[64]⟩,⟨[104,109,97,99,115,104,97,49],5,0,[],[80]⟩,⟨[104,109,97,99,115,104,97,50,53,54],5,0,[],[128]⟩,⟨[97,101,97,100],5,0,[],[256]⟩]
def Qz:Mm:=⟨[],0,0,[],[]⟩
def CD (BB:Int):Mm:=if 1≤BB∧BB≤22 then (EU[BB.toNat]?).getD Qz else Qz
theorem F8 {BB:Int} (h:1≤BB∧BB≤22):EU[BB.toNat]? =some (CD BB):=by
 have hl:BB.toNat<EU.length:=by show BB.toNat<23;omega
 unfold CD;rw [if_pos h,List.getElem?_eq_getElem hl];rfl
theorem Kg {β:Type} {f:β→List Pr} {sz:Nat} (hf:∀x,(f x).length=sz):∀{l:List β} {i:Nat} {x:β},l[i]? =some x→((l.flatMap f).drop (i*sz)).take sz=f x
 |[],_,_,h=>by simp at h
 |a::l,0,x,h=>by
  simp at h;subst h
  rw [List.flatMap_cons,Nat.zero_mul,List.drop_zero,List.take_append_of_le_length (by rw [hf];exact Nat.le_refl _),List.take_of_length_le (by rw [hf];exact Nat.le_refl _)]
 |a::l,i+1,x,h=>by
  rw [List.flatMap_cons,Nat.succ_mul,Nat.add_comm,←List.drop_drop,List.drop_left' (hf a)]
  exact Kg hf (by simpa using h)
theorem drop_cons {β:Type} {l:List β} {k:Nat} {x:β} (h:l[k]? =some x):l.drop k=x::l.drop (k+1):=by
 have hk:k<l.length:=by rcases Nat.lt_or_ge k l.length with h'|h';exact h';rw [List.getElem?_eq_none h'] at h;cases h
 rw [List.drop_eq_getElem_cons hk]
 rw [List.getElem?_eq_getElem hk] at h
 simp at h;rw [h]
def mods:List (Int×Int):=[(1024,56),(2048,80),(3072,112),(7680,128),(15360,192)]
def aK:List (Int×Int)→Int→Int
 |[],_=>256
 |p::l,b=>if b<p.1 then p.2 else aK l b
def UO (b:Int):Int:=aK mods b
theorem aL   :A7 prog 148 [] (agg (EU.flatMap aJ)):=by
 refine fo func148 rfl ⟨rfl,rfl⟩ fun M0 w0=>(Tr.seq (Tr.Az ?_))
 refine Tl rfl rfl rfl rfl mZ Yl (fun b1=> ?_)
 refine ap ?_
 refine ap ?_
 refine tp rfl (Ab (rows:=[(0,[_]),(1,[_]),(2,[_]),(3,[_]),(4,[_])]) rfl Cl CJ ⟨⟨rfl,(Vo rfl)⟩,⟨⟨rfl,(Vo rfl)⟩,⟨⟨rfl,(Vo rfl)⟩,⟨⟨rfl,⟨_,rfl,Pr.le_trans (AL 1) (AD _)⟩⟩,⟨⟨rfl,⟨_,rfl,Pr.le_trans (Al _ _) (AD _)⟩⟩,trivial⟩⟩⟩⟩⟩ rfl) (tp rfl (oI) ?_)
 refine tp rfl (Ab (rows:=[(0,[_]),(1,[_]),(2,[_]),(3,[_]),(4,[_])]) rfl Cl CJ ⟨⟨rfl,(Vo rfl)⟩,⟨⟨rfl,(Vo rfl)⟩,⟨⟨rfl,(Vo rfl)⟩,⟨⟨rfl,⟨_,rfl,Pr.le_trans (AL 1) (AD _)⟩⟩,⟨⟨rfl,⟨_,rfl,Pr.le_trans (Al _ _) (AD _)⟩⟩,trivial⟩⟩⟩⟩⟩ rfl) (tp rfl (oI) ?_)
 refine tp rfl (Ab (rows:=[(0,[_]),(1,[_]),(2,[_]),(3,[_]),(4,[_])]) rfl Cl CJ ⟨⟨rfl,(Vo rfl)⟩,⟨⟨rfl,(Vo rfl)⟩,⟨⟨rfl,(Vo rfl)⟩,⟨⟨rfl,⟨_,rfl,Pr.le_trans (AL 1) (AD _)⟩⟩,⟨⟨rfl,⟨_,rfl,Pr.le_trans (Al _ _) (AD _)⟩⟩,trivial⟩⟩⟩⟩⟩ rfl) (tp rfl (oI) ?_)
 refine tp rfl (Ab (rows:=[(0,[_]),(1,[_]),(2,[_]),(3,[_]),(4,[_])]) rfl Cl CJ ⟨⟨rfl,(Vo rfl)⟩,⟨⟨rfl,(Vo rfl)⟩,⟨⟨rfl,(Vo rfl)⟩,⟨⟨rfl,⟨_,rfl,Pr.le_trans (AL 1) (AD _)⟩⟩,⟨⟨rfl,⟨_,rfl,Pr.le_trans (Al _ _) (AD _)⟩⟩,trivial⟩⟩⟩⟩⟩ rfl) (tp rfl (Ab (rows:=[(0,[_]),(1,[_]),(2,[_]),(3,[_]),(4,[_])]) rfl Cl CJ ⟨⟨rfl,(Vo rfl)⟩,⟨⟨rfl,(Vo rfl)⟩,⟨⟨rfl,(Vo rfl)⟩,⟨⟨rfl,⟨_,rfl,Pr.le_trans (AL 1) (AD _)⟩⟩,⟨⟨rfl,⟨_,rfl,Pr.le_trans (AL 1) (AD _)⟩⟩,trivial⟩⟩⟩⟩⟩ rfl) (tp rfl (Ab (rows:=[(0,[_]),(1,[_]),(2,[_]),(3,[_]),(4,[_])]) rfl Cl CJ ⟨⟨rfl,(Vo rfl)⟩,⟨⟨rfl,(Vo rfl)⟩,⟨⟨rfl,(Vo rfl)⟩,⟨⟨rfl,⟨_,rfl,Pr.le_trans (AL 1) (AD _)⟩⟩,⟨⟨rfl,⟨_,rfl,Pr.le_trans (AL 1) (AD _)⟩⟩,trivial⟩⟩⟩⟩⟩ rfl) (tp rfl (Ab (rows:=[(0,[_]),(1,[_]),(2,[_]),(3,[_]),(4,[_])]) rfl Cl CJ ⟨⟨rfl,(Vo rfl)⟩,⟨⟨rfl,(Vo rfl)⟩,⟨⟨rfl,(Vo rfl)⟩,⟨⟨rfl,⟨_,rfl,Pr.le_trans (AL 1) (AD _)⟩⟩,⟨⟨rfl,⟨_,rfl,Pr.le_trans (AL 1) (AD _)⟩⟩,trivial⟩⟩⟩⟩⟩ rfl) (tp rfl (oI) ?_))))
 refine tp rfl (Ab (rows:=[(0,[_]),(1,[_]),(2,[_]),(3,[_]),(4,[_])]) rfl Cl CJ ⟨⟨rfl,(Vo rfl)⟩,⟨⟨rfl,(Vo rfl)⟩,⟨⟨rfl,(Vo rfl)⟩,⟨⟨rfl,⟨_,rfl,Pr.le_trans (AL 1) (AD _)⟩⟩,⟨⟨rfl,⟨_,rfl,Pr.le_trans (Al _ _) (AD _)⟩⟩,trivial⟩⟩⟩⟩⟩ rfl) ?_
 refine ap ?_
 refine tp rfl (Ab (rows:=[(0,[_]),(1,[_]),(2,[_]),(3,[_]),(4,[_])]) rfl Cl CJ ⟨⟨rfl,(Vo rfl)⟩,⟨⟨rfl,(Vo rfl)⟩,⟨⟨rfl,(Vo rfl)⟩,⟨⟨rfl,⟨_,rfl,Pr.le_trans (Al _ _) (AD _)⟩⟩,⟨⟨rfl,⟨_,rfl,Pr.le_trans (Al _ _) (AD _)⟩⟩,trivial⟩⟩⟩⟩⟩ rfl) (tp rfl (Ab (rows:=[(0,[_]),(1,[_]),(2,[_]),(3,[_]),(4,[_])]) rfl Cl CJ ⟨⟨rfl,(Vo rfl)⟩,⟨⟨rfl,(Vo rfl)⟩,⟨⟨rfl,(Vo rfl)⟩,⟨⟨rfl,⟨_,rfl,Pr.le_trans (AL 1) (AD _)⟩⟩,⟨⟨rfl,⟨_,rfl,Pr.le_trans (AL 1) (AD _)⟩⟩,trivial⟩⟩⟩⟩⟩ rfl) (tp rfl (Ab (rows:=[(0,[_]),(1,[_]),(2,[_]),(3,[_]),(4,[_])]) rfl Cl CJ ⟨⟨rfl,(Vo rfl)⟩,⟨⟨rfl,(Vo rfl)⟩,⟨⟨rfl,(Vo rfl)⟩,⟨⟨rfl,⟨_,rfl,Pr.le_trans (AL 1) (AD _)⟩⟩,⟨⟨rfl,⟨_,rfl,Pr.le_trans (AL 1) (AD _)⟩⟩,trivial⟩⟩⟩⟩⟩ rfl) (tp rfl (Ab (rows:=[(0,[_]),(1,[_]),(2,[_]),(3,[_]),(4,[_])]) rfl Cl CJ ⟨⟨rfl,(Vo rfl)⟩,⟨⟨rfl,(Vo rfl)⟩,⟨⟨rfl,(Vo rfl)⟩,⟨⟨rfl,⟨_,rfl,Pr.le_trans (AL 1) (AD _)⟩⟩,⟨⟨rfl,⟨_,rfl,Pr.le_trans (AL 1) (AD _)⟩⟩,trivial⟩⟩⟩⟩⟩ rfl) ?_)))
 refine ap ?_
 refine tp rfl (Ab (rows:=[(0,[_]),(1,[_]),(2,[_]),(3,[_]),(4,[_])]) rfl Cl CJ ⟨⟨rfl,(Vo rfl)⟩,⟨⟨rfl,(Vo rfl)⟩,⟨⟨rfl,(Vo rfl)⟩,⟨⟨rfl,⟨_,rfl,Pr.le_trans (Al _ _) (AD _)⟩⟩,⟨⟨rfl,⟨_,rfl,Pr.le_trans (Al _ _) (AD _)⟩⟩,trivial⟩⟩⟩⟩⟩ rfl) ?_
 refine ap ?_
 refine tp rfl (Ab (rows:=[(0,[_]),(1,[_]),(2,[_]),(3,[_]),(4,[_])]) rfl Cl CJ ⟨⟨rfl,(Vo rfl)⟩,⟨⟨rfl,(Vo rfl)⟩,⟨⟨rfl,(Vo rfl)⟩,⟨⟨rfl,⟨_,rfl,Pr.le_trans (Al _ _) (AD _)⟩⟩,⟨⟨rfl,⟨_,rfl,Pr.le_trans (Al _ _) (AD _)⟩⟩,trivial⟩⟩⟩⟩⟩ rfl) ?_
 refine ap ?_
 refine tp rfl (Ab (rows:=[(0,[_]),(1,[_]),(2,[_]),(3,[_]),(4,[_])]) rfl Cl CJ ⟨⟨rfl,(Vo rfl)⟩,⟨⟨rfl,(Vo rfl)⟩,⟨⟨rfl,(Vo rfl)⟩,⟨⟨rfl,⟨_,rfl,Pr.le_trans (Al _ _) (AD _)⟩⟩,⟨⟨rfl,⟨_,rfl,Pr.le_trans (Al _ _) (AD _)⟩⟩,trivial⟩⟩⟩⟩⟩ rfl) ?_
 refine ap ?_
 refine tp rfl (Ab (rows:=[(0,[_]),(1,[_]),(2,[_]),(3,[_]),(4,[_])]) rfl Cl CJ ⟨⟨rfl,(Vo rfl)⟩,⟨⟨rfl,(Vo rfl)⟩,⟨⟨rfl,(Vo rfl)⟩,⟨⟨rfl,⟨_,rfl,Pr.le_trans (Al _ _) (AD _)⟩⟩,⟨⟨rfl,⟨_,rfl,Pr.le_trans (Al _ _) (AD _)⟩⟩,trivial⟩⟩⟩⟩⟩ rfl) ?_
 refine ap ?_
 refine tp rfl (Ab (rows:=[(0,[_]),(1,[_]),(2,[_]),(3,[_]),(4,[_])]) rfl Cl CJ ⟨⟨rfl,(Vo rfl)⟩,⟨⟨rfl,(Vo rfl)⟩,⟨⟨rfl,(Vo rfl)⟩,⟨⟨rfl,⟨_,rfl,Pr.le_trans (Al _ _) (AD _)⟩⟩,⟨⟨rfl,⟨_,rfl,Pr.le_trans (Al _ _) (AD _)⟩⟩,trivial⟩⟩⟩⟩⟩ rfl) (tp rfl (oI) ?_)
 refine tp rfl (Ab (rows:=[(0,[_]),(1,[_]),(2,[_]),(3,[_]),(4,[_])]) rfl Cl CJ ⟨⟨rfl,(Vo rfl)⟩,⟨⟨rfl,(Vo rfl)⟩,⟨⟨rfl,(Vo rfl)⟩,⟨⟨rfl,⟨_,rfl,Pr.le_trans (AL 1) (AD _)⟩⟩,⟨⟨rfl,⟨_,rfl,Pr.le_trans (Al _ _) (AD _)⟩⟩,trivial⟩⟩⟩⟩⟩ rfl) (tp rfl (oI) ?_)
 refine tp rfl (Ab (rows:=[(0,[_]),(1,[_]),(2,[_]),(3,[_]),(4,[_])]) rfl Cl CJ ⟨⟨rfl,(Vo rfl)⟩,⟨⟨rfl,(Vo rfl)⟩,⟨⟨rfl,(Vo rfl)⟩,⟨⟨rfl,⟨_,rfl,Pr.le_trans (AL 1) (AD _)⟩⟩,⟨⟨rfl,⟨_,rfl,Pr.le_trans (Al _ _) (AD _)⟩⟩,trivial⟩⟩⟩⟩⟩ rfl) (tp rfl (oI) ?_)
 refine tp rfl (Ab (rows:=[(0,[_]),(1,[_]),(2,[_]),(3,[_]),(4,[_])]) rfl Cl CJ ⟨⟨rfl,(Vo rfl)⟩,⟨⟨rfl,(Vo rfl)⟩,⟨⟨rfl,(Vo rfl)⟩,⟨⟨rfl,⟨_,rfl,Pr.le_trans (AL 1) (AD _)⟩⟩,⟨⟨rfl,⟨_,rfl,Pr.le_trans (Al _ _) (AD _)⟩⟩,trivial⟩⟩⟩⟩⟩ rfl) (tp rfl (oI) ?_)
 refine tp rfl (Ab (rows:=[(0,[_]),(1,[_]),(2,[_]),(3,[_]),(4,[_])]) rfl Cl CJ ⟨⟨rfl,(Vo rfl)⟩,⟨⟨rfl,(Vo rfl)⟩,⟨⟨rfl,(Vo rfl)⟩,⟨⟨rfl,⟨_,rfl,Pr.le_trans (AL 1) (AD _)⟩⟩,⟨⟨rfl,⟨_,rfl,Pr.le_trans (Al _ _) (AD _)⟩⟩,trivial⟩⟩⟩⟩⟩ rfl) (tp rfl (oI) ?_)
 refine tp rfl (Ab (rows:=[(0,[_]),(1,[_]),(2,[_]),(3,[_]),(4,[_])]) rfl Cl CJ ⟨⟨rfl,(Vo rfl)⟩,⟨⟨rfl,(Vo rfl)⟩,⟨⟨rfl,(Vo rfl)⟩,⟨⟨rfl,⟨_,rfl,Pr.le_trans (AL 1) (AD _)⟩⟩,⟨⟨rfl,⟨_,rfl,Pr.le_trans (Al _ _) (AD _)⟩⟩,trivial⟩⟩⟩⟩⟩ rfl) ?_
 refine ap ?_
 refine Fl 0 rfl (Tr.ret (Fin.C2 rfl (BE.cell 0 rfl rfl Z3 Yk rfl (Lr)) ?_))
 · exact A_ ⟨Lr,Lr,Lr,AL 1,AL 1,Lr,Lr,Lr,Lr,Lr,Lr,Lr,Lr,Lr,Lr,Lr,Lr,Lr,Lr,Lr,Lr,Lr,Lr,Lr,Lr,Lr,Lr,Lr,Lr,Lr,Lr,Lr,Lr,Lr,Lr,Lr,Lr,Lr,Lr,Lr,Lr,Lr,Lr,Lr,Lr,Lr,Lr,Lr,Lr,Lr,Lr,Lr,Lr,Lr,Lr,Lr,Lr,Lr,Lr,Lr,Lr,Lr,Lr,Lr,Lr,Lr,Lr,Lr,Lr,Lr,Lr,Lr,Lr,Lr,Lr,Lr,Lr,Lr,Lr,Lr,Lr,Lr,Lr,Lr,Lr,Lr,Lr,Lr,Lr,Lr,Lr,Lr,Lr,Lr,Lr,Lr,Lr,Lr,Lr,Lr,Lr,Lr,Lr,Lr,Lr,Lr,Lr,Lr,Lr,Lr,Lr,Lr,Lr,Lr,Lr,trivial⟩
theorem iR {BB:Int}  :A7 prog 143 [int BB] (IM [agg (aJ (CD BB)),bool (decide (1≤BB∧BB≤22))]):=by
 refine fo func143 rfl ⟨rfl,rfl⟩ fun M0 w0=>(Tr.seq (Tr.Az ?_))
 refine Tl rfl rfl rfl rfl z203 CJ (fun b1=> ?_)
 refine ap ?_
 refine ag ?_ ?_<;>intro h1 q1
 refine ac ?_
 refine Tr.cond rfl (fun _=> ?_) (fun h=>nomatch h)
 refine Tr.seq (Tr.Az (tp rfl (Ab (rows:=[]) rfl Cl CJ trivial rfl) (TO.At 0 rfl rfl rfl (vl rfl) (Va rfl) rfl Li rfl rfl (tm rfl (TO.nil (Fin.go (Tr.ret (Fin.AE (Fin.KF rfl (BE.cell 0 rfl rfl Mg Li rfl (Lr)) (BE.tmp rfl (Lr)) ?_)))))))))
 · refine ET ⟨?_,bool_eq (by symm;rw [decide_eq_false_iff_not];omega),trivial⟩;unfold CD;rw [if_neg (by omega)];exact A_ ⟨Lr,Lr,Lr,AL 1,AL 1,trivial⟩
 refine an ?_ ?_<;>intro h2 q2
 refine ap ?_
 refine Tr.ret (Fin.AE (Fin.KF rfl (BE.cell 0 rfl rfl Mg Li rfl (Lr)) (BE.tmp rfl (Lr)) ?_))
 · refine ET ⟨?_,bool_eq (by symm;rw [decide_eq_false_iff_not];omega),trivial⟩;unfold CD;rw [if_neg (by omega)];exact A_ ⟨Lr,Lr,Lr,AL 1,AL 1,trivial⟩
 have hin:1≤BB∧BB≤22:=by omega
 refine ac ?_
 refine Tr.seq (Tr.Az (tp rfl (nR (aL) rfl) (tm rfl (tp rfl (Nf rfl underlying207 Mg Li (vl rfl) (vl rfl) (by omega) (by omega) (Kg (f:=aJ) (fun _=>rfl) (F8 hin))) ?_))))
 refine ap ?_
 refine Tr.ret (Fin.KF rfl (BE.cell 0 rfl rfl Mg Li rfl (Lr)) (BE.tmp rfl (Lr)) ?_)
 · exact ET ⟨Lr,bool_eq (by symm;rw [decide_eq_true_eq];exact hin),trivial⟩
theorem PN {BB:Int}  :A7 prog 127 [int BB] (int (CD BB).kind):=by
 refine fo func127 rfl ⟨rfl,rfl⟩ fun M0 w0=> ?_
 refine ac ?_
 refine ao ?_
 refine tp rfl (Ca (iR) rfl rfl) ?_
 refine ao ?_
 refine Tl rfl rfl rfl rfl z203 CJ (fun b1=> ?_)
 refine sf 0 3 ⟨rfl,rfl,rfl⟩ rfl rfl rfl rfl ?_
 refine ao ?_
 refine a2 ?_
 · exact Lr
theorem R4 {b:Int}  :A7 prog 145 [int b] (int (UO b)):=by
 refine fo func145 rfl ⟨rfl,rfl⟩ fun M0 w0=> ?_
 have hml:mods.length=5:=rfl
 refine a2 ?_
 refine Tr.block (Tr.re 10 rfl (Pr.le_of_eq (show _=agg (mods.flatMap fun p=>[int p.1,int p.2]) from rfl)) (Tr.BK [(0,_),(10,_)] (cX rfl) (fun k:Nat=>[(11,int ((k:Nat):Int))]) (fun k:Nat=>k≤(mods).length∧(UO b=aK (mods.drop k) b)) (fun k:Nat=>(mods).length-k) 0 (⟨Nat.zero_le _,rfl⟩) ⟨ke rfl,trivial⟩ ?_))
 rintro k ⟨BO,AJ⟩
 refine ac ?_
 refine Tr.seq ?_
 refine Tr.cn rfl ?_ ?_<;>intro h1 q1
 have Ad:k<(mods).length:=AQ h1
 obtain ⟨p,Ac⟩:=at_ Ad
 have hL:k<5:=Ad
 have hdr:=drop_cons Ac
 refine ac ?_
 refine Tr.seq (Tr.block (Tr.seq (Tr.Az (tp rfl (Nf rfl underlying212 Z4 Ym (vl rfl) (vl rfl) (by omega) (by omega) (Kg (f:=fun p:Int×Int=>[int p.1,int p.2]) (fun _=>rfl) Ac)) ?_))))
 refine Tl rfl rfl rfl rfl me Yn (fun b1=> ?_)
 refine sf 0 4 ⟨rfl,rfl,rfl⟩ rfl rfl rfl rfl ?_
 refine ao ?_
 refine ac ?_
 refine co rfl (DP rfl underlying211 C8 (vl rfl) (vl rfl) (by omega) (by omega) rfl) (co rfl (FN rfl C6 (vl rfl) rfl) ?_)
 refine an ?_ ?_<;>intro h2 q2
 refine Tr.seq (Tr.Ai (co rfl (DP rfl underlying211 C8 (vl rfl) (vl rfl) (by omega) (by omega) rfl) (co rfl (FN rfl C6 (vl rfl) rfl) ?_)))
 refine ac ?_
 refine Fl 2 rfl ?_
 refine ac ?_
 · refine int_eq ?_;rw [AJ,hdr];exact (if_pos (by omega)).symm
 refine a2 ?_
 exact Fin.AP (k+1) ⟨⟨Ad,(by rw [AJ,hdr];exact if_neg (by omega))⟩,by omega⟩ ⟨⟨_,rfl,AF k⟩,ke rfl,ke rfl,trivial⟩
 have BF:k=(mods).length:=by have:=AR h1;omega
 subst BF
 refine a3 ?_
 · refine int_eq ?_;rw [AJ,List.drop_length];rfl
def Lt:List Int:=[160,224,256,384,521]
def BD (BB bits:Int):Int:=
 if 1 ≤ BB ∧ BB ≤ 22 then
  if (CD BB).way=0 then (if bits=0 then ((CD BB).Du[0]?).getD 0 else 0)
  else if (CD BB).way=1 then (if 512≤bits∧bits≤16384 then UO bits else 0)
  else if (CD BB).way=2 then (if (Lt.any fun x=>bits==x)=true then bits.tdiv 2 else 0)
  else if (CD BB).way=3 then (if 0≤idx (fun x=>bits==x) (CD BB).sizes then ((CD BB).Du[(idx (fun x=>bits==x) (CD BB).sizes).toNat]?).getD 0 else 0)
  else 0
 else 0
theorem PO {BB:Int} (h:1≤BB∧BB≤22):CD BB∈EU.tail:=by
 have h1:=F8 h
 refine List.mem_of_getElem? (i:=BB.toNat-1) ?_
 rw [List.getElem?_tail,show BB.toNat-1+1=BB.toNat by omega];exact h1
theorem aM:∀r∈EU.tail,(r.way=0→1≤r.Du.length)∧(r.way=3→r.sizes.length≤r.Du.length):=by decide
theorem aN {β:Type} (p:β→Bool) (l:List β):idx p l<l.length:=by
 unfold idx
 cases h:l.findIdx? p with
 |none=>simp;omega
 |some i=>rw [List.findIdx?_eq_some_iff_getElem] at h;obtain ⟨h1,_⟩:=h;simp;omega
theorem PR {BB bits:Int}  :A7 prog 129 [agg [int BB,int bits]] (int (BD BB bits)):=by
 refine fo func129 rfl ⟨rfl,rfl⟩ fun M0 w0=> ?_
 refine ac ?_
 refine ao ?_
 refine tp rfl (Ca (iR) rfl rfl) ?_
 refine ao ?_
 refine Tl rfl rfl rfl rfl z203 CJ (fun b1=> ?_)
 refine sf 0 3 ⟨rfl,rfl,rfl⟩ rfl rfl rfl rfl ?_
 refine ao ?_
 refine ac ?_
 refine O6 1 3 13 rfl ?_
 refine Tr.cn rfl ?_ ?_<;>intro h1 q1
 refine a2 ?_
 · refine int_eq ?_;unfold BD;rw [if_neg (by intro hh;simp [hh] at h1)]
 have hin:1≤BB∧BB≤22:=by simpa using h1
 obtain ⟨hc0,hc3⟩:=aM _ (PO hin)
 refine a2 ?_
 refine an ?_ ?_<;>intro h2 q2
 refine an ?_ ?_<;>intro h3 q3
 obtain ⟨z,hz⟩:=at_ (l:=(CD BB).Du) (k:=0) (hc0 (by omega))
 refine ac ?_
 refine co rfl (AA rfl underlying22 C8 (vl rfl) (vl rfl) (by omega) (Ah (k:=0) hz)) ?_
 refine ac ?_
 refine Fl 2 rfl ?_
 refine ac ?_
 · refine int_eq ?_;unfold BD;rw [if_pos hin,if_pos (by omega),if_pos (by omega),hz];rfl
 refine a3 ?_
 · refine int_eq ?_;unfold BD;rw [if_pos hin,if_pos (by omega),if_neg (by omega)]
 refine an ?_ ?_<;>intro h4 q4
 · repeat' first|(refine int_eq ?_;unfold BD;rw [if_pos hin,if_neg (by omega),if_pos (by omega),if_pos (by omega)])|(refine int_eq ?_;unfold BD;rw [if_pos hin,if_neg (by omega),if_pos (by omega),if_neg (by omega)])|refine co rfl (Ca (R4) rfl rfl) ?_|refine ac ?_|(refine Tr.cn rfl ?_ ?_<;>intro h q)|(refine Ch.cg rfl rfl rfl ?_ ?_<;>intro h q)
 refine an ?_ ?_<;>intro h7 q7
 refine ac ?_
 refine co rfl (Ag rfl (Ef (l:=Lt)) ⟨(Kf rfl),ke rfl,trivial⟩) ?_
 refine ac ?_
 refine EZ 1 43 rfl ?_
 refine Tr.cn rfl ?_ ?_<;>intro h8 q8
 have hb:bits=160∨bits=224∨bits=256∨bits=384∨bits=521:=by simpa [Lt] using h8
 refine ac ?_
 refine co rfl (Jx rfl (vl rfl) (vl rfl) (by omega)) ?_
 refine a2 ?_
 · refine int_eq ?_;unfold BD;rw [if_pos hin,if_neg (by omega),if_neg (by omega),if_pos (by omega),if_pos (by assumption)];rcases hb with h|h|h|h|h<;>rw [h]<;>rfl
 refine a3 ?_
 · refine int_eq ?_;unfold BD;rw [if_pos hin,if_neg (by omega),if_neg (by omega),if_pos (by omega),if_neg (Ay (by assumption))]
 refine an ?_ ?_<;>intro h9 q9
 refine ac ?_
 refine co rfl (EB (Nn) rfl rfl rfl) ?_
 refine ac ?_
 refine EZ 3 5 rfl ?_
 refine an ?_ ?_<;>intro h10 S6
 have hlt:=aN (fun x=>bits==x) (CD BB).sizes
 obtain ⟨z,hz⟩:=at_ (l:=(CD BB).Du) (k:=(idx (fun x=>bits==x) (CD BB).sizes).toNat) (by have:=hc3 (by omega);omega)
 refine ac ?_
 refine co rfl (AA rfl underlying22 C8 (vl rfl) (vl rfl) (by omega) (Ck hz)) ?_
 refine a2 ?_
 · refine int_eq ?_;unfold BD;rw [if_pos hin,if_neg (by omega),if_neg (by omega),if_neg (by omega),if_pos (by omega),if_pos (by assumption),hz];rfl
 refine a3 ?_
 · refine int_eq ?_;unfold BD;rw [if_pos hin,if_neg (by omega),if_neg (by omega),if_neg (by omega),if_pos (by omega),if_neg (by omega)]
 refine a2 ?_
 refine Fl 2 rfl ?_
 refine ac ?_
 · refine int_eq ?_;unfold BD;rw [if_pos hin,if_neg (by omega),if_neg (by omega),if_neg (by omega),if_neg (by omega)]
theorem Mn {BB bits:Int}  :A7 prog 103 [agg [int BB,int bits]] (bool (decide (BD BB bits>0))):=by
 refine fo func103 rfl ⟨rfl,rfl⟩ fun M0 w0=> ?_
 refine a2 ?_
 refine co rfl (Ca (PR) rfl rfl) ?_
 refine a2 ?_
 · exact Lr
structure GW where
 F9:Int
 HB:List UInt8
 FW:List UInt8
 LO:Int
 Gn:Int
 Da:Int
 PT:Int
 Kh:Int
 from_:Int
 dZ:Int
 auth:Bool
 path:Int
 names:List (List UInt8)
 XI:Int
 XJ:Int
abbrev XK (l:List (List UInt8)):Pr:=slice 1 (l.map fun t=>[str t])
abbrev Dl (c:GW):List Pr:=[int c.F9,str c.HB,str c.FW,int c.LO,int c.Gn,int c.Da,int c.PT,int c.Kh,int c.from_,int c.dZ,bool c.auth,int c.path,XK c.names,int c.XI,int c.XJ]
abbrev Np (l:List GW):Pr:=slice 15 (l.map Dl)
structure GW.fits (c:GW):Prop where
 HB:c.HB.length≤maxLen
 FW:c.FW.length≤maxLen
 names:∀s∈c.names,s.length≤maxLen
def Gd (n:Int):Bool:=decide (0≤n)&&decide (n≤2147483648)
def R5 (n:Int):Bool:=decide (0≤n)&&decide (n<4294967296)
def CF (o:List UInt8) (c:UInt8):Bool:=decide (97≤c.toNat∧c.toNat≤122)||decide (65≤c.toNat∧c.toNat≤90)||decide (48≤c.toNat∧c.toNat≤57)||decide (0≤Lib.indexByte o c)
def Ki (s:List UInt8):Bool:=s.all (CF [45,95,46])&&decide (1≤s.length∧s.length≤32)
def nameAt (l:List (List UInt8)) (i:Nat):Bool:=named (l[i]?.getD [])&&(decide (i=0)||decide (Lib.compareBytes (l[i-1]?.getD []) (l[i]?.getD [])= -1))
def Dv (l:List (List UInt8)):Bool:=allI (nameAt l) l.length&&decide (l.length≤8)
def Ji (BB bits kind:Int):Bool:=decide (BD BB bits>0)&&(CD BB).kind==kind
def CK (c:GW):Bool:=
 (decide (0≤c.F9)&&decide (c.F9≤1099511627776)&&named c.HB&&named c.FW&&Dv c.names)&&
 (Ji c.LO c.Gn 2&&Gd c.Da&&Ji c.PT c.Kh 1&&Gd c.XI&&R5 c.XJ)&&
 (decide (0≤c.from_)&&decide (c.from_≤c.dZ)&&decide (c.dZ≤40000))&&(decide (0≤c.path)&&decide (c.path≤8)&&(c.auth||c.path==0))
def Mo (BB bits id:Int) (l:List GW):Bool:=Ji BB bits 2&&Gd id&&decide (l.length≤8)&&l.all CK&&match l with|[]=>true|c::_=>decide (c.LO=BB∧c.Gn=bits)&&c.Da==id
structure Q0 where
 BB:Int
 bits:Int
 Da:Int
 chain:List GW
abbrev Nq (x:Q0):List Pr:=[int x.BB,int x.bits,int x.Da,Np x.chain]
abbrev oV (l:List Q0):Pr:=slice 4 (l.map Nq)
def Q0.fits (x:Q0):Prop:=∀c∈x.chain,c.fits
structure Eg where
 name:List UInt8
 least:Int
 most:Int
 EV:List Int
 own:Bool
 ids:List Q0
 anchors:List Int
 hashes:List Int
 oW:Bool
abbrev Cu (e:Eg):List Pr:=[str e.name,int e.least,int e.most,ints e.EV,bool e.own,oV e.ids,ints e.anchors,ints e.hashes,bool e.oW]
structure Eg.fits (e:Eg):Prop where
 name:e.name.length≤maxLen
 ids:∀x∈e.ids,x.fits
def Lu (l:List Int) (i:Nat):Bool:=decide (i=0)||decide (l[i-1]?.getD 0<l[i]?.getD 0)
def PU (l:List Int):Bool:=allI (Lu l) l.length
def FX (l:List Int) (i:Nat):Bool:=decide (1≤l[i]?.getD 0∧l[i]?.getD 0≤16)&& !((l.take i).any fun x=>l[i]?.getD 0==x)
def FY (l:List Int):Bool:=allI (FX l) l.length
def Kj (n:Int):Bool:=(CD n).kind==1
def XL (x:Q0):Bool:=Mo x.BB x.bits x.Da x.chain
def Ge (e:Eg):Bool:=
 (Ki e.name&&decide (1≤e.least)&&decide (e.least≤e.most)&&decide (e.most≤4)&&FY e.EV)&&
 (decide (e.ids.length≤4)&&decide (e.anchors.length≤16)&&PU e.anchors&&PU e.hashes)&&e.ids.all XL&&e.anchors.all Gd&&e.hashes.all Kj
theorem Q1 {β:Type} (p:β→Bool) (l:List β):(l.any fun x=> !p x)= !l.all p:=by
 induction l with
 |nil=>rfl
 |cons a l ih=>rw [List.any_cons,List.all_cons,ih];cases p a<;>rfl
theorem getD_at {β:Type} {l:List β} {k:Nat} {x d:β} (h:l[k]? =some x):l[k]?.getD d=x:=by rw [h];rfl
theorem aO {s:List UInt8} {c:UInt8}  :A7 prog 146 [str s,is (.int .u8 ((c.toNat:Nat):Int))] (int (Lib.indexByte s c)):=by
 refine fo func146 rfl ⟨rfl,rfl⟩ fun M0 w0=> ?_
 refine a2 ?_
 refine co rfl (PK rfl func152 (by kernel_rfl) (by kernel_rfl) (by kernel_rfl) (by kernel_rfl) (vl rfl) (vl rfl)) ?_
 refine a2 ?_
 · exact Lr
theorem JI {s:List UInt8} {c:UInt8}  :A7 prog 141 [str s,is (.int .u8 ((c.toNat:Nat):Int))] (int (Lib.indexByte s c)):=by
 refine fo func141 rfl ⟨rfl,rfl⟩ fun M0 w0=> ?_
 refine a2 ?_
 refine co rfl (EB (aO) rfl rfl rfl) ?_
 refine a2 ?_
 · exact Lr
theorem UP {o:List UInt8} {c:UInt8}  :A7 prog 125 [is (.int .u8 ((c.toNat:Nat):Int)),str o] (bool (CF o c)):=by
 refine fo func125 rfl ⟨rfl,rfl⟩ fun M0 w0=> ?_
 refine ac ?_
 refine ag ?_ ?_<;>intro h1 q1
 refine ag ?_ ?_<;>intro h2 q2
 refine ac ?_
 refine Fl 4 rfl ?_
 refine ac ?_
 · refine bool_eq ?_;unfold CF;simp_all;omega
 refine ag ?_ ?_<;>intro h3 q3
 refine ag ?_ ?_<;>intro h4 q4
 refine ac ?_
 refine Fl 4 rfl ?_
 refine ac ?_
 · refine bool_eq ?_;unfold CF;simp_all;omega
 refine ag ?_ ?_<;>intro h5 q5
 · repeat' first|(refine bool_eq ?_;unfold CF;simp_all;omega)|refine cy h rfl (EB (JI) rfl rfl rfl) ?_|refine ac ?_|(refine Ch.cg rfl rfl rfl ?_ ?_<;>intro h q)
 refine ac ?_
 refine cy rfl rfl (EB (JI) rfl rfl rfl) ?_
 refine ac ?_
 refine Fl 4 rfl ?_
 refine ac ?_
 · refine bool_eq ?_;unfold CF;simp_all;omega
 refine ag ?_ ?_<;>intro h7 q7
 · repeat' first|(refine bool_eq ?_;unfold CF;simp_all;omega)|refine cy h rfl (EB (JI) rfl rfl rfl) ?_|refine ac ?_|(refine Ch.cg rfl rfl rfl ?_ ?_<;>intro h q)
 refine ac ?_
 refine cy rfl rfl (EB (JI) rfl rfl rfl) ?_
 refine ac ?_
 refine Fl 4 rfl ?_
 refine ac ?_
 · refine bool_eq ?_;unfold CF;simp_all;omega
 refine ag ?_ ?_<;>intro h9 q9
 refine ag ?_ ?_<;>intro h10 S6
 refine ac ?_
 refine Fl 4 rfl ?_
 refine ac ?_
 · refine bool_eq ?_;unfold CF;simp_all;omega
 refine ag ?_ ?_<;>intro h11 WB
 · repeat' first|(refine bool_eq ?_;unfold CF;simp_all;omega)|refine cy h rfl (EB (JI) rfl rfl rfl) ?_|refine ac ?_|(refine Ch.cg rfl rfl rfl ?_ ?_<;>intro h q)
 refine ac ?_
 refine cy rfl rfl (EB (JI) rfl rfl rfl) ?_
 refine ac ?_
 refine Fl 4 rfl ?_
 refine ac ?_
 · refine bool_eq ?_;unfold CF;simp_all;omega
 refine ag ?_ ?_<;>intro Q2 aP
 · repeat' first|(refine bool_eq ?_;unfold CF;simp_all;omega)|refine cy h rfl (EB (JI) rfl rfl rfl) ?_|refine ac ?_|(refine Ch.cg rfl rfl rfl ?_ ?_<;>intro h q)
 refine ac ?_
 refine cy rfl rfl (EB (JI) rfl rfl rfl) ?_
 refine ac ?_
 refine Fl 4 rfl ?_
 refine ac ?_
 · refine bool_eq ?_;unfold CF;simp_all;omega
theorem aQ {s:List UInt8} (hs:s.length≤maxLen):A7 prog 93 [str s] (bool (Ki s)):=by
 refine fo func93 rfl ⟨rfl,rfl⟩ fun M0 w0=> ?_
 refine a2 ?_
 refine co rfl (KQ rfl underlying9 underlying138 underlying5 (vl rfl) (by assumption)) ?_
 refine ac ?_
 refine Tr.block (Tr.EF 6 rfl fun hl6=>(Tr.BK [(0,_),(6,_),(7,_)] (LK rfl) (fun k:Nat=>[(8,int ((k:Nat):Int))]) (fun k:Nat=>k≤(s).length∧(∀j y,j<k→s[j]? =some y→(!CF [45,95,46] y)=false)) (fun k:Nat=>(s).length-k) 0 (⟨Nat.zero_le _,fun j y hj=>absurd hj (by omega)⟩) ⟨ke rfl,trivial⟩ ?_))
 rintro k ⟨BO,AJ⟩
 refine ac ?_
 refine Tr.seq ?_
 refine Tr.cn rfl ?_ ?_<;>intro h1 q1
 have Ad:k<(s).length:=AQ h1
 obtain ⟨c,Ac⟩:=at_ Ad
 refine ac ?_
 refine Tr.seq (Tr.block (Tr.seq (Tr.Ai (co rfl (AA rfl underlying138 HP (vl rfl) (vl rfl) (by omega) (by exact Ah (by assumption))) ?_))))
 · repeat' first|(refine bool_eq ?_;unfold Ki;rw [Hv (p:=CF [45,95,46]) Ac (by simp_all)];rfl)|exact Fin.AP (k+1) ⟨⟨Ad,Cm (p:=fun c=> !CF [45,95,46] c) Ac (by simp_all) AJ⟩,by omega⟩ ⟨⟨_,rfl,AF k⟩,ke rfl,ke rfl,ke rfl,trivial⟩|refine co rfl (EB (UP) rfl rfl rfl) ?_|refine ac ?_|(refine Tr.cn rfl ?_ ?_<;>intro h q)
 have BF:k=(s).length:=by have:=AR h1;omega
 subst BF
 · repeat' first|(refine bool_eq ?_;unfold Ki;rw [FV AJ,Bool.true_and];rw [decide_eq_decide];omega)|(refine bool_eq ?_;unfold Ki;rw [FV AJ,Bool.true_and];symm;rw [decide_eq_false_iff_not];omega)|refine ac ?_|(refine Ch.cg rfl rfl rfl ?_ ?_<;>intro h q)
theorem PV {n:Int}  :A7 prog 99 [int n] (bool (Gd n)):=by
 refine fo func99 rfl ⟨rfl,rfl⟩ fun M0 w0=> ?_
 refine ac ?_
 refine ac ?_
 refine Ch.cs 5 rfl ?_ ?_<;>intro h1 q1
 refine ac ?_
 refine ac ?_
 · refine bool_eq ?_;unfold Gd;simp_all
 refine ac ?_
 refine ac ?_
 · refine bool_eq ?_;unfold Gd;simp_all;omega
theorem aR:Entry Tryz.prog 99:=⟨_,Tryz.func99,rfl,rfl⟩
theorem aS {n:Int}  :A7 prog 151 [int n] (bool (R5 n)):=by
 refine fo func151 rfl ⟨rfl,rfl⟩ fun M0 w0=> ?_
 refine ac ?_
 refine ac ?_
 refine Ch.cs 5 rfl ?_ ?_<;>intro h1 q1
 refine ac ?_
 refine ac ?_
 · refine bool_eq ?_;unfold R5;simp_all
 refine ac ?_
 refine ac ?_
 · refine bool_eq ?_;unfold R5;simp_all;omega
theorem Yu {BB bits kind:Int}  :A7 prog 150 [agg [int BB,int bits],int kind] (bool (Ji BB bits kind)):=by
 refine fo func150 rfl ⟨rfl,rfl⟩ fun M0 w0=> ?_
 refine ac ?_
 refine ac ?_
 refine co rfl (Ca (Mn) rfl rfl) (cm rfl ?_)
 refine Ch.cs 7 rfl ?_ ?_<;>intro h1 q1
 refine ac ?_
 refine cy h1 rfl (Ca (PN) rfl rfl) ?_
 refine ac ?_
 refine ac ?_
 · refine bool_eq ?_;unfold Ji;simp_all
 refine ac ?_
 refine ac ?_
 · refine bool_eq ?_;unfold Ji;simp_all;omega
theorem UQ {l:List (List UInt8)} (hf:∀s∈l,s.length≤maxLen):A7 prog 149 [XK l] (bool (Dv l)):=by
 refine fo func149 rfl ⟨rfl,rfl⟩ fun M0 w0=>(Tr.EF 0 rfl fun Fp=> ?_)
 refine a2 ?_
 refine Tr.block (Tr.BK [(0,_),(5,_),(6,_)] (LK rfl) (fun k:Nat=>[(7,int ((k:Nat):Int))]) (fun k:Nat=>k≤(l).length∧(∀j,j<k→nameAt l j=true)) (fun k:Nat=>(l).length-k) 0 (⟨Nat.zero_le _,fun j hj=>absurd hj (by omega)⟩) ⟨ke rfl,trivial⟩ ?_)
 rintro k ⟨BO,AJ⟩
 refine ac ?_
 refine Tr.seq ?_
 refine Tr.cn rfl ?_ ?_<;>intro h1 q1
 have Ad:k<(l).length:=AQ h1
 obtain ⟨s,Ac⟩:=at_ Ad
 have hsf:=hf s (List.mem_of_getElem? Ac)
 have hg:=getD_at (d:=[]) Ac
 refine a2 ?_
 refine co rfl (AA rfl underlying67 MU (vl rfl) (vl rfl) (by omega) (Ah Ac)) ?_
 refine a2 ?_
 refine co rfl (Ca (Jg hsf) rfl rfl) ?_
 refine ag ?_ ?_<;>intro h2 q2
 refine ac ?_
 refine JD 0 5 6 7 27 rfl ?_
 refine a2 ?_
 · refine bool_eq ?_;unfold Dv;rw [CY (p:=nameAt l) (k:=k) (by omega) (by unfold nameAt;rw [hg];simp_all)];rfl
 refine ag ?_ ?_<;>intro h3 q3
 have hk0:0<k:=by simpa using h3
 obtain ⟨y,hy⟩:=at_ (l:=l) (k:=k-1) (by omega)
 have Oo:=getD_at (d:=[]) hy
 · repeat' first|(refine bool_eq ?_;unfold Dv;rw [CY (p:=nameAt l) (k:=k) (by omega) (by unfold nameAt;rw [hg,Oo];simp_all;omega)];rfl)|(exact Fin.AP (k+1) ⟨⟨Ad,B4 AJ (by unfold nameAt;rw [hg,Oo];simp_all)⟩,by omega⟩ ⟨⟨_,rfl,AF k⟩,ke rfl,ke rfl,ke rfl,trivial⟩)|(refine cy h3 rfl (AA rfl underlying67 MU (vl rfl) (vl rfl) (by omega) (by rw [show ((k:Nat):Int)-1=((k-1:Nat):Int) by omega];exact Ah hy)) ?_)|refine cy h3 rfl (Mh rfl (vl rfl) (vl rfl)) ?_|refine ac ?_|(refine Tr.cn rfl ?_ ?_<;>intro h q)
 refine ac ?_
 refine JD 0 5 6 7 27 rfl ?_
 refine a2 ?_
 exact Fin.AP (k+1) ⟨⟨Ad,B4 AJ (by unfold nameAt;rw [hg];simp_all)⟩,by omega⟩ ⟨⟨_,rfl,AF k⟩,ke rfl,ke rfl,ke rfl,trivial⟩
 have BF:k=(l).length:=by have:=AR h1;omega
 subst BF
 refine a3 ?_
 · refine bool_eq ?_;unfold Dv;rw [Ht AJ,Bool.true_and];simp;omega
theorem UR {c:GW} (hc:c.fits):A7 prog 144 [agg (Dl c)] (bool (CK c)):=by
 refine fo func144 rfl ⟨rfl,rfl⟩ fun M0 w0=> ?_
 · repeat' first|(refine bool_eq ?_;unfold CK;simp_all;omega)|(refine bool_eq ?_;unfold CK;simp_all)|refine cy h rfl (Ca (Jg hc.HB) rfl rfl) ?_|refine cy h rfl (Ca (Jg hc.FW) rfl rfl) ?_|refine cy h rfl (Ca (UQ hc.names) rfl rfl) ?_|refine co rfl (EB (Yu) rfl rfl rfl) ?_|refine cy h rfl (EB (Yu) rfl rfl rfl) ?_|refine cy h rfl (Ca (aS) rfl rfl) ?_|refine cy h rfl (Ca (PV) rfl rfl) ?_|refine ac ?_|(refine Tr.cn rfl ?_ ?_<;>intro h q)|(refine Ch.cg rfl rfl rfl ?_ ?_<;>intro h q)
theorem US {c:GW} (hc:c.fits):A7 prog 128 [agg (Dl c)] (int (if CK c then 0 else 9)):=by
 refine fo func128 rfl ⟨rfl,rfl⟩ fun M0 w0=> ?_
 · repeat' first|(refine int_eq ?_;simp_all)|refine co rfl (Ca (UR (by assumption)) rfl rfl) ?_|refine ac ?_|(refine Tr.cn rfl ?_ ?_<;>intro h q)
abbrev Bw:List Pr:=[any,any,any,any,any,any,any,any,any,any,any,any]
abbrev B8:List (List Pr):=[Bw,Bw,Bw,Bw,Bw,Bw,Bw,Bw,Bw,Bw,Bw,Bw,Bw,Bw,Bw,Bw]
theorem aT {q:List Pr} {k o:Nat} (hk:k<16) (ho:o=k*12):(B8.flatten++q)[o]? =some any:=by
 subst ho
 have h:B8[k]? =some Bw:=by
  have hk':k<B8.length:=hk
  rw [List.getElem?_eq_getElem hk']
  have:∀r∈B8,r=Bw:=by intro r hr;simp at hr;exact hr
  rw [this _ (List.getElem_mem hk')]
 have hl:∀r∈B8,r.length=12:=by intro r hr;simp at hr;rw [hr];rfl
 rw [List.getElem?_append_left (by rw [Bv hl];show k*12<16*12;omega)]
 exact FR (j:=0) hl h (by omega)
theorem UT {k:Nat} (hk:k<16):B8[k]? =some Bw:=by
 have hk':k<B8.length:=hk
 rw [List.getElem?_eq_getElem hk']
 have:∀r∈B8,r=Bw:=by intro r hr;simp at hr;exact hr
 rw [this _ (List.getElem_mem hk')]
theorem Q3:∀r∈B8,r.length=12:=by intro r hr;simp at hr;rw [hr];rfl
theorem R6 {i:Nat} {p:Pr} (h:Bw[i]? =some p):p=any:=by have:=List.mem_of_getElem? h;simp at this;exact this
theorem Bz {ps:List Pr} (h:ps.length=12):Pr.le (agg ps) (agg Bw):=fun M w v ⟨cs,h1,h2,h3⟩=>⟨cs,h1,h2,HL.YQ (by rw [h3.length,h];rfl) fun i p v hp _=>by rw [R6 hp];trivial⟩
def UU (BB bits id:Int) (l:List GW):Bool:=match l with|[]=>true|c::_=>decide (c.LO=BB∧c.Gn=bits)&&c.Da==id
theorem R7 {BB bits id:Int} {l:List GW} (h:l.length=0):UU BB bits id l=true:=by rw [List.eq_nil_of_length_eq_zero h];rfl
theorem Nr {BB bits id:Int} {l:List GW} {c:GW} (h:l[0]? =some c):UU BB bits id l=(decide (c.LO=BB∧c.Gn=bits)&&c.Da==id):=by
 cases l with
 |nil=>simp at h
 |cons a l=>simp at h;subst h;rfl
theorem DR (BB bits id:Int) (l:List GW):Mo BB bits id l=(Ji BB bits 2&&Gd id&&decide (l.length≤8)&&l.all CK&&UU BB bits id l):=rfl
theorem Fq {a b:Int}  :A7 prog 147 [int a,int b] (agg [int a,int b]):=by
 refine fo func147 rfl ⟨rfl,rfl⟩ fun M0 w0=>(Tr.seq (Tr.Az ?_))
 refine Tl rfl rfl rfl rfl MZ Ex (fun b1=> ?_)
 refine ap ?_
 refine ap ?_
 refine Tr.ret (Fin.C2 rfl (BE.cell 0 rfl rfl Bj Cf rfl (Lr)) ?_)
 · exact Lr
theorem UW   :A7 prog 142 [] (slice 12 B8):=by
 refine fo func142 rfl ⟨rfl,rfl⟩ fun M0 w0=> ?_
 refine ac ?_
 refine Tr.seq (Tr.Az ?_)
 iterate 4 refine tp rfl (EB (Fq) rfl rfl rfl) ?_
 refine tp rfl (Ab (rows:=[]) rfl ec Ex trivial rfl) ?_
 refine Tl rfl rfl rfl rfl MZ Ex (fun b1=> ?_)
 refine Tl rfl rfl rfl rfl MZ Ex (fun b2=> ?_)
 refine Tl rfl rfl rfl rfl MZ Ex (fun b3=> ?_)
 refine Tl rfl rfl rfl rfl MZ Ex (fun b4=> ?_)
 refine Tl rfl rfl rfl rfl MZ Ex (fun b5=> ?_)
 refine sf 4 1 ⟨rfl,rfl,rfl⟩ rfl rfl rfl rfl ?_
 refine sf 3 2 ⟨rfl,rfl,rfl⟩ rfl rfl rfl rfl ?_
 refine sf 2 3 ⟨rfl,rfl,rfl⟩ rfl rfl rfl rfl ?_
 refine sf 1 4 ⟨rfl,rfl,rfl⟩ rfl rfl rfl rfl ?_
 refine sf 0 5 ⟨rfl,rfl,rfl⟩ rfl rfl rfl rfl ?_
 refine TO.nil (Fin.go (JD 1 2 3 4 5 rfl (Tr.seq (Tr.Az ?_))))
 iterate 5 refine tp rfl (EB (Fq) rfl rfl rfl) ?_
 refine Tl rfl rfl rfl rfl MZ Ex (fun b6=> ?_)
 refine Tl rfl rfl rfl rfl MZ Ex (fun b7=> ?_)
 refine Tl rfl rfl rfl rfl MZ Ex (fun b8=> ?_)
 refine Tl rfl rfl rfl rfl MZ Ex (fun b9=> ?_)
 refine Tl rfl rfl rfl rfl MZ Ex (fun b10=> ?_)
 refine sf 4 6 ⟨rfl,rfl,rfl⟩ rfl rfl rfl rfl ?_
 refine sf 3 7 ⟨rfl,rfl,rfl⟩ rfl rfl rfl rfl ?_
 refine sf 2 8 ⟨rfl,rfl,rfl⟩ rfl rfl rfl rfl ?_
 refine sf 1 9 ⟨rfl,rfl,rfl⟩ rfl rfl rfl rfl ?_
 refine sf 0 10 ⟨rfl,rfl,rfl⟩ rfl rfl rfl rfl ?_
 refine TO.nil (Fin.go (NO 1 2 3 4 5 6 7 8 9 10 rfl (Tr.seq (Tr.Az ?_))))
 iterate 4 refine tp rfl (EB (Fq) rfl rfl rfl) ?_
 refine Tl rfl rfl rfl rfl MZ Ex (fun b11=> ?_)
 refine Tl rfl rfl rfl rfl MZ Ex (fun b12=> ?_)
 refine Tl rfl rfl rfl rfl MZ Ex (fun b13=> ?_)
 refine Tl rfl rfl rfl rfl MZ Ex (fun b14=> ?_)
 refine sf 3 11 ⟨rfl,rfl,rfl⟩ rfl rfl rfl rfl ?_
 refine sf 2 12 ⟨rfl,rfl,rfl⟩ rfl rfl rfl rfl ?_
 refine sf 1 13 ⟨rfl,rfl,rfl⟩ rfl rfl rfl rfl ?_
 refine sf 0 14 ⟨rfl,rfl,rfl⟩ rfl rfl rfl rfl ?_
 refine TO.nil (Fin.go (ZV 1 2 3 4 5 6 7 8 9 10 11 12 13 14 rfl (Tr.seq (Tr.pad (Tr.rx (xo rfl (fun _=>AM rfl Bj Cf (vl rfl) rfl rfl) (xo rfl (fun _=>AM rfl Bj Cf (vl rfl) rfl rfl) (xo rfl (fun _=>EB (Fq) rfl rfl rfl) (xo rfl (fun _=>AM rfl Bj Cf (vl rfl) rfl rfl) (xo rfl (fun _=>oD) (xo rfl (fun _=>AM rfl Bj Cf (vl rfl) rfl rfl) (xo rfl (fun _=>AM rfl Bj Cf (vl rfl) rfl rfl) (xo rfl (fun _=>EB (Fq) rfl rfl rfl) ?_)))))))))))))
 refine xo rfl (fun _=>AM rfl Bj Cf (vl rfl) rfl rfl) (xo rfl (fun _=>oD) ?_)
 iterate 4 refine xo rfl (fun _=>AM rfl Bj Cf (vl rfl) rfl rfl) ?_
 refine xo rfl (fun _=>oD) (xo rfl (fun _=>EB (Fq) rfl rfl rfl) (xo rfl (fun _=>AM rfl Bj Cf (vl rfl) rfl rfl) (xo rfl (fun _=>AM rfl Bj Cf (vl rfl) rfl rfl) (xo rfl (fun _=>AM rfl Bj Cf (vl rfl) rfl rfl) (xo rfl (fun _=>oD) (xo rfl (fun _=>EB (Fq) rfl rfl rfl) (xo rfl (fun _=>AM rfl Bj Cf (vl rfl) rfl rfl) (xo rfl (fun _=>AM rfl Bj Cf (vl rfl) rfl rfl) (xo rfl (fun _=>AM rfl Bj Cf (vl rfl) rfl rfl) (xo rfl (fun _=>oD) ?_))))))))))
 iterate 4 refine xo rfl (fun _=>AM rfl Bj Cf (vl rfl) rfl rfl) ?_
 refine xo rfl (fun _=>oD) (xo rfl (fun _=>EB (Fq) rfl rfl rfl) (xo rfl (fun _=>AM rfl Bj Cf (vl rfl) rfl rfl) (xo rfl (fun _=>AM rfl Bj Cf (vl rfl) rfl rfl) (xo rfl (fun _=>AM rfl Bj Cf (vl rfl) rfl rfl) (xo rfl (fun _=>oD) ?_)))))
 iterate 4 refine xo rfl (fun _=>AM rfl Bj Cf (vl rfl) rfl rfl) ?_
 refine xo rfl (fun _=>oD) (xo rfl (fun _=>AM rfl Bj Cf (vl rfl) rfl rfl) (xo rfl (fun _=>AM rfl Bj Cf (vl rfl) rfl rfl) (xo rfl (fun _=>EB (Fq) rfl rfl rfl) (xo rfl (fun _=>EB (Fq) rfl rfl rfl) (xo rfl (fun _=>oD) ?_)))))
 iterate 4 refine xo rfl (fun _=>AM rfl Bj Cf (vl rfl) rfl rfl) ?_
 refine xo rfl (fun _=>oD) (xo rfl (fun _=>EB (Fq) rfl rfl rfl) (xo rfl (fun _=>AM rfl Bj Cf (vl rfl) rfl rfl) (xo rfl (fun _=>AM rfl Bj Cf (vl rfl) rfl rfl) (xo rfl (fun _=>AM rfl Bj Cf (vl rfl) rfl rfl) (xo rfl (fun _=>oD) ?_)))))
 iterate 4 refine xo rfl (fun _=>AM rfl Bj Cf (vl rfl) rfl rfl) ?_
 refine xo rfl (fun _=>oD) ?_
 iterate 4 refine xo rfl (fun _=>AM rfl Bj Cf (vl rfl) rfl rfl) ?_
 refine xo rfl (fun _=>oD) ?_
 iterate 4 refine xo rfl (fun _=>AM rfl Bj Cf (vl rfl) rfl rfl) ?_
 refine xo rfl (fun _=>oD) ?_
 iterate 4 refine xo rfl (fun _=>AM rfl Bj Cf (vl rfl) rfl rfl) ?_
 refine xo rfl (fun _=>oD) (xo rfl (fun _=>EB (Fq) rfl rfl rfl) (xo rfl (fun _=>AM rfl Bj Cf (vl rfl) rfl rfl) (xo rfl (fun _=>AM rfl Bj Cf (vl rfl) rfl rfl) (xo rfl (fun _=>AM rfl Bj Cf (vl rfl) rfl rfl) (xo rfl (fun _=>oD) (Cx.ef 0 rfl rfl (by decide) (R3 (xs:=[.tmp 35,.tmp 40,.tmp 45,.tmp 50,.tmp 55,.tmp 60,.tmp 65,.tmp 70,.tmp 75,.tmp 80,.tmp 85,.tmp 90,.tmp 95,.tmp 100,.tmp 105,.tmp 110]) (rows:=B8) rfl rfl (by decide) rfl rfl underlying180 JH z157 rfl (by decide) ⟨⟨(by exact rfl),VL.le (vl rfl) (Pr.le_trans (Bz rfl) (AV _))⟩,⟨⟨(by exact rfl),VL.le (vl rfl) (Pr.le_trans (Bz rfl) (AV _))⟩,⟨⟨(by exact rfl),VL.le (vl rfl) (Pr.le_trans (Bz rfl) (AV _))⟩,⟨⟨(by exact rfl),VL.le (vl rfl) (Pr.le_trans (Bz rfl) (AV _))⟩,⟨⟨(by exact rfl),VL.le (vl rfl) (Pr.le_trans (Bz rfl) (AV _))⟩,⟨⟨(by exact rfl),VL.le (vl rfl) (Pr.le_trans (Bz rfl) (AV _))⟩,⟨⟨(by exact rfl),VL.le (vl rfl) (Pr.le_trans (Bz rfl) (AV _))⟩,⟨⟨(by exact rfl),VL.le (vl rfl) (Pr.le_trans (Bz rfl) (AV _))⟩,⟨⟨(by exact rfl),VL.le (vl rfl) (Pr.le_trans (Bz rfl) (AV _))⟩,⟨⟨(by exact rfl),VL.le (vl rfl) (Pr.le_trans (Bz rfl) (AV _))⟩,⟨⟨(by exact rfl),VL.le (vl rfl) (Pr.le_trans (Bz rfl) (AV _))⟩,⟨⟨(by exact rfl),VL.le (vl rfl) (Pr.le_trans (Bz rfl) (AV _))⟩,⟨⟨(by exact rfl),VL.le (vl rfl) (Pr.le_trans (Bz rfl) (AV _))⟩,⟨⟨(by exact rfl),VL.le (vl rfl) (Pr.le_trans (Bz rfl) (AV _))⟩,⟨⟨(by exact rfl),VL.le (vl rfl) (Pr.le_trans (Bz rfl) (AV _))⟩,⟨⟨(by exact rfl),VL.le (vl rfl) (Pr.le_trans (Bz rfl) (AV _))⟩,trivial⟩⟩⟩⟩⟩⟩⟩⟩⟩⟩⟩⟩⟩⟩⟩⟩ (by decide) (by decide)) ?_))))))
 refine Cx.ef 0 rfl rfl (by decide) (MO rfl rfl (by decide) rfl (vl rfl)) ?_
 refine Cx.nil ⟨by kernel_rfl,?_⟩
 refine BH.open_ 0 15 rfl rfl (fun v1=> ?_)
 refine BH.done nT (Fin.go (Fl 15 rfl (Tr.seq (Tr.seq (Tr.KO 0 rfl fun b15 qG qX oX oY oZ oa=> ?_)))))
 subst oX
 refine ac ?_
 refine co rfl (Hr rfl underlying180 (Ka rfl)) ?_
 refine ac ?_
 refine Tr.block (Tr.BK [(15,_),(113,_)] (cX rfl) (fun k:Nat=>[(114,int ((k:Nat):Int))]) (fun k:Nat=>k≤(B8.length)) (fun k:Nat=>(B8.length)-k) 0 (Nat.zero_le _) ⟨ke rfl,trivial⟩ ?_)
 rintro k BO
 refine ac ?_
 refine Tr.seq ?_
 refine Tr.cn rfl ?_ ?_<;>intro h1 q1
 have Ad:k<(B8.length):=AQ h1
 have og:k<16:=Ad
 refine a2 ?_
 refine Tr.Az (tm rfl (tm rfl (tm rfl ?_)))
 refine tp rfl (C4 rfl (vl rfl) (vl rfl) ?hin) ?_;case hin=>unfold HS;omega
 refine tp rfl (BP rfl underlying180 JH (Ka rfl) (vl rfl) (by omega) (by omega)) (tp rfl (AO rfl Wu (vl rfl)) ?_)
 refine TO.E3 0 rfl rfl (BI rfl rfl (vl rfl) (VL.le (vl rfl) (XC _)) C8 rfl (by rw [List.length_append,Bv Q3];show _≤16*12+_;omega) (XD (aT og (by omega)))) ?_
 refine TO.nil ?_
 refine a2 ?_
 exact Fin.AP (k+1) ⟨Ad,by omega⟩ ⟨⟨_,rfl,AF k⟩,ke rfl,ke rfl,trivial⟩
 have BF:k=(B8.length):=by have:=AR h1;omega
 subst BF
 refine ac ?_
 refine Tr.seq ?_
 refine Tr.PD (sz:=12) B8 0 15 rfl rfl (D6 _ _) Q3 oY oZ (by rw [List.length_map];exact oa) ?_
 refine a2 ?_
 · exact Aj _ _
theorem XM {code:Int}  :A7 prog 126 [int code] (IM [agg Bw,int (if 1≤code∧code≤16 then 0 else 8)]):=by
 refine fo func126 rfl ⟨rfl,rfl⟩ fun M0 w0=> ?_
 have hL:B8.length=16:=rfl
 refine Tr.seq (Tr.Az ?_)
 refine Tl rfl rfl rfl rfl z157 Qs (fun b1=> ?_)
 refine ap ?_
 refine Tr.seq (Tr.Ai (co rfl (nR (UW) rfl) ?_))
 refine ac ?_
 refine ag ?_ ?_<;>intro h1 q1
 refine ac ?_
 refine Tr.cond rfl (fun _=> ?_) (fun h=>nomatch h)
 refine Tr.seq (Tr.Az (tp rfl (Ab (rows:=[]) rfl Yg Qs trivial rfl) (TO.At 0 rfl rfl rfl (vl rfl) (Va rfl) rfl JH rfl rfl (tm rfl (TO.nil (Fin.go (EZ 2 3 rfl (Tr.ret (Fin.AE (Fin.KF rfl (BE.cell 0 rfl rfl Md JH rfl (Lr)) (BE.tmp rfl (Lr)) ?_))))))))))
 · exact ET ⟨Bz rfl,int_eq (by rw [if_neg];simp_all;omega),trivial⟩
 refine ac ?_
 refine cy h1 rfl (Br rfl underlying180 (vl rfl)) ?_
 refine an ?_ ?_<;>intro h2 q2
 refine ap ?_
 refine EZ 2 3 rfl (Tr.ret (Fin.AE (Fin.KF rfl (BE.cell 0 rfl rfl Md JH rfl (Lr)) (BE.tmp rfl (Lr)) ?_)))
 · exact ET ⟨Bz rfl,int_eq (by rw [if_neg];simp_all),trivial⟩
 have hin:1≤code∧code≤16:=by omega
 refine ac ?_
 refine ap ?_
 refine tp rfl (AA rfl underlying180 JH (vl rfl) (vl rfl) (by omega) (UT (by omega))) ?_
 refine ap ?_
 refine EZ 2 3 rfl (Tr.ret (Fin.KF rfl (BE.cell 0 rfl rfl Md JH rfl (Lr)) (BE.tmp rfl (Lr)) ?_))
 · exact ET ⟨Lr,int_eq (by rw [if_pos hin]),trivial⟩
theorem XN {BB bits id:Int} {l:List GW} (hf:∀c∈l,c.fits):A7 prog 96 [agg [int BB,int bits],int id,Np l] (bool (Mo BB bits id l)):=by
 refine fo func96 rfl ⟨rfl,rfl⟩ fun M0 w0=>(Tr.EF 2 rfl fun qH=> ?_)
 refine a2 ?_
 refine co rfl (Ca (Mn) rfl rfl) ?_
 refine ag ?_ ?_<;>intro h1 q1
 refine ac ?_
 refine FO 1 2 3 27 rfl ?_
 refine a2 ?_
 · refine bool_eq ?_;rw [DR];unfold Ji;simp_all;omega
 refine ac ?_
 refine cy h1 rfl (Ca (PN) rfl rfl) ?_
 refine ag ?_ ?_<;>intro h2 q2
 refine ac ?_
 refine FO 1 2 3 27 rfl ?_
 refine a2 ?_
 · refine bool_eq ?_;rw [DR];unfold Ji;simp_all
 refine Lb h2 rfl (cy h2 rfl (Ca (PV) rfl rfl) ?_)
 refine ag ?_ ?_<;>intro h3 q3
 refine ac ?_
 refine FO 1 2 3 27 rfl ?_
 refine a2 ?_
 · refine bool_eq ?_;rw [DR];unfold Ji;simp_all
 refine ac ?_
 refine FO 1 2 3 27 rfl ?_
 refine Tr.cn rfl ?_ ?_<;>intro h4 q4
 refine a2 ?_
 · refine bool_eq ?_;rw [DR];unfold Ji;simp_all;omega
 refine a2 ?_
 refine Tr.block (Tr.BK [(1,_),(2,_),(3,_),(28,_),(29,_)] (l_ rfl) (fun k:Nat=>[(30,int ((k:Nat):Int))]) (fun k:Nat=>k≤(l).length∧(∀j y,j<k→l[j]? =some y→(!CK y)=false)) (fun k:Nat=>(l).length-k) 0 (⟨Nat.zero_le _,fun j y hj=>absurd hj (by omega)⟩) ⟨ke rfl,trivial⟩ ?_)
 rintro k ⟨BO,AJ⟩
 refine ac ?_
 refine Tr.seq ?_
 refine Tr.cn rfl ?_ ?_<;>intro h5 q5
 have Ad:k<(l).length:=AQ h5
 obtain ⟨c,Ac⟩:=at_ Ad
 have hcf:=hf c (List.mem_of_getElem? Ac)
 refine ac ?_
 refine Tr.seq (Tr.block (Tr.seq (Tr.Az (tp rfl (AA rfl underlying58 Dj (vl rfl) (vl rfl) (by omega) (by exact Ah (by assumption))) ?_))))
 refine tp rfl (AM rfl FQ Dj (vl rfl) rfl rfl) ?_
 refine Tl rfl rfl rfl rfl z107 KK (fun b1=> ?_)
 refine sf 0 8 ⟨rfl,rfl,rfl⟩ rfl rfl rfl rfl ?_
 refine ao ?_
 · repeat' first|(refine bool_eq ?_;rw [DR];unfold Ji;rw [Hv (p:=CK) Ac (by simp_all)];simp)|exact Fin.AP (k+1) ⟨⟨Ad,Cm (p:=fun c=> !CK c) Ac (by simp_all) AJ⟩,by omega⟩ ⟨⟨_,rfl,AF k⟩,ke rfl,ke rfl,ke rfl,ke rfl,ke rfl,trivial⟩|refine co rfl (Ca (US hcf) rfl rfl) ?_|refine ac ?_|(refine Tr.cn rfl ?_ ?_<;>intro h q)
 have BF:k=(l).length:=by have:=AR h5;omega
 subst BF
 have hall:=FV AJ
 refine ac ?_
 refine ag ?_ ?_<;>intro h7 q7
 refine ac ?_
 refine Fl 6 rfl ?_
 refine ac ?_
 · refine bool_eq ?_;rw [DR];unfold Ji;rw [hall,R7 (by simp_all)];simp_all
 obtain ⟨c0,hc0⟩:=at_ (l:=l) (k:=0) (by have:=h7;simp at this;exact List.length_pos_iff.2 this)
 refine Lb h7 rfl ?_
 refine cy h7 rfl (AA rfl underlying58 Dj (vl rfl) (vl rfl) (by omega) (Ah (k:=0) hc0)) ?_
 refine ac ?_
 refine cy h7 rfl (XG rfl (vl rfl) (vl rfl)) (Lb h7 rfl ?_)
 refine Ch.cs 48 rfl ?_ ?_<;>intro h8 q8
 refine Lb h8 rfl ?_
 refine cy h8 rfl (AA rfl underlying58 Dj (vl rfl) (vl rfl) (by omega) (Ah (k:=0) hc0)) ?_
 refine ac ?_
 refine Fl 6 rfl ?_
 refine ac ?_
 · refine bool_eq ?_;rw [DR];unfold Ji;rw [hall,Nr hc0];clear hall AJ hf hc0;simp_all;omega
 refine ac ?_
 refine Fl 6 rfl ?_
 refine ac ?_
 · refine bool_eq ?_;rw [DR];unfold Ji;rw [hall,Nr hc0];clear hall AJ hf hc0;simp_all
theorem Lv {l:List Int}  :A7 prog 95 [ints l] (bool (PU l)):=by
 refine fo func95 rfl ⟨rfl,rfl⟩ fun M0 w0=>(Tr.EF 0 rfl fun Fp=> ?_)
 refine a2 ?_
 refine Tr.block (Tr.BK [(0,_),(5,_)] (cX rfl) (fun k:Nat=>[(6,int ((k:Nat):Int))]) (fun k:Nat=>k≤(l).length∧(∀j,j<k→Lu l j=true)) (fun k:Nat=>(l).length-k) 0 (⟨Nat.zero_le _,fun j hj=>absurd hj (by omega)⟩) ⟨ke rfl,trivial⟩ ?_)
 rintro k ⟨BO,AJ⟩
 refine ac ?_
 refine Tr.seq ?_
 refine Tr.cn rfl ?_ ?_<;>intro h1 q1
 have Ad:k<(l).length:=AQ h1
 obtain ⟨x,Ac⟩:=at_ Ad
 have hg:=getD_at (d:=(0:Int)) Ac
 refine a2 ?_
 refine ag ?_ ?_<;>intro h2 q2
 have hk0:0<k:=by simpa using h2
 obtain ⟨y,hy⟩:=at_ (l:=l) (k:=k-1) (by omega)
 have Oo:=getD_at (d:=(0:Int)) hy
 · repeat' first|(refine bool_eq ?_;unfold PU;exact (CY (p:=Lu l) (k:=k) (by omega) (by unfold Lu;rw [hg,Oo];simp_all;omega)).symm)|(exact Fin.AP (k+1) ⟨⟨Ad,B4 AJ (by unfold Lu;rw [hg,Oo];simp_all)⟩,by omega⟩ ⟨⟨_,rfl,AF k⟩,ke rfl,ke rfl,trivial⟩)|(refine cy h2 rfl (AA rfl underlying22 C8 (vl rfl) (vl rfl) (by omega) (by rw [show ((k:Nat):Int)-1=((k-1:Nat):Int) by omega];exact Ah hy)) ?_)|refine cy h2 rfl (AA rfl underlying22 C8 (vl rfl) (vl rfl) (by omega) (Ah Ac)) ?_|refine ac ?_|(refine Tr.cn rfl ?_ ?_<;>intro h q)
 refine ac ?_
 refine FO 0 5 6 22 rfl ?_
 refine a2 ?_
 exact Fin.AP (k+1) ⟨⟨Ad,B4 AJ (by unfold Lu;rw [hg];simp_all)⟩,by omega⟩ ⟨⟨_,rfl,AF k⟩,ke rfl,ke rfl,trivial⟩
 have BF:k=(l).length:=by have:=AR h1;omega
 subst BF
 refine a3 ?_
 · refine bool_eq ?_;unfold PU;exact (Ht AJ).symm
theorem aU {n:Int}  :A7 prog 100 [int n] (bool (Kj n)):=by
 refine fo func100 rfl ⟨rfl,rfl⟩ fun M0 w0=> ?_
 refine a2 ?_
 refine co rfl (Ca (PN) rfl rfl) ?_
 refine a2 ?_
 · exact Lr
theorem e_hash:Entry Tryz.prog 100:=⟨_,Tryz.func100,rfl,rfl⟩
theorem UX {l:List Int}  :A7 prog 94 [ints l] (bool (FY l)):=by
 refine fo func94 rfl ⟨rfl,rfl⟩ fun M0 w0=>(Tr.EF 0 rfl fun Fp=> ?_)
 refine a2 ?_
 refine Tr.block (Tr.BK [(0,_),(7,_),(8,_)] (LK rfl) (fun k:Nat=>[(9,int ((k:Nat):Int))]) (fun k:Nat=>k≤(l).length∧(∀j,j<k→FX l j=true)) (fun k:Nat=>(l).length-k) 0 (⟨Nat.zero_le _,fun j hj=>absurd hj (by omega)⟩) ⟨ke rfl,trivial⟩ ?_)
 rintro k ⟨BO,AJ⟩
 refine ac ?_
 refine Tr.seq ?_
 refine Tr.cn rfl ?_ ?_<;>intro h1 q1
 have Ad:k<(l).length:=AQ h1
 obtain ⟨x,Ac⟩:=at_ Ad
 have hg:=getD_at (d:=(0:Int)) Ac
 refine a2 ?_
 refine co rfl (AA rfl underlying22 C8 (vl rfl) (vl rfl) (by omega) (by exact Ah (by assumption))) ?_
 refine ac ?_
 refine ao ?_
 refine tp rfl (Ca (XM) rfl rfl) ?_
 refine ao ?_
 refine Tl rfl rfl rfl rfl z157 Qs (fun b1=> ?_)
 refine sf 0 5 ⟨rfl,rfl,rfl⟩ rfl rfl rfl rfl ?_
 refine ao ?_
 refine S1 0 3 4 6 7 8 9 rfl ?_
 refine ag ?_ ?_<;>intro h2 q2
 have oh:¬(1≤x∧x≤16):=by intro hh;rw [if_pos hh] at h2;exact absurd h2 (by decide)
 refine ac ?_
 refine JD 0 7 8 9 27 rfl ?_
 refine a2 ?_
 · refine bool_eq ?_;unfold FY;exact (CY (p:=FX l) (k:=k) (by omega) (by unfold FX;rw [hg];rw [decide_eq_false oh];rfl)).symm
 have hin:1≤x∧x≤16:=by refine Decidable.byContradiction fun hh=> ?_;rw [if_neg hh] at h2;exact absurd h2 (by decide)
 refine ac ?_
 refine cy h2 rfl (FT rfl underlying22 C8 (vl rfl) (vl rfl) (by omega) (by simp;omega)) ?_
 refine Lb h2 rfl ?_
 · repeat' first|(refine bool_eq ?_;unfold FY;exact (CY (p:=FX l) (k:=k) (by omega) (by unfold FX;rw [hg];rw [decide_eq_true hin];simp_all)).symm)|(exact Fin.AP (k+1) ⟨⟨Ad,B4 AJ (by unfold FX;rw [hg];rw [decide_eq_true hin];simp_all)⟩,by omega⟩ ⟨⟨_,rfl,AF k⟩,ke rfl,ke rfl,ke rfl,trivial⟩)|refine cy h2 rfl (Ag rfl (Ef (l:=l.take k) (v:=x)) ⟨⟨_,rfl,Pr.le_of_eq (by rw [←List.map_take,Int.toNat_natCast])⟩,ke rfl,trivial⟩) ?_|refine ac ?_|(refine Tr.cn rfl ?_ ?_<;>intro h q)
 have BF:k=(l).length:=by have:=AR h1;omega
 subst BF
 refine a3 ?_
 · refine bool_eq ?_;unfold FY;exact (Ht AJ).symm
theorem aV {p:Int→Bool} {n:Int}  :A7 prog 98 [int n,ref [Oq prog (fun x:Int=>[int x]) (fun x=>bool (p x))]] (bool (!p n)):=by
 refine fo func98 rfl ⟨rfl,rfl⟩ fun M0 w0=> ?_
 refine a2 ?_
 refine co rfl (EP n rfl (vl rfl) ⟨ke rfl,trivial⟩) ?_
 refine a2 ?_
 · exact Lr
theorem aW:Entry Tryz.prog 98:=⟨_,Tryz.func98,rfl,rfl⟩
theorem iS {p:Int→Bool}  :A7 prog 97 [Oq prog (fun x:Int=>[int x]) (fun x=>bool (p x))] (Oq prog (fun x:Int=>[int x]) (fun x=>bool (!p x))):=by
 refine fo func97 rfl ⟨rfl,rfl⟩ fun M0 w0=> ?_
 refine a3 ?_
 · exact Bt aW (fun x=>aV (p:=p) (n:=x))
theorem iT:Entry Tryz.prog 97:=⟨_,Tryz.func97,rfl,rfl⟩
theorem UY {e:Eg} (hf:e.fits):A7 prog 70 [agg (Cu e)] (int (if Ge e then 0 else 19)):=by
 refine fo func70 rfl ⟨rfl,rfl⟩ fun M0 w0=> ?_
 refine a2 ?_
 refine co rfl (Ca (aQ hf.name) rfl rfl) ?_
 refine ag ?_ ?_<;>intro h1 q1
 refine ac ?_
 refine EZ 1 32 rfl ?_
 refine a2 ?_
 · refine int_eq ?_;unfold Ge;simp_all
 refine ag ?_ ?_<;>intro h2 q2
 refine ac ?_
 refine EZ 1 32 rfl ?_
 refine a2 ?_
 · refine int_eq ?_;unfold Ge;simp_all;omega
 refine ag ?_ ?_<;>intro h3 q3
 refine ac ?_
 refine EZ 1 32 rfl ?_
 refine a2 ?_
 · refine int_eq ?_;unfold Ge;simp_all;omega
 refine ag ?_ ?_<;>intro h4 q4
 refine ac ?_
 refine EZ 1 32 rfl ?_
 refine a2 ?_
 · refine int_eq ?_;unfold Ge;simp_all;omega
 refine ac ?_
 refine cy h4 rfl (Ca (UX) rfl rfl) ?_
 refine ac ?_
 refine EZ 1 32 rfl ?_
 refine Tr.cn rfl ?_ ?_<;>intro h5 q5
 refine a2 ?_
 · refine int_eq ?_;unfold Ge;simp_all
 refine ac ?_
 refine ag ?_ ?_<;>intro h6 q6
 refine ac ?_
 refine EZ 1 54 rfl ?_
 refine a2 ?_
 · refine int_eq ?_;unfold Ge;simp_all;omega
 refine ag ?_ ?_<;>intro h7 q7
 refine ac ?_
 refine EZ 1 54 rfl ?_
 refine a2 ?_
 · refine int_eq ?_;unfold Ge;simp_all;omega
 refine ac ?_
 refine cy h7 rfl (Ca (Lv) rfl rfl) ?_
 refine ag ?_ ?_<;>intro h8 q8
 refine ac ?_
 refine EZ 1 54 rfl ?_
 refine a2 ?_
 · refine int_eq ?_;unfold Ge;simp_all
 refine ac ?_
 refine cy h8 rfl (Ca (Lv) rfl rfl) ?_
 refine ac ?_
 refine EZ 1 54 rfl ?_
 refine Tr.cn rfl ?_ ?_<;>intro h9 q9
 refine a2 ?_
 · refine int_eq ?_;unfold Ge;simp_all
 refine a2 ?_
 refine Tr.block (Tr.BK [(1,_),(56,_),(57,_)] (LK rfl) (fun k:Nat=>[(58,int ((k:Nat):Int))]) (fun k:Nat=>k≤(e.ids).length∧(∀j y,j<k→e.ids[j]? =some y→(!XL y)=false)) (fun k:Nat=>(e.ids).length-k) 0 (⟨Nat.zero_le _,fun j y hj=>absurd hj (by omega)⟩) ⟨ke rfl,trivial⟩ ?_)
 rintro k ⟨BO,AJ⟩
 refine ac ?_
 refine Tr.seq ?_
 refine Tr.cn rfl ?_ ?_<;>intro h10 S6
 have Ad:k<(e.ids).length:=AQ h10
 obtain ⟨x,Ac⟩:=at_ Ad
 have om:=hf.ids x (List.mem_of_getElem? Ac)
 refine ac ?_
 refine Tr.seq (Tr.block (Tr.seq (Tr.Az (tp rfl (AA rfl underlying72 NY (vl rfl) (vl rfl) (by omega) (by exact Ah (by assumption))) ?_))))
 refine tp rfl (AM rfl Qq NY (vl rfl) rfl rfl) ?_
 refine Tl rfl rfl rfl rfl eo Wc (fun b1=> ?_)
 refine sf 0 4 ⟨rfl,rfl,rfl⟩ rfl rfl rfl rfl ?_
 refine ao ?_
 · repeat' first|(refine int_eq ?_;unfold Ge;rw [Hv (p:=XL) Ac (by unfold XL;simp_all)];simp)|(exact Fin.AP (k+1) ⟨⟨Ad,Cm (p:=fun c=> !XL c) Ac (by unfold XL;simp_all) AJ⟩,by omega⟩ ⟨⟨_,rfl,AF k⟩,ke rfl,ke rfl,ke rfl,trivial⟩)|refine co rfl (nS (XN om) rfl rfl rfl rfl) ?_|refine ac ?_|(refine Tr.cn rfl ?_ ?_<;>intro h q)
 have BF:k=(e.ids).length:=by have:=AR h10;omega
 subst BF
 have hall:=FV AJ
 refine a2 ?_
 refine Tr.seq (Tr.seq (Tr.re 5 rfl (Bt (dom:=fun p:Int→Bool=>[Oq prog (fun x:Int=>[int x]) (fun x=>bool (p x))]) (res:=fun p=>Oq prog (fun x:Int=>[int x]) (fun x=>bool (!p x))) iT (fun p=>iS (p:=p))) ?_))
 refine ac ?_
 refine co rfl (EP Gd rfl (vl rfl) ⟨⟨_,rfl,Bt (dom:=fun n:Int=>[int n]) (res:=fun n=>bool (Gd n)) aR (fun n=>PV (n:=n))⟩,trivial⟩) ?_
 refine co rfl (EB (B5 (l:=e.anchors) (p:=fun n=> !Gd n)) rfl rfl rfl) ?_
 refine cm rfl ?_
 · repeat' first|(refine int_eq ?_;unfold Ge;rw [if_neg];intro hh;simp only [Bool.and_eq_true] at hh;have g1:=hh.1.2;have g2:=hh.2;clear hh AJ hf hall;simp only [Q1,g1,g2,Bool.not_true,Bool.false_eq_true] at*)|(refine int_eq ?_;unfold Ge;simp_all;omega)|refine cy h rfl (EP Kj rfl (vl rfl) ⟨⟨_,rfl,Bt (dom:=fun n:Int=>[int n]) (res:=fun n=>bool (Kj n)) e_hash (fun n=>aU (n:=n))⟩,trivial⟩) ?_|refine cy h rfl (EB (B5 (l:=e.hashes) (p:=fun n=> !Kj n)) rfl rfl rfl) ?_|refine ac ?_|(refine Tr.cn rfl ?_ ?_<;>intro h q)|(refine Ch.cg rfl rfl rfl ?_ ?_<;>intro h q)
theorem Hw {β γ:Type} {f:β→γ} {l:List β} (h:l≠[]):0<(l.map f).length:=by rw [List.length_map];exact List.length_pos_iff.2 h
theorem R8 {l:List (Int)} (h0:l≠[]) (hl:l.length≤1000000):A9 prog 50 [slice 1 (l.map (fun n:Int=>[int n]))] (lens (l.map (fun n:Int=>[int n])).length) (BA) (fun v=>CC 3 1 (l.map (fun n:Int=>[int n])) v):=by
 refine A9.of func50 rfl rfl (by exact Nb rfl) fun M0 w0 S rs M1 w1=> ?_
 have hpos:=Hw (f:=(fun n:Int=>[int n])) h0
 refine a2 ?_
 refine co rfl (DY rfl underlying22 (vl rfl)) ?_
 refine ac ?_
 refine Tr.ex 4 rfl (fun z1=>Tr.fact 4 rfl fun Gj=> ?_)
 refine Tr.cn rfl ?_ ?_<;>intro h1 q1
 exfalso;have:=Gj h1;simp_all
 refine ac ?_
 refine ap ?_
 refine TO.pad ?_
 refine TO.Es 0 rfl rfl (by decide) (FU rfl rfl (by decide) rfl underlying22 C8 V9 z3 rfl (by decide) (by decide) (vl rfl) (vl rfl) hpos (by rw [List.length_map];unfold maxLen;omega) (by rw [List.length_map];omega)) (fun v1=> ?_)
 refine ap ?_
 refine Tr.ret (Fin.drop 1 ?_)
 refine Fin.D7 rfl rfl ?_ (by intro _ _ _ h;rw [h.1])
 · exact Aj _ _
theorem R9   :A7 prog 50 [slice 1 []] (full 1 []):=by
 refine fo func50 rfl ⟨rfl,rfl⟩ fun M0 w0=> ?_
 refine a2 ?_
 refine co rfl (DY rfl underlying22 (vl rfl)) ?_
 refine ac ?_
 refine Tr.ex 4 rfl (fun z1=>Tr.fact 4 rfl fun Gj=> ?_)
 · repeat' first|exact ES 1|exact Lr|refine co rfl (Hu rfl underlying22 C8 (vl rfl) (vl rfl)) ?_|refine ac ?_|(refine Tr.cn rfl ?_ ?_<;>intro h q)
theorem R_ {l:List (Int)} (hl:l.length≤1000000):A9 Tryz.prog 50 [slice 1 (l.map (fun n:Int=>[int n]))] (lens l.length) BA (fun v=>Bl 3 1 (l.map (fun n:Int=>[int n])) v):=by
 by_cases h0:l=[]
 · subst h0;exact A9.Nj R9
 ·
  have:=A9.Kc (by intro h;exact h0 (by simpa using h)) (R8 h0 hl)
  rwa [List.length_map] at this
theorem SA {l:List (GW)} (h0:l≠[]) (hl:l.length≤925904528640):A9 prog 107 [slice 15 (l.map Dl)] (lens (l.map Dl).length) (BA) (fun v=>CC 107 15 (l.map Dl) v):=by
 refine A9.of func107 rfl rfl (by exact Nb rfl) fun M0 w0 S rs M1 w1=> ?_
 have hpos:=Hw (f:=Dl) h0
 refine a2 ?_
 refine co rfl (DY rfl underlying58 (vl rfl)) ?_
 refine ac ?_
 refine Tr.ex 4 rfl (fun z1=>Tr.fact 4 rfl fun Gj=> ?_)
 refine Tr.cn rfl ?_ ?_<;>intro h1 q1
 exfalso;have:=Gj h1;simp_all
 refine ac ?_
 refine ap ?_
 refine TO.pad ?_
 refine TO.Es 0 rfl rfl (by decide) (FU rfl rfl (by decide) rfl underlying58 Dj fD z107 rfl (by decide) (by decide) (vl rfl) (vl rfl) hpos (by rw [List.length_map];unfold maxLen;omega) (by rw [List.length_map];omega)) (fun v1=> ?_)
 refine ap ?_
 refine Tr.ret (Fin.drop 1 ?_)
 refine Fin.D7 rfl rfl ?_ (by intro _ _ _ h;rw [h.1])
 · exact Aj _ _
theorem SB   :A7 prog 107 [slice 15 []] (full 15 []):=by
 refine fo func107 rfl ⟨rfl,rfl⟩ fun M0 w0=> ?_
 refine a2 ?_
 refine co rfl (DY rfl underlying58 (vl rfl)) ?_
 refine ac ?_
 refine Tr.ex 4 rfl (fun z1=>Tr.fact 4 rfl fun Gj=> ?_)
 · repeat' first|exact ES 15|exact Lr|refine co rfl (Hu rfl underlying58 Dj (vl rfl) (vl rfl)) ?_|refine ac ?_|(refine Tr.cn rfl ?_ ?_<;>intro h q)
theorem SC {l:List (GW)} (hl:l.length≤925904528640):A9 Tryz.prog 107 [slice 15 (l.map Dl)] (lens l.length) BA (fun v=>Bl 107 15 (l.map Dl) v):=by
 by_cases h0:l=[]
 · subst h0;exact A9.Nj SB
 ·
  have:=A9.Kc (by intro h;exact h0 (by simpa using h)) (SA h0 hl)
  rwa [List.length_map] at this
theorem SD {l:List (List UInt8)} (h0:l≠[]) (hl:l.length≤8796093022208):A9 prog 108 [slice 1 (l.map (fun t:List UInt8=>[str t]))] (lens (l.map (fun t:List UInt8=>[str t])).length) (BA) (fun v=>CC 9 1 (l.map (fun t:List UInt8=>[str t])) v):=by
 refine A9.of func108 rfl rfl (by exact Nb rfl) fun M0 w0 S rs M1 w1=> ?_
 have hpos:=Hw (f:=(fun t:List UInt8=>[str t])) h0
 refine a2 ?_
 refine co rfl (DY rfl underlying67 (vl rfl)) ?_
 refine ac ?_
 refine Tr.ex 4 rfl (fun z1=>Tr.fact 4 rfl fun Gj=> ?_)
 refine Tr.cn rfl ?_ ?_<;>intro h1 q1
 exfalso;have:=Gj h1;simp_all
 refine ac ?_
 refine ap ?_
 refine TO.pad ?_
 refine TO.Es 0 rfl rfl (by decide) (FU rfl rfl (by decide) rfl underlying67 MU by9 z9 rfl (by decide) (by decide) (vl rfl) (vl rfl) hpos (by rw [List.length_map];unfold maxLen;omega) (by rw [List.length_map];omega)) (fun v1=> ?_)
 refine ap ?_
 refine Tr.ret (Fin.drop 1 ?_)
 refine Fin.D7 rfl rfl ?_ (by intro _ _ _ h;rw [h.1])
 · exact Aj _ _
theorem SE   :A7 prog 108 [slice 1 []] (full 1 []):=by
 refine fo func108 rfl ⟨rfl,rfl⟩ fun M0 w0=> ?_
 refine a2 ?_
 refine co rfl (DY rfl underlying67 (vl rfl)) ?_
 refine ac ?_
 refine Tr.ex 4 rfl (fun z1=>Tr.fact 4 rfl fun Gj=> ?_)
 · repeat' first|exact ES 1|exact Lr|refine co rfl (Hu rfl underlying67 MU (vl rfl) (vl rfl)) ?_|refine ac ?_|(refine Tr.cn rfl ?_ ?_<;>intro h q)
theorem SF {l:List (List UInt8)} (hl:l.length≤8796093022208):A7 Tryz.prog 108 [slice 1 (l.map (fun t:List UInt8=>[str t]))] (slice 1 (l.map (fun t:List UInt8=>[str t]))):=by
 by_cases h0:l=[]
 · subst h0;exact A7.le SE (fun _ _ _ h=>h) (Al _ _)
 · exact (A9.gC (rows:=(l.map (fun t:List UInt8=>[str t]))) (BQ fun _=>rfl) (SD h0 hl)).pure
structure Q0.small (x:Q0):Prop where
 chain:x.chain.length≤925904528640
 names:∀c∈x.chain,c.names.length≤8796093022208
theorem UZ {x:Q0} (hx:x.small):A7 prog 78 [agg (Nq x)] (agg (Nq x)):=by
 refine fo func78 rfl ⟨rfl,rfl⟩ fun M0 w0=> ?_
 have hch:=hx.chain
 refine Tr.seq (Tr.Az ?_)
 refine TO.O3 rfl rfl (by decide) rfl (Va rfl) (fun b1=> ?_)
 refine Tl rfl rfl rfl rfl eo Wc (fun b2=> ?_)
 refine ao ?_
 refine ao ?_
 refine TO.pad ?_
 refine TO.Es 0 rfl rfl (by decide) (GS rfl rfl (by decide) rfl (SC (l:=x.chain) (by omega)) ⟨ke rfl,trivial⟩) (fun v1=> ?_)
 refine tp rfl (AO rfl Th (vl rfl)) (TO.E3 2 rfl rfl (BI rfl rfl (vl rfl) (Vo rfl) mJ rfl (by exact Nb rfl) rfl) ?_)
 refine ao ?_
 refine ac ?_
 refine co rfl (CH 0 rfl (XE rfl underlying58 (Ka rfl))) ?_
 refine ac ?_
 refine Tr.block (Tr.re 11 rfl (int_eq (by rw [List.length_map])) (Tr.BK [(1,_),(2,_),(10,_),(11,_)] (jy rfl) (fun k:Nat=>[(12,int ((k:Nat):Int))]) (fun k:Nat=>k≤(x.chain).length) (fun k:Nat=>(x.chain).length-k) 0 (Nat.zero_le _) ⟨ke rfl,trivial⟩ ?_))
 rintro k BO
 refine ac ?_
 refine Tr.seq ?_
 refine Tr.cn rfl ?_ ?_<;>intro h1 q1
 have Ad:k<(x.chain).length:=AQ h1
 obtain ⟨c,Ac⟩:=at_ Ad
 have hcn:=hx.names c (List.mem_of_getElem? Ac)
 refine ac ?_
 refine ao ?_
 refine tp rfl (CH 0 rfl (Mk rfl underlying58 Dj (Ka rfl) (vl rfl) (by omega) (by rw [List.length_map];omega))) ?_
 refine tp rfl (CH 0 rfl (Rz rfl FQ Dj (vl rfl) (BQ fun _=>rfl) (by rw [Int.toNat_natCast,List.getElem?_map,Ac];rfl))) ?_
 refine Tl rfl rfl rfl rfl z107 KK (fun b3=> ?_)
 refine tm rfl ?_
 refine sf 0 4 ⟨rfl,rfl,rfl⟩ rfl rfl rfl rfl ?_
 refine ao ?_
 refine Tr.rx ?_
 refine ax ?_
 refine xo rfl (fun _=>Ca (SF hcn) rfl rfl) ?_
 refine Ie 0 rfl rfl (Mk rfl underlying58 Dj (Ka rfl) (vl rfl) (by omega) (by rw [List.length_map];omega)) ?_
 refine xo rfl (fun _=>PJ rfl Na (vl rfl)) ?_
 refine Cx.E3 0 rfl rfl (Ke rfl rfl (vl rfl) (Vo rfl) eu rfl (BQ fun _=>rfl) (by rw [Int.toNat_natCast,List.getElem?_map,Ac];rfl) (by decide) (T4 (f:=Dl) Ac rfl)) ?_
 refine Cx.nil ⟨by kernel_rfl,?_⟩
 refine BH.done al3 ?_
 refine ac ?_
 refine JD 1 2 10 11 12 rfl ?_
 refine ac ?_
 exact Fin.AP (k+1) ⟨Ad,by omega⟩ ⟨⟨_,rfl,AF k⟩,ke rfl,ke rfl,ke rfl,ke rfl,trivial⟩
 have BF:k=(x.chain).length:=by have:=AR h1;omega
 subst BF
 refine ac ?_
 refine Tr.seq (Tr.KZ 2 0 3 rfl rfl (by decide) rfl (D6 _ _) (BQ fun _=>rfl) ?_)
 refine ao ?_
 refine TO.At 1 rfl rfl rfl (vl rfl) (Va rfl) rfl NY rfl rfl ?_
 refine ao ?_
 refine Tr.drop 0 (Tr.drop 1 (Tr.ret (Fin.C2 rfl (BE.cell 0 rfl rfl Qq NY rfl (Lr)) ?_)))
 · exact Lr
structure Cb where
 Bm:Int
 kind:Int
 number:Int
 at_:Int
 JX:Q0
abbrev Io (c:Cb):List Pr:=[int c.Bm,int c.kind,int c.number,int c.at_,int c.JX.BB,int c.JX.bits,int c.JX.Da,Np c.JX.chain]
theorem T3.perm {P:Program} {f:FuncId} {args:List Pr} {pre post post':List Aa} {res:Pr} (h:T3 P f args pre res post) (hp:post.Perm post'):T3 P f args pre res post':=
 ⟨h.1,fun M0 w0 S rs M w vs hI hv=>(h.2 M0 w0 S rs M w vs hI hv).mono fun _e _w' ⟨v,M',x,h1,h2,h3,h4,h5⟩=>⟨v,M',x,h1,h2,h3,h4,An.perm (hp.append_right rs) h5⟩⟩
def Yv (x:Q0):Bool:=decide (x.BB=0∧x.bits=0)&&x.Da==0&&(((x.chain.length:Nat):Int)==0)
def iU (c:Cb):Bool:=if c.kind=1 then Yv c.JX else if c.kind=5 then c.number==0 else c.at_==0&&Yv c.JX
structure Eg.small (e:Eg):Prop where
 EV:e.EV.length≤1000000
 anchors:e.anchors.length≤1000000
 hashes:e.hashes.length≤1000000
 idl:e.ids.length≤1000000
 ids:∀x∈e.ids,x.small
theorem XO {c:Cb} (hx:c.JX.small):A7 prog 51 [agg (Io c)] (agg (Io c)):=by
 refine fo func51 rfl ⟨rfl,rfl⟩ fun M0 w0=>(Tr.seq (Tr.Az ?_))
 refine TO.O3 rfl rfl (by decide) rfl (Va rfl) (fun b1=> ?_)
 refine Tl rfl rfl rfl rfl Om Ma (fun b2=> ?_)
 refine ap ?_
 refine ap ?_
 refine tp rfl (Ca (UZ (x:=c.JX) hx) rfl rfl) ?_
 refine ap ?_
 refine ap ?_
 refine Tr.drop 1 (Tr.ret (Fin.C2 rfl (BE.cell 0 rfl rfl Lh Dg rfl (Lr)) ?_))
 · exact Lr
abbrev Bx (b:Nat) (s:DS):Aa:=NT 66 b s
theorem XP (n:Int) {k:Int} (hk:1≤k):(n.tmod k+k).tmod k=n % k:=by
 have h1: -k<n.tmod k:=by have:=Int.lt_tmod_of_pos n (b:=k) (by omega);omega
 rw [Int.tmod_eq_emod_of_nonneg (by omega),Int.tmod_def,show n-k*n.tdiv k+k=n+k*(1-n.tdiv k) by rw [Int.mul_sub];omega,Int.add_mul_emod_self_left]
theorem aX (n:Int) {k:Int} (hk:1≤k): -k<n.tmod k∧n.tmod k<k:=by
 have h1:=Int.lt_tmod_of_pos n (b:=k) (by omega)
 have h2:=Int.tmod_lt_of_pos n (b:=k) (by omega)
 omega
theorem XQ {l:List Int}  :A7 prog 5 [ints l] (bool (decide (l.length≤400))):=by
 refine fo func5 rfl ⟨rfl,rfl⟩ fun M0 w0=> ?_
 refine a3 ?_
 · refine bool_eq ?_;simp_all;omega
theorem iV {n k:Int} (hk:1≤k) (hk2:k≤1000000000):A7 prog 42 [int n,int k] (int (n % k)):=by
 refine fo func42 rfl ⟨rfl,rfl⟩ fun M0 w0=> ?_
 have hm:=aX n hk
 have hp:=XP n hk
 · repeat' first|(exfalso;omega)|(refine int_eq ?_;exact hp)|refine co rfl (IX rfl (vl rfl) (vl rfl) (by omega)) ?_|refine ac ?_|(refine Tr.cn rfl ?_ ?_<;>intro h q)
theorem BJ {b:Nat} {s:DS} {n:Int} (hn:1≤n) (hn2:n≤1000000000):A9 prog 20 [ptr b 0,int n] (int (s.val n)) (Bx b s) (fun _=>Bx b s.BN):=by
 refine A9.of func20 rfl rfl (by exact Nb rfl) fun M0 w0 S rs M1 w1=> ?_
 have hs:=s.h
 have S7:=s.h2
 refine ac ?_
 refine an ?_ ?_<;>intro h1 q1
 refine ac ?_
 refine Tr.ret (Fin.AE ?_)
 rw [DS.Wa (s:=s) (by omega)]
 refine Fin.ED [] rfl (BE.tmp rfl (Lr)) ?_ (fun _ _ _ _=>rfl)
 · refine int_eq ?_;exact (DS.WZ (by omega) n).symm
 have hlt:s.at_<s.l.length:=by omega
 obtain ⟨x,hx⟩:=at_ hlt
 refine ac ?_
 refine ap ?_
 refine EZ 0 1 rfl ?_
 refine ac ?_
 refine co rfl (AA rfl underlying22 C8 (vl rfl) (vl rfl) (by omega) (by rw [show ((s.at_:Nat):Int)+1-1=((s.at_:Nat):Int) by omega];exact Ah hx)) ?_
 refine ac ?_
 refine co rfl (EB (iV (by omega) (by omega)) rfl rfl rfl) ?_
 refine ac ?_
 refine Fl 4 rfl (Tr.ret ?_)
 rw [DS.ZY hlt]
 refine Fin.ED [] rfl (BE.tmp rfl (Lr)) ?_ (fun _ _ _ _=>rfl)
 · refine int_eq ?_;exact (DS.ZX hx n).symm
theorem Kk {b:Nat} {s:DS} {l:List Int} (hl:l≠[]) (lC:l.length≤1000000000):A9 prog 21 [ptr b 0,ints l] (int (s.of l)) (Bx b s) (fun _=>Bx b s.BN):=by
 refine A9.of func21 rfl rfl (by exact Nb rfl) fun M0 w0 S rs M1 w1=> ?_
 have iO:1≤(l.length:Int):=by have:=List.length_pos_iff.2 hl;omega
 have hv:=s.Ba iO
 obtain ⟨x,hx⟩:=at_ (l:=l) (k:=(s.val l.length).toNat) (by omega)
 refine ac ?_
 refine ap ?_
 refine TO.E8 0 rfl rfl (by decide) (AY rfl rfl (by decide) rfl (BJ (by omega) (by omega)) ⟨ke rfl,ke rfl,trivial⟩) (tp rfl (AA rfl underlying22 C8 (vl rfl) (vl rfl) (by omega) (Ck hx)) ?_)
 refine ap ?_
 refine Tr.ret (Fin.ED [] rfl (BE.tmp rfl (Lr)) ?_ (fun _ _ _ _=>rfl))
 · refine int_eq ?_;unfold DS.of;rw [hx];rfl
theorem Ua {b:Nat} {s:DS} {n:Int} (hn:1≤n) (hn2:n≤1000000000):A9 prog 22 [ptr b 0,int n] (bool (s.val n==n-1)) (Bx b s) (fun _=>Bx b s.BN):=by
 refine A9.of func22 rfl rfl (by exact Nb rfl) fun M0 w0 S rs M1 w1=> ?_
 refine ac ?_
 refine ap ?_
 refine TO.E8 0 rfl rfl (by decide) (AY rfl rfl (by decide) rfl (BJ (by omega) (by omega)) ⟨ke rfl,ke rfl,trivial⟩) ?_
 refine ap ?_
 refine Tr.ret (Fin.ED [] rfl (BE.tmp rfl (Lr)) ?_ (fun _ _ _ _=>rfl))
 · exact Lr
def XR (l:List Int) (hl:l.length≤1000000000) (v:Value):Aa:=match v with| .pointer (some a)=>NT 66 a.block ⟨l,0,Nat.zero_le _,hl⟩|_=>BA
theorem aY {l:List Int} (hl:l.length≤1000000000):A9 prog 7 [ints l] (ex fun b=>ptr b 0) (BA) (XR l hl):=by
 refine A9.of func7 rfl rfl (by exact Nb rfl) fun M0 w0 S rs M1 w1=> ?_
 refine ac ?_
 refine ap ?_
 refine TO.O3 rfl rfl (by decide) rfl (Va rfl) (fun b1=> ?_)
 refine ap ?_
 refine Tr.ret (Fin.drop 1 ?_)
 refine Fin.ED [] rfl (BE.tmp rfl (Lr)) ?_ (by rintro _ _ _ rfl;rfl)
 · exact BW b1 (Lr)
def F_ (b:Int) (l m:List Int):Int:=if 0≤idx (fun x=>b==x) l then (m[(idx (fun x=>b==x) l).toNat]?).getD 0 else 0
theorem SG {b:Int} {l m:List Int} {k:Nat} {x z:Int} (hx:l[k]? =some x) (he:x=b) (hz:m[k]? =some z) (h:∀j y,j<k→l[j]? =some y→(b==y)=false):z=F_ b l m:=by
 have:=EJ (p:=fun x=>b==x) hx (by simp [he]) h
 unfold F_;rw [←this,if_pos (by omega),Int.toNat_natCast,hz];rfl
theorem PW {b:Int} {l m:List Int} (h:∀j y,j<l.length→l[j]? =some y→(b==y)=false):0=F_ b l m:=by
 have:=F7 (p:=fun x=>b==x) h
 unfold F_;rw [←this,if_neg (by omega)]
def Cn (BB:Int):Int:=if BB=1 then 18 else if BB=2 then 60 else if BB=3∨BB=8∨BB=21 then 128 else if BB=4 then 192 else if BB=18∨BB=22 then 256 else if BB=19 then 64 else if BB=20 then 80 else 0
def Ft (b:Int):Int:=if b<512∨b>16384 then 0 else if b<1024 then 56 else if b<2048 then 80 else if b<3072 then 112 else if b<7680 then 128 else if b<15360 then 192 else 256
theorem Ub (b:Int):Ft b=if 512≤b∧b≤16384 then UO b else 0:=by
 have h1:UO b=if b<1024 then 56 else if b<2048 then 80 else if b<3072 then 112 else if b<7680 then 128 else if b<15360 then 192 else 256:=rfl
 rw [h1];unfold Ft
 by_cases h:512≤b∧b≤16384
 · rw [if_pos h,if_neg (by omega)]
 · rw [if_neg h,if_pos (by omega)]
theorem FZ {b:Int} {l m:List Int} (hl:l.length≤m.length):A7 prog 136 [int b,ints l,ints m] (int (F_ b l m)):=by
 refine fo func136 rfl ⟨rfl,rfl⟩ fun M0 w0=>(Tr.EF 1 rfl fun Ns=> ?_)
 refine a2 ?_
 refine Tr.block (Tr.BK [(0,_),(1,_),(2,_)] (LK rfl) (fun k:Nat=>[(7,int ((k:Nat):Int))]) (fun k:Nat=>k≤(l).length∧(∀j y,j<k→l[j]? =some y→(b==y)=false)) (fun k:Nat=>(l).length-k) 0 (⟨Nat.zero_le _,fun j y hj=>absurd hj (by omega)⟩) ⟨ke rfl,trivial⟩ ?_)
 rintro k ⟨BO,AJ⟩
 refine an ?_ ?_<;>intro h1 q1
 have Ad:k<(l).length:=AQ h1
 obtain ⟨x,Ac⟩:=at_ Ad
 obtain ⟨z,hz⟩:=at_ (l:=m) (k:=k) (by omega)
 · repeat' first|exact int_eq (SG Ac (by assumption) hz AJ)|(exact Fin.AP (k+1) ⟨⟨Ad,Cm (p:=fun x=>b==x) Ac (by simp;omega) AJ⟩,by omega⟩ ⟨⟨_,rfl,AF k⟩,ke rfl,ke rfl,ke rfl,trivial⟩)|refine co rfl (AA rfl underlying22 C8 (vl rfl) (vl rfl) (by omega) (by exact Ah (by assumption))) ?_|refine ac ?_|(refine Tr.cn rfl ?_ ?_<;>intro h q)
 have BF:k=(l).length:=by have:=AR h1;omega
 subst BF
 refine a3 ?_
 · exact int_eq (PW AJ)
theorem Uc {BB:Int}  :A7 prog 137 [int BB] (int (Cn BB)):=by
 refine fo func137 rfl ⟨rfl,rfl⟩ fun M0 w0=> ?_
 refine a2 ?_
 refine an ?_ ?_<;>intro h1 q1
 refine a2 ?_
 · refine int_eq ?_;unfold Cn;(repeat (rw [if_pos (by omega)]))
 refine an ?_ ?_<;>intro h2 q2
 refine a2 ?_
 · refine int_eq ?_;unfold Cn;(repeat (first|rw [if_pos (by omega)]|rw [if_neg (by omega)]))
 refine an ?_ ?_<;>intro h3 q3
 refine ac ?_
 refine Tr.cond rfl (fun _=> ?_) (fun h=>nomatch h3.symm.trans h)
 refine a2 ?_
 · refine int_eq ?_;unfold Cn;(repeat (first|rw [if_pos (by omega)]|rw [if_neg (by omega)]))
 refine an ?_ ?_<;>intro h4 q4
 refine ac ?_
 refine Tr.cond rfl (fun _=> ?_) (fun h=>nomatch h4.symm.trans h)
 refine a2 ?_
 · refine int_eq ?_;unfold Cn;(repeat (first|rw [if_pos (by omega)]|rw [if_neg (by omega)]))
 refine an ?_ ?_<;>intro h5 q5
 refine a2 ?_
 · refine int_eq ?_;unfold Cn;(repeat (first|rw [if_pos (by omega)]|rw [if_neg (by omega)]))
 refine ac ?_
 refine EZ 3 12 rfl ?_
 refine Tr.cn rfl ?_ ?_<;>intro h6 q6
 refine a2 ?_
 · refine int_eq ?_;unfold Cn;(repeat (first|rw [if_pos (by omega)]|rw [if_neg (by omega)]))
 refine an ?_ ?_<;>intro h7 q7
 refine ac ?_
 refine Tr.cond rfl (fun _=> ?_) (fun h=>nomatch h7.symm.trans h)
 refine a2 ?_
 · refine int_eq ?_;unfold Cn;(repeat (first|rw [if_pos (by omega)]|rw [if_neg (by omega)]))
 · repeat' first|(refine int_eq ?_;unfold Cn;(repeat (first|rw [if_pos (by omega)]|rw [if_neg (by omega)])))|(refine int_eq ?_;unfold Cn;(repeat (rw [if_neg (by omega)])))|refine ac ?_|(refine Tr.cn rfl ?_ ?_<;>intro h q)
theorem Fa {b:Int}  :A7 prog 135 [int b] (int (Ft b)):=by
 refine fo func135 rfl ⟨rfl,rfl⟩ fun M0 w0=> ?_
 refine ac ?_
 refine ac ?_
 refine Ch.cs 6 rfl ?_ ?_<;>intro h1 q1
 refine ac ?_
 refine ac ?_
 refine ac ?_
 · refine int_eq ?_;unfold Ft;(repeat (rw [if_pos (by omega)]))
 refine ac ?_
 refine Tr.cn rfl ?_ ?_<;>intro h2 q2
 refine ac ?_
 refine ac ?_
 · refine int_eq ?_;unfold Ft;(repeat (rw [if_pos (by omega)]))
 refine ac ?_
 refine Tr.cn rfl ?_ ?_<;>intro h3 q3
 refine ac ?_
 refine ac ?_
 · refine int_eq ?_;unfold Ft;(repeat (first|rw [if_pos (by omega)]|rw [if_neg (by omega)]))
 refine ac ?_
 refine EZ 0 13 rfl ?_
 refine Tr.cn rfl ?_ ?_<;>intro h4 q4
 refine ac ?_
 refine ac ?_
 · refine int_eq ?_;unfold Ft;(repeat (first|rw [if_pos (by omega)]|rw [if_neg (by omega)]))
 refine ac ?_
 refine Tr.cn rfl ?_ ?_<;>intro h5 q5
 refine ac ?_
 refine ac ?_
 · refine int_eq ?_;unfold Ft;(repeat (first|rw [if_pos (by omega)]|rw [if_neg (by omega)]))
 refine ac ?_
 refine Tr.cn rfl ?_ ?_<;>intro h6 q6
 refine ac ?_
 refine ac ?_
 · refine int_eq ?_;unfold Ft;(repeat (first|rw [if_pos (by omega)]|rw [if_neg (by omega)]))
 refine ac ?_
 refine Tr.cn rfl ?_ ?_<;>intro h7 q7
 refine ac ?_
 refine ac ?_
 · refine int_eq ?_;unfold Ft;(repeat (first|rw [if_pos (by omega)]|rw [if_neg (by omega)]))
 refine ac ?_
 refine ac ?_
 refine ac ?_
 · refine int_eq ?_;unfold Ft;(repeat (rw [if_neg (by omega)]))
theorem XS (b c:Int):F_ b [0] [c]=if b=0 then c else 0:=by
 unfold F_ idx
 by_cases h:b=0
 · subst h;rfl
 ·
  have:List.findIdx? (fun x=>b==x) [0]=none:=by simp [h]
  rw [this,if_neg h];rfl
theorem EH {BB b:Int} (h:BB=5∨BB=6∨BB=10∨BB=11):Ft b=BD BB b:=by
 rw [Ub]
 rcases h with rfl|rfl|rfl|rfl<;>rfl
theorem LP {BB b:Int} (h:¬(BB=5∨BB=6∨BB=7∨BB=9∨BB=10∨BB=11∨BB=12∨BB=13∨BB=14∨BB=15∨BB=16∨BB=17)):F_ b [0] [Cn BB]=BD BB b:=by
 rw [XS]
 by_cases hin:1≤BB∧BB≤22
 ·
  have ha:BB=1∨BB=2∨BB=3∨BB=4∨BB=8∨BB=18∨BB=19∨BB=20∨BB=21∨BB=22:=by omega
  rcases ha with rfl|rfl|rfl|rfl|rfl|rfl|rfl|rfl|rfl|rfl<;>rfl
 ·
  have h1:Cn BB=0:=by unfold Cn;(repeat (first|rw [if_pos (by omega)]|rw [if_neg (by omega)]))
  unfold BD
  rw [h1,if_neg hin];split<;>rfl
theorem EI {BB b:Int} (h:BB=7∨BB=12):BD BB b=if (Lt.any fun x=>b==x)=true then b.tdiv 2 else 0:=by
 rcases h with rfl|rfl<;>rfl
theorem Nt {BB bits:Int}  :A7 prog 116 [agg [int BB,int bits]] (int (BD BB bits)):=by
 refine fo func116 rfl ⟨rfl,rfl⟩ fun M0 w0=> ?_
 iterate 4 refine ac ?_
 refine Tr.cn rfl ?_ ?_<;>intro h1 q1
 refine ac ?_
 refine Tr.cond rfl (fun _=> ?_) (fun h=>nomatch h1.symm.trans h)
 refine ac ?_
 refine co rfl (Ca (Fa) rfl rfl) ?_
 refine a2 ?_
 · refine int_eq ?_;exact EH (by omega)
 refine an ?_ ?_<;>intro h2 q2
 refine ac ?_
 refine Tr.cond rfl (fun _=> ?_) (fun h=>nomatch h2.symm.trans h)
 refine ac ?_
 refine co rfl (Ca (Fa) rfl rfl) ?_
 refine ac ?_
 refine Fl 2 rfl ?_
 refine ac ?_
 · refine int_eq ?_;exact EH (by omega)
 refine an ?_ ?_<;>intro h3 q3
 refine ac ?_
 refine Tr.cond rfl (fun _=> ?_) (fun h=>nomatch h3.symm.trans h)
 refine ac ?_
 refine co rfl (Ca (Fa) rfl rfl) ?_
 refine ac ?_
 refine Fl 2 rfl ?_
 refine ac ?_
 · refine int_eq ?_;exact EH (by omega)
 refine ac ?_
 refine FO 1 3 7 8 rfl ?_
 refine Tr.cn rfl ?_ ?_<;>intro h4 q4
 refine ac ?_
 refine co rfl (Ca (Fa) rfl rfl) ?_
 refine a2 ?_
 · refine int_eq ?_;exact EH (by omega)
 refine an ?_ ?_<;>intro h5 q5
 refine ac ?_
 refine Tr.cond rfl (fun _=> ?_) (fun h=>nomatch h5.symm.trans h)
 · repeat' first|(refine int_eq ?_;rw [EI (by omega)];have hb:bits=160∨bits=224∨bits=256∨bits=384∨bits=521:=(by omega);rcases hb with rfl|rfl|rfl|rfl|rfl<;>rfl)|(refine int_eq ?_;rw [EI (by omega),if_neg (by simp [Lt];omega)])|refine co rfl (Jx rfl (vl rfl) (vl rfl) (by omega)) ?_|refine ac ?_|(refine Tr.cn rfl ?_ ?_<;>intro h q)|(refine Ch.cg rfl rfl rfl ?_ ?_<;>intro h q)
 refine an ?_ ?_<;>intro h11 WB
 · repeat' first|(refine int_eq ?_;rw [EI (by omega)];have hb:bits=160∨bits=224∨bits=256∨bits=384∨bits=521:=(by omega);rcases hb with rfl|rfl|rfl|rfl|rfl<;>rfl)|(refine int_eq ?_;rw [EI (by omega),if_neg (by simp [Lt];omega)])|refine co rfl (Jx rfl (vl rfl) (vl rfl) (by omega)) ?_|refine ac ?_|(refine Tr.cn rfl ?_ ?_<;>intro h q)|(refine Ch.cg rfl rfl rfl ?_ ?_<;>intro h q)
 refine an ?_ ?_<;>intro SH lD
 refine ac ?_
 refine co rfl (Ag rfl (FZ (l:=[44,65,87]) (m:=[128,192,256]) (by simp)) ⟨ke rfl,(Kf rfl),(Kf rfl),trivial⟩) ?_
 refine ac ?_
 refine Fl 2 rfl ?_
 refine ac ?_
 · refine int_eq ?_;have ha:BB=9:=(by omega);rcases ha with rfl<;>rfl
 refine an ?_ ?_<;>intro Yw q18
 refine ac ?_
 refine co rfl (Ag rfl (FZ (l:=[512,768,1024]) (m:=[128,192,256]) (by simp)) ⟨ke rfl,(Kf rfl),(Kf rfl),trivial⟩) ?_
 refine ac ?_
 refine Fl 2 rfl ?_
 refine ac ?_
 · refine int_eq ?_;have ha:BB=13:=(by omega);rcases ha with rfl<;>rfl
 refine ac ?_
 refine FO 1 3 7 50 rfl ?_
 refine Tr.cn rfl ?_ ?_<;>intro iW q19
 refine ac ?_
 refine co rfl (Ag rfl (FZ (l:=[40,128]) (m:=[40,60]) (by simp)) ⟨ke rfl,(Kf rfl),(Kf rfl),trivial⟩) ?_
 refine a2 ?_
 · refine int_eq ?_;have ha:BB=14:=(by omega);rcases ha with rfl<;>rfl
 refine an ?_ ?_<;>intro aZ q20
 refine ac ?_
 refine co rfl (Ag rfl (FZ (l:=[112,168]) (m:=[80,112]) (by simp)) ⟨ke rfl,(Kf rfl),(Kf rfl),trivial⟩) ?_
 refine a2 ?_
 · refine int_eq ?_;have ha:BB=15:=(by omega);rcases ha with rfl<;>rfl
 refine an ?_ ?_<;>intro lE q21
 refine ac ?_
 refine Tr.cond rfl (fun _=> ?_) (fun h=>nomatch lE.symm.trans h)
 refine ac ?_
 refine co rfl (Ag rfl (FZ (l:=[128,256]) (m:=[128,256]) (by simp)) ⟨ke rfl,(Kf rfl),(Kf rfl),trivial⟩) ?_
 refine a2 ?_
 · refine int_eq ?_;have ha:BB=16∨BB=17:=(by omega);rcases ha with rfl|rfl<;>rfl
 · repeat' first|(refine int_eq ?_;have ha:BB=16∨BB=17:=(by omega);rcases ha with rfl|rfl<;>rfl)|(refine int_eq ?_;exact LP (by omega))|refine co rfl (Ag rfl (FZ (l:=[128,256]) (m:=[128,256]) (by simp)) ⟨ke rfl,(Kf rfl),(Kf rfl),trivial⟩) ?_|refine co rfl (Ca (Uc) rfl rfl) (co rfl (AG (xs:=[.tmp 73]) (rows:=[[_]]) rfl rfl underlying22 C8 z3 rfl (by decide) ⟨⟨(by exact rfl),(Vo rfl)⟩,trivial⟩ (by decide)) ?_)|refine co rfl (Ag rfl (FZ (l:=[0]) (m:=[Cn BB]) (by simp)) ⟨ke rfl,(Kf rfl),(Kf rfl),trivial⟩) ?_|refine ac ?_|(refine Tr.cn rfl ?_ ?_<;>intro h q)
theorem Nu {BB bits:Int}  :A7 prog 89 [agg [int BB,int bits]] (bool (decide (BD BB bits>0))):=by
 refine fo func89 rfl ⟨rfl,rfl⟩ fun M0 w0=> ?_
 refine a2 ?_
 refine co rfl (Ca (Nt) rfl rfl) ?_
 refine a2 ?_
 · exact Lr
def aa:List (List UInt8×Int):=EU.map fun r=>(r.name,r.kind)
theorem XT {BB:Int} (h:1≤BB∧BB≤22):aa[BB.toNat]? =some ((CD BB).name,(CD BB).kind):=by
 unfold aa;rw [List.getElem?_map,F8 h];rfl
theorem XU   :A7 prog 115 [] (slice 2 (aa.map fun r=>[str r.1,int r.2])):=by
 refine fo func115 rfl ⟨rfl,rfl⟩ fun M0 w0=> ?_
 refine a2 ?_
 refine Fl 0 rfl ?_
 refine ac ?_
 · exact Al _ _
theorem Q4 {BB:Int}  :A7 prog 87 [int BB] (int (CD BB).kind):=by
 refine fo func87 rfl ⟨rfl,rfl⟩ fun M0 w0=> ?_
 refine ac ?_
 refine ag ?_ ?_<;>intro h1 q1
 refine a3 ?_
 · refine int_eq ?_;unfold CD;rw [if_neg (by omega)];rfl
 refine an ?_ ?_<;>intro h2 q2
 refine a2 ?_
 · refine int_eq ?_;unfold CD;rw [if_neg (by omega)];rfl
 have hin:1≤BB∧BB≤22:=by omega
 refine ac ?_
 refine Tr.seq (Tr.Ai (co rfl (nR (XU) rfl) (cm rfl (co rfl (AA rfl underlying184 Yi (vl rfl) (vl rfl) (by omega) (Ck (f:=fun r:List UInt8×Int=>[str r.1,int r.2]) (XT hin))) ?_))))
 refine a2 ?_
 · exact Lr
theorem Nv {BB bits:Int}  :A7 prog 90 [agg [int BB,int bits]] (bool (decide (BD BB bits>0)&&(CD BB).kind==2)):=by
 refine fo func90 rfl ⟨rfl,rfl⟩ fun M0 w0=> ?_
 refine ac ?_
 refine ac ?_
 refine co rfl (Ca (Nu) rfl rfl) (cm rfl ?_)
 refine Ch.cs 5 rfl ?_ ?_<;>intro h1 q1
 refine ac ?_
 refine cy h1 rfl (Ca (Q4) rfl rfl) ?_
 refine ac ?_
 refine ac ?_
 · refine bool_eq ?_;simp_all
 refine ac ?_
 refine ac ?_
 · refine bool_eq ?_;simp_all;omega
def Kl:Eg:=⟨[],0,0,[],false,[],[],[],false⟩
def oo (c:Cb):Prop:=(1≤c.kind∧c.kind≤12)∧iU c=true
instance (c:Cb):Decidable (oo c):=inferInstanceAs (Decidable (_∧_))
structure Yx (e:Eg):Prop where
 name:Ki e.name=true
 least:1≤e.least
 lm:e.least≤e.most
 most:e.most≤4
 EV:FY e.EV=true
 idl:e.ids.length≤4
 qY:e.anchors.length≤16
 anc:PU e.anchors=true
 hash:PU e.hashes=true
 ids:e.ids.all XL=true
 keys:e.anchors.all Gd=true
 hsh:e.hashes.all Kj=true
theorem Ud {e:Eg}:Ge e=true↔Yx e:=by
 unfold Ge;simp only [Bool.and_eq_true,decide_eq_true_eq]
 exact ⟨fun ⟨⟨⟨⟨⟨⟨⟨⟨a,b⟩,c⟩,d⟩,f⟩,⟨⟨⟨g,h⟩,i⟩,j⟩⟩,k⟩,l⟩,m⟩=>⟨a,b,c,d,f,g,h,i,j,k,l,m⟩,fun ⟨a,b,c,d,f,g,h,i,j,k,l,m⟩=>⟨⟨⟨⟨⟨⟨⟨⟨a,b⟩,c⟩,d⟩,f⟩,⟨⟨⟨g,h⟩,i⟩,j⟩⟩,k⟩,l⟩,m⟩⟩
abbrev Lw:List Pr:=[G9 .u8]
abbrev Q5 (m:Nat):Pr:=slice 1 (List.replicate m Lw)
abbrev DM (B:Nat):Pr:=Cp.ex fun m:Nat=>fact (m≤B) (Q5 m)
abbrev Nw:Pr:=Cp.ex fun b:Bool=>bool b
abbrev Au (q:Pr):List Pr:=[G9 .i64,DM 1000,Nw,q]
abbrev GA (row:List Pr):Pr:=Cp.ex fun m:Nat=>fact (m≤20) (slice 4 (List.replicate m row))
abbrev HC (D:Nat):Pr:=Cp.ex fun d:Int=>fact (0≤d∧d≤(D:Nat)) (int d)
theorem GC {r:List Pr} {m k:Nat} (h:k<m):(List.replicate m r)[((k:Nat):Int).toNat]? =some r:=by rw [Int.toNat_natCast,List.getElem?_replicate,if_pos h]
theorem Q6 {r:List Pr} {m:Nat}:List.replicate m r++[r]=List.replicate (m+1) r:=by rw [List.replicate_succ']
theorem Hx {r:List Pr} {m k:Nat}:List.replicate m r++List.replicate k r=List.replicate (m+k) r:=by rw [List.replicate_append_replicate]
theorem J9.refl:∀l:List Pr,J9 l l
 |[]=>trivial
 |_::l=>⟨Pr.le_refl _,J9.refl l⟩
theorem NM {sz:Nat} {rows rows':List (List Pr)} (hl:rows.length=rows'.length) (h:∀(i:Nat) r r',rows[i]? =some r→rows'[i]? =some r'→r.length=r'.length∧∀(j:Nat) p p',r[j]? =some p→r'[j]? =some p'→Pr.le p p'):Pr.le (slice sz rows) (slice sz rows'):=by
 rintro M w v ⟨a,cap,h1,h2,h3,h4,h5⟩
 refine ⟨a,cap,by rw [←hl];exact h1,by rw [←hl];exact h2,h3,h4,fun i row hr=> ?_⟩
 have hi:i<rows.length:=by rw [hl];exact BR hr
 have jr:=List.getElem?_eq_getElem hi
 obtain ⟨g1,g2⟩:=h i _ _ jr hr
 obtain ⟨k1,ad,k2,k3⟩:=h5 i _ jr
 refine ⟨by rw [←g1];exact k1,ad,k2,fun j p' hp'=> ?_⟩
 have hj:j<rows[i].length:=by rw [g1];exact BR hp'
 have hp:=List.getElem?_eq_getElem hj
 obtain ⟨u,c1,c2,c3,c4⟩:=k3 j _ hp
 exact ⟨u,c1,c2,c3,g2 j _ _ hp hp' _ _ _ c4⟩
theorem SI {sz:Nat} {rows:List (List Pr)} {r:List Pr} (h:∀q∈rows,q.length=r.length∧∀(j:Nat) p p',q[j]? =some p→r[j]? =some p'→Pr.le p p'):Pr.le (slice sz rows) (slice sz (List.replicate rows.length r)):=
 NM (by simp) fun i q q' hq hq' => by
  rw [List.getElem?_replicate,if_pos (BR hq)] at hq'
  cases hq'
  exact h q (List.mem_of_getElem? hq)
theorem E0 {β:Type} {l:List β} {f:β→Int}:Pr.le (slice 1 (l.map fun x=>[is (.int .u8 (f x))])) (Q5 l.length):=by
 have:=SI (sz:=1) (rows:=l.map fun x=>[is (.int .u8 (f x))]) (r:=Lw) (by
  intro q hq
  obtain ⟨x,_,rfl⟩:=List.mem_map.1 hq
  refine ⟨rfl,fun j p p' hp hp'=> ?_⟩
  cases j with
  |zero=>simp at hp hp';subst hp;subst hp';exact Bg _ _
  |succ j=>simp at hp)
 rwa [List.length_map] at this
theorem BX {B m:Nat} {p:Pr} (h:m≤B) (hp:Pr.le p (Q5 m)):Pr.le p (DM B):=BW m (CS h hp)
theorem A7.Au {P:Program} {f:FuncId} {row:List Pr} {res:Pr} (h:∀(t:Int) (b:Nat) (n:Bool) (m:Nat),b≤1000→m≤20→A7 P f [agg [int t,Q5 b,bool n,slice 4 (List.replicate m row)]] res):A7 P f [agg (Au (GA row))] res:=by
 refine ⟨(h 0 0 false 0 (by omega) (by omega)).1,fun M w vs hb hv=> ?_⟩
 match vs,hv with
 |[u0],XV=>
  obtain ⟨⟨cs,rfl,ho,hcs⟩,_⟩:=XV
  match cs,hcs with
  |[c0,c1,c2,c3],hc=>
   obtain ⟨⟨t,h0⟩,⟨b,NA,h1⟩,⟨n,h2⟩,⟨m,hm1,h3⟩,_⟩:=hc
   exact (h t b n m NA hm1).2 M w _ hb ⟨⟨_,rfl,ho,h0,h1,h2,h3,trivial⟩,trivial⟩
theorem A7.Ue {P:Program} {f:FuncId} {res:Pr} (h:∀(t:Int) (b:Nat) (n:Bool),b≤1000→A7 P f [agg [int t,Q5 b,bool n,slice 4 []]] res):A7 P f [agg [G9 .i64,DM 1000,Nw,slice 4 []]] res:=by
 refine ⟨(h 0 0 false (by omega)).1,fun M w vs hb hv=> ?_⟩
 match vs,hv with
 |[u0],XV=>
  obtain ⟨⟨cs,rfl,ho,hcs⟩,_⟩:=XV
  match cs,hcs with
  |[c0,c1,c2,c3],hc=>
   obtain ⟨⟨t,h0⟩,⟨b,NA,h1⟩,⟨n,h2⟩,h3,_⟩:=hc
   exact (h t b n NA).2 M w _ hb ⟨⟨_,rfl,ho,h0,h1,h2,h3,trivial⟩,trivial⟩
theorem af {n:Int}  :A7 prog 138 [int n] (bool (decide (1≤n)&&decide (n≤255)&&(n.tmod 32 !=31))):=by
 refine fo func138 rfl ⟨rfl,rfl⟩ fun M0 w0=> ?_
 refine ac ?_
 refine ag ?_ ?_<;>intro h1 q1
 refine ag ?_ ?_<;>intro h2 q2
 refine Lb h2 rfl (cy h2 rfl (IX rfl (vl rfl) (vl rfl) (by omega)) ?_)
 refine a2 ?_
 · refine bool_eq ?_;simp_all
 refine a2 ?_
 · refine bool_eq ?_;simp_all;omega
 refine a2 ?_
 · refine bool_eq ?_;simp_all;omega
theorem Ip {t:Int} {b:Nat} {n:Bool} {m:Nat} {q:Pr}  (hb:b≤1000) (hm:m≤20) (ih:m=0∨A7 prog 117 [agg (Au q)] (Nw)):A7 prog 117 [agg [int t,Q5 b,bool n,slice 4 (List.replicate m (Au q))]] (Nw):=by
 refine fo func117 rfl ⟨rfl,rfl⟩ fun M0 w0=> ?_
 have hlr:(List.replicate m (Au q)).length=m:=List.length_replicate
 have hlb:(List.replicate b Lw).length=b:=List.length_replicate
 refine a2 ?_
 refine co rfl (Ca (af) rfl rfl) ?_
 refine ag ?_ ?_<;>intro h1 q1
 refine ac ?_
 refine EZ 1 38 rfl ?_
 refine a2 ?_
 · exact BW _ (Lr)
 refine ac ?_
 refine cy h1 rfl (Jx rfl (vl rfl) (vl rfl) (by omega)) (cy h1 rfl (IX rfl (vl rfl) (vl rfl) (by omega)) (cy h1 rfl (ki rfl rfl rfl rfl) (cy h1 rfl (ZT rfl underlying4 (vl rfl) (vl rfl)) ?_)))
 refine ag ?_ ?_<;>intro h2 q2
 refine ac ?_
 refine EZ 1 38 rfl ?_
 refine a2 ?_
 · exact BW _ (Lr)
 refine ag ?_ ?_<;>intro h3 q3
 refine ac ?_
 refine cy h3 rfl (Br rfl underlying138 (vl rfl)) ?_
 refine ag ?_ ?_<;>intro h4 q4
 refine ac ?_
 refine EZ 1 38 rfl ?_
 refine a2 ?_
 · exact BW _ (Lr)
 refine ag ?_ ?_<;>intro h5 q5
 refine ac ?_
 refine cy h5 rfl (Br rfl underlying163 (vl rfl)) ?_
 refine ac ?_
 refine EZ 1 38 rfl ?_
 refine Tr.cn rfl ?_ ?_<;>intro h6 q6
 refine a2 ?_
 · exact BW _ (Lr)
 refine a2 ?_
 refine Tr.block (Tr.BK [(1,_)] ⟨ke rfl,trivial⟩ (fun k:Nat=>[(3,int ((k:Nat):Int))]) (fun k:Nat=>k≤((List.replicate m (Au q)).length)) (fun k:Nat=>((List.replicate m (Au q)).length)-k) 0 (Nat.zero_le _) ⟨ke rfl,trivial⟩ ?_)
 rintro k BO
 refine ac ?_
 refine co rfl (Br rfl underlying163 (vl rfl)) ?_
 refine an ?_ ?_<;>intro h7 q7
 have Ad:k<((List.replicate m (Au q)).length):=AQ h7
 have hkm:k<m:=by simpa using Ad
 have ih2:=ih.resolve_left (by omega)
 refine ac ?_
 refine ap ?_
 refine tp rfl (AA rfl underlying163 Bb (vl rfl) (vl rfl) (by omega) (GC hkm)) (tp rfl (AM rfl Bu Bb (vl rfl) rfl rfl) (tp rfl (Ca (ih2) rfl rfl) ?_))
 refine TO.ex 51 rfl (fun z51=> ?_)
 refine ap ?_
 · repeat' first|exact BW _ (Lr)|exact Fin.AP (k+1) ⟨Ad,by omega⟩ ⟨⟨_,rfl,AF k⟩,ke rfl,trivial⟩|refine ac ?_|(refine Tr.cn rfl ?_ ?_<;>intro h q)
 have BF:k=((List.replicate m (Au q)).length):=by have:=AR h7;omega
 refine a3 ?_
 · exact BW _ (Lr)
 refine ac ?_
 refine EZ 1 38 rfl ?_
 refine a2 ?_
 refine Tr.block (Tr.BK [(1,_)] ⟨ke rfl,trivial⟩ (fun k:Nat=>[(3,int ((k:Nat):Int))]) (fun k:Nat=>k≤((List.replicate m (Au q)).length)) (fun k:Nat=>((List.replicate m (Au q)).length)-k) 0 (Nat.zero_le _) ⟨ke rfl,trivial⟩ ?_)
 rintro k BO
 refine ac ?_
 refine co rfl (Br rfl underlying163 (vl rfl)) ?_
 refine an ?_ ?_<;>intro h9 q9
 have Ad:k<((List.replicate m (Au q)).length):=AQ h9
 have hkm:k<m:=by simpa using Ad
 have ih2:=ih.resolve_left (by omega)
 refine ac ?_
 refine ap ?_
 refine tp rfl (AA rfl underlying163 Bb (vl rfl) (vl rfl) (by omega) (GC hkm)) (tp rfl (AM rfl Bu Bb (vl rfl) rfl rfl) (tp rfl (Ca (ih2) rfl rfl) ?_))
 refine TO.ex 51 rfl (fun z51=> ?_)
 refine ap ?_
 · repeat' first|exact BW _ (Lr)|exact Fin.AP (k+1) ⟨Ad,by omega⟩ ⟨⟨_,rfl,AF k⟩,ke rfl,trivial⟩|refine ac ?_|(refine Tr.cn rfl ?_ ?_<;>intro h q)
 have BF:k=((List.replicate m (Au q)).length):=by have:=AR h9;omega
 refine a3 ?_
 · exact BW _ (Lr)
 refine ag ?_ ?_<;>intro h11 WB
 refine ac ?_
 refine cy h11 rfl (Br rfl underlying163 (vl rfl)) ?_
 refine ac ?_
 refine EZ 1 38 rfl ?_
 refine Tr.cn rfl ?_ ?_<;>intro h12 dc
 refine a2 ?_
 · exact BW _ (Lr)
 refine a2 ?_
 refine Tr.block (Tr.BK [(1,_)] ⟨ke rfl,trivial⟩ (fun k:Nat=>[(3,int ((k:Nat):Int))]) (fun k:Nat=>k≤((List.replicate m (Au q)).length)) (fun k:Nat=>((List.replicate m (Au q)).length)-k) 0 (Nat.zero_le _) ⟨ke rfl,trivial⟩ ?_)
 rintro k BO
 refine ac ?_
 refine co rfl (Br rfl underlying163 (vl rfl)) ?_
 refine an ?_ ?_<;>intro Q2 aP
 have Ad:k<((List.replicate m (Au q)).length):=AQ Q2
 have hkm:k<m:=by simpa using Ad
 have ih2:=ih.resolve_left (by omega)
 refine ac ?_
 refine ap ?_
 refine tp rfl (AA rfl underlying163 Bb (vl rfl) (vl rfl) (by omega) (GC hkm)) (tp rfl (AM rfl Bu Bb (vl rfl) rfl rfl) (tp rfl (Ca (ih2) rfl rfl) ?_))
 refine TO.ex 51 rfl (fun z51=> ?_)
 refine ap ?_
 · repeat' first|exact BW _ (Lr)|exact Fin.AP (k+1) ⟨Ad,by omega⟩ ⟨⟨_,rfl,AF k⟩,ke rfl,trivial⟩|refine ac ?_|(refine Tr.cn rfl ?_ ?_<;>intro h q)
 have BF:k=((List.replicate m (Au q)).length):=by have:=AR Q2;omega
 refine a3 ?_
 · exact BW _ (Lr)
 refine ac ?_
 refine EZ 1 38 rfl ?_
 refine a2 ?_
 refine Tr.block (Tr.BK [(1,_)] ⟨ke rfl,trivial⟩ (fun k:Nat=>[(3,int ((k:Nat):Int))]) (fun k:Nat=>k≤((List.replicate m (Au q)).length)) (fun k:Nat=>((List.replicate m (Au q)).length)-k) 0 (Nat.zero_le _) ⟨ke rfl,trivial⟩ ?_)
 rintro k BO
 refine ac ?_
 refine co rfl (Br rfl underlying163 (vl rfl)) ?_
 refine an ?_ ?_<;>intro XW oq
 have Ad:k<((List.replicate m (Au q)).length):=AQ XW
 have hkm:k<m:=by simpa using Ad
 have ih2:=ih.resolve_left (by omega)
 refine ac ?_
 refine ap ?_
 refine tp rfl (AA rfl underlying163 Bb (vl rfl) (vl rfl) (by omega) (GC hkm)) (tp rfl (AM rfl Bu Bb (vl rfl) rfl rfl) (tp rfl (Ca (ih2) rfl rfl) ?_))
 refine TO.ex 51 rfl (fun z51=> ?_)
 refine ap ?_
 · repeat' first|exact BW _ (Lr)|exact Fin.AP (k+1) ⟨Ad,by omega⟩ ⟨⟨_,rfl,AF k⟩,ke rfl,trivial⟩|refine ac ?_|(refine Tr.cn rfl ?_ ?_<;>intro h q)
 have BF:k=((List.replicate m (Au q)).length):=by have:=AR XW;omega
 refine a3 ?_
 · exact BW _ (Lr)
theorem Km {t:Int} {b:Nat} {n:Bool} {m:Nat} {q:Pr} {D:Nat}  (hb:b≤1000) (hm:m≤20) (hD:D≤1000) (ih:m=0∨A7 prog 118 [agg (Au q)] (HC D)):A7 prog 118 [agg [int t,Q5 b,bool n,slice 4 (List.replicate m (Au q))]] (HC (D+1)):=by
 refine A7.of func118 rfl rfl (by exact Nb rfl) fun M0 w0=> ?_
 have hlr:(List.replicate m (Au q)).length=m:=List.length_replicate
 have hlb:(List.replicate b Lw).length=b:=List.length_replicate
 refine Tr.seq (Tr.Ai (co rfl (Dq rfl (Va rfl)) (cm rfl (Ch.nil (Fin.go (Tr.seq (Tr.Ai (cm rfl (Ch.nil (Fin.go (Tr.seq (Tr.seq (Tr.Ai ?_)))))))))))))
 refine cm rfl (Ch.nil (Fin.go (Tr.block (Tr.BK [(1,_)] ⟨ke rfl,trivial⟩ (fun k:Nat=>[(4,int ((k:Nat):Int)),(3,HC D)]) (fun k:Nat=>k≤((List.replicate m (Au q)).length)) (fun k:Nat=>((List.replicate m (Au q)).length)-k) 0 (Nat.zero_le _) ⟨ke rfl,⟨_,rfl,BW 0 (CS (by omega) (Lr))⟩,trivial⟩ ?_))))
 rintro k BO
 refine Tr.seq (Tr.seq (Tr.Ai (cm rfl (co rfl (NN rfl Hl rfl rfl) (co rfl (G0 rfl Me rfl) (co rfl (Br rfl underlying163 (vl rfl)) (co rfl (ki rfl rfl rfl rfl) (Ch.nil (Fin.go ?_)))))))))
 refine Tr.cn rfl ?_ ?_<;>intro h1 q1
 have Ad:k<((List.replicate m (Au q)).length):=AQ h1
 have hkm:k<m:=by simpa using Ad
 have ih2:=ih.resolve_left (by omega)
 refine Tr.skip (Fin.go (Tr.seq (Tr.block (Tr.Az (tm rfl ?_)))))
 refine TO.ex 12 rfl (fun z12=>TO.fact 12 rfl fun qZ=> ?_)
 refine tp rfl (NN rfl Hl rfl rfl) (tp rfl (G0 rfl Me rfl) (tm rfl (tp rfl (AA rfl underlying163 Bb (vl rfl) (vl rfl) (by omega) (GC hkm)) (tp rfl (AM rfl Bu Bb (vl rfl) rfl rfl) (tp rfl (Ag rfl (ih2) ⟨ke rfl,trivial⟩) ?_)))))
 refine TO.ex 18 rfl (fun mE=>TO.fact 18 rfl fun ot=> ?_)
 refine tp rfl (Jy rfl (vl rfl) (vl rfl)) (tm rfl (TO.nil (Fin.block (Fin.go (O6 1 3 4 rfl (Tr.Ai (cm rfl (O5 rfl rfl rfl rfl (by omega) (cm rfl (Ch.nil (Fin.AP (k+1) ⟨Ad,by omega⟩ ⟨⟨_,rfl,AF k⟩,⟨_,rfl,BW _ (CS (by omega) (Lr))⟩,ke rfl,trivial⟩)))))))))))
 have BF:k=((List.replicate m (Au q)).length):=by have:=AR h1;omega
 refine Tr.exit (Fin.AU (Fin.AU (Fin.Am (Fin.go (Tr.seq (Tr.Az (tm rfl ?_)))))))
 refine TO.ex 20 rfl (fun z20=>TO.fact 20 rfl fun qa=> ?_)
 refine tp rfl (C4 rfl (vl rfl) (vl rfl) ?hin) ?_;case hin=>unfold HS;omega
 refine tm rfl (TO.nil (Fin.go (Tr.ret (Fin.ZI rfl (Cq.HN _ _) rfl ?_))))
 · exact BW _ (CS (by omega) (Lr))
def Kn (n:Nat):Nat:=if h:n=0 then 0 else 1+Kn (n/256)
termination_by n
decreasing_by omega
theorem Lx:Kn 0=0:=by unfold Kn;simp
theorem Nx {n:Nat} (h:0<n):Kn n=1+Kn (n/256):=by conv=>lhs;unfold Kn;rw [dif_neg (by omega)]
theorem Mp:∀(n:Nat),Kn n≤n:=by
 intro n
 induction n using Nat.strongRecOn with
 |_ n ih=>
  rcases Nat.eq_zero_or_pos n with h|h
  · subst h;rw [Lx];omega
  · rw [Nx h];have:=ih (n/256) (by omega);omega
def SJ (n:Nat):Nat:=if n<128 then 1 else 1+Kn n
theorem Q7 (n:Nat):SJ n≤n+1:=by unfold SJ;have:=Mp n;split<;>omega
theorem Q8 (k:Int):Pr.le (slice 1 [[is (.int .u8 k)]]) (Q5 1):=E0 (l:=[()]) (f:=fun _=>k)
theorem SK {n:Nat} (hn:n≤100000000):A7 prog 139 [int ((n:Nat):Int)] (Q5 (SJ n)):=by
 refine fo func139 rfl ⟨rfl,rfl⟩ fun M0 w0=> ?_
 refine ac ?_
 refine an ?_ ?_<;>intro h1 q1
 refine ac ?_
 refine co rfl (C1 rfl underlying3 underlying5 (vl rfl)) (co rfl (AG (xs:=[.tmp 7]) (rows:=[Lw]) rfl rfl underlying138 HP z5 rfl (by decide) ⟨⟨(by exact rfl),VL.le (vl rfl) (Pr.le_trans (Bg _ _) (AD _))⟩,trivial⟩ (by decide)) ?_)
 refine a2 ?_
 · refine Pr.le_trans (Al _ _) (Pr.le_of_eq ?_);unfold SJ;rw [if_pos (by omega)];rfl
 refine a2 ?_
 refine Tr.seq (Tr.block (Tr.Cs 5 1 (Tr.Hg [] trivial (fun (k:Nat) (acc:Nat) v=>[(0,int ((k:Nat):Int)),(3,AZ v (Q5 acc))]) (fun (k:Nat) (acc:Nat) v=>Hp M0 w0 Ot ([As 5 1 v])) (fun (k:Nat) (acc:Nat)=>Kn k+acc=Kn n∧k≤n) (fun (k:Nat) (acc:Nat)=>k) (n) (0) (.slice none 0 0) (⟨by omega,by omega⟩) ⟨ke rfl,⟨_,rfl,CR rfl⟩,trivial⟩ (fun _ _ h=>h) ?_)))
 rintro k acc v ⟨hk1,hk2⟩
 refine an ?_ ?_<;>intro h2 q2
 have hk0:0<k:=by have:=C5.Di h2;omega
 have hdg:=Nx hk0
 have hle:=Mp n
 refine ac ?_
 refine ap ?_
 refine tp rfl (IX rfl (vl rfl) (vl rfl) (by omega)) (tp rfl (C1 rfl underlying3 underlying5 (vl rfl)) (tp rfl (AG (xs:=[.tmp 13]) (rows:=[Lw]) rfl rfl underlying138 HP z5 rfl (by decide) ⟨⟨(by exact rfl),VL.le (vl rfl) (Pr.le_trans (Bg _ _) (AD _))⟩,trivial⟩ (by decide)) ?_))
 refine tm rfl (TO.pad ?_)
 refine TO.Es 0 rfl rfl (by decide) (Cg rfl rfl rfl rfl underlying138 HP Qm z5 (Kf rfl) (Kb rfl) (BV (by exact List.Mem.head _) (vl rfl))) (fun v1=> ?_)
 refine ap ?_
 refine ac ?_
 refine co rfl (Jx rfl (vl rfl) (vl rfl) (by omega)) ?_
 refine ac ?_
 refine Fin.drop 1 ?_
 exact Fin.B7 (k/256) (acc+1) v1 (⟨⟨by omega,by omega⟩,by omega⟩) ⟨⟨_,rfl,int_eq (by rw [Int.tdiv_eq_ediv_of_nonneg (by omega),GR (by unfold HS;omega)];omega)⟩,⟨_,rfl,Ce (by rw [show ([Lw]:List (List Pr))=List.replicate 1 Lw from rfl,Hx,Nat.add_comm])⟩,trivial⟩ (fun _ _ h=>h)
 have hk0:k=0:=by have:=C5.Di h2;omega
 subst hk0
 have hle:=Mp n
 rw [Lx] at hk1
 refine ac ?_
 refine ap ?_
 refine tp rfl (Br rfl underlying138 (Kb rfl)) (tp rfl (ki rfl rfl rfl rfl) (tp rfl (C1 rfl underlying3 underlying5 (vl rfl)) (tp rfl (AG (xs:=[.tmp 22]) (rows:=[Lw]) rfl rfl underlying138 HP z5 rfl (by decide) ⟨⟨(by exact rfl),VL.le (vl rfl) (Pr.le_trans (Bg _ _) (AD _))⟩,trivial⟩ (by decide)) ?_)))
 refine tm rfl (TO.pad ?_)
 refine TO.Es 0 rfl rfl (by decide) (Cg rfl rfl rfl rfl underlying138 HP Qm z5 (Kf rfl) (Kb rfl) (BV (by exact List.Mem.head _) (vl rfl))) (fun v2=> ?_)
 refine ap ?_
 refine ac ?_
 · refine Pr.le_trans (Aj _ _) (Pr.le_of_eq ?_);unfold SJ;rw [if_neg (by omega),show ([Lw]:List (List Pr))=List.replicate 1 Lw from rfl,Hx,show acc=Kn n by omega]
theorem PX {t:Int} {b:Nat} {n:Bool} {m:Nat} {q:Pr} {B:Nat}  (hb:b≤1000) (hm:m≤20) (hB:B≤1000000) (ih:m=0∨A7 prog 119 [agg (Au q)] (DM B)):A7 prog 119 [agg [int t,Q5 b,bool n,slice 4 (List.replicate m (Au q))]] (DM (2*(1000+20*B)+2)):=by
 refine fo func119 rfl ⟨rfl,rfl⟩ fun M0 w0=> ?_
 have hlr:(List.replicate m (Au q)).length=m:=List.length_replicate
 have hlb:(List.replicate b Lw).length=b:=List.length_replicate
 refine ac ?_
 refine ap ?_
 refine TO.pad ?_
 refine TO.Es 0 rfl rfl (by decide) (Cg rfl rfl rfl rfl underlying138 HP Qm z5 (Kf rfl) (vl rfl) (BV (by exact List.Mem.head _) (vl rfl))) (fun v1=> ?_)
 refine ap ?_
 refine ac ?_
 refine Tr.block (Tr.Hg [(1,_)] ⟨ke rfl,trivial⟩ (fun (k:Nat) (acc:Nat) v=>[(4,int ((k:Nat):Int)),(3,AZ v (Q5 acc))]) (fun (k:Nat) (acc:Nat) v=>Hp M0 w0 Ot ([As 5 1 v])) (fun (k:Nat) (acc:Nat)=>k≤m∧acc≤b+k*B) (fun (k:Nat) (acc:Nat)=>m-k) (0) (b) v1 (⟨by omega,by omega⟩) ⟨ke rfl,⟨_,rfl,Ce (by simp)⟩,trivial⟩ (fun _ _ h=>h) ?_)
 rintro k acc v ⟨hk1,hk2⟩
 have hkB:k*B≤20*B:=Nat.mul_le_mul_right B (by omega)
 refine ac ?_
 refine co rfl (Br rfl underlying163 (vl rfl)) ?_
 refine an ?_ ?_<;>intro h1 q1
 have hkm:k<m:=by have:=C5.Di h1;rw [hlr] at this;omega
 have ih2:=ih.resolve_left (by omega)
 refine ac ?_
 refine ap ?_
 refine tp rfl (AA rfl underlying163 Bb (vl rfl) (vl rfl) (by omega) (GC hkm)) (tp rfl (AM rfl Bu Bb (vl rfl) rfl rfl) (tp rfl (Ca (ih2) rfl rfl) ?_))
 refine TO.ex 22 rfl (fun z22=>TO.fact 22 rfl fun qb=> ?_)
 refine TO.Es 0 rfl rfl (by decide) (Cg rfl rfl rfl rfl underlying138 HP Qm z5 (Kb rfl) (vl rfl) (Bk (by exact List.Mem.head _) (Ka rfl))) (fun v2=> ?_)
 refine ap ?_
 refine O6 1 3 4 rfl ?_
 refine ac ?_
 exact Fin.B7 (k+1) (acc+z22) v2 (⟨⟨by omega,by rw [Nat.succ_mul];omega⟩,by omega⟩) ⟨⟨_,rfl,AF k⟩,⟨_,rfl,Ce (by rw [Hx])⟩,ke rfl,trivial⟩ (fun _ _ h=>h)
 have ou:k=m:=by have:=C5.Di h1;rw [hlr] at this;omega
 have hll:=Q7 acc
 refine ac ?_
 refine Tr.seq (Tr.pad (Tr.rx ?_))
 refine ay ?_
 refine xo rfl (fun _=>C1 rfl underlying3 underlying5 (vl rfl)) (xo rfl (fun _=>AG (xs:=[.tmp 26]) (rows:=[Lw]) rfl rfl underlying138 HP z5 rfl (by decide) ⟨⟨(by exact rfl),VL.le (vl rfl) (Pr.le_trans (Bg _ _) (AD _))⟩,trivial⟩ (by decide)) ?_)
 refine xm rfl (xo rfl (fun _=>Br rfl underlying138 (Kb rfl)) ?_)
 refine xo rfl (fun _=>Ag rfl (SK (n:=acc) (by omega)) ⟨⟨_,rfl,int_eq (by simp)⟩,trivial⟩) ?_
 refine Cx.ef 0 rfl rfl (by decide) (Cg rfl rfl rfl rfl underlying138 HP Qm z5 (Kf rfl) (vl rfl) (BV (by exact List.Mem.head _) (vl rfl))) ?_
 refine xm rfl ?_
 refine Cx.ef 0 rfl rfl (by decide) (Cg rfl rfl rfl rfl underlying138 HP Qm z5 (vl rfl) (Kb rfl) Rp) ?_
 refine Cx.ef 0 rfl rfl (by decide) (MO rfl rfl (by decide) rfl (vl rfl)) ?_
 refine Cx.nil ⟨by kernel_rfl,?_⟩
 refine BH.open_ 0 2 rfl rfl (fun v3=> ?_)
 refine BH.done al2 (Fin.go (Fl 2 rfl ?_))
 refine ac ?_
 · exact BX (m:=1+SJ acc+acc) (by have:=Q7 acc;omega) (Pr.le_trans (Aj _ _) (Pr.le_of_eq (by rw [show ([Lw]:List (List Pr))=List.replicate 1 Lw from rfl,Hx,Hx])))
theorem SL {q:Pr} {D B:Nat} (hf:A7 prog 117 [agg (Au q)] Nw) (hd:A7 prog 118 [agg (Au q)] (HC D)) (hp:A7 prog 119 [agg (Au q)] (DM B)):A7 prog 91 [agg (Au q)] (IM [DM B,G9 .i64]):=by
 refine fo func91 rfl ⟨rfl,rfl⟩ fun M0 w0=> ?_
 refine ac ?_
 refine ap ?_
 refine tp rfl (Ca (hf) rfl rfl) ?_
 refine TO.ex 6 rfl (fun z6=> ?_)
 refine ap ?_
 refine Tr.cn rfl ?_ ?_<;>intro h1 q1
 refine ac ?_
 refine Tr.ret (Fin.AE (Fin.EO rfl (Cq.HN _ _) rfl ?_ rfl ?_))
 · exact BX (m:=0) (by omega) (AL 1)
 · exact Bg _ _
 refine ac ?_
 refine ap ?_
 refine tp rfl (Ca (hd) rfl rfl) ?_
 refine TO.ex 9 rfl (fun z9=>TO.fact 9 rfl fun hz9=> ?_)
 refine ap ?_
 refine Tr.cn rfl ?_ ?_<;>intro h2 q2
 refine ac ?_
 refine Tr.ret (Fin.AE (Fin.EO rfl (Cq.HN _ _) rfl ?_ rfl ?_))
 · exact BX (m:=0) (by omega) (AL 1)
 · exact Bg _ _
 refine a2 ?_
 refine co rfl (Ca (hp) rfl rfl) ?_
 refine ac ?_
 refine ap ?_
 refine TO.ex 13 rfl (fun z13=>TO.fact 13 rfl fun qc=> ?_)
 refine tp rfl (Br rfl underlying138 (vl rfl)) ?_
 refine ap ?_
 refine EZ 4 15 rfl ?_
 refine Tr.cn rfl ?_ ?_<;>intro h3 q3
 refine ac ?_
 refine Tr.ret (Fin.AE (Fin.EO rfl (Cq.HN _ _) rfl ?_ rfl ?_))
 · exact BX (m:=0) (by omega) (AL 1)
 · exact Bg _ _
 refine a2 ?_
 refine Tr.ret (Fin.EO rfl (Cq.HN _ _) rfl ?_ rfl ?_)
 · exact Lr
 · exact Bg _ _
theorem XX:IntKind.u8.wrap 0=0:=rfl
def Gp (x h:Int):Nat:=(2*x).toNat+(if 128≤h then 1 else 0)
theorem EW {x h:Int} {t:Nat} (h0:0≤x) (hc:x≠0∨128≤h) (hi:t+Gp x h≤400):(0≤x/256∧t+1+Gp (x/256) (IntKind.u8.wrap x)≤400)∧Gp (x/256) (IntKind.u8.wrap x)<Gp x h:=by
 have key:Gp (x/256) (IntKind.u8.wrap x)<Gp x h:=by
  unfold Gp
  by_cases hx:x=0
  ·
   subst hx
   rw [XX,if_neg (by omega),if_pos (by omega)];decide
  ·
   have:(if 128≤IntKind.u8.wrap x then 1 else 0)≤1:=by split<;>omega
   have:0≤(if 128≤h then 1 else 0):=by split<;>omega
   omega
 exact ⟨⟨by omega,by omega⟩,key⟩
theorem Eh {P:Program} {I:Bn} {E:Env} {o:Oper} {t u:TypeId} {x y:Operand} {m:Int} (ho:o.op= .binOp .shr t x y u) (hx:VL E x (int m)) (hy:VL E y (is (.int .u64 8))) (h0:0≤m):AH P I o E (int (m/256)):=
 AH.same fun M w a he _=>by
  have h1:a.eval x= .int .i64 m:=hx.ev he (by simp [ho,Op.operands])
  have h2:a.eval y= .int .u64 8:=hy.ev he (by simp [ho,Op.operands])
  refine ⟨.int .i64 (m.fdiv 256),?_,congrArg (Value.int .i64) (Int.fdiv_eq_ediv_of_nonneg m (by omega))⟩
  simp only [execOp,ho,h1,h2]
  simp [eqGuard,binOp,Op.shift,IntKind.bits]
abbrev q0:Pr:=slice 4 []
theorem HD {n:Int} (hn:0≤n∧n≤40000):A7 prog 122 [int n] (agg (Au q0)):=by
 refine fo func122 rfl ⟨rfl,rfl⟩ fun M0 w0=>(Tr.seq (Tr.Az ?_))
 refine Tl rfl rfl rfl rfl Ij Gm (fun b1=> ?_)
 refine ap ?_
 refine ac ?_
 refine co rfl (C1 rfl underlying3 underlying5 (vl rfl)) ?_
 refine a2 ?_
 refine co rfl (Eh rfl (vl rfl) (vl rfl) (by omega)) ?_
 refine ac ?_
 refine Tr.block ?_
 refine Tr.KD [(2,_)] ⟨ke rfl,trivial⟩ (fun (x:Int) (h:Int) (t:List Int)=>[(4,int x),(3,slice 1 ((h::t).map fun n=>[is (.int .u8 n)]))]) (fun (x:Int) (h:Int) (t:List Int)=>Hp M0 w0 Ot ([AB true b1 165 (([.int .i64 0,.slice none 0 0,.bool false,.slice none 0 0]:List Value).map is)])) (fun (x:Int) (h:Int) (t:List Int)=>0≤x∧t.length+Gp x h≤400) (fun (x:Int) (h:Int) (t:List Int)=>Gp x h) (n/256) (IntKind.u8.wrap n) ([])  (⟨by omega,by unfold Gp;simp only [List.length_nil];split<;>omega⟩) ⟨ke rfl,⟨_,rfl,Pr.le_trans (Al _ _) (Pr.le_of_eq rfl)⟩,trivial⟩ (fun _ _ h=>h) ?_
 rintro x h t  ⟨hx0,ah⟩
 refine ag ?_ ?_<;>intro h1 q1
 refine ag ?_ ?_<;>intro h2 q2
 refine ac ?_
 refine FO 2 3 4 35 rfl ?_
 refine ac ?_
 refine ap ?_
 refine tp rfl (C1 rfl underlying3 underlying5 (vl rfl)) ?_
 refine ap ?_
 refine TO.pad ?_
 refine TO.Es 0 rfl rfl (by decide) (Cg rfl rfl rfl rfl underlying138 HP Qm z5 (Kf rfl) (vl rfl) (BV (by exact List.Mem.head _) (vl rfl))) (fun v1=> ?_)
 refine ap ?_
 refine ac ?_
 refine co rfl (Eh rfl (vl rfl) (vl rfl) (by omega)) ?_
 refine ac ?_
 refine Fin.drop 0 (Fin.D4 (x/256) (IntKind.u8.wrap x) (h::t)  ((EW hx0 (by omega) ah)) ⟨ke rfl,⟨_,rfl,Pr.le_trans (Aj _ _) (Pr.le_of_eq rfl)⟩,ke rfl,trivial⟩ (fun _ _ h=>h))
 refine ag ?_ ?_<;>intro h3 q3
 refine Lb h3 rfl ?_
 refine cy h3 rfl (AA rfl underlying138 HP (vl rfl) (vl rfl) (by omega) (Ah (k:=0) rfl)) ?_
 refine ag ?_ ?_<;>intro h4 q4
 refine ac ?_
 refine FO 2 3 4 35 rfl ?_
 refine ac ?_
 refine ap ?_
 refine tp rfl (C1 rfl underlying3 underlying5 (vl rfl)) ?_
 refine ap ?_
 refine TO.pad ?_
 refine TO.Es 0 rfl rfl (by decide) (Cg rfl rfl rfl rfl underlying138 HP Qm z5 (Kf rfl) (vl rfl) (BV (by exact List.Mem.head _) (vl rfl))) (fun v2=> ?_)
 refine ap ?_
 refine ac ?_
 refine co rfl (Eh rfl (vl rfl) (vl rfl) (by omega)) ?_
 refine ac ?_
 refine Fin.drop 0 (Fin.D4 (x/256) (IntKind.u8.wrap x) (h::t)  ((EW hx0 (by omega) ah)) ⟨ke rfl,⟨_,rfl,Pr.le_trans (Aj _ _) (Pr.le_of_eq rfl)⟩,ke rfl,trivial⟩ (fun _ _ h=>h))
 refine ag ?_ ?_<;>intro h5 q5
 refine Lb h5 rfl ?_
 refine cy h5 rfl (AA rfl underlying138 HP (vl rfl) (vl rfl) (by omega) (Ah (k:=0) rfl)) ?_
 refine ac ?_
 refine FO 2 3 4 35 rfl ?_
 refine Tr.cn rfl ?_ ?_<;>intro h6 q6
 have aj:=h6
 refine ac ?_
 refine ap ?_
 refine tp rfl (C1 rfl underlying3 underlying5 (vl rfl)) ?_
 refine ap ?_
 refine TO.pad ?_
 refine TO.Es 0 rfl rfl (by decide) (Cg rfl rfl rfl rfl underlying138 HP Qm z5 (Kf rfl) (vl rfl) (BV (by exact List.Mem.head _) (vl rfl))) (fun v3=> ?_)
 refine ap ?_
 refine ac ?_
 refine co rfl (Eh rfl (vl rfl) (vl rfl) (by omega)) ?_
 refine ac ?_
 refine Fin.drop 0 (Fin.D4 (x/256) (IntKind.u8.wrap x) (h::t)  ((EW hx0 (by omega) ah)) ⟨ke rfl,⟨_,rfl,Pr.le_trans (Aj _ _) (Pr.le_of_eq rfl)⟩,ke rfl,trivial⟩ (fun _ _ h=>h))
 have aj:=h6
 refine ac ?_
 refine ap ?_
 refine Tr.ret (Fin.C2 rfl (BE.cell 0 rfl rfl Bu Bb rfl (Lr)) ?_)
 · exact A_ ⟨Bg _ _,BX (m:=(h::t).length) (by simp only [List.length_cons];omega) E0,BW _ (Lr),AL 4,trivial⟩
 refine ac ?_
 refine FO 2 3 4 35 rfl ?_
 refine ac ?_
 refine ap ?_
 refine Tr.ret (Fin.C2 rfl (BE.cell 0 rfl rfl Bu Bb rfl (Lr)) ?_)
 · exact A_ ⟨Bg _ _,BX (m:=(h::t).length) (by simp only [List.length_cons];omega) E0,BW _ (Lr),AL 4,trivial⟩
 refine ag ?_ ?_<;>intro h7 q7
 refine Lb h7 rfl ?_
 refine cy h7 rfl (AA rfl underlying138 HP (vl rfl) (vl rfl) (by omega) (Ah (k:=0) rfl)) ?_
 refine ac ?_
 refine FO 2 3 4 35 rfl ?_
 refine Tr.cn rfl ?_ ?_<;>intro h8 q8
 have aj:=h8
 refine ac ?_
 refine ap ?_
 refine tp rfl (C1 rfl underlying3 underlying5 (vl rfl)) ?_
 refine ap ?_
 refine TO.pad ?_
 refine TO.Es 0 rfl rfl (by decide) (Cg rfl rfl rfl rfl underlying138 HP Qm z5 (Kf rfl) (vl rfl) (BV (by exact List.Mem.head _) (vl rfl))) (fun v4=> ?_)
 refine ap ?_
 refine ac ?_
 refine co rfl (Eh rfl (vl rfl) (vl rfl) (by omega)) ?_
 refine ac ?_
 refine Fin.drop 0 (Fin.D4 (x/256) (IntKind.u8.wrap x) (h::t)  ((EW hx0 (by omega) ah)) ⟨ke rfl,⟨_,rfl,Pr.le_trans (Aj _ _) (Pr.le_of_eq rfl)⟩,ke rfl,trivial⟩ (fun _ _ h=>h))
 have aj:=h8
 refine ac ?_
 refine ap ?_
 refine Tr.ret (Fin.C2 rfl (BE.cell 0 rfl rfl Bu Bb rfl (Lr)) ?_)
 · exact A_ ⟨Bg _ _,BX (m:=(h::t).length) (by simp only [List.length_cons];omega) E0,BW _ (Lr),AL 4,trivial⟩
 refine ac ?_
 refine FO 2 3 4 35 rfl ?_
 refine ac ?_
 refine ap ?_
 refine Tr.ret (Fin.C2 rfl (BE.cell 0 rfl rfl Bu Bb rfl (Lr)) ?_)
 · exact A_ ⟨Bg _ _,BX (m:=(h::t).length) (by simp only [List.length_cons];omega) E0,BW _ (Lr),AL 4,trivial⟩
 refine ag ?_ ?_<;>intro h9 q9
 refine Lb h9 rfl ?_
 refine cy h9 rfl (AA rfl underlying138 HP (vl rfl) (vl rfl) (by omega) (Ah (k:=0) rfl)) ?_
 refine ag ?_ ?_<;>intro h10 S6
 refine ac ?_
 refine FO 2 3 4 35 rfl ?_
 refine ac ?_
 refine ap ?_
 refine tp rfl (C1 rfl underlying3 underlying5 (vl rfl)) ?_
 refine ap ?_
 refine TO.pad ?_
 refine TO.Es 0 rfl rfl (by decide) (Cg rfl rfl rfl rfl underlying138 HP Qm z5 (Kf rfl) (vl rfl) (BV (by exact List.Mem.head _) (vl rfl))) (fun v5=> ?_)
 refine ap ?_
 refine ac ?_
 refine co rfl (Eh rfl (vl rfl) (vl rfl) (by omega)) ?_
 refine ac ?_
 refine Fin.drop 0 (Fin.D4 (x/256) (IntKind.u8.wrap x) (h::t)  ((EW hx0 (by omega) ah)) ⟨ke rfl,⟨_,rfl,Pr.le_trans (Aj _ _) (Pr.le_of_eq rfl)⟩,ke rfl,trivial⟩ (fun _ _ h=>h))
 refine ag ?_ ?_<;>intro h11 WB
 refine Lb h11 rfl ?_
 refine cy h11 rfl (AA rfl underlying138 HP (vl rfl) (vl rfl) (by omega) (Ah (k:=0) rfl)) ?_
 refine ac ?_
 refine FO 2 3 4 35 rfl ?_
 refine Tr.cn rfl ?_ ?_<;>intro h12 dc
 have aj:=h12
 refine ac ?_
 refine ap ?_
 refine tp rfl (C1 rfl underlying3 underlying5 (vl rfl)) ?_
 refine ap ?_
 refine TO.pad ?_
 refine TO.Es 0 rfl rfl (by decide) (Cg rfl rfl rfl rfl underlying138 HP Qm z5 (Kf rfl) (vl rfl) (BV (by exact List.Mem.head _) (vl rfl))) (fun v6=> ?_)
 refine ap ?_
 refine ac ?_
 refine co rfl (Eh rfl (vl rfl) (vl rfl) (by omega)) ?_
 refine ac ?_
 refine Fin.drop 0 (Fin.D4 (x/256) (IntKind.u8.wrap x) (h::t)  ((EW hx0 (by omega) ah)) ⟨ke rfl,⟨_,rfl,Pr.le_trans (Aj _ _) (Pr.le_of_eq rfl)⟩,ke rfl,trivial⟩ (fun _ _ h=>h))
 have aj:=h12
 refine ac ?_
 refine ap ?_
 refine Tr.ret (Fin.C2 rfl (BE.cell 0 rfl rfl Bu Bb rfl (Lr)) ?_)
 · exact A_ ⟨Bg _ _,BX (m:=(h::t).length) (by simp only [List.length_cons];omega) E0,BW _ (Lr),AL 4,trivial⟩
 refine ac ?_
 refine FO 2 3 4 35 rfl ?_
 refine ac ?_
 refine ap ?_
 refine Tr.ret (Fin.C2 rfl (BE.cell 0 rfl rfl Bu Bb rfl (Lr)) ?_)
 · exact A_ ⟨Bg _ _,BX (m:=(h::t).length) (by simp only [List.length_cons];omega) E0,BW _ (Lr),AL 4,trivial⟩
 refine ag ?_ ?_<;>intro Q2 aP
 refine Lb Q2 rfl ?_
 refine cy Q2 rfl (AA rfl underlying138 HP (vl rfl) (vl rfl) (by omega) (Ah (k:=0) rfl)) ?_
 refine ac ?_
 refine FO 2 3 4 35 rfl ?_
 refine Tr.cn rfl ?_ ?_<;>intro NF lF
 have aj:=NF
 refine ac ?_
 refine ap ?_
 refine tp rfl (C1 rfl underlying3 underlying5 (vl rfl)) ?_
 refine ap ?_
 refine TO.pad ?_
 refine TO.Es 0 rfl rfl (by decide) (Cg rfl rfl rfl rfl underlying138 HP Qm z5 (Kf rfl) (vl rfl) (BV (by exact List.Mem.head _) (vl rfl))) (fun v7=> ?_)
 refine ap ?_
 refine ac ?_
 refine co rfl (Eh rfl (vl rfl) (vl rfl) (by omega)) ?_
 refine ac ?_
 refine Fin.drop 0 (Fin.D4 (x/256) (IntKind.u8.wrap x) (h::t)  ((EW hx0 (by omega) ah)) ⟨ke rfl,⟨_,rfl,Pr.le_trans (Aj _ _) (Pr.le_of_eq rfl)⟩,ke rfl,trivial⟩ (fun _ _ h=>h))
 have aj:=NF
 refine ac ?_
 refine ap ?_
 refine Tr.ret (Fin.C2 rfl (BE.cell 0 rfl rfl Bu Bb rfl (Lr)) ?_)
 · exact A_ ⟨Bg _ _,BX (m:=(h::t).length) (by simp only [List.length_cons];omega) E0,BW _ (Lr),AL 4,trivial⟩
 refine ac ?_
 refine FO 2 3 4 35 rfl ?_
 refine ac ?_
 refine ap ?_
 refine Tr.ret (Fin.C2 rfl (BE.cell 0 rfl rfl Bu Bb rfl (Lr)) ?_)
 · exact A_ ⟨Bg _ _,BX (m:=(h::t).length) (by simp only [List.length_cons];omega) E0,BW _ (Lr),AL 4,trivial⟩
theorem Mq {s:List UInt8} (hs:s.length≤1000):A7 prog 120 [str s] (agg (Au q0)):=by
 refine fo func120 rfl ⟨rfl,rfl⟩ fun M0 w0=>(Tr.seq (Tr.Az ?_))
 refine Tl rfl rfl rfl rfl Ij Gm (fun b1=> ?_)
 refine ap ?_
 refine ap ?_
 refine tp rfl (KQ rfl underlying9 underlying138 underlying5 (vl rfl) (by unfold maxLen;omega)) ?_
 refine ap ?_
 refine Tr.ret (Fin.C2 rfl (BE.cell 0 rfl rfl Bu Bb rfl (Lr)) ?_)
 · exact A_ ⟨Bg _ _,BX (m:=s.length) (by omega) (E0 (f:=fun c:UInt8=>((c.toNat:Nat):Int))),BW _ (Lr),AL 4,trivial⟩
theorem XY {b:Bool}  :A7 prog 124 [bool b] (agg (Au q0)):=by
 refine fo func124 rfl ⟨rfl,rfl⟩ fun M0 w0=>(Tr.seq (Tr.Az ?_))
 refine Tl rfl rfl rfl rfl Ij Gm (fun b1=> ?_)
 refine ap ?_
 refine an ?_ ?_<;>intro h1 q1
 refine ap ?_
 refine tp rfl (Ab (rows:=[(0,[_]),(1,[_])]) rfl Tp Gm ⟨⟨rfl,(Vo rfl)⟩,⟨⟨rfl,⟨_,rfl,Pr.le_trans (Al _ _) (AD _)⟩⟩,trivial⟩⟩ rfl) ?_
 refine ap ?_
 refine Tr.ret (Fin.AE (Fin.C2 rfl (BE.cell 0 rfl rfl Bu Bb rfl (Lr)) ?_))
 · exact A_ ⟨Bg _ _,BX (m:=1) (by omega) (Q8 _),BW _ (Lr),AL 4,trivial⟩
 refine ac ?_
 refine ap ?_
 refine tp rfl (Ab (rows:=[(0,[_]),(1,[_])]) rfl Tp Gm ⟨⟨rfl,(Vo rfl)⟩,⟨⟨rfl,⟨_,rfl,Pr.le_trans (Al _ _) (AD _)⟩⟩,trivial⟩⟩ rfl) ?_
 refine ap ?_
 refine Tr.ret (Fin.C2 rfl (BE.cell 0 rfl rfl Bu Bb rfl (Lr)) ?_)
 · exact A_ ⟨Bg _ _,BX (m:=1) (by omega) (Q8 _),BW _ (Lr),AL 4,trivial⟩
theorem Iq {m:Nat} {q:Pr} [One q]  (hm:m≤20) (ih:m=0∨A7 prog 140 [q] q):A7 prog 140 [slice 4 (List.replicate m (Au q))] (slice 4 (List.replicate m (Au q))):=by
 refine A7.of func140 rfl rfl (by exact Nb rfl) fun M0 w0=> ?_
 have hlr:(List.replicate m (Au q)).length=m:=List.length_replicate
 refine Tr.seq (Tr.Ai (cm rfl (Ch.nil (Fin.go (Tr.seq (Tr.Ai (cm rfl (Ch.nil (Fin.go (Tr.seq (Tr.seq (Tr.Ai (cm rfl ?_)))))))))))))
 refine Ch.nil (Fin.go (Tr.block (Tr.Cs 165 4 (Tr.MQ [(0,_)] ⟨ke rfl,trivial⟩ (fun k v=>[(4,int ((k:Nat):Int)),(3,AZ v (slice 4 (List.replicate k (Au q))))]) (fun k v=>Hp M0 w0 Ot ([As 165 4 v])) (fun k:Nat=>k≤((List.replicate m (Au q)).length)) (fun k:Nat=>((List.replicate m (Au q)).length)-k) 0 (.slice none 0 0) (Nat.zero_le _) ⟨ke rfl,⟨_,rfl,CR rfl⟩,trivial⟩ (fun _ _ h=>h) ?_))))
 rintro k v BO
 refine Tr.seq (Tr.seq (Tr.Ai (cm rfl (cm rfl (co rfl (Br rfl underlying163 (vl rfl)) (co rfl (ki rfl rfl rfl rfl) (Ch.nil (Fin.go ?_))))))))
 refine Tr.cn rfl ?_ ?_<;>intro h1 q1
 have Ad:k<((List.replicate m (Au q)).length):=AQ h1
 have hkm:k<m:=by simpa using Ad
 have ih2:=ih.resolve_left (by omega)
 refine Tr.skip (Fin.go (Tr.seq (Tr.block (Tr.seq (Tr.Az (tm rfl (tm rfl (tp rfl (AA rfl underlying163 Bb (vl rfl) (vl rfl) (by omega) (GC hkm)) (tp rfl (AM rfl Bu Bb (vl rfl) rfl rfl) ?_)))))))))
 refine Tl rfl rfl rfl rfl Ij Gm (fun b1=> ?_)
 refine TO.At 0 rfl rfl rfl (vl rfl) (Va rfl) rfl Bb rfl rfl (TO.nil (Fin.go (Tr.seq (Tr.Az (tp rfl (AG (xs:=[]) (rows:=[]) rfl rfl underlying138 HP z5 rfl (by decide) trivial (by decide)) (tp rfl (AO rfl Mf (vl rfl)) (TO.rd 0 rfl rfl rfl (by decide) (Aq rfl To (vl rfl) rfl) ?_)))))))
 refine TO.ex 18 rfl (fun mE=>TO.fact 18 rfl fun ot=> ?_)
 refine TO.pad ?_
 refine TO.Es 0 rfl rfl (by decide) (Cg rfl rfl rfl rfl underlying138 HP Qm z5 (Kf rfl) (vl rfl) (BV (by exact List.Mem.head _) (vl rfl))) (fun v1=> ?_)
 refine tp rfl (AO rfl Mf (vl rfl)) (TO.E3 1 rfl rfl (BI rfl rfl (vl rfl) (Vo rfl) fM rfl (by exact Nb rfl) rfl) (TO.nil (Fin.go (FO 0 3 4 5 rfl (Tr.seq (Tr.Az (tp rfl (AO rfl Hl (vl rfl)) (TO.rd 1 rfl rfl rfl (by decide) (Aq rfl Me (vl rfl) rfl) (tp rfl (Ag rfl (ih2) ⟨ke rfl,trivial⟩) (tp rfl (AO rfl Hl (vl rfl)) (TO.E3 1 rfl rfl (BI rfl rfl (vl rfl) (Vo rfl) fP rfl (by exact Nb rfl) rfl) (TO.nil (Fin.go (Tr.Az ?_))))))))))))))
 refine tm rfl (TO.rd 1 rfl rfl rfl (by decide) (CX rfl Bu Bb (vl rfl) rfl rfl) (tp rfl (AG (xs:=[.tmp 26]) (rows:=[Au q]) rfl rfl underlying163 Bb Ij rfl (by decide) ⟨⟨(by exact rfl),VL.le (vl rfl) (Pr.le_trans (A_ (qs:=Au q) ⟨Lr,BX (m:=mE) (by omega) (Pr.le_trans (Aj _ _) (Pr.le_of_eq rfl)),Lr,Lr,trivial⟩) (AV _))⟩,trivial⟩ (by decide)) ?_))
 refine TO.Es 2 rfl rfl (by decide) (Cg rfl rfl rfl rfl underlying163 Bb Yh Ij (Kb rfl) (Kf rfl) (Bk (by exact List.Mem.head _) (Ka rfl))) (fun v2=> ?_)
 refine tm rfl (TO.nil (Fin.block (Fin.go (Tr.drop 1 (Tr.Ai (cm rfl (O5 rfl rfl rfl rfl (by omega) (cm rfl (Ch.nil (Fin.drop 0 (Fin.Qi (k+1) v2 (⟨Ad,by omega⟩) ⟨⟨_,rfl,AF k⟩,⟨_,rfl,Ce (by rw [Q6])⟩,ke rfl,trivial⟩ (fun _ _ h=>h))))))))))))
 have BF:k=((List.replicate m (Au q)).length):=by have:=AR h1;omega
 refine Tr.exit (Fin.AU (Fin.AU (Fin.Am (Fin.go (Tr.seq (Tr.Ai (cm rfl (cm rfl (Ch.nil (Fin.go (Tr.ret (Fin.ZI rfl (Cq.HN _ _) rfl ?_))))))))))))
 · exact Pr.le_trans (Aj _ _) (Pr.le_of_eq (by rw [BF,hlr]))
theorem Ms {m:Nat} {q:Pr}  (hm:m≤20) (hc:A7 prog 140 [slice 4 (List.replicate m (Au q))] (slice 4 (List.replicate m (Au q)))):A7 prog 121 [slice 4 (List.replicate m (Au q))] (agg (Au (GA (Au q)))):=by
 refine fo func121 rfl ⟨rfl,rfl⟩ fun M0 w0=>(Tr.seq (Tr.Az ?_))
 refine Tl rfl rfl rfl rfl Ij Gm (fun b1=> ?_)
 refine ap ?_
 refine ap ?_
 refine tp rfl (Ca (hc) rfl rfl) ?_
 refine ap ?_
 refine Tr.ret (Fin.C2 rfl (BE.cell 0 rfl rfl Bu Bb rfl (Lr)) ?_)
 · exact A_ ⟨Bg _ _,BX (m:=0) (by omega) (AL 1),BW _ (Lr),BW m (CS hm (Lr)),trivial⟩
structure GW.vf (c:GW):Prop where
 s0:0≤c.F9
 s1:c.F9≤1099511627776
 iss:named c.HB=true
 sub:named c.FW=true
 nm:Dv c.names=true
 key:Ji c.LO c.Gn 2=true
 k0:0≤c.Da
 k1:c.Da≤2147483648
 hash:Ji c.PT c.Kh 1=true
 sk0:0≤c.XI
 sk1:c.XI≤2147483648
 su0:0≤c.XJ
 su1:c.XJ<4294967296
 f0:0≤c.from_
 ft:c.from_≤c.dZ
 t1:c.dZ≤40000
 p0:0≤c.path
 p1:c.path≤8
 ap:c.auth=true∨c.path=0
theorem Uf {c:GW} (hv:CK c=true):c.vf:=by
 simp only [CK,Gd,R5,Bool.and_eq_true,Bool.or_eq_true,decide_eq_true_eq,beq_iff_eq] at hv
 obtain ⟨⟨⟨⟨⟨⟨⟨h1,h2⟩,h3⟩,h4⟩,h5⟩,⟨⟨⟨⟨h6,⟨h7,h8⟩⟩,h9⟩,⟨h10,h11⟩⟩,⟨h12,Q2⟩⟩⟩,⟨⟨NF,XW⟩,h16⟩⟩,⟨⟨SH,Yw⟩,iW⟩⟩:=hv
 exact ⟨h1,h2,h3,h4,h5,h6,h7,h8,h9,h10,h11,h12,Q2,NF,XW,h16,SH,Yw,iW⟩
theorem Yy {c:GW} (h:c.vf):CK c=true:=by
 simp only [CK,Gd,R5,Bool.and_eq_true,Bool.or_eq_true,decide_eq_true_eq,beq_iff_eq]
 exact ⟨⟨⟨⟨⟨⟨⟨h.s0,h.s1⟩,h.iss⟩,h.sub⟩,h.nm⟩,⟨⟨⟨⟨h.key,⟨h.k0,h.k1⟩⟩,h.hash⟩,⟨h.sk0,h.sk1⟩⟩,⟨h.su0,h.su1⟩⟩⟩,⟨⟨h.f0,h.ft⟩,h.t1⟩⟩,⟨⟨h.p0,h.p1⟩,h.ap⟩⟩
theorem Ug {a b k:Int} (h:Ji a b k=true):decide (BD a b>0)=true∧(CD a).kind=k:=by
 unfold Ji at h;simpa using h
theorem Mt {l:List (List UInt8)} {k:Nat} {s:List UInt8} (h:nameAt l k=true) (hs:l[k]? =some s):named s=true:=by
 unfold nameAt at h;rw [hs] at h;simp at h;exact h.1
theorem Q9 {l:List (List UInt8)} {k:Nat} {s y:List UInt8} (h:nameAt l k=true) (hs:l[k]? =some s) (hy:l[k-1]? =some y) (hk:0<k):decide (Lib.compareBytes y s= -1)=true:=by
 unfold nameAt at h;rw [hs,hy] at h;simp at h
 rcases h.2 with h2|h2
 · omega
 · simpa using h2
theorem Ly {c:GW} (hv:CK c=true):A7 prog 66 [agg (Dl c)] (int 0):=by
 refine fo func66 rfl ⟨rfl,rfl⟩ fun M0 w0=> ?_
 obtain ⟨hs0,hs1,ak,hsub,hnm,hkey,hk0,hk1,Yz,ow,ox,oy,oz,XZ,hft,ht1,eO,hp1,hap⟩:=Uf hv
 obtain ⟨iX,iY⟩:=Ug hkey
 obtain ⟨hh1,hh2⟩:=Ug Yz
 have Ir:=hnm
 unfold Dv at Ir
 rw [Bool.and_eq_true,Ct,decide_eq_true_eq] at Ir
 obtain ⟨hall,iZ⟩:=Ir
 refine ac ?_
 refine ag ?_ ?_<;>intro h1 q1
 exfalso;have:=q1;omega
 refine ag ?_ ?_<;>intro h2 q2
 exfalso;have:=q2;omega
 refine ac ?_
 refine cy h2 rfl (Ca (Jh) rfl rfl) ?_
 refine ag ?_ ?_<;>intro h3 q3
 rw [ak] at h3;exact absurd h3 (by decide)
 refine ac ?_
 refine cy h3 rfl (Ca (Jh) rfl rfl) ?_
 refine ag ?_ ?_<;>intro h4 q4
 rw [hsub] at h4;exact absurd h4 (by decide)
 refine ac ?_
 refine cy h4 rfl (Ca (Nv) rfl rfl) ?_
 refine ag ?_ ?_<;>intro h5 q5
 rw [iX,iY] at h5;exact absurd h5 (by decide)
 refine ag ?_ ?_<;>intro h6 q6
 exfalso;have:=q6;omega
 refine ac ?_
 refine EZ 1 39 rfl ?_
 refine Tr.cn rfl ?_ ?_<;>intro h7 q7
 exfalso;have:=q7;omega
 refine a2 ?_
 refine co rfl (Ca (Nu) rfl rfl) ?_
 refine ag ?_ ?_<;>intro h8 q8
 rw [hh1] at h8;exact absurd h8 (by decide)
 refine ac ?_
 refine cy h8 rfl (Ca (Q4) rfl rfl) ?_
 refine ag ?_ ?_<;>intro h9 q9
 rw [hh2] at h9;exact absurd h9 (by decide)
 refine ag ?_ ?_<;>intro h10 S6
 exfalso;have:=S6;omega
 refine ag ?_ ?_<;>intro h11 WB
 exfalso;have:=WB;omega
 refine ac ?_
 refine EZ 1 67 rfl ?_
 refine Tr.cn rfl ?_ ?_<;>intro h12 dc
 exfalso;have:=dc;omega
 refine ac ?_
 refine ag ?_ ?_<;>intro Q2 aP
 exfalso;have:=aP;omega
 refine ag ?_ ?_<;>intro NF lF
 exfalso;have:=lF;omega
 refine ag ?_ ?_<;>intro XW oq
 refine ag ?_ ?_<;>intro h16 q16
 exfalso;have:=q16;simp_all
 refine ac ?_
 refine EZ 1 91 rfl ?_
 refine Tr.cn rfl ?_ ?_<;>intro SH lD
 exfalso;have:=lD;omega
 refine a2 ?_
 refine Tr.block (Tr.BK [(1,_)] ⟨ke rfl,trivial⟩ (fun k:Nat=>[(3,int ((k:Nat):Int))]) (fun k:Nat=>k≤(c.names).length) (fun k:Nat=>(c.names).length-k) 0 (Nat.zero_le _) ⟨ke rfl,trivial⟩ ?_)
 rintro k BO
 refine an ?_ ?_<;>intro Yw q18
 have Ad:k<(c.names).length:=AQ Yw
 obtain ⟨s,Ac⟩:=at_ Ad
 have hat:=hall k (by omega)
 have hna:=Mt hat Ac
 refine a2 ?_
 refine co rfl (AA rfl underlying67 MU (vl rfl) (vl rfl) (by omega) (Ah Ac)) (co rfl (G0 rfl NW rfl) (co rfl (Ca (Jh) rfl rfl) ?_))
 refine ag ?_ ?_<;>intro iW q19
 exfalso;rw [hna] at iW;exact absurd iW (by decide)
 refine ag ?_ ?_<;>intro aZ q20
 have SM:0<k:=by simpa using aZ
 obtain ⟨y,hy⟩:=at_ (l:=c.names) (k:=k-1) (by omega)
 have hlt:=Q9 hat Ac hy SM
 refine ac ?_
 refine cy aZ rfl (AA rfl underlying67 MU (vl rfl) (vl rfl) (by omega) (by rw [show ((k:Nat):Int)-1=((k-1:Nat):Int) by omega];exact Ah hy)) ?_
 refine ac ?_
 refine cy aZ rfl (AA rfl underlying67 MU (vl rfl) (vl rfl) (by omega) (Ah Ac)) (cy aZ rfl (G0 rfl NW rfl) (cy aZ rfl (Mh rfl (vl rfl) (vl rfl)) ?_))
 refine ac ?_
 refine O6 1 3 123 rfl ?_
 refine Tr.cn rfl ?_ ?_<;>intro lE q21
 exfalso;rw [hlt] at lE;exact absurd lE (by decide)
 refine a2 ?_
 exact Fin.AP (k+1) ⟨Ad,by omega⟩ ⟨⟨_,rfl,AF k⟩,ke rfl,trivial⟩
 refine ac ?_
 refine O6 1 3 123 rfl ?_
 refine a2 ?_
 exact Fin.AP (k+1) ⟨Ad,by omega⟩ ⟨⟨_,rfl,AF k⟩,ke rfl,trivial⟩
 have BF:k=(c.names).length:=by have:=AR Yw;omega
 refine ac ?_
 refine ag ?_ ?_<;>intro h22 q22
 exfalso;have:=q22;omega
 refine ag ?_ ?_<;>intro h23 q23
 exfalso;have:=q23;omega
 refine ag ?_ ?_<;>intro Ko q24
 exfalso;have:=q24;omega
 refine ac ?_
 refine Fl 145 rfl ?_
 refine Tr.cn rfl ?_ ?_<;>intro h25 q25
 exfalso;have:=q25;omega
 refine a3 ?_
 · exact Lr
 refine ac ?_
 refine EZ 1 91 rfl ?_
 refine Tr.cn rfl ?_ ?_<;>intro h26 q26
 exfalso;have:=q26;omega
 refine a2 ?_
 refine Tr.block (Tr.BK [(1,_)] ⟨ke rfl,trivial⟩ (fun k:Nat=>[(3,int ((k:Nat):Int))]) (fun k:Nat=>k≤(c.names).length) (fun k:Nat=>(c.names).length-k) 0 (Nat.zero_le _) ⟨ke rfl,trivial⟩ ?_)
 rintro k BO
 refine an ?_ ?_<;>intro h27 q27
 have Ad:k<(c.names).length:=AQ h27
 obtain ⟨s,Ac⟩:=at_ Ad
 have hat:=hall k (by omega)
 have hna:=Mt hat Ac
 refine a2 ?_
 refine co rfl (AA rfl underlying67 MU (vl rfl) (vl rfl) (by omega) (Ah Ac)) (co rfl (G0 rfl NW rfl) (co rfl (Ca (Jh) rfl rfl) ?_))
 refine ag ?_ ?_<;>intro h28 q28
 exfalso;rw [hna] at h28;exact absurd h28 (by decide)
 refine ag ?_ ?_<;>intro ia q29
 have SM:0<k:=by simpa using ia
 obtain ⟨y,hy⟩:=at_ (l:=c.names) (k:=k-1) (by omega)
 have hlt:=Q9 hat Ac hy SM
 refine ac ?_
 refine cy ia rfl (AA rfl underlying67 MU (vl rfl) (vl rfl) (by omega) (by rw [show ((k:Nat):Int)-1=((k-1:Nat):Int) by omega];exact Ah hy)) ?_
 refine ac ?_
 refine cy ia rfl (AA rfl underlying67 MU (vl rfl) (vl rfl) (by omega) (Ah Ac)) (cy ia rfl (G0 rfl NW rfl) (cy ia rfl (Mh rfl (vl rfl) (vl rfl)) ?_))
 refine ac ?_
 refine O6 1 3 123 rfl ?_
 refine Tr.cn rfl ?_ ?_<;>intro h30 q30
 exfalso;rw [hlt] at h30;exact absurd h30 (by decide)
 refine a2 ?_
 exact Fin.AP (k+1) ⟨Ad,by omega⟩ ⟨⟨_,rfl,AF k⟩,ke rfl,trivial⟩
 refine ac ?_
 refine O6 1 3 123 rfl ?_
 refine a2 ?_
 exact Fin.AP (k+1) ⟨Ad,by omega⟩ ⟨⟨_,rfl,AF k⟩,ke rfl,trivial⟩
 have BF:k=(c.names).length:=by have:=AR h27;omega
 refine ac ?_
 refine ag ?_ ?_<;>intro h31 q31
 exfalso;have:=q31;omega
 refine ag ?_ ?_<;>intro h32 q32
 exfalso;have:=q32;omega
 refine ag ?_ ?_<;>intro h33 q33
 exfalso;have:=q33;omega
 refine ac ?_
 refine Fl 145 rfl ?_
 refine Tr.cn rfl ?_ ?_<;>intro h34 q34
 exfalso;have:=q34;omega
 refine a3 ?_
 · exact Lr
abbrev Xa:Pr:=Cp.ex fun n:Int=>fact (0≤n∧n<4294967296) (is (.int .u32 n))
abbrev ig:Pr:=Cp.ex fun n:Int=>fact (0≤n∧n<4294967296) (int n)
theorem Xb:Pr.le Xa (G9 .u32):=fun _ _ _ ⟨n,_,h⟩=>⟨n,h⟩
section
variable {P:Program} {I:Bn} {E:Env} {o:Oper}
theorem Uh {s t:TypeId} {x:Operand} {k k':IntKind} (ho:o.op= .convert s t x) (hs:P.underlying s=some (.int k)) (ht:P.underlying t=some (.int k')) (hx:VL E x (G9 k)):AH P I o E (G9 k'):=
 AH.same fun M w a he _=>by
  obtain ⟨n,h1⟩:=hx.ev he (by simp [ho,Op.operands])
  have h1:a.eval x= .int k n:=h1
  refine ⟨.int k' (k'.wrap n),?_,_,rfl⟩
  simp [execOp,ho,h1,convert,run_underlying hs,run_underlying ht,Conv.intToInt,Sem.run_bind]
theorem Xc {t u:TypeId} {x y:Operand} (ho:o.op= .binOp .mul t x y u) (hx:VL E x (G9 .u32)) (hy:VL E y (G9 .u32)):AH P I o E Xa:=
 AH.same fun M w a he _=>by
  obtain ⟨m,h1⟩:=hx.ev he (by simp [ho,Op.operands])
  obtain ⟨n,h2⟩:=hy.ev he (by simp [ho,Op.operands])
  have h1:a.eval x= .int .u32 m:=h1
  have h2:a.eval y= .int .u32 n:=h2
  refine ⟨.int .u32 (IntKind.u32.wrap (m*n)),by simp [execOp,ho,h1,h2,eqGuard,binOp,Op.intArith],_,?_,rfl⟩
  rw [IntKind.wrap_u32];omega
theorem SN {s t:TypeId} {x:Operand} (ho:o.op= .convert s t x) (hs:P.underlying s=some (.int .u32)) (ht:P.underlying t=some (.int .i64)) (hx:VL E x Xa):AH P I o E ig:=
 AH.same fun M w a he _=>by
  obtain ⟨n,hn,h1⟩:=hx.ev he (by simp [ho,Op.operands])
  have h1:a.eval x= .int .u32 n:=h1
  refine ⟨.int .i64 (IntKind.i64.wrap n),?_,n,hn,by rw [GR (by unfold HS;omega)];rfl⟩
  simp [execOp,ho,h1,convert,run_underlying hs,run_underlying ht,Conv.intToInt,Sem.run_bind]
end
theorem A7.GA {P:Program} {f:FuncId} {row:List Pr} (h:∀m,m≤20→A7 P f [slice 4 (List.replicate m row)] (slice 4 (List.replicate m row))):A7 P f [Go.Proofs.YtppdobdifkefcaaGreatDoor.GA row] (Go.Proofs.YtppdobdifkefcaaGreatDoor.GA row):=by
 refine ⟨(h 0 (by omega)).1,fun M w vs hb hv=> ?_⟩
 match vs,hv with
 |[u0],XV=>
  obtain ⟨⟨m,hm,h0⟩,_⟩:=XV
  exact ((h m hm).2 M w [u0] hb ⟨h0,trivial⟩).mono fun e w' ⟨v,h1,h2,h3⟩=>⟨v,h1,⟨m,hm,h2⟩,h3⟩
theorem A7.DM {P:Program} {f:FuncId} {B:Nat} {res:Pr} (h:∀m,m≤B→A7 P f [Q5 m] res):A7 P f [Go.Proofs.YtppdobdifkefcaaGreatDoor.DM B] res:=by
 refine ⟨(h 0 (by omega)).1,fun M w vs hb hv=> ?_⟩
 match vs,hv with
 |[u0],XV=>
  obtain ⟨⟨m,hm,h0⟩,_⟩:=XV
  exact (h m hm).2 M w [u0] hb ⟨h0,trivial⟩
abbrev IK:Pr:=GA (Au q0)
abbrev ij:Pr:=GA (Au IK)
theorem JJ:Pr.le q0 IK:=BW 0 (CS (by omega) (Pr.le_refl _))
theorem rc0:A7 Tryz.prog 140 [q0] q0:=Iq (m:=0) (q:=q0) (by omega) (.inl rfl)
theorem rc1 (m:Nat) (hm:m≤20):A7 Tryz.prog 140 [slice 4 (List.replicate m (Au q0))] (slice 4 (List.replicate m (Au q0))):=Iq hm (.inr rc0)
theorem rc2 (m:Nat) (hm:m≤20):A7 Tryz.prog 140 [slice 4 (List.replicate m (Au IK))] (slice 4 (List.replicate m (Au IK))):=Iq hm (.inr (A7.GA rc1))
theorem rf0:A7 Tryz.prog 117 [agg (Au q0)] Nw:=A7.Ue fun t b n hb=>Ip (m:=0) (q:=q0) hb (by omega) (.inl rfl)
theorem rf1:A7 Tryz.prog 117 [agg (Au IK)] Nw:=A7.Au fun t b n m hb hm=>Ip hb hm (.inr rf0)
theorem rf2:A7 Tryz.prog 117 [agg (Au ij)] Nw:=A7.Au fun t b n m hb hm=>Ip hb hm (.inr rf1)
theorem rd0:A7 Tryz.prog 118 [agg (Au q0)] (HC 1):=A7.Ue fun t b n hb=>Km (m:=0) (q:=q0) (D:=0) hb (by omega) (by omega) (.inl rfl)
theorem rd1:A7 Tryz.prog 118 [agg (Au IK)] (HC 2):=A7.Au fun t b n m hb hm=>Km hb hm (by omega) (.inr rd0)
theorem rd2:A7 Tryz.prog 118 [agg (Au ij)] (HC 3):=A7.Au fun t b n m hb hm=>Km hb hm (by omega) (.inr rd1)
theorem rp0:A7 Tryz.prog 119 [agg (Au q0)] (DM 2002):=A7.Ue fun t b n hb=>PX (m:=0) (q:=q0) (B:=0) hb (by omega) (by omega) (.inl rfl)
theorem rp1:A7 Tryz.prog 119 [agg (Au IK)] (DM 82082):=A7.Au fun t b n m hb hm=>PX (B:=2002) hb hm (by omega) (.inr rp0)
theorem rp2:A7 Tryz.prog 119 [agg (Au ij)] (DM 3285282):=A7.Au fun t b n m hb hm=>PX (B:=82082) hb hm (by omega) (.inr rp1)
theorem rE2:A7 Tryz.prog 91 [agg (Au ij)] (IM [DM 3285282,G9 .i64]):=SL rf2 rd2 rp2
structure GW.SO (c:GW):Prop where
 F9:c.F9≤40000
 Da:c.Da≤40000
 LO:0≤c.LO∧c.LO≤40000
 Gn:0≤c.Gn∧c.Gn≤40000
 PT:0≤c.PT∧c.PT≤40000
 Kh:0≤c.Kh∧c.Kh≤40000
theorem GX {s:List UInt8} (h:named s=true):s.length≤32:=by unfold named at h;simp at h;omega
theorem Q_ {a b:Int} (ha:0≤a∧a≤40000) (hb:0≤b∧b≤40000):A7 prog 123 [agg [int a,int b]] (agg (Au IK)):=by
 refine fo func123 rfl ⟨rfl,rfl⟩ fun M0 w0=>(Tr.seq (Tr.Az (tp rfl (Dq rfl (Va rfl)) ?_)))
 refine Tl rfl rfl rfl rfl Ij Gm (fun b1=> ?_)
 refine ap ?_
 refine Tr.seq (Tr.rx ?_)
 refine ay ?_
 refine xo rfl (fun _=>Ca (HD ha) rfl rfl) ?_
 refine ay ?_
 refine xo rfl (fun _=>Ca (HD hb) rfl rfl) (xo rfl (fun _=>AG (xs:=[.tmp 5,.tmp 8]) (rows:=[_,_]) rfl rfl underlying163 Bb Ij rfl (by decide) ⟨⟨(by exact rfl),(Va rfl)⟩,⟨⟨(by exact rfl),(Va rfl)⟩,trivial⟩⟩ (by decide)) ?_)
 refine xo rfl (fun _=>Ag rfl (Ms (m:=2) (q:=q0) (by omega) (rc1 _ (by omega))) ⟨(Kf rfl),trivial⟩) ?_
 refine Cx.E3 0 rfl rfl (BI rfl rfl (vl rfl) (Va rfl) Bb rfl (by exact Nb rfl) rfl) ?_
 refine Cx.nil ⟨by kernel_rfl,?_⟩
 refine BH.done nT (Fin.go (Tr.ret (Fin.C2 rfl (BE.cell 0 rfl rfl Bu Bb rfl (Lr)) ?_)))
 · exact Lr
theorem Ui {c:GW} (hv:CK c=true) (ht:c.SO):A7 prog 92 [agg (Dl c)] (agg (Au ij)):=by
 refine fo func92 rfl ⟨rfl,rfl⟩ fun M0 w0=> ?_
 obtain ⟨hs0,hs1,ak,hsub,hnm,hkey,hk0,hk1,Yz,ow,ox,oy,oz,XZ,hft,ht1,eO,hp1,hap⟩:=Uf hv
 obtain ⟨g1,g2,g3,g4,g5,g6⟩:=ht
 have Ir:=hnm
 unfold Dv at Ir
 rw [Bool.and_eq_true,Ct,decide_eq_true_eq] at Ir
 obtain ⟨hall,iZ⟩:=Ir
 have QX:=GX ak
 have V6:=GX hsub
 refine Tr.seq (Tr.Az (tp rfl (Dq rfl (Va rfl)) ?_))
 refine Tl rfl rfl rfl rfl Ij Gm (fun b1=> ?_)
 refine ap ?_
 refine a2 ?_
 refine Tr.block (Tr.Cs 165 4 (Tr.MQ [(1,_),(2,_)] ⟨ke rfl,ke rfl,trivial⟩ (fun k v=>[(4,int ((k:Nat):Int)),(3,AZ v (slice 4 (List.replicate k (Au q0))))]) (fun k v=>Hp M0 w0 Ot ([As 165 4 v,AB true b1 165 (([.int .i64 0,.slice none 0 0,.bool false,.slice none 0 0]:List Value).map is)])) (fun k:Nat=>k≤(c.names).length) (fun k:Nat=>(c.names).length-k) 0 (.slice none 0 0) (Nat.zero_le _) ⟨ke rfl,⟨_,rfl,CR rfl⟩,trivial⟩ (fun _ _ h=>h) ?_))
 rintro k v BO
 refine an ?_ ?_<;>intro h1 q1
 have Ad:k<(c.names).length:=AQ h1
 obtain ⟨s,Ac⟩:=at_ Ad
 have hsn:=GX (Mt (hall k (by omega)) Ac)
 refine ac ?_
 refine ap ?_
 refine tp rfl (AA rfl underlying67 MU (vl rfl) (vl rfl) (by omega) (by exact Ah (by assumption))) ?_
 refine tp rfl (G0 rfl NW rfl) (tp rfl (Ca (Mq (by omega)) rfl rfl) (tp rfl (AG (xs:=[.tmp 18]) (rows:=[_]) rfl rfl underlying163 Bb Ij rfl (by decide) ⟨⟨(by exact rfl),(Va rfl)⟩,trivial⟩ (by decide)) ?_))
 refine TO.Es 0 rfl rfl (by decide) (Cg rfl rfl rfl rfl underlying163 Bb Yh Ij (Kb rfl) (Kf rfl) (Bk (by exact List.Mem.head _) (Ka rfl))) (fun v1=> ?_)
 refine ap ?_
 refine FO 1 2 3 4 rfl ?_
 refine ac ?_
 exact Fin.Qi (k+1) v1 (⟨Ad,by omega⟩) ⟨⟨_,rfl,AF k⟩,⟨_,rfl,Ce (by rw [Q6])⟩,ke rfl,ke rfl,trivial⟩ (fun _ _ h=>h)
 have BF:k=(c.names).length:=by have:=AR h1;omega
 refine ac ?_
 refine Tr.seq (Tr.rx ?_)
 refine ay ?_
 refine xo rfl (fun _=>Ca (HD (by omega)) rfl rfl) ?_
 refine ay ?_
 refine xo rfl (fun _=>Ca (Mq (by omega)) rfl rfl) ?_
 refine ay ?_
 refine xo rfl (fun _=>Ca (Mq (by omega)) rfl rfl) ?_
 refine ay ?_
 refine xo rfl (fun _=>Ca (Q_ g3 g4) rfl rfl) ?_
 refine ay ?_
 refine xo rfl (fun _=>Ca (HD (by omega)) rfl rfl) ?_
 refine ay ?_
 refine xo rfl (fun _=>Ca (Q_ g5 g6) rfl rfl) ?_
 refine ay ?_
 refine xo rfl (fun _=>Ca (HD (by omega)) rfl rfl) ?_
 refine ay ?_
 refine xo rfl (fun _=>Ca (HD (by omega)) rfl rfl) ?_
 refine ay ?_
 refine xo rfl (fun _=>Ca (XY) rfl rfl) ?_
 refine ay ?_
 refine xo rfl (fun _=>Ca (HD (by omega)) rfl rfl) (xm rfl ?_)
 refine xo rfl (fun _=>Ag rfl (Ms (m:=c.names.length) (q:=q0) (by omega) (rc1 _ (by omega))) ⟨⟨_,rfl,Pr.le_trans (Aj _ _) (Pr.le_of_eq (by rw [BF]))⟩,trivial⟩) ?_
 refine xo rfl (fun _=>AG (xs:=[.tmp 23,.tmp 26,.tmp 29,.tmp 32,.tmp 35,.tmp 38,.tmp 41,.tmp 44,.tmp 47,.tmp 50,.tmp 52]) (rows:=[Au IK,Au IK,Au IK,Au IK,Au IK,Au IK,Au IK,Au IK,Au IK,Au IK,Au IK]) rfl rfl underlying163 Bb Ij rfl (by decide) ⟨⟨(by exact rfl),VL.le (vl rfl) (Pr.le_trans (A_ (qs:=Au IK) ⟨Lr,Lr,Lr,JJ,trivial⟩) (AV _))⟩,⟨⟨(by exact rfl),VL.le (vl rfl) (Pr.le_trans (A_ (qs:=Au IK) ⟨Lr,Lr,Lr,JJ,trivial⟩) (AV _))⟩,⟨⟨(by exact rfl),VL.le (vl rfl) (Pr.le_trans (A_ (qs:=Au IK) ⟨Lr,Lr,Lr,JJ,trivial⟩) (AV _))⟩,⟨⟨(by exact rfl),VL.le (vl rfl) (AV _)⟩,⟨⟨(by exact rfl),VL.le (vl rfl) (Pr.le_trans (A_ (qs:=Au IK) ⟨Lr,Lr,Lr,JJ,trivial⟩) (AV _))⟩,⟨⟨(by exact rfl),VL.le (vl rfl) (AV _)⟩,⟨⟨(by exact rfl),VL.le (vl rfl) (Pr.le_trans (A_ (qs:=Au IK) ⟨Lr,Lr,Lr,JJ,trivial⟩) (AV _))⟩,⟨⟨(by exact rfl),VL.le (vl rfl) (Pr.le_trans (A_ (qs:=Au IK) ⟨Lr,Lr,Lr,JJ,trivial⟩) (AV _))⟩,⟨⟨(by exact rfl),VL.le (vl rfl) (Pr.le_trans (A_ (qs:=Au IK) ⟨Lr,Lr,Lr,JJ,trivial⟩) (AV _))⟩,⟨⟨(by exact rfl),VL.le (vl rfl) (Pr.le_trans (A_ (qs:=Au IK) ⟨Lr,Lr,Lr,JJ,trivial⟩) (AV _))⟩,⟨⟨(by exact rfl),VL.le (vl rfl) (AV _)⟩,trivial⟩⟩⟩⟩⟩⟩⟩⟩⟩⟩⟩ (by decide)) ?_
 refine xo rfl (fun _=>Ag rfl (Ms (m:=11) (q:=IK) (by omega) (rc2 _ (by omega))) ⟨(Kf rfl),trivial⟩) ?_
 refine Cx.E3 1 rfl rfl (BI rfl rfl (vl rfl) (Va rfl) Bb rfl (by exact Nb rfl) rfl) ?_
 refine Cx.nil ⟨by kernel_rfl,?_⟩
 refine BH.done al2 (Fin.go (Fl 2 rfl (Tr.ret (Fin.C2 rfl (BE.cell 1 rfl rfl Bu Bb rfl (Lr)) ?_))))
 · exact Lr
theorem SP {c:GW} (hv:CK c=true) (ht:c.SO):A7 prog 67 [agg (Dl c)] (IM [DM 3285282,G9 .i64]):=by
 refine fo func67 rfl ⟨rfl,rfl⟩ fun M0 w0=> ?_
 refine a2 ?_
 refine co rfl (Ca (Ly hv) rfl rfl) ?_
 refine an ?_ ?_<;>intro h1 q1
 exact absurd h1 (by decide)
 refine a2 ?_
 refine co rfl (Ca (Ui hv ht) rfl rfl) (co rfl (Ca (rE2) rfl rfl) ?_)
 refine ac ?_
 refine Tr.ret (Fin.EO rfl (Cq.HN _ _) rfl ?_ rfl ?_)
 · exact Lr
 · exact Lr
theorem Xd {m:Nat} (hm:m≤100000000):A7 prog 68 [Q5 m] (ig):=by
 refine fo func68 rfl ⟨rfl,rfl⟩ fun M0 w0=> ?_
 have hlr:(List.replicate m Lw).length=m:=List.length_replicate
 refine a3 ?_
 refine Tr.block (Tr.BK [(0,_)] ⟨ke rfl,trivial⟩ (fun k:Nat=>[(4,int ((k:Nat):Int)),(3,Xa)]) (fun k:Nat=>k≤((List.replicate m Lw).length)) (fun k:Nat=>((List.replicate m Lw).length)-k) 0 (Nat.zero_le _) ⟨ke rfl,⟨_,rfl,BW _ (CS (by omega) (Lr))⟩,trivial⟩ ?_)
 rintro k BO
 refine ac ?_
 refine co rfl (Br rfl underlying138 (vl rfl)) ?_
 refine an ?_ ?_<;>intro h1 q1
 have Ad:k<((List.replicate m Lw).length):=AQ h1
 have hkm:k<m:=by simpa using Ad
 refine a2 ?_
 refine co rfl (AA rfl underlying138 HP (vl rfl) (vl rfl) (by omega) (GC hkm)) (co rfl (G0 rfl eV rfl) (co rfl (Uh rfl underlying5 underlying117 (vl rfl)) (co rfl (XA (by decide) rfl (VL.le (vl rfl) Xb) (vl rfl)) (co rfl (Xc rfl (vl rfl) (VL.le (vl rfl) (Bg _ _))) ?_))))
 refine ac ?_
 refine O6 0 3 4 rfl ?_
 refine ac ?_
 exact Fin.AP (k+1) ⟨Ad,by omega⟩ ⟨⟨_,rfl,AF k⟩,ke rfl,ke rfl,trivial⟩
 have BF:k=((List.replicate m Lw).length):=by have:=AR h1;omega
 refine a2 ?_
 refine co rfl (SN rfl underlying117 underlying3 (vl rfl)) ?_
 refine a2 ?_
 · exact Lr
theorem Uj {c:GW} (hn:c.names.length≤1000):A7 prog 65 [agg (Dl c)] (agg (Dl c)):=by
 refine fo func65 rfl ⟨rfl,rfl⟩ fun M0 w0=>(Tr.seq (Tr.Az ?_))
 refine TO.O3 rfl rfl (by decide) rfl (Va rfl) (fun b1=> ?_)
 refine Tl rfl rfl rfl rfl z107 KK (fun b2=> ?_)
 refine ap ?_
 refine ap ?_
 refine TO.pad ?_
 refine TO.Es 0 rfl rfl (by decide) (Cg rfl rfl rfl rfl underlying67 MU by9 z9 (Kf rfl) (vl rfl) (BV (by exact List.Mem.head _) (vl rfl))) (fun v1=> ?_)
 refine ap ?_
 refine ap ?_
 refine Tr.drop 2 (Tr.ret (Fin.C2 rfl (BE.cell 1 rfl rfl FQ Dj rfl (Lr)) ?_))
 · exact A_ ⟨Lr,Lr,Lr,Lr,Lr,Lr,Lr,Lr,Lr,Lr,Lr,Lr,Pr.le_trans (Aj _ _) (Pr.le_of_eq (by simp)),Lr,Lr,trivial⟩
abbrev Kq (c:GW) (key s:Int):GW:=⟨c.F9,c.HB,c.FW,c.LO,c.Gn,c.Da,c.PT,c.Kh,c.from_,c.dZ,c.auth,c.path,c.names,key,s⟩
theorem Uk {c:GW} {key:Int} (hv:CK (Kq c 0 0)=true) (ht:(Kq c 0 0).SO) (hk:0≤key∧key≤2147483648):A7 prog 43 [agg (Dl c),int key] (Cp.ex fun s:Int=>fact (0≤s∧s<4294967296) (IM [agg (Dl (Kq c key s)),int 0])):=by
 refine A7.of func43 rfl rfl (by exact Nb rfl) fun M0 w0=> ?_
 have hnn:c.names.length≤1000:=by have:=(Uf hv).nm;unfold Dv at this;simp at this;omega
 refine Tr.seq (Tr.Az ?_)
 refine TO.O3 rfl rfl (by decide) rfl (Va rfl) (fun b1=> ?_)
 refine Tl rfl rfl rfl rfl z107 KK (fun b2=> ?_)
 refine tm rfl (TO.nil (Fin.go (Tr.seq (Tr.Az (TO.rd 1 rfl rfl rfl (by decide) (CX rfl FQ Dj (vl rfl) rfl rfl) ?_)))))
 refine tp rfl (Ag rfl (Uj (c:=c) hnn) ⟨ke rfl,trivial⟩) ?_
 refine TO.At 1 rfl rfl rfl (vl rfl) (Va rfl) rfl Dj rfl rfl (TO.nil (Fin.go (Tr.seq (Tr.Az (tp rfl (Ab (rows:=[]) rfl Yd Ye trivial rfl) (tp rfl (AO rfl KL (vl rfl)) (TO.E3 1 rfl rfl (BI rfl rfl (vl rfl) (Va rfl) Yc rfl (by exact Nb rfl) rfl) (TO.nil (Fin.go (Tr.seq (Tr.seq (Tr.Ai (co rfl (CH 1 rfl (CX rfl FQ Dj (vl rfl) rfl rfl)) ?_)))))))))))))
 refine co rfl (Ag rfl (Ly (c:=Kq c 0 0) hv) ⟨ke rfl,trivial⟩) ?_
 refine co rfl (ki rfl rfl rfl rfl) (cm rfl ?_)
 refine Ch.cs 15 rfl ?_ ?_<;>intro h1 q1
 exact absurd h1 (by decide)
 refine Lb h1 rfl (cy h1 rfl (ki rfl rfl rfl rfl) (co rfl (ND rfl rfl h1 rfl) (cm rfl ?_)))
 refine Ch.cs 19 rfl ?_ ?_<;>intro h2 q2
 exfalso;have:=q2;omega
 refine Lb h2 rfl (cy h2 rfl (ki rfl rfl rfl rfl) (co rfl (ND rfl rfl h2 rfl) (Ch.nil (Fin.go (FO 1 2 4 22 rfl ?_)))))
 refine Tr.cn rfl ?_ ?_<;>intro h3 q3
 exfalso;have:=q3;omega
 refine Tr.skip (Fin.go (Tr.seq (Tr.Ai (co rfl (CH 1 rfl (CX rfl FQ Dj (vl rfl) rfl rfl)) ?_))))
 refine co rfl (Ag rfl (SP (c:=Kq c 0 0) hv ht) ⟨ke rfl,trivial⟩) ?_
 refine cm rfl (co rfl (DK rfl (vl rfl) rfl) (co rfl (DK rfl (vl rfl) rfl) (cm rfl (cm rfl (Ch.nil (Fin.go (Tr.seq (Tr.Az (tm rfl (tm rfl (tp rfl (Ag rfl (A7.DM fun m hm=>Xd (by omega)) ⟨ke rfl,trivial⟩) ?_)))))))))))
 refine TO.ex 31 rfl (fun z31=>TO.fact 31 rfl fun o9=> ?_)
 refine tp rfl (Ab (rows:=[(0,[_]),(1,[_])]) rfl Yd Ye ⟨⟨rfl,(Vo rfl)⟩,⟨⟨rfl,(Vo rfl)⟩,trivial⟩⟩ rfl) (tp rfl (AO rfl KL (vl rfl)) (TO.E3 1 rfl rfl (BI rfl rfl (vl rfl) (Va rfl) Yc rfl (by exact Nb rfl) rfl) (TO.nil (Fin.go (EZ 2 4 rfl (Tr.seq (Tr.Az (TO.rd 1 rfl rfl rfl (by decide) (CX rfl FQ Dj (vl rfl) rfl rfl) (TO.At 0 rfl rfl rfl (vl rfl) (Va rfl) rfl Dj rfl rfl (tm rfl (TO.nil (Fin.go (Tr.drop 1 (Tr.ret ?_))))))))))))))
 refine Fin.KF rfl (BE.cell 0 rfl rfl FQ Dj rfl (Lr)) (BE.tmp rfl (Lr)) ?_
 · exact BW z31 (CS o9 (Lr))
end Go.Proofs.YtppdobdifkefcaaGreatDoor
