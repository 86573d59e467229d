/-
  Part 3 of the texts that prove this claim, merged.
-/
import Derived.Test.YthommhphcagokaaGreatDoorRows
import Derived.RangeFuncFrom
import Derived.RangeFuncLeaves
import Derived.OrdersIn
import Derived.Test.YthommhphcagokaaGreatDoorPrJP2
set_option linter.all false
set_option maxRecDepth 40000
set_option maxHeartbeats 16000000
namespace Cp
open Go Go.RowKit Go.Great
variable{parts:Array (Nat×Operand)}{ts:Array TypeId}{f:FuncId}{rows:List (List Pr)}{ps qs:List Pr}{rs:List At}{zs:List Value}{i m:Nat}{T e:TypeId}{v:Value}{w0:World}
class T1(P:Program)(t:TypeId):Prop where
 h:DN P t=true
class TA(P:Program)(t:TypeId):Prop where
 h:D5 P t=true
class TZ(P:Program)(t:TypeId)(m:outParam Nat):Prop where
 h:Ar P t=some m
class TF(P:Program)(s f:Nat)(k:outParam Nat):Prop where
 h:AX P s f=some k
class TU(P:Program)(t:TypeId)(d:outParam TypeDesc):Prop where
 h:P.underlying t=some d
class TB(P:Program)(t:TypeId)(place:outParam (Nat->Option (Nat×Nat)))(zs:outParam (List Value)):Prop where
 h:∀ps,P.built t ps=Instr.fill place zs.toArray ps
 z:zs.all (·.oneCell')=true
class TV(P:Program)(t:TypeId)(zs:outParam (List Value)):Prop where
 h:A_ P t=some zs
 z:zs.all (·.oneCell')=true
class TM(P:Program):Prop where
 h:P.follows .mixedOrders=true
section
variable{P:Program}{L:Lg P}{n:Fm}{fz:Nat}{I:B3}{ops:Array Oper}{o:Oper}{r:List Oper}{E:Env}{K:Env->Prop}{d g j:Nat}{b want:Bool}{p:Pr}{x y:Operand}{Q:Exit->Act->World->Prop}{t u:TypeId}
theorem sO[i:T1 P t](ho:o.op= .load t x)(hx:CX E x=some (ref (p::ps))):Ac P I o E p:=LY ho i.h (vl hx)
theorem sP[i:TA P t][z:TZ P t m](ho:o.op= .load t x)(hx:CX E x=some (ref ps))(hq:ps.take m=qs)(hm:qs.length=m):Ac P I o E (agg qs):=AJ ho i.h z.h (vl hx) hq hm
theorem sQ{s:TypeId}{f k:Nat}[i:TF P s f k](ho:o.op= .fieldAddr s x f)(hx:CX E x=some (ref ps))(hq:ps.drop k=qs):Ac P I o E (ref qs):=I5 ho i.h (vl hx) hq
theorem sS{s:TypeId}{f k:Nat}[i:TF P s f k]{b off:Nat}(ho:o.op= .fieldAddr s x f)(hx:CX E x=some (ptr b off)):Ac P I o E (ptr b (off+k)):=AU ho i.h (vl hx)
theorem sU[i:TU P t (.slice e)]{sz:Nat}{β:Type}{f:β->List Pr}{l:List β}(ho:o.op= .call { callee:= .builtin .len,args:= #[x],argTypes:= #[t] })(hx:CX E x=some (slice sz (l.map f))):Ac P I o E (int ((l.length:Nat):Int)):=Hl ho i.h (vl hx)
theorem sV[i:TU P t .string]{a:List UInt8}(ho:o.op= .call { callee:= .builtin .len,args:= #[x],argTypes:= #[t] })(hx:CX E x=some (str a)):Ac P I o E (int ((a.length:Nat):Int)):=Zl ho i.h (vl hx)
theorem sW[i:TU P t .bool]{b c:Bool}(ho:o.op= .binOp .eql t x y u)(hx:CX E x=some (bool b))(hy:CX E y=some (bool c)):Ac P I o E (bool (b==c)):=eE ho i.h (vl hx) (vl hy)
theorem sX{p:Pr}[One p](ho:o.op= .box t x)(hx:CX E x=some p):Ac P I o E (ref [p]):=Bc ho (VL.le (vl hx) (AH p))
theorem sY(ho:o.op= .box t x)(hx:CX E x=some (agg ps)):Ac P I o E (ref ps):=Bc ho (VL.le (vl hx) (AE ps))
class CP(p:Pr)(ps:outParam (List Pr)):Prop where
 h:Pr.le p (C6 ps)
instance sZ (ps:List Pr):CP (agg ps) ps:=⟨AE ps⟩
instance (priority:=low) sj (p:Pr)[One p]:CP p [p]:=⟨AH p⟩
class CQ(p:Pr)(ps:outParam (List Pr)):Prop where
 h:Pr.le p (C6 ps)
instance sk (ps:List Pr):CQ (agg ps) ps:=⟨AE ps⟩
instance sn (k:IntKind)(n:Int):CQ (is (.int k n)) [is (.int k n)]:=⟨AH _⟩
instance qC (b:Bool):CQ (is (.bool b)) [is (.bool b)]:=⟨AH _⟩
instance sq (s:ByteArray):CQ (is (.string s)) [is (.string s)]:=⟨AH _⟩
instance sy (a:Option Addr):CQ (is (.pointer a)) [is (.pointer a)]:=⟨AH _⟩
instance mU (sz:Nat)(rows:List (List Pr)):CQ (slice sz rows) [slice sz rows]:=⟨AH _⟩
instance s7 (ps:List Pr):CQ (ref ps) [ref ps]:=⟨AH _⟩
instance uV (f:Fn)(ps:List Pr):CQ (fn f ps) [fn f ps]:=⟨AH _⟩
theorem vf0:RE E [] []:=trivial
theorem vf1{q:Pr}{row:List Pr}[c:CQ q row]{xs:List (Nat×Operand)}{rows:List (Nat×List Pr)}(hx:CX E x=some q)(h:RE E xs rows):RE E ((i,x)::xs) ((i,row)::rows):=⟨⟨rfl,VL.le (vl hx) c.h⟩,h⟩
theorem vr0{sz:Nat}:Me E sz [] []:=trivial
theorem vr1{sz:Nat}{q:Pr}{row:List Pr}[c:CQ q row]{xs:List Operand}(hx:CX E x=some q)(hl:row.length=sz)(h:Me E sz xs rows):Me E sz (x::xs) (row::rows):=⟨⟨hl,VL.le (vl hx) c.h⟩,h⟩
theorem s8{place:Nat->Option (Nat×Nat)}[i:TB P t place zs]{rows:List (Nat×List Pr)}(ho:o.op= .build t parts)(hx:RE E parts.toList rows)(hq:NB place (zs.map is) rows=some qs):Ac P I o E (agg qs):=Ad ho i.h i.z hx hq
theorem s_{sz:Nat}{xs:List Operand}[i:TU P t (.slice e)][z:TZ P e sz][v:TV P e zs](ho:o.op= .buildSlice t m parts)(hp:parts.toList.map Prod.snd=xs)(hm:(m==xs.length&&(parts.toList.map Prod.fst==List.range m)&&zs.length==sz&&Nat.blt 0 sz&&Nat.ble (m*sz) 16777216)=true)(hx:Me E sz xs rows):Ac P I o E (full sz rows):=by
 simp only[Bool.and_eq_true,beq_iff_eq,Nat.blt_eq,Nat.ble_eq]at hm;obtain⟨⟨⟨⟨h1,h2⟩,h3⟩,h4⟩,h5⟩:=hm;subst h1;refine AG ho ?_ i.h z.h v.h h3 h4 hx h5;refine List.ext_getElem (by rw[←hp];simp) fun k h6 h7=>?_;have h8:k<xs.length:=by simpa using h7
 simp only[List.getElem_map,List.getElem_zipIdx,Nat.zero_add];have e1:(parts.toList.map Prod.fst)[k]'(by simpa using h6)=k:=by grind
 have e2:(parts.toList.map Prod.snd)[k]'(by simpa using h6)=xs[k]:=by simp only[hp]
 simp only[List.getElem_map]at e1 e2;exact Prod.ext e1 e2
section
variable{M0:Av}{w0:World}{S:Nat->Prop}{b off:Nat}{T:TypeId}{new:Bool}{ps qs:List Pr}{m:Nat}{q:Pr}
theorem Ie[i:T1 P t](ho:o.op= .load t x)(hx:CX E x=some (ptr b off))(hp:ps[off]? =some p):Jv P M0 w0 S j (SR.c (AF new b T ps)) o E p:=Bw ho i.h (vl hx) hp
theorem Ig[i:TA P t][z:TZ P t m](ho:o.op= .load t x)(hx:CX E x=some (ptr b off))(hq:(ps.drop off).take m=qs)(hm:qs.length=m):Jv P M0 w0 S j (SR.c (AF new b T ps)) o E (agg qs):=Cv ho i.h z.h (vl hx) hq hm
theorem Pt{ps':List Pr}[z:TZ P t m][c:CP q qs](hg:o.guard=none)(ho:o.op= .store t x y)(hx:CX E x=some (ptr b off))(hy:CX E y=some q)(hm:qs.length=m:=by rfl)(hl:Nat.ble (off+m) ps.length=true:=by rfl)(hps:ps.take off++qs++ps.drop (off+m)=ps':=by rfl):DW P M0 w0 S n j (SR.c (AF new b T ps)) (SR.c (AF new b T ps')) o E any:=BG hg ho (vl hx) (VL.le (vl hy) c.h) z.h hm (Nat.le_of_ble_eq_true hl) hps
variable{rs:List At}
theorem sf(i s:Nat)[z:TZ P t m][c:CP q qs](hg:o.guard=none/\o.dst=none/\o.op= .store t x y)(hx:CX E x=some (ptr b 0))(hy:CX E y=some q)(hi:rs[i]? =some (AF true b T ps))(hs:E.lookup s=some (ptr b 0))
  (k:TO P n ops r ((s,ref qs)::E) (Hp M0 w0 S ((rs.set i (AF true b T qs)).eraseIdx i)) Q) (hm:qs.length=m:=by rfl) (hl:ps.length=m:=by rfl):TO P n ops (o::r) E (Hp M0 w0 S rs) Q:=
 TO.Aa i hg.1 hg.2.1 hg.2.2 (vl hx) (VL.le (vl hy) c.h) hi z.h hm hl (TO.freeze (ps:=qs) i s (by
  have hlt:i<rs.length:=by rcases Nat.lt_or_ge i rs.length with h|h;exact h;rw[List.getElem?_eq_none h]at hi;cases hi
  rw[List.getElem?_set_self hlt]) hs k)
theorem sa(i:Nat)[z:TZ P t m][c:CP q qs](hg:o.guard=none/\o.dst=none/\o.op= .store t x y)(hx:CX E x=some (ptr b 0))(hy:CX E y=some q)(hi:rs[i]? =some (AF new b T ps))
  (k:TO P n ops r E (Hp M0 w0 S (rs.set i (AF new b T qs))) Q) (hm:qs.length=m:=by rfl) (hl:ps.length=m:=by rfl):TO P n ops (o::r) E (Hp M0 w0 S rs) Q:=TO.Aa i hg.1 hg.2.1 hg.2.2 (vl hx) (VL.le (vl hy) c.h) hi z.h hm hl k
end
def fU(o:Oper):Nat:=match o.op with
 | .move ..=>1
 | .assign ..=>1
 | .fieldAddr ..=>2
 | .load ..=>3
 | .binOp .add ..=>7
 | .binOp .sub ..=>8
 | .binOp ..=>4
 | .pick ..=>5
 | .nilCheck ..=>6
 | .call { callee:= .builtin .len,.. }=>9
 | .unOp ..=>10
 | .box ..=>11
 | .extract ..=>12
 | .makeFunc ..=>13
 | .build ..=>14
 | .buildSlice ..=>15
 | .store ..=>16
 |_=>0
def mV(o:Oper):Bool:=o.guard.isNone
def grp(o:Oper):Nat:=if fU o=0 then 0 else if fU o<5 then 1 else if fU o<9 then 2 else if fU o<16 then 3 else 4
theorem tA{m z:Int}(ho:o.op= .binOp .add t x y u)(hx:CX E x=some (int m))(hy:CX E y=some (int z))(hr: -9223372036854775808<=m+z/\m+z<=9223372036854775807):Ac P I o E (int (m+z)):=Ek ho (vl hx) (vl hy) hr
theorem tB{m z:Int}(ho:o.op= .binOp .sub t x y u)(hx:CX E x=some (int m))(hy:CX E y=some (int z))(hr: -9223372036854775808<=m-z/\m-z<=9223372036854775807):Ac P I o E (int (m-z)):=Q7 ho (vl hx) (vl hy) hr
theorem oF(h:Ac P I o E p:=by first|exact sQ rfl rfl rfl|exact sS rfl rfl):Ac P I o E p:=h
theorem oL(h:Ac P I o E p:=by first|exact sO rfl rfl|exact sP rfl rfl rfl rfl|exact DO 0 rfl (Ie rfl rfl rfl)|exact DO 0 rfl (Ig rfl rfl rfl rfl)|exact DO 1 rfl (Ie rfl rfl rfl)|exact DO 1 rfl (Ig rfl rfl rfl rfl)|exact DO 2 rfl (Ie rfl rfl rfl)|exact DO 2 rfl (Ig rfl rfl rfl rfl)|exact DO 3 rfl (Ie rfl rfl rfl)|exact DO 3 rfl (Ig rfl rfl rfl rfl)|exact DO 4 rfl (Ie rfl rfl rfl)|exact DO 4 rfl (Ig rfl rfl rfl rfl)):Ac P I o E p:=h
theorem oB(h:Ac P I o E p:=by first|exact ki rfl rfl rfl rfl|exact fM rfl (vl rfl) (vl rfl)|exact fN rfl (vl rfl) (vl rfl)|exact sW rfl rfl rfl):Ac P I o E p:=h
theorem oP(h:Ac P I o E p:=by first|exact Sb rfl rfl (by first|rfl|assumption) rfl|exact Sc rfl rfl (by first|rfl|assumption) rfl|exact Tt rfl (vl rfl) (vl rfl)|exact RS rfl (vl rfl) (vl rfl)):Ac P I o E p:=h
theorem oN(h:Ac P I o E p:=by first|exact OG rfl (vl rfl)|exact Kk rfl (vl rfl)|exact LZ rfl (vl rfl)):Ac P I o E p:=h
theorem oA(h:Ac P I o E p:=by first|exact tA rfl rfl rfl AA|exact ki rfl rfl rfl rfl):Ac P I o E p:=h
theorem oS(h:Ac P I o E p:=by first|exact tB rfl rfl rfl AA|exact ki rfl rfl rfl rfl):Ac P I o E p:=h
theorem oC(h:Ac P I o E p:=by first|exact sU rfl rfl|exact sV rfl rfl):Ac P I o E p:=h
theorem oU(h:Ac P I o E p:=by first|exact LX rfl (vl rfl)):Ac P I o E p:=h
theorem oO(h:Ac P I o E p:=by first|exact sY rfl rfl|exact sX rfl rfl):Ac P I o E p:=h
theorem oE(h:Ac P I o E p:=by first|exact FD rfl (vl rfl) rfl):Ac P I o E p:=h
theorem oM(h:Ac P I o E p:=by first|exact KO rfl rfl):Ac P I o E p:=h
theorem oD(h:Ac P I o E p:=by first|exact s8 rfl (by repeat any_goals first|exact vf0|refine' vf1 rfl ?_) (by rfl)):Ac P I o E p:=h
theorem oI(h:Ac P I o E p:=by first|exact s_ rfl rfl (by rfl) (by repeat any_goals first|exact vr0|refine' vr1 rfl (by rfl) ?_)):Ac P I o E p:=h
theorem Ya{res:Pr}(hf:Am P f [] res)(ho:o.op= .call { callee:= .value (.func f),args:= #[],argTypes:=ts }):Ac P I o E res:=AQ ho hf trivial
theorem BQ{x0:Operand}{p0:Pr}{res:Pr}(hf:Am P f [p0] res)(ho:o.op= .call { callee:= .value (.func f),args:= #[x0],argTypes:=ts })(h0:CX E x0=some p0):Ac P I o E res:=AQ ho hf ⟨ke h0,trivial⟩
theorem Bm{x0:Operand}{p0:Pr}{x1:Operand}{p1:Pr}{res:Pr}(hf:Am P f [p0,p1] res)(ho:o.op= .call { callee:= .value (.func f),args:= #[x0,x1],argTypes:=ts })(h0:CX E x0=some p0)(h1:CX E x1=some p1):Ac P I o E res:=AQ ho hf ⟨ke h0,ke h1,trivial⟩
theorem Tx{x0:Operand}{p0:Pr}{x1:Operand}{p1:Pr}{x2:Operand}{p2:Pr}{res:Pr}(hf:Am P f [p0,p1,p2] res)(ho:o.op= .call { callee:= .value (.func f),args:= #[x0,x1,x2],argTypes:=ts })(h0:CX E x0=some p0)(h1:CX E x1=some p1)(h2:CX E x2=some p2):Ac P I o E res:=AQ ho hf ⟨ke h0,ke h1,ke h2,trivial⟩
theorem dO{x0:Operand}{p0:Pr}{x1:Operand}{p1:Pr}{x2:Operand}{p2:Pr}{x3:Operand}{p3:Pr}{res:Pr}(hf:Am P f [p0,p1,p2,p3] res)(ho:o.op= .call { callee:= .value (.func f),args:= #[x0,x1,x2,x3],argTypes:=ts })(h0:CX E x0=some p0)(h1:CX E x1=some p1)(h2:CX E x2=some p2)(h3:CX E x3=some p3):Ac P I o E res:=AQ ho hf ⟨ke h0,ke h1,ke h2,ke h3,trivial⟩
theorem jP{x0:Operand}{p0:Pr}{x1:Operand}{p1:Pr}{x2:Operand}{p2:Pr}{x3:Operand}{p3:Pr}{x4:Operand}{p4:Pr}{res:Pr}(hf:Am P f [p0,p1,p2,p3,p4] res)(ho:o.op= .call { callee:= .value (.func f),args:= #[x0,x1,x2,x3,x4],argTypes:=ts })(h0:CX E x0=some p0)(h1:CX E x1=some p1)(h2:CX E x2=some p2)(h3:CX E x3=some p3)(h4:CX E x4=some p4):Ac P I o E res:=AQ ho hf ⟨ke h0,ke h1,ke h2,ke h3,ke h4,trivial⟩
theorem cP(_:mV o=true)(h:Ch P n I ops (o::r) E K):Ch P n I ops (o::r) E K:=h
theorem cG(_:mV o=false)(h:Ch P n I ops (o::r) E K):Ch P n I ops (o::r) E K:=h
theorem cK(k:Nat)(_:fU o=k)(h:Ch P n I ops (o::r) E K):Ch P n I ops (o::r) E K:=h
theorem cS(k:Nat)(_:grp o=k)(h:Ch P n I ops (o::r) E K):Ch P n I ops (o::r) E K:=h
theorem tK(k:Nat)(_:fU o=k)(h:TO P n ops (o::r) E I Q):TO P n ops (o::r) E I Q:=h
theorem tG(k:Nat)(_:grp o=k)(h:TO P n ops (o::r) E I Q):TO P n ops (o::r) E I Q:=h
theorem Tr.rm[i:TM P]{id:Nat}{l:List Oper}(hB:OA l=true)(h:Ch P n I l.toArray l E (fun E'=>Fin n E' I Q .normal))(hc:calm l=true:=by with_unfolding_all rfl):Tr L n E I (.region id l.toArray true) Q:=Tr.rP i.h hB h hc
theorem Tr.ct{c:Operand}{y z:Code}(hc:CX E c=some (bool true))(k:Tr L n E I y Q):Tr L n E I (.cond c y z) Q:=Tr.cond hc (fun _=>k) (fun h=>nomatch h)
theorem Tr.cf{c:Operand}{y z:Code}(hc:CX E c=some (bool false))(k:Tr L n E I z Q):Tr L n E I (.cond c y z) Q:=Tr.cond hc (fun h=>nomatch h) (fun _=>k)
structure Wt(G:Prop):Prop where
 k:G
theorem Cx.mono{M0:Av}{w0:World}{S:Nat->Prop}:∀{l:List Oper} {E:Env} {rs:List SR} {K K':List X->Env->List SR->Prop},(∀L E rs,K L E rs->K' L E rs)->Cx P M0 w0 S n ops l E rs K->Cx P M0 w0 S n ops l E rs K'
 |[],_,_,_,_,h,k=>h _ _ _ k
 |_::_,_,_,_,_,h,⟨p,k,h1,h2,h3⟩=>⟨p,k,h1,h2,Cx.mono (fun _ _ _=>h _ _ _) h3⟩
theorem Cx.keys{M0:Av}{w0:World}{S:Nat->Prop}:∀{l:List Oper} {E:Env} {rs:List SR} {K:List X->Env->List SR->Prop},Cx P M0 w0 S n ops l E rs K->∃ks:List KN,Cx P M0 w0 S n ops l E rs (fun L E' rs'=>L.map (·.k.IV)=ks/\K L E' rs')
 |[],_,_,_,k=>⟨[],rfl,k⟩
 |_::_,_,_,_,⟨p,k,h1,h2,h3⟩=>by
  obtain⟨ks,h4⟩:=Cx.keys h3;exact⟨k.IV::ks,p,k,h1,h2,Cx.mono (fun L E rs h=>⟨by rw[List.map_cons,h.1],h.2⟩) h4⟩
theorem Tr.rx{Lo : Lg P}[i : TM P]{M0 : Av}{S : Nat -> Prop}{id : Nat}{l : List Oper}{F8 : List At}(h : Cx P M0 w0 S n l.toArray l E (F8.map SR.c) (fun L E' rs' => K5 l (L.map (·.k.IV)) = true /\ CF n M0 w0 S E' rs' Q))(hc : calm l = true := by with_unfolding_all rfl) : Tr Lo n E (Hp M0 w0 S F8) (.region id l.toArray true) Q := by
 obtain⟨ks,hk⟩:=Cx.keys h;obtain⟨L,h1,h2,h3⟩:=OD l 0 E _ hk;exact Tr.V0 i.h ks (by rw[←h3.1];exact h3.2.1) (hk.mono fun _ _ _ h=>⟨h.1,h.2.2⟩) hc
theorem Z0{r0:At}:Cu (SR.c r0::rs.map SR.c) (r0::rs):= .cons (Cu.map _)
theorem dP{r0:At}{r1:At}:Cu (SR.c r0::SR.c r1::rs.map SR.c) (r0::r1::rs):= .cons (.cons (Cu.map _))
theorem al3{r0:At}{r1:At}{r2:At}:Cu (SR.c r0::SR.c r1::SR.c r2::rs.map SR.c) (r0::r1::r2::rs):= .cons (.cons (.cons (Cu.map _)))
theorem al4{r0:At}{r1:At}{r2:At}{r3:At}:Cu (SR.c r0::SR.c r1::SR.c r2::SR.c r3::rs.map SR.c) (r0::r1::r2::r3::rs):= .cons (.cons (.cons (.cons (Cu.map _))))
theorem al5{r0:At}{r1:At}{r2:At}{r3:At}{r4:At}:Cu (SR.c r0::SR.c r1::SR.c r2::SR.c r3::SR.c r4::rs.map SR.c) (r0::r1::r2::r3::r4::rs):= .cons (.cons (.cons (.cons (.cons (Cu.map _)))))
theorem al6{r0:At}{r1:At}{r2:At}{r3:At}{r4:At}{r5:At}:Cu (SR.c r0::SR.c r1::SR.c r2::SR.c r3::SR.c r4::SR.c r5::rs.map SR.c) (r0::r1::r2::r3::r4::r5::rs):= .cons (.cons (.cons (.cons (.cons (.cons (Cu.map _))))))
theorem fo {g : Func} {c : Code} {res : Pr} (hf : P.funcs[f]? = some g) (hb : g.body = some c) (hname : ((g.name == "runtime.NumGoroutine") = false ∧ Nat.ble ps.length g.ntmps = true)) (h : ∀ M0 w0, Tr (Qc P) g.ntmps (IQ 0 ps) (Bse M0 w0) c (bodyPost P g (OB M0 w0 res))) : Am P f ps res := Am.of hf hb hname.1 (Nat.le_of_ble_eq_true hname.2) h
section
variable{M0:Av}{w0:World}{S:Nat->Prop}{rs:List SR}{KX:List X->Env->List SR->Prop}
theorem xId{l:List Oper}(h:Cx P M0 w0 S n ops l E rs KX):Cx P M0 w0 S n ops l E rs KX:=h
theorem xK(k:Nat)(_:fU o=k)(h:Cx P M0 w0 S n ops (o::r) E rs KX):Cx P M0 w0 S n ops (o::r) E rs KX:=h
theorem xG(k:Nat)(_:grp o=k)(h:Cx P M0 w0 S n ops (o::r) E rs KX):Cx P M0 w0 S n ops (o::r) E rs KX:=h
end
theorem cId{l:List Oper}(h:Ch P n I ops l E K):Ch P n I ops l E K:=h
theorem jQ{c:Code}(h:Tr L n E I c Q):Tr L n E I c Q:=h
theorem fId{e:Exit}(h:Fin n E I Q e):Fin n E I Q e:=h
theorem mW{l:List Oper}(h:TO P n ops l E I Q):TO P n ops l E I Q:=h
theorem ac{G H:Prop}(k:G)(h:Wt G->H:=by
 intro k
 repeat1' first
  |((with_reducible refine cId ?_);first
   |with_reducible refine Ch.nil ?_
   |(refine cP rfl ?_;first
    |(refine cS 1 rfl ?_;first
      |(refine cK 1 rfl ?_;refine cm rfl ?_)
      |(refine cK 2 rfl ?_;refine co rfl oF ?_)
      |(refine cK 3 rfl ?_;refine co rfl oL ?_)
      |(refine cK 4 rfl ?_;refine co rfl oB ?_))
    |(refine cS 2 rfl ?_;first
      |(refine cK 5 rfl ?_;refine co rfl oP ?_)
      |(refine cK 6 rfl ?_;refine co rfl oN ?_)
      |(refine cK 7 rfl ?_;refine co rfl oA ?_)
      |(refine cK 8 rfl ?_;refine co rfl oS ?_))
    |(refine cS 3 rfl ?_;first
      |(refine cK 9 rfl ?_;refine co rfl oC ?_)
      |(refine cK 10 rfl ?_;refine co rfl oU ?_)
      |(refine cK 11 rfl ?_;refine co rfl oO ?_)
      |(refine cK 12 rfl ?_;refine co rfl oE ?_)
      |(refine cK 13 rfl ?_;refine co rfl oM ?_)
      |(refine cK 14 rfl ?_;refine co rfl oD ?_)
      |(refine cK 15 rfl ?_;refine co rfl oI ?_)))
   |(refine cG rfl ?_;first
    |refine cu rfl ?_
    |refine cnt B5 rfl ?_
    |refine cnf B5 rfl ?_
    |(refine cS 1 rfl ?_;first
      |(refine cK 1 rfl ?_;refine Hq Dv rfl ?_)
      |(refine cK 2 rfl ?_;refine cy Dv rfl oF ?_)
      |(refine cK 3 rfl ?_;refine cy Dv rfl oL ?_)
      |(refine cK 4 rfl ?_;refine cy Dv rfl oB ?_))
    |(refine cS 2 rfl ?_;first
      |(refine cK 5 rfl ?_;refine cy Dv rfl oP ?_)
      |(refine cK 6 rfl ?_;refine cy Dv rfl oN ?_)
      |(refine cK 7 rfl ?_;refine cy Dv rfl oA ?_)
      |(refine cK 8 rfl ?_;refine cy Dv rfl oS ?_))
    |(refine cS 3 rfl ?_;first
      |(refine cK 9 rfl ?_;refine cy Dv rfl oC ?_)
      |(refine cK 10 rfl ?_;refine cy Dv rfl oU ?_)
      |(refine cK 11 rfl ?_;refine cy Dv rfl oO ?_)
      |(refine cK 12 rfl ?_;refine cy Dv rfl oE ?_)
      |(refine cK 13 rfl ?_;refine cy Dv rfl oM ?_)
      |(refine cK 14 rfl ?_;refine cy Dv rfl oD ?_)
      |(refine cK 15 rfl ?_;refine cy Dv rfl oI ?_))
    |refine cR rfl rfl ?_))
  |((with_reducible refine jQ ?_);first
   |with_reducible refine Tr.seq ?_
   |with_reducible refine Tr.Bk ?_
   |refine Tr.rm BI ?_
   |with_reducible refine Tr.skip ?_
   |with_reducible refine Tr.block ?_
   |with_reducible refine Tr.ret ?_
   |with_reducible refine Tr.exit ?_
   |refine Tr.ct rfl ?_
   |refine Tr.cf rfl ?_)
  |((with_reducible refine fId ?_);first
   |with_reducible refine Fin.AP ?_
   |with_reducible refine Fin.Az ?_
   |with_reducible refine Fin.BJ ?_
   |with_reducible refine Fin.Bv ?_
   |refine Fin.LW rfl ?_
   |with_reducible refine Fin.block ?_
   |refine Fin.Vw rfl (Cy.GV _ _) rfl ?_)
 first|with_reducible refine Fin.go ?_|with_reducible refine cId ?_|with_reducible refine mW ?_|with_reducible refine jQ ?_|refine Fin.go ?_|skip
 exact k.k):H:=h ⟨k⟩
theorem ao{G H:Prop}(k:G)(h:Wt G->H:=by
 intro k
 repeat1' first
  |((with_reducible refine mW ?_);first
   |with_reducible refine TO.nil ?_
   |(refine tG 1 rfl ?_;first
     |(refine tK 1 rfl ?_;refine tm rfl ?_)
     |(refine tK 2 rfl ?_;refine tp rfl oF ?_)
     |(refine tK 3 rfl ?_;refine tp rfl oL ?_)
     |(refine tK 4 rfl ?_;refine tp rfl oB ?_))
   |(refine tG 2 rfl ?_;first
     |(refine tK 5 rfl ?_;refine tp rfl oP ?_)
     |(refine tK 6 rfl ?_;refine tp rfl oN ?_)
     |(refine tK 7 rfl ?_;refine tp rfl oA ?_)
     |(refine tK 8 rfl ?_;refine tp rfl oS ?_))
   |(refine tG 3 rfl ?_;first
     |(refine tK 9 rfl ?_;refine tp rfl oC ?_)
     |(refine tK 10 rfl ?_;refine tp rfl oU ?_)
     |(refine tK 12 rfl ?_;refine tp rfl oE ?_)
     |(refine tK 13 rfl ?_;refine tp rfl oM ?_)
     |(refine tK 14 rfl ?_;refine tp rfl oD ?_)
     |(refine tK 15 rfl ?_;refine tp rfl oI ?_)))
  |((with_reducible refine jQ ?_);first
   |with_reducible refine Tr.seq ?_
   |with_reducible refine Tr.Al ?_
   |with_reducible refine Tr.skip ?_
   |with_reducible refine Tr.block ?_
   |with_reducible refine Tr.ret ?_
   |with_reducible refine Tr.exit ?_)
  |((with_reducible refine fId ?_);first
   |with_reducible refine Fin.AP ?_
   |with_reducible refine Fin.Az ?_
   |with_reducible refine Fin.BJ ?_
   |with_reducible refine Fin.Bv ?_
   |refine Fin.LW rfl ?_
   |with_reducible refine Fin.block ?_)
 first|with_reducible refine Fin.go ?_|with_reducible refine cId ?_|with_reducible refine mW ?_|with_reducible refine jQ ?_|refine Fin.go ?_|skip
 exact k.k):H:=h ⟨k⟩
theorem ap{G H:Prop}(k:G)(h:Wt G->H:=by
 intro k
 repeat1' first
  |((with_reducible refine mW ?_);first
   |with_reducible refine TO.nil ?_
   |(refine tG 1 rfl ?_;first
     |(refine tK 1 rfl ?_;refine tm rfl ?_)
     |(refine tK 2 rfl ?_;refine tp rfl oF ?_)
     |(refine tK 3 rfl ?_;refine tp rfl oL ?_)
     |(refine tK 4 rfl ?_;refine tp rfl oB ?_))
   |(refine tG 2 rfl ?_;first
     |(refine tK 5 rfl ?_;refine tp rfl oP ?_)
     |(refine tK 6 rfl ?_;refine tp rfl oN ?_)
     |(refine tK 7 rfl ?_;refine tp rfl oA ?_)
     |(refine tK 8 rfl ?_;refine tp rfl oS ?_))
   |(refine tG 3 rfl ?_;first
     |(refine tK 9 rfl ?_;refine tp rfl oC ?_)
     |(refine tK 10 rfl ?_;refine tp rfl oU ?_)
     |(refine tK 12 rfl ?_;refine tp rfl oE ?_)
     |(refine tK 13 rfl ?_;refine tp rfl oM ?_)
     |(refine tK 14 rfl ?_;refine tp rfl oD ?_)
     |(refine tK 15 rfl ?_;refine tp rfl oI ?_))
   |(refine tK 16 rfl ?_;first
    |refine sa 0 ⟨rfl,rfl,rfl⟩ rfl rfl rfl ?_
    |refine TO.Ej 0 rfl rfl (Pt rfl rfl rfl rfl) ?_
    |refine sa 1 ⟨rfl,rfl,rfl⟩ rfl rfl rfl ?_
    |refine TO.Ej 1 rfl rfl (Pt rfl rfl rfl rfl) ?_
    |refine sa 2 ⟨rfl,rfl,rfl⟩ rfl rfl rfl ?_
    |refine TO.Ej 2 rfl rfl (Pt rfl rfl rfl rfl) ?_
    |refine sa 3 ⟨rfl,rfl,rfl⟩ rfl rfl rfl ?_
    |refine TO.Ej 3 rfl rfl (Pt rfl rfl rfl rfl) ?_))
  |((with_reducible refine jQ ?_);first
   |with_reducible refine Tr.seq ?_
   |with_reducible refine Tr.Al ?_
   |with_reducible refine Tr.skip ?_
   |with_reducible refine Tr.block ?_
   |with_reducible refine Tr.ret ?_
   |with_reducible refine Tr.exit ?_)
  |((with_reducible refine fId ?_);first
   |with_reducible refine Fin.AP ?_
   |with_reducible refine Fin.Az ?_
   |with_reducible refine Fin.BJ ?_
   |with_reducible refine Fin.Bv ?_
   |refine Fin.LW rfl ?_
   |with_reducible refine Fin.block ?_)
 first|with_reducible refine Fin.go ?_|with_reducible refine cId ?_|with_reducible refine mW ?_|with_reducible refine jQ ?_|refine Fin.go ?_|skip
 exact k.k):H:=h ⟨k⟩
theorem ax{G H:Prop}(k:G)(h:Wt G->H:=by
 intro k
 repeat ((with_reducible refine xId ?_);first
   |(refine xG 1 rfl ?_;first
     |(refine xK 1 rfl ?_;refine xm rfl ?_)
     |(refine xK 2 rfl ?_;refine xo rfl (fun _=>oF) ?_)
     |(refine xK 3 rfl ?_;refine xo rfl (fun _=>oL) ?_)
     |(refine xK 4 rfl ?_;refine xo rfl (fun _=>oB) ?_))
   |(refine xG 2 rfl ?_;first
     |(refine xK 5 rfl ?_;refine xo rfl (fun _=>oP) ?_)
     |(refine xK 6 rfl ?_;refine xo rfl (fun _=>oN) ?_)
     |(refine xK 7 rfl ?_;refine xo rfl (fun _=>oA) ?_)
     |(refine xK 8 rfl ?_;refine xo rfl (fun _=>oS) ?_))
   |(refine xG 3 rfl ?_;first
     |(refine xK 9 rfl ?_;refine xo rfl (fun _=>oC) ?_)
     |(refine xK 10 rfl ?_;refine xo rfl (fun _=>oU) ?_)
     |(refine xK 11 rfl ?_;refine xo rfl (fun _=>oO) ?_)
     |(refine xK 12 rfl ?_;refine xo rfl (fun _=>oE) ?_)
     |(refine xK 13 rfl ?_;refine xo rfl (fun _=>oM) ?_)
     |(refine xK 14 rfl ?_;refine xo rfl (fun _=>oD) ?_))
   |(refine xK 3 rfl ?_;first
    |refine KS 0 rfl rfl (Ie rfl rfl rfl) ?_
    |refine KS 0 rfl rfl (Ig rfl rfl rfl rfl) ?_
    |refine KS 1 rfl rfl (Ie rfl rfl rfl) ?_
    |refine KS 1 rfl rfl (Ig rfl rfl rfl rfl) ?_
    |refine KS 2 rfl rfl (Ie rfl rfl rfl) ?_
    |refine KS 2 rfl rfl (Ig rfl rfl rfl rfl) ?_
    |refine KS 3 rfl rfl (Ie rfl rfl rfl) ?_
    |refine KS 3 rfl rfl (Ig rfl rfl rfl rfl) ?_
    |refine KS 4 rfl rfl (Ie rfl rfl rfl) ?_
    |refine KS 4 rfl rfl (Ig rfl rfl rfl rfl) ?_))
 exact k.k):H:=h ⟨k⟩
theorem ay{G H:Prop}(k:G)(h:Wt G->H:=by
 intro k
 repeat ((with_reducible refine xId ?_);first
   |(refine xG 1 rfl ?_;first
     |(refine xK 1 rfl ?_;refine xm rfl ?_)
     |(refine xK 2 rfl ?_;refine xo rfl (fun _=>oF) ?_)
     |(refine xK 3 rfl ?_;refine xo rfl (fun _=>oL) ?_)
     |(refine xK 4 rfl ?_;refine xo rfl (fun _=>oB) ?_))
   |(refine xG 2 rfl ?_;first
     |(refine xK 5 rfl ?_;refine xo rfl (fun _=>oP) ?_)
     |(refine xK 6 rfl ?_;refine xo rfl (fun _=>oN) ?_)
     |(refine xK 7 rfl ?_;refine xo rfl (fun _=>oA) ?_)
     |(refine xK 8 rfl ?_;refine xo rfl (fun _=>oS) ?_))
   |(refine xG 3 rfl ?_;first
     |(refine xK 9 rfl ?_;refine xo rfl (fun _=>oC) ?_)
     |(refine xK 10 rfl ?_;refine xo rfl (fun _=>oU) ?_)
     |(refine xK 11 rfl ?_;refine xo rfl (fun _=>oO) ?_)
     |(refine xK 12 rfl ?_;refine xo rfl (fun _=>oE) ?_)
     |(refine xK 13 rfl ?_;refine xo rfl (fun _=>oM) ?_)
     |(refine xK 14 rfl ?_;refine xo rfl (fun _=>oD) ?_))
   |(refine xK 3 rfl ?_;first
    |refine KS 0 rfl rfl (Ie rfl rfl rfl) ?_
    |refine KS 0 rfl rfl (Ig rfl rfl rfl rfl) ?_
    |refine KS 1 rfl rfl (Ie rfl rfl rfl) ?_
    |refine KS 1 rfl rfl (Ig rfl rfl rfl rfl) ?_
    |refine KS 2 rfl rfl (Ie rfl rfl rfl) ?_
    |refine KS 2 rfl rfl (Ig rfl rfl rfl rfl) ?_
    |refine KS 3 rfl rfl (Ie rfl rfl rfl) ?_
    |refine KS 3 rfl rfl (Ig rfl rfl rfl rfl) ?_
    |refine KS 4 rfl rfl (Ie rfl rfl rfl) ?_
    |refine KS 4 rfl rfl (Ig rfl rfl rfl rfl) ?_)
   |(refine xK 16 rfl ?_;first
    |refine Cx.Ej 0 rfl rfl (Pt rfl rfl rfl rfl) ?_
    |refine Cx.Ej 1 rfl rfl (Pt rfl rfl rfl rfl) ?_
    |refine Cx.Ej 2 rfl rfl (Pt rfl rfl rfl rfl) ?_
    |refine Cx.Ej 3 rfl rfl (Pt rfl rfl rfl rfl) ?_))
 exact k.k):H:=h ⟨k⟩
theorem Ch.cg{l:List Oper}{b v:Bool}{g j:Nat}{pt pf:Prop}[ht:EK b true pt][hf:EK b false pf](_:o.guard=some (j,v))(_:(ops[j]?.bind (·.dst))=some g)(hb:E.lookup g=some (bool b))(k:b=true->pt->Ch P n I ops (o::l) E K)(k':b=false->pf->Ch P n I ops (o::l) E K):Ch P n I ops (o::l) E K:=Ch.cases g hb (fun h=>k h (ht.FP h)) (fun h=>k' h (hf.FP h))
theorem a2{G H:Prop}(k:G)(h:Wt G->H:=by
 intro k
 iterate 2 refine ac ?_
 exact k.k):H:=h ⟨k⟩
theorem a3{G H:Prop}(k:G)(h:Wt G->H:=by
 intro k
 iterate 3 refine ac ?_
 exact k.k):H:=h ⟨k⟩
theorem an{G L H:Prop}(k:G)(l:L)(h:Wt G->Wt L->H:=by
 intro k l;refine ac ?_;refine Tr.cn rfl ?_ ?_;exact k.k
 exact l.k):H:=h ⟨k⟩ ⟨l⟩
theorem ag{G L H:Prop}(k:G)(l:L)(h:Wt G->Wt L->H:=by
 intro k l;refine ac ?_;refine Ch.cg rfl rfl rfl ?_ ?_;exact k.k
 exact l.k):H:=h ⟨k⟩ ⟨l⟩
theorem Lr{p:Pr}:Pr.le p p:=Pr.le_refl p
theorem Vo{p:Pr}[One p](h:CX E x=some p):VL E x (C6 [p]):=VL.le (vl h) (AH p)
theorem Va(h:CX E x=some (agg ps)):VL E x (C6 ps):=VL.le (vl h) (AE ps)
theorem Nb{a b:Nat}(h:Nat.ble a b=true):a<=b:=Nat.le_of_ble_eq_true h
theorem Kf{z:Nat}{l:List (List Pr)}(h:CX E x=some (full z l)):VL E x (slice z l):=⟨_,h,Ak z l⟩
theorem Ka(h:CX E x=some (An v p)):VL E x (is v):=⟨_,h,FF v p⟩
theorem Kb(h:CX E x=some (An v p)):VL E x p:=⟨_,h,As v p⟩
theorem CD{p:Pr}[One p](h:CX E x=some p:=by exact rfl):VL E x (C6 [p]):=Vo h
theorem Ce(h:CX E x=some (agg ps):=by exact rfl):VL E x (C6 ps):=Va h
theorem Cs{z:Nat}{l:List (List Pr)}(h:CX E x=some (full z l):=by exact rfl):VL E x (slice z l):=Kf h
theorem Jd(h:CX E x=some (An v p):=by exact rfl):VL E x (is v):=Ka h
theorem It(h:CX E x=some (An v p):=by exact rfl):VL E x p:=Kb h
theorem Tl{M0:Av}{S:Nat->Prop}(hg:o.guard=none)(hd:o.dst=some d)(hn:Nat.blt d n=true)(ho:o.op= .alloc T)(hz:A_ P T=some zs)(h1':zs.all (·.oneCell')=true)(k:∀b,TO P n ops r ((d,is (.pointer (some ⟨b,0,none⟩)))::E) (Hp M0 w0 S (AF true b T (zs.map is)::rs)) Q):TO P n ops (o::r) E (Hp M0 w0 S rs) Q:=TO.alloc hg hd (Fw hn) ho hz h1' k
theorem Dp{M0:Av}{S:Nat->Prop}{t:TypeId}{sz bytes:Nat}{rows':List (List Pr)}{R:SR}(hg:o.guard=none)(hd:o.dst=some d)(hn:Nat.blt d n=true)(ho:o.op= .call { callee:= .builtin .append,args:= #[x,y],argTypes:= #[t,t] })(ht:P.underlying t=some (.slice e))(hz:Ar P e=some sz)(hby:Bz P e=some bytes)(Dc:A_ P e=some zs)(hx:VL E x (slice sz rows))(hy:VL E y (slice sz rows'))(hR:∀M w (a:Act),CI M w E o a->R.at_ a=A8 e sz (a.eval x)\/(R.at_ a=Bj/\Cz (a.eval x)=none))(hzl:zs.length=sz:=by rfl)(hsz:Nat.blt 0 sz=true:=by rfl)(FA:rows.length+rows'.length<=maxLen:=by simp only[List.length_map,List.length_append,List.length_cons,List.length_nil,List.length_replicate,List.length_take,List.length_drop,List.length_range];unfold maxLen;omega)(hfit:(rows.length+rows'.length)*bytes<=140737488355328:=by simp only[List.length_map,List.length_append,List.length_cons,List.length_nil,List.length_replicate,List.length_take,List.length_drop,List.length_range];omega):DW P M0 w0 S n j R ⟨d,A8 e sz⟩ o E (slice sz (rows++rows')):=Ba hg hd (Fw hn) ho ht hz hby Dc hzl (Fw hsz) hx hy FA hfit hR
end
end Cp
namespace Go.Proofs.YthommhphcagokaaGreatDoor
open Go Cp
instance qD:TM Tryz.prog:=⟨mixed⟩
instance uu:TV Tryz.prog 3 [.int .i64 0]:=⟨z3,zo3⟩
instance tC:T1 Tryz.prog 3:=⟨DP⟩
instance uW:TZ Tryz.prog 3 1:=⟨C_⟩
instance tD:T1 Tryz.prog 4:=⟨eO⟩
instance uv:TV Tryz.prog 5 [.int .u8 0]:=⟨z5,zo5⟩
instance tE:T1 Tryz.prog 5:=⟨Y7⟩
instance uX:TZ Tryz.prog 5 1:=⟨D7⟩
instance uw:TV Tryz.prog 9 [.string (ByteArray.mk #[])]:=⟨z9,zo9⟩
instance tF:T1 Tryz.prog 9:=⟨J0⟩
instance uY:TZ Tryz.prog 9 1:=⟨G4⟩
instance Yb:TU Tryz.prog 9 .string:=⟨Tryz.underlying9⟩
instance qE:T1 Tryz.prog 22:=⟨Ls⟩
instance Wu:TU Tryz.prog 22 (.slice 3):=⟨Tryz.underlying22⟩
instance qF:T1 Tryz.prog 28:=⟨WL⟩
instance Wv:TU Tryz.prog 28 (.slice 73):=⟨Tryz.underlying28⟩
instance qG:T1 Tryz.prog 29:=⟨Si⟩
instance tH:TZ Tryz.prog 29 1:=⟨eP⟩
instance Ww:TU Tryz.prog 29 (.slice 82):=⟨Tryz.underlying29⟩
instance qH:T1 Tryz.prog 30:=⟨WM⟩
instance Wx:TU Tryz.prog 30 (.slice 85):=⟨Tryz.underlying30⟩
instance tI:TB Tryz.prog 32 (fun i=>(#[(0,1),(1,1),(2,1)]:Array (Nat×Nat))[i]?) (List.replicate 3 (.slice none 0 0)):=⟨rz,Lt⟩
instance qI:TA Tryz.prog 32:=⟨HD⟩
instance tJ:TZ Tryz.prog 32 3:=⟨Ge⟩
instance mX:TF Tryz.prog 32 0 0:=⟨IX⟩
instance mY:TF Tryz.prog 32 1 1:=⟨J1⟩
instance mZ:TF Tryz.prog 32 2 2:=⟨IY⟩
instance qJ:T1 Tryz.prog 36:=⟨cV⟩
instance Wy:TU Tryz.prog 36 (.slice 52):=⟨Tryz.underlying36⟩
instance tL:TB Tryz.prog 38 (fun i=>(#[(0,1)]:Array (Nat×Nat))[i]?) [.slice none 0 0]:=⟨ko,Lw⟩
instance qK:TA Tryz.prog 38:=⟨Lu⟩
instance tM:TZ Tryz.prog 38 1:=⟨OM⟩
instance me:TF Tryz.prog 38 0 0:=⟨WN⟩
instance qL:T1 Tryz.prog 39:=⟨Lx⟩
instance tN:TZ Tryz.prog 39 1:=⟨Pf⟩
instance qM:T1 Tryz.prog 42:=⟨Sj⟩
instance qN:T1 Tryz.prog 43:=⟨cW⟩
instance tO:TB Tryz.prog 45 (fun i=>(#[(0,1),(1,1),(2,1)]:Array (Nat×Nat))[i]?) (List.replicate 3 (.slice none 0 0)):=⟨k4,k5⟩
instance qO:TA Tryz.prog 45:=⟨cX⟩
instance tP:TZ Tryz.prog 45 3:=⟨ku⟩
instance mg:TF Tryz.prog 45 0 0:=⟨ON⟩
instance mh:TF Tryz.prog 45 1 1:=⟨WO⟩
instance mj:TF Tryz.prog 45 2 2:=⟨RI⟩
instance tQ:TB Tryz.prog 47 (fun i=>(#[(0,1),(1,1)]:Array (Nat×Nat))[i]?) (List.replicate 2 (.int .i64 0)):=⟨Mg,E2⟩
instance qP:TA Tryz.prog 47:=⟨B0⟩
instance tR:TZ Tryz.prog 47 2:=⟨Bs⟩
instance qQ:T1 Tryz.prog 50:=⟨cY⟩
instance uZ:TV Tryz.prog 52 [.int .i64 0,.slice none 0 0,.int .i64 0,.int .i64 0]:=⟨z52,eR⟩
instance qR:TA Tryz.prog 52:=⟨cZ⟩
instance tS:TZ Tryz.prog 52 4:=⟨WR⟩
instance mm:TF Tryz.prog 52 0 0:=⟨eS⟩
instance mq:TF Tryz.prog 52 1 1:=⟨eT⟩
instance tT:TB Tryz.prog 66 (fun i=>(#[(0,1),(1,1)]:Array (Nat×Nat))[i]?) [.slice none 0 0,.int .i64 0]:=⟨r8,r9⟩
instance mu:TF Tryz.prog 66 0 0:=⟨eV⟩
instance mw:TF Tryz.prog 66 1 1:=⟨eW⟩
instance qS:T1 Tryz.prog 67:=⟨k8⟩
instance tU:TZ Tryz.prog 67 1:=⟨k7⟩
instance Wz:TU Tryz.prog 67 (.slice 9):=⟨Tryz.underlying67⟩
instance qT:T1 Tryz.prog 70:=⟨k9⟩
instance qU:T1 Tryz.prog 71:=⟨WT⟩
instance W0:TU Tryz.prog 71 (.slice 78):=⟨Tryz.underlying71⟩
instance tV:TB Tryz.prog 73 (fun i=>(#[(0,1),(1,1),(2,1),(3,1),(4,1),(5,1),(6,1),(7,1),(8,1)]:Array (Nat×Nat))[i]?) [.string (ByteArray.mk #[]),.int .i64 0,.int .i64 0,.slice none 0 0,.bool false,.slice none 0 0,.slice none 0 0,.slice none 0 0,.bool false]:=⟨WU,Gf⟩
instance qV:TA Tryz.prog 73:=⟨Dm⟩
instance tW:TZ Tryz.prog 73 9:=⟨Co⟩
instance mz:TF Tryz.prog 73 0 0:=⟨eX⟩
instance m8:TF Tryz.prog 73 1 1:=⟨OO⟩
instance m9:TF Tryz.prog 73 2 2:=⟨OP⟩
instance m_:TF Tryz.prog 73 3 3:=⟨OQ⟩
instance nA:TF Tryz.prog 73 4 4:=⟨eY⟩
instance nB:TF Tryz.prog 73 5 5:=⟨HE⟩
instance nC:TF Tryz.prog 73 6 6:=⟨RJ⟩
instance nD:TF Tryz.prog 73 7 7:=⟨RK⟩
instance tX:TB Tryz.prog 75 (fun i=>(#[(0,1),(1,1)]:Array (Nat×Nat))[i]?) (List.replicate 2 (.int .i64 0)):=⟨RL,BZ⟩
instance uc:TV Tryz.prog 75 (List.replicate 2 (.int .i64 0)):=⟨z75,BZ⟩
instance qW:TA Tryz.prog 75:=⟨A7⟩
instance tY:TZ Tryz.prog 75 2:=⟨Bb⟩
instance nE:TF Tryz.prog 75 0 0:=⟨WV⟩
instance nF:TF Tryz.prog 75 1 1:=⟨WW⟩
instance qX:T1 Tryz.prog 76:=⟨lA⟩
instance W4:TU Tryz.prog 76 (.slice 122):=⟨Tryz.underlying76⟩
instance ud:TV Tryz.prog 78 [.int .i64 0,.int .i64 0,.int .i64 0,.slice none 0 0]:=⟨Ts,Pg⟩
instance qY:TA Tryz.prog 78:=⟨KT⟩
instance tZ:TZ Tryz.prog 78 4:=⟨EF⟩
instance nG:TF Tryz.prog 78 0 0:=⟨ec⟩
instance nH:TF Tryz.prog 78 1 2:=⟨ej⟩
instance nI:TF Tryz.prog 78 2 3:=⟨RM⟩
instance td:TB Tryz.prog 82 (fun i=>(#[(0,1),(1,1)]:Array (Nat×Nat))[i]?) (List.replicate 2 (.int .i64 0)):=⟨eu,RN⟩
instance ue:TV Tryz.prog 82 (List.replicate 2 (.int .i64 0)):=⟨ZB,RN⟩
instance tg:TZ Tryz.prog 82 2:=⟨GC⟩
instance nJ:TF Tryz.prog 82 0 0:=⟨ew⟩
instance nK:TF Tryz.prog 82 1 1:=⟨ey⟩
instance qZ:T1 Tryz.prog 83:=⟨lD⟩
instance W6:TU Tryz.prog 83 (.slice 127):=⟨Tryz.underlying83⟩
instance th:TB Tryz.prog 85 (fun i=>(#[(0,1),(1,1),(2,1),(3,1),(4,1)]:Array (Nat×Nat))[i]?) [.string (ByteArray.mk #[]),.int .i64 0,.int .i64 0,.slice none 0 0,.int .i64 0]:=⟨r_,WY⟩
instance uf:TV Tryz.prog 85 [.string (ByteArray.mk #[]),.int .i64 0,.int .i64 0,.slice none 0 0,.int .i64 0]:=⟨z85,WY⟩
instance qa:TA Tryz.prog 85:=⟨Ph⟩
instance tj:TZ Tryz.prog 85 5:=⟨G2⟩
instance nL:TF Tryz.prog 85 0 0:=⟨ez⟩
instance nM:TF Tryz.prog 85 1 1:=⟨e7⟩
instance nN:TF Tryz.prog 85 2 2:=⟨e9⟩
instance nO:TF Tryz.prog 85 3 3:=⟨RO⟩
instance nP:TF Tryz.prog 85 4 4:=⟨e_⟩
instance qb:T1 Tryz.prog 89:=⟨cj⟩
instance W7:TU Tryz.prog 89 (.slice 135):=⟨Tryz.underlying89⟩
instance nQ:TF Tryz.prog 96 0 0:=⟨fA⟩
instance nR:TF Tryz.prog 96 1 4:=⟨fB⟩
instance jR:TF Tryz.prog 113 0 0:=⟨ZD⟩
instance qc:TB Tryz.prog 120 (fun i=>(#[(0,1),(1,1)]:Array (Nat×Nat))[i]?) (List.replicate 2 (.int .i64 0)):=⟨lH,lI⟩
instance nS:TA Tryz.prog 120:=⟨fD⟩
instance qd:TZ Tryz.prog 120 2:=⟨lG⟩
instance jS:TF Tryz.prog 120 0 0:=⟨ZE⟩
instance jT:TF Tryz.prog 120 1 1:=⟨ZF⟩
instance tq:TV Tryz.prog 122 [.int .i64 0,.string (ByteArray.mk #[]),.string (ByteArray.mk #[]),.int .i64 0,.int .i64 0,.int .i64 0,.int .i64 0,.int .i64 0,.int .i64 0,.int .i64 0,.bool false,.int .i64 0,.slice none 0 0,.int .i64 0,.int .i64 0]:=⟨J2,Gu⟩
instance nT:TA Tryz.prog 122:=⟨FI⟩
instance qg:TZ Tryz.prog 122 15:=⟨CC⟩
instance jU:TF Tryz.prog 122 0 0:=⟨ZG⟩
instance jV:TF Tryz.prog 122 1 1:=⟨ZH⟩
instance fV:TF Tryz.prog 122 10 12:=⟨Pj⟩
instance fW:TF Tryz.prog 122 11 13:=⟨Wb⟩
instance jW:TF Tryz.prog 122 2 2:=⟨ZI⟩
instance jX:TF Tryz.prog 122 3 3:=⟨ZJ⟩
instance jY:TF Tryz.prog 122 4 5:=⟨ZK⟩
instance jZ:TF Tryz.prog 122 5 6:=⟨ZL⟩
instance jc:TF Tryz.prog 122 6 8:=⟨ZM⟩
instance jd:TF Tryz.prog 122 7 9:=⟨ZN⟩
instance je:TF Tryz.prog 122 8 10:=⟨ZO⟩
instance jf:TF Tryz.prog 122 9 11:=⟨ZP⟩
instance U7:TU Tryz.prog 125 (.slice 75):=⟨Tryz.underlying125⟩
instance qh:TB Tryz.prog 127 (fun i=>(#[(0,2),(2,1)]:Array (Nat×Nat))[i]?) (List.replicate 3 (.int .i64 0)):=⟨lJ,Wc⟩
instance tr:TV Tryz.prog 127 (List.replicate 3 (.int .i64 0)):=⟨z127,Wc⟩
instance qi:TZ Tryz.prog 127 3:=⟨FJ⟩
instance jg:TF Tryz.prog 127 0 0:=⟨ZQ⟩
instance jh:TF Tryz.prog 127 1 2:=⟨ZR⟩
instance tu:TV Tryz.prog 135 [.slice none 0 0]:=⟨lN,lM⟩
instance qj:TZ Tryz.prog 135 1:=⟨Wd⟩
instance nU:T1 Tryz.prog 166:=⟨fG⟩
instance tv:TV Tryz.prog 170 [.int .u32 0]:=⟨ZS,cv⟩
instance nW:T1 Tryz.prog 170:=⟨We⟩
instance ql:TZ Tryz.prog 170 1:=⟨Sl⟩
instance nX:T1 Tryz.prog 180:=⟨fH⟩
instance qm:TZ Tryz.prog 180 1:=⟨lQ⟩
instance U8:TU Tryz.prog 180 (.slice 5):=⟨Tryz.underlying180⟩
instance qn:TB Tryz.prog 225 (fun i=>(#[(0,1),(1,1)]:Array (Nat×Nat))[i]?) (List.replicate 2 (.slice none 0 0)):=⟨lR,Wg⟩
instance nY:TA Tryz.prog 225:=⟨Wf⟩
instance qo:TZ Tryz.prog 225 2:=⟨cw⟩
instance ji:TF Tryz.prog 225 0 0:=⟨ZT⟩
instance jj:TF Tryz.prog 225 1 1:=⟨ZU⟩
instance nZ:T1 Tryz.prog 239:=⟨Ly⟩
instance U9:TU Tryz.prog 239 (.slice 170):=⟨Tryz.underlying239⟩
instance jk:TF Tryz.prog 241 0 0:=⟨ZV⟩
instance jl:TF Tryz.prog 241 1 1:=⟨ZW⟩
instance ng:T1 Tryz.prog 246:=⟨Wh⟩
instance qp:TZ Tryz.prog 246 1:=⟨lW⟩
instance U_:TU Tryz.prog 246 (.slice 248):=⟨Tryz.underlying246⟩
instance qq:TB Tryz.prog 248 (fun i=>(#[(0,1),(1,1),(2,1),(3,1)]:Array (Nat×Nat))[i]?) [.int .i64 0,.slice none 0 0,.bool false,.slice none 0 0]:=⟨KU,Ca⟩
instance tw:TV Tryz.prog 248 [.int .i64 0,.slice none 0 0,.bool false,.slice none 0 0]:=⟨C1,Ca⟩
instance nh:TA Tryz.prog 248:=⟨BA⟩
instance qt:TZ Tryz.prog 248 4:=⟨Aq⟩
instance jm:TF Tryz.prog 248 0 0:=⟨OR⟩
instance jo:TF Tryz.prog 248 1 1:=⟨ZX⟩
instance jq:TF Tryz.prog 248 2 2:=⟨OS⟩
instance jr:TF Tryz.prog 248 3 3:=⟨Sm⟩
instance qu:TB Tryz.prog 260 (fun i=>(#[(0,1),(1,1),(2,2),(4,2),(6,2),(8,2),(10,1),(11,1)]:Array (Nat×Nat))[i]?) [.int .i64 0,.string (ByteArray.mk #[]),.int .i64 0,.int .i64 0,.int .i64 0,.int .i64 0,.int .i64 0,.int .i64 0,.int .i64 0,.int .i64 0,.int .i64 0,.int .i64 0]:=⟨KV,DQ⟩
instance ni:TA Tryz.prog 260:=⟨C7⟩
instance qv:TZ Tryz.prog 260 12:=⟨B4⟩
instance jt:TF Tryz.prog 260 3 4:=⟨ZY⟩
instance ju:TF Tryz.prog 260 4 6:=⟨ZZ⟩
instance jv:TF Tryz.prog 260 6 10:=⟨Za⟩
instance jw:TF Tryz.prog 260 7 11:=⟨Zb⟩
instance qw:TB Tryz.prog 300 (fun i=>(#[(0,1),(1,1)]:Array (Nat×Nat))[i]?) [.string (ByteArray.mk #[]),.int .i64 0]:=⟨lX,cz⟩
instance t_:TV Tryz.prog 300 [.string (ByteArray.mk #[]),.int .i64 0]:=⟨sF,cz⟩
instance qx:TZ Tryz.prog 300 2:=⟨cx⟩
instance jx:TF Tryz.prog 300 1 1:=⟨Zc⟩
instance VA:TU Tryz.prog 301 (.slice 300):=⟨Tryz.underlying301⟩
instance qy:TZ Tryz.prog 311 1:=⟨lY⟩
instance VB:TU Tryz.prog 320 (.slice 260):=⟨Tryz.underlying320⟩
instance qz:TB Tryz.prog 326 (fun i=>(#[(0,1),(1,1),(2,1),(3,1),(4,1)]:Array (Nat×Nat))[i]?) [.string (ByteArray.mk #[]),.int .i64 0,.int .i64 0,.slice none 0 0,.slice none 0 0]:=⟨DH,C3⟩
instance q_:TZ Tryz.prog 326 5:=⟨NH⟩
instance jy:TF Tryz.prog 326 1 1:=⟨Zd⟩
instance jz:TF Tryz.prog 326 2 2:=⟨Ze⟩
instance j0:TF Tryz.prog 326 3 3:=⟨Zf⟩
instance j4:TF Tryz.prog 326 4 4:=⟨Zg⟩
instance rA:TB Tryz.prog 361 (fun i=>(#[(0,9),(9,1),(10,1)]:Array (Nat×Nat))[i]?) [.string (ByteArray.mk #[]),.int .i64 0,.int .i64 0,.slice none 0 0,.bool false,.slice none 0 0,.slice none 0 0,.slice none 0 0,.bool false,.int .i64 0,.slice none 0 0]:=⟨lp,c_⟩
instance nj:TA Tryz.prog 361:=⟨fJ⟩
instance rB:TZ Tryz.prog 361 11:=⟨ld⟩
instance j5:TF Tryz.prog 361 0 0:=⟨Zh⟩
instance j6:TF Tryz.prog 361 1 9:=⟨Zi⟩
instance j7:TF Tryz.prog 361 2 10:=⟨Zj⟩
instance rC:TB Tryz.prog 365 (fun i=>some (i*5,5)) [.string (ByteArray.mk #[]),.int .i64 0,.int .i64 0,.slice none 0 0,.slice none 0 0,.string (ByteArray.mk #[]),.int .i64 0,.int .i64 0,.slice none 0 0,.slice none 0 0,.string (ByteArray.mk #[]),.int .i64 0,.int .i64 0,.slice none 0 0,.slice none 0 0,.string (ByteArray.mk #[]),.int .i64 0,.int .i64 0,.slice none 0 0,.slice none 0 0,.string (ByteArray.mk #[]),.int .i64 0,.int .i64 0,.slice none 0 0,.slice none 0 0,.string (ByteArray.mk #[]),.int .i64 0,.int .i64 0,.slice none 0 0,.slice none 0 0,.string (ByteArray.mk #[]),.int .i64 0,.int .i64 0,.slice none 0 0,.slice none 0 0,.string (ByteArray.mk #[]),.int .i64 0,.int .i64 0,.slice none 0 0,.slice none 0 0,.string (ByteArray.mk #[]),.int .i64 0,.int .i64 0,.slice none 0 0,.slice none 0 0,.string (ByteArray.mk #[]),.int .i64 0,.int .i64 0,.slice none 0 0,.slice none 0 0,.string (ByteArray.mk #[]),.int .i64 0,.int .i64 0,.slice none 0 0,.slice none 0 0,.string (ByteArray.mk #[]),.int .i64 0,.int .i64 0,.slice none 0 0,.slice none 0 0,.string (ByteArray.mk #[]),.int .i64 0,.int .i64 0,.slice none 0 0,.slice none 0 0,.string (ByteArray.mk #[]),.int .i64 0,.int .i64 0,.slice none 0 0,.slice none 0 0,.string (ByteArray.mk #[]),.int .i64 0,.int .i64 0,.slice none 0 0,.slice none 0 0,.string (ByteArray.mk #[]),.int .i64 0,.int .i64 0,.slice none 0 0,.slice none 0 0,.string (ByteArray.mk #[]),.int .i64 0,.int .i64 0,.slice none 0 0,.slice none 0 0,.string (ByteArray.mk #[]),.int .i64 0,.int .i64 0,.slice none 0 0,.slice none 0 0,.string (ByteArray.mk #[]),.int .i64 0,.int .i64 0,.slice none 0 0,.slice none 0 0,.string (ByteArray.mk #[]),.int .i64 0,.int .i64 0,.slice none 0 0,.slice none 0 0,.string (ByteArray.mk #[]),.int .i64 0,.int .i64 0,.slice none 0 0,.slice none 0 0,.string (ByteArray.mk #[]),.int .i64 0,.int .i64 0,.slice none 0 0,.slice none 0 0,.string (ByteArray.mk #[]),.int .i64 0,.int .i64 0,.slice none 0 0,.slice none 0 0]:=⟨lq,dB⟩
instance rD:TZ Tryz.prog 365 115:=⟨dA⟩
instance rE:TB Tryz.prog 367 (fun i=>some (i*1,1)) (List.replicate 2 (.int .i64 0)):=⟨lu,dF⟩
instance rF:TZ Tryz.prog 367 2:=⟨dD⟩
instance rG:TB Tryz.prog 368 (fun i=>some (i*2,2)) (List.replicate 10 (.int .i64 0)):=⟨lz,l5⟩
instance rH:TB Tryz.prog 406 (fun i=>some (i*1,1)) (List.replicate 2 (.int .i64 0)):=⟨l6,l7⟩
instance rI:TB Tryz.prog 408 (fun i=>some (i*1,1)) (List.replicate 3 (.int .i64 0)):=⟨l9,l_⟩
end Go.Proofs.YthommhphcagokaaGreatDoor
namespace Go.Proofs.YthommhphcagokaaGreatDoor
open Go Go.RowKit Cp Go.Proofs.Tryz
variable{l:List Int}{k:Nat}
abbrev ints(l:List Int):Pr:=slice 1 (l.map fun n=>[int n])
def idx{β:Type}(p:β->Bool)(l:List β):Int:=match l.findIdx? p with|some i=>i|none=> -1
theorem DC{β:Type}{p:β->Bool}{l:List β}{x:β}(hx:l[k]? =some x)(hp:p x=true)(h:∀j y,j<k->l[j]? =some y->p y=false):(k:Int)=idx p l:=by
 have:l.findIdx? p=some k:=by
  rw[List.findIdx?_eq_some_iff_getElem];have hk:k<l.length:=by rcases Nat.lt_or_ge k l.length with h|h;exact h;rw[List.getElem?_eq_none h]at hx;cases hx
  rw[List.getElem?_eq_getElem hk]at hx;simp only[Option.some.injEq]at hx;refine⟨hk,by rw[hx];exact hp,fun j hj=>?_⟩
  simpa using h j _ hj (List.getElem?_eq_getElem AA)
 unfold idx;rw[this]
theorem G9{β:Type}{p:β->Bool}{l:List β}(h:∀j y,j<l.length->l[j]? =some y->p y=false):(-1:Int)=idx p l:=by
 have:l.findIdx? p=none:=by
  rw[List.findIdx?_eq_none_iff];intro x hx;obtain⟨j,hj,rfl⟩:=List.mem_iff_getElem.1 hx;exact h j _ hj (List.getElem?_eq_getElem hj)
 unfold idx;rw[this]
theorem Hv{β:Type}(p:β->Bool)(l:List β):decide (idx p l≥0)=l.any p:=by
 unfold idx;cases h:l.findIdx? p with
 |none=>rw[List.findIdx?_eq_none_iff]at h;simp;intro x hx;simpa using h x hx
 |some i=>
  rw[List.findIdx?_eq_some_iff_getElem]at h;obtain⟨h1,h2,_⟩:=h;simp;exact⟨_,List.getElem_mem h1,h2⟩
theorem Cf{β:Type}{p:β->Bool}{l:List β}{x:β}(hx:l[k]? =some x)(hp:p x=false)(h:∀j y,j<k->l[j]? =some y->p y=false):∀j y,j<k+1->l[j]? =some y->p y=false:=by
 intro j y hj hy
 by_cases hjk:j=k
 .subst hjk;rw[hx]at hy;cases hy;exact hp
 .exact h j y AA hy
theorem JH{p:Int->Bool}:Am prog 160 [ints l,Mc prog (fun x:Int=>[int x]) (fun x=>bool (p x))] (int (idx p l)):=by
 refine fo func160 rfl ⟨rfl,rfl⟩ fun M0 w0=>(Tr.D6 0 rfl fun DZ=>?_);refine a2 ?_;refine Tr.block (Tr.BP _ (kk [7,1,0] rfl) (fun k:Nat=>[(8,int ((k:Nat):Int))]) (fun k:Nat=>k<=(l).length/\(∀j y,j<k->l[j]? =some y->p y=false)) (fun k:Nat=>(l).length-k) 0 (⟨Nat.zero_le _,fun j y hj=>absurd hj AA⟩) kz ?_);rintro k ⟨BR,AY⟩;refine ac ?_;refine Tr.seq ?_;refine Tr.cn rfl ?_ ?_<;>intro h1 q1
 have Ae:k<(l).length:=AV h1;obtain⟨x,Ag⟩:=at_ Ae
 .repeat' first|exact int_eq (DC Ag B5 AY)|exact Fin.AR (k+1) ⟨⟨Ae,Cf Ag B5 AY⟩,by omega⟩ ⟨⟨_,rfl,AM k⟩,kz⟩|refine co rfl (AD rfl underlying22 C_ vq vq AA DL) ?_|refine co rfl (FH rfl DP rfl) (co rfl (Dg x rfl vq kz) ?_)|refine ac ?_|(refine Tr.cn rfl ?_ ?_<;>intro h q)
 have BB:k=(l).length:=by have:=AW h1;omega
 subst BB;refine a3 ?_
 .exact HX
theorem Gv{p:Int->Bool}:Am prog 96 [ints l,Mc prog (fun x:Int=>[int x]) (fun x=>bool (p x))] (bool (l.any p)):=by
 refine fo func96 rfl ⟨rfl,rfl⟩ fun M0 w0=>?_;refine a2 ?_;refine co rfl (Bm (JH) rfl rfl rfl) ?_;refine a2 ?_
 .exact bool_eq (Hv p l)
theorem Pu{v:Int}:Am prog 232 [ints l,int v] (int (idx (fun x=>v==x) l)):=by
 refine fo func232 rfl ⟨rfl,rfl⟩ fun M0 w0=>(Tr.D6 0 rfl fun DZ=>?_);refine a2 ?_;refine Tr.block (Tr.BP _ (kk [7,1,0] rfl) (fun k:Nat=>[(8,int ((k:Nat):Int))]) (fun k:Nat=>k<=(l).length/\(∀j y,j<k->l[j]? =some y->(v==y)=false)) (fun k:Nat=>(l).length-k) 0 (⟨Nat.zero_le _,fun j y hj=>absurd hj AA⟩) kz ?_);rintro k ⟨BR,AY⟩;refine ac ?_;refine Tr.seq ?_;refine Tr.cn rfl ?_ ?_<;>intro h1 q1
 have Ae:k<(l).length:=AV h1;obtain⟨x,Ag⟩:=at_ Ae
 .repeat' first|exact int_eq (DC (p:=fun x=>v==x) Ag B5 AY)|exact Fin.AR (k+1) ⟨⟨Ae,Cf (p:=fun x=>v==x) Ag B5 AY⟩,by omega⟩ ⟨⟨_,rfl,AM k⟩,kz⟩|refine co rfl (AD rfl underlying22 C_ vq vq AA DL) ?_|refine ac ?_|(refine Tr.cn rfl ?_ ?_<;>intro h q)
 have BB:k=(l).length:=by have:=AW h1;omega
 subst BB;refine a3 ?_
 .exact HX
theorem D3{v:Int}:Am prog 199 [ints l,int v] (bool (l.any fun x=>v==x)):=by
 refine fo func199 rfl ⟨rfl,rfl⟩ fun M0 w0=>?_;refine a2 ?_;refine co rfl (Bm (Pu) rfl rfl rfl) ?_;refine a2 ?_
 .exact bool_eq (Hv _ l)
end Go.Proofs.YthommhphcagokaaGreatDoor
namespace Go.Proofs.YthommhphcagokaaGreatDoor
open Go Go.RowKit Cp Go.ChangeShapes Go.WideShapes Go.ChangeAt Go.Proofs.Tryz
theorem uA:ownKnob Tryz.prog.godebug=none:=by kernel_rfl
theorem W8:laidOutB Tryz.prog=true:=by kernel_rfl
theorem u8_in{n:Int}(h:(Lit.int .u8 n).wf=true):0<=n/\n<256:=by
 simp only[Lit.wf,Bool.and_eq_true,decide_eq_true_eq]at h;have h1:IntKind.u8.min=0:=rfl;have h2:IntKind.u8.max=255:=rfl;omega
theorem i64_in{n:Int}(h:(Lit.int .i64 n).wf=true):Mb n:=by
 simp only[Lit.wf,Bool.and_eq_true,decide_eq_true_eq]at h;have h1:IntKind.i64.min= -9223372036854775808:=rfl;have h2:IntKind.i64.max=9223372036854775807:=rfl;unfold Mb;omega
theorem RV{P:Program}{t e:TypeId}(ht:P.underlying t=some (.slice e))(he:P.underlying e=some (.int .i64))(hc:P.cellsOf e=1):I_ P t (fun l:List Int=>l.length<=maxLen/\∀n∈l,Mb n) (fun l=>[ints l]):=
 (Pb ht hc (Jy he)).map id (fun _ h=>⟨h.2,fun n hn=>i64_in (h.1 n hn)⟩) (fun _=>rfl)
end Go.Proofs.YthommhphcagokaaGreatDoor
namespace Go.Proofs.YthommhphcagokaaGreatDoor
open Go Go.RowKit Cp Go.Proofs.Tryz
-- no type cipherplan/api.Fact here
-- no type cipherplan/api.rJ here
-- no type cipherplan/ug.place here
variable{I:B3}{E:Env}{Bl:Int}{d k:Nat}{o:Oper}{w:World}
theorem nk{x0 y0:Int}{x1 y1:Int}:(Op.equalIn (d+2) 75 (.agg #[.int .i64 x0,.int .i64 x1]) (.agg #[.int .i64 y0,.int .i64 y1])).run Tryz.prog w= .ok (decide (x0=y0/\x1=y1)) w:=by
 have h:=eqS (w:=w) (d:=d+1) (xs:= #[.int .i64 x0,.int .i64 x1]) (ys:= #[.int .i64 y0,.int .i64 y1]) Tryz.underlying75 BI (GF AB (Cr DP rfl) (Cr DP rfl) (Ht (d:=d+0) Tryz.underlying3) (GF AB (Cr DP rfl) (Cr DP rfl) (Ht (d:=d+0) Tryz.underlying3) (OW)));refine h.trans (congrArg (fun b=>Result.ok b w) ?_);rw[Bool.eq_iff_iff];simp[and_assoc]
theorem Sv{u:TypeId}{x y:Operand}{x0 y0:Int}{x1 y1:Int}(ho:o.op= .binOp .eql 75 x y u)(hx:VL E x (agg [is (.int .i64 x0),is (.int .i64 x1)]))(hy:VL E y (agg [is (.int .i64 y0),is (.int .i64 y1)])):Ac Tryz.prog I o E (bool (decide (x0=y0/\x1=y1))):=
 Pn [.int .i64 x0,.int .i64 x1] [.int .i64 y0,.int .i64 y1] ho hx hy BI (fun w=>by rw[show Op.equal 75 _ _=Op.equalIn (9998+2) 75 _ _ from rfl];exact nk)
def cH(c:UInt8):Bool:=decide (33<=c.toNat/\c.toNat<=126)
def named(s:List UInt8):Bool:=s.all cH&&decide (1<=s.length/\s.length<=32)
theorem Gi{β:Type}{p:β->Bool}{l:List β}{x:β}(hx:l[k]? =some x)(hp:p x=false):l.all p=false:=by grind
theorem EG{β:Type}{p:β->Bool}{l:List β}(h:∀j y,j<l.length->l[j]? =some y->(!p y)=false):l.all p=true:=by
 rw[List.all_eq_true];intro y hy;obtain⟨j,hj⟩:=List.mem_iff_getElem?.1 hy;have:=h j y (by rcases Nat.lt_or_ge j l.length with h|h;exact h;rw[List.getElem?_eq_none h]at hj;cases hj) hj
 simpa using this
theorem K9{s:List UInt8}(hs:s.length<=maxLen):Am prog 122 [str s] (bool (named s)):=by
 refine fo func122 rfl ⟨rfl,rfl⟩ fun M0 w0=>?_;refine a2 ?_;refine co rfl (HG rfl underlying9 underlying180 underlying5 vq B5) ?_;refine ac ?_;refine Tr.block (Tr.D6 6 rfl fun hl6=>(Tr.BP _ (kk [7,6,0] rfl) (fun k:Nat=>[(8,int ((k:Nat):Int))]) (fun k:Nat=>k<=(s).length/\(∀j y,j<k->s[j]? =some y->(!cH y)=false)) (fun k:Nat=>(s).length-k) 0 (⟨Nat.zero_le _,fun j y hj=>absurd hj AA⟩) kz ?_));rintro k ⟨BR,AY⟩;refine ac ?_;refine Tr.seq ?_;refine Tr.cn rfl ?_ ?_<;>intro h1 q1
 have Ae:k<(s).length:=AV h1;obtain⟨c,Ag⟩:=at_ Ae;refine ac ?_;refine Tr.seq (Tr.block (Tr.seq (Tr.Bk (co rfl (AD rfl underlying180 D7 vq vq AA DL) ?_))))
 .repeat' first|(refine bool_eq ?_;unfold named;rw[Gi (p:=cH) Ag Kz];rfl)|(exact Fin.AR (k+1) ⟨⟨Ae,Cf (p:=fun c=> !cH c) Ag Kz AY⟩,by omega⟩ ⟨⟨_,rfl,AM k⟩,kz⟩)|refine ac ?_|(refine Tr.cn rfl ?_ ?_<;>intro h q)|(refine Ch.cg rfl rfl rfl ?_ ?_<;>intro h q)
 have BB:k=(s).length:=by have:=AW h1;omega
 subst BB
 .repeat' first|(refine bool_eq ?_;unfold named;rw[EG AY,Bool.true_and];rw[decide_eq_decide];omega)|(refine bool_eq ?_;unfold named;rw[EG AY,Bool.true_and];(symm;rw[decide_eq_false_iff_not];omega))|refine ac ?_|(refine Ch.cg rfl rfl rfl ?_ ?_<;>intro h q)
theorem E3{s:List UInt8}  :Am prog 152 [str s] (bool (named s)):=by
 refine fo func152 rfl ⟨rfl,rfl⟩ fun M0 w0=>?_;refine ac ?_;refine ag ?_ ?_<;>intro h1 q1
 refine a3 ?_
 .exact SF
 refine an ?_ ?_<;>intro h2 q2
 refine a2 ?_
 .exact SF
 refine a2 ?_;refine Tr.block (Tr.BP _ (kk [0] rfl) (fun k:Nat=>[(3,int ((k:Nat):Int))]) (fun k:Nat=>k<=(s).length/\(∀j y,j<k->s[j]? =some y->(!cH y)=false)) (fun k:Nat=>(s).length-k) 0 (⟨Nat.zero_le _,fun j y hj=>absurd hj AA⟩) kz ?_);rintro k ⟨BR,AY⟩;refine an ?_ ?_<;>intro h3 q3
 have Ae:k<(s).length:=AV h3;obtain⟨c,Ag⟩:=at_ Ae
 .repeat' first|(refine bool_eq ?_;unfold named;rw[Gi (p:=cH) Ag Kz];rfl)|(exact Fin.AR (k+1) ⟨⟨Ae,Cf (p:=fun c=> !cH c) Ag Kz AY⟩,by omega⟩ ⟨⟨_,rfl,AM k⟩,kz⟩)|refine co rfl (K7 rfl underlying9 vq vq AA (OU B5)) ?_|refine cy h rfl (K7 rfl underlying9 vq vq AA (OU B5)) ?_|refine ac ?_|(refine Tr.cn rfl ?_ ?_<;>intro h q)|(refine Ch.cg rfl rfl rfl ?_ ?_<;>intro h q)
 have BB:k=(s).length:=by have:=AW h3;omega
 subst BB;refine a3 ?_
 .refine bool_eq ?_;unfold named;rw[EG AY,Bool.true_and];symm;rw[decide_eq_true_eq];omega
structure Oa where
 name:List UInt8
 kind:Int
 way:Int
 sizes:List Int
 EY:List Int
abbrev fX(r:Oa):List Pr:=[str r.name,int r.kind,int r.way,ints r.sizes,ints r.EY]
def EH:List Oa:=[⟨[],0,0,[],[]⟩,⟨[109,100,53],1,0,[],[18]⟩,⟨[115,104,97,49],1,0,[],[60]⟩,⟨[115,104,97,50,53,54],1,0,[],[128]⟩,⟨[115,104,97,51,56,52],1,0,[],[192]⟩,⟨[114,115,97],2,1,[],[]⟩,⟨[100,115,97],2,1,[],[]⟩,⟨[101,99,100,115,97],2,2,[],[]⟩,⟨[101,100,50,53,53,49,57],2,0,[],[128]⟩,⟨[109,108,100,115,97],2,3,[44,65,87],[128,192,256]⟩,⟨[114,115,97,107,120],3,1,[],[]⟩,⟨[100,104,101],3,1,[],[]⟩,⟨[101,99,100,104,101],3,2,[],[]⟩,⟨[109,108,107,101,109],3,3,[512,768,1024],[128,192,256]⟩,⟨[114,99,52],4,3,[40,128],[40,60]⟩,⟨[100,101,115,51],4,3,[112,168],[80,112]⟩,⟨[97,101,115,99,98,99],4,3,[128,256],[128,256]⟩,⟨[97,101,115,103,99,109],4,3,[128,256],[128,256]⟩,⟨[99,104,97,99,104,97],4,0,[],[256]⟩,⟨[104,109,97,99,109,100,53],5,0,[],[64]⟩,⟨[104,109,97,99,115,104,97,49],5,0,[],[80]⟩,⟨[104,109,97,99,115,104,97,50,53,54],5,0,[],[128]⟩,⟨[97,101,97,100],5,0,[],[256]⟩]
def Sw:Oa:=⟨[],0,0,[],[]⟩
def Cl(Bl:Int):Oa:=if 1<=Bl/\Bl<=22 then(EH[Bl.toNat]?).getD Sw else Sw
theorem Fg(h:1<=Bl/\Bl<=22):EH[Bl.toNat]? =some (Cl Bl):=by
 have hl:Bl.toNat<EH.length:=by show Bl.toNat<23;omega
 unfold Cl;rw[if_pos h,List.getElem?_eq_getElem hl];rfl
theorem Ty(h:1<=Bl/\Bl<=22):Cl Bl∈EH:=List.mem_of_getElem? (Fg h)
theorem MA{β:Type}{f:β->List Pr}{sz:Nat}(hf:∀x,(f x).length=sz):∀{l:List β} {i:Nat} {x:β},l[i]? =some x->((l.flatMap f).drop (i*sz)).take sz=f x
 |[],_,_,h=>by simp at h
 |a::l,0,x,h=>by
  simp at h;subst h;rw[List.flatMap_cons,Nat.zero_mul,List.drop_zero,List.take_append_of_le_length (by rw[hf];exact Nat.le_refl _),List.take_of_length_le (by rw[hf];exact Nat.le_refl _)]
 |a::l,i+1,x,h=>by
  rw[List.flatMap_cons,Nat.succ_mul,Nat.add_comm,←List.drop_drop,List.drop_left' (hf a)];exact MA hf EP
theorem drop_cons{β:Type}{l:List β}{x:β}(h:l[k]? =some x):l.drop k=x::l.drop (k+1):=by
 have hk:k<l.length:=by rcases Nat.lt_or_ge k l.length with h'|h';exact h';rw[List.getElem?_eq_none h']at h;cases h
 rw[List.drop_eq_getElem_cons hk];rw[List.getElem?_eq_getElem hk]at h;simp at h;rw[h]
def mods:List (Int×Int):=[(1024,56),(2048,80),(3072,112),(7680,128),(15360,192)]
def fY:List (Int×Int)->Int->Int
 |[],_=>256
 |p::l,b=>if b<p.1 then p.2 else fY l b
def W9(b:Int):Int:=fY mods b
theorem fZ   :Am prog 271 [] (agg (EH.flatMap fX)):=by
 refine fo func271 rfl ⟨rfl,rfl⟩ fun M0 w0=>(Tr.seq (Tr.Al ?_));refine Tl rfl rfl rfl rfl sI dB (fun b1=>?_);refine ap ?_;refine ap ?_;refine tp rfl (Ad (rows:=[(0,[_]),(1,[_]),(2,[_]),(3,[_]),(4,[_])]) rfl DH C3 ⟨⟨rfl,CD⟩,⟨⟨rfl,CD⟩,⟨⟨rfl,CD⟩,⟨⟨rfl,⟨_,rfl,Pr.le_trans (AL 1) (AH _)⟩⟩,⟨⟨rfl,⟨_,rfl,Pr.le_trans (Ak _ _) (AH _)⟩⟩,trivial⟩⟩⟩⟩⟩ rfl) (tp rfl (oI) ?_);refine tp rfl (Ad (rows:=[(0,[_]),(1,[_]),(2,[_]),(3,[_]),(4,[_])]) rfl DH C3 ⟨⟨rfl,CD⟩,⟨⟨rfl,CD⟩,⟨⟨rfl,CD⟩,⟨⟨rfl,⟨_,rfl,Pr.le_trans (AL 1) (AH _)⟩⟩,⟨⟨rfl,⟨_,rfl,Pr.le_trans (Ak _ _) (AH _)⟩⟩,trivial⟩⟩⟩⟩⟩ rfl) (tp rfl (oI) ?_);refine tp rfl (Ad (rows:=[(0,[_]),(1,[_]),(2,[_]),(3,[_]),(4,[_])]) rfl DH C3 ⟨⟨rfl,CD⟩,⟨⟨rfl,CD⟩,⟨⟨rfl,CD⟩,⟨⟨rfl,⟨_,rfl,Pr.le_trans (AL 1) (AH _)⟩⟩,⟨⟨rfl,⟨_,rfl,Pr.le_trans (Ak _ _) (AH _)⟩⟩,trivial⟩⟩⟩⟩⟩ rfl) (tp rfl (oI) ?_);refine tp rfl (Ad (rows:=[(0,[_]),(1,[_]),(2,[_]),(3,[_]),(4,[_])]) rfl DH C3 ⟨⟨rfl,CD⟩,⟨⟨rfl,CD⟩,⟨⟨rfl,CD⟩,⟨⟨rfl,⟨_,rfl,Pr.le_trans (AL 1) (AH _)⟩⟩,⟨⟨rfl,⟨_,rfl,Pr.le_trans (Ak _ _) (AH _)⟩⟩,trivial⟩⟩⟩⟩⟩ rfl) (tp rfl (Ad (rows:=[(0,[_]),(1,[_]),(2,[_]),(3,[_]),(4,[_])]) rfl DH C3 ⟨⟨rfl,CD⟩,⟨⟨rfl,CD⟩,⟨⟨rfl,CD⟩,⟨⟨rfl,⟨_,rfl,Pr.le_trans (AL 1) (AH _)⟩⟩,⟨⟨rfl,⟨_,rfl,Pr.le_trans (AL 1) (AH _)⟩⟩,trivial⟩⟩⟩⟩⟩ rfl) (tp rfl (Ad (rows:=[(0,[_]),(1,[_]),(2,[_]),(3,[_]),(4,[_])]) rfl DH C3 ⟨⟨rfl,CD⟩,⟨⟨rfl,CD⟩,⟨⟨rfl,CD⟩,⟨⟨rfl,⟨_,rfl,Pr.le_trans (AL 1) (AH _)⟩⟩,⟨⟨rfl,⟨_,rfl,Pr.le_trans (AL 1) (AH _)⟩⟩,trivial⟩⟩⟩⟩⟩ rfl) (tp rfl (Ad (rows:=[(0,[_]),(1,[_]),(2,[_]),(3,[_]),(4,[_])]) rfl DH C3 ⟨⟨rfl,CD⟩,⟨⟨rfl,CD⟩,⟨⟨rfl,CD⟩,⟨⟨rfl,⟨_,rfl,Pr.le_trans (AL 1) (AH _)⟩⟩,⟨⟨rfl,⟨_,rfl,Pr.le_trans (AL 1) (AH _)⟩⟩,trivial⟩⟩⟩⟩⟩ rfl) (tp rfl (oI) ?_))));refine tp rfl (Ad (rows:=[(0,[_]),(1,[_]),(2,[_]),(3,[_]),(4,[_])]) rfl DH C3 ⟨⟨rfl,CD⟩,⟨⟨rfl,CD⟩,⟨⟨rfl,CD⟩,⟨⟨rfl,⟨_,rfl,Pr.le_trans (AL 1) (AH _)⟩⟩,⟨⟨rfl,⟨_,rfl,Pr.le_trans (Ak _ _) (AH _)⟩⟩,trivial⟩⟩⟩⟩⟩ rfl) ?_;refine ap ?_;refine tp rfl (Ad (rows:=[(0,[_]),(1,[_]),(2,[_]),(3,[_]),(4,[_])]) rfl DH C3 ⟨⟨rfl,CD⟩,⟨⟨rfl,CD⟩,⟨⟨rfl,CD⟩,⟨⟨rfl,⟨_,rfl,Pr.le_trans (Ak _ _) (AH _)⟩⟩,⟨⟨rfl,⟨_,rfl,Pr.le_trans (Ak _ _) (AH _)⟩⟩,trivial⟩⟩⟩⟩⟩ rfl) (tp rfl (Ad (rows:=[(0,[_]),(1,[_]),(2,[_]),(3,[_]),(4,[_])]) rfl DH C3 ⟨⟨rfl,CD⟩,⟨⟨rfl,CD⟩,⟨⟨rfl,CD⟩,⟨⟨rfl,⟨_,rfl,Pr.le_trans (AL 1) (AH _)⟩⟩,⟨⟨rfl,⟨_,rfl,Pr.le_trans (AL 1) (AH _)⟩⟩,trivial⟩⟩⟩⟩⟩ rfl) (tp rfl (Ad (rows:=[(0,[_]),(1,[_]),(2,[_]),(3,[_]),(4,[_])]) rfl DH C3 ⟨⟨rfl,CD⟩,⟨⟨rfl,CD⟩,⟨⟨rfl,CD⟩,⟨⟨rfl,⟨_,rfl,Pr.le_trans (AL 1) (AH _)⟩⟩,⟨⟨rfl,⟨_,rfl,Pr.le_trans (AL 1) (AH _)⟩⟩,trivial⟩⟩⟩⟩⟩ rfl) (tp rfl (Ad (rows:=[(0,[_]),(1,[_]),(2,[_]),(3,[_]),(4,[_])]) rfl DH C3 ⟨⟨rfl,CD⟩,⟨⟨rfl,CD⟩,⟨⟨rfl,CD⟩,⟨⟨rfl,⟨_,rfl,Pr.le_trans (AL 1) (AH _)⟩⟩,⟨⟨rfl,⟨_,rfl,Pr.le_trans (AL 1) (AH _)⟩⟩,trivial⟩⟩⟩⟩⟩ rfl) ?_)));refine ap ?_;refine tp rfl (Ad (rows:=[(0,[_]),(1,[_]),(2,[_]),(3,[_]),(4,[_])]) rfl DH C3 ⟨⟨rfl,CD⟩,⟨⟨rfl,CD⟩,⟨⟨rfl,CD⟩,⟨⟨rfl,⟨_,rfl,Pr.le_trans (Ak _ _) (AH _)⟩⟩,⟨⟨rfl,⟨_,rfl,Pr.le_trans (Ak _ _) (AH _)⟩⟩,trivial⟩⟩⟩⟩⟩ rfl) ?_;refine ap ?_;refine tp rfl (Ad (rows:=[(0,[_]),(1,[_]),(2,[_]),(3,[_]),(4,[_])]) rfl DH C3 ⟨⟨rfl,CD⟩,⟨⟨rfl,CD⟩,⟨⟨rfl,CD⟩,⟨⟨rfl,⟨_,rfl,Pr.le_trans (Ak _ _) (AH _)⟩⟩,⟨⟨rfl,⟨_,rfl,Pr.le_trans (Ak _ _) (AH _)⟩⟩,trivial⟩⟩⟩⟩⟩ rfl) ?_;refine ap ?_;refine tp rfl (Ad (rows:=[(0,[_]),(1,[_]),(2,[_]),(3,[_]),(4,[_])]) rfl DH C3 ⟨⟨rfl,CD⟩,⟨⟨rfl,CD⟩,⟨⟨rfl,CD⟩,⟨⟨rfl,⟨_,rfl,Pr.le_trans (Ak _ _) (AH _)⟩⟩,⟨⟨rfl,⟨_,rfl,Pr.le_trans (Ak _ _) (AH _)⟩⟩,trivial⟩⟩⟩⟩⟩ rfl) ?_;refine ap ?_;refine tp rfl (Ad (rows:=[(0,[_]),(1,[_]),(2,[_]),(3,[_]),(4,[_])]) rfl DH C3 ⟨⟨rfl,CD⟩,⟨⟨rfl,CD⟩,⟨⟨rfl,CD⟩,⟨⟨rfl,⟨_,rfl,Pr.le_trans (Ak _ _) (AH _)⟩⟩,⟨⟨rfl,⟨_,rfl,Pr.le_trans (Ak _ _) (AH _)⟩⟩,trivial⟩⟩⟩⟩⟩ rfl) ?_;refine ap ?_;refine tp rfl (Ad (rows:=[(0,[_]),(1,[_]),(2,[_]),(3,[_]),(4,[_])]) rfl DH C3 ⟨⟨rfl,CD⟩,⟨⟨rfl,CD⟩,⟨⟨rfl,CD⟩,⟨⟨rfl,⟨_,rfl,Pr.le_trans (Ak _ _) (AH _)⟩⟩,⟨⟨rfl,⟨_,rfl,Pr.le_trans (Ak _ _) (AH _)⟩⟩,trivial⟩⟩⟩⟩⟩ rfl) (tp rfl (oI) ?_);refine tp rfl (Ad (rows:=[(0,[_]),(1,[_]),(2,[_]),(3,[_]),(4,[_])]) rfl DH C3 ⟨⟨rfl,CD⟩,⟨⟨rfl,CD⟩,⟨⟨rfl,CD⟩,⟨⟨rfl,⟨_,rfl,Pr.le_trans (AL 1) (AH _)⟩⟩,⟨⟨rfl,⟨_,rfl,Pr.le_trans (Ak _ _) (AH _)⟩⟩,trivial⟩⟩⟩⟩⟩ rfl) (tp rfl (oI) ?_);refine tp rfl (Ad (rows:=[(0,[_]),(1,[_]),(2,[_]),(3,[_]),(4,[_])]) rfl DH C3 ⟨⟨rfl,CD⟩,⟨⟨rfl,CD⟩,⟨⟨rfl,CD⟩,⟨⟨rfl,⟨_,rfl,Pr.le_trans (AL 1) (AH _)⟩⟩,⟨⟨rfl,⟨_,rfl,Pr.le_trans (Ak _ _) (AH _)⟩⟩,trivial⟩⟩⟩⟩⟩ rfl) (tp rfl (oI) ?_);refine tp rfl (Ad (rows:=[(0,[_]),(1,[_]),(2,[_]),(3,[_]),(4,[_])]) rfl DH C3 ⟨⟨rfl,CD⟩,⟨⟨rfl,CD⟩,⟨⟨rfl,CD⟩,⟨⟨rfl,⟨_,rfl,Pr.le_trans (AL 1) (AH _)⟩⟩,⟨⟨rfl,⟨_,rfl,Pr.le_trans (Ak _ _) (AH _)⟩⟩,trivial⟩⟩⟩⟩⟩ rfl) (tp rfl (oI) ?_);refine tp rfl (Ad (rows:=[(0,[_]),(1,[_]),(2,[_]),(3,[_]),(4,[_])]) rfl DH C3 ⟨⟨rfl,CD⟩,⟨⟨rfl,CD⟩,⟨⟨rfl,CD⟩,⟨⟨rfl,⟨_,rfl,Pr.le_trans (AL 1) (AH _)⟩⟩,⟨⟨rfl,⟨_,rfl,Pr.le_trans (Ak _ _) (AH _)⟩⟩,trivial⟩⟩⟩⟩⟩ rfl) (tp rfl (oI) ?_);refine tp rfl (Ad (rows:=[(0,[_]),(1,[_]),(2,[_]),(3,[_]),(4,[_])]) rfl DH C3 ⟨⟨rfl,CD⟩,⟨⟨rfl,CD⟩,⟨⟨rfl,CD⟩,⟨⟨rfl,⟨_,rfl,Pr.le_trans (AL 1) (AH _)⟩⟩,⟨⟨rfl,⟨_,rfl,Pr.le_trans (Ak _ _) (AH _)⟩⟩,trivial⟩⟩⟩⟩⟩ rfl) ?_;refine ap ?_;refine wk [0] rfl (Tr.ret (Fin.Br rfl (AZ.cell 0 rfl rfl fK dA rfl Lr) ?_))
 .exact Au ⟨Lr,Lr,Lr,AL 1,AL 1,Lr,Lr,Lr,Lr,Lr,Lr,Lr,Lr,Lr,Lr,Lr,Lr,Lr,Lr,Lr,Lr,Lr,Lr,Lr,Lr,Lr,Lr,Lr,Lr,Lr,Lr,Lr,Lr,Lr,Lr,Lr,Lr,Lr,Lr,Lr,Lr,Lr,Lr,Lr,Lr,Lr,Lr,Lr,Lr,Lr,Lr,Lr,Lr,Lr,Lr,Lr,Lr,Lr,Lr,Lr,Lr,Lr,Lr,Lr,Lr,Lr,Lr,Lr,Lr,Lr,Lr,Lr,Lr,Lr,Lr,Lr,Lr,Lr,Lr,Lr,Lr,Lr,Lr,Lr,Lr,Lr,Lr,Lr,Lr,Lr,Lr,Lr,Lr,Lr,Lr,Lr,Lr,Lr,Lr,Lr,Lr,Lr,Lr,Lr,Lr,Lr,Lr,Lr,Lr,Lr,Lr,Lr,Lr,Lr,Lr,trivial⟩
theorem nq:Am prog 230 [int Bl] (D8 [agg (fX (Cl Bl)),bool (decide (1<=Bl/\Bl<=22))]):=by
 refine fo func230 rfl ⟨rfl,rfl⟩ fun M0 w0=>(Tr.seq (Tr.Al ?_));refine Tl rfl rfl rfl rfl fI C3 (fun b1=>?_);refine ap ?_;refine ag ?_ ?_<;>intro h1 q1
 refine ac ?_;refine Tr.cond rfl (fun _=>?_) (fun h=>nomatch h);refine Tr.seq (Tr.Al (tp rfl (Ad (rows:=[]) rfl DH C3 trivial rfl) (TO.Aa 0 rfl rfl rfl vq Ce rfl NH rfl rfl (tm rfl (TO.nil (Fin.go (Tr.ret (Fin.AP (Fin.BU rfl (AZ.cell 0 rfl rfl OT NH rfl Lr) (AZ.tmp rfl Lr) ?_)))))))))
 .exact VR
 refine an ?_ ?_<;>intro h2 q2
 refine ap ?_;refine Tr.ret (Fin.AP (Fin.BU rfl (AZ.cell 0 rfl rfl OT NH rfl Lr) (AZ.tmp rfl Lr) ?_))
 .exact VR
 have hin:1<=Bl/\Bl<=22:=by omega
 refine ac ?_;refine Tr.seq (Tr.Al (tp rfl (Ya (fZ) rfl) (tm rfl (tp rfl (Pm rfl underlying365 OT NH vq vq AA AA (MA (f:=fX) (fun _=>rfl) (Fg hin))) ?_))));refine ap ?_;refine Tr.ret (Fin.BU rfl (AZ.cell 0 rfl rfl OT NH rfl Lr) (AZ.tmp rfl Lr) ?_)
 .exact CH ⟨Lr,bool_eq (by symm;rw[decide_eq_true_eq];exact hin),trivial⟩
theorem RW:Am prog 200 [int Bl] (int (Cl Bl).kind):=by
 refine fo func200 rfl ⟨rfl,rfl⟩ fun M0 w0=>?_;refine ac ?_;refine ao ?_;refine tp rfl (BQ (nq) rfl rfl) ?_;refine ao ?_;refine Tl rfl rfl rfl rfl fI C3 (fun b1=>?_);refine sf 0 3 ⟨rfl,rfl,rfl⟩ rfl rfl rfl rfl ?_;refine ao ?_;refine a2 ?_
 .exact Lr
theorem Tz{b:Int}  :Am prog 231 [int b] (int (W9 b)):=by
 refine fo func231 rfl ⟨rfl,rfl⟩ fun M0 w0=>?_;have hml:mods.length=5:=rfl;refine a2 ?_;refine Tr.block (Tr.re 10 rfl (Pr.le_of_eq (show _=agg (mods.flatMap fun p=>[int p.1,int p.2])from rfl)) (Tr.BP _ (kk [10,0] rfl) (fun k:Nat=>[(11,int ((k:Nat):Int))]) (fun k:Nat=>k<=(mods).length/\(W9 b=fY (mods.drop k) b)) (fun k:Nat=>(mods).length-k) 0 (⟨Nat.zero_le _,rfl⟩) kz ?_));rintro k ⟨BR,AY⟩;refine ac ?_;refine Tr.seq ?_;refine Tr.cn rfl ?_ ?_<;>intro h1 q1
 have Ae:k<(mods).length:=AV h1;obtain⟨p,Ag⟩:=at_ Ae;have hL:k<5:=Ae;have hdr:=drop_cons Ag;refine ac ?_;refine Tr.seq (Tr.block (Tr.seq (Tr.Al (tp rfl (Pm rfl underlying368 fL dD vq vq AA AA (MA (f:=fun p:Int×Int=>[int p.1,int p.2]) (fun _=>rfl) Ag)) ?_))));refine Tl rfl rfl rfl rfl sJ dF (fun b1=>?_);refine sf 0 4 ⟨rfl,rfl,rfl⟩ rfl rfl rfl rfl ?_;refine ao ?_;refine ac ?_;refine co rfl (KR rfl underlying367 C_ vq vq AA AA rfl) (co rfl (Lj rfl DP vq rfl) ?_);refine an ?_ ?_<;>intro h2 q2
 refine Tr.seq (Tr.Bk (co rfl (KR rfl underlying367 C_ vq vq AA AA rfl) (co rfl (Lj rfl DP vq rfl) ?_)));refine ac ?_;refine wk [2] rfl ?_;refine ac ?_
 .refine int_eq ?_;rw[AY,hdr];exact(if_pos AA).symm
 refine a2 ?_;exact Fin.AR (k+1) ⟨⟨Ae,(by rw[AY,hdr];exact if_neg AA)⟩,by omega⟩ ⟨⟨_,rfl,AM k⟩,kz⟩;have BB:k=(mods).length:=by have:=AW h1;omega
 subst BB;refine a3 ?_
 .refine int_eq ?_;rw[AY,List.drop_length];rfl
def Mw:List Int:=[160,224,256,384,521]
def Bf(Bl bits:Int):Int:=
 if 1 <= Bl /\ Bl <= 22 then
  if(Cl Bl).way=0 then(if bits=0 then((Cl Bl).EY[0]?).getD 0 else 0)
  else if(Cl Bl).way=1 then(if 512<=bits/\bits<=16384 then W9 bits else 0)
  else if(Cl Bl).way=2 then(if(Mw.any fun x=>bits==x)=true then bits.tdiv 2 else 0)
  else if(Cl Bl).way=3 then(if 0<=idx (fun x=>bits==x) (Cl Bl).sizes then((Cl Bl).EY[(idx (fun x=>bits==x) (Cl Bl).sizes).toNat]?).getD 0 else 0)
  else 0
 else 0
theorem RY(h:1<=Bl/\Bl<=22):Cl Bl∈EH.tail:=by
 have h1:=Fg h;refine List.mem_of_getElem? (i:=Bl.toNat-1) ?_;rw[List.getElem?_tail,show Bl.toNat-1+1=Bl.toNat by omega];exact h1
theorem fc:∀r∈EH.tail,(r.way=0->1<=r.EY.length)/\(r.way=3->r.sizes.length<=r.EY.length):=by decide
theorem ff{β:Type}(p:β->Bool)(l:List β):idx p l<l.length:=by
 unfold idx;cases h:l.findIdx? p with
 |none=>simp;omega
 |some i=>rw[List.findIdx?_eq_some_iff_getElem]at h;obtain⟨h1,_⟩:=h;simp;omega
theorem RZ{bits:Int}:Am prog 174 [agg [int Bl,int bits]] (int (Bf Bl bits)):=by
 refine fo func174 rfl ⟨rfl,rfl⟩ fun M0 w0=>?_;refine ac ?_;refine ao ?_;refine tp rfl (BQ (nq) rfl rfl) ?_;refine ao ?_;refine Tl rfl rfl rfl rfl fI C3 (fun b1=>?_);refine sf 0 3 ⟨rfl,rfl,rfl⟩ rfl rfl rfl rfl ?_;refine ao ?_;refine ac ?_;refine wk [13,3,1] rfl ?_;refine Tr.cn rfl ?_ ?_<;>intro h1 q1
 refine a2 ?_
 .refine int_eq ?_;unfold Bf;rw[if_neg (by intro hh;simp[hh]at h1)]
 have hin:1<=Bl/\Bl<=22:=by simpa using h1
 obtain⟨hc0,hc3⟩:=fc _ (RY hin);refine a2 ?_;refine an ?_ ?_<;>intro h2 q2
 refine an ?_ ?_<;>intro h3 q3
 obtain⟨z,hz⟩:=at_ (l:=(Cl Bl).EY) (k:=0) (hc0 AA);refine ac ?_;refine co rfl (AD rfl underlying22 C_ vq vq AA (Aj (k:=0) hz)) ?_;refine ac ?_;refine wk [2] rfl ?_;refine ac ?_
 .refine int_eq ?_;unfold Bf;rw[if_pos hin,if_pos AA,if_pos AA,hz];rfl
 refine a3 ?_
 .refine int_eq ?_;unfold Bf;rw[if_pos hin,if_pos AA,if_neg AA]
 refine an ?_ ?_<;>intro h4 q4
 .repeat' first|(refine int_eq ?_;unfold Bf;rw[if_pos hin,if_neg AA,if_pos AA,if_pos AA])|(refine int_eq ?_;unfold Bf;rw[if_pos hin,if_neg AA,if_pos AA,if_neg AA])|refine co rfl (BQ (Tz) rfl rfl) ?_|refine ac ?_|(refine Tr.cn rfl ?_ ?_<;>intro h q)|(refine Ch.cg rfl rfl rfl ?_ ?_<;>intro h q)
 refine an ?_ ?_<;>intro h7 q7
 refine ac ?_;refine co rfl (AQ rfl (D3 (l:=Mw)) ⟨Cs,kz⟩) ?_;refine ac ?_;refine wk [43,1] rfl ?_;refine Tr.cn rfl ?_ ?_<;>intro h8 q8
 have hb:bits=160\/bits=224\/bits=256\/bits=384\/bits=521:=by simpa[Mw]using h8
 refine ac ?_;refine co rfl (Jj rfl vq vq AA) ?_;refine a2 ?_
 .refine int_eq ?_;unfold Bf;rw[if_pos hin,if_neg AA,if_neg AA,if_pos AA,if_pos B5];rcases hb with h|h|h|h|h<;>rw[h]<;>rfl
 refine a3 ?_
 .refine int_eq ?_;unfold Bf;rw[if_pos hin,if_neg AA,if_neg AA,if_pos AA,if_neg (Ec B5)]
 refine an ?_ ?_<;>intro h9 q9
 refine ac ?_;refine co rfl (Bm (Pu) rfl rfl rfl) ?_;refine ac ?_;refine wk [5,3] rfl ?_;refine an ?_ ?_<;>intro h10 MB
 have hlt:=ff (fun x=>bits==x) (Cl Bl).sizes;obtain⟨z,hz⟩:=at_ (l:=(Cl Bl).EY) (k:=(idx (fun x=>bits==x) (Cl Bl).sizes).toNat) (by have:=hc3 AA;omega);refine ac ?_;refine co rfl (AD rfl underlying22 C_ vq vq AA (B9 hz)) ?_;refine a2 ?_
 .refine int_eq ?_;unfold Bf;rw[if_pos hin,if_neg AA,if_neg AA,if_neg AA,if_pos AA,if_pos B5,hz];rfl
 refine a3 ?_
 .refine int_eq ?_;unfold Bf;rw[if_pos hin,if_neg AA,if_neg AA,if_neg AA,if_pos AA,if_neg AA]
 refine a2 ?_;refine wk [2] rfl ?_;refine ac ?_
 .refine int_eq ?_;unfold Bf;rw[if_pos hin,if_neg AA,if_neg AA,if_neg AA,if_neg AA]
theorem Ob{bits:Int}:Am prog 121 [agg [int Bl,int bits]] (bool (decide (Bf Bl bits>0))):=by
 refine fo func121 rfl ⟨rfl,rfl⟩ fun M0 w0=>?_;refine a2 ?_;refine co rfl (BQ (RZ) rfl rfl) ?_;refine a2 ?_
 .exact Lr
end Go.Proofs.YthommhphcagokaaGreatDoor
namespace Cp
open Go Go.RowKit
variable{ops:Array Oper}{M:Av}{rows:List (List Pr)}{rs:List At}{zs:List Value}{o:Oper}{p:Pr}{P:Program}{T:TypeId}{v:Value}{w w0:World}
theorem W_{E:Env}{I:B3}{t u:TypeId}{x y:Operand}{a b:List UInt8}(ho:o.op= .binOp .add t x y u)(hx:VL E x (str a))(hy:VL E y (str b))(hl:a.length+b.length<=maxLen):Ac P I o E (str (a++b)):=
 Ac.same fun M w ac he _=>by
  have h1:ac.eval x=_:=hx.ev he Ax;have h2:ac.eval y=_:=hy.ev he Ax;have hs:¬((9223372036854775807:Int)<((ByteArray.mk a.toArray).size:Int)+((ByteArray.mk b.toArray).size:Int)):=by rw[HF,HF];unfold maxLen at hl;omega
  refine⟨_,by simp[execOp,ho,h1,h2,eqGuard,binOp,Op.stringOp,hs];rfl,?_⟩;show Value.string _=Value.string _
  congr 1
theorem XA{sz:Nat}(h:(full sz rows).h M w v):Cz v=none:=by
 obtain⟨_,a,rfl⟩:=h;cases a with
 |none=>rfl
 |some a=>show(if _ then _ else _)=_;rw[if_neg AA]
theorem Hw{E:Env}{I:B3}{t e:TypeId}{x y:Operand}{sz bytes:Nat}{Sx:List (List Pr)}(ho:o.op= .call { callee:= .builtin .append,args:= #[x,y],argTypes:= #[t,t] })(ht:P.underlying t=some (.slice e))(hz:Ar P e=some sz)(hby:Bz P e=some bytes)(Dc:A_ P e=some zs)(hzl:zs.length=sz)(hsz:0<sz)(hx:VL E x (full sz Sx))(hy:VL E y (slice sz rows))(FA:Sx.length+rows.length<=maxLen)(hfit:(Sx.length+rows.length)*bytes<=140737488355328):Ac P I o E (slice sz (Sx++rows)):=
 Ac.val fun M w a he hI=>by
  have h0:=(A0.begin (I.bd _ _ hI)).G8 (r:=Bj) rfl trivial;have hv:=hx.ev he Cb;obtain⟨v',w',M',h1,h2,h3,h4⟩:=PT (ty:=o.type) (j:=0) ht hz hby Dc hzl hsz h0 rfl (.inr ⟨rfl,XA hv⟩) hv.1 (hy.ev he Cb) FA hfit;exact⟨v',w',by simp[execOp,ho,resolve,invoke,builtin,h1],(slice sz _).st _ _ _ _ _ (Ext.less h4.m) h2,h4.below⟩
theorem fk{E:Env}{I:B3}{t u:TypeId}{x y:Operand}(ho:o.op= .binOp .lss t x y u)(hx:VL E x (Dn .i64))(hy:VL E y (Dn .i64)):Ac P I o E (Cp.ex fun b:Bool=>bool b):=
 Ac.same fun M w a he _=>by
  obtain⟨m,h1⟩:=hx.ev he Ax;obtain⟨n,h2⟩:=hy.ev he Ax;have h1:a.eval x= .int .i64 m:=h1;have h2:a.eval y= .int .i64 n:=h2;exact⟨.bool (decide (m<n)),by simp[execOp,ho,h1,h2,eqGuard,binOp,Op.intCmp],decide (m<n),rfl⟩
theorem TO.Gt{n:Fm}{E:Env}{M0:Av}{S:Nat->Prop}{r:List Oper}{Q:Exit->Act->World->Prop}(i:Nat){b:Nat}(hi:rs[i]? =some (EW T b))(k:∀s,TO P n ops r E (Hp M0 w0 S (rs.set i (Pc T b s))) Q):TO P n ops r E (Hp M0 w0 S rs) Q:=by
 rintro m hl a w ⟨M,h1,h2,h3,h4⟩;have h4:A0 M0 w0 S rs M w:=h4;obtain⟨x,hx,hh⟩:=(h4.hold _ (List.mem_of_getElem? hi)).1;exact k x m hl a w ⟨M,h1,h2,h3,h4.DG hi rfl rfl hh⟩
theorem Ac.YZ{E:Env}{I:B3}(s:Nat){α:Type}{f:α->Pr}(hs:E.lookup s=some (Cp.ex f))(hm:s∈looks o)(h:∀x,Ac P I o ((s,f x)::E) p):Ac P I o E p:=by
 intro M w a he hI;obtain⟨x,hx⟩:=he s _ hm hs;refine h x M w a (fun t q ht hq=>?_) hI;simp only[List.lookup]at hq
 by_cases hts:t=s
 .subst hts;simp at hq;subst hq;exact hx
 .exact Q4
theorem Ac.opf{E:Env}{I:B3}{q:Pr}{φ:Prop}(s:Nat)(hs:E.lookup s=some (Cp.fact φ q))(hm:s∈looks o)(h:φ->Ac P I o ((s,q)::E) p):Ac P I o E p:=by
 intro M w a he hI;obtain⟨hφ,hx⟩:=he s _ hm hs;refine h hφ M w a (fun t r ht hr=>?_) hI;simp only[List.lookup]at hr
 by_cases hts:t=s
 .subst hts;simp at hr;subst hr;exact hx
 .rw[show(t==s)=false by simpa using hts]at hr;exact he t r ht hr
end Cp
namespace Cp
open Go Go.RowKit Go.Great
variable{M:Av}{rows:List (List Pr)}{i j:Nat}{e:TypeId}{v:Value}{w:World}
section
variable{P:Program}{L:Lg P}{n:Fm}{fz:Nat}{E:Env}{M0:Av}{w0:World}{S:Nat->Prop}{rs:List At}
theorem A0.XB{r r':At}(h:A0 M0 w0 S rs M w)(hi:rs[i]? =some r)(hb:∀b,r'.blk=some b->r.blk=some b)(hn:r'.new=r.new)(hh:r'.h M w):A0 M0 w0 S (rs.set i r') M w:=by
 have Ey:i<rs.length:=by rcases Nat.lt_or_ge i rs.length with h|h;exact h;rw[List.getElem?_eq_none h]at hi;cases hi
 have h1:=A0.perm (GZ hi) h;refine A0.perm (I8 Ey) ⟨h1.m0,h1.m,h1.os,h1.tape,h1.output,h1.size,h1.block,h1.bd,fun q hq=>?_,?_⟩
 .
  rcases List.mem_cons.1 hq with rfl|hq
  .exact⟨hh,fun b hbk=>by rw[hn];exact(h1.hold r AO).2 b (hb b hbk)⟩
  .exact h1.hold q (by simp[hq])
 .
  obtain⟨h2,h3⟩:=List.pairwise_cons.1 h1.nd;exact List.Pairwise.cons (fun q hq b hbk=>h2 q hq b (hb b hbk)) h3
theorem A0.Pv{sz:Nat}(h:A0 M0 w0 S rs M w)(hj:rs[j]? =some (BM e sz rows v)):A0 M0 w0 S (rs.set j (CL e sz rows v)) M w:=by
 rcases(h.hold _ (List.mem_of_getElem? hj)).1 with⟨h1,h2⟩|⟨b,cap,sp,h1,h2,h3,h4,h5⟩
 .
  subst h2;exact h.XB hj (fun b hb=>by cases hb) rfl (.inl ⟨h1,_,rfl⟩)
 .
  subst h1;cases cap with
  |zero=>
   have hr:rows=[]:=List.eq_nil_of_length_eq_zero AA;subst hr;exact h.XB hj (fun b hb=>by cases hb) rfl (.inl ⟨rfl,_,rfl⟩)
  |succ c=>exact h.XB hj (fun b hb=>hb) rfl (.inr ⟨b,c,sp,rfl,h2,h3,h4,h5⟩)
theorem Fin.Pv{Q:Exit->Act->World->Prop}{x:Exit}{sz:Nat}(j:Nat)(hj:rs[j]? =some (BM e sz rows v))(k:Fin n E (Hp M0 w0 S (rs.set j (CL e sz rows v))) Q x):Fin n E (Hp M0 w0 S rs) Q x:=
 Fin.conv (fun a w hs=>by
  obtain⟨M,h1,h2,h3,h4⟩:=hs;have h4:A0 M0 w0 S rs M w:=h4
  exact⟨M,h1,h2,h3,h4.Pv hj⟩) k
theorem Tr.Pv{Q:Exit->Act->World->Prop}{c:Code}{sz:Nat}(j:Nat)(hj:rs[j]? =some (BM e sz rows v))(k:Tr L n E (Hp M0 w0 S (rs.set j (CL e sz rows v))) c Q):Tr L n E (Hp M0 w0 S rs) c Q:=
 Tr.conv (fun _ _ ⟨M,h1,h2,h3,h4⟩=>⟨M,h1,h2,h3,A0.Pv h4 hj⟩) k
end
end Cp
namespace Cp
open Go Go.RowKit
end Cp
namespace Cp
open Go Go.RowKit Go.Great
section
variable{P:Program}{L:Lg P}{n:Fm}{fz:Nat}{E:Env}{M0:Av}{w0:World}{S:Nat->Prop}{rs:List At}{o:Oper}{g:Func}{M1:Av}{w1:World}
end
section
variable{P:Program}{L:Lg P}{n:Fm}{fz:Nat}{E:Env}{M0:Av}{w0:World}{S:Nat->Prop}{rs:List At}
end
end Cp
namespace Cp
open Go Go.RowKit
abbrev CS(ρ:Option Nat):Fence:={ Fence.wide with round:=ρ }
section
variable{P:Program}{ρ:Option Nat}
def Gw(o:Oper):Bool:=match o.op with
 | .defer _=>false
 |_=>true
theorem XC{o:Oper}{a:Act}{w:World}{K K':Act->World->Prop}{Q:Exit->Act->World->Prop}(hc:Gw o=true)(hK:∀a w,K a w->K' a w)(h:o.wp P a w K Q):o.wpIn (CS ρ) 0 P a w K' Q:=by
 refine⟨fun _ _=>trivial,?_⟩;rw[Oper.semAt_eq _ _ _ (fun c hh=>by unfold Gw at hc;rw[hh]at hc;cases hc)];unfold Oper.wp at h
 generalize (execOp a.eval o).run P w=r at h ⊢
 cases r with
 |halt x w'=>cases x<;>first|exact h|exact h.elim
 |ok x w'=>
  cases x<;>first|exact h.elim|skip
  case value v=>exact hK _ _ h
  case skip=>exact hK _ _ h
  case defer d=>exact hK _ _ h
  case enter f args=>exact⟨fun hh=>(by cases hh),callsIn_wide.2 (h.mono fun e w'' hr=>by cases e<;>first|exact hK _ _ hr|exact hr)⟩
  case row row args=>
   refine⟨fun hh=>(by cases hh),fun c cs _=>?_⟩;obtain⟨v,w2,h1,h2⟩:=h c cs;exact⟨v,w2,hK _ _ h1,stepsIn_wide.2 h2⟩
theorem XD{ops:Array Oper}{Q:Exit->Act->World->Prop}(hc:∀(i:Nat) o,ops[i]? =some o->Gw o=true):∀(l:List Nat) (a:Act) (w:World),wpS P ops Q l a w->wpOpsIn (CS ρ) 0 P ops Q l a w
 |[],_,_,h=>h
 |i::l,a,w,h=>by
  have ih:=XD (Q:=Q) hc l;unfold wpS at h;unfold wpOpsIn;cases ho:ops[i]? with
  |none=>rw[ho]at h;exact ih a w h
  |some o=>
   rw[ho]at h
   dsimp only at h ⊢
   split
   next hw=>rw[if_pos hw]at h;exact XC (hc i o ho) ih h
   next hw=>rw[if_neg hw]at h;exact⟨fun _ _=>trivial,ih _ _ h⟩
theorem fm{ops:Array Oper}{Q:Exit->Act->World->Prop}(hc:∀(i:Nat) o,ops[i]? =some o->Gw o=true){i:Nat}{K K':Act->World->Prop}{a:Act}{w:World}(hK:∀a w,K a w->K' a w)(h:LS P ops Q i K a w):wpOpIn (CS ρ) 0 P ops Q i K' a w:=by
 unfold LS at h;unfold wpOpIn;cases ho:ops[i]? with
 |none=>rw[ho]at h;exact hK _ _ h
 |some o=>
  rw[ho]at h
  dsimp only at h ⊢
  split
  next hw=>rw[if_pos hw]at h;exact XC (hc i o ho) hK h
  next hw=>rw[if_neg hw]at h;exact⟨fun _ _=>trivial,hK _ _ h⟩
theorem XE{ops:Array Oper}{md:Region.Mode}{Q:Exit->Act->World->Prop}(hc:∀(i:Nat) o,ops[i]? =some o->Gw o=true):∀(fuel:Nat) (listed:Array Bool) (a:Act) (w:World),IP P md ops Q fuel listed a w->wpAnyIn (CS ρ) 0 P md ops Q fuel listed a w
 |0,_,_,_,h=>h
 |fuel+1,_,_,_,h=>⟨h.1,fun i hi=>fm hc (XE hc fuel _) (h.2 i hi)⟩
theorem Sy{l:List Oper}(hc:calm l=true):∀(i:Nat) o,l.toArray[i]? =some o->Gw o=true:=fun i o ho=>by
 have hm:o∈l:=List.mem_of_getElem? (by simpa using ho);have:=List.all_eq_true.1 hc o hm;unfold Gw;revert this;cases o.op<;>simp
theorem Z1{c:Code}{Q:Exit->Act->World->Prop}{α:Type}(μ:α->Nat)(R:α->Act->World->Prop)(round:∀x a w,R x a w->c.wpIn (CS ρ) 0 P (Exit.then (fun a' w'=>∃y,μ y<μ x/\R y a' w') Q) a w)(x:α)(a:Act)(w:World)(hx:R x a w):(Code.loop c).wpIn (CS ρ) 0 P Q a w:=by
 intro b k cs hro hb hr
 have key:∀m x a w,μ x=m->R x a w->∃e a' w',Q e a' w'/\ArrivesIn (Machine.fenced P (CS ρ)) P (lone (b.atR a (.code c:: .inLoop c::k)) cs w) b k cs e a' w':=by
  intro m
  induction m using Nat.strongRecOn with
  |_ m ih=>
   intro x a w hm hx;obtain⟨e,a₁,w₁,hq,F5⟩:=round x a w hx b (.inLoop c::k) cs hro hb hr;cases e with
   |normal=>
    obtain⟨y,hlt,hy⟩:=hq;obtain⟨e₂,a₂,w₂,Vt,N9⟩:=ih (μ y) (hm ▸ hlt) y a₁ w₁ rfl hy;exact⟨e₂,a₂,w₂,Vt,.of_steps (StepsIn.trans F5 (.one (fenced_calm hb hr rfl) stepR_inLoop)) N9⟩
   |exit id=>exact⟨_,a₁,w₁,hq,.pass (x:= .inLoop c) rfl (fun _ _=> .inl AO) F5⟩
   |goto l=>exact⟨_,a₁,w₁,hq,.pass (x:= .inLoop c) rfl (fun _ _=> .inl AO) F5⟩
   |ret=>exact⟨_,a₁,w₁,hq,.pass (x:= .inLoop c) rfl (fun _ _=> .inl AO) F5⟩
   |panic ch=>exact⟨_,a₁,w₁,hq,.pass (x:= .inLoop c) rfl (fun _ _=> .inl AO) F5⟩
   |outgrown=>exact⟨_,a₁,w₁,hq,.pass (x:= .inLoop c) rfl (fun _ _=> .inl AO) F5⟩
 obtain⟨e,a',w',hq,F5⟩:=key _ x a w rfl hx;exact⟨e,a',w',hq,.of_steps (.one (fenced_calm hb hr rfl) stepR_loop) F5⟩
@[reducible] def VC(P:Program)(ρ:Option Nat):Lg P where
 wp c Q a w:=c.wpIn (CS ρ) 0 P Q a w
 mono hq h:=wpIn_mono h hq
 skip h:=wpIn_skip h
 ret h:=wpIn_ret h
 exit h:=wpIn_exit h
 seq h:=wpIn_seq h
 block h:=wpIn_block h
 cond hc ht hf:=wpIn_cond_split hc ht hf
 loop:=Z1
 region {id l Q a w} hc h:=wpIn_region (XD (fun i o ho=>by
  have hm:o∈l:=List.mem_of_getElem? (by simpa using ho);have:=List.all_eq_true.1 hc o hm
  unfold Gw;revert this;cases o.op<;>simp) _ _ _ (by simpa[List.range_eq_range']using h))
 draw hc hm h:=wpIn_region_any hm (XE (Sy hc) _ _ _ _ h)
end
end Cp
namespace Cp
open Go Go.RowKit Go.Great
section
variable{P:Program}{L:Lg P}{n:Fm}{fz:Nat}{E:Env}{M0:Av}{w0:World}{S:Nat->Prop}{rs:List At}{o:Oper}
end
end Cp
namespace Cp
open Go Go.RowKit
variable{a:Act}{ts:Array TypeId}{M:Av}{new:Bool}{rows:List (List Pr)}{ps:List Pr}{zs:List Value}{o:Oper}{p:Pr}{P:Program}{T e:TypeId}{v:Value}{w:World}
theorem CI.YZ{E:Env}(s:Nat){α:Type}{f:α->Pr}(hs:E.lookup s=some (Cp.ex f))(hm:s∈looks o)(he:CI M w E o a):∃x,CI M w ((s,f x)::E) o a:=by
 obtain⟨x,hx⟩:=he s _ hm hs;refine⟨x,fun t q ht hq=>?_⟩;simp only[List.lookup]at hq
 by_cases hts:t=s
 .grind
 .exact Q4
theorem CI.opf{E:Env}{φ:Prop}(s:Nat)(hs:E.lookup s=some (Cp.fact φ p))(hm:s∈looks o)(he:CI M w E o a):φ/\CI M w ((s,p)::E) o a:=by
 obtain⟨hφ,hx⟩:=he s _ hm hs;refine⟨hφ,fun t q ht hq=>?_⟩;simp only[List.lookup]at hq
 by_cases hts:t=s
 .grind
 .exact Q4
section
variable{P:Program}{M0:Av}{w0:World}{S:Nat->Prop}{n:Fm}{j:Nat}{R R':SR}{E:Env}{o:Oper}
theorem DW.YZ(s:Nat){α:Type}{f:α->Pr}(hg:o.guard=none)(hs:E.lookup s=some (Cp.ex f))(hm:s∈looks o)(h:∀x,DW P M0 w0 S n j R R' o ((s,f x)::E) p):DW P M0 w0 S n j R R' o E p:=
 ⟨hg,fun M w a rs hsz he hI hj=>by obtain⟨x,hx⟩:=he.YZ s hs hm;exact(h x).2 M w a rs hsz hx hI hj⟩
theorem DW.opf{q:Pr}{φ:Prop}(s:Nat)(hg:o.guard=none)(hs:E.lookup s=some (Cp.fact φ q))(hm:s∈looks o)(h:φ->DW P M0 w0 S n j R R' o ((s,q)::E) p):DW P M0 w0 S n j R R' o E p:=
 ⟨hg,fun M w a rs hsz he hI hj=>by obtain⟨hφ,hx⟩:=he.opf s hs hm;exact(h hφ).2 M w a rs hsz hx hI hj⟩
theorem DW.le{q:Pr}(h:DW P M0 w0 S n j R R' o E p)(hl:Pr.le p q):DW P M0 w0 S n j R R' o E q:=by
 refine⟨h.1,fun M w a rs hsz he hI hj=>?_⟩;have this:=h.2 M w a rs hsz he hI hj
 generalize (execOp a.eval o).run P w=r at this ⊢
 unfold GX at this
 split at this
 .obtain⟨M',h1,h2,h3⟩:=this;exact⟨M',hl _ _ _ h1,h2,h3⟩
 .obtain⟨M',h1,h2,h3⟩:=this;exact⟨M',hl _ _ _ h1,h2,h3⟩
 .exact Calls.mono this fun _ _ ⟨v,M',h0,h1,h2,h3⟩=>⟨v,M',h0,hl _ _ _ h1,h2,h3⟩
 .exact this.elim
end
theorem XF{z:Array Value}{n:Nat}{u:Value}(h0:0<z.size)(h:u∈(madeCells z n).toList):u∈z.toList:=by
 simp only[madeCells,Array.toList_map,List.mem_map]at h;obtain⟨k,_,rfl⟩:=h;have hk:k % z.size<z.size:=Nat.mod_lt _ h0;rw[getElem!_pos z _ hk];exact Array.getElem_mem_toList hk
theorem Z2{z:Array Value}{m sz i j:Nat}{u:Value}(hz:z.size=sz)(hi:i<m)(hu:z.toList[j]? =some u):(madeCells z (m*sz)).toList[i*sz+j]? =some u:=by
 have hjl:j<sz:=by grind
 have hlt:i*sz+j<m*sz:=by
  have:(i+1)*sz<=m*sz:=Nat.mul_le_mul_right sz hi;rw[Nat.add_mul]at this;omega
 have hmod:(i*sz+j) % sz=j:=by rw[Nat.mul_comm,Nat.mul_add_mod,Nat.mod_eq_of_lt hjl]
 have hjz:j<z.size:=by omega
 rw[Array.getElem?_toList]at hu ⊢;rw[Array.getElem?_eq_getElem hjz]at hu;simp only[madeCells];rw[Array.getElem?_map,Array.getElem?_range,if_pos hlt,Option.map_some,hz,hmod,getElem!_pos z _ hjz,hu]
theorem JI{I:B3}{E:Env}{t:TypeId}{x y:Operand}{sz by_ m:Nat}(ho:o.op= .makeSlice t x y)(ht:P.underlying t=some (.slice e))(hz:Ar P e=some sz)(hby:Bz P e=some by_)(Dc:A_ P e=some zs)(hzl:zs.length=sz)(hsz:0<sz)(h1:zs.all (·.oneCell')=true)(hx:VL E x (int ((m:Nat):Int)))(hy:VL E y (int ((m:Nat):Int)))(hm:m<=maxLen)(hb:by_*m<=281474976710656):Ac P I o E (full sz (List.replicate m (zs.map is))):=
 Ac.val fun M w a he hI=>by
  have hx1:a.eval x= .int .i64 m:=hx.ev he Ax;have hy1:a.eval y= .int .i64 m:=hy.ev he Ax;unfold Ar at hz;unfold Bz at hby;unfold A_ at Dc;cases hi:P.info? e with
  |none=>rw[hi]at hz;cases hz
  |some i=>
   rw[hi]at hz hby Dc;simp only[Option.map_some,Option.some.injEq,Option.map_eq_some_iff]at hz hby Dc;obtain⟨z,SZ,Dc⟩:=Dc;have V5:z.cells.size=sz:=by rw[←hzl,←Dc];simp
   have hrun:=run_make (P:=P) w t e i z ht hi SZ .i64 .i64 (m:Int) (m:Int) AA (Int.le_refl _) (by rw[hby];have h0:((by_*m:Nat):Int)<=281474976710656:=Int.ofNat_le.2 hb;rw[←Int.natCast_mul];exact h0) (by unfold maxLen at hm;omega);rw[hz]at hrun;simp only[Int.toNat_natCast]at hrun;have hbe:Below w.heap.size w (w.alloc (.cells (madeCells z.cells (m*sz)) e)):=(Below.refl _ _).alloc (Nat.le_refl _) _;have hrl:(List.replicate m (zs.map is)).length=m:=List.length_replicate
   have hfl:Flat M w sz (List.replicate m (zs.map is)) (madeCells z.cells (m*sz)).toList:=by
    refine⟨by rw[hrl];simp[size_madeCells],fun u hu=>List.all_eq_true.1 h1 _ (by rw[←Dc];exact XF AA hu),fun k row hr=>?_⟩;have hk:k<m:=by have:=BO hr;omega
    obtain rfl:row=zs.map is:=List.eq_of_mem_replicate (List.mem_of_getElem? hr);refine⟨by simp[hzl],fun j p hp=>?_⟩;rw[List.getElem?_map,Option.map_eq_some_iff]at hp;obtain⟨u,hu,rfl⟩:=hp;exact⟨u,Z2 V5 hk (by rw[Dc];exact hu),rfl⟩
   refine⟨.slice (some ⟨w.heap.size,0,none⟩) m m,w.alloc (.cells (madeCells z.cells (m*sz)) e),by simp[execOp,ho,hx1,hy1,hrun],?_,hbe⟩;have hsl:=Dh (hfl.st (Ext.below hbe)) (c:=m) (Nat.le_of_eq hrl) hm (g:=w.heap.size) (fun k u hk=>⟨by rw[La];simpa using hk,fun hx=>by have:=I.bd _ _ hI _ _ hx;omega⟩);rw[hrl]at hsl;exact⟨hsl,_,by rw[hrl]⟩
section
variable{P:Program}{L:Lg P}{n:Fm}{E:Env}{M0:Av}{w0:World}{S:Nat->Prop}{rs:List At}
theorem Fin.L8{Q:Exit->Act->World->Prop}{x:Exit}(i j k:Nat){sz b:Nat}(hi:rs[i]? =some (AF new b T ps))(hj:rs[j]? =some (CL e sz rows v))(hij:j≠i)(hk:ps[k]? =some p)(hp:Pr.le p (is v))(hl:∀r∈rows,r.length=sz)(kk:Fin n E (Hp M0 w0 S ((rs.set j Bj).set i (AF new b T (ps.set k (slice sz rows))))) Q x):Fin n E (Hp M0 w0 S rs) Q x:=Fin.conv (fun _ _ hs=>hs.L8 hi hj hij hk hp hl) kk
end
section
variable{P:Program}{M0:Av}{w0:World}{S:Nat->Prop}{rs:List At}
def Aw(b:Nat)(x:Obj):At where
 blk:=some b
 new:=true
 h M w:=(∀o,M b o)/\w.heap[b]? =some x
 st M w M' w' _ hk h:=by
  obtain⟨h1,h2⟩:=hk b rfl;exact⟨fun o=>h2 o (h.1 o),h1.trans h.2⟩
theorem A0.XG(h:A0 M0 w0 S rs M w)(x:Obj):
  A0 M0 w0 S (Aw w.heap.size x::rs) (fun b o=>M b o\/b=w.heap.size) (w.alloc x)/\Ext M w (fun b o=>M b o\/b=w.heap.size) (w.alloc x):=by
 have hb:Below w.heap.size w (w.alloc x):=(Below.refl _ _).alloc (Nat.le_refl _) _;have hsz:(w.alloc x).heap.size=w.heap.size+1:=by simp
 have he:Ext M w (fun b o=>M b o\/b=w.heap.size) (w.alloc x):=by
  have h2:=Ext.below (M:=M) hb;refine⟨h2.size,fun a v hc hm=>⟨fun hx=>?_,(h2.keep a v hc hm).2⟩,fun b o ho hp hm=>⟨fun hx=>?_,(h2.obj b o ho hp hm).2⟩⟩
  .
   rcases hx with hx|hx
   .exact hm hx
   .exact EA
  .
   rcases hx with hx|hx
   .exact hm hx
   .subst hx;simp at ho
 have hI:=(Hp M0 w0 S rs).st _ _ _ hb h;refine⟨⟨hI.m0,fun b o hm=> .inl (hI.m b o hm),hI.os,hI.tape,hI.output,hI.size,hI.block,fun b o hm=>?_,fun r hr=>?_,?_⟩,he⟩
 .
  rcases hm with hm|hm
  .exact hI.bd b o hm
  .omega
 .
  rcases List.mem_cons.1 hr with rfl|hr
  .
   refine⟨⟨fun o=> .inr rfl,heap_alloc_new w _⟩,fun b hbk=>?_⟩;simp only[Aw,Option.some.injEq]at hbk;subst hbk;exact⟨by omega,by simp[Aw];exact h.size⟩
  .
   obtain⟨h3,h4⟩:=h.hold r hr;exact⟨r.st _ _ _ _ he (fun b hbk=>⟨hb.block b (h4 b hbk).1,fun _ x=> .inl x⟩) h3,fun b hbk=>⟨by have:=(h4 b hbk).1;omega,(h4 b hbk).2⟩⟩
 .
  refine List.pairwise_cons.2 ⟨fun r hr b M4 Vz=>?_,hI.nd⟩;simp only[Aw,Option.some.injEq]at M4;subst M4;have:=((h.hold r hr).2 _ Vz).1;omega
theorem A0.putObj{j b:Nat}{x:Obj}(y:Obj)(h:A0 M0 w0 S rs M w)(hj:rs[j]? =some (Aw b x)):A0 M0 w0 S (rs.set j (Aw b y)) M (w.putObj b y)/\Ext M w M (w.putObj b y):=by
 obtain⟨⟨hM,hx⟩,hbk⟩:=h.hold _ (List.mem_of_getElem? hj);have hlt:b<w.heap.size:=(hbk b rfl).1;have hsz:(w.putObj b y).heap.size=w.heap.size:=by simp[World.putObj]
 have he:Ext M w M (w.putObj b y):=by
  refine⟨by omega,fun a v hc hm=>⟨hm,?_⟩,fun k o ho _ hm=>⟨hm,?_⟩⟩
  .
   have hne:a.block≠b:=fun e=>hm (e ▸ hM _);rw[World.cell?_of_block (w:=w) (World.putObj_heap_other hne)];exact hc
  .
   have hne:k≠b:=fun e=>hm (e ▸ hM _);exact(World.putObj_heap_other hne).trans ho
 refine⟨h.replace hj he rfl rfl rfl (fun k _ hne=>World.putObj_heap_other (fun e=>hne (by rw[e];rfl))) rfl (fun _ _ hm _=>hm) (fun b' o hm=>by have:=h.bd b' o hm;omega) ⟨hM,World.putObj_heap_same hlt⟩ rfl (fun b' hb'=>⟨?_,.inl hb'⟩),he⟩;simp only[Aw,Option.some.injEq]at hb';subst hb';omega
end
def HH(P:Program)(gf:Nat)(lb:Array Value){α:Type}(enc:α->Value)(xs:List α)(own:List α->List At):Prop:=
 ∀M0 w0 S (l:Nat) (β:Type) (R Rx:List α->β->List At),
  (∀pre x d M w,(pre++[x])<+:xs->A0 M0 w0 S (own (pre++[x])++R pre d) M w->YieldAt (CS none) 0 P l #[enc x] w fun e w'=>∃M' d',Ext M w M' w'/\
   ((e= .returned (.bool true)/\A0 M0 w0 S (own (pre++[x])++R (pre++[x]) d') M' w')\/(e= .returned (.bool false)/\A0 M0 w0 S (own (pre++[x])++Rx (pre++[x]) d') M' w')))->
  ∀d M w,A0 M0 w0 S (own []++R [] d) M w->CallsIn (CS none) 0 P gf (#[.func (.yield l) #[] #[]]++lb) w fun e w'=>(∃v,e= .returned v)/\∃M' d',Ext M w M' w'/\
   (A0 M0 w0 S (own xs++R xs d') M' w'\/∃pre,pre<+:xs/\A0 M0 w0 S (own pre++Rx pre d') M' w')
def Hx(M0:Av)(w0:World)(S:Nat->Prop){β:Type}(rs:β->List At)(rx:Code->β->List At):Exit->Act->World->Prop
 | .normal,_,w=>∃d M,A0 M0 w0 S (rs d) M w
 | .ret,_,w=>∃d M,A0 M0 w0 S (rx .ret d) M w
 | .exit id,_,w=>∃d M,A0 M0 w0 S (rx (.exit id) d) M w
 | .goto t,_,w=>∃d M,A0 M0 w0 S (rx (.goto t) d) M w
 | .panic _,_,_=>False
 | .outgrown,_,_=>False
section
variable{P:Program}{M0:Av}{w0:World}{S:Nat->Prop}{rs:List At}
theorem Tr.range{Q:Exit->Act->World->Prop}{n:Fm}{E:Env}{α β:Type}{p gf:Nat}{g:Operand}{lb:Array Value}{enc:α->Value}{xs:List α}{own:List α->List At}{assign body:Code}(E':α->Env)(R:List α->β->List At)(Rx:Code->List α->β->List At)(d0:β)
  (fq:HH P gf lb enc xs own) (eg:∀args w,(callFunc gf args).run P w= .ok (.enter gf args) w) (hg:VL E g (is (.func (.func gf) #[] lb))) (fu:rs.Perm (own []++R [] d0))
  (hassign:∀l D rec M1 w1 pre x d,(pre++[x])<+:xs->∀a,a.tmps.size=n.sz->Ee M1 w1 E a->∀M w,A0 M0 w0 S (own (pre++[x])++(Aw l rec::Aw D (.deferred (some []))::Ah M1 w1::R pre d)) M w->
   assign.wpIn (CS (some l)) 0 P (Exit.then (St ⟨n.sz,[]⟩ (E' x) (Hp M0 w0 S (own (pre++[x])++(Aw l rec::Aw D (.deferred (some []))::Ah M1 w1::R pre d)))) (fun _ _ _=>False)) { tmps:=a.tmps.setIfInBounds p (enc x),defers:=[] } w)
  (hbody : ∀ l D rec M1 w1 pre x d, (pre ++ [x]) <+: xs -> Tr (VC P (some l)) ⟨n.sz, []⟩ (E' x) (Hp M0 w0 S (own (pre ++ [x]) ++ (Aw l rec :: Aw D (.deferred (some [])) :: Ah M1 w1 :: R pre d))) body
   (Hx M0 w0 S (fun d=>own (pre++[x])++(Aw l rec::Aw D (.deferred (some []))::Ah M1 w1::R (pre++[x]) d)) (fun c d=>own (pre++[x])++(Aw l rec::Aw D (.deferred (some []))::Ah M1 w1::Rx c (pre++[x]) d))))
  (hdone:∀l D rec M1 w1 d,Fin ⟨n.sz,{ target:= .collected D,args:= #[] }::n.df⟩ E (Hp M0 w0 S (own xs++(Aw l rec::Aw D (.deferred (some []))::Ah M1 w1::R xs d))) Q .normal)
  (hstop:∀l D rec M1 w1 c pre d,pre<+:xs->Tr (VC P none) ⟨n.sz,{ target:= .collected D,args:= #[] }::n.df⟩ E (Hp M0 w0 S (own pre++(Aw l rec::Aw D (.deferred (some []))::Ah M1 w1::Rx c pre d))) c Q):
  Tr (VC P none) n E (Hp M0 w0 S rs) (.rangeFunc g #[p] assign body) Q:=by
 intro a w ⟨M,hsz,hdf,hE,hI⟩;have hI:A0 M0 w0 S rs M w:=hI;refine wpIn_rangeFunc ?_;intro fn hfn;obtain⟨rec,Ra⟩:∃rec:LoopState->Option Code->Loop,rec=fun st pe=>{ state:=st,pending:=pe,fn,tmps:=a.tmps,params:= #[p],assign,body,defers:=w.heap.size }:=⟨_,rfl⟩
 -- what is held ahead of the call
 have hI2:=A0.perm fu hI;obtain⟨j8,e3⟩:=hI2.XG (.deferred (some []));obtain⟨dQ,e4⟩:=j8.XG (.loop (rec .ready none));obtain⟨W1,hW1⟩:∃W1,(w.alloc (.deferred (some []))).alloc (.loop (rec .ready none))=W1:=⟨_,rfl⟩;have hs1:(w.alloc (.deferred (some []))).heap.size=w.heap.size+1:=by simp
 rw[hW1,hs1]at dQ e4;obtain⟨M1,hM1⟩:∃M1:Av,M1=(fun b o=>(M b o\/b=w.heap.size)\/b=w.heap.size+1):=⟨_,rfl⟩;rw[←hM1]at dQ e4;have e1:Ext M w M1 W1:=e3.trans e4;obtain⟨l,hl⟩:∃l,l=w.heap.size+1:=⟨_,rfl⟩;obtain⟨D,hD⟩:∃D,D=w.heap.size:=⟨_,rfl⟩;rw[←hl]at dQ;rw[←hD]at dQ;have hE1:Ee M1 W1 E a:=fun s q hq=>q.st _ _ _ _ _ e1 (hE s q hq)
 have hI5:A0 M0 w0 S (own []++(Aw l (.loop (rec .ready none))::Aw D (.deferred (some []))::Ah M1 W1::R [] d0)) M1 W1:=by
  refine A0.perm ?_ (A0.G8 dQ (r:=Ah M1 W1) rfl (Ext.refl _ _));refine List.Perm.trans (l₂:=(Aw l (.loop (rec .ready none))::Aw D (.deferred (some []))::Ah M1 W1::R [] d0)++own []) ?_ List.perm_append_comm;refine(List.Perm.swap _ _ _).trans (List.Perm.cons _ ((List.Perm.swap _ _ _).trans (List.Perm.cons _ (List.Perm.cons _ List.perm_append_comm))))
 have ix:∀(os:List At) (r:At) (tl:List At),(os++r::tl)[os.length]? =some r:=fun os r tl=>by simp
 have sx:∀(os:List At) (r r':At) (tl:List At),(os++r::tl).set os.length r'=os++r'::tl:=fun os r r' tl=>by simp
 have ix2:∀(os:List At) (r1 r2 r:At) (tl:List At),(os++r1::r2::r::tl)[os.length+2]? =some r:=fun os r1 r2 r tl=>by grind
 have sx2:∀(os:List At) (r1 r2 r r':At) (tl:List At),(os++r1::r2::r::tl).set (os.length+2) r'=os++r1::r2::r'::tl:=fun os r1 r2 r r' tl=>by
  rw[List.set_append_right _ _ AA];simp
 have uB:=hdone;have uC:=hstop;refine⟨l,[{ target:= .collected D,args:= #[] }],W1,{ target:= .fn (.func gf) lb,args:= #[.func (.yield l) #[] #[]] },W1,gf,#[.func (.yield l) #[] #[]]++lb,W1,?_,?_,fun _ _=>trivial,?_,fun h=>(by cases h),?_⟩
 .rw[hl,hD,←hW1,Ra];exact run_enterLoop_outer _ _ _ _ _
 .
  have hv:a.eval g= .func (.func gf) #[] lb:=by
   obtain⟨q,h1,h2⟩:=hg;exact h2 _ _ _ (CX.eval hE h1)
  simp only[resolve,hv];simp[go_sem]
 .simp[invoke,go_sem,eg]
 .
  refine(fq M0 w0 S l (Code × β) (fun pre cd => Aw l (.loop (rec .ready none)) :: Aw D (.deferred (some [])) :: Ah M1 W1 :: R pre cd.2)
   (fun pre cd=>Aw l (.loop (rec .done (some cd.1)))::Aw D (.deferred (some []))::Ah M1 W1::Rx cd.1 pre cd.2) ?_ (.skip,d0) M1 W1 hI5).mono ?_
  .
   rintro pre x ⟨c0,d⟩ M2 W2 hpre hI;have j9:W2.heap[l]? =some (.loop (rec .ready none)):=(hI.hold (Aw l (.loop (rec .ready none))) AO).1.2;have hx2:Ext M1 W1 M2 W2:=(hI.hold (Ah M1 W1) AO).1;have hy:=run_yield (P:=P) (args:= #[enc x]) j9 (by rw[Ra];rfl)
   have O5:A0 M0 w0 S (own (pre++[x])++(Aw l (.loop (rec .ready none))::Aw D (.deferred (some []))::Ah M2 W2::R pre d)) M2 W2:=by
    have:=hI.DG (r':=Ah M2 W2) (ix2 _ _ _ _ _) rfl rfl (Ext.refl _ _)
    rwa [sx2]at this
   have hy2:(Instr.yield l #[enc x]).run P W2= .ok (.round l fn (a.tmps.setIfInBounds p (enc x)) assign body) W2:=by
    rw[hy,Ra];simp
   have ha:=hassign l D _ M2 W2 pre x d hpre a hsz (fun s q hq=>q.st _ _ _ _ _ hx2 (hE1 s q hq)) M2 W2 O5;refine⟨fn,_,assign,body,hy2,roundIn_of_wpIn (F:=CS none) trivial (wpIn_mono (F:=(CS none).inRound l) ha ?_)⟩;intro e a3 W3 hq;cases e with
   |normal=>
    obtain⟨M3,hs3,hd3,hE3,j8⟩:=hq;have j8:A0 M0 w0 S (own (pre++[x])++(Aw l (.loop (rec .ready none))::Aw D (.deferred (some []))::Ah M2 W2::R pre d)) M3 W3:=j8;have hl3:W3.heap[l]? =some (.loop (rec .ready none)):=(j8.hold (Aw l (.loop (rec .ready none))) AO).1.2;obtain⟨dQ,e4⟩:=j8.putObj (.loop { rec .ready none with state:= .busy }) (ix _ _ _);rw[sx]at dQ;refine⟨_,run_beginRound hl3 (by rw[Ra]),?_⟩;refine wpIn_mono (F:=(CS none).inRound l) (hbody l D _ M2 W2 pre x d hpre a3 _ ⟨M3,hs3,hd3,fun s q hq=>q.st _ _ _ _ _ e4 (hE3 s q hq),dQ⟩) ?_
    have fin:∀(jump:Option Code) (tl:List At) (W5:World) (M5:Av),A0 M0 w0 S (own (pre++[x])++(Aw l (.loop { rec .ready none with state:= .busy })::Aw D (.deferred (some []))::Ah M2 W2::tl)) M5 W5->
      ∃w6,(Instr.endRound l jump).run P W5= .ok (.bool jump.isNone) w6/\Ext M2 W2 M5 w6/\A0 M0 w0 S (own (pre++[x])++(Aw l (.loop (rec (if jump.isNone then .ready else .done) jump))::Aw D (.deferred (some []))::Ah M1 W1::tl)) M5 w6:=by
     intro jump tl W5 M5 h5;have hl5:W5.heap[l]? =some (.loop { rec .ready none with state:= .busy }):=(h5.hold (Aw l (.loop { rec .ready none with state:= .busy })) AO).1.2;have hx5:Ext M2 W2 M5 W5:=(h5.hold (Ah M2 W2) AO).1;obtain⟨h6,e6⟩:=h5.putObj (.loop { rec .ready none with state:=if jump.isNone then .ready else .done,pending:=jump }) (ix _ _ _);rw[sx]at h6;have h7:=h6.DG (r':=Ah M1 W1) (ix2 _ _ _ _ _) rfl rfl (hx2.trans (hx5.trans e6));rw[sx2]at h7;refine⟨_,run_endRound jump hl5,hx5.trans e6,?_⟩;rw[Ra]at h7 ⊢;exact h7
    intro e5 a5 W5 hp;cases e5 with
    |normal=>
     obtain⟨d5,M5,h5⟩:=hp;obtain⟨w6,g1,g2,g3⟩:=fin none _ _ _ h5;exact⟨_,_,g1,M5,(.skip,d5),g2,.inl ⟨rfl,g3⟩⟩
    |ret=>
     obtain⟨d5,M5,h5⟩:=hp;obtain⟨w6,g1,g2,g3⟩:=fin (some .ret) _ _ _ h5;exact⟨_,_,g1,M5,(.ret,d5),g2,.inr ⟨rfl,g3⟩⟩
    |exit id=>
     obtain⟨d5,M5,h5⟩:=hp;obtain⟨w6,g1,g2,g3⟩:=fin (some (.exit id)) _ _ _ h5;exact⟨_,_,g1,M5,(.exit id,d5),g2,.inr ⟨rfl,g3⟩⟩
    |goto t=>
     obtain⟨d5,M5,h5⟩:=hp;obtain⟨w6,g1,g2,g3⟩:=fin (some (.goto t)) _ _ _ h5;exact⟨_,_,g1,M5,(.goto t,d5),g2,.inr ⟨rfl,g3⟩⟩
    |panic ch=>exact hp.elim
    |outgrown=>exact hp.elim
   |exit id=>exact hq.elim
   |goto t=>exact hq.elim
   |ret=>exact hq.elim
   |panic ch=>exact hq.elim
   |outgrown=>exact hq.elim
  .
   rintro e W2 ⟨⟨v,rfl⟩,M2,⟨c2,d2⟩,hx2,h2⟩
   have hend:∀(os tl:List At) (st:LoopState) (pe:Option Code),st≠ .busy->A0 M0 w0 S (os++(Aw l (.loop (rec st pe))::Aw D (.deferred (some []))::Ah M1 W1::tl)) M2 W2->
     ∃w6,(Instr.endLoop l).run P W2= .ok pe w6/\Ext M2 W2 M2 w6/\A0 M0 w0 S (os++(Aw l (.loop { rec st pe with state:= .exhausted })::Aw D (.deferred (some []))::Ah M1 W1::tl)) M2 w6:=by
    intro os tl st pe hst h5;have hl5:W2.heap[l]? =some (.loop (rec st pe)):=(h5.hold (Aw l (.loop (rec st pe))) AO).1.2;obtain⟨h6,e6⟩:=h5.putObj (.loop { rec st pe with state:= .exhausted }) (ix _ _ _);rw[sx]at h6;have:=run_endLoop (P:=P) hl5 (by rw[Ra];exact hst);refine⟨_,?_,e6,h6⟩;rw[this,Ra]
   rcases h2 with h2|⟨pre,hpre,h2⟩
   .
    obtain⟨w6,g1,g2,g3⟩:=hend _ _ _ _ AO h2;exact⟨none,w6,g1,hdone l D _ M1 W1 d2 _ _ ⟨M2,hsz,by show _::a.defers=_;rw[hdf],fun s q hq=>q.st _ _ _ _ _ g2 (q.st _ _ _ _ _ hx2 (hE1 s q hq)),g3⟩⟩
   .
    obtain⟨w6,g1,g2,g3⟩:=hend _ _ _ _ AO h2;exact⟨some c2,w6,g1,hstop l D _ M1 W1 c2 pre d2 hpre _ _ ⟨M2,hsz,by show _::a.defers=_;rw[hdf],fun s q hq=>q.st _ _ _ _ _ g2 (q.st _ _ _ _ _ hx2 (hE1 s q hq)),g3⟩⟩
end
section
variable{P:Program}{M0:Av}{w0:World}{S:Nat->Prop}{rs:List At}
theorem Tr.toR{n:Fm}{E:Env}{I:B3}{c:Code}{Q:Exit->Act->World->Prop}(h:Tr (Qc P) n E I c Q):Tr (VC P none) n E I c Q:=fun a w hs=>wpIn_wide.2 (h a w hs)
theorem Tr.ofR{n:Fm}{E:Env}{I:B3}{c:Code}{Q:Exit->Act->World->Prop}(h:Tr (VC P none) n E I c Q):Tr (Qc P) n E I c Q:=fun a w hs=>wpIn_wide.1 (h a w hs)
theorem Tr.XH{Q:Exit->Act->World->Prop}{n:Fm}{E:Env}{α β:Type}{p gf:Nat}{g:Operand}{lb:Array Value}{enc:α->Value}{xs:List α}{own:List α->List At}{assign body:Code}(E':α->Env)(R:List α->β->List At)(Rx:Code->List α->β->List At)(d0:β)
  (fq:HH P gf lb enc xs own) (eg:∀args w,(callFunc gf args).run P w= .ok (.enter gf args) w) (hg:VL E g (is (.func (.func gf) #[] lb))) (fu:rs.Perm (own []++R [] d0))
  (hassign:∀l D rec M1 w1 pre x d,(pre++[x])<+:xs->∀a,a.tmps.size=n.sz->Ee M1 w1 E a->∀M w,A0 M0 w0 S (own (pre++[x])++(Aw l rec::Aw D (.deferred (some []))::Ah M1 w1::R pre d)) M w->
   assign.wpIn (CS (some l)) 0 P (Exit.then (St ⟨n.sz,[]⟩ (E' x) (Hp M0 w0 S (own (pre++[x])++(Aw l rec::Aw D (.deferred (some []))::Ah M1 w1::R pre d)))) (fun _ _ _=>False)) { tmps:=a.tmps.setIfInBounds p (enc x),defers:=[] } w)
  (hbody : ∀ l D rec M1 w1 pre x d, (pre ++ [x]) <+: xs -> Tr (VC P (some l)) ⟨n.sz, []⟩ (E' x) (Hp M0 w0 S (own (pre ++ [x]) ++ (Aw l rec :: Aw D (.deferred (some [])) :: Ah M1 w1 :: R pre d))) body
   (Hx M0 w0 S (fun d=>own (pre++[x])++(Aw l rec::Aw D (.deferred (some []))::Ah M1 w1::R (pre++[x]) d)) (fun c d=>own (pre++[x])++(Aw l rec::Aw D (.deferred (some []))::Ah M1 w1::Rx c (pre++[x]) d))))
  (hdone:∀l D rec M1 w1 d,Fin ⟨n.sz,{ target:= .collected D,args:= #[] }::n.df⟩ E (Hp M0 w0 S (own xs++(Aw l rec::Aw D (.deferred (some []))::Ah M1 w1::R xs d))) Q .normal)
  (hstop:∀l D rec M1 w1 c pre d,pre<+:xs->Tr (Qc P) ⟨n.sz,{ target:= .collected D,args:= #[] }::n.df⟩ E (Hp M0 w0 S (own pre++(Aw l rec::Aw D (.deferred (some []))::Ah M1 w1::Rx c pre d))) c Q):
  Tr (Qc P) n E (Hp M0 w0 S rs) (.rangeFunc g #[p] assign body) Q:=
 Tr.ofR (Tr.range E' R Rx d0 fq eg hg fu hassign hbody hdone fun l D rec M1 w1 c pre d hp=>(hstop l D rec M1 w1 c pre d hp).toR)
end
section
variable{P:Program}
theorem XI{x y:Operand}{l:Nat}{R:Ending->World->Prop}{K:Act->World->Prop}{Q:Exit->Act->World->Prop}(ho:o.op= .call { callee:= .value x,args:= #[y],argTypes:=ts })(hx:a.eval x= .func (.yield l) #[] #[])(hy:a.eval y=v)(h:YieldAt (CS none) 0 P l #[v] w R)(k:∀e w',R e w'->∃u,e= .returned u/\K (a.put o.dst u) w'):o.wpIn (CS none) 0 P a w K Q:=by
 obtain⟨fn,tmps,assign,body,hr,fy⟩:=h;refine⟨fun _ _=>trivial,?_⟩;rw[Oper.semAt_eq _ _ _ (fun c hh=>by rw[ho]at hh;cases hh)]
 have hrun:(execOp a.eval o).run P w= .ok (.round l fn tmps assign body) w:=by
  have hd:(resolve a.eval { callee:= .value x,args:= #[y],argTypes:=ts } o.type).run P w= .ok { target:= .fn (.yield l) #[],args:= #[v] } w:=by simp[resolve,Deferred.ofValue,hx,hy]
  have hi:invoke (.fn (.yield l) #[]) #[v]=Instr.yield l #[v]:=rfl;simp only[execOp,ho];rw[Sem.run_bind,hd];simp only[Result.andThen];rw[hi];exact hr
 rw[hrun];refine⟨fun hh=>(by cases hh),RoundIn.mono fy fun e w' he=>?_⟩;obtain⟨u,rfl,hk⟩:=k e w' he;exact hk
end
end Cp
namespace Cp
open Go Go.RowKit Go.Great
variable{a:Act}{M:Av}{new:Bool}{f:FuncId}{rows:List (List Pr)}{ps:List Pr}{rs:List At}{i j:Nat}{x:Operand}{p:Pr}{e:TypeId}{w:World}
abbrev mark(D:Nat):Deferred:={ target:= .collected D,args:= #[] }
abbrev Sz(D:Nat):At:=Aw D (.deferred (some []))
abbrev HI(P:Program)(g:Func)(R:Ending->World->Prop):Exit->Act->World->Prop:=bodyPostM (CS none) 0 P g R
section
variable{P:Program}{fz:Nat}{E:Env}{M0:Av}{w0:World}{S:Nat->Prop}{rs:List At}{g:Func}{R:Ending->World->Prop}{ds:List Deferred}{n:Fm}{c:Code}
theorem Fin.Oc{D:Nat}(k:Fin ⟨fz,ds⟩ E (Hp M0 w0 S rs) (HI P g R) .ret):Fin ⟨fz,mark D::ds⟩ E (Hp M0 w0 S (Sz D::rs)) (HI P g R) .ret:=by
 rintro a w ⟨M,h1,h2,h3,h4⟩;have h4:A0 M0 w0 S (Sz D::rs) M w:=h4;have hD:w.heap[D]? =some (.deferred (some [])):=(h4.hold _ (List.mem_cons_self ..)).1.2;obtain⟨h5,h6⟩:=h4.putObj (j:=0) (.deferred none) rfl;have h7:=k { a with defers:=ds } (w.putObj D (.deferred none)) ⟨M,h1,rfl,fun s q hq=>q.st _ _ _ _ _ h6 (h3 s q hq),A0.Gs h5⟩;have h2:a.defers=mark D::ds:=h2;show LeavesInM _ _ _ _ _ _ a.defers _ _;rw[h2];exact⟨(fun h=>by cases h),.inl ⟨D,_,rfl,run_takeDeferred hD,h7⟩⟩
theorem Fin.MC(k:Fin ⟨fz,[]⟩ E (Hp M0 w0 S rs) (bodyPost P g R) .ret):Fin ⟨fz,[]⟩ E (Hp M0 w0 S rs) (HI P g R) .ret:=by
 rintro a w h;obtain⟨h1,v,h2,h3⟩:=k a w h;show LeavesInM _ _ _ _ _ _ a.defers _ _;rw[h1];exact⟨v,h2,h3⟩
theorem Fin.f_{rs:List At}(k:Fin n E (Hp M0 w0 S rs) (HI P g R) .ret):Fin n E (Hp M0 w0 S rs) (HI P g R) .normal:=k
theorem KW{args:Array Value}(hf:P.funcs[f]? =some g)(hb:g.body=some c)(h:c.wp P (HI P g R) { tmps:=args++Array.replicate (g.ntmps-args.size) undef,defers:=[] } w):Calls P f args w R:=
 callsIn_wide.1 (callsIn_of_wp_marks (F:=CS none) (n:=0) hf hb trivial (wpIn_wide.2 h))
variable{α:Type}{pre:List At}{C:α->Prop}{res:α->Pr}{post:α->List At}{M1:Av}{w1:World}
theorem JE.ofM (hf : P.funcs[f]? = some g) (hb : g.body = some c) (hname : (g.name == "runtime.NumGoroutine") = false) (hlen : ps.length ≤ g.ntmps) (h : ∀ M0 w0 S rs M1 w1, Tr (Qc P) g.ntmps (IQ 0 ps) (Hp M0 w0 S (pre ++ Ah M1 w1 :: rs)) c (HI P g (NL M0 w0 S rs M1 w1 C res post))) : JE P f ps pre C res post := by
 refine⟨⟨g,hf,hname,by rw[hb];rfl⟩,fun M0 w0 S rs M w vs hI hv=>?_⟩;refine KW hf hb (h M0 w0 S rs M w _ _ ⟨M,?_,rfl,ES hv,?_⟩)
 .
  have:=hv.length;simp[this];omega
 .exact Q0
end
section
variable{P:Program}{L:Lg P}{n:Fm}{z0:Value}{fz:Nat}{E:Env}{M0:Av}{w0:World}{S:Nat->Prop}{rs:List At}{o:Oper}{κ:Type}[DecidableEq κ]{enc:κ->Value}
abbrev HJ(enc:κ->Value)(es:List (κ×Value)):List (Value×Value):=es.map fun p=>(enc p.1,p.2)
variable{Q:Exit->Act->World->Prop}{ops:Array Oper}{r:List Oper}
end
section
variable{P:Program}{L:Lg P}{n:Fm}{E:Env}{M0:Av}{w0:World}{S:Nat->Prop}{rs:List At}{ε:Type}{res:ε->List At}{Q:Exit->Act->World->Prop}{c:Code}{X:List ε}{f:ε->Value}{g:ε->Pr}
end
section
variable{P:Program}{L:Lg P}{n:Fm}{E:Env}{M0:Av}{w0:World}{S:Nat->Prop}{rs:List At}{o:Oper}{Q:Exit->Act->World->Prop}{c:Code}
end
section
variable{P:Program}{L:Lg P}{n:Fm}{E:Env}{M0:Av}{w0:World}{S:Nat->Prop}{rs:List At}{o:Oper}{Q:Exit->Act->World->Prop}{c:Code}{r:List Oper}{ops:Array Oper}
def nr(ps:List Pr):Prop:=∀p∈ps,L1 p
theorem HL.free{cs:List Value}{M2:Av}(hf:nr ps)(h:HL M w ps cs):HL M2 w ps cs:=
 So h.length fun k p hk=>by
  obtain⟨u,hu,dy⟩:=h.at_ k p hk;exact⟨u,hu,(hf p (List.mem_of_getElem? hk)).free _ _ _ _ dy⟩
theorem TO.perm{rs':List At}(hp:rs.Perm rs')(k:TO P n ops r E (Hp M0 w0 S rs') Q):TO P n ops r E (Hp M0 w0 S rs) Q:=TO.conv (fun _ _ hs=>hs.perm hp) k
end
section
variable{P:Program}{L:Lg P}{n:Fm}{E:Env}{M0:Av}{w0:World}{S:Nat->Prop}{rs:List At}{o:Oper}{Q:Exit->Act->World->Prop}{c:Code}{r:List Oper}{ops:Array Oper}
instance nu:L1 any:=⟨fun _ _ _ _ _=>trivial⟩
instance gA (v:Value)(p:Pr)[h9:L1 p]:L1 (An v p):=⟨fun _ _ _ _ h=>⟨h.1,h9.free _ _ _ _ h.2⟩⟩
theorem Gj{β:Type}{f g:β->List Pr}(h:∀x,Fc (f x) (g x))(qs:List Pr):∀l:List β,Fc ((l.map f).flatten++qs) ((l.map g).flatten++qs)
 |[]=>Fc.rfl' qs
 |x::l=>by
  rw[List.map_cons,List.map_cons,List.flatten_cons,List.flatten_cons,List.append_assoc,List.append_assoc];exact S0 (h x) (Gj h qs l)
where S0:∀{us bs cs ds:List Pr},Fc us bs->Fc cs ds->Fc (us++cs) (bs++ds)
 |[],[],_,_,_,h=>h
 |_::_,_::_,_,_,⟨h1,h2⟩,h=>⟨h1,S0 h2 h⟩
 |[],_::_,_,_,h,_=>h.elim
 |_::_,[],_,_,h,_=>h.elim
end
section
variable{P:Program}{I:B3}{E:Env}{o:Oper}
abbrev u32(b:BitVec 32):Pr:=is (.int .u32 (b.toNat:Int))
end
def B1(p:Prop):At:=⟨none,true,fun _ _=>p,fun _ _ _ _ _ _ h=>h⟩
section
variable{P:Program}{L:Lg P}{n:Fm}{E:Env}{M0:Av}{w0:World}{S:Nat->Prop}{rs:List At}{o:Oper}{r:List Oper}{ops:Array Oper}{Q:Exit->Act->World->Prop}{c:Code}
theorem Tr.prop{p:Prop}(j:Nat)(hj:rs[j]? =some (B1 p))(k:p->Tr L n E (Hp M0 w0 S rs) c Q):Tr L n E (Hp M0 w0 S rs) c Q:=fun a w hs=>by
 obtain⟨M,h1,h2,h3,h4⟩:=hs;have h4:A0 M0 w0 S rs M w:=h4;exact k (h4.hold _ (List.mem_of_getElem? hj)).1 a w ⟨M,h1,h2,h3,h4⟩
theorem Fin.S1{e:Exit}{p:Prop}(hp:p)(k:Fin n E (Hp M0 w0 S (B1 p::rs)) Q e):Fin n E (Hp M0 w0 S rs) Q e:=fun a w hs=>by
 obtain⟨M,h1,h2,h3,h4⟩:=hs;have h4:A0 M0 w0 S rs M w:=h4;exact k a w ⟨M,h1,h2,h3,A0.G8 h4 (r:=B1 p) rfl hp⟩
theorem Tr.S1{p:Prop}(hp:p)(k:Tr L n E (Hp M0 w0 S (B1 p::rs)) c Q):Tr L n E (Hp M0 w0 S rs) c Q:=fun a w hs=>by
 obtain⟨M,h1,h2,h3,h4⟩:=hs;have h4:A0 M0 w0 S rs M w:=h4;exact k a w ⟨M,h1,h2,h3,A0.G8 h4 (r:=B1 p) rfl hp⟩
end
section
variable{P:Program}
theorem HH.of{gf:Nat}{lb:Array Value}{α:Type}{enc:α->Value}{xs:List α}{own:List α->List At}{g:Func}{c:Code}(hf:P.funcs[gf]? =some g)(hb:g.body=some c)(hlen:ps.length+1<=g.ntmps)(hps:∀M w,HL M w ps lb.toList)(h:∀(M0:Av) (w0:World) (S:Nat->Prop) (l:Nat) (β:Type) (R Rx:List α->β->List At) (M1:Av) (w1:World),
   (∀pre x d M w,(pre++[x])<+:xs->A0 M0 w0 S (own (pre++[x])++R pre d) M w->YieldAt (CS none) 0 P l #[enc x] w fun e w'=>∃M' d',Ext M w M' w'/\
    ((e= .returned (.bool true)/\A0 M0 w0 S (own (pre++[x])++R (pre++[x]) d') M' w')\/(e= .returned (.bool false)/\A0 M0 w0 S (own (pre++[x])++Rx (pre++[x]) d') M' w')))->
   ∀ d, Tr (VC P none) g.ntmps (IQ 0 (is (.func (.yield l) #[] #[]) :: ps)) (Hp M0 w0 S (own [] ++ Ah M1 w1 :: R [] d)) c
    (HI P g fun e w'=>(∃v,e= .returned v)/\∃M' d',Ext M1 w1 M' w'/\(A0 M0 w0 S (own xs++R xs d') M' w'\/∃pre,pre<+:xs/\A0 M0 w0 S (own pre++Rx pre d') M' w'))):HH P gf lb enc xs own:=by
 intro M0 w0 S l β R Rx hy d M w hI;refine callsIn_of_wp_marks (F:=CS none) (n:=0) hf hb trivial (h M0 w0 S l β R Rx M w hy d _ _ ⟨M,?_,rfl,?_,?_⟩)
 .
  have:=(hps M w).length;simp at this ⊢;omega
 .
  have h2:HL M w (is (.func (.yield l) #[] #[])::ps) ((.func (.yield l) #[] #[])::lb.toList):=⟨rfl,hps M w⟩;have h3:=ES (m:=g.ntmps-(#[Value.func (.yield l) #[] #[]]++lb:Array Value).size) h2;have e1:(Value.func (.yield l) #[] #[]::lb.toList).toArray= #[Value.func (.yield l) #[] #[]]++lb:=by apply Array.ext';simp
  rw[e1]at h3;exact h3
 .exact Q0
end
section
variable{P:Program}{I:B3}{E:Env}{o:Oper}
end
section
variable{P:Program}{Q:Exit->Act->World->Prop}{K:Act->World->Prop}{a:Act}{w:World}{o:Oper}{ops:Array Oper}
theorem MD{rest:List Nat}(ho:ops[i]? =some o)(hg:o.guard=none)(h:o.wpIn (CS none) 0 P a w (wpOpsIn (CS none) 0 P ops Q rest) Q):wpOpsIn (CS none) 0 P ops Q (i::rest) a w:=by
 unfold wpOpsIn;rw[ho];dsimp only;rw[if_pos (by simp[Region.wanted,hg])];exact h
theorem gB{t:TypeId}{b:Bool}(ho:o.op= .unOp .not t x)(hx:a.eval x= .bool b)(k:K (a.put o.dst (.bool (!b))) w):o.wpIn (CS none) 0 P a w K Q:=
 XC (by unfold Gw;rw[ho]) (fun _ _ h=>h) (by unfold Oper.wp;simp[execOp,ho,hx,Op.unary];exact k)
end
section
variable{P:Program}{L:Lg P}{n:Fm}{fz:Nat}{E:Env}{M0:Av}{w0:World}{S:Nat->Prop}{o:Oper}
theorem GX.conv{q:Pr}{R1 R2:SR}{r:Result Next}(hq:Pr.le p q)(hR:∀v,R1.at_ (a.put o.dst v)=R2.at_ (a.put o.dst v))(h:GX P M0 w0 S o a M w p j R1 rs r):GX P M0 w0 S o a M w q j R2 rs r:=by
 cases r with
 |halt x w'=>exact h
 |ok x w'=>
  cases x
  case value v=>obtain⟨M',g1,g2,g3⟩:=h;exact⟨M',hq _ _ _ g1,g2,by rw[←hR];exact g3⟩
  case skip=>obtain⟨M',g1,g2,g3⟩:=h;exact⟨M',hq _ _ _ g1,g2,by rw[←hR];exact g3⟩
  case enter f args=>
   refine Calls.mono h ?_;rintro e w'' ⟨v,M',g0,g1,g2,g3⟩;exact⟨v,M',g0,hq _ _ _ g1,g2,by rw[←hR];exact g3⟩
  all_goals exact h
end
section
variable{P:Program}{L:Lg P}{n:Fm}{fz:Nat}{E:Env}{I:B3}{M0:Av}{w0:World}{S:Nat->Prop}{rs:List At}{Q:Exit->Act->World->Prop}{c:Code}
theorem BW.ofM {g : Func} {res : Pr} {R : At} {R' : Value → At} (hf : P.funcs[f]? = some g) (hb : g.body = some c) (hname : (g.name == "runtime.NumGoroutine") = false) (hlen : ps.length ≤ g.ntmps) (h : ∀ M0 w0 S rs M1 w1, Tr (Qc P) g.ntmps (IQ 0 ps) (Hp M0 w0 S (R :: Ah M1 w1 :: rs)) c (HI P g (NA M0 w0 S rs M1 w1 res R'))) : BW P f ps res R R' := by
 refine⟨⟨g,hf,hname,by rw[hb];rfl⟩,fun M0 w0 S rs M w vs hI hv=>?_⟩;refine KW hf hb (h M0 w0 S rs M w _ _ ⟨M,?_,rfl,ES hv,?_⟩)
 .
  have:=hv.length;simp[this];omega
 .exact Qz
end
section
variable{P:Program}{L:Lg P}{n:Fm}{fz:Nat}{E:Env}{I:B3}{M0:Av}{w0:World}{S:Nat->Prop}{rs:List At}{Q:Exit->Act->World->Prop}{c:Code}
abbrev GH(l D:Nat)(rec:Obj)(M1:Av)(w1:World)(rs:List At):List At:=Aw l rec::Aw D (.deferred (some []))::Ah M1 w1::rs
theorem Tr.gC{α:Type}{p gf:Nat}{g:Operand}{lb:Array Value}{enc:α->Value}{xs:List α}{own:List α->List At}{assign body:Code}(q:Nat)(K:Env)(hK:CE E K)(R:List α->List At)
  (fq:HH P gf lb enc xs own) (eg:Entry P gf) (hg:VL E g (is (.func (.func gf) #[] lb))) (fu:rs.Perm (own []++R [])) (hp:K.lookup p=none) (nv:p<n.sz)
  (hassign:∀l D rec M1 w1 pre x,(pre++[x])<+:xs->Tr (VC P (some l)) ⟨n.sz,[]⟩ ((p,is (enc x))::K) (Hp M0 w0 S (own (pre++[x])++GH l D rec M1 w1 (R pre))) assign (Exit.then (St ⟨n.sz,[]⟩ ((q,is (enc x))::K) (Hp M0 w0 S (own (pre++[x])++GH l D rec M1 w1 (R pre)))) (fun _ _ _=>False)))
  (hbody : ∀ l D rec M1 w1 pre x, (pre ++ [x]) <+: xs -> Tr (VC P (some l)) ⟨n.sz, []⟩ ((q, is (enc x)) :: K) (Hp M0 w0 S (own (pre ++ [x]) ++ GH l D rec M1 w1 (R pre))) body
   (Hx M0 w0 S (fun _:Unit=>own (pre++[x])++GH l D rec M1 w1 (R (pre++[x]))) (fun _ _=>own (pre++[x])++GH l D rec M1 w1 [B1 False])))
  (hdone:∀l D rec M1 w1,Fin ⟨n.sz,mark D::n.df⟩ E (Hp M0 w0 S (own xs++GH l D rec M1 w1 (R xs))) Q .normal):
  Tr (Qc P) n E (Hp M0 w0 S rs) (.rangeFunc g #[p] assign body) Q:=by
 refine Tr.XH (fun x=>(q,is (enc x))::K) (fun pre (_:Unit)=>R pre) (fun _ _ _=>[B1 False]) () fq (fun args w=>DV eg args w) hg fu ?_ ?_ (fun l D rec M1 w1 _=>hdone l D rec M1 w1) ?_
 .
  intro l D rec M1 w1 pre x d hpre a hsz hE M w hI;have hx:Ext M1 w1 M w:=(hI.hold (Ah M1 w1) AO).1;refine hassign l D rec M1 w1 pre x hpre _ w ⟨M,by simpa using hsz,rfl,fun s z hq=>?_,hI⟩;simp only[List.lookup]at hq
  by_cases hs:s=p
  .
   subst hs;simp only[beq_self_eq_true,Option.some.injEq]at hq;subst hq;show(a.tmps.setIfInBounds s (enc x)).getD s undef=enc x;simp[Array.getD_eq_getD_getElem?,hsz,nv]
  .
   rw[show(s==p)=false by simpa using hs]at hq;obtain⟨z',H8,PN⟩:=hK.spec s z hq;have h2:=z.st _ _ _ _ _ hx (PN _ _ _ (hE s z' H8));show z.h M w ((a.tmps.setIfInBounds p (enc x)).getD s undef)
   have e1:(a.tmps.setIfInBounds p (enc x)).getD s undef=a.tmps.getD s undef:=by
    simp only[Array.getD_eq_getD_getElem?];rw[Array.getElem?_setIfInBounds_ne (fun e=>hs e.symm)]
   rw[e1];exact h2
 .
  intro l D rec M1 w1 pre x d hpre;exact hbody l D rec M1 w1 pre x hpre
 .
  intro l D rec M1 w1 c pre d hpre a w ⟨M,_,_,_,h⟩;have h:A0 M0 w0 S (own pre++GH l D rec M1 w1 [B1 False]) M w:=h;exact((h.hold (B1 False) AO).1).elim
theorem Fin.st{E1:Env}{Q':Exit->Act->World->Prop}(hs:CE E E1):Fin n E I (Exit.then (St n E1 I) Q') .normal:=fun _ _ h=>h.sub hs (fun _ _ h=>h)
theorem Fin.rnd{β:Type}{rr:β->List At}{rx:Code->β->List At}(d:β)(hp:rs.Perm (rr d)):Fin n E (Hp M0 w0 S rs) (Hx M0 w0 S rr rx) .normal:=fun _ _ ⟨M,_,_,_,h⟩=>⟨d,M,A0.perm hp h⟩
end
section
variable{P:Program}{fz:Nat}{E:Env}{M0 M1:Av}{w0 w1:World}{S:Nat->Prop}{g:Func}{α β:Type}{xs:List α}{own:List α->List At}{R Rx:List α->β->List At}
theorem Fin.nw{d:β}(hr:g.results= #[]):Fin ⟨fz,[]⟩ E (Hp M0 w0 S (own xs++Ah M1 w1::R xs d)) (HI P g fun e w'=>(∃v,e= .returned v)/\∃M' d',Ext M1 w1 M' w'/\(A0 M0 w0 S (own xs++R xs d') M' w'\/∃pre,pre<+:xs/\A0 M0 w0 S (own pre++Rx pre d') M' w')) .normal:=by
 refine Fin.f_ (Fin.MC ?_);rintro a w ⟨M,_,hd,he,hi⟩;obtain⟨h1,h2⟩:=Wq hi;exact⟨hd,_,results0 hr,⟨_,rfl⟩,M,d,h1,.inl h2⟩
theorem Fin.gD{d:β}{pre:List α}(hr:g.results= #[])(hp:pre<+:xs):Fin ⟨fz,[]⟩ E (Hp M0 w0 S (own pre++Ah M1 w1::Rx pre d)) (HI P g fun e w'=>(∃v,e= .returned v)/\∃M' d',Ext M1 w1 M' w'/\(A0 M0 w0 S (own xs++R xs d') M' w'\/∃pre,pre<+:xs/\A0 M0 w0 S (own pre++Rx pre d') M' w')) .ret:=by
 refine Fin.MC ?_;rintro a w ⟨M,_,hd,he,hi⟩;obtain⟨h1,h2⟩:=Wq hi;exact⟨hd,_,results0 hr,⟨_,rfl⟩,M,d,h1,.inr ⟨pre,hp,h2⟩⟩
end
section
variable{P:Program}{L:Lg P}{n:Fm}{fz:Nat}{E:Env}{M0:Av}{w0:World}{S:Nat->Prop}{o:Oper}
end
section
variable{P:Program}{L:Lg P}{n:Fm}{fz:Nat}{E:Env}{M0:Av}{w0:World}{S:Nat->Prop}{rs:List At}{Q:Exit->Act->World->Prop}
end
section
variable{P:Program}
end
section
variable{P:Program}{n:Fm}{E:Env}{M0:Av}{w0:World}{S:Nat->Prop}{rs:List At}{Q:Exit->Act->World->Prop}{p0 p1:Pr}{R:Value->At}
end
section
variable{P:Program}{L:Lg P}{n:Fm}{E:Env}{M0:Av}{w0:World}{S:Nat->Prop}{rs:List At}{Q:Exit->Act->World->Prop}{c:Code}
variable{ε:Type}
end
section
variable{P:Program}{I:B3}{o:Oper}{E:Env}
end
section
variable{P:Program}{fz:Nat}{E:Env}{M0:Av}{w0:World}{rs:List At}{g:Func}
end
section
variable{P:Program}{L:Lg P}{n:Fm}{E:Env}{M0:Av}{w0:World}{S:Nat->Prop}{rs:List At}{o:Oper}{β:Type}{f:β->List Pr}{φ:β->Prop}
theorem GX.wk{R1 R2:SR}{rs:List At}{r:Result Next}(hjl:j<rs.length)(hd:o.dst=none)(hb:(R2.at_ a).blk=(R1.at_ a).blk)(hn:(R2.at_ a).new=(R1.at_ a).new)(hh:∀M w,(R1.at_ a).h M w->(R2.at_ a).h M w)(h:GX P M0 w0 S o a M w p j R1 rs r):GX P M0 w0 S o a M w p j R2 rs r:=by
 have key:∀v M' w',A0 M0 w0 S (rs.set j (R1.at_ (a.put o.dst v))) M' w'->A0 M0 w0 S (rs.set j (R2.at_ (a.put o.dst v))) M' w':=by
  intro v M' w' hI;rw[hd]at hI ⊢;have hI:A0 M0 w0 S (rs.set j (R1.at_ a)) M' w':=hI;have h1:(rs.set j (R1.at_ a))[j]? =some (R1.at_ a):=by rw[List.getElem?_set_self hjl]
  have:=hI.DG (r':=R2.at_ a) h1 hb hn (hh _ _ (hI.hold _ (List.mem_of_getElem? h1)).1);rw[List.set_set]at this;exact this
 cases r with
 |halt x w'=>exact h
 |ok x w'=>
  cases x
  case value v=>obtain⟨M',g1,g2,g3⟩:=h;exact⟨M',g1,g2,key _ _ _ g3⟩
  case skip=>obtain⟨M',g1,g2,g3⟩:=h;exact⟨M',g1,g2,key _ _ _ g3⟩
  case enter f args=>
   refine Calls.mono h ?_;rintro e w'' ⟨v,M',g0,g1,g2,g3⟩;exact⟨v,M',g0,g1,g2,key _ _ _ g3⟩
  all_goals exact h
end
section
variable{P:Program}{L:Lg P}{n:Fm}{fz:Nat}{E:Env}{I:B3}{M0:Av}{w0:World}{S:Nat->Prop}{rs:List At}{Q:Exit->Act->World->Prop}{c:Code}
theorem Fin.gE{β:Type}{rr:β->List At}{os:List At}{tl:β->List At}{l D:Nat}{rec:Obj}{M1:Av}{w1:World}(d:β)(hp:rs.Perm (os++GH l D rec M1 w1 (tl d))):Fin n E (Hp M0 w0 S rs) (Hx M0 w0 S rr (fun c d=>os++GH l D rec M1 w1 (B1 (c= .ret)::tl d))) .ret:=by
 rintro a w ⟨M,_,_,_,h⟩;have h:A0 M0 w0 S rs M w:=h;refine⟨d,M,A0.perm ?_ (A0.G8 (A0.perm hp h) (r:=B1 (Code.ret= .ret)) rfl rfl)⟩;have:=(List.perm_middle (a:=B1 (Code.ret= .ret)) (l₁:=os++[Aw l rec,Aw D (.deferred (some [])),Ah M1 w1]) (l₂:=tl d)).symm
 simpa[GH]using this
theorem Fin.prop{e:Exit}{p:Prop}(j:Nat)(hj:rs[j]? =some (B1 p))(k:p->Fin n E (Hp M0 w0 S rs) Q e):Fin n E (Hp M0 w0 S rs) Q e:=fun a w hs=>by
 obtain⟨M,h1,h2,h3,h4⟩:=hs;have h4:A0 M0 w0 S rs M w:=h4;exact k (h4.hold _ (List.mem_of_getElem? hj)).1 a w ⟨M,h1,h2,h3,h4⟩
theorem Fin.XJ{e:Exit}{p q:Prop}(j:Nat)(hj:rs[j]? =some (B1 p))(h:p->q)(k:Fin n E (Hp M0 w0 S (rs.set j (B1 q))) Q e):Fin n E (Hp M0 w0 S rs) Q e:=fun a w hs=>by
 obtain⟨M,h1,h2,h3,h4⟩:=hs;have h4:A0 M0 w0 S rs M w:=h4;exact k a w ⟨M,h1,h2,h3,h4.DG hj rfl rfl (h (h4.hold _ (List.mem_of_getElem? hj)).1)⟩
theorem AZ.S2(i:Nat){c:Tmp}{t T:TypeId}{b:Nat}{q:Pr}(h:E.lookup c=some (ptr b 0))(hi:rs[i]? =some (AF new b T [q]))(ht:DN P t=true)(hl:Pr.le q p):AZ P E rs (.cell c t) p:=by
 intro M w a he hr;obtain⟨_,cs,h4,h5,_⟩:=hr _ (List.mem_of_getElem? hi);obtain⟨v,hv,hh⟩:=h5.at_ 0 q rfl;have hc:w.cell? ⟨b,0,none⟩=some v:=by simp[World.cell?,h4,hv]
 have h1:(loadVar t ⟨b,0,none⟩).run P w= .ok v w:=by simp[loadVar,De ht,hc]
 refine⟨v,?_,hl _ _ _ hh⟩;have hc2:a.tmps.getD c undef= .pointer (some ⟨b,0,none⟩):=he _ _ h;unfold HC;simp only[hc2,asAddr]
 simpa[Sem.run_bind]using h1
theorem Fin.OY{e:Exit}(T:TypeId)(sz:Nat)(k:Fin n E (Hp M0 w0 S (BM T sz [] (.slice none 0 0)::rs)) Q e):Fin n E (Hp M0 w0 S rs) Q e:=fun a w hs=>by
 obtain⟨M,h1,h2,h3,h4⟩:=hs;have h4:A0 M0 w0 S rs M w:=h4;exact k a w ⟨M,h1,h2,h3,A0.G8 h4 (r:=BM T sz [] (.slice none 0 0)) rfl (.inl ⟨rfl,rfl⟩)⟩
end
section
variable{P:Program}
theorem Tw.jI{args:List Pr}{p0 p1:Pr}{sz:Nat}(hl:∀r∈rows,r.length=sz)(h:Tw P f args (fun x=>agg [p0,p1,is x]) (fun x=>[CL e sz rows x])):Am P f args (agg [p0,p1,slice sz rows]):=by
 refine⟨h.1,fun M w vs hb hv=>?_⟩;refine(h.2 M w Hj [] M w vs (A0.begin hb) hv).mono ?_;rintro e' w' ⟨v,M',x,rfl,_,h1,h2,h3⟩;obtain⟨M2,j1,j2,j3⟩:=A0.Zw (j:=0) h3 rfl hl;obtain⟨cs,hc,g1,g2⟩:=(agg [p0,p1,is x]).st _ _ _ _ _ j1 h1;refine⟨v,rfl,?_,j2.below⟩;exact(agg [p0,p1,slice sz rows]).st _ _ _ _ _ (Ext.less j2.m) ⟨cs,hc,g1,HL.set (k:=2) g2 rfl fun u hu=>by rw[show u=x from hu];exact j3⟩
theorem JE.Zq{args:List Pr}{k:Pr}{sz m:Nat}{R:At}(hl:∀r∈rows,r.length=sz)(h:JE (α:=Value) P f args [R] (fun _=>True) (fun v=>D8 [An v (lens m),k]) (fun v=>[R,BM e sz rows v])):BW P f args (D8 [slice sz rows,k]) R (fun _=>R):=by
 refine⟨h.1,fun M0 w0 S rs M w vs hI hv=>(h.2 M0 w0 S rs M w vs hI hv).mono ?_⟩;rintro e' w' ⟨v,M',x,rfl,_,h1,h2,h3⟩;have h3:A0 M0 w0 S (R::BM e sz rows x::rs) M' w':=h3;obtain⟨M2,j1,j2,j3⟩:=A0.Zq (j:=1) h3 rfl hl;obtain⟨cs,hc,g2⟩:=(D8 [An x (lens m),k]).st _ _ _ _ _ j1 h1;exact⟨v,M2,rfl,⟨cs,hc,HL.set (k:=0) g2 rfl fun u hu=>by rw[show u=x from hu.1];exact j3⟩,h2.trans j1,(A0.perm (List.Perm.swap _ _ _) j2).Gs⟩
variable{n:Fm}{E:Env}{M0:Av}{w0:World}{S:Nat->Prop}{o:Oper}
end
end Cp
namespace Cp
open Go Go.RowKit
def Em(ps:List Pr)(vs:List Value):At:=⟨none,true,fun M w=>HL M w ps vs,fun _ _ _ _ he _ h=>h.st he⟩
section
variable{P:Program}{n:Fm}{M0:Av}{w0:World}{S:Nat->Prop}{rs:List At}{Q:Exit->Act->World->Prop}
theorem HH.nil{gf:Nat}{ps:List Pr}{vs:List Value}(h:Am P gf (any::ps) JD):HH P gf vs.toArray (fun _:Unit=>Value.bool true) [] (fun _=>[Em ps vs]):=by
 intro M0 w0 S l β R Rx _ d M w hI;have hp:HL M w ps vs:=(hI.hold (Em ps vs) AO).1;have h1:=h.2 M w (.func (.yield l) #[] #[]::vs) hI.bd ⟨trivial,hp⟩;have e1:(Value.func (.yield l) #[] #[]::vs).toArray= #[Value.func (.yield l) #[] #[]]++vs.toArray:=by apply Array.ext';simp
 rw[e1]at h1;refine callsIn_wide.2 (h1.mono ?_);rintro e w' ⟨v,rfl,_,hb⟩;exact⟨⟨v,rfl⟩,M,d,Ext.below hb,.inl ((Hp M0 w0 S _).st M w w' hb hI)⟩
theorem Tr.Pw{s p gf:Nat}{ps:List Pr}{assign body:Code}{E:Env}(hE:E.lookup s=none)(nv:p<n.sz)(eg:Entry P gf)(h:Am P gf (any::ps) JD)
  (k:∀D,Fin ⟨n.sz,mark D::n.df⟩ E (Hp M0 w0 S (Sz D::rs)) Q .normal):Tr (Qc P) n ((s,fn (.func gf) ps)::E) (Hp M0 w0 S rs) (.rangeFunc (.tmp s) #[p] assign body) Q:=by
 intro a w ⟨M,h1,h2,h3,h4⟩;have h4:A0 M0 w0 S rs M w:=h4;obtain⟨cs,hv,hl⟩:=h3 s (fn (.func gf) ps) (by simp[List.lookup]);have no:∀(pre:List Unit) (x:Unit),¬(pre++[x])<+:([]:List Unit):=fun pre x hx=>by simpa using List.prefix_nil.1 hx
 refine Tr.gC (E:=(s,is (.func (.func gf) #[] cs.toArray))::E) p [] trivial (fun _=>rs) (HH.nil (vs:=cs) h) eg ⟨_,by simp[CX,List.lookup],Pr.le_refl _⟩ (List.Perm.refl _) rfl nv (fun l D rec M1 w1 pre x hx=>absurd hx (no pre x)) (fun l D rec M1 w1 pre x hx=>absurd hx (no pre x)) ?_ a w ⟨M,h1,h2,?_,A0.G8 h4 (r:=Em ps cs) rfl hl⟩
 .
  intro l D rec M1 w1 a' w' ⟨M',g1,g2,g3,g4⟩;refine k D a' w' ⟨M',g1,g2,fun t q ht=>?_,?_⟩
  .
   have hne:t≠s:=fun e=>by rw[e,hE]at ht;cases ht
   exact g3 t q (by rw[List.lookup_cons,show(t==s)=false by simpa using hne];exact ht)
  .
   have g4:A0 M0 w0 S (Em ps cs::Aw l rec::Sz D::Ah M1 w1::rs) M' w':=g4;exact(A0.perm (List.Perm.swap _ _ _) (A0.Gs (A0.Gs g4))).Gs
 .
  intro t q ht;rw[List.lookup_cons]at ht
  by_cases e:t=s
  .subst e;simp at ht;subst ht;exact hv
  .
   rw[show(t==s)=false by simpa using e]at ht;exact h3 t q (by rw[List.lookup_cons,show(t==s)=false by simpa using e];exact ht)
theorem Tr.DR{L:Lg P}{n:Fm}{E:Env}{I:B3}{c:Code}(h:Tr L n E I c (Exit.then (fun _ _=>False) Q)):Tr L n E I (.loop c) Q:=fun a w hst=>
 L.loop (fun _:Unit=>0) (fun _ a w=>St n E I a w) (fun _ a w hx=>L.mono (fun e a w h=>by cases e with|normal=>exact h.elim|_=>exact h) (h a w hx)) () a w hst
end
end Cp
namespace Go.Proofs.YthommhphcagokaaGreatDoor
open Go Go.RowKit Cp Go.Proofs.Tryz
variable{Bl:Int}{l:List Int}{ps:List Pr}{i k:Nat}{p:Pr}
structure Cn where
 FK:Int
 EZ:List UInt8
 DY:List UInt8
 JJ:Int
 Fh:Int
 Da:Int
 J6:Int
 IG:Int
 from_:Int
 CW:Int
 auth:Bool
 path:Int
 names:List (List UInt8)
 H9:Int
 XK:Int
abbrev Px(l:List (List UInt8)):Pr:=slice 1 (l.map fun t=>[str t])
abbrev CM(c:Cn):List Pr:=[int c.FK,str c.EZ,str c.DY,int c.JJ,int c.Fh,int c.Da,int c.J6,int c.IG,int c.from_,int c.CW,bool c.auth,int c.path,Px c.names,int c.H9,int c.XK]
abbrev Fi(l:List Cn):Pr:=slice 15 (l.map CM)
structure Cn.fits(c:Cn):Prop where
 EZ:c.EZ.length<=maxLen
 DY:c.DY.length<=maxLen
 names:∀s∈c.names,s.length<=maxLen
def D4(n:Int):Bool:=decide (0<=n)&&decide (n<=2147483648)
def T0(n:Int):Bool:=decide (0<=n)&&decide (n<4294967296)
def Dq(o:List UInt8)(c:UInt8):Bool:=decide (97<=c.toNat/\c.toNat<=122)||decide (65<=c.toNat/\c.toNat<=90)||decide (48<=c.toNat/\c.toNat<=57)||decide (0<=Lib.indexByte o c)
def FW(s:List UInt8):Bool:=s.all (Dq [45,95,46])&&decide (1<=s.length/\s.length<=32)
def nameAt(l:List (List UInt8))(i:Nat):Bool:=named (l[i]?.getD [])&&(decide (i=0)||decide (Lib.compareBytes (l[i-1]?.getD []) (l[i]?.getD [])= -1))
def CV(l:List (List UInt8)):Bool:=allI (nameAt l) l.length&&decide (l.length<=8)
def E6(Bl bits kind:Int):Bool:=decide (Bf Bl bits>0)&&(Cl Bl).kind==kind
def BD(c:Cn):Bool:=
 (decide (0<=c.FK)&&decide (c.FK<=1099511627776)&&named c.EZ&&named c.DY&&CV c.names)&&
 (E6 c.JJ c.Fh 2&&D4 c.Da&&E6 c.J6 c.IG 1&&D4 c.H9&&T0 c.XK)&&
 (decide (0<=c.from_)&&decide (c.from_<=c.CW)&&decide (c.CW<=40000))&&(decide (0<=c.path)&&decide (c.path<=8)&&(c.auth||c.path==0))
def ME(Bl bits id:Int)(l:List Cn):Bool:=E6 Bl bits 2&&D4 id&&decide (l.length<=8)&&l.all BD&&match l with|[]=>true|c::_=>decide (c.JJ=Bl/\c.Fh=bits)&&c.Da==id
structure Fj where
 Bl:Int
 bits:Int
 Da:Int
 chain:List Cn
abbrev EI(x:Fj):List Pr:=[int x.Bl,int x.bits,int x.Da,Fi x.chain]
abbrev Rb(l:List Fj):Pr:=slice 4 (l.map EI)
def Fj.fits(x:Fj):Prop:=∀c∈x.chain,c.fits
structure C8 where
 name:List UInt8
 least:Int
 most:Int
 BC:List Int
 own:Bool
 ids:List Fj
 anchors:List Int
 hashes:List Int
 Z3:Bool
abbrev BL(e:C8):List Pr:=[str e.name,int e.least,int e.most,ints e.BC,bool e.own,Rb e.ids,ints e.anchors,ints e.hashes,bool e.Z3]
structure C8.fits(e:C8):Prop where
 name:e.name.length<=maxLen
 ids:∀x∈e.ids,x.fits
def Eo(l:List Int)(i:Nat):Bool:=decide (i=0)||decide (l[i-1]?.getD 0<l[i]?.getD 0)
def J7(l:List Int):Bool:=allI (Eo l) l.length
def C5(l:List Int)(i:Nat):Bool:=decide (1<=l[i]?.getD 0/\l[i]?.getD 0<=16)&& !((l.take i).any fun x=>l[i]?.getD 0==x)
def Dr(l:List Int):Bool:=allI (C5 l) l.length
def Fl(n:Int):Bool:=(Cl n).kind==1
def NP(x:Fj):Bool:=ME x.Bl x.bits x.Da x.chain
def Ct(e:C8):Bool:=
 (FW e.name&&decide (1<=e.least)&&decide (e.least<=e.most)&&decide (e.most<=4)&&Dr e.BC)&&
 (decide (e.ids.length<=4)&&decide (e.anchors.length<=16)&&J7 e.anchors&&J7 e.hashes)&&e.ids.all NP&&e.anchors.all D4&&e.hashes.all Fl
theorem S3{β:Type}(p:β->Bool)(l:List β):(l.any fun x=> !p x)= !l.all p:=by
 induction l with
 |nil=>rfl
 |cons a l ih=>rw[List.any_cons,List.all_cons,ih];cases p a<;>rfl
theorem getD_at{β:Type}{l:List β}{x d:β}(h:l[k]? =some x):l[k]?.getD d=x:=by rw[h];rfl
theorem gF{s:List UInt8}{c:UInt8}  :Am prog 295 [str s,is (.int .u8 ((c.toNat:Nat):Int))] (int (Lib.indexByte s c)):=by
 refine fo func295 rfl ⟨rfl,rfl⟩ fun M0 w0=>?_;refine a2 ?_;refine co rfl (RU rfl func342 BI BI BI BI vq vq) ?_;refine a2 ?_
 .exact Lr
theorem PD{s:List UInt8}{c:UInt8}  :Am prog 246 [str s,is (.int .u8 ((c.toNat:Nat):Int))] (int (Lib.indexByte s c)):=by
 refine fo func246 rfl ⟨rfl,rfl⟩ fun M0 w0=>?_;refine a2 ?_;refine co rfl (Bm (gF) rfl rfl rfl) ?_;refine a2 ?_
 .exact Lr
theorem XL{o:List UInt8}{c:UInt8}  :Am prog 197 [is (.int .u8 ((c.toNat:Nat):Int)),str o] (bool (Dq o c)):=by
 refine fo func197 rfl ⟨rfl,rfl⟩ fun M0 w0=>?_;refine ac ?_;refine ag ?_ ?_<;>intro h1 q1
 refine ag ?_ ?_<;>intro h2 q2
 refine ac ?_;refine wk [4] rfl ?_;refine ac ?_
 .exact IL
 refine ag ?_ ?_<;>intro h3 q3
 refine ag ?_ ?_<;>intro h4 q4
 refine ac ?_;refine wk [4] rfl ?_;refine ac ?_
 .exact IL
 refine ag ?_ ?_<;>intro h5 q5
 .exact Np
 refine ac ?_;refine cy rfl rfl (Bm (PD) rfl rfl rfl) ?_;refine ac ?_;refine wk [4] rfl ?_;refine ac ?_
 .exact IL
 refine ag ?_ ?_<;>intro h7 q7
 .exact Np
 refine ac ?_;refine cy rfl rfl (Bm (PD) rfl rfl rfl) ?_;refine ac ?_;refine wk [4] rfl ?_;refine ac ?_
 .exact IL
 refine ag ?_ ?_<;>intro h9 q9
 refine ag ?_ ?_<;>intro h10 MB
 refine ac ?_;refine wk [4] rfl ?_;refine ac ?_
 .exact IL
 refine ag ?_ ?_<;>intro h11 O8
 .exact Np
 refine ac ?_;refine cy rfl rfl (Bm (PD) rfl rfl rfl) ?_;refine ac ?_;refine wk [4] rfl ?_;refine ac ?_
 .exact IL
 refine ag ?_ ?_<;>intro Je VD
 .exact Np
 refine ac ?_;refine cy rfl rfl (Bm (PD) rfl rfl rfl) ?_;refine ac ?_;refine wk [4] rfl ?_;refine ac ?_
 .exact IL
theorem gG{s:List UInt8}(hs:s.length<=maxLen):Am prog 139 [str s] (bool (FW s)):=by
 refine fo func139 rfl ⟨rfl,rfl⟩ fun M0 w0=>?_;refine a2 ?_;refine co rfl (HG rfl underlying9 underlying180 underlying5 vq B5) ?_;refine ac ?_;refine Tr.block (Tr.D6 6 rfl fun hl6=>(Tr.BP _ (kk [7,6,0] rfl) (fun k:Nat=>[(8,int ((k:Nat):Int))]) (fun k:Nat=>k<=(s).length/\(∀j y,j<k->s[j]? =some y->(!Dq [45,95,46] y)=false)) (fun k:Nat=>(s).length-k) 0 (⟨Nat.zero_le _,fun j y hj=>absurd hj AA⟩) kz ?_));rintro k ⟨BR,AY⟩;refine ac ?_;refine Tr.seq ?_;refine Tr.cn rfl ?_ ?_<;>intro h1 q1
 have Ae:k<(s).length:=AV h1;obtain⟨c,Ag⟩:=at_ Ae;refine ac ?_;refine Tr.seq (Tr.block (Tr.seq (Tr.Bk (co rfl (AD rfl underlying180 D7 vq vq AA DL) ?_))))
 .repeat' first|(refine bool_eq ?_;unfold FW;rw[Gi (p:=Dq [45,95,46]) Ag Cc];rfl)|exact Fin.AR (k+1) ⟨⟨Ae,Cf (p:=fun c=> !Dq [45,95,46] c) Ag Cc AY⟩,by omega⟩ ⟨⟨_,rfl,AM k⟩,kz⟩|refine co rfl (Bm (XL) rfl rfl rfl) ?_|refine ac ?_|(refine Tr.cn rfl ?_ ?_<;>intro h q)
 have BB:k=(s).length:=by have:=AW h1;omega
 subst BB
 .repeat' first|(refine bool_eq ?_;unfold FW;rw[EG AY,Bool.true_and];rw[decide_eq_decide];omega)|(refine bool_eq ?_;unfold FW;rw[EG AY,Bool.true_and];symm;rw[decide_eq_false_iff_not];omega)|refine ac ?_|(refine Ch.cg rfl rfl rfl ?_ ?_<;>intro h q)
theorem Rc{n:Int}  :Am prog 123 [int n] (bool (D4 n)):=by
 refine fo func123 rfl ⟨rfl,rfl⟩ fun M0 w0=>?_;refine ac ?_;refine ac ?_;refine Ch.cs 5 rfl ?_ ?_<;>intro h1 q1
 refine ac ?_;refine ac ?_
 .refine bool_eq ?_;unfold D4;simp_all
 refine ac ?_;refine ac ?_
 .refine bool_eq ?_;unfold D4;simp_all;omega
theorem gH:Entry Tryz.prog 123:=⟨_,Tryz.func123,rfl,rfl⟩
theorem gI{n:Int}  :Am prog 299 [int n] (bool (T0 n)):=by
 refine fo func299 rfl ⟨rfl,rfl⟩ fun M0 w0=>?_;refine ac ?_;refine ac ?_;refine Ch.cs 5 rfl ?_ ?_<;>intro h1 q1
 refine ac ?_;refine ac ?_
 .refine bool_eq ?_;unfold T0;simp_all
 refine ac ?_;refine ac ?_
 .refine bool_eq ?_;unfold T0;simp_all;omega
theorem dR{bits kind:Int}:Am prog 298 [agg [int Bl,int bits],int kind] (bool (E6 Bl bits kind)):=by
 refine fo func298 rfl ⟨rfl,rfl⟩ fun M0 w0=>?_;refine ac ?_;refine ac ?_;refine co rfl (BQ (Ob) rfl rfl) (cm rfl ?_);refine Ch.cs 7 rfl ?_ ?_<;>intro h1 q1
 refine ac ?_;refine cy h1 rfl (BQ (RW) rfl rfl) ?_;refine ac ?_;refine ac ?_
 .refine bool_eq ?_;unfold E6;simp_all
 refine ac ?_;refine ac ?_
 .refine bool_eq ?_;unfold E6;simp_all;omega
theorem XM{l:List (List UInt8)}(hf:∀s∈l,s.length<=maxLen):Am prog 297 [Px l] (bool (CV l)):=by
 refine fo func297 rfl ⟨rfl,rfl⟩ fun M0 w0=>(Tr.D6 0 rfl fun DZ=>?_);refine a2 ?_;refine Tr.block (Tr.BP _ (kk [6,5,0] rfl) (fun k:Nat=>[(7,int ((k:Nat):Int))]) (fun k:Nat=>k<=(l).length/\(∀j,j<k->nameAt l j=true)) (fun k:Nat=>(l).length-k) 0 (⟨Nat.zero_le _,fun j hj=>absurd hj AA⟩) kz ?_);rintro k ⟨BR,AY⟩;refine ac ?_;refine Tr.seq ?_;refine Tr.cn rfl ?_ ?_<;>intro h1 q1
 have Ae:k<(l).length:=AV h1;obtain⟨s,Ag⟩:=at_ Ae;have hsf:=hf s (List.mem_of_getElem? Ag);have hg:=getD_at (d:=[]) Ag;refine a2 ?_;refine co rfl (AD rfl underlying67 G4 vq vq AA (Aj Ag)) ?_;refine a2 ?_;refine co rfl (BQ (K9 hsf) rfl rfl) ?_;refine ag ?_ ?_<;>intro h2 q2
 refine ac ?_;refine wk [27,7,6,5,0] rfl ?_;refine a2 ?_
 .refine bool_eq ?_;unfold CV;rw[D_ (p:=nameAt l) (k:=k) AA (by unfold nameAt;rw[hg];simp_all)];rfl
 refine ag ?_ ?_<;>intro h3 q3
 have hk0:0<k:=by simpa using h3
 obtain⟨y,hy⟩:=at_ (l:=l) (k:=k-1) AA;have Iv:=getD_at (d:=[]) hy
 .repeat' first|(refine bool_eq ?_;unfold CV;rw[D_ (p:=nameAt l) (k:=k) AA (by unfold nameAt;rw[hg,Iv];simp_all;omega)];rfl)|(exact Fin.AR (k+1) ⟨⟨Ae,Bi AY (by unfold nameAt;rw[hg,Iv];simp_all)⟩,by omega⟩ ⟨⟨_,rfl,AM k⟩,kz⟩)|(refine cy h3 rfl (AD rfl underlying67 G4 vq vq AA EM) ?_)|refine cy h3 rfl (Ia rfl vq vq) ?_|refine ac ?_|(refine Tr.cn rfl ?_ ?_<;>intro h q)
 refine ac ?_;refine wk [27,7,6,5,0] rfl ?_;refine a2 ?_;exact Fin.AR (k+1) ⟨⟨Ae,Bi AY (by unfold nameAt;rw[hg];simp_all)⟩,by omega⟩ ⟨⟨_,rfl,AM k⟩,kz⟩;have BB:k=(l).length:=by have:=AW h1;omega
 subst BB;refine a3 ?_
 .refine bool_eq ?_;unfold CV;rw[JF AY,Bool.true_and];simp;omega
theorem Py{c:Cn}(hc:c.fits):Am prog 248 [agg (CM c)] (bool (BD c)):=by
 refine fo func248 rfl ⟨rfl,rfl⟩ fun M0 w0=>?_
 .repeat' first|(refine bool_eq ?_;unfold BD;simp_all;omega)|(refine bool_eq ?_;unfold BD;simp_all)|refine cy h rfl (BQ (K9 hc.EZ) rfl rfl) ?_|refine cy h rfl (BQ (K9 hc.DY) rfl rfl) ?_|refine cy h rfl (BQ (XM hc.names) rfl rfl) ?_|refine co rfl (Bm (dR) rfl rfl rfl) ?_|refine cy h rfl (Bm (dR) rfl rfl rfl) ?_|refine cy h rfl (BQ (gI) rfl rfl) ?_|refine cy h rfl (BQ (Rc) rfl rfl) ?_|refine ac ?_|(refine Tr.cn rfl ?_ ?_<;>intro h q)|(refine Ch.cg rfl rfl rfl ?_ ?_<;>intro h q)
theorem Pz{c:Cn}(hc:c.fits):Am prog 201 [agg (CM c)] (int (if BD c then 0 else 9)):=by
 refine fo func201 rfl ⟨rfl,rfl⟩ fun M0 w0=>?_
 .repeat' first|(refine int_eq ?_;simp_all)|refine co rfl (BQ (Py B5) rfl rfl) ?_|refine ac ?_|(refine Tr.cn rfl ?_ ?_<;>intro h q)
abbrev CN:List Pr:=[any,any,any,any,any,any,any,any,any,any,any,any]
abbrev Cg:List (List Pr):=[CN,CN,CN,CN,CN,CN,CN,CN,CN,CN,CN,CN,CN,CN,CN,CN]
theorem gJ{q:List Pr}{o:Nat}(hk:k<16)(ho:o=k*12):(Cg.flatten++q)[o]? =some any:=by
 subst ho
 have h:Cg[k]? =some CN:=by
  have hk':k<Cg.length:=hk;rw[List.getElem?_eq_getElem hk'];have:∀r∈Cg,r=CN:=by intro r hr;simp at hr;exact hr
  rw[this _ (List.getElem_mem hk')]
 have hl:∀r∈Cg,r.length=12:=by intro r hr;simp at hr;rw[hr];rfl
 rw[List.getElem?_append_left (by rw[DA hl];show k*12<16*12;omega)];exact Hs (j:=0) hl h AA
theorem P0(hk:k<16):Cg[k]? =some CN:=by
 have hk':k<Cg.length:=hk;rw[List.getElem?_eq_getElem hk'];have:∀r∈Cg,r=CN:=by intro r hr;simp at hr;exact hr
 rw[this _ (List.getElem_mem hk')]
theorem S4:∀r∈Cg,r.length=12:=by intro r hr;simp at hr;rw[hr];rfl
theorem T2(h:CN[i]? =some p):p=any:=by have:=List.mem_of_getElem? h;simp at this;exact this
theorem Cd(h:ps.length=12):Pr.le (agg ps) (agg CN):=fun M w v ⟨cs,h1,h2,h3⟩=>⟨cs,h1,h2,HL.cI (by rw[h3.length,h];rfl) fun i p v hp _=>by rw[T2 hp];trivial⟩
def P3(Bl bits id:Int)(l:List Cn):Bool:=match l with|[]=>true|c::_=>decide (c.JJ=Bl/\c.Fh=bits)&&c.Da==id
theorem NQ{bits id:Int}{l:List Cn}(h:l.length=0):P3 Bl bits id l=true:=by rw[List.eq_nil_of_length_eq_zero h];rfl
theorem JK{bits id:Int}{l:List Cn}{c:Cn}(h:l[0]? =some c):P3 Bl bits id l=(decide (c.JJ=Bl/\c.Fh=bits)&&c.Da==id):=by
 cases l with
 |nil=>simp at h
 |cons a l=>simp at h;subst h;rfl
theorem CA(Bl bits id:Int)(l:List Cn):ME Bl bits id l=(E6 Bl bits 2&&D4 id&&decide (l.length<=8)&&l.all BD&&P3 Bl bits id l):=rfl
theorem DI{a b:Int}  :Am prog 296 [int a,int b] (agg [int a,int b]):=by
 refine fo func296 rfl ⟨rfl,rfl⟩ fun M0 w0=>(Tr.seq (Tr.Al ?_));refine Tl rfl rfl rfl rfl z75 BZ (fun b1=>?_);refine ap ?_;refine ap ?_;refine Tr.ret (Fin.Br rfl (AZ.cell 0 rfl rfl A7 Bb rfl Lr) ?_)
 .exact Lr
theorem XN   :Am prog 247 [] (slice 12 Cg):=by
 refine fo func247 rfl ⟨rfl,rfl⟩ fun M0 w0=>?_;refine ac ?_;refine Tr.seq (Tr.Al ?_)
 iterate 4 refine tp rfl (Bm (DI) rfl rfl rfl) ?_
 refine tp rfl (Ad (rows:=[]) rfl RL BZ trivial rfl) ?_;refine Tl rfl rfl rfl rfl z75 BZ (fun b1=>?_);refine Tl rfl rfl rfl rfl z75 BZ (fun b2=>?_);refine Tl rfl rfl rfl rfl z75 BZ (fun b3=>?_);refine Tl rfl rfl rfl rfl z75 BZ (fun b4=>?_);refine Tl rfl rfl rfl rfl z75 BZ (fun b5=>?_);refine sf 4 1 ⟨rfl,rfl,rfl⟩ rfl rfl rfl rfl ?_;refine sf 3 2 ⟨rfl,rfl,rfl⟩ rfl rfl rfl rfl ?_;refine sf 2 3 ⟨rfl,rfl,rfl⟩ rfl rfl rfl rfl ?_;refine sf 1 4 ⟨rfl,rfl,rfl⟩ rfl rfl rfl rfl ?_;refine sf 0 5 ⟨rfl,rfl,rfl⟩ rfl rfl rfl rfl ?_;refine TO.nil (Fin.go (wk [5,4,3,2,1] rfl (Tr.seq (Tr.Al ?_))))
 iterate 5 refine tp rfl (Bm (DI) rfl rfl rfl) ?_
 refine Tl rfl rfl rfl rfl z75 BZ (fun b6=>?_);refine Tl rfl rfl rfl rfl z75 BZ (fun b7=>?_);refine Tl rfl rfl rfl rfl z75 BZ (fun b8=>?_);refine Tl rfl rfl rfl rfl z75 BZ (fun b9=>?_);refine Tl rfl rfl rfl rfl z75 BZ (fun b10=>?_);refine sf 4 6 ⟨rfl,rfl,rfl⟩ rfl rfl rfl rfl ?_;refine sf 3 7 ⟨rfl,rfl,rfl⟩ rfl rfl rfl rfl ?_;refine sf 2 8 ⟨rfl,rfl,rfl⟩ rfl rfl rfl rfl ?_;refine sf 1 9 ⟨rfl,rfl,rfl⟩ rfl rfl rfl rfl ?_;refine sf 0 10 ⟨rfl,rfl,rfl⟩ rfl rfl rfl rfl ?_;refine TO.nil (Fin.go (wk [10,9,8,7,6,5,4,3,2,1] rfl (Tr.seq (Tr.Al ?_))))
 iterate 4 refine tp rfl (Bm (DI) rfl rfl rfl) ?_
 refine Tl rfl rfl rfl rfl z75 BZ (fun b11=>?_);refine Tl rfl rfl rfl rfl z75 BZ (fun b12=>?_);refine Tl rfl rfl rfl rfl z75 BZ (fun b13=>?_);refine Tl rfl rfl rfl rfl z75 BZ (fun b14=>?_);refine sf 3 11 ⟨rfl,rfl,rfl⟩ rfl rfl rfl rfl ?_;refine sf 2 12 ⟨rfl,rfl,rfl⟩ rfl rfl rfl rfl ?_;refine sf 1 13 ⟨rfl,rfl,rfl⟩ rfl rfl rfl rfl ?_;refine sf 0 14 ⟨rfl,rfl,rfl⟩ rfl rfl rfl rfl ?_;refine TO.nil (Fin.go (wk [14,13,12,11,10,9,8,7,6,5,4,3,2,1] rfl (Tr.seq (Tr.pad (Tr.rx (xo rfl (fun _=>AJ rfl A7 Bb vq rfl rfl) (xo rfl (fun _=>AJ rfl A7 Bb vq rfl rfl) (xo rfl (fun _=>Bm (DI) rfl rfl rfl) (xo rfl (fun _=>AJ rfl A7 Bb vq rfl rfl) (xo rfl (fun _=>oD) (xo rfl (fun _=>AJ rfl A7 Bb vq rfl rfl) (xo rfl (fun _=>AJ rfl A7 Bb vq rfl rfl) (xo rfl (fun _=>Bm (DI) rfl rfl rfl) ?_)))))))))))));refine xo rfl (fun _=>AJ rfl A7 Bb vq rfl rfl) (xo rfl (fun _=>oD) ?_)
 iterate 4 refine xo rfl (fun _=>AJ rfl A7 Bb vq rfl rfl) ?_
 refine xo rfl (fun _=>oD) (xo rfl (fun _=>Bm (DI) rfl rfl rfl) (xo rfl (fun _=>AJ rfl A7 Bb vq rfl rfl) (xo rfl (fun _=>AJ rfl A7 Bb vq rfl rfl) (xo rfl (fun _=>AJ rfl A7 Bb vq rfl rfl) (xo rfl (fun _=>oD) (xo rfl (fun _=>Bm (DI) rfl rfl rfl) (xo rfl (fun _=>AJ rfl A7 Bb vq rfl rfl) (xo rfl (fun _=>AJ rfl A7 Bb vq rfl rfl) (xo rfl (fun _=>AJ rfl A7 Bb vq rfl rfl) (xo rfl (fun _=>oD) ?_))))))))))
 iterate 4 refine xo rfl (fun _=>AJ rfl A7 Bb vq rfl rfl) ?_
 refine xo rfl (fun _=>oD) (xo rfl (fun _=>Bm (DI) rfl rfl rfl) (xo rfl (fun _=>AJ rfl A7 Bb vq rfl rfl) (xo rfl (fun _=>AJ rfl A7 Bb vq rfl rfl) (xo rfl (fun _=>AJ rfl A7 Bb vq rfl rfl) (xo rfl (fun _=>oD) ?_)))))
 iterate 4 refine xo rfl (fun _=>AJ rfl A7 Bb vq rfl rfl) ?_
 refine xo rfl (fun _=>oD) (xo rfl (fun _=>AJ rfl A7 Bb vq rfl rfl) (xo rfl (fun _=>AJ rfl A7 Bb vq rfl rfl) (xo rfl (fun _=>Bm (DI) rfl rfl rfl) (xo rfl (fun _=>Bm (DI) rfl rfl rfl) (xo rfl (fun _=>oD) ?_)))))
 iterate 4 refine xo rfl (fun _=>AJ rfl A7 Bb vq rfl rfl) ?_
 refine xo rfl (fun _=>oD) (xo rfl (fun _=>Bm (DI) rfl rfl rfl) (xo rfl (fun _=>AJ rfl A7 Bb vq rfl rfl) (xo rfl (fun _=>AJ rfl A7 Bb vq rfl rfl) (xo rfl (fun _=>AJ rfl A7 Bb vq rfl rfl) (xo rfl (fun _=>oD) ?_)))))
 iterate 4 refine xo rfl (fun _=>AJ rfl A7 Bb vq rfl rfl) ?_
 refine xo rfl (fun _=>oD) ?_
 iterate 4 refine xo rfl (fun _=>AJ rfl A7 Bb vq rfl rfl) ?_
 refine xo rfl (fun _=>oD) ?_
 iterate 4 refine xo rfl (fun _=>AJ rfl A7 Bb vq rfl rfl) ?_
 refine xo rfl (fun _=>oD) ?_
 iterate 4 refine xo rfl (fun _=>AJ rfl A7 Bb vq rfl rfl) ?_
 refine xo rfl (fun _=>oD) (xo rfl (fun _=>Bm (DI) rfl rfl rfl) (xo rfl (fun _=>AJ rfl A7 Bb vq rfl rfl) (xo rfl (fun _=>AJ rfl A7 Bb vq rfl rfl) (xo rfl (fun _=>AJ rfl A7 Bb vq rfl rfl) (xo rfl (fun _=>oD) (Cx.ef 0 rfl rfl AB (J5 (xs:=[.tmp 35,.tmp 40,.tmp 45,.tmp 50,.tmp 55,.tmp 60,.tmp 65,.tmp 70,.tmp 75,.tmp 80,.tmp 85,.tmp 90,.tmp 95,.tmp 100,.tmp 105,.tmp 110]) (rows:=Cg) rfl rfl AB rfl rfl underlying320 B4 GD rfl AB ⟨⟨AK,VL.le vq (Pr.le_trans (Cd rfl) (AE _))⟩,⟨⟨AK,VL.le vq (Pr.le_trans (Cd rfl) (AE _))⟩,⟨⟨AK,VL.le vq (Pr.le_trans (Cd rfl) (AE _))⟩,⟨⟨AK,VL.le vq (Pr.le_trans (Cd rfl) (AE _))⟩,⟨⟨AK,VL.le vq (Pr.le_trans (Cd rfl) (AE _))⟩,⟨⟨AK,VL.le vq (Pr.le_trans (Cd rfl) (AE _))⟩,⟨⟨AK,VL.le vq (Pr.le_trans (Cd rfl) (AE _))⟩,⟨⟨AK,VL.le vq (Pr.le_trans (Cd rfl) (AE _))⟩,⟨⟨AK,VL.le vq (Pr.le_trans (Cd rfl) (AE _))⟩,⟨⟨AK,VL.le vq (Pr.le_trans (Cd rfl) (AE _))⟩,⟨⟨AK,VL.le vq (Pr.le_trans (Cd rfl) (AE _))⟩,⟨⟨AK,VL.le vq (Pr.le_trans (Cd rfl) (AE _))⟩,⟨⟨AK,VL.le vq (Pr.le_trans (Cd rfl) (AE _))⟩,⟨⟨AK,VL.le vq (Pr.le_trans (Cd rfl) (AE _))⟩,⟨⟨AK,VL.le vq (Pr.le_trans (Cd rfl) (AE _))⟩,⟨⟨AK,VL.le vq (Pr.le_trans (Cd rfl) (AE _))⟩,trivial⟩⟩⟩⟩⟩⟩⟩⟩⟩⟩⟩⟩⟩⟩⟩⟩ AB AB) ?_))))));refine Cx.ef 0 rfl rfl AB (Ho rfl rfl AB rfl vq) ?_;refine Cx.nil ⟨by kernel_rfl,?_⟩;refine CF.open_ 0 15 rfl rfl (fun v1=>?_);refine CF.done Z0 (Fin.go (wk [15] rfl (Tr.seq (Tr.seq (Tr.JC 0 rfl fun b15 nx ny gK gL gM gN=>?_)))));subst gK;refine ac ?_;refine co rfl (Sr rfl underlying320 Jd) ?_;refine ac ?_;refine Tr.block (Tr.BP _ (kk [113,15] rfl) (fun k:Nat=>[(114,int ((k:Nat):Int))]) (fun k:Nat=>k<=(Cg.length)) (fun k:Nat=>(Cg.length)-k) 0 (Nat.zero_le _) kz ?_);rintro k BR;refine ac ?_;refine Tr.seq ?_;refine Tr.cn rfl ?_ ?_<;>intro h1 q1
 have Ae:k<(Cg.length):=AV h1;have gO:k<16:=Ae;refine a2 ?_;refine Tr.Al (tm rfl (tm rfl (tm rfl ?_)));refine tp rfl (Ek rfl vq vq ?hin) ?_;case hin=>unfold Mb;omega
 refine tp rfl (Fe rfl underlying320 B4 Jd vq AA AA) (tp rfl (AU rfl Sn vq) ?_);refine TO.Ej 0 rfl rfl (BG rfl rfl vq (VL.le vq (Zx _)) C_ rfl (by rw[List.length_append,DA S4];show _<=16*12+_;omega) (Zy (gJ gO AA))) ?_;refine TO.nil ?_;refine a2 ?_;exact Fin.AR (k+1) ⟨Ae,by omega⟩ ⟨⟨_,rfl,AM k⟩,kz⟩;have BB:k=(Cg.length):=by have:=AW h1;omega
 subst BB;refine ac ?_;refine Tr.seq ?_;refine Tr.RP (sz:=12) Cg 0 15 rfl rfl (FF _ _) S4 gL gM (by rw[List.length_map];exact gN) ?_;refine a2 ?_
 .exact Eu
theorem Z4{code:Int}  :Am prog 198 [int code] (D8 [agg CN,int (if 1<=code/\code<=16 then 0 else 8)]):=by
 refine fo func198 rfl ⟨rfl,rfl⟩ fun M0 w0=>?_;have hL:Cg.length=16:=rfl;refine Tr.seq (Tr.Al ?_);refine Tl rfl rfl rfl rfl GD DQ (fun b1=>?_);refine ap ?_;refine Tr.seq (Tr.Bk (co rfl (Ya (XN) rfl) ?_));refine ac ?_;refine ag ?_ ?_<;>intro h1 q1
 refine ac ?_;refine Tr.cond rfl (fun _=>?_) (fun h=>nomatch h);refine Tr.seq (Tr.Al (tp rfl (Ad (rows:=[]) rfl KV DQ trivial rfl) (TO.Aa 0 rfl rfl rfl vq Ce rfl B4 rfl rfl (tm rfl (TO.nil (Fin.go (wk [3,2] rfl (Tr.ret (Fin.AP (Fin.BU rfl (AZ.cell 0 rfl rfl C7 B4 rfl Lr) (AZ.tmp rfl Lr) ?_))))))))))
 .exact SL
 refine ac ?_;refine cy h1 rfl (A9 rfl underlying320 vq) ?_;refine an ?_ ?_<;>intro h2 q2
 refine ap ?_;refine wk [3,2] rfl (Tr.ret (Fin.AP (Fin.BU rfl (AZ.cell 0 rfl rfl C7 B4 rfl Lr) (AZ.tmp rfl Lr) ?_)))
 .exact SN
 have hin:1<=code/\code<=16:=by omega
 refine ac ?_;refine ap ?_;refine tp rfl (AD rfl underlying320 B4 vq vq AA (P0 AA)) ?_;refine ap ?_;refine wk [3,2] rfl (Tr.ret (Fin.BU rfl (AZ.cell 0 rfl rfl C7 B4 rfl Lr) (AZ.tmp rfl Lr) ?_))
 .exact CH ⟨Lr,int_eq (by rw[if_pos hin]),trivial⟩
theorem Z5{bits id:Int}{l:List Cn}(hf:∀c∈l,c.fits):Am prog 142 [agg [int Bl,int bits],int id,Fi l] (bool (ME Bl bits id l)):=by
 refine fo func142 rfl ⟨rfl,rfl⟩ fun M0 w0=>(Tr.D6 2 rfl fun n5=>?_);refine a2 ?_;refine co rfl (BQ (Ob) rfl rfl) ?_;refine ag ?_ ?_<;>intro h1 q1
 refine ac ?_;refine wk [27,3,2,1] rfl ?_;refine a2 ?_
 .refine bool_eq ?_;rw[CA];unfold E6;simp_all;omega
 refine ac ?_;refine cy h1 rfl (BQ (RW) rfl rfl) ?_;refine ag ?_ ?_<;>intro h2 q2
 refine ac ?_;refine wk [27,3,2,1] rfl ?_;refine a2 ?_
 .refine bool_eq ?_;rw[CA];unfold E6;simp_all
 refine Hq h2 rfl (cy h2 rfl (BQ (Rc) rfl rfl) ?_);refine ag ?_ ?_<;>intro h3 q3
 refine ac ?_;refine wk [27,3,2,1] rfl ?_;refine a2 ?_
 .refine bool_eq ?_;rw[CA];unfold E6;simp_all
 refine ac ?_;refine wk [27,3,2,1] rfl ?_;refine Tr.cn rfl ?_ ?_<;>intro h4 q4
 refine a2 ?_
 .refine bool_eq ?_;rw[CA];unfold E6;simp_all;omega
 refine a2 ?_;refine Tr.block (Tr.BP _ (kk [29,28,3,2,1] rfl) (fun k:Nat=>[(30,int ((k:Nat):Int))]) (fun k:Nat=>k<=(l).length/\(∀j y,j<k->l[j]? =some y->(!BD y)=false)) (fun k:Nat=>(l).length-k) 0 (⟨Nat.zero_le _,fun j y hj=>absurd hj AA⟩) kz ?_);rintro k ⟨BR,AY⟩;refine ac ?_;refine Tr.seq ?_;refine Tr.cn rfl ?_ ?_<;>intro h5 q5
 have Ae:k<(l).length:=AV h5;obtain⟨c,Ag⟩:=at_ Ae;have hcf:=hf c (List.mem_of_getElem? Ag);refine ac ?_;refine Tr.seq (Tr.block (Tr.seq (Tr.Al (tp rfl (AD rfl underlying76 CC vq vq AA DL) ?_))));refine tp rfl (AJ rfl FI CC vq rfl rfl) ?_;refine Tl rfl rfl rfl rfl J2 Gu (fun b1=>?_);refine sf 0 8 ⟨rfl,rfl,rfl⟩ rfl rfl rfl rfl ?_;refine ao ?_
 .repeat' first|(refine bool_eq ?_;rw[CA];unfold E6;rw[Gi (p:=BD) Ag Cc];simp)|exact Fin.AR (k+1) ⟨⟨Ae,Cf (p:=fun c=> !BD c) Ag Cc AY⟩,by omega⟩ ⟨⟨_,rfl,AM k⟩,kz⟩|refine co rfl (BQ (Pz hcf) rfl rfl) ?_|refine ac ?_|(refine Tr.cn rfl ?_ ?_<;>intro h q)
 have BB:k=(l).length:=by have:=AW h5;omega
 subst BB;have hall:=EG AY;refine ac ?_;refine ag ?_ ?_<;>intro h7 q7
 refine ac ?_;refine wk [6] rfl ?_;refine ac ?_
 .refine bool_eq ?_;rw[CA];unfold E6;rw[hall,NQ Cc];simp_all
 obtain⟨c0,hc0⟩:=at_ (l:=l) (k:=0) (by have:=h7;simp at this;exact List.length_pos_iff.2 this);refine Hq h7 rfl ?_;refine cy h7 rfl (AD rfl underlying76 CC vq vq AA (Aj (k:=0) hc0)) ?_;refine ac ?_;refine cy h7 rfl (Sv rfl vq vq) (Hq h7 rfl ?_);refine Ch.cs 48 rfl ?_ ?_<;>intro h8 q8
 refine Hq h8 rfl ?_;refine cy h8 rfl (AD rfl underlying76 CC vq vq AA (Aj (k:=0) hc0)) ?_;refine ac ?_;refine wk [6] rfl ?_;refine ac ?_
 .refine bool_eq ?_;rw[CA];unfold E6;rw[hall,JK hc0];clear hall AY hf hc0;simp_all;omega
 refine ac ?_;refine wk [6] rfl ?_;refine ac ?_
 .refine bool_eq ?_;rw[CA];unfold E6;rw[hall,JK hc0];clear hall AY hf hc0;simp_all
theorem NR:Am prog 141 [ints l] (bool (J7 l)):=by
 refine fo func141 rfl ⟨rfl,rfl⟩ fun M0 w0=>(Tr.D6 0 rfl fun DZ=>?_);refine a2 ?_;refine Tr.block (Tr.BP _ (kk [5,0] rfl) (fun k:Nat=>[(6,int ((k:Nat):Int))]) (fun k:Nat=>k<=(l).length/\(∀j,j<k->Eo l j=true)) (fun k:Nat=>(l).length-k) 0 (⟨Nat.zero_le _,fun j hj=>absurd hj AA⟩) kz ?_);rintro k ⟨BR,AY⟩;refine ac ?_;refine Tr.seq ?_;refine Tr.cn rfl ?_ ?_<;>intro h1 q1
 have Ae:k<(l).length:=AV h1;obtain⟨x,Ag⟩:=at_ Ae;have hg:=getD_at (d:=(0:Int)) Ag;refine a2 ?_;refine ag ?_ ?_<;>intro h2 q2
 have hk0:0<k:=by simpa using h2
 obtain⟨y,hy⟩:=at_ (l:=l) (k:=k-1) AA;have Iv:=getD_at (d:=(0:Int)) hy
 .repeat' first|(refine bool_eq ?_;unfold J7;exact(D_ (p:=Eo l) (k:=k) AA (by unfold Eo;rw[hg,Iv];simp_all;omega)).symm)|(exact Fin.AR (k+1) ⟨⟨Ae,Bi AY (by unfold Eo;rw[hg,Iv];simp_all)⟩,by omega⟩ ⟨⟨_,rfl,AM k⟩,kz⟩)|(refine cy h2 rfl (AD rfl underlying22 C_ vq vq AA EM) ?_)|refine cy h2 rfl (AD rfl underlying22 C_ vq vq AA (Aj Ag)) ?_|refine ac ?_|(refine Tr.cn rfl ?_ ?_<;>intro h q)
 refine ac ?_;refine wk [22,6,5,0] rfl ?_;refine a2 ?_;exact Fin.AR (k+1) ⟨⟨Ae,Bi AY (by unfold Eo;rw[hg];simp_all)⟩,by omega⟩ ⟨⟨_,rfl,AM k⟩,kz⟩;have BB:k=(l).length:=by have:=AW h1;omega
 subst BB;refine a3 ?_
 .refine bool_eq ?_;unfold J7;exact(JF AY).symm
theorem gP{n:Int}  :Am prog 145 [int n] (bool (Fl n)):=by
 refine fo func145 rfl ⟨rfl,rfl⟩ fun M0 w0=>?_;refine a2 ?_;refine co rfl (BQ (RW) rfl rfl) ?_;refine a2 ?_
 .exact Lr
theorem e_hash:Entry Tryz.prog 145:=⟨_,Tryz.func145,rfl,rfl⟩
theorem XO:Am prog 140 [ints l] (bool (Dr l)):=by
 refine fo func140 rfl ⟨rfl,rfl⟩ fun M0 w0=>(Tr.D6 0 rfl fun DZ=>?_);refine a2 ?_;refine Tr.block (Tr.BP _ (kk [8,7,0] rfl) (fun k:Nat=>[(9,int ((k:Nat):Int))]) (fun k:Nat=>k<=(l).length/\(∀j,j<k->C5 l j=true)) (fun k:Nat=>(l).length-k) 0 (⟨Nat.zero_le _,fun j hj=>absurd hj AA⟩) kz ?_);rintro k ⟨BR,AY⟩;refine ac ?_;refine Tr.seq ?_;refine Tr.cn rfl ?_ ?_<;>intro h1 q1
 have Ae:k<(l).length:=AV h1;obtain⟨x,Ag⟩:=at_ Ae;have hg:=getD_at (d:=(0:Int)) Ag;refine a2 ?_;refine co rfl (AD rfl underlying22 C_ vq vq AA DL) ?_;refine ac ?_;refine ao ?_;refine tp rfl (BQ (Z4) rfl rfl) ?_;refine ao ?_;refine Tl rfl rfl rfl rfl GD DQ (fun b1=>?_);refine sf 0 5 ⟨rfl,rfl,rfl⟩ rfl rfl rfl rfl ?_;refine ao ?_;refine wk [9,8,7,6,4,3,0] rfl ?_;refine ag ?_ ?_<;>intro h2 q2
 have gQ:¬(1<=x/\x<=16):=by intro hh;rw[if_pos hh]at h2;exact absurd h2 AB
 refine ac ?_;refine wk [27,9,8,7,0] rfl ?_;refine a2 ?_
 .refine bool_eq ?_;unfold Dr;exact(D_ (p:=C5 l) (k:=k) AA (by unfold C5;rw[hg];rw[decide_eq_false gQ];rfl)).symm
 have hin:1<=x/\x<=16:=by refine Decidable.byContradiction fun hh=>?_;rw[if_neg hh]at h2;exact absurd h2 AB
 refine ac ?_;refine cy h2 rfl (EX rfl underlying22 C_ vq vq AA CU) ?_;refine Hq h2 rfl ?_
 .repeat' first|(refine bool_eq ?_;unfold Dr;exact(D_ (p:=C5 l) (k:=k) AA Q5).symm)|(exact Fin.AR (k+1) ⟨⟨Ae,Bi AY Q5⟩,by omega⟩ ⟨⟨_,rfl,AM k⟩,kz⟩)|refine cy h2 rfl (AQ rfl (D3 (l:=l.take k) (v:=x)) ⟨⟨_,rfl,Pr.le_of_eq (by rw[←List.map_take,Int.toNat_natCast])⟩,kz⟩) ?_|refine ac ?_|(refine Tr.cn rfl ?_ ?_<;>intro h q)
 have BB:k=(l).length:=by have:=AW h1;omega
 subst BB;refine a3 ?_
 .refine bool_eq ?_;unfold Dr;exact(JF AY).symm
theorem gR{p:Int->Bool}{n:Int}  :Am prog 144 [int n,ref [Mc prog (fun x:Int=>[int x]) (fun x=>bool (p x))]] (bool (!p n)):=by
 refine fo func144 rfl ⟨rfl,rfl⟩ fun M0 w0=>?_;refine a2 ?_;refine co rfl (Dg n rfl vq kz) ?_;refine a2 ?_
 .exact Lr
theorem gS:Entry Tryz.prog 144:=⟨_,Tryz.func144,rfl,rfl⟩
theorem n8{p:Int->Bool}  :Am prog 143 [Mc prog (fun x:Int=>[int x]) (fun x=>bool (p x))] (Mc prog (fun x:Int=>[int x]) (fun x=>bool (!p x))):=by
 refine fo func143 rfl ⟨rfl,rfl⟩ fun M0 w0=>?_;refine a3 ?_
 .exact Ck gS (fun x=>gR (p:=p) (n:=x))
theorem n_:Entry Tryz.prog 143:=⟨_,Tryz.func143,rfl,rfl⟩
theorem MF{e:C8}(hf:e.fits):Am prog 72 [agg (BL e)] (int (if Ct e then 0 else 19)):=by
 refine fo func72 rfl ⟨rfl,rfl⟩ fun M0 w0=>?_;refine a2 ?_;refine co rfl (BQ (gG hf.name) rfl rfl) ?_;refine ag ?_ ?_<;>intro h1 q1
 refine ac ?_;refine wk [32,1] rfl ?_;refine a2 ?_
 .exact Kv
 refine ag ?_ ?_<;>intro h2 q2
 refine ac ?_;refine wk [32,1] rfl ?_;refine a2 ?_
 .exact LR
 refine ag ?_ ?_<;>intro h3 q3
 refine ac ?_;refine wk [32,1] rfl ?_;refine a2 ?_
 .exact LR
 refine ag ?_ ?_<;>intro h4 q4
 refine ac ?_;refine wk [32,1] rfl ?_;refine a2 ?_
 .exact LR
 refine ac ?_;refine cy h4 rfl (BQ (XO) rfl rfl) ?_;refine ac ?_;refine wk [32,1] rfl ?_;refine Tr.cn rfl ?_ ?_<;>intro h5 q5
 refine a2 ?_
 .exact Kv
 refine ac ?_;refine ag ?_ ?_<;>intro h6 q6
 refine ac ?_;refine wk [54,1] rfl ?_;refine a2 ?_
 .exact LR
 refine ag ?_ ?_<;>intro h7 q7
 refine ac ?_;refine wk [54,1] rfl ?_;refine a2 ?_
 .exact LR
 refine ac ?_;refine cy h7 rfl (BQ (NR) rfl rfl) ?_;refine ag ?_ ?_<;>intro h8 q8
 refine ac ?_;refine wk [54,1] rfl ?_;refine a2 ?_
 .exact Kv
 refine ac ?_;refine cy h8 rfl (BQ (NR) rfl rfl) ?_;refine ac ?_;refine wk [54,1] rfl ?_;refine Tr.cn rfl ?_ ?_<;>intro h9 q9
 refine a2 ?_
 .exact Kv
 refine a2 ?_;refine Tr.block (Tr.BP _ (kk [57,56,1] rfl) (fun k:Nat=>[(58,int ((k:Nat):Int))]) (fun k:Nat=>k<=(e.ids).length/\(∀j y,j<k->e.ids[j]? =some y->(!NP y)=false)) (fun k:Nat=>(e.ids).length-k) 0 (⟨Nat.zero_le _,fun j y hj=>absurd hj AA⟩) kz ?_);rintro k ⟨BR,AY⟩;refine ac ?_;refine Tr.seq ?_;refine Tr.cn rfl ?_ ?_<;>intro h10 MB
 have Ae:k<(e.ids).length:=AV h10;obtain⟨x,Ag⟩:=at_ Ae;have oG:=hf.ids x (List.mem_of_getElem? Ag);refine ac ?_;refine Tr.seq (Tr.block (Tr.seq (Tr.Al (tp rfl (AD rfl underlying71 EF vq vq AA DL) ?_))));refine tp rfl (AJ rfl KT EF vq rfl rfl) ?_;refine Tl rfl rfl rfl rfl Ts Pg (fun b1=>?_);refine sf 0 4 ⟨rfl,rfl,rfl⟩ rfl rfl rfl rfl ?_;refine ao ?_
 .repeat' first|(refine int_eq ?_;unfold Ct;rw[Gi (p:=NP) Ag (by unfold NP;simp_all)];simp)|(exact Fin.AR (k+1) ⟨⟨Ae,Cf (p:=fun c=> !NP c) Ag (by unfold NP;simp_all) AY⟩,by omega⟩ ⟨⟨_,rfl,AM k⟩,kz⟩)|refine co rfl (Tx (Z5 oG) rfl rfl rfl rfl) ?_|refine ac ?_|(refine Tr.cn rfl ?_ ?_<;>intro h q)
 have BB:k=(e.ids).length:=by have:=AW h10;omega
 subst BB;have hall:=EG AY;refine a2 ?_;refine Tr.seq (Tr.seq (Tr.re 5 rfl (Ck (dom:=fun p:Int->Bool=>[Mc prog (fun x:Int=>[int x]) (fun x=>bool (p x))]) (res:=fun p=>Mc prog (fun x:Int=>[int x]) (fun x=>bool (!p x))) n_ (fun p=>n8 (p:=p))) ?_));refine ac ?_;refine co rfl (Dg D4 rfl (vl rfl) ⟨⟨_,rfl,Ck (dom:=fun n:Int=>[int n]) (res:=fun n=>bool (D4 n)) gH (fun n=>Rc (n:=n))⟩,trivial⟩) ?_;refine co rfl (Bm (Gv (l:=e.anchors) (p:=fun n=> !D4 n)) rfl rfl rfl) ?_;refine cm rfl ?_
 .repeat' first|(refine int_eq ?_;unfold Ct;rw[if_neg];intro hh;simp only[Bool.and_eq_true]at hh;have g1:=hh.1.2;have g2:=hh.2;clear hh AY hf hall;simp only[S3,g1,g2,Bool.not_true,Bool.false_eq_true]at*)|(refine int_eq ?_;unfold Ct;simp_all;omega)|refine cy h rfl (Dg Fl rfl (vl rfl) ⟨⟨_,rfl,Ck (dom:=fun n:Int=>[int n]) (res:=fun n=>bool (Fl n)) e_hash (fun n=>gP (n:=n))⟩,trivial⟩) ?_|refine cy h rfl (Bm (Gv (l:=e.hashes) (p:=fun n=> !Fl n)) rfl rfl rfl) ?_|refine ac ?_|(refine Tr.cn rfl ?_ ?_<;>intro h q)|(refine Ch.cg rfl rfl rfl ?_ ?_<;>intro h q)
end Go.Proofs.YthommhphcagokaaGreatDoor
