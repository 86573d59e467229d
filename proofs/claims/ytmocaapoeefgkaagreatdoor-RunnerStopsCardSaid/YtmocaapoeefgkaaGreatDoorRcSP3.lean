/-
  Part 3 of the texts that prove this claim, merged.
-/
import Derived.Test.YtmocaapoeefgkaaGreatDoorRows
import Derived.Test.YtmocaapoeefgkaaGreatDoorRcSP2
set_option linter.all false
set_option maxRecDepth 40000
set_option maxHeartbeats 16000000
namespace Cp
open Go Go.RowKit Go.Great
section
variable {P:Program} {L:Lg P} {n:Fm} {fz:Nat} {E:Env} {I:Cb} {Q:Exit→Act→World→Prop} {ops:Array Oper} {o:Oper} {r:List Oper} {g j:Nat} {b want:Bool}
theorem TO.cases (g:Nat) {b:Bool} {l:List Oper} (_hb:E.lookup g=some (bool b)) (ht:b=true→TO P n ops l E I Q) (hf:b=false→TO P n ops l E I Q):TO P n ops l E I Q:=by
 cases b
 · exact hf rfl
 · exact ht rfl
theorem TO.zj (hg:o.guard=some (j,want)) (hj:(ops[j]?).bind (·.dst)=some g) (hb:E.lookup g=some (bool b)) (L5:b=want) (h:∀(K:Act→World→Prop) M w (a:Act),a.tmps.size=n.sz→a.defers=n.df→FM M w E a→I.h M w→
  (∀E' I' a' w',TO P n ops r E' I' Q→St n E' I' a' w'→K a' w')→o.wp P a w K Q):TO P n ops (o::r) E I Q:=by
 intro k hl a w hs
 have h0:ops[k]? =some o:=by simpa using (hl 0).symm
 obtain ⟨M,hn,hd,he,hI⟩:=hs
 simp only [List.length_cons,List.range'_succ,wpS,h0]
 have hy:=IG (M:=M) (w:=w) (b:=some b) hj (he g _ hb)
 rw [HG hg hy,if_pos (by simp [L5])]
 exact (h _ M w a hn hd he hI fun E' I' a' w' hT hst=>hT (k+1) (fun j=>by have:=hl (j+1);simpa [Nat.add_assoc,Nat.add_comm 1 j] using this) a' w' hst)
theorem TO.FG {d:Nat} {p:Pr} (hg:o.guard=some (j,want)) (hj:(ops[j]?).bind (·.dst)=some g) (hb:E.lookup g=some (bool b)) (L5:b=want) (hd:o.dst=some d) (hn:d<n) (h:Ad P I o E p) (k:TO P n ops r ((d,p)::E) I Q):TO P n ops (o::r) E I Q:=
 TO.zj hg hj hb L5 fun K M w a h1 h2 h3 h4 hK=>by
  refine Gq (h M w a (CU h3) h4) fun v w' hv hb'=>hK _ _ _ _ k ⟨M,?_,?_,?_,I.st _ _ _ hb' h4⟩
  · rw [B1];exact h1
  · rw [put_defers];exact h2
  ·
   have:=h3.put (o:=o) (p:=p) hb' hv (fun d' hd'=>by rw [hd] at hd';cases hd';rw [h1];exact hn)
   rw [show upd o p E=(d,p)::E by unfold upd;rw [hd]] at this;exact this
theorem TO.UU {d:Nat} (hg:o.guard=some (j,want)) (hj:(ops[j]?).bind (·.dst)=some g) (hb:E.lookup g=some (bool b)) (L5:b≠want) (hd:o.dst=some d) (hn:d<n) (kk:TO P n ops r ((d,is undef)::E) I Q):TO P n ops (o::r) E I Q:=by
 intro k hl a w hs
 have h0:ops[k]? =some o:=by simpa using (hl 0).symm
 obtain ⟨M,h1,h2,he,hI⟩:=hs
 simp only [List.length_cons,List.range'_succ,wpS,h0]
 have hy:=IG (M:=M) (w:=w) (b:=some b) hj (he g _ hb)
 rw [HG hg hy,if_neg (by simp [L5])]
 refine kk (k+1) (fun j=>by have:=hl (j+1);simpa [Nat.add_assoc,Nat.add_comm 1 j] using this) _ w ⟨M,by rw [B1];exact h1,by rw [put_defers];exact h2,?_,hI⟩
 have:=he.put (o:=o) (p:=is undef) (v:=undef) (Below.refl w.heap.size w) rfl (fun d' hd'=>by rw [hd] at hd';cases hd';rw [h1];exact hn)
 rw [show upd o (is undef) E=(d,is undef)::E by unfold upd;rw [hd]] at this;exact this
variable {M0:Av} {w0:World} {S:Nat→Prop} {rs:List As}
theorem TO.jX {d:Nat} {p:Pr} (i:Nat) {R:As} {R':As} (hg:o.guard=some (j,want)) (hj:(ops[j]?).bind (·.dst)=some g) (hb:E.lookup g=some (bool b)) (L5:b=want) (hR:rs[i]? =some R) (hd:o.dst=some d) (hn:d<n) (h:De P M0 w0 S n i (SR.c R) (SR.c R') { o with guard:=none } E p)
  (k:TO P n ops r ((d,p)::E) (Hp M0 w0 S (rs.set i R')) Q):TO P n ops (o::r) E (Hp M0 w0 S rs) Q:=
 TO.zj hg hj hb L5 fun K M w a hsz hdf he hI hK=>by
  have hw : ({ o with guard := none } : Oper).wp P a w K Q := L8 (h.2 M w a rs hsz (CU he) hI hR) fun v w' M' hv hx VN => hK _ _ _ _ k ⟨M', by rw [B1]; exact hsz, by rw [put_defers]; exact hdf, by
   intro s q hq
   simp only [List.lookup] at hq
   by_cases hs:s=d
   · subst hs;simp at hq;subst hq;show p.h M' w' ((a.put o.dst v).tmps.getD s undef);rw [hd,Bz Gn];exact hv
   · rw [show (s==d)=false by simpa using hs] at hq;show q.h M' w' ((a.put o.dst v).tmps.getD s undef);rw [hd,BT hs];exact q.st _ _ _ _ _ hx (he s q hq),VN⟩
  exact hw
end
section
variable {P:Program} {L:Lg P} {E:Env} {I:Cb} {o:Oper}
end
class T1 (P:Program) (t:TypeId):Prop where
 h:EN P t=true
class TA (P:Program) (t:TypeId):Prop where
 h:FO P t=true
class TZ (P:Program) (t:TypeId) (m:outParam Nat):Prop where
 h:A9 P t=some m
class TF (P:Program) (s f:Nat) (k:outParam Nat):Prop where
 h:AY P s f=some k
class TU (P:Program) (t:TypeId) (d:outParam TypeDesc):Prop where
 h:P.underlying t=some d
class TB (P:Program) (t:TypeId) (place:outParam (Nat→Option (Nat×Nat))) (zs:outParam (List Value)):Prop where
 h:∀ps,P.built t ps=Instr.fill place zs.toArray ps
 z:zs.all (·.oneCell')=true
class TV (P:Program) (t:TypeId) (zs:outParam (List Value)):Prop where
 h:BX P t=some zs
 z:zs.all (·.oneCell')=true
class TM (P:Program):Prop where
 h:P.follows .mixedOrders=true
section
variable {P:Program} {L:Lg P} {n:Fm} {fz:Nat} {I:Cb} {ops:Array Oper} {o:Oper} {r:List Oper} {E:Env} {K:Env→Prop} {d g j:Nat} {b want:Bool} {p:Pr} {x y:Operand} {Q:Exit→Act→World→Prop} {t u:TypeId}
theorem ADM [i:T1 P t] {ps:List Pr} (ho:o.op= .load t x) (hx:Cw E x=some (ref (p::ps))):Ad P I o E p:=Cz ho i.h (vl hx)
theorem ADN [i:TA P t] {m:Nat} [z:TZ P t m] {ps qs:List Pr} (ho:o.op= .load t x) (hx:Cw E x=some (ref ps)) (hq:ps.take m=qs) (hm:qs.length=m):Ad P I o E (agg qs):=AL ho i.h z.h (vl hx) hq hm
theorem ADO {s:TypeId} {f k:Nat} [i:TF P s f k] {ps qs:List Pr} (ho:o.op= .fieldAddr s x f) (hx:Cw E x=some (ref ps)) (hq:ps.drop k=qs):Ad P I o E (ref qs):=Ef ho i.h (vl hx) hq
theorem ADP {s:TypeId} {f k:Nat} [i:TF P s f k] {b off:Nat} (ho:o.op= .fieldAddr s x f) (hx:Cw E x=some (ptr b off)):Ad P I o E (ptr b (off+k)):=Ab ho i.h (vl hx)
theorem ADQ {e:TypeId} [i:TU P t (.slice e)] {sz:Nat} {β:Type} {f:β→List Pr} {l:List β} (ho:o.op= .call { callee:= .builtin .len,args:= #[x],argTypes:= #[t] }) (hx:Cw E x=some (slice sz (l.map f))):Ad P I o E (int ((l.length:Nat):Int)):=CW ho i.h (vl hx)
theorem ADR [i:TU P t .string] {a:List UInt8} (ho:o.op= .call { callee:= .builtin .len,args:= #[x],argTypes:= #[t] }) (hx:Cw E x=some (str a)):Ad P I o E (int ((a.length:Nat):Int)):=qH ho i.h (vl hx)
theorem ADS [i:TU P t .bool] {b c:Bool} (ho:o.op= .binOp .eql t x y u) (hx:Cw E x=some (bool b)) (hy:Cw E y=some (bool c)):Ad P I o E (bool (b==c)):=uM ho i.h (vl hx) (vl hy)
theorem ADT {p:Pr} [One p] (ho:o.op= .box t x) (hx:Cw E x=some p):Ad P I o E (ref [p]):=BZ ho (VL.le (vl hx) (Aa p))
theorem ADU {ps:List Pr} (ho:o.op= .box t x) (hx:Cw E x=some (agg ps)):Ad P I o E (ref ps):=BZ ho (VL.le (vl hx) (Ac ps))
class CP (p:Pr) (ps:outParam (List Pr)):Prop where
 h:Pr.le p (DC ps)
instance ADV (ps:List Pr):CP (agg ps) ps:=⟨Ac ps⟩
instance (priority:=low) ADW (p:Pr) [One p]:CP p [p]:=⟨Aa p⟩
class CQ (p:Pr) (ps:outParam (List Pr)):Prop where
 h:Pr.le p (DC ps)
instance ADX (ps:List Pr):CQ (agg ps) ps:=⟨Ac ps⟩
instance ADY (k:IntKind) (n:Int):CQ (is (.int k n)) [is (.int k n)]:=⟨Aa _⟩
instance AB1 (b:Bool):CQ (is (.bool b)) [is (.bool b)]:=⟨Aa _⟩
instance ADZ (s:ByteArray):CQ (is (.string s)) [is (.string s)]:=⟨Aa _⟩
instance ADa (a:Option Addr):CQ (is (.pointer a)) [is (.pointer a)]:=⟨Aa _⟩
instance zk (sz:Nat) (rows:List (List Pr)):CQ (slice sz rows) [slice sz rows]:=⟨Aa _⟩
instance ADb (ps:List Pr):CQ (ref ps) [ref ps]:=⟨Aa _⟩
instance AE2 (f:Fn) (ps:List Pr):CQ (fn f ps) [fn f ps]:=⟨Aa _⟩
theorem vf0:X8 E [] []:=trivial
theorem vf1 {i:Nat} {q:Pr} {row:List Pr} [c:CQ q row] {xs:List (Nat×Operand)} {rows:List (Nat×List Pr)} (hx:Cw E x=some q) (h:X8 E xs rows):X8 E ((i,x)::xs) ((i,row)::rows):=⟨⟨rfl,VL.le (vl hx) c.h⟩,h⟩
theorem vr0 {sz:Nat}:T8 E sz [] []:=trivial
theorem vr1 {sz:Nat} {q:Pr} {row:List Pr} [c:CQ q row] {xs:List Operand} {rows:List (List Pr)} (hx:Cw E x=some q) (hl:row.length=sz) (h:T8 E sz xs rows):T8 E sz (x::xs) (row::rows):=⟨⟨hl,VL.le (vl hx) c.h⟩,h⟩
theorem ADc {parts:Array (Nat×Operand)} {place:Nat→Option (Nat×Nat)} {zs:List Value} [i:TB P t place zs] {rows:List (Nat×List Pr)} {qs:List Pr} (ho:o.op= .build t parts) (hx:X8 E parts.toList rows) (hq:SX place (zs.map is) rows=some qs):Ad P I o E (agg qs):=Al ho i.h i.z hx hq
theorem ADd {e:TypeId} {sz m:Nat} {zs:List Value} {xs:List Operand} {parts:Array (Nat×Operand)} {rows:List (List Pr)} [i:TU P t (.slice e)] [z:TZ P e sz] [v:TV P e zs] (ho:o.op= .buildSlice t m parts) (hp:parts.toList.map Prod.snd=xs) (hm:(m==xs.length&&(parts.toList.map Prod.fst==List.range m)&&zs.length==sz&&Nat.blt 0 sz&&Nat.ble (m*sz) 16777216)=true) (hx:T8 E sz xs rows):Ad P I o E (full sz rows):=by
 simp only [Bool.and_eq_true,beq_iff_eq,Nat.blt_eq,Nat.ble_eq] at hm
 obtain ⟨⟨⟨⟨h1,h2⟩,h3⟩,h4⟩,h5⟩:=hm
 subst h1
 refine AM ho ?_ i.h z.h v.h h3 h4 hx h5
 refine List.ext_getElem (by rw [←hp];simp) fun k h6 h7=> ?_
 have h8:k<xs.length:=by simpa using h7
 simp only [List.getElem_map,List.getElem_zipIdx,Nat.zero_add]
 have e1:(parts.toList.map Prod.fst)[k]'(by simpa using h6)=k:=by simp only [h2];exact List.getElem_range _
 have e2:(parts.toList.map Prod.snd)[k]'(by simpa using h6)=xs[k]:=by simp only [hp]
 simp only [List.getElem_map] at e1 e2
 exact Prod.ext e1 e2
section
variable {M0:Av} {w0:World} {S:Nat→Prop} {b off:Nat} {T:TypeId} {new:Bool} {ps qs:List Pr} {m:Nat} {q:Pr}
theorem LO [i:T1 P t] (ho:o.op= .load t x) (hx:Cw E x=some (ptr b off)) (hp:ps[off]? =some p):LF P M0 w0 S j (SR.c (AF new b T ps)) o E p:=BI ho i.h (vl hx) hp
theorem LP [i:TA P t] [z:TZ P t m] (ho:o.op= .load t x) (hx:Cw E x=some (ptr b off)) (hq:(ps.drop off).take m=qs) (hm:qs.length=m):LF P M0 w0 S j (SR.c (AF new b T ps)) o E (agg qs):=CM ho i.h z.h (vl hx) hq hm
theorem WD {ps':List Pr} [z:TZ P t m] [c:CP q qs] (hg:o.guard=none) (ho:o.op= .store t x y) (hx:Cw E x=some (ptr b off)) (hy:Cw E y=some q) (hm:qs.length=m:=by rfl) (hl:Nat.ble (off+m) ps.length=true:=by rfl) (hps:ps.take off++qs++ps.drop (off+m)=ps':=by rfl):De P M0 w0 S n j (SR.c (AF new b T ps)) (SR.c (AF new b T ps')) o E any:=A_ hg ho (vl hx) (VL.le (vl hy) c.h) z.h hm (Nat.le_of_ble_eq_true hl) hps
variable {rs:List As}
theorem sf (i s:Nat) [z:TZ P t m] [c:CP q qs] (hg:o.guard=none∧o.dst=none∧o.op= .store t x y) (hx:Cw E x=some (ptr b 0)) (hy:Cw E y=some q) (hi:rs[i]? =some (AF true b T ps)) (hs:E.lookup s=some (ptr b 0))
  (k:TO P n ops r ((s,ref qs)::E) (Hp M0 w0 S ((rs.set i (AF true b T qs)).eraseIdx i)) Q) (hm:qs.length=m:=by rfl) (hl:ps.length=m:=by rfl):TO P n ops (o::r) E (Hp M0 w0 S rs) Q:=
 TO.AK i hg.1 hg.2.1 hg.2.2 (vl hx) (VL.le (vl hy) c.h) hi z.h hm hl (TO.freeze (ps:=qs) i s (by
  have hlt:i<rs.length:=by rcases Nat.lt_or_ge i rs.length with h|h;exact h;rw [List.getElem?_eq_none h] at hi;cases hi
  rw [List.getElem?_set_self hlt]) hs k)
theorem sa (i:Nat) [z:TZ P t m] [c:CP q qs] (hg:o.guard=none∧o.dst=none∧o.op= .store t x y) (hx:Cw E x=some (ptr b 0)) (hy:Cw E y=some q) (hi:rs[i]? =some (AF new b T ps))
  (k:TO P n ops r E (Hp M0 w0 S (rs.set i (AF new b T qs))) Q) (hm:qs.length=m:=by rfl) (hl:ps.length=m:=by rfl):TO P n ops (o::r) E (Hp M0 w0 S rs) Q:=TO.AK i hg.1 hg.2.1 hg.2.2 (vl hx) (VL.le (vl hy) c.h) hi z.h hm hl k
end
def opk (o:Oper):Nat:=match o.op with
 | .move ..=>1
 | .assign ..=>1
 | .fieldAddr ..=>2
 | .load ..=>3
 | .binOp .add ..=>7
 | .binOp .sub ..=>8
 | .binOp ..=>4
 | .pick ..=>5
 | .nilCheck ..=>6
 | .call { callee:= .builtin .len,.. }=>9
 | .unOp ..=>10
 | .box ..=>11
 | .extract ..=>12
 | .makeFunc ..=>13
 | .build ..=>14
 | .buildSlice ..=>15
 | .store ..=>16
 |_=>0
def zl (o:Oper):Bool:=o.guard.isNone
def grp (o:Oper):Nat:=if opk o=0 then 0 else if opk o<5 then 1 else if opk o<9 then 2 else if opk o<16 then 3 else 4
theorem ADe {m z:Int} (ho:o.op= .binOp .add t x y u) (hx:Cw E x=some (int m)) (hy:Cw E y=some (int z)) (hr: -9223372036854775808≤m+z∧m+z≤9223372036854775807):Ad P I o E (int (m+z)):=E5 ho (vl hx) (vl hy) hr
theorem ADf {m z:Int} (ho:o.op= .binOp .sub t x y u) (hx:Cw E x=some (int m)) (hy:Cw E y=some (int z)) (hr: -9223372036854775808≤m-z∧m-z≤9223372036854775807):Ad P I o E (int (m-z)):=Xx ho (vl hx) (vl hy) hr
theorem oF (h:Ad P I o E p:=by first|exact ADO rfl rfl rfl|exact ADP rfl rfl):Ad P I o E p:=h
theorem oL (h:Ad P I o E p:=by first|exact ADM rfl rfl|exact ADN rfl rfl rfl rfl|exact C7 0 rfl (LO rfl rfl rfl)|exact C7 0 rfl (LP rfl rfl rfl rfl)|exact C7 1 rfl (LO rfl rfl rfl)|exact C7 1 rfl (LP rfl rfl rfl rfl)|exact C7 2 rfl (LO rfl rfl rfl)|exact C7 2 rfl (LP rfl rfl rfl rfl)|exact C7 3 rfl (LO rfl rfl rfl)|exact C7 3 rfl (LP rfl rfl rfl rfl)|exact C7 4 rfl (LO rfl rfl rfl)|exact C7 4 rfl (LP rfl rfl rfl rfl)):Ad P I o E p:=h
theorem oB (h:Ad P I o E p:=by first|exact ki rfl rfl rfl rfl|exact u_ rfl (vl rfl) (vl rfl)|exact vA rfl (vl rfl) (vl rfl)|exact ADS rfl rfl rfl):Ad P I o E p:=h
theorem oP (h:Ad P I o E p:=by first|exact KH rfl rfl (by first|rfl|assumption) rfl|exact Ou rfl rfl (by first|rfl|assumption) rfl|exact dR rfl (vl rfl) (vl rfl)|exact YN rfl (vl rfl) (vl rfl)):Ad P I o E p:=h
theorem oN (h:Ad P I o E p:=by first|exact EB rfl (vl rfl)|exact GP rfl (vl rfl)|exact Gt rfl (vl rfl)):Ad P I o E p:=h
theorem oA (h:Ad P I o E p:=by first|exact ADe rfl rfl rfl AA|exact ki rfl rfl rfl rfl):Ad P I o E p:=h
theorem oS (h:Ad P I o E p:=by first|exact ADf rfl rfl rfl AA|exact ki rfl rfl rfl rfl):Ad P I o E p:=h
theorem oC (h:Ad P I o E p:=by first|exact ADQ rfl rfl|exact ADR rfl rfl):Ad P I o E p:=h
theorem oU (h:Ad P I o E p:=by first|exact Gs rfl (vl rfl)):Ad P I o E p:=h
theorem oO (h:Ad P I o E p:=by first|exact ADU rfl rfl|exact ADT rfl rfl):Ad P I o E p:=h
theorem oE (h:Ad P I o E p:=by first|exact Ap rfl (vl rfl) rfl):Ad P I o E p:=h
theorem oM (h:Ad P I o E p:=by first|exact VY rfl rfl):Ad P I o E p:=h
theorem oD (h:Ad P I o E p:=by first|exact ADc rfl (by repeat any_goals first|exact vf0|refine' vf1 rfl ?_) (by rfl)):Ad P I o E p:=h
theorem oI (h:Ad P I o E p:=by first|exact ADd rfl rfl (by rfl) (by repeat any_goals first|exact vr0|refine' vr1 rfl (by rfl) ?_)):Ad P I o E p:=h
theorem kc0 {f:FuncId} {ts:Array TypeId} {res:Pr} (hf:BC P f [] res) (ho:o.op= .call { callee:= .value (.func f),args:= #[],argTypes:=ts }):Ad P I o E res:=AR ho hf trivial
theorem Ck {f:FuncId} {ts:Array TypeId} {x0:Operand} {p0:Pr} {res:Pr} (hf:BC P f [p0] res) (ho:o.op= .call { callee:= .value (.func f),args:= #[x0],argTypes:=ts }) (h0:Cw E x0=some p0):Ad P I o E res:=AR ho hf ⟨ke h0,trivial⟩
theorem CK {f:FuncId} {ts:Array TypeId} {x0:Operand} {p0:Pr} {x1:Operand} {p1:Pr} {res:Pr} (hf:BC P f [p0,p1] res) (ho:o.op= .call { callee:= .value (.func f),args:= #[x0,x1],argTypes:=ts }) (h0:Cw E x0=some p0) (h1:Cw E x1=some p1):Ad P I o E res:=AR ho hf ⟨ke h0,ke h1,trivial⟩
theorem Kk {f:FuncId} {ts:Array TypeId} {x0:Operand} {p0:Pr} {x1:Operand} {p1:Pr} {x2:Operand} {p2:Pr} {res:Pr} (hf:BC P f [p0,p1,p2] res) (ho:o.op= .call { callee:= .value (.func f),args:= #[x0,x1,x2],argTypes:=ts }) (h0:Cw E x0=some p0) (h1:Cw E x1=some p1) (h2:Cw E x2=some p2):Ad P I o E res:=AR ho hf ⟨ke h0,ke h1,ke h2,trivial⟩
theorem gL {f:FuncId} {ts:Array TypeId} {x0:Operand} {p0:Pr} {x1:Operand} {p1:Pr} {x2:Operand} {p2:Pr} {x3:Operand} {p3:Pr} {res:Pr} (hf:BC P f [p0,p1,p2,p3] res) (ho:o.op= .call { callee:= .value (.func f),args:= #[x0,x1,x2,x3],argTypes:=ts }) (h0:Cw E x0=some p0) (h1:Cw E x1=some p1) (h2:Cw E x2=some p2) (h3:Cw E x3=some p3):Ad P I o E res:=AR ho hf ⟨ke h0,ke h1,ke h2,ke h3,trivial⟩
theorem kc5 {f:FuncId} {ts:Array TypeId} {x0:Operand} {p0:Pr} {x1:Operand} {p1:Pr} {x2:Operand} {p2:Pr} {x3:Operand} {p3:Pr} {x4:Operand} {p4:Pr} {res:Pr} (hf:BC P f [p0,p1,p2,p3,p4] res) (ho:o.op= .call { callee:= .value (.func f),args:= #[x0,x1,x2,x3,x4],argTypes:=ts }) (h0:Cw E x0=some p0) (h1:Cw E x1=some p1) (h2:Cw E x2=some p2) (h3:Cw E x3=some p3) (h4:Cw E x4=some p4):Ad P I o E res:=AR ho hf ⟨ke h0,ke h1,ke h2,ke h3,ke h4,trivial⟩
theorem cP (_:zl o=true) (h:Ch P n I ops (o::r) E K):Ch P n I ops (o::r) E K:=h
theorem cG (_:zl o=false) (h:Ch P n I ops (o::r) E K):Ch P n I ops (o::r) E K:=h
theorem cK (k:Nat) (_:opk o=k) (h:Ch P n I ops (o::r) E K):Ch P n I ops (o::r) E K:=h
theorem cS (k:Nat) (_:grp o=k) (h:Ch P n I ops (o::r) E K):Ch P n I ops (o::r) E K:=h
theorem tK (k:Nat) (_:opk o=k) (h:TO P n ops (o::r) E I Q):TO P n ops (o::r) E I Q:=h
theorem tG (k:Nat) (_:grp o=k) (h:TO P n ops (o::r) E I Q):TO P n ops (o::r) E I Q:=h
theorem Tr.rm [i:TM P] {id:Nat} {l:List Oper} (hB:T0 l=true) (h:Ch P n I l.toArray l E (fun E'=>Fin n E' I Q .normal)) (hc:calm l=true:=by with_unfolding_all rfl):Tr L n E I (.region id l.toArray true) Q:=Tr.iO i.h hB h hc
theorem Tr.ct {c:Operand} {y z:Code} (hc:Cw E c=some (bool true)) (k:Tr L n E I y Q):Tr L n E I (.cond c y z) Q:=Tr.cond hc (fun _=>k) (fun h=>nomatch h)
theorem Tr.cf {c:Operand} {y z:Code} (hc:Cw E c=some (bool false)) (k:Tr L n E I z Q):Tr L n E I (.cond c y z) Q:=Tr.cond hc (fun h=>nomatch h) (fun _=>k)
structure jY (G:Prop):Prop where
 k:G
theorem Cx.mono {M0:Av} {w0:World} {S:Nat→Prop}:∀{l:List Oper} {E:Env} {rs:List SR} {K K':List X→Env→List SR→Prop},(∀L E rs,K L E rs→K' L E rs)→Cx P M0 w0 S n ops l E rs K→Cx P M0 w0 S n ops l E rs K'
 |[],_,_,_,_,h,k=>h _ _ _ k
 |_::_,_,_,_,_,h,⟨p,k,h1,h2,h3⟩=>⟨p,k,h1,h2,Cx.mono (fun _ _ _=>h _ _ _) h3⟩
theorem Cx.keys {M0:Av} {w0:World} {S:Nat→Prop}:∀{l:List Oper} {E:Env} {rs:List SR} {K:List X→Env→List SR→Prop},Cx P M0 w0 S n ops l E rs K→∃ks:List KN,Cx P M0 w0 S n ops l E rs (fun L E' rs'=>L.map (·.k.LG)=ks∧K L E' rs')
 |[],_,_,_,k=>⟨[],rfl,k⟩
 |_::_,_,_,_,⟨p,k,h1,h2,h3⟩=>by
  obtain ⟨ks,h4⟩:=Cx.keys h3
  exact ⟨k.LG::ks,p,k,h1,h2,Cx.mono (fun L E rs h=>⟨by rw [List.map_cons,h.1],h.2⟩) h4⟩
theorem Tr.rx {Lo:Lg P} [i:TM P] {M0:Av} {w0:World} {S:Nat→Prop} {id:Nat} {l:List Oper} {Hq:List As}
  (h:Cx P M0 w0 S n l.toArray l E (Hq.map SR.c) (fun L E' rs'=>Ot l (L.map (·.k.LG))=true∧BH n M0 w0 S E' rs' Q)) (hc:calm l=true:=by with_unfolding_all rfl):Tr Lo n E (Hp M0 w0 S Hq) (.region id l.toArray true) Q:=by
 obtain ⟨ks,hk⟩:=Cx.keys h
 obtain ⟨L,h1,h2,h3⟩:=T5 l 0 E _ hk
 exact Tr.GQ i.h ks (by rw [←h3.1];exact h3.2.1) (hk.mono fun _ _ _ h=>⟨h.1,h.2.2⟩) hc
theorem al1 {rs:List As} {r0:As}:Ax (SR.c r0::rs.map SR.c) (r0::rs):= .cons (Ax.map _)
theorem XT {rs:List As} {r0:As} {r1:As}:Ax (SR.c r0::SR.c r1::rs.map SR.c) (r0::r1::rs):= .cons (.cons (Ax.map _))
theorem al3 {rs:List As} {r0:As} {r1:As} {r2:As}:Ax (SR.c r0::SR.c r1::SR.c r2::rs.map SR.c) (r0::r1::r2::rs):= .cons (.cons (.cons (Ax.map _)))
theorem al4 {rs:List As} {r0:As} {r1:As} {r2:As} {r3:As}:Ax (SR.c r0::SR.c r1::SR.c r2::SR.c r3::rs.map SR.c) (r0::r1::r2::r3::rs):= .cons (.cons (.cons (.cons (Ax.map _))))
theorem al5 {rs:List As} {r0:As} {r1:As} {r2:As} {r3:As} {r4:As}:Ax (SR.c r0::SR.c r1::SR.c r2::SR.c r3::SR.c r4::rs.map SR.c) (r0::r1::r2::r3::r4::rs):= .cons (.cons (.cons (.cons (.cons (Ax.map _)))))
theorem al6 {rs:List As} {r0:As} {r1:As} {r2:As} {r3:As} {r4:As} {r5:As}:Ax (SR.c r0::SR.c r1::SR.c r2::SR.c r3::SR.c r4::SR.c r5::rs.map SR.c) (r0::r1::r2::r3::r4::r5::rs):= .cons (.cons (.cons (.cons (.cons (.cons (Ax.map _))))))
theorem fo {f : FuncId} {g : Func} {c : Code} {ps : List Pr} {res : Pr} (hf : P.funcs[f]? = some g) (hb : g.body = some c) (hname : ((g.name == "runtime.NumGoroutine") = false ∧ Nat.ble ps.length g.ntmps = true))
  (h:∀M0 w0,Tr (XR P) g.ntmps (LD 0 ps) (Bse M0 w0) c (bodyPost P g (T3 M0 w0 res))):BC P f ps res:=BC.of hf hb hname.1 (Nat.le_of_ble_eq_true hname.2) h
section
variable {M0:Av} {w0:World} {S:Nat→Prop} {rs:List SR} {KX:List X→Env→List SR→Prop}
theorem xId {l:List Oper} (h:Cx P M0 w0 S n ops l E rs KX):Cx P M0 w0 S n ops l E rs KX:=h
theorem xK (k:Nat) (_:opk o=k) (h:Cx P M0 w0 S n ops (o::r) E rs KX):Cx P M0 w0 S n ops (o::r) E rs KX:=h
theorem xG (k:Nat) (_:grp o=k) (h:Cx P M0 w0 S n ops (o::r) E rs KX):Cx P M0 w0 S n ops (o::r) E rs KX:=h
end
theorem cId {l:List Oper} (h:Ch P n I ops l E K):Ch P n I ops l E K:=h
theorem rId {c:Code} (h:Tr L n E I c Q):Tr L n E I c Q:=h
theorem fId {e:Exit} (h:Fin n E I Q e):Fin n E I Q e:=h
theorem tId {l:List Oper} (h:TO P n ops l E I Q):TO P n ops l E I Q:=h
theorem ac {G H:Prop} (k:G) (h:jY G→H:=by
 intro k
 repeat1' first
  |((with_reducible refine cId ?_);first
   |with_reducible refine Ch.nil ?_
   |(refine cP rfl ?_;first
    |(refine cS 1 rfl ?_;first
      |(refine cK 1 rfl ?_;refine cm rfl ?_)
      |(refine cK 2 rfl ?_;refine co rfl oF ?_)
      |(refine cK 3 rfl ?_;refine co rfl oL ?_)
      |(refine cK 4 rfl ?_;refine co rfl oB ?_))
    |(refine cS 2 rfl ?_;first
      |(refine cK 5 rfl ?_;refine co rfl oP ?_)
      |(refine cK 6 rfl ?_;refine co rfl oN ?_)
      |(refine cK 7 rfl ?_;refine co rfl oA ?_)
      |(refine cK 8 rfl ?_;refine co rfl oS ?_))
    |(refine cS 3 rfl ?_;first
      |(refine cK 9 rfl ?_;refine co rfl oC ?_)
      |(refine cK 10 rfl ?_;refine co rfl oU ?_)
      |(refine cK 11 rfl ?_;refine co rfl oO ?_)
      |(refine cK 12 rfl ?_;refine co rfl oE ?_)
      |(refine cK 13 rfl ?_;refine co rfl oM ?_)
      |(refine cK 14 rfl ?_;refine co rfl oD ?_)
      |(refine cK 15 rfl ?_;refine co rfl oI ?_)))
   |(refine cG rfl ?_;first
    |refine cu rfl ?_
    |refine cnt Bt rfl ?_
    |refine cnf Bt rfl ?_
    |(refine cS 1 rfl ?_;first
      |(refine cK 1 rfl ?_;refine NB E4 rfl ?_)
      |(refine cK 2 rfl ?_;refine cy E4 rfl oF ?_)
      |(refine cK 3 rfl ?_;refine cy E4 rfl oL ?_)
      |(refine cK 4 rfl ?_;refine cy E4 rfl oB ?_))
    |(refine cS 2 rfl ?_;first
      |(refine cK 5 rfl ?_;refine cy E4 rfl oP ?_)
      |(refine cK 6 rfl ?_;refine cy E4 rfl oN ?_)
      |(refine cK 7 rfl ?_;refine cy E4 rfl oA ?_)
      |(refine cK 8 rfl ?_;refine cy E4 rfl oS ?_))
    |(refine cS 3 rfl ?_;first
      |(refine cK 9 rfl ?_;refine cy E4 rfl oC ?_)
      |(refine cK 10 rfl ?_;refine cy E4 rfl oU ?_)
      |(refine cK 11 rfl ?_;refine cy E4 rfl oO ?_)
      |(refine cK 12 rfl ?_;refine cy E4 rfl oE ?_)
      |(refine cK 13 rfl ?_;refine cy E4 rfl oM ?_)
      |(refine cK 14 rfl ?_;refine cy E4 rfl oD ?_)
      |(refine cK 15 rfl ?_;refine cy E4 rfl oI ?_))
    |refine cnd rfl rfl ?_))
  |((with_reducible refine rId ?_);first
   |with_reducible refine Tr.seq ?_
   |with_reducible refine Tr.Aj ?_
   |refine Tr.rm BS ?_
   |with_reducible refine Tr.skip ?_
   |with_reducible refine Tr.block ?_
   |with_reducible refine Tr.ret ?_
   |with_reducible refine Tr.exit ?_
   |refine Tr.ct rfl ?_
   |refine Tr.cf rfl ?_)
  |((with_reducible refine fId ?_);first
   |with_reducible refine Fin.AE ?_
   |with_reducible refine Fin.AU ?_
   |with_reducible refine Fin.Ag ?_
   |with_reducible refine Fin.BD ?_
   |refine Fin.P8 rfl ?_
   |with_reducible refine Fin.block ?_
   |refine Fin.Ki rfl (Bo.Dy _ _) rfl ?_)
 first|with_reducible refine Fin.go ?_|with_reducible refine cId ?_|with_reducible refine tId ?_|with_reducible refine rId ?_|refine Fin.go ?_|skip
 exact k.k):H:=h ⟨k⟩
theorem ao {G H:Prop} (k:G) (h:jY G→H:=by
 intro k
 repeat1' first
  |((with_reducible refine tId ?_);first
   |with_reducible refine TO.nil ?_
   |(refine tG 1 rfl ?_;first
     |(refine tK 1 rfl ?_;refine tm rfl ?_)
     |(refine tK 2 rfl ?_;refine tp rfl oF ?_)
     |(refine tK 3 rfl ?_;refine tp rfl oL ?_)
     |(refine tK 4 rfl ?_;refine tp rfl oB ?_))
   |(refine tG 2 rfl ?_;first
     |(refine tK 5 rfl ?_;refine tp rfl oP ?_)
     |(refine tK 6 rfl ?_;refine tp rfl oN ?_)
     |(refine tK 7 rfl ?_;refine tp rfl oA ?_)
     |(refine tK 8 rfl ?_;refine tp rfl oS ?_))
   |(refine tG 3 rfl ?_;first
     |(refine tK 9 rfl ?_;refine tp rfl oC ?_)
     |(refine tK 10 rfl ?_;refine tp rfl oU ?_)
     |(refine tK 12 rfl ?_;refine tp rfl oE ?_)
     |(refine tK 13 rfl ?_;refine tp rfl oM ?_)
     |(refine tK 14 rfl ?_;refine tp rfl oD ?_)
     |(refine tK 15 rfl ?_;refine tp rfl oI ?_)))
  |((with_reducible refine rId ?_);first
   |with_reducible refine Tr.seq ?_
   |with_reducible refine Tr.An ?_
   |with_reducible refine Tr.skip ?_
   |with_reducible refine Tr.block ?_
   |with_reducible refine Tr.ret ?_
   |with_reducible refine Tr.exit ?_)
  |((with_reducible refine fId ?_);first
   |with_reducible refine Fin.AE ?_
   |with_reducible refine Fin.AU ?_
   |with_reducible refine Fin.Ag ?_
   |with_reducible refine Fin.BD ?_
   |refine Fin.P8 rfl ?_
   |with_reducible refine Fin.block ?_)
 first|with_reducible refine Fin.go ?_|with_reducible refine cId ?_|with_reducible refine tId ?_|with_reducible refine rId ?_|refine Fin.go ?_|skip
 exact k.k):H:=h ⟨k⟩
theorem ap {G H:Prop} (k:G) (h:jY G→H:=by
 intro k
 repeat1' first
  |((with_reducible refine tId ?_);first
   |with_reducible refine TO.nil ?_
   |(refine tG 1 rfl ?_;first
     |(refine tK 1 rfl ?_;refine tm rfl ?_)
     |(refine tK 2 rfl ?_;refine tp rfl oF ?_)
     |(refine tK 3 rfl ?_;refine tp rfl oL ?_)
     |(refine tK 4 rfl ?_;refine tp rfl oB ?_))
   |(refine tG 2 rfl ?_;first
     |(refine tK 5 rfl ?_;refine tp rfl oP ?_)
     |(refine tK 6 rfl ?_;refine tp rfl oN ?_)
     |(refine tK 7 rfl ?_;refine tp rfl oA ?_)
     |(refine tK 8 rfl ?_;refine tp rfl oS ?_))
   |(refine tG 3 rfl ?_;first
     |(refine tK 9 rfl ?_;refine tp rfl oC ?_)
     |(refine tK 10 rfl ?_;refine tp rfl oU ?_)
     |(refine tK 12 rfl ?_;refine tp rfl oE ?_)
     |(refine tK 13 rfl ?_;refine tp rfl oM ?_)
     |(refine tK 14 rfl ?_;refine tp rfl oD ?_)
     |(refine tK 15 rfl ?_;refine tp rfl oI ?_))
   |(refine tK 16 rfl ?_;first
    |refine sa 0 ⟨rfl,rfl,rfl⟩ rfl rfl rfl ?_
    |refine TO.Dr 0 rfl rfl (WD rfl rfl rfl rfl) ?_
    |refine sa 1 ⟨rfl,rfl,rfl⟩ rfl rfl rfl ?_
    |refine TO.Dr 1 rfl rfl (WD rfl rfl rfl rfl) ?_
    |refine sa 2 ⟨rfl,rfl,rfl⟩ rfl rfl rfl ?_
    |refine TO.Dr 2 rfl rfl (WD rfl rfl rfl rfl) ?_
    |refine sa 3 ⟨rfl,rfl,rfl⟩ rfl rfl rfl ?_
    |refine TO.Dr 3 rfl rfl (WD rfl rfl rfl rfl) ?_))
  |((with_reducible refine rId ?_);first
   |with_reducible refine Tr.seq ?_
   |with_reducible refine Tr.An ?_
   |with_reducible refine Tr.skip ?_
   |with_reducible refine Tr.block ?_
   |with_reducible refine Tr.ret ?_
   |with_reducible refine Tr.exit ?_)
  |((with_reducible refine fId ?_);first
   |with_reducible refine Fin.AE ?_
   |with_reducible refine Fin.AU ?_
   |with_reducible refine Fin.Ag ?_
   |with_reducible refine Fin.BD ?_
   |refine Fin.P8 rfl ?_
   |with_reducible refine Fin.block ?_)
 first|with_reducible refine Fin.go ?_|with_reducible refine cId ?_|with_reducible refine tId ?_|with_reducible refine rId ?_|refine Fin.go ?_|skip
 exact k.k):H:=h ⟨k⟩
theorem ax {G H:Prop} (k:G) (h:jY G→H:=by
 intro k
 repeat ((with_reducible refine xId ?_);first
   |(refine xG 1 rfl ?_;first
     |(refine xK 1 rfl ?_;refine xm rfl ?_)
     |(refine xK 2 rfl ?_;refine xo rfl (fun _=>oF) ?_)
     |(refine xK 3 rfl ?_;refine xo rfl (fun _=>oL) ?_)
     |(refine xK 4 rfl ?_;refine xo rfl (fun _=>oB) ?_))
   |(refine xG 2 rfl ?_;first
     |(refine xK 5 rfl ?_;refine xo rfl (fun _=>oP) ?_)
     |(refine xK 6 rfl ?_;refine xo rfl (fun _=>oN) ?_)
     |(refine xK 7 rfl ?_;refine xo rfl (fun _=>oA) ?_)
     |(refine xK 8 rfl ?_;refine xo rfl (fun _=>oS) ?_))
   |(refine xG 3 rfl ?_;first
     |(refine xK 9 rfl ?_;refine xo rfl (fun _=>oC) ?_)
     |(refine xK 10 rfl ?_;refine xo rfl (fun _=>oU) ?_)
     |(refine xK 11 rfl ?_;refine xo rfl (fun _=>oO) ?_)
     |(refine xK 12 rfl ?_;refine xo rfl (fun _=>oE) ?_)
     |(refine xK 13 rfl ?_;refine xo rfl (fun _=>oM) ?_)
     |(refine xK 14 rfl ?_;refine xo rfl (fun _=>oD) ?_))
   |(refine xK 3 rfl ?_;first
    |refine JP 0 rfl rfl (LO rfl rfl rfl) ?_
    |refine JP 0 rfl rfl (LP rfl rfl rfl rfl) ?_
    |refine JP 1 rfl rfl (LO rfl rfl rfl) ?_
    |refine JP 1 rfl rfl (LP rfl rfl rfl rfl) ?_
    |refine JP 2 rfl rfl (LO rfl rfl rfl) ?_
    |refine JP 2 rfl rfl (LP rfl rfl rfl rfl) ?_
    |refine JP 3 rfl rfl (LO rfl rfl rfl) ?_
    |refine JP 3 rfl rfl (LP rfl rfl rfl rfl) ?_
    |refine JP 4 rfl rfl (LO rfl rfl rfl) ?_
    |refine JP 4 rfl rfl (LP rfl rfl rfl rfl) ?_))
 exact k.k):H:=h ⟨k⟩
theorem ay {G H:Prop} (k:G) (h:jY G→H:=by
 intro k
 repeat ((with_reducible refine xId ?_);first
   |(refine xG 1 rfl ?_;first
     |(refine xK 1 rfl ?_;refine xm rfl ?_)
     |(refine xK 2 rfl ?_;refine xo rfl (fun _=>oF) ?_)
     |(refine xK 3 rfl ?_;refine xo rfl (fun _=>oL) ?_)
     |(refine xK 4 rfl ?_;refine xo rfl (fun _=>oB) ?_))
   |(refine xG 2 rfl ?_;first
     |(refine xK 5 rfl ?_;refine xo rfl (fun _=>oP) ?_)
     |(refine xK 6 rfl ?_;refine xo rfl (fun _=>oN) ?_)
     |(refine xK 7 rfl ?_;refine xo rfl (fun _=>oA) ?_)
     |(refine xK 8 rfl ?_;refine xo rfl (fun _=>oS) ?_))
   |(refine xG 3 rfl ?_;first
     |(refine xK 9 rfl ?_;refine xo rfl (fun _=>oC) ?_)
     |(refine xK 10 rfl ?_;refine xo rfl (fun _=>oU) ?_)
     |(refine xK 11 rfl ?_;refine xo rfl (fun _=>oO) ?_)
     |(refine xK 12 rfl ?_;refine xo rfl (fun _=>oE) ?_)
     |(refine xK 13 rfl ?_;refine xo rfl (fun _=>oM) ?_)
     |(refine xK 14 rfl ?_;refine xo rfl (fun _=>oD) ?_))
   |(refine xK 3 rfl ?_;first
    |refine JP 0 rfl rfl (LO rfl rfl rfl) ?_
    |refine JP 0 rfl rfl (LP rfl rfl rfl rfl) ?_
    |refine JP 1 rfl rfl (LO rfl rfl rfl) ?_
    |refine JP 1 rfl rfl (LP rfl rfl rfl rfl) ?_
    |refine JP 2 rfl rfl (LO rfl rfl rfl) ?_
    |refine JP 2 rfl rfl (LP rfl rfl rfl rfl) ?_
    |refine JP 3 rfl rfl (LO rfl rfl rfl) ?_
    |refine JP 3 rfl rfl (LP rfl rfl rfl rfl) ?_
    |refine JP 4 rfl rfl (LO rfl rfl rfl) ?_
    |refine JP 4 rfl rfl (LP rfl rfl rfl rfl) ?_)
   |(refine xK 16 rfl ?_;first
    |refine Cx.Dr 0 rfl rfl (WD rfl rfl rfl rfl) ?_
    |refine Cx.Dr 1 rfl rfl (WD rfl rfl rfl rfl) ?_
    |refine Cx.Dr 2 rfl rfl (WD rfl rfl rfl rfl) ?_
    |refine Cx.Dr 3 rfl rfl (WD rfl rfl rfl rfl) ?_))
 exact k.k):H:=h ⟨k⟩
theorem Ch.cg {l:List Oper} {b v:Bool} {g j:Nat} {pt pf:Prop} [ht:Co b true pt] [hf:Co b false pf] (_:o.guard=some (j,v)) (_:(ops[j]?.bind (·.dst))=some g) (hb:E.lookup g=some (bool b)) (k:b=true→pt→Ch P n I ops (o::l) E K) (k':b=false→pf→Ch P n I ops (o::l) E K):Ch P n I ops (o::l) E K:=Ch.cases g hb (fun h=>k h (ht.C_ h)) (fun h=>k' h (hf.C_ h))
theorem a2 {G H:Prop} (k:G) (h:jY G→H:=by
 intro k
 iterate 2 refine ac ?_
 exact k.k):H:=h ⟨k⟩
theorem a3 {G H:Prop} (k:G) (h:jY G→H:=by
 intro k
 iterate 3 refine ac ?_
 exact k.k):H:=h ⟨k⟩
theorem an {G L H:Prop} (k:G) (l:L) (h:jY G→jY L→H:=by
 intro k l
 refine ac ?_
 refine Tr.cn rfl ?_ ?_
 exact k.k
 exact l.k):H:=h ⟨k⟩ ⟨l⟩
theorem ag {G L H:Prop} (k:G) (l:L) (h:jY G→jY L→H:=by
 intro k l
 refine ac ?_
 refine Ch.cg rfl rfl rfl ?_ ?_
 exact k.k
 exact l.k):H:=h ⟨k⟩ ⟨l⟩
theorem Lr {p:Pr}:Pr.le p p:=Pr.le_refl p
theorem Vo {p:Pr} [One p] (h:Cw E x=some p):VL E x (DC [p]):=VL.le (vl h) (Aa p)
theorem Va {ps:List Pr} (h:Cw E x=some (agg ps)):VL E x (DC ps):=VL.le (vl h) (Ac ps)
theorem Nb {a b:Nat} (h:Nat.ble a b=true):a≤b:=Nat.le_of_ble_eq_true h
theorem Kf {z:Nat} {l:List (List Pr)} (h:Cw E x=some (full z l)):VL E x (slice z l):=⟨_,h,B0 z l⟩
theorem Ka {v:Value} (h:Cw E x=some (Af v p)):VL E x (is v):=⟨_,h,FP v p⟩
theorem Kb {v:Value} (h:Cw E x=some (Af v p)):VL E x p:=⟨_,h,At v p⟩
theorem N0 {p:Pr} [One p] (h:Cw E x=some p:=by exact rfl):VL E x (DC [p]):=Vo h
theorem Cm {ps:List Pr} (h:Cw E x=some (agg ps):=by exact rfl):VL E x (DC ps):=Va h
theorem GH {z:Nat} {l:List (List Pr)} (h:Cw E x=some (full z l):=by exact rfl):VL E x (slice z l):=Kf h
theorem Kl {v:Value} (h:Cw E x=some (Af v p):=by exact rfl):VL E x (is v):=Ka h
theorem H_ {v:Value} (h:Cw E x=some (Af v p):=by exact rfl):VL E x p:=Kb h
theorem Tl {M0:Av} {w0:World} {S:Nat→Prop} {rs:List As} {T:TypeId} {zs:List Value} (hg:o.guard=none) (hd:o.dst=some d) (hn:Nat.blt d n=true) (ho:o.op= .alloc T) (hz:BX P T=some zs) (h1':zs.all (·.oneCell')=true)
  (k:∀b,TO P n ops r ((d,is (.pointer (some ⟨b,0,none⟩)))::E) (Hp M0 w0 S (AF true b T (zs.map is)::rs)) Q):TO P n ops (o::r) E (Hp M0 w0 S rs) Q:=TO.alloc hg hd (HV hn) ho hz h1' k
theorem B4 {M0:Av} {w0:World} {S:Nat→Prop} {t e:TypeId} {sz bytes:Nat} {zs:List Value} {rows rows':List (List Pr)} {R:SR} (hg:o.guard=none) (hd:o.dst=some d) (hn:Nat.blt d n=true) (ho:o.op= .call { callee:= .builtin .append,args:= #[x,y],argTypes:= #[t,t] })
  (ht:P.underlying t=some (.slice e)) (hz:A9 P e=some sz) (hby:Bu P e=some bytes) (E_:BX P e=some zs) (hx:VL E x (slice sz rows)) (hy:VL E y (slice sz rows'))
  (hR:∀M w (a:Act),CZ M w E o a→R.at_ a=Au e sz (a.eval x)∨(R.at_ a=Bq∧DW (a.eval x)=none)) (hzl:zs.length=sz:=by rfl) (hsz:Nat.blt 0 sz=true:=by rfl)
  (Gp:rows.length+rows'.length≤maxLen:=by simp only [List.length_map,List.length_append,List.length_cons,List.length_nil,List.length_replicate,List.length_take,List.length_drop];unfold maxLen;omega) (hfit:(rows.length+rows'.length)*bytes≤140737488355328:=by simp only [List.length_map,List.length_append,List.length_cons,List.length_nil,List.length_replicate,List.length_take,List.length_drop];omega):De P M0 w0 S n j R ⟨d,Au e sz⟩ o E (slice sz (rows++rows')):=EL hg hd (HV hn) ho ht hz hby E_ hzl (HV hsz) hx hy Gp hfit hR
end
end Cp
namespace Go.Proofs.YtmocaapoeefgkaaGreatDoor
open Go Cp
instance AB2:TM Tryz.prog:=⟨mixed⟩
instance AFU:TV Tryz.prog 3 [.int .i64 0]:=⟨z3,zo3⟩
instance ADg:T1 Tryz.prog 3:=⟨DF⟩
instance AE3:TZ Tryz.prog 3 1:=⟨CH⟩
instance ADh:T1 Tryz.prog 4:=⟨Vu⟩
instance AE4:TZ Tryz.prog 4 1:=⟨VO⟩
instance nX:TU Tryz.prog 4 .bool:=⟨Tryz.underlying4⟩
instance AFV:TV Tryz.prog 5 [.int .u8 0]:=⟨z5,zo5⟩
instance ADi:T1 Tryz.prog 5:=⟨yh⟩
instance AE5:TZ Tryz.prog 5 1:=⟨Mp⟩
instance AFW:TV Tryz.prog 9 [.string (ByteArray.mk #[])]:=⟨z9,zo9⟩
instance ADj:T1 Tryz.prog 9:=⟨OM⟩
instance AE6:TZ Tryz.prog 9 1:=⟨MF⟩
instance nY:TU Tryz.prog 9 .string:=⟨Tryz.underlying9⟩
instance AB3:T1 Tryz.prog 22:=⟨Sc⟩
instance ADk:TZ Tryz.prog 22 1:=⟨NF⟩
instance jZ:TU Tryz.prog 22 (.slice 3):=⟨Tryz.underlying22⟩
instance AB4:T1 Tryz.prog 27:=⟨MG⟩
instance jc:TU Tryz.prog 27 (.slice 40):=⟨Tryz.underlying27⟩
instance AB5:T1 Tryz.prog 28:=⟨aV⟩
instance jd:TU Tryz.prog 28 (.slice 132):=⟨Tryz.underlying28⟩
instance AB6:T1 Tryz.prog 29:=⟨i_⟩
instance je:TU Tryz.prog 29 (.slice 135):=⟨Tryz.underlying29⟩
instance ADl:TB Tryz.prog 31 (fun i=>(#[(0,1),(1,1),(2,1)]:Array (Nat×Nat))[i]?) (List.replicate 3 (.slice none 0 0)):=⟨yl,Ht⟩
instance AB7:TA Tryz.prog 31:=⟨DR⟩
instance ADm:TZ Tryz.prog 31 3:=⟨DP⟩
instance zm:TF Tryz.prog 31 0 0:=⟨GS⟩
instance zn:TF Tryz.prog 31 1 1:=⟨NG⟩
instance zo:TF Tryz.prog 31 2 2:=⟨NH⟩
instance AB8:T1 Tryz.prog 32:=⟨yp⟩
instance jf:TU Tryz.prog 32 (.slice 86):=⟨Tryz.underlying32⟩
instance AB9:T1 Tryz.prog 33:=⟨yq⟩
instance jg:TU Tryz.prog 33 (.slice 61):=⟨Tryz.underlying33⟩
instance ADn:TB Tryz.prog 35 (fun i=>(#[(0,1),(1,1),(2,1)]:Array (Nat×Nat))[i]?) (List.replicate 3 (.slice none 0 0)):=⟨LJ,Eu⟩
instance AB_:TA Tryz.prog 35:=⟨Ct⟩
instance ADo:TZ Tryz.prog 35 3:=⟨CI⟩
instance zq:TF Tryz.prog 35 0 0:=⟨YB⟩
instance zu:TF Tryz.prog 35 1 1:=⟨uU⟩
instance zv:TF Tryz.prog 35 2 2:=⟨YC⟩
instance ACA:T1 Tryz.prog 38:=⟨sy⟩
instance ADp:TZ Tryz.prog 38 1:=⟨jA⟩
instance jh:TU Tryz.prog 38 (.slice 84):=⟨Tryz.underlying38⟩
instance ADq:TB Tryz.prog 40 (fun i=>(#[(0,1),(1,1),(2,1),(3,1),(4,1),(5,1),(6,1),(7,1),(8,1)]:Array (Nat×Nat))[i]?) [.string (ByteArray.mk #[]),.int .i64 0,.int .i64 0,.slice none 0 0,.bool false,.slice none 0 0,.slice none 0 0,.slice none 0 0,.bool false]:=⟨om,IU⟩
instance ACB:TA Tryz.prog 40:=⟨Cj⟩
instance ADr:TZ Tryz.prog 40 9:=⟨CF⟩
instance zw:TF Tryz.prog 40 0 0:=⟨jB⟩
instance zx:TF Tryz.prog 40 1 1:=⟨uW⟩
instance zy:TF Tryz.prog 40 2 2:=⟨YD⟩
instance zz:TF Tryz.prog 40 3 3:=⟨NI⟩
instance z7:TF Tryz.prog 40 4 4:=⟨uX⟩
instance z8:TF Tryz.prog 40 5 5:=⟨QM⟩
instance z_:TF Tryz.prog 40 6 6:=⟨jC⟩
instance AAA:TF Tryz.prog 40 7 7:=⟨jD⟩
instance AAB:TF Tryz.prog 40 8 8:=⟨uY⟩
instance ADs:TB Tryz.prog 42 (fun i=>(#[(0,3),(3,1),(4,1),(5,1),(6,1)]:Array (Nat×Nat))[i]?) [.slice none 0 0,.slice none 0 0,.slice none 0 0,.int .i64 0,.slice none 0 0,.slice none 0 0,.bool false]:=⟨oo,Gd⟩
instance ACC:TA Tryz.prog 42:=⟨EG⟩
instance ADt:TZ Tryz.prog 42 7:=⟨EO⟩
instance AAC:TF Tryz.prog 42 0 0:=⟨uZ⟩
instance AAD:TF Tryz.prog 42 1 3:=⟨YE⟩
instance AAE:TF Tryz.prog 42 2 4:=⟨uc⟩
instance AAF:TF Tryz.prog 42 3 5:=⟨ud⟩
instance AAG:TF Tryz.prog 42 4 6:=⟨YF⟩
instance ACD:T1 Tryz.prog 43:=⟨yt⟩
instance AE7:TV Tryz.prog 51 [.slice none 0 0]:=⟨z51,yu⟩
instance ACE:T1 Tryz.prog 51:=⟨aW⟩
instance ADu:TZ Tryz.prog 51 1:=⟨Ge⟩
instance ji:TU Tryz.prog 51 (.slice 3):=⟨Tryz.underlying51⟩
instance ADv:TB Tryz.prog 61 (fun i=>(#[(0,1),(1,1)]:Array (Nat×Nat))[i]?) (List.replicate 2 (.int .i64 0)):=⟨yw,QN⟩
instance AE8:TV Tryz.prog 61 (List.replicate 2 (.int .i64 0)):=⟨Rs,QN⟩
instance ACF:TA Tryz.prog 61:=⟨FB⟩
instance ADw:TZ Tryz.prog 61 2:=⟨Cg⟩
instance AAH:TF Tryz.prog 61 0 0:=⟨YG⟩
instance AAI:TF Tryz.prog 61 1 1:=⟨YH⟩
instance ACG:T1 Tryz.prog 75:=⟨yx⟩
instance jj:TU Tryz.prog 75 (.slice 141):=⟨Tryz.underlying75⟩
instance ACH:TA Tryz.prog 77:=⟨Nw⟩
instance ADx:TZ Tryz.prog 77 3:=⟨Vw⟩
instance AAJ:TF Tryz.prog 77 0 0:=⟨uf⟩
instance AAK:TF Tryz.prog 77 1 1:=⟨ug⟩
instance AAL:TF Tryz.prog 77 2 2:=⟨uh⟩
instance ADy:TB Tryz.prog 81 (fun i=>(#[(0,1),(1,1)]:Array (Nat×Nat))[i]?) (List.replicate 2 (.int .i64 0)):=⟨uj,EP⟩
instance AE9:TV Tryz.prog 81 (List.replicate 2 (.int .i64 0)):=⟨KI,EP⟩
instance ACI:TA Tryz.prog 81:=⟨I5⟩
instance ADz:TZ Tryz.prog 81 2:=⟨Kj⟩
instance AAM:TF Tryz.prog 81 0 0:=⟨uk⟩
instance AAN:TF Tryz.prog 81 1 1:=⟨um⟩
instance ACJ:T1 Tryz.prog 82:=⟨y5⟩
instance AD0:TZ Tryz.prog 82 1:=⟨yz⟩
instance jk:TU Tryz.prog 82 (.slice 189):=⟨Tryz.underlying82⟩
instance AD1:TB Tryz.prog 84 (fun i=>(#[(0,2),(2,1),(3,1)]:Array (Nat×Nat))[i]?) [.int .i64 0,.int .i64 0,.int .i64 0,.slice none 0 0]:=⟨y7,R4⟩
instance ACK:TA Tryz.prog 84:=⟨Sd⟩
instance AD2:TZ Tryz.prog 84 4:=⟨E6⟩
instance AAO:TF Tryz.prog 84 0 0:=⟨uo⟩
instance AAP:TF Tryz.prog 84 1 2:=⟨uq⟩
instance AAQ:TF Tryz.prog 84 2 3:=⟨jE⟩
instance ACL:TA Tryz.prog 86:=⟨GY⟩
instance AD3:TZ Tryz.prog 86 8:=⟨C9⟩
instance AAR:TF Tryz.prog 86 0 0:=⟨ur⟩
instance AAS:TF Tryz.prog 86 1 1:=⟨uu⟩
instance AAT:TF Tryz.prog 86 2 2:=⟨uv⟩
instance AAU:TF Tryz.prog 86 3 3:=⟨uw⟩
instance AAV:TF Tryz.prog 86 4 4:=⟨ux⟩
instance AE_:TV Tryz.prog 99 [.slice none 0 0]:=⟨z99,ADF⟩
instance ACN:T1 Tryz.prog 99:=⟨y8⟩
instance AD4:TZ Tryz.prog 99 1:=⟨oq⟩
instance jl:TU Tryz.prog 99 (.slice 51):=⟨Tryz.underlying99⟩
instance ACO:TB Tryz.prog 104 (fun i=>(#[(0,1),(1,1)]:Array (Nat×Nat))[i]?) [.slice none 0 0,.int .i64 0]:=⟨y9,y_⟩
instance xJ:TF Tryz.prog 104 0 0:=⟨ot⟩
instance xL:TF Tryz.prog 104 1 1:=⟨ow⟩
instance AAW:T1 Tryz.prog 105:=⟨uy⟩
instance gM:TU Tryz.prog 105 (.slice 270):=⟨Tryz.underlying105⟩
instance ACP:TB Tryz.prog 107 (fun i=>(#[(0,1)]:Array (Nat×Nat))[i]?) [.slice none 0 0]:=⟨I6,EW⟩
instance AAX:TA Tryz.prog 107:=⟨CN⟩
instance ACQ:TZ Tryz.prog 107 1:=⟨Bj⟩
instance xM:TF Tryz.prog 107 0 0:=⟨aX⟩
instance AAY:T1 Tryz.prog 111:=⟨YJ⟩
instance AAZ:TA Tryz.prog 114:=⟨NJ⟩
instance ACR:TZ Tryz.prog 114 2:=⟨Se⟩
instance xN:TF Tryz.prog 114 0 0:=⟨UG⟩
instance AAa:TA Tryz.prog 116:=⟨QO⟩
instance ACS:TZ Tryz.prog 116 2:=⟨Vx⟩
instance AAb:T1 Tryz.prog 127:=⟨uz⟩
instance ACT:TZ Tryz.prog 127 1:=⟨s7⟩
instance gN:TU Tryz.prog 127 (.slice 9):=⟨Tryz.underlying127⟩
instance gO:TU Tryz.prog 128 (.slice 22):=⟨Tryz.underlying128⟩
instance AAc:TA Tryz.prog 132:=⟨QS⟩
instance ACU:TZ Tryz.prog 132 2:=⟨Eh⟩
instance xO:TF Tryz.prog 132 0 0:=⟨ox⟩
instance xP:TF Tryz.prog 132 1 1:=⟨oy⟩
instance AAd:T1 Tryz.prog 133:=⟨u5⟩
instance gP:TU Tryz.prog 133 (.slice 198):=⟨Tryz.underlying133⟩
instance ACV:TB Tryz.prog 135 (fun i=>(#[(0,1),(1,1),(2,1),(3,1),(4,1)]:Array (Nat×Nat))[i]?) [.string (ByteArray.mk #[]),.int .i64 0,.int .i64 0,.slice none 0 0,.int .i64 0]:=⟨zF,Vz⟩
instance AD5:TV Tryz.prog 135 [.string (ByteArray.mk #[]),.int .i64 0,.int .i64 0,.slice none 0 0,.int .i64 0]:=⟨UI,Vz⟩
instance AAe:TA Tryz.prog 135:=⟨UH⟩
instance ACW:TZ Tryz.prog 135 5:=⟨HM⟩
instance xQ:TF Tryz.prog 135 0 0:=⟨oz⟩
instance xR:TF Tryz.prog 135 1 1:=⟨o9⟩
instance xS:TF Tryz.prog 135 2 2:=⟨o_⟩
instance xT:TF Tryz.prog 135 3 3:=⟨UJ⟩
instance xU:TF Tryz.prog 135 4 4:=⟨pE⟩
instance ACX:TB Tryz.prog 139 (fun i=>(#[(0,1),(1,1)]:Array (Nat×Nat))[i]?) (List.replicate 2 (.int .i64 0)):=⟨zG,zH⟩
instance xV:TF Tryz.prog 139 0 0:=⟨pF⟩
instance xW:TF Tryz.prog 139 1 1:=⟨pG⟩
instance AD6:TV Tryz.prog 141 [.int .i64 0,.int .i64 0,.slice none 0 0]:=⟨z141,QU⟩
instance ACY:TZ Tryz.prog 141 3:=⟨Hu⟩
instance xX:TF Tryz.prog 141 0 0:=⟨pH⟩
instance xY:TF Tryz.prog 141 1 2:=⟨pI⟩
instance gQ:TU Tryz.prog 143 (.slice 81):=⟨Tryz.underlying143⟩
instance AAf:T1 Tryz.prog 160:=⟨u6⟩
instance AAg:T1 Tryz.prog 181:=⟨ER⟩
instance AAh:TA Tryz.prog 187:=⟨u9⟩
instance ACZ:TZ Tryz.prog 187 2:=⟨jH⟩
instance xZ:TF Tryz.prog 187 0 0:=⟨pJ⟩
instance xd:TF Tryz.prog 187 1 1:=⟨pK⟩
instance AD7:TV Tryz.prog 189 [.int .i64 0,.string (ByteArray.mk #[]),.string (ByteArray.mk #[]),.int .i64 0,.int .i64 0,.int .i64 0,.int .i64 0,.int .i64 0,.int .i64 0,.int .i64 0,.bool false,.int .i64 0,.slice none 0 0,.int .i64 0,.int .i64 0]:=⟨QV,Kw⟩
instance AAi:TA Tryz.prog 189:=⟨Fv⟩
instance ACa:TZ Tryz.prog 189 15:=⟨C3⟩
instance xe:TF Tryz.prog 189 0 0:=⟨pL⟩
instance xg:TF Tryz.prog 189 1 1:=⟨pM⟩
instance vI:TF Tryz.prog 189 10 12:=⟨V0⟩
instance vJ:TF Tryz.prog 189 11 13:=⟨QW⟩
instance xh:TF Tryz.prog 189 2 2:=⟨pN⟩
instance xj:TF Tryz.prog 189 3 3:=⟨pO⟩
instance xl:TF Tryz.prog 189 4 5:=⟨pP⟩
instance xp:TF Tryz.prog 189 5 6:=⟨pQ⟩
instance xq:TF Tryz.prog 189 6 8:=⟨pR⟩
instance xu:TF Tryz.prog 189 7 9:=⟨pS⟩
instance xw:TF Tryz.prog 189 8 10:=⟨pT⟩
instance xx:TF Tryz.prog 189 9 11:=⟨pU⟩
instance ACb:TB Tryz.prog 198 (fun i=>(#[(0,2),(2,1)]:Array (Nat×Nat))[i]?) (List.replicate 3 (.int .i64 0)):=⟨zO,tH⟩
instance AD8:TV Tryz.prog 198 (List.replicate 3 (.int .i64 0)):=⟨z198,tH⟩
instance ACc:TZ Tryz.prog 198 3:=⟨Ja⟩
instance xy:TF Tryz.prog 198 0 0:=⟨pV⟩
instance xz:TF Tryz.prog 198 1 2:=⟨pW⟩
instance AAj:T1 Tryz.prog 232:=⟨IW⟩
instance gR:TU Tryz.prog 232 (.slice 181):=⟨Tryz.underlying232⟩
instance x5:TF Tryz.prog 234 0 0:=⟨pX⟩
instance x6:TF Tryz.prog 234 1 1:=⟨IX⟩
instance AAk:T1 Tryz.prog 241:=⟨jI⟩
instance gS:TU Tryz.prog 241 (.slice 5):=⟨Tryz.underlying241⟩
instance ACd:TB Tryz.prog 247 (fun i=>(#[(0,1),(1,1),(2,2),(4,2),(6,2),(8,2),(10,1),(11,1)]:Array (Nat×Nat))[i]?) [.int .i64 0,.string (ByteArray.mk #[]),.int .i64 0,.int .i64 0,.int .i64 0,.int .i64 0,.int .i64 0,.int .i64 0,.int .i64 0,.int .i64 0,.int .i64 0,.int .i64 0]:=⟨V1,Hv⟩
instance AAl:TA Tryz.prog 247:=⟨IY⟩
instance ACe:TZ Tryz.prog 247 12:=⟨Ff⟩
instance x7:TF Tryz.prog 247 2 2:=⟨pY⟩
instance x8:TF Tryz.prog 247 3 4:=⟨pZ⟩
instance yA:TF Tryz.prog 247 4 6:=⟨pg⟩
instance yB:TF Tryz.prog 247 5 8:=⟨pq⟩
instance yC:TF Tryz.prog 247 6 10:=⟨pz⟩
instance yD:TF Tryz.prog 247 7 11:=⟨p_⟩
instance ACf:TB Tryz.prog 268 (fun i=>(#[(0,1),(1,1)]:Array (Nat×Nat))[i]?) (List.replicate 2 (.int .i64 0)):=⟨Sf,FU⟩
instance AD9:TV Tryz.prog 268 (List.replicate 2 (.int .i64 0)):=⟨JJ,FU⟩
instance AAm:TA Tryz.prog 268:=⟨Cq⟩
instance ACg:TZ Tryz.prog 268 2:=⟨B_⟩
instance yE:TF Tryz.prog 268 1 1:=⟨qA⟩
instance ACh:TB Tryz.prog 270 (fun i=>(#[(0,1),(1,1),(2,2)]:Array (Nat×Nat))[i]?) [.int .i64 0,.slice none 0 0,.int .i64 0,.int .i64 0]:=⟨af,QX⟩
instance AD_:TV Tryz.prog 270 [.int .i64 0,.slice none 0 0,.int .i64 0,.int .i64 0]:=⟨qB,QX⟩
instance ACi:TZ Tryz.prog 270 4:=⟨Fg⟩
instance gT:TU Tryz.prog 274 (.slice 99):=⟨Tryz.underlying274⟩
instance AAn:T1 Tryz.prog 283:=⟨UK⟩
instance ACj:TB Tryz.prog 285 (fun i=>(#[(0,1),(1,1),(2,1),(3,1)]:Array (Nat×Nat))[i]?) [.int .i64 0,.slice none 0 0,.bool false,.slice none 0 0]:=⟨jJ,Kx⟩
instance AAo:TA Tryz.prog 285:=⟨DG⟩
instance ACk:TZ Tryz.prog 285 4:=⟨Cc⟩
instance yF:TF Tryz.prog 285 0 0:=⟨qC⟩
instance yG:TF Tryz.prog 285 1 1:=⟨UL⟩
instance yH:TF Tryz.prog 285 2 2:=⟨qD⟩
instance yI:TF Tryz.prog 285 3 3:=⟨MH⟩
instance ACl:TB Tryz.prog 290 (fun i=>(#[(0,1),(1,1)]:Array (Nat×Nat))[i]?) [.string (ByteArray.mk #[]),.int .i64 0]:=⟨zU,tL⟩
instance AEA:TV Tryz.prog 290 [.string (ByteArray.mk #[]),.int .i64 0]:=⟨ADH,tL⟩
instance ACm:TZ Tryz.prog 290 2:=⟨tJ⟩
instance yJ:TF Tryz.prog 290 1 1:=⟨qE⟩
instance gU:TU Tryz.prog 291 (.slice 290):=⟨Tryz.underlying291⟩
instance gV:TU Tryz.prog 331 (.slice 268):=⟨Tryz.underlying331⟩
end Go.Proofs.YtmocaapoeefgkaaGreatDoor
namespace Go.Proofs.YtmocaapoeefgkaaGreatDoor
open Go Go.RowKit Cp Go.Proofs.Tryz
abbrev ints (l:List Int):Pr:=slice 1 (l.map fun n=>[int n])
def idx {β:Type} (p:β→Bool) (l:List β):Int:=match l.findIdx? p with|some i=>i|none=> -1
theorem E9 {β:Type} {p:β→Bool} {l:List β} {k:Nat} {x:β} (hx:l[k]? =some x) (hp:p x=true) (h:∀j y,j<k→l[j]? =some y→p y=false):(k:Int)=idx p l:=by
 have:l.findIdx? p=some k:=by
  rw [List.findIdx?_eq_some_iff_getElem]
  have hk:k<l.length:=by rcases Nat.lt_or_ge k l.length with h|h;exact h;rw [List.getElem?_eq_none h] at hx;cases hx
  rw [List.getElem?_eq_getElem hk] at hx
  simp only [Option.some.injEq] at hx
  refine ⟨hk,by rw [hx];exact hp,fun j hj=> ?_⟩
  simpa using h j _ hj (List.getElem?_eq_getElem AA)
 unfold idx;rw [this]
theorem Gz {β:Type} {p:β→Bool} {l:List β} (h:∀j y,j<l.length→l[j]? =some y→p y=false):(-1:Int)=idx p l:=by
 have:l.findIdx? p=none:=by
  rw [List.findIdx?_eq_none_iff]
  intro x hx
  obtain ⟨j,hj,rfl⟩:=List.mem_iff_getElem.1 hx
  exact h j _ hj (List.getElem?_eq_getElem hj)
 unfold idx;rw [this]
theorem UW {β:Type} (p:β→Bool) (l:List β):decide (idx p l≥0)=l.any p:=by
 unfold idx
 cases h:l.findIdx? p with
 |none=>rw [List.findIdx?_eq_none_iff] at h;simp;intro x hx;simpa using h x hx
 |some i=>
  rw [List.findIdx?_eq_some_iff_getElem] at h
  obtain ⟨h1,h2,_⟩:=h
  simp
  exact ⟨_,List.getElem_mem h1,h2⟩
theorem ED {β:Type} {p:β→Bool} {l:List β} {k:Nat} {x:β} (hx:l[k]? =some x) (hp:p x=false) (h:∀j y,j<k→l[j]? =some y→p y=false):∀j y,j<k+1→l[j]? =some y→p y=false:=by
 intro j y hj hy
 by_cases hjk:j=k
 · subst hjk;rw [hx] at hy;cases hy;exact hp
 · exact h j y AA hy
theorem UX {l:List Int} {p:Int→Bool}  :BC prog 145 [ints l,clo prog (fun x:Int=>[int x]) (fun x=>bool (p x))] (int (idx p l)):=by
 refine fo func145 rfl ⟨rfl,rfl⟩ fun M0 w0=>(Tr.Cf 0 rfl fun EH=> ?_)
 refine a2 ?_
 refine Tr.block (Tr.BE _ (kk [7,1,0] rfl) (fun k:Nat=>[(8,int ((k:Nat):Int))]) (fun k:Nat=>k≤(l).length∧(∀j y,j<k→l[j]? =some y→p y=false)) (fun k:Nat=>(l).length-k) 0 (⟨Nat.zero_le _,fun j y hj=>absurd hj AA⟩) kz ?_)
 rintro k ⟨BV,AZ⟩
 refine ac ?_
 refine Tr.seq ?_
 refine Tr.cn rfl ?_ ?_<;>intro h1 q1
 have Ai:k<(l).length:=AH h1
 obtain ⟨x,Ah⟩:=at_ Ai
 · repeat' first|exact int_eq (E9 Ah Bt AZ)|exact Fin.AP (k+1) ⟨⟨Ai,ED Ah Bt AZ⟩,by omega⟩ ⟨⟨_,rfl,AG k⟩,kz⟩|refine co rfl (AD rfl underlying22 CH vq vq AA CL) ?_|refine co rfl (GX rfl DF rfl) (co rfl (VR x rfl vq kz) ?_)|refine ac ?_|(refine Tr.cn rfl ?_ ?_<;>intro h q)
 have BL:k=(l).length:=by have:=AJ h1;omega
 subst BL
 refine a3 ?_
 · exact int_eq (Gz AZ)
theorem I8 {l:List Int} {p:Int→Bool}  :BC prog 84 [ints l,clo prog (fun x:Int=>[int x]) (fun x=>bool (p x))] (bool (l.any p)):=by
 refine fo func84 rfl ⟨rfl,rfl⟩ fun M0 w0=> ?_
 refine a2 ?_
 refine co rfl (CK (UX) rfl rfl rfl) ?_
 refine a2 ?_
 · exact bool_eq (UW p l)
end Go.Proofs.YtmocaapoeefgkaaGreatDoor
namespace Go.Proofs.YtmocaapoeefgkaaGreatDoor
open Go Go.RowKit Cp Go.ChangeShapes Go.WideShapes Go.ChangeAt Go.Proofs.Tryz
theorem AEB:ownKnob Tryz.prog.godebug=none:=by kernel_rfl
theorem jm:laidOutB Tryz.prog=true:=by kernel_rfl
theorem i64_in {n:Int} (h:(Lit.int .i64 n).wf=true):OK n:=by
 simp only [Lit.wf,Bool.and_eq_true,decide_eq_true_eq] at h
 have h1:IntKind.i64.min= -9223372036854775808:=rfl
 have h2:IntKind.i64.max=9223372036854775807:=rfl
 unfold OK;omega
theorem YQ {P:Program} {t e:TypeId} (ht:P.underlying t=some (.slice e)) (he:P.underlying e=some (.int .i64)) (hc:P.cellsOf e=1):MB P t (fun l:List Int=>l.length≤maxLen∧∀n∈l,OK n) (fun l=>[ints l]):=
 (Vn ht hc (dL he)).map id (fun _ h=>⟨h.2,fun n hn=>i64_in (h.1 n hn)⟩) (fun _=>rfl)
end Go.Proofs.YtmocaapoeefgkaaGreatDoor
namespace Go.Proofs.YtmocaapoeefgkaaGreatDoor
open Go Go.RowKit Cp Go.Proofs.Tryz
abbrev DT (b:Nat) (s:DS):As:=Vq 104 b s
theorem qN (n:Int) {k:Int} (hk:1≤k):(n.tmod k+k).tmod k=n % k:=by
 have h1: -k<n.tmod k:=by have:=Int.lt_tmod_of_pos n (b:=k) AA;omega
 rw [Int.tmod_eq_emod_of_nonneg AA,Int.tmod_def,show n-k*n.tdiv k+k=n+k*(1-n.tdiv k) by rw [Int.mul_sub];omega,Int.add_mul_emod_self_left]
theorem vK (n:Int) {k:Int} (hk:1≤k): -k<n.tmod k∧n.tmod k<k:=by
 have h1:=Int.lt_tmod_of_pos n (b:=k) AA
 have h2:=Int.tmod_lt_of_pos n (b:=k) AA
 omega
theorem qO {l:List Int}  :BC prog 10 [ints l] (bool (decide (l.length≤400))):=by
 refine fo func10 rfl ⟨rfl,rfl⟩ fun M0 w0=> ?_
 refine a3 ?_
 · exact Oi
theorem AAp {n k:Int} (hk:1≤k) (hk2:k≤1000000000):BC prog 68 [int n,int k] (int (n % k)):=by
 refine fo func68 rfl ⟨rfl,rfl⟩ fun M0 w0=> ?_
 have hm:=vK n hk
 have hp:=qN n hk
 · repeat' first|(exfalso;omega)|(refine int_eq ?_;exact hp)|refine co rfl (T4 rfl vq vq AA) ?_|refine ac ?_|(refine Tr.cn rfl ?_ ?_<;>intro h q)
theorem CX {b:Nat} {s:DS} {n:Int} (hn:1≤n) (hn2:n≤1000000000):Be prog 16 [ptr b 0,int n] (int (s.val n)) (DT b s) (fun _=>DT b s.Ca):=by
 refine Be.of func16 rfl rfl Ao fun M0 w0 S rs M1 w1=> ?_
 have hs:=s.h
 have UY:=s.h2
 refine ac ?_
 refine an ?_ ?_<;>intro h1 q1
 refine ac ?_
 refine Tr.ret (Fin.AE ?_)
 rw [DS.oh (s:=s) AA]
 refine Fin.GG [] rfl (AO.tmp rfl Lr) ?_ (fun _ _ _ _=>rfl)
 · refine int_eq ?_;exact (DS.og AA n).symm
 have hlt:s.at_<s.l.length:=by omega
 obtain ⟨x,hx⟩:=at_ hlt
 refine ac ?_
 refine ap ?_
 refine wk [1,0] rfl ?_
 refine ac ?_
 refine co rfl (AD rfl underlying22 CH vq vq AA (by rw [show ((s.at_:Nat):Int)+1-1=((s.at_:Nat):Int) by omega];exact AX hx)) ?_
 refine ac ?_
 refine co rfl (CK (AAp AA AA) rfl rfl rfl) ?_
 refine ac ?_
 refine wk [4] rfl (Tr.ret ?_)
 rw [DS.uR hlt]
 refine Fin.GG [] rfl (AO.tmp rfl Lr) ?_ (fun _ _ _ _=>rfl)
 · refine int_eq ?_;exact (DS.uQ hx n).symm
theorem WE {b:Nat} {s:DS} {l:List Int} (hl:l≠[]) (hl2:l.length≤1000000000):Be prog 34 [ptr b 0,ints l] (int (s.of l)) (DT b s) (fun _=>DT b s.Ca):=by
 refine Be.of func34 rfl rfl Ao fun M0 w0 S rs M1 w1=> ?_
 have hl0:1≤(l.length:Int):=by have:=List.length_pos_iff.2 hl;omega
 have hv:=s.C5 hl0
 obtain ⟨x,hx⟩:=at_ (l:=l) (k:=(s.val l.length).toNat) AA
 refine ac ?_
 refine ap ?_
 refine TO.IK 0 rfl rfl AB (Aq rfl rfl AB rfl (CX AA AA) ⟨kq,kz⟩) (tp rfl (AD rfl underlying22 CH vq vq AA (Bm hx)) ?_)
 refine ap ?_
 refine Tr.ret (Fin.GG [] rfl (AO.tmp rfl Lr) ?_ (fun _ _ _ _=>rfl))
 · refine int_eq ?_;unfold DS.of;rw [hx];rfl
theorem jo {b:Nat} {s:DS} {n:Int} (hn:1≤n) (hn2:n≤1000000000):Be prog 39 [ptr b 0,int n] (bool (s.val n==n-1)) (DT b s) (fun _=>DT b s.Ca):=by
 refine Be.of func39 rfl rfl Ao fun M0 w0 S rs M1 w1=> ?_
 refine ac ?_
 refine ap ?_
 refine TO.IK 0 rfl rfl AB (Aq rfl rfl AB rfl (CX AA AA) ⟨kq,kz⟩) ?_
 refine ap ?_
 refine Tr.ret (Fin.GG [] rfl (AO.tmp rfl Lr) ?_ (fun _ _ _ _=>rfl))
 · exact Lr
def qP (l:List Int) (hl:l.length≤1000000000) (v:Value):As:=match v with| .pointer (some a)=>Vq 104 a.block ⟨l,0,Nat.zero_le _,hl⟩|_=>Bq
theorem vL {l:List Int} (hl:l.length≤1000000000):Be prog 12 [ints l] (ex fun b=>ptr b 0) (Bq) (qP l hl):=by
 refine Be.of func12 rfl rfl Ao fun M0 w0 S rs M1 w1=> ?_
 refine ac ?_
 refine ap ?_
 refine TO.Vi rfl rfl AB rfl Cm (fun b1=> ?_)
 refine ap ?_
 refine Tr.ret (Fin.drop 1 ?_)
 refine Fin.GG [] rfl (AO.tmp rfl Lr) ?_ (by rintro _ _ _ rfl;rfl)
 · exact Aw b1 Lr
-- no type cipherplan/api.Fact here
-- no type cipherplan/api.ACn here
-- no type cipherplan/AFA.place here
theorem tT {d:Nat} {w:World} {x0 y0:Int} {x1 y1:Int}:(Op.equalIn (d+2) 81 (.agg #[.int .i64 x0,.int .i64 x1]) (.agg #[.int .i64 y0,.int .i64 y1])).run Tryz.prog w= .ok (decide (x0=y0∧x1=y1)) w:=by
 have h:=eqS (w:=w) (d:=d+1) (xs:= #[.int .i64 x0,.int .i64 x1]) (ys:= #[.int .i64 y0,.int .i64 y1]) Tryz.underlying81 BS (Ev AB (CA DF rfl) (CA DF rfl) (F8 (d:=d+0) Tryz.underlying3) (Ev AB (CA DF rfl) (CA DF rfl) (F8 (d:=d+0) Tryz.underlying3) (MK)))
 refine h.trans (congrArg (fun b=>Result.ok b w) ?_)
 rw [Bool.eq_iff_iff];simp [and_assoc]
theorem Oy {E:Env} {I:Cb} {o:Oper} {u:TypeId} {x y:Operand} {x0 y0:Int} {x1 y1:Int} (ho:o.op= .binOp .eql 81 x y u) (hx:VL E x (agg [is (.int .i64 x0),is (.int .i64 x1)])) (hy:VL E y (agg [is (.int .i64 y0),is (.int .i64 y1)])):Ad Tryz.prog I o E (bool (decide (x0=y0∧x1=y1))):=
 MI [.int .i64 x0,.int .i64 x1] [.int .i64 y0,.int .i64 y1] ho hx hy BS (fun w=>by rw [show Op.equal 81 _ _=Op.equalIn (9998+2) 81 _ _ from rfl];exact tT)
theorem Oz {E:Env} {I:Cb} {o:Oper} {u:TypeId} {x y:Operand} {x0 y0:Int} {x1 y1:Int} (ho:o.op= .binOp .neq 81 x y u) (hx:VL E x (agg [is (.int .i64 x0),is (.int .i64 x1)])) (hy:VL E y (agg [is (.int .i64 y0),is (.int .i64 y1)])):Ad Tryz.prog I o E (bool (!decide (x0=y0∧x1=y1))):=
 MJ [.int .i64 x0,.int .i64 x1] [.int .i64 y0,.int .i64 y1] ho hx hy BS (fun w=>by rw [show Op.equal 81 _ _=Op.equalIn (9998+2) 81 _ _ from rfl];exact tT)
def YR (a b:Int):Int:=if a<b then -1 else if b<a then 1 else 0
def orF (l:List Int):Int:=(l.find? fun x=>x !=0).getD 0
theorem qQ {l:List Int} {k:Nat} {x:Int} (hx:l[k]? =some x) (h0:¬x=0) (h:∀j y,j<k→l[j]? =some y→(y !=0)=false):x=orF l:=by
 unfold orF
 have:l.find? (fun x=>x !=0)=some x:=by
  rw [List.find?_eq_some_iff_getElem]
  have hk:k<l.length:=by rcases Nat.lt_or_ge k l.length with h|h;exact h;rw [List.getElem?_eq_none h] at hx;cases hx
  rw [List.getElem?_eq_getElem hk] at hx
  simp only [Option.some.injEq] at hx
  refine ⟨by simpa using h0,k,hk,hx,fun j hj=> ?_⟩
  have:=h j _ hj (List.getElem?_eq_getElem AA)
  simpa using this
 rw [this];rfl
theorem jq {l:List Int} (h:∀j y,j<l.length→l[j]? =some y→(y !=0)=false):0=orF l:=by
 unfold orF
 have:l.find? (fun x=>x !=0)=none:=by
  rw [List.find?_eq_none]
  intro x hx
  obtain ⟨j,hj,rfl⟩:=List.mem_iff_getElem.1 hx
  have:=h j _ hj (List.getElem?_eq_getElem hj)
  simpa using this
 rw [this];rfl
def okc (c:UInt8):Bool:=decide (33≤c.toNat∧c.toNat≤126)
def named (s:List UInt8):Bool:=s.all okc&&decide (1≤s.length∧s.length≤32)
theorem UZ {β:Type} {p:β→Bool} {l:List β} {k:Nat} {x:β} (hx:l[k]? =some x) (hp:p x=false):l.all p=false:=by
 rw [Bool.eq_false_iff];intro h;rw [List.all_eq_true] at h;rw [h x (List.mem_of_getElem? hx)] at hp;cases hp
theorem MP {β:Type} {p:β→Bool} {l:List β} (h:∀j y,j<l.length→l[j]? =some y→(!p y)=false):l.all p=true:=by
 rw [List.all_eq_true]
 intro y hy
 obtain ⟨j,hj⟩:=List.mem_iff_getElem?.1 hy
 have:=h j y Zj hj
 simpa using this
theorem jr {n:Int}  :BC prog 166 [int n] (bool false):=by
 refine fo func166 rfl ⟨rfl,rfl⟩ fun M0 w0=> ?_
 refine a3 ?_
 · exact bool_eq AV
theorem jt {a b:Int}  :BC prog 115 [int a,int b] (int (YR a b)):=by
 refine fo func115 rfl ⟨rfl,rfl⟩ fun M0 w0=> ?_
 · repeat' first|exact absurd h AB|(refine int_eq ?_;unfold YR;(repeat split)<;>omega)|refine co rfl (Ck (jr) rfl rfl) ?_|refine ac ?_|(refine Tr.cn rfl ?_ ?_<;>intro h q)
theorem AAq {l:List Int}  :BC prog 223 [ints l] (int (orF l)):=by
 refine fo func223 rfl ⟨rfl,rfl⟩ fun M0 w0=>(Tr.Cf 0 rfl fun EH=> ?_)
 refine a3 ?_
 refine Tr.block (Tr.BE _ (kk [7,6,3] rfl) (fun k:Nat=>[(8,int ((k:Nat):Int))]) (fun k:Nat=>k≤(l).length∧(∀j y,j<k→l[j]? =some y→(y !=0)=false)) (fun k:Nat=>(l).length-k) 0 (⟨Nat.zero_le _,fun j y hj=>absurd hj AA⟩) kz ?_)
 rintro k ⟨BV,AZ⟩
 refine ac ?_
 refine Tr.seq ?_
 refine Tr.cn rfl ?_ ?_<;>intro h1 q1
 have Ai:k<(l).length:=AH h1
 obtain ⟨x,Ah⟩:=at_ Ai
 refine ac ?_
 refine Tr.seq (Tr.block (Tr.seq (Tr.Aj (co rfl (AD rfl underlying22 CH vq vq AA CL) ?_))))
 · repeat' first|exact int_eq (qQ Ah Bt AZ)|exact Fin.AP (k+1) ⟨⟨Ai,ED (p:=fun y=>y !=0) Ah (by simpa using by assumption) AZ⟩,by omega⟩ ⟨⟨_,rfl,AG k⟩,kz⟩|refine ac ?_|(refine Tr.cn rfl ?_ ?_<;>intro h q)
 have BL:k=(l).length:=by have:=AJ h1;omega
 subst BL
 refine a3 ?_
 · exact int_eq (jq AZ)
theorem Gf {s:List UInt8}  :BC prog 196 [str s] (bool (named s)):=by
 refine fo func196 rfl ⟨rfl,rfl⟩ fun M0 w0=> ?_
 refine ac ?_
 refine ag ?_ ?_<;>intro h1 q1
 refine a3 ?_
 · exact Zy
 refine an ?_ ?_<;>intro h2 q2
 refine a2 ?_
 · exact Zy
 refine a2 ?_
 refine Tr.block (Tr.BE _ (kk [0] rfl) (fun k:Nat=>[(3,int ((k:Nat):Int))]) (fun k:Nat=>k≤(s).length∧(∀j y,j<k→s[j]? =some y→(!okc y)=false)) (fun k:Nat=>(s).length-k) 0 (⟨Nat.zero_le _,fun j y hj=>absurd hj AA⟩) kz ?_)
 rintro k ⟨BV,AZ⟩
 refine an ?_ ?_<;>intro h3 q3
 have Ai:k<(s).length:=AH h3
 obtain ⟨c,Ah⟩:=at_ Ai
 · repeat' first|(refine bool_eq ?_;unfold named;rw [UZ (p:=okc) Ah (by simp [okc];omega)];rfl)|(exact Fin.AP (k+1) ⟨⟨Ai,ED (p:=fun c=> !okc c) Ah (by simp [okc];omega) AZ⟩,by omega⟩ ⟨⟨_,rfl,AG k⟩,kz⟩)|refine co rfl (UM rfl underlying9 vq vq AA (UN Bt)) ?_|refine cy h rfl (UM rfl underlying9 vq vq AA (UN Bt)) ?_|refine ac ?_|(refine Tr.cn rfl ?_ ?_<;>intro h q)|(refine Ch.cg rfl rfl rfl ?_ ?_<;>intro h q)
 have BL:k=(s).length:=by have:=AJ h3;omega
 subst BL
 refine a3 ?_
 · refine bool_eq ?_;unfold named;rw [MP AZ,Bool.true_and];symm;rw [decide_eq_true_eq];omega
structure YS where
 name:List UInt8
 kind:Int
 way:Int
 sizes:List Int
 Sk:List Int
def Hw:List YS:=[⟨[],0,0,[],[]⟩,⟨[109,100,53],1,0,[],[18]⟩,⟨[115,104,97,49],1,0,[],[60]⟩,⟨[115,104,97,50,53,54],1,0,[],[128]⟩,⟨[115,104,97,51,56,52],1,0,[],[192]⟩,⟨[114,115,97],2,1,[],[]⟩,⟨[100,115,97],2,1,[],[]⟩,⟨[101,99,100,115,97],2,2,[],[]⟩,⟨[101,100,50,53,53,49,57],2,0,[],[128]⟩,⟨[109,108,100,115,97],2,3,[44,65,87],[128,192,256]⟩,⟨[114,115,97,107,120],3,1,[],[]⟩,⟨[100,104,101],3,1,[],[]⟩,⟨[101,99,100,104,101],3,2,[],[]⟩,⟨[109,108,107,101,109],3,3,[512,768,1024],[128,192,256]⟩,⟨[114,99,52],4,3,[40,128],[40,60]⟩,⟨[100,101,115,51],4,3,[112,168],[80,112]⟩,⟨[97,101,115,99,98,99],4,3,[128,256],[128,256]⟩,⟨[97,101,115,103,99,109],4,3,[128,256],[128,256]⟩,⟨[99,104,97,99,104,97],4,0,[],[256]⟩,⟨[104,109,97,99,109,100,53],5,0,[],[64]⟩,⟨[104,109,97,99,115,104,97,49],5,0,[],[80]⟩,⟨[104,109,97,99,115,104,97,50,53,54],5,0,[],[128]⟩,⟨[97,101,97,100],5,0,[],[256]⟩]
def aq:YS:=⟨[],0,0,[],[]⟩
def Ed (CC:Int):YS:=if 1≤CC∧CC≤22 then (Hw[CC.toNat]?).getD aq else aq
theorem N1 {CC:Int} (h:1≤CC∧CC≤22):Hw[CC.toNat]? =some (Ed CC):=by
 have hl:CC.toNat<Hw.length:=by show CC.toNat<23;omega
 unfold Ed;rw [if_pos h,List.getElem?_eq_getElem hl];rfl
theorem dV {CC:Int} (h:1≤CC∧CC≤22):Ed CC∈Hw:=List.mem_of_getElem? (N1 h)
def mods:List (Int×Int):=[(1024,56),(2048,80),(3072,112),(7680,128),(15360,192)]
def AAr:List (Int×Int)→Int→Int
 |[],_=>256
 |p::l,b=>if b<p.1 then p.2 else AAr l b
def vM (b:Int):Int:=AAr mods b
def Ze:List Int:=[160,224,256,384,521]
def Di (CC bits:Int):Int:=
 if 1 ≤ CC ∧ CC ≤ 22 then
  if (Ed CC).way=0 then (if bits=0 then ((Ed CC).Sk[0]?).getD 0 else 0)
  else if (Ed CC).way=1 then (if 512≤bits∧bits≤16384 then vM bits else 0)
  else if (Ed CC).way=2 then (if (Ze.any fun x=>bits==x)=true then bits.tdiv 2 else 0)
  else if (Ed CC).way=3 then (if 0≤idx (fun x=>bits==x) (Ed CC).sizes then ((Ed CC).Sk[(idx (fun x=>bits==x) (Ed CC).sizes).toNat]?).getD 0 else 0)
  else 0
 else 0
structure HB where
 Jc:Int
 NM:List UInt8
 KK:List UInt8
 R6:Int
 Ky:Int
 CS:Int
 YT:Int
 Qk:Int
 from_:Int
 NN:Int
 auth:Bool
 path:Int
 names:List (List UInt8)
 qR:Int
 qS:Int
abbrev dW (l:List (List UInt8)):Pr:=slice 1 (l.map fun t=>[str t])
abbrev DH (c:HB):List Pr:=[int c.Jc,str c.NM,str c.KK,int c.R6,int c.Ky,int c.CS,int c.YT,int c.Qk,int c.from_,int c.NN,bool c.auth,int c.path,dW c.names,int c.qR,int c.qS]
abbrev Kz (l:List HB):Pr:=slice 15 (l.map DH)
structure HB.fits (c:HB):Prop where
 NM:c.NM.length≤maxLen
 KK:c.KK.length≤maxLen
 names:∀s∈c.names,s.length≤maxLen
def Hg (n:Int):Bool:=decide (0≤n)&&decide (n≤2147483648)
def vN (n:Int):Bool:=decide (0≤n)&&decide (n<4294967296)
def KL (o:List UInt8) (c:UInt8):Bool:=decide (97≤c.toNat∧c.toNat≤122)||decide (65≤c.toNat∧c.toNat≤90)||decide (48≤c.toNat∧c.toNat≤57)||decide (0≤Lib.indexByte o c)
def P3 (s:List UInt8):Bool:=s.all (KL [45,95,46])&&decide (1≤s.length∧s.length≤32)
def nameAt (l:List (List UInt8)) (i:Nat):Bool:=named (l[i]?.getD [])&&(decide (i=0)||decide (Lib.compareBytes (l[i-1]?.getD []) (l[i]?.getD [])= -1))
def G0 (l:List (List UInt8)):Bool:=allI (nameAt l) l.length&&decide (l.length≤8)
def Kq (CC bits kind:Int):Bool:=decide (Di CC bits>0)&&(Ed CC).kind==kind
def D3 (c:HB):Bool:=
 (decide (0≤c.Jc)&&decide (c.Jc≤1099511627776)&&named c.NM&&named c.KK&&G0 c.names)&&
 (Kq c.R6 c.Ky 2&&Hg c.CS&&Kq c.YT c.Qk 1&&Hg c.qR&&vN c.qS)&&
 (decide (0≤c.from_)&&decide (c.from_≤c.NN)&&decide (c.NN≤40000))&&(decide (0≤c.path)&&decide (c.path≤8)&&(c.auth||c.path==0))
def Ua (CC bits id:Int) (l:List HB):Bool:=Kq CC bits 2&&Hg id&&decide (l.length≤8)&&l.all D3&&match l with|[]=>true|c::_=>decide (c.R6=CC∧c.Ky=bits)&&c.CS==id
structure JL where
 CC:Int
 bits:Int
 CS:Int
 chain:List HB
abbrev G1 (x:JL):List Pr:=[int x.CC,int x.bits,int x.CS,Kz x.chain]
abbrev AEC (l:List JL):Pr:=slice 4 (l.map G1)
def JL.fits (x:JL):Prop:=∀c∈x.chain,c.fits
structure B7 where
 name:List UInt8
 least:Int
 most:Int
 Ay:List Int
 own:Bool
 ids:List JL
 anchors:List Int
 hashes:List Int
 MQ:Bool
abbrev Bc (e:B7):List Pr:=[str e.name,int e.least,int e.most,ints e.Ay,bool e.own,AEC e.ids,ints e.anchors,ints e.hashes,bool e.MQ]
structure B7.fits (e:B7):Prop where
 name:e.name.length≤maxLen
 ids:∀x∈e.ids,x.fits
def Hx (l:List Int) (i:Nat):Bool:=decide (i=0)||decide (l[i-1]?.getD 0<l[i]?.getD 0)
def dX (l:List Int):Bool:=allI (Hx l) l.length
def F9 (l:List Int) (i:Nat):Bool:=decide (1≤l[i]?.getD 0∧l[i]?.getD 0≤16)&& !((l.take i).any fun x=>l[i]?.getD 0==x)
def KM (l:List Int):Bool:=allI (F9 l) l.length
def Ql (n:Int):Bool:=(Ed n).kind==1
def idB (x:JL):Bool:=Ua x.CC x.bits x.CS x.chain
def GI (e:B7):Bool:=
 (P3 e.name&&decide (1≤e.least)&&decide (e.least≤e.most)&&decide (e.most≤4)&&KM e.Ay)&&
 (decide (e.ids.length≤4)&&decide (e.anchors.length≤16)&&dX e.anchors&&dX e.hashes)&&e.ids.all idB&&e.anchors.all Hg&&e.hashes.all Ql
theorem getD_at {β:Type} {l:List β} {k:Nat} {x d:β} (h:l[k]? =some x):l[k]?.getD d=x:=by rw [h];rfl
abbrev DI:List Pr:=[any,any,any,any,any,any,any,any,any,any,any,any]
abbrev MR:List (List Pr):=[DI,DI,DI,DI,DI,DI,DI,DI,DI,DI,DI,DI,DI,DI,DI,DI]
theorem ju {k:Nat} (hk:k<16):MR[k]? =some DI:=by
 have hk':k<MR.length:=hk
 rw [List.getElem?_eq_getElem hk']
 have:∀r∈MR,r=DI:=by intro r hr;simp at hr;exact hr
 rw [this _ (List.getElem_mem hk')]
theorem dY {i:Nat} {p:Pr} (h:DI[i]? =some p):p=any:=by have:=List.mem_of_getElem? h;simp at this;exact this
theorem Ub {ps:List Pr} (h:ps.length=12):Pr.le (agg ps) (agg DI):=fun M w v ⟨cs,h1,h2,h3⟩=>⟨cs,h1,h2,HL.sZ (by rw [h3.length,h];rfl) fun i p v hp _=>by rw [dY hp];trivial⟩
def jv (CC bits id:Int) (l:List HB):Bool:=match l with|[]=>true|c::_=>decide (c.R6=CC∧c.Ky=bits)&&c.CS==id
theorem dZ {CC bits id:Int} {l:List HB} (h:l.length=0):jv CC bits id l=true:=by rw [List.eq_nil_of_length_eq_zero h];rfl
theorem WG {CC bits id:Int} {l:List HB} {c:HB} (h:l[0]? =some c):jv CC bits id l=(decide (c.R6=CC∧c.Ky=bits)&&c.CS==id):=by
 cases l with
 |nil=>simp at h
 |cons a l=>simp at h;subst h;rfl
theorem Gh (CC bits id:Int) (l:List HB):Ua CC bits id l=(Kq CC bits 2&&Hg id&&decide (l.length≤8)&&l.all D3&&jv CC bits id l):=rfl
theorem MS {β γ:Type} {f:β→γ} {l:List β} (h:l≠[]):0<(l.map f).length:=by rw [List.length_map];exact List.length_pos_iff.2 h
theorem dc {l:List (Int)} (h0:l≠[]) (hl:l.length≤1000000):Be prog 131 [slice 1 (l.map (fun n:Int=>[int n]))] (lens (l.map (fun n:Int=>[int n])).length) (Bq) (fun v=>FV 3 1 (l.map (fun n:Int=>[int n])) v):=by
 refine Be.of func131 rfl rfl Ao fun M0 w0 S rs M1 w1=> ?_
 have hpos:=MS (f:=(fun n:Int=>[int n])) h0
 refine a2 ?_
 refine co rfl (FQ rfl underlying22 vq) ?_
 refine ac ?_
 refine Tr.ex 4 rfl (fun z1=>Tr.fact 4 rfl fun EY=> ?_)
 refine Tr.cn rfl ?_ ?_<;>intro h1 q1
 exfalso;have:=EY h1;simp_all
 refine ac ?_
 refine ap ?_
 refine TO.pad ?_
 refine TO.DZ 0 rfl rfl AB (Ia rfl rfl AB rfl underlying22 CH IQ z3 rfl AB AB vq vq hpos Mz EM) (fun v1=> ?_)
 refine ap ?_
 refine Tr.ret (Fin.drop 1 ?_)
 refine Fin.Es rfl rfl ?_ Oh
 · exact IE
theorem dh   :BC prog 131 [slice 1 []] (full 1 []):=by
 refine fo func131 rfl ⟨rfl,rfl⟩ fun M0 w0=> ?_
 refine a2 ?_
 refine co rfl (FQ rfl underlying22 vq) ?_
 refine ac ?_
 refine Tr.ex 4 rfl (fun z1=>Tr.fact 4 rfl fun EY=> ?_)
 · repeat' first|exact DD 1|exact Lr|refine co rfl (MO rfl underlying22 CH vq vq) ?_|refine ac ?_|(refine Tr.cn rfl ?_ ?_<;>intro h q)
theorem dj {l:List (Int)} (hl:l.length≤1000000):Be Tryz.prog 131 [slice 1 (l.map (fun n:Int=>[int n]))] (lens l.length) Bq (fun v=>Bx 3 1 (l.map (fun n:Int=>[int n])) v):=by
 by_cases h0:l=[]
 · subst h0;exact Be.WB dh
 ·
  have:=Be.Qi (by intro h;exact h0 Dw) (dc h0 hl)
  rwa [List.length_map] at this
theorem dm {l:List (HB)} (h0:l≠[]) (hl:l.length≤925904528640):Be prog 241 [slice 15 (l.map DH)] (lens (l.map DH).length) (Bq) (fun v=>FV 189 15 (l.map DH) v):=by
 refine Be.of func241 rfl rfl Ao fun M0 w0 S rs M1 w1=> ?_
 have hpos:=MS (f:=DH) h0
 refine a2 ?_
 refine co rfl (FQ rfl underlying82 vq) ?_
 refine ac ?_
 refine Tr.ex 4 rfl (fun z1=>Tr.fact 4 rfl fun EY=> ?_)
 refine Tr.cn rfl ?_ ?_<;>intro h1 q1
 exfalso;have:=EY h1;simp_all
 refine ac ?_
 refine ap ?_
 refine TO.pad ?_
 refine TO.DZ 0 rfl rfl AB (Ia rfl rfl AB rfl underlying82 C3 tE QV rfl AB AB vq vq hpos Mz EM) (fun v1=> ?_)
 refine ap ?_
 refine Tr.ret (Fin.drop 1 ?_)
 refine Fin.Es rfl rfl ?_ Oh
 · exact IE
theorem dn   :BC prog 241 [slice 15 []] (full 15 []):=by
 refine fo func241 rfl ⟨rfl,rfl⟩ fun M0 w0=> ?_
 refine a2 ?_
 refine co rfl (FQ rfl underlying82 vq) ?_
 refine ac ?_
 refine Tr.ex 4 rfl (fun z1=>Tr.fact 4 rfl fun EY=> ?_)
 · repeat' first|exact DD 15|exact Lr|refine co rfl (MO rfl underlying82 C3 vq vq) ?_|refine ac ?_|(refine Tr.cn rfl ?_ ?_<;>intro h q)
theorem dw {l:List (HB)} (hl:l.length≤925904528640):Be Tryz.prog 241 [slice 15 (l.map DH)] (lens l.length) Bq (fun v=>Bx 189 15 (l.map DH) v):=by
 by_cases h0:l=[]
 · subst h0;exact Be.WB dn
 ·
  have:=Be.Qi (by intro h;exact h0 Dw) (dm h0 hl)
  rwa [List.length_map] at this
theorem dx {l:List (List UInt8)} (h0:l≠[]) (hl:l.length≤8796093022208):Be prog 242 [slice 1 (l.map (fun t:List UInt8=>[str t]))] (lens (l.map (fun t:List UInt8=>[str t])).length) (Bq) (fun v=>FV 9 1 (l.map (fun t:List UInt8=>[str t])) v):=by
 refine Be.of func242 rfl rfl Ao fun M0 w0 S rs M1 w1=> ?_
 have hpos:=MS (f:=(fun t:List UInt8=>[str t])) h0
 refine a2 ?_
 refine co rfl (FQ rfl underlying127 vq) ?_
 refine ac ?_
 refine Tr.ex 4 rfl (fun z1=>Tr.fact 4 rfl fun EY=> ?_)
 refine Tr.cn rfl ?_ ?_<;>intro h1 q1
 exfalso;have:=EY h1;simp_all
 refine ac ?_
 refine ap ?_
 refine TO.pad ?_
 refine TO.DZ 0 rfl rfl AB (Ia rfl rfl AB rfl underlying127 MF by9 z9 rfl AB AB vq vq hpos Mz EM) (fun v1=> ?_)
 refine ap ?_
 refine Tr.ret (Fin.drop 1 ?_)
 refine Fin.Es rfl rfl ?_ Oh
 · exact IE
theorem dz   :BC prog 242 [slice 1 []] (full 1 []):=by
 refine fo func242 rfl ⟨rfl,rfl⟩ fun M0 w0=> ?_
 refine a2 ?_
 refine co rfl (FQ rfl underlying127 vq) ?_
 refine ac ?_
 refine Tr.ex 4 rfl (fun z1=>Tr.fact 4 rfl fun EY=> ?_)
 · repeat' first|exact DD 1|exact Lr|refine co rfl (MO rfl underlying127 MF vq vq) ?_|refine ac ?_|(refine Tr.cn rfl ?_ ?_<;>intro h q)
theorem d_ {l:List (List UInt8)} (hl:l.length≤8796093022208):BC Tryz.prog 242 [slice 1 (l.map (fun t:List UInt8=>[str t]))] (slice 1 (l.map (fun t:List UInt8=>[str t]))):=by
 by_cases h0:l=[]
 · subst h0;exact BC.le dz (fun _ _ _ h=>h) (B0 _ _)
 · exact (Be.zg (rows:=(l.map (fun t:List UInt8=>[str t]))) (Bl fun _=>rfl) (dx h0 hl)).pure
structure JL.small (x:JL):Prop where
 chain:x.chain.length≤925904528640
 names:∀c∈x.chain,c.names.length≤8796093022208
theorem jw {x:JL} (hx:x.small):BC prog 203 [agg (G1 x)] (agg (G1 x)):=by
 refine fo func203 rfl ⟨rfl,rfl⟩ fun M0 w0=> ?_
 have hch:=hx.chain
 refine Tr.seq (Tr.An ?_)
 refine TO.Vi rfl rfl AB rfl Cm (fun b1=> ?_)
 refine Tl rfl rfl rfl rfl VP R4 (fun b2=> ?_)
 refine ao ?_
 refine ao ?_
 refine TO.pad ?_
 refine TO.DZ 0 rfl rfl AB (HJ rfl rfl AB rfl (dw (l:=x.chain) AA) kz) (fun v1=> ?_)
 refine tp rfl (Ab rfl jE vq) (TO.Dr 2 rfl rfl (A_ rfl rfl vq N0 yz rfl Ao rfl) ?_)
 refine ao ?_
 refine ac ?_
 refine co rfl (C7 0 rfl (qL rfl underlying82 Kl)) ?_
 refine ac ?_
 refine Tr.block (Tr.re 11 rfl (int_eq (by rw [List.length_map])) (Tr.BE _ (kk [11,10,2,1] rfl) (fun k:Nat=>[(12,int ((k:Nat):Int))]) (fun k:Nat=>k≤(x.chain).length) (fun k:Nat=>(x.chain).length-k) 0 (Nat.zero_le _) kz ?_))
 rintro k BV
 refine ac ?_
 refine Tr.seq ?_
 refine Tr.cn rfl ?_ ?_<;>intro h1 q1
 have Ai:k<(x.chain).length:=AH h1
 obtain ⟨c,Ah⟩:=at_ Ai
 have hcn:=hx.names c (List.mem_of_getElem? Ah)
 refine ac ?_
 refine ao ?_
 refine tp rfl (C7 0 rfl (Qj rfl underlying82 C3 Kl vq AA EM)) ?_
 refine tp rfl (C7 0 rfl (dU rfl Fv C3 vq (Bl fun _=>rfl) aA)) ?_
 refine Tl rfl rfl rfl rfl QV Kw (fun b3=> ?_)
 refine tm rfl ?_
 refine sf 0 4 ⟨rfl,rfl,rfl⟩ rfl rfl rfl rfl ?_
 refine ao ?_
 refine Tr.rx ?_
 refine ax ?_
 refine xo rfl (fun _=>Ck (d_ hcn) rfl rfl) ?_
 refine JP 0 rfl rfl (Qj rfl underlying82 C3 Kl vq AA EM) ?_
 refine xo rfl (fun _=>YP rfl V0 vq) ?_
 refine Cx.Dr 0 rfl rfl (LN rfl rfl vq N0 s7 rfl (Bl fun _=>rfl) aA AB (jV (f:=DH) Ah rfl)) ?_
 refine Cx.nil ⟨by kernel_rfl,?_⟩
 refine BH.done al3 ?_
 refine ac ?_
 refine wk [12,11,10,2,1] rfl ?_
 refine ac ?_
 exact Fin.AP (k+1) ⟨Ai,by omega⟩ ⟨⟨_,rfl,AG k⟩,kz⟩
 have BL:k=(x.chain).length:=by have:=AJ h1;omega
 subst BL
 refine ac ?_
 refine Tr.seq (Tr.MN 2 0 3 rfl rfl AB rfl (FP _ _) (Bl fun _=>rfl) ?_)
 refine ao ?_
 refine TO.AK 1 rfl rfl rfl vq Cm rfl E6 rfl rfl ?_
 refine ao ?_
 refine Tr.drop 0 (Tr.drop 1 (Tr.ret (Fin.CR rfl (AO.cell 0 rfl rfl Sd E6 rfl Lr) ?_)))
 · exact Lr
structure BW where
 AW:Int
 kind:Int
 number:Int
 at_:Int
 Cr:JL
abbrev DK (c:BW):List Pr:=[int c.AW,int c.kind,int c.number,int c.at_,int c.Cr.CC,int c.Cr.bits,int c.Cr.CS,Kz c.Cr.chain]
def Bk (key:Int) (l:List JL):Int:=idx (fun x=>x.CS==key) l
theorem O0 {β:Type} {p:β→Bool} {l:List β} (h:0≤idx p l):∃x,l[(idx p l).toNat]? =some x∧p x=true∧(idx p l).toNat<l.length:=by
 unfold idx at*
 cases hf:l.findIdx? p with
 |none=>rw [hf] at h;simp at h
 |some i=>
  rw [List.findIdx?_eq_some_iff_getElem] at hf
  obtain ⟨h1,h2,_⟩:=hf
  refine ⟨l[i],?_,h2,by simpa using h1⟩
  simp
theorem jU.perm {P:Program} {f:FuncId} {args:List Pr} {pre post post':List As} {res:Pr} (h:jU P f args pre res post) (hp:post.Perm post'):jU P f args pre res post':=
 ⟨h.1,fun M0 w0 S rs M w vs hI hv=>(h.2 M0 w0 S rs M w vs hI hv).mono fun _e _w' ⟨v,M',x,h1,h2,h3,h4,h5⟩=>⟨v,M',x,h1,h2,h3,h4,A7.perm (hp.append_right rs) h5⟩⟩
def au (x:JL):Bool:=decide (x.CC=0∧x.bits=0)&&x.CS==0&&(((x.chain.length:Nat):Int)==0)
def gp (c:BW):Bool:=if c.kind=1 then au c.Cr else if c.kind=5 then c.number==0 else c.at_==0&&au c.Cr
structure B7.small (e:B7):Prop where
 Ay:e.Ay.length≤1000000
 anchors:e.anchors.length≤1000000
 hashes:e.hashes.length≤1000000
 Xi:e.ids.length≤1000000
 ids:∀x∈e.ids,x.small
theorem qT {c:BW} (hx:c.Cr.small):BC prog 155 [agg (DK c)] (agg (DK c)):=by
 refine fo func155 rfl ⟨rfl,rfl⟩ fun M0 w0=>(Tr.seq (Tr.An ?_))
 refine TO.Vi rfl rfl AB rfl Cm (fun b1=> ?_)
 refine Tl rfl rfl rfl rfl Nx JI (fun b2=> ?_)
 refine ap ?_
 refine ap ?_
 refine tp rfl (Ck (jw (x:=c.Cr) hx) rfl rfl) ?_
 refine ap ?_
 refine ap ?_
 refine Tr.drop 1 (Tr.ret (Fin.CR rfl (AO.cell 0 rfl rfl GY C9 rfl Lr) ?_))
 · exact Lr
def Jd (b:Int) (l m:List Int):Int:=if 0≤idx (fun x=>b==x) l then (m[(idx (fun x=>b==x) l).toNat]?).getD 0 else 0
theorem eA {b:Int} {l m:List Int} {k:Nat} {x z:Int} (hx:l[k]? =some x) (he:x=b) (hz:m[k]? =some z) (h:∀j y,j<k→l[j]? =some y→(b==y)=false):z=Jd b l m:=by
 have:=E9 (p:=fun x=>b==x) hx (by simp [he]) h
 unfold Jd;rw [←this,if_pos AA,Int.toNat_natCast,hz];rfl
theorem YU {b:Int} {l m:List Int} (h:∀j y,j<l.length→l[j]? =some y→(b==y)=false):0=Jd b l m:=by
 have:=Gz (p:=fun x=>b==x) h
 unfold Jd;rw [←this,if_neg AA]
def Ga (CC:Int):Int:=if CC=1 then 18 else if CC=2 then 60 else if CC=3∨CC=8∨CC=21 then 128 else if CC=4 then 192 else if CC=18∨CC=22 then 256 else if CC=19 then 64 else if CC=20 then 80 else 0
def Nl (b:Int):Int:=if b<512∨b>16384 then 0 else if b<1024 then 56 else if b<2048 then 80 else if b<3072 then 112 else if b<7680 then 128 else if b<15360 then 192 else 256
theorem jx (b:Int):Nl b=if 512≤b∧b≤16384 then vM b else 0:=by
 have h1:vM b=if b<1024 then 56 else if b<2048 then 80 else if b<3072 then 112 else if b<7680 then 128 else if b<15360 then 192 else 256:=rfl
 rw [h1];unfold Nl
 by_cases h:512≤b∧b≤16384
 · rw [if_pos h,if_neg AA]
 · rw [if_neg h,if_pos AA]
theorem Ie {b:Int} {l m:List Int} (hl:l.length≤m.length):BC prog 269 [int b,ints l,ints m] (int (Jd b l m)):=by
 refine fo func269 rfl ⟨rfl,rfl⟩ fun M0 w0=>(Tr.Cf 1 rfl fun FC=> ?_)
 refine a2 ?_
 refine Tr.block (Tr.BE _ (kk [2,1,0] rfl) (fun k:Nat=>[(7,int ((k:Nat):Int))]) (fun k:Nat=>k≤(l).length∧(∀j y,j<k→l[j]? =some y→(b==y)=false)) (fun k:Nat=>(l).length-k) 0 (⟨Nat.zero_le _,fun j y hj=>absurd hj AA⟩) kz ?_)
 rintro k ⟨BV,AZ⟩
 refine an ?_ ?_<;>intro h1 q1
 have Ai:k<(l).length:=AH h1
 obtain ⟨x,Ah⟩:=at_ Ai
 obtain ⟨z,hz⟩:=at_ (l:=m) (k:=k) AA
 · repeat' first|exact int_eq (eA Ah Bt hz AZ)|(exact Fin.AP (k+1) ⟨⟨Ai,ED (p:=fun x=>b==x) Ah B9 AZ⟩,by omega⟩ ⟨⟨_,rfl,AG k⟩,kz⟩)|refine co rfl (AD rfl underlying22 CH vq vq AA CL) ?_|refine ac ?_|(refine Tr.cn rfl ?_ ?_<;>intro h q)
 have BL:k=(l).length:=by have:=AJ h1;omega
 subst BL
 refine a3 ?_
 · exact int_eq (YU AZ)
theorem jy {CC:Int}  :BC prog 270 [int CC] (int (Ga CC)):=by
 refine fo func270 rfl ⟨rfl,rfl⟩ fun M0 w0=> ?_
 refine a2 ?_
 refine an ?_ ?_<;>intro h1 q1
 refine a2 ?_
 · refine int_eq ?_;unfold Ga;(repeat (rw [if_pos AA]))
 refine an ?_ ?_<;>intro h2 q2
 refine a2 ?_
 · exact Mt
 refine an ?_ ?_<;>intro h3 q3
 refine ac ?_
 refine Tr.cond rfl (fun _=> ?_) (fun h=>nomatch h3.symm.trans h)
 refine a2 ?_
 · exact Mt
 refine an ?_ ?_<;>intro h4 q4
 refine ac ?_
 refine Tr.cond rfl (fun _=> ?_) (fun h=>nomatch h4.symm.trans h)
 refine a2 ?_
 · exact Mt
 refine an ?_ ?_<;>intro h5 q5
 refine a2 ?_
 · exact Mt
 refine ac ?_
 refine wk [12,3] rfl ?_
 refine Tr.cn rfl ?_ ?_<;>intro h6 q6
 refine a2 ?_
 · exact Mt
 refine an ?_ ?_<;>intro h7 q7
 refine ac ?_
 refine Tr.cond rfl (fun _=> ?_) (fun h=>nomatch h7.symm.trans h)
 refine a2 ?_
 · exact Mt
 · repeat' first|(refine int_eq ?_;unfold Ga;(repeat (first|rw [if_pos AA]|rw [if_neg AA])))|(refine int_eq ?_;unfold Ga;(repeat (rw [if_neg AA])))|refine ac ?_|(refine Tr.cn rfl ?_ ?_<;>intro h q)
theorem Ig {b:Int}  :BC prog 268 [int b] (int (Nl b)):=by
 refine fo func268 rfl ⟨rfl,rfl⟩ fun M0 w0=> ?_
 refine ac ?_
 refine ac ?_
 refine Ch.cs 6 rfl ?_ ?_<;>intro h1 q1
 refine ac ?_
 refine ac ?_
 refine ac ?_
 · refine int_eq ?_;unfold Nl;(repeat (rw [if_pos AA]))
 refine ac ?_
 refine Tr.cn rfl ?_ ?_<;>intro h2 q2
 refine ac ?_
 refine ac ?_
 · refine int_eq ?_;unfold Nl;(repeat (rw [if_pos AA]))
 refine ac ?_
 refine Tr.cn rfl ?_ ?_<;>intro h3 q3
 refine ac ?_
 refine ac ?_
 · exact Pm
 refine ac ?_
 refine T_ 0 13 rfl ?_
 refine Tr.cn rfl ?_ ?_<;>intro h4 q4
 refine ac ?_
 refine ac ?_
 · exact Pm
 refine ac ?_
 refine Tr.cn rfl ?_ ?_<;>intro h5 q5
 refine ac ?_
 refine ac ?_
 · exact Pm
 refine ac ?_
 refine Tr.cn rfl ?_ ?_<;>intro h6 q6
 refine ac ?_
 refine ac ?_
 · exact Pm
 refine ac ?_
 refine Tr.cn rfl ?_ ?_<;>intro h7 q7
 refine ac ?_
 refine ac ?_
 · exact Pm
 refine ac ?_
 refine ac ?_
 refine ac ?_
 · refine int_eq ?_;unfold Nl;(repeat (rw [if_neg AA]))
theorem qU (b c:Int):Jd b [0] [c]=if b=0 then c else 0:=by
 unfold Jd idx
 by_cases h:b=0
 · subst h;rfl
 ·
  have:List.findIdx? (fun x=>b==x) [0]=none:=by simp [h]
  rw [this,if_neg h];rfl
theorem Tn {CC b:Int} (h:CC=5∨CC=6∨CC=10∨CC=11):Nl b=Di CC b:=by
 rw [jx]
 rcases h with rfl|rfl|rfl|rfl<;>rfl
theorem R7 {CC b:Int} (h:¬(CC=5∨CC=6∨CC=7∨CC=9∨CC=10∨CC=11∨CC=12∨CC=13∨CC=14∨CC=15∨CC=16∨CC=17)):Jd b [0] [Ga CC]=Di CC b:=by
 rw [qU]
 by_cases hin:1≤CC∧CC≤22
 ·
  have ha:CC=1∨CC=2∨CC=3∨CC=4∨CC=8∨CC=18∨CC=19∨CC=20∨CC=21∨CC=22:=by omega
  rcases ha with rfl|rfl|rfl|rfl|rfl|rfl|rfl|rfl|rfl|rfl<;>rfl
 ·
  have h1:Ga CC=0:=by unfold Ga;(repeat (first|rw [if_pos AA]|rw [if_neg AA]))
  unfold Di
  rw [h1,if_neg hin];split<;>rfl
theorem Lw {CC b:Int} (h:CC=7∨CC=12):Di CC b=if (Ze.any fun x=>b==x)=true then b.tdiv 2 else 0:=by
 rcases h with rfl|rfl<;>rfl
theorem WH {CC bits:Int}  :BC prog 229 [agg [int CC,int bits]] (int (Di CC bits)):=by
 refine fo func229 rfl ⟨rfl,rfl⟩ fun M0 w0=> ?_
 iterate 4 refine ac ?_
 refine Tr.cn rfl ?_ ?_<;>intro h1 q1
 refine ac ?_
 refine Tr.cond rfl (fun _=> ?_) (fun h=>nomatch h1.symm.trans h)
 refine ac ?_
 refine co rfl (Ck (Ig) rfl rfl) ?_
 refine a2 ?_
 · exact Ob
 refine an ?_ ?_<;>intro h2 q2
 refine ac ?_
 refine Tr.cond rfl (fun _=> ?_) (fun h=>nomatch h2.symm.trans h)
 refine ac ?_
 refine co rfl (Ck (Ig) rfl rfl) ?_
 refine ac ?_
 refine wk [2] rfl ?_
 refine ac ?_
 · exact Ob
 refine an ?_ ?_<;>intro h3 q3
 refine ac ?_
 refine Tr.cond rfl (fun _=> ?_) (fun h=>nomatch h3.symm.trans h)
 refine ac ?_
 refine co rfl (Ck (Ig) rfl rfl) ?_
 refine ac ?_
 refine wk [2] rfl ?_
 refine ac ?_
 · exact Ob
 refine ac ?_
 refine wk [8,7,3,1] rfl ?_
 refine Tr.cn rfl ?_ ?_<;>intro h4 q4
 refine ac ?_
 refine co rfl (Ck (Ig) rfl rfl) ?_
 refine a2 ?_
 · exact Ob
 refine an ?_ ?_<;>intro h5 q5
 refine ac ?_
 refine Tr.cond rfl (fun _=> ?_) (fun h=>nomatch h5.symm.trans h)
 · exact ga
 refine an ?_ ?_<;>intro h11 Rt
 · exact ga
 refine an ?_ ?_<;>intro OL q17
 refine ac ?_
 refine co rfl (AR rfl (Ie (l:=[44,65,87]) (m:=[128,192,256]) AV) ⟨kq,GH,GH,trivial⟩) ?_
 refine ac ?_
 refine wk [2] rfl ?_
 refine ac ?_
 · refine int_eq ?_;have ha:CC=9:=AA;rcases ha with rfl<;>rfl
 refine an ?_ ?_<;>intro Rr q18
 refine ac ?_
 refine co rfl (AR rfl (Ie (l:=[512,768,1024]) (m:=[128,192,256]) AV) ⟨kq,GH,GH,trivial⟩) ?_
 refine ac ?_
 refine wk [2] rfl ?_
 refine ac ?_
 · refine int_eq ?_;have ha:CC=13:=AA;rcases ha with rfl<;>rfl
 refine ac ?_
 refine wk [50,7,3,1] rfl ?_
 refine Tr.cn rfl ?_ ?_<;>intro nZ q19
 refine ac ?_
 refine co rfl (AR rfl (Ie (l:=[40,128]) (m:=[40,60]) AV) ⟨kq,GH,GH,trivial⟩) ?_
 refine a2 ?_
 · refine int_eq ?_;have ha:CC=14:=AA;rcases ha with rfl<;>rfl
 refine an ?_ ?_<;>intro Ru q20
 refine ac ?_
 refine co rfl (AR rfl (Ie (l:=[112,168]) (m:=[80,112]) AV) ⟨kq,GH,GH,trivial⟩) ?_
 refine a2 ?_
 · refine int_eq ?_;have ha:CC=15:=AA;rcases ha with rfl<;>rfl
 refine an ?_ ?_<;>intro av q21
 refine ac ?_
 refine Tr.cond rfl (fun _=> ?_) (fun h=>nomatch av.symm.trans h)
 refine ac ?_
 refine co rfl (AR rfl (Ie (l:=[128,256]) (m:=[128,256]) AV) ⟨kq,GH,GH,trivial⟩) ?_
 refine a2 ?_
 · refine int_eq ?_;have ha:CC=16∨CC=17:=AA;rcases ha with rfl|rfl<;>rfl
 · repeat' first|(refine int_eq ?_;have ha:CC=16∨CC=17:=AA;rcases ha with rfl|rfl<;>rfl)|(refine int_eq ?_;exact R7 AA)|refine co rfl (AR rfl (Ie (l:=[128,256]) (m:=[128,256]) AV) ⟨kq,GH,GH,trivial⟩) ?_|refine co rfl (Ck (jy) rfl rfl) (co rfl (AM (xs:=[.tmp 73]) (rows:=[[_]]) rfl rfl underlying22 CH z3 rfl AB ⟨⟨Am,N0⟩,trivial⟩ AB) ?_)|refine co rfl (AR rfl (Ie (l:=[0]) (m:=[Ga CC]) AV) ⟨kq,GH,GH,trivial⟩) ?_|refine ac ?_|(refine Tr.cn rfl ?_ ?_<;>intro h q)
theorem Je {CC bits:Int}  :BC prog 197 [agg [int CC,int bits]] (bool (decide (Di CC bits>0))):=by
 refine fo func197 rfl ⟨rfl,rfl⟩ fun M0 w0=> ?_
 refine a2 ?_
 refine co rfl (Ck (WH) rfl rfl) ?_
 refine a2 ?_
 · exact Lr
def vO:List (List UInt8×Int):=Hw.map fun r=>(r.name,r.kind)
theorem qV {CC:Int} (h:1≤CC∧CC≤22):vO[CC.toNat]? =some ((Ed CC).name,(Ed CC).kind):=by
 unfold vO;rw [List.getElem?_map,N1 h];rfl
theorem qW   :BC prog 228 [] (slice 2 (vO.map fun r=>[str r.1,int r.2])):=by
 refine fo func228 rfl ⟨rfl,rfl⟩ fun M0 w0=> ?_
 refine a2 ?_
 refine wk [0] rfl ?_
 refine ac ?_
 · exact B0 _ _
theorem O1 {CC:Int}  :BC prog 195 [int CC] (int (Ed CC).kind):=by
 refine fo func195 rfl ⟨rfl,rfl⟩ fun M0 w0=> ?_
 refine ac ?_
 refine ag ?_ ?_<;>intro h1 q1
 refine a3 ?_
 · refine int_eq ?_;unfold Ed;rw [if_neg AA];rfl
 refine an ?_ ?_<;>intro h2 q2
 refine a2 ?_
 · refine int_eq ?_;unfold Ed;rw [if_neg AA];rfl
 have hin:1≤CC∧CC≤22:=by omega
 refine ac ?_
 refine Tr.seq (Tr.Aj (co rfl (kc0 (qW) rfl) (cm rfl (co rfl (AD rfl underlying291 tJ vq vq AA (Bm (f:=fun r:List UInt8×Int=>[str r.1,int r.2]) (qV hin))) ?_))))
 refine a2 ?_
 · exact Lr
theorem Jf {CC bits:Int}  :BC prog 224 [agg [int CC,int bits]] (bool (decide (Di CC bits>0)&&(Ed CC).kind==2)):=by
 refine fo func224 rfl ⟨rfl,rfl⟩ fun M0 w0=> ?_
 refine ac ?_
 refine ac ?_
 refine co rfl (Ck (Je) rfl rfl) (cm rfl ?_)
 refine Ch.cs 5 rfl ?_ ?_<;>intro h1 q1
 refine ac ?_
 refine cy h1 rfl (Ck (O1) rfl rfl) ?_
 refine ac ?_
 refine ac ?_
 · refine bool_eq ?_;simp_all
 refine ac ?_
 refine ac ?_
 · exact Oi
def E3:B7:=⟨[],0,0,[],false,[],[],[],false⟩
def Bv:JL:=⟨0,0,0,[]⟩
def HN:BW:=⟨0,0,0,0,Bv⟩
abbrev qX (l:List Int):Prop:=l.Pairwise (· < ·)
def Em (l:List Int) (x:Int):Nat:=(l.takeWhile fun y=>decide (y<x)).length
theorem az (l:List Int) (x:Int):Em l x≤l.length:=by
 unfold Em
 have h:=List.takeWhile_append_dropWhile (p:=fun y=>decide (y<x)) (l:=l)
 have:=congrArg List.length h
 rw [List.length_append] at this;omega
theorem Uc {x:Int}:∀{l:List Int} {k:Nat},k≤l.length→(∀(j:Nat) y,j<k→l[j]? =some y→y<x)→(∀y,l[k]? =some y→¬y<x)→Em l x=k
  | [], k, hk, _, _ => by have : k = 0 := by simpa using hk
                          subst this;rfl
  |y::r,0,_,_,h2=>by unfold Em;rw [List.takeWhile_cons_of_neg (by simpa using h2 y rfl)];rfl
  |y::r,k+1,hk,h1,h2=>by
    have ih:=Uc (l:=r) (k:=k) Oq (fun j z hj hz=>h1 (j+1) z AA KD) (fun z hz=>h2 z KD)
    unfold Em at ih ⊢
    rw [List.takeWhile_cons_of_pos (by simpa using h1 0 y AA rfl),List.length_cons,ih]
theorem Ud {x:Int}:∀{l:List Int} {j:Nat} {y:Int},j<Em l x→l[j]? =some y→y<x
 |[],j,y,h,_=>by unfold Em at h;simp at h
 |z::r,j,y,h,hy=>by
  by_cases hz:z<x
  ·
   cases j with
   |zero=>simp at hy;subst hy;exact hz
   |succ j=>
    refine Ud (l:=r) (j:=j) ?_ (by simpa using hy)
    unfold Em at h ⊢
    rw [List.takeWhile_cons_of_pos KD,List.length_cons] at h;omega
  · unfold Em at h;rw [List.takeWhile_cons_of_neg KD] at h;simp at h
theorem a_ {x:Int}:∀{l:List Int} {y:Int},l[Em l x]? =some y→¬y<x
 |[],y,h=>by simp at h
 |z::r,y,h=>by
  by_cases hz:z<x
  ·
   unfold Em at h
   rw [List.takeWhile_cons_of_pos KD,List.length_cons,List.getElem?_cons_succ] at h
   exact a_ (l:=r) h
  · unfold Em at h;rw [List.takeWhile_cons_of_neg KD] at h;simp at h;subst h;exact hz
abbrev Fb (l:List Int) (x:Int):Bool:=(l[Em l x]?).any (fun y=>decide (y=x))
abbrev YV (l:List Int) (x:Int):List Int:=l.take (Em l x)++[x]++l.drop (Em l x)
theorem qY {l:List Int} (hs:qX l) {j k:Nat} {y z:Int} (hjk:j<k) (hy:l[j]? =some y) (hz:l[k]? =some z):y<z:=by
 have h1:=BN hy;have h2:=BN hz
 have:=List.pairwise_iff_getElem.1 hs j k h1 h2 hjk
 rw [List.getElem?_eq_getElem h1] at hy;rw [List.getElem?_eq_getElem h2] at hz
 cases hy;cases hz;exact this
theorem bA {l:List Int} {x:Int} {i:Nat} {y:Int} (hp:Em l x=i) (hy:l[i]? =some y):Fb l x=decide (y=x):=by
 unfold Fb;rw [hp,hy];rfl
theorem O2 {l:List Int} (h:dX l=true):qX l:=by
 unfold dX at h;rw [B6] at h
 have h1:∀(d i:Nat) y z,l[i]? =some y→l[i+d+1]? =some z→y<z:=by
  intro d
  induction d with
  |zero=>
   intro i y z hy hz
   have:=h (i+1) (BN hz)
   unfold Hx at this
   rw [getD_at (show l[i+1]? =some z from hz),getD_at (show l[i+1-1]? =some y from hy)] at this
   simpa using this
  |succ d ih=>
   intro i y z hy hz
   obtain ⟨m,hm⟩:=at_ (l:=l) (k:=i+d+1) (by have:=BN hz;omega)
   have a1:=ih i y m hy hm
   have:=h (i+(d+1)+1) (BN hz)
   unfold Hx at this
   rw [getD_at hz,getD_at (show l[i+(d+1)+1-1]? =some m from hm)] at this
   have:m<z:=by simpa using this
   omega
 refine List.pairwise_iff_getElem.2 fun i j hi hj hij=> ?_
 refine h1 (j-i-1) i _ _ (List.getElem?_eq_getElem hi) ?_
 rw [show i+(j-i-1)+1=j by omega];exact List.getElem?_eq_getElem hj
theorem Ue {l:List Int} {x:Int} (h:Fb l x=true):Em l x<l.length:=by
 by_cases hp:Em l x<l.length
 · exact hp
 · unfold Fb at h;rw [List.getElem?_eq_none AA] at h;cases h
abbrev Km (b:Bool):Int:=if b then 1 else 0
abbrev MT (e:B7) (c:BW):Int:=idx (fun y=>c.number==y) e.Ay
def B8 (e:B7) (c:BW):Except Int (B7×BW):=
 if c.kind = 1 then
  if ¬(0≤c.at_∧c.at_≤(e.Ay.length:Nat)) then .error 2
  else if (e.Ay.any fun y=>c.number==y)=true then .error 41
  else .ok ({ e with Ay:=e.Ay.take c.at_.toNat++[c.number]++e.Ay.drop c.at_.toNat },⟨c.AW,2,c.number,0,Bv⟩)
 else if c.kind = 2 then
  if MT e c<0 then .error 41 else .ok ({ e with Ay:=e.Ay.eraseIdx (MT e c).toNat },⟨c.AW,1,c.number,MT e c,Bv⟩)
 else if c.kind = 3 then
  if e.most=c.number then .error 41 else .ok ({ e with most:=c.number },⟨c.AW,c.kind,e.most,0,Bv⟩)
 else if c.kind = 4 then
  if e.least=c.number then .error 41 else .ok ({ e with least:=c.number },⟨c.AW,c.kind,e.least,0,Bv⟩)
 else if c.kind = 5 then
  if ¬(0≤c.at_∧c.at_≤(e.ids.length:Nat)) then .error 2
  else if 0≤Bk c.Cr.CS e.ids then .error 41
  else .ok ({ e with ids:=e.ids.take c.at_.toNat++[c.Cr]++e.ids.drop c.at_.toNat },⟨c.AW,6,c.Cr.CS,0,Bv⟩)
 else if c.kind = 6 then
  match e.ids[(Bk c.number e.ids).toNat]? with
  |none=> .error 41
  |some x=>
   if Bk c.number e.ids<0 then .error 41
   else if ((e.ids.drop (Bk c.number e.ids+1).toNat).any fun x=>x.CS==c.number)=true then .error 5
   else .ok ({ e with ids:=e.ids.eraseIdx (Bk c.number e.ids).toNat },⟨c.AW,5,0,Bk c.number e.ids,x⟩)
 else if c.kind = 7 then
  if Fb e.anchors c.number=true then .error 41 else .ok ({ e with anchors:=YV e.anchors c.number },⟨c.AW,8,c.number,0,Bv⟩)
 else if c.kind = 8 then
  if Fb e.anchors c.number=true then .ok ({ e with anchors:=e.anchors.eraseIdx (Em e.anchors c.number) },⟨c.AW,7,c.number,0,Bv⟩) else .error 41
 else if c.kind = 9 then
  if Fb e.hashes c.number=true then .error 41 else .ok ({ e with hashes:=YV e.hashes c.number },⟨c.AW,10,c.number,0,Bv⟩)
 else if c.kind = 10 then
  if Fb e.hashes c.number=true then .ok ({ e with hashes:=e.hashes.eraseIdx (Em e.hashes c.number) },⟨c.AW,9,c.number,0,Bv⟩) else .error 41
 else if c.kind = 11 then
  if ¬(0≤c.number∧c.number≤1) then .error 2
  else if Km e.MQ=c.number then .error 41 else .ok ({ e with MQ:=(c.number==1) },⟨c.AW,c.kind,Km e.MQ,0,Bv⟩)
 else
  if ¬(0≤c.number∧c.number≤1) then .error 2
  else if Km e.own=c.number then .error 41 else .ok ({ e with own:=(c.number==1) },⟨c.AW,c.kind,Km e.own,0,Bv⟩)
def JD (c:BW):Prop:=(1≤c.kind∧c.kind≤12)∧gp c=true
instance (c:BW):Decidable (JD c):=inferInstanceAs (Decidable (_∧_))
def D8 (e:B7) (c:BW):B7×BW×Int:=
 if GI e=false then (E3,HN,19)
 else if ¬JD c then (E3,HN,40)
 else match B8 e c with
  | .error f=>(E3,HN,f)
  | .ok (e2,b)=>if GI e2=true then (e2,b,0) else (E3,HN,18)
theorem O3 {e:B7} {c:BW} (h:c.kind=1):B8 e c=
  (
  if ¬(0≤c.at_∧c.at_≤(e.Ay.length:Nat)) then .error 2
  else if (e.Ay.any fun y=>c.number==y)=true then .error 41
  else .ok ({ e with Ay:=e.Ay.take c.at_.toNat++[c.number]++e.Ay.drop c.at_.toNat },⟨c.AW,2,c.number,0,Bv⟩)):=by
 unfold B8;rw [if_pos h]
theorem O4 {e:B7} {c:BW} (h:c.kind=2):B8 e c=
  (
  if MT e c<0 then .error 41 else .ok ({ e with Ay:=e.Ay.eraseIdx (MT e c).toNat },⟨c.AW,1,c.number,MT e c,Bv⟩)):=by
 unfold B8;rw [if_neg BB];rw [if_pos h]
theorem O5 {e:B7} {c:BW} (h:c.kind=3):B8 e c=
  (
  if e.most=c.number then .error 41 else .ok ({ e with most:=c.number },⟨c.AW,c.kind,e.most,0,Bv⟩)):=by
 unfold B8;rw [if_neg BB];rw [if_neg BB];rw [if_pos h]
theorem O6 {e:B7} {c:BW} (h:c.kind=4):B8 e c=
  (
  if e.least=c.number then .error 41 else .ok ({ e with least:=c.number },⟨c.AW,c.kind,e.least,0,Bv⟩)):=by
 unfold B8;rw [if_neg BB];rw [if_neg BB];rw [if_neg BB];rw [if_pos h]
theorem O7 {e:B7} {c:BW} (h:c.kind=5):B8 e c=
  (
  if ¬(0≤c.at_∧c.at_≤(e.ids.length:Nat)) then .error 2
  else if 0≤Bk c.Cr.CS e.ids then .error 41
  else .ok ({ e with ids:=e.ids.take c.at_.toNat++[c.Cr]++e.ids.drop c.at_.toNat },⟨c.AW,6,c.Cr.CS,0,Bv⟩)):=by
 unfold B8;rw [if_neg BB];rw [if_neg BB];rw [if_neg BB];rw [if_neg BB];rw [if_pos h]
theorem O8 {e:B7} {c:BW} (h:c.kind=6):B8 e c=
  (
  match e.ids[(Bk c.number e.ids).toNat]? with
  |none=> .error 41
  |some x=>
   if Bk c.number e.ids<0 then .error 41
   else if ((e.ids.drop (Bk c.number e.ids+1).toNat).any fun x=>x.CS==c.number)=true then .error 5
   else .ok ({ e with ids:=e.ids.eraseIdx (Bk c.number e.ids).toNat },⟨c.AW,5,0,Bk c.number e.ids,x⟩)):=by
 unfold B8;rw [if_neg BB];rw [if_neg BB];rw [if_neg BB];rw [if_neg BB];rw [if_neg BB];rw [if_pos h]
theorem O9 {e:B7} {c:BW} (h:c.kind=7):B8 e c=
  (
  if Fb e.anchors c.number=true then .error 41 else .ok ({ e with anchors:=YV e.anchors c.number },⟨c.AW,8,c.number,0,Bv⟩)):=by
 unfold B8;rw [if_neg BB];rw [if_neg BB];rw [if_neg BB];rw [if_neg BB];rw [if_neg BB];rw [if_neg BB];rw [if_pos h]
theorem O_ {e:B7} {c:BW} (h:c.kind=8):B8 e c=
  (
  if Fb e.anchors c.number=true then .ok ({ e with anchors:=e.anchors.eraseIdx (Em e.anchors c.number) },⟨c.AW,7,c.number,0,Bv⟩) else .error 41):=by
 unfold B8;rw [if_neg BB];rw [if_neg BB];rw [if_neg BB];rw [if_neg BB];rw [if_neg BB];rw [if_neg BB];rw [if_neg BB];rw [if_pos h]
theorem PB {e:B7} {c:BW} (h:c.kind=9):B8 e c=
  (
  if Fb e.hashes c.number=true then .error 41 else .ok ({ e with hashes:=YV e.hashes c.number },⟨c.AW,10,c.number,0,Bv⟩)):=by
 unfold B8;rw [if_neg BB];rw [if_neg BB];rw [if_neg BB];rw [if_neg BB];rw [if_neg BB];rw [if_neg BB];rw [if_neg BB];rw [if_neg BB];rw [if_pos h]
theorem MU {e:B7} {c:BW} (h:c.kind=10):B8 e c=
  (
  if Fb e.hashes c.number=true then .ok ({ e with hashes:=e.hashes.eraseIdx (Em e.hashes c.number) },⟨c.AW,9,c.number,0,Bv⟩) else .error 41):=by
 unfold B8;rw [if_neg BB];rw [if_neg BB];rw [if_neg BB];rw [if_neg BB];rw [if_neg BB];rw [if_neg BB];rw [if_neg BB];rw [if_neg BB];rw [if_neg BB];rw [if_pos h]
theorem MV {e:B7} {c:BW} (h:c.kind=11):B8 e c=
  (
  if ¬(0≤c.number∧c.number≤1) then .error 2
  else if Km e.MQ=c.number then .error 41 else .ok ({ e with MQ:=(c.number==1) },⟨c.AW,c.kind,Km e.MQ,0,Bv⟩)):=by
 unfold B8;rw [if_neg BB];rw [if_neg BB];rw [if_neg BB];rw [if_neg BB];rw [if_neg BB];rw [if_neg BB];rw [if_neg BB];rw [if_neg BB];rw [if_neg BB];rw [if_neg BB];rw [if_pos h]
theorem MW {e:B7} {c:BW} (h:c.kind=12):B8 e c=
  (
  if ¬(0≤c.number∧c.number≤1) then .error 2
  else if Km e.own=c.number then .error 41 else .ok ({ e with own:=(c.number==1) },⟨c.AW,c.kind,Km e.own,0,Bv⟩)):=by
 unfold B8;rw [if_neg BB];rw [if_neg BB];rw [if_neg BB];rw [if_neg BB];rw [if_neg BB];rw [if_neg BB];rw [if_neg BB];rw [if_neg BB];rw [if_neg BB];rw [if_neg BB];rw [if_neg BB]
theorem eB {e:B7} {c:BW} {f:Int} (h:GI e=true) (hc:JD c) (hs:B8 e c= .error f):D8 e c=(E3,HN,f):=by
 unfold D8;rw [if_neg BB,if_neg (fun h=>h hc),hs]
theorem jz {e:B7} {c:BW} {e2:B7} {b:BW} (h:GI e=true) (hc:JD c) (hs:B8 e c= .ok (e2,b)) (h2:GI e2=true):D8 e c=(e2,b,0):=by
 unfold D8;rw [if_neg BB,if_neg (fun h=>h hc),hs];exact if_pos h2
theorem qZ {e:B7} {c:BW} {e2:B7} {b:BW} (h:GI e=true) (hc:JD c) (hs:B8 e c= .ok (e2,b)) (h2:GI e2=false):D8 e c=(E3,HN,18):=by
 unfold D8;rw [if_neg BB,if_neg (fun h=>h hc),hs];exact if_neg (by rw [h2];decide)
structure bB (e:B7):Prop where
 name:P3 e.name=true
 least:1≤e.least
 lm:e.least≤e.most
 most:e.most≤4
 Ay:KM e.Ay=true
 Xi:e.ids.length≤4
 yL:e.anchors.length≤16
 anc:dX e.anchors=true
 hash:dX e.hashes=true
 ids:e.ids.all idB=true
 keys:e.anchors.all Hg=true
 hsh:e.hashes.all Ql=true
theorem DA {e:B7}:GI e=true↔bB e:=by
 unfold GI;simp only [Bool.and_eq_true,decide_eq_true_eq]
 exact ⟨fun ⟨⟨⟨⟨⟨⟨⟨⟨a,b⟩,c⟩,d⟩,f⟩,⟨⟨⟨g,h⟩,i⟩,j⟩⟩,k⟩,l⟩,m⟩=>⟨a,b,c,d,f,g,h,i,j,k,l,m⟩,fun ⟨a,b,c,d,f,g,h,i,j,k,l,m⟩=>⟨⟨⟨⟨⟨⟨⟨⟨a,b⟩,c⟩,d⟩,f⟩,⟨⟨⟨g,h⟩,i⟩,j⟩⟩,k⟩,l⟩,m⟩⟩
theorem eC:Bv.small:=⟨by show 0≤_;omega,fun c hc=>by cases hc⟩
abbrev Sl:List Pr:=[GU .u8]
abbrev bC (m:Nat):Pr:=slice 1 (List.replicate m Sl)
abbrev Ee (B:Nat):Pr:=Cp.ex fun m:Nat=>fact (m≤B) (bC m)
abbrev EE:Pr:=Cp.ex fun b:Bool=>bool b
abbrev Bf (q:Pr):List Pr:=[GU .i64,Ee 1000,EE,q]
abbrev Jg (row:List Pr):Pr:=Cp.ex fun m:Nat=>fact (m≤20) (slice 4 (List.replicate m row))
abbrev LQ (D:Nat):Pr:=Cp.ex fun d:Int=>fact (0≤d∧d≤(D:Nat)) (int d)
theorem Jh {r:List Pr} {m k:Nat} (h:k<m):(List.replicate m r)[((k:Nat):Int).toNat]? =some r:=by rw [Int.toNat_natCast,List.getElem?_replicate,if_pos h]
theorem bD {r:List Pr} {m:Nat}:List.replicate m r++[r]=List.replicate (m+1) r:=by rw [List.replicate_succ']
theorem MX {r:List Pr} {m k:Nat}:List.replicate m r++List.replicate k r=List.replicate (m+k) r:=by rw [List.replicate_append_replicate]
theorem QE.refl:∀l:List Pr,QE l l
 |[]=>trivial
 |_::l=>⟨Pr.le_refl _,QE.refl l⟩
theorem Vj {sz:Nat} {rows rows':List (List Pr)} (hl:rows.length=rows'.length) (h:∀(i:Nat) r r',rows[i]? =some r→rows'[i]? =some r'→r.length=r'.length∧∀(j:Nat) p p',r[j]? =some p→r'[j]? =some p'→Pr.le p p'):Pr.le (slice sz rows) (slice sz rows'):=by
 rintro M w v ⟨a,cap,h1,h2,h3,h4,h5⟩
 refine ⟨a,cap,by rw [←hl];exact h1,by rw [←hl];exact h2,h3,h4,fun i row hr=> ?_⟩
 have hi:i<rows.length:=by rw [hl];exact BN hr
 have hr0:=List.getElem?_eq_getElem hi
 obtain ⟨g1,g2⟩:=h i _ _ hr0 hr
 obtain ⟨k1,ad,k2,k3⟩:=h5 i _ hr0
 refine ⟨by rw [←g1];exact k1,ad,k2,fun j p' hp'=> ?_⟩
 have hj:j<rows[i].length:=by rw [g1];exact BN hp'
 have hp:=List.getElem?_eq_getElem hj
 obtain ⟨u,c1,c2,c3,c4⟩:=k3 j _ hp
 exact ⟨u,c1,c2,c3,g2 j _ _ hp hp' _ _ _ c4⟩
theorem eD {sz:Nat} {rows:List (List Pr)} {r:List Pr} (h:∀q∈rows,q.length=r.length∧∀(j:Nat) p p',q[j]? =some p→r[j]? =some p'→Pr.le p p'):Pr.le (slice sz rows) (slice sz (List.replicate rows.length r)):=
 Vj AV fun i q q' hq hq'=>by
  rw [List.getElem?_replicate,if_pos (BN hq)] at hq'
  cases hq'
  exact h q (List.mem_of_getElem? hq)
theorem Xj {β:Type} {l:List β} {f:β→Int}:Pr.le (slice 1 (l.map fun x=>[is (.int .u8 (f x))])) (bC l.length):=by
 have:=eD (sz:=1) (rows:=l.map fun x=>[is (.int .u8 (f x))]) (r:=Sl) (by
  intro q hq
  obtain ⟨x,_,rfl⟩:=List.mem_map.1 hq
  refine ⟨rfl,fun j p p' hp hp'=> ?_⟩
  cases j with
  |zero=>simp at hp hp';subst hp;subst hp';exact C4 _ _
  |succ j=>simp at hp)
 rwa [List.length_map] at this
theorem Fi {B m:Nat} {p:Pr} (h:m≤B) (hp:Pr.le p (bC m)):Pr.le p (Ee B):=Aw m (A8 h hp)
theorem BC.Bf {P:Program} {f:FuncId} {row:List Pr} {res:Pr} (h:∀(t:Int) (b:Nat) (n:Bool) (m:Nat),b≤1000→m≤20→BC P f [agg [int t,bC b,bool n,slice 4 (List.replicate m row)]] res):BC P f [agg (Bf (Jg row))] res:=by
 refine ⟨(h 0 0 false 0 AA AA).1,fun M w vs hb hv=> ?_⟩
 match vs,hv with
 |[u0],gW=>
  obtain ⟨⟨cs,rfl,ho,hcs⟩,_⟩:=gW
  match cs,hcs with
  |[c0,c1,c2,c3],hc=>
   obtain ⟨⟨t,h0⟩,⟨b,Rp,h1⟩,⟨n,h2⟩,⟨m,hm1,h3⟩,_⟩:=hc
   exact (h t b n m Rp hm1).2 M w _ hb ⟨⟨_,rfl,ho,h0,h1,h2,h3,trivial⟩,trivial⟩
theorem BC.j0 {P:Program} {f:FuncId} {res:Pr} (h:∀(t:Int) (b:Nat) (n:Bool),b≤1000→BC P f [agg [int t,bC b,bool n,slice 4 []]] res):BC P f [agg [GU .i64,Ee 1000,EE,slice 4 []]] res:=by
 refine ⟨(h 0 0 false AA).1,fun M w vs hb hv=> ?_⟩
 match vs,hv with
 |[u0],gW=>
  obtain ⟨⟨cs,rfl,ho,hcs⟩,_⟩:=gW
  match cs,hcs with
  |[c0,c1,c2,c3],hc=>
   obtain ⟨⟨t,h0⟩,⟨b,Rp,h1⟩,⟨n,h2⟩,h3,_⟩:=hc
   exact (h t b n Rp).2 M w _ hb ⟨⟨_,rfl,ho,h0,h1,h2,h3,trivial⟩,trivial⟩
theorem vP {n:Int}  :BC prog 289 [int n] (bool (decide (1≤n)&&decide (n≤255)&&(n.tmod 32 !=31))):=by
 refine fo func289 rfl ⟨rfl,rfl⟩ fun M0 w0=> ?_
 refine ac ?_
 refine ag ?_ ?_<;>intro h1 q1
 refine ag ?_ ?_<;>intro h2 q2
 refine NB h2 rfl (cy h2 rfl (T4 rfl vq vq AA) ?_)
 refine a2 ?_
 · refine bool_eq ?_;simp_all
 refine a2 ?_
 · exact Oi
 refine a2 ?_
 · exact Oi
theorem NO {t:Int} {b:Nat} {n:Bool} {m:Nat} {q:Pr}  (hb:b≤1000) (hm:m≤20) (ih:m=0∨BC prog 258 [agg (Bf q)] (EE)):BC prog 258 [agg [int t,bC b,bool n,slice 4 (List.replicate m (Bf q))]] (EE):=by
 refine fo func258 rfl ⟨rfl,rfl⟩ fun M0 w0=> ?_
 have hlr:(List.replicate m (Bf q)).length=m:=List.length_replicate
 have hlb:(List.replicate b Sl).length=b:=List.length_replicate
 refine a2 ?_
 refine co rfl (Ck (vP) rfl rfl) ?_
 refine ag ?_ ?_<;>intro h1 q1
 refine ac ?_
 refine wk [38,1] rfl ?_
 refine a2 ?_
 · exact BF
 refine ac ?_
 refine cy h1 rfl (TW rfl vq vq AA) (cy h1 rfl (T4 rfl vq vq AA) (cy h1 rfl kiq (cy h1 rfl (X9 rfl underlying4 vq vq) ?_)))
 refine ag ?_ ?_<;>intro h2 q2
 refine ac ?_
 refine wk [38,1] rfl ?_
 refine a2 ?_
 · exact BF
 refine ag ?_ ?_<;>intro h3 q3
 refine ac ?_
 refine cy h3 rfl (CE rfl underlying241 vq) ?_
 refine ag ?_ ?_<;>intro h4 q4
 refine ac ?_
 refine wk [38,1] rfl ?_
 refine a2 ?_
 · exact BF
 refine ag ?_ ?_<;>intro h5 q5
 refine ac ?_
 refine cy h5 rfl (CE rfl underlying283 vq) ?_
 refine ac ?_
 refine wk [38,1] rfl ?_
 refine Tr.cn rfl ?_ ?_<;>intro h6 q6
 refine a2 ?_
 · exact BF
 refine a2 ?_
 refine Tr.block (Tr.BE _ (kk [1] rfl) (fun k:Nat=>[(3,int ((k:Nat):Int))]) (fun k:Nat=>k≤((List.replicate m (Bf q)).length)) (fun k:Nat=>((List.replicate m (Bf q)).length)-k) 0 (Nat.zero_le _) kz ?_)
 rintro k BV
 refine ac ?_
 refine co rfl (CE rfl underlying283 vq) ?_
 refine an ?_ ?_<;>intro h7 q7
 have Ai:k<((List.replicate m (Bf q)).length):=AH h7
 have hkm:k<m:=by simpa using Ai
 have ih2:=ih.resolve_left AA
 refine ac ?_
 refine ap ?_
 refine tp rfl (AD rfl underlying283 Cc vq vq AA (Jh hkm)) (tp rfl (AL rfl DG Cc vq rfl rfl) (tp rfl (Ck (ih2) rfl rfl) ?_))
 refine TO.ex 51 rfl (fun z51=> ?_)
 refine ap ?_
 · exact K8
 have BL:k=((List.replicate m (Bf q)).length):=by have:=AJ h7;omega
 refine a3 ?_
 · exact BF
 refine ac ?_
 refine wk [38,1] rfl ?_
 refine a2 ?_
 refine Tr.block (Tr.BE _ (kk [1] rfl) (fun k:Nat=>[(3,int ((k:Nat):Int))]) (fun k:Nat=>k≤((List.replicate m (Bf q)).length)) (fun k:Nat=>((List.replicate m (Bf q)).length)-k) 0 (Nat.zero_le _) kz ?_)
 rintro k BV
 refine ac ?_
 refine co rfl (CE rfl underlying283 vq) ?_
 refine an ?_ ?_<;>intro h9 q9
 have Ai:k<((List.replicate m (Bf q)).length):=AH h9
 have hkm:k<m:=by simpa using Ai
 have ih2:=ih.resolve_left AA
 refine ac ?_
 refine ap ?_
 refine tp rfl (AD rfl underlying283 Cc vq vq AA (Jh hkm)) (tp rfl (AL rfl DG Cc vq rfl rfl) (tp rfl (Ck (ih2) rfl rfl) ?_))
 refine TO.ex 51 rfl (fun z51=> ?_)
 refine ap ?_
 · exact K8
 have BL:k=((List.replicate m (Bf q)).length):=by have:=AJ h9;omega
 refine a3 ?_
 · exact BF
 refine ag ?_ ?_<;>intro h11 Rt
 refine ac ?_
 refine cy h11 rfl (CE rfl underlying283 vq) ?_
 refine ac ?_
 refine wk [38,1] rfl ?_
 refine Tr.cn rfl ?_ ?_<;>intro h12 VQ
 refine a2 ?_
 · exact BF
 refine a2 ?_
 refine Tr.block (Tr.BE _ (kk [1] rfl) (fun k:Nat=>[(3,int ((k:Nat):Int))]) (fun k:Nat=>k≤((List.replicate m (Bf q)).length)) (fun k:Nat=>((List.replicate m (Bf q)).length)-k) 0 (Nat.zero_le _) kz ?_)
 rintro k BV
 refine ac ?_
 refine co rfl (CE rfl underlying283 vq) ?_
 refine an ?_ ?_<;>intro Nv eE
 have Ai:k<((List.replicate m (Bf q)).length):=AH Nv
 have hkm:k<m:=by simpa using Ai
 have ih2:=ih.resolve_left AA
 refine ac ?_
 refine ap ?_
 refine tp rfl (AD rfl underlying283 Cc vq vq AA (Jh hkm)) (tp rfl (AL rfl DG Cc vq rfl rfl) (tp rfl (Ck (ih2) rfl rfl) ?_))
 refine TO.ex 51 rfl (fun z51=> ?_)
 refine ap ?_
 · exact K8
 have BL:k=((List.replicate m (Bf q)).length):=by have:=AJ Nv;omega
 refine a3 ?_
 · exact BF
 refine ac ?_
 refine wk [38,1] rfl ?_
 refine a2 ?_
 refine Tr.block (Tr.BE _ (kk [1] rfl) (fun k:Nat=>[(3,int ((k:Nat):Int))]) (fun k:Nat=>k≤((List.replicate m (Bf q)).length)) (fun k:Nat=>((List.replicate m (Bf q)).length)-k) 0 (Nat.zero_le _) kz ?_)
 rintro k BV
 refine ac ?_
 refine co rfl (CE rfl underlying283 vq) ?_
 refine an ?_ ?_<;>intro Vs q15
 have Ai:k<((List.replicate m (Bf q)).length):=AH Vs
 have hkm:k<m:=by simpa using Ai
 have ih2:=ih.resolve_left AA
 refine ac ?_
 refine ap ?_
 refine tp rfl (AD rfl underlying283 Cc vq vq AA (Jh hkm)) (tp rfl (AL rfl DG Cc vq rfl rfl) (tp rfl (Ck (ih2) rfl rfl) ?_))
 refine TO.ex 51 rfl (fun z51=> ?_)
 refine ap ?_
 · exact K8
 have BL:k=((List.replicate m (Bf q)).length):=by have:=AJ Vs;omega
 refine a3 ?_
 · exact BF
theorem Qm {t:Int} {b:Nat} {n:Bool} {m:Nat} {q:Pr} {D:Nat}  (hb:b≤1000) (hm:m≤20) (hD:D≤1000) (ih:m=0∨BC prog 259 [agg (Bf q)] (LQ D)):BC prog 259 [agg [int t,bC b,bool n,slice 4 (List.replicate m (Bf q))]] (LQ (D+1)):=by
 refine BC.of func259 rfl rfl Ao fun M0 w0=> ?_
 have hlr:(List.replicate m (Bf q)).length=m:=List.length_replicate
 have hlb:(List.replicate b Sl).length=b:=List.length_replicate
 refine Tr.seq (Tr.Aj (co rfl (BZ rfl (Va rfl)) (cm rfl (Ch.nil (Fin.go (Tr.seq (Tr.Aj (cm rfl (Ch.nil (Fin.go (Tr.seq (Tr.seq (Tr.Aj ?_)))))))))))))
 refine cm rfl (Ch.nil (Fin.go (Tr.block (Tr.BE [(1,_)] ⟨ke rfl,trivial⟩ (fun k:Nat=>[(4,int ((k:Nat):Int)),(3,LQ D)]) (fun k:Nat=>k≤((List.replicate m (Bf q)).length)) (fun k:Nat=>((List.replicate m (Bf q)).length)-k) 0 (Nat.zero_le _) ⟨ke rfl,⟨_,rfl,Aw 0 (A8 AA (Lr))⟩,trivial⟩ ?_))))
 rintro k BV
 refine Tr.seq (Tr.seq (Tr.Aj (cm rfl (co rfl (QG rfl MH rfl rfl) (co rfl (GX rfl UK rfl) (co rfl (CE rfl underlying283 (vl rfl)) (co rfl (ki rfl rfl rfl rfl) (Ch.nil (Fin.go ?_)))))))))
 refine Tr.cn rfl ?_ ?_<;>intro h1 q1
 have Ai:k<((List.replicate m (Bf q)).length):=AH h1
 have hkm:k<m:=by simpa using Ai
 have ih2:=ih.resolve_left AA
 refine Tr.skip (Fin.go (Tr.seq (Tr.block (Tr.An (tm rfl ?_)))))
 refine TO.ex 12 rfl (fun z12=>TO.fact 12 rfl fun AFX=> ?_)
 refine tp rfl (QG rfl MH rfl rfl) (tp rfl (GX rfl UK rfl) (tm rfl (tp rfl (AD rfl underlying283 Cc (vl rfl) (vl rfl) AA (Jh hkm)) (tp rfl (AL rfl DG Cc (vl rfl) rfl rfl) (tp rfl (AR rfl (ih2) ⟨ke rfl,trivial⟩) ?_)))))
 refine TO.ex 18 rfl (fun z18=>TO.fact 18 rfl fun AED=> ?_)
 refine tp rfl (M9 rfl (vl rfl) (vl rfl)) (tm rfl (TO.nil (Fin.block (Fin.go (GF 1 3 4 rfl (Tr.Aj (cm rfl (LH rfl rfl rfl rfl AA (cm rfl (Ch.nil (Fin.AP (k+1) ⟨Ai,by omega⟩ ⟨⟨_,rfl,AG k⟩,⟨_,rfl,Aw _ (A8 AA (Lr))⟩,ke rfl,trivial⟩)))))))))))
 have BL:k=((List.replicate m (Bf q)).length):=by have:=AJ h1;omega
 refine Tr.exit (Fin.Ag (Fin.Ag (Fin.BD (Fin.go (Tr.seq (Tr.An (tm rfl ?_)))))))
 refine TO.ex 20 rfl (fun z20=>TO.fact 20 rfl fun AFY=> ?_)
 refine tp rfl (E5 rfl (vl rfl) (vl rfl) ?hin) ?_;case hin=>unfold OK;omega
 refine tm rfl (TO.nil (Fin.go (Tr.ret (Fin.Ki rfl (Bo.Dy _ _) rfl ?_))))
 · exact Aw _ (A8 AA (Lr))
def Qn (n:Nat):Nat:=if h:n=0 then 0 else 1+Qn (n/256)
termination_by n
decreasing_by omega
theorem Sm:Qn 0=0:=by unfold Qn;simp
theorem WI {n:Nat} (h:0<n):Qn n=1+Qn (n/256):=by conv=>lhs;unfold Qn;rw [dif_neg AA]
theorem Uf:∀(n:Nat),Qn n≤n:=by
 intro n
 induction n using Nat.strongRecOn with
 |_ n ih=>
  rcases Nat.eq_zero_or_pos n with h|h
  · subst h;rw [Sm];omega
  · rw [WI h];have:=ih (n/256) AA;omega
def eF (n:Nat):Nat:=if n<128 then 1 else 1+Qn n
theorem bE (n:Nat):eF n≤n+1:=by unfold eF;have:=Uf n;split<;>omega
theorem nj (k:Int):Pr.le (slice 1 [[is (.int .u8 k)]]) (bC 1):=Xj (l:=[()]) (f:=fun _=>k)
theorem eG {n:Nat} (hn:n≤100000000):BC prog 290 [int ((n:Nat):Int)] (bC (eF n)):=by
 refine fo func290 rfl ⟨rfl,rfl⟩ fun M0 w0=> ?_
 refine ac ?_
 refine an ?_ ?_<;>intro h1 q1
 refine ac ?_
 refine co rfl (Eg rfl underlying3 underlying5 vq) (co rfl (AM (xs:=[.tmp 7]) (rows:=[Sl]) rfl rfl underlying241 Mp z5 rfl AB ⟨⟨Am,VL.le vq (Pr.le_trans (C4 _ _) (Aa _))⟩,trivial⟩ AB) ?_)
 refine a2 ?_
 · refine Pr.le_trans (B0 _ _) (Pr.le_of_eq ?_);unfold eF;rw [if_pos AA];rfl
 refine a2 ?_
 refine Tr.seq (Tr.block (Tr.B5 5 1 (Tr.C2 [] trivial (fun (k:Nat) (acc:Nat) v=>[(0,int ((k:Nat):Int)),(3,Af v (bC acc))]) (fun (k:Nat) (acc:Nat) v=>Hp M0 w0 Fa ([Au 5 1 v])) (fun (k:Nat) (acc:Nat)=>Qn k+acc=Qn n∧k≤n) (fun (k:Nat) (acc:Nat)=>k) (n) (0) (.slice none 0 0) (⟨by omega,by omega⟩) ⟨kq,⟨_,rfl,Bn rfl⟩,trivial⟩ (fun _ _ h=>h) ?_)))
 rintro k acc v ⟨hk1,hk2⟩
 refine an ?_ ?_<;>intro h2 q2
 have hk0:0<k:=by have:=Co.C_ h2;omega
 have hdg:=WI hk0
 have hle:=Uf n
 refine ac ?_
 refine ap ?_
 refine tp rfl (T4 rfl vq vq AA) (tp rfl (Eg rfl underlying3 underlying5 vq) (tp rfl (AM (xs:=[.tmp 13]) (rows:=[Sl]) rfl rfl underlying241 Mp z5 rfl AB ⟨⟨Am,VL.le vq (Pr.le_trans (C4 _ _) (Aa _))⟩,trivial⟩ AB) ?_))
 refine tm rfl (TO.pad ?_)
 refine TO.DZ 0 rfl rfl AB (B4 rfl rfl rfl rfl underlying241 Mp aU z5 GH H_ (Br BJ vq)) (fun v1=> ?_)
 refine ap ?_
 refine ac ?_
 refine co rfl (TW rfl vq vq AA) ?_
 refine ac ?_
 refine Fin.drop 1 ?_
 exact Fin.Bg (k/256) (acc+1) v1 (⟨⟨by omega,by omega⟩,by omega⟩) ⟨⟨_,rfl,int_eq (by rw [Int.tdiv_eq_ediv_of_nonneg AA,Gc KA];omega)⟩,⟨_,rfl,BA (by rw [show ([Sl]:List (List Pr))=List.replicate 1 Sl from rfl,MX,Nat.add_comm])⟩,trivial⟩ (fun _ _ h=>h)
 have hk0:k=0:=by have:=Co.C_ h2;omega
 subst hk0
 have hle:=Uf n
 rw [Sm] at hk1
 refine ac ?_
 refine ap ?_
 refine tp rfl (CE rfl underlying241 H_) (tp rfl kiq (tp rfl (Eg rfl underlying3 underlying5 vq) (tp rfl (AM (xs:=[.tmp 22]) (rows:=[Sl]) rfl rfl underlying241 Mp z5 rfl AB ⟨⟨Am,VL.le vq (Pr.le_trans (C4 _ _) (Aa _))⟩,trivial⟩ AB) ?_)))
 refine tm rfl (TO.pad ?_)
 refine TO.DZ 0 rfl rfl AB (B4 rfl rfl rfl rfl underlying241 Mp aU z5 GH H_ (Br BJ vq)) (fun v2=> ?_)
 refine ap ?_
 refine ac ?_
 · refine Pr.le_trans (At _ _) (Pr.le_of_eq ?_);unfold eF;rw [if_neg AA,show ([Sl]:List (List Pr))=List.replicate 1 Sl from rfl,MX,show acc=Qn n by omega]
theorem YW {t:Int} {b:Nat} {n:Bool} {m:Nat} {q:Pr} {B:Nat}  (hb:b≤1000) (hm:m≤20) (hB:B≤1000000) (ih:m=0∨BC prog 260 [agg (Bf q)] (Ee B)):BC prog 260 [agg [int t,bC b,bool n,slice 4 (List.replicate m (Bf q))]] (Ee (2*(1000+20*B)+2)):=by
 refine fo func260 rfl ⟨rfl,rfl⟩ fun M0 w0=> ?_
 have hlr:(List.replicate m (Bf q)).length=m:=List.length_replicate
 have hlb:(List.replicate b Sl).length=b:=List.length_replicate
 refine ac ?_
 refine ap ?_
 refine TO.pad ?_
 refine TO.DZ 0 rfl rfl AB (B4 rfl rfl rfl rfl underlying241 Mp aU z5 GH vq (Br BJ vq)) (fun v1=> ?_)
 refine ap ?_
 refine ac ?_
 refine Tr.block (Tr.C2 _ (kk [1] rfl) (fun (k:Nat) (acc:Nat) v=>[(4,int ((k:Nat):Int)),(3,Af v (bC acc))]) (fun (k:Nat) (acc:Nat) v=>Hp M0 w0 Fa ([Au 5 1 v])) (fun (k:Nat) (acc:Nat)=>k≤m∧acc≤b+k*B) (fun (k:Nat) (acc:Nat)=>m-k) (0) (b) v1 (⟨by omega,by omega⟩) ⟨kq,⟨_,rfl,BA AV⟩,trivial⟩ (fun _ _ h=>h) ?_)
 rintro k acc v ⟨hk1,hk2⟩
 have hkB:k*B≤20*B:=Nat.mul_le_mul_right B AA
 refine ac ?_
 refine co rfl (CE rfl underlying283 vq) ?_
 refine an ?_ ?_<;>intro h1 q1
 have hkm:k<m:=by have:=Co.C_ h1;rw [hlr] at this;omega
 have ih2:=ih.resolve_left AA
 refine ac ?_
 refine ap ?_
 refine tp rfl (AD rfl underlying283 Cc vq vq AA (Jh hkm)) (tp rfl (AL rfl DG Cc vq rfl rfl) (tp rfl (Ck (ih2) rfl rfl) ?_))
 refine TO.ex 22 rfl (fun z22=>TO.fact 22 rfl fun AFZ=> ?_)
 refine TO.DZ 0 rfl rfl AB (B4 rfl rfl rfl rfl underlying241 Mp aU z5 H_ vq (Az BJ Kl)) (fun v2=> ?_)
 refine ap ?_
 refine wk [4,3,1] rfl ?_
 refine ac ?_
 exact Fin.Bg (k+1) (acc+z22) v2 (⟨⟨by omega,by rw [Nat.succ_mul];omega⟩,by omega⟩) ⟨⟨_,rfl,AG k⟩,⟨_,rfl,BA (by rw [MX])⟩,kz⟩ (fun _ _ h=>h)
 have cv:k=m:=by have:=Co.C_ h1;rw [hlr] at this;omega
 have Td:=bE acc
 refine ac ?_
 refine Tr.seq (Tr.pad (Tr.rx ?_))
 refine ay ?_
 refine xo rfl (fun _=>Eg rfl underlying3 underlying5 vq) (xo rfl (fun _=>AM (xs:=[.tmp 26]) (rows:=[Sl]) rfl rfl underlying241 Mp z5 rfl AB ⟨⟨Am,VL.le vq (Pr.le_trans (C4 _ _) (Aa _))⟩,trivial⟩ AB) ?_)
 refine xm rfl (xo rfl (fun _=>CE rfl underlying241 H_) ?_)
 refine xo rfl (fun _=>AR rfl (eG (n:=acc) AA) ⟨⟨_,rfl,int_eq AV⟩,trivial⟩) ?_
 refine Cx.ef 0 rfl rfl AB (B4 rfl rfl rfl rfl underlying241 Mp aU z5 GH vq (Br BJ vq)) ?_
 refine xm rfl ?_
 refine Cx.ef 0 rfl rfl AB (B4 rfl rfl rfl rfl underlying241 Mp aU z5 vq H_ dJ) ?_
 refine Cx.ef 0 rfl rfl AB (T7 rfl rfl AB rfl vq) ?_
 refine Cx.nil ⟨by kernel_rfl,?_⟩
 refine BH.open_ 0 2 rfl rfl (fun v3=> ?_)
 refine BH.done XT (Fin.go (wk [2] rfl ?_))
 refine ac ?_
 · exact Fi (m:=1+eF acc+acc) (by have:=bE acc;omega) (Pr.le_trans (At _ _) (Pr.le_of_eq (by rw [show ([Sl]:List (List Pr))=List.replicate 1 Sl from rfl,MX,MX])))
theorem eH {q:Pr} {D B:Nat} (hf:BC prog 258 [agg (Bf q)] EE) (hd:BC prog 259 [agg (Bf q)] (LQ D)) (hp:BC prog 260 [agg (Bf q)] (Ee B)):BC prog 225 [agg (Bf q)] (D7 [Ee B,GU .i64]):=by
 refine fo func225 rfl ⟨rfl,rfl⟩ fun M0 w0=> ?_
 refine ac ?_
 refine ap ?_
 refine tp rfl (Ck (hf) rfl rfl) ?_
 refine TO.ex 6 rfl (fun z6=> ?_)
 refine ap ?_
 refine Tr.cn rfl ?_ ?_<;>intro h1 q1
 refine ac ?_
 refine Tr.ret (Fin.AE (Fin.Dc rfl (Bo.Dy _ _) rfl ?_ rfl ?_))
 · exact Oa
 · exact C4 _ _
 refine ac ?_
 refine ap ?_
 refine tp rfl (Ck (hd) rfl rfl) ?_
 refine TO.ex 9 rfl (fun z9=>TO.fact 9 rfl fun hz9=> ?_)
 refine ap ?_
 refine Tr.cn rfl ?_ ?_<;>intro h2 q2
 refine ac ?_
 refine Tr.ret (Fin.AE (Fin.Dc rfl (Bo.Dy _ _) rfl ?_ rfl ?_))
 · exact Oa
 · exact C4 _ _
 refine a2 ?_
 refine co rfl (Ck (hp) rfl rfl) ?_
 refine ac ?_
 refine ap ?_
 refine TO.ex 13 rfl (fun z13=>TO.fact 13 rfl fun AFa=> ?_)
 refine tp rfl (CE rfl underlying241 vq) ?_
 refine ap ?_
 refine wk [15,4] rfl ?_
 refine Tr.cn rfl ?_ ?_<;>intro h3 q3
 refine ac ?_
 refine Tr.ret (Fin.AE (Fin.Dc rfl (Bo.Dy _ _) rfl ?_ rfl ?_))
 · exact Oa
 · exact C4 _ _
 refine a2 ?_
 refine Tr.ret (Fin.Dc rfl (Bo.Dy _ _) rfl ?_ rfl ?_)
 · exact Lr
 · exact C4 _ _
theorem qa:IntKind.u8.wrap 0=0:=rfl
def lvI (x:Int):Nat:=if x≤0 then 0 else if x<256 then 1 else if x<65536 then 2 else if x<16777216 then 3 else if x<4294967296 then 4 else if x<1099511627776 then 5 else 6+x.toNat
theorem j4 {x:Int} (h:0<x):lvI (x/256)<lvI x:=by
 unfold lvI
 repeat' split
 all_goals omega
def Ji (x h:Int):Nat:=if x=0 then (if 128≤h then 1 else 0) else lvI x+1
theorem qb {n h:Int} (h0:0≤n) (h1:n≤1099511627776):Ji (n/256) h≤400:=by
 unfold Ji lvI
 repeat' split
 all_goals omega
theorem G2 {x h:Int} {t:Nat} (h0:0≤x) (hc:x≠0∨128≤h) (hi:t+Ji x h≤400):(0≤x/256∧t+1+Ji (x/256) (IntKind.u8.wrap x)≤400)∧Ji (x/256) (IntKind.u8.wrap x)<Ji x h:=by
 have key:Ji (x/256) (IntKind.u8.wrap x)<Ji x h:=by
  unfold Ji
  by_cases hx:x=0
  ·
   subst hx
   rw [qa,if_pos AB,if_neg AB,if_pos rfl,if_pos AA];decide
  ·
   have:=j4 (x:=x) AA
   rw [if_neg hx]
   by_cases hy:x/256=0
   ·
    rw [if_pos hy];have:(if 128≤IntKind.u8.wrap x then 1 else 0)≤1:=by split<;>omega
    omega
   · rw [if_neg hy];omega
 exact ⟨⟨by omega,by omega⟩,key⟩
theorem HO {P:Program} {I:Cb} {E:Env} {o:Oper} {t u:TypeId} {x y:Operand} {m:Int} (ho:o.op= .binOp .shr t x y u) (hx:VL E x (int m)) (hy:VL E y (is (.int .u64 8))) (h0:0≤m):Ad P I o E (int (m/256)):=
 Ad.same fun M w a he _=>by
  have h1:a.eval x= .int .i64 m:=hx.ev he Ar
  have h2:a.eval y= .int .u64 8:=hy.ev he Ar
  refine ⟨.int .i64 (m.fdiv 256),?_,congrArg (Value.int .i64) (Int.fdiv_eq_ediv_of_nonneg m AA)⟩
  simp only [execOp,ho,h1,h2]
  simp [eqGuard,binOp,Op.shift,IntKind.bits]
abbrev q0:Pr:=slice 4 []
theorem LR {n:Int} (hn:0≤n∧n≤1099511627776):BC prog 263 [int n] (agg (Bf q0)):=by
 refine fo func263 rfl ⟨rfl,rfl⟩ fun M0 w0=>(Tr.seq (Tr.An ?_))
 refine Tl rfl rfl rfl rfl NK Kx (fun b1=> ?_)
 refine ap ?_
 refine ac ?_
 refine co rfl (Eg rfl underlying3 underlying5 vq) ?_
 refine a2 ?_
 refine co rfl (HO rfl vq vq AA) ?_
 refine ac ?_
 refine Tr.block ?_
 refine Tr.QJ _ (kk [2] rfl) (fun (x:Int) (h:Int) (t:List Int)=>[(4,int x),(3,slice 1 ((h::t).map fun n=>[is (.int .u8 n)]))]) (fun (x:Int) (h:Int) (t:List Int)=>Hp M0 w0 Fa ([AF true b1 285 (([.int .i64 0,.slice none 0 0,.bool false,.slice none 0 0]:List Value).map is)])) (fun (x:Int) (h:Int) (t:List Int)=>0≤x∧t.length+Ji x h≤400) (fun (x:Int) (h:Int) (t:List Int)=>Ji x h) (n/256) (IntKind.u8.wrap n) ([])  (⟨by omega,by simp only [List.length_nil];have:=qb (h:=IntKind.u8.wrap n) hn.1 hn.2;omega⟩) ⟨kq,⟨_,rfl,Pr.le_trans (B0 _ _) (Pr.le_of_eq rfl)⟩,trivial⟩ (fun _ _ h=>h) ?_
 rintro x h t  ⟨hx0,hmu⟩
 refine ag ?_ ?_<;>intro h1 q1
 refine ag ?_ ?_<;>intro h2 q2
 refine ac ?_
 refine wk [35,4,3,2] rfl ?_
 refine ac ?_
 refine ap ?_
 refine tp rfl (Eg rfl underlying3 underlying5 vq) ?_
 refine ap ?_
 refine TO.pad ?_
 refine TO.DZ 0 rfl rfl AB (B4 rfl rfl rfl rfl underlying241 Mp aU z5 GH vq (Br BJ vq)) (fun v1=> ?_)
 refine ap ?_
 refine ac ?_
 refine co rfl (HO rfl vq vq AA) ?_
 refine ac ?_
 refine Fin.drop 0 (Fin.F7 (x/256) (IntKind.u8.wrap x) (h::t)  ((G2 hx0 AA hmu)) ⟨kq,⟨_,rfl,Pr.le_trans (At _ _) (Pr.le_of_eq rfl)⟩,kz⟩ (fun _ _ h=>h))
 refine ag ?_ ?_<;>intro h3 q3
 refine NB h3 rfl ?_
 refine cy h3 rfl (AD rfl underlying241 Mp vq vq AA (AX (k:=0) rfl)) ?_
 refine ag ?_ ?_<;>intro h4 q4
 refine ac ?_
 refine wk [35,4,3,2] rfl ?_
 refine ac ?_
 refine ap ?_
 refine tp rfl (Eg rfl underlying3 underlying5 vq) ?_
 refine ap ?_
 refine TO.pad ?_
 refine TO.DZ 0 rfl rfl AB (B4 rfl rfl rfl rfl underlying241 Mp aU z5 GH vq (Br BJ vq)) (fun v2=> ?_)
 refine ap ?_
 refine ac ?_
 refine co rfl (HO rfl vq vq AA) ?_
 refine ac ?_
 refine Fin.drop 0 (Fin.F7 (x/256) (IntKind.u8.wrap x) (h::t)  ((G2 hx0 AA hmu)) ⟨kq,⟨_,rfl,Pr.le_trans (At _ _) (Pr.le_of_eq rfl)⟩,kz⟩ (fun _ _ h=>h))
 refine ag ?_ ?_<;>intro h5 q5
 refine NB h5 rfl ?_
 refine cy h5 rfl (AD rfl underlying241 Mp vq vq AA (AX (k:=0) rfl)) ?_
 refine ac ?_
 refine wk [35,4,3,2] rfl ?_
 refine Tr.cn rfl ?_ ?_<;>intro h6 q6
 have WJ:=h6
 refine ac ?_
 refine ap ?_
 refine tp rfl (Eg rfl underlying3 underlying5 vq) ?_
 refine ap ?_
 refine TO.pad ?_
 refine TO.DZ 0 rfl rfl AB (B4 rfl rfl rfl rfl underlying241 Mp aU z5 GH vq (Br BJ vq)) (fun v3=> ?_)
 refine ap ?_
 refine ac ?_
 refine co rfl (HO rfl vq vq AA) ?_
 refine ac ?_
 refine Fin.drop 0 (Fin.F7 (x/256) (IntKind.u8.wrap x) (h::t)  ((G2 hx0 AA hmu)) ⟨kq,⟨_,rfl,Pr.le_trans (At _ _) (Pr.le_of_eq rfl)⟩,kz⟩ (fun _ _ h=>h))
 have WJ:=h6
 refine ac ?_
 refine ap ?_
 refine Tr.ret (Fin.CR rfl (AO.cell 0 rfl rfl DG Cc rfl Lr) ?_)
 · exact JT
 refine ac ?_
 refine wk [35,4,3,2] rfl ?_
 refine ac ?_
 refine ap ?_
 refine Tr.ret (Fin.CR rfl (AO.cell 0 rfl rfl DG Cc rfl Lr) ?_)
 · exact JT
 refine ag ?_ ?_<;>intro h7 q7
 refine NB h7 rfl ?_
 refine cy h7 rfl (AD rfl underlying241 Mp vq vq AA (AX (k:=0) rfl)) ?_
 refine ac ?_
 refine wk [35,4,3,2] rfl ?_
 refine Tr.cn rfl ?_ ?_<;>intro h8 q8
 have WJ:=h8
 refine ac ?_
 refine ap ?_
 refine tp rfl (Eg rfl underlying3 underlying5 vq) ?_
 refine ap ?_
 refine TO.pad ?_
 refine TO.DZ 0 rfl rfl AB (B4 rfl rfl rfl rfl underlying241 Mp aU z5 GH vq (Br BJ vq)) (fun v4=> ?_)
 refine ap ?_
 refine ac ?_
 refine co rfl (HO rfl vq vq AA) ?_
 refine ac ?_
 refine Fin.drop 0 (Fin.F7 (x/256) (IntKind.u8.wrap x) (h::t)  ((G2 hx0 AA hmu)) ⟨kq,⟨_,rfl,Pr.le_trans (At _ _) (Pr.le_of_eq rfl)⟩,kz⟩ (fun _ _ h=>h))
 have WJ:=h8
 refine ac ?_
 refine ap ?_
 refine Tr.ret (Fin.CR rfl (AO.cell 0 rfl rfl DG Cc rfl Lr) ?_)
 · exact JT
 refine ac ?_
 refine wk [35,4,3,2] rfl ?_
 refine ac ?_
 refine ap ?_
 refine Tr.ret (Fin.CR rfl (AO.cell 0 rfl rfl DG Cc rfl Lr) ?_)
 · exact JT
 refine ag ?_ ?_<;>intro h9 q9
 refine NB h9 rfl ?_
 refine cy h9 rfl (AD rfl underlying241 Mp vq vq AA (AX (k:=0) rfl)) ?_
 refine ag ?_ ?_<;>intro h10 PC
 refine ac ?_
 refine wk [35,4,3,2] rfl ?_
 refine ac ?_
 refine ap ?_
 refine tp rfl (Eg rfl underlying3 underlying5 vq) ?_
 refine ap ?_
 refine TO.pad ?_
 refine TO.DZ 0 rfl rfl AB (B4 rfl rfl rfl rfl underlying241 Mp aU z5 GH vq (Br BJ vq)) (fun v5=> ?_)
 refine ap ?_
 refine ac ?_
 refine co rfl (HO rfl vq vq AA) ?_
 refine ac ?_
 refine Fin.drop 0 (Fin.F7 (x/256) (IntKind.u8.wrap x) (h::t)  ((G2 hx0 AA hmu)) ⟨kq,⟨_,rfl,Pr.le_trans (At _ _) (Pr.le_of_eq rfl)⟩,kz⟩ (fun _ _ h=>h))
 refine ag ?_ ?_<;>intro h11 Rt
 refine NB h11 rfl ?_
 refine cy h11 rfl (AD rfl underlying241 Mp vq vq AA (AX (k:=0) rfl)) ?_
 refine ac ?_
 refine wk [35,4,3,2] rfl ?_
 refine Tr.cn rfl ?_ ?_<;>intro h12 VQ
 have WJ:=h12
 refine ac ?_
 refine ap ?_
 refine tp rfl (Eg rfl underlying3 underlying5 vq) ?_
 refine ap ?_
 refine TO.pad ?_
 refine TO.DZ 0 rfl rfl AB (B4 rfl rfl rfl rfl underlying241 Mp aU z5 GH vq (Br BJ vq)) (fun v6=> ?_)
 refine ap ?_
 refine ac ?_
 refine co rfl (HO rfl vq vq AA) ?_
 refine ac ?_
 refine Fin.drop 0 (Fin.F7 (x/256) (IntKind.u8.wrap x) (h::t)  ((G2 hx0 AA hmu)) ⟨kq,⟨_,rfl,Pr.le_trans (At _ _) (Pr.le_of_eq rfl)⟩,kz⟩ (fun _ _ h=>h))
 have WJ:=h12
 refine ac ?_
 refine ap ?_
 refine Tr.ret (Fin.CR rfl (AO.cell 0 rfl rfl DG Cc rfl Lr) ?_)
 · exact JT
 refine ac ?_
 refine wk [35,4,3,2] rfl ?_
 refine ac ?_
 refine ap ?_
 refine Tr.ret (Fin.CR rfl (AO.cell 0 rfl rfl DG Cc rfl Lr) ?_)
 · exact JT
 refine ag ?_ ?_<;>intro Nv eE
 refine NB Nv rfl ?_
 refine cy Nv rfl (AD rfl underlying241 Mp vq vq AA (AX (k:=0) rfl)) ?_
 refine ac ?_
 refine wk [35,4,3,2] rfl ?_
 refine Tr.cn rfl ?_ ?_<;>intro Mo q14
 have WJ:=Mo
 refine ac ?_
 refine ap ?_
 refine tp rfl (Eg rfl underlying3 underlying5 vq) ?_
 refine ap ?_
 refine TO.pad ?_
 refine TO.DZ 0 rfl rfl AB (B4 rfl rfl rfl rfl underlying241 Mp aU z5 GH vq (Br BJ vq)) (fun v7=> ?_)
 refine ap ?_
 refine ac ?_
 refine co rfl (HO rfl vq vq AA) ?_
 refine ac ?_
 refine Fin.drop 0 (Fin.F7 (x/256) (IntKind.u8.wrap x) (h::t)  ((G2 hx0 AA hmu)) ⟨kq,⟨_,rfl,Pr.le_trans (At _ _) (Pr.le_of_eq rfl)⟩,kz⟩ (fun _ _ h=>h))
 have WJ:=Mo
 refine ac ?_
 refine ap ?_
 refine Tr.ret (Fin.CR rfl (AO.cell 0 rfl rfl DG Cc rfl Lr) ?_)
 · exact JT
 refine ac ?_
 refine wk [35,4,3,2] rfl ?_
 refine ac ?_
 refine ap ?_
 refine Tr.ret (Fin.CR rfl (AO.cell 0 rfl rfl DG Cc rfl Lr) ?_)
 · exact JT
theorem Ug {s:List UInt8} (hs:s.length≤1000):BC prog 261 [str s] (agg (Bf q0)):=by
 refine fo func261 rfl ⟨rfl,rfl⟩ fun M0 w0=>(Tr.seq (Tr.An ?_))
 refine Tl rfl rfl rfl rfl NK Kx (fun b1=> ?_)
 refine ap ?_
 refine ap ?_
 refine tp rfl (jK rfl underlying9 underlying241 underlying5 vq Fj) ?_
 refine ap ?_
 refine Tr.ret (Fin.CR rfl (AO.cell 0 rfl rfl DG Cc rfl Lr) ?_)
 · exact BR ⟨C4 _ _,Fi (m:=s.length) AA (Xj (f:=fun c:UInt8=>((c.toNat:Nat):Int))),Aw _ Lr,AQ 4,trivial⟩
theorem qc {b:Bool}  :BC prog 265 [bool b] (agg (Bf q0)):=by
 refine fo func265 rfl ⟨rfl,rfl⟩ fun M0 w0=>(Tr.seq (Tr.An ?_))
 refine Tl rfl rfl rfl rfl NK Kx (fun b1=> ?_)
 refine ap ?_
 refine an ?_ ?_<;>intro h1 q1
 refine ap ?_
 refine tp rfl (Al (rows:=[(0,[_]),(1,[_])]) rfl jJ Kx ⟨⟨rfl,N0⟩,⟨⟨rfl,⟨_,rfl,Pr.le_trans (B0 _ _) (Aa _)⟩⟩,trivial⟩⟩ rfl) ?_
 refine ap ?_
 refine Tr.ret (Fin.AE (Fin.CR rfl (AO.cell 0 rfl rfl DG Cc rfl Lr) ?_))
 · exact Zl
 refine ac ?_
 refine ap ?_
 refine tp rfl (Al (rows:=[(0,[_]),(1,[_])]) rfl jJ Kx ⟨⟨rfl,N0⟩,⟨⟨rfl,⟨_,rfl,Pr.le_trans (B0 _ _) (Aa _)⟩⟩,trivial⟩⟩ rfl) ?_
 refine ap ?_
 refine Tr.ret (Fin.CR rfl (AO.cell 0 rfl rfl DG Cc rfl Lr) ?_)
 · exact Zl
theorem NP {m:Nat} {q:Pr} [One q]  (hm:m≤20) (ih:m=0∨BC prog 291 [q] q):BC prog 291 [slice 4 (List.replicate m (Bf q))] (slice 4 (List.replicate m (Bf q))):=by
 refine BC.of func291 rfl rfl Ao fun M0 w0=> ?_
 have hlr:(List.replicate m (Bf q)).length=m:=List.length_replicate
 refine Tr.seq (Tr.Aj (cm rfl (Ch.nil (Fin.go (Tr.seq (Tr.Aj (cm rfl (Ch.nil (Fin.go (Tr.seq (Tr.seq (Tr.Aj (cm rfl ?_)))))))))))))
 refine Ch.nil (Fin.go (Tr.block (Tr.B5 285 4 (Tr.El [(0,_)] ⟨ke rfl,trivial⟩ (fun k v=>[(4,int ((k:Nat):Int)),(3,Af v (slice 4 (List.replicate k (Bf q))))]) (fun k v=>Hp M0 w0 Fa ([Au 285 4 v])) (fun k:Nat=>k≤((List.replicate m (Bf q)).length)) (fun k:Nat=>((List.replicate m (Bf q)).length)-k) 0 (.slice none 0 0) (Nat.zero_le _) ⟨ke rfl,⟨_,rfl,Bn rfl⟩,trivial⟩ (fun _ _ h=>h) ?_))))
 rintro k v BV
 refine Tr.seq (Tr.seq (Tr.Aj (cm rfl (cm rfl (co rfl (CE rfl underlying283 (vl rfl)) (co rfl (ki rfl rfl rfl rfl) (Ch.nil (Fin.go ?_))))))))
 refine Tr.cn rfl ?_ ?_<;>intro h1 q1
 have Ai:k<((List.replicate m (Bf q)).length):=AH h1
 have hkm:k<m:=by simpa using Ai
 have ih2:=ih.resolve_left AA
 refine Tr.skip (Fin.go (Tr.seq (Tr.block (Tr.seq (Tr.An (tm rfl (tm rfl (tp rfl (AD rfl underlying283 Cc (vl rfl) (vl rfl) AA (Jh hkm)) (tp rfl (AL rfl DG Cc (vl rfl) rfl rfl) ?_)))))))))
 refine Tl rfl rfl rfl rfl NK Kx (fun b1=> ?_)
 refine TO.AK 0 rfl rfl rfl (vl rfl) (Va rfl) rfl Cc rfl rfl (TO.nil (Fin.go (Tr.seq (Tr.An (tp rfl (AM (xs:=[]) (rows:=[]) rfl rfl underlying241 Mp z5 rfl AB trivial AB) (tp rfl (Ab rfl UL (vl rfl)) (TO.rd 0 rfl rfl rfl AB (BI rfl jI (vl rfl) rfl) ?_)))))))
 refine TO.ex 18 rfl (fun z18=>TO.fact 18 rfl fun AED=> ?_)
 refine TO.pad ?_
 refine TO.DZ 0 rfl rfl AB (B4 rfl rfl rfl rfl underlying241 Mp aU z5 (Kf rfl) (vl rfl) (Br BJ (vl rfl))) (fun v1=> ?_)
 refine tp rfl (Ab rfl UL (vl rfl)) (TO.Dr 1 rfl rfl (A_ rfl rfl (vl rfl) (Vo rfl) zR rfl Ao rfl) (TO.nil (Fin.go (UA 0 3 4 5 rfl (Tr.seq (Tr.An (tp rfl (Ab rfl MH (vl rfl)) (TO.rd 1 rfl rfl rfl AB (BI rfl UK (vl rfl) rfl) (tp rfl (AR rfl (ih2) ⟨ke rfl,trivial⟩) (tp rfl (Ab rfl MH (vl rfl)) (TO.Dr 1 rfl rfl (A_ rfl rfl (vl rfl) (Vo rfl) zT rfl Ao rfl) (TO.nil (Fin.go (Tr.An ?_))))))))))))))
 refine tm rfl (TO.rd 1 rfl rfl rfl AB (CM rfl DG Cc (vl rfl) rfl rfl) (tp rfl (AM (xs:=[.tmp 26]) (rows:=[Bf q]) rfl rfl underlying283 Cc NK rfl AB ⟨⟨Am,VL.le (vl rfl) (Pr.le_trans (BR (qs:=Bf q) ⟨Lr,Fi (m:=z18) AA (Pr.le_trans (At _ _) (Pr.le_of_eq rfl)),Lr,Lr,trivial⟩) (Ac _))⟩,trivial⟩ AB) ?_))
 refine TO.DZ 2 rfl rfl AB (B4 rfl rfl rfl rfl underlying283 Cc tI NK (Kb rfl) (Kf rfl) (Az BJ (Ka rfl))) (fun v2=> ?_)
 refine tm rfl (TO.nil (Fin.block (Fin.go (Tr.drop 1 (Tr.Aj (cm rfl (LH rfl rfl rfl rfl AA (cm rfl (Ch.nil (Fin.drop 0 (Fin.DQ (k+1) v2 (⟨Ai,by omega⟩) ⟨⟨_,rfl,AG k⟩,⟨_,rfl,BA (by rw [bD])⟩,ke rfl,trivial⟩ (fun _ _ h=>h))))))))))))
 have BL:k=((List.replicate m (Bf q)).length):=by have:=AJ h1;omega
 refine Tr.exit (Fin.Ag (Fin.Ag (Fin.BD (Fin.go (Tr.seq (Tr.Aj (cm rfl (cm rfl (Ch.nil (Fin.go (Tr.ret (Fin.Ki rfl (Bo.Dy _ _) rfl ?_))))))))))))
 · exact Pr.le_trans (At _ _) (Pr.le_of_eq (by rw [BL,hlr]))
theorem Uh {m:Nat} {q:Pr}  (hm:m≤20) (hc:BC prog 291 [slice 4 (List.replicate m (Bf q))] (slice 4 (List.replicate m (Bf q)))):BC prog 262 [slice 4 (List.replicate m (Bf q))] (agg (Bf (Jg (Bf q)))):=by
 refine fo func262 rfl ⟨rfl,rfl⟩ fun M0 w0=>(Tr.seq (Tr.An ?_))
 refine Tl rfl rfl rfl rfl NK Kx (fun b1=> ?_)
 refine ap ?_
 refine ap ?_
 refine tp rfl (Ck (hc) rfl rfl) ?_
 refine ap ?_
 refine Tr.ret (Fin.CR rfl (AO.cell 0 rfl rfl DG Cc rfl Lr) ?_)
 · exact BR ⟨C4 _ _,Fi (m:=0) AA (AQ 1),Aw _ Lr,Aw m (A8 hm Lr),trivial⟩
structure HB.vf (c:HB):Prop where
 s0:0≤c.Jc
 s1:c.Jc≤1099511627776
 iss:named c.NM=true
 sub:named c.KK=true
 nm:G0 c.names=true
 key:Kq c.R6 c.Ky 2=true
 k0:0≤c.CS
 k1:c.CS≤2147483648
 hash:Kq c.YT c.Qk 1=true
 sk0:0≤c.qR
 sk1:c.qR≤2147483648
 su0:0≤c.qS
 su1:c.qS<4294967296
 f0:0≤c.from_
 ft:c.from_≤c.NN
 t1:c.NN≤40000
 p0:0≤c.path
 p1:c.path≤8
 ap:c.auth=true∨c.path=0
theorem I4 {c:HB} (hv:D3 c=true):c.vf:=by
 simp only [D3,Hg,vN,Bool.and_eq_true,Bool.or_eq_true,decide_eq_true_eq,beq_iff_eq] at hv
 obtain ⟨⟨⟨⟨⟨⟨⟨h1,h2⟩,h3⟩,h4⟩,h5⟩,⟨⟨⟨⟨h6,⟨h7,h8⟩⟩,h9⟩,⟨h10,h11⟩⟩,⟨h12,Nv⟩⟩⟩,⟨⟨Mo,Vs⟩,h16⟩⟩,⟨⟨OL,Rr⟩,nZ⟩⟩:=hv
 exact ⟨h1,h2,h3,h4,h5,h6,h7,h8,h9,h10,h11,h12,Nv,Mo,Vs,h16,OL,Rr,nZ⟩
theorem bF {c:HB} (h:c.vf):D3 c=true:=by
 simp only [D3,Hg,vN,Bool.and_eq_true,Bool.or_eq_true,decide_eq_true_eq,beq_iff_eq]
 exact ⟨⟨⟨⟨⟨⟨⟨h.s0,h.s1⟩,h.iss⟩,h.sub⟩,h.nm⟩,⟨⟨⟨⟨h.key,⟨h.k0,h.k1⟩⟩,h.hash⟩,⟨h.sk0,h.sk1⟩⟩,⟨h.su0,h.su1⟩⟩⟩,⟨⟨h.f0,h.ft⟩,h.t1⟩⟩,⟨⟨h.p0,h.p1⟩,h.ap⟩⟩
theorem YX {a b k:Int} (h:Kq a b k=true):decide (Di a b>0)=true∧(Ed a).kind=k:=by
 unfold Kq at h;simpa using h
theorem Ui {l:List (List UInt8)} {k:Nat} {s:List UInt8} (h:nameAt l k=true) (hs:l[k]? =some s):named s=true:=by
 unfold nameAt at h;rw [hs] at h;simp at h;exact h.1
theorem bG {l:List (List UInt8)} {k:Nat} {s y:List UInt8} (h:nameAt l k=true) (hs:l[k]? =some s) (hy:l[k-1]? =some y) (hk:0<k):decide (Lib.compareBytes y s= -1)=true:=by
 unfold nameAt at h;rw [hs,hy] at h;simp at h
 rcases h.2 with h2|h2
 · omega
 · simpa using h2
theorem Sn {c:HB} (hv:D3 c=true):BC prog 188 [agg (DH c)] (int 0):=by
 refine fo func188 rfl ⟨rfl,rfl⟩ fun M0 w0=> ?_
 obtain ⟨hs0,hs1,vQ,hsub,hnm,hkey,hk0,hk1,tU,AEE,AEF,AEG,AEH,gX,hft,ht1,hp0,jR,hap⟩:=I4 hv
 obtain ⟨AAs,AAt⟩:=YX hkey
 obtain ⟨hh1,hh2⟩:=YX tU
 have NQ:=hnm
 unfold G0 at NQ
 rw [Bool.and_eq_true,B6,decide_eq_true_eq] at NQ
 obtain ⟨hall,AAu⟩:=NQ
 refine ac ?_
 refine ag ?_ ?_<;>intro h1 q1
 exfalso;have:=q1;omega
 refine ag ?_ ?_<;>intro h2 q2
 exfalso;have:=q2;omega
 refine ac ?_
 refine cy h2 rfl (Ck (Gf) rfl rfl) ?_
 refine ag ?_ ?_<;>intro h3 q3
 rw [vQ] at h3;exact absurd h3 AB
 refine ac ?_
 refine cy h3 rfl (Ck (Gf) rfl rfl) ?_
 refine ag ?_ ?_<;>intro h4 q4
 rw [hsub] at h4;exact absurd h4 AB
 refine ac ?_
 refine cy h4 rfl (Ck (Jf) rfl rfl) ?_
 refine ag ?_ ?_<;>intro h5 q5
 rw [AAs,AAt] at h5;exact absurd h5 AB
 refine ag ?_ ?_<;>intro h6 q6
 exfalso;have:=q6;omega
 refine ac ?_
 refine wk [39,1] rfl ?_
 refine Tr.cn rfl ?_ ?_<;>intro h7 q7
 exfalso;have:=q7;omega
 refine a2 ?_
 refine co rfl (Ck (Je) rfl rfl) ?_
 refine ag ?_ ?_<;>intro h8 q8
 rw [hh1] at h8;exact absurd h8 AB
 refine ac ?_
 refine cy h8 rfl (Ck (O1) rfl rfl) ?_
 refine ag ?_ ?_<;>intro h9 q9
 rw [hh2] at h9;exact absurd h9 AB
 refine ag ?_ ?_<;>intro h10 PC
 exfalso;have:=PC;omega
 refine ag ?_ ?_<;>intro h11 Rt
 exfalso;have:=Rt;omega
 refine ac ?_
 refine wk [67,1] rfl ?_
 refine Tr.cn rfl ?_ ?_<;>intro h12 VQ
 exfalso;have:=VQ;omega
 refine ac ?_
 refine ag ?_ ?_<;>intro Nv eE
 exfalso;have:=eE;omega
 refine ag ?_ ?_<;>intro Mo q14
 exfalso;have:=q14;omega
 refine ag ?_ ?_<;>intro Vs q15
 refine ag ?_ ?_<;>intro h16 q16
 exfalso;have:=q16;simp_all
 refine ac ?_
 refine wk [91,1] rfl ?_
 refine Tr.cn rfl ?_ ?_<;>intro OL q17
 exfalso;have:=q17;omega
 refine a2 ?_
 refine Tr.block (Tr.BE _ (kk [1] rfl) (fun k:Nat=>[(3,int ((k:Nat):Int))]) (fun k:Nat=>k≤(c.names).length) (fun k:Nat=>(c.names).length-k) 0 (Nat.zero_le _) kz ?_)
 rintro k BV
 refine an ?_ ?_<;>intro Rr q18
 have Ai:k<(c.names).length:=AH Rr
 obtain ⟨s,Ah⟩:=at_ Ai
 have hat:=hall k AA
 have hna:=Ui hat Ah
 refine a2 ?_
 refine co rfl (AD rfl underlying127 MF vq vq AA (AX Ah)) (co rfl (GX rfl OM rfl) (co rfl (Ck (Gf) rfl rfl) ?_))
 refine ag ?_ ?_<;>intro nZ q19
 exfalso;rw [hna] at nZ;exact absurd nZ AB
 refine ag ?_ ?_<;>intro Ru q20
 have LS:0<k:=by simpa using Ru
 obtain ⟨y,hy⟩:=at_ (l:=c.names) (k:=k-1) AA
 have hlt:=bG hat Ah hy LS
 refine ac ?_
 refine cy Ru rfl (AD rfl underlying127 MF vq vq AA K_) ?_
 refine ac ?_
 refine cy Ru rfl (AD rfl underlying127 MF vq vq AA (AX Ah)) (cy Ru rfl (GX rfl OM rfl) (cy Ru rfl (QZ rfl vq vq) ?_))
 refine ac ?_
 refine wk [123,3,1] rfl ?_
 refine Tr.cn rfl ?_ ?_<;>intro av q21
 exfalso;rw [hlt] at av;exact absurd av AB
 refine a2 ?_
 exact Fin.AP (k+1) ⟨Ai,by omega⟩ ⟨⟨_,rfl,AG k⟩,kz⟩
 refine ac ?_
 refine wk [123,3,1] rfl ?_
 refine a2 ?_
 exact Fin.AP (k+1) ⟨Ai,by omega⟩ ⟨⟨_,rfl,AG k⟩,kz⟩
 have BL:k=(c.names).length:=by have:=AJ Rr;omega
 refine ac ?_
 refine ag ?_ ?_<;>intro h22 q22
 exfalso;have:=q22;omega
 refine ag ?_ ?_<;>intro h23 q23
 exfalso;have:=q23;omega
 refine ag ?_ ?_<;>intro Mv q24
 exfalso;have:=q24;omega
 refine ac ?_
 refine wk [145] rfl ?_
 refine Tr.cn rfl ?_ ?_<;>intro h25 q25
 exfalso;have:=q25;omega
 refine a3 ?_
 · exact Lr
 refine ac ?_
 refine wk [91,1] rfl ?_
 refine Tr.cn rfl ?_ ?_<;>intro h26 q26
 exfalso;have:=q26;omega
 refine a2 ?_
 refine Tr.block (Tr.BE _ (kk [1] rfl) (fun k:Nat=>[(3,int ((k:Nat):Int))]) (fun k:Nat=>k≤(c.names).length) (fun k:Nat=>(c.names).length-k) 0 (Nat.zero_le _) kz ?_)
 rintro k BV
 refine an ?_ ?_<;>intro h27 q27
 have Ai:k<(c.names).length:=AH h27
 obtain ⟨s,Ah⟩:=at_ Ai
 have hat:=hall k AA
 have hna:=Ui hat Ah
 refine a2 ?_
 refine co rfl (AD rfl underlying127 MF vq vq AA (AX Ah)) (co rfl (GX rfl OM rfl) (co rfl (Ck (Gf) rfl rfl) ?_))
 refine ag ?_ ?_<;>intro h28 q28
 exfalso;rw [hna] at h28;exact absurd h28 AB
 refine ag ?_ ?_<;>intro gY q29
 have LS:0<k:=by simpa using gY
 obtain ⟨y,hy⟩:=at_ (l:=c.names) (k:=k-1) AA
 have hlt:=bG hat Ah hy LS
 refine ac ?_
 refine cy gY rfl (AD rfl underlying127 MF vq vq AA K_) ?_
 refine ac ?_
 refine cy gY rfl (AD rfl underlying127 MF vq vq AA (AX Ah)) (cy gY rfl (GX rfl OM rfl) (cy gY rfl (QZ rfl vq vq) ?_))
 refine ac ?_
 refine wk [123,3,1] rfl ?_
 refine Tr.cn rfl ?_ ?_<;>intro h30 q30
 exfalso;rw [hlt] at h30;exact absurd h30 AB
 refine a2 ?_
 exact Fin.AP (k+1) ⟨Ai,by omega⟩ ⟨⟨_,rfl,AG k⟩,kz⟩
 refine ac ?_
 refine wk [123,3,1] rfl ?_
 refine a2 ?_
 exact Fin.AP (k+1) ⟨Ai,by omega⟩ ⟨⟨_,rfl,AG k⟩,kz⟩
 have BL:k=(c.names).length:=by have:=AJ h27;omega
 refine ac ?_
 refine ag ?_ ?_<;>intro h31 q31
 exfalso;have:=q31;omega
 refine ag ?_ ?_<;>intro h32 q32
 exfalso;have:=q32;omega
 refine ag ?_ ?_<;>intro h33 q33
 exfalso;have:=q33;omega
 refine ac ?_
 refine wk [145] rfl ?_
 refine Tr.cn rfl ?_ ?_<;>intro h34 q34
 exfalso;have:=q34;omega
 refine a3 ?_
 · exact Lr
abbrev qd:Pr:=Cp.ex fun n:Int=>fact (0≤n∧n<4294967296) (is (.int .u32 n))
abbrev vR:Pr:=Cp.ex fun n:Int=>fact (0≤n∧n<4294967296) (int n)
theorem qg:Pr.le qd (GU .u32):=fun _ _ _ ⟨n,_,h⟩=>⟨n,h⟩
section
variable {P:Program} {I:Cb} {E:Env} {o:Oper}
theorem j5 {s t:TypeId} {x:Operand} {k k':IntKind} (ho:o.op= .convert s t x) (hs:P.underlying s=some (.int k)) (ht:P.underlying t=some (.int k')) (hx:VL E x (GU k)):Ad P I o E (GU k'):=
 Ad.same fun M w a he _=>by
  obtain ⟨n,h1⟩:=hx.ev he Ar
  have h1:a.eval x= .int k n:=h1
  refine ⟨.int k' (k'.wrap n),?_,_,rfl⟩
  simp [execOp,ho,h1,convert,run_underlying hs,run_underlying ht,Conv.intToInt,Sem.run_bind]
theorem qh {t u:TypeId} {x y:Operand} (ho:o.op= .binOp .mul t x y u) (hx:VL E x (GU .u32)) (hy:VL E y (GU .u32)):Ad P I o E qd:=
 Ad.same fun M w a he _=>by
  obtain ⟨m,h1⟩:=hx.ev he Ar
  obtain ⟨n,h2⟩:=hy.ev he Ar
  have h1:a.eval x= .int .u32 m:=h1
  have h2:a.eval y= .int .u32 n:=h2
  refine ⟨.int .u32 (IntKind.u32.wrap (m*n)),by simp [execOp,ho,h1,h2,eqGuard,binOp,Op.intArith],_,?_,rfl⟩
  rw [IntKind.wrap_u32];omega
theorem eI {s t:TypeId} {x:Operand} (ho:o.op= .convert s t x) (hs:P.underlying s=some (.int .u32)) (ht:P.underlying t=some (.int .i64)) (hx:VL E x qd):Ad P I o E vR:=
 Ad.same fun M w a he _=>by
  obtain ⟨n,hn,h1⟩:=hx.ev he Ar
  have h1:a.eval x= .int .u32 n:=h1
  refine ⟨.int .i64 (IntKind.i64.wrap n),?_,n,hn,by rw [Gc KA];rfl⟩
  simp [execOp,ho,h1,convert,run_underlying hs,run_underlying ht,Conv.intToInt,Sem.run_bind]
end
theorem BC.Jg {P:Program} {f:FuncId} {row:List Pr} (h:∀m,m≤20→BC P f [slice 4 (List.replicate m row)] (slice 4 (List.replicate m row))):BC P f [Go.Proofs.YtmocaapoeefgkaaGreatDoor.Jg row] (Go.Proofs.YtmocaapoeefgkaaGreatDoor.Jg row):=by
 refine ⟨(h 0 AA).1,fun M w vs hb hv=> ?_⟩
 match vs,hv with
 |[u0],gW=>
  obtain ⟨⟨m,hm,h0⟩,_⟩:=gW
  exact ((h m hm).2 M w [u0] hb ⟨h0,trivial⟩).mono fun e w' ⟨v,h1,h2,h3⟩=>⟨v,h1,⟨m,hm,h2⟩,h3⟩
theorem BC.Ee {P:Program} {f:FuncId} {B:Nat} {res:Pr} (h:∀m,m≤B→BC P f [bC m] res):BC P f [Go.Proofs.YtmocaapoeefgkaaGreatDoor.Ee B] res:=by
 refine ⟨(h 0 AA).1,fun M w vs hb hv=> ?_⟩
 match vs,hv with
 |[u0],gW=>
  obtain ⟨⟨m,hm,h0⟩,_⟩:=gW
  exact (h m hm).2 M w [u0] hb ⟨h0,trivial⟩
abbrev Mq:Pr:=Jg (Bf q0)
abbrev qA2:Pr:=Jg (Bf Mq)
theorem N2:Pr.le q0 Mq:=Aw 0 (A8 AA (Pr.le_refl _))
theorem rc0:BC Tryz.prog 291 [q0] q0:=NP (m:=0) (q:=q0) AA (.inl rfl)
theorem rc1 (m:Nat) (hm:m≤20):BC Tryz.prog 291 [slice 4 (List.replicate m (Bf q0))] (slice 4 (List.replicate m (Bf q0))):=NP hm (.inr rc0)
theorem rc2 (m:Nat) (hm:m≤20):BC Tryz.prog 291 [slice 4 (List.replicate m (Bf Mq))] (slice 4 (List.replicate m (Bf Mq))):=NP hm (.inr (BC.Jg rc1))
theorem rf0:BC Tryz.prog 258 [agg (Bf q0)] EE:=BC.j0 fun t b n hb=>NO (m:=0) (q:=q0) hb AA (.inl rfl)
theorem rf1:BC Tryz.prog 258 [agg (Bf Mq)] EE:=BC.Bf fun t b n m hb hm=>NO hb hm (.inr rf0)
theorem rf2:BC Tryz.prog 258 [agg (Bf qA2)] EE:=BC.Bf fun t b n m hb hm=>NO hb hm (.inr rf1)
theorem rd0:BC Tryz.prog 259 [agg (Bf q0)] (LQ 1):=BC.j0 fun t b n hb=>Qm (m:=0) (q:=q0) (D:=0) hb AA AA (.inl rfl)
theorem rd1:BC Tryz.prog 259 [agg (Bf Mq)] (LQ 2):=BC.Bf fun t b n m hb hm=>Qm hb hm AA (.inr rd0)
theorem rd2:BC Tryz.prog 259 [agg (Bf qA2)] (LQ 3):=BC.Bf fun t b n m hb hm=>Qm hb hm AA (.inr rd1)
theorem rp0:BC Tryz.prog 260 [agg (Bf q0)] (Ee 2002):=BC.j0 fun t b n hb=>YW (m:=0) (q:=q0) (B:=0) hb AA AA (.inl rfl)
theorem rp1:BC Tryz.prog 260 [agg (Bf Mq)] (Ee 82082):=BC.Bf fun t b n m hb hm=>YW (B:=2002) hb hm AA (.inr rp0)
theorem rp2:BC Tryz.prog 260 [agg (Bf qA2)] (Ee 3285282):=BC.Bf fun t b n m hb hm=>YW (B:=82082) hb hm AA (.inr rp1)
theorem rE2:BC Tryz.prog 225 [agg (Bf qA2)] (D7 [Ee 3285282,GU .i64]):=eH rf2 rd2 rp2
structure HB.YY (c:HB):Prop where
 Jc:c.Jc≤1099511627776
 CS:c.CS≤2147483648
 R6:0≤c.R6∧c.R6≤40000
 Ky:0≤c.Ky∧c.Ky≤40000
 YT:0≤c.YT∧c.YT≤40000
 Qk:0≤c.Qk∧c.Qk≤40000
theorem KO {s:List UInt8} (h:named s=true):s.length≤32:=by unfold named at h;simp at h;omega
theorem bH {a b:Int} (ha:0≤a∧a≤40000) (hb:0≤b∧b≤40000):BC prog 264 [agg [int a,int b]] (agg (Bf Mq)):=by
 refine fo func264 rfl ⟨rfl,rfl⟩ fun M0 w0=>(Tr.seq (Tr.An (tp rfl (BZ rfl (Va rfl)) ?_)))
 refine Tl rfl rfl rfl rfl NK Kx (fun b1=> ?_)
 refine ap ?_
 refine Tr.seq (Tr.rx ?_)
 refine ay ?_
 refine xo rfl (fun _=>Ck (LR AA) rfl rfl) ?_
 refine ay ?_
 refine xo rfl (fun _=>Ck (LR AA) rfl rfl) (xo rfl (fun _=>AM (xs:=[.tmp 5,.tmp 8]) (rows:=[_,_]) rfl rfl underlying283 Cc NK rfl AB ⟨⟨Am,(Va rfl)⟩,⟨⟨Am,(Va rfl)⟩,trivial⟩⟩ AB) ?_)
 refine xo rfl (fun _=>AR rfl (Uh (m:=2) (q:=q0) AA (rc1 _ AA)) ⟨(Kf rfl),trivial⟩) ?_
 refine Cx.Dr 0 rfl rfl (A_ rfl rfl (vl rfl) (Va rfl) Cc rfl Ao rfl) ?_
 refine Cx.nil ⟨by kernel_rfl,?_⟩
 refine BH.done al1 (Fin.go (Tr.ret (Fin.CR rfl (AO.cell 0 rfl rfl DG Cc rfl Lr) ?_)))
 · exact Lr
theorem WK {c:HB} (hv:D3 c=true) (ht:c.YY):BC prog 226 [agg (DH c)] (agg (Bf qA2)):=by
 refine fo func226 rfl ⟨rfl,rfl⟩ fun M0 w0=> ?_
 obtain ⟨hs0,hs1,vQ,hsub,hnm,hkey,hk0,hk1,tU,AEE,AEF,AEG,AEH,gX,hft,ht1,hp0,jR,hap⟩:=I4 hv
 obtain ⟨g1,g2,g3,g4,g5,g6⟩:=ht
 have NQ:=hnm
 unfold G0 at NQ
 rw [Bool.and_eq_true,B6,decide_eq_true_eq] at NQ
 obtain ⟨hall,AAu⟩:=NQ
 have aH:=KO vQ
 have nR:=KO hsub
 refine Tr.seq (Tr.An (tp rfl (BZ rfl (Va rfl)) ?_))
 refine Tl rfl rfl rfl rfl NK Kx (fun b1=> ?_)
 refine ap ?_
 refine a2 ?_
 refine Tr.block (Tr.B5 285 4 (Tr.El _ (kk [2,1] rfl) (fun k v=>[(4,int ((k:Nat):Int)),(3,Af v (slice 4 (List.replicate k (Bf q0))))]) (fun k v=>Hp M0 w0 Fa ([Au 285 4 v,AF true b1 285 (([.int .i64 0,.slice none 0 0,.bool false,.slice none 0 0]:List Value).map is)])) (fun k:Nat=>k≤(c.names).length) (fun k:Nat=>(c.names).length-k) 0 (.slice none 0 0) (Nat.zero_le _) ⟨ke rfl,⟨_,rfl,Bn rfl⟩,trivial⟩ (fun _ _ h=>h) ?_))
 rintro k v BV
 refine an ?_ ?_<;>intro h1 q1
 have Ai:k<(c.names).length:=AH h1
 obtain ⟨s,Ah⟩:=at_ Ai
 have hsn:=KO (Ui (hall k AA) Ah)
 refine ac ?_
 refine ap ?_
 refine tp rfl (AD rfl underlying127 MF (vl rfl) (vl rfl) AA CL) ?_
 refine tp rfl (GX rfl OM rfl) (tp rfl (Ck (Ug AA) rfl rfl) (tp rfl (AM (xs:=[.tmp 18]) (rows:=[_]) rfl rfl underlying283 Cc NK rfl AB ⟨⟨Am,(Va rfl)⟩,trivial⟩ AB) ?_))
 refine TO.DZ 0 rfl rfl AB (B4 rfl rfl rfl rfl underlying283 Cc tI NK (Kb rfl) (Kf rfl) (Az BJ (Ka rfl))) (fun v1=> ?_)
 refine ap ?_
 refine wk [4,3,2,1] rfl ?_
 refine ac ?_
 exact Fin.DQ (k+1) v1 (⟨Ai,by omega⟩) ⟨⟨_,rfl,AG k⟩,⟨_,rfl,BA (by rw [bD])⟩,kz⟩ (fun _ _ h=>h)
 have BL:k=(c.names).length:=by have:=AJ h1;omega
 refine ac ?_
 refine Tr.seq (Tr.rx ?_)
 refine ay ?_
 refine xo rfl (fun _=>Ck (LR AA) rfl rfl) ?_
 refine ay ?_
 refine xo rfl (fun _=>Ck (Ug AA) rfl rfl) ?_
 refine ay ?_
 refine xo rfl (fun _=>Ck (Ug AA) rfl rfl) ?_
 refine ay ?_
 refine xo rfl (fun _=>Ck (bH g3 g4) rfl rfl) ?_
 refine ay ?_
 refine xo rfl (fun _=>Ck (LR AA) rfl rfl) ?_
 refine ay ?_
 refine xo rfl (fun _=>Ck (bH g5 g6) rfl rfl) ?_
 refine ay ?_
 refine xo rfl (fun _=>Ck (LR AA) rfl rfl) ?_
 refine ay ?_
 refine xo rfl (fun _=>Ck (LR AA) rfl rfl) ?_
 refine ay ?_
 refine xo rfl (fun _=>Ck (qc) rfl rfl) ?_
 refine ay ?_
 refine xo rfl (fun _=>Ck (LR AA) rfl rfl) (xm rfl ?_)
 refine xo rfl (fun _=>AR rfl (Uh (m:=c.names.length) (q:=q0) AA (rc1 _ AA)) ⟨⟨_,rfl,Pr.le_trans (At _ _) (Pr.le_of_eq (by rw [BL]))⟩,trivial⟩) ?_
 refine xo rfl (fun _=>AM (xs:=[.tmp 23,.tmp 26,.tmp 29,.tmp 32,.tmp 35,.tmp 38,.tmp 41,.tmp 44,.tmp 47,.tmp 50,.tmp 52]) (rows:=[Bf Mq,Bf Mq,Bf Mq,Bf Mq,Bf Mq,Bf Mq,Bf Mq,Bf Mq,Bf Mq,Bf Mq,Bf Mq]) rfl rfl underlying283 Cc NK rfl AB ⟨⟨Am,VL.le (vl rfl) (Pr.le_trans (BR (qs:=Bf Mq) ⟨Lr,Lr,Lr,N2,trivial⟩) (Ac _))⟩,⟨⟨Am,VL.le (vl rfl) (Pr.le_trans (BR (qs:=Bf Mq) ⟨Lr,Lr,Lr,N2,trivial⟩) (Ac _))⟩,⟨⟨Am,VL.le (vl rfl) (Pr.le_trans (BR (qs:=Bf Mq) ⟨Lr,Lr,Lr,N2,trivial⟩) (Ac _))⟩,⟨⟨Am,VL.le (vl rfl) (Ac _)⟩,⟨⟨Am,VL.le (vl rfl) (Pr.le_trans (BR (qs:=Bf Mq) ⟨Lr,Lr,Lr,N2,trivial⟩) (Ac _))⟩,⟨⟨Am,VL.le (vl rfl) (Ac _)⟩,⟨⟨Am,VL.le (vl rfl) (Pr.le_trans (BR (qs:=Bf Mq) ⟨Lr,Lr,Lr,N2,trivial⟩) (Ac _))⟩,⟨⟨Am,VL.le (vl rfl) (Pr.le_trans (BR (qs:=Bf Mq) ⟨Lr,Lr,Lr,N2,trivial⟩) (Ac _))⟩,⟨⟨Am,VL.le (vl rfl) (Pr.le_trans (BR (qs:=Bf Mq) ⟨Lr,Lr,Lr,N2,trivial⟩) (Ac _))⟩,⟨⟨Am,VL.le (vl rfl) (Pr.le_trans (BR (qs:=Bf Mq) ⟨Lr,Lr,Lr,N2,trivial⟩) (Ac _))⟩,⟨⟨Am,VL.le (vl rfl) (Ac _)⟩,trivial⟩⟩⟩⟩⟩⟩⟩⟩⟩⟩⟩ AB) ?_
 refine xo rfl (fun _=>AR rfl (Uh (m:=11) (q:=Mq) AA (rc2 _ AA)) ⟨(Kf rfl),trivial⟩) ?_
 refine Cx.Dr 1 rfl rfl (A_ rfl rfl (vl rfl) (Va rfl) Cc rfl Ao rfl) ?_
 refine Cx.nil ⟨by kernel_rfl,?_⟩
 refine BH.done XT (Fin.go (wk [2] rfl (Tr.ret (Fin.CR rfl (AO.cell 1 rfl rfl DG Cc rfl Lr) ?_))))
 · exact Lr
theorem eJ {c:HB} (hv:D3 c=true) (ht:c.YY):BC prog 189 [agg (DH c)] (D7 [Ee 3285282,GU .i64]):=by
 refine fo func189 rfl ⟨rfl,rfl⟩ fun M0 w0=> ?_
 refine a2 ?_
 refine co rfl (Ck (Sn hv) rfl rfl) ?_
 refine an ?_ ?_<;>intro h1 q1
 exact absurd h1 AB
 refine a2 ?_
 refine co rfl (Ck (WK hv ht) rfl rfl) (co rfl (Ck (rE2) rfl rfl) ?_)
 refine ac ?_
 refine Tr.ret (Fin.Dc rfl (Bo.Dy _ _) rfl ?_ rfl ?_)
 · exact Lr
 · exact Lr
theorem bI {m:Nat} (hm:m≤100000000):BC prog 190 [bC m] (vR):=by
 refine fo func190 rfl ⟨rfl,rfl⟩ fun M0 w0=> ?_
 have hlr:(List.replicate m Sl).length=m:=List.length_replicate
 refine a3 ?_
 refine Tr.block (Tr.BE _ (kk [0] rfl) (fun k:Nat=>[(4,int ((k:Nat):Int)),(3,qd)]) (fun k:Nat=>k≤((List.replicate m Sl).length)) (fun k:Nat=>((List.replicate m Sl).length)-k) 0 (Nat.zero_le _) ⟨kq,⟨_,rfl,Aw _ (A8 AA Lr)⟩,trivial⟩ ?_)
 rintro k BV
 refine ac ?_
 refine co rfl (CE rfl underlying241 vq) ?_
 refine an ?_ ?_<;>intro h1 q1
 have Ai:k<((List.replicate m Sl).length):=AH h1
 have hkm:k<m:=by simpa using Ai
 refine a2 ?_
 refine co rfl (AD rfl underlying241 Mp vq vq AA (Jh hkm)) (co rfl (GX rfl yh rfl) (co rfl (j5 rfl underlying5 underlying180 vq) (co rfl (qJ AB rfl (VL.le vq qg) vq) (co rfl (qh rfl vq (VL.le vq (C4 _ _))) ?_))))
 refine ac ?_
 refine wk [4,3,0] rfl ?_
 refine ac ?_
 exact Fin.AP (k+1) ⟨Ai,by omega⟩ ⟨⟨_,rfl,AG k⟩,kz⟩
 have BL:k=((List.replicate m Sl).length):=by have:=AJ h1;omega
 refine a2 ?_
 refine co rfl (eI rfl underlying180 underlying3 vq) ?_
 refine a2 ?_
 · exact Lr
theorem j6 {c:HB} (hn:c.names.length≤1000):BC prog 187 [agg (DH c)] (agg (DH c)):=by
 refine fo func187 rfl ⟨rfl,rfl⟩ fun M0 w0=>(Tr.seq (Tr.An ?_))
 refine TO.Vi rfl rfl AB rfl Cm (fun b1=> ?_)
 refine Tl rfl rfl rfl rfl QV Kw (fun b2=> ?_)
 refine ap ?_
 refine ap ?_
 refine TO.pad ?_
 refine TO.DZ 0 rfl rfl AB (B4 rfl rfl rfl rfl underlying127 MF by9 z9 GH vq (Br BJ vq)) (fun v1=> ?_)
 refine ap ?_
 refine ap ?_
 refine Tr.drop 2 (Tr.ret (Fin.CR rfl (AO.cell 1 rfl rfl Fv C3 rfl Lr) ?_))
 · exact BR ⟨Lr,Lr,Lr,Lr,Lr,Lr,Lr,Lr,Lr,Lr,Lr,Lr,Pr.le_trans (At _ _) (Pr.le_of_eq AV),Lr,Lr,trivial⟩
abbrev Qo (c:HB) (key s:Int):HB:=⟨c.Jc,c.NM,c.KK,c.R6,c.Ky,c.CS,c.YT,c.Qk,c.from_,c.NN,c.auth,c.path,c.names,key,s⟩
theorem j7 {c:HB} {key:Int} (hv:D3 (Qo c 0 0)=true) (ht:(Qo c 0 0).YY) (hk:0≤key∧key≤2147483648):BC prog 147 [agg (DH c),int key] (Cp.ex fun s:Int=>fact (0≤s∧s<4294967296) (D7 [agg (DH (Qo c key s)),int 0])):=by
 refine BC.of func147 rfl rfl Ao fun M0 w0=> ?_
 have hnn:c.names.length≤1000:=by have:=(I4 hv).nm;unfold G0 at this;simp at this;omega
 refine Tr.seq (Tr.An ?_)
 refine TO.Vi rfl rfl AB rfl (Va rfl) (fun b1=> ?_)
 refine Tl rfl rfl rfl rfl QV Kw (fun b2=> ?_)
 refine tm rfl (TO.nil (Fin.go (Tr.seq (Tr.An (TO.rd 1 rfl rfl rfl AB (CM rfl Fv C3 (vl rfl) rfl rfl) ?_)))))
 refine tp rfl (AR rfl (j6 (c:=c) hnn) ⟨ke rfl,trivial⟩) ?_
 refine TO.AK 1 rfl rfl rfl (vl rfl) (Va rfl) rfl C3 rfl rfl (TO.nil (Fin.go (Tr.seq (Tr.An (tp rfl (Al (rows:=[]) rfl tC tD trivial rfl) (tp rfl (Ab rfl QW (vl rfl)) (TO.Dr 1 rfl rfl (A_ rfl rfl (vl rfl) (Va rfl) jH rfl Ao rfl) (TO.nil (Fin.go (Tr.seq (Tr.seq (Tr.Aj (co rfl (C7 1 rfl (CM rfl Fv C3 (vl rfl) rfl rfl)) ?_)))))))))))))
 refine co rfl (AR rfl (Sn (c:=Qo c 0 0) hv) ⟨ke rfl,trivial⟩) ?_
 refine co rfl (ki rfl rfl rfl rfl) (cm rfl ?_)
 refine Ch.cs 15 rfl ?_ ?_<;>intro h1 q1
 exact absurd h1 AB
 refine NB h1 rfl (cy h1 rfl (ki rfl rfl rfl rfl) (co rfl (Ou rfl rfl h1 rfl) (cm rfl ?_)))
 refine Ch.cs 19 rfl ?_ ?_<;>intro h2 q2
 exfalso;have:=q2;omega
 refine NB h2 rfl (cy h2 rfl (ki rfl rfl rfl rfl) (co rfl (Ou rfl rfl h2 rfl) (Ch.nil (Fin.go (UA 1 2 4 22 rfl ?_)))))
 refine Tr.cn rfl ?_ ?_<;>intro h3 q3
 exfalso;have:=q3;omega
 refine Tr.skip (Fin.go (Tr.seq (Tr.Aj (co rfl (C7 1 rfl (CM rfl Fv C3 (vl rfl) rfl rfl)) ?_))))
 refine co rfl (AR rfl (eJ (c:=Qo c 0 0) hv ht) ⟨ke rfl,trivial⟩) ?_
 refine cm rfl (co rfl (Ap rfl (vl rfl) rfl) (co rfl (Ap rfl (vl rfl) rfl) (cm rfl (cm rfl (Ch.nil (Fin.go (Tr.seq (Tr.An (tm rfl (tm rfl (tp rfl (AR rfl (BC.Ee fun m hm=>bI AA) ⟨ke rfl,trivial⟩) ?_)))))))))))
 refine TO.ex 31 rfl (fun z31=>TO.fact 31 rfl fun AEI=> ?_)
 refine tp rfl (Al (rows:=[(0,[_]),(1,[_])]) rfl tC tD ⟨⟨rfl,(Vo rfl)⟩,⟨⟨rfl,(Vo rfl)⟩,trivial⟩⟩ rfl) (tp rfl (Ab rfl QW (vl rfl)) (TO.Dr 1 rfl rfl (A_ rfl rfl (vl rfl) (Va rfl) jH rfl Ao rfl) (TO.nil (Fin.go (T_ 2 4 rfl (Tr.seq (Tr.An (TO.rd 1 rfl rfl rfl AB (CM rfl Fv C3 (vl rfl) rfl rfl) (TO.AK 0 rfl rfl rfl (vl rfl) (Va rfl) rfl C3 rfl rfl (tm rfl (TO.nil (Fin.go (Tr.drop 1 (Tr.ret ?_))))))))))))))
 refine Fin.BU rfl (AO.cell 0 rfl rfl Fv C3 rfl (Lr)) (AO.tmp rfl (Lr)) ?_
 · exact Aw z31 (A8 AEI (Lr))
abbrev K0 (name:List UInt8) (a b id to key s:Int):HB:=⟨id,[114,111,111,116],name,a,b,id,3,0,0,to,false,0,[name],key,s⟩
abbrev HP (name:List UInt8) (a b id to key s:Int):JL:=⟨a,b,id,[K0 name a b id to key s]⟩
abbrev tV (name:List UInt8) (a b id to key:Int):Pr:=Cp.ex fun s:Int=>fact (0≤s∧s<4294967296) (agg (G1 (HP name a b id to key s)))
theorem tW   :BC prog 89 [] (agg [int 5,int 2048]):=by
 refine fo func89 rfl ⟨rfl,rfl⟩ fun M0 w0=>(Tr.seq (Tr.An ?_))
 refine Tl rfl rfl rfl rfl KI EP (fun b1=> ?_)
 refine ap ?_
 refine ap ?_
 refine Tr.ret (Fin.CR rfl (AO.cell 0 rfl rfl I5 Kj rfl Lr) ?_)
 · exact Lr
theorem AEJ   :BC prog 93 [] (agg [int 7,int 256]):=by
 refine fo func93 rfl ⟨rfl,rfl⟩ fun M0 w0=>(Tr.seq (Tr.An ?_))
 refine Tl rfl rfl rfl rfl KI EP (fun b1=> ?_)
 refine ap ?_
 refine ap ?_
 refine Tr.ret (Fin.CR rfl (AO.cell 0 rfl rfl I5 Kj rfl Lr) ?_)
 · exact Lr
theorem YZ {name:List UInt8} {a b id to key:Int} (hv:D3 (K0 name a b id to 0 0)=true) (ht:(K0 name a b id to 0 0).YY) (hk:0≤key∧key≤2147483648):BC prog 88 [str name,agg [int a,int b],int id,int key,int to] (tV name a b id to key):=by
 refine fo func88 rfl ⟨rfl,rfl⟩ fun M0 w0=>(Tr.seq (Tr.An (tp rfl (BZ rfl Cm) ?_)))
 refine Tl rfl rfl rfl rfl VP R4 (fun b1=> ?_)
 refine ap ?_
 refine ap ?_
 refine tp rfl (Al (rows:=[(0,[_]),(1,[_]),(2,[_]),(3,_),(4,[_]),(5,_),(7,[_]),(10,[_])]) rfl zN Kw ⟨⟨rfl,N0⟩,⟨⟨rfl,N0⟩,⟨⟨rfl,N0⟩,⟨⟨rfl,Cm⟩,⟨⟨rfl,N0⟩,⟨⟨rfl,Cm⟩,⟨⟨rfl,N0⟩,⟨⟨rfl,⟨_,rfl,Pr.le_trans (B0 _ _) (Aa _)⟩⟩,trivial⟩⟩⟩⟩⟩⟩⟩⟩ rfl) (TO.re 20 (agg (DH (K0 name a b id to 0 0))) rfl (Pr.le_of_eq rfl) ?_)
 refine Tl rfl rfl rfl rfl QV Kw (fun b2=> ?_)
 refine ap ?_
 refine wk [11,10,6,3,2] rfl ?_
 refine ap ?_
 refine tp rfl (CK (j7 (c:=K0 name a b id to 0 0) hv ht hk) rfl rfl rfl) ?_
 refine TO.ex 24 rfl (fun z24=>TO.fact 24 rfl fun AEK=> ?_)
 refine ap ?_
 refine ap ?_
 refine tp rfl (Al (rows:=[(0,_),(1,[_]),(2,[_])]) rfl y7 R4 ⟨⟨rfl,Cm⟩,⟨⟨rfl,N0⟩,⟨⟨rfl,⟨_,rfl,Pr.le_trans (B0 _ _) (Aa _)⟩⟩,trivial⟩⟩⟩ rfl) ?_
 refine ap ?_
 refine Tr.drop 0 (wk [10] rfl (Tr.ret (Fin.CR rfl (AO.cell 0 rfl rfl Sd E6 rfl Lr) ?_)))
 · exact Aw z24 (A8 AEK Lr)
def Jj (s:DS) (l:List (List UInt8)):List UInt8:=(l[(s.val l.length).toNat]?).getD []
theorem WL {b:Nat} {s:DS} {l:List (List UInt8)} (hl:l≠[]) (hl2:l.length≤1000000000):Be prog 91 [ptr b 0,dW l] (str (Jj s l)) (DT b s) (fun _=>DT b s.Ca):=by
 refine Be.of func91 rfl rfl Ao fun M0 w0 S rs M1 w1=> ?_
 have hl0:1≤(l.length:Int):=by have:=List.length_pos_iff.2 hl;omega
 have hv:=s.C5 hl0
 obtain ⟨x,hx⟩:=at_ (l:=l) (k:=(s.val l.length).toNat) AA
 refine ac ?_
 refine ap ?_
 refine TO.IK 0 rfl rfl AB (Aq rfl rfl AB rfl (CX AA AA) ⟨kq,kz⟩) (tp rfl (AD rfl underlying127 MF vq vq AA (Bm hx)) ?_)
 refine ap ?_
 refine Tr.ret (Fin.GG [] rfl (AO.tmp rfl Lr) ?_ (fun _ _ _ _=>rfl))
 · refine Pr.le_of_eq ?_;unfold Jj;rw [hx];rfl
def FX:List (List UInt8):=[[97,112,112],[100,98],[119,101,98]]
def OQ:List (List Int):=[[10,8,2],[8,2],[2,10,8,3]]
def LU (i:Int):List Int:=(OQ[i.toNat]?).getD []
theorem qi {i:Int} (h:0≤i∧i<3):(OQ.map fun l=>[ints l])[i.toNat]? =some [ints (LU i)]:=by
 have hl:i.toNat<OQ.length:=by show i.toNat<3;omega
 unfold LU
 rw [List.getElem?_map,List.getElem?_eq_getElem hl];rfl
theorem WM {i:Int} (h:0≤i∧i<3):LU i∈OQ:=by
 have hl:i.toNat<OQ.length:=by show i.toNat<3;omega
 unfold LU
 rw [List.getElem?_eq_getElem hl];exact List.getElem_mem hl
structure Ya (i:Nat) (e:B7):Prop where
 name:FX[i]? =some e.name
 least:e.least=1
 most:e.most=3∨e.most=4
 Ay:e.Ay∈OQ∨∃l∈OQ,e.Ay=14::l
 ids:∃s:Int,(0≤s∧s<4294967296)∧e.ids=[HP e.name 5 2048 (100+(i:Nat)) 901 1 s]
 anchors:e.anchors=[1]
 hashes:e.hashes=[2,3]
def j8 (es:List B7):Prop:=∀(i:Nat) e,es[i]? =some e→Ya i e
theorem WN {es:List B7} {e:B7} (h:j8 es) (he:Ya es.length e):j8 (es++[e]):=by
 intro i x hx
 rcases Nat.lt_or_ge i es.length with hi|hi
 · rw [List.getElem?_append_left hi] at hx;exact h i x hx
 ·
  rcases Nat.eq_or_lt_of_le hi with hi|hi
  · subst hi;rw [List.getElem?_append_right (Nat.le_refl _),Nat.sub_self] at hx;simp at hx;subst hx;exact he
  · rw [List.getElem?_eq_none B9] at hx;cases hx
theorem Uj {nm:List UInt8} {k:Nat} (h:FX[k]? =some nm) {s:Int} (hs:0≤s∧s<4294967296) {key:Int} (hk:0≤key∧key≤2):D3 (K0 nm 5 2048 (100+(k:Nat)) 901 key s)=true:=by
 have hlt:k<3:=BN h
 have hn:named nm=true:=by
  have hm:=List.mem_of_getElem? h
  revert hm;unfold FX;intro hm;simp at hm
  rcases hm with rfl|rfl|rfl<;>decide
 refine bF ⟨?_,?_,by show named [114,111,111,116]=true;decide,hn,?_,by show Kq 5 2048 2=true;decide+kernel,?_,?_,by show Kq 3 0 1=true;decide+kernel,hk.1,?_,hs.1,hs.2,by show (0:Int)≤0;omega,by show (0:Int)≤901;omega,by show (901:Int)≤40000;omega,by show (0:Int)≤0;omega,by show (0:Int)≤8;omega,.inr rfl⟩
 · show 0≤(100:Int)+(k:Nat);omega
 · show (100:Int)+(k:Nat)≤_;omega
 ·
  show G0 [nm]=true
  unfold G0;rw [Bool.and_eq_true];refine ⟨B6.2 fun j hj=> ?_,by simp⟩
  have:j=0:=by simp at hj;omega
  subst this;unfold nameAt;simp [hn]
 · show 0≤(100:Int)+(k:Nat);omega
 · show (100:Int)+(k:Nat)≤_;omega
 · show key≤_;omega
theorem So {nm:List UInt8} {k:Nat} (h:k<3):(K0 nm 5 2048 (100+(k:Nat)) 901 0 0).YY:=
 ⟨by show (100:Int)+(k:Nat)≤1099511627776;omega,by show (100:Int)+(k:Nat)≤2147483648;omega,⟨by show (0:Int)≤5;omega,by show (5:Int)≤40000;omega⟩,⟨by show (0:Int)≤2048;omega,by show (2048:Int)≤40000;omega⟩,⟨by show (0:Int)≤3;omega,by show (3:Int)≤40000;omega⟩,⟨by show (0:Int)≤0;omega,by show (0:Int)≤40000;omega⟩⟩
theorem j9 {β:Type} {l:List β} {n k:Nat} {x:β} (h:(l.take n)[k]? =some x):l[k]? =some x:=by
 have hlt:=BN h
 rw [List.length_take] at hlt
 rw [List.getElem?_take,if_pos AA] at h;exact h
theorem j_ (i:Int):(LU i).length≤4:=by
 unfold LU
 cases h:OQ[i.toNat]? with
 |none=>show 0≤4;omega
 |some l=>
  have hm:=List.mem_of_getElem? h
  show l.length≤4
  unfold OQ at hm;simp at hm
  rcases hm with rfl|rfl|rfl<;>simp
theorem vS (s:DS):s.of [3,3,4]=3∨s.of [3,3,4]=4:=by have:=s.QK (l:=[3,3,4]) AV;simp at this;exact this
abbrev AAv:List (List Int):=OQ++OQ.map (14:: ·)
theorem Jk {i:Nat} {e:B7} (h:Ya i e):e.Ay∈AAv:=by
 rcases h.Ay with h|⟨l,h,h2⟩
 · exact List.mem_append_left _ h
 · rw [h2];exact List.mem_append_right _ (List.mem_map_of_mem h)
theorem Uk:∀l∈AAv,KM l=true∧l.length≤5:=by decide+kernel
theorem Ul:∀n∈FX,P3 n=true∧n.length≤3:=by decide+kernel
theorem qj:[2,3].all Ql=true:=by decide+kernel
theorem ql:Kq 5 2048 2=true:=by decide+kernel
theorem kA {nm:List UInt8} {k:Nat} {id:Int} (h:FX[k]? =some nm) (hid:id=100+(k:Nat)) {s:Int} (hs:0≤s∧s<4294967296):idB (HP nm 5 2048 id 901 1 s)=true:=by
 subst hid
 have hk:k<3:=BN h
 have hv:=Uj h hs (key:=1) AA
 have hk2:Hg (100+(k:Nat))=true:=by unfold Hg;simp;omega
 unfold idB Ua;simp only [ql,hk2,List.all_cons,List.all_nil,hv];simp
theorem qm {i:Nat} {e:B7} (h:Ya i e):bB e:=by
 have hn:=Ul _ (List.mem_of_getElem? h.name)
 have hs:=Uk _ (Jk h)
 obtain ⟨s,hs1,UY⟩:=h.ids
 have hm:=h.most;have hl:=h.least
 refine ⟨hn.1,by omega,by omega,by omega,hs.1,by rw [UY];simp,by rw [h.anchors];simp,by rw [h.anchors];decide,by rw [h.hashes];decide,?_,by rw [h.anchors];decide,by rw [h.hashes];exact qj⟩
 rw [UY];simp only [List.all_cons,List.all_nil,kA h.name rfl hs1,Bool.and_self]
theorem Sq {i:Nat} {e:B7} (h:Ya i e):e.fits:=by
 have hn:=Ul _ (List.mem_of_getElem? h.name)
 obtain ⟨s,hs1,UY⟩:=h.ids
 refine ⟨by unfold maxLen;omega,fun x hx c hc=> ?_⟩
 rw [UY] at hx;simp at hx;subst hx;simp at hc;subst hc
 exact ⟨by show 4≤maxLen;unfold maxLen;omega,by show e.name.length≤maxLen;unfold maxLen;omega,fun n hn2=>by simp at hn2;subst hn2;unfold maxLen;omega⟩
theorem Qp {i:Nat} {e:B7} (h:Ya i e):e.small:=by
 have hs:=Uk _ (Jk h)
 obtain ⟨s,hs1,UY⟩:=h.ids
 refine ⟨by omega,by rw [h.anchors];simp,by rw [h.hashes];simp,by rw [UY];simp,fun x hx=> ?_⟩
 rw [UY] at hx;simp at hx;subst hx
 exact ⟨by simp,fun c hc=>by simp at hc;subst hc;simp⟩
theorem kB:Bv.fits:=fun c hc=>by cases hc
theorem AAw {nm:List UInt8} (h:nm∈FX) {a b id key s:Int} (hab:(a=5∧b=2048)∨(a=7∧b=256)) (hid:0≤id∧id≤1000) (hs:0≤s∧s<4294967296) (hk:0≤key∧key≤2):D3 (K0 nm a b id 901 key s)=true:=by
 have hn:named nm=true:=by
  revert h;unfold FX;intro hm;simp at hm
  rcases hm with rfl|rfl|rfl<;>decide
 have hof:Kq a b 2=true:=by rcases hab with ⟨rfl,rfl⟩|⟨rfl,rfl⟩<;>decide+kernel
 refine bF ⟨?_,?_,by show named [114,111,111,116]=true;decide,hn,?_,hof,?_,?_,by show Kq 3 0 1=true;decide+kernel,hk.1,?_,hs.1,hs.2,by show (0:Int)≤0;omega,by show (0:Int)≤901;omega,by show (901:Int)≤40000;omega,by show (0:Int)≤0;omega,by show (0:Int)≤8;omega,.inr rfl⟩
 · show 0≤id;omega
 · show id≤_;omega
 ·
  show G0 [nm]=true
  unfold G0;rw [Bool.and_eq_true];refine ⟨B6.2 fun j hj=> ?_,by simp⟩
  have:j=0:=by simp at hj;omega
  subst this;unfold nameAt;simp [hn]
 · show 0≤id;omega
 · show id≤_;omega
 · show key≤_;omega
theorem AAx {nm:List UInt8} {a b id:Int} (hab:(a=5∧b=2048)∨(a=7∧b=256)) (hid:0≤id∧id≤1000):(K0 nm a b id 901 0 0).YY:=
 ⟨by show id≤1099511627776;omega,by show id≤2147483648;omega,⟨by show (0:Int)≤a;omega,by show a≤40000;omega⟩,⟨by show (0:Int)≤b;omega,by show b≤40000;omega⟩,⟨by show (0:Int)≤3;omega,by show (3:Int)≤40000;omega⟩,⟨by show (0:Int)≤0;omega,by show (0:Int)≤40000;omega⟩⟩
structure AEL (es:List B7) (c:BW):Prop where
 lo:0≤c.AW
 hi:c.AW<(es.length:Nat)
 kind:1≤c.kind∧c.kind≤12
 fits:c.Cr.fits
 small:c.Cr.small
abbrev vT (nm:List UInt8) (a b id to key:Int):Pr:=Cp.ex fun s:Int=>fact (0≤s∧s<4294967296) (Kz [K0 nm a b id to key s])
theorem AAy {nm:List UInt8} (h:nm∈FX) {a b id key s:Int}:(HP nm a b id 901 key s).fits∧(HP nm a b id 901 key s).small:=by
 have hn:=(Ul _ h).2
 refine ⟨fun c hc=> ?_,⟨by simp,fun c hc=>by simp at hc;subst hc;simp⟩⟩
 simp at hc;subst hc
 exact ⟨by show 4≤maxLen;unfold maxLen;omega,by show nm.length≤maxLen;unfold maxLen;omega,fun n hn2=>by simp at hn2;subst hn2;unfold maxLen;omega⟩
end Go.Proofs.YtmocaapoeefgkaaGreatDoor
