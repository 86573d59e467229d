/-
  Part 3 of the texts that prove this claim, merged.
-/
import Derived.Test.YtmocaapoeefgkaaGreatDoorRows
import Derived.Test.YtmocaapoeefgkaaGreatDoorRcUP2
set_option linter.all false
set_option maxRecDepth 40000
set_option maxHeartbeats 16000000
namespace Cp
open Go Go.RowKit Go.Great
section
variable {P:Program} {L:Lg P} {n:Fm} {fz:Nat} {E:Env} {I:Ck} {Q:Exit→Act→World→Prop} {ops:Array Oper} {o:Oper} {r:List Oper} {g j:Nat} {b want:Bool}
theorem TO.cases (g:Nat) {b:Bool} {l:List Oper} (_hb:E.lookup g=some (bool b)) (ht:b=true→TO P n ops l E I Q) (hf:b=false→TO P n ops l E I Q):TO P n ops l E I Q:=by
 cases b
 · exact hf rfl
 · exact ht rfl
theorem TO.ABY (hg:o.guard=some (j,want)) (hj:(ops[j]?).bind (·.dst)=some g) (hb:E.lookup g=some (bool b)) (Mg:b=want) (h:∀(K:Act→World→Prop) M w (a:Act),a.tmps.size=n.sz→a.defers=n.df→FY M w E a→I.h M w→
  (∀E' I' a' w',TO P n ops r E' I' Q→St n E' I' a' w'→K a' w')→o.wp P a w K Q):TO P n ops (o::r) E I Q:=by
 intro k hl a w hs
 have h0:ops[k]? =some o:=by simpa using (hl 0).symm
 obtain ⟨M,hn,hd,he,hI⟩:=hs
 simp only [List.length_cons,List.range'_succ,wpS,h0]
 have hy:=Iz (M:=M) (w:=w) (b:=some b) hj (he g _ hb)
 rw [Hl hg hy,if_pos (by simp [Mg])]
 exact (h _ M w a hn hd he hI fun E' I' a' w' hT hst=>hT (k+1) (fun j=>by have:=hl (j+1);simpa [Nat.add_assoc,Nat.add_comm 1 j] using this) a' w' hst)
theorem TO.Fx {d:Nat} {p:Pr} (hg:o.guard=some (j,want)) (hj:(ops[j]?).bind (·.dst)=some g) (hb:E.lookup g=some (bool b)) (Mg:b=want) (hd:o.dst=some d) (hn:d<n) (h:Ag P I o E p) (k:TO P n ops r ((d,p)::E) I Q):TO P n ops (o::r) E I Q:=
 TO.ABY hg hj hb Mg fun K M w a h1 h2 h3 h4 hK=>by
  refine G_ (h M w a (CX h3) h4) fun v w' hv hb'=>hK _ _ _ _ k ⟨M,?_,?_,?_,I.st _ _ _ hb' h4⟩
  · rw [B9];exact h1
  · rw [put_defers];exact h2
  ·
   have:=h3.put (o:=o) (p:=p) hb' hv (fun d' hd'=>by rw [hd] at hd';cases hd';rw [h1];exact hn)
   rw [show upd o p E=(d,p)::E by unfold upd;rw [hd]] at this;exact this
theorem TO.VX {d:Nat} (hg:o.guard=some (j,want)) (hj:(ops[j]?).bind (·.dst)=some g) (hb:E.lookup g=some (bool b)) (Mg:b≠want) (hd:o.dst=some d) (hn:d<n) (kk:TO P n ops r ((d,is undef)::E) I Q):TO P n ops (o::r) E I Q:=by
 intro k hl a w hs
 have h0:ops[k]? =some o:=by simpa using (hl 0).symm
 obtain ⟨M,h1,h2,he,hI⟩:=hs
 simp only [List.length_cons,List.range'_succ,wpS,h0]
 have hy:=Iz (M:=M) (w:=w) (b:=some b) hj (he g _ hb)
 rw [Hl hg hy,if_neg (by simp [Mg])]
 refine kk (k+1) (fun j=>by have:=hl (j+1);simpa [Nat.add_assoc,Nat.add_comm 1 j] using this) _ w ⟨M,by rw [B9];exact h1,by rw [put_defers];exact h2,?_,hI⟩
 have:=he.put (o:=o) (p:=is undef) (v:=undef) (Below.refl w.heap.size w) rfl (fun d' hd'=>by rw [hd] at hd';cases hd';rw [h1];exact hn)
 rw [show upd o (is undef) E=(d,is undef)::E by unfold upd;rw [hd]] at this;exact this
variable {M0:Av} {w0:World} {S:Nat→Prop} {rs:List At}
theorem TO.lZ {d:Nat} {p:Pr} (i:Nat) {R:At} {R':At} (hg:o.guard=some (j,want)) (hj:(ops[j]?).bind (·.dst)=some g) (hb:E.lookup g=some (bool b)) (Mg:b=want) (hR:rs[i]? =some R) (hd:o.dst=some d) (hn:d<n) (h:DI P M0 w0 S n i (SR.c R) (SR.c R') { o with guard:=none } E p)
  (k:TO P n ops r ((d,p)::E) (Hp M0 w0 S (rs.set i R')) Q):TO P n ops (o::r) E (Hp M0 w0 S rs) Q:=
 TO.ABY hg hj hb Mg fun K M w a hsz hdf he hI hK=>by
  have hw : ({ o with guard := none } : Oper).wp P a w K Q := Mk (h.2 M w a rs hsz (CX he) hI hR) fun v w' M' hv hx WS => hK _ _ _ _ k ⟨M', by rw [B9]; exact hsz, by rw [put_defers]; exact hdf, by
   intro s q hq
   simp only [List.lookup] at hq
   by_cases hs:s=d
   · subst hs;simp at hq;subst hq;show p.h M' w' ((a.put o.dst v).tmps.getD s undef);rw [hd,B6 G8];exact hv
   · rw [show (s==d)=false by simpa using hs] at hq;show q.h M' w' ((a.put o.dst v).tmps.getD s undef);rw [hd,BZ hs];exact q.st _ _ _ _ _ hx (he s q hq),WS⟩
  exact hw
end
section
variable {P:Program} {L:Lg P} {E:Env} {I:Ck} {o:Oper}
end
class T1 (P:Program) (t:TypeId):Prop where
 h:EW P t=true
class TA (P:Program) (t:TypeId):Prop where
 h:Fa P t=true
class TZ (P:Program) (t:TypeId) (m:outParam Nat):Prop where
 h:BB P t=some m
class TF (P:Program) (s f:Nat) (k:outParam Nat):Prop where
 h:Ab P s f=some k
class TU (P:Program) (t:TypeId) (d:outParam TypeDesc):Prop where
 h:P.underlying t=some d
class TB (P:Program) (t:TypeId) (place:outParam (Nat→Option (Nat×Nat))) (zs:outParam (List Value)):Prop where
 h:∀ps,P.built t ps=Instr.fill place zs.toArray ps
 z:zs.all (·.oneCell')=true
class TV (P:Program) (t:TypeId) (zs:outParam (List Value)):Prop where
 h:Ba P t=some zs
 z:zs.all (·.oneCell')=true
class TM (P:Program):Prop where
 h:P.follows .mixedOrders=true
section
variable {P:Program} {L:Lg P} {n:Fm} {fz:Nat} {I:Ck} {ops:Array Oper} {o:Oper} {r:List Oper} {E:Env} {K:Env→Prop} {d g j:Nat} {b want:Bool} {p:Pr} {x y:Operand} {Q:Exit→Act→World→Prop} {t u:TypeId}
theorem AE4 [i:T1 P t] {ps:List Pr} (ho:o.op= .load t x) (hx:C_ E x=some (ref (p::ps))):Ag P I o E p:=DB ho i.h (vl hx)
theorem AE5 [i:TA P t] {m:Nat} [z:TZ P t m] {ps qs:List Pr} (ho:o.op= .load t x) (hx:C_ E x=some (ref ps)) (hq:ps.take m=qs) (hm:qs.length=m):Ag P I o E (agg qs):=AP ho i.h z.h (vl hx) hq hm
theorem AE6 {s:TypeId} {f k:Nat} [i:TF P s f k] {ps qs:List Pr} (ho:o.op= .fieldAddr s x f) (hx:C_ E x=some (ref ps)) (hq:ps.drop k=qs):Ag P I o E (ref qs):=Et ho i.h (vl hx) hq
theorem AE7 {s:TypeId} {f k:Nat} [i:TF P s f k] {b off:Nat} (ho:o.op= .fieldAddr s x f) (hx:C_ E x=some (ptr b off)):Ag P I o E (ptr b (off+k)):=AW ho i.h (vl hx)
theorem AE8 {e:TypeId} [i:TU P t (.slice e)] {sz:Nat} {β:Type} {f:β→List Pr} {l:List β} (ho:o.op= .call { callee:= .builtin .len,args:= #[x],argTypes:= #[t] }) (hx:C_ E x=some (slice sz (l.map f))):Ag P I o E (int ((l.length:Nat):Int)):=CB ho i.h (vl hx)
theorem AE9 [i:TU P t .string] {a:List UInt8} (ho:o.op= .call { callee:= .builtin .len,args:= #[x],argTypes:= #[t] }) (hx:C_ E x=some (str a)):Ag P I o E (int ((a.length:Nat):Int)):=sV ho i.h (vl hx)
theorem AE_ [i:TU P t .bool] {b c:Bool} (ho:o.op= .binOp .eql t x y u) (hx:C_ E x=some (bool b)) (hy:C_ E y=some (bool c)):Ag P I o E (bool (b==c)):=wm ho i.h (vl hx) (vl hy)
theorem AFA {p:Pr} [One p] (ho:o.op= .box t x) (hx:C_ E x=some p):Ag P I o E (ref [p]):=Bb ho (VL.le (vl hx) (AY p))
theorem AFB {ps:List Pr} (ho:o.op= .box t x) (hx:C_ E x=some (agg ps)):Ag P I o E (ref ps):=Bb ho (VL.le (vl hx) (Ae ps))
class CP (p:Pr) (ps:outParam (List Pr)):Prop where
 h:Pr.le p (Cv ps)
instance AFC (ps:List Pr):CP (agg ps) ps:=⟨Ae ps⟩
instance (priority:=low) AFD (p:Pr) [One p]:CP p [p]:=⟨AY p⟩
class CQ (p:Pr) (ps:outParam (List Pr)):Prop where
 h:Pr.le p (Cv ps)
instance AFE (ps:List Pr):CQ (agg ps) ps:=⟨Ae ps⟩
instance AFF (k:IntKind) (n:Int):CQ (is (.int k n)) [is (.int k n)]:=⟨AY _⟩
instance ADj (b:Bool):CQ (is (.bool b)) [is (.bool b)]:=⟨AY _⟩
instance AFG (s:ByteArray):CQ (is (.string s)) [is (.string s)]:=⟨AY _⟩
instance AFH (a:Option Addr):CQ (is (.pointer a)) [is (.pointer a)]:=⟨AY _⟩
instance ABZ (sz:Nat) (rows:List (List Pr)):CQ (slice sz rows) [slice sz rows]:=⟨AY _⟩
instance AFI (ps:List Pr):CQ (ref ps) [ref ps]:=⟨AY _⟩
instance AGm (f:Fn) (ps:List Pr):CQ (fn f ps) [fn f ps]:=⟨AY _⟩
theorem vf0:Y8 E [] []:=trivial
theorem vf1 {i:Nat} {q:Pr} {row:List Pr} [c:CQ q row] {xs:List (Nat×Operand)} {rows:List (Nat×List Pr)} (hx:C_ E x=some q) (h:Y8 E xs rows):Y8 E ((i,x)::xs) ((i,row)::rows):=⟨⟨rfl,VL.le (vl hx) c.h⟩,h⟩
theorem vr0 {sz:Nat}:U_ E sz [] []:=trivial
theorem vr1 {sz:Nat} {q:Pr} {row:List Pr} [c:CQ q row] {xs:List Operand} {rows:List (List Pr)} (hx:C_ E x=some q) (hl:row.length=sz) (h:U_ E sz xs rows):U_ E sz (x::xs) (row::rows):=⟨⟨hl,VL.le (vl hx) c.h⟩,h⟩
theorem AFJ {parts:Array (Nat×Operand)} {place:Nat→Option (Nat×Nat)} {zs:List Value} [i:TB P t place zs] {rows:List (Nat×List Pr)} {qs:List Pr} (ho:o.op= .build t parts) (hx:Y8 E parts.toList rows) (hq:TQ place (zs.map is) rows=some qs):Ag P I o E (agg qs):=Ak ho i.h i.z hx hq
theorem AFK {e:TypeId} {sz m:Nat} {zs:List Value} {xs:List Operand} {parts:Array (Nat×Operand)} {rows:List (List Pr)} [i:TU P t (.slice e)] [z:TZ P e sz] [v:TV P e zs] (ho:o.op= .buildSlice t m parts) (hp:parts.toList.map Prod.snd=xs) (hm:(m==xs.length&&(parts.toList.map Prod.fst==List.range m)&&zs.length==sz&&Nat.blt 0 sz&&Nat.ble (m*sz) 16777216)=true) (hx:U_ E sz xs rows):Ag P I o E (full sz rows):=by
 simp only [Bool.and_eq_true,beq_iff_eq,Nat.blt_eq,Nat.ble_eq] at hm
 obtain ⟨⟨⟨⟨h1,h2⟩,h3⟩,h4⟩,h5⟩:=hm
 subst h1
 refine AO ho ?_ i.h z.h v.h h3 h4 hx h5
 refine List.ext_getElem (by rw [←hp];simp) fun k h6 h7=> ?_
 have h8:k<xs.length:=by simpa using h7
 simp only [List.getElem_map,List.getElem_zipIdx,Nat.zero_add]
 have e1:(parts.toList.map Prod.fst)[k]'(by simpa using h6)=k:=by simp only [h2];exact List.getElem_range _
 have e2:(parts.toList.map Prod.snd)[k]'(by simpa using h6)=xs[k]:=by simp only [hp]
 simp only [List.getElem_map] at e1 e2
 exact Prod.ext e1 e2
section
variable {M0:Av} {w0:World} {S:Nat→Prop} {b off:Nat} {T:TypeId} {new:Bool} {ps qs:List Pr} {m:Nat} {q:Pr}
theorem L4 [i:T1 P t] (ho:o.op= .load t x) (hx:C_ E x=some (ptr b off)) (hp:ps[off]? =some p):Lu P M0 w0 S j (SR.c (AF new b T ps)) o E p:=BI ho i.h (vl hx) hp
theorem L5 [i:TA P t] [z:TZ P t m] (ho:o.op= .load t x) (hx:C_ E x=some (ptr b off)) (hq:(ps.drop off).take m=qs) (hm:qs.length=m):Lu P M0 w0 S j (SR.c (AF new b T ps)) o E (agg qs):=B0 ho i.h z.h (vl hx) hq hm
theorem XD {ps':List Pr} [z:TZ P t m] [c:CP q qs] (hg:o.guard=none) (ho:o.op= .store t x y) (hx:C_ E x=some (ptr b off)) (hy:C_ E y=some q) (hm:qs.length=m:=by rfl) (hl:Nat.ble (off+m) ps.length=true:=by rfl) (hps:ps.take off++qs++ps.drop (off+m)=ps':=by rfl):DI P M0 w0 S n j (SR.c (AF new b T ps)) (SR.c (AF new b T ps')) o E any:=A0 hg ho (vl hx) (VL.le (vl hy) c.h) z.h hm (Nat.le_of_ble_eq_true hl) hps
variable {rs:List At}
theorem sf (i s:Nat) [z:TZ P t m] [c:CP q qs] (hg:o.guard=none∧o.dst=none∧o.op= .store t x y) (hx:C_ E x=some (ptr b 0)) (hy:C_ E y=some q) (hi:rs[i]? =some (AF true b T ps)) (hs:E.lookup s=some (ptr b 0))
  (k:TO P n ops r ((s,ref qs)::E) (Hp M0 w0 S ((rs.set i (AF true b T qs)).eraseIdx i)) Q) (hm:qs.length=m:=by rfl) (hl:ps.length=m:=by rfl):TO P n ops (o::r) E (Hp M0 w0 S rs) Q:=
 TO.AK i hg.1 hg.2.1 hg.2.2 (vl hx) (VL.le (vl hy) c.h) hi z.h hm hl (TO.freeze (ps:=qs) i s (by
  have hlt:i<rs.length:=by rcases Nat.lt_or_ge i rs.length with h|h;exact h;rw [List.getElem?_eq_none h] at hi;cases hi
  rw [List.getElem?_set_self hlt]) hs k)
theorem sa (i:Nat) [z:TZ P t m] [c:CP q qs] (hg:o.guard=none∧o.dst=none∧o.op= .store t x y) (hx:C_ E x=some (ptr b 0)) (hy:C_ E y=some q) (hi:rs[i]? =some (AF new b T ps))
  (k:TO P n ops r E (Hp M0 w0 S (rs.set i (AF new b T qs))) Q) (hm:qs.length=m:=by rfl) (hl:ps.length=m:=by rfl):TO P n ops (o::r) E (Hp M0 w0 S rs) Q:=TO.AK i hg.1 hg.2.1 hg.2.2 (vl hx) (VL.le (vl hy) c.h) hi z.h hm hl k
end
def opk (o:Oper):Nat:=match o.op with
 | .move ..=>1
 | .assign ..=>1
 | .fieldAddr ..=>2
 | .load ..=>3
 | .binOp .add ..=>7
 | .binOp .sub ..=>8
 | .binOp ..=>4
 | .pick ..=>5
 | .nilCheck ..=>6
 | .call { callee:= .builtin .len,.. }=>9
 | .unOp ..=>10
 | .box ..=>11
 | .extract ..=>12
 | .makeFunc ..=>13
 | .build ..=>14
 | .buildSlice ..=>15
 | .store ..=>16
 |_=>0
def ABa (o:Oper):Bool:=o.guard.isNone
def grp (o:Oper):Nat:=if opk o=0 then 0 else if opk o<5 then 1 else if opk o<9 then 2 else if opk o<16 then 3 else 4
theorem AFL {m z:Int} (ho:o.op= .binOp .add t x y u) (hx:C_ E x=some (int m)) (hy:C_ E y=some (int z)) (hr: -9223372036854775808≤m+z∧m+z≤9223372036854775807):Ag P I o E (int (m+z)):=Ek ho (vl hx) (vl hy) hr
theorem AFM {m z:Int} (ho:o.op= .binOp .sub t x y u) (hx:C_ E x=some (int m)) (hy:C_ E y=some (int z)) (hr: -9223372036854775808≤m-z∧m-z≤9223372036854775807):Ag P I o E (int (m-z)):=Y1 ho (vl hx) (vl hy) hr
theorem oF (h:Ag P I o E p:=by first|exact AE6 rfl rfl rfl|exact AE7 rfl rfl):Ag P I o E p:=h
theorem oL (h:Ag P I o E p:=by first|exact AE4 rfl rfl|exact AE5 rfl rfl rfl rfl|exact Cg 0 rfl (L4 rfl rfl rfl)|exact Cg 0 rfl (L5 rfl rfl rfl rfl)|exact Cg 1 rfl (L4 rfl rfl rfl)|exact Cg 1 rfl (L5 rfl rfl rfl rfl)|exact Cg 2 rfl (L4 rfl rfl rfl)|exact Cg 2 rfl (L5 rfl rfl rfl rfl)|exact Cg 3 rfl (L4 rfl rfl rfl)|exact Cg 3 rfl (L5 rfl rfl rfl rfl)|exact Cg 4 rfl (L4 rfl rfl rfl)|exact Cg 4 rfl (L5 rfl rfl rfl rfl)):Ag P I o E p:=h
theorem oB (h:Ag P I o E p:=by first|exact ki rfl rfl rfl rfl|exact xW rfl (vl rfl) (vl rfl)|exact xX rfl (vl rfl) (vl rfl)|exact AE_ rfl rfl rfl):Ag P I o E p:=h
theorem oP (h:Ag P I o E p:=by first|exact Pk rfl rfl (by first|rfl|assumption) rfl|exact LS rfl rfl (by first|rfl|assumption) rfl|exact gD rfl (vl rfl) (vl rfl)|exact ZO rfl (vl rfl) (vl rfl)):Ag P I o E p:=h
theorem oN (h:Ag P I o E p:=by first|exact EN rfl (vl rfl)|exact Gi rfl (vl rfl)|exact HC rfl (vl rfl)):Ag P I o E p:=h
theorem oA (h:Ag P I o E p:=by first|exact AFL rfl rfl rfl AA|exact ki rfl rfl rfl rfl):Ag P I o E p:=h
theorem oS (h:Ag P I o E p:=by first|exact AFM rfl rfl rfl AA|exact ki rfl rfl rfl rfl):Ag P I o E p:=h
theorem oC (h:Ag P I o E p:=by first|exact AE8 rfl rfl|exact AE9 rfl rfl):Ag P I o E p:=h
theorem oU (h:Ag P I o E p:=by first|exact HB rfl (vl rfl)):Ag P I o E p:=h
theorem oO (h:Ag P I o E p:=by first|exact AFB rfl rfl|exact AFA rfl rfl):Ag P I o E p:=h
theorem oE (h:Ag P I o E p:=by first|exact Ap rfl (vl rfl) rfl):Ag P I o E p:=h
theorem oM (h:Ag P I o E p:=by first|exact Wa rfl rfl):Ag P I o E p:=h
theorem oD (h:Ag P I o E p:=by first|exact AFJ rfl (by repeat any_goals first|exact vf0|refine' vf1 rfl ?_) (by rfl)):Ag P I o E p:=h
theorem oI (h:Ag P I o E p:=by first|exact AFK rfl rfl (by rfl) (by repeat any_goals first|exact vr0|refine' vr1 rfl (by rfl) ?_)):Ag P I o E p:=h
theorem kc0 {f:FuncId} {ts:Array TypeId} {res:Pr} (hf:BG P f [] res) (ho:o.op= .call { callee:= .value (.func f),args:= #[],argTypes:=ts }):Ag P I o E res:=AR ho hf trivial
theorem Cq {f:FuncId} {ts:Array TypeId} {x0:Operand} {p0:Pr} {res:Pr} (hf:BG P f [p0] res) (ho:o.op= .call { callee:= .value (.func f),args:= #[x0],argTypes:=ts }) (h0:C_ E x0=some p0):Ag P I o E res:=AR ho hf ⟨ke h0,trivial⟩
theorem CL {f:FuncId} {ts:Array TypeId} {x0:Operand} {p0:Pr} {x1:Operand} {p1:Pr} {res:Pr} (hf:BG P f [p0,p1] res) (ho:o.op= .call { callee:= .value (.func f),args:= #[x0,x1],argTypes:=ts }) (h0:C_ E x0=some p0) (h1:C_ E x1=some p1):Ag P I o E res:=AR ho hf ⟨ke h0,ke h1,trivial⟩
theorem Jn {f:FuncId} {ts:Array TypeId} {x0:Operand} {p0:Pr} {x1:Operand} {p1:Pr} {x2:Operand} {p2:Pr} {res:Pr} (hf:BG P f [p0,p1,p2] res) (ho:o.op= .call { callee:= .value (.func f),args:= #[x0,x1,x2],argTypes:=ts }) (h0:C_ E x0=some p0) (h1:C_ E x1=some p1) (h2:C_ E x2=some p2):Ag P I o E res:=AR ho hf ⟨ke h0,ke h1,ke h2,trivial⟩
theorem ZS {f:FuncId} {ts:Array TypeId} {x0:Operand} {p0:Pr} {x1:Operand} {p1:Pr} {x2:Operand} {p2:Pr} {x3:Operand} {p3:Pr} {res:Pr} (hf:BG P f [p0,p1,p2,p3] res) (ho:o.op= .call { callee:= .value (.func f),args:= #[x0,x1,x2,x3],argTypes:=ts }) (h0:C_ E x0=some p0) (h1:C_ E x1=some p1) (h2:C_ E x2=some p2) (h3:C_ E x3=some p3):Ag P I o E res:=AR ho hf ⟨ke h0,ke h1,ke h2,ke h3,trivial⟩
theorem kc5 {f:FuncId} {ts:Array TypeId} {x0:Operand} {p0:Pr} {x1:Operand} {p1:Pr} {x2:Operand} {p2:Pr} {x3:Operand} {p3:Pr} {x4:Operand} {p4:Pr} {res:Pr} (hf:BG P f [p0,p1,p2,p3,p4] res) (ho:o.op= .call { callee:= .value (.func f),args:= #[x0,x1,x2,x3,x4],argTypes:=ts }) (h0:C_ E x0=some p0) (h1:C_ E x1=some p1) (h2:C_ E x2=some p2) (h3:C_ E x3=some p3) (h4:C_ E x4=some p4):Ag P I o E res:=AR ho hf ⟨ke h0,ke h1,ke h2,ke h3,ke h4,trivial⟩
theorem cP (_:ABa o=true) (h:Ch P n I ops (o::r) E K):Ch P n I ops (o::r) E K:=h
theorem cG (_:ABa o=false) (h:Ch P n I ops (o::r) E K):Ch P n I ops (o::r) E K:=h
theorem cK (k:Nat) (_:opk o=k) (h:Ch P n I ops (o::r) E K):Ch P n I ops (o::r) E K:=h
theorem cS (k:Nat) (_:grp o=k) (h:Ch P n I ops (o::r) E K):Ch P n I ops (o::r) E K:=h
theorem tK (k:Nat) (_:opk o=k) (h:TO P n ops (o::r) E I Q):TO P n ops (o::r) E I Q:=h
theorem tG (k:Nat) (_:grp o=k) (h:TO P n ops (o::r) E I Q):TO P n ops (o::r) E I Q:=h
theorem Tr.rm [i:TM P] {id:Nat} {l:List Oper} (hB:U1 l=true) (h:Ch P n I l.toArray l E (fun E'=>Fin n E' I Q .normal)) (hc:calm l=true:=by with_unfolding_all rfl):Tr L n E I (.region id l.toArray true) Q:=Tr.Y0 i.h hB h hc
theorem Tr.ct {c:Operand} {y z:Code} (hc:C_ E c=some (bool true)) (k:Tr L n E I y Q):Tr L n E I (.cond c y z) Q:=Tr.cond hc (fun _=>k) (fun h=>nomatch h)
theorem Tr.cf {c:Operand} {y z:Code} (hc:C_ E c=some (bool false)) (k:Tr L n E I z Q):Tr L n E I (.cond c y z) Q:=Tr.cond hc (fun h=>nomatch h) (fun _=>k)
structure ld (G:Prop):Prop where
 k:G
theorem Cx.mono {M0:Av} {w0:World} {S:Nat→Prop}:∀{l:List Oper} {E:Env} {rs:List SR} {K K':List X→Env→List SR→Prop},(∀L E rs,K L E rs→K' L E rs)→Cx P M0 w0 S n ops l E rs K→Cx P M0 w0 S n ops l E rs K'
 |[],_,_,_,_,h,k=>h _ _ _ k
 |_::_,_,_,_,_,h,⟨p,k,h1,h2,h3⟩=>⟨p,k,h1,h2,Cx.mono (fun _ _ _=>h _ _ _) h3⟩
theorem Cx.keys {M0:Av} {w0:World} {S:Nat→Prop}:∀{l:List Oper} {E:Env} {rs:List SR} {K:List X→Env→List SR→Prop},Cx P M0 w0 S n ops l E rs K→∃ks:List KN,Cx P M0 w0 S n ops l E rs (fun L E' rs'=>L.map (·.k.Lv)=ks∧K L E' rs')
 |[],_,_,_,k=>⟨[],rfl,k⟩
 |_::_,_,_,_,⟨p,k,h1,h2,h3⟩=>by
  obtain ⟨ks,h4⟩:=Cx.keys h3
  exact ⟨k.Lv::ks,p,k,h1,h2,Cx.mono (fun L E rs h=>⟨by rw [List.map_cons,h.1],h.2⟩) h4⟩
theorem Tr.rx {Lo:Lg P} [i:TM P] {M0:Av} {w0:World} {S:Nat→Prop} {id:Nat} {l:List Oper} {IM:List At}
  (h:Cx P M0 w0 S n l.toArray l E (IM.map SR.c) (fun L E' rs'=>Pj l (L.map (·.k.Lv))=true∧BE n M0 w0 S E' rs' Q)) (hc:calm l=true:=by with_unfolding_all rfl):Tr Lo n E (Hp M0 w0 S IM) (.region id l.toArray true) Q:=by
 obtain ⟨ks,hk⟩:=Cx.keys h
 obtain ⟨L,h1,h2,h3⟩:=U6 l 0 E _ hk
 exact Tr.GA i.h ks (by rw [←h3.1];exact h3.2.1) (hk.mono fun _ _ _ h=>⟨h.1,h.2.2⟩) hc
theorem al1 {rs:List At} {r0:At}:As (SR.c r0::rs.map SR.c) (r0::rs):= .cons (As.map _)
theorem YV {rs:List At} {r0:At} {r1:At}:As (SR.c r0::SR.c r1::rs.map SR.c) (r0::r1::rs):= .cons (.cons (As.map _))
theorem al3 {rs:List At} {r0:At} {r1:At} {r2:At}:As (SR.c r0::SR.c r1::SR.c r2::rs.map SR.c) (r0::r1::r2::rs):= .cons (.cons (.cons (As.map _)))
theorem al4 {rs:List At} {r0:At} {r1:At} {r2:At} {r3:At}:As (SR.c r0::SR.c r1::SR.c r2::SR.c r3::rs.map SR.c) (r0::r1::r2::r3::rs):= .cons (.cons (.cons (.cons (As.map _))))
theorem al5 {rs:List At} {r0:At} {r1:At} {r2:At} {r3:At} {r4:At}:As (SR.c r0::SR.c r1::SR.c r2::SR.c r3::SR.c r4::rs.map SR.c) (r0::r1::r2::r3::r4::rs):= .cons (.cons (.cons (.cons (.cons (As.map _)))))
theorem al6 {rs:List At} {r0:At} {r1:At} {r2:At} {r3:At} {r4:At} {r5:At}:As (SR.c r0::SR.c r1::SR.c r2::SR.c r3::SR.c r4::SR.c r5::rs.map SR.c) (r0::r1::r2::r3::r4::r5::rs):= .cons (.cons (.cons (.cons (.cons (.cons (As.map _))))))
theorem fo {f : FuncId} {g : Func} {c : Code} {ps : List Pr} {res : Pr} (hf : P.funcs[f]? = some g) (hb : g.body = some c) (hname : ((g.name == "runtime.NumGoroutine") = false ∧ Nat.ble ps.length g.ntmps = true))
  (h:∀M0 w0,Tr (YT P) g.ntmps (Lt 0 ps) (Bse M0 w0) c (bodyPost P g (U3 M0 w0 res))):BG P f ps res:=BG.of hf hb hname.1 (Nat.le_of_ble_eq_true hname.2) h
section
variable {M0:Av} {w0:World} {S:Nat→Prop} {rs:List SR} {KX:List X→Env→List SR→Prop}
theorem xId {l:List Oper} (h:Cx P M0 w0 S n ops l E rs KX):Cx P M0 w0 S n ops l E rs KX:=h
theorem xK (k:Nat) (_:opk o=k) (h:Cx P M0 w0 S n ops (o::r) E rs KX):Cx P M0 w0 S n ops (o::r) E rs KX:=h
theorem xG (k:Nat) (_:grp o=k) (h:Cx P M0 w0 S n ops (o::r) E rs KX):Cx P M0 w0 S n ops (o::r) E rs KX:=h
end
theorem cId {l:List Oper} (h:Ch P n I ops l E K):Ch P n I ops l E K:=h
theorem rId {c:Code} (h:Tr L n E I c Q):Tr L n E I c Q:=h
theorem fId {e:Exit} (h:Fin n E I Q e):Fin n E I Q e:=h
theorem tId {l:List Oper} (h:TO P n ops l E I Q):TO P n ops l E I Q:=h
theorem ac {G H:Prop} (k:G) (h:ld G→H:=by
 intro k
 repeat1' first
  |((with_reducible refine cId ?_);first
   |with_reducible refine Ch.nil ?_
   |(refine cP rfl ?_;first
    |(refine cS 1 rfl ?_;first
      |(refine cK 1 rfl ?_;refine cm rfl ?_)
      |(refine cK 2 rfl ?_;refine co rfl oF ?_)
      |(refine cK 3 rfl ?_;refine co rfl oL ?_)
      |(refine cK 4 rfl ?_;refine co rfl oB ?_))
    |(refine cS 2 rfl ?_;first
      |(refine cK 5 rfl ?_;refine co rfl oP ?_)
      |(refine cK 6 rfl ?_;refine co rfl oN ?_)
      |(refine cK 7 rfl ?_;refine co rfl oA ?_)
      |(refine cK 8 rfl ?_;refine co rfl oS ?_))
    |(refine cS 3 rfl ?_;first
      |(refine cK 9 rfl ?_;refine co rfl oC ?_)
      |(refine cK 10 rfl ?_;refine co rfl oU ?_)
      |(refine cK 11 rfl ?_;refine co rfl oO ?_)
      |(refine cK 12 rfl ?_;refine co rfl oE ?_)
      |(refine cK 13 rfl ?_;refine co rfl oM ?_)
      |(refine cK 14 rfl ?_;refine co rfl oD ?_)
      |(refine cK 15 rfl ?_;refine co rfl oI ?_)))
   |(refine cG rfl ?_;first
    |refine cu rfl ?_
    |refine cnt Bq rfl ?_
    |refine cnf Bq rfl ?_
    |(refine cS 1 rfl ?_;first
      |(refine cK 1 rfl ?_;refine LR FH rfl ?_)
      |(refine cK 2 rfl ?_;refine cy FH rfl oF ?_)
      |(refine cK 3 rfl ?_;refine cy FH rfl oL ?_)
      |(refine cK 4 rfl ?_;refine cy FH rfl oB ?_))
    |(refine cS 2 rfl ?_;first
      |(refine cK 5 rfl ?_;refine cy FH rfl oP ?_)
      |(refine cK 6 rfl ?_;refine cy FH rfl oN ?_)
      |(refine cK 7 rfl ?_;refine cy FH rfl oA ?_)
      |(refine cK 8 rfl ?_;refine cy FH rfl oS ?_))
    |(refine cS 3 rfl ?_;first
      |(refine cK 9 rfl ?_;refine cy FH rfl oC ?_)
      |(refine cK 10 rfl ?_;refine cy FH rfl oU ?_)
      |(refine cK 11 rfl ?_;refine cy FH rfl oO ?_)
      |(refine cK 12 rfl ?_;refine cy FH rfl oE ?_)
      |(refine cK 13 rfl ?_;refine cy FH rfl oM ?_)
      |(refine cK 14 rfl ?_;refine cy FH rfl oD ?_)
      |(refine cK 15 rfl ?_;refine cy FH rfl oI ?_))
    |refine cnd rfl rfl ?_))
  |((with_reducible refine rId ?_);first
   |with_reducible refine Tr.seq ?_
   |with_reducible refine Tr.Aj ?_
   |refine Tr.rm BS ?_
   |with_reducible refine Tr.skip ?_
   |with_reducible refine Tr.block ?_
   |with_reducible refine Tr.ret ?_
   |with_reducible refine Tr.exit ?_
   |refine Tr.ct rfl ?_
   |refine Tr.cf rfl ?_)
  |((with_reducible refine fId ?_);first
   |with_reducible refine Fin.AE ?_
   |with_reducible refine Fin.AU ?_
   |with_reducible refine Fin.Ac ?_
   |with_reducible refine Fin.A7 ?_
   |refine Fin.Qr rfl ?_
   |with_reducible refine Fin.block ?_
   |refine Fin.LB rfl (Bg.Dc _ _) rfl ?_)
 first|with_reducible refine Fin.go ?_|with_reducible refine cId ?_|with_reducible refine tId ?_|with_reducible refine rId ?_|refine Fin.go ?_|skip
 exact k.k):H:=h ⟨k⟩
theorem ao {G H:Prop} (k:G) (h:ld G→H:=by
 intro k
 repeat1' first
  |((with_reducible refine tId ?_);first
   |with_reducible refine TO.nil ?_
   |(refine tG 1 rfl ?_;first
     |(refine tK 1 rfl ?_;refine tm rfl ?_)
     |(refine tK 2 rfl ?_;refine tp rfl oF ?_)
     |(refine tK 3 rfl ?_;refine tp rfl oL ?_)
     |(refine tK 4 rfl ?_;refine tp rfl oB ?_))
   |(refine tG 2 rfl ?_;first
     |(refine tK 5 rfl ?_;refine tp rfl oP ?_)
     |(refine tK 6 rfl ?_;refine tp rfl oN ?_)
     |(refine tK 7 rfl ?_;refine tp rfl oA ?_)
     |(refine tK 8 rfl ?_;refine tp rfl oS ?_))
   |(refine tG 3 rfl ?_;first
     |(refine tK 9 rfl ?_;refine tp rfl oC ?_)
     |(refine tK 10 rfl ?_;refine tp rfl oU ?_)
     |(refine tK 12 rfl ?_;refine tp rfl oE ?_)
     |(refine tK 13 rfl ?_;refine tp rfl oM ?_)
     |(refine tK 14 rfl ?_;refine tp rfl oD ?_)
     |(refine tK 15 rfl ?_;refine tp rfl oI ?_)))
  |((with_reducible refine rId ?_);first
   |with_reducible refine Tr.seq ?_
   |with_reducible refine Tr.An ?_
   |with_reducible refine Tr.skip ?_
   |with_reducible refine Tr.block ?_
   |with_reducible refine Tr.ret ?_
   |with_reducible refine Tr.exit ?_)
  |((with_reducible refine fId ?_);first
   |with_reducible refine Fin.AE ?_
   |with_reducible refine Fin.AU ?_
   |with_reducible refine Fin.Ac ?_
   |with_reducible refine Fin.A7 ?_
   |refine Fin.Qr rfl ?_
   |with_reducible refine Fin.block ?_)
 first|with_reducible refine Fin.go ?_|with_reducible refine cId ?_|with_reducible refine tId ?_|with_reducible refine rId ?_|refine Fin.go ?_|skip
 exact k.k):H:=h ⟨k⟩
theorem ap {G H:Prop} (k:G) (h:ld G→H:=by
 intro k
 repeat1' first
  |((with_reducible refine tId ?_);first
   |with_reducible refine TO.nil ?_
   |(refine tG 1 rfl ?_;first
     |(refine tK 1 rfl ?_;refine tm rfl ?_)
     |(refine tK 2 rfl ?_;refine tp rfl oF ?_)
     |(refine tK 3 rfl ?_;refine tp rfl oL ?_)
     |(refine tK 4 rfl ?_;refine tp rfl oB ?_))
   |(refine tG 2 rfl ?_;first
     |(refine tK 5 rfl ?_;refine tp rfl oP ?_)
     |(refine tK 6 rfl ?_;refine tp rfl oN ?_)
     |(refine tK 7 rfl ?_;refine tp rfl oA ?_)
     |(refine tK 8 rfl ?_;refine tp rfl oS ?_))
   |(refine tG 3 rfl ?_;first
     |(refine tK 9 rfl ?_;refine tp rfl oC ?_)
     |(refine tK 10 rfl ?_;refine tp rfl oU ?_)
     |(refine tK 12 rfl ?_;refine tp rfl oE ?_)
     |(refine tK 13 rfl ?_;refine tp rfl oM ?_)
     |(refine tK 14 rfl ?_;refine tp rfl oD ?_)
     |(refine tK 15 rfl ?_;refine tp rfl oI ?_))
   |(refine tK 16 rfl ?_;first
    |refine sa 0 ⟨rfl,rfl,rfl⟩ rfl rfl rfl ?_
    |refine TO.DP 0 rfl rfl (XD rfl rfl rfl rfl) ?_
    |refine sa 1 ⟨rfl,rfl,rfl⟩ rfl rfl rfl ?_
    |refine TO.DP 1 rfl rfl (XD rfl rfl rfl rfl) ?_
    |refine sa 2 ⟨rfl,rfl,rfl⟩ rfl rfl rfl ?_
    |refine TO.DP 2 rfl rfl (XD rfl rfl rfl rfl) ?_
    |refine sa 3 ⟨rfl,rfl,rfl⟩ rfl rfl rfl ?_
    |refine TO.DP 3 rfl rfl (XD rfl rfl rfl rfl) ?_))
  |((with_reducible refine rId ?_);first
   |with_reducible refine Tr.seq ?_
   |with_reducible refine Tr.An ?_
   |with_reducible refine Tr.skip ?_
   |with_reducible refine Tr.block ?_
   |with_reducible refine Tr.ret ?_
   |with_reducible refine Tr.exit ?_)
  |((with_reducible refine fId ?_);first
   |with_reducible refine Fin.AE ?_
   |with_reducible refine Fin.AU ?_
   |with_reducible refine Fin.Ac ?_
   |with_reducible refine Fin.A7 ?_
   |refine Fin.Qr rfl ?_
   |with_reducible refine Fin.block ?_)
 first|with_reducible refine Fin.go ?_|with_reducible refine cId ?_|with_reducible refine tId ?_|with_reducible refine rId ?_|refine Fin.go ?_|skip
 exact k.k):H:=h ⟨k⟩
theorem ax {G H:Prop} (k:G) (h:ld G→H:=by
 intro k
 repeat ((with_reducible refine xId ?_);first
   |(refine xG 1 rfl ?_;first
     |(refine xK 1 rfl ?_;refine xm rfl ?_)
     |(refine xK 2 rfl ?_;refine xo rfl (fun _=>oF) ?_)
     |(refine xK 3 rfl ?_;refine xo rfl (fun _=>oL) ?_)
     |(refine xK 4 rfl ?_;refine xo rfl (fun _=>oB) ?_))
   |(refine xG 2 rfl ?_;first
     |(refine xK 5 rfl ?_;refine xo rfl (fun _=>oP) ?_)
     |(refine xK 6 rfl ?_;refine xo rfl (fun _=>oN) ?_)
     |(refine xK 7 rfl ?_;refine xo rfl (fun _=>oA) ?_)
     |(refine xK 8 rfl ?_;refine xo rfl (fun _=>oS) ?_))
   |(refine xG 3 rfl ?_;first
     |(refine xK 9 rfl ?_;refine xo rfl (fun _=>oC) ?_)
     |(refine xK 10 rfl ?_;refine xo rfl (fun _=>oU) ?_)
     |(refine xK 11 rfl ?_;refine xo rfl (fun _=>oO) ?_)
     |(refine xK 12 rfl ?_;refine xo rfl (fun _=>oE) ?_)
     |(refine xK 13 rfl ?_;refine xo rfl (fun _=>oM) ?_)
     |(refine xK 14 rfl ?_;refine xo rfl (fun _=>oD) ?_))
   |(refine xK 3 rfl ?_;first
    |refine IV 0 rfl rfl (L4 rfl rfl rfl) ?_
    |refine IV 0 rfl rfl (L5 rfl rfl rfl rfl) ?_
    |refine IV 1 rfl rfl (L4 rfl rfl rfl) ?_
    |refine IV 1 rfl rfl (L5 rfl rfl rfl rfl) ?_
    |refine IV 2 rfl rfl (L4 rfl rfl rfl) ?_
    |refine IV 2 rfl rfl (L5 rfl rfl rfl rfl) ?_
    |refine IV 3 rfl rfl (L4 rfl rfl rfl) ?_
    |refine IV 3 rfl rfl (L5 rfl rfl rfl rfl) ?_
    |refine IV 4 rfl rfl (L4 rfl rfl rfl) ?_
    |refine IV 4 rfl rfl (L5 rfl rfl rfl rfl) ?_))
 exact k.k):H:=h ⟨k⟩
theorem ay {G H:Prop} (k:G) (h:ld G→H:=by
 intro k
 repeat ((with_reducible refine xId ?_);first
   |(refine xG 1 rfl ?_;first
     |(refine xK 1 rfl ?_;refine xm rfl ?_)
     |(refine xK 2 rfl ?_;refine xo rfl (fun _=>oF) ?_)
     |(refine xK 3 rfl ?_;refine xo rfl (fun _=>oL) ?_)
     |(refine xK 4 rfl ?_;refine xo rfl (fun _=>oB) ?_))
   |(refine xG 2 rfl ?_;first
     |(refine xK 5 rfl ?_;refine xo rfl (fun _=>oP) ?_)
     |(refine xK 6 rfl ?_;refine xo rfl (fun _=>oN) ?_)
     |(refine xK 7 rfl ?_;refine xo rfl (fun _=>oA) ?_)
     |(refine xK 8 rfl ?_;refine xo rfl (fun _=>oS) ?_))
   |(refine xG 3 rfl ?_;first
     |(refine xK 9 rfl ?_;refine xo rfl (fun _=>oC) ?_)
     |(refine xK 10 rfl ?_;refine xo rfl (fun _=>oU) ?_)
     |(refine xK 11 rfl ?_;refine xo rfl (fun _=>oO) ?_)
     |(refine xK 12 rfl ?_;refine xo rfl (fun _=>oE) ?_)
     |(refine xK 13 rfl ?_;refine xo rfl (fun _=>oM) ?_)
     |(refine xK 14 rfl ?_;refine xo rfl (fun _=>oD) ?_))
   |(refine xK 3 rfl ?_;first
    |refine IV 0 rfl rfl (L4 rfl rfl rfl) ?_
    |refine IV 0 rfl rfl (L5 rfl rfl rfl rfl) ?_
    |refine IV 1 rfl rfl (L4 rfl rfl rfl) ?_
    |refine IV 1 rfl rfl (L5 rfl rfl rfl rfl) ?_
    |refine IV 2 rfl rfl (L4 rfl rfl rfl) ?_
    |refine IV 2 rfl rfl (L5 rfl rfl rfl rfl) ?_
    |refine IV 3 rfl rfl (L4 rfl rfl rfl) ?_
    |refine IV 3 rfl rfl (L5 rfl rfl rfl rfl) ?_
    |refine IV 4 rfl rfl (L4 rfl rfl rfl) ?_
    |refine IV 4 rfl rfl (L5 rfl rfl rfl rfl) ?_)
   |(refine xK 16 rfl ?_;first
    |refine Cx.DP 0 rfl rfl (XD rfl rfl rfl rfl) ?_
    |refine Cx.DP 1 rfl rfl (XD rfl rfl rfl rfl) ?_
    |refine Cx.DP 2 rfl rfl (XD rfl rfl rfl rfl) ?_
    |refine Cx.DP 3 rfl rfl (XD rfl rfl rfl rfl) ?_))
 exact k.k):H:=h ⟨k⟩
theorem Ch.cg {l:List Oper} {b v:Bool} {g j:Nat} {pt pf:Prop} [ht:DU b true pt] [hf:DU b false pf] (_:o.guard=some (j,v)) (_:(ops[j]?.bind (·.dst))=some g) (hb:E.lookup g=some (bool b)) (k:b=true→pt→Ch P n I ops (o::l) E K) (k':b=false→pf→Ch P n I ops (o::l) E K):Ch P n I ops (o::l) E K:=Ch.cases g hb (fun h=>k h (ht.D9 h)) (fun h=>k' h (hf.D9 h))
theorem a2 {G H:Prop} (k:G) (h:ld G→H:=by
 intro k
 iterate 2 refine ac ?_
 exact k.k):H:=h ⟨k⟩
theorem a3 {G H:Prop} (k:G) (h:ld G→H:=by
 intro k
 iterate 3 refine ac ?_
 exact k.k):H:=h ⟨k⟩
theorem an {G L H:Prop} (k:G) (l:L) (h:ld G→ld L→H:=by
 intro k l
 refine ac ?_
 refine Tr.cn rfl ?_ ?_
 exact k.k
 exact l.k):H:=h ⟨k⟩ ⟨l⟩
theorem ag {G L H:Prop} (k:G) (l:L) (h:ld G→ld L→H:=by
 intro k l
 refine ac ?_
 refine Ch.cg rfl rfl rfl ?_ ?_
 exact k.k
 exact l.k):H:=h ⟨k⟩ ⟨l⟩
theorem Lr {p:Pr}:Pr.le p p:=Pr.le_refl p
theorem Vo {p:Pr} [One p] (h:C_ E x=some p):VL E x (Cv [p]):=VL.le (vl h) (AY p)
theorem Va {ps:List Pr} (h:C_ E x=some (agg ps)):VL E x (Cv ps):=VL.le (vl h) (Ae ps)
theorem Nb {a b:Nat} (h:Nat.ble a b=true):a≤b:=Nat.le_of_ble_eq_true h
theorem Kf {z:Nat} {l:List (List Pr)} (h:C_ E x=some (full z l)):VL E x (slice z l):=⟨_,h,Bx z l⟩
theorem Ka {v:Value} (h:C_ E x=some (Ad v p)):VL E x (is v):=⟨_,h,EA v p⟩
theorem Kb {v:Value} (h:C_ E x=some (Ad v p)):VL E x p:=⟨_,h,Ar v p⟩
theorem My {p:Pr} [One p] (h:C_ E x=some p:=by exact rfl):VL E x (Cv [p]):=Vo h
theorem Cs {ps:List Pr} (h:C_ E x=some (agg ps):=by exact rfl):VL E x (Cv ps):=Va h
theorem F4 {z:Nat} {l:List (List Pr)} (h:C_ E x=some (full z l):=by exact rfl):VL E x (slice z l):=Kf h
theorem Jo {v:Value} (h:C_ E x=some (Ad v p):=by exact rfl):VL E x (is v):=Ka h
theorem G3 {v:Value} (h:C_ E x=some (Ad v p):=by exact rfl):VL E x p:=Kb h
theorem Tl {M0:Av} {w0:World} {S:Nat→Prop} {rs:List At} {T:TypeId} {zs:List Value} (hg:o.guard=none) (hd:o.dst=some d) (hn:Nat.blt d n=true) (ho:o.op= .alloc T) (hz:Ba P T=some zs) (h1':zs.all (·.oneCell')=true)
  (k:∀b,TO P n ops r ((d,is (.pointer (some ⟨b,0,none⟩)))::E) (Hp M0 w0 S (AF true b T (zs.map is)::rs)) Q):TO P n ops (o::r) E (Hp M0 w0 S rs) Q:=TO.alloc hg hd (H7 hn) ho hz h1' k
theorem B7 {M0:Av} {w0:World} {S:Nat→Prop} {t e:TypeId} {sz bytes:Nat} {zs:List Value} {rows rows':List (List Pr)} {R:SR} (hg:o.guard=none) (hd:o.dst=some d) (hn:Nat.blt d n=true) (ho:o.op= .call { callee:= .builtin .append,args:= #[x,y],argTypes:= #[t,t] })
  (ht:P.underlying t=some (.slice e)) (hz:BB P e=some sz) (hby:Bz P e=some bytes) (FJ:Ba P e=some zs) (hx:VL E x (slice sz rows)) (hy:VL E y (slice sz rows'))
  (hR:∀M w (a:Act),Cc M w E o a→R.at_ a=Aw e sz (a.eval x)∨(R.at_ a=Bu∧Dl (a.eval x)=none)) (hzl:zs.length=sz:=by rfl) (hsz:Nat.blt 0 sz=true:=by rfl)
  (G9:rows.length+rows'.length≤maxLen:=by simp only [List.length_map,List.length_append,List.length_cons,List.length_nil,List.length_replicate,List.length_take,List.length_drop];unfold maxLen;omega) (hfit:(rows.length+rows'.length)*bytes≤140737488355328:=by simp only [List.length_map,List.length_append,List.length_cons,List.length_nil,List.length_replicate,List.length_take,List.length_drop];omega):DI P M0 w0 S n j R ⟨d,Aw e sz⟩ o E (slice sz (rows++rows')):=EB hg hd (H7 hn) ho ht hz hby FJ hzl (H7 hsz) hx hy G9 hfit hR
end
end Cp
namespace Go.Proofs.YtmocaapoeefgkaaGreatDoor
open Go Cp
instance ADk:TM Tryz.prog:=⟨mixed⟩
instance AHD:TV Tryz.prog 3 [.int .i64 0]:=⟨z3,zo3⟩
instance AFN:T1 Tryz.prog 3:=⟨C8⟩
instance AGn:TZ Tryz.prog 3 1:=⟨Bt⟩
instance AFO:T1 Tryz.prog 4:=⟨ZA⟩
instance AGo:TZ Tryz.prog 4 1:=⟨Ta⟩
instance qq:TU Tryz.prog 4 .bool:=⟨Tryz.underlying4⟩
instance AHE:TV Tryz.prog 5 [.int .u8 0]:=⟨z5,zo5⟩
instance AFP:T1 Tryz.prog 5:=⟨AAn⟩
instance AGp:TZ Tryz.prog 5 1:=⟨NV⟩
instance AHF:TV Tryz.prog 9 [.string (ByteArray.mk #[])]:=⟨z9,zo9⟩
instance AFQ:T1 Tryz.prog 9:=⟨O4⟩
instance AGq:TZ Tryz.prog 9 1:=⟨Mq⟩
instance qt:TU Tryz.prog 9 .string:=⟨Tryz.underlying9⟩
instance ADl:T1 Tryz.prog 22:=⟨J6⟩
instance AFR:TZ Tryz.prog 22 1:=⟨Lw⟩
instance lf:TU Tryz.prog 22 (.slice 3):=⟨Tryz.underlying22⟩
instance ADm:T1 Tryz.prog 27:=⟨Oa⟩
instance lp:TU Tryz.prog 27 (.slice 40):=⟨Tryz.underlying27⟩
instance ADn:T1 Tryz.prog 28:=⟨cU⟩
instance lq:TU Tryz.prog 28 (.slice 132):=⟨Tryz.underlying28⟩
instance ADo:T1 Tryz.prog 29:=⟨k_⟩
instance lu:TU Tryz.prog 29 (.slice 135):=⟨Tryz.underlying29⟩
instance AFS:TB Tryz.prog 31 (fun i=>(#[(0,1),(1,1),(2,1)]:Array (Nat×Nat))[i]?) (List.replicate 3 (.slice none 0 0)):=⟨AAp,IW⟩
instance ADp:TA Tryz.prog 31:=⟨Dg⟩
instance AFT:TZ Tryz.prog 31 3:=⟨De⟩
instance ABb:TF Tryz.prog 31 0 0:=⟨HI⟩
instance ABc:TF Tryz.prog 31 1 1:=⟨Ns⟩
instance ABd:TF Tryz.prog 31 2 2:=⟨Nt⟩
instance ADq:T1 Tryz.prog 32:=⟨Wq⟩
instance lz:TU Tryz.prog 32 (.slice 86):=⟨Tryz.underlying32⟩
instance ADr:T1 Tryz.prog 33:=⟨vQ⟩
instance l5:TU Tryz.prog 33 (.slice 61):=⟨Tryz.underlying33⟩
instance AFU:TB Tryz.prog 35 (fun i=>(#[(0,1),(1,1),(2,1)]:Array (Nat×Nat))[i]?) (List.replicate 3 (.slice none 0 0)):=⟨Lx,E9⟩
instance ADs:TA Tryz.prog 35:=⟨Cn⟩
instance AFV:TZ Tryz.prog 35 3:=⟨CG⟩
instance ABe:TF Tryz.prog 35 0 0:=⟨Ly⟩
instance ABf:TF Tryz.prog 35 1 1:=⟨lA⟩
instance ABg:TF Tryz.prog 35 2 2:=⟨ZB⟩
instance ADt:T1 Tryz.prog 38:=⟨vR⟩
instance AFW:TZ Tryz.prog 38 1:=⟨lB⟩
instance l6:TU Tryz.prog 38 (.slice 84):=⟨Tryz.underlying38⟩
instance AFX:TB Tryz.prog 40 (fun i=>(#[(0,1),(1,1),(2,1),(3,1),(4,1),(5,1),(6,1),(7,1),(8,1)]:Array (Nat×Nat))[i]?) [.string (ByteArray.mk #[]),.int .i64 0,.int .i64 0,.slice none 0 0,.bool false,.slice none 0 0,.slice none 0 0,.slice none 0 0,.bool false]:=⟨rM,H9⟩
instance ADu:TA Tryz.prog 40:=⟨Ci⟩
instance AFY:TZ Tryz.prog 40 9:=⟨CE⟩
instance ABh:TF Tryz.prog 40 0 0:=⟨lC⟩
instance ABi:TF Tryz.prog 40 1 1:=⟨w8⟩
instance ABj:TF Tryz.prog 40 2 2:=⟨ZC⟩
instance ABk:TF Tryz.prog 40 3 3:=⟨Nu⟩
instance ABl:TF Tryz.prog 40 4 4:=⟨w9⟩
instance ABm:TF Tryz.prog 40 5 5:=⟨Q6⟩
instance ABn:TF Tryz.prog 40 6 6:=⟨lD⟩
instance ABo:TF Tryz.prog 40 7 7:=⟨lE⟩
instance ABp:TF Tryz.prog 40 8 8:=⟨ZD⟩
instance AFZ:TB Tryz.prog 42 (fun i=>(#[(0,3),(3,1),(4,1),(5,1),(6,1)]:Array (Nat×Nat))[i]?) [.slice none 0 0,.slice none 0 0,.slice none 0 0,.int .i64 0,.slice none 0 0,.slice none 0 0,.bool false]:=⟨ZE,HJ⟩
instance ADv:TA Tryz.prog 42:=⟨EC⟩
instance AFa:TZ Tryz.prog 42 7:=⟨DV⟩
instance ABq:TF Tryz.prog 42 0 0:=⟨ZF⟩
instance ABr:TF Tryz.prog 42 1 3:=⟨ZG⟩
instance ABs:TF Tryz.prog 42 2 4:=⟨Q7⟩
instance ABt:TF Tryz.prog 42 3 5:=⟨VG⟩
instance ABu:TF Tryz.prog 42 4 6:=⟨w_⟩
instance ADw:T1 Tryz.prog 43:=⟨AAr⟩
instance AGr:TV Tryz.prog 51 [.slice none 0 0]:=⟨z51,AAs⟩
instance ADx:T1 Tryz.prog 51:=⟨cV⟩
instance AFb:TZ Tryz.prog 51 1:=⟨Gw⟩
instance l9:TU Tryz.prog 51 (.slice 3):=⟨Tryz.underlying51⟩
instance AFc:TB Tryz.prog 61 (fun i=>(#[(0,1),(1,1)]:Array (Nat×Nat))[i]?) (List.replicate 2 (.int .i64 0)):=⟨AAt,Q8⟩
instance AGs:TV Tryz.prog 61 (List.replicate 2 (.int .i64 0)):=⟨Sj,Q8⟩
instance ADy:TA Tryz.prog 61:=⟨Fe⟩
instance AFd:TZ Tryz.prog 61 2:=⟨Cw⟩
instance ABv:TF Tryz.prog 61 0 0:=⟨ZH⟩
instance ABw:TF Tryz.prog 61 1 1:=⟨ZI⟩
instance ADz:T1 Tryz.prog 75:=⟨AAu⟩
instance l_:TU Tryz.prog 75 (.slice 141):=⟨Tryz.underlying75⟩
instance AD0:TA Tryz.prog 77:=⟨Ob⟩
instance AFe:TZ Tryz.prog 77 3:=⟨Ws⟩
instance ABx:TF Tryz.prog 77 0 0:=⟨xB⟩
instance ABy:TF Tryz.prog 77 1 1:=⟨xC⟩
instance ABz:TF Tryz.prog 77 2 2:=⟨xD⟩
instance AFf:TB Tryz.prog 81 (fun i=>(#[(0,1),(1,1)]:Array (Nat×Nat))[i]?) (List.replicate 2 (.int .i64 0)):=⟨xE,EX⟩
instance AGt:TV Tryz.prog 81 (List.replicate 2 (.int .i64 0)):=⟨Ks,EX⟩
instance AD1:TA Tryz.prog 81:=⟨JX⟩
instance AFg:TZ Tryz.prog 81 2:=⟨LC⟩
instance AB0:TF Tryz.prog 81 0 0:=⟨xF⟩
instance AB1:TF Tryz.prog 81 1 1:=⟨xH⟩
instance AD2:T1 Tryz.prog 82:=⟨AAx⟩
instance AFh:TZ Tryz.prog 82 1:=⟨AAw⟩
instance mA:TU Tryz.prog 82 (.slice 189):=⟨Tryz.underlying82⟩
instance AFi:TB Tryz.prog 84 (fun i=>(#[(0,2),(2,1),(3,1)]:Array (Nat×Nat))[i]?) [.int .i64 0,.int .i64 0,.int .i64 0,.slice none 0 0]:=⟨AAy,Wt⟩
instance AD3:TA Tryz.prog 84:=⟨Tc⟩
instance AFj:TZ Tryz.prog 84 4:=⟨Ey⟩
instance AB2:TF Tryz.prog 84 0 0:=⟨xI⟩
instance AB3:TF Tryz.prog 84 1 2:=⟨xJ⟩
instance AB4:TF Tryz.prog 84 2 3:=⟨lF⟩
instance AD4:TA Tryz.prog 86:=⟨Hr⟩
instance AFk:TZ Tryz.prog 86 8:=⟨Du⟩
instance AB5:TF Tryz.prog 86 0 0:=⟨xL⟩
instance AB6:TF Tryz.prog 86 1 1:=⟨xM⟩
instance AB7:TF Tryz.prog 86 2 2:=⟨xN⟩
instance AB8:TF Tryz.prog 86 3 3:=⟨xO⟩
instance AB9:TF Tryz.prog 86 4 4:=⟨xP⟩
instance AGu:TV Tryz.prog 99 [.slice none 0 0]:=⟨z99,AEx⟩
instance AD5:T1 Tryz.prog 99:=⟨AAz⟩
instance AFl:TZ Tryz.prog 99 1:=⟨rN⟩
instance mB:TU Tryz.prog 99 (.slice 51):=⟨Tryz.underlying99⟩
instance AD6:TB Tryz.prog 104 (fun i=>(#[(0,1),(1,1)]:Array (Nat×Nat))[i]?) [.slice none 0 0,.int .i64 0]:=⟨AA0,AA1⟩
instance zY:TF Tryz.prog 104 0 0:=⟨rO⟩
instance zZ:TF Tryz.prog 104 1 1:=⟨rP⟩
instance AB_:T1 Tryz.prog 105:=⟨xQ⟩
instance jX:TU Tryz.prog 105 (.slice 270):=⟨Tryz.underlying105⟩
instance AD7:TB Tryz.prog 107 (fun i=>(#[(0,1)]:Array (Nat×Nat))[i]?) [.slice none 0 0]:=⟨JY,Ed⟩
instance ACA:TA Tryz.prog 107:=⟨CS⟩
instance AD8:TZ Tryz.prog 107 1:=⟨Bo⟩
instance za:TF Tryz.prog 107 0 0:=⟨cW⟩
instance ACB:T1 Tryz.prog 111:=⟨ZK⟩
instance ACC:TA Tryz.prog 114:=⟨Nv⟩
instance AD9:TZ Tryz.prog 114 2:=⟨Td⟩
instance zb:TF Tryz.prog 114 0 0:=⟨VH⟩
instance ACD:TA Tryz.prog 116:=⟨Q9⟩
instance AD_:TZ Tryz.prog 116 2:=⟨Wu⟩
instance ACE:T1 Tryz.prog 127:=⟨xR⟩
instance AEA:TZ Tryz.prog 127 1:=⟨vS⟩
instance jY:TU Tryz.prog 127 (.slice 9):=⟨Tryz.underlying127⟩
instance jZ:TU Tryz.prog 128 (.slice 22):=⟨Tryz.underlying128⟩
instance ACF:TA Tryz.prog 132:=⟨Q_⟩
instance AEB:TZ Tryz.prog 132 2:=⟨Ew⟩
instance ze:TF Tryz.prog 132 0 0:=⟨rQ⟩
instance zf:TF Tryz.prog 132 1 1:=⟨rR⟩
instance ACG:T1 Tryz.prog 133:=⟨xS⟩
instance jc:TU Tryz.prog 133 (.slice 198):=⟨Tryz.underlying133⟩
instance AEC:TB Tryz.prog 135 (fun i=>(#[(0,1),(1,1),(2,1),(3,1),(4,1)]:Array (Nat×Nat))[i]?) [.string (ByteArray.mk #[]),.int .i64 0,.int .i64 0,.slice none 0 0,.int .i64 0]:=⟨AA7,Ww⟩
instance AFm:TV Tryz.prog 135 [.string (ByteArray.mk #[]),.int .i64 0,.int .i64 0,.slice none 0 0,.int .i64 0]:=⟨VJ,Ww⟩
instance ACH:TA Tryz.prog 135:=⟨VI⟩
instance AED:TZ Tryz.prog 135 5:=⟨Hs⟩
instance zg:TF Tryz.prog 135 0 0:=⟨rS⟩
instance zh:TF Tryz.prog 135 1 1:=⟨rT⟩
instance zi:TF Tryz.prog 135 2 2:=⟨rU⟩
instance zj:TF Tryz.prog 135 3 3:=⟨VK⟩
instance zk:TF Tryz.prog 135 4 4:=⟨rV⟩
instance AEE:TB Tryz.prog 139 (fun i=>(#[(0,1),(1,1)]:Array (Nat×Nat))[i]?) (List.replicate 2 (.int .i64 0)):=⟨AA8,AA9⟩
instance zl:TF Tryz.prog 139 0 0:=⟨rW⟩
instance zm:TF Tryz.prog 139 1 1:=⟨rX⟩
instance AFn:TV Tryz.prog 141 [.int .i64 0,.int .i64 0,.slice none 0 0]:=⟨z141,RB⟩
instance AEF:TZ Tryz.prog 141 3:=⟨IX⟩
instance zn:TF Tryz.prog 141 0 0:=⟨rY⟩
instance zo:TF Tryz.prog 141 1 2:=⟨rZ⟩
instance jd:TU Tryz.prog 143 (.slice 81):=⟨Tryz.underlying143⟩
instance ACI:T1 Tryz.prog 160:=⟨xT⟩
instance ACJ:T1 Tryz.prog 181:=⟨EY⟩
instance ACK:TA Tryz.prog 187:=⟨xV⟩
instance AEG:TZ Tryz.prog 187 2:=⟨lI⟩
instance zq:TF Tryz.prog 187 0 0:=⟨rj⟩
instance zu:TF Tryz.prog 187 1 1:=⟨ru⟩
instance AFo:TV Tryz.prog 189 [.int .i64 0,.string (ByteArray.mk #[]),.string (ByteArray.mk #[]),.int .i64 0,.int .i64 0,.int .i64 0,.int .i64 0,.int .i64 0,.int .i64 0,.int .i64 0,.bool false,.int .i64 0,.slice none 0 0,.int .i64 0,.int .i64 0]:=⟨VM,Od⟩
instance ACL:TA Tryz.prog 189:=⟨Gk⟩
instance AEH:TZ Tryz.prog 189 15:=⟨DN⟩
instance zv:TF Tryz.prog 189 0 0:=⟨ry⟩
instance zw:TF Tryz.prog 189 1 1:=⟨rz⟩
instance xl:TF Tryz.prog 189 10 12:=⟨Wx⟩
instance xp:TF Tryz.prog 189 11 13:=⟨RC⟩
instance zx:TF Tryz.prog 189 2 2:=⟨r6⟩
instance zy:TF Tryz.prog 189 3 3:=⟨r7⟩
instance zz:TF Tryz.prog 189 4 5:=⟨r8⟩
instance z7:TF Tryz.prog 189 5 6:=⟨r9⟩
instance z8:TF Tryz.prog 189 6 8:=⟨r_⟩
instance z_:TF Tryz.prog 189 7 9:=⟨sA⟩
instance AAA:TF Tryz.prog 189 8 10:=⟨sB⟩
instance AAB:TF Tryz.prog 189 9 11:=⟨sC⟩
instance AEI:TB Tryz.prog 198 (fun i=>(#[(0,2),(2,1)]:Array (Nat×Nat))[i]?) (List.replicate 3 (.int .i64 0)):=⟨ABF,ve⟩
instance AFp:TV Tryz.prog 198 (List.replicate 3 (.int .i64 0)):=⟨z198,ve⟩
instance AEJ:TZ Tryz.prog 198 3:=⟨J7⟩
instance AAC:TF Tryz.prog 198 0 0:=⟨sD⟩
instance AAD:TF Tryz.prog 198 1 2:=⟨sE⟩
instance ACN:T1 Tryz.prog 232:=⟨I7⟩
instance je:TU Tryz.prog 232 (.slice 181):=⟨Tryz.underlying232⟩
instance AAE:TF Tryz.prog 234 0 0:=⟨sF⟩
instance AAF:TF Tryz.prog 234 1 1:=⟨I8⟩
instance ACO:T1 Tryz.prog 241:=⟨lJ⟩
instance jf:TU Tryz.prog 241 (.slice 5):=⟨Tryz.underlying241⟩
instance AEK:TB Tryz.prog 247 (fun i=>(#[(0,1),(1,1),(2,2),(4,2),(6,2),(8,2),(10,1),(11,1)]:Array (Nat×Nat))[i]?) [.int .i64 0,.string (ByteArray.mk #[]),.int .i64 0,.int .i64 0,.int .i64 0,.int .i64 0,.int .i64 0,.int .i64 0,.int .i64 0,.int .i64 0,.int .i64 0,.int .i64 0]:=⟨Wy,IY⟩
instance ACP:TA Tryz.prog 247:=⟨I9⟩
instance AEL:TZ Tryz.prog 247 12:=⟨F2⟩
instance AAG:TF Tryz.prog 247 2 2:=⟨sG⟩
instance AAH:TF Tryz.prog 247 3 4:=⟨sH⟩
instance AAI:TF Tryz.prog 247 4 6:=⟨sI⟩
instance AAJ:TF Tryz.prog 247 5 8:=⟨sJ⟩
instance AAK:TF Tryz.prog 247 6 10:=⟨sK⟩
instance AAL:TF Tryz.prog 247 7 11:=⟨sL⟩
instance AEM:TB Tryz.prog 268 (fun i=>(#[(0,1),(1,1)]:Array (Nat×Nat))[i]?) (List.replicate 2 (.int .i64 0)):=⟨Te,Fg⟩
instance AFq:TV Tryz.prog 268 (List.replicate 2 (.int .i64 0)):=⟨Jm,Fg⟩
instance ACQ:TA Tryz.prog 268:=⟨C2⟩
instance AEN:TZ Tryz.prog 268 2:=⟨CI⟩
instance AAM:TF Tryz.prog 268 1 1:=⟨sM⟩
instance AEO:TB Tryz.prog 270 (fun i=>(#[(0,1),(1,1),(2,2)]:Array (Nat×Nat))[i]?) [.int .i64 0,.slice none 0 0,.int .i64 0,.int .i64 0]:=⟨cj,RD⟩
instance AFr:TV Tryz.prog 270 [.int .i64 0,.slice none 0 0,.int .i64 0,.int .i64 0]:=⟨sN,RD⟩
instance AEP:TZ Tryz.prog 270 4:=⟨F3⟩
instance jg:TU Tryz.prog 274 (.slice 99):=⟨Tryz.underlying274⟩
instance ACR:T1 Tryz.prog 283:=⟨VN⟩
instance AEQ:TB Tryz.prog 285 (fun i=>(#[(0,1),(1,1),(2,1),(3,1)]:Array (Nat×Nat))[i]?) [.int .i64 0,.slice none 0 0,.bool false,.slice none 0 0]:=⟨lK,LY⟩
instance ACS:TA Tryz.prog 285:=⟨DW⟩
instance AER:TZ Tryz.prog 285 4:=⟨Cj⟩
instance AAN:TF Tryz.prog 285 0 0:=⟨sO⟩
instance AAO:TF Tryz.prog 285 1 1:=⟨VO⟩
instance AAP:TF Tryz.prog 285 2 2:=⟨sP⟩
instance AAQ:TF Tryz.prog 285 3 3:=⟨Ms⟩
instance AES:TB Tryz.prog 290 (fun i=>(#[(0,1),(1,1)]:Array (Nat×Nat))[i]?) [.string (ByteArray.mk #[]),.int .i64 0]:=⟨ABL,vi⟩
instance AFs:TV Tryz.prog 290 [.string (ByteArray.mk #[]),.int .i64 0]:=⟨AEz,vi⟩
instance AET:TZ Tryz.prog 290 2:=⟨vh⟩
instance AAR:TF Tryz.prog 290 1 1:=⟨sQ⟩
instance jh:TU Tryz.prog 291 (.slice 290):=⟨Tryz.underlying291⟩
instance ji:TU Tryz.prog 331 (.slice 268):=⟨Tryz.underlying331⟩
end Go.Proofs.YtmocaapoeefgkaaGreatDoor
namespace Go.Proofs.YtmocaapoeefgkaaGreatDoor
open Go Go.RowKit Cp Go.Proofs.Tryz
abbrev ints (l:List Int):Pr:=slice 1 (l.map fun n=>[int n])
def idx {β:Type} (p:β→Bool) (l:List β):Int:=match l.findIdx? p with|some i=>i|none=> -1
theorem Es {β:Type} {p:β→Bool} {l:List β} {k:Nat} {x:β} (hx:l[k]? =some x) (hp:p x=true) (h:∀j y,j<k→l[j]? =some y→p y=false):(k:Int)=idx p l:=by
 have:l.findIdx? p=some k:=by
  rw [List.findIdx?_eq_some_iff_getElem]
  have hk:k<l.length:=by rcases Nat.lt_or_ge k l.length with h|h;exact h;rw [List.getElem?_eq_none h] at hx;cases hx
  rw [List.getElem?_eq_getElem hk] at hx
  simp only [Option.some.injEq] at hx
  refine ⟨hk,by rw [hx];exact hp,fun j hj=> ?_⟩
  simpa using h j _ hj (List.getElem?_eq_getElem AA)
 unfold idx;rw [this]
theorem Gc {β:Type} {p:β→Bool} {l:List β} (h:∀j y,j<l.length→l[j]? =some y→p y=false):(-1:Int)=idx p l:=by
 have:l.findIdx? p=none:=by
  rw [List.findIdx?_eq_none_iff]
  intro x hx
  obtain ⟨j,hj,rfl⟩:=List.mem_iff_getElem.1 hx
  exact h j _ hj (List.getElem?_eq_getElem hj)
 unfold idx;rw [this]
theorem Pq {β:Type} (p:β→Bool) (l:List β):decide (idx p l≥0)=l.any p:=by
 unfold idx
 cases h:l.findIdx? p with
 |none=>rw [List.findIdx?_eq_none_iff] at h;simp;intro x hx;simpa using h x hx
 |some i=>
  rw [List.findIdx?_eq_some_iff_getElem] at h
  obtain ⟨h1,h2,_⟩:=h
  simp
  exact ⟨_,List.getElem_mem h1,h2⟩
theorem Dv {β:Type} {p:β→Bool} {l:List β} {k:Nat} {x:β} (hx:l[k]? =some x) (hp:p x=false) (h:∀j y,j<k→l[j]? =some y→p y=false):∀j y,j<k+1→l[j]? =some y→p y=false:=by
 intro j y hj hy
 by_cases hjk:j=k
 · subst hjk;rw [hx] at hy;cases hy;exact hp
 · exact h j y AA hy
theorem VY {l:List Int} {p:Int→Bool}  :BG prog 145 [ints l,clo prog (fun x:Int=>[int x]) (fun x=>bool (p x))] (int (idx p l)):=by
 refine fo func145 rfl ⟨rfl,rfl⟩ fun M0 w0=>(Tr.Cm 0 rfl fun EJ=> ?_)
 refine a2 ?_
 refine Tr.block (Tr.BH _ (kk [7,1,0] rfl) (fun k:Nat=>[(8,int ((k:Nat):Int))]) (fun k:Nat=>k≤(l).length∧(∀j y,j<k→l[j]? =some y→p y=false)) (fun k:Nat=>(l).length-k) 0 (⟨Nat.zero_le _,fun j y hj=>absurd hj AA⟩) kz ?_)
 rintro k ⟨BU,AZ⟩
 refine ac ?_
 refine Tr.seq ?_
 refine Tr.cn rfl ?_ ?_<;>intro h1 q1
 have Af:k<(l).length:=AH h1
 obtain ⟨x,Ah⟩:=at_ Af
 · repeat' first|exact int_eq (Es Ah Bq AZ)|exact Fin.AL (k+1) ⟨⟨Af,Dv Ah Bq AZ⟩,by omega⟩ ⟨⟨_,rfl,AG k⟩,kz⟩|refine co rfl (AD rfl underlying22 Bt vq vq AA CO) ?_|refine co rfl (Fw rfl C8 rfl) (co rfl (kN x rfl vq kz) ?_)|refine ac ?_|(refine Tr.cn rfl ?_ ?_<;>intro h q)
 have BK:k=(l).length:=by have:=AJ h1;omega
 subst BK
 refine a3 ?_
 · exact int_eq (Gc AZ)
theorem Ja {l:List Int} {p:Int→Bool}  :BG prog 84 [ints l,clo prog (fun x:Int=>[int x]) (fun x=>bool (p x))] (bool (l.any p)):=by
 refine fo func84 rfl ⟨rfl,rfl⟩ fun M0 w0=> ?_
 refine a2 ?_
 refine co rfl (CL (VY) rfl rfl rfl) ?_
 refine a2 ?_
 · exact bool_eq (Pq p l)
end Go.Proofs.YtmocaapoeefgkaaGreatDoor
namespace Go.Proofs.YtmocaapoeefgkaaGreatDoor
open Go Go.RowKit Cp Go.ChangeShapes Go.WideShapes Go.ChangeAt Go.Proofs.Tryz
theorem AFt:ownKnob Tryz.prog.godebug=none:=by kernel_rfl
theorem mC:laidOutB Tryz.prog=true:=by kernel_rfl
theorem i64_in {n:Int} (h:(Lit.int .i64 n).wf=true):Ni n:=by
 simp only [Lit.wf,Bool.and_eq_true,decide_eq_true_eq] at h
 have h1:IntKind.i64.min= -9223372036854775808:=rfl
 have h2:IntKind.i64.max=9223372036854775807:=rfl
 unfold Ni;omega
theorem ZT {P:Program} {t e:TypeId} (ht:P.underlying t=some (.slice e)) (he:P.underlying e=some (.int .i64)) (hc:P.cellsOf e=1):Mo P t (fun l:List Int=>l.length≤maxLen∧∀n∈l,Ni n) (fun l=>[ints l]):=
 (Wm ht hc (fu he)).map id (fun _ h=>⟨h.2,fun n hn=>i64_in (h.1 n hn)⟩) (fun _=>rfl)
end Go.Proofs.YtmocaapoeefgkaaGreatDoor
namespace Go.Proofs.YtmocaapoeefgkaaGreatDoor
open Go Go.RowKit Cp Go.Proofs.Tryz
abbrev Dh (b:Nat) (s:DS):At:=Wo 104 b s
theorem sk (n:Int) {k:Int} (hk:1≤k):(n.tmod k+k).tmod k=n % k:=by
 have h1: -k<n.tmod k:=by have:=Int.lt_tmod_of_pos n (b:=k) AA;omega
 rw [Int.tmod_eq_emod_of_nonneg AA,Int.tmod_def,show n-k*n.tdiv k+k=n+k*(1-n.tdiv k) by rw [Int.mul_sub];omega,Int.add_mul_emod_self_left]
theorem xq (n:Int) {k:Int} (hk:1≤k): -k<n.tmod k∧n.tmod k<k:=by
 have h1:=Int.lt_tmod_of_pos n (b:=k) AA
 have h2:=Int.tmod_lt_of_pos n (b:=k) AA
 omega
theorem sn {l:List Int}  :BG prog 10 [ints l] (bool (decide (l.length≤400))):=by
 refine fo func10 rfl ⟨rfl,rfl⟩ fun M0 w0=> ?_
 refine a3 ?_
 · exact PY
theorem ACT {n k:Int} (hk:1≤k) (hk2:k≤1000000000):BG prog 68 [int n,int k] (int (n % k)):=by
 refine fo func68 rfl ⟨rfl,rfl⟩ fun M0 w0=> ?_
 have hm:=xq n hk
 have hp:=sk n hk
 · repeat' first|(exfalso;omega)|(refine int_eq ?_;exact hp)|refine co rfl (U4 rfl vq vq AA) ?_|refine ac ?_|(refine Tr.cn rfl ?_ ?_<;>intro h q)
theorem CV {b:Nat} {s:DS} {n:Int} (hn:1≤n) (hn2:n≤1000000000):Bj prog 16 [ptr b 0,int n] (int (s.val n)) (Dh b s) (fun _=>Dh b s.Cd):=by
 refine Bj.of func16 rfl rfl Ao fun M0 w0 S rs M1 w1=> ?_
 have hs:=s.h
 have VZ:=s.h2
 refine ac ?_
 refine an ?_ ?_<;>intro h1 q1
 refine ac ?_
 refine Tr.ret (Fin.AE ?_)
 rw [DS.rL (s:=s) AA]
 refine Fin.Gb [] rfl (AM.tmp rfl Lr) ?_ (fun _ _ _ _=>rfl)
 · refine int_eq ?_;exact (DS.rK AA n).symm
 have hlt:s.at_<s.l.length:=by omega
 obtain ⟨x,hx⟩:=at_ hlt
 refine ac ?_
 refine ap ?_
 refine wk [1,0] rfl ?_
 refine ac ?_
 refine co rfl (AD rfl underlying22 Bt vq vq AA (by rw [show ((s.at_:Nat):Int)+1-1=((s.at_:Nat):Int) by omega];exact AX hx)) ?_
 refine ac ?_
 refine co rfl (CL (ACT AA AA) rfl rfl rfl) ?_
 refine ac ?_
 refine wk [4] rfl (Tr.ret ?_)
 rw [DS.wz hlt]
 refine Fin.Gb [] rfl (AM.tmp rfl Lr) ?_ (fun _ _ _ _=>rfl)
 · refine int_eq ?_;exact (DS.wv hx n).symm
theorem XE {b:Nat} {s:DS} {l:List Int} (hl:l≠[]) (hl2:l.length≤1000000000):Bj prog 34 [ptr b 0,ints l] (int (s.of l)) (Dh b s) (fun _=>Dh b s.Cd):=by
 refine Bj.of func34 rfl rfl Ao fun M0 w0 S rs M1 w1=> ?_
 have hl0:1≤(l.length:Int):=by have:=List.length_pos_iff.2 hl;omega
 have hv:=s.C7 hl0
 obtain ⟨x,hx⟩:=at_ (l:=l) (k:=(s.val l.length).toNat) AA
 refine ac ?_
 refine ap ?_
 refine TO.IP 0 rfl rfl AB (Aq rfl rfl AB rfl (CV AA AA) ⟨kq,kz⟩) (tp rfl (AD rfl underlying22 Bt vq vq AA (Bh hx)) ?_)
 refine ap ?_
 refine Tr.ret (Fin.Gb [] rfl (AM.tmp rfl Lr) ?_ (fun _ _ _ _=>rfl))
 · refine int_eq ?_;unfold DS.of;rw [hx];rfl
theorem mD {b:Nat} {s:DS} {n:Int} (hn:1≤n) (hn2:n≤1000000000):Bj prog 39 [ptr b 0,int n] (bool (s.val n==n-1)) (Dh b s) (fun _=>Dh b s.Cd):=by
 refine Bj.of func39 rfl rfl Ao fun M0 w0 S rs M1 w1=> ?_
 refine ac ?_
 refine ap ?_
 refine TO.IP 0 rfl rfl AB (Aq rfl rfl AB rfl (CV AA AA) ⟨kq,kz⟩) ?_
 refine ap ?_
 refine Tr.ret (Fin.Gb [] rfl (AM.tmp rfl Lr) ?_ (fun _ _ _ _=>rfl))
 · exact Lr
def sr (l:List Int) (hl:l.length≤1000000000) (v:Value):At:=match v with| .pointer (some a)=>Wo 104 a.block ⟨l,0,Nat.zero_le _,hl⟩|_=>Bu
theorem xu {l:List Int} (hl:l.length≤1000000000):Bj prog 12 [ints l] (ex fun b=>ptr b 0) (Bu) (sr l hl):=by
 refine Bj.of func12 rfl rfl Ao fun M0 w0 S rs M1 w1=> ?_
 refine ac ?_
 refine ap ?_
 refine TO.VB rfl rfl AB rfl Cs (fun b1=> ?_)
 refine ap ?_
 refine Tr.ret (Fin.drop 1 ?_)
 refine Fin.Gb [] rfl (AM.tmp rfl Lr) ?_ (by rintro _ _ _ rfl;rfl)
 · exact Ax b1 Lr
-- no type cipherplan/api.Fact here
-- no type cipherplan/api.AEU here
-- no type cipherplan/AGv.place here
theorem vv {d:Nat} {w:World} {x0 y0:Int} {x1 y1:Int}:(Op.equalIn (d+2) 81 (.agg #[.int .i64 x0,.int .i64 x1]) (.agg #[.int .i64 y0,.int .i64 y1])).run Tryz.prog w= .ok (decide (x0=y0∧x1=y1)) w:=by
 have h:=eqS (w:=w) (d:=d+1) (xs:= #[.int .i64 x0,.int .i64 x1]) (ys:= #[.int .i64 y0,.int .i64 y1]) Tryz.underlying81 BS (E_ AB (CJ C8 rfl) (CJ C8 rfl) (GW (d:=d+0) Tryz.underlying3) (E_ AB (CJ C8 rfl) (CJ C8 rfl) (GW (d:=d+0) Tryz.underlying3) (Mu)))
 refine h.trans (congrArg (fun b=>Result.ok b w) ?_)
 rw [Bool.eq_iff_iff];simp [and_assoc]
theorem cv {E:Env} {I:Ck} {o:Oper} {u:TypeId} {x y:Operand} {x0 y0:Int} {x1 y1:Int} (ho:o.op= .binOp .eql 81 x y u) (hx:VL E x (agg [is (.int .i64 x0),is (.int .i64 x1)])) (hy:VL E y (agg [is (.int .i64 y0),is (.int .i64 y1)])):Ag Tryz.prog I o E (bool (decide (x0=y0∧x1=y1))):=
 Mt [.int .i64 x0,.int .i64 x1] [.int .i64 y0,.int .i64 y1] ho hx hy BS (fun w=>by rw [show Op.equal 81 _ _=Op.equalIn (9998+2) 81 _ _ from rfl];exact vv)
theorem Mz {E:Env} {I:Ck} {o:Oper} {u:TypeId} {x y:Operand} {x0 y0:Int} {x1 y1:Int} (ho:o.op= .binOp .neq 81 x y u) (hx:VL E x (agg [is (.int .i64 x0),is (.int .i64 x1)])) (hy:VL E y (agg [is (.int .i64 y0),is (.int .i64 y1)])):Ag Tryz.prog I o E (bool (!decide (x0=y0∧x1=y1))):=
 RG [.int .i64 x0,.int .i64 x1] [.int .i64 y0,.int .i64 y1] ho hx hy BS (fun w=>by rw [show Op.equal 81 _ _=Op.equalIn (9998+2) 81 _ _ from rfl];exact vv)
def Jp (a b:Int):Int:=if a<b then -1 else if b<a then 1 else 0
def orF (l:List Int):Int:=(l.find? fun x=>x !=0).getD 0
theorem sy {l:List Int} {k:Nat} {x:Int} (hx:l[k]? =some x) (h0:¬x=0) (h:∀j y,j<k→l[j]? =some y→(y !=0)=false):x=orF l:=by
 unfold orF
 have:l.find? (fun x=>x !=0)=some x:=by
  rw [List.find?_eq_some_iff_getElem]
  have hk:k<l.length:=by rcases Nat.lt_or_ge k l.length with h|h;exact h;rw [List.getElem?_eq_none h] at hx;cases hx
  rw [List.getElem?_eq_getElem hk] at hx
  simp only [Option.some.injEq] at hx
  refine ⟨by simpa using h0,k,hk,hx,fun j hj=> ?_⟩
  have:=h j _ hj (List.getElem?_eq_getElem AA)
  simpa using this
 rw [this];rfl
theorem mE {l:List Int} (h:∀j y,j<l.length→l[j]? =some y→(y !=0)=false):0=orF l:=by
 unfold orF
 have:l.find? (fun x=>x !=0)=none:=by
  rw [List.find?_eq_none]
  intro x hx
  obtain ⟨j,hj,rfl⟩:=List.mem_iff_getElem.1 hx
  have:=h j _ hj (List.getElem?_eq_getElem hj)
  simpa using this
 rw [this];rfl
def okc (c:UInt8):Bool:=decide (33≤c.toNat∧c.toNat≤126)
def named (s:List UInt8):Bool:=s.all okc&&decide (1≤s.length∧s.length≤32)
theorem Vb {β:Type} {p:β→Bool} {l:List β} {k:Nat} {x:β} (hx:l[k]? =some x) (hp:p x=false):l.all p=false:=by
 rw [Bool.eq_false_iff];intro h;rw [List.all_eq_true] at h;rw [h x (List.mem_of_getElem? hx)] at hp;cases hp
theorem M4 {β:Type} {p:β→Bool} {l:List β} (h:∀j y,j<l.length→l[j]? =some y→(!p y)=false):l.all p=true:=by
 rw [List.all_eq_true]
 intro y hy
 obtain ⟨j,hj⟩:=List.mem_iff_getElem?.1 hy
 have:=h j y bG hj
 simpa using this
theorem mF {n:Int}  :BG prog 166 [int n] (bool false):=by
 refine fo func166 rfl ⟨rfl,rfl⟩ fun M0 w0=> ?_
 refine a3 ?_
 · exact bool_eq AV
theorem mG {a b:Int}  :BG prog 115 [int a,int b] (int (Jp a b)):=by
 refine fo func115 rfl ⟨rfl,rfl⟩ fun M0 w0=> ?_
 · repeat' first|exact absurd h AB|(refine int_eq ?_;unfold Jp;(repeat split)<;>omega)|refine co rfl (Cq (mF) rfl rfl) ?_|refine ac ?_|(refine Tr.cn rfl ?_ ?_<;>intro h q)
theorem ACU {l:List Int}  :BG prog 223 [ints l] (int (orF l)):=by
 refine fo func223 rfl ⟨rfl,rfl⟩ fun M0 w0=>(Tr.Cm 0 rfl fun EJ=> ?_)
 refine a3 ?_
 refine Tr.block (Tr.BH _ (kk [7,6,3] rfl) (fun k:Nat=>[(8,int ((k:Nat):Int))]) (fun k:Nat=>k≤(l).length∧(∀j y,j<k→l[j]? =some y→(y !=0)=false)) (fun k:Nat=>(l).length-k) 0 (⟨Nat.zero_le _,fun j y hj=>absurd hj AA⟩) kz ?_)
 rintro k ⟨BU,AZ⟩
 refine ac ?_
 refine Tr.seq ?_
 refine Tr.cn rfl ?_ ?_<;>intro h1 q1
 have Af:k<(l).length:=AH h1
 obtain ⟨x,Ah⟩:=at_ Af
 refine ac ?_
 refine Tr.seq (Tr.block (Tr.seq (Tr.Aj (co rfl (AD rfl underlying22 Bt vq vq AA CO) ?_))))
 · repeat' first|exact int_eq (sy Ah Bq AZ)|exact Fin.AL (k+1) ⟨⟨Af,Dv (p:=fun y=>y !=0) Ah (by simpa using by assumption) AZ⟩,by omega⟩ ⟨⟨_,rfl,AG k⟩,kz⟩|refine ac ?_|(refine Tr.cn rfl ?_ ?_<;>intro h q)
 have BK:k=(l).length:=by have:=AJ h1;omega
 subst BK
 refine a3 ?_
 · exact int_eq (mE AZ)
theorem Gx {s:List UInt8}  :BG prog 196 [str s] (bool (named s)):=by
 refine fo func196 rfl ⟨rfl,rfl⟩ fun M0 w0=> ?_
 refine ac ?_
 refine ag ?_ ?_<;>intro h1 q1
 refine a3 ?_
 · exact bS
 refine an ?_ ?_<;>intro h2 q2
 refine a2 ?_
 · exact bS
 refine a2 ?_
 refine Tr.block (Tr.BH _ (kk [0] rfl) (fun k:Nat=>[(3,int ((k:Nat):Int))]) (fun k:Nat=>k≤(s).length∧(∀j y,j<k→s[j]? =some y→(!okc y)=false)) (fun k:Nat=>(s).length-k) 0 (⟨Nat.zero_le _,fun j y hj=>absurd hj AA⟩) kz ?_)
 rintro k ⟨BU,AZ⟩
 refine an ?_ ?_<;>intro h3 q3
 have Af:k<(s).length:=AH h3
 obtain ⟨c,Ah⟩:=at_ Af
 · repeat' first|(refine bool_eq ?_;unfold named;rw [Vb (p:=okc) Ah (by simp [okc];omega)];rfl)|(exact Fin.AL (k+1) ⟨⟨Af,Dv (p:=fun c=> !okc c) Ah (by simp [okc];omega) AZ⟩,by omega⟩ ⟨⟨_,rfl,AG k⟩,kz⟩)|refine co rfl (VP rfl underlying9 vq vq AA (VQ Bq)) ?_|refine cy h rfl (VP rfl underlying9 vq vq AA (VQ Bq)) ?_|refine ac ?_|(refine Tr.cn rfl ?_ ?_<;>intro h q)|(refine Ch.cg rfl rfl rfl ?_ ?_<;>intro h q)
 have BK:k=(s).length:=by have:=AJ h3;omega
 subst BK
 refine a3 ?_
 · refine bool_eq ?_;unfold named;rw [M4 AZ,Bool.true_and];symm;rw [decide_eq_true_eq];omega
structure ZU where
 name:List UInt8
 kind:Int
 way:Int
 sizes:List Int
 Tj:List Int
def IZ:List ZU:=[⟨[],0,0,[],[]⟩,⟨[109,100,53],1,0,[],[18]⟩,⟨[115,104,97,49],1,0,[],[60]⟩,⟨[115,104,97,50,53,54],1,0,[],[128]⟩,⟨[115,104,97,51,56,52],1,0,[],[192]⟩,⟨[114,115,97],2,1,[],[]⟩,⟨[100,115,97],2,1,[],[]⟩,⟨[101,99,100,115,97],2,2,[],[]⟩,⟨[101,100,50,53,53,49,57],2,0,[],[128]⟩,⟨[109,108,100,115,97],2,3,[44,65,87],[128,192,256]⟩,⟨[114,115,97,107,120],3,1,[],[]⟩,⟨[100,104,101],3,1,[],[]⟩,⟨[101,99,100,104,101],3,2,[],[]⟩,⟨[109,108,107,101,109],3,3,[512,768,1024],[128,192,256]⟩,⟨[114,99,52],4,3,[40,128],[40,60]⟩,⟨[100,101,115,51],4,3,[112,168],[80,112]⟩,⟨[97,101,115,99,98,99],4,3,[128,256],[128,256]⟩,⟨[97,101,115,103,99,109],4,3,[128,256],[128,256]⟩,⟨[99,104,97,99,104,97],4,0,[],[256]⟩,⟨[104,109,97,99,109,100,53],5,0,[],[64]⟩,⟨[104,109,97,99,115,104,97,49],5,0,[],[80]⟩,⟨[104,109,97,99,115,104,97,50,53,54],5,0,[],[128]⟩,⟨[97,101,97,100],5,0,[],[256]⟩]
def cw:ZU:=⟨[],0,0,[],[]⟩
def En (CH:Int):ZU:=if 1≤CH∧CH≤22 then (IZ[CH.toNat]?).getD cw else cw
theorem Og {CH:Int} (h:1≤CH∧CH≤22):IZ[CH.toNat]? =some (En CH):=by
 have hl:CH.toNat<IZ.length:=by show CH.toNat<23;omega
 unfold En;rw [if_pos h,List.getElem?_eq_getElem hl];rfl
theorem gG {CH:Int} (h:1≤CH∧CH≤22):En CH∈IZ:=List.mem_of_getElem? (Og h)
def mods:List (Int×Int):=[(1024,56),(2048,80),(3072,112),(7680,128),(15360,192)]
def ACV:List (Int×Int)→Int→Int
 |[],_=>256
 |p::l,b=>if b<p.1 then p.2 else ACV l b
def xw (b:Int):Int:=ACV mods b
def bA:List Int:=[160,224,256,384,521]
def Dw (CH bits:Int):Int:=
 if 1 ≤ CH ∧ CH ≤ 22 then
  if (En CH).way=0 then (if bits=0 then ((En CH).Tj[0]?).getD 0 else 0)
  else if (En CH).way=1 then (if 512≤bits∧bits≤16384 then xw bits else 0)
  else if (En CH).way=2 then (if (bA.any fun x=>bits==x)=true then bits.tdiv 2 else 0)
  else if (En CH).way=3 then (if 0≤idx (fun x=>bits==x) (En CH).sizes then ((En CH).Tj[(idx (fun x=>bits==x) (En CH).sizes).toNat]?).getD 0 else 0)
  else 0
 else 0
structure IE where
 J9:Int
 Ny:List UInt8
 Ku:List UInt8
 Sv:Int
 LZ:Int
 CW:Int
 ZV:Int
 RQ:Int
 from_:Int
 Nz:Int
 auth:Bool
 path:Int
 names:List (List UInt8)
 s7:Int
 s8:Int
abbrev gH (l:List (List UInt8)):Pr:=slice 1 (l.map fun t=>[str t])
abbrev EE (c:IE):List Pr:=[int c.J9,str c.Ny,str c.Ku,int c.Sv,int c.LZ,int c.CW,int c.ZV,int c.RQ,int c.from_,int c.Nz,bool c.auth,int c.path,gH c.names,int c.s7,int c.s8]
abbrev La (l:List IE):Pr:=slice 15 (l.map EE)
structure IE.fits (c:IE):Prop where
 Ny:c.Ny.length≤maxLen
 Ku:c.Ku.length≤maxLen
 names:∀s∈c.names,s.length≤maxLen
def IG (n:Int):Bool:=decide (0≤n)&&decide (n≤2147483648)
def xx (n:Int):Bool:=decide (0≤n)&&decide (n<4294967296)
def Kv (o:List UInt8) (c:UInt8):Bool:=decide (97≤c.toNat∧c.toNat≤122)||decide (65≤c.toNat∧c.toNat≤90)||decide (48≤c.toNat∧c.toNat≤57)||decide (0≤Lib.indexByte o c)
def Ql (s:List UInt8):Bool:=s.all (Kv [45,95,46])&&decide (1≤s.length∧s.length≤32)
def nameAt (l:List (List UInt8)) (i:Nat):Bool:=named (l[i]?.getD [])&&(decide (i=0)||decide (Lib.compareBytes (l[i-1]?.getD []) (l[i]?.getD [])= -1))
def HM (l:List (List UInt8)):Bool:=allI (nameAt l) l.length&&decide (l.length≤8)
def LQ (CH bits kind:Int):Bool:=decide (Dw CH bits>0)&&(En CH).kind==kind
def EF (c:IE):Bool:=
 (decide (0≤c.J9)&&decide (c.J9≤1099511627776)&&named c.Ny&&named c.Ku&&HM c.names)&&
 (LQ c.Sv c.LZ 2&&IG c.CW&&LQ c.ZV c.RQ 1&&IG c.s7&&xx c.s8)&&
 (decide (0≤c.from_)&&decide (c.from_≤c.Nz)&&decide (c.Nz≤40000))&&(decide (0≤c.path)&&decide (c.path≤8)&&(c.auth||c.path==0))
def Vc (CH bits id:Int) (l:List IE):Bool:=LQ CH bits 2&&IG id&&decide (l.length≤8)&&l.all EF&&match l with|[]=>true|c::_=>decide (c.Sv=CH∧c.LZ=bits)&&c.CW==id
structure Jb where
 CH:Int
 bits:Int
 CW:Int
 chain:List IE
abbrev HN (x:Jb):List Pr:=[int x.CH,int x.bits,int x.CW,La x.chain]
abbrev xy (l:List Jb):Pr:=slice 4 (l.map HN)
def Jb.fits (x:Jb):Prop:=∀c∈x.chain,c.fits
structure CA where
 name:List UInt8
 least:Int
 most:Int
 A8:List Int
 own:Bool
 ids:List Jb
 anchors:List Int
 hashes:List Int
 Ia:Bool
abbrev Bf (e:CA):List Pr:=[str e.name,int e.least,int e.most,ints e.A8,bool e.own,xy e.ids,ints e.anchors,ints e.hashes,bool e.Ia]
structure CA.fits (e:CA):Prop where
 name:e.name.length≤maxLen
 ids:∀x∈e.ids,x.fits
def Ib (l:List Int) (i:Nat):Bool:=decide (i=0)||decide (l[i-1]?.getD 0<l[i]?.getD 0)
def gI (l:List Int):Bool:=allI (Ib l) l.length
def GX (l:List Int) (i:Nat):Bool:=decide (1≤l[i]?.getD 0∧l[i]?.getD 0≤16)&& !((l.take i).any fun x=>l[i]?.getD 0==x)
def Kw (l:List Int):Bool:=allI (GX l) l.length
def RR (n:Int):Bool:=(En n).kind==1
def idB (x:Jb):Bool:=Vc x.CH x.bits x.CW x.chain
def Gd (e:CA):Bool:=
 (Ql e.name&&decide (1≤e.least)&&decide (e.least≤e.most)&&decide (e.most≤4)&&Kw e.A8)&&
 (decide (e.ids.length≤4)&&decide (e.anchors.length≤16)&&gI e.anchors&&gI e.hashes)&&e.ids.all idB&&e.anchors.all IG&&e.hashes.all RR
theorem getD_at {β:Type} {l:List β} {k:Nat} {x d:β} (h:l[k]? =some x):l[k]?.getD d=x:=by rw [h];rfl
abbrev DZ:List Pr:=[any,any,any,any,any,any,any,any,any,any,any,any]
abbrev M6:List (List Pr):=[DZ,DZ,DZ,DZ,DZ,DZ,DZ,DZ,DZ,DZ,DZ,DZ,DZ,DZ,DZ,DZ]
theorem mH {k:Nat} (hk:k<16):M6[k]? =some DZ:=by
 have hk':k<M6.length:=hk
 rw [List.getElem?_eq_getElem hk']
 have:∀r∈M6,r=DZ:=by intro r hr;simp at hr;exact hr
 rw [this _ (List.getElem_mem hk')]
theorem gJ {i:Nat} {p:Pr} (h:DZ[i]? =some p):p=any:=by have:=List.mem_of_getElem? h;simp at this;exact this
theorem Vd {ps:List Pr} (h:ps.length=12):Pr.le (agg ps) (agg DZ):=fun M w v ⟨cs,h1,h2,h3⟩=>⟨cs,h1,h2,HL.vL (by rw [h3.length,h];rfl) fun i p v hp _=>by rw [gJ hp];trivial⟩
def mI (CH bits id:Int) (l:List IE):Bool:=match l with|[]=>true|c::_=>decide (c.Sv=CH∧c.LZ=bits)&&c.CW==id
theorem gK {CH bits id:Int} {l:List IE} (h:l.length=0):mI CH bits id l=true:=by rw [List.eq_nil_of_length_eq_zero h];rfl
theorem XF {CH bits id:Int} {l:List IE} {c:IE} (h:l[0]? =some c):mI CH bits id l=(decide (c.Sv=CH∧c.LZ=bits)&&c.CW==id):=by
 cases l with
 |nil=>simp at h
 |cons a l=>simp at h;subst h;rfl
theorem G1 (CH bits id:Int) (l:List IE):Vc CH bits id l=(LQ CH bits 2&&IG id&&decide (l.length≤8)&&l.all EF&&mI CH bits id l):=rfl
theorem M7 {β γ:Type} {f:β→γ} {l:List β} (h:l≠[]):0<(l.map f).length:=by rw [List.length_map];exact List.length_pos_iff.2 h
theorem gL {l:List (Int)} (h0:l≠[]) (hl:l.length≤1000000):Bj prog 131 [slice 1 (l.map (fun n:Int=>[int n]))] (lens (l.map (fun n:Int=>[int n])).length) (Bu) (fun v=>Fh 3 1 (l.map (fun n:Int=>[int n])) v):=by
 refine Bj.of func131 rfl rfl Ao fun M0 w0 S rs M1 w1=> ?_
 have hpos:=M7 (f:=(fun n:Int=>[int n])) h0
 refine a2 ?_
 refine co rfl (Fb rfl underlying22 vq) ?_
 refine ac ?_
 refine Tr.ex 4 rfl (fun z1=>Tr.fact 4 rfl fun Ef=> ?_)
 refine Tr.cn rfl ?_ ?_<;>intro h1 q1
 exfalso;have:=Ef h1;simp_all
 refine ac ?_
 refine ap ?_
 refine TO.pad ?_
 refine TO.DT 0 rfl rfl AB (JA rfl rfl AB rfl underlying22 Bt G2 z3 rfl AB AB vq vq hpos Jw Cz) (fun v1=> ?_)
 refine ap ?_
 refine Tr.ret (Fin.drop 1 ?_)
 refine Fin.E7 rfl rfl ?_ PX
 · exact Gt
theorem gM   :BG prog 131 [slice 1 []] (full 1 []):=by
 refine fo func131 rfl ⟨rfl,rfl⟩ fun M0 w0=> ?_
 refine a2 ?_
 refine co rfl (Fb rfl underlying22 vq) ?_
 refine ac ?_
 refine Tr.ex 4 rfl (fun z1=>Tr.fact 4 rfl fun Ef=> ?_)
 · repeat' first|exact Cr 1|exact Lr|refine co rfl (Mx rfl underlying22 Bt vq vq) ?_|refine ac ?_|(refine Tr.cn rfl ?_ ?_<;>intro h q)
theorem N0 {l:List (Int)} (hl:l.length≤1000000):Bj Tryz.prog 131 [slice 1 (l.map (fun n:Int=>[int n]))] (lens l.length) Bu (fun v=>Bs 3 1 (l.map (fun n:Int=>[int n])) v):=by
 by_cases h0:l=[]
 · subst h0;exact Bj.XB gM
 ·
  have:=Bj.RP (by intro h;exact h0 D3) (gL h0 hl)
  rwa [List.length_map] at this
theorem gN {l:List (IE)} (h0:l≠[]) (hl:l.length≤925904528640):Bj prog 241 [slice 15 (l.map EE)] (lens (l.map EE).length) (Bu) (fun v=>Fh 189 15 (l.map EE) v):=by
 refine Bj.of func241 rfl rfl Ao fun M0 w0 S rs M1 w1=> ?_
 have hpos:=M7 (f:=EE) h0
 refine a2 ?_
 refine co rfl (Fb rfl underlying82 vq) ?_
 refine ac ?_
 refine Tr.ex 4 rfl (fun z1=>Tr.fact 4 rfl fun Ef=> ?_)
 refine Tr.cn rfl ?_ ?_<;>intro h1 q1
 exfalso;have:=Ef h1;simp_all
 refine ac ?_
 refine ap ?_
 refine TO.pad ?_
 refine TO.DT 0 rfl rfl AB (JA rfl rfl AB rfl underlying82 DN vZ VM rfl AB AB vq vq hpos Jw Cz) (fun v1=> ?_)
 refine ap ?_
 refine Tr.ret (Fin.drop 1 ?_)
 refine Fin.E7 rfl rfl ?_ PX
 · exact Gt
theorem gO   :BG prog 241 [slice 15 []] (full 15 []):=by
 refine fo func241 rfl ⟨rfl,rfl⟩ fun M0 w0=> ?_
 refine a2 ?_
 refine co rfl (Fb rfl underlying82 vq) ?_
 refine ac ?_
 refine Tr.ex 4 rfl (fun z1=>Tr.fact 4 rfl fun Ef=> ?_)
 · repeat' first|exact Cr 15|exact Lr|refine co rfl (Mx rfl underlying82 DN vq vq) ?_|refine ac ?_|(refine Tr.cn rfl ?_ ?_<;>intro h q)
theorem gP {l:List (IE)} (hl:l.length≤925904528640):Bj Tryz.prog 241 [slice 15 (l.map EE)] (lens l.length) Bu (fun v=>Bs 189 15 (l.map EE) v):=by
 by_cases h0:l=[]
 · subst h0;exact Bj.XB gO
 ·
  have:=Bj.RP (by intro h;exact h0 D3) (gN h0 hl)
  rwa [List.length_map] at this
theorem gQ {l:List (List UInt8)} (h0:l≠[]) (hl:l.length≤8796093022208):Bj prog 242 [slice 1 (l.map (fun t:List UInt8=>[str t]))] (lens (l.map (fun t:List UInt8=>[str t])).length) (Bu) (fun v=>Fh 9 1 (l.map (fun t:List UInt8=>[str t])) v):=by
 refine Bj.of func242 rfl rfl Ao fun M0 w0 S rs M1 w1=> ?_
 have hpos:=M7 (f:=(fun t:List UInt8=>[str t])) h0
 refine a2 ?_
 refine co rfl (Fb rfl underlying127 vq) ?_
 refine ac ?_
 refine Tr.ex 4 rfl (fun z1=>Tr.fact 4 rfl fun Ef=> ?_)
 refine Tr.cn rfl ?_ ?_<;>intro h1 q1
 exfalso;have:=Ef h1;simp_all
 refine ac ?_
 refine ap ?_
 refine TO.pad ?_
 refine TO.DT 0 rfl rfl AB (JA rfl rfl AB rfl underlying127 Mq by9 z9 rfl AB AB vq vq hpos Jw Cz) (fun v1=> ?_)
 refine ap ?_
 refine Tr.ret (Fin.drop 1 ?_)
 refine Fin.E7 rfl rfl ?_ PX
 · exact Gt
theorem gR   :BG prog 242 [slice 1 []] (full 1 []):=by
 refine fo func242 rfl ⟨rfl,rfl⟩ fun M0 w0=> ?_
 refine a2 ?_
 refine co rfl (Fb rfl underlying127 vq) ?_
 refine ac ?_
 refine Tr.ex 4 rfl (fun z1=>Tr.fact 4 rfl fun Ef=> ?_)
 · repeat' first|exact Cr 1|exact Lr|refine co rfl (Mx rfl underlying127 Mq vq vq) ?_|refine ac ?_|(refine Tr.cn rfl ?_ ?_<;>intro h q)
theorem gS {l:List (List UInt8)} (hl:l.length≤8796093022208):BG Tryz.prog 242 [slice 1 (l.map (fun t:List UInt8=>[str t]))] (slice 1 (l.map (fun t:List UInt8=>[str t]))):=by
 by_cases h0:l=[]
 · subst h0;exact BG.le gR (fun _ _ _ h=>h) (Bx _ _)
 · exact (Bj.ABV (rows:=(l.map (fun t:List UInt8=>[str t]))) (BD fun _=>rfl) (gQ h0 hl)).pure
structure Jb.small (x:Jb):Prop where
 chain:x.chain.length≤925904528640
 names:∀c∈x.chain,c.names.length≤8796093022208
theorem mJ {x:Jb} (hx:x.small):BG prog 203 [agg (HN x)] (agg (HN x)):=by
 refine fo func203 rfl ⟨rfl,rfl⟩ fun M0 w0=> ?_
 have hch:=hx.chain
 refine Tr.seq (Tr.An ?_)
 refine TO.VB rfl rfl AB rfl Cs (fun b1=> ?_)
 refine Tl rfl rfl rfl rfl YU Wt (fun b2=> ?_)
 refine ao ?_
 refine ao ?_
 refine TO.pad ?_
 refine TO.DT 0 rfl rfl AB (GS rfl rfl AB rfl (gP (l:=x.chain) AA) kz) (fun v1=> ?_)
 refine tp rfl (AW rfl lF vq) (TO.DP 2 rfl rfl (A0 rfl rfl vq My AAw rfl Ao rfl) ?_)
 refine ao ?_
 refine ac ?_
 refine co rfl (Cg 0 rfl (sZ rfl underlying82 Jo)) ?_
 refine ac ?_
 refine Tr.block (Tr.re 11 rfl (int_eq (by rw [List.length_map])) (Tr.BH _ (kk [11,10,2,1] rfl) (fun k:Nat=>[(12,int ((k:Nat):Int))]) (fun k:Nat=>k≤(x.chain).length) (fun k:Nat=>(x.chain).length-k) 0 (Nat.zero_le _) kz ?_))
 rintro k BU
 refine ac ?_
 refine Tr.seq ?_
 refine Tr.cn rfl ?_ ?_<;>intro h1 q1
 have Af:k<(x.chain).length:=AH h1
 obtain ⟨c,Ah⟩:=at_ Af
 have hcn:=hx.names c (List.mem_of_getElem? Ah)
 refine ac ?_
 refine ao ?_
 refine tp rfl (Cg 0 rfl (HK rfl underlying82 DN Jo vq AA Cz)) ?_
 refine tp rfl (Cg 0 rfl (gF rfl Gk DN vq (BD fun _=>rfl) bn)) ?_
 refine Tl rfl rfl rfl rfl VM Od (fun b3=> ?_)
 refine tm rfl ?_
 refine sf 0 4 ⟨rfl,rfl,rfl⟩ rfl rfl rfl rfl ?_
 refine ao ?_
 refine Tr.rx ?_
 refine ax ?_
 refine xo rfl (fun _=>Cq (gS hcn) rfl rfl) ?_
 refine IV 0 rfl rfl (HK rfl underlying82 DN Jo vq AA Cz) ?_
 refine xo rfl (fun _=>ZR rfl Wx vq) ?_
 refine Cx.DP 0 rfl rfl (Em rfl rfl vq My vS rfl (BD fun _=>rfl) bn AB (lX (f:=EE) Ah rfl)) ?_
 refine Cx.nil ⟨by kernel_rfl,?_⟩
 refine BE.done al3 ?_
 refine ac ?_
 refine wk [12,11,10,2,1] rfl ?_
 refine ac ?_
 exact Fin.AL (k+1) ⟨Af,by omega⟩ ⟨⟨_,rfl,AG k⟩,kz⟩
 have BK:k=(x.chain).length:=by have:=AJ h1;omega
 subst BK
 refine ac ?_
 refine Tr.seq (Tr.FA 2 0 3 rfl rfl AB rfl (EA _ _) (BD fun _=>rfl) ?_)
 refine ao ?_
 refine TO.AK 1 rfl rfl rfl vq Cs rfl Ey rfl rfl ?_
 refine ao ?_
 refine Tr.drop 0 (Tr.drop 1 (Tr.ret (Fin.CY rfl (AM.cell 0 rfl rfl Tc Ey rfl Lr) ?_)))
 · exact Lr
structure BX where
 Aa:Int
 kind:Int
 number:Int
 at_:Int
 Cy:Jb
abbrev Eo (c:BX):List Pr:=[int c.Aa,int c.kind,int c.number,int c.at_,int c.Cy.CH,int c.Cy.bits,int c.Cy.CW,La c.Cy.chain]
def Bp (key:Int) (l:List Jb):Int:=idx (fun x=>x.CW==key) l
theorem Pt {β:Type} {p:β→Bool} {l:List β} (h:0≤idx p l):∃x,l[(idx p l).toNat]? =some x∧p x=true∧(idx p l).toNat<l.length:=by
 unfold idx at*
 cases hf:l.findIdx? p with
 |none=>rw [hf] at h;simp at h
 |some i=>
  rw [List.findIdx?_eq_some_iff_getElem] at hf
  obtain ⟨h1,h2,_⟩:=hf
  refine ⟨l[i],?_,h2,by simpa using h1⟩
  simp
theorem lW.perm {P:Program} {f:FuncId} {args:List Pr} {pre post post':List At} {res:Pr} (h:lW P f args pre res post) (hp:post.Perm post'):lW P f args pre res post':=
 ⟨h.1,fun M0 w0 S rs M w vs hI hv=>(h.2 M0 w0 S rs M w vs hI hv).mono fun _e _w' ⟨v,M',x,h1,h2,h3,h4,h5⟩=>⟨v,M',x,h1,h2,h3,h4,A9.perm (hp.append_right rs) h5⟩⟩
def cz (x:Jb):Bool:=decide (x.CH=0∧x.bits=0)&&x.CW==0&&(((x.chain.length:Nat):Int)==0)
def jv (c:BX):Bool:=if c.kind=1 then cz c.Cy else if c.kind=5 then c.number==0 else c.at_==0&&cz c.Cy
structure CA.small (e:CA):Prop where
 A8:e.A8.length≤1000000
 anchors:e.anchors.length≤1000000
 hashes:e.hashes.length≤1000000
 Yk:e.ids.length≤1000000
 ids:∀x∈e.ids,x.small
theorem s_ {c:BX} (hx:c.Cy.small):BG prog 155 [agg (Eo c)] (agg (Eo c)):=by
 refine fo func155 rfl ⟨rfl,rfl⟩ fun M0 w0=>(Tr.seq (Tr.An ?_))
 refine TO.VB rfl rfl AB rfl Cs (fun b1=> ?_)
 refine Tl rfl rfl rfl rfl Pn LD (fun b2=> ?_)
 refine ap ?_
 refine ap ?_
 refine tp rfl (Cq (mJ (x:=c.Cy) hx) rfl rfl) ?_
 refine ap ?_
 refine ap ?_
 refine Tr.drop 1 (Tr.ret (Fin.CY rfl (AM.cell 0 rfl rfl Hr Du rfl Lr) ?_))
 · exact Lr
def J_ (b:Int) (l m:List Int):Int:=if 0≤idx (fun x=>b==x) l then (m[(idx (fun x=>b==x) l).toNat]?).getD 0 else 0
theorem gT {b:Int} {l m:List Int} {k:Nat} {x z:Int} (hx:l[k]? =some x) (he:x=b) (hz:m[k]? =some z) (h:∀j y,j<k→l[j]? =some y→(b==y)=false):z=J_ b l m:=by
 have:=Es (p:=fun x=>b==x) hx (by simp [he]) h
 unfold J_;rw [←this,if_pos AA,Int.toNat_natCast,hz];rfl
theorem ZW {b:Int} {l m:List Int} (h:∀j y,j<l.length→l[j]? =some y→(b==y)=false):0=J_ b l m:=by
 have:=Gc (p:=fun x=>b==x) h
 unfold J_;rw [←this,if_neg AA]
def Gr (CH:Int):Int:=if CH=1 then 18 else if CH=2 then 60 else if CH=3∨CH=8∨CH=21 then 128 else if CH=4 then 192 else if CH=18∨CH=22 then 256 else if CH=19 then 64 else if CH=20 then 80 else 0
def OR (b:Int):Int:=if b<512∨b>16384 then 0 else if b<1024 then 56 else if b<2048 then 80 else if b<3072 then 112 else if b<7680 then 128 else if b<15360 then 192 else 256
theorem mK (b:Int):OR b=if 512≤b∧b≤16384 then xw b else 0:=by
 have h1:xw b=if b<1024 then 56 else if b<2048 then 80 else if b<3072 then 112 else if b<7680 then 128 else if b<15360 then 192 else 256:=rfl
 rw [h1];unfold OR
 by_cases h:512≤b∧b≤16384
 · rw [if_pos h,if_neg AA]
 · rw [if_neg h,if_pos AA]
theorem JD {b:Int} {l m:List Int} (hl:l.length≤m.length):BG prog 269 [int b,ints l,ints m] (int (J_ b l m)):=by
 refine fo func269 rfl ⟨rfl,rfl⟩ fun M0 w0=>(Tr.Cm 1 rfl fun Fo=> ?_)
 refine a2 ?_
 refine Tr.block (Tr.BH _ (kk [2,1,0] rfl) (fun k:Nat=>[(7,int ((k:Nat):Int))]) (fun k:Nat=>k≤(l).length∧(∀j y,j<k→l[j]? =some y→(b==y)=false)) (fun k:Nat=>(l).length-k) 0 (⟨Nat.zero_le _,fun j y hj=>absurd hj AA⟩) kz ?_)
 rintro k ⟨BU,AZ⟩
 refine an ?_ ?_<;>intro h1 q1
 have Af:k<(l).length:=AH h1
 obtain ⟨x,Ah⟩:=at_ Af
 obtain ⟨z,hz⟩:=at_ (l:=m) (k:=k) AA
 · repeat' first|exact int_eq (gT Ah Bq hz AZ)|(exact Fin.AL (k+1) ⟨⟨Af,Dv (p:=fun x=>b==x) Ah B8 AZ⟩,by omega⟩ ⟨⟨_,rfl,AG k⟩,kz⟩)|refine co rfl (AD rfl underlying22 Bt vq vq AA CO) ?_|refine ac ?_|(refine Tr.cn rfl ?_ ?_<;>intro h q)
 have BK:k=(l).length:=by have:=AJ h1;omega
 subst BK
 refine a3 ?_
 · exact int_eq (ZW AZ)
theorem mL {CH:Int}  :BG prog 270 [int CH] (int (Gr CH)):=by
 refine fo func270 rfl ⟨rfl,rfl⟩ fun M0 w0=> ?_
 refine a2 ?_
 refine an ?_ ?_<;>intro h1 q1
 refine a2 ?_
 · refine int_eq ?_;unfold Gr;(repeat (rw [if_pos AA]))
 refine an ?_ ?_<;>intro h2 q2
 refine a2 ?_
 · exact NZ
 refine an ?_ ?_<;>intro h3 q3
 refine ac ?_
 refine Tr.cond rfl (fun _=> ?_) (fun h=>nomatch h3.symm.trans h)
 refine a2 ?_
 · exact NZ
 refine an ?_ ?_<;>intro h4 q4
 refine ac ?_
 refine Tr.cond rfl (fun _=> ?_) (fun h=>nomatch h4.symm.trans h)
 refine a2 ?_
 · exact NZ
 refine an ?_ ?_<;>intro h5 q5
 refine a2 ?_
 · exact NZ
 refine ac ?_
 refine wk [12,3] rfl ?_
 refine Tr.cn rfl ?_ ?_<;>intro h6 q6
 refine a2 ?_
 · exact NZ
 refine an ?_ ?_<;>intro h7 q7
 refine ac ?_
 refine Tr.cond rfl (fun _=> ?_) (fun h=>nomatch h7.symm.trans h)
 refine a2 ?_
 · exact NZ
 · repeat' first|(refine int_eq ?_;unfold Gr;(repeat (first|rw [if_pos AA]|rw [if_neg AA])))|(refine int_eq ?_;unfold Gr;(repeat (rw [if_neg AA])))|refine ac ?_|(refine Tr.cn rfl ?_ ?_<;>intro h q)
theorem JE {b:Int}  :BG prog 268 [int b] (int (OR b)):=by
 refine fo func268 rfl ⟨rfl,rfl⟩ fun M0 w0=> ?_
 refine ac ?_
 refine ac ?_
 refine Ch.cs 6 rfl ?_ ?_<;>intro h1 q1
 refine ac ?_
 refine ac ?_
 refine ac ?_
 · refine int_eq ?_;unfold OR;(repeat (rw [if_pos AA]))
 refine ac ?_
 refine Tr.cn rfl ?_ ?_<;>intro h2 q2
 refine ac ?_
 refine ac ?_
 · refine int_eq ?_;unfold OR;(repeat (rw [if_pos AA]))
 refine ac ?_
 refine Tr.cn rfl ?_ ?_<;>intro h3 q3
 refine ac ?_
 refine ac ?_
 · exact QZ
 refine ac ?_
 refine TR 0 13 rfl ?_
 refine Tr.cn rfl ?_ ?_<;>intro h4 q4
 refine ac ?_
 refine ac ?_
 · exact QZ
 refine ac ?_
 refine Tr.cn rfl ?_ ?_<;>intro h5 q5
 refine ac ?_
 refine ac ?_
 · exact QZ
 refine ac ?_
 refine Tr.cn rfl ?_ ?_<;>intro h6 q6
 refine ac ?_
 refine ac ?_
 · exact QZ
 refine ac ?_
 refine Tr.cn rfl ?_ ?_<;>intro h7 q7
 refine ac ?_
 refine ac ?_
 · exact QZ
 refine ac ?_
 refine ac ?_
 refine ac ?_
 · refine int_eq ?_;unfold OR;(repeat (rw [if_neg AA]))
theorem tA (b c:Int):J_ b [0] [c]=if b=0 then c else 0:=by
 unfold J_ idx
 by_cases h:b=0
 · subst h;rfl
 ·
  have:List.findIdx? (fun x=>b==x) [0]=none:=by simp [h]
  rw [this,if_neg h];rfl
theorem Um {CH b:Int} (h:CH=5∨CH=6∨CH=10∨CH=11):OR b=Dw CH b:=by
 rw [mK]
 rcases h with rfl|rfl|rfl|rfl<;>rfl
theorem Sw {CH b:Int} (h:¬(CH=5∨CH=6∨CH=7∨CH=9∨CH=10∨CH=11∨CH=12∨CH=13∨CH=14∨CH=15∨CH=16∨CH=17)):J_ b [0] [Gr CH]=Dw CH b:=by
 rw [tA]
 by_cases hin:1≤CH∧CH≤22
 ·
  have ha:CH=1∨CH=2∨CH=3∨CH=4∨CH=8∨CH=18∨CH=19∨CH=20∨CH=21∨CH=22:=by omega
  rcases ha with rfl|rfl|rfl|rfl|rfl|rfl|rfl|rfl|rfl|rfl<;>rfl
 ·
  have h1:Gr CH=0:=by unfold Gr;(repeat (first|rw [if_pos AA]|rw [if_neg AA]))
  unfold Dw
  rw [h1,if_neg hin];split<;>rfl
theorem MW {CH b:Int} (h:CH=7∨CH=12):Dw CH b=if (bA.any fun x=>b==x)=true then b.tdiv 2 else 0:=by
 rcases h with rfl|rfl<;>rfl
theorem XG {CH bits:Int}  :BG prog 229 [agg [int CH,int bits]] (int (Dw CH bits)):=by
 refine fo func229 rfl ⟨rfl,rfl⟩ fun M0 w0=> ?_
 iterate 4 refine ac ?_
 refine Tr.cn rfl ?_ ?_<;>intro h1 q1
 refine ac ?_
 refine Tr.cond rfl (fun _=> ?_) (fun h=>nomatch h1.symm.trans h)
 refine ac ?_
 refine co rfl (Cq (JE) rfl rfl) ?_
 refine a2 ?_
 · exact PT
 refine an ?_ ?_<;>intro h2 q2
 refine ac ?_
 refine Tr.cond rfl (fun _=> ?_) (fun h=>nomatch h2.symm.trans h)
 refine ac ?_
 refine co rfl (Cq (JE) rfl rfl) ?_
 refine ac ?_
 refine wk [2] rfl ?_
 refine ac ?_
 · exact PT
 refine an ?_ ?_<;>intro h3 q3
 refine ac ?_
 refine Tr.cond rfl (fun _=> ?_) (fun h=>nomatch h3.symm.trans h)
 refine ac ?_
 refine co rfl (Cq (JE) rfl rfl) ?_
 refine ac ?_
 refine wk [2] rfl ?_
 refine ac ?_
 · exact PT
 refine ac ?_
 refine wk [8,7,3,1] rfl ?_
 refine Tr.cn rfl ?_ ?_<;>intro h4 q4
 refine ac ?_
 refine co rfl (Cq (JE) rfl rfl) ?_
 refine a2 ?_
 · exact PT
 refine an ?_ ?_<;>intro h5 q5
 refine ac ?_
 refine Tr.cond rfl (fun _=> ?_) (fun h=>nomatch h5.symm.trans h)
 · exact jo
 refine an ?_ ?_<;>intro h11 Sx
 · exact jo
 refine an ?_ ?_<;>intro Nr q17
 refine ac ?_
 refine co rfl (AR rfl (JD (l:=[44,65,87]) (m:=[128,192,256]) AV) ⟨kq,F4,F4,trivial⟩) ?_
 refine ac ?_
 refine wk [2] rfl ?_
 refine ac ?_
 · refine int_eq ?_;have ha:CH=9:=AA;rcases ha with rfl<;>rfl
 refine an ?_ ?_<;>intro Si q18
 refine ac ?_
 refine co rfl (AR rfl (JD (l:=[512,768,1024]) (m:=[128,192,256]) AV) ⟨kq,F4,F4,trivial⟩) ?_
 refine ac ?_
 refine wk [2] rfl ?_
 refine ac ?_
 · refine int_eq ?_;have ha:CH=13:=AA;rcases ha with rfl<;>rfl
 refine ac ?_
 refine wk [50,7,3,1] rfl ?_
 refine Tr.cn rfl ?_ ?_<;>intro h19 q19
 refine ac ?_
 refine co rfl (AR rfl (JD (l:=[40,128]) (m:=[40,60]) AV) ⟨kq,F4,F4,trivial⟩) ?_
 refine a2 ?_
 · refine int_eq ?_;have ha:CH=14:=AA;rcases ha with rfl<;>rfl
 refine an ?_ ?_<;>intro Sk q20
 refine ac ?_
 refine co rfl (AR rfl (JD (l:=[112,168]) (m:=[80,112]) AV) ⟨kq,F4,F4,trivial⟩) ?_
 refine a2 ?_
 · refine int_eq ?_;have ha:CH=15:=AA;rcases ha with rfl<;>rfl
 refine an ?_ ?_<;>intro c_ q21
 refine ac ?_
 refine Tr.cond rfl (fun _=> ?_) (fun h=>nomatch c_.symm.trans h)
 refine ac ?_
 refine co rfl (AR rfl (JD (l:=[128,256]) (m:=[128,256]) AV) ⟨kq,F4,F4,trivial⟩) ?_
 refine a2 ?_
 · refine int_eq ?_;have ha:CH=16∨CH=17:=AA;rcases ha with rfl|rfl<;>rfl
 · repeat' first|(refine int_eq ?_;have ha:CH=16∨CH=17:=AA;rcases ha with rfl|rfl<;>rfl)|(refine int_eq ?_;exact Sw AA)|refine co rfl (AR rfl (JD (l:=[128,256]) (m:=[128,256]) AV) ⟨kq,F4,F4,trivial⟩) ?_|refine co rfl (Cq (mL) rfl rfl) (co rfl (AO (xs:=[.tmp 73]) (rows:=[[_]]) rfl rfl underlying22 Bt z3 rfl AB ⟨⟨Am,My⟩,trivial⟩ AB) ?_)|refine co rfl (AR rfl (JD (l:=[0]) (m:=[Gr CH]) AV) ⟨kq,F4,F4,trivial⟩) ?_|refine ac ?_|(refine Tr.cn rfl ?_ ?_<;>intro h q)
theorem KA {CH bits:Int}  :BG prog 197 [agg [int CH,int bits]] (bool (decide (Dw CH bits>0))):=by
 refine fo func197 rfl ⟨rfl,rfl⟩ fun M0 w0=> ?_
 refine a2 ?_
 refine co rfl (Cq (XG) rfl rfl) ?_
 refine a2 ?_
 · exact Lr
def xz:List (List UInt8×Int):=IZ.map fun r=>(r.name,r.kind)
theorem tB {CH:Int} (h:1≤CH∧CH≤22):xz[CH.toNat]? =some ((En CH).name,(En CH).kind):=by
 unfold xz;rw [List.getElem?_map,Og h];rfl
theorem tC   :BG prog 228 [] (slice 2 (xz.map fun r=>[str r.1,int r.2])):=by
 refine fo func228 rfl ⟨rfl,rfl⟩ fun M0 w0=> ?_
 refine a2 ?_
 refine wk [0] rfl ?_
 refine ac ?_
 · exact Bx _ _
theorem Pu {CH:Int}  :BG prog 195 [int CH] (int (En CH).kind):=by
 refine fo func195 rfl ⟨rfl,rfl⟩ fun M0 w0=> ?_
 refine ac ?_
 refine ag ?_ ?_<;>intro h1 q1
 refine a3 ?_
 · refine int_eq ?_;unfold En;rw [if_neg AA];rfl
 refine an ?_ ?_<;>intro h2 q2
 refine a2 ?_
 · refine int_eq ?_;unfold En;rw [if_neg AA];rfl
 have hin:1≤CH∧CH≤22:=by omega
 refine ac ?_
 refine Tr.seq (Tr.Aj (co rfl (kc0 (tC) rfl) (cm rfl (co rfl (AD rfl underlying291 vh vq vq AA (Bh (f:=fun r:List UInt8×Int=>[str r.1,int r.2]) (tB hin))) ?_))))
 refine a2 ?_
 · exact Lr
theorem KB {CH bits:Int}  :BG prog 224 [agg [int CH,int bits]] (bool (decide (Dw CH bits>0)&&(En CH).kind==2)):=by
 refine fo func224 rfl ⟨rfl,rfl⟩ fun M0 w0=> ?_
 refine ac ?_
 refine ac ?_
 refine co rfl (Cq (KA) rfl rfl) (cm rfl ?_)
 refine Ch.cs 5 rfl ?_ ?_<;>intro h1 q1
 refine ac ?_
 refine cy h1 rfl (Cq (Pu) rfl rfl) ?_
 refine ac ?_
 refine ac ?_
 · refine bool_eq ?_;simp_all
 refine ac ?_
 refine ac ?_
 · exact PY
def FG:CA:=⟨[],0,0,[],false,[],[],[],false⟩
def B1:Jb:=⟨0,0,0,[]⟩
def Ht:BX:=⟨0,0,0,0,B1⟩
abbrev tD (l:List Int):Prop:=l.Pairwise (· < ·)
def Ez (l:List Int) (x:Int):Nat:=(l.takeWhile fun y=>decide (y<x)).length
theorem dA (l:List Int) (x:Int):Ez l x≤l.length:=by
 unfold Ez
 have h:=List.takeWhile_append_dropWhile (p:=fun y=>decide (y<x)) (l:=l)
 have:=congrArg List.length h
 rw [List.length_append] at this;omega
theorem Ve {x:Int}:∀{l:List Int} {k:Nat},k≤l.length→(∀(j:Nat) y,j<k→l[j]? =some y→y<x)→(∀y,l[k]? =some y→¬y<x)→Ez l x=k
  | [], k, hk, _, _ => by have : k = 0 := by simpa using hk
                          subst this;rfl
  |y::r,0,_,_,h2=>by unfold Ez;rw [List.takeWhile_cons_of_neg (by simpa using h2 y rfl)];rfl
  |y::r,k+1,hk,h1,h2=>by
    have ih:=Ve (l:=r) (k:=k) Ph (fun j z hj hz=>h1 (j+1) z AA Kn) (fun z hz=>h2 z Kn)
    unfold Ez at ih ⊢
    rw [List.takeWhile_cons_of_pos (by simpa using h1 0 y AA rfl),List.length_cons,ih]
theorem Vf {x:Int}:∀{l:List Int} {j:Nat} {y:Int},j<Ez l x→l[j]? =some y→y<x
 |[],j,y,h,_=>by unfold Ez at h;simp at h
 |z::r,j,y,h,hy=>by
  by_cases hz:z<x
  ·
   cases j with
   |zero=>simp at hy;subst hy;exact hz
   |succ j=>
    refine Vf (l:=r) (j:=j) ?_ (by simpa using hy)
    unfold Ez at h ⊢
    rw [List.takeWhile_cons_of_pos Kn,List.length_cons] at h;omega
  · unfold Ez at h;rw [List.takeWhile_cons_of_neg Kn] at h;simp at h
theorem dB {x:Int}:∀{l:List Int} {y:Int},l[Ez l x]? =some y→¬y<x
 |[],y,h=>by simp at h
 |z::r,y,h=>by
  by_cases hz:z<x
  ·
   unfold Ez at h
   rw [List.takeWhile_cons_of_pos Kn,List.length_cons,List.getElem?_cons_succ] at h
   exact dB (l:=r) h
  · unfold Ez at h;rw [List.takeWhile_cons_of_neg Kn] at h;simp at h;subst h;exact hz
abbrev Fy (l:List Int) (x:Int):Bool:=(l[Ez l x]?).any (fun y=>decide (y=x))
abbrev ZX (l:List Int) (x:Int):List Int:=l.take (Ez l x)++[x]++l.drop (Ez l x)
theorem tE {l:List Int} (hs:tD l) {j k:Nat} {y z:Int} (hjk:j<k) (hy:l[j]? =some y) (hz:l[k]? =some z):y<z:=by
 have h1:=BM hy;have h2:=BM hz
 have:=List.pairwise_iff_getElem.1 hs j k h1 h2 hjk
 rw [List.getElem?_eq_getElem h1] at hy;rw [List.getElem?_eq_getElem h2] at hz
 cases hy;cases hz;exact this
theorem dD {l:List Int} {x:Int} {i:Nat} {y:Int} (hp:Ez l x=i) (hy:l[i]? =some y):Fy l x=decide (y=x):=by
 unfold Fy;rw [hp,hy];rfl
theorem Pv {l:List Int} (h:gI l=true):tD l:=by
 unfold gI at h;rw [B_] at h
 have h1:∀(d i:Nat) y z,l[i]? =some y→l[i+d+1]? =some z→y<z:=by
  intro d
  induction d with
  |zero=>
   intro i y z hy hz
   have:=h (i+1) (BM hz)
   unfold Ib at this
   rw [getD_at (show l[i+1]? =some z from hz),getD_at (show l[i+1-1]? =some y from hy)] at this
   simpa using this
  |succ d ih=>
   intro i y z hy hz
   obtain ⟨m,hm⟩:=at_ (l:=l) (k:=i+d+1) (by have:=BM hz;omega)
   have a1:=ih i y m hy hm
   have:=h (i+(d+1)+1) (BM hz)
   unfold Ib at this
   rw [getD_at hz,getD_at (show l[i+(d+1)+1-1]? =some m from hm)] at this
   have:m<z:=by simpa using this
   omega
 refine List.pairwise_iff_getElem.2 fun i j hi hj hij=> ?_
 refine h1 (j-i-1) i _ _ (List.getElem?_eq_getElem hi) ?_
 rw [show i+(j-i-1)+1=j by omega];exact List.getElem?_eq_getElem hj
theorem Vg {l:List Int} {x:Int} (h:Fy l x=true):Ez l x<l.length:=by
 by_cases hp:Ez l x<l.length
 · exact hp
 · unfold Fy at h;rw [List.getElem?_eq_none AA] at h;cases h
abbrev LF (b:Bool):Int:=if b then 1 else 0
abbrev M8 (e:CA) (c:BX):Int:=idx (fun y=>c.number==y) e.A8
def CF (e:CA) (c:BX):Except Int (CA×BX):=
 if c.kind = 1 then
  if ¬(0≤c.at_∧c.at_≤(e.A8.length:Nat)) then .error 2
  else if (e.A8.any fun y=>c.number==y)=true then .error 41
  else .ok ({ e with A8:=e.A8.take c.at_.toNat++[c.number]++e.A8.drop c.at_.toNat },⟨c.Aa,2,c.number,0,B1⟩)
 else if c.kind = 2 then
  if M8 e c<0 then .error 41 else .ok ({ e with A8:=e.A8.eraseIdx (M8 e c).toNat },⟨c.Aa,1,c.number,M8 e c,B1⟩)
 else if c.kind = 3 then
  if e.most=c.number then .error 41 else .ok ({ e with most:=c.number },⟨c.Aa,c.kind,e.most,0,B1⟩)
 else if c.kind = 4 then
  if e.least=c.number then .error 41 else .ok ({ e with least:=c.number },⟨c.Aa,c.kind,e.least,0,B1⟩)
 else if c.kind = 5 then
  if ¬(0≤c.at_∧c.at_≤(e.ids.length:Nat)) then .error 2
  else if 0≤Bp c.Cy.CW e.ids then .error 41
  else .ok ({ e with ids:=e.ids.take c.at_.toNat++[c.Cy]++e.ids.drop c.at_.toNat },⟨c.Aa,6,c.Cy.CW,0,B1⟩)
 else if c.kind = 6 then
  match e.ids[(Bp c.number e.ids).toNat]? with
  |none=> .error 41
  |some x=>
   if Bp c.number e.ids<0 then .error 41
   else if ((e.ids.drop (Bp c.number e.ids+1).toNat).any fun x=>x.CW==c.number)=true then .error 5
   else .ok ({ e with ids:=e.ids.eraseIdx (Bp c.number e.ids).toNat },⟨c.Aa,5,0,Bp c.number e.ids,x⟩)
 else if c.kind = 7 then
  if Fy e.anchors c.number=true then .error 41 else .ok ({ e with anchors:=ZX e.anchors c.number },⟨c.Aa,8,c.number,0,B1⟩)
 else if c.kind = 8 then
  if Fy e.anchors c.number=true then .ok ({ e with anchors:=e.anchors.eraseIdx (Ez e.anchors c.number) },⟨c.Aa,7,c.number,0,B1⟩) else .error 41
 else if c.kind = 9 then
  if Fy e.hashes c.number=true then .error 41 else .ok ({ e with hashes:=ZX e.hashes c.number },⟨c.Aa,10,c.number,0,B1⟩)
 else if c.kind = 10 then
  if Fy e.hashes c.number=true then .ok ({ e with hashes:=e.hashes.eraseIdx (Ez e.hashes c.number) },⟨c.Aa,9,c.number,0,B1⟩) else .error 41
 else if c.kind = 11 then
  if ¬(0≤c.number∧c.number≤1) then .error 2
  else if LF e.Ia=c.number then .error 41 else .ok ({ e with Ia:=(c.number==1) },⟨c.Aa,c.kind,LF e.Ia,0,B1⟩)
 else
  if ¬(0≤c.number∧c.number≤1) then .error 2
  else if LF e.own=c.number then .error 41 else .ok ({ e with own:=(c.number==1) },⟨c.Aa,c.kind,LF e.own,0,B1⟩)
def Jh (c:BX):Prop:=(1≤c.kind∧c.kind≤12)∧jv c=true
instance (c:BX):Decidable (Jh c):=inferInstanceAs (Decidable (_∧_))
def EK (e:CA) (c:BX):CA×BX×Int:=
 if Gd e=false then (FG,Ht,19)
 else if ¬Jh c then (FG,Ht,40)
 else match CF e c with
  | .error f=>(FG,Ht,f)
  | .ok (e2,b)=>if Gd e2=true then (e2,b,0) else (FG,Ht,18)
theorem Pw {e:CA} {c:BX} (h:c.kind=1):CF e c=
  (
  if ¬(0≤c.at_∧c.at_≤(e.A8.length:Nat)) then .error 2
  else if (e.A8.any fun y=>c.number==y)=true then .error 41
  else .ok ({ e with A8:=e.A8.take c.at_.toNat++[c.number]++e.A8.drop c.at_.toNat },⟨c.Aa,2,c.number,0,B1⟩)):=by
 unfold CF;rw [if_pos h]
theorem Px {e:CA} {c:BX} (h:c.kind=2):CF e c=
  (
  if M8 e c<0 then .error 41 else .ok ({ e with A8:=e.A8.eraseIdx (M8 e c).toNat },⟨c.Aa,1,c.number,M8 e c,B1⟩)):=by
 unfold CF;rw [if_neg BJ];rw [if_pos h]
theorem Py {e:CA} {c:BX} (h:c.kind=3):CF e c=
  (
  if e.most=c.number then .error 41 else .ok ({ e with most:=c.number },⟨c.Aa,c.kind,e.most,0,B1⟩)):=by
 unfold CF;rw [if_neg BJ];rw [if_neg BJ];rw [if_pos h]
theorem Pz {e:CA} {c:BX} (h:c.kind=4):CF e c=
  (
  if e.least=c.number then .error 41 else .ok ({ e with least:=c.number },⟨c.Aa,c.kind,e.least,0,B1⟩)):=by
 unfold CF;rw [if_neg BJ];rw [if_neg BJ];rw [if_neg BJ];rw [if_pos h]
theorem P0 {e:CA} {c:BX} (h:c.kind=5):CF e c=
  (
  if ¬(0≤c.at_∧c.at_≤(e.ids.length:Nat)) then .error 2
  else if 0≤Bp c.Cy.CW e.ids then .error 41
  else .ok ({ e with ids:=e.ids.take c.at_.toNat++[c.Cy]++e.ids.drop c.at_.toNat },⟨c.Aa,6,c.Cy.CW,0,B1⟩)):=by
 unfold CF;rw [if_neg BJ];rw [if_neg BJ];rw [if_neg BJ];rw [if_neg BJ];rw [if_pos h]
theorem P3 {e:CA} {c:BX} (h:c.kind=6):CF e c=
  (
  match e.ids[(Bp c.number e.ids).toNat]? with
  |none=> .error 41
  |some x=>
   if Bp c.number e.ids<0 then .error 41
   else if ((e.ids.drop (Bp c.number e.ids+1).toNat).any fun x=>x.CW==c.number)=true then .error 5
   else .ok ({ e with ids:=e.ids.eraseIdx (Bp c.number e.ids).toNat },⟨c.Aa,5,0,Bp c.number e.ids,x⟩)):=by
 unfold CF;rw [if_neg BJ];rw [if_neg BJ];rw [if_neg BJ];rw [if_neg BJ];rw [if_neg BJ];rw [if_pos h]
theorem P4 {e:CA} {c:BX} (h:c.kind=7):CF e c=
  (
  if Fy e.anchors c.number=true then .error 41 else .ok ({ e with anchors:=ZX e.anchors c.number },⟨c.Aa,8,c.number,0,B1⟩)):=by
 unfold CF;rw [if_neg BJ];rw [if_neg BJ];rw [if_neg BJ];rw [if_neg BJ];rw [if_neg BJ];rw [if_neg BJ];rw [if_pos h]
theorem P5 {e:CA} {c:BX} (h:c.kind=8):CF e c=
  (
  if Fy e.anchors c.number=true then .ok ({ e with anchors:=e.anchors.eraseIdx (Ez e.anchors c.number) },⟨c.Aa,7,c.number,0,B1⟩) else .error 41):=by
 unfold CF;rw [if_neg BJ];rw [if_neg BJ];rw [if_neg BJ];rw [if_neg BJ];rw [if_neg BJ];rw [if_neg BJ];rw [if_neg BJ];rw [if_pos h]
theorem P6 {e:CA} {c:BX} (h:c.kind=9):CF e c=
  (
  if Fy e.hashes c.number=true then .error 41 else .ok ({ e with hashes:=ZX e.hashes c.number },⟨c.Aa,10,c.number,0,B1⟩)):=by
 unfold CF;rw [if_neg BJ];rw [if_neg BJ];rw [if_neg BJ];rw [if_neg BJ];rw [if_neg BJ];rw [if_neg BJ];rw [if_neg BJ];rw [if_neg BJ];rw [if_pos h]
theorem M9 {e:CA} {c:BX} (h:c.kind=10):CF e c=
  (
  if Fy e.hashes c.number=true then .ok ({ e with hashes:=e.hashes.eraseIdx (Ez e.hashes c.number) },⟨c.Aa,9,c.number,0,B1⟩) else .error 41):=by
 unfold CF;rw [if_neg BJ];rw [if_neg BJ];rw [if_neg BJ];rw [if_neg BJ];rw [if_neg BJ];rw [if_neg BJ];rw [if_neg BJ];rw [if_neg BJ];rw [if_neg BJ];rw [if_pos h]
theorem M_ {e:CA} {c:BX} (h:c.kind=11):CF e c=
  (
  if ¬(0≤c.number∧c.number≤1) then .error 2
  else if LF e.Ia=c.number then .error 41 else .ok ({ e with Ia:=(c.number==1) },⟨c.Aa,c.kind,LF e.Ia,0,B1⟩)):=by
 unfold CF;rw [if_neg BJ];rw [if_neg BJ];rw [if_neg BJ];rw [if_neg BJ];rw [if_neg BJ];rw [if_neg BJ];rw [if_neg BJ];rw [if_neg BJ];rw [if_neg BJ];rw [if_neg BJ];rw [if_pos h]
theorem NA {e:CA} {c:BX} (h:c.kind=12):CF e c=
  (
  if ¬(0≤c.number∧c.number≤1) then .error 2
  else if LF e.own=c.number then .error 41 else .ok ({ e with own:=(c.number==1) },⟨c.Aa,c.kind,LF e.own,0,B1⟩)):=by
 unfold CF;rw [if_neg BJ];rw [if_neg BJ];rw [if_neg BJ];rw [if_neg BJ];rw [if_neg BJ];rw [if_neg BJ];rw [if_neg BJ];rw [if_neg BJ];rw [if_neg BJ];rw [if_neg BJ];rw [if_neg BJ]
theorem gU {e:CA} {c:BX} {f:Int} (h:Gd e=true) (hc:Jh c) (hs:CF e c= .error f):EK e c=(FG,Ht,f):=by
 unfold EK;rw [if_neg BJ,if_neg (fun h=>h hc),hs]
theorem mM {e:CA} {c:BX} {e2:CA} {b:BX} (h:Gd e=true) (hc:Jh c) (hs:CF e c= .ok (e2,b)) (h2:Gd e2=true):EK e c=(e2,b,0):=by
 unfold EK;rw [if_neg BJ,if_neg (fun h=>h hc),hs];exact if_pos h2
theorem tF {e:CA} {c:BX} {e2:CA} {b:BX} (h:Gd e=true) (hc:Jh c) (hs:CF e c= .ok (e2,b)) (h2:Gd e2=false):EK e c=(FG,Ht,18):=by
 unfold EK;rw [if_neg BJ,if_neg (fun h=>h hc),hs];exact if_neg (by rw [h2];decide)
structure dF (e:CA):Prop where
 name:Ql e.name=true
 least:1≤e.least
 lm:e.least≤e.most
 most:e.most≤4
 A8:Kw e.A8=true
 Yk:e.ids.length≤4
 AAT:e.anchors.length≤16
 anc:gI e.anchors=true
 hash:gI e.hashes=true
 ids:e.ids.all idB=true
 keys:e.anchors.all IG=true
 hsh:e.hashes.all RR=true
theorem DQ {e:CA}:Gd e=true↔dF e:=by
 unfold Gd;simp only [Bool.and_eq_true,decide_eq_true_eq]
 exact ⟨fun ⟨⟨⟨⟨⟨⟨⟨⟨a,b⟩,c⟩,d⟩,f⟩,⟨⟨⟨g,h⟩,i⟩,j⟩⟩,k⟩,l⟩,m⟩=>⟨a,b,c,d,f,g,h,i,j,k,l,m⟩,fun ⟨a,b,c,d,f,g,h,i,j,k,l,m⟩=>⟨⟨⟨⟨⟨⟨⟨⟨a,b⟩,c⟩,d⟩,f⟩,⟨⟨⟨g,h⟩,i⟩,j⟩⟩,k⟩,l⟩,m⟩⟩
theorem gV:B1.small:=⟨by show 0≤_;omega,fun c hc=>by cases hc⟩
abbrev Tk:List Pr:=[Gl .u8]
abbrev dG (m:Nat):Pr:=slice 1 (List.replicate m Tk)
abbrev Ep (B:Nat):Pr:=Cp.ex fun m:Nat=>fact (m≤B) (dG m)
abbrev ER:Pr:=Cp.ex fun b:Bool=>bool b
abbrev Bk (q:Pr):List Pr:=[Gl .i64,Ep 1000,ER,q]
abbrev KC (row:List Pr):Pr:=Cp.ex fun m:Nat=>fact (m≤20) (slice 4 (List.replicate m row))
abbrev L6 (D:Nat):Pr:=Cp.ex fun d:Int=>fact (0≤d∧d≤(D:Nat)) (int d)
theorem KD {r:List Pr} {m k:Nat} (h:k<m):(List.replicate m r)[((k:Nat):Int).toNat]? =some r:=by rw [Int.toNat_natCast,List.getElem?_replicate,if_pos h]
theorem dH {r:List Pr} {m:Nat}:List.replicate m r++[r]=List.replicate (m+1) r:=by rw [List.replicate_succ']
theorem NB {r:List Pr} {m k:Nat}:List.replicate m r++List.replicate k r=List.replicate (m+k) r:=by rw [List.replicate_append_replicate]
theorem Qz.refl:∀l:List Pr,Qz l l
 |[]=>trivial
 |_::l=>⟨Pr.le_refl _,Qz.refl l⟩
theorem Wh {sz:Nat} {rows rows':List (List Pr)} (hl:rows.length=rows'.length) (h:∀(i:Nat) r r',rows[i]? =some r→rows'[i]? =some r'→r.length=r'.length∧∀(j:Nat) p p',r[j]? =some p→r'[j]? =some p'→Pr.le p p'):Pr.le (slice sz rows) (slice sz rows'):=by
 rintro M w v ⟨a,cap,h1,h2,h3,h4,h5⟩
 refine ⟨a,cap,by rw [←hl];exact h1,by rw [←hl];exact h2,h3,h4,fun i row hr=> ?_⟩
 have hi:i<rows.length:=by rw [hl];exact BM hr
 have hr0:=List.getElem?_eq_getElem hi
 obtain ⟨g1,g2⟩:=h i _ _ hr0 hr
 obtain ⟨k1,ad,k2,k3⟩:=h5 i _ hr0
 refine ⟨by rw [←g1];exact k1,ad,k2,fun j p' hp'=> ?_⟩
 have hj:j<rows[i].length:=by rw [g1];exact BM hp'
 have hp:=List.getElem?_eq_getElem hj
 obtain ⟨u,c1,c2,c3,c4⟩:=k3 j _ hp
 exact ⟨u,c1,c2,c3,g2 j _ _ hp hp' _ _ _ c4⟩
theorem gW {sz:Nat} {rows:List (List Pr)} {r:List Pr} (h:∀q∈rows,q.length=r.length∧∀(j:Nat) p p',q[j]? =some p→r[j]? =some p'→Pr.le p p'):Pr.le (slice sz rows) (slice sz (List.replicate rows.length r)):=
 Wh AV fun i q q' hq hq'=>by
  rw [List.getElem?_replicate,if_pos (BM hq)] at hq'
  cases hq'
  exact h q (List.mem_of_getElem? hq)
theorem Yl {β:Type} {l:List β} {f:β→Int}:Pr.le (slice 1 (l.map fun x=>[is (.int .u8 (f x))])) (dG l.length):=by
 have:=gW (sz:=1) (rows:=l.map fun x=>[is (.int .u8 (f x))]) (r:=Tk) (by
  intro q hq
  obtain ⟨x,_,rfl⟩:=List.mem_map.1 hq
  refine ⟨rfl,fun j p p' hp hp'=> ?_⟩
  cases j with
  |zero=>simp at hp hp';subst hp;subst hp';exact DG _ _
  |succ j=>simp at hp)
 rwa [List.length_map] at this
theorem F6 {B m:Nat} {p:Pr} (h:m≤B) (hp:Pr.le p (dG m)):Pr.le p (Ep B):=Ax m (A_ h hp)
theorem BG.Bk {P:Program} {f:FuncId} {row:List Pr} {res:Pr} (h:∀(t:Int) (b:Nat) (n:Bool) (m:Nat),b≤1000→m≤20→BG P f [agg [int t,dG b,bool n,slice 4 (List.replicate m row)]] res):BG P f [agg (Bk (KC row))] res:=by
 refine ⟨(h 0 0 false 0 AA AA).1,fun M w vs hb hv=> ?_⟩
 match vs,hv with
 |[u0],jj=>
  obtain ⟨⟨cs,rfl,ho,hcs⟩,_⟩:=jj
  match cs,hcs with
  |[c0,c1,c2,c3],hc=>
   obtain ⟨⟨t,h0⟩,⟨b,Mj,h1⟩,⟨n,h2⟩,⟨m,hm1,h3⟩,_⟩:=hc
   exact (h t b n m Mj hm1).2 M w _ hb ⟨⟨_,rfl,ho,h0,h1,h2,h3,trivial⟩,trivial⟩
theorem BG.mN {P:Program} {f:FuncId} {res:Pr} (h:∀(t:Int) (b:Nat) (n:Bool),b≤1000→BG P f [agg [int t,dG b,bool n,slice 4 []]] res):BG P f [agg [Gl .i64,Ep 1000,ER,slice 4 []]] res:=by
 refine ⟨(h 0 0 false AA).1,fun M w vs hb hv=> ?_⟩
 match vs,hv with
 |[u0],jj=>
  obtain ⟨⟨cs,rfl,ho,hcs⟩,_⟩:=jj
  match cs,hcs with
  |[c0,c1,c2,c3],hc=>
   obtain ⟨⟨t,h0⟩,⟨b,Mj,h1⟩,⟨n,h2⟩,h3,_⟩:=hc
   exact (h t b n Mj).2 M w _ hb ⟨⟨_,rfl,ho,h0,h1,h2,h3,trivial⟩,trivial⟩
theorem x5 {n:Int}  :BG prog 289 [int n] (bool (decide (1≤n)&&decide (n≤255)&&(n.tmod 32 !=31))):=by
 refine fo func289 rfl ⟨rfl,rfl⟩ fun M0 w0=> ?_
 refine ac ?_
 refine ag ?_ ?_<;>intro h1 q1
 refine ag ?_ ?_<;>intro h2 q2
 refine LR h2 rfl (cy h2 rfl (U4 rfl vq vq AA) ?_)
 refine a2 ?_
 · refine bool_eq ?_;simp_all
 refine a2 ?_
 · exact PY
 refine a2 ?_
 · exact PY
theorem N1 {t:Int} {b:Nat} {n:Bool} {m:Nat} {q:Pr}  (hb:b≤1000) (hm:m≤20) (ih:m=0∨BG prog 258 [agg (Bk q)] (ER)):BG prog 258 [agg [int t,dG b,bool n,slice 4 (List.replicate m (Bk q))]] (ER):=by
 refine fo func258 rfl ⟨rfl,rfl⟩ fun M0 w0=> ?_
 have hlr:(List.replicate m (Bk q)).length=m:=List.length_replicate
 have hlb:(List.replicate b Tk).length=b:=List.length_replicate
 refine a2 ?_
 refine co rfl (Cq (x5) rfl rfl) ?_
 refine ag ?_ ?_<;>intro h1 q1
 refine ac ?_
 refine wk [38,1] rfl ?_
 refine a2 ?_
 · exact BN
 refine ac ?_
 refine cy h1 rfl (UT rfl vq vq AA) (cy h1 rfl (U4 rfl vq vq AA) (cy h1 rfl kiq (cy h1 rfl (Qy rfl underlying4 vq vq) ?_)))
 refine ag ?_ ?_<;>intro h2 q2
 refine ac ?_
 refine wk [38,1] rfl ?_
 refine a2 ?_
 · exact BN
 refine ag ?_ ?_<;>intro h3 q3
 refine ac ?_
 refine cy h3 rfl (Ce rfl underlying241 vq) ?_
 refine ag ?_ ?_<;>intro h4 q4
 refine ac ?_
 refine wk [38,1] rfl ?_
 refine a2 ?_
 · exact BN
 refine ag ?_ ?_<;>intro h5 q5
 refine ac ?_
 refine cy h5 rfl (Ce rfl underlying283 vq) ?_
 refine ac ?_
 refine wk [38,1] rfl ?_
 refine Tr.cn rfl ?_ ?_<;>intro h6 q6
 refine a2 ?_
 · exact BN
 refine a2 ?_
 refine Tr.block (Tr.BH _ (kk [1] rfl) (fun k:Nat=>[(3,int ((k:Nat):Int))]) (fun k:Nat=>k≤((List.replicate m (Bk q)).length)) (fun k:Nat=>((List.replicate m (Bk q)).length)-k) 0 (Nat.zero_le _) kz ?_)
 rintro k BU
 refine ac ?_
 refine co rfl (Ce rfl underlying283 vq) ?_
 refine an ?_ ?_<;>intro h7 q7
 have Af:k<((List.replicate m (Bk q)).length):=AH h7
 have hkm:k<m:=by simpa using Af
 have ih2:=ih.resolve_left AA
 refine ac ?_
 refine ap ?_
 refine tp rfl (AD rfl underlying283 Cj vq vq AA (KD hkm)) (tp rfl (AP rfl DW Cj vq rfl rfl) (tp rfl (Cq (ih2) rfl rfl) ?_))
 refine TO.ex 51 rfl (fun z51=> ?_)
 refine ap ?_
 · exact Lm
 have BK:k=((List.replicate m (Bk q)).length):=by have:=AJ h7;omega
 refine a3 ?_
 · exact BN
 refine ac ?_
 refine wk [38,1] rfl ?_
 refine a2 ?_
 refine Tr.block (Tr.BH _ (kk [1] rfl) (fun k:Nat=>[(3,int ((k:Nat):Int))]) (fun k:Nat=>k≤((List.replicate m (Bk q)).length)) (fun k:Nat=>((List.replicate m (Bk q)).length)-k) 0 (Nat.zero_le _) kz ?_)
 rintro k BU
 refine ac ?_
 refine co rfl (Ce rfl underlying283 vq) ?_
 refine an ?_ ?_<;>intro h9 q9
 have Af:k<((List.replicate m (Bk q)).length):=AH h9
 have hkm:k<m:=by simpa using Af
 have ih2:=ih.resolve_left AA
 refine ac ?_
 refine ap ?_
 refine tp rfl (AD rfl underlying283 Cj vq vq AA (KD hkm)) (tp rfl (AP rfl DW Cj vq rfl rfl) (tp rfl (Cq (ih2) rfl rfl) ?_))
 refine TO.ex 51 rfl (fun z51=> ?_)
 refine ap ?_
 · exact Lm
 have BK:k=((List.replicate m (Bk q)).length):=by have:=AJ h9;omega
 refine a3 ?_
 · exact BN
 refine ag ?_ ?_<;>intro h11 Sx
 refine ac ?_
 refine cy h11 rfl (Ce rfl underlying283 vq) ?_
 refine ac ?_
 refine wk [38,1] rfl ?_
 refine Tr.cn rfl ?_ ?_<;>intro h12 WT
 refine a2 ?_
 · exact BN
 refine a2 ?_
 refine Tr.block (Tr.BH _ (kk [1] rfl) (fun k:Nat=>[(3,int ((k:Nat):Int))]) (fun k:Nat=>k≤((List.replicate m (Bk q)).length)) (fun k:Nat=>((List.replicate m (Bk q)).length)-k) 0 (Nat.zero_le _) kz ?_)
 rintro k BU
 refine ac ?_
 refine co rfl (Ce rfl underlying283 vq) ?_
 refine an ?_ ?_<;>intro NU dI
 have Af:k<((List.replicate m (Bk q)).length):=AH NU
 have hkm:k<m:=by simpa using Af
 have ih2:=ih.resolve_left AA
 refine ac ?_
 refine ap ?_
 refine tp rfl (AD rfl underlying283 Cj vq vq AA (KD hkm)) (tp rfl (AP rfl DW Cj vq rfl rfl) (tp rfl (Cq (ih2) rfl rfl) ?_))
 refine TO.ex 51 rfl (fun z51=> ?_)
 refine ap ?_
 · exact Lm
 have BK:k=((List.replicate m (Bk q)).length):=by have:=AJ NU;omega
 refine a3 ?_
 · exact BN
 refine ac ?_
 refine wk [38,1] rfl ?_
 refine a2 ?_
 refine Tr.block (Tr.BH _ (kk [1] rfl) (fun k:Nat=>[(3,int ((k:Nat):Int))]) (fun k:Nat=>k≤((List.replicate m (Bk q)).length)) (fun k:Nat=>((List.replicate m (Bk q)).length)-k) 0 (Nat.zero_le _) kz ?_)
 rintro k BU
 refine ac ?_
 refine co rfl (Ce rfl underlying283 vq) ?_
 refine an ?_ ?_<;>intro Sh q15
 have Af:k<((List.replicate m (Bk q)).length):=AH Sh
 have hkm:k<m:=by simpa using Af
 have ih2:=ih.resolve_left AA
 refine ac ?_
 refine ap ?_
 refine tp rfl (AD rfl underlying283 Cj vq vq AA (KD hkm)) (tp rfl (AP rfl DW Cj vq rfl rfl) (tp rfl (Cq (ih2) rfl rfl) ?_))
 refine TO.ex 51 rfl (fun z51=> ?_)
 refine ap ?_
 · exact Lm
 have BK:k=((List.replicate m (Bk q)).length):=by have:=AJ Sh;omega
 refine a3 ?_
 · exact BN
theorem RS {t:Int} {b:Nat} {n:Bool} {m:Nat} {q:Pr} {D:Nat}  (hb:b≤1000) (hm:m≤20) (hD:D≤1000) (ih:m=0∨BG prog 259 [agg (Bk q)] (L6 D)):BG prog 259 [agg [int t,dG b,bool n,slice 4 (List.replicate m (Bk q))]] (L6 (D+1)):=by
 refine BG.of func259 rfl rfl Ao fun M0 w0=> ?_
 have hlr:(List.replicate m (Bk q)).length=m:=List.length_replicate
 have hlb:(List.replicate b Tk).length=b:=List.length_replicate
 refine Tr.seq (Tr.Aj (co rfl (Bb rfl (Va rfl)) (cm rfl (Ch.nil (Fin.go (Tr.seq (Tr.Aj (cm rfl (Ch.nil (Fin.go (Tr.seq (Tr.seq (Tr.Aj ?_)))))))))))))
 refine cm rfl (Ch.nil (Fin.go (Tr.block (Tr.BH [(1,_)] ⟨ke rfl,trivial⟩ (fun k:Nat=>[(4,int ((k:Nat):Int)),(3,L6 D)]) (fun k:Nat=>k≤((List.replicate m (Bk q)).length)) (fun k:Nat=>((List.replicate m (Bk q)).length)-k) 0 (Nat.zero_le _) ⟨ke rfl,⟨_,rfl,Ax 0 (A_ AA (Lr))⟩,trivial⟩ ?_))))
 rintro k BU
 refine Tr.seq (Tr.seq (Tr.Aj (cm rfl (co rfl (NT rfl Ms rfl rfl) (co rfl (Fw rfl VN rfl) (co rfl (Ce rfl underlying283 (vl rfl)) (co rfl (ki rfl rfl rfl rfl) (Ch.nil (Fin.go ?_)))))))))
 refine Tr.cn rfl ?_ ?_<;>intro h1 q1
 have Af:k<((List.replicate m (Bk q)).length):=AH h1
 have hkm:k<m:=by simpa using Af
 have ih2:=ih.resolve_left AA
 refine Tr.skip (Fin.go (Tr.seq (Tr.block (Tr.An (tm rfl ?_)))))
 refine TO.ex 12 rfl (fun z12=>TO.fact 12 rfl fun AHG=> ?_)
 refine tp rfl (NT rfl Ms rfl rfl) (tp rfl (Fw rfl VN rfl) (tm rfl (tp rfl (AD rfl underlying283 Cj (vl rfl) (vl rfl) AA (KD hkm)) (tp rfl (AP rfl DW Cj (vl rfl) rfl rfl) (tp rfl (AR rfl (ih2) ⟨ke rfl,trivial⟩) ?_)))))
 refine TO.ex 18 rfl (fun z18=>TO.fact 18 rfl fun AFu=> ?_)
 refine tp rfl (Jz rfl (vl rfl) (vl rfl)) (tm rfl (TO.nil (Fin.block (Fin.go (GU 1 3 4 rfl (Tr.Aj (cm rfl (MV rfl rfl rfl rfl AA (cm rfl (Ch.nil (Fin.AL (k+1) ⟨Af,by omega⟩ ⟨⟨_,rfl,AG k⟩,⟨_,rfl,Ax _ (A_ AA (Lr))⟩,ke rfl,trivial⟩)))))))))))
 have BK:k=((List.replicate m (Bk q)).length):=by have:=AJ h1;omega
 refine Tr.exit (Fin.Ac (Fin.Ac (Fin.A7 (Fin.go (Tr.seq (Tr.An (tm rfl ?_)))))))
 refine TO.ex 20 rfl (fun z20=>TO.fact 20 rfl fun AHH=> ?_)
 refine tp rfl (Ek rfl (vl rfl) (vl rfl) ?hin) ?_;case hin=>unfold Ni;omega
 refine tm rfl (TO.nil (Fin.go (Tr.ret (Fin.LB rfl (Bg.Dc _ _) rfl ?_))))
 · exact Ax _ (A_ AA (Lr))
def RT (n:Nat):Nat:=if h:n=0 then 0 else 1+RT (n/256)
termination_by n
decreasing_by omega
theorem Tm:RT 0=0:=by unfold RT;simp
theorem XH {n:Nat} (h:0<n):RT n=1+RT (n/256):=by conv=>lhs;unfold RT;rw [dif_neg AA]
theorem Vh:∀(n:Nat),RT n≤n:=by
 intro n
 induction n using Nat.strongRecOn with
 |_ n ih=>
  rcases Nat.eq_zero_or_pos n with h|h
  · subst h;rw [Tm];omega
  · rw [XH h];have:=ih (n/256) AA;omega
def gX (n:Nat):Nat:=if n<128 then 1 else 1+RT n
theorem dJ (n:Nat):gX n≤n+1:=by unfold gX;have:=Vh n;split<;>omega
theorem qv (k:Int):Pr.le (slice 1 [[is (.int .u8 k)]]) (dG 1):=Yl (l:=[()]) (f:=fun _=>k)
theorem gY {n:Nat} (hn:n≤100000000):BG prog 290 [int ((n:Nat):Int)] (dG (gX n)):=by
 refine fo func290 rfl ⟨rfl,rfl⟩ fun M0 w0=> ?_
 refine ac ?_
 refine an ?_ ?_<;>intro h1 q1
 refine ac ?_
 refine co rfl (Eu rfl underlying3 underlying5 vq) (co rfl (AO (xs:=[.tmp 7]) (rows:=[Tk]) rfl rfl underlying241 NV z5 rfl AB ⟨⟨Am,VL.le vq (Pr.le_trans (DG _ _) (AY _))⟩,trivial⟩ AB) ?_)
 refine a2 ?_
 · refine Pr.le_trans (Bx _ _) (Pr.le_of_eq ?_);unfold gX;rw [if_pos AA];rfl
 refine a2 ?_
 refine Tr.seq (Tr.block (Tr.B5 5 1 (Tr.DE [] trivial (fun (k:Nat) (acc:Nat) v=>[(0,int ((k:Nat):Int)),(3,Ad v (dG acc))]) (fun (k:Nat) (acc:Nat) v=>Hp M0 w0 FO ([Aw 5 1 v])) (fun (k:Nat) (acc:Nat)=>RT k+acc=RT n∧k≤n) (fun (k:Nat) (acc:Nat)=>k) (n) (0) (.slice none 0 0) (⟨by omega,by omega⟩) ⟨kq,⟨_,rfl,Bi rfl⟩,trivial⟩ (fun _ _ h=>h) ?_)))
 rintro k acc v ⟨hk1,hk2⟩
 refine an ?_ ?_<;>intro h2 q2
 have hk0:0<k:=by have:=DU.D9 h2;omega
 have hdg:=XH hk0
 have hle:=Vh n
 refine ac ?_
 refine ap ?_
 refine tp rfl (U4 rfl vq vq AA) (tp rfl (Eu rfl underlying3 underlying5 vq) (tp rfl (AO (xs:=[.tmp 13]) (rows:=[Tk]) rfl rfl underlying241 NV z5 rfl AB ⟨⟨Am,VL.le vq (Pr.le_trans (DG _ _) (AY _))⟩,trivial⟩ AB) ?_))
 refine tm rfl (TO.pad ?_)
 refine TO.DT 0 rfl rfl AB (B7 rfl rfl rfl rfl underlying241 NV cT z5 F4 G3 (Br BL vq)) (fun v1=> ?_)
 refine ap ?_
 refine ac ?_
 refine co rfl (UT rfl vq vq AA) ?_
 refine ac ?_
 refine Fin.drop 1 ?_
 exact Fin.Bl (k/256) (acc+1) v1 (⟨⟨by omega,by omega⟩,by omega⟩) ⟨⟨_,rfl,int_eq (by rw [Int.tdiv_eq_ediv_of_nonneg AA,Gu Km];omega)⟩,⟨_,rfl,BA (by rw [show ([Tk]:List (List Pr))=List.replicate 1 Tk from rfl,NB,Nat.add_comm])⟩,trivial⟩ (fun _ _ h=>h)
 have hk0:k=0:=by have:=DU.D9 h2;omega
 subst hk0
 have hle:=Vh n
 rw [Tm] at hk1
 refine ac ?_
 refine ap ?_
 refine tp rfl (Ce rfl underlying241 G3) (tp rfl kiq (tp rfl (Eu rfl underlying3 underlying5 vq) (tp rfl (AO (xs:=[.tmp 22]) (rows:=[Tk]) rfl rfl underlying241 NV z5 rfl AB ⟨⟨Am,VL.le vq (Pr.le_trans (DG _ _) (AY _))⟩,trivial⟩ AB) ?_)))
 refine tm rfl (TO.pad ?_)
 refine TO.DT 0 rfl rfl AB (B7 rfl rfl rfl rfl underlying241 NV cT z5 F4 G3 (Br BL vq)) (fun v2=> ?_)
 refine ap ?_
 refine ac ?_
 · refine Pr.le_trans (Ar _ _) (Pr.le_of_eq ?_);unfold gX;rw [if_neg AA,show ([Tk]:List (List Pr))=List.replicate 1 Tk from rfl,NB,show acc=RT n by omega]
theorem ZY {t:Int} {b:Nat} {n:Bool} {m:Nat} {q:Pr} {B:Nat}  (hb:b≤1000) (hm:m≤20) (hB:B≤1000000) (ih:m=0∨BG prog 260 [agg (Bk q)] (Ep B)):BG prog 260 [agg [int t,dG b,bool n,slice 4 (List.replicate m (Bk q))]] (Ep (2*(1000+20*B)+2)):=by
 refine fo func260 rfl ⟨rfl,rfl⟩ fun M0 w0=> ?_
 have hlr:(List.replicate m (Bk q)).length=m:=List.length_replicate
 have hlb:(List.replicate b Tk).length=b:=List.length_replicate
 refine ac ?_
 refine ap ?_
 refine TO.pad ?_
 refine TO.DT 0 rfl rfl AB (B7 rfl rfl rfl rfl underlying241 NV cT z5 F4 vq (Br BL vq)) (fun v1=> ?_)
 refine ap ?_
 refine ac ?_
 refine Tr.block (Tr.DE _ (kk [1] rfl) (fun (k:Nat) (acc:Nat) v=>[(4,int ((k:Nat):Int)),(3,Ad v (dG acc))]) (fun (k:Nat) (acc:Nat) v=>Hp M0 w0 FO ([Aw 5 1 v])) (fun (k:Nat) (acc:Nat)=>k≤m∧acc≤b+k*B) (fun (k:Nat) (acc:Nat)=>m-k) (0) (b) v1 (⟨by omega,by omega⟩) ⟨kq,⟨_,rfl,BA AV⟩,trivial⟩ (fun _ _ h=>h) ?_)
 rintro k acc v ⟨hk1,hk2⟩
 have hkB:k*B≤20*B:=Nat.mul_le_mul_right B AA
 refine ac ?_
 refine co rfl (Ce rfl underlying283 vq) ?_
 refine an ?_ ?_<;>intro h1 q1
 have hkm:k<m:=by have:=DU.D9 h1;rw [hlr] at this;omega
 have ih2:=ih.resolve_left AA
 refine ac ?_
 refine ap ?_
 refine tp rfl (AD rfl underlying283 Cj vq vq AA (KD hkm)) (tp rfl (AP rfl DW Cj vq rfl rfl) (tp rfl (Cq (ih2) rfl rfl) ?_))
 refine TO.ex 22 rfl (fun z22=>TO.fact 22 rfl fun AHI=> ?_)
 refine TO.DT 0 rfl rfl AB (B7 rfl rfl rfl rfl underlying241 NV cT z5 G3 vq (Ay BL Jo)) (fun v2=> ?_)
 refine ap ?_
 refine wk [4,3,1] rfl ?_
 refine ac ?_
 exact Fin.Bl (k+1) (acc+z22) v2 (⟨⟨by omega,by rw [Nat.succ_mul];omega⟩,by omega⟩) ⟨⟨_,rfl,AG k⟩,⟨_,rfl,BA (by rw [NB])⟩,kz⟩ (fun _ _ h=>h)
 have bB:k=m:=by have:=DU.D9 h1;rw [hlr] at this;omega
 have WQ:=dJ acc
 refine ac ?_
 refine Tr.seq (Tr.pad (Tr.rx ?_))
 refine ay ?_
 refine xo rfl (fun _=>Eu rfl underlying3 underlying5 vq) (xo rfl (fun _=>AO (xs:=[.tmp 26]) (rows:=[Tk]) rfl rfl underlying241 NV z5 rfl AB ⟨⟨Am,VL.le vq (Pr.le_trans (DG _ _) (AY _))⟩,trivial⟩ AB) ?_)
 refine xm rfl (xo rfl (fun _=>Ce rfl underlying241 G3) ?_)
 refine xo rfl (fun _=>AR rfl (gY (n:=acc) AA) ⟨⟨_,rfl,int_eq AV⟩,trivial⟩) ?_
 refine Cx.ef 0 rfl rfl AB (B7 rfl rfl rfl rfl underlying241 NV cT z5 F4 vq (Br BL vq)) ?_
 refine xm rfl ?_
 refine Cx.ef 0 rfl rfl AB (B7 rfl rfl rfl rfl underlying241 NV cT z5 vq G3 fm) ?_
 refine Cx.ef 0 rfl rfl AB (U9 rfl rfl AB rfl vq) ?_
 refine Cx.nil ⟨by kernel_rfl,?_⟩
 refine BE.open_ 0 2 rfl rfl (fun v3=> ?_)
 refine BE.done YV (Fin.go (wk [2] rfl ?_))
 refine ac ?_
 · exact F6 (m:=1+gX acc+acc) (by have:=dJ acc;omega) (Pr.le_trans (Ar _ _) (Pr.le_of_eq (by rw [show ([Tk]:List (List Pr))=List.replicate 1 Tk from rfl,NB,NB])))
theorem gZ {q:Pr} {D B:Nat} (hf:BG prog 258 [agg (Bk q)] ER) (hd:BG prog 259 [agg (Bk q)] (L6 D)) (hp:BG prog 260 [agg (Bk q)] (Ep B)):BG prog 225 [agg (Bk q)] (Dz [Ep B,Gl .i64]):=by
 refine fo func225 rfl ⟨rfl,rfl⟩ fun M0 w0=> ?_
 refine ac ?_
 refine ap ?_
 refine tp rfl (Cq (hf) rfl rfl) ?_
 refine TO.ex 6 rfl (fun z6=> ?_)
 refine ap ?_
 refine Tr.cn rfl ?_ ?_<;>intro h1 q1
 refine ac ?_
 refine Tr.ret (Fin.AE (Fin.Ct rfl (Bg.Dc _ _) rfl ?_ rfl ?_))
 · exact PR
 · exact DG _ _
 refine ac ?_
 refine ap ?_
 refine tp rfl (Cq (hd) rfl rfl) ?_
 refine TO.ex 9 rfl (fun z9=>TO.fact 9 rfl fun hz9=> ?_)
 refine ap ?_
 refine Tr.cn rfl ?_ ?_<;>intro h2 q2
 refine ac ?_
 refine Tr.ret (Fin.AE (Fin.Ct rfl (Bg.Dc _ _) rfl ?_ rfl ?_))
 · exact PR
 · exact DG _ _
 refine a2 ?_
 refine co rfl (Cq (hp) rfl rfl) ?_
 refine ac ?_
 refine ap ?_
 refine TO.ex 13 rfl (fun z13=>TO.fact 13 rfl fun AHJ=> ?_)
 refine tp rfl (Ce rfl underlying241 vq) ?_
 refine ap ?_
 refine wk [15,4] rfl ?_
 refine Tr.cn rfl ?_ ?_<;>intro h3 q3
 refine ac ?_
 refine Tr.ret (Fin.AE (Fin.Ct rfl (Bg.Dc _ _) rfl ?_ rfl ?_))
 · exact PR
 · exact DG _ _
 refine a2 ?_
 refine Tr.ret (Fin.Ct rfl (Bg.Dc _ _) rfl ?_ rfl ?_)
 · exact Lr
 · exact DG _ _
theorem tH:IntKind.u8.wrap 0=0:=rfl
def lvI (x:Int):Nat:=if x≤0 then 0 else if x<256 then 1 else if x<65536 then 2 else if x<16777216 then 3 else if x<4294967296 then 4 else if x<1099511627776 then 5 else 6+x.toNat
theorem mO {x:Int} (h:0<x):lvI (x/256)<lvI x:=by
 unfold lvI
 repeat' split
 all_goals omega
def KE (x h:Int):Nat:=if x=0 then (if 128≤h then 1 else 0) else lvI x+1
theorem tI {n h:Int} (h0:0≤n) (h1:n≤1099511627776):KE (n/256) h≤400:=by
 unfold KE lvI
 repeat' split
 all_goals omega
theorem HO {x h:Int} {t:Nat} (h0:0≤x) (hc:x≠0∨128≤h) (hi:t+KE x h≤400):(0≤x/256∧t+1+KE (x/256) (IntKind.u8.wrap x)≤400)∧KE (x/256) (IntKind.u8.wrap x)<KE x h:=by
 have key:KE (x/256) (IntKind.u8.wrap x)<KE x h:=by
  unfold KE
  by_cases hx:x=0
  ·
   subst hx
   rw [tH,if_pos AB,if_neg AB,if_pos rfl,if_pos AA];decide
  ·
   have:=mO (x:=x) AA
   rw [if_neg hx]
   by_cases hy:x/256=0
   ·
    rw [if_pos hy];have:(if 128≤IntKind.u8.wrap x then 1 else 0)≤1:=by split<;>omega
    omega
   · rw [if_neg hy];omega
 exact ⟨⟨by omega,by omega⟩,key⟩
theorem Hu {P:Program} {I:Ck} {E:Env} {o:Oper} {t u:TypeId} {x y:Operand} {m:Int} (ho:o.op= .binOp .shr t x y u) (hx:VL E x (int m)) (hy:VL E y (is (.int .u64 8))) (h0:0≤m):Ag P I o E (int (m/256)):=
 Ag.same fun M w a he _=>by
  have h1:a.eval x= .int .i64 m:=hx.ev he Au
  have h2:a.eval y= .int .u64 8:=hy.ev he Au
  refine ⟨.int .i64 (m.fdiv 256),?_,congrArg (Value.int .i64) (Int.fdiv_eq_ediv_of_nonneg m AA)⟩
  simp only [execOp,ho,h1,h2]
  simp [eqGuard,binOp,Op.shift,IntKind.bits]
abbrev q0:Pr:=slice 4 []
theorem L7 {n:Int} (hn:0≤n∧n≤1099511627776):BG prog 263 [int n] (agg (Bk q0)):=by
 refine fo func263 rfl ⟨rfl,rfl⟩ fun M0 w0=>(Tr.seq (Tr.An ?_))
 refine Tl rfl rfl rfl rfl Nw LY (fun b1=> ?_)
 refine ap ?_
 refine ac ?_
 refine co rfl (Eu rfl underlying3 underlying5 vq) ?_
 refine a2 ?_
 refine co rfl (Hu rfl vq vq AA) ?_
 refine ac ?_
 refine Tr.block ?_
 refine Tr.Q3 _ (kk [2] rfl) (fun (x:Int) (h:Int) (t:List Int)=>[(4,int x),(3,slice 1 ((h::t).map fun n=>[is (.int .u8 n)]))]) (fun (x:Int) (h:Int) (t:List Int)=>Hp M0 w0 FO ([AF true b1 285 (([.int .i64 0,.slice none 0 0,.bool false,.slice none 0 0]:List Value).map is)])) (fun (x:Int) (h:Int) (t:List Int)=>0≤x∧t.length+KE x h≤400) (fun (x:Int) (h:Int) (t:List Int)=>KE x h) (n/256) (IntKind.u8.wrap n) ([])  (⟨by omega,by simp only [List.length_nil];have:=tI (h:=IntKind.u8.wrap n) hn.1 hn.2;omega⟩) ⟨kq,⟨_,rfl,Pr.le_trans (Bx _ _) (Pr.le_of_eq rfl)⟩,trivial⟩ (fun _ _ h=>h) ?_
 rintro x h t  ⟨hx0,hmu⟩
 refine ag ?_ ?_<;>intro h1 q1
 refine ag ?_ ?_<;>intro h2 q2
 refine ac ?_
 refine wk [35,4,3,2] rfl ?_
 refine ac ?_
 refine ap ?_
 refine tp rfl (Eu rfl underlying3 underlying5 vq) ?_
 refine ap ?_
 refine TO.pad ?_
 refine TO.DT 0 rfl rfl AB (B7 rfl rfl rfl rfl underlying241 NV cT z5 F4 vq (Br BL vq)) (fun v1=> ?_)
 refine ap ?_
 refine ac ?_
 refine co rfl (Hu rfl vq vq AA) ?_
 refine ac ?_
 refine Fin.drop 0 (Fin.GV (x/256) (IntKind.u8.wrap x) (h::t)  ((HO hx0 AA hmu)) ⟨kq,⟨_,rfl,Pr.le_trans (Ar _ _) (Pr.le_of_eq rfl)⟩,kz⟩ (fun _ _ h=>h))
 refine ag ?_ ?_<;>intro h3 q3
 refine LR h3 rfl ?_
 refine cy h3 rfl (AD rfl underlying241 NV vq vq AA (AX (k:=0) rfl)) ?_
 refine ag ?_ ?_<;>intro h4 q4
 refine ac ?_
 refine wk [35,4,3,2] rfl ?_
 refine ac ?_
 refine ap ?_
 refine tp rfl (Eu rfl underlying3 underlying5 vq) ?_
 refine ap ?_
 refine TO.pad ?_
 refine TO.DT 0 rfl rfl AB (B7 rfl rfl rfl rfl underlying241 NV cT z5 F4 vq (Br BL vq)) (fun v2=> ?_)
 refine ap ?_
 refine ac ?_
 refine co rfl (Hu rfl vq vq AA) ?_
 refine ac ?_
 refine Fin.drop 0 (Fin.GV (x/256) (IntKind.u8.wrap x) (h::t)  ((HO hx0 AA hmu)) ⟨kq,⟨_,rfl,Pr.le_trans (Ar _ _) (Pr.le_of_eq rfl)⟩,kz⟩ (fun _ _ h=>h))
 refine ag ?_ ?_<;>intro h5 q5
 refine LR h5 rfl ?_
 refine cy h5 rfl (AD rfl underlying241 NV vq vq AA (AX (k:=0) rfl)) ?_
 refine ac ?_
 refine wk [35,4,3,2] rfl ?_
 refine Tr.cn rfl ?_ ?_<;>intro h6 q6
 have XI:=h6
 refine ac ?_
 refine ap ?_
 refine tp rfl (Eu rfl underlying3 underlying5 vq) ?_
 refine ap ?_
 refine TO.pad ?_
 refine TO.DT 0 rfl rfl AB (B7 rfl rfl rfl rfl underlying241 NV cT z5 F4 vq (Br BL vq)) (fun v3=> ?_)
 refine ap ?_
 refine ac ?_
 refine co rfl (Hu rfl vq vq AA) ?_
 refine ac ?_
 refine Fin.drop 0 (Fin.GV (x/256) (IntKind.u8.wrap x) (h::t)  ((HO hx0 AA hmu)) ⟨kq,⟨_,rfl,Pr.le_trans (Ar _ _) (Pr.le_of_eq rfl)⟩,kz⟩ (fun _ _ h=>h))
 have XI:=h6
 refine ac ?_
 refine ap ?_
 refine Tr.ret (Fin.CY rfl (AM.cell 0 rfl rfl DW Cj rfl Lr) ?_)
 · exact Ju
 refine ac ?_
 refine wk [35,4,3,2] rfl ?_
 refine ac ?_
 refine ap ?_
 refine Tr.ret (Fin.CY rfl (AM.cell 0 rfl rfl DW Cj rfl Lr) ?_)
 · exact Ju
 refine ag ?_ ?_<;>intro h7 q7
 refine LR h7 rfl ?_
 refine cy h7 rfl (AD rfl underlying241 NV vq vq AA (AX (k:=0) rfl)) ?_
 refine ac ?_
 refine wk [35,4,3,2] rfl ?_
 refine Tr.cn rfl ?_ ?_<;>intro h8 q8
 have XI:=h8
 refine ac ?_
 refine ap ?_
 refine tp rfl (Eu rfl underlying3 underlying5 vq) ?_
 refine ap ?_
 refine TO.pad ?_
 refine TO.DT 0 rfl rfl AB (B7 rfl rfl rfl rfl underlying241 NV cT z5 F4 vq (Br BL vq)) (fun v4=> ?_)
 refine ap ?_
 refine ac ?_
 refine co rfl (Hu rfl vq vq AA) ?_
 refine ac ?_
 refine Fin.drop 0 (Fin.GV (x/256) (IntKind.u8.wrap x) (h::t)  ((HO hx0 AA hmu)) ⟨kq,⟨_,rfl,Pr.le_trans (Ar _ _) (Pr.le_of_eq rfl)⟩,kz⟩ (fun _ _ h=>h))
 have XI:=h8
 refine ac ?_
 refine ap ?_
 refine Tr.ret (Fin.CY rfl (AM.cell 0 rfl rfl DW Cj rfl Lr) ?_)
 · exact Ju
 refine ac ?_
 refine wk [35,4,3,2] rfl ?_
 refine ac ?_
 refine ap ?_
 refine Tr.ret (Fin.CY rfl (AM.cell 0 rfl rfl DW Cj rfl Lr) ?_)
 · exact Ju
 refine ag ?_ ?_<;>intro h9 q9
 refine LR h9 rfl ?_
 refine cy h9 rfl (AD rfl underlying241 NV vq vq AA (AX (k:=0) rfl)) ?_
 refine ag ?_ ?_<;>intro h10 P7
 refine ac ?_
 refine wk [35,4,3,2] rfl ?_
 refine ac ?_
 refine ap ?_
 refine tp rfl (Eu rfl underlying3 underlying5 vq) ?_
 refine ap ?_
 refine TO.pad ?_
 refine TO.DT 0 rfl rfl AB (B7 rfl rfl rfl rfl underlying241 NV cT z5 F4 vq (Br BL vq)) (fun v5=> ?_)
 refine ap ?_
 refine ac ?_
 refine co rfl (Hu rfl vq vq AA) ?_
 refine ac ?_
 refine Fin.drop 0 (Fin.GV (x/256) (IntKind.u8.wrap x) (h::t)  ((HO hx0 AA hmu)) ⟨kq,⟨_,rfl,Pr.le_trans (Ar _ _) (Pr.le_of_eq rfl)⟩,kz⟩ (fun _ _ h=>h))
 refine ag ?_ ?_<;>intro h11 Sx
 refine LR h11 rfl ?_
 refine cy h11 rfl (AD rfl underlying241 NV vq vq AA (AX (k:=0) rfl)) ?_
 refine ac ?_
 refine wk [35,4,3,2] rfl ?_
 refine Tr.cn rfl ?_ ?_<;>intro h12 WT
 have XI:=h12
 refine ac ?_
 refine ap ?_
 refine tp rfl (Eu rfl underlying3 underlying5 vq) ?_
 refine ap ?_
 refine TO.pad ?_
 refine TO.DT 0 rfl rfl AB (B7 rfl rfl rfl rfl underlying241 NV cT z5 F4 vq (Br BL vq)) (fun v6=> ?_)
 refine ap ?_
 refine ac ?_
 refine co rfl (Hu rfl vq vq AA) ?_
 refine ac ?_
 refine Fin.drop 0 (Fin.GV (x/256) (IntKind.u8.wrap x) (h::t)  ((HO hx0 AA hmu)) ⟨kq,⟨_,rfl,Pr.le_trans (Ar _ _) (Pr.le_of_eq rfl)⟩,kz⟩ (fun _ _ h=>h))
 have XI:=h12
 refine ac ?_
 refine ap ?_
 refine Tr.ret (Fin.CY rfl (AM.cell 0 rfl rfl DW Cj rfl Lr) ?_)
 · exact Ju
 refine ac ?_
 refine wk [35,4,3,2] rfl ?_
 refine ac ?_
 refine ap ?_
 refine Tr.ret (Fin.CY rfl (AM.cell 0 rfl rfl DW Cj rfl Lr) ?_)
 · exact Ju
 refine ag ?_ ?_<;>intro NU dI
 refine LR NU rfl ?_
 refine cy NU rfl (AD rfl underlying241 NV vq vq AA (AX (k:=0) rfl)) ?_
 refine ac ?_
 refine wk [35,4,3,2] rfl ?_
 refine Tr.cn rfl ?_ ?_<;>intro J5 q14
 have XI:=J5
 refine ac ?_
 refine ap ?_
 refine tp rfl (Eu rfl underlying3 underlying5 vq) ?_
 refine ap ?_
 refine TO.pad ?_
 refine TO.DT 0 rfl rfl AB (B7 rfl rfl rfl rfl underlying241 NV cT z5 F4 vq (Br BL vq)) (fun v7=> ?_)
 refine ap ?_
 refine ac ?_
 refine co rfl (Hu rfl vq vq AA) ?_
 refine ac ?_
 refine Fin.drop 0 (Fin.GV (x/256) (IntKind.u8.wrap x) (h::t)  ((HO hx0 AA hmu)) ⟨kq,⟨_,rfl,Pr.le_trans (Ar _ _) (Pr.le_of_eq rfl)⟩,kz⟩ (fun _ _ h=>h))
 have XI:=J5
 refine ac ?_
 refine ap ?_
 refine Tr.ret (Fin.CY rfl (AM.cell 0 rfl rfl DW Cj rfl Lr) ?_)
 · exact Ju
 refine ac ?_
 refine wk [35,4,3,2] rfl ?_
 refine ac ?_
 refine ap ?_
 refine Tr.ret (Fin.CY rfl (AM.cell 0 rfl rfl DW Cj rfl Lr) ?_)
 · exact Ju
theorem Vi {s:List UInt8} (hs:s.length≤1000):BG prog 261 [str s] (agg (Bk q0)):=by
 refine fo func261 rfl ⟨rfl,rfl⟩ fun M0 w0=>(Tr.seq (Tr.An ?_))
 refine Tl rfl rfl rfl rfl Nw LY (fun b1=> ?_)
 refine ap ?_
 refine ap ?_
 refine tp rfl (lM rfl underlying9 underlying241 underlying5 vq FI) ?_
 refine ap ?_
 refine Tr.ret (Fin.CY rfl (AM.cell 0 rfl rfl DW Cj rfl Lr) ?_)
 · exact BR ⟨DG _ _,F6 (m:=s.length) AA (Yl (f:=fun c:UInt8=>((c.toNat:Nat):Int))),Ax _ Lr,AQ 4,trivial⟩
theorem tJ {b:Bool}  :BG prog 265 [bool b] (agg (Bk q0)):=by
 refine fo func265 rfl ⟨rfl,rfl⟩ fun M0 w0=>(Tr.seq (Tr.An ?_))
 refine Tl rfl rfl rfl rfl Nw LY (fun b1=> ?_)
 refine ap ?_
 refine an ?_ ?_<;>intro h1 q1
 refine ap ?_
 refine tp rfl (Ak (rows:=[(0,[_]),(1,[_])]) rfl lK LY ⟨⟨rfl,My⟩,⟨⟨rfl,⟨_,rfl,Pr.le_trans (Bx _ _) (AY _)⟩⟩,trivial⟩⟩ rfl) ?_
 refine ap ?_
 refine Tr.ret (Fin.AE (Fin.CY rfl (AM.cell 0 rfl rfl DW Cj rfl Lr) ?_))
 · exact bI
 refine ac ?_
 refine ap ?_
 refine tp rfl (Ak (rows:=[(0,[_]),(1,[_])]) rfl lK LY ⟨⟨rfl,My⟩,⟨⟨rfl,⟨_,rfl,Pr.le_trans (Bx _ _) (AY _)⟩⟩,trivial⟩⟩ rfl) ?_
 refine ap ?_
 refine Tr.ret (Fin.CY rfl (AM.cell 0 rfl rfl DW Cj rfl Lr) ?_)
 · exact bI
theorem N2 {m:Nat} {q:Pr} [One q]  (hm:m≤20) (ih:m=0∨BG prog 291 [q] q):BG prog 291 [slice 4 (List.replicate m (Bk q))] (slice 4 (List.replicate m (Bk q))):=by
 refine BG.of func291 rfl rfl Ao fun M0 w0=> ?_
 have hlr:(List.replicate m (Bk q)).length=m:=List.length_replicate
 refine Tr.seq (Tr.Aj (cm rfl (Ch.nil (Fin.go (Tr.seq (Tr.Aj (cm rfl (Ch.nil (Fin.go (Tr.seq (Tr.seq (Tr.Aj (cm rfl ?_)))))))))))))
 refine Ch.nil (Fin.go (Tr.block (Tr.B5 285 4 (Tr.EO [(0,_)] ⟨ke rfl,trivial⟩ (fun k v=>[(4,int ((k:Nat):Int)),(3,Ad v (slice 4 (List.replicate k (Bk q))))]) (fun k v=>Hp M0 w0 FO ([Aw 285 4 v])) (fun k:Nat=>k≤((List.replicate m (Bk q)).length)) (fun k:Nat=>((List.replicate m (Bk q)).length)-k) 0 (.slice none 0 0) (Nat.zero_le _) ⟨ke rfl,⟨_,rfl,Bi rfl⟩,trivial⟩ (fun _ _ h=>h) ?_))))
 rintro k v BU
 refine Tr.seq (Tr.seq (Tr.Aj (cm rfl (cm rfl (co rfl (Ce rfl underlying283 (vl rfl)) (co rfl (ki rfl rfl rfl rfl) (Ch.nil (Fin.go ?_))))))))
 refine Tr.cn rfl ?_ ?_<;>intro h1 q1
 have Af:k<((List.replicate m (Bk q)).length):=AH h1
 have hkm:k<m:=by simpa using Af
 have ih2:=ih.resolve_left AA
 refine Tr.skip (Fin.go (Tr.seq (Tr.block (Tr.seq (Tr.An (tm rfl (tm rfl (tp rfl (AD rfl underlying283 Cj (vl rfl) (vl rfl) AA (KD hkm)) (tp rfl (AP rfl DW Cj (vl rfl) rfl rfl) ?_)))))))))
 refine Tl rfl rfl rfl rfl Nw LY (fun b1=> ?_)
 refine TO.AK 0 rfl rfl rfl (vl rfl) (Va rfl) rfl Cj rfl rfl (TO.nil (Fin.go (Tr.seq (Tr.An (tp rfl (AO (xs:=[]) (rows:=[]) rfl rfl underlying241 NV z5 rfl AB trivial AB) (tp rfl (AW rfl VO (vl rfl)) (TO.rd 0 rfl rfl rfl AB (BI rfl lJ (vl rfl) rfl) ?_)))))))
 refine TO.ex 18 rfl (fun z18=>TO.fact 18 rfl fun AFu=> ?_)
 refine TO.pad ?_
 refine TO.DT 0 rfl rfl AB (B7 rfl rfl rfl rfl underlying241 NV cT z5 (Kf rfl) (vl rfl) (Br BL (vl rfl))) (fun v1=> ?_)
 refine tp rfl (AW rfl VO (vl rfl)) (TO.DP 1 rfl rfl (A0 rfl rfl (vl rfl) (Vo rfl) ABI rfl Ao rfl) (TO.nil (Fin.go (So 0 3 4 5 rfl (Tr.seq (Tr.An (tp rfl (AW rfl Ms (vl rfl)) (TO.rd 1 rfl rfl rfl AB (BI rfl VN (vl rfl) rfl) (tp rfl (AR rfl (ih2) ⟨ke rfl,trivial⟩) (tp rfl (AW rfl Ms (vl rfl)) (TO.DP 1 rfl rfl (A0 rfl rfl (vl rfl) (Vo rfl) ABK rfl Ao rfl) (TO.nil (Fin.go (Tr.An ?_))))))))))))))
 refine tm rfl (TO.rd 1 rfl rfl rfl AB (B0 rfl DW Cj (vl rfl) rfl rfl) (tp rfl (AO (xs:=[.tmp 26]) (rows:=[Bk q]) rfl rfl underlying283 Cj Nw rfl AB ⟨⟨Am,VL.le (vl rfl) (Pr.le_trans (BR (qs:=Bk q) ⟨Lr,F6 (m:=z18) AA (Pr.le_trans (Ar _ _) (Pr.le_of_eq rfl)),Lr,Lr,trivial⟩) (Ae _))⟩,trivial⟩ AB) ?_))
 refine TO.DT 2 rfl rfl AB (B7 rfl rfl rfl rfl underlying283 Cj vg Nw (Kb rfl) (Kf rfl) (Ay BL (Ka rfl))) (fun v2=> ?_)
 refine tm rfl (TO.nil (Fin.block (Fin.go (Tr.drop 1 (Tr.Aj (cm rfl (MV rfl rfl rfl rfl AA (cm rfl (Ch.nil (Fin.drop 0 (Fin.C1 (k+1) v2 (⟨Af,by omega⟩) ⟨⟨_,rfl,AG k⟩,⟨_,rfl,BA (by rw [dH])⟩,ke rfl,trivial⟩ (fun _ _ h=>h))))))))))))
 have BK:k=((List.replicate m (Bk q)).length):=by have:=AJ h1;omega
 refine Tr.exit (Fin.Ac (Fin.Ac (Fin.A7 (Fin.go (Tr.seq (Tr.Aj (cm rfl (cm rfl (Ch.nil (Fin.go (Tr.ret (Fin.LB rfl (Bg.Dc _ _) rfl ?_))))))))))))
 · exact Pr.le_trans (Ar _ _) (Pr.le_of_eq (by rw [BK,hlr]))
theorem Vj {m:Nat} {q:Pr}  (hm:m≤20) (hc:BG prog 291 [slice 4 (List.replicate m (Bk q))] (slice 4 (List.replicate m (Bk q)))):BG prog 262 [slice 4 (List.replicate m (Bk q))] (agg (Bk (KC (Bk q)))):=by
 refine fo func262 rfl ⟨rfl,rfl⟩ fun M0 w0=>(Tr.seq (Tr.An ?_))
 refine Tl rfl rfl rfl rfl Nw LY (fun b1=> ?_)
 refine ap ?_
 refine ap ?_
 refine tp rfl (Cq (hc) rfl rfl) ?_
 refine ap ?_
 refine Tr.ret (Fin.CY rfl (AM.cell 0 rfl rfl DW Cj rfl Lr) ?_)
 · exact BR ⟨DG _ _,F6 (m:=0) AA (AQ 1),Ax _ Lr,Ax m (A_ hm Lr),trivial⟩
structure IE.vf (c:IE):Prop where
 s0:0≤c.J9
 s1:c.J9≤1099511627776
 iss:named c.Ny=true
 sub:named c.Ku=true
 nm:HM c.names=true
 key:LQ c.Sv c.LZ 2=true
 k0:0≤c.CW
 k1:c.CW≤2147483648
 hash:LQ c.ZV c.RQ 1=true
 sk0:0≤c.s7
 sk1:c.s7≤2147483648
 su0:0≤c.s8
 su1:c.s8<4294967296
 f0:0≤c.from_
 ft:c.from_≤c.Nz
 t1:c.Nz≤40000
 p0:0≤c.path
 p1:c.path≤8
 ap:c.auth=true∨c.path=0
theorem JW {c:IE} (hv:EF c=true):c.vf:=by
 simp only [EF,IG,xx,Bool.and_eq_true,Bool.or_eq_true,decide_eq_true_eq,beq_iff_eq] at hv
 obtain ⟨⟨⟨⟨⟨⟨⟨h1,h2⟩,h3⟩,h4⟩,h5⟩,⟨⟨⟨⟨h6,⟨h7,h8⟩⟩,h9⟩,⟨h10,h11⟩⟩,⟨h12,NU⟩⟩⟩,⟨⟨J5,Sh⟩,h16⟩⟩,⟨⟨Nr,Si⟩,h19⟩⟩:=hv
 exact ⟨h1,h2,h3,h4,h5,h6,h7,h8,h9,h10,h11,h12,NU,J5,Sh,h16,Nr,Si,h19⟩
theorem dK {c:IE} (h:c.vf):EF c=true:=by
 simp only [EF,IG,xx,Bool.and_eq_true,Bool.or_eq_true,decide_eq_true_eq,beq_iff_eq]
 exact ⟨⟨⟨⟨⟨⟨⟨h.s0,h.s1⟩,h.iss⟩,h.sub⟩,h.nm⟩,⟨⟨⟨⟨h.key,⟨h.k0,h.k1⟩⟩,h.hash⟩,⟨h.sk0,h.sk1⟩⟩,⟨h.su0,h.su1⟩⟩⟩,⟨⟨h.f0,h.ft⟩,h.t1⟩⟩,⟨⟨h.p0,h.p1⟩,h.ap⟩⟩
theorem ZZ {a b k:Int} (h:LQ a b k=true):decide (Dw a b>0)=true∧(En a).kind=k:=by
 unfold LQ at h;simpa using h
theorem Vk {l:List (List UInt8)} {k:Nat} {s:List UInt8} (h:nameAt l k=true) (hs:l[k]? =some s):named s=true:=by
 unfold nameAt at h;rw [hs] at h;simp at h;exact h.1
theorem dL {l:List (List UInt8)} {k:Nat} {s y:List UInt8} (h:nameAt l k=true) (hs:l[k]? =some s) (hy:l[k-1]? =some y) (hk:0<k):decide (Lib.compareBytes y s= -1)=true:=by
 unfold nameAt at h;rw [hs,hy] at h;simp at h
 rcases h.2 with h2|h2
 · omega
 · exact Iu
theorem Tn {c:IE} (hv:EF c=true):BG prog 188 [agg (EE c)] (int 0):=by
 refine fo func188 rfl ⟨rfl,rfl⟩ fun M0 w0=> ?_
 obtain ⟨hs0,hs1,x6,hsub,hnm,hkey,hk0,hk1,vw,AFv,AFw,AFx,AFy,jk,hft,ht1,hp0,ZQ,hap⟩:=JW hv
 obtain ⟨ACW,ACX⟩:=ZZ hkey
 obtain ⟨hh1,hh2⟩:=ZZ vw
 have N3:=hnm
 unfold HM at N3
 rw [Bool.and_eq_true,B_,decide_eq_true_eq] at N3
 obtain ⟨hall,ACY⟩:=N3
 refine ac ?_
 refine ag ?_ ?_<;>intro h1 q1
 exfalso;have:=q1;omega
 refine ag ?_ ?_<;>intro h2 q2
 exfalso;have:=q2;omega
 refine ac ?_
 refine cy h2 rfl (Cq (Gx) rfl rfl) ?_
 refine ag ?_ ?_<;>intro h3 q3
 rw [x6] at h3;exact absurd h3 AB
 refine ac ?_
 refine cy h3 rfl (Cq (Gx) rfl rfl) ?_
 refine ag ?_ ?_<;>intro h4 q4
 rw [hsub] at h4;exact absurd h4 AB
 refine ac ?_
 refine cy h4 rfl (Cq (KB) rfl rfl) ?_
 refine ag ?_ ?_<;>intro h5 q5
 rw [ACW,ACX] at h5;exact absurd h5 AB
 refine ag ?_ ?_<;>intro h6 q6
 exfalso;have:=q6;omega
 refine ac ?_
 refine wk [39,1] rfl ?_
 refine Tr.cn rfl ?_ ?_<;>intro h7 q7
 exfalso;have:=q7;omega
 refine a2 ?_
 refine co rfl (Cq (KA) rfl rfl) ?_
 refine ag ?_ ?_<;>intro h8 q8
 rw [hh1] at h8;exact absurd h8 AB
 refine ac ?_
 refine cy h8 rfl (Cq (Pu) rfl rfl) ?_
 refine ag ?_ ?_<;>intro h9 q9
 rw [hh2] at h9;exact absurd h9 AB
 refine ag ?_ ?_<;>intro h10 P7
 exfalso;have:=P7;omega
 refine ag ?_ ?_<;>intro h11 Sx
 exfalso;have:=Sx;omega
 refine ac ?_
 refine wk [67,1] rfl ?_
 refine Tr.cn rfl ?_ ?_<;>intro h12 WT
 exfalso;have:=WT;omega
 refine ac ?_
 refine ag ?_ ?_<;>intro NU dI
 exfalso;have:=dI;omega
 refine ag ?_ ?_<;>intro J5 q14
 exfalso;have:=q14;omega
 refine ag ?_ ?_<;>intro Sh q15
 refine ag ?_ ?_<;>intro h16 q16
 exfalso;have:=q16;simp_all
 refine ac ?_
 refine wk [91,1] rfl ?_
 refine Tr.cn rfl ?_ ?_<;>intro Nr q17
 exfalso;have:=q17;omega
 refine a2 ?_
 refine Tr.block (Tr.BH _ (kk [1] rfl) (fun k:Nat=>[(3,int ((k:Nat):Int))]) (fun k:Nat=>k≤(c.names).length) (fun k:Nat=>(c.names).length-k) 0 (Nat.zero_le _) kz ?_)
 rintro k BU
 refine an ?_ ?_<;>intro Si q18
 have Af:k<(c.names).length:=AH Si
 obtain ⟨s,Ah⟩:=at_ Af
 have hat:=hall k AA
 have hna:=Vk hat Ah
 refine a2 ?_
 refine co rfl (AD rfl underlying127 Mq vq vq AA (AX Ah)) (co rfl (Fw rfl O4 rfl) (co rfl (Cq (Gx) rfl rfl) ?_))
 refine ag ?_ ?_<;>intro h19 q19
 exfalso;rw [hna] at h19;exact absurd h19 AB
 refine ag ?_ ?_<;>intro Sk q20
 have L8:0<k:=by simpa using Sk
 obtain ⟨y,hy⟩:=at_ (l:=c.names) (k:=k-1) AA
 have hlt:=dL hat Ah hy L8
 refine ac ?_
 refine cy Sk rfl (AD rfl underlying127 Mq vq vq AA Ln) ?_
 refine ac ?_
 refine cy Sk rfl (AD rfl underlying127 Mq vq vq AA (AX Ah)) (cy Sk rfl (Fw rfl O4 rfl) (cy Sk rfl (RF rfl vq vq) ?_))
 refine ac ?_
 refine wk [123,3,1] rfl ?_
 refine Tr.cn rfl ?_ ?_<;>intro c_ q21
 exfalso;rw [hlt] at c_;exact absurd c_ AB
 refine a2 ?_
 exact Fin.AL (k+1) ⟨Af,by omega⟩ ⟨⟨_,rfl,AG k⟩,kz⟩
 refine ac ?_
 refine wk [123,3,1] rfl ?_
 refine a2 ?_
 exact Fin.AL (k+1) ⟨Af,by omega⟩ ⟨⟨_,rfl,AG k⟩,kz⟩
 have BK:k=(c.names).length:=by have:=AJ Si;omega
 refine ac ?_
 refine ag ?_ ?_<;>intro h22 q22
 exfalso;have:=q22;omega
 refine ag ?_ ?_<;>intro h23 q23
 exfalso;have:=q23;omega
 refine ag ?_ ?_<;>intro Nc q24
 exfalso;have:=q24;omega
 refine ac ?_
 refine wk [145] rfl ?_
 refine Tr.cn rfl ?_ ?_<;>intro h25 q25
 exfalso;have:=q25;omega
 refine a3 ?_
 · exact Lr
 refine ac ?_
 refine wk [91,1] rfl ?_
 refine Tr.cn rfl ?_ ?_<;>intro h26 q26
 exfalso;have:=q26;omega
 refine a2 ?_
 refine Tr.block (Tr.BH _ (kk [1] rfl) (fun k:Nat=>[(3,int ((k:Nat):Int))]) (fun k:Nat=>k≤(c.names).length) (fun k:Nat=>(c.names).length-k) 0 (Nat.zero_le _) kz ?_)
 rintro k BU
 refine an ?_ ?_<;>intro h27 q27
 have Af:k<(c.names).length:=AH h27
 obtain ⟨s,Ah⟩:=at_ Af
 have hat:=hall k AA
 have hna:=Vk hat Ah
 refine a2 ?_
 refine co rfl (AD rfl underlying127 Mq vq vq AA (AX Ah)) (co rfl (Fw rfl O4 rfl) (co rfl (Cq (Gx) rfl rfl) ?_))
 refine ag ?_ ?_<;>intro h28 q28
 exfalso;rw [hna] at h28;exact absurd h28 AB
 refine ag ?_ ?_<;>intro jl q29
 have L8:0<k:=by simpa using jl
 obtain ⟨y,hy⟩:=at_ (l:=c.names) (k:=k-1) AA
 have hlt:=dL hat Ah hy L8
 refine ac ?_
 refine cy jl rfl (AD rfl underlying127 Mq vq vq AA Ln) ?_
 refine ac ?_
 refine cy jl rfl (AD rfl underlying127 Mq vq vq AA (AX Ah)) (cy jl rfl (Fw rfl O4 rfl) (cy jl rfl (RF rfl vq vq) ?_))
 refine ac ?_
 refine wk [123,3,1] rfl ?_
 refine Tr.cn rfl ?_ ?_<;>intro h30 q30
 exfalso;rw [hlt] at h30;exact absurd h30 AB
 refine a2 ?_
 exact Fin.AL (k+1) ⟨Af,by omega⟩ ⟨⟨_,rfl,AG k⟩,kz⟩
 refine ac ?_
 refine wk [123,3,1] rfl ?_
 refine a2 ?_
 exact Fin.AL (k+1) ⟨Af,by omega⟩ ⟨⟨_,rfl,AG k⟩,kz⟩
 have BK:k=(c.names).length:=by have:=AJ h27;omega
 refine ac ?_
 refine ag ?_ ?_<;>intro h31 q31
 exfalso;have:=q31;omega
 refine ag ?_ ?_<;>intro h32 q32
 exfalso;have:=q32;omega
 refine ag ?_ ?_<;>intro h33 q33
 exfalso;have:=q33;omega
 refine ac ?_
 refine wk [145] rfl ?_
 refine Tr.cn rfl ?_ ?_<;>intro h34 q34
 exfalso;have:=q34;omega
 refine a3 ?_
 · exact Lr
abbrev tL:Pr:=Cp.ex fun n:Int=>fact (0≤n∧n<4294967296) (is (.int .u32 n))
abbrev x7:Pr:=Cp.ex fun n:Int=>fact (0≤n∧n<4294967296) (int n)
theorem tM:Pr.le tL (Gl .u32):=fun _ _ _ ⟨n,_,h⟩=>⟨n,h⟩
section
variable {P:Program} {I:Ck} {E:Env} {o:Oper}
theorem mP {s t:TypeId} {x:Operand} {k k':IntKind} (ho:o.op= .convert s t x) (hs:P.underlying s=some (.int k)) (ht:P.underlying t=some (.int k')) (hx:VL E x (Gl k)):Ag P I o E (Gl k'):=
 Ag.same fun M w a he _=>by
  obtain ⟨n,h1⟩:=hx.ev he Au
  have h1:a.eval x= .int k n:=h1
  refine ⟨.int k' (k'.wrap n),?_,_,rfl⟩
  simp [execOp,ho,h1,convert,run_underlying hs,run_underlying ht,Conv.intToInt,Sem.run_bind]
theorem tN {t u:TypeId} {x y:Operand} (ho:o.op= .binOp .mul t x y u) (hx:VL E x (Gl .u32)) (hy:VL E y (Gl .u32)):Ag P I o E tL:=
 Ag.same fun M w a he _=>by
  obtain ⟨m,h1⟩:=hx.ev he Au
  obtain ⟨n,h2⟩:=hy.ev he Au
  have h1:a.eval x= .int .u32 m:=h1
  have h2:a.eval y= .int .u32 n:=h2
  refine ⟨.int .u32 (IntKind.u32.wrap (m*n)),by simp [execOp,ho,h1,h2,eqGuard,binOp,Op.intArith],_,?_,rfl⟩
  rw [IntKind.wrap_u32];omega
theorem ga {s t:TypeId} {x:Operand} (ho:o.op= .convert s t x) (hs:P.underlying s=some (.int .u32)) (ht:P.underlying t=some (.int .i64)) (hx:VL E x tL):Ag P I o E x7:=
 Ag.same fun M w a he _=>by
  obtain ⟨n,hn,h1⟩:=hx.ev he Au
  have h1:a.eval x= .int .u32 n:=h1
  refine ⟨.int .i64 (IntKind.i64.wrap n),?_,n,hn,by rw [Gu Km];rfl⟩
  simp [execOp,ho,h1,convert,run_underlying hs,run_underlying ht,Conv.intToInt,Sem.run_bind]
end
theorem BG.KC {P:Program} {f:FuncId} {row:List Pr} (h:∀m,m≤20→BG P f [slice 4 (List.replicate m row)] (slice 4 (List.replicate m row))):BG P f [Go.Proofs.YtmocaapoeefgkaaGreatDoor.KC row] (Go.Proofs.YtmocaapoeefgkaaGreatDoor.KC row):=by
 refine ⟨(h 0 AA).1,fun M w vs hb hv=> ?_⟩
 match vs,hv with
 |[u0],jj=>
  obtain ⟨⟨m,hm,h0⟩,_⟩:=jj
  exact ((h m hm).2 M w [u0] hb ⟨h0,trivial⟩).mono fun e w' ⟨v,h1,h2,h3⟩=>⟨v,h1,⟨m,hm,h2⟩,h3⟩
theorem BG.Ep {P:Program} {f:FuncId} {B:Nat} {res:Pr} (h:∀m,m≤B→BG P f [dG m] res):BG P f [Go.Proofs.YtmocaapoeefgkaaGreatDoor.Ep B] res:=by
 refine ⟨(h 0 AA).1,fun M w vs hb hv=> ?_⟩
 match vs,hv with
 |[u0],jj=>
  obtain ⟨⟨m,hm,h0⟩,_⟩:=jj
  exact (h m hm).2 M w [u0] hb ⟨h0,trivial⟩
abbrev NW:Pr:=KC (Bk q0)
abbrev qA2:Pr:=KC (Bk NW)
theorem Oh:Pr.le q0 NW:=Ax 0 (A_ AA (Pr.le_refl _))
theorem rc0:BG Tryz.prog 291 [q0] q0:=N2 (m:=0) (q:=q0) AA (.inl rfl)
theorem rc1 (m:Nat) (hm:m≤20):BG Tryz.prog 291 [slice 4 (List.replicate m (Bk q0))] (slice 4 (List.replicate m (Bk q0))):=N2 hm (.inr rc0)
theorem rc2 (m:Nat) (hm:m≤20):BG Tryz.prog 291 [slice 4 (List.replicate m (Bk NW))] (slice 4 (List.replicate m (Bk NW))):=N2 hm (.inr (BG.KC rc1))
theorem rf0:BG Tryz.prog 258 [agg (Bk q0)] ER:=BG.mN fun t b n hb=>N1 (m:=0) (q:=q0) hb AA (.inl rfl)
theorem rf1:BG Tryz.prog 258 [agg (Bk NW)] ER:=BG.Bk fun t b n m hb hm=>N1 hb hm (.inr rf0)
theorem rf2:BG Tryz.prog 258 [agg (Bk qA2)] ER:=BG.Bk fun t b n m hb hm=>N1 hb hm (.inr rf1)
theorem rd0:BG Tryz.prog 259 [agg (Bk q0)] (L6 1):=BG.mN fun t b n hb=>RS (m:=0) (q:=q0) (D:=0) hb AA AA (.inl rfl)
theorem rd1:BG Tryz.prog 259 [agg (Bk NW)] (L6 2):=BG.Bk fun t b n m hb hm=>RS hb hm AA (.inr rd0)
theorem rd2:BG Tryz.prog 259 [agg (Bk qA2)] (L6 3):=BG.Bk fun t b n m hb hm=>RS hb hm AA (.inr rd1)
theorem rp0:BG Tryz.prog 260 [agg (Bk q0)] (Ep 2002):=BG.mN fun t b n hb=>ZY (m:=0) (q:=q0) (B:=0) hb AA AA (.inl rfl)
theorem rp1:BG Tryz.prog 260 [agg (Bk NW)] (Ep 82082):=BG.Bk fun t b n m hb hm=>ZY (B:=2002) hb hm AA (.inr rp0)
theorem rp2:BG Tryz.prog 260 [agg (Bk qA2)] (Ep 3285282):=BG.Bk fun t b n m hb hm=>ZY (B:=82082) hb hm AA (.inr rp1)
theorem rE2:BG Tryz.prog 225 [agg (Bk qA2)] (Dz [Ep 3285282,Gl .i64]):=gZ rf2 rd2 rp2
structure IE.Za (c:IE):Prop where
 J9:c.J9≤1099511627776
 CW:c.CW≤2147483648
 Sv:0≤c.Sv∧c.Sv≤40000
 LZ:0≤c.LZ∧c.LZ≤40000
 ZV:0≤c.ZV∧c.ZV≤40000
 RQ:0≤c.RQ∧c.RQ≤40000
theorem Kx {s:List UInt8} (h:named s=true):s.length≤32:=by unfold named at h;simp at h;omega
theorem dM {a b:Int} (ha:0≤a∧a≤40000) (hb:0≤b∧b≤40000):BG prog 264 [agg [int a,int b]] (agg (Bk NW)):=by
 refine fo func264 rfl ⟨rfl,rfl⟩ fun M0 w0=>(Tr.seq (Tr.An (tp rfl (Bb rfl (Va rfl)) ?_)))
 refine Tl rfl rfl rfl rfl Nw LY (fun b1=> ?_)
 refine ap ?_
 refine Tr.seq (Tr.rx ?_)
 refine ay ?_
 refine xo rfl (fun _=>Cq (L7 AA) rfl rfl) ?_
 refine ay ?_
 refine xo rfl (fun _=>Cq (L7 AA) rfl rfl) (xo rfl (fun _=>AO (xs:=[.tmp 5,.tmp 8]) (rows:=[_,_]) rfl rfl underlying283 Cj Nw rfl AB ⟨⟨Am,(Va rfl)⟩,⟨⟨Am,(Va rfl)⟩,trivial⟩⟩ AB) ?_)
 refine xo rfl (fun _=>AR rfl (Vj (m:=2) (q:=q0) AA (rc1 _ AA)) ⟨(Kf rfl),trivial⟩) ?_
 refine Cx.DP 0 rfl rfl (A0 rfl rfl (vl rfl) (Va rfl) Cj rfl Ao rfl) ?_
 refine Cx.nil ⟨by kernel_rfl,?_⟩
 refine BE.done al1 (Fin.go (Tr.ret (Fin.CY rfl (AM.cell 0 rfl rfl DW Cj rfl Lr) ?_)))
 · exact Lr
theorem XJ {c:IE} (hv:EF c=true) (ht:c.Za):BG prog 226 [agg (EE c)] (agg (Bk qA2)):=by
 refine fo func226 rfl ⟨rfl,rfl⟩ fun M0 w0=> ?_
 obtain ⟨hs0,hs1,x6,hsub,hnm,hkey,hk0,hk1,vw,AFv,AFw,AFx,AFy,jk,hft,ht1,hp0,ZQ,hap⟩:=JW hv
 obtain ⟨g1,g2,g3,g4,g5,g6⟩:=ht
 have N3:=hnm
 unfold HM at N3
 rw [Bool.and_eq_true,B_,decide_eq_true_eq] at N3
 obtain ⟨hall,ACY⟩:=N3
 have cA:=Kx x6
 have hlj:=Kx hsub
 refine Tr.seq (Tr.An (tp rfl (Bb rfl (Va rfl)) ?_))
 refine Tl rfl rfl rfl rfl Nw LY (fun b1=> ?_)
 refine ap ?_
 refine a2 ?_
 refine Tr.block (Tr.B5 285 4 (Tr.EO _ (kk [2,1] rfl) (fun k v=>[(4,int ((k:Nat):Int)),(3,Ad v (slice 4 (List.replicate k (Bk q0))))]) (fun k v=>Hp M0 w0 FO ([Aw 285 4 v,AF true b1 285 (([.int .i64 0,.slice none 0 0,.bool false,.slice none 0 0]:List Value).map is)])) (fun k:Nat=>k≤(c.names).length) (fun k:Nat=>(c.names).length-k) 0 (.slice none 0 0) (Nat.zero_le _) ⟨ke rfl,⟨_,rfl,Bi rfl⟩,trivial⟩ (fun _ _ h=>h) ?_))
 rintro k v BU
 refine an ?_ ?_<;>intro h1 q1
 have Af:k<(c.names).length:=AH h1
 obtain ⟨s,Ah⟩:=at_ Af
 have hsn:=Kx (Vk (hall k AA) Ah)
 refine ac ?_
 refine ap ?_
 refine tp rfl (AD rfl underlying127 Mq (vl rfl) (vl rfl) AA CO) ?_
 refine tp rfl (Fw rfl O4 rfl) (tp rfl (Cq (Vi AA) rfl rfl) (tp rfl (AO (xs:=[.tmp 18]) (rows:=[_]) rfl rfl underlying283 Cj Nw rfl AB ⟨⟨Am,(Va rfl)⟩,trivial⟩ AB) ?_))
 refine TO.DT 0 rfl rfl AB (B7 rfl rfl rfl rfl underlying283 Cj vg Nw (Kb rfl) (Kf rfl) (Ay BL (Ka rfl))) (fun v1=> ?_)
 refine ap ?_
 refine wk [4,3,2,1] rfl ?_
 refine ac ?_
 exact Fin.C1 (k+1) v1 (⟨Af,by omega⟩) ⟨⟨_,rfl,AG k⟩,⟨_,rfl,BA (by rw [dH])⟩,kz⟩ (fun _ _ h=>h)
 have BK:k=(c.names).length:=by have:=AJ h1;omega
 refine ac ?_
 refine Tr.seq (Tr.rx ?_)
 refine ay ?_
 refine xo rfl (fun _=>Cq (L7 AA) rfl rfl) ?_
 refine ay ?_
 refine xo rfl (fun _=>Cq (Vi AA) rfl rfl) ?_
 refine ay ?_
 refine xo rfl (fun _=>Cq (Vi AA) rfl rfl) ?_
 refine ay ?_
 refine xo rfl (fun _=>Cq (dM g3 g4) rfl rfl) ?_
 refine ay ?_
 refine xo rfl (fun _=>Cq (L7 AA) rfl rfl) ?_
 refine ay ?_
 refine xo rfl (fun _=>Cq (dM g5 g6) rfl rfl) ?_
 refine ay ?_
 refine xo rfl (fun _=>Cq (L7 AA) rfl rfl) ?_
 refine ay ?_
 refine xo rfl (fun _=>Cq (L7 AA) rfl rfl) ?_
 refine ay ?_
 refine xo rfl (fun _=>Cq (tJ) rfl rfl) ?_
 refine ay ?_
 refine xo rfl (fun _=>Cq (L7 AA) rfl rfl) (xm rfl ?_)
 refine xo rfl (fun _=>AR rfl (Vj (m:=c.names.length) (q:=q0) AA (rc1 _ AA)) ⟨⟨_,rfl,Pr.le_trans (Ar _ _) (Pr.le_of_eq (by rw [BK]))⟩,trivial⟩) ?_
 refine xo rfl (fun _=>AO (xs:=[.tmp 23,.tmp 26,.tmp 29,.tmp 32,.tmp 35,.tmp 38,.tmp 41,.tmp 44,.tmp 47,.tmp 50,.tmp 52]) (rows:=[Bk NW,Bk NW,Bk NW,Bk NW,Bk NW,Bk NW,Bk NW,Bk NW,Bk NW,Bk NW,Bk NW]) rfl rfl underlying283 Cj Nw rfl AB ⟨⟨Am,VL.le (vl rfl) (Pr.le_trans (BR (qs:=Bk NW) ⟨Lr,Lr,Lr,Oh,trivial⟩) (Ae _))⟩,⟨⟨Am,VL.le (vl rfl) (Pr.le_trans (BR (qs:=Bk NW) ⟨Lr,Lr,Lr,Oh,trivial⟩) (Ae _))⟩,⟨⟨Am,VL.le (vl rfl) (Pr.le_trans (BR (qs:=Bk NW) ⟨Lr,Lr,Lr,Oh,trivial⟩) (Ae _))⟩,⟨⟨Am,VL.le (vl rfl) (Ae _)⟩,⟨⟨Am,VL.le (vl rfl) (Pr.le_trans (BR (qs:=Bk NW) ⟨Lr,Lr,Lr,Oh,trivial⟩) (Ae _))⟩,⟨⟨Am,VL.le (vl rfl) (Ae _)⟩,⟨⟨Am,VL.le (vl rfl) (Pr.le_trans (BR (qs:=Bk NW) ⟨Lr,Lr,Lr,Oh,trivial⟩) (Ae _))⟩,⟨⟨Am,VL.le (vl rfl) (Pr.le_trans (BR (qs:=Bk NW) ⟨Lr,Lr,Lr,Oh,trivial⟩) (Ae _))⟩,⟨⟨Am,VL.le (vl rfl) (Pr.le_trans (BR (qs:=Bk NW) ⟨Lr,Lr,Lr,Oh,trivial⟩) (Ae _))⟩,⟨⟨Am,VL.le (vl rfl) (Pr.le_trans (BR (qs:=Bk NW) ⟨Lr,Lr,Lr,Oh,trivial⟩) (Ae _))⟩,⟨⟨Am,VL.le (vl rfl) (Ae _)⟩,trivial⟩⟩⟩⟩⟩⟩⟩⟩⟩⟩⟩ AB) ?_
 refine xo rfl (fun _=>AR rfl (Vj (m:=11) (q:=NW) AA (rc2 _ AA)) ⟨(Kf rfl),trivial⟩) ?_
 refine Cx.DP 1 rfl rfl (A0 rfl rfl (vl rfl) (Va rfl) Cj rfl Ao rfl) ?_
 refine Cx.nil ⟨by kernel_rfl,?_⟩
 refine BE.done YV (Fin.go (wk [2] rfl (Tr.ret (Fin.CY rfl (AM.cell 1 rfl rfl DW Cj rfl Lr) ?_))))
 · exact Lr
theorem gb {c:IE} (hv:EF c=true) (ht:c.Za):BG prog 189 [agg (EE c)] (Dz [Ep 3285282,Gl .i64]):=by
 refine fo func189 rfl ⟨rfl,rfl⟩ fun M0 w0=> ?_
 refine a2 ?_
 refine co rfl (Cq (Tn hv) rfl rfl) ?_
 refine an ?_ ?_<;>intro h1 q1
 exact absurd h1 AB
 refine a2 ?_
 refine co rfl (Cq (XJ hv ht) rfl rfl) (co rfl (Cq (rE2) rfl rfl) ?_)
 refine ac ?_
 refine Tr.ret (Fin.Ct rfl (Bg.Dc _ _) rfl ?_ rfl ?_)
 · exact Lr
 · exact Lr
theorem dN {m:Nat} (hm:m≤100000000):BG prog 190 [dG m] (x7):=by
 refine fo func190 rfl ⟨rfl,rfl⟩ fun M0 w0=> ?_
 have hlr:(List.replicate m Tk).length=m:=List.length_replicate
 refine a3 ?_
 refine Tr.block (Tr.BH _ (kk [0] rfl) (fun k:Nat=>[(4,int ((k:Nat):Int)),(3,tL)]) (fun k:Nat=>k≤((List.replicate m Tk).length)) (fun k:Nat=>((List.replicate m Tk).length)-k) 0 (Nat.zero_le _) ⟨kq,⟨_,rfl,Ax _ (A_ AA Lr)⟩,trivial⟩ ?_)
 rintro k BU
 refine ac ?_
 refine co rfl (Ce rfl underlying241 vq) ?_
 refine an ?_ ?_<;>intro h1 q1
 have Af:k<((List.replicate m Tk).length):=AH h1
 have hkm:k<m:=by simpa using Af
 refine a2 ?_
 refine co rfl (AD rfl underlying241 NV vq vq AA (KD hkm)) (co rfl (Fw rfl AAn rfl) (co rfl (mP rfl underlying5 underlying180 vq) (co rfl (sX AB rfl (VL.le vq tM) vq) (co rfl (tN rfl vq (VL.le vq (DG _ _))) ?_))))
 refine ac ?_
 refine wk [4,3,0] rfl ?_
 refine ac ?_
 exact Fin.AL (k+1) ⟨Af,by omega⟩ ⟨⟨_,rfl,AG k⟩,kz⟩
 have BK:k=((List.replicate m Tk).length):=by have:=AJ h1;omega
 refine a2 ?_
 refine co rfl (ga rfl underlying180 underlying3 vq) ?_
 refine a2 ?_
 · exact Lr
theorem mQ {c:IE} (hn:c.names.length≤1000):BG prog 187 [agg (EE c)] (agg (EE c)):=by
 refine fo func187 rfl ⟨rfl,rfl⟩ fun M0 w0=>(Tr.seq (Tr.An ?_))
 refine TO.VB rfl rfl AB rfl Cs (fun b1=> ?_)
 refine Tl rfl rfl rfl rfl VM Od (fun b2=> ?_)
 refine ap ?_
 refine ap ?_
 refine TO.pad ?_
 refine TO.DT 0 rfl rfl AB (B7 rfl rfl rfl rfl underlying127 Mq by9 z9 F4 vq (Br BL vq)) (fun v1=> ?_)
 refine ap ?_
 refine ap ?_
 refine Tr.drop 2 (Tr.ret (Fin.CY rfl (AM.cell 1 rfl rfl Gk DN rfl Lr) ?_))
 · exact BR ⟨Lr,Lr,Lr,Lr,Lr,Lr,Lr,Lr,Lr,Lr,Lr,Lr,Pr.le_trans (Ar _ _) (Pr.le_of_eq AV),Lr,Lr,trivial⟩
abbrev RU (c:IE) (key s:Int):IE:=⟨c.J9,c.Ny,c.Ku,c.Sv,c.LZ,c.CW,c.ZV,c.RQ,c.from_,c.Nz,c.auth,c.path,c.names,key,s⟩
theorem mR {c:IE} {key:Int} (hv:EF (RU c 0 0)=true) (ht:(RU c 0 0).Za) (hk:0≤key∧key≤2147483648):BG prog 147 [agg (EE c),int key] (Cp.ex fun s:Int=>fact (0≤s∧s<4294967296) (Dz [agg (EE (RU c key s)),int 0])):=by
 refine BG.of func147 rfl rfl Ao fun M0 w0=> ?_
 have hnn:c.names.length≤1000:=by have:=(JW hv).nm;unfold HM at this;simp at this;omega
 refine Tr.seq (Tr.An ?_)
 refine TO.VB rfl rfl AB rfl (Va rfl) (fun b1=> ?_)
 refine Tl rfl rfl rfl rfl VM Od (fun b2=> ?_)
 refine tm rfl (TO.nil (Fin.go (Tr.seq (Tr.An (TO.rd 1 rfl rfl rfl AB (B0 rfl Gk DN (vl rfl) rfl rfl) ?_)))))
 refine tp rfl (AR rfl (mQ (c:=c) hnn) ⟨ke rfl,trivial⟩) ?_
 refine TO.AK 1 rfl rfl rfl (vl rfl) (Va rfl) rfl DN rfl rfl (TO.nil (Fin.go (Tr.seq (Tr.An (tp rfl (Ak (rows:=[]) rfl vX vY trivial rfl) (tp rfl (AW rfl RC (vl rfl)) (TO.DP 1 rfl rfl (A0 rfl rfl (vl rfl) (Va rfl) lI rfl Ao rfl) (TO.nil (Fin.go (Tr.seq (Tr.seq (Tr.Aj (co rfl (Cg 1 rfl (B0 rfl Gk DN (vl rfl) rfl rfl)) ?_)))))))))))))
 refine co rfl (AR rfl (Tn (c:=RU c 0 0) hv) ⟨ke rfl,trivial⟩) ?_
 refine co rfl (ki rfl rfl rfl rfl) (cm rfl ?_)
 refine Ch.cs 15 rfl ?_ ?_<;>intro h1 q1
 exact absurd h1 AB
 refine LR h1 rfl (cy h1 rfl (ki rfl rfl rfl rfl) (co rfl (LS rfl rfl h1 rfl) (cm rfl ?_)))
 refine Ch.cs 19 rfl ?_ ?_<;>intro h2 q2
 exfalso;have:=q2;omega
 refine LR h2 rfl (cy h2 rfl (ki rfl rfl rfl rfl) (co rfl (LS rfl rfl h2 rfl) (Ch.nil (Fin.go (So 1 2 4 22 rfl ?_)))))
 refine Tr.cn rfl ?_ ?_<;>intro h3 q3
 exfalso;have:=q3;omega
 refine Tr.skip (Fin.go (Tr.seq (Tr.Aj (co rfl (Cg 1 rfl (B0 rfl Gk DN (vl rfl) rfl rfl)) ?_))))
 refine co rfl (AR rfl (gb (c:=RU c 0 0) hv ht) ⟨ke rfl,trivial⟩) ?_
 refine cm rfl (co rfl (Ap rfl (vl rfl) rfl) (co rfl (Ap rfl (vl rfl) rfl) (cm rfl (cm rfl (Ch.nil (Fin.go (Tr.seq (Tr.An (tm rfl (tm rfl (tp rfl (AR rfl (BG.Ep fun m hm=>dN AA) ⟨ke rfl,trivial⟩) ?_)))))))))))
 refine TO.ex 31 rfl (fun z31=>TO.fact 31 rfl fun AFz=> ?_)
 refine tp rfl (Ak (rows:=[(0,[_]),(1,[_])]) rfl vX vY ⟨⟨rfl,(Vo rfl)⟩,⟨⟨rfl,(Vo rfl)⟩,trivial⟩⟩ rfl) (tp rfl (AW rfl RC (vl rfl)) (TO.DP 1 rfl rfl (A0 rfl rfl (vl rfl) (Va rfl) lI rfl Ao rfl) (TO.nil (Fin.go (TR 2 4 rfl (Tr.seq (Tr.An (TO.rd 1 rfl rfl rfl AB (B0 rfl Gk DN (vl rfl) rfl rfl) (TO.AK 0 rfl rfl rfl (vl rfl) (Va rfl) rfl DN rfl rfl (tm rfl (TO.nil (Fin.go (Tr.drop 1 (Tr.ret ?_))))))))))))))
 refine Fin.BT rfl (AM.cell 0 rfl rfl Gk DN rfl (Lr)) (AM.tmp rfl (Lr)) ?_
 · exact Ax z31 (A_ AFz (Lr))
abbrev Lb (name:List UInt8) (a b id to key s:Int):IE:=⟨id,[114,111,111,116],name,a,b,id,3,0,0,to,false,0,[name],key,s⟩
abbrev Hv (name:List UInt8) (a b id to key s:Int):Jb:=⟨a,b,id,[Lb name a b id to key s]⟩
abbrev v_ (name:List UInt8) (a b id to key:Int):Pr:=Cp.ex fun s:Int=>fact (0≤s∧s<4294967296) (agg (HN (Hv name a b id to key s)))
theorem wA   :BG prog 89 [] (agg [int 5,int 2048]):=by
 refine fo func89 rfl ⟨rfl,rfl⟩ fun M0 w0=>(Tr.seq (Tr.An ?_))
 refine Tl rfl rfl rfl rfl Ks EX (fun b1=> ?_)
 refine ap ?_
 refine ap ?_
 refine Tr.ret (Fin.CY rfl (AM.cell 0 rfl rfl JX LC rfl Lr) ?_)
 · exact Lr
theorem AF0   :BG prog 93 [] (agg [int 7,int 256]):=by
 refine fo func93 rfl ⟨rfl,rfl⟩ fun M0 w0=>(Tr.seq (Tr.An ?_))
 refine Tl rfl rfl rfl rfl Ks EX (fun b1=> ?_)
 refine ap ?_
 refine ap ?_
 refine Tr.ret (Fin.CY rfl (AM.cell 0 rfl rfl JX LC rfl Lr) ?_)
 · exact Lr
theorem Zb {name:List UInt8} {a b id to key:Int} (hv:EF (Lb name a b id to 0 0)=true) (ht:(Lb name a b id to 0 0).Za) (hk:0≤key∧key≤2147483648):BG prog 88 [str name,agg [int a,int b],int id,int key,int to] (v_ name a b id to key):=by
 refine fo func88 rfl ⟨rfl,rfl⟩ fun M0 w0=>(Tr.seq (Tr.An (tp rfl (Bb rfl Cs) ?_)))
 refine Tl rfl rfl rfl rfl YU Wt (fun b1=> ?_)
 refine ap ?_
 refine ap ?_
 refine tp rfl (Ak (rows:=[(0,[_]),(1,[_]),(2,[_]),(3,_),(4,[_]),(5,_),(7,[_]),(10,[_])]) rfl ABE Od ⟨⟨rfl,My⟩,⟨⟨rfl,My⟩,⟨⟨rfl,My⟩,⟨⟨rfl,Cs⟩,⟨⟨rfl,My⟩,⟨⟨rfl,Cs⟩,⟨⟨rfl,My⟩,⟨⟨rfl,⟨_,rfl,Pr.le_trans (Bx _ _) (AY _)⟩⟩,trivial⟩⟩⟩⟩⟩⟩⟩⟩ rfl) (TO.re 20 (agg (EE (Lb name a b id to 0 0))) rfl (Pr.le_of_eq rfl) ?_)
 refine Tl rfl rfl rfl rfl VM Od (fun b2=> ?_)
 refine ap ?_
 refine wk [11,10,6,3,2] rfl ?_
 refine ap ?_
 refine tp rfl (CL (mR (c:=Lb name a b id to 0 0) hv ht hk) rfl rfl rfl) ?_
 refine TO.ex 24 rfl (fun z24=>TO.fact 24 rfl fun AF1=> ?_)
 refine ap ?_
 refine ap ?_
 refine tp rfl (Ak (rows:=[(0,_),(1,[_]),(2,[_])]) rfl AAy Wt ⟨⟨rfl,Cs⟩,⟨⟨rfl,My⟩,⟨⟨rfl,⟨_,rfl,Pr.le_trans (Bx _ _) (AY _)⟩⟩,trivial⟩⟩⟩ rfl) ?_
 refine ap ?_
 refine Tr.drop 0 (wk [10] rfl (Tr.ret (Fin.CY rfl (AM.cell 0 rfl rfl Tc Ey rfl Lr) ?_)))
 · exact Ax z24 (A_ AF1 Lr)
def KF (s:DS) (l:List (List UInt8)):List UInt8:=(l[(s.val l.length).toNat]?).getD []
theorem XK {b:Nat} {s:DS} {l:List (List UInt8)} (hl:l≠[]) (hl2:l.length≤1000000000):Bj prog 91 [ptr b 0,gH l] (str (KF s l)) (Dh b s) (fun _=>Dh b s.Cd):=by
 refine Bj.of func91 rfl rfl Ao fun M0 w0 S rs M1 w1=> ?_
 have hl0:1≤(l.length:Int):=by have:=List.length_pos_iff.2 hl;omega
 have hv:=s.C7 hl0
 obtain ⟨x,hx⟩:=at_ (l:=l) (k:=(s.val l.length).toNat) AA
 refine ac ?_
 refine ap ?_
 refine TO.IP 0 rfl rfl AB (Aq rfl rfl AB rfl (CV AA AA) ⟨kq,kz⟩) (tp rfl (AD rfl underlying127 Mq vq vq AA (Bh hx)) ?_)
 refine ap ?_
 refine Tr.ret (Fin.Gb [] rfl (AM.tmp rfl Lr) ?_ (fun _ _ _ _=>rfl))
 · refine Pr.le_of_eq ?_;unfold KF;rw [hx];rfl
def Fp:List (List UInt8):=[[97,112,112],[100,98],[119,101,98]]
def O7:List (List Int):=[[10,8,2],[8,2],[2,10,8,3]]
def L9 (i:Int):List Int:=(O7[i.toNat]?).getD []
theorem tO {i:Int} (h:0≤i∧i<3):(O7.map fun l=>[ints l])[i.toNat]? =some [ints (L9 i)]:=by
 have hl:i.toNat<O7.length:=by show i.toNat<3;omega
 unfold L9
 rw [List.getElem?_map,List.getElem?_eq_getElem hl];rfl
theorem XL {i:Int} (h:0≤i∧i<3):L9 i∈O7:=by
 have hl:i.toNat<O7.length:=by show i.toNat<3;omega
 unfold L9
 rw [List.getElem?_eq_getElem hl];exact List.getElem_mem hl
structure Zc (i:Nat) (e:CA):Prop where
 name:Fp[i]? =some e.name
 least:e.least=1
 most:e.most=3∨e.most=4
 A8:e.A8∈O7∨∃l∈O7,e.A8=14::l
 ids:∃s:Int,(0≤s∧s<4294967296)∧e.ids=[Hv e.name 5 2048 (100+(i:Nat)) 901 1 s]
 anchors:e.anchors=[1]
 hashes:e.hashes=[2,3]
def mS (es:List CA):Prop:=∀(i:Nat) e,es[i]? =some e→Zc i e
theorem XM {es:List CA} {e:CA} (h:mS es) (he:Zc es.length e):mS (es++[e]):=by
 intro i x hx
 rcases Nat.lt_or_ge i es.length with hi|hi
 · rw [List.getElem?_append_left hi] at hx;exact h i x hx
 ·
  rcases Nat.eq_or_lt_of_le hi with hi|hi
  · subst hi;rw [List.getElem?_append_right (Nat.le_refl _),Nat.sub_self] at hx;simp at hx;subst hx;exact he
  · rw [List.getElem?_eq_none B8] at hx;cases hx
theorem Vl {nm:List UInt8} {k:Nat} (h:Fp[k]? =some nm) {s:Int} (hs:0≤s∧s<4294967296) {key:Int} (hk:0≤key∧key≤2):EF (Lb nm 5 2048 (100+(k:Nat)) 901 key s)=true:=by
 have hlt:k<3:=BM h
 have hn:named nm=true:=by
  have hm:=List.mem_of_getElem? h
  revert hm;unfold Fp;intro hm;simp at hm
  rcases hm with rfl|rfl|rfl<;>decide
 refine dK ⟨?_,?_,by show named [114,111,111,116]=true;decide,hn,?_,by show LQ 5 2048 2=true;decide+kernel,?_,?_,by show LQ 3 0 1=true;decide+kernel,hk.1,?_,hs.1,hs.2,by show (0:Int)≤0;omega,by show (0:Int)≤901;omega,by show (901:Int)≤40000;omega,by show (0:Int)≤0;omega,by show (0:Int)≤8;omega,.inr rfl⟩
 · show 0≤(100:Int)+(k:Nat);omega
 · show (100:Int)+(k:Nat)≤_;omega
 ·
  show HM [nm]=true
  unfold HM;rw [Bool.and_eq_true];refine ⟨B_.2 fun j hj=> ?_,by simp⟩
  have:j=0:=by simp at hj;omega
  subst this;unfold nameAt;simp [hn]
 · show 0≤(100:Int)+(k:Nat);omega
 · show (100:Int)+(k:Nat)≤_;omega
 · show key≤_;omega
theorem To {nm:List UInt8} {k:Nat} (h:k<3):(Lb nm 5 2048 (100+(k:Nat)) 901 0 0).Za:=
 ⟨by show (100:Int)+(k:Nat)≤1099511627776;omega,by show (100:Int)+(k:Nat)≤2147483648;omega,⟨by show (0:Int)≤5;omega,by show (5:Int)≤40000;omega⟩,⟨by show (0:Int)≤2048;omega,by show (2048:Int)≤40000;omega⟩,⟨by show (0:Int)≤3;omega,by show (3:Int)≤40000;omega⟩,⟨by show (0:Int)≤0;omega,by show (0:Int)≤40000;omega⟩⟩
theorem mT {β:Type} {l:List β} {n k:Nat} {x:β} (h:(l.take n)[k]? =some x):l[k]? =some x:=by
 have hlt:=BM h
 rw [List.length_take] at hlt
 rw [List.getElem?_take,if_pos AA] at h;exact h
theorem mU (i:Int):(L9 i).length≤4:=by
 unfold L9
 cases h:O7[i.toNat]? with
 |none=>show 0≤4;omega
 |some l=>
  have hm:=List.mem_of_getElem? h
  show l.length≤4
  unfold O7 at hm;simp at hm
  rcases hm with rfl|rfl|rfl<;>simp
theorem x8 (s:DS):s.of [3,3,4]=3∨s.of [3,3,4]=4:=by have:=s.Q4 (l:=[3,3,4]) AV;simp at this;exact this
abbrev ACZ:List (List Int):=O7++O7.map (14:: ·)
theorem KG {i:Nat} {e:CA} (h:Zc i e):e.A8∈ACZ:=by
 rcases h.A8 with h|⟨l,h,h2⟩
 · exact List.mem_append_left _ h
 · rw [h2];exact List.mem_append_right _ (List.mem_map_of_mem h)
theorem Vm:∀l∈ACZ,Kw l=true∧l.length≤5:=by decide+kernel
theorem Vn:∀n∈Fp,Ql n=true∧n.length≤3:=by decide+kernel
theorem tP:[2,3].all RR=true:=by decide+kernel
theorem tQ:LQ 5 2048 2=true:=by decide+kernel
theorem mV {nm:List UInt8} {k:Nat} {id:Int} (h:Fp[k]? =some nm) (hid:id=100+(k:Nat)) {s:Int} (hs:0≤s∧s<4294967296):idB (Hv nm 5 2048 id 901 1 s)=true:=by
 subst hid
 have hk:k<3:=BM h
 have hv:=Vl h hs (key:=1) AA
 have hk2:IG (100+(k:Nat))=true:=by unfold IG;simp;omega
 unfold idB Vc;simp only [tQ,hk2,List.all_cons,List.all_nil,hv];simp
theorem tR {i:Nat} {e:CA} (h:Zc i e):dF e:=by
 have hn:=Vn _ (List.mem_of_getElem? h.name)
 have hs:=Vm _ (KG h)
 obtain ⟨s,hs1,VZ⟩:=h.ids
 have hm:=h.most;have hl:=h.least
 refine ⟨hn.1,by omega,by omega,by omega,hs.1,by rw [VZ];simp,by rw [h.anchors];simp,by rw [h.anchors];decide,by rw [h.hashes];decide,?_,by rw [h.anchors];decide,by rw [h.hashes];exact tP⟩
 rw [VZ];simp only [List.all_cons,List.all_nil,mV h.name rfl hs1,Bool.and_self]
theorem Tp {i:Nat} {e:CA} (h:Zc i e):e.fits:=by
 have hn:=Vn _ (List.mem_of_getElem? h.name)
 obtain ⟨s,hs1,VZ⟩:=h.ids
 refine ⟨by unfold maxLen;omega,fun x hx c hc=> ?_⟩
 rw [VZ] at hx;simp at hx;subst hx;simp at hc;subst hc
 exact ⟨by show 4≤maxLen;unfold maxLen;omega,by show e.name.length≤maxLen;unfold maxLen;omega,fun n hn2=>by simp at hn2;subst hn2;unfold maxLen;omega⟩
theorem RV {i:Nat} {e:CA} (h:Zc i e):e.small:=by
 have hs:=Vm _ (KG h)
 obtain ⟨s,hs1,VZ⟩:=h.ids
 refine ⟨by omega,by rw [h.anchors];simp,by rw [h.hashes];simp,by rw [VZ];simp,fun x hx=> ?_⟩
 rw [VZ] at hx;simp at hx;subst hx
 exact ⟨by simp,fun c hc=>by simp at hc;subst hc;simp⟩
theorem mW:B1.fits:=fun c hc=>by cases hc
theorem ACa {nm:List UInt8} (h:nm∈Fp) {a b id key s:Int} (hab:(a=5∧b=2048)∨(a=7∧b=256)) (hid:0≤id∧id≤1000) (hs:0≤s∧s<4294967296) (hk:0≤key∧key≤2):EF (Lb nm a b id 901 key s)=true:=by
 have hn:named nm=true:=by
  revert h;unfold Fp;intro hm;simp at hm
  rcases hm with rfl|rfl|rfl<;>decide
 have hof:LQ a b 2=true:=by rcases hab with ⟨rfl,rfl⟩|⟨rfl,rfl⟩<;>decide+kernel
 refine dK ⟨?_,?_,by show named [114,111,111,116]=true;decide,hn,?_,hof,?_,?_,by show LQ 3 0 1=true;decide+kernel,hk.1,?_,hs.1,hs.2,by show (0:Int)≤0;omega,by show (0:Int)≤901;omega,by show (901:Int)≤40000;omega,by show (0:Int)≤0;omega,by show (0:Int)≤8;omega,.inr rfl⟩
 · show 0≤id;omega
 · show id≤_;omega
 ·
  show HM [nm]=true
  unfold HM;rw [Bool.and_eq_true];refine ⟨B_.2 fun j hj=> ?_,by simp⟩
  have:j=0:=by simp at hj;omega
  subst this;unfold nameAt;simp [hn]
 · show 0≤id;omega
 · show id≤_;omega
 · show key≤_;omega
theorem ACb {nm:List UInt8} {a b id:Int} (hab:(a=5∧b=2048)∨(a=7∧b=256)) (hid:0≤id∧id≤1000):(Lb nm a b id 901 0 0).Za:=
 ⟨by show id≤1099511627776;omega,by show id≤2147483648;omega,⟨by show (0:Int)≤a;omega,by show a≤40000;omega⟩,⟨by show (0:Int)≤b;omega,by show b≤40000;omega⟩,⟨by show (0:Int)≤3;omega,by show (3:Int)≤40000;omega⟩,⟨by show (0:Int)≤0;omega,by show (0:Int)≤40000;omega⟩⟩
structure AF2 (es:List CA) (c:BX):Prop where
 lo:0≤c.Aa
 hi:c.Aa<(es.length:Nat)
 kind:1≤c.kind∧c.kind≤12
 fits:c.Cy.fits
 small:c.Cy.small
abbrev yA (nm:List UInt8) (a b id to key:Int):Pr:=Cp.ex fun s:Int=>fact (0≤s∧s<4294967296) (La [Lb nm a b id to key s])
theorem ACc {nm:List UInt8} (h:nm∈Fp) {a b id key s:Int}:(Hv nm a b id 901 key s).fits∧(Hv nm a b id 901 key s).small:=by
 have hn:=(Vn _ h).2
 refine ⟨fun c hc=> ?_,⟨by simp,fun c hc=>by simp at hc;subst hc;simp⟩⟩
 simp at hc;subst hc
 exact ⟨by show 4≤maxLen;unfold maxLen;omega,by show nm.length≤maxLen;unfold maxLen;omega,fun n hn2=>by simp at hn2;subst hn2;unfold maxLen;omega⟩
end Go.Proofs.YtmocaapoeefgkaaGreatDoor
