/-
  Part 3 of the texts that prove this claim, merged.
-/
import Derived.Lib.Bytealg
import Derived.Test.YtoodkpodinniaaaGreatDoorRows
import Derived.RangeFuncFrom
import Derived.RangeFuncLeaves
import Derived.OrdersIn
import Derived.Test.YtoodkpodinniaaaGreatDoorPrXP2
set_option linter.all false
set_option maxRecDepth 40000
set_option maxHeartbeats 16000000
namespace Cp
open Go Go.RowKit Go.Great
variable {a:Act} {parts:Array (Nat×Operand)} {ops:Array Oper} {xs:Array Operand} {ts:Array TypeId} {M:Av} {new:Bool} {f:FuncId} {rows:List (List Pr)} {r:List Oper} {ps qs:List Pr} {rs:List A7} {zs:List Value} {b cap d i id j k m n ob wb:Nat} {o:Oper} {x:Operand} {p p3 q:Pr} {T t:TypeId} {v:Value} {w w0:World}
section
variable {P:Program} {L:Lg P} {E:Env} {I:CU} {o:Oper}
theorem T2 {fn : Func} {y : Operand} {a : List UInt8} {c : UInt8} (ho : o.op = .call { callee := .value (.func f), args := #[x, y], argTypes := ts }) (hf : P.funcs[f]? = some fn) (hname : (fn.name == "runtime.NumGoroutine") = false) (hb : fn.body.isNone = true) (hn : Extern.findNext fn = none) (hex : Extern.find fn = some Extern.BytealgIndexByte.indexByte) (hx : VL E x (str a)) (hy : VL E y (is (.int .u8 ((c.toNat : Nat) : Int)))) : Ab P I o E (int (Lib.indexByte a c)) :=
 Ab.same fun M w ac he _=>by
  have h1:ac.eval x=_:=hx.ev he B2
  have h2:ac.eval y=_:=hy.ev he B2
  have h3:ac.eval (.func f)= .func (.func f) #[] #[]:=rfl
  refine ⟨_,?_,rfl⟩
  have hrun:(execOp ac.eval o).run P w=(callFunc f #[ac.eval x,ac.eval y]).run P w:=by simp [execOp,ho,resolve,Deferred.ofValue,invoke,h3]
  rw [hrun,h1,h2,run_callFunc_extern hf hname hb hn hex,Lib.run_indexByteString]
  simp
theorem Yr {cx:Operand} {caps:List Pr} {res:Pr} (ho:o.op= .call { callee:= .value cx,args:=xs,argTypes:=ts }) (hc:VL E cx (fn (.func f) caps)) (hf:Ay P f (ps++caps) res) (hv:Fa E xs.toList ps):Ab P I o E res:=by
 intro M w a he hI
 have h1:=Fa.ET (o:=o) he (xs:=xs.toList) (fun x hx=>by simp [ho,Op.operands,Call.operands];exact .inr F1) hv
 obtain ⟨cs,h2,h3⟩:=hc.ev he B2
 have hrun:(execOp a.eval o).run P w= .ok (.enter f ((xs.toList.map a.eval).toArray++cs.toArray)) w:=by
  simp [execOp,ho,resolve,Deferred.ofValue,h2,invoke,C8 hf.1,Fc xs]
 rw [hrun]
 have h4:=hf.2 M w _ (I.bd _ _ hI) (h1.app h3)
 exact ⟨Below.refl _ _,by simpa using h4⟩
section
variable {n:Fm} {fz:Nat} {M0:Av} {w0:World} {S:Nat→Prop}
theorem WS {e:TypeId} {sz:Nat} {xs:List Operand} (hg:o.guard=none) (hd:o.dst=some d) (hn:d<n) (ho:o.op= .buildSlice t xs.length parts) (hp:parts.toList=(xs.zipIdx 0).map fun x=>(x.2,x.1)) (ht:P.underlying t=some (.slice e)) (hz:Al P e=some sz) (DD:BS P e=some zs) (hzl:zs.length=sz) (hsz:0<sz) (hx:Of E sz xs rows) (hsmall:xs.length*sz≤16777216) (xM:0<xs.length):D6 P M0 w0 S n j (SR.c BW) ⟨d,C3 e sz rows⟩ o E (lens rows.length):=by
 refine ⟨hg,fun M w a rs NO he hI hj=> ?_⟩
 have iS:∀x∈xs,x∈o.op.operands.toList:=by
  intro x hx
  simp only [ho,Op.operands,List.mem_map]
  obtain ⟨i,hi,rfl⟩:=List.mem_iff_getElem.1 hx
  exact ⟨(i,xs[i]),by rw [hp];exact List.mem_map.2 ⟨(xs[i],i),by rw [List.mem_zipIdx_iff_getElem?];simp [hi],rfl⟩,rfl⟩
 obtain ⟨h1,h2,h3⟩:=hx.ev he iS
 unfold Al at hz
 unfold BS at DD
 cases hi:P.info? e with
 |none=>rw [hi] at hz;cases hz
 |some i=>
  rw [hi] at hz DD
  simp only [Option.map_some,Option.some.injEq,Option.map_eq_some_iff] at hz DD
  obtain ⟨z,Re,DD⟩:=DD
  have Od:z.cells.size=sz:=by rw [←hzl,←DD];simp
  have hparts:(parts.map fun (i,x)=>(i,a.eval x)).toList=((xs.map a.eval).zipIdx 0).map fun x=>(x.2,x.1):=by
   rw [Array.toList_map,hp,List.map_map,List.zipIdx_map,List.map_map]
   rfl
  have YG := fill_whole (s := i.size) (by rw [hz]; exact hsz) (xs.map a.eval) ((Array.range (xs.length * i.size)).map (z.cells[· % z.cells.size]!)) (fun v hv => by
   obtain ⟨x,hx,rfl⟩:=List.mem_map.1 hv
   rw [hz];exact h2 x hx) Aa
  have hpos:¬xs.length*i.size=0:=by rw [hz];exact Nat.ne_of_gt (Nat.mul_pos AA hsz)
  have hrun:=run_buildSlice (P:=P) w t e xs.length (parts.map fun (i,x)=>(i,a.eval x)) _ i z ht hi Re (by rw [hz];omega) hpos (by rw [hparts];exact YG)
  have C9:(execOp a.eval o).run P w= .ok (.value (.slice (some ⟨w.heap.size,0,none⟩) xs.length xs.length)) (w.alloc (.cells ((xs.map a.eval).flatMap fun v=>v.cells.toList).toArray e)):=by simp [execOp,ho,hrun]
  rw [C9]
  generalize hcs:(xs.map a.eval).flatMap (fun v=>v.cells.toList)=cs at h3 ⊢
  have hb:Below w.heap.size w (w.alloc (.cells cs.toArray e)):=(Below.refl _ _).alloc (Nat.le_refl _) _
  have hlen:rows.length≤maxLen:=by
   have:xs.length*1≤xs.length*sz:=Nat.mul_le_mul_left _ hsz
   unfold maxLen;omega
  have h4:=Ext.below (M:=M) hb
  have EF:Ext M w (fun b o=>M b o∨b=w.heap.size) (w.alloc (.cells cs.toArray e)):=by
   refine ⟨h4.size,fun a v hc hm=>⟨fun hx=> ?_,(h4.keep a v hc hm).2⟩,fun b o ho hp hm=>⟨fun hx=> ?_,(h4.obj b o ho hp hm).2⟩⟩
   ·
    rcases hx with hx|hx
    · exact hm hx
    · exact ES
   ·
    rcases hx with hx|hx
    · exact hm hx
    · subst hx;simp at ho
  have hs1:(w.alloc (.cells cs.toArray e)).heap.size=w.heap.size+1:=by simp
  have hat:(SR.at_ (a.put o.dst (.slice (some ⟨w.heap.size,0,none⟩) xs.length xs.length)) ⟨d,C3 e sz rows⟩)=C3 e sz rows (.slice (some ⟨w.heap.size,0,none⟩) xs.length xs.length):=by unfold SR.at_ Slot.val;dsimp only;rw [hd,B_ I7]
  refine ⟨fun b o=>M b o∨b=w.heap.size,⟨_,_,by rw [h1]⟩,EF,?_⟩
  rw [hat]
  refine hI.replace hj EF hb.os hb.tape hb.output (fun k hk _=>hb.block k hk) rfl (fun b o hm _=> .inl hm) (fun b o hx=> ?_) ?_ rfl (fun b hbk=> ?_)
  ·
   rcases hx with hx|hx
   · have:=hI.bd _ _ hx;omega
   · omega
  ·
   refine ⟨w.heap.size,rows.length,[],by rw [h1],Nat.le_refl _,hlen,by simp,fun o=> .inr rfl,cs,heap_alloc_new w _,?_,h3.2.1⟩
   simpa using (h3.st EF).hl hsz
  ·
   have EE:some w.heap.size=some b:=hbk
   injection EE with e1
   subst e1
   exact ⟨by rw [hs1];omega,.inr (Nat.le_refl _)⟩
end
theorem dL (p:Pr) [One p]:Pr.le p (DR [any]):=fun M w v h=>by
 obtain ⟨h1,h2⟩:=AP p M w v h
 refine ⟨?_,h2⟩
 match v.cells.toList,h1 with
 |[_],_=>exact ⟨trivial,trivial⟩
theorem dM {off:Nat} (h:ps[off]? =some any):ps.take off++[any]++ps.drop (off+1)=ps:=by
 have hl:=Ar h
 rw [List.getElem?_eq_getElem hl] at h
 simp only [Option.some.injEq] at h
 conv=>rhs;rw [←List.take_append_drop off ps,List.drop_eq_getElem_cons hl,h]
 simp
end
def allI (p:Nat→Bool) (n:Nat):Bool:=(List.range n).all p
theorem Br {p:Nat→Bool}:allI p n=true↔∀j,j<n→p j=true:=by unfold allI;simp
theorem Il {p:Nat→Bool} (h:∀j,j<n→p j=true):allI p n=true:=Br.2 h
theorem Dz {p:Nat→Bool} (hk:k<n) (h:p k=false):allI p n=false:=by
 rw [Bool.eq_false_iff];intro h';rw [Br.1 h' k hk] at h;cases h
theorem Bo {p:Nat→Bool} (h:∀j,j<k→p j=true) (hk:p k=true):∀j,j<k+1→p j=true:=by
 intro j hj
 by_cases e:j=k
 · subst e;exact hk
 · exact h j AA
section
variable {P:Program} {L:Lg P} {n:Fm} {fz:Nat} {I:CU}
def gq (P:Program) (I':CU) (M:Av) (w:World) (p:Pr):Result Next→Prop
 | .ok (.value v) w'=>∃M',p.h M' w' v∧Ext M w M' w'∧I'.h M' w'
 | .ok .skip w'=>∃M',p.h M' w' undef∧Ext M w M' w'∧I'.h M' w'
 | .ok (.enter f args) w'=>Calls P f args w' fun e w''=>∃v M',e= .returned v∧p.h M' w'' v∧Ext M w M' w''∧I'.h M' w''
 |_=>False
def La (P:Program) (n:Fm) (I I':CU) (o:Oper) (E:Env) (p:Pr):Prop:=o.guard=none∧∀M w (a:Act),a.tmps.size=n.sz→Cq M w E o a→I.h M w→gq P I' M w p ((execOp a.eval o).run P w)
theorem WU {K:Act→World→Prop} {Q:Exit→Act→World→Prop} {I':CU} (h:gq P I' M w p ((execOp a.eval o).run P w)) (k:∀v w' M',p.h M' w' v→Ext M w M' w'→I'.h M' w'→K (a.put o.dst v) w'):o.wp P a w K Q:=by
 unfold Oper.wp
 generalize (execOp a.eval o).run P w=r at h
 cases r with
 |halt x w'=>exact h.elim
 |ok x w'=>
  cases x<;>first|exact h.elim|skip
  case value v=>obtain ⟨M',h1,h2,h3⟩:=h;exact k _ _ _ h1 h2 h3
  case skip=>obtain ⟨M',h1,h2,h3⟩:=h;exact k _ _ _ h1 h2 h3
  case enter f args=>
   refine h.mono ?_
   rintro e w'' ⟨v,M',rfl,h1,h2,h3⟩
   exact k _ _ _ h1 h2 h3
def AM (P:Program) (n:Fm) (I:CU) (ops:Array Oper):Nat→List Oper→Env→(CU→Env→Prop)→Prop
 |_,[],_,_=>False
 |0,o::r,E,K=>∃p I',La P n I I' o E p∧(∀d,o.dst=some d→d<n)∧Ch P n I' ops r (upd o p E) (K I')
 |c+1,o::r,E,K=>∃p,XZ P I ops o E p∧(∀d,o.dst=some d→d<n)∧AM P n I ops c r (upd o p E) K
theorem AM.op {E:Env} {K:CU→Env→Prop} {c:Nat} (hg:o.guard=none) (hd:o.dst=some d) (hn:d<n) (h:Ab P I o E p) (k:AM P n I ops c r ((d,p)::E) K):AM P n I ops (c+1) (o::r) E K:=
 ⟨p,by unfold XZ;rw [hg];exact h,fun d' hd'=>by rw [hd] at hd';cases hd';exact hn,by unfold upd;rw [hd];exact k⟩
theorem AM.turn {E:Env} {K:CU→Env→Prop} (I':CU) (hd:o.dst=some d) (hn:d<n) (h:La P n I I' o E p) (k:Ch P n I' ops r ((d,p)::E) (K I')):AM P n I ops 0 (o::r) E K:=
 ⟨p,I',h,fun d' hd'=>by rw [hd] at hd';cases hd';exact hn,by unfold upd;rw [hd];exact k⟩
def Qv (l:List Oper) (c:Nat):Bool:=
 let b:=QW l
 Jk l&&decide (c<l.length)&&(List.range l.length).all fun i=>i==c||(decide (i<c)&&(b.getD c 0).testBit i)||(decide (c<i)&&(b.getD i 0).testBit c)
theorem Qw {l:List Oper} {c:Nat} (h:Qv l c=true):Jk l=true∧c<l.length∧(∀i,i<c→((QW l).getD c 0).testBit i=true)∧∀i,c<i→i<l.length→((QW l).getD i 0).testBit c=true:=by grind [Qv]
theorem SE:∀(L:List (Oper×Pr)) (m:Nat) (E:Env) (b:Nat),b≤m→cur (fun i=>decide (i<b)) m L E=E:=by
 intro L
 induction L with
 |nil=>intros;rfl
 |cons x L ih=>intro m E b hm;obtain ⟨o,p⟩:=x;unfold cur;rw [if_neg CK];exact ih _ _ _ AA
theorem SF {ops:Array Oper} {K:CU→Env→Prop}:∀(c:Nat) (l:List Oper) (k:Nat) (E:Env),AM P n I ops c l E K→∃(L:List (Oper×Pr)) (I':CU),L.map (·.1)=l∧
  (∀j o p,L[j]? =some (o,p)→(j≠c→XZ P (if j<c then I else I') ops o (cur (fun i=>decide (i<k+j)) k L E) p)∧(j=c→La P n I I' o (cur (fun i=>decide (i<k+j)) k L E) p)∧∀d,o.dst=some d→d<n)∧K I' (cur (fun _=>true) k L E)
 |_,[],_,_,h=>by unfold AM at h;exact h.elim
 |0,o::l,k,E,h=>by
  obtain ⟨p,I',hg,hd,hr⟩:=h
  obtain ⟨L,h1,h2,h3⟩:=QU l (k+1) _ hr
  refine ⟨(o,p)::L,I',by simp [h1],fun j o' p' hj=> ?_,by unfold cur;simpa using h3⟩
  cases j with
  |zero=>
   simp only [List.getElem?_cons_zero,Option.some.injEq,Prod.mk.injEq] at hj
   obtain ⟨rfl,rfl⟩:=hj
   have e0:decide (k<k+0)=false:=by simp
   refine ⟨fun h=>absurd rfl h,fun _=> ?_,hd⟩
   unfold cur
   simp only [e0,Bool.false_eq_true,↓reduceIte]
   rw [SE L (k+1) E (k+0) AA]
   exact hg
  |succ j=>
   have:=h2 j o' p' Ez
   have e1:decide (k<k+1+j)=true:=by simp;omega
   rw [show k+(j+1)=k+1+j by omega]
   unfold cur
   simp only [e1,↓reduceIte]
   exact ⟨fun _=>by rw [if_neg (by omega:¬j+1<0)];exact this.1,fun h=>absurd h AA,this.2⟩
 |c+1,o::l,k,E,h=>by
  obtain ⟨p,hg,hd,hr⟩:=h
  obtain ⟨L,I',h1,h2,h3⟩:=SF c l (k+1) _ hr
  refine ⟨(o,p)::L,I',by simp [h1],fun j o' p' hj=> ?_,by unfold cur;simpa using h3⟩
  cases j with
  |zero=>
   simp only [List.getElem?_cons_zero,Option.some.injEq,Prod.mk.injEq] at hj
   obtain ⟨rfl,rfl⟩:=hj
   have e0:decide (k<k+0)=false:=by simp
   refine ⟨fun _=> ?_,fun h=>absurd h AA,hd⟩
   unfold cur
   rw [if_pos (by omega:0<c+1)]
   simp only [e0,Bool.false_eq_true,↓reduceIte]
   rw [SE L (k+1) E (k+0) AA]
   exact hg
  |succ j=>
   have:=h2 j o' p' Ez
   have e1:decide (k<k+1+j)=true:=by simp;omega
   rw [show k+(j+1)=k+1+j by omega]
   unfold cur
   simp only [e1,↓reduceIte]
   refine ⟨fun hne=> ?_,fun he=>this.2.1 AA,this.2.2⟩
   have h4:=this.1 AA
   by_cases hlt:j<c
   · rw [if_pos (by omega:j+1<c+1)];rwa [if_pos hlt] at h4
   · rw [if_neg (by omega:¬j+1<c+1)];rwa [if_neg hlt] at h4
structure DJ1 (n:Fm) (I I':CU) (c:Nat) (L:List (Oper×Pr)) (E:Env) (listed:Array Bool) (a:Act) (w:World):Prop where
 size:listed.size=L.length
 down:∀(i k:Nat) o p,L[i]? =some (o,p)→listed.getD i false=true→MH o k=true→listed.getD k false=true
 st:∃M,a.tmps.size=n.sz∧a.defers=n.df∧FC M w (cur (fun i=>listed.getD i false) 0 L E) a∧(if listed.getD c false then I' else I).h M w
theorem Tr.DI {Lo : Lg P} (hm : P.follows .mixedOrders = true) (c : Nat) {l : List Oper} {E : Env} {Q : Exit → Act → World → Prop} (hB0 : Qv l c = true) (h : AM P n I l.toArray c l E (fun I' E' => ∀ a w, St n E' I' a w → Q .normal a w)) (hc : calm l = true := by with_unfolding_all rfl) : Tr Lo n E I (.region id l.toArray true) Q := by
 intro a w hs
 obtain ⟨L,I',h1,h2,h3⟩:=SF c l 0 E h
 obtain ⟨hB,bX,hA,hBc⟩:=Qw hB0
 have hlen:L.length=l.length:=by rw [←h1];simp
 have hL:∀(i:Nat) o,l.toArray[i]? =some o→∃p,L[i]? =some (o,p):=by
  intro i o ho
  have:l[i]? =some o:=by simpa using ho
  rw [←h1,List.getElem?_map] at this
  cases hx:L[i]? with
  |none=>rw [hx] at this;simp at this
  |some x=>rw [hx] at this;simp at this;exact ⟨x.2,by rw [←this]⟩
 have hL':∀(i:Nat) o p,L[i]? =some (o,p)→l[i]? =some o:=by
  intro i o p hi
  rw [←h1,List.getElem?_map,hi];rfl
 -- what the check says
 have S7:∀(i:Nat) o,l[i]? =some o→(∀e∈o.after,Region.binds .any e=true→e.on<i)∧
   ∀(k:Nat) q s,l[k]? =some q→k≠i→q.dst=some s→o.dst≠some s∧(s∈seen l.toArray o→(k<i∧MH o k=true)∨(i<k∧MH q i=true)):=by
  intro i o ho
  unfold Jk at hB
  rw [List.all_eq_true] at hB
  have hb:=hB (o,i) (by rw [List.mem_zipIdx_iff_getElem?];exact ho)
  simp only [Bool.and_eq_true] at hb
  refine ⟨fun e he hbd=> ?_,fun k q s hk hne hd=> ?_⟩
  ·
   have:=Array.all_eq_true_iff_forall_mem.1 hb.1 e he
   rw [hbd] at this;simpa using this
  ·
   have:=List.all_eq_true.1 hb.2 (q,k) (by rw [List.mem_zipIdx_iff_getElem?];exact hk)
   simp only [hd,Bool.or_eq_true,Bool.and_eq_true] at this
   rcases this with h|h
   · exact absurd FF hne
   ·
    refine ⟨by simpa using h.1,fun hs=> ?_⟩
    rcases h.2 with (h'|h')|h'
    ·
     have hc:(seen l.toArray o).contains s=true:=by simpa using hs
     rw [hc] at h';cases h'
    · exact .inl ⟨by simpa using h'.1,h'.2⟩
    · exact .inr ⟨by simpa using h'.1,h'.2⟩
 refine Lo.draw hc hm ?_
 -- the induction
 have key:∀(fuel:Nat) (listed:Array Bool) (a:Act) (w:World),listed.toList.count false≤fuel→DJ1 n I I' c L E listed a w→HP P .any l.toArray Q fuel listed a w:=by
  intro fuel
  -- all are listed where nothing is ready
  have fin:∀(listed:Array Bool) (a:Act) (w:World),DJ1 n I I' c L E listed a w→(∀i,i<L.length→listed.getD i false=true)→Q .normal a w:=by
   intro listed a w hJ hall
   obtain ⟨M,hn,hdf,he,hI⟩:=hJ.st
   rw [hall c (by rw [hlen];exact bX)] at hI
   refine h3 a w ⟨M,hn,hdf,?_,hI⟩
   have:cur (fun i=>listed.getD i false) 0 L E=cur (fun _=>true) 0 L E:=by
    have:∀(L':List (Oper×Pr)) (k:Nat) (E:Env),k+L'.length≤L.length→cur (fun i=>listed.getD i false) k L' E=cur (fun _=>true) k L' E:=by
     intro L'
     induction L' with
     |nil=>intros;rfl
     |cons x L' ih=>
      intro k E hk
      obtain ⟨o,p⟩:=x
      simp only [List.length_cons] at hk
      unfold cur
      rw [hall k AA,ih _ _ AA]
    exact this L 0 E AA
   rwa [this] at he
  have Gy:∀(listed:Array Bool) (a:Act) (w:World),DJ1 n I I' c L E listed a w→Region.ready .any l.toArray listed=[]→∀i,i<L.length→listed.getD i false=true:=by
   intro listed a w hJ hr i
   induction i using Nat.strongRecOn with
   |_ i ih=>
    intro hi
    cases NR:listed.getD i false with
    |true=>rfl
    |false=>
     exfalso
     have FT:i<l.length:=by omega
     have hmem:i∈Region.ready .any l.toArray listed:=by
      refine mem_ready.2 ⟨?_,l[i],by simp [FT],fun e he hb=> ?_⟩
      ·
       have:i<listed.size:=by rw [hJ.size];exact hi
       rw [Array.getD_eq_getD_getElem?,Array.getElem?_eq_getElem this] at NR ⊢
       simpa using NR
      ·
       have:=(S7 i l[i] (by simp [FT])).1 e he hb
       exact ih e.on this AA
     rw [hr] at hmem
     cases hmem
  induction fuel with
  |zero=>
   intro listed a w hc hJ
   have hall:∀i,i<L.length→listed.getD i false=true:=by
    intro i hi
    have hsz:=hJ.size
    have h0:false∉listed.toList:=by
     have:listed.toList.count false=0:=by omega
     exact List.count_eq_zero.1 this
    cases NR:listed.getD i false with
    |true=>rfl
    |false=>
     exfalso
     have:i<listed.size:=by omega
     rw [Array.getD_eq_getD_getElem?,Array.getElem?_eq_getElem this] at NR
     apply h0
     simp at NR
     rw [←NR]
     exact Array.getElem_mem_toList this
   refine ⟨?_,fin listed a w hJ hall⟩
   cases hr:Region.ready .any l.toArray listed with
   |nil=>rfl
   |cons i r=>
    exfalso
    have hi:i∈Region.ready .any l.toArray listed:=by rw [hr];simp
    obtain ⟨hu,o,ho,_⟩:=mem_ready.1 hi
    obtain ⟨p,hp⟩:=hL i o ho
    have FT:i<L.length:=by rcases Nat.lt_or_ge i L.length with h|h;exact h;rw [List.getElem?_eq_none h] at hp;cases hp
    have h5:=hall i FT
    have:i<listed.size:=by rw [hJ.size];exact FT
    rw [Array.getD_eq_getD_getElem?,Array.getElem?_eq_getElem this] at hu h5
    simp at hu h5
    rw [hu] at h5;cases h5
  |succ fuel ih=>
   intro listed a w hc hJ
   refine ⟨fun hr=>fin listed a w hJ (Gy listed a w hJ hr),fun i hi=> ?_⟩
   obtain ⟨hu,o,ho,hall⟩:=mem_ready.1 hi
   obtain ⟨p,hp⟩:=hL i o ho
   have ho':l[i]? =some o:=hL' i o p hp
   have FT:i<L.length:=by rcases Nat.lt_or_ge i L.length with h|h;exact h;rw [List.getElem?_eq_none h] at hp;cases hp
   have his:i<listed.size:=by rw [hJ.size];exact FT
   have IZ:listed.getD i false=false:=by
    rw [Array.getD_eq_getD_getElem?,Array.getElem?_eq_getElem his] at hu ⊢;simpa using hu
   have hpre:∀k,MH o k=true→listed.getD k false=true:=by
    intro k hk
    obtain ⟨e,he,hb,rfl⟩:=LL.1 hk
    exact hall e he hb
   obtain ⟨hgp,hgt,hdn⟩:=h2 i o p hp
   rw [Nat.zero_add] at hgp hgt
   obtain ⟨M,hn,hdf,he,hI⟩:=hJ.st
   -- what is looked at reads as in the iJ order
   have hsame:∀s,s∈seen l.toArray o→(cur (fun j=>decide (j<i)) 0 L E).lookup s=(cur (fun j=>listed.getD j false) 0 L E).lookup s:=by
    intro s hs
    by_cases hw:∃k q r,L[k]? =some (q,r)∧k≠i∧q.dst=some s
    ·
     obtain ⟨k,q,r,hk,hki,hd⟩:=hw
     have Ey:∀(j:Nat) o' p',L[j]? =some (o',p')→j≠k→o'.dst≠some s:=by
      intro j o' p' hj hjk
      exact ((S7 j o' (hL' j o' p' hj)).2 k q s (hL' k q r hk) (Ne.symm hjk) hd).1
     rcases ((S7 i o ho').2 k q s (hL' k q r hk) hki hd).2 hs with ⟨h5,h6⟩|⟨h5,h6⟩
     · exact X4
     ·
      have hnk:listed.getD k false=false:=by
       cases hlk:listed.getD k false with
       |false=>rfl
       |true=>have:=hJ.down k i q r hk hlk h6;rw [IZ] at this;cases this
      rw [B3 L 0 E,B3 L 0 E]
      ·
       intro j o' p' hj hsel hd'
       by_cases hjk:j=k
       · subst hjk;rw [Nat.zero_add,hnk] at hsel;cases hsel
       · exact Ey j o' p' hj hjk hd'
      ·
       intro j o' p' hj hsel hd'
       by_cases hjk:j=k
       · subst hjk;simp at hsel;omega
       · exact Ey j o' p' hj hjk hd'
    ·
     rw [B3 L 0 E,B3 L 0 E]
     ·
      intro j o' p' hj hsel hd'
      by_cases hji:j=i
      · subst hji;rw [Nat.zero_add,IZ] at hsel;cases hsel
      · exact hw ⟨j,o',p',hj,hji,hd'⟩
     ·
      intro j o' p' hj hsel hd'
      by_cases hji:j=i
      · subst hji;simp at hsel
      · exact hw ⟨j,o',p',hj,hji,hd'⟩
   have next:∀v w' M',p.h M' w' v→Ext M w M' w'→(if (listed.setIfInBounds i true).getD c false then I' else I).h M' w'→HP P .any l.toArray Q fuel (listed.setIfInBounds i true) (a.put o.dst v) w':=by
    intro v w' M' Te hb hI2
    refine ih _ _ _ ?_ ⟨by simpa using hJ.size,?_,M',by rw [CB];exact hn,by rw [put_defers];exact hdf,?_,hI2⟩
    ·
     have h7:listed.toList[i]? =some false:=by
      rw [Array.getElem?_toList,Array.getElem?_eq_getElem his]
      rw [Array.getD_eq_getD_getElem?,Array.getElem?_eq_getElem his] at IZ
      simpa using IZ
     have h8:=count_set h7
     rw [Array.toList_setIfInBounds]
     omega
    ·
     intro j k o' p' hj S8 hek
     have JT:∀m,(listed.setIfInBounds i true).getD m false=(if m=i then true else listed.getD m false):=by
      intro m
      rw [Array.getD_eq_getD_getElem?,Array.getElem?_setIfInBounds]
      by_cases hm:i=m
      · subst hm;simp [his]
      · exact LD
     rw [JT] at S8 ⊢
     by_cases hki:k=i
     · simp [hki]
     ·
      rw [if_neg hki]
      by_cases hji:j=i
      ·
       subst hji
       rw [hp] at hj
       cases hj
       exact hpre k hek
      ·
       rw [if_neg hji] at S8
       exact hJ.down j k o' p' hj S8 hek
    ·
     -- the Rj
     intro s q hq
     have JT:∀m,(listed.setIfInBounds i true).getD m false=(if m=i then true else listed.getD m false):=by
      intro m
      rw [Array.getD_eq_getD_getElem?,Array.getElem?_setIfInBounds]
      by_cases hm:i=m
      · subst hm;simp [his]
      · exact LD
     by_cases hds:o.dst=some s
     ·
      rw [Dr L 0 E i o p hp QL hds
       (fun j o' p' hj hji=>((S7 j o' (hL' j o' p' hj)).2 i o s ho' (Ne.symm hji) hds).1)] at hq
      cases hq
      rw [hds,B_ QO]
      exact Te
     ·
      have Rk:(cur (fun j=>listed.getD j false) 0 L E).lookup s=some q:=by
       rw [←hq]
       by_cases hw:∃k q r,L[k]? =some (q,r)∧q.dst=some s∧listed.getD k false=true
       ·
        obtain ⟨k,q',r,hk,hd,hlk⟩:=hw
        have Ey:∀(j:Nat) o' p',L[j]? =some (o',p')→j≠k→o'.dst≠some s:=by
         intro j o' p' hj hjk
         exact ((S7 j o' (hL' j o' p' hj)).2 k q' s (hL' k q' r hk) (Ne.symm hjk) hd).1
        rw [Dr L 0 E k q' r hk (by simpa using hlk) hd Ey,Dr L 0 E k q' r hk QG hd Ey]
       ·
        rw [B3 L 0 E,B3 L 0 E]
        ·
         intro j o' p' hj hsel hd'
         rw [Nat.zero_add,JT] at hsel
         by_cases hji:j=i
         · subst hji;rw [hp] at hj;cases hj;exact hds hd'
         · rw [if_neg hji] at hsel;exact hw ⟨j,o',p',hj,hd',hsel⟩
        ·
         intro j o' p' hj hsel hd'
         rw [Nat.zero_add] at hsel
         exact hw ⟨j,o',p',hj,hd',hsel⟩
      have hv:=he s q Rk
      have:(a.put o.dst v).tmps.getD s undef=a.tmps.getD s undef:=by
       cases hd:o.dst with
       |none=>rfl
       |some d=>exact Bz (fun e=>hds (by rw [hd,e]))
      rw [this]
      exact q.st _ _ _ _ _ hb hv
   have gr:(listed.setIfInBounds i true).getD c false=(if c=i then true else listed.getD c false):=by
    rw [Array.getD_eq_getD_getElem?,Array.getElem?_setIfInBounds]
    by_cases hm:i=c
    · subst hm;simp [his]
    · exact LD
   have L2:∀(j:Nat) o',l[j]? =some o'→listed.getD j false=true→∀e∈o'.after,Region.binds .any e=true→listed.getD e.on false=true:=by
    intro j o' hj S8 e he' hb
    obtain ⟨p',hp'⟩:=hL j o' Ez
    exact hJ.down j e.on o' p' hp' S8 (LL.2 ⟨e,he',hb,rfl⟩)
   have Tn:Cq M w (cur (fun j=>decide (j<i)) 0 L E) o a:=fun s q hs hq=>by
    rw [hsame s (by unfold seen;simp [hs])] at hq
    exact he s q hq
   unfold Lv
   rw [ho]
   by_cases hic:i=c
   ·
    obtain ⟨bD,hg⟩:=hgt hic
    dsimp only
    rw [if_pos (Fb bD)]
    have hlc:listed.getD c false=false:=by rw [←hic];exact IZ
    rw [hlc] at hI
    refine (WU (hg M w a hn Tn hI) fun v w' M' hv hx hI2=>next v w' M' hv hx ?_)
    rw [gr,if_pos hic.symm];exact hI2
   ·
    have u9:=hgp hic
    have hlc:listed.getD c false=decide (c<i):=by
     by_cases hlt:i<c
     ·
      rw [decide_eq_false AA]
      cases hlc:listed.getD c false with
      |false=>rfl
      |true=>
       exfalso
       obtain ⟨oc,hoc⟩:∃oc,l[c]? =some oc:=⟨l[c]'bX,List.getElem?_eq_getElem bX⟩
       have:=JE (fun j=>listed.getD j false=true) l L2 c oc hoc (fun e he' hb=>L2 c oc hoc hlc e he' hb) i (hA i hlt)
       rw [IZ] at this;cases this
     ·
      rw [decide_eq_true AA]
      exact JE (fun j=>listed.getD j false=true) l L2 i o ho' (fun e he' hb=>hall e (by simpa using he') hb) c (hBc i AA AA)
    rw [hlc] at hI
    have gu:(if i<c then I else I').h M w:=by
     by_cases hlt:i<c
     · rw [decide_eq_false AA] at hI;rw [if_pos hlt];exact hI
     · rw [decide_eq_true AA] at hI;rw [if_neg hlt];exact hI
    refine JC u9 Tn (fun j want d q hgd hj hq=> ?_) gu ?_
    ·
     have hds:d∈seen l.toArray o:=by unfold seen;rw [hgd];exact List.mem_append.2 (.inr P_)
     rw [hsame d hds] at hq
     exact he d q hq
    ·
     intro v w' Te hb
     refine next v w' M Te (Ext.below hb) ?_
     rw [gr,if_neg (Ne.symm hic),hlc]
     exact CU.st _ _ _ _ hb hI
 refine key l.length _ a _ ?_ ⟨by simp [hlen],?_,?_⟩
 · simp [List.count_replicate]
 ·
  intro i k o p hp hl
  exfalso
  rw [Array.getD_eq_getD_getElem?,Array.getElem?_replicate] at hl
  split at hl<;>simp at hl
 ·
  obtain ⟨M,hn,hdf,he,hI⟩:=hs
  have hb:Below w.heap.size w { w with drawn:=w.drawn+1 }:=⟨rfl,rfl,rfl,Nat.le_refl _,fun _ _=>rfl⟩
  refine ⟨M,hn,hdf,?_,?_⟩
  rotate_left
  ·
   have:(Array.replicate l.toArray.size false).getD c false=false:=by rw [Array.getD_eq_getD_getElem?,Array.getElem?_replicate];split<;>rfl
   rw [this];exact I.st _ _ _ hb hI
  intro s q hq
  rw [B3 L 0 E] at hq
  · exact QI
  ·
   intro j o p hj hsel
   exfalso
   rw [Array.getD_eq_getD_getElem?,Array.getElem?_replicate] at hsel
   split at hsel<;>simp at hsel
def Au (P:Program) (f:FuncId) (args:List Pr) (pre:List A7) (res:Pr) (post:List A7):Prop:=MK (α:=Unit) P f args pre (fun _=>True) (fun _=>res) (fun _=>post)
section
variable {M0:Av} {w0:World} {S:Nat→Prop} {rs:List A7} {E:Env} {o:Oper} {g:Func} {M1:Av} {w1:World}
theorem Au.of {c : Code} {pre post : List A7} {res : Pr} (hf : P.funcs[f]? = some g) (hb : g.body = some c) (hname : (g.name == "runtime.NumGoroutine") = false) (hlen : ps.length ≤ g.ntmps) (h : ∀ M0 w0 S rs M1 w1, Tr (Td P) g.ntmps (Jl 0 ps) (Hp M0 w0 S (pre ++ As M1 w1 :: rs)) c (bodyPost P g (N3 M0 w0 S rs M1 w1 (fun _ : Unit => True) (fun _ => res) (fun _ => post)))) : Au P f ps pre res post :=
 MK.of hf hb hname hlen h
theorem D8 {pre post:List A7} {res:Pr} (rest:List A7) (hg:o.guard=none) (ho:o.op= .call { callee:= .value (.func f),args:=xs,argTypes:=ts }) (hf:Au P f ps pre res post) (hv:Fa E xs.toList ps) (hp:rs.Perm (pre++rest)):La P n (Hp M0 w0 S rs) (Hp M0 w0 S (post++rest)) o E res:=by
 refine ⟨hg,fun M w a hsz he hI=> ?_⟩
 have hI:BG M0 w0 S rs M w:=hI
 have h1:=Fa.ET (o:=o) he (xs:=xs.toList) (fun x hx=>by simp [ho,Op.operands,Call.operands];exact .inr F1) hv
 have hrun:(execOp a.eval o).run P w= .ok (.enter f (xs.toList.map a.eval).toArray) w:=by
  simp [execOp,ho,resolve,Deferred.ofValue,Act.eval,invoke,C8 hf.1,Fc xs]
 rw [hrun]
 refine (BG.PB hf hp hI h1).mono ?_
 rintro e w' ⟨v,M',x,rfl,hC,h2,h3,h4⟩
 exact ⟨v,M',rfl,h2,h3,h4⟩
theorem DK {cx:Operand} {pre post:List A7} {res:Pr} (rest:List A7) (hg:o.guard=none) (ho:o.op= .call { callee:= .value cx,args:=xs,argTypes:=ts }) (hc:VL E cx (fn (.func f) [])) (hf:Au P f ps pre res post) (hv:Fa E xs.toList ps) (hp:rs.Perm (pre++rest)):La P n (Hp M0 w0 S rs) (Hp M0 w0 S (post++rest)) o E res:=by
 refine ⟨hg,fun M w a hsz he hI=> ?_⟩
 have hI:BG M0 w0 S rs M w:=hI
 have h1:=Fa.ET (o:=o) he (xs:=xs.toList) (fun x hx=>by simp [ho,Op.operands,Call.operands];exact .inr F1) hv
 have hcv:=hc.ev he B2
 have hrun:(execOp a.eval o).run P w= .ok (.enter f (xs.toList.map a.eval).toArray) w:=by
  obtain ⟨cs,h2,hcs⟩:=hcv
  cases cs with
  |nil=>simp [execOp,ho,resolve,Deferred.ofValue,h2,invoke,C8 hf.1,Fc xs]
  |cons c cs=>exact hcs.elim
 rw [hrun]
 refine (BG.PB hf hp hI h1).mono ?_
 rintro e w' ⟨v,M',x,rfl,hC,h2,h3,h4⟩
 exact ⟨v,M',rfl,h2,h3,h4⟩
theorem TO.Cv {Q:Exit→Act→World→Prop} {pre post:List A7} {res:Pr} (rest:List A7) (hg:o.guard=none) (hd:o.dst=some d) (hn:d<n) (ho:o.op= .call { callee:= .value (.func f),args:=xs,argTypes:=ts }) (hf:Au P f ps pre res post) (hv:Fa E xs.toList ps) (hp:rs.Perm (pre++rest)) (k:TO P n ops r ((d,res)::E) (Hp M0 w0 S (post++rest)) Q):TO P n ops (o::r) E (Hp M0 w0 S rs) Q:=
 TO.PB rest hg hd hn ho hf hv hp fun _ _=>k
theorem Fin.CD {rv:ResultVar} {res:Pr} {post rs':List A7} (hr:g.results= #[rv]) (h:AR P E rs' rv q) (hl:Pr.le q res) (hp:rs'.Perm (post++As M1 w1::rs)):
  Fin ⟨fz,[]⟩ E (Hp M0 w0 S rs') (bodyPost P g (N3 M0 w0 S rs M1 w1 (fun _:Unit=>True) (fun _=>res) (fun _=>post))) .ret:=
 Fin.pX () hr h trivial hl hp
theorem BN.pure {args:List Pr} {res:Pr} {R':Value→A7} (h:BN P f args res BW R'):Ay P f args res:=by
 refine ⟨h.1,fun M w vs hb hv=> ?_⟩
 refine (h.2 M w Lw [] M w vs ((BG.begin hb).LH (r:=BW) rfl trivial) hv).mono ?_
 rintro e w' ⟨v,M',rfl,h2,h3,h4⟩
 exact ⟨v,rfl,res.st _ _ _ _ _ (Ext.less h4.m) h2,h4.below⟩
theorem E4 {e:TypeId} {sz:Nat} (ho:o.op= .call { callee:= .builtin .len,args:= #[x],argTypes:= #[t] }) (ht:P.underlying t=some (.slice e)) (hx:VL E x (is v)):
  Jm P M0 w0 S j (SR.c (Ac T sz rows v)) o E (int ((rows.length:Nat):Int)):=by
 intro M w a rs he hI hj
 have h1:a.eval x=v:=hx.ev he B2
 have hj':rs[j]? =some (Ac T sz rows v):=hj
 have hrun:∃A c,v= .slice A rows.length c:=by
  rcases (hI.hold _ (List.mem_of_getElem? hj')).1 with ⟨rfl,A,hv⟩|⟨b,cap,spare,hv,_⟩
  · exact ⟨_,_,hv⟩
  · exact ⟨_,_,hv⟩
 obtain ⟨A,c,hv⟩:=hrun
 have:(execOp a.eval o).run P w= .ok (.value (.int .i64 ((rows.length:Nat):Int))) w:=by
  simp [execOp,ho,resolve,invoke,builtin,Builtin.len_,h1,hv,run_underlying ht,goInt]
 rw [this]
 exact ⟨rfl,Below.refl _ _⟩
end
end
section
variable {P:Program} {L:Lg P} {n:Fm} {fz:Nat} {E:Env} {M0:Av} {w0:World} {S:Nat→Prop} {rs:List A7} {o:Oper}
def Ys (b off m:Nat):Pr where
 h _ _ u:=∃o c,u= .slice (some ⟨b,o,none⟩) m c∧(0<m→o=off)
 st _M _w _M' _w' _v _ h:=h
instance l_ (b off m:Nat):One (Ys b off m):=⟨by rintro M w u ⟨o,c,rfl,_⟩;exact ⟨rfl,rfl⟩⟩
theorem Jc {I:CU} {e:TypeId} {y:Operand} {k:IntKind} {l:Int} {sz:Nat} (ho:o.op= .slice t x (some y) none none) (ht:P.underlying t=some (.slice e)) (hz:Al P e=some sz) (hx:VL E x (is (.slice (some ⟨b,0,none⟩) m cap))) (hy:VL E y (is (.int k l))) (h0:0≤l) (hl:l≤m) (hc:m≤cap):
  Ab P I o E (Ys b (l.toNat*sz) (m-l.toNat)):=
 Ab.same fun M w a he _=>by
  have h1:a.eval x=_:=hx.ev he At
  have h3:a.eval y=_:=hy.ev he At
  by_cases hne:cap=l.toNat
  ·
   refine ⟨.slice (some ⟨b,0,none⟩) (m-l.toNat) (cap-l.toNat),?_,0,_,rfl,fun h=>by omega⟩
   simp [execOp,ho,h1,h3,Instr.sliceAt,Instr.slice,run_underlying ht,Instr.sliceBounds,Instr.sliceBound,asIntOf,h0,hl,Bg hz,hne]
  ·
   refine ⟨.slice (some ⟨b,l.toNat*sz,none⟩) (m-l.toNat) (cap-l.toNat),?_,_,_,rfl,fun _=>rfl⟩
   simp [execOp,ho,h1,h3,Instr.sliceAt,Instr.slice,run_underlying ht,Instr.sliceBounds,Instr.sliceBound,asIntOf,h0,hl,Bg hz,hne,Ce]
theorem N7 {e:TypeId} {y:Operand} {sz off:Nat} {ps':List Pr} (hg:o.guard=none) (hd:o.dst=some d) (hn:d<n) (ho:o.op= .call { callee:= .builtin .append,args:= #[x,y],argTypes:= #[t,t] }) (ht:P.underlying t=some (.slice e)) (hz:Al P e=some sz) (hx:VL E x (is (.slice (some ⟨b,0,none⟩) k cap))) (hy:VL E y (Ys b off m)) (hroom:k+m≤cap) (hl:off+m*sz≤ps.length) (bC:k*sz+m*sz≤ps.length) (hps:ps.take (k*sz)++(ps.drop off).take (m*sz)++ps.drop (k*sz+m*sz)=ps'):D6 P M0 w0 S n j (SR.c (AE new b e ps)) (SR.c (AE new b e ps')) o E (is (.slice (some ⟨b,0,none⟩) (k+m) cap)):=by
 refine ⟨hg,fun M w a rs NO he hI hj=> ?_⟩
 have h1:a.eval x=_:=hx.ev he B2
 obtain ⟨o2,c2,h2,ho2⟩:=hy.ev he B2
 obtain ⟨⟨_,cs,h4,h5,h6⟩,_⟩:=hI.hold _ (List.mem_of_getElem? hj)
 have a_:=h5.length
 have N1:((cs.drop off).take (m*sz)).length=m*sz:=by rw [List.length_take,List.length_drop];omega
 unfold Al at hz
 cases hi:P.info? e with
 |none=>rw [hi] at hz;cases hz
 |some i=>
  rw [hi] at hz
  simp only [Option.map_some,Option.some.injEq] at hz
  have hrun := run_append_room (P := P) (w := w) t o.type e i ht hi b k cap cs.toArray h4 ⟨b, o2, none⟩ m c2 ((cs.drop off).take (m * sz)) (by rw [hz]; exact N1) (fun q u hk => by
   rw [Ce]
   rw [List.getElem?_take] at hk
   split at hk
   ·
    rename_i hq
    have hm:0<m:=by rcases Nat.eq_zero_or_pos m with h|h;subst h;simp at hq;exact h
    have:=ho2 hm
    subst this
    rw [List.getElem?_drop] at hk;simp [World.cell?,h4,hk]
   · cases hk) (fun u hu=>h6 u (List.mem_of_mem_drop (List.mem_of_mem_take hu))) hroom (by rw [hz,N1];simp;omega)
  rw [hz,N1] at hrun
  obtain ⟨h7, h8⟩ := BG.write (qs := ps') (cs := cs.take (k * sz) ++ (cs.drop off).take (m * sz) ++ cs.drop (k * sz + m * sz)) hI hj (by rw [← hps]; exact ((h5.take _).app ((h5.drop off).take _)).app (h5.drop _))
   (fun c hc=>by
    simp only [List.mem_append] at hc
    rcases hc with (hc|hc)|hc
    · exact KU
    · exact h6 c (List.mem_of_mem_drop (List.mem_of_mem_take hc))
    · exact h6 c (List.mem_of_mem_drop hc))
  have C9:(execOp a.eval o).run P w= .ok (.value (.slice (some ⟨b,0,none⟩) (k+m) cap)) (w.setRow b (cs.take (k*sz)++(cs.drop off).take (m*sz)++cs.drop (k*sz+m*sz)).toArray):=by
   simp [execOp,ho,resolve,invoke,builtin,h1,h2,hrun]
  rw [C9]
  exact ⟨M,rfl,h8,h7⟩
theorem IW {I:CU} {e:TypeId} {y:Operand} {sz sz1 sz2:Nat} (ho:o.op= .call { callee:= .builtin .append,args:= #[x,y],argTypes:= #[t,t] }) (ht:P.underlying t=some (.slice e)) (hz:Al P e=some sz) (hx:VL E x (full sz1 [])) (hy:VL E y (slice sz2 [])):Ab P I o E (full sz []):=
 Ab.same fun M w a he _=>by
  obtain ⟨_,A,h1⟩:=hx.ev he B2
  obtain ⟨A',c',h2,_⟩:=hy.ev he B2
  simp only [List.length_nil] at h1 h2
  refine ⟨.slice A 0 0,?_,PC sz A M w⟩
  have hrun:=IA (P:=P) (ty:=o.type) (A:=A) (A':=A') (n:=0) (c:=0) (c':=c') ht hz (Nat.le_refl _) w
  simp [execOp,ho,resolve,invoke,builtin,h1,h2,hrun]
end
theorem pg {K:Nat} {r:List Pr} (h:K=1):(List.replicate K r).flatten=r:=by subst h;simp
section
variable {P:Program} {L:Lg P} {n:Fm} {fz:Nat} {E:Env} {M0:Av} {w0:World} {S:Nat→Prop} {rs:List A7} {o:Oper}
theorem Vb (j:Nat) {R R':A7} (hR:rs[j]? =some R) (h:D6 P M0 w0 S n j (SR.c R) (SR.c R') o E p):La P n (Hp M0 w0 S rs) (Hp M0 w0 S (rs.set j R')) o E p:=by
 refine ⟨h.1,fun M w a hsz he hI=> ?_⟩
 have:=h.2 M w a rs hsz he hI hR
 generalize (execOp a.eval o).run P w=r at this
 cases r with
 |halt x w'=>exact this.elim
 |ok x w'=>
  cases x<;>first|exact this.elim|exact this
end
theorem J8 {β:Type} {f:β→List Pr} {sz:Nat} (hf:∀x,(f x).length=sz):∀(l:List β) (i:Nat),((l.map f).flatten).take (i*sz)=((l.take i).map f).flatten
 |[],i=>by simp
 |a::l,0=>by simp
 |a::l,i+1=>by
  rw [List.map_cons,List.flatten_cons,List.take_succ_cons,List.map_cons,List.flatten_cons,←J8 hf l i,List.take_append,hf a,List.take_of_length_le (by rw [hf a,Nat.succ_mul];omega),Nat.succ_mul,Nat.add_sub_cancel]
theorem GL {β:Type} {f:β→List Pr} {sz:Nat} (hf:∀x,(f x).length=sz):∀(l:List β) (i:Nat),((l.map f).flatten).drop (i*sz)=((l.drop i).map f).flatten
 |[],i=>by simp
 |a::l,0=>by simp
 |a::l,i+1=>by
  rw [List.map_cons,List.flatten_cons,List.drop_succ_cons,←GL hf l i,List.drop_append,hf a,List.drop_of_length_le (by rw [hf a,Nat.succ_mul];omega),Nat.succ_mul,Nat.add_sub_cancel];rfl
theorem JJ {β:Type} {f:β→List Pr} {sz:Nat} (hf:∀x,(f x).length=sz) {l:List β} {x:β}:((l.map f).flatten).take (i*sz)++f x++((l.map f).flatten).drop (i*sz)=((l.take i++[x]++l.drop i).map f).flatten:=by grind [J8,GL]
theorem PD {β:Type} {f:β→List Pr} {sz:Nat} (hf:∀x,(f x).length=sz) {l:List β}:((l.map f).flatten).take (i*sz)++((l.map f).flatten).drop ((i+1)*sz)=((l.eraseIdx i).map f).flatten:=by grind [J8,GL]
theorem N8 {A S X B:List Pr} {a z N o1 o2 o3 o4 o5 o6:Nat} (hA:A.length=N) (ha:a+z≤N) (hX:X.length=z) (hS:z≤S.length) (h1:o1=a+z) (h2:o2=a) (h3:o3=N-a) (h4:o4=a+z+(N-a)) (h5:o5=a) (h6:o6=a+z) (hB:B=(A.take a++X++A.drop a)++S.drop z):
  ((A++S).take o1++((A++S).drop o2).take o3++(A++S).drop o4).take o5++X++((A++S).take o1++((A++S).drop o2).take o3++(A++S).drop o4).drop o6=B:=by
 rw [h1,h2,h3,h4,h5,h6,hB]
 have e1:(A++S).take (a+z)=A.take a++(A.drop a).take z:=by rw [List.take_append_of_le_length AA,List.take_add]
 have e2:((A++S).drop a).take (N-a)=A.drop a:=by
  rw [List.drop_append_of_le_length AA,List.take_append_of_le_length IX,List.take_of_length_le IX]
 have e3:(A++S).drop (a+z+(N-a))=S.drop z:=by
  rw [show a+z+(N-a)=A.length+z by omega,List.drop_append];simp
 have l1:(A.take a).length=a:=by rw [List.length_take];omega
 have l2:((A.drop a).take z).length=z:=by rw [List.length_take,List.length_drop];omega
 rw [e1,e2,e3]
 have t1:(A.take a++(A.drop a).take z++A.drop a++S.drop z).take a=A.take a:=by
  rw [List.append_assoc,List.append_assoc];exact List.take_left' l1
 have t2:(A.take a++(A.drop a).take z++A.drop a++S.drop z).drop (a+z)=A.drop a++S.drop z:=by
  rw [List.append_assoc];exact List.drop_left' (by rw [List.length_append];omega)
 rw [t1,t2]
 simp
theorem N9 {A S Z X B R:List Pr} {a z N o0 o1 o2 o3 o4:Nat} (hA:A.length=N) (ha:a≤N) (hX:X.length=z) (hZ:N+z-a≤Z.length) (h0:o0=a) (h1:o1=a) (h2:o2=a+z) (h3:o3=a+z) (h4:o4=a+z+(N-a)) (hR:R=A.drop a) (hB:B=(A.take a++X++A.drop a)++Z.drop (N+z-a)):
  (((A++S).take o0++Z).take o1++X++((A++S).take o0++Z).drop o2).take o3++R++(((A++S).take o0++Z).take o1++X++((A++S).take o0++Z).drop o2).drop o4=B:=by
 rw [h0,h1,h2,h3,h4,hR,hB]
 have l1:(A.take a).length=a:=by rw [List.length_take];omega
 have e0:(A++S).take a=A.take a:=List.take_append_of_le_length AA
 rw [e0]
 have e1:(A.take a++Z).take a=A.take a:=by rw [List.take_append_of_le_length AA,List.take_of_length_le AA]
 have e2:(A.take a++Z).drop (a+z)=Z.drop z:=by rw [List.drop_append,List.drop_of_length_le AA,List.nil_append,l1];congr 1;omega
 rw [e1,e2]
 have l2:(A.take a++X).length=a+z:=by rw [List.length_append];omega
 have e3:(A.take a++X++Z.drop z).take (a+z)=A.take a++X:=by rw [List.take_append_of_le_length AA,List.take_of_length_le AA]
 have e4:(A.take a++X++Z.drop z).drop (a+z+(N-a))=Z.drop (N+z-a):=by
  rw [List.drop_append,List.drop_of_length_le AA,List.nil_append,l2,List.drop_drop];congr 1;omega
 rw [e3,e4]
theorem PF {A S Z B:List Pr} {a z N o1 o2 o3 o4 o5 o6:Nat} (hA:A.length=N) (ha:a+z≤N) (h1:o1=a) (h2:o2=a+z) (h3:o3=N-(a+z)) (h4:o4=N-z) (h5:o5=N-z) (h6:o6=N) (hB:B=(A.take a++A.drop (a+z))++(Z++S)):
  ((A++S).take o1++((A++S).drop o2).take o3++(A++S).drop o4).take o5++Z++((A++S).take o1++((A++S).drop o2).take o3++(A++S).drop o4).drop o6=B:=by
 rw [h1,h2,h3,h4,h5,h6,hB]
 have e1:(A++S).take a=A.take a:=by rw [List.take_append_of_le_length AA]
 have e2:((A++S).drop (a+z)).take (N-(a+z))=A.drop (a+z):=by
  rw [List.drop_append_of_le_length AA,List.take_append_of_le_length IX,List.take_of_length_le IX]
 rw [e1,e2]
 have l1:(A.take a++A.drop (a+z)).length=N-z:=by rw [List.length_append,List.length_take,List.length_drop];omega
 have t1:(A.take a++A.drop (a+z)++(A++S).drop (N-z)).take (N-z)=A.take a++A.drop (a+z):=List.take_left' l1
 have t2:(A.take a++A.drop (a+z)++(A++S).drop (N-z)).drop N=S:=by
  rw [List.drop_append,List.drop_of_length_le AA,List.nil_append,l1,List.drop_drop,show N-z+(N-(N-z))=A.length by omega,List.drop_left]
 rw [t1,t2]
 simp
section
variable {P:Program} {L:Lg P} {n:Fm} {fz:Nat} {E:Env} {M0:Av} {w0:World} {S:Nat→Prop} {rs:List A7}
theorem St.Gf {sz:Nat} {e:TypeId} (hi:rs[i]? =some (AE new b T ps)) (hj:rs[j]? =some (Ac e sz rows v)) (hij:j≠i) (hk:ps[k]? =some p) (hp:Pr.le p (is v)) (hl:∀r∈rows,r.length=sz) (h:St n E (Hp M0 w0 S rs) a w):
  St n E (Hp M0 w0 S ((rs.set j BW).set i (AE new b T (ps.set k (slice sz rows))))) a w:=by
 obtain ⟨M,h1,h2,h3,h4⟩:=h
 have h4:BG M0 w0 S rs M w:=h4
 have hi':(rs.set j (Ac e sz rows v))[i]? =some (AE new b T ps):=by rw [List.getElem?_set_ne hij];exact hi
 obtain ⟨M',g1,g2,g3⟩:=h4.WQ hj hl
 have gi:(rs.set j BW)[i]? =some (AE new b T ps):=by rw [List.getElem?_set_ne hij];exact hi
 refine ⟨M',h1,h2,fun s q hq=>q.st _ _ _ _ _ g1 (h3 s q hq),g2.C0 gi rfl rfl ?_⟩
 obtain ⟨c1,cs,c2,c3,c4⟩:=(g2.hold _ (List.mem_of_getElem? gi)).1
 exact ⟨c1,cs,c2,c3.set hk (fun u hu=>by rw [show u=v from hp _ _ _ hu];exact g3),c4⟩
theorem Tr.Gf {Q:Exit→Act→World→Prop} {c:Code} (i j k:Nat) {sz:Nat} {e:TypeId} (hi:rs[i]? =some (AE new b T ps)) (hj:rs[j]? =some (Ac e sz rows v)) (hij:j≠i) (hk:ps[k]? =some p) (hp:Pr.le p (is v)) (hl:∀r∈rows,r.length=sz) (kk:Tr L n E (Hp M0 w0 S ((rs.set j BW).set i (AE new b T (ps.set k (slice sz rows))))) c Q):Tr L n E (Hp M0 w0 S rs) c Q:=Tr.conv (fun _ _ hs=>hs.Gf hi hj hij hk hp hl) kk
end
theorem dN {β:Type} {f:β→List Pr} {l:List β} {q:Nat} {x:β} (h:l[k]? =some x) (hq:(f x).take q++qs++(f x).drop (q+m)=f x):(l.map f).set k ((f x).take q++qs++(f x).drop (q+m))=l.map f:=by
 rw [hq]
 refine List.ext_getElem? fun i=> ?_
 rw [List.getElem?_set]
 by_cases hi:k=i
 ·
  subst hi
  rw [if_pos rfl,List.getElem?_map,h]
  have:=Ar h
  rw [if_pos (by rw [List.length_map];exact this)];rfl
 · rw [if_neg hi]
theorem G_ {β:Type} {f:β→List Pr} {l:List β} {q:Nat} {x:β} (h:l[k]? =some x) (hq:(f x).take q++qs++(f x).drop (q+m)=f x):(l.map f).set ((k:Nat):Int).toNat ((f x).take q++qs++(f x).drop (q+m))=l.map f:=by
 rw [Int.toNat_natCast];exact dN h hq
section
variable {P:Program} {L:Lg P} {n:Fm} {fz:Nat} {E:Env} {M0:Av} {w0:World} {S:Nat→Prop} {rs:List A7} {o:Oper} {g:Func} {M1:Av} {w1:World}
theorem Au.gen {args args':List Pr} {pre:List A7} {res:Pr} [Ij res] (hfz:∀M0 w0 S rs M w,BG M0 w0 S (pre++rs) M w→∃M',Ext M w M' w∧BG M0 w0 S rs M' w∧∀vs,HL M w args vs→HL M' w args' vs) (h:Ay P f args' res):Au P f args pre res pre:=by
 refine ⟨h.1,fun M0 w0 S rs M w vs hI hv=> ?_⟩
 obtain ⟨M',hx,K6,ha⟩:=hfz M0 w0 S rs M w hI
 refine (h.2 M' w vs K6.bd (ha vs hv)).mono ?_
 rintro e' w' ⟨u,rfl,h2,h3⟩
 exact ⟨u,M,(),rfl,trivial,Ij.free _ _ _ _ h2,Ext.below h3,(Hp M0 w0 S _).st _ _ _ h3 hI⟩
theorem Row.hd {ad:Addr} (h:Row M w ad 0 (p::ps)) (hq:∀u,p.h M w u→q.h M w u):Row M w ad 0 (q::ps):=by
 intro j r hr
 cases j with
 |zero=>
  simp at hr;subst hr
  obtain ⟨u,h1,h2,h3,h4⟩:=h 0 p rfl
  exact ⟨u,h1,h2,h3,hq u h4⟩
 |succ j=>exact h (j+1) r (by simpa using hr)
theorem Au.look {WT OT e:TypeId} {bE ops rows:List Pr} {rws:List (List Pr)} {sz:Nat} {res:Pr} [Ij res] (hk:ops[k]? =some (is v)) (hl:∀r∈rws,r.length=sz) (ho:ops.set k (slice sz rws)=rows) (h:Ay P f (ref (ref rows::bE)::ps) res):Au P f (ptr wb 0::ps) [AE true wb WT (ptr ob 0::bE),AE true ob OT ops,Ac e sz rws v] res [AE true wb WT (ptr ob 0::bE),AE true ob OT ops,Ac e sz rws v]:=by
 refine Au.gen (fun M0 w0 S rs M w hI=> ?_) h
 obtain ⟨Ma,a1,a2⟩:=BG.Gf (i:=1) (j:=2) (k:=k) hI rfl rfl AB hk hl
 rw [ho] at a2
 have a3:BG M0 w0 S (AE true ob OT rows::AE true wb WT (ptr ob 0::bE)::BW::rs) Ma w:=BG.perm (List.Perm.swap _ _ _) a2
 obtain ⟨Mb,b1,b2,b3⟩:=BG.Qk a3
 obtain ⟨Mc,c1,c2,c3⟩:=BG.Qk b1
 refine ⟨Mc,(a1.trans b2).trans c2,c1.G2,fun vs hv=> ?_⟩
 match vs,hv with
 |u0::vs1,MG=>
  obtain ⟨IZ,NH⟩:=MG
  refine ⟨⟨⟨wb,0,none⟩,IZ,c3.hd fun u hu=>⟨⟨ob,0,none⟩,hu,b3.st c2⟩⟩,NH.st ((a1.trans b2).trans c2)⟩
theorem Au.Yt {fg:FuncId} {WT e:TypeId} {bE:List Pr} {rws:List (List Pr)} {sz:Nat} {res:Pr} [Ij res] (hl:∀r∈rws,r.length=sz) (h:Ay P f [slice sz (rws.drop k),fn (.func fg) [ref [ref bE]]] res):Au P f [part sz v k,fn (.func fg) [ref [ptr wb 0]]] [AE true wb WT bE,Ac e sz rws v] res [AE true wb WT bE,Ac e sz rws v]:=by
 refine Au.gen (fun M0 w0 S rs M w hI=> ?_) h
 obtain ⟨Ma,a1,a2,a3⟩:=BG.WQ (j:=1) hI rfl hl
 obtain ⟨Mb,b1,b2,b3⟩:=BG.Qk (rs:=BW::rs) a2
 refine ⟨Mb,a1.trans b2,b1.G2,fun vs hv=> ?_⟩
 match vs,hv with
 |[u0,u1],MG=>
  obtain ⟨IZ,hu1,_⟩:=MG
  refine ⟨Tz ((slice sz rws).st _ _ _ _ _ b2 a3) ((part sz v k).st _ _ _ _ _ (a1.trans b2) IZ),?_,trivial⟩
  obtain ⟨cs,rfl,hcs⟩:=hu1
  match cs,hcs with
  |[c0],hc1=>
   obtain ⟨ad,rfl,hrow⟩:=hc1.1
   exact ⟨_,rfl,⟨ad,rfl,(hrow.st (a1.trans b2)).hd fun u hu=>⟨⟨wb,0,none⟩,hu,b3⟩⟩,trivial⟩
theorem Dj {I:CU} {e:TypeId} {y:Operand} {k:IntKind} {i:Int} {len:Nat} (ho:o.op= .index t x y) (ht:P.underlying t=some (.array len e)) (he:DY P e=true) (hz:Al P e=some 1) (hx:VL E x (agg ps)) (hy:VL E y (is (.int k i))) (h0:0≤i) (hl:i<len) (hp:ps[i.toNat]? =some p):Ab P I o E p:=
 Ab.same fun M w ac jc _=>by
  obtain ⟨cs,h1,ho1,h2⟩:=hx.ev jc At
  have h3:ac.eval y=_:=hy.ev jc At
  obtain ⟨u,hu,bQ⟩:=h2.at_ i.toNat p hp
  refine ⟨u,?_,bQ⟩
  simp [execOp,ho,h1,h3,Instr.index,asIntOf,run_underlying ht,h0,hl,Bg hz,Go.part,EK he,hu]
theorem Lb {y:Operand} {q0:Tmp} {off:Nat} {ps:Value→List Pr} (hg:o.guard=none) (hd:o.dst=none) (ho:o.op= .store t x y) (hx:VL E x (ptr b off)) (hy:VL E y (DR qs)) (hz:Al P t=some m) (hm:qs.length=m) (hl:∀v,off+m≤(ps v).length):D6 P M0 w0 S n j ⟨.one q0,fun v=>AE new b T (ps v)⟩ ⟨.one q0,fun v=>AE new b T ((ps v).take off++qs++(ps v).drop (off+m))⟩ o E any:=by
 refine ⟨hg,fun M w a rs hsz he hI hj=> ?_⟩
 have hj':rs[j]? =some (SR.at_ a (SR.c (AE new b T (ps (a.tmps.getD q0 undef))))):=hj
 obtain ⟨h1,h2⟩:=Bm (P:=P) (M0:=M0) (w0:=w0) (S:=S) (n:=n) (j:=j) (new:=new) (T:=T) (ps:=ps (a.tmps.getD q0 undef)) (b:=b) (off:=off) hg ho hx hy hz hm (hl _) rfl
 have h3:=h2 M w a rs hsz he hI hj'
 revert h3
 generalize (execOp a.eval o).run P w=r
 have key:∀v,SR.at_ (a.put o.dst v) (SR.c (AE new b T ((ps (a.tmps.getD q0 undef)).take off++qs++(ps (a.tmps.getD q0 undef)).drop (off+m))))=SR.at_ (a.put o.dst v) ⟨.one q0,fun v=>AE new b T ((ps v).take off++qs++(ps v).drop (off+m))⟩:=fun v=>by rw [hd];rfl
 intro h3
 cases r with
 |halt x w'=>exact h3
 |ok x w'=>
  cases x
  case value v=>obtain ⟨M',g1,g2,g3⟩:=h3;exact ⟨M',g1,g2,by rw [←key];exact g3⟩
  case skip=>obtain ⟨M',g1,g2,g3⟩:=h3;exact ⟨M',g1,g2,by rw [←key];exact g3⟩
  case enter f args=>
   refine Calls.mono h3 ?_
   rintro e w'' ⟨v,M',g0,g1,g2,g3⟩
   exact ⟨v,M',g0,g1,g2,by rw [←key];exact g3⟩
  all_goals exact h3
theorem TO.re {Q:Exit→Act→World→Prop} {l:List Oper} {I:CU} (s:Nat) (p:Pr) (hs:E.lookup s=some q) (hl:Pr.le q p) (k:TO P n ops l ((s,p)::E) I Q):TO P n ops l E I Q:=by
 intro m hm a w hst
 refine k m hm a w ?_
 obtain ⟨M,h1,h2,he,h4⟩:=hst
 refine ⟨M,h1,h2,fun s' r hr=> ?_,h4⟩
 simp only [List.lookup] at hr
 split at hr
 ·
  rename_i e1
  have:s'=s:=by simpa using e1
  subst this
  simp only [Option.some.injEq] at hr
  subst hr
  exact hl _ _ _ (he _ _ hs)
 · exact he _ _ hr
theorem Fin.Lc {Q:Exit→Act→World→Prop} {x:Exit} {r r':A7} (k:Fin n E (Hp M0 w0 S (r'::r::rs)) Q x):Fin n E (Hp M0 w0 S (r::r'::rs)) Q x:=
 Fin.conv (fun _ _ ⟨M,h1,h2,h3,h4⟩=>⟨M,h1,h2,h3,BG.perm (List.Perm.swap _ _ _) h4⟩) k
def Im (P:Program) (f:FuncId) (args:List Pr) (res:Value→Pr) (post:Value→List A7):Prop:=MK (α:=Value) P f args [] (fun _=>True) res post
theorem Im.of {c : Code} {res : Value → Pr} {post : Value → List A7} (hf : P.funcs[f]? = some g) (hb : g.body = some c) (hname : (g.name == "runtime.NumGoroutine") = false) (hlen : ps.length ≤ g.ntmps) (h : ∀ M0 w0 S rs M1 w1, Tr (Td P) g.ntmps (Jl 0 ps) (Hp M0 w0 S (As M1 w1 :: rs)) c (bodyPost P g (N3 M0 w0 S rs M1 w1 (fun _ : Value => True) res post))) : Im P f ps res post :=
 MK.of hf hb hname hlen h
theorem Fin.WV {rv:ResultVar} {res:Value→Pr} {post:Value→List A7} {rs':List A7} (v:Value) (dr:List A7) (hr:g.results= #[rv]) (h:AR P E rs' rv q) (hl:Pr.le q (res v)) (hp:rs'.Perm (dr++(post v++As M1 w1::rs))):
  Fin ⟨fz,[]⟩ E (Hp M0 w0 S rs') (bodyPost P g (N3 M0 w0 S rs M1 w1 (fun _:Value=>True) res post)) .ret:=by
 rintro a w ⟨M,_,hd,he,hi⟩
 have hi:BG M0 w0 S rs' M w:=hi
 obtain ⟨u,hu,hp'⟩:=h M w a he (fun q hq=>(hi.hold q hq).1)
 obtain ⟨h1,h2⟩:=pW (BG.gp (BG.perm hp hi))
 exact ⟨hd,u,results1 hr hu,_,M,v,rfl,trivial,hl _ _ _ hp',h1,h2⟩
theorem TO.N_ {Q:Exit→Act→World→Prop} {res:Value→Pr} {post:Value→List A7} (hg:o.guard=none) (hd:o.dst=some d) (hn:d<n) (ho:o.op= .call { callee:= .value (.func f),args:=xs,argTypes:=ts }) (hf:Im P f ps res post) (hv:Fa E xs.toList ps) (k:∀v,TO P n ops r ((d,res v)::E) (Hp M0 w0 S (post v++rs)) Q):TO P n ops (o::r) E (Hp M0 w0 S rs) Q:=
 TO.PB rs hg hd hn ho hf hv (List.Perm.refl _) fun v _=>k v
end
section
variable {P:Program} {L:Lg P} {n:Fm} {fz:Nat} {E:Env} {I:CU} {Q:Exit→Act→World→Prop} {ops:Array Oper} {o:Oper} {r:List Oper} {g j:Nat} {b want:Bool}
theorem TO.cases (g:Nat) {b:Bool} {l:List Oper} (_hb:E.lookup g=some (bool b)) (ht:b=true→TO P n ops l E I Q) (hf:b=false→TO P n ops l E I Q):TO P n ops l E I Q:=by
 cases b
 · exact hf rfl
 · exact ht rfl
theorem TO.pq (hg:o.guard=some (j,want)) (hj:(ops[j]?).bind (·.dst)=some g) (hb:E.lookup g=some (bool b)) (LJ:b=want) (h:∀(K:Act→World→Prop) M w (a:Act),a.tmps.size=n.sz→a.defers=n.df→FC M w E a→I.h M w→
  (∀E' I' a' w',TO P n ops r E' I' Q→St n E' I' a' w'→K a' w')→o.wp P a w K Q):TO P n ops (o::r) E I Q:=by
 intro k hl a w hs
 have h0:ops[k]? =some o:=by simpa using (hl 0).symm
 obtain ⟨M,hn,hd,he,hI⟩:=hs
 simp only [List.length_cons,List.range'_succ,wpS,h0]
 have hy:=HQ (M:=M) (w:=w) (b:=some b) hj (he g _ hb)
 rw [GZ hg hy,if_pos (by simp [LJ])]
 exact (h _ M w a hn hd he hI fun E' I' a' w' hT hst=>hT (k+1) (fun j=>by have:=hl (j+1);simpa [Nat.add_assoc,Nat.add_comm 1 j] using this) a' w' hst)
theorem TO.Yu (hg:o.guard=some (j,want)) (hj:(ops[j]?).bind (·.dst)=some g) (hb:E.lookup g=some (bool b)) (LJ:b=want) (hd:o.dst=some d) (hn:d<n) (h:Ab P I o E p) (k:TO P n ops r ((d,p)::E) I Q):TO P n ops (o::r) E I Q:=
 TO.pq hg hj hb LJ fun K M w a h1 h2 h3 h4 hK=>by
  refine GF (h M w a (CW h3) h4) fun v w' hv hb'=>hK _ _ _ _ k ⟨M,?_,?_,?_,I.st _ _ _ hb' h4⟩
  · rw [CB];exact h1
  · rw [put_defers];exact h2
  ·
   have:=h3.put (o:=o) (p:=p) hb' hv (fun d' hd'=>by rw [hd] at hd';cases hd';rw [h1];exact hn)
   rw [show upd o p E=(d,p)::E by unfold upd;rw [hd]] at this;exact this
theorem TO.Vc (hg:o.guard=some (j,want)) (hj:(ops[j]?).bind (·.dst)=some g) (hb:E.lookup g=some (bool b)) (LJ:b≠want) (hd:o.dst=some d) (hn:d<n) (kk:TO P n ops r ((d,is undef)::E) I Q):TO P n ops (o::r) E I Q:=by
 intro k hl a w hs
 have h0:ops[k]? =some o:=by simpa using (hl 0).symm
 obtain ⟨M,h1,h2,he,hI⟩:=hs
 simp only [List.length_cons,List.range'_succ,wpS,h0]
 have hy:=HQ (M:=M) (w:=w) (b:=some b) hj (he g _ hb)
 rw [GZ hg hy,if_neg (by simp [LJ])]
 refine kk (k+1) (fun j=>by have:=hl (j+1);simpa [Nat.add_assoc,Nat.add_comm 1 j] using this) _ w ⟨M,by rw [CB];exact h1,by rw [put_defers];exact h2,?_,hI⟩
 have:=he.put (o:=o) (p:=is undef) (v:=undef) (Below.refl w.heap.size w) rfl (fun d' hd'=>by rw [hd] at hd';cases hd';rw [h1];exact hn)
 rw [show upd o (is undef) E=(d,is undef)::E by unfold upd;rw [hd]] at this;exact this
variable {M0:Av} {w0:World} {S:Nat→Prop} {rs:List A7}
theorem TO.pz (i:Nat) {R:A7} {R':A7} (hg:o.guard=some (j,want)) (hj:(ops[j]?).bind (·.dst)=some g) (hb:E.lookup g=some (bool b)) (LJ:b=want) (hR:rs[i]? =some R) (hd:o.dst=some d) (hn:d<n) (h:D6 P M0 w0 S n i (SR.c R) (SR.c R') { o with guard:=none } E p) (k:TO P n ops r ((d,p)::E) (Hp M0 w0 S (rs.set i R')) Q):TO P n ops (o::r) E (Hp M0 w0 S rs) Q:=
 TO.pq hg hj hb LJ fun K M w a hsz hdf he hI hK=>by
  have hw : ({ o with guard := none } : Oper).wp P a w K Q := JF (h.2 M w a rs hsz (CW he) hI hR) fun v w' M' hv hx K6 => hK _ _ _ _ k ⟨M', by rw [CB]; exact hsz, by rw [put_defers]; exact hdf, by
   intro s q hq
   simp only [List.lookup] at hq
   by_cases hs:s=d
   · subst hs;simp at hq;subst hq;show p.h M' w' ((a.put o.dst v).tmps.getD s undef);rw [hd,B_ Gm];exact hv
   · rw [show (s==d)=false by simpa using hs] at hq;show q.h M' w' ((a.put o.dst v).tmps.getD s undef);rw [hd,Bz hs];exact q.st _ _ _ _ _ hx (he s q hq),K6⟩
  exact hw
end
section
variable {P:Program} {L:Lg P} {E:Env} {I:CU} {o:Oper}
end
class T1 (P:Program) (t:TypeId):Prop where
 h:DY P t=true
class TA (P:Program) (t:TypeId):Prop where
 h:Eb P t=true
class TZ (P:Program) (t:TypeId) (m:outParam Nat):Prop where
 h:Al P t=some m
class TF (P:Program) (s f:Nat) (k:outParam Nat):Prop where
 h:AZ P s f=some k
class TU (P:Program) (t:TypeId) (d:outParam TypeDesc):Prop where
 h:P.underlying t=some d
class TB (P:Program) (t:TypeId) (place:outParam (Nat→Option (Nat×Nat))) (zs:outParam (List Value)):Prop where
 h:∀ps,P.built t ps=Instr.fill place zs.toArray ps
 z:zs.all (·.oneCell')=true
class TV (P:Program) (t:TypeId) (zs:outParam (List Value)):Prop where
 h:BS P t=some zs
 z:zs.all (·.oneCell')=true
class TM (P:Program):Prop where
 h:P.follows .mixedOrders=true
section
variable {P:Program} {L:Lg P} {n:Fm} {fz:Nat} {I:CU} {ops:Array Oper} {o:Oper} {r:List Oper} {E:Env} {K:Env→Prop} {d g j:Nat} {b want:Bool} {p:Pr} {x y:Operand} {Q:Exit→Act→World→Prop} {t u:TypeId}
theorem u_ [i:T1 P t] (ho:o.op= .load t x) (hx:Cm E x=some (ref (p::ps))):Ab P I o E p:=NU ho i.h (vl hx)
theorem vA [i:TA P t] [z:TZ P t m] (ho:o.op= .load t x) (hx:Cm E x=some (ref ps)) (hq:ps.take m=qs) (hm:qs.length=m):Ab P I o E (agg qs):=AX ho i.h z.h (vl hx) hq hm
theorem vB {s:TypeId} {f:Nat} [i:TF P s f k] (ho:o.op= .fieldAddr s x f) (hx:Cm E x=some (ref ps)) (hq:ps.drop k=qs):Ab P I o E (ref qs):=Kc ho i.h (vl hx) hq
theorem vC {s:TypeId} {f:Nat} [i:TF P s f k] {b off:Nat} (ho:o.op= .fieldAddr s x f) (hx:Cm E x=some (ptr b off)):Ab P I o E (ptr b (off+k)):=AF ho i.h (vl hx)
theorem vD {e:TypeId} [i:TU P t (.slice e)] {sz:Nat} {β:Type} {f:β→List Pr} {l:List β} (ho:o.op= .call { callee:= .builtin .len,args:= #[x],argTypes:= #[t] }) (hx:Cm E x=some (slice sz (l.map f))):Ab P I o E (int ((l.length:Nat):Int)):=F3 ho i.h (vl hx)
theorem vE [i:TU P t .string] {a:List UInt8} (ho:o.op= .call { callee:= .builtin .len,args:= #[x],argTypes:= #[t] }) (hx:Cm E x=some (str a)):Ab P I o E (int ((a.length:Nat):Int)):=c_ ho i.h (vl hx)
theorem vF [i:TU P t .bool] {b c:Bool} (ho:o.op= .binOp .eql t x y u) (hx:Cm E x=some (bool b)) (hy:Cm E y=some (bool c)):Ab P I o E (bool (b==c)):=iT ho i.h (vl hx) (vl hy)
theorem vG {p:Pr} [One p] (ho:o.op= .box t x) (hx:Cm E x=some p):Ab P I o E (ref [p]):=BK ho (VL.le (vl hx) (AP p))
theorem vH (ho:o.op= .box t x) (hx:Cm E x=some (agg ps)):Ab P I o E (ref ps):=BK ho (VL.le (vl hx) (AY ps))
class CP (p:Pr) (ps:outParam (List Pr)):Prop where
 h:Pr.le p (DR ps)
instance vI (ps:List Pr):CP (agg ps) ps:=⟨AY ps⟩
instance (priority:=low) vJ (p:Pr) [One p]:CP p [p]:=⟨AP p⟩
class CQ (p:Pr) (ps:outParam (List Pr)):Prop where
 h:Pr.le p (DR ps)
instance vK (ps:List Pr):CQ (agg ps) ps:=⟨AY ps⟩
instance vL (k:IntKind) (n:Int):CQ (is (.int k n)) [is (.int k n)]:=⟨AP _⟩
instance sV (b:Bool):CQ (is (.bool b)) [is (.bool b)]:=⟨AP _⟩
instance vM (s:ByteArray):CQ (is (.string s)) [is (.string s)]:=⟨AP _⟩
instance vN (a:Option Addr):CQ (is (.pointer a)) [is (.pointer a)]:=⟨AP _⟩
instance p_ (sz:Nat) (rows:List (List Pr)):CQ (slice sz rows) [slice sz rows]:=⟨AP _⟩
instance vO (ps:List Pr):CQ (ref ps) [ref ps]:=⟨AP _⟩
instance xN (f:Fn) (ps:List Pr):CQ (fn f ps) [fn f ps]:=⟨AP _⟩
theorem vf0:Tp E [] []:=trivial
theorem vf1 {row:List Pr} [c:CQ q row] {xs:List (Nat×Operand)} {rows:List (Nat×List Pr)} (hx:Cm E x=some q) (h:Tp E xs rows):Tp E ((i,x)::xs) ((i,row)::rows):=⟨⟨rfl,VL.le (vl hx) c.h⟩,h⟩
theorem vr0 {sz:Nat}:Of E sz [] []:=trivial
theorem vr1 {sz:Nat} {row:List Pr} [c:CQ q row] {xs:List Operand} (hx:Cm E x=some q) (hl:row.length=sz) (h:Of E sz xs rows):Of E sz (x::xs) (row::rows):=⟨⟨hl,VL.le (vl hx) c.h⟩,h⟩
theorem vP {place:Nat→Option (Nat×Nat)} [i:TB P t place zs] {rows:List (Nat×List Pr)} (ho:o.op= .build t parts) (hx:Tp E parts.toList rows) (hq:O4 place (zs.map is) rows=some qs):Ab P I o E (agg qs):=Ax ho i.h i.z hx hq
theorem vQ {e:TypeId} {sz:Nat} {xs:List Operand} [i:TU P t (.slice e)] [z:TZ P e sz] [v:TV P e zs] (ho:o.op= .buildSlice t m parts) (hp:parts.toList.map Prod.snd=xs) (hm:(m==xs.length&&(parts.toList.map Prod.fst==List.range m)&&zs.length==sz&&Nat.blt 0 sz&&Nat.ble (m*sz) 16777216)=true) (hx:Of E sz xs rows):Ab P I o E (full sz rows):=by
 simp only [Bool.and_eq_true,beq_iff_eq,Nat.blt_eq,Nat.ble_eq] at hm
 obtain ⟨⟨⟨⟨h1,h2⟩,h3⟩,h4⟩,h5⟩:=hm
 subst h1
 refine Ah ho ?_ i.h z.h v.h h3 h4 hx h5
 refine List.ext_getElem (by rw [←hp];simp) fun k h6 h7=> ?_
 have h8:k<xs.length:=by simpa using h7
 simp only [List.getElem_map,List.getElem_zipIdx,Nat.zero_add]
 have e1:(parts.toList.map Prod.fst)[k]'(by simpa using h6)=k:=by grind
 have e2:(parts.toList.map Prod.snd)[k]'(by simpa using h6)=xs[k]:=by simp only [hp]
 simp only [List.getElem_map] at e1 e2
 exact Prod.ext e1 e2
section
variable {M0:Av} {w0:World} {S:Nat→Prop} {b off:Nat} {T:TypeId} {new:Bool} {ps qs:List Pr} {m:Nat} {q:Pr}
theorem J9 [i:T1 P t] (ho:o.op= .load t x) (hx:Cm E x=some (ptr b off)) (hp:ps[off]? =some p):Jm P M0 w0 S j (SR.c (AE new b T ps)) o E p:=B1 ho i.h (vl hx) hp
theorem J_ [i:TA P t] [z:TZ P t m] (ho:o.op= .load t x) (hx:Cm E x=some (ptr b off)) (hq:(ps.drop off).take m=qs) (hm:qs.length=m):Jm P M0 w0 S j (SR.c (AE new b T ps)) o E (agg qs):=Cf ho i.h z.h (vl hx) hq hm
theorem SG {ps':List Pr} [z:TZ P t m] [c:CP q qs] (hg:o.guard=none) (ho:o.op= .store t x y) (hx:Cm E x=some (ptr b off)) (hy:Cm E y=some q) (hm:qs.length=m:=by rfl) (hl:Nat.ble (off+m) ps.length=true:=by rfl) (hps:ps.take off++qs++ps.drop (off+m)=ps':=by rfl):D6 P M0 w0 S n j (SR.c (AE new b T ps)) (SR.c (AE new b T ps')) o E any:=Bm hg ho (vl hx) (VL.le (vl hy) c.h) z.h hm (Nat.le_of_ble_eq_true hl) hps
variable {rs:List A7}
theorem sf (i s:Nat) [z:TZ P t m] [c:CP q qs] (hg:o.guard=none∧o.dst=none∧o.op= .store t x y) (hx:Cm E x=some (ptr b 0)) (hy:Cm E y=some q) (hi:rs[i]? =some (AE true b T ps)) (hs:E.lookup s=some (ptr b 0))
  (k:TO P n ops r ((s,ref qs)::E) (Hp M0 w0 S ((rs.set i (AE true b T qs)).eraseIdx i)) Q) (hm:qs.length=m:=by rfl) (hl:ps.length=m:=by rfl):TO P n ops (o::r) E (Hp M0 w0 S rs) Q:=
 TO.Ap i hg.1 hg.2.1 hg.2.2 (vl hx) (VL.le (vl hy) c.h) hi z.h hm hl (TO.freeze (ps:=qs) i s (by
  have hlt:i<rs.length:=by rcases Nat.lt_or_ge i rs.length with h|h;exact h;rw [List.getElem?_eq_none h] at hi;cases hi
  rw [List.getElem?_set_self hlt]) hs k)
theorem sa (i:Nat) [z:TZ P t m] [c:CP q qs] (hg:o.guard=none∧o.dst=none∧o.op= .store t x y) (hx:Cm E x=some (ptr b 0)) (hy:Cm E y=some q) (hi:rs[i]? =some (AE new b T ps))
  (k:TO P n ops r E (Hp M0 w0 S (rs.set i (AE new b T qs))) Q) (hm:qs.length=m:=by rfl) (hl:ps.length=m:=by rfl):TO P n ops (o::r) E (Hp M0 w0 S rs) Q:=TO.Ap i hg.1 hg.2.1 hg.2.2 (vl hx) (VL.le (vl hy) c.h) hi z.h hm hl k
end
def jj (o:Oper):Nat:=match o.op with
 | .move ..=>1
 | .assign ..=>1
 | .fieldAddr ..=>2
 | .load ..=>3
 | .binOp .add ..=>7
 | .binOp .sub ..=>8
 | .binOp ..=>4
 | .pick ..=>5
 | .nilCheck ..=>6
 | .call { callee:= .builtin .len,.. }=>9
 | .unOp ..=>10
 | .box ..=>11
 | .extract ..=>12
 | .makeFunc ..=>13
 | .build ..=>14
 | .buildSlice ..=>15
 | .store ..=>16
 |_=>0
def qA (o:Oper):Bool:=o.guard.isNone
def grp (o:Oper):Nat:=if jj o=0 then 0 else if jj o<5 then 1 else if jj o<9 then 2 else if jj o<16 then 3 else 4
theorem vR {m z:Int} (ho:o.op= .binOp .add t x y u) (hx:Cm E x=some (int m)) (hy:Cm E y=some (int z)) (hr: -9223372036854775808≤m+z∧m+z≤9223372036854775807):Ab P I o E (int (m+z)):=LP ho (vl hx) (vl hy) hr
theorem vS {m z:Int} (ho:o.op= .binOp .sub t x y u) (hx:Cm E x=some (int m)) (hy:Cm E y=some (int z)) (hr: -9223372036854775808≤m-z∧m-z≤9223372036854775807):Ab P I o E (int (m-z)):=Th ho (vl hx) (vl hy) hr
theorem oF (h:Ab P I o E p:=by first|exact vB rfl rfl rfl|exact vC rfl rfl):Ab P I o E p:=h
theorem oL (h:Ab P I o E p:=by first|exact u_ rfl rfl|exact vA rfl rfl rfl rfl|exact Bk 0 rfl (J9 rfl rfl rfl)|exact Bk 0 rfl (J_ rfl rfl rfl rfl)|exact Bk 1 rfl (J9 rfl rfl rfl)|exact Bk 1 rfl (J_ rfl rfl rfl rfl)|exact Bk 2 rfl (J9 rfl rfl rfl)|exact Bk 2 rfl (J_ rfl rfl rfl rfl)|exact Bk 3 rfl (J9 rfl rfl rfl)|exact Bk 3 rfl (J_ rfl rfl rfl rfl)|exact Bk 4 rfl (J9 rfl rfl rfl)|exact Bk 4 rfl (J_ rfl rfl rfl rfl)):Ab P I o E p:=h
theorem oB (h:Ab P I o E p:=by first|exact ki rfl rfl rfl rfl|exact jY rfl (vl rfl) (vl rfl)|exact jZ rfl (vl rfl) (vl rfl)|exact vF rfl rfl rfl):Ab P I o E p:=h
theorem oP (h:Ab P I o E p:=by first|exact WI rfl rfl (by first|rfl|assumption) rfl|exact YK rfl rfl (by first|rfl|assumption) rfl|exact WO rfl (vl rfl) (vl rfl)|exact Ty rfl (vl rfl) (vl rfl)):Ab P I o E p:=h
theorem oN (h:Ab P I o E p:=by first|exact Az rfl (vl rfl)|exact MI rfl (vl rfl)|exact NV rfl (vl rfl)):Ab P I o E p:=h
theorem oA (h:Ab P I o E p:=by first|exact vR rfl rfl rfl AA|exact ki rfl rfl rfl rfl):Ab P I o E p:=h
theorem oS (h:Ab P I o E p:=by first|exact vS rfl rfl rfl AA|exact ki rfl rfl rfl rfl):Ab P I o E p:=h
theorem oC (h:Ab P I o E p:=by first|exact vD rfl rfl|exact vE rfl rfl):Ab P I o E p:=h
theorem oU (h:Ab P I o E p:=by first|exact NT rfl (vl rfl)):Ab P I o E p:=h
theorem oO (h:Ab P I o E p:=by first|exact vH rfl rfl|exact vG rfl rfl):Ab P I o E p:=h
theorem oE (h:Ab P I o E p:=by first|exact Ec rfl (vl rfl) rfl):Ab P I o E p:=h
theorem oM (h:Ab P I o E p:=by first|exact Ib rfl rfl):Ab P I o E p:=h
theorem oD (h:Ab P I o E p:=by first|exact vP rfl (by repeat any_goals first|exact vf0|refine' vf1 rfl ?_) (by rfl)):Ab P I o E p:=h
theorem oI (h:Ab P I o E p:=by first|exact vQ rfl rfl (by rfl) (by repeat any_goals first|exact vr0|refine' vr1 rfl (by rfl) ?_)):Ab P I o E p:=h
theorem Qx {res:Pr} (hf:Ay P f [] res) (ho:o.op= .call { callee:= .value (.func f),args:= #[],argTypes:=ts }):Ab P I o E res:=Ad ho hf trivial
theorem Bn {x0:Operand} {p0:Pr} {res:Pr} (hf:Ay P f [p0] res) (ho:o.op= .call { callee:= .value (.func f),args:= #[x0],argTypes:=ts }) (h0:Cm E x0=some p0):Ab P I o E res:=Ad ho hf ⟨ke h0,trivial⟩
theorem Cb {x0:Operand} {p0:Pr} {x1:Operand} {p1:Pr} {res:Pr} (hf:Ay P f [p0,p1] res) (ho:o.op= .call { callee:= .value (.func f),args:= #[x0,x1],argTypes:=ts }) (h0:Cm E x0=some p0) (h1:Cm E x1=some p1):Ab P I o E res:=Ad ho hf ⟨ke h0,ke h1,trivial⟩
theorem kc3 {x0:Operand} {p0:Pr} {x1:Operand} {p1:Pr} {x2:Operand} {p2:Pr} {res:Pr} (hf:Ay P f [p0,p1,p2] res) (ho:o.op= .call { callee:= .value (.func f),args:= #[x0,x1,x2],argTypes:=ts }) (h0:Cm E x0=some p0) (h1:Cm E x1=some p1) (h2:Cm E x2=some p2):Ab P I o E res:=Ad ho hf ⟨ke h0,ke h1,ke h2,trivial⟩
theorem kc4 {x0:Operand} {p0:Pr} {x1:Operand} {p1:Pr} {x2:Operand} {p2:Pr} {x3:Operand} {res:Pr} (hf:Ay P f [p0,p1,p2,p3] res) (ho:o.op= .call { callee:= .value (.func f),args:= #[x0,x1,x2,x3],argTypes:=ts }) (h0:Cm E x0=some p0) (h1:Cm E x1=some p1) (h2:Cm E x2=some p2) (h3:Cm E x3=some p3):Ab P I o E res:=Ad ho hf ⟨ke h0,ke h1,ke h2,ke h3,trivial⟩
theorem mA {x0:Operand} {p0:Pr} {x1:Operand} {p1:Pr} {x2:Operand} {p2:Pr} {x3:Operand} {x4:Operand} {p4:Pr} {res:Pr} (hf:Ay P f [p0,p1,p2,p3,p4] res) (ho:o.op= .call { callee:= .value (.func f),args:= #[x0,x1,x2,x3,x4],argTypes:=ts }) (h0:Cm E x0=some p0) (h1:Cm E x1=some p1) (h2:Cm E x2=some p2) (h3:Cm E x3=some p3) (h4:Cm E x4=some p4):Ab P I o E res:=Ad ho hf ⟨ke h0,ke h1,ke h2,ke h3,ke h4,trivial⟩
theorem cP (_:qA o=true) (h:Ch P n I ops (o::r) E K):Ch P n I ops (o::r) E K:=h
theorem cG (_:qA o=false) (h:Ch P n I ops (o::r) E K):Ch P n I ops (o::r) E K:=h
theorem cK (k:Nat) (_:jj o=k) (h:Ch P n I ops (o::r) E K):Ch P n I ops (o::r) E K:=h
theorem cS (k:Nat) (_:grp o=k) (h:Ch P n I ops (o::r) E K):Ch P n I ops (o::r) E K:=h
theorem tK (k:Nat) (_:jj o=k) (h:TO P n ops (o::r) E I Q):TO P n ops (o::r) E I Q:=h
theorem tG (k:Nat) (_:grp o=k) (h:TO P n ops (o::r) E I Q):TO P n ops (o::r) E I Q:=h
theorem Tr.rm [i:TM P] {l:List Oper} (hB:Jk l=true) (h:Ch P n I l.toArray l E (fun E'=>Fin n E' I Q .normal)) (hc:calm l=true:=by with_unfolding_all rfl):Tr L n E I (.region id l.toArray true) Q:=Tr.uM i.h hB h hc
theorem Tr.ct {c:Operand} {y z:Code} (hc:Cm E c=some (bool true)) (k:Tr L n E I y Q):Tr L n E I (.cond c y z) Q:=Tr.cond hc (fun _=>k) (fun h=>nomatch h)
theorem Tr.cf {c:Operand} {y z:Code} (hc:Cm E c=some (bool false)) (k:Tr L n E I z Q):Tr L n E I (.cond c y z) Q:=Tr.cond hc (fun h=>nomatch h) (fun _=>k)
structure Yv (G:Prop):Prop where
 k:G
theorem Cx.mono {M0:Av} {w0:World} {S:Nat→Prop}:∀{l:List Oper} {E:Env} {rs:List SR} {K K':List X→Env→List SR→Prop},(∀L E rs,K L E rs→K' L E rs)→Cx P M0 w0 S n ops l E rs K→Cx P M0 w0 S n ops l E rs K'
 |[],_,_,_,_,h,k=>h _ _ _ k
 |_::_,_,_,_,_,h,⟨p,k,h1,h2,h3⟩=>⟨p,k,h1,h2,Cx.mono (fun _ _ _=>h _ _ _) h3⟩
theorem Cx.keys {M0:Av} {w0:World} {S:Nat→Prop}:∀{l:List Oper} {E:Env} {rs:List SR} {K:List X→Env→List SR→Prop},Cx P M0 w0 S n ops l E rs K→∃ks:List KN,Cx P M0 w0 S n ops l E rs (fun L E' rs'=>L.map (·.k.Jn)=ks∧K L E' rs')
 |[],_,_,_,k=>⟨[],rfl,k⟩
 |_::_,_,_,_,⟨p,k,h1,h2,h3⟩=>by
  obtain ⟨ks,h4⟩:=Cx.keys h3
  exact ⟨k.Jn::ks,p,k,h1,h2,Cx.mono (fun L E rs h=>⟨by rw [List.map_cons,h.1],h.2⟩) h4⟩
theorem Tr.rx {Lo : Lg P} [i : TM P] {M0 : Av} {S : Nat → Prop} {l : List Oper} {G1 : List A7} (h : Cx P M0 w0 S n l.toArray l E (G1.map SR.c) (fun L E' rs' => Mh l (L.map (·.k.Jn)) = true ∧ BV n M0 w0 S E' rs' Q)) (hc : calm l = true := by with_unfolding_all rfl) : Tr Lo n E (Hp M0 w0 S G1) (.region id l.toArray true) Q := by
 obtain ⟨ks,hk⟩:=Cx.keys h
 obtain ⟨L,h1,h2,h3⟩:=QX l 0 E _ hk
 exact Tr.YB i.h ks (by rw [←h3.1];exact h3.2.1) (hk.mono fun _ _ _ h=>⟨h.1,h.2.2⟩) hc
theorem al1 {r0:A7}:Dx (SR.c r0::rs.map SR.c) (r0::rs):= .cons (Dx.map _)
theorem Xd {r0:A7} {r1:A7}:Dx (SR.c r0::SR.c r1::rs.map SR.c) (r0::r1::rs):= .cons (.cons (Dx.map _))
theorem bF {r0:A7} {r1:A7} {r2:A7}:Dx (SR.c r0::SR.c r1::SR.c r2::rs.map SR.c) (r0::r1::r2::rs):= .cons (.cons (.cons (Dx.map _)))
theorem K9 {r0:A7} {r1:A7} {r2:A7} {r3:A7}:Dx (SR.c r0::SR.c r1::SR.c r2::SR.c r3::rs.map SR.c) (r0::r1::r2::r3::rs):= .cons (.cons (.cons (.cons (Dx.map _))))
theorem dO {r0:A7} {r1:A7} {r2:A7} {r3:A7} {r4:A7}:Dx (SR.c r0::SR.c r1::SR.c r2::SR.c r3::SR.c r4::rs.map SR.c) (r0::r1::r2::r3::r4::rs):= .cons (.cons (.cons (.cons (.cons (Dx.map _)))))
theorem al6 {r0:A7} {r1:A7} {r2:A7} {r3:A7} {r4:A7} {r5:A7}:Dx (SR.c r0::SR.c r1::SR.c r2::SR.c r3::SR.c r4::SR.c r5::rs.map SR.c) (r0::r1::r2::r3::r4::r5::rs):= .cons (.cons (.cons (.cons (.cons (.cons (Dx.map _))))))
theorem fo {g : Func} {c : Code} {res : Pr} (hf : P.funcs[f]? = some g) (hb : g.body = some c) (hname : ((g.name == "runtime.NumGoroutine") = false ∧ Nat.ble ps.length g.ntmps = true)) (h : ∀ M0 w0, Tr (Td P) g.ntmps (Jl 0 ps) (Bse M0 w0) c (bodyPost P g (Ob M0 w0 res))) : Ay P f ps res := Ay.of hf hb hname.1 (Nat.le_of_ble_eq_true hname.2) h
section
variable {M0:Av} {w0:World} {S:Nat→Prop} {rs:List SR} {KX:List X→Env→List SR→Prop}
theorem xId {l:List Oper} (h:Cx P M0 w0 S n ops l E rs KX):Cx P M0 w0 S n ops l E rs KX:=h
theorem xK (k:Nat) (_:jj o=k) (h:Cx P M0 w0 S n ops (o::r) E rs KX):Cx P M0 w0 S n ops (o::r) E rs KX:=h
theorem xG (k:Nat) (_:grp o=k) (h:Cx P M0 w0 S n ops (o::r) E rs KX):Cx P M0 w0 S n ops (o::r) E rs KX:=h
end
theorem cId {l:List Oper} (h:Ch P n I ops l E K):Ch P n I ops l E K:=h
theorem mB {c:Code} (h:Tr L n E I c Q):Tr L n E I c Q:=h
theorem fId {e:Exit} (h:Fin n E I Q e):Fin n E I Q e:=h
theorem tId {l:List Oper} (h:TO P n ops l E I Q):TO P n ops l E I Q:=h
theorem ac {G H:Prop} (k:G) (h:Yv G→H:=by
 intro k
 repeat1' first
  |((with_reducible refine cId ?_);first
   |with_reducible refine Ch.nil ?_
   |(refine cP rfl ?_;first
    |(refine cS 1 rfl ?_;first
      |(refine cK 1 rfl ?_;refine cm rfl ?_)
      |(refine cK 2 rfl ?_;refine co rfl oF ?_)
      |(refine cK 3 rfl ?_;refine co rfl oL ?_)
      |(refine cK 4 rfl ?_;refine co rfl oB ?_))
    |(refine cS 2 rfl ?_;first
      |(refine cK 5 rfl ?_;refine co rfl oP ?_)
      |(refine cK 6 rfl ?_;refine co rfl oN ?_)
      |(refine cK 7 rfl ?_;refine co rfl oA ?_)
      |(refine cK 8 rfl ?_;refine co rfl oS ?_))
    |(refine cS 3 rfl ?_;first
      |(refine cK 9 rfl ?_;refine co rfl oC ?_)
      |(refine cK 10 rfl ?_;refine co rfl oU ?_)
      |(refine cK 11 rfl ?_;refine co rfl oO ?_)
      |(refine cK 12 rfl ?_;refine co rfl oE ?_)
      |(refine cK 13 rfl ?_;refine co rfl oM ?_)
      |(refine cK 14 rfl ?_;refine co rfl oD ?_)
      |(refine cK 15 rfl ?_;refine co rfl oI ?_)))
   |(refine cG rfl ?_;first
    |refine cu rfl ?_
    |refine cnt DE rfl ?_
    |refine cnf DE rfl ?_
    |(refine cS 1 rfl ?_;first
      |(refine cK 1 rfl ?_;refine L5 EY rfl ?_)
      |(refine cK 2 rfl ?_;refine cy EY rfl oF ?_)
      |(refine cK 3 rfl ?_;refine cy EY rfl oL ?_)
      |(refine cK 4 rfl ?_;refine cy EY rfl oB ?_))
    |(refine cS 2 rfl ?_;first
      |(refine cK 5 rfl ?_;refine cy EY rfl oP ?_)
      |(refine cK 6 rfl ?_;refine cy EY rfl oN ?_)
      |(refine cK 7 rfl ?_;refine cy EY rfl oA ?_)
      |(refine cK 8 rfl ?_;refine cy EY rfl oS ?_))
    |(refine cS 3 rfl ?_;first
      |(refine cK 9 rfl ?_;refine cy EY rfl oC ?_)
      |(refine cK 10 rfl ?_;refine cy EY rfl oU ?_)
      |(refine cK 11 rfl ?_;refine cy EY rfl oO ?_)
      |(refine cK 12 rfl ?_;refine cy EY rfl oE ?_)
      |(refine cK 13 rfl ?_;refine cy EY rfl oM ?_)
      |(refine cK 14 rfl ?_;refine cy EY rfl oD ?_)
      |(refine cK 15 rfl ?_;refine cy EY rfl oI ?_))
    |refine cnd rfl rfl ?_))
  |((with_reducible refine mB ?_);first
   |with_reducible refine Tr.seq ?_
   |with_reducible refine Tr.CL ?_
   |refine Tr.rm BD ?_
   |with_reducible refine Tr.skip ?_
   |with_reducible refine Tr.block ?_
   |with_reducible refine Tr.ret ?_
   |with_reducible refine Tr.exit ?_
   |refine Tr.ct rfl ?_
   |refine Tr.cf rfl ?_)
  |((with_reducible refine fId ?_);first
   |with_reducible refine Fin.AL ?_
   |with_reducible refine Fin.Bb ?_
   |with_reducible refine Fin.BH ?_
   |with_reducible refine Fin.Bu ?_
   |refine Fin.NS rfl ?_
   |with_reducible refine Fin.block ?_
   |refine Fin.bN rfl (Cd.F_ _ _) rfl ?_)
 first|with_reducible refine Fin.go ?_|with_reducible refine cId ?_|with_reducible refine tId ?_|with_reducible refine mB ?_|refine Fin.go ?_|skip
 exact k.k):H:=h ⟨k⟩
theorem ao {G H:Prop} (k:G) (h:Yv G→H:=by
 intro k
 repeat1' first
  |((with_reducible refine tId ?_);first
   |with_reducible refine TO.nil ?_
   |(refine tG 1 rfl ?_;first
     |(refine tK 1 rfl ?_;refine tm rfl ?_)
     |(refine tK 2 rfl ?_;refine tp rfl oF ?_)
     |(refine tK 3 rfl ?_;refine tp rfl oL ?_)
     |(refine tK 4 rfl ?_;refine tp rfl oB ?_))
   |(refine tG 2 rfl ?_;first
     |(refine tK 5 rfl ?_;refine tp rfl oP ?_)
     |(refine tK 6 rfl ?_;refine tp rfl oN ?_)
     |(refine tK 7 rfl ?_;refine tp rfl oA ?_)
     |(refine tK 8 rfl ?_;refine tp rfl oS ?_))
   |(refine tG 3 rfl ?_;first
     |(refine tK 9 rfl ?_;refine tp rfl oC ?_)
     |(refine tK 10 rfl ?_;refine tp rfl oU ?_)
     |(refine tK 12 rfl ?_;refine tp rfl oE ?_)
     |(refine tK 13 rfl ?_;refine tp rfl oM ?_)
     |(refine tK 14 rfl ?_;refine tp rfl oD ?_)
     |(refine tK 15 rfl ?_;refine tp rfl oI ?_)))
  |((with_reducible refine mB ?_);first
   |with_reducible refine Tr.seq ?_
   |with_reducible refine Tr.BL ?_
   |with_reducible refine Tr.skip ?_
   |with_reducible refine Tr.block ?_
   |with_reducible refine Tr.ret ?_
   |with_reducible refine Tr.exit ?_)
  |((with_reducible refine fId ?_);first
   |with_reducible refine Fin.AL ?_
   |with_reducible refine Fin.Bb ?_
   |with_reducible refine Fin.BH ?_
   |with_reducible refine Fin.Bu ?_
   |refine Fin.NS rfl ?_
   |with_reducible refine Fin.block ?_)
 first|with_reducible refine Fin.go ?_|with_reducible refine cId ?_|with_reducible refine tId ?_|with_reducible refine mB ?_|refine Fin.go ?_|skip
 exact k.k):H:=h ⟨k⟩
theorem ap {G H:Prop} (k:G) (h:Yv G→H:=by
 intro k
 repeat1' first
  |((with_reducible refine tId ?_);first
   |with_reducible refine TO.nil ?_
   |(refine tG 1 rfl ?_;first
     |(refine tK 1 rfl ?_;refine tm rfl ?_)
     |(refine tK 2 rfl ?_;refine tp rfl oF ?_)
     |(refine tK 3 rfl ?_;refine tp rfl oL ?_)
     |(refine tK 4 rfl ?_;refine tp rfl oB ?_))
   |(refine tG 2 rfl ?_;first
     |(refine tK 5 rfl ?_;refine tp rfl oP ?_)
     |(refine tK 6 rfl ?_;refine tp rfl oN ?_)
     |(refine tK 7 rfl ?_;refine tp rfl oA ?_)
     |(refine tK 8 rfl ?_;refine tp rfl oS ?_))
   |(refine tG 3 rfl ?_;first
     |(refine tK 9 rfl ?_;refine tp rfl oC ?_)
     |(refine tK 10 rfl ?_;refine tp rfl oU ?_)
     |(refine tK 12 rfl ?_;refine tp rfl oE ?_)
     |(refine tK 13 rfl ?_;refine tp rfl oM ?_)
     |(refine tK 14 rfl ?_;refine tp rfl oD ?_)
     |(refine tK 15 rfl ?_;refine tp rfl oI ?_))
   |(refine tK 16 rfl ?_;first
    |refine sa 0 ⟨rfl,rfl,rfl⟩ rfl rfl rfl ?_
    |refine TO.D7 0 rfl rfl (SG rfl rfl rfl rfl) ?_
    |refine sa 1 ⟨rfl,rfl,rfl⟩ rfl rfl rfl ?_
    |refine TO.D7 1 rfl rfl (SG rfl rfl rfl rfl) ?_
    |refine sa 2 ⟨rfl,rfl,rfl⟩ rfl rfl rfl ?_
    |refine TO.D7 2 rfl rfl (SG rfl rfl rfl rfl) ?_
    |refine sa 3 ⟨rfl,rfl,rfl⟩ rfl rfl rfl ?_
    |refine TO.D7 3 rfl rfl (SG rfl rfl rfl rfl) ?_))
  |((with_reducible refine mB ?_);first
   |with_reducible refine Tr.seq ?_
   |with_reducible refine Tr.BL ?_
   |with_reducible refine Tr.skip ?_
   |with_reducible refine Tr.block ?_
   |with_reducible refine Tr.ret ?_
   |with_reducible refine Tr.exit ?_)
  |((with_reducible refine fId ?_);first
   |with_reducible refine Fin.AL ?_
   |with_reducible refine Fin.Bb ?_
   |with_reducible refine Fin.BH ?_
   |with_reducible refine Fin.Bu ?_
   |refine Fin.NS rfl ?_
   |with_reducible refine Fin.block ?_)
 first|with_reducible refine Fin.go ?_|with_reducible refine cId ?_|with_reducible refine tId ?_|with_reducible refine mB ?_|refine Fin.go ?_|skip
 exact k.k):H:=h ⟨k⟩
theorem ax {G H:Prop} (k:G) (h:Yv G→H:=by
 intro k
 repeat ((with_reducible refine xId ?_);first
   |(refine xG 1 rfl ?_;first
     |(refine xK 1 rfl ?_;refine xm rfl ?_)
     |(refine xK 2 rfl ?_;refine xo rfl (fun _=>oF) ?_)
     |(refine xK 3 rfl ?_;refine xo rfl (fun _=>oL) ?_)
     |(refine xK 4 rfl ?_;refine xo rfl (fun _=>oB) ?_))
   |(refine xG 2 rfl ?_;first
     |(refine xK 5 rfl ?_;refine xo rfl (fun _=>oP) ?_)
     |(refine xK 6 rfl ?_;refine xo rfl (fun _=>oN) ?_)
     |(refine xK 7 rfl ?_;refine xo rfl (fun _=>oA) ?_)
     |(refine xK 8 rfl ?_;refine xo rfl (fun _=>oS) ?_))
   |(refine xG 3 rfl ?_;first
     |(refine xK 9 rfl ?_;refine xo rfl (fun _=>oC) ?_)
     |(refine xK 10 rfl ?_;refine xo rfl (fun _=>oU) ?_)
     |(refine xK 11 rfl ?_;refine xo rfl (fun _=>oO) ?_)
     |(refine xK 12 rfl ?_;refine xo rfl (fun _=>oE) ?_)
     |(refine xK 13 rfl ?_;refine xo rfl (fun _=>oM) ?_)
     |(refine xK 14 rfl ?_;refine xo rfl (fun _=>oD) ?_))
   |(refine xK 3 rfl ?_;first
    |refine IC 0 rfl rfl (J9 rfl rfl rfl) ?_
    |refine IC 0 rfl rfl (J_ rfl rfl rfl rfl) ?_
    |refine IC 1 rfl rfl (J9 rfl rfl rfl) ?_
    |refine IC 1 rfl rfl (J_ rfl rfl rfl rfl) ?_
    |refine IC 2 rfl rfl (J9 rfl rfl rfl) ?_
    |refine IC 2 rfl rfl (J_ rfl rfl rfl rfl) ?_
    |refine IC 3 rfl rfl (J9 rfl rfl rfl) ?_
    |refine IC 3 rfl rfl (J_ rfl rfl rfl rfl) ?_
    |refine IC 4 rfl rfl (J9 rfl rfl rfl) ?_
    |refine IC 4 rfl rfl (J_ rfl rfl rfl rfl) ?_))
 exact k.k):H:=h ⟨k⟩
theorem ay {G H:Prop} (k:G) (h:Yv G→H:=by
 intro k
 repeat ((with_reducible refine xId ?_);first
   |(refine xG 1 rfl ?_;first
     |(refine xK 1 rfl ?_;refine xm rfl ?_)
     |(refine xK 2 rfl ?_;refine xo rfl (fun _=>oF) ?_)
     |(refine xK 3 rfl ?_;refine xo rfl (fun _=>oL) ?_)
     |(refine xK 4 rfl ?_;refine xo rfl (fun _=>oB) ?_))
   |(refine xG 2 rfl ?_;first
     |(refine xK 5 rfl ?_;refine xo rfl (fun _=>oP) ?_)
     |(refine xK 6 rfl ?_;refine xo rfl (fun _=>oN) ?_)
     |(refine xK 7 rfl ?_;refine xo rfl (fun _=>oA) ?_)
     |(refine xK 8 rfl ?_;refine xo rfl (fun _=>oS) ?_))
   |(refine xG 3 rfl ?_;first
     |(refine xK 9 rfl ?_;refine xo rfl (fun _=>oC) ?_)
     |(refine xK 10 rfl ?_;refine xo rfl (fun _=>oU) ?_)
     |(refine xK 11 rfl ?_;refine xo rfl (fun _=>oO) ?_)
     |(refine xK 12 rfl ?_;refine xo rfl (fun _=>oE) ?_)
     |(refine xK 13 rfl ?_;refine xo rfl (fun _=>oM) ?_)
     |(refine xK 14 rfl ?_;refine xo rfl (fun _=>oD) ?_))
   |(refine xK 3 rfl ?_;first
    |refine IC 0 rfl rfl (J9 rfl rfl rfl) ?_
    |refine IC 0 rfl rfl (J_ rfl rfl rfl rfl) ?_
    |refine IC 1 rfl rfl (J9 rfl rfl rfl) ?_
    |refine IC 1 rfl rfl (J_ rfl rfl rfl rfl) ?_
    |refine IC 2 rfl rfl (J9 rfl rfl rfl) ?_
    |refine IC 2 rfl rfl (J_ rfl rfl rfl rfl) ?_
    |refine IC 3 rfl rfl (J9 rfl rfl rfl) ?_
    |refine IC 3 rfl rfl (J_ rfl rfl rfl rfl) ?_
    |refine IC 4 rfl rfl (J9 rfl rfl rfl) ?_
    |refine IC 4 rfl rfl (J_ rfl rfl rfl rfl) ?_)
   |(refine xK 16 rfl ?_;first
    |refine Cx.D7 0 rfl rfl (SG rfl rfl rfl rfl) ?_
    |refine Cx.D7 1 rfl rfl (SG rfl rfl rfl rfl) ?_
    |refine Cx.D7 2 rfl rfl (SG rfl rfl rfl rfl) ?_
    |refine Cx.D7 3 rfl rfl (SG rfl rfl rfl rfl) ?_))
 exact k.k):H:=h ⟨k⟩
theorem Ch.cg {l:List Oper} {b v:Bool} {g j:Nat} {pt pf:Prop} [ht:F4 b true pt] [hf:F4 b false pf] (_:o.guard=some (j,v)) (_:(ops[j]?.bind (·.dst))=some g) (hb:E.lookup g=some (bool b)) (k:b=true→pt→Ch P n I ops (o::l) E K) (k':b=false→pf→Ch P n I ops (o::l) E K):Ch P n I ops (o::l) E K:=Ch.cases g hb (fun h=>k h (ht.IB h)) (fun h=>k' h (hf.IB h))
theorem a2 {G H:Prop} (k:G) (h:Yv G→H:=by
 intro k
 iterate 2 refine ac ?_
 exact k.k):H:=h ⟨k⟩
theorem a3 {G H:Prop} (k:G) (h:Yv G→H:=by
 intro k
 iterate 3 refine ac ?_
 exact k.k):H:=h ⟨k⟩
theorem an {G L H:Prop} (k:G) (l:L) (h:Yv G→Yv L→H:=by
 intro k l
 refine ac ?_
 refine Tr.cn rfl ?_ ?_
 exact k.k
 exact l.k):H:=h ⟨k⟩ ⟨l⟩
theorem ag {G L H:Prop} (k:G) (l:L) (h:Yv G→Yv L→H:=by
 intro k l
 refine ac ?_
 refine Ch.cg rfl rfl rfl ?_ ?_
 exact k.k
 exact l.k):H:=h ⟨k⟩ ⟨l⟩
theorem Lr {p:Pr}:Pr.le p p:=Pr.le_refl p
theorem Vo {p:Pr} [One p] (h:Cm E x=some p):VL E x (DR [p]):=VL.le (vl h) (AP p)
theorem Va (h:Cm E x=some (agg ps)):VL E x (DR ps):=VL.le (vl h) (AY ps)
theorem Nb {a b:Nat} (h:Nat.ble a b=true):a≤b:=Nat.le_of_ble_eq_true h
theorem Kf {z:Nat} {l:List (List Pr)} (h:Cm E x=some (full z l)):VL E x (slice z l):=⟨_,h,BC z l⟩
theorem Ka (h:Cm E x=some (Ao v p)):VL E x (is v):=⟨_,h,Cz v p⟩
theorem Kb (h:Cm E x=some (Ao v p)):VL E x p:=⟨_,h,BF v p⟩
theorem CX {p:Pr} [One p] (h:Cm E x=some p:=by exact rfl):VL E x (DR [p]):=Vo h
theorem CS (h:Cm E x=some (agg ps):=by exact rfl):VL E x (DR ps):=Va h
theorem E9 {z:Nat} {l:List (List Pr)} (h:Cm E x=some (full z l):=by exact rfl):VL E x (slice z l):=Kf h
theorem Er (h:Cm E x=some (Ao v p):=by exact rfl):VL E x (is v):=Ka h
theorem L9 (h:Cm E x=some (Ao v p):=by exact rfl):VL E x p:=Kb h
theorem Tl {M0:Av} {S:Nat→Prop} (hg:o.guard=none) (hd:o.dst=some d) (hn:Nat.blt d n=true) (ho:o.op= .alloc T) (hz:BS P T=some zs) (h1':zs.all (·.oneCell')=true) (k:∀b,TO P n ops r ((d,is (.pointer (some ⟨b,0,none⟩)))::E) (Hp M0 w0 S (AE true b T (zs.map is)::rs)) Q):TO P n ops (o::r) E (Hp M0 w0 S rs) Q:=TO.alloc hg hd (Gr hn) ho hz h1' k
theorem Dy {M0:Av} {S:Nat→Prop} {t e:TypeId} {sz bytes:Nat} {rows':List (List Pr)} {R:SR} (hg:o.guard=none) (hd:o.dst=some d) (hn:Nat.blt d n=true) (ho:o.op= .call { callee:= .builtin .append,args:= #[x,y],argTypes:= #[t,t] }) (ht:P.underlying t=some (.slice e)) (hz:Al P e=some sz) (hby:CC P e=some bytes) (DD:BS P e=some zs) (hx:VL E x (slice sz rows)) (hy:VL E y (slice sz rows')) (hR:∀M w (a:Act),Cq M w E o a→R.at_ a=Bi e sz (a.eval x)∨(R.at_ a=BW∧DF (a.eval x)=none)) (hzl:zs.length=sz:=by rfl) (hsz:Nat.blt 0 sz=true:=by rfl) (FH:rows.length+rows'.length≤maxLen:=by simp only [List.length_map,List.length_append,List.length_cons,List.length_nil,List.length_replicate,List.length_take,List.length_drop,List.length_range];unfold maxLen;omega) (hfit:(rows.length+rows'.length)*bytes≤140737488355328:=by simp only [List.length_map,List.length_append,List.length_cons,List.length_nil,List.length_replicate,List.length_take,List.length_drop,List.length_range];omega):D6 P M0 w0 S n j R ⟨d,Bi e sz⟩ o E (slice sz (rows++rows')):=G3 hg hd (Gr hn) ho ht hz hby DD hzl (Gr hsz) hx hy FH hfit hR
end
end Cp
namespace Go.Proofs.YtoodkpodinniaaaGreatDoor
open Go Cp
instance sW:TM Tryz.prog:=⟨mixed⟩
instance xu:TV Tryz.prog 3 [.int .i64 0]:=⟨z3,nj⟩
instance vT:T1 Tryz.prog 3:=⟨C1⟩
instance xO:TZ Tryz.prog 3 1:=⟨DC⟩
instance vU:T1 Tryz.prog 4:=⟨nk⟩
instance xP:TZ Tryz.prog 4 1:=⟨sz4⟩
instance bG:TU Tryz.prog 4 .bool:=⟨Tryz.underlying4⟩
instance xw:TV Tryz.prog 5 [.int .u8 0]:=⟨z5,zo5⟩
instance vV:T1 Tryz.prog 5:=⟨nq⟩
instance xQ:TZ Tryz.prog 5 1:=⟨K7⟩
instance xx:TV Tryz.prog 9 [.string (ByteArray.mk #[])]:=⟨z9,zo9⟩
instance vW:T1 Tryz.prog 9:=⟨Nq⟩
instance xR:TZ Tryz.prog 9 1:=⟨LV⟩
instance bH:TU Tryz.prog 9 .string:=⟨Tryz.underlying9⟩
instance sX:T1 Tryz.prog 22:=⟨O5⟩
instance vX:TZ Tryz.prog 22 1:=⟨Gs⟩
instance Yw:TU Tryz.prog 22 (.slice 3):=⟨Tryz.underlying22⟩
instance sY:T1 Tryz.prog 28:=⟨Rz⟩
instance vY:TZ Tryz.prog 28 1:=⟨iZ⟩
instance Yx:TU Tryz.prog 28 (.slice 79):=⟨Tryz.underlying28⟩
instance sZ:T1 Tryz.prog 29:=⟨gH⟩
instance vZ:TZ Tryz.prog 29 1:=⟨uc⟩
instance Yy:TU Tryz.prog 29 (.slice 83):=⟨Tryz.underlying29⟩
instance sj:T1 Tryz.prog 30:=⟨nr⟩
instance Yz:TU Tryz.prog 30 (.slice 86):=⟨Tryz.underlying30⟩
instance vc:TB Tryz.prog 32 (fun i=>(#[(0,1),(1,1),(2,1)]:Array (Nat×Nat))[i]?) (List.replicate 3 (.slice none 0 0)):=⟨ia,F5⟩
instance sk:TA Tryz.prog 32:=⟨DZ⟩
instance ve:TZ Tryz.prog 32 3:=⟨DL⟩
instance qB:TF Tryz.prog 32 0 0:=⟨Jr⟩
instance qC:TF Tryz.prog 32 1 1:=⟨YQ⟩
instance qD:TF Tryz.prog 32 2 2:=⟨Nr⟩
instance sn:T1 Tryz.prog 36:=⟨nu⟩
instance sq:TA Tryz.prog 38:=⟨R3⟩
instance vg:TZ Tryz.prog 38 1:=⟨YR⟩
instance qE:TF Tryz.prog 38 0 0:=⟨ig⟩
instance vh:TZ Tryz.prog 39 1:=⟨ud⟩
instance sr:T1 Tryz.prog 42:=⟨gI⟩
instance Y0:TU Tryz.prog 42 (.slice 67):=⟨Tryz.underlying42⟩
instance su:T1 Tryz.prog 43:=⟨gJ⟩
instance Y1:TU Tryz.prog 43 (.slice 225):=⟨Tryz.underlying43⟩
instance sv:TA Tryz.prog 45:=⟨O6⟩
instance vi:TZ Tryz.prog 45 3:=⟨Ql⟩
instance qF:TF Tryz.prog 45 0 0:=⟨YS⟩
instance qG:TF Tryz.prog 45 1 1:=⟨YT⟩
instance qH:TF Tryz.prog 45 2 2:=⟨YU⟩
instance Y2:TU Tryz.prog 50 (.slice 3):=⟨Tryz.underlying50⟩
instance vk:TB Tryz.prog 62 (fun i=>(#[(0,1),(1,1)]:Array (Nat×Nat))[i]?) (List.replicate 2 (.int .i64 0)):=⟨ij,Dm⟩
instance xS:TV Tryz.prog 62 (List.replicate 2 (.int .i64 0)):=⟨JG,Dm⟩
instance sy:TA Tryz.prog 62:=⟨CG⟩
instance vm:TZ Tryz.prog 62 2:=⟨DH⟩
instance qI:TF Tryz.prog 62 0 0:=⟨iq⟩
instance qJ:TF Tryz.prog 62 1 1:=⟨ir⟩
instance s7:T1 Tryz.prog 63:=⟨ny⟩
instance vn:TZ Tryz.prog 63 1:=⟨nx⟩
instance Y3:TU Tryz.prog 63 (.slice 129):=⟨Tryz.underlying63⟩
instance vo:TB Tryz.prog 65 (fun i=>(#[(0,2),(2,1),(3,1)]:Array (Nat×Nat))[i]?) [.int .i64 0,.int .i64 0,.int .i64 0,.slice none 0 0]:=⟨n5,Js⟩
instance xT:TV Tryz.prog 65 [.int .i64 0,.int .i64 0,.int .i64 0,.slice none 0 0]:=⟨LW,Js⟩
instance s8:TA Tryz.prog 65:=⟨Fe⟩
instance vp:TZ Tryz.prog 65 4:=⟨Bl⟩
instance qK:TF Tryz.prog 65 0 0:=⟨iw⟩
instance qL:TF Tryz.prog 65 1 2:=⟨iy⟩
instance qM:TF Tryz.prog 65 2 3:=⟨YV⟩
instance vr:TB Tryz.prog 67 (fun i=>(#[(0,1),(1,1),(2,1),(3,1),(4,4)]:Array (Nat×Nat))[i]?) [.int .i64 0,.int .i64 0,.int .i64 0,.int .i64 0,.int .i64 0,.int .i64 0,.int .i64 0,.slice none 0 0]:=⟨Qm,F6⟩
instance xU:TV Tryz.prog 67 [.int .i64 0,.int .i64 0,.int .i64 0,.int .i64 0,.int .i64 0,.int .i64 0,.int .i64 0,.slice none 0 0]:=⟨K8,F6⟩
instance s_:TA Tryz.prog 67:=⟨CI⟩
instance vu:TZ Tryz.prog 67 8:=⟨B0⟩
instance qN:TF Tryz.prog 67 0 0:=⟨YW⟩
instance qO:TF Tryz.prog 67 1 1:=⟨GH⟩
instance qP:TF Tryz.prog 67 2 2:=⟨Jt⟩
instance qQ:TF Tryz.prog 67 3 3:=⟨Ju⟩
instance qR:TF Tryz.prog 67 4 4:=⟨Qn⟩
instance vv:TB Tryz.prog 72 (fun i=>(#[(0,1),(1,1)]:Array (Nat×Nat))[i]?) [.slice none 0 0,.int .i64 0]:=⟨uf,ug⟩
instance qS:TF Tryz.prog 72 0 0:=⟨iz⟩
instance qT:TF Tryz.prog 72 1 1:=⟨i6⟩
instance tC:T1 Tryz.prog 73:=⟨n8⟩
instance vw:TZ Tryz.prog 73 1:=⟨n7⟩
instance Y4:TU Tryz.prog 73 (.slice 9):=⟨Tryz.underlying73⟩
instance tD:T1 Tryz.prog 76:=⟨gK⟩
instance v8:TZ Tryz.prog 76 1:=⟨uh⟩
instance tE:T1 Tryz.prog 77:=⟨gL⟩
instance v_:TZ Tryz.prog 77 1:=⟨R4⟩
instance Y5:TU Tryz.prog 77 (.slice 65):=⟨Tryz.underlying77⟩
instance wA:TB Tryz.prog 79 (fun i=>(#[(0,1),(1,1),(2,1),(3,1),(4,1),(5,1),(6,1),(7,1),(8,1)]:Array (Nat×Nat))[i]?) [.string (ByteArray.mk #[]),.int .i64 0,.int .i64 0,.slice none 0 0,.bool false,.slice none 0 0,.slice none 0 0,.slice none 0 0,.bool false]:=⟨bu,Dn⟩
instance tF:TA Tryz.prog 79:=⟨Bv⟩
instance wB:TZ Tryz.prog 79 9:=⟨Ba⟩
instance qU:TF Tryz.prog 79 0 0:=⟨YX⟩
instance qV:TF Tryz.prog 79 1 1:=⟨i7⟩
instance qW:TF Tryz.prog 79 2 2:=⟨YY⟩
instance qX:TF Tryz.prog 79 3 3:=⟨Fu⟩
instance qY:TF Tryz.prog 79 4 4:=⟨i9⟩
instance qZ:TF Tryz.prog 79 5 5:=⟨GI⟩
instance qa:TF Tryz.prog 79 6 6:=⟨Jv⟩
instance qb:TF Tryz.prog 79 7 7:=⟨Jw⟩
instance qc:TF Tryz.prog 79 8 8:=⟨i_⟩
instance wC:TB Tryz.prog 83 (fun i=>(#[(0,1),(1,1)]:Array (Nat×Nat))[i]?) (List.replicate 2 (.int .i64 0)):=⟨uk,bw⟩
instance xV:TV Tryz.prog 83 (List.replicate 2 (.int .i64 0)):=⟨lq,bw⟩
instance tH:TA Tryz.prog 83:=⟨VT⟩
instance wD:TZ Tryz.prog 83 2:=⟨Ig⟩
instance qd:TF Tryz.prog 83 0 0:=⟨jB⟩
instance qg:TF Tryz.prog 83 1 1:=⟨jC⟩
instance tI:T1 Tryz.prog 84:=⟨n9⟩
instance Y6:TU Tryz.prog 84 (.slice 134):=⟨Tryz.underlying84⟩
instance wE:TB Tryz.prog 86 (fun i=>(#[(0,1),(1,1),(2,1),(3,1),(4,1)]:Array (Nat×Nat))[i]?) [.string (ByteArray.mk #[]),.int .i64 0,.int .i64 0,.slice none 0 0,.int .i64 0]:=⟨um,WL⟩
instance xW:TV Tryz.prog 86 [.string (ByteArray.mk #[]),.int .i64 0,.int .i64 0,.slice none 0 0,.int .i64 0]:=⟨YZ,WL⟩
instance tJ:TA Tryz.prog 86:=⟨Nt⟩
instance wF:TZ Tryz.prog 86 5:=⟨GJ⟩
instance qh:TF Tryz.prog 86 0 0:=⟨jE⟩
instance qi:TF Tryz.prog 86 1 1:=⟨jF⟩
instance qj:TF Tryz.prog 86 2 2:=⟨jG⟩
instance ql:TF Tryz.prog 86 3 3:=⟨Qo⟩
instance qm:TF Tryz.prog 86 4 4:=⟨jH⟩
instance tL:T1 Tryz.prog 90:=⟨n_⟩
instance qn:T1 Tryz.prog 103:=⟨jI⟩
instance tM:TB Tryz.prog 105 (fun i=>(#[(0,1),(1,1),(2,1)]:Array (Nat×Nat))[i]?) (List.replicate 3 (.slice none 0 0)):=⟨oH,oJ⟩
instance qo:TA Tryz.prog 105:=⟨jJ⟩
instance tN:TZ Tryz.prog 105 3:=⟨oG⟩
instance mC:TF Tryz.prog 105 0 0:=⟨b_⟩
instance mD:TF Tryz.prog 105 1 1:=⟨VU⟩
instance mE:TF Tryz.prog 105 2 2:=⟨VV⟩
instance qp:T1 Tryz.prog 106:=⟨jK⟩
instance qq:T1 Tryz.prog 107:=⟨jL⟩
instance tO:TB Tryz.prog 109 (fun i=>(#[(0,1),(1,1)]:Array (Nat×Nat))[i]?) (List.replicate 2 (.slice none 0 0)):=⟨oQ,oV⟩
instance qt:TA Tryz.prog 109:=⟨jM⟩
instance tP:TZ Tryz.prog 109 2:=⟨oK⟩
instance mF:TF Tryz.prog 109 0 0:=⟨cA⟩
instance mG:TF Tryz.prog 109 1 1:=⟨cB⟩
instance tQ:TB Tryz.prog 111 (fun i=>(#[(0,1),(1,1)]:Array (Nat×Nat))[i]?) [.slice none 0 0,.int .i64 0]:=⟨oX,oY⟩
instance qu:TA Tryz.prog 111:=⟨jN⟩
instance tT:TZ Tryz.prog 111 2:=⟨oW⟩
instance tU:TB Tryz.prog 127 (fun i=>(#[(0,1),(1,1)]:Array (Nat×Nat))[i]?) (List.replicate 2 (.int .i64 0)):=⟨oa,og⟩
instance qv:TA Tryz.prog 127:=⟨jO⟩
instance tV:TZ Tryz.prog 127 2:=⟨oZ⟩
instance mH:TF Tryz.prog 127 0 0:=⟨cC⟩
instance mI:TF Tryz.prog 127 1 1:=⟨cE⟩
instance wG:TV Tryz.prog 129 [.int .i64 0,.string (ByteArray.mk #[]),.string (ByteArray.mk #[]),.int .i64 0,.int .i64 0,.int .i64 0,.int .i64 0,.int .i64 0,.int .i64 0,.int .i64 0,.bool false,.int .i64 0,.slice none 0 0,.int .i64 0,.int .i64 0]:=⟨Qp,L6⟩
instance qw:TA Tryz.prog 129:=⟨HT⟩
instance tW:TZ Tryz.prog 129 15:=⟨Df⟩
instance mJ:TF Tryz.prog 129 0 0:=⟨cF⟩
instance mK:TF Tryz.prog 129 1 1:=⟨cH⟩
instance jk:TF Tryz.prog 129 10 12:=⟨R5⟩
instance jl:TF Tryz.prog 129 11 13:=⟨Ya⟩
instance mL:TF Tryz.prog 129 2 2:=⟨cI⟩
instance mM:TF Tryz.prog 129 3 3:=⟨cJ⟩
instance mN:TF Tryz.prog 129 4 5:=⟨cL⟩
instance mO:TF Tryz.prog 129 5 6:=⟨cM⟩
instance mP:TF Tryz.prog 129 6 8:=⟨cN⟩
instance mQ:TF Tryz.prog 129 7 9:=⟨cO⟩
instance mR:TF Tryz.prog 129 8 10:=⟨cQ⟩
instance mS:TF Tryz.prog 129 9 11:=⟨cR⟩
instance Xe:TU Tryz.prog 132 (.slice 62):=⟨Tryz.underlying132⟩
instance tX:TB Tryz.prog 134 (fun i=>(#[(0,2),(2,1)]:Array (Nat×Nat))[i]?) (List.replicate 3 (.int .i64 0)):=⟨om,Yc⟩
instance wH:TV Tryz.prog 134 (List.replicate 3 (.int .i64 0)):=⟨Yd,Yc⟩
instance qx:TA Tryz.prog 134:=⟨Tu⟩
instance tY:TZ Tryz.prog 134 3:=⟨E3⟩
instance mT:TF Tryz.prog 134 0 0:=⟨cT⟩
instance mU:TF Tryz.prog 134 1 2:=⟨cU⟩
instance qy:T1 Tryz.prog 145:=⟨jP⟩
instance qz:T1 Tryz.prog 185:=⟨jQ⟩
instance tZ:TZ Tryz.prog 185 1:=⟨oo⟩
instance Xf:TU Tryz.prog 185 (.slice 5):=⟨Tryz.underlying185⟩
instance wI:TV Tryz.prog 225 (List.replicate 2 (.int .i64 0)):=⟨uo,oq⟩
instance td:TZ Tryz.prog 225 2:=⟨gN⟩
instance q_:T1 Tryz.prog 239:=⟨jR⟩
instance rA:T1 Tryz.prog 243:=⟨jS⟩
instance tg:TB Tryz.prog 248 (fun i=>(#[(0,1),(1,1),(2,2),(4,2),(6,2),(8,2),(10,1),(11,1)]:Array (Nat×Nat))[i]?) [.int .i64 0,.string (ByteArray.mk #[]),.int .i64 0,.int .i64 0,.int .i64 0,.int .i64 0,.int .i64 0,.int .i64 0,.int .i64 0,.int .i64 0,.int .i64 0,.int .i64 0]:=⟨Ye,L7⟩
instance rB:TA Tryz.prog 248:=⟨Ih⟩
instance th:TZ Tryz.prog 248 12:=⟨GK⟩
instance rC:T1 Tryz.prog 256:=⟨Jx⟩
instance rD:T1 Tryz.prog 257:=⟨Jy⟩
instance tj:TB Tryz.prog 259 (fun i=>(#[(0,1),(1,8),(9,8)]:Array (Nat×Nat))[i]?) [.pointer none,.int .i64 0,.int .i64 0,.int .i64 0,.int .i64 0,.int .i64 0,.int .i64 0,.int .i64 0,.slice none 0 0,.int .i64 0,.int .i64 0,.int .i64 0,.int .i64 0,.int .i64 0,.int .i64 0,.int .i64 0,.slice none 0 0]:=⟨ox,oy⟩
instance mV:TF Tryz.prog 259 0 0:=⟨HU⟩
instance mW:TF Tryz.prog 259 1 1:=⟨DN⟩
instance mX:TF Tryz.prog 259 2 9:=⟨cW⟩
instance tq:TB Tryz.prog 261 (fun i=>some (i*1,1)) (List.replicate 13 (.nilFunc)):=⟨oz,gR⟩
instance tr:TZ Tryz.prog 261 13:=⟨gQ⟩
instance rE:T1 Tryz.prog 266:=⟨Yf⟩
instance tu:TZ Tryz.prog 266 1:=⟨o9⟩
instance tv:TB Tryz.prog 268 (fun i=>(#[(0,1),(1,1),(2,1),(3,1)]:Array (Nat×Nat))[i]?) [.int .i64 0,.slice none 0 0,.bool false,.slice none 0 0]:=⟨Yg,Ja⟩
instance rF:TA Tryz.prog 268:=⟨C2⟩
instance tw:TZ Tryz.prog 268 4:=⟨CR⟩
instance mY:TF Tryz.prog 268 0 0:=⟨cX⟩
instance mZ:TF Tryz.prog 268 1 1:=⟨cY⟩
instance me:TF Tryz.prog 268 2 2:=⟨cZ⟩
instance mg:TF Tryz.prog 268 3 3:=⟨VW⟩
instance rG:T1 Tryz.prog 313:=⟨jU⟩
instance mh:TF Tryz.prog 315 1 1:=⟨cj⟩
instance t_:TB Tryz.prog 322 (fun i=>(#[(0,1),(1,1)]:Array (Nat×Nat))[i]?) [.string (ByteArray.mk #[]),.int .i64 0]:=⟨pF,gU⟩
instance wJ:TV Tryz.prog 322 [.string (ByteArray.mk #[]),.int .i64 0]:=⟨uu,gU⟩
instance uA:TZ Tryz.prog 322 2:=⟨gT⟩
instance mj:TF Tryz.prog 322 1 1:=⟨ck⟩
instance Xg:TU Tryz.prog 323 (.slice 322):=⟨Tryz.underlying323⟩
instance uB:TB Tryz.prog 354 (fun i=>(#[(0,1),(1,1),(2,1),(3,1),(4,1)]:Array (Nat×Nat))[i]?) [.string (ByteArray.mk #[]),.int .i64 0,.int .i64 0,.slice none 0 0,.slice none 0 0]:=⟨Dv,DU⟩
instance uC:TZ Tryz.prog 354 5:=⟨O7⟩
instance mm:TF Tryz.prog 354 1 1:=⟨cq⟩
instance mo:TF Tryz.prog 354 2 2:=⟨cr⟩
instance mq:TF Tryz.prog 354 3 3:=⟨cv⟩
instance mu:TF Tryz.prog 354 4 4:=⟨cw⟩
instance uD:TB Tryz.prog 396 (fun i=>some (i*5,5)) [.string (ByteArray.mk #[]),.int .i64 0,.int .i64 0,.slice none 0 0,.slice none 0 0,.string (ByteArray.mk #[]),.int .i64 0,.int .i64 0,.slice none 0 0,.slice none 0 0,.string (ByteArray.mk #[]),.int .i64 0,.int .i64 0,.slice none 0 0,.slice none 0 0,.string (ByteArray.mk #[]),.int .i64 0,.int .i64 0,.slice none 0 0,.slice none 0 0,.string (ByteArray.mk #[]),.int .i64 0,.int .i64 0,.slice none 0 0,.slice none 0 0,.string (ByteArray.mk #[]),.int .i64 0,.int .i64 0,.slice none 0 0,.slice none 0 0,.string (ByteArray.mk #[]),.int .i64 0,.int .i64 0,.slice none 0 0,.slice none 0 0,.string (ByteArray.mk #[]),.int .i64 0,.int .i64 0,.slice none 0 0,.slice none 0 0,.string (ByteArray.mk #[]),.int .i64 0,.int .i64 0,.slice none 0 0,.slice none 0 0,.string (ByteArray.mk #[]),.int .i64 0,.int .i64 0,.slice none 0 0,.slice none 0 0,.string (ByteArray.mk #[]),.int .i64 0,.int .i64 0,.slice none 0 0,.slice none 0 0,.string (ByteArray.mk #[]),.int .i64 0,.int .i64 0,.slice none 0 0,.slice none 0 0,.string (ByteArray.mk #[]),.int .i64 0,.int .i64 0,.slice none 0 0,.slice none 0 0,.string (ByteArray.mk #[]),.int .i64 0,.int .i64 0,.slice none 0 0,.slice none 0 0,.string (ByteArray.mk #[]),.int .i64 0,.int .i64 0,.slice none 0 0,.slice none 0 0,.string (ByteArray.mk #[]),.int .i64 0,.int .i64 0,.slice none 0 0,.slice none 0 0,.string (ByteArray.mk #[]),.int .i64 0,.int .i64 0,.slice none 0 0,.slice none 0 0,.string (ByteArray.mk #[]),.int .i64 0,.int .i64 0,.slice none 0 0,.slice none 0 0,.string (ByteArray.mk #[]),.int .i64 0,.int .i64 0,.slice none 0 0,.slice none 0 0,.string (ByteArray.mk #[]),.int .i64 0,.int .i64 0,.slice none 0 0,.slice none 0 0,.string (ByteArray.mk #[]),.int .i64 0,.int .i64 0,.slice none 0 0,.slice none 0 0,.string (ByteArray.mk #[]),.int .i64 0,.int .i64 0,.slice none 0 0,.slice none 0 0,.string (ByteArray.mk #[]),.int .i64 0,.int .i64 0,.slice none 0 0,.slice none 0 0]:=⟨pG,gW⟩
instance uE:TZ Tryz.prog 396 115:=⟨gV⟩
instance uF:TB Tryz.prog 398 (fun i=>some (i*1,1)) (List.replicate 2 (.int .i64 0)):=⟨pH,gY⟩
instance uG:TZ Tryz.prog 398 2:=⟨gX⟩
instance uH:TB Tryz.prog 399 (fun i=>some (i*2,2)) (List.replicate 10 (.int .i64 0)):=⟨pI,pJ⟩
end Go.Proofs.YtoodkpodinniaaaGreatDoor
namespace Go.Proofs.YtoodkpodinniaaaGreatDoor
open Go Go.RowKit Cp Go.Proofs.Tryz
variable {l:List Int} {k:Nat}
abbrev ints (l:List Int):Pr:=slice 1 (l.map fun n=>[int n])
def idx {β:Type} (p:β→Bool) (l:List β):Int:=match l.findIdx? p with|some i=>i|none=> -1
theorem FN {β:Type} {p:β→Bool} {l:List β} {x:β} (hx:l[k]? =some x) (hp:p x=true) (h:∀j y,j<k→l[j]? =some y→p y=false):(k:Int)=idx p l:=by
 have:l.findIdx? p=some k:=by
  rw [List.findIdx?_eq_some_iff_getElem]
  have hk:k<l.length:=by rcases Nat.lt_or_ge k l.length with h|h;exact h;rw [List.getElem?_eq_none h] at hx;cases hx
  rw [List.getElem?_eq_getElem hk] at hx
  simp only [Option.some.injEq] at hx
  refine ⟨hk,by rw [hx];exact hp,fun j hj=> ?_⟩
  simpa using h j _ hj (List.getElem?_eq_getElem AA)
 unfold idx;rw [this]
theorem KY {β:Type} {p:β→Bool} {l:List β} (h:∀j y,j<l.length→l[j]? =some y→p y=false):(-1:Int)=idx p l:=by
 have:l.findIdx? p=none:=by
  rw [List.findIdx?_eq_none_iff]
  intro x hx
  obtain ⟨j,hj,rfl⟩:=List.mem_iff_getElem.1 hx
  exact h j _ hj (List.getElem?_eq_getElem hj)
 unfold idx;rw [this]
theorem Kr {β:Type} (p:β→Bool) (l:List β):decide (idx p l≥0)=l.any p:=by
 unfold idx
 cases h:l.findIdx? p with
 |none=>rw [List.findIdx?_eq_none_iff] at h;simp;intro x hx;simpa using h x hx
 |some i=>
  rw [List.findIdx?_eq_some_iff_getElem] at h
  obtain ⟨h1,h2,_⟩:=h
  simp
  exact ⟨_,List.getElem_mem h1,h2⟩
theorem Dc {β:Type} {p:β→Bool} {l:List β} {x:β} (hx:l[k]? =some x) (hp:p x=false) (h:∀j y,j<k→l[j]? =some y→p y=false):∀j y,j<k+1→l[j]? =some y→p y=false:=by
 intro j y hj hy
 by_cases hjk:j=k
 · subst hjk;rw [hx] at hy;cases hy;exact hp
 · exact h j y AA hy
theorem Qy {p:Int→Bool}:Ay prog 171 [ints l,VG prog (fun x:Int=>[int x]) (fun x=>bool (p x))] (int (idx p l)):=by
 refine fo func171 rfl ⟨rfl,rfl⟩ fun M0 w0=>(Tr.Ed 0 rfl fun Fh=> ?_)
 refine a2 ?_
 refine Tr.block (Tr.Bc _ (kk [7,1,0] rfl) (fun k:Nat=>[(8,int ((k:Nat):Int))]) (fun k:Nat=>k≤(l).length∧(∀j y,j<k→l[j]? =some y→p y=false)) (fun k:Nat=>(l).length-k) 0 (⟨Nat.zero_le _,fun j y hj=>absurd hj AA⟩) kz ?_)
 rintro k ⟨Be,AU⟩
 refine ac ?_
 refine Tr.seq ?_
 refine Tr.cn rfl ?_ ?_<;>intro h1 q1
 have Ae:k<(l).length:=AV h1
 obtain ⟨x,Af⟩:=at_ Ae
 · repeat' first|exact int_eq (FN Af DE AU)|exact Fin.AQ (k+1) ⟨⟨Ae,Dc Af DE AU⟩,by omega⟩ ⟨⟨_,rfl,AO k⟩,kz⟩|refine co rfl (AD rfl underlying22 DC vq vq AA DP) ?_|refine co rfl (GX rfl C1 rfl) (co rfl (Gz x rfl vq kz) ?_)|refine ac ?_|(refine Tr.cn rfl ?_ ?_<;>intro h q)
 have BM:k=(l).length:=by have:=AW h1;omega
 subst BM
 refine a3 ?_
 · exact MZ
theorem IE {p:Int→Bool}:Ay prog 102 [ints l,VG prog (fun x:Int=>[int x]) (fun x=>bool (p x))] (bool (l.any p)):=by
 refine fo func102 rfl ⟨rfl,rfl⟩ fun M0 w0=> ?_
 refine a2 ?_
 refine co rfl (Cb (Qy) rfl rfl rfl) ?_
 refine a2 ?_
 · exact bool_eq (Kr p l)
theorem OA {v:Int}:Ay prog 264 [ints l,int v] (int (idx (fun x=>v==x) l)):=by
 refine fo func264 rfl ⟨rfl,rfl⟩ fun M0 w0=>(Tr.Ed 0 rfl fun Fh=> ?_)
 refine a2 ?_
 refine Tr.block (Tr.Bc _ (kk [7,1,0] rfl) (fun k:Nat=>[(8,int ((k:Nat):Int))]) (fun k:Nat=>k≤(l).length∧(∀j y,j<k→l[j]? =some y→(v==y)=false)) (fun k:Nat=>(l).length-k) 0 (⟨Nat.zero_le _,fun j y hj=>absurd hj AA⟩) kz ?_)
 rintro k ⟨Be,AU⟩
 refine ac ?_
 refine Tr.seq ?_
 refine Tr.cn rfl ?_ ?_<;>intro h1 q1
 have Ae:k<(l).length:=AV h1
 obtain ⟨x,Af⟩:=at_ Ae
 · repeat' first|exact int_eq (FN (p:=fun x=>v==x) Af DE AU)|exact Fin.AQ (k+1) ⟨⟨Ae,Dc (p:=fun x=>v==x) Af DE AU⟩,by omega⟩ ⟨⟨_,rfl,AO k⟩,kz⟩|refine co rfl (AD rfl underlying22 DC vq vq AA DP) ?_|refine ac ?_|(refine Tr.cn rfl ?_ ?_<;>intro h q)
 have BM:k=(l).length:=by have:=AW h1;omega
 subst BM
 refine a3 ?_
 · exact MZ
theorem Io {v:Int}:Ay prog 259 [ints l,int v] (bool (l.any fun x=>v==x)):=by
 refine fo func259 rfl ⟨rfl,rfl⟩ fun M0 w0=> ?_
 refine a2 ?_
 refine co rfl (Cb (OA) rfl rfl rfl) ?_
 refine a2 ?_
 · exact bool_eq (Kr _ l)
end Go.Proofs.YtoodkpodinniaaaGreatDoor
namespace Go.Proofs.YtoodkpodinniaaaGreatDoor
open Go Go.RowKit Cp Go.ChangeShapes Go.WideShapes Go.ChangeAt Go.Proofs.Tryz
theorem wK:ownKnob Tryz.prog.godebug=none:=by kernel_rfl
theorem Y7:laidOutB Tryz.prog=true:=by kernel_rfl
theorem i64_in {n:Int} (h:(Lit.int .i64 n).wf=true):Tg n:=by
 simp only [Lit.wf,Bool.and_eq_true,decide_eq_true_eq] at h
 have h1:IntKind.i64.min= -9223372036854775808:=rfl
 have h2:IntKind.i64.max=9223372036854775807:=rfl
 unfold Tg;omega
theorem T3 {P:Program} {t e:TypeId} (ht:P.underlying t=some (.slice e)) (he:P.underlying e=some (.int .i64)) (hc:P.cellsOf e=1):Ki P t (fun l:List Int=>l.length≤maxLen∧∀n∈l,Tg n) (fun l=>[ints l]):=
 (Ru ht hc (WK he)).map id (fun _ h=>⟨h.2,fun n hn=>i64_in (h.1 n hn)⟩) (fun _=>rfl)
end Go.Proofs.YtoodkpodinniaaaGreatDoor
namespace Go.Proofs.YtoodkpodinniaaaGreatDoor
open Go Go.RowKit Cp Go.Proofs.Tryz
variable {I:CU} {E:Env} {Bw:Int} {l:List Int} {s:List UInt8} {b d k:Nat} {o:Oper} {w:World}
abbrev Da (b:Nat) (s:DS):A7:=Ry 72 b s
theorem dP (n:Int) {k:Int} (hk:1≤k):(n.tmod k+k).tmod k=n % k:=by
 have h1: -k<n.tmod k:=by have:=Int.lt_tmod_of_pos n (b:=k) AA;omega
 rw [Int.tmod_eq_emod_of_nonneg AA,Int.tmod_def,show n-k*n.tdiv k+k=n+k*(1-n.tdiv k) by rw [Int.mul_sub];omega,Int.add_mul_emod_self_left]
theorem jm (n:Int) {k:Int} (hk:1≤k): -k<n.tmod k∧n.tmod k<k:=by
 have h1:=Int.lt_tmod_of_pos n (b:=k) AA
 have h2:=Int.tmod_lt_of_pos n (b:=k) AA
 omega
theorem dQ:Ay prog 5 [ints l] (bool (decide (l.length≤400))):=by
 refine fo func5 rfl ⟨rfl,rfl⟩ fun M0 w0=> ?_
 refine a3 ?_
 · exact I6
theorem rH {n k:Int} (hk:1≤k) (hk2:k≤1000000000):Ay prog 11 [int n,int k] (int (n % k)):=by
 refine fo func11 rfl ⟨rfl,rfl⟩ fun M0 w0=> ?_
 have hm:=jm n hk
 have hp:=dP n hk
 · repeat' first|(exfalso;omega)|(refine int_eq ?_;exact hp)|refine co rfl (QV rfl vq vq AA) ?_|refine ac ?_|(refine Tr.cn rfl ?_ ?_<;>intro h q)
theorem CZ {s:DS} {n:Int} (hn:1≤n) (hn2:n≤1000000000):BN prog 9 [ptr b 0,int n] (int (s.val n)) (Da b s) (fun _=>Da b s.CN):=by
 refine BN.of func9 rfl rfl Ai fun M0 w0 S rs M1 w1=> ?_
 have hs:=s.h
 have L_:=s.h2
 refine ac ?_
 refine an ?_ ?_<;>intro h1 q1
 refine ac ?_
 refine Tr.ret (Fin.AL ?_)
 rw [DS.bn (s:=s) AA]
 refine Fin.Ge [] rfl (AR.tmp rfl Lr) ?_ (fun _ _ _ _=>rfl)
 · refine int_eq ?_;exact (DS.bl AA n).symm
 have hlt:s.at_<s.l.length:=by omega
 obtain ⟨x,hx⟩:=at_ hlt
 refine ac ?_
 refine ap ?_
 refine wk [1,0] rfl ?_
 refine ac ?_
 refine co rfl (AD rfl underlying22 DC vq vq AA (by rw [show ((s.at_:Nat):Int)+1-1=((s.at_:Nat):Int) by omega];exact Ak hx)) ?_
 refine ac ?_
 refine co rfl (Cb (rH AA AA) rfl rfl rfl) ?_
 refine ac ?_
 refine wk [4] rfl (Tr.ret ?_)
 rw [DS.iY hlt]
 refine Fin.Ge [] rfl (AR.tmp rfl Lr) ?_ (fun _ _ _ _=>rfl)
 · refine int_eq ?_;exact (DS.iX hx n).symm
theorem Vd {s:DS} (hl:l≠[]) (bC:l.length≤1000000000):BN prog 23 [ptr b 0,ints l] (int (s.of l)) (Da b s) (fun _=>Da b s.CN):=by
 refine BN.of func23 rfl rfl Ai fun M0 w0 S rs M1 w1=> ?_
 have WR:1≤(l.length:Int):=by have:=List.length_pos_iff.2 hl;omega
 have hv:=s.DG WR
 obtain ⟨x,hx⟩:=at_ (l:=l) (k:=(s.val l.length).toNat) AA
 refine ac ?_
 refine ap ?_
 refine TO.Kg 0 rfl rfl AB (An rfl rfl AB rfl (CZ AA AA) ⟨kq,kz⟩) (tp rfl (AD rfl underlying22 DC vq vq AA (E0 hx)) ?_)
 refine ap ?_
 refine Tr.ret (Fin.Ge [] rfl (AR.tmp rfl Lr) ?_ (fun _ _ _ _=>rfl))
 · refine int_eq ?_;unfold DS.of;rw [hx];rfl
theorem Y8 {s:DS} {n:Int} (hn:1≤n) (hn2:n≤1000000000):BN prog 24 [ptr b 0,int n] (bool (s.val n==n-1)) (Da b s) (fun _=>Da b s.CN):=by
 refine BN.of func24 rfl rfl Ai fun M0 w0 S rs M1 w1=> ?_
 refine ac ?_
 refine ap ?_
 refine TO.Kg 0 rfl rfl AB (An rfl rfl AB rfl (CZ AA AA) ⟨kq,kz⟩) ?_
 refine ap ?_
 refine Tr.ret (Fin.Ge [] rfl (AR.tmp rfl Lr) ?_ (fun _ _ _ _=>rfl))
 · exact Lr
def dR (l:List Int) (hl:l.length≤1000000000) (v:Value):A7:=match v with| .pointer (some a)=>Ry 72 a.block ⟨l,0,Nat.zero_le _,hl⟩|_=>BW
theorem jo (hl:l.length≤1000000000):BN prog 7 [ints l] (ex fun b=>ptr b 0) (BW) (dR l hl):=by
 refine BN.of func7 rfl rfl Ai fun M0 w0 S rs M1 w1=> ?_
 refine ac ?_
 refine ap ?_
 refine TO.Jo rfl rfl AB rfl CS (fun b1=> ?_)
 refine ap ?_
 refine Tr.ret (Fin.drop 1 ?_)
 refine Fin.Ge [] rfl (AR.tmp rfl Lr) ?_ HH
 · exact FB b1 Lr
-- no type cipherplan/api.Fact here
-- no type cipherplan/api.uI here
-- no type cipherplan/xX.place here
theorem Y9 {x0 y0:Int} {x1 y1:Int}:(Op.equalIn (d+2) 62 (.agg #[.int .i64 x0,.int .i64 x1]) (.agg #[.int .i64 y0,.int .i64 y1])).run Tryz.prog w= .ok (decide (x0=y0∧x1=y1)) w:=by
 have h:=eqS (w:=w) (d:=d+1) (xs:= #[.int .i64 x0,.int .i64 x1]) (ys:= #[.int .i64 y0,.int .i64 y1]) Tryz.underlying62 BD (Ff AB (Ck C1 rfl) (Ck C1 rfl) (HW (d:=d+0) Tryz.underlying3) (Ff AB (Ck C1 rfl) (Ck C1 rfl) (HW (d:=d+0) Tryz.underlying3) (Mm)))
 refine h.trans (congrArg (fun b=>Result.ok b w) ?_)
 rw [Bool.eq_iff_iff];simp [and_assoc]
theorem Mp {u:TypeId} {x y:Operand} {x0 y0:Int} {x1 y1:Int} (ho:o.op= .binOp .eql 62 x y u) (hx:VL E x (agg [is (.int .i64 x0),is (.int .i64 x1)])) (hy:VL E y (agg [is (.int .i64 y0),is (.int .i64 y1)])):Ab Tryz.prog I o E (bool (decide (x0=y0∧x1=y1))):=
 R9 [.int .i64 x0,.int .i64 x1] [.int .i64 y0,.int .i64 y1] ho hx hy BD (fun w=>by rw [show Op.equal 62 _ _=Op.equalIn (9998+2) 62 _ _ from rfl];exact Y9)
theorem Mq {u:TypeId} {x y:Operand} {x0 y0:Int} {x1 y1:Int} (ho:o.op= .binOp .neq 62 x y u) (hx:VL E x (agg [is (.int .i64 x0),is (.int .i64 x1)])) (hy:VL E y (agg [is (.int .i64 y0),is (.int .i64 y1)])):Ab Tryz.prog I o E (bool (!decide (x0=y0∧x1=y1))):=
 Kl [.int .i64 x0,.int .i64 x1] [.int .i64 y0,.int .i64 y1] ho hx hy BD (fun w=>by rw [show Op.equal 62 _ _=Op.equalIn (9998+2) 62 _ _ from rfl];exact Y9)
def fu (c:UInt8):Bool:=decide (33≤c.toNat∧c.toNat≤126)
def named (s:List UInt8):Bool:=s.all fu&&decide (1≤s.length∧s.length≤32)
theorem HY {β:Type} {p:β→Bool} {l:List β} {x:β} (hx:l[k]? =some x) (hp:p x=false):l.all p=false:=by grind
theorem E5 {β:Type} {p:β→Bool} {l:List β} (h:∀j y,j<l.length→l[j]? =some y→(!p y)=false):l.all p=true:=by
 rw [List.all_eq_true]
 intro y hy
 obtain ⟨j,hj⟩:=List.mem_iff_getElem?.1 hy
 have:=h j y (by rcases Nat.lt_or_ge j l.length with h|h;exact h;rw [List.getElem?_eq_none h] at hj;cases hj) hj
 simpa using this
theorem Mr (hs:s.length≤maxLen):Ay prog 129 [str s] (bool (named s)):=by
 refine fo func129 rfl ⟨rfl,rfl⟩ fun M0 w0=> ?_
 refine a2 ?_
 refine co rfl (Nw rfl underlying9 underlying185 underlying5 vq DE) ?_
 refine ac ?_
 refine Tr.block (Tr.Ed 6 rfl fun hl6=>(Tr.Bc _ (kk [7,6,0] rfl) (fun k:Nat=>[(8,int ((k:Nat):Int))]) (fun k:Nat=>k≤(s).length∧(∀j y,j<k→s[j]? =some y→(!fu y)=false)) (fun k:Nat=>(s).length-k) 0 (⟨Nat.zero_le _,fun j y hj=>absurd hj AA⟩) kz ?_))
 rintro k ⟨Be,AU⟩
 refine ac ?_
 refine Tr.seq ?_
 refine Tr.cn rfl ?_ ?_<;>intro h1 q1
 have Ae:k<(s).length:=AV h1
 obtain ⟨c,Af⟩:=at_ Ae
 refine ac ?_
 refine Tr.seq (Tr.block (Tr.seq (Tr.CL (co rfl (AD rfl underlying185 K7 vq vq AA DP) ?_))))
 · repeat' first|(refine bool_eq ?_;unfold named;rw [HY (p:=fu) Af Md];rfl)|(exact Fin.AQ (k+1) ⟨⟨Ae,Dc (p:=fun c=> !fu c) Af Md AU⟩,by omega⟩ ⟨⟨_,rfl,AO k⟩,kz⟩)|refine ac ?_|(refine Tr.cn rfl ?_ ?_<;>intro h q)|(refine Ch.cg rfl rfl rfl ?_ ?_<;>intro h q)
 have BM:k=(s).length:=by have:=AW h1;omega
 subst BM
 · repeat' first|(refine bool_eq ?_;unfold named;rw [E5 AU,Bool.true_and];rw [decide_eq_decide];omega)|(refine bool_eq ?_;unfold named;rw [E5 AU,Bool.true_and];(symm;rw [decide_eq_false_iff_not];omega))|refine ac ?_|(refine Ch.cg rfl rfl rfl ?_ ?_<;>intro h q)
theorem F7:Ay prog 153 [str s] (bool (named s)):=by
 refine fo func153 rfl ⟨rfl,rfl⟩ fun M0 w0=> ?_
 refine ac ?_
 refine ag ?_ ?_<;>intro h1 q1
 refine a3 ?_
 · exact U6
 refine an ?_ ?_<;>intro h2 q2
 refine a2 ?_
 · exact U6
 refine a2 ?_
 refine Tr.block (Tr.Bc _ (kk [0] rfl) (fun k:Nat=>[(3,int ((k:Nat):Int))]) (fun k:Nat=>k≤(s).length∧(∀j y,j<k→s[j]? =some y→(!fu y)=false)) (fun k:Nat=>(s).length-k) 0 (⟨Nat.zero_le _,fun j y hj=>absurd hj AA⟩) kz ?_)
 rintro k ⟨Be,AU⟩
 refine an ?_ ?_<;>intro h3 q3
 have Ae:k<(s).length:=AV h3
 obtain ⟨c,Af⟩:=at_ Ae
 · repeat' first|(refine bool_eq ?_;unfold named;rw [HY (p:=fu) Af Md];rfl)|(exact Fin.AQ (k+1) ⟨⟨Ae,Dc (p:=fun c=> !fu c) Af Md AU⟩,by omega⟩ ⟨⟨_,rfl,AO k⟩,kz⟩)|refine co rfl (Ml rfl underlying9 vq vq AA (Qr DE)) ?_|refine cy h rfl (Ml rfl underlying9 vq vq AA (Qr DE)) ?_|refine ac ?_|(refine Tr.cn rfl ?_ ?_<;>intro h q)|(refine Ch.cg rfl rfl rfl ?_ ?_<;>intro h q)
 have BM:k=(s).length:=by have:=AW h3;omega
 subst BM
 refine a3 ?_
 · refine bool_eq ?_;unfold named;rw [E5 AU,Bool.true_and];symm;rw [decide_eq_true_eq];omega
structure Qz where
 name:List UInt8
 kind:Int
 way:Int
 sizes:List Int
 FO:List Int
abbrev jq (r:Qz):List Pr:=[str r.name,int r.kind,int r.way,ints r.sizes,ints r.FO]
def GM:List Qz:=[⟨[],0,0,[],[]⟩,⟨[109,100,53],1,0,[],[18]⟩,⟨[115,104,97,49],1,0,[],[60]⟩,⟨[115,104,97,50,53,54],1,0,[],[128]⟩,⟨[115,104,97,51,56,52],1,0,[],[192]⟩,⟨[114,115,97],2,1,[],[]⟩,⟨[100,115,97],2,1,[],[]⟩,⟨[101,99,100,115,97],2,2,[],[]⟩,⟨[101,100,50,53,53,49,57],2,0,[],[128]⟩,⟨[109,108,100,115,97],2,3,[44,65,87],[128,192,256]⟩,⟨[114,115,97,107,120],3,1,[],[]⟩,⟨[100,104,101],3,1,[],[]⟩,⟨[101,99,100,104,101],3,2,[],[]⟩,⟨[109,108,107,101,109],3,3,[512,768,1024],[128,192,256]⟩,⟨[114,99,52],4,3,[40,128],[40,60]⟩,⟨[100,101,115,51],4,3,[112,168],[80,112]⟩,⟨[97,101,115,99,98,99],4,3,[128,256],[128,256]⟩,⟨[97,101,115,103,99,109],4,3,[128,256],[128,256]⟩,⟨[99,104,97,99,104,97],4,0,[],[256]⟩,⟨[104,109,97,99,109,100,53],5,0,[],[64]⟩,⟨[104,109,97,99,115,104,97,49],5,0,[],[80]⟩,⟨[104,109,97,99,115,104,97,50,53,54],5,0,[],[128]⟩,⟨[97,101,97,100],5,0,[],[256]⟩]
def Ve:Qz:=⟨[],0,0,[],[]⟩
def DQ (Bw:Int):Qz:=if 1≤Bw∧Bw≤22 then (GM[Bw.toNat]?).getD Ve else Ve
theorem Ip (h:1≤Bw∧Bw≤22):GM[Bw.toNat]? =some (DQ Bw):=by
 have hl:Bw.toNat<GM.length:=by show Bw.toNat<23;omega
 unfold DQ;rw [if_pos h,List.getElem?_eq_getElem hl];rfl
theorem OB {β:Type} {f:β→List Pr} {sz:Nat} (hf:∀x,(f x).length=sz):∀{l:List β} {i:Nat} {x:β},l[i]? =some x→((l.flatMap f).drop (i*sz)).take sz=f x
 |[],_,_,h=>by simp at h
 |a::l,0,x,h=>by
  simp at h;subst h
  rw [List.flatMap_cons,Nat.zero_mul,List.drop_zero,List.take_append_of_le_length (by rw [hf];exact Nat.le_refl _),List.take_of_length_le (by rw [hf];exact Nat.le_refl _)]
 |a::l,i+1,x,h=>by
  rw [List.flatMap_cons,Nat.succ_mul,Nat.add_comm,←List.drop_drop,List.drop_left' (hf a)]
  exact OB hf FF
theorem drop_cons {β:Type} {l:List β} {x:β} (h:l[k]? =some x):l.drop k=x::l.drop (k+1):=by
 have hk:k<l.length:=by rcases Nat.lt_or_ge k l.length with h'|h';exact h';rw [List.getElem?_eq_none h'] at h;cases h
 rw [List.drop_eq_getElem_cons hk]
 rw [List.getElem?_eq_getElem hk] at h
 simp at h;rw [h]
def mods:List (Int×Int):=[(1024,56),(2048,80),(3072,112),(7680,128),(15360,192)]
def jr:List (Int×Int)→Int→Int
 |[],_=>256
 |p::l,b=>if b<p.1 then p.2 else jr l b
def Y_ (b:Int):Int:=jr mods b
theorem jt   :Ay prog 313 [] (agg (GM.flatMap jq)):=by
 refine fo func313 rfl ⟨rfl,rfl⟩ fun M0 w0=>(Tr.seq (Tr.BL ?_))
 refine Tl rfl rfl rfl rfl uv gW (fun b1=> ?_)
 refine ap ?_
 refine ap ?_
 refine tp rfl (Ax (rows:=[(0,[_]),(1,[_]),(2,[_]),(3,[_]),(4,[_])]) rfl Dv DU ⟨⟨rfl,CX⟩,⟨⟨rfl,CX⟩,⟨⟨rfl,CX⟩,⟨⟨rfl,⟨_,rfl,Pr.le_trans (AH 1) (AP _)⟩⟩,⟨⟨rfl,⟨_,rfl,Pr.le_trans (BC _ _) (AP _)⟩⟩,trivial⟩⟩⟩⟩⟩ rfl) (tp rfl (oI) ?_)
 refine tp rfl (Ax (rows:=[(0,[_]),(1,[_]),(2,[_]),(3,[_]),(4,[_])]) rfl Dv DU ⟨⟨rfl,CX⟩,⟨⟨rfl,CX⟩,⟨⟨rfl,CX⟩,⟨⟨rfl,⟨_,rfl,Pr.le_trans (AH 1) (AP _)⟩⟩,⟨⟨rfl,⟨_,rfl,Pr.le_trans (BC _ _) (AP _)⟩⟩,trivial⟩⟩⟩⟩⟩ rfl) (tp rfl (oI) ?_)
 refine tp rfl (Ax (rows:=[(0,[_]),(1,[_]),(2,[_]),(3,[_]),(4,[_])]) rfl Dv DU ⟨⟨rfl,CX⟩,⟨⟨rfl,CX⟩,⟨⟨rfl,CX⟩,⟨⟨rfl,⟨_,rfl,Pr.le_trans (AH 1) (AP _)⟩⟩,⟨⟨rfl,⟨_,rfl,Pr.le_trans (BC _ _) (AP _)⟩⟩,trivial⟩⟩⟩⟩⟩ rfl) (tp rfl (oI) ?_)
 refine tp rfl (Ax (rows:=[(0,[_]),(1,[_]),(2,[_]),(3,[_]),(4,[_])]) rfl Dv DU ⟨⟨rfl,CX⟩,⟨⟨rfl,CX⟩,⟨⟨rfl,CX⟩,⟨⟨rfl,⟨_,rfl,Pr.le_trans (AH 1) (AP _)⟩⟩,⟨⟨rfl,⟨_,rfl,Pr.le_trans (BC _ _) (AP _)⟩⟩,trivial⟩⟩⟩⟩⟩ rfl) (tp rfl (Ax (rows:=[(0,[_]),(1,[_]),(2,[_]),(3,[_]),(4,[_])]) rfl Dv DU ⟨⟨rfl,CX⟩,⟨⟨rfl,CX⟩,⟨⟨rfl,CX⟩,⟨⟨rfl,⟨_,rfl,Pr.le_trans (AH 1) (AP _)⟩⟩,⟨⟨rfl,⟨_,rfl,Pr.le_trans (AH 1) (AP _)⟩⟩,trivial⟩⟩⟩⟩⟩ rfl) (tp rfl (Ax (rows:=[(0,[_]),(1,[_]),(2,[_]),(3,[_]),(4,[_])]) rfl Dv DU ⟨⟨rfl,CX⟩,⟨⟨rfl,CX⟩,⟨⟨rfl,CX⟩,⟨⟨rfl,⟨_,rfl,Pr.le_trans (AH 1) (AP _)⟩⟩,⟨⟨rfl,⟨_,rfl,Pr.le_trans (AH 1) (AP _)⟩⟩,trivial⟩⟩⟩⟩⟩ rfl) (tp rfl (Ax (rows:=[(0,[_]),(1,[_]),(2,[_]),(3,[_]),(4,[_])]) rfl Dv DU ⟨⟨rfl,CX⟩,⟨⟨rfl,CX⟩,⟨⟨rfl,CX⟩,⟨⟨rfl,⟨_,rfl,Pr.le_trans (AH 1) (AP _)⟩⟩,⟨⟨rfl,⟨_,rfl,Pr.le_trans (AH 1) (AP _)⟩⟩,trivial⟩⟩⟩⟩⟩ rfl) (tp rfl (oI) ?_))))
 refine tp rfl (Ax (rows:=[(0,[_]),(1,[_]),(2,[_]),(3,[_]),(4,[_])]) rfl Dv DU ⟨⟨rfl,CX⟩,⟨⟨rfl,CX⟩,⟨⟨rfl,CX⟩,⟨⟨rfl,⟨_,rfl,Pr.le_trans (AH 1) (AP _)⟩⟩,⟨⟨rfl,⟨_,rfl,Pr.le_trans (BC _ _) (AP _)⟩⟩,trivial⟩⟩⟩⟩⟩ rfl) ?_
 refine ap ?_
 refine tp rfl (Ax (rows:=[(0,[_]),(1,[_]),(2,[_]),(3,[_]),(4,[_])]) rfl Dv DU ⟨⟨rfl,CX⟩,⟨⟨rfl,CX⟩,⟨⟨rfl,CX⟩,⟨⟨rfl,⟨_,rfl,Pr.le_trans (BC _ _) (AP _)⟩⟩,⟨⟨rfl,⟨_,rfl,Pr.le_trans (BC _ _) (AP _)⟩⟩,trivial⟩⟩⟩⟩⟩ rfl) (tp rfl (Ax (rows:=[(0,[_]),(1,[_]),(2,[_]),(3,[_]),(4,[_])]) rfl Dv DU ⟨⟨rfl,CX⟩,⟨⟨rfl,CX⟩,⟨⟨rfl,CX⟩,⟨⟨rfl,⟨_,rfl,Pr.le_trans (AH 1) (AP _)⟩⟩,⟨⟨rfl,⟨_,rfl,Pr.le_trans (AH 1) (AP _)⟩⟩,trivial⟩⟩⟩⟩⟩ rfl) (tp rfl (Ax (rows:=[(0,[_]),(1,[_]),(2,[_]),(3,[_]),(4,[_])]) rfl Dv DU ⟨⟨rfl,CX⟩,⟨⟨rfl,CX⟩,⟨⟨rfl,CX⟩,⟨⟨rfl,⟨_,rfl,Pr.le_trans (AH 1) (AP _)⟩⟩,⟨⟨rfl,⟨_,rfl,Pr.le_trans (AH 1) (AP _)⟩⟩,trivial⟩⟩⟩⟩⟩ rfl) (tp rfl (Ax (rows:=[(0,[_]),(1,[_]),(2,[_]),(3,[_]),(4,[_])]) rfl Dv DU ⟨⟨rfl,CX⟩,⟨⟨rfl,CX⟩,⟨⟨rfl,CX⟩,⟨⟨rfl,⟨_,rfl,Pr.le_trans (AH 1) (AP _)⟩⟩,⟨⟨rfl,⟨_,rfl,Pr.le_trans (AH 1) (AP _)⟩⟩,trivial⟩⟩⟩⟩⟩ rfl) ?_)))
 refine ap ?_
 refine tp rfl (Ax (rows:=[(0,[_]),(1,[_]),(2,[_]),(3,[_]),(4,[_])]) rfl Dv DU ⟨⟨rfl,CX⟩,⟨⟨rfl,CX⟩,⟨⟨rfl,CX⟩,⟨⟨rfl,⟨_,rfl,Pr.le_trans (BC _ _) (AP _)⟩⟩,⟨⟨rfl,⟨_,rfl,Pr.le_trans (BC _ _) (AP _)⟩⟩,trivial⟩⟩⟩⟩⟩ rfl) ?_
 refine ap ?_
 refine tp rfl (Ax (rows:=[(0,[_]),(1,[_]),(2,[_]),(3,[_]),(4,[_])]) rfl Dv DU ⟨⟨rfl,CX⟩,⟨⟨rfl,CX⟩,⟨⟨rfl,CX⟩,⟨⟨rfl,⟨_,rfl,Pr.le_trans (BC _ _) (AP _)⟩⟩,⟨⟨rfl,⟨_,rfl,Pr.le_trans (BC _ _) (AP _)⟩⟩,trivial⟩⟩⟩⟩⟩ rfl) ?_
 refine ap ?_
 refine tp rfl (Ax (rows:=[(0,[_]),(1,[_]),(2,[_]),(3,[_]),(4,[_])]) rfl Dv DU ⟨⟨rfl,CX⟩,⟨⟨rfl,CX⟩,⟨⟨rfl,CX⟩,⟨⟨rfl,⟨_,rfl,Pr.le_trans (BC _ _) (AP _)⟩⟩,⟨⟨rfl,⟨_,rfl,Pr.le_trans (BC _ _) (AP _)⟩⟩,trivial⟩⟩⟩⟩⟩ rfl) ?_
 refine ap ?_
 refine tp rfl (Ax (rows:=[(0,[_]),(1,[_]),(2,[_]),(3,[_]),(4,[_])]) rfl Dv DU ⟨⟨rfl,CX⟩,⟨⟨rfl,CX⟩,⟨⟨rfl,CX⟩,⟨⟨rfl,⟨_,rfl,Pr.le_trans (BC _ _) (AP _)⟩⟩,⟨⟨rfl,⟨_,rfl,Pr.le_trans (BC _ _) (AP _)⟩⟩,trivial⟩⟩⟩⟩⟩ rfl) ?_
 refine ap ?_
 refine tp rfl (Ax (rows:=[(0,[_]),(1,[_]),(2,[_]),(3,[_]),(4,[_])]) rfl Dv DU ⟨⟨rfl,CX⟩,⟨⟨rfl,CX⟩,⟨⟨rfl,CX⟩,⟨⟨rfl,⟨_,rfl,Pr.le_trans (BC _ _) (AP _)⟩⟩,⟨⟨rfl,⟨_,rfl,Pr.le_trans (BC _ _) (AP _)⟩⟩,trivial⟩⟩⟩⟩⟩ rfl) (tp rfl (oI) ?_)
 refine tp rfl (Ax (rows:=[(0,[_]),(1,[_]),(2,[_]),(3,[_]),(4,[_])]) rfl Dv DU ⟨⟨rfl,CX⟩,⟨⟨rfl,CX⟩,⟨⟨rfl,CX⟩,⟨⟨rfl,⟨_,rfl,Pr.le_trans (AH 1) (AP _)⟩⟩,⟨⟨rfl,⟨_,rfl,Pr.le_trans (BC _ _) (AP _)⟩⟩,trivial⟩⟩⟩⟩⟩ rfl) (tp rfl (oI) ?_)
 refine tp rfl (Ax (rows:=[(0,[_]),(1,[_]),(2,[_]),(3,[_]),(4,[_])]) rfl Dv DU ⟨⟨rfl,CX⟩,⟨⟨rfl,CX⟩,⟨⟨rfl,CX⟩,⟨⟨rfl,⟨_,rfl,Pr.le_trans (AH 1) (AP _)⟩⟩,⟨⟨rfl,⟨_,rfl,Pr.le_trans (BC _ _) (AP _)⟩⟩,trivial⟩⟩⟩⟩⟩ rfl) (tp rfl (oI) ?_)
 refine tp rfl (Ax (rows:=[(0,[_]),(1,[_]),(2,[_]),(3,[_]),(4,[_])]) rfl Dv DU ⟨⟨rfl,CX⟩,⟨⟨rfl,CX⟩,⟨⟨rfl,CX⟩,⟨⟨rfl,⟨_,rfl,Pr.le_trans (AH 1) (AP _)⟩⟩,⟨⟨rfl,⟨_,rfl,Pr.le_trans (BC _ _) (AP _)⟩⟩,trivial⟩⟩⟩⟩⟩ rfl) (tp rfl (oI) ?_)
 refine tp rfl (Ax (rows:=[(0,[_]),(1,[_]),(2,[_]),(3,[_]),(4,[_])]) rfl Dv DU ⟨⟨rfl,CX⟩,⟨⟨rfl,CX⟩,⟨⟨rfl,CX⟩,⟨⟨rfl,⟨_,rfl,Pr.le_trans (AH 1) (AP _)⟩⟩,⟨⟨rfl,⟨_,rfl,Pr.le_trans (BC _ _) (AP _)⟩⟩,trivial⟩⟩⟩⟩⟩ rfl) (tp rfl (oI) ?_)
 refine tp rfl (Ax (rows:=[(0,[_]),(1,[_]),(2,[_]),(3,[_]),(4,[_])]) rfl Dv DU ⟨⟨rfl,CX⟩,⟨⟨rfl,CX⟩,⟨⟨rfl,CX⟩,⟨⟨rfl,⟨_,rfl,Pr.le_trans (AH 1) (AP _)⟩⟩,⟨⟨rfl,⟨_,rfl,Pr.le_trans (BC _ _) (AP _)⟩⟩,trivial⟩⟩⟩⟩⟩ rfl) ?_
 refine ap ?_
 refine wk [0] rfl (Tr.ret (Fin.CF rfl (AR.cell 0 rfl rfl jW gV rfl Lr) ?_))
 · exact BP ⟨Lr,Lr,Lr,AH 1,AH 1,Lr,Lr,Lr,Lr,Lr,Lr,Lr,Lr,Lr,Lr,Lr,Lr,Lr,Lr,Lr,Lr,Lr,Lr,Lr,Lr,Lr,Lr,Lr,Lr,Lr,Lr,Lr,Lr,Lr,Lr,Lr,Lr,Lr,Lr,Lr,Lr,Lr,Lr,Lr,Lr,Lr,Lr,Lr,Lr,Lr,Lr,Lr,Lr,Lr,Lr,Lr,Lr,Lr,Lr,Lr,Lr,Lr,Lr,Lr,Lr,Lr,Lr,Lr,Lr,Lr,Lr,Lr,Lr,Lr,Lr,Lr,Lr,Lr,Lr,Lr,Lr,Lr,Lr,Lr,Lr,Lr,Lr,Lr,Lr,Lr,Lr,Lr,Lr,Lr,Lr,Lr,Lr,Lr,Lr,Lr,Lr,Lr,Lr,Lr,Lr,Lr,Lr,Lr,Lr,Lr,Lr,Lr,Lr,Lr,Lr,trivial⟩
theorem rI:Ay prog 262 [int Bw] (D_ [agg (jq (DQ Bw)),bool (decide (1≤Bw∧Bw≤22))]):=by
 refine fo func262 rfl ⟨rfl,rfl⟩ fun M0 w0=>(Tr.seq (Tr.BL ?_))
 refine Tl rfl rfl rfl rfl jV DU (fun b1=> ?_)
 refine ap ?_
 refine ag ?_ ?_<;>intro h1 q1
 refine ac ?_
 refine Tr.cond rfl (fun _=> ?_) (fun h=>nomatch h)
 refine Tr.seq (Tr.BL (tp rfl (Ax (rows:=[]) rfl Dv DU trivial rfl) (TO.Ap 0 rfl rfl rfl vq CS rfl O7 rfl rfl (tm rfl (TO.nil (Fin.go (Tr.ret (Fin.AL (Fin.Cj rfl (AR.cell 0 rfl rfl Qq O7 rfl Lr) (AR.tmp rfl Lr) ?_)))))))))
 · exact Xr
 refine an ?_ ?_<;>intro h2 q2
 refine ap ?_
 refine Tr.ret (Fin.AL (Fin.Cj rfl (AR.cell 0 rfl rfl Qq O7 rfl Lr) (AR.tmp rfl Lr) ?_))
 · exact Xr
 have hin:1≤Bw∧Bw≤22:=by omega
 refine ac ?_
 refine Tr.seq (Tr.BL (tp rfl (Qx (jt) rfl) (tm rfl (tp rfl (R8 rfl underlying396 Qq O7 vq vq AA AA (OB (f:=jq) (fun _=>rfl) (Ip hin))) ?_))))
 refine ap ?_
 refine Tr.ret (Fin.Cj rfl (AR.cell 0 rfl rfl Qq O7 rfl Lr) (AR.tmp rfl Lr) ?_)
 · exact BT ⟨Lr,bool_eq (by symm;rw [decide_eq_true_eq];exact hin),trivial⟩
theorem T4:Ay prog 260 [int Bw] (int (DQ Bw).kind):=by
 refine fo func260 rfl ⟨rfl,rfl⟩ fun M0 w0=> ?_
 refine ac ?_
 refine ao ?_
 refine tp rfl (Bn (rI) rfl rfl) ?_
 refine ao ?_
 refine Tl rfl rfl rfl rfl jV DU (fun b1=> ?_)
 refine sf 0 3 ⟨rfl,rfl,rfl⟩ rfl rfl rfl rfl ?_
 refine ao ?_
 refine a2 ?_
 · exact Lr
theorem WW {b:Int}  :Ay prog 263 [int b] (int (Y_ b)):=by
 refine fo func263 rfl ⟨rfl,rfl⟩ fun M0 w0=> ?_
 have hml:mods.length=5:=rfl
 refine a2 ?_
 refine Tr.block (Tr.re 10 rfl (Pr.le_of_eq (show _=agg (mods.flatMap fun p=>[int p.1,int p.2]) from rfl)) (Tr.Bc _ (kk [10,0] rfl) (fun k:Nat=>[(11,int ((k:Nat):Int))]) (fun k:Nat=>k≤(mods).length∧(Y_ b=jr (mods.drop k) b)) (fun k:Nat=>(mods).length-k) 0 (⟨Nat.zero_le _,rfl⟩) kz ?_))
 rintro k ⟨Be,AU⟩
 refine ac ?_
 refine Tr.seq ?_
 refine Tr.cn rfl ?_ ?_<;>intro h1 q1
 have Ae:k<(mods).length:=AV h1
 obtain ⟨p,Af⟩:=at_ Ae
 have hL:k<5:=Ae
 have hdr:=drop_cons Af
 refine ac ?_
 refine Tr.seq (Tr.block (Tr.seq (Tr.BL (tp rfl (R8 rfl underlying399 jX gX vq vq AA AA (OB (f:=fun p:Int×Int=>[int p.1,int p.2]) (fun _=>rfl) Af)) ?_))))
 refine Tl rfl rfl rfl rfl uw gY (fun b1=> ?_)
 refine sf 0 4 ⟨rfl,rfl,rfl⟩ rfl rfl rfl rfl ?_
 refine ao ?_
 refine ac ?_
 refine co rfl (L4 rfl underlying398 DC vq vq AA AA rfl) (co rfl (Nh rfl C1 vq rfl) ?_)
 refine an ?_ ?_<;>intro h2 q2
 refine Tr.seq (Tr.CL (co rfl (L4 rfl underlying398 DC vq vq AA AA rfl) (co rfl (Nh rfl C1 vq rfl) ?_)))
 refine ac ?_
 refine wk [2] rfl ?_
 refine ac ?_
 · refine int_eq ?_;rw [AU,hdr];exact (if_pos AA).symm
 refine a2 ?_
 exact Fin.AQ (k+1) ⟨⟨Ae,(by rw [AU,hdr];exact if_neg AA)⟩,by omega⟩ ⟨⟨_,rfl,AO k⟩,kz⟩
 have BM:k=(mods).length:=by have:=AW h1;omega
 subst BM
 refine a3 ?_
 · refine int_eq ?_;rw [AU,List.drop_length];rfl
def Rf:List Int:=[160,224,256,384,521]
def Bx (Bw bits:Int):Int:=
 if 1 ≤ Bw ∧ Bw ≤ 22 then
  if (DQ Bw).way=0 then (if bits=0 then ((DQ Bw).FO[0]?).getD 0 else 0)
  else if (DQ Bw).way=1 then (if 512≤bits∧bits≤16384 then Y_ bits else 0)
  else if (DQ Bw).way=2 then (if (Rf.any fun x=>bits==x)=true then bits.tdiv 2 else 0)
  else if (DQ Bw).way=3 then (if 0≤idx (fun x=>bits==x) (DQ Bw).sizes then ((DQ Bw).FO[(idx (fun x=>bits==x) (DQ Bw).sizes).toNat]?).getD 0 else 0)
  else 0
 else 0
theorem T5 (h:1≤Bw∧Bw≤22):DQ Bw∈GM.tail:=by
 have h1:=Ip h
 refine List.mem_of_getElem? (i:=Bw.toNat-1) ?_
 rw [List.getElem?_tail,show Bw.toNat-1+1=Bw.toNat by omega];exact h1
theorem ju:∀r∈GM.tail,(r.way=0→1≤r.FO.length)∧(r.way=3→r.sizes.length≤r.FO.length):=by decide
theorem jv {β:Type} (p:β→Bool) (l:List β):idx p l<l.length:=by
 unfold idx
 cases h:l.findIdx? p with
 |none=>simp;omega
 |some i=>rw [List.findIdx?_eq_some_iff_getElem] at h;obtain ⟨h1,_⟩:=h;simp;omega
theorem T6 {bits:Int}:Ay prog 188 [agg [int Bw,int bits]] (int (Bx Bw bits)):=by
 refine fo func188 rfl ⟨rfl,rfl⟩ fun M0 w0=> ?_
 refine ac ?_
 refine ao ?_
 refine tp rfl (Bn (rI) rfl rfl) ?_
 refine ao ?_
 refine Tl rfl rfl rfl rfl jV DU (fun b1=> ?_)
 refine sf 0 3 ⟨rfl,rfl,rfl⟩ rfl rfl rfl rfl ?_
 refine ao ?_
 refine ac ?_
 refine wk [13,3,1] rfl ?_
 refine Tr.cn rfl ?_ ?_<;>intro h1 q1
 refine a2 ?_
 · refine int_eq ?_;unfold Bx;rw [if_neg (by intro hh;simp [hh] at h1)]
 have hin:1≤Bw∧Bw≤22:=by simpa using h1
 obtain ⟨hc0,hc3⟩:=ju _ (T5 hin)
 refine a2 ?_
 refine an ?_ ?_<;>intro h2 q2
 refine an ?_ ?_<;>intro h3 q3
 obtain ⟨z,hz⟩:=at_ (l:=(DQ Bw).FO) (k:=0) (hc0 AA)
 refine ac ?_
 refine co rfl (AD rfl underlying22 DC vq vq AA (Ak (k:=0) hz)) ?_
 refine ac ?_
 refine wk [2] rfl ?_
 refine ac ?_
 · refine int_eq ?_;unfold Bx;rw [if_pos hin,if_pos AA,if_pos AA,hz];rfl
 refine a3 ?_
 · refine int_eq ?_;unfold Bx;rw [if_pos hin,if_pos AA,if_neg AA]
 refine an ?_ ?_<;>intro h4 q4
 · repeat' first|(refine int_eq ?_;unfold Bx;rw [if_pos hin,if_neg AA,if_pos AA,if_pos AA])|(refine int_eq ?_;unfold Bx;rw [if_pos hin,if_neg AA,if_pos AA,if_neg AA])|refine co rfl (Bn (WW) rfl rfl) ?_|refine ac ?_|(refine Tr.cn rfl ?_ ?_<;>intro h q)|(refine Ch.cg rfl rfl rfl ?_ ?_<;>intro h q)
 refine an ?_ ?_<;>intro h7 q7
 refine ac ?_
 refine co rfl (Ad rfl (Io (l:=Rf)) ⟨E9,kz⟩) ?_
 refine ac ?_
 refine wk [43,1] rfl ?_
 refine Tr.cn rfl ?_ ?_<;>intro h8 q8
 have hb:bits=160∨bits=224∨bits=256∨bits=384∨bits=521:=by simpa [Rf] using h8
 refine ac ?_
 refine co rfl (Pp rfl vq vq AA) ?_
 refine a2 ?_
 · refine int_eq ?_;unfold Bx;rw [if_pos hin,if_neg AA,if_neg AA,if_pos AA,if_pos DE];rcases hb with h|h|h|h|h<;>rw [h]<;>rfl
 refine a3 ?_
 · refine int_eq ?_;unfold Bx;rw [if_pos hin,if_neg AA,if_neg AA,if_pos AA,if_neg (DM DE)]
 refine an ?_ ?_<;>intro h9 q9
 refine ac ?_
 refine co rfl (Cb (OA) rfl rfl rfl) ?_
 refine ac ?_
 refine wk [5,3] rfl ?_
 refine an ?_ ?_<;>intro h10 SH
 have hlt:=jv (fun x=>bits==x) (DQ Bw).sizes
 obtain ⟨z,hz⟩:=at_ (l:=(DQ Bw).FO) (k:=(idx (fun x=>bits==x) (DQ Bw).sizes).toNat) (by have:=hc3 AA;omega)
 refine ac ?_
 refine co rfl (AD rfl underlying22 DC vq vq AA (E0 hz)) ?_
 refine a2 ?_
 · refine int_eq ?_;unfold Bx;rw [if_pos hin,if_neg AA,if_neg AA,if_neg AA,if_pos AA,if_pos DE,hz];rfl
 refine a3 ?_
 · refine int_eq ?_;unfold Bx;rw [if_pos hin,if_neg AA,if_neg AA,if_neg AA,if_pos AA,if_neg AA]
 refine a2 ?_
 refine wk [2] rfl ?_
 refine ac ?_
 · refine int_eq ?_;unfold Bx;rw [if_pos hin,if_neg AA,if_neg AA,if_neg AA,if_neg AA]
theorem Q0 {bits:Int}:Ay prog 128 [agg [int Bw,int bits]] (bool (decide (Bx Bw bits>0))):=by
 refine fo func128 rfl ⟨rfl,rfl⟩ fun M0 w0=> ?_
 refine a2 ?_
 refine co rfl (Bn (T6) rfl rfl) ?_
 refine a2 ?_
 · exact Lr
def Iq (b:Int) (l m:List Int):Int:=if 0≤idx (fun x=>b==x) l then (m[(idx (fun x=>b==x) l).toNat]?).getD 0 else 0
theorem WX {b:Int} {m:List Int} {x z:Int} (hx:l[k]? =some x) (he:x=b) (hz:m[k]? =some z) (h:∀j y,j<k→l[j]? =some y→(b==y)=false):z=Iq b l m:=by
 have:=FN (p:=fun x=>b==x) hx (by simp [he]) h
 unfold Iq;rw [←this,if_pos AA,Int.toNat_natCast,hz];rfl
theorem T7 {b:Int} {m:List Int} (h:∀j y,j<l.length→l[j]? =some y→(b==y)=false):0=Iq b l m:=by grind [KY,Iq]
def Fz (Bw:Int):Int:=if Bw=1 then 18 else if Bw=2 then 60 else if Bw=3∨Bw=8∨Bw=21 then 128 else if Bw=4 then 192 else if Bw=18∨Bw=22 then 256 else if Bw=19 then 64 else if Bw=20 then 80 else 0
def Lu (b:Int):Int:=if b<512∨b>16384 then 0 else if b<1024 then 56 else if b<2048 then 80 else if b<3072 then 112 else if b<7680 then 128 else if b<15360 then 192 else 256
theorem ZA (b:Int):Lu b=if 512≤b∧b≤16384 then Y_ b else 0:=by
 have h1:Y_ b=if b<1024 then 56 else if b<2048 then 80 else if b<3072 then 112 else if b<7680 then 128 else if b<15360 then 192 else 256:=rfl
 rw [h1];unfold Lu
 by_cases h:512≤b∧b≤16384
 · rw [if_pos h,if_neg AA]
 · rw [if_neg h,if_pos AA]
theorem HZ {b:Int} {m:List Int} (hl:l.length≤m.length):Ay prog 284 [int b,ints l,ints m] (int (Iq b l m)):=by
 refine fo func284 rfl ⟨rfl,rfl⟩ fun M0 w0=>(Tr.Ed 1 rfl fun PG=> ?_)
 refine a2 ?_
 refine Tr.block (Tr.Bc _ (kk [2,1,0] rfl) (fun k:Nat=>[(7,int ((k:Nat):Int))]) (fun k:Nat=>k≤(l).length∧(∀j y,j<k→l[j]? =some y→(b==y)=false)) (fun k:Nat=>(l).length-k) 0 (⟨Nat.zero_le _,fun j y hj=>absurd hj AA⟩) kz ?_)
 rintro k ⟨Be,AU⟩
 refine an ?_ ?_<;>intro h1 q1
 have Ae:k<(l).length:=AV h1
 obtain ⟨x,Af⟩:=at_ Ae
 obtain ⟨z,hz⟩:=at_ (l:=m) (k:=k) AA
 · repeat' first|exact int_eq (WX Af DE hz AU)|(exact Fin.AQ (k+1) ⟨⟨Ae,Dc (p:=fun x=>b==x) Af CK AU⟩,by omega⟩ ⟨⟨_,rfl,AO k⟩,kz⟩)|refine co rfl (AD rfl underlying22 DC vq vq AA DP) ?_|refine ac ?_|(refine Tr.cn rfl ?_ ?_<;>intro h q)
 have BM:k=(l).length:=by have:=AW h1;omega
 subst BM
 refine a3 ?_
 · exact int_eq (T7 AU)
theorem ZB:Ay prog 285 [int Bw] (int (Fz Bw)):=by
 refine fo func285 rfl ⟨rfl,rfl⟩ fun M0 w0=> ?_
 refine a2 ?_
 refine an ?_ ?_<;>intro h1 q1
 refine a2 ?_
 · refine int_eq ?_;unfold Fz;(repeat (rw [if_pos AA]))
 refine an ?_ ?_<;>intro h2 q2
 refine a2 ?_
 · exact LC
 refine an ?_ ?_<;>intro h3 q3
 refine ac ?_
 refine Tr.cond rfl (fun _=> ?_) (fun h=>nomatch h3.symm.trans h)
 refine a2 ?_
 · exact LC
 refine an ?_ ?_<;>intro h4 q4
 refine ac ?_
 refine Tr.cond rfl (fun _=> ?_) (fun h=>nomatch h4.symm.trans h)
 refine a2 ?_
 · exact LC
 refine an ?_ ?_<;>intro h5 q5
 refine a2 ?_
 · exact LC
 refine ac ?_
 refine wk [12,3] rfl ?_
 refine Tr.cn rfl ?_ ?_<;>intro h6 q6
 refine a2 ?_
 · exact LC
 refine an ?_ ?_<;>intro h7 q7
 refine ac ?_
 refine Tr.cond rfl (fun _=> ?_) (fun h=>nomatch h7.symm.trans h)
 refine a2 ?_
 · exact LC
 · repeat' first|(refine int_eq ?_;unfold Fz;(repeat (first|rw [if_pos AA]|rw [if_neg AA])))|(refine int_eq ?_;unfold Fz;(repeat (rw [if_neg AA])))|refine ac ?_|(refine Tr.cn rfl ?_ ?_<;>intro h q)
theorem He {b:Int}  :Ay prog 283 [int b] (int (Lu b)):=by
 refine fo func283 rfl ⟨rfl,rfl⟩ fun M0 w0=> ?_
 refine ac ?_
 refine ac ?_
 refine Ch.cs 6 rfl ?_ ?_<;>intro h1 q1
 refine ac ?_
 refine ac ?_
 refine ac ?_
 · refine int_eq ?_;unfold Lu;(repeat (rw [if_pos AA]))
 refine ac ?_
 refine Tr.cn rfl ?_ ?_<;>intro h2 q2
 refine ac ?_
 refine ac ?_
 · refine int_eq ?_;unfold Lu;(repeat (rw [if_pos AA]))
 refine ac ?_
 refine Tr.cn rfl ?_ ?_<;>intro h3 q3
 refine ac ?_
 refine ac ?_
 · exact NL
 refine ac ?_
 refine wk [13,0] rfl ?_
 refine Tr.cn rfl ?_ ?_<;>intro h4 q4
 refine ac ?_
 refine ac ?_
 · exact NL
 refine ac ?_
 refine Tr.cn rfl ?_ ?_<;>intro h5 q5
 refine ac ?_
 refine ac ?_
 · exact NL
 refine ac ?_
 refine Tr.cn rfl ?_ ?_<;>intro h6 q6
 refine ac ?_
 refine ac ?_
 · exact NL
 refine ac ?_
 refine Tr.cn rfl ?_ ?_<;>intro h7 q7
 refine ac ?_
 refine ac ?_
 · exact NL
 refine ac ?_
 refine ac ?_
 refine ac ?_
 · refine int_eq ?_;unfold Lu;(repeat (rw [if_neg AA]))
theorem dS (b c:Int):Iq b [0] [c]=if b=0 then c else 0:=by grind [Iq,idx]
theorem QF {b:Int} (h:Bw=5∨Bw=6∨Bw=10∨Bw=11):Lu b=Bx Bw b:=by
 rw [ZA]
 rcases h with rfl|rfl|rfl|rfl<;>rfl
theorem Oi {b:Int} (h:¬(Bw=5∨Bw=6∨Bw=7∨Bw=9∨Bw=10∨Bw=11∨Bw=12∨Bw=13∨Bw=14∨Bw=15∨Bw=16∨Bw=17)):Iq b [0] [Fz Bw]=Bx Bw b:=by
 rw [dS]
 by_cases hin:1≤Bw∧Bw≤22
 ·
  have ha:Bw=1∨Bw=2∨Bw=3∨Bw=4∨Bw=8∨Bw=18∨Bw=19∨Bw=20∨Bw=21∨Bw=22:=by omega
  rcases ha with rfl|rfl|rfl|rfl|rfl|rfl|rfl|rfl|rfl|rfl<;>rfl
 ·
  have h1:Fz Bw=0:=by unfold Fz;(repeat (first|rw [if_pos AA]|rw [if_neg AA]))
  unfold Bx
  rw [h1,if_neg hin];split<;>rfl
theorem KQ {b:Int} (h:Bw=7∨Bw=12):Bx Bw b=if (Rf.any fun x=>b==x)=true then b.tdiv 2 else 0:=by
 rcases h with rfl|rfl<;>rfl
theorem SI {bits:Int}:Ay prog 215 [agg [int Bw,int bits]] (int (Bx Bw bits)):=by
 refine fo func215 rfl ⟨rfl,rfl⟩ fun M0 w0=> ?_
 iterate 4 refine ac ?_
 refine Tr.cn rfl ?_ ?_<;>intro h1 q1
 refine ac ?_
 refine Tr.cond rfl (fun _=> ?_) (fun h=>nomatch h1.symm.trans h)
 refine ac ?_
 refine co rfl (Bn (He) rfl rfl) ?_
 refine a2 ?_
 · exact MU
 refine an ?_ ?_<;>intro h2 q2
 refine ac ?_
 refine Tr.cond rfl (fun _=> ?_) (fun h=>nomatch h2.symm.trans h)
 refine ac ?_
 refine co rfl (Bn (He) rfl rfl) ?_
 refine ac ?_
 refine wk [2] rfl ?_
 refine ac ?_
 · exact MU
 refine an ?_ ?_<;>intro h3 q3
 refine ac ?_
 refine Tr.cond rfl (fun _=> ?_) (fun h=>nomatch h3.symm.trans h)
 refine ac ?_
 refine co rfl (Bn (He) rfl rfl) ?_
 refine ac ?_
 refine wk [2] rfl ?_
 refine ac ?_
 · exact MU
 refine ac ?_
 refine wk [8,7,3,1] rfl ?_
 refine Tr.cn rfl ?_ ?_<;>intro h4 q4
 refine ac ?_
 refine co rfl (Bn (He) rfl rfl) ?_
 refine a2 ?_
 · exact MU
 refine an ?_ ?_<;>intro h5 q5
 refine ac ?_
 refine Tr.cond rfl (fun _=> ?_) (fun h=>nomatch h5.symm.trans h)
 · exact Xk
 refine an ?_ ?_<;>intro h11 T8
 · exact Xk
 refine an ?_ ?_<;>intro Oj dU
 refine ac ?_
 refine co rfl (Ad rfl (HZ (l:=[44,65,87]) (m:=[128,192,256]) Aa) ⟨kq,E9,E9,trivial⟩) ?_
 refine ac ?_
 refine wk [2] rfl ?_
 refine ac ?_
 · refine int_eq ?_;have ha:Bw=9:=AA;rcases ha with rfl<;>rfl
 refine an ?_ ?_<;>intro PI jw
 refine ac ?_
 refine co rfl (Ad rfl (HZ (l:=[512,768,1024]) (m:=[128,192,256]) Aa) ⟨kq,E9,E9,trivial⟩) ?_
 refine ac ?_
 refine wk [2] rfl ?_
 refine ac ?_
 · refine int_eq ?_;have ha:Bw=13:=AA;rcases ha with rfl<;>rfl
 refine ac ?_
 refine wk [50,7,3,1] rfl ?_
 refine Tr.cn rfl ?_ ?_<;>intro bI q19
 refine ac ?_
 refine co rfl (Ad rfl (HZ (l:=[40,128]) (m:=[40,60]) Aa) ⟨kq,E9,E9,trivial⟩) ?_
 refine a2 ?_
 · refine int_eq ?_;have ha:Bw=14:=AA;rcases ha with rfl<;>rfl
 refine an ?_ ?_<;>intro Ol q20
 refine ac ?_
 refine co rfl (Ad rfl (HZ (l:=[112,168]) (m:=[80,112]) Aa) ⟨kq,E9,E9,trivial⟩) ?_
 refine a2 ?_
 · refine int_eq ?_;have ha:Bw=15:=AA;rcases ha with rfl<;>rfl
 refine an ?_ ?_<;>intro ZC q21
 refine ac ?_
 refine Tr.cond rfl (fun _=> ?_) (fun h=>nomatch ZC.symm.trans h)
 refine ac ?_
 refine co rfl (Ad rfl (HZ (l:=[128,256]) (m:=[128,256]) Aa) ⟨kq,E9,E9,trivial⟩) ?_
 refine a2 ?_
 · refine int_eq ?_;have ha:Bw=16∨Bw=17:=AA;rcases ha with rfl|rfl<;>rfl
 · repeat' first|(refine int_eq ?_;have ha:Bw=16∨Bw=17:=AA;rcases ha with rfl|rfl<;>rfl)|(refine int_eq ?_;exact Oi AA)|refine co rfl (Ad rfl (HZ (l:=[128,256]) (m:=[128,256]) Aa) ⟨kq,E9,E9,trivial⟩) ?_|refine co rfl (Bn (ZB) rfl rfl) (co rfl (Ah (xs:=[.tmp 73]) (rows:=[[_]]) rfl rfl underlying22 DC z3 rfl AB ⟨⟨Aq,CX⟩,trivial⟩ AB) ?_)|refine co rfl (Ad rfl (HZ (l:=[0]) (m:=[Fz Bw]) Aa) ⟨kq,E9,E9,trivial⟩) ?_|refine ac ?_|(refine Tr.cn rfl ?_ ?_<;>intro h q)
theorem Ks {bits:Int}:Ay prog 154 [agg [int Bw,int bits]] (bool (decide (Bx Bw bits>0))):=by
 refine fo func154 rfl ⟨rfl,rfl⟩ fun M0 w0=> ?_
 refine a2 ?_
 refine co rfl (Bn (SI) rfl rfl) ?_
 refine a2 ?_
 · exact Lr
def jx:List (List UInt8×Int):=GM.map fun r=>(r.name,r.kind)
theorem dV (h:1≤Bw∧Bw≤22):jx[Bw.toNat]? =some ((DQ Bw).name,(DQ Bw).kind):=by
 unfold jx;rw [List.getElem?_map,Ip h];rfl
theorem dW   :Ay prog 214 [] (slice 2 (jx.map fun r=>[str r.1,int r.2])):=by
 refine fo func214 rfl ⟨rfl,rfl⟩ fun M0 w0=> ?_
 refine a2 ?_
 refine wk [0] rfl ?_
 refine ac ?_
 · exact BC _ _
theorem Ms:Ay prog 152 [int Bw] (int (DQ Bw).kind):=by
 refine fo func152 rfl ⟨rfl,rfl⟩ fun M0 w0=> ?_
 refine ac ?_
 refine ag ?_ ?_<;>intro h1 q1
 refine a3 ?_
 · refine int_eq ?_;unfold DQ;rw [if_neg AA];rfl
 refine an ?_ ?_<;>intro h2 q2
 refine a2 ?_
 · refine int_eq ?_;unfold DQ;rw [if_neg AA];rfl
 have hin:1≤Bw∧Bw≤22:=by omega
 refine ac ?_
 refine Tr.seq (Tr.CL (co rfl (Qx (dW) rfl) (cm rfl (co rfl (AD rfl underlying323 gT vq vq AA (E0 (f:=fun r:List UInt8×Int=>[str r.1,int r.2]) (dV hin))) ?_))))
 refine a2 ?_
 · exact Lr
theorem Ir {bits:Int}:Ay prog 166 [agg [int Bw,int bits]] (bool (decide (Bx Bw bits>0)&&(DQ Bw).kind==2)):=by
 refine fo func166 rfl ⟨rfl,rfl⟩ fun M0 w0=> ?_
 refine ac ?_
 refine ac ?_
 refine co rfl (Bn (Ks) rfl rfl) (cm rfl ?_)
 refine Ch.cs 5 rfl ?_ ?_<;>intro h1 q1
 refine ac ?_
 refine cy h1 rfl (Bn (Ms) rfl rfl) ?_
 refine ac ?_
 refine ac ?_
 · exact HK
 refine ac ?_
 refine ac ?_
 · exact I6
end Go.Proofs.YtoodkpodinniaaaGreatDoor
namespace Cp
open Go Go.RowKit
variable {ops:Array Oper} {M:Av} {rows:List (List Pr)} {r:List Oper} {rs:List A7} {zs:List Value} {b:Nat} {o:Oper} {p:Pr} {P:Program} {T:TypeId} {v:Value} {w w0:World}
theorem JK {E:Env} {I:CU} {t e:TypeId} {y:Operand} {sz bytes:Nat} (ho:o.op= .call { callee:= .builtin .append,args:= #[.const (.slice none 0 0),y],argTypes:= #[t,t] }) (ht:P.underlying t=some (.slice e)) (hz:Al P e=some sz) (hby:CC P e=some bytes) (DD:BS P e=some zs) (hzl:zs.length=sz) (hsz:0<sz) (hy:VL E y (slice sz rows)) (FH:rows.length≤maxLen) (hfit:rows.length*bytes≤140737488355328):Ab P I o E (slice sz rows):=
 Ab.val fun M w a he hI=>by
  have h0:=(BG.begin (I.bd _ _ hI)).LH (r:=BW) rfl trivial
  obtain ⟨v',w',M',h1,h2,h3,h4⟩:=Nd (ty:=o.type) (j:=0) (v:= .slice none 0 0) (rows:=[]) ht hz hby DD hzl hsz h0 rfl (.inr ⟨rfl,rfl⟩) (AH sz M w _ rfl) (hy.ev he B2) (by simpa using FH) (by simpa using hfit)
  have h5:a.eval (.const (.slice none 0 0))= .slice none 0 0:=rfl
  exact ⟨v',w',by simp [execOp,ho,resolve,invoke,builtin,h1,h5],(slice sz rows).st _ _ _ _ _ (Ext.less h4.m) (by simpa using h2),h4.below⟩
theorem ZD {sz:Nat} (h:(full sz rows).h M w v):DF v=none:=by
 obtain ⟨_,a,rfl⟩:=h
 cases a with
 |none=>rfl
 |some a=>show (if _ then _ else _)=_;rw [if_neg AA]
theorem Vf {E:Env} {I:CU} {t e:TypeId} {x y:Operand} {sz bytes:Nat} {Vg:List (List Pr)} (ho:o.op= .call { callee:= .builtin .append,args:= #[x,y],argTypes:= #[t,t] }) (ht:P.underlying t=some (.slice e)) (hz:Al P e=some sz) (hby:CC P e=some bytes) (DD:BS P e=some zs) (hzl:zs.length=sz) (hsz:0<sz) (hx:VL E x (full sz Vg)) (hy:VL E y (slice sz rows)) (FH:Vg.length+rows.length≤maxLen) (hfit:(Vg.length+rows.length)*bytes≤140737488355328):Ab P I o E (slice sz (Vg++rows)):=
 Ab.val fun M w a he hI=>by
  have h0:=(BG.begin (I.bd _ _ hI)).LH (r:=BW) rfl trivial
  have hv:=hx.ev he B2
  obtain ⟨v',w',M',h1,h2,h3,h4⟩:=Nd (ty:=o.type) (j:=0) ht hz hby DD hzl hsz h0 rfl (.inr ⟨rfl,ZD hv⟩) hv.1 (hy.ev he B2) FH hfit
  exact ⟨v',w',by simp [execOp,ho,resolve,invoke,builtin,h1],(slice sz _).st _ _ _ _ _ (Ext.less h4.m) h2,h4.below⟩
theorem TO.VQ {n:Fm} {E:Env} {M0:Av} {S:Nat→Prop} {Q:Exit→Act→World→Prop} (i:Nat) (hi:rs[i]? =some (Jp T b)) (k:∀s,TO P n ops r E (Hp M0 w0 S (rs.set i (Ry T b s))) Q):TO P n ops r E (Hp M0 w0 S rs) Q:=by
 rintro m hl a w ⟨M,h1,h2,h3,h4⟩
 have h4:BG M0 w0 S rs M w:=h4
 obtain ⟨x,hx,hh⟩:=(h4.hold _ (List.mem_of_getElem? hi)).1
 exact k x m hl a w ⟨M,h1,h2,h3,h4.C0 hi rfl rfl hh⟩
theorem Ab.VR {E:Env} {I:CU} (s:Nat) {α:Type} {f:α→Pr} (hs:E.lookup s=some (Cp.ex f)) (hm:s∈looks o) (h:∀x,Ab P I o ((s,f x)::E) p):Ab P I o E p:=by
 intro M w a he hI
 obtain ⟨x,hx⟩:=he s _ hm hs
 refine h x M w a (fun t q ht hq=> ?_) hI
 simp only [List.lookup] at hq
 by_cases hts:t=s
 · subst hts;simp at hq;subst hq;exact hx
 · rw [show (t==s)=false by simpa using hts] at hq;exact he t q ht hq
end Cp
namespace Cp
open Go Go.RowKit Go.Great
variable {M:Av} {rows:List (List Pr)} {i j:Nat} {v:Value} {w:World}
section
variable {P:Program} {L:Lg P} {n:Fm} {fz:Nat} {E:Env} {M0:Av} {w0:World} {S:Nat→Prop} {rs:List A7}
theorem BG.ZE {r r':A7} (h:BG M0 w0 S rs M w) (hi:rs[i]? =some r) (hb:∀b,r'.blk=some b→r.blk=some b) (hn:r'.new=r.new) (hh:r'.h M w):BG M0 w0 S (rs.set i r') M w:=by
 have FT:i<rs.length:=by rcases Nat.lt_or_ge i rs.length with h|h;exact h;rw [List.getElem?_eq_none h] at hi;cases hi
 have h1:=BG.perm (AK hi) h
 refine BG.perm (Ke FT) ⟨h1.m0,h1.m,h1.os,h1.tape,h1.output,h1.size,h1.block,h1.bd,fun q hq=> ?_,?_⟩
 ·
  rcases List.mem_cons.1 hq with rfl|hq
  · exact ⟨hh,fun b hbk=>by rw [hn];exact (h1.hold r Aa).2 b (hb b hbk)⟩
  · exact h1.hold q (by simp [hq])
 ·
  obtain ⟨h2,h3⟩:=List.pairwise_cons.1 h1.nd
  exact List.Pairwise.cons (fun q hq b hbk=>h2 q hq b (hb b hbk)) h3
theorem BG.PJ {e:TypeId} {sz:Nat} (h:BG M0 w0 S rs M w) (hj:rs[j]? =some (Bf e sz rows v)):BG M0 w0 S (rs.set j (Ac e sz rows v)) M w:=by
 rcases (h.hold _ (List.mem_of_getElem? hj)).1 with ⟨h1,h2⟩|⟨b,cap,sp,h1,h2,h3,h4,h5⟩
 ·
  subst h2
  exact h.ZE hj (fun b hb=>by cases hb) rfl (.inl ⟨h1,_,rfl⟩)
 ·
  subst h1
  cases cap with
  |zero=>
   have hr:rows=[]:=List.eq_nil_of_length_eq_zero AA
   subst hr
   exact h.ZE hj (fun b hb=>by cases hb) rfl (.inl ⟨rfl,_,rfl⟩)
  |succ c=>exact h.ZE hj (fun b hb=>hb) rfl (.inr ⟨b,c,sp,rfl,h2,h3,h4,h5⟩)
theorem Fin.PJ {Q:Exit→Act→World→Prop} {x:Exit} {e:TypeId} {sz:Nat} (j:Nat) (hj:rs[j]? =some (Bf e sz rows v)) (k:Fin n E (Hp M0 w0 S (rs.set j (Ac e sz rows v))) Q x):Fin n E (Hp M0 w0 S rs) Q x:=
 Fin.conv (fun a w hs=>by
  obtain ⟨M,h1,h2,h3,h4⟩:=hs
  have h4:BG M0 w0 S rs M w:=h4
  exact ⟨M,h1,h2,h3,h4.PJ hj⟩) k
theorem Tr.PJ {Q:Exit→Act→World→Prop} {c:Code} {e:TypeId} {sz:Nat} (j:Nat) (hj:rs[j]? =some (Bf e sz rows v)) (k:Tr L n E (Hp M0 w0 S (rs.set j (Ac e sz rows v))) c Q):Tr L n E (Hp M0 w0 S rs) c Q:=
 Tr.conv (fun _ _ ⟨M,h1,h2,h3,h4⟩=>⟨M,h1,h2,h3,BG.PJ h4 hj⟩) k
end
end Cp
namespace Cp
open Go Go.RowKit
variable {M:Av} {ps:List Pr} {n:Nat} {q:Pr} {w:World}
theorem dX {β:Type} {f:β→Pr} {ad:Addr} (h:Row M w ad n (ps++[Cp.ex f])):∃x,Row M w ad n (ps++[f x]):=by
 obtain ⟨u,h1,h2,h3,x,h4⟩:=h ps.length (Cp.ex f) Aa
 refine ⟨x,fun j p hp=> ?_⟩
 rcases Nat.lt_trichotomy j ps.length with hj|hj|hj
 · exact VC
 · grind
 · grind
theorem WY {φ:Prop} {ad:Addr} (h:Row M w ad n (ps++[fact φ q])):φ∧Row M w ad n (ps++[q]):=by
 obtain ⟨u,h1,h2,h3,hφ,h4⟩:=h ps.length (fact φ q) Aa
 refine ⟨hφ,fun j p hp=> ?_⟩
 rcases Nat.lt_trichotomy j ps.length with hj|hj|hj
 · exact VC
 · grind
 · grind
theorem T9 {α β:Type} {f:α→List Pr} {g:β→List Pr} {φ:α→β→Prop} {sz:Nat} (h:∀a M w ad n,Row M w ad n (f a)→∃b,φ a b∧Row M w ad n (g b)) (hf:∀a,(f a).length=sz) (hg:∀b,(g b).length=sz) (ms:List α):
  Pr.le (slice sz (ms.map f)) (Cp.ex fun l:List β=>fact (l.length=ms.length∧∀(i:Nat) a b,ms[i]? =some a→l[i]? =some b→φ a b) (slice sz (l.map g))):=by
 rintro M w v ⟨a,cap,hv,h1,h2,h3,h5⟩
 have hk:∀k,k≤ms.length→∃l:List β,l.length=k∧(∀(i:Nat) a b,ms[i]? =some a→l[i]? =some b→φ a b)∧∀(i:Nat) b,l[i]? =some b→∃ad,a=some ad∧Row M w ad (i*sz) (g b):=by
  intro k
  induction k with
  |zero=>intro _;exact ⟨[],rfl,by simp,by simp⟩
  |succ k ih=>
   intro hk
   obtain ⟨l,hl,hp,hr⟩:=ih AA
   obtain ⟨x,hx⟩:∃x,ms[k]? =some x:=⟨ms[k],List.getElem?_eq_getElem AA⟩
   obtain ⟨_,ad,had,hrow⟩:=h5 k (f x) KS
   obtain ⟨b,Rp,VJ⟩:=h x M w ad (k*sz) hrow
   refine ⟨l++[b],by simp [hl],fun i y c hy hc=> ?_,fun i c hc=> ?_⟩
   · grind
   · grind
 obtain ⟨l,hl,hp,hr⟩:=hk ms.length (Nat.le_refl _)
 rw [List.length_map] at hv h1
 refine ⟨l,⟨hl,hp⟩,a,cap,by rw [List.length_map,hl];exact hv,by rw [List.length_map,hl];exact h1,h2,h3,fun i row hrow=> ?_⟩
 rw [List.getElem?_map] at hrow
 cases hb:l[i]? with
 |none=>rw [hb] at hrow;cases hrow
 |some b=>
  rw [hb] at hrow;simp at hrow;subst hrow
  exact ⟨hg b,hr i b hb⟩
end Cp
namespace Cp
open Go Go.RowKit Go.Great
section
variable {P:Program} {L:Lg P} {n:Fm} {fz:Nat} {E:Env} {M0:Av} {w0:World} {S:Nat→Prop} {rs:List A7} {o:Oper} {g:Func} {M1:Av} {w1:World}
end
section
variable {P:Program} {L:Lg P} {n:Fm} {fz:Nat} {E:Env} {M0:Av} {w0:World} {S:Nat→Prop} {rs:List A7}
end
end Cp
namespace Cp
open Go Go.RowKit
abbrev E6 (ρ:Option Nat):Fence:={ Fence.wide with round:=ρ }
section
variable {P:Program} {ρ:Option Nat}
def MA (o:Oper):Bool:=match o.op with
 | .defer _=>false
 |_=>true
theorem gv {o:Oper} {a:Act} {w:World} {K K':Act→World→Prop} {Q:Exit→Act→World→Prop} (hc:MA o=true) (hK:∀a w,K a w→K' a w) (h:o.wp P a w K Q):o.wpIn (E6 ρ) 0 P a w K' Q:=by
 refine ⟨fun _ _=>trivial,?_⟩
 rw [Oper.semAt_eq _ _ _ (fun c hh=>by unfold MA at hc;rw [hh] at hc;cases hc)]
 unfold Oper.wp at h
 generalize (execOp a.eval o).run P w=r at h ⊢
 cases r with
 |halt x w'=>cases x<;>first|exact h|exact h.elim
 |ok x w'=>
  cases x<;>first|exact h.elim|skip
  case value v=>exact hK _ _ h
  case skip=>exact hK _ _ h
  case defer d=>exact hK _ _ h
  case enter f args=>exact ⟨fun hh=>(by cases hh),callsIn_wide.2 (h.mono fun e w'' hr=>by cases e<;>first|exact hK _ _ hr|exact hr)⟩
  case row row args=>
   refine ⟨fun hh=>(by cases hh),fun c cs _=> ?_⟩
   obtain ⟨v,w2,h1,h2⟩:=h c cs
   exact ⟨v,w2,hK _ _ h1,stepsIn_wide.2 h2⟩
theorem ZF {ops:Array Oper} {Q:Exit→Act→World→Prop} (hc:∀(i:Nat) o,ops[i]? =some o→MA o=true):∀(l:List Nat) (a:Act) (w:World),wpS P ops Q l a w→wpOpsIn (E6 ρ) 0 P ops Q l a w
 |[],_,_,h=>h
 |i::l,a,w,h=>by
  have ih:=ZF (Q:=Q) hc l
  unfold wpS at h
  unfold wpOpsIn
  cases ho:ops[i]? with
  |none=>rw [ho] at h;exact ih a w h
  |some o=>
   rw [ho] at h
   dsimp only at h ⊢
   split
   next hw=>rw [if_pos hw] at h;exact gv (hc i o ho) ih h
   next hw=>rw [if_neg hw] at h;exact ⟨fun _ _=>trivial,ih _ _ h⟩
theorem jy {ops:Array Oper} {Q:Exit→Act→World→Prop} (hc:∀(i:Nat) o,ops[i]? =some o→MA o=true) {i:Nat} {K K':Act→World→Prop} {a:Act} {w:World} (hK:∀a w,K a w→K' a w) (h:Lv P ops Q i K a w):wpOpIn (E6 ρ) 0 P ops Q i K' a w:=by
 unfold Lv at h
 unfold wpOpIn
 cases ho:ops[i]? with
 |none=>rw [ho] at h;exact hK _ _ h
 |some o=>
  rw [ho] at h
  dsimp only at h ⊢
  split
  next hw=>rw [if_pos hw] at h;exact gv (hc i o ho) hK h
  next hw=>rw [if_neg hw] at h;exact ⟨fun _ _=>trivial,hK _ _ h⟩
theorem ZG {ops:Array Oper} {md:Region.Mode} {Q:Exit→Act→World→Prop} (hc:∀(i:Nat) o,ops[i]? =some o→MA o=true):∀(fuel:Nat) (listed:Array Bool) (a:Act) (w:World),HP P md ops Q fuel listed a w→wpAnyIn (E6 ρ) 0 P md ops Q fuel listed a w
 |0,_,_,_,h=>h
 |fuel+1,_,_,_,h=>⟨h.1,fun i hi=>jy hc (ZG hc fuel _) (h.2 i hi)⟩
theorem dY {l:List Oper} (hc:calm l=true):∀(i:Nat) o,l.toArray[i]? =some o→MA o=true:=fun i o ho=>by
 have hm:o∈l:=List.mem_of_getElem? (by simpa using ho)
 have:=List.all_eq_true.1 hc o hm
 unfold MA;revert this;cases o.op<;>simp
theorem dZ {c:Code} {Q:Exit→Act→World→Prop} {α:Type} (μ:α→Nat) (R:α→Act→World→Prop) (round:∀x a w,R x a w→c.wpIn (E6 ρ) 0 P (Exit.then (fun a' w'=>∃y,μ y<μ x∧R y a' w') Q) a w) (x:α) (a:Act) (w:World) (hx:R x a w):(Code.loop c).wpIn (E6 ρ) 0 P Q a w:=by
 intro b k cs hro hb hr
 have key:∀m x a w,μ x=m→R x a w→∃e a' w',Q e a' w'∧ArrivesIn (Machine.fenced P (E6 ρ)) P (lone (b.atR a (.code c:: .inLoop c::k)) cs w) b k cs e a' w':=by
  intro m
  induction m using Nat.strongRecOn with
  |_ m ih=>
   intro x a w hm hx
   obtain ⟨e,a₁,w₁,hq,Gx⟩:=round x a w hx b (.inLoop c::k) cs hro hb hr
   cases e with
   |normal=>
    obtain ⟨y,hlt,hy⟩:=hq
    obtain ⟨e₂,a₂,w₂,X9,QS⟩:=ih (μ y) (hm ▸ hlt) y a₁ w₁ rfl hy
    exact ⟨e₂,a₂,w₂,X9,.of_steps (StepsIn.trans Gx (.one (fenced_calm hb hr rfl) stepR_inLoop)) QS⟩
   |exit id=>exact ⟨_,a₁,w₁,hq,.pass (x:= .inLoop c) rfl (fun _ _=> .inl Aa) Gx⟩
   |goto l=>exact ⟨_,a₁,w₁,hq,.pass (x:= .inLoop c) rfl (fun _ _=> .inl Aa) Gx⟩
   |ret=>exact ⟨_,a₁,w₁,hq,.pass (x:= .inLoop c) rfl (fun _ _=> .inl Aa) Gx⟩
   |panic ch=>exact ⟨_,a₁,w₁,hq,.pass (x:= .inLoop c) rfl (fun _ _=> .inl Aa) Gx⟩
   |outgrown=>exact ⟨_,a₁,w₁,hq,.pass (x:= .inLoop c) rfl (fun _ _=> .inl Aa) Gx⟩
 obtain ⟨e,a',w',hq,Gx⟩:=key _ x a w rfl hx
 exact ⟨e,a',w',hq,.of_steps (.one (fenced_calm hb hr rfl) stepR_loop) Gx⟩
@[reducible] def dc (P:Program) (ρ:Option Nat):Lg P where
 wp c Q a w:=c.wpIn (E6 ρ) 0 P Q a w
 mono hq h:=wpIn_mono h hq
 skip h:=wpIn_skip h
 ret h:=wpIn_ret h
 exit h:=wpIn_exit h
 seq h:=wpIn_seq h
 block h:=wpIn_block h
 cond hc ht hf:=wpIn_cond_split hc ht hf
 loop:=dZ
 region {id l Q a w} hc h:=wpIn_region (ZF (fun i o ho=>by
  have hm:o∈l:=List.mem_of_getElem? (by simpa using ho)
  have:=List.all_eq_true.1 hc o hm
  unfold MA;revert this;cases o.op<;>simp) _ _ _ (by simpa [List.range_eq_range'] using h))
 draw hc hm h:=wpIn_region_any hm (ZG (dY hc) _ _ _ _ h)
end
end Cp
namespace Cp
open Go Go.RowKit Go.Great
section
variable {P:Program} {L:Lg P} {n:Fm} {fz:Nat} {E:Env} {M0:Av} {w0:World} {S:Nat→Prop} {rs:List A7} {o:Oper}
end
end Cp
namespace Cp
open Go Go.RowKit
variable {a:Act} {M:Av} {new:Bool} {rows:List (List Pr)} {ps:List Pr} {zs:List Value} {b j n:Nat} {o:Oper} {p q:Pr} {P:Program} {v:Value} {w:World}
theorem Cq.VR {E:Env} (s:Nat) {α:Type} {f:α→Pr} (hs:E.lookup s=some (Cp.ex f)) (hm:s∈looks o) (he:Cq M w E o a):∃x,Cq M w ((s,f x)::E) o a:=by
 obtain ⟨x,hx⟩:=he s _ hm hs
 refine ⟨x,fun t q ht hq=> ?_⟩
 simp only [List.lookup] at hq
 by_cases hts:t=s
 · grind
 · rw [show (t==s)=false by simpa using hts] at hq;exact he t q ht hq
section
variable {P:Program} {M0:Av} {w0:World} {S:Nat→Prop} {n:Fm} {j:Nat} {R R':SR} {E:Env} {o:Oper}
theorem D6.VR (s:Nat) {α:Type} {f:α→Pr} (hg:o.guard=none) (hs:E.lookup s=some (Cp.ex f)) (hm:s∈looks o) (h:∀x,D6 P M0 w0 S n j R R' o ((s,f x)::E) p):D6 P M0 w0 S n j R R' o E p:=
 ⟨hg,fun M w a rs hsz he hI hj=>by obtain ⟨x,hx⟩:=he.VR s hs hm;exact (h x).2 M w a rs hsz hx hI hj⟩
theorem D6.le (h:D6 P M0 w0 S n j R R' o E p) (hl:Pr.le p q):D6 P M0 w0 S n j R R' o E q:=by
 refine ⟨h.1,fun M w a rs hsz he hI hj=> ?_⟩
 have this:=h.2 M w a rs hsz he hI hj
 generalize (execOp a.eval o).run P w=r at this ⊢
 unfold Gp at this
 split at this
 · obtain ⟨M',h1,h2,h3⟩:=this;exact ⟨M',hl _ _ _ h1,h2,h3⟩
 · obtain ⟨M',h1,h2,h3⟩:=this;exact ⟨M',hl _ _ _ h1,h2,h3⟩
 · exact Calls.mono this fun _ _ ⟨v,M',h0,h1,h2,h3⟩=>⟨v,M',h0,hl _ _ _ h1,h2,h3⟩
 · exact this.elim
end
theorem ZH {z:Array Value} {u:Value} (h0:0<z.size) (h:u∈(madeCells z n).toList):u∈z.toList:=by
 simp only [madeCells,Array.toList_map,List.mem_map] at h
 obtain ⟨k,_,rfl⟩:=h
 have hk:k % z.size<z.size:=Nat.mod_lt _ h0
 rw [getElem!_pos z _ hk]
 exact Array.getElem_mem_toList hk
theorem dh {z:Array Value} {m sz i:Nat} {u:Value} (hz:z.size=sz) (hi:i<m) (hu:z.toList[j]? =some u):(madeCells z (m*sz)).toList[i*sz+j]? =some u:=by
 have hjl:j<sz:=by grind
 have hlt:i*sz+j<m*sz:=by
  have:(i+1)*sz≤m*sz:=Nat.mul_le_mul_right sz hi
  rw [Nat.add_mul] at this;omega
 have hmod:(i*sz+j) % sz=j:=by rw [Nat.mul_comm,Nat.mul_add_mod,Nat.mod_eq_of_lt hjl]
 have hjz:j<z.size:=by omega
 rw [Array.getElem?_toList] at hu ⊢
 rw [Array.getElem?_eq_getElem hjz] at hu
 simp only [madeCells]
 rw [Array.getElem?_map,Array.getElem?_range,if_pos hlt,Option.map_some,hz,hmod,getElem!_pos z _ hjz,hu]
theorem Is {I:CU} {E:Env} {t e:TypeId} {x y:Operand} {sz by_ m:Nat} (ho:o.op= .makeSlice t x y) (ht:P.underlying t=some (.slice e)) (hz:Al P e=some sz) (hby:CC P e=some by_) (DD:BS P e=some zs) (hzl:zs.length=sz) (hsz:0<sz) (h1:zs.all (·.oneCell')=true) (hx:VL E x (int ((m:Nat):Int))) (hy:VL E y (int ((m:Nat):Int))) (hm:m≤maxLen) (hb:by_*m≤281474976710656):Ab P I o E (full sz (List.replicate m (zs.map is))):=
 Ab.val fun M w a he hI=>by
  have hx1:a.eval x= .int .i64 m:=hx.ev he At
  have hy1:a.eval y= .int .i64 m:=hy.ev he At
  unfold Al at hz
  unfold CC at hby
  unfold BS at DD
  cases hi:P.info? e with
  |none=>rw [hi] at hz;cases hz
  |some i=>
   rw [hi] at hz hby DD
   simp only [Option.map_some,Option.some.injEq,Option.map_eq_some_iff] at hz hby DD
   obtain ⟨z,Re,DD⟩:=DD
   have Od:z.cells.size=sz:=by rw [←hzl,←DD];simp
   have hrun:=run_make (P:=P) w t e i z ht hi Re .i64 .i64 (m:Int) (m:Int) AA (Int.le_refl _) (by rw [hby];have h0:((by_*m:Nat):Int)≤281474976710656:=Int.ofNat_le.2 hb;rw [←Int.natCast_mul];exact h0) (by unfold maxLen at hm;omega)
   rw [hz] at hrun
   simp only [Int.toNat_natCast] at hrun
   have hbe:Below w.heap.size w (w.alloc (.cells (madeCells z.cells (m*sz)) e)):=(Below.refl _ _).alloc (Nat.le_refl _) _
   have hrl:(List.replicate m (zs.map is)).length=m:=List.length_replicate
   have hfl:Flat M w sz (List.replicate m (zs.map is)) (madeCells z.cells (m*sz)).toList:=by
    refine ⟨by rw [hrl];simp [size_madeCells],fun u hu=>List.all_eq_true.1 h1 _ (by rw [←DD];exact ZH AA hu),fun k row hr=> ?_⟩
    have hk:k<m:=by have:=Ar hr;omega
    obtain rfl:row=zs.map is:=List.eq_of_mem_replicate (List.mem_of_getElem? hr)
    refine ⟨by simp [hzl],fun j p hp=> ?_⟩
    rw [List.getElem?_map,Option.map_eq_some_iff] at hp
    obtain ⟨u,hu,rfl⟩:=hp
    exact ⟨u,dh Od hk (by rw [DD];exact hu),rfl⟩
   refine ⟨.slice (some ⟨w.heap.size,0,none⟩) m m,w.alloc (.cells (madeCells z.cells (m*sz)) e),by simp [execOp,ho,hx1,hy1,hrun],?_,hbe⟩
   have hsl:=EL (hfl.st (Ext.below hbe)) (c:=m) (Nat.le_of_eq hrl) hm (g:=w.heap.size) (fun k u hk=>⟨by rw [NW];simpa using hk,fun hx=>by have:=I.bd _ _ hI _ _ hx;omega⟩)
   rw [hrl] at hsl
   exact ⟨hsl,_,by rw [hrl]⟩
section
variable {P:Program} {L:Lg P} {n:Fm} {E:Env} {M0:Av} {w0:World} {S:Nat→Prop} {rs:List A7}
theorem Fin.Gf {Q:Exit→Act→World→Prop} {x:Exit} (i j k:Nat) {sz:Nat} {T e:TypeId} (hi:rs[i]? =some (AE new b T ps)) (hj:rs[j]? =some (Ac e sz rows v)) (hij:j≠i) (hk:ps[k]? =some p) (hp:Pr.le p (is v)) (hl:∀r∈rows,r.length=sz) (kk:Fin n E (Hp M0 w0 S ((rs.set j BW).set i (AE new b T (ps.set k (slice sz rows))))) Q x):Fin n E (Hp M0 w0 S rs) Q x:=Fin.conv (fun _ _ hs=>hs.Gf hi hj hij hk hp hl) kk
end
section
variable {P:Program} {M0:Av} {w0:World} {S:Nat→Prop} {rs:List A7}
def BE (b:Nat) (x:Obj):A7 where
 blk:=some b
 new:=true
 h M w:=(∀o,M b o)∧w.heap[b]? =some x
 st M w M' w' _ hk h:=by
  obtain ⟨h1,h2⟩:=hk b rfl
  exact ⟨fun o=>h2 o (h.1 o),h1.trans h.2⟩
theorem BG.ZI (h:BG M0 w0 S rs M w) (x:Obj):
  BG M0 w0 S (BE w.heap.size x::rs) (fun b o=>M b o∨b=w.heap.size) (w.alloc x)∧Ext M w (fun b o=>M b o∨b=w.heap.size) (w.alloc x):=by
 have hb:Below w.heap.size w (w.alloc x):=(Below.refl _ _).alloc (Nat.le_refl _) _
 have hsz:(w.alloc x).heap.size=w.heap.size+1:=by simp
 have he:Ext M w (fun b o=>M b o∨b=w.heap.size) (w.alloc x):=by
  have h2:=Ext.below (M:=M) hb
  refine ⟨h2.size,fun a v hc hm=>⟨fun hx=> ?_,(h2.keep a v hc hm).2⟩,fun b o ho hp hm=>⟨fun hx=> ?_,(h2.obj b o ho hp hm).2⟩⟩
  ·
   rcases hx with hx|hx
   · exact hm hx
   · exact ES
  ·
   rcases hx with hx|hx
   · exact hm hx
   · subst hx;simp at ho
 have hI:=(Hp M0 w0 S rs).st _ _ _ hb h
 refine ⟨⟨hI.m0,fun b o hm=> .inl (hI.m b o hm),hI.os,hI.tape,hI.output,hI.size,hI.block,fun b o hm=> ?_,fun r hr=> ?_,?_⟩,he⟩
 ·
  rcases hm with hm|hm
  · exact hI.bd b o hm
  · omega
 ·
  rcases List.mem_cons.1 hr with rfl|hr
  ·
   refine ⟨⟨fun o=> .inr rfl,heap_alloc_new w _⟩,fun b hbk=> ?_⟩
   simp only [BE,Option.some.injEq] at hbk
   subst hbk
   exact ⟨by omega,by simp [BE];exact h.size⟩
  ·
   obtain ⟨h3,h4⟩:=h.hold r hr
   exact ⟨r.st _ _ _ _ he (fun b hbk=>⟨hb.block b (h4 b hbk).1,fun _ x=> .inl x⟩) h3,fun b hbk=>⟨by have:=(h4 b hbk).1;omega,(h4 b hbk).2⟩⟩
 ·
  refine List.pairwise_cons.2 ⟨fun r hr b Rp VJ=> ?_,hI.nd⟩
  simp only [BE,Option.some.injEq] at Rp
  subst Rp
  have:=((h.hold r hr).2 _ VJ).1
  omega
theorem BG.putObj {x:Obj} (y:Obj) (h:BG M0 w0 S rs M w) (hj:rs[j]? =some (BE b x)):BG M0 w0 S (rs.set j (BE b y)) M (w.putObj b y)∧Ext M w M (w.putObj b y):=by
 obtain ⟨⟨hM,hx⟩,hbk⟩:=h.hold _ (List.mem_of_getElem? hj)
 have hlt:b<w.heap.size:=(hbk b rfl).1
 have hsz:(w.putObj b y).heap.size=w.heap.size:=by simp [World.putObj]
 have he:Ext M w M (w.putObj b y):=by
  refine ⟨by omega,fun a v hc hm=>⟨hm,?_⟩,fun k o ho _ hm=>⟨hm,?_⟩⟩
  ·
   have hne:a.block≠b:=fun e=>hm (e ▸ hM _)
   rw [World.cell?_of_block (w:=w) (World.putObj_heap_other hne)];exact hc
  ·
   have hne:k≠b:=fun e=>hm (e ▸ hM _)
   exact (World.putObj_heap_other hne).trans ho
 refine ⟨h.replace hj he rfl rfl rfl (fun k _ hne=>World.putObj_heap_other (fun e=>hne (by rw [e];rfl))) rfl (fun _ _ hm _=>hm) (fun b' o hm=>by have:=h.bd b' o hm;omega) ⟨hM,World.putObj_heap_same hlt⟩ rfl (fun b' hb'=>⟨?_,.inl hb'⟩),he⟩
 simp only [BE,Option.some.injEq] at hb'
 subst hb';omega
end
def MB (P:Program) (gf:Nat) (lb:Array Value) {α:Type} (enc:α→Value) (xs:List α) (own:List α→List A7):Prop:=
 ∀M0 w0 S (l:Nat) (β:Type) (R Rx:List α→β→List A7),
  (∀pre x d M w,(pre++[x])<+:xs→BG M0 w0 S (own (pre++[x])++R pre d) M w→YieldAt (E6 none) 0 P l #[enc x] w fun e w'=>∃M' d',Ext M w M' w'∧
   ((e= .returned (.bool true)∧BG M0 w0 S (own (pre++[x])++R (pre++[x]) d') M' w')∨(e= .returned (.bool false)∧BG M0 w0 S (own (pre++[x])++Rx (pre++[x]) d') M' w')))→
  ∀d M w,BG M0 w0 S (own []++R [] d) M w→CallsIn (E6 none) 0 P gf (#[.func (.yield l) #[] #[]]++lb) w fun e w'=>(∃v,e= .returned v)∧∃M' d',Ext M w M' w'∧
   (BG M0 w0 S (own xs++R xs d') M' w'∨∃pre,pre<+:xs∧BG M0 w0 S (own pre++Rx pre d') M' w')
def Q1 (M0:Av) (w0:World) (S:Nat→Prop) {β:Type} (rs:β→List A7) (rx:Code→β→List A7):Exit→Act→World→Prop
 | .normal,_,w=>∃d M,BG M0 w0 S (rs d) M w
 | .ret,_,w=>∃d M,BG M0 w0 S (rx .ret d) M w
 | .exit id,_,w=>∃d M,BG M0 w0 S (rx (.exit id) d) M w
 | .goto t,_,w=>∃d M,BG M0 w0 S (rx (.goto t) d) M w
 | .panic _,_,_=>False
 | .outgrown,_,_=>False
section
variable {P:Program} {M0:Av} {w0:World} {S:Nat→Prop} {rs:List A7}
theorem Tr.range {Q:Exit→Act→World→Prop} {n:Fm} {E:Env} {α β:Type} {p gf:Nat} {g:Operand} {lb:Array Value} {enc:α→Value} {xs:List α} {own:List α→List A7} {assign body:Code} (E':α→Env) (R:List α→β→List A7) (Rx:Code→List α→β→List A7) (d0:β)
  (hIt:MB P gf lb enc xs own) (eg:∀args w,(callFunc gf args).run P w= .ok (.enter gf args) w) (hg:VL E g (is (.func (.func gf) #[] lb))) (jh:rs.Perm (own []++R [] d0))
  (hassign:∀l D rec M1 w1 pre x d,(pre++[x])<+:xs→∀a,a.tmps.size=n.sz→FC M1 w1 E a→∀M w,BG M0 w0 S (own (pre++[x])++(BE l rec::BE D (.deferred (some []))::As M1 w1::R pre d)) M w→
   assign.wpIn (E6 (some l)) 0 P (Exit.then (St ⟨n.sz,[]⟩ (E' x) (Hp M0 w0 S (own (pre++[x])++(BE l rec::BE D (.deferred (some []))::As M1 w1::R pre d)))) (fun _ _ _=>False)) { tmps:=a.tmps.setIfInBounds p (enc x),defers:=[] } w)
  (hbody : ∀ l D rec M1 w1 pre x d, (pre ++ [x]) <+: xs → Tr (dc P (some l)) ⟨n.sz, []⟩ (E' x) (Hp M0 w0 S (own (pre ++ [x]) ++ (BE l rec :: BE D (.deferred (some [])) :: As M1 w1 :: R pre d))) body
   (Q1 M0 w0 S (fun d=>own (pre++[x])++(BE l rec::BE D (.deferred (some []))::As M1 w1::R (pre++[x]) d)) (fun c d=>own (pre++[x])++(BE l rec::BE D (.deferred (some []))::As M1 w1::Rx c (pre++[x]) d))))
  (hdone:∀l D rec M1 w1 d,Fin ⟨n.sz,{ target:= .collected D,args:= #[] }::n.df⟩ E (Hp M0 w0 S (own xs++(BE l rec::BE D (.deferred (some []))::As M1 w1::R xs d))) Q .normal)
  (hstop:∀l D rec M1 w1 c pre d,pre<+:xs→Tr (dc P none) ⟨n.sz,{ target:= .collected D,args:= #[] }::n.df⟩ E (Hp M0 w0 S (own pre++(BE l rec::BE D (.deferred (some []))::As M1 w1::Rx c pre d))) c Q):
  Tr (dc P none) n E (Hp M0 w0 S rs) (.rangeFunc g #[p] assign body) Q:=by
 intro a w ⟨M,hsz,hdf,hE,hI⟩
 have hI:BG M0 w0 S rs M w:=hI
 refine wpIn_rangeFunc ?_
 intro fn hfn
 obtain ⟨rec,T_⟩:∃rec:LoopState→Option Code→Loop,rec=fun st pe=>{ state:=st,pending:=pe,fn,tmps:=a.tmps,params:= #[p],assign,body,defers:=w.heap.size }:=⟨_,rfl⟩
 -- what is held ahead of the call
 have hI2:=BG.perm jh hI
 obtain ⟨gu,e3⟩:=hI2.ZI (.deferred (some []))
 obtain ⟨gw,e4⟩:=gu.ZI (.loop (rec .ready none))
 obtain ⟨W1,hW1⟩:∃W1,(w.alloc (.deferred (some []))).alloc (.loop (rec .ready none))=W1:=⟨_,rfl⟩
 have hs1:(w.alloc (.deferred (some []))).heap.size=w.heap.size+1:=by simp
 rw [hW1,hs1] at gw e4
 obtain ⟨M1,hM1⟩:∃M1:Av,M1=(fun b o=>(M b o∨b=w.heap.size)∨b=w.heap.size+1):=⟨_,rfl⟩
 rw [←hM1] at gw e4
 have e1:Ext M w M1 W1:=e3.trans e4
 obtain ⟨l,hl⟩:∃l,l=w.heap.size+1:=⟨_,rfl⟩
 obtain ⟨D,hD⟩:∃D,D=w.heap.size:=⟨_,rfl⟩
 rw [←hl] at gw
 rw [←hD] at gw
 have hE1:FC M1 W1 E a:=fun s q hq=>q.st _ _ _ _ _ e1 (hE s q hq)
 have hI5:BG M0 w0 S (own []++(BE l (.loop (rec .ready none))::BE D (.deferred (some []))::As M1 W1::R [] d0)) M1 W1:=by
  refine BG.perm ?_ (BG.LH gw (r:=As M1 W1) rfl (Ext.refl _ _))
  refine List.Perm.trans (l₂:=(BE l (.loop (rec .ready none))::BE D (.deferred (some []))::As M1 W1::R [] d0)++own []) ?_ List.perm_append_comm
  refine (List.Perm.swap _ _ _).trans (List.Perm.cons _ ((List.Perm.swap _ _ _).trans (List.Perm.cons _ (List.Perm.cons _ List.perm_append_comm))))
 have ix:∀(os:List A7) (r:A7) (tl:List A7),(os++r::tl)[os.length]? =some r:=fun os r tl=>by simp
 have sx:∀(os:List A7) (r r':A7) (tl:List A7),(os++r::tl).set os.length r'=os++r'::tl:=fun os r r' tl=>by simp
 have ix2:∀(os:List A7) (r1 r2 r:A7) (tl:List A7),(os++r1::r2::r::tl)[os.length+2]? =some r:=fun os r1 r2 r tl=>by grind
 have sx2:∀(os:List A7) (r1 r2 r r':A7) (tl:List A7),(os++r1::r2::r::tl).set (os.length+2) r'=os++r1::r2::r'::tl:=fun os r1 r2 r r' tl=>by
  rw [List.set_append_right _ _ AA];simp
 have wL:=hdone;have wM:=hstop
 refine ⟨l,[{ target:= .collected D,args:= #[] }],W1,{ target:= .fn (.func gf) lb,args:= #[.func (.yield l) #[] #[]] },W1,gf,#[.func (.yield l) #[] #[]]++lb,W1,?_,?_,fun _ _=>trivial,?_,fun h=>(by cases h),?_⟩
 · rw [hl,hD,←hW1,T_];exact run_enterLoop_outer _ _ _ _ _
 ·
  have hv:a.eval g= .func (.func gf) #[] lb:=by
   obtain ⟨q,h1,h2⟩:=hg
   exact h2 _ _ _ (Cm.eval hE h1)
  simp only [resolve,hv]
  simp [go_sem]
 · simp [invoke,go_sem,eg]
 ·
  refine (hIt M0 w0 S l (Code × β) (fun pre cd => BE l (.loop (rec .ready none)) :: BE D (.deferred (some [])) :: As M1 W1 :: R pre cd.2)
   (fun pre cd=>BE l (.loop (rec .done (some cd.1)))::BE D (.deferred (some []))::As M1 W1::Rx cd.1 pre cd.2) ?_ (.skip,d0) M1 W1 hI5).mono ?_
  ·
   rintro pre x ⟨c0,d⟩ M2 W2 hpre hI
   have bC:W2.heap[l]? =some (.loop (rec .ready none)):=(hI.hold (BE l (.loop (rec .ready none))) Aa).1.2
   have hx2:Ext M1 W1 M2 W2:=(hI.hold (As M1 W1) Aa).1
   have hy:=run_yield (P:=P) (args:= #[enc x]) bC (by rw [T_];rfl)
   have K6:BG M0 w0 S (own (pre++[x])++(BE l (.loop (rec .ready none))::BE D (.deferred (some []))::As M2 W2::R pre d)) M2 W2:=by
    have:=hI.C0 (r':=As M2 W2) (ix2 _ _ _ _ _) rfl rfl (Ext.refl _ _)
    rwa [sx2] at this
   have hy2:(Instr.yield l #[enc x]).run P W2= .ok (.round l fn (a.tmps.setIfInBounds p (enc x)) assign body) W2:=by
    rw [hy,T_];simp
   have ha:=hassign l D _ M2 W2 pre x d hpre a hsz (fun s q hq=>q.st _ _ _ _ _ hx2 (hE1 s q hq)) M2 W2 K6
   refine ⟨fn,_,assign,body,hy2,roundIn_of_wpIn (F:=E6 none) trivial (wpIn_mono (F:=(E6 none).inRound l) ha ?_)⟩
   intro e a3 W3 hq
   cases e with
   |normal=>
    obtain ⟨M3,TD,hd3,hE3,gu⟩:=hq
    have gu:BG M0 w0 S (own (pre++[x])++(BE l (.loop (rec .ready none))::BE D (.deferred (some []))::As M2 W2::R pre d)) M3 W3:=gu
    have mw:W3.heap[l]? =some (.loop (rec .ready none)):=(gu.hold (BE l (.loop (rec .ready none))) Aa).1.2
    obtain ⟨gw,e4⟩:=gu.putObj (.loop { rec .ready none with state:= .busy }) (ix _ _ _)
    rw [sx] at gw
    refine ⟨_,run_beginRound mw (by rw [T_]),?_⟩
    refine wpIn_mono (F:=(E6 none).inRound l) (hbody l D _ M2 W2 pre x d hpre a3 _ ⟨M3,TD,hd3,fun s q hq=>q.st _ _ _ _ _ e4 (hE3 s q hq),gw⟩) ?_
    have fin:∀(jump:Option Code) (tl:List A7) (W5:World) (M5:Av),BG M0 w0 S (own (pre++[x])++(BE l (.loop { rec .ready none with state:= .busy })::BE D (.deferred (some []))::As M2 W2::tl)) M5 W5→
      ∃w6,(Instr.endRound l jump).run P W5= .ok (.bool jump.isNone) w6∧Ext M2 W2 M5 w6∧BG M0 w0 S (own (pre++[x])++(BE l (.loop (rec (if jump.isNone then .ready else .done) jump))::BE D (.deferred (some []))::As M1 W1::tl)) M5 w6:=by
     intro jump tl W5 M5 h5
     have hl5:W5.heap[l]? =some (.loop { rec .ready none with state:= .busy }):=(h5.hold (BE l (.loop { rec .ready none with state:= .busy })) Aa).1.2
     have hx5:Ext M2 W2 M5 W5:=(h5.hold (As M2 W2) Aa).1
     obtain ⟨h6,e6⟩:=h5.putObj (.loop { rec .ready none with state:=if jump.isNone then .ready else .done,pending:=jump }) (ix _ _ _)
     rw [sx] at h6
     have h7:=h6.C0 (r':=As M1 W1) (ix2 _ _ _ _ _) rfl rfl (hx2.trans (hx5.trans e6))
     rw [sx2] at h7
     refine ⟨_,run_endRound jump hl5,hx5.trans e6,?_⟩
     rw [T_] at h7 ⊢
     exact h7
    intro e5 a5 W5 hp
    cases e5 with
    |normal=>
     obtain ⟨d5,M5,h5⟩:=hp
     obtain ⟨w6,g1,g2,g3⟩:=fin none _ _ _ h5
     exact ⟨_,_,g1,M5,(.skip,d5),g2,.inl ⟨rfl,g3⟩⟩
    |ret=>
     obtain ⟨d5,M5,h5⟩:=hp
     obtain ⟨w6,g1,g2,g3⟩:=fin (some .ret) _ _ _ h5
     exact ⟨_,_,g1,M5,(.ret,d5),g2,.inr ⟨rfl,g3⟩⟩
    |exit id=>
     obtain ⟨d5,M5,h5⟩:=hp
     obtain ⟨w6,g1,g2,g3⟩:=fin (some (.exit id)) _ _ _ h5
     exact ⟨_,_,g1,M5,(.exit id,d5),g2,.inr ⟨rfl,g3⟩⟩
    |goto t=>
     obtain ⟨d5,M5,h5⟩:=hp
     obtain ⟨w6,g1,g2,g3⟩:=fin (some (.goto t)) _ _ _ h5
     exact ⟨_,_,g1,M5,(.goto t,d5),g2,.inr ⟨rfl,g3⟩⟩
    |panic ch=>exact hp.elim
    |outgrown=>exact hp.elim
   |exit id=>exact hq.elim
   |goto t=>exact hq.elim
   |ret=>exact hq.elim
   |panic ch=>exact hq.elim
   |outgrown=>exact hq.elim
  ·
   rintro e W2 ⟨⟨v,rfl⟩,M2,⟨c2,d2⟩,hx2,h2⟩
   have hend:∀(os tl:List A7) (st:LoopState) (pe:Option Code),st≠ .busy→BG M0 w0 S (os++(BE l (.loop (rec st pe))::BE D (.deferred (some []))::As M1 W1::tl)) M2 W2→
     ∃w6,(Instr.endLoop l).run P W2= .ok pe w6∧Ext M2 W2 M2 w6∧BG M0 w0 S (os++(BE l (.loop { rec st pe with state:= .exhausted })::BE D (.deferred (some []))::As M1 W1::tl)) M2 w6:=by
    intro os tl st pe hst h5
    have hl5:W2.heap[l]? =some (.loop (rec st pe)):=(h5.hold (BE l (.loop (rec st pe))) Aa).1.2
    obtain ⟨h6,e6⟩:=h5.putObj (.loop { rec st pe with state:= .exhausted }) (ix _ _ _)
    rw [sx] at h6
    have:=run_endLoop (P:=P) hl5 (by rw [T_];exact hst)
    refine ⟨_,?_,e6,h6⟩
    rw [this,T_]
   rcases h2 with h2|⟨pre,hpre,h2⟩
   ·
    obtain ⟨w6,g1,g2,g3⟩:=hend _ _ _ _ Aa h2
    exact ⟨none,w6,g1,hdone l D _ M1 W1 d2 _ _ ⟨M2,hsz,by show _::a.defers=_;rw [hdf],fun s q hq=>q.st _ _ _ _ _ g2 (q.st _ _ _ _ _ hx2 (hE1 s q hq)),g3⟩⟩
   ·
    obtain ⟨w6,g1,g2,g3⟩:=hend _ _ _ _ Aa h2
    exact ⟨some c2,w6,g1,hstop l D _ M1 W1 c2 pre d2 hpre _ _ ⟨M2,hsz,by show _::a.defers=_;rw [hdf],fun s q hq=>q.st _ _ _ _ _ g2 (q.st _ _ _ _ _ hx2 (hE1 s q hq)),g3⟩⟩
end
section
variable {P:Program} {M0:Av} {w0:World} {S:Nat→Prop} {rs:List A7}
theorem Tr.toR {n:Fm} {E:Env} {I:CU} {c:Code} {Q:Exit→Act→World→Prop} (h:Tr (Td P) n E I c Q):Tr (dc P none) n E I c Q:=fun a w hs=>wpIn_wide.2 (h a w hs)
theorem Tr.ofR {n:Fm} {E:Env} {I:CU} {c:Code} {Q:Exit→Act→World→Prop} (h:Tr (dc P none) n E I c Q):Tr (Td P) n E I c Q:=fun a w hs=>wpIn_wide.1 (h a w hs)
theorem Tr.jz {Q:Exit→Act→World→Prop} {n:Fm} {E:Env} {α β:Type} {p gf:Nat} {g:Operand} {lb:Array Value} {enc:α→Value} {xs:List α} {own:List α→List A7} {assign body:Code} (E':α→Env) (R:List α→β→List A7) (Rx:Code→List α→β→List A7) (d0:β)
  (hIt:MB P gf lb enc xs own) (eg:∀args w,(callFunc gf args).run P w= .ok (.enter gf args) w) (hg:VL E g (is (.func (.func gf) #[] lb))) (jh:rs.Perm (own []++R [] d0))
  (hassign:∀l D rec M1 w1 pre x d,(pre++[x])<+:xs→∀a,a.tmps.size=n.sz→FC M1 w1 E a→∀M w,BG M0 w0 S (own (pre++[x])++(BE l rec::BE D (.deferred (some []))::As M1 w1::R pre d)) M w→
   assign.wpIn (E6 (some l)) 0 P (Exit.then (St ⟨n.sz,[]⟩ (E' x) (Hp M0 w0 S (own (pre++[x])++(BE l rec::BE D (.deferred (some []))::As M1 w1::R pre d)))) (fun _ _ _=>False)) { tmps:=a.tmps.setIfInBounds p (enc x),defers:=[] } w)
  (hbody : ∀ l D rec M1 w1 pre x d, (pre ++ [x]) <+: xs → Tr (dc P (some l)) ⟨n.sz, []⟩ (E' x) (Hp M0 w0 S (own (pre ++ [x]) ++ (BE l rec :: BE D (.deferred (some [])) :: As M1 w1 :: R pre d))) body
   (Q1 M0 w0 S (fun d=>own (pre++[x])++(BE l rec::BE D (.deferred (some []))::As M1 w1::R (pre++[x]) d)) (fun c d=>own (pre++[x])++(BE l rec::BE D (.deferred (some []))::As M1 w1::Rx c (pre++[x]) d))))
  (hdone:∀l D rec M1 w1 d,Fin ⟨n.sz,{ target:= .collected D,args:= #[] }::n.df⟩ E (Hp M0 w0 S (own xs++(BE l rec::BE D (.deferred (some []))::As M1 w1::R xs d))) Q .normal)
  (hstop:∀l D rec M1 w1 c pre d,pre<+:xs→Tr (Td P) ⟨n.sz,{ target:= .collected D,args:= #[] }::n.df⟩ E (Hp M0 w0 S (own pre++(BE l rec::BE D (.deferred (some []))::As M1 w1::Rx c pre d))) c Q):
  Tr (Td P) n E (Hp M0 w0 S rs) (.rangeFunc g #[p] assign body) Q:=
 Tr.ofR (Tr.range E' R Rx d0 hIt eg hg jh hassign hbody hdone fun l D rec M1 w1 c pre d hp=>(hstop l D rec M1 w1 c pre d hp).toR)
end
section
variable {P:Program}
end
end Cp
namespace Cp
open Go Go.RowKit Go.Great
variable {f:FuncId} {ps:List Pr} {w:World}
abbrev mark (D:Nat):Deferred:={ target:= .collected D,args:= #[] }
abbrev Vh (D:Nat):A7:=BE D (.deferred (some []))
abbrev OC (P:Program) (g:Func) (R:Ending→World→Prop):Exit→Act→World→Prop:=bodyPostM (E6 none) 0 P g R
section
variable {P:Program} {fz:Nat} {E:Env} {M0:Av} {w0:World} {S:Nat→Prop} {rs:List A7} {g:Func} {R:Ending→World→Prop} {ds:List Deferred} {n:Fm} {c:Code}
theorem Fin.ZJ {D:Nat} (k:Fin ⟨fz,ds⟩ E (Hp M0 w0 S rs) (OC P g R) .ret):Fin ⟨fz,mark D::ds⟩ E (Hp M0 w0 S (Vh D::rs)) (OC P g R) .ret:=by
 rintro a w ⟨M,h1,h2,h3,h4⟩
 have h4:BG M0 w0 S (Vh D::rs) M w:=h4
 have hD:w.heap[D]? =some (.deferred (some [])):=(h4.hold _ (List.mem_cons_self ..)).1.2
 obtain ⟨h5,h6⟩:=h4.putObj (j:=0) (.deferred none) rfl
 have h7:=k { a with defers:=ds } (w.putObj D (.deferred none)) ⟨M,h1,rfl,fun s q hq=>q.st _ _ _ _ _ h6 (h3 s q hq),BG.G2 h5⟩
 have h2:a.defers=mark D::ds:=h2
 show LeavesInM _ _ _ _ _ _ a.defers _ _
 rw [h2]
 exact ⟨(fun h=>by cases h),.inl ⟨D,_,rfl,run_takeDeferred hD,h7⟩⟩
theorem Fin.gy (k:Fin ⟨fz,[]⟩ E (Hp M0 w0 S rs) (bodyPost P g R) .ret):Fin ⟨fz,[]⟩ E (Hp M0 w0 S rs) (OC P g R) .ret:=by
 rintro a w h
 obtain ⟨h1,v,h2,h3⟩:=k a w h
 show LeavesInM _ _ _ _ _ _ a.defers _ _
 rw [h1]
 exact ⟨v,h2,h3⟩
theorem MC {args:Array Value} (hf:P.funcs[f]? =some g) (hb:g.body=some c) (h:c.wp P (OC P g R) { tmps:=args++Array.replicate (g.ntmps-args.size) undef,defers:=[] } w):Calls P f args w R:=
 callsIn_wide.1 (callsIn_of_wp_marks (F:=E6 none) (n:=0) hf hb trivial (wpIn_wide.2 h))
variable {α:Type} {pre:List A7} {C:α→Prop} {res:α→Pr} {post:α→List A7} {M1:Av} {w1:World}
theorem MK.ofM (hf : P.funcs[f]? = some g) (hb : g.body = some c) (hname : (g.name == "runtime.NumGoroutine") = false) (hlen : ps.length ≤ g.ntmps) (h : ∀ M0 w0 S rs M1 w1, Tr (Td P) g.ntmps (Jl 0 ps) (Hp M0 w0 S (pre ++ As M1 w1 :: rs)) c (OC P g (N3 M0 w0 S rs M1 w1 C res post))) : MK P f ps pre C res post := by
 refine ⟨⟨g,hf,hname,by rw [hb];rfl⟩,fun M0 w0 S rs M w vs hI hv=> ?_⟩
 refine MC hf hb (h M0 w0 S rs M w _ _ ⟨M,?_,rfl,FK hv,?_⟩)
 ·
  have:=hv.length
  simp [this];omega
 · exact Ta
end
section
variable {P:Program} {L:Lg P} {n:Fm} {z0:Value} {fz:Nat} {E:Env} {M0:Av} {w0:World} {S:Nat→Prop} {rs:List A7} {o:Oper} {κ:Type} [DecidableEq κ] {enc:κ→Value}
variable {Q:Exit→Act→World→Prop} {ops:Array Oper} {r:List Oper}
end
section
variable {P:Program} {L:Lg P} {n:Fm} {E:Env} {M0:Av} {w0:World} {S:Nat→Prop} {rs:List A7} {ε:Type} {res:ε→List A7} {Q:Exit→Act→World→Prop} {c:Code} {X:List ε} {f:ε→Value} {g:ε→Pr}
end
section
variable {P:Program} {L:Lg P} {n:Fm} {E:Env} {M0:Av} {w0:World} {S:Nat→Prop} {rs:List A7} {o:Oper} {Q:Exit→Act→World→Prop} {c:Code}
end
section
variable {P:Program} {L:Lg P} {n:Fm} {E:Env} {M0:Av} {w0:World} {S:Nat→Prop} {rs:List A7} {o:Oper} {Q:Exit→Act→World→Prop} {c:Code} {r:List Oper} {ops:Array Oper}
def rJ (ps:List Pr):Prop:=∀p∈ps,Ij p
theorem HL.free {cs:List Value} {M M2:Av} (hf:rJ ps) (h:HL M w ps cs):HL M2 w ps cs:=
 R6 h.length fun k p hk=>by
  obtain ⟨u,hu,bQ⟩:=h.at_ k p hk
  exact ⟨u,hu,(hf p (List.mem_of_getElem? hk)).free _ _ _ _ bQ⟩
theorem TO.perm {rs':List A7} (hp:rs.Perm rs') (k:TO P n ops r E (Hp M0 w0 S rs') Q):TO P n ops r E (Hp M0 w0 S rs) Q:=TO.conv (fun _ _ hs=>hs.perm hp) k
end
section
variable {P:Program} {L:Lg P} {n:Fm} {E:Env} {M0:Av} {w0:World} {S:Nat→Prop} {rs:List A7} {o:Oper} {Q:Exit→Act→World→Prop} {c:Code} {r:List Oper} {ops:Array Oper}
instance rK:Ij any:=⟨fun _ _ _ _ _=>trivial⟩
instance j0 (v:Value) (p:Pr) [h9:Ij p]:Ij (Ao v p):=⟨fun _ _ _ _ h=>⟨h.1,h9.free _ _ _ _ h.2⟩⟩
end
end Cp
