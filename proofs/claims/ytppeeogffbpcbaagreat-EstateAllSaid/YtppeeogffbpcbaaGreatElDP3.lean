/-
  Part 3 of the texts that prove this claim, merged.
-/
import Derived.Lib.Bytealg
import Derived.Test.YtppeeogffbpcbaaGreatRows
import Derived.HandedShaped
import Derived.Test.YtppeeogffbpcbaaGreatElDP2
set_option linter.all false
set_option maxRecDepth 40000
set_option maxHeartbeats 16000000
namespace Cp
open Go Go.RowKit Go.Great
section
variable {P:Program} {L:Lg P} {E:Env} {I:Ca} {o:Oper}
theorem SF {f : FuncId} {fn : Func} {x y : Operand} {ts : Array TypeId} {a : List UInt8} {c : UInt8} (ho : o.op = .call { callee := .value (.func f), args := #[x, y], argTypes := ts }) (hf : P.funcs[f]? = some fn) (hname : (fn.name == "runtime.NumGoroutine") = false)
  (hb:fn.body.isNone=true) (hn:Extern.findNext fn=none) (hex:Extern.find fn=some Extern.BytealgIndexByte.indexByte) (hx:VL E x (str a)) (hy:VL E y (is (.int .u8 ((c.toNat:Nat):Int)))):Ad P I o E (int (Lib.indexByte a c)):=
 Ad.same fun M w ac he _=>by
  have h1:ac.eval x=_:=hx.ev he (by simp [ho,Op.operands,Call.operands])
  have h2:ac.eval y=_:=hy.ev he (by simp [ho,Op.operands,Call.operands])
  have h3:ac.eval (.func f)= .func (.func f) #[] #[]:=rfl
  refine ⟨_,?_,rfl⟩
  have hrun:(execOp ac.eval o).run P w=(callFunc f #[ac.eval x,ac.eval y]).run P w:=by simp [execOp,ho,resolve,Deferred.ofValue,invoke,h3]
  rw [hrun,h1,h2,run_callFunc_extern hf hname hb hn hex,Lib.run_indexByteString]
  simp
section
variable {n:Fm} {fz:Nat} {M0:Av} {w0:World} {S:Nat→Prop}
theorem UZ {t e:TypeId} {sz d j:Nat} {zs:List Value} {xs:List Operand} {parts:Array (Nat×Operand)} {rows:List (List Pr)} (hg:o.guard=none) (hd:o.dst=some d) (hn:d<n) (ho:o.op= .buildSlice t xs.length parts) (hp:parts.toList=(xs.zipIdx 0).map fun x=>(x.2,x.1))
  (ht:P.underlying t=some (.slice e)) (hz:Ap P e=some sz) (C6:Bh P e=some zs) (hzl:zs.length=sz) (hsz:0<sz) (hx:Ny E sz xs rows) (hsmall:xs.length*sz≤16777216) (rO:0<xs.length):DU P M0 w0 S n j (SR.c Bm) ⟨d,C_ e sz rows⟩ o E (lens rows.length):=by
 refine ⟨hg,fun M w a rs H7 he hI hj=> ?_⟩
 have cr:∀x∈xs,x∈o.op.operands.toList:=by
  intro x hx
  simp only [ho,Op.operands,List.mem_map]
  obtain ⟨i,hi,rfl⟩:=List.mem_iff_getElem.1 hx
  exact ⟨(i,xs[i]),by rw [hp];exact List.mem_map.2 ⟨(xs[i],i),by rw [List.mem_zipIdx_iff_getElem?];simp [hi],rfl⟩,rfl⟩
 obtain ⟨h1,h2,h3⟩:=hx.ev he cr
 unfold Ap at hz
 unfold Bh at C6
 cases hi:P.info? e with
 |none=>rw [hi] at hz;cases hz
 |some i=>
  rw [hi] at hz C6
  simp only [Option.map_some,Option.some.injEq,Option.map_eq_some_iff] at hz C6
  obtain ⟨z,OG,C6⟩:=C6
  have Rl:z.cells.size=sz:=by rw [←hzl,←C6];simp
  have hparts:(parts.map fun (i,x)=>(i,a.eval x)).toList=((xs.map a.eval).zipIdx 0).map fun x=>(x.2,x.1):=by
   rw [Array.toList_map,hp,List.map_map,List.zipIdx_map,List.map_map]
   rfl
  have Vq := fill_whole (s := i.size) (by rw [hz]; exact hsz) (xs.map a.eval) ((Array.range (xs.length * i.size)).map (z.cells[· % z.cells.size]!)) (fun v hv => by
   obtain ⟨x,hx,rfl⟩:=List.mem_map.1 hv
   rw [hz];exact h2 x hx) (by simp)
  have hpos:¬xs.length*i.size=0:=by rw [hz];exact Nat.ne_of_gt (Nat.mul_pos (by omega) hsz)
  have hrun:=run_buildSlice (P:=P) w t e xs.length (parts.map fun (i,x)=>(i,a.eval x)) _ i z ht hi OG (by rw [hz];omega) hpos (by rw [hparts];exact Vq)
  have Cz:(execOp a.eval o).run P w= .ok (.value (.slice (some ⟨w.heap.size,0,none⟩) xs.length xs.length)) (w.alloc (.cells ((xs.map a.eval).flatMap fun v=>v.cells.toList).toArray e)):=by simp [execOp,ho,hrun]
  rw [Cz]
  generalize hcs:(xs.map a.eval).flatMap (fun v=>v.cells.toList)=cs at h3 ⊢
  have hb:Below w.heap.size w (w.alloc (.cells cs.toArray e)):=(Below.refl _ _).alloc (Nat.le_refl _) _
  have hlen:rows.length≤maxLen:=by
   have:xs.length*1≤xs.length*sz:=Nat.mul_le_mul_left _ hsz
   unfold maxLen;omega
  have h4:=Ext.below (M:=M) hb
  have DV:Ext M w (fun b o=>M b o∨b=w.heap.size) (w.alloc (.cells cs.toArray e)):=by
   refine ⟨h4.size,fun a v hc hm=>⟨fun hx=> ?_,(h4.keep a v hc hm).2⟩,fun b o ho hp hm=>⟨fun hx=> ?_,(h4.obj b o ho hp hm).2⟩⟩
   ·
    rcases hx with hx|hx
    · exact hm hx
    · have:=D3 hc;omega
   ·
    rcases hx with hx|hx
    · exact hm hx
    · subst hx;simp at ho
  have hs1:(w.alloc (.cells cs.toArray e)).heap.size=w.heap.size+1:=by simp
  have Mz:(SR.at_ (a.put o.dst (.slice (some ⟨w.heap.size,0,none⟩) xs.length xs.length)) ⟨d,C_ e sz rows⟩)=C_ e sz rows (.slice (some ⟨w.heap.size,0,none⟩) xs.length xs.length):=by unfold SR.at_ Slot.val;dsimp only;rw [hd,B2 (by rw [H7];exact hn)]
  refine ⟨fun b o=>M b o∨b=w.heap.size,⟨_,_,by rw [h1]⟩,DV,?_⟩
  rw [Mz]
  refine hI.replace hj DV hb.os hb.tape hb.output (fun k hk _=>hb.block k hk) rfl (fun b o hm _=> .inl hm) (fun b o hx=> ?_) ?_ rfl (fun b hbk=> ?_)
  ·
   rcases hx with hx|hx
   · have:=hI.bd _ _ hx;omega
   · omega
  ·
   refine ⟨w.heap.size,rows.length,[],by rw [h1],Nat.le_refl _,hlen,by simp,fun o=> .inr rfl,cs,heap_alloc_new w _,?_,h3.2.1⟩
   simpa using (h3.st DV).hl hsz
  ·
   have EX:some w.heap.size=some b:=hbk
   injection EX with e1
   subst e1
   exact ⟨by rw [hs1];omega,.inr (Nat.le_refl _)⟩
end
theorem ZO (p:Pr) [One p]:Pr.le p (Dp [any]):=fun M w v h=>by
 obtain ⟨h1,h2⟩:=AS p M w v h
 refine ⟨?_,h2⟩
 match v.cells.toList,h1 with
 |[_],_=>exact ⟨trivial,trivial⟩
theorem ZP {ps:List Pr} {off:Nat} (h:ps[off]? =some any):ps.take off++[any]++ps.drop (off+1)=ps:=by
 have hl:=A1 h
 rw [List.getElem?_eq_getElem hl] at h
 simp only [Option.some.injEq] at h
 conv=>rhs;rw [←List.take_append_drop off ps,List.drop_eq_getElem_cons hl,h]
 simp
end
def allI (p:Nat→Bool) (n:Nat):Bool:=(List.range n).all p
theorem Bo {p:Nat→Bool} {n:Nat}:allI p n=true↔∀j,j<n→p j=true:=by unfold allI;simp
theorem IW {p:Nat→Bool} {n:Nat} (h:∀j,j<n→p j=true):allI p n=true:=Bo.2 h
theorem C0 {p:Nat→Bool} {n k:Nat} (hk:k<n) (h:p k=false):allI p n=false:=by
 rw [Bool.eq_false_iff];intro h';rw [Bo.1 h' k hk] at h;cases h
theorem Bq {p:Nat→Bool} {k:Nat} (h:∀j,j<k→p j=true) (hk:p k=true):∀j,j<k+1→p j=true:=by
 intro j hj
 by_cases e:j=k
 · subst e;exact hk
 · exact h j (by omega)
section
variable {P:Program} {L:Lg P} {n:Fm} {fz:Nat} {I:Ca}
def bu (P:Program) (I':Ca) (M:Av) (w:World) (p:Pr):Result Next→Prop
 | .ok (.value v) w'=>∃M',p.h M' w' v∧Ext M w M' w'∧I'.h M' w'
 | .ok .skip w'=>∃M',p.h M' w' undef∧Ext M w M' w'∧I'.h M' w'
 | .ok (.enter f args) w'=>Calls P f args w' fun e w''=>∃v M',e= .returned v∧p.h M' w'' v∧Ext M w M' w''∧I'.h M' w''
 |_=>False
def Ky (P:Program) (n:Fm) (I I':Ca) (o:Oper) (E:Env) (p:Pr):Prop:=o.guard=none∧∀M w (a:Act),a.tmps.size=n.sz→Ci M w E o a→I.h M w→bu P I' M w p ((execOp a.eval o).run P w)
theorem Ua {M:Av} {w:World} {o:Oper} {p:Pr} {a:Act} {K:Act→World→Prop} {Q:Exit→Act→World→Prop} {I':Ca} (h:bu P I' M w p ((execOp a.eval o).run P w))
  (k:∀v w' M',p.h M' w' v→Ext M w M' w'→I'.h M' w'→K (a.put o.dst v) w'):o.wp P a w K Q:=by
 unfold Oper.wp
 generalize (execOp a.eval o).run P w=r at h
 cases r with
 |halt x w'=>exact h.elim
 |ok x w'=>
  cases x<;>first|exact h.elim|skip
  case value v=>obtain ⟨M',h1,h2,h3⟩:=h;exact k _ _ _ h1 h2 h3
  case skip=>obtain ⟨M',h1,h2,h3⟩:=h;exact k _ _ _ h1 h2 h3
  case enter f args=>
   refine h.mono ?_
   rintro e w'' ⟨v,M',rfl,h1,h2,h3⟩
   exact k _ _ _ h1 h2 h3
def AR (P:Program) (n:Fm) (I:Ca) (ops:Array Oper):Nat→List Oper→Env→(Ca→Env→Prop)→Prop
 |_,[],_,_=>False
 |0,o::r,E,K=>∃p I',Ky P n I I' o E p∧(∀d,o.dst=some d→d<n)∧Ch P n I' ops r (upd o p E) (K I')
 |c+1,o::r,E,K=>∃p,VU P I ops o E p∧(∀d,o.dst=some d→d<n)∧AR P n I ops c r (upd o p E) K
theorem AR.op {ops:Array Oper} {o:Oper} {r:List Oper} {E:Env} {K:Ca→Env→Prop} {d c:Nat} {p:Pr} (hg:o.guard=none) (hd:o.dst=some d) (hn:d<n) (h:Ad P I o E p)
  (k:AR P n I ops c r ((d,p)::E) K):AR P n I ops (c+1) (o::r) E K:=
 ⟨p,by unfold VU;rw [hg];exact h,fun d' hd'=>by rw [hd] at hd';cases hd';exact hn,by unfold upd;rw [hd];exact k⟩
theorem AR.turn {ops:Array Oper} {o:Oper} {r:List Oper} {E:Env} {K:Ca→Env→Prop} {d:Nat} {p:Pr} (I':Ca) (hd:o.dst=some d) (hn:d<n) (h:Ky P n I I' o E p)
  (k:Ch P n I' ops r ((d,p)::E) (K I')):AR P n I ops 0 (o::r) E K:=
 ⟨p,I',h,fun d' hd'=>by rw [hd] at hd';cases hd';exact hn,by unfold upd;rw [hd];exact k⟩
def PV (l:List Oper) (c:Nat):Bool:=
 let b:=O6 l
 JM l&&decide (c<l.length)&&(List.range l.length).all fun i=>i==c||(decide (i<c)&&(b.getD c 0).testBit i)||(decide (c<i)&&(b.getD i 0).testBit c)
theorem PW {l:List Oper} {c:Nat} (h:PV l c=true):JM l=true∧c<l.length∧(∀i,i<c→((O6 l).getD c 0).testBit i=true)∧∀i,c<i→i<l.length→((O6 l).getD i 0).testBit c=true:=by
 unfold PV at h
 simp only [Bool.and_eq_true,decide_eq_true_eq] at h
 obtain ⟨⟨h1,h2⟩,h3⟩:=h
 rw [List.all_eq_true] at h3
 refine ⟨h1,h2,fun i hi=> ?_,fun i hi hl=> ?_⟩
 ·
  have:=h3 i (by simp;omega)
  simp at this
  rcases this with (h|h)|h
  · omega
  · exact h.2
  · omega
 ·
  have:=h3 i (by simp;omega)
  simp at this
  rcases this with (h|h)|h
  · omega
  · omega
  · exact h.2
theorem Qs:∀(L:List (Oper×Pr)) (m:Nat) (E:Env) (b:Nat),b≤m→cur (fun i=>decide (i<b)) m L E=E:=by
 intro L
 induction L with
 |nil=>intros;rfl
 |cons x L ih=>intro m E b hm;obtain ⟨o,p⟩:=x;unfold cur;rw [if_neg (by simp;omega)];exact ih _ _ _ (by omega)
theorem Qt {ops:Array Oper} {K:Ca→Env→Prop}:∀(c:Nat) (l:List Oper) (k:Nat) (E:Env),AR P n I ops c l E K→∃(L:List (Oper×Pr)) (I':Ca),L.map (·.1)=l∧
  (∀j o p,L[j]? =some (o,p)→(j≠c→VU P (if j<c then I else I') ops o (cur (fun i=>decide (i<k+j)) k L E) p)∧(j=c→Ky P n I I' o (cur (fun i=>decide (i<k+j)) k L E) p)∧∀d,o.dst=some d→d<n)∧K I' (cur (fun _=>true) k L E)
 |_,[],_,_,h=>by unfold AR at h;exact h.elim
 |0,o::l,k,E,h=>by
  obtain ⟨p,I',hg,hd,hr⟩:=h
  obtain ⟨L,h1,h2,h3⟩:=O2 l (k+1) _ hr
  refine ⟨(o,p)::L,I',by simp [h1],fun j o' p' hj=> ?_,by unfold cur;simpa using h3⟩
  cases j with
  |zero=>
   simp only [List.getElem?_cons_zero,Option.some.injEq,Prod.mk.injEq] at hj
   obtain ⟨rfl,rfl⟩:=hj
   have e0:decide (k<k+0)=false:=by simp
   refine ⟨fun h=>absurd rfl h,fun _=> ?_,hd⟩
   unfold cur
   simp only [e0,Bool.false_eq_true,↓reduceIte]
   rw [Qs L (k+1) E (k+0) (by omega)]
   exact hg
  |succ j=>
   have:=h2 j o' p' (by simpa using hj)
   have e1:decide (k<k+1+j)=true:=by simp;omega
   rw [show k+(j+1)=k+1+j by omega]
   unfold cur
   simp only [e1,↓reduceIte]
   exact ⟨fun _=>by rw [if_neg (by omega:¬j+1<0)];exact this.1,fun h=>absurd h (by omega),this.2⟩
 |c+1,o::l,k,E,h=>by
  obtain ⟨p,hg,hd,hr⟩:=h
  obtain ⟨L,I',h1,h2,h3⟩:=Qt c l (k+1) _ hr
  refine ⟨(o,p)::L,I',by simp [h1],fun j o' p' hj=> ?_,by unfold cur;simpa using h3⟩
  cases j with
  |zero=>
   simp only [List.getElem?_cons_zero,Option.some.injEq,Prod.mk.injEq] at hj
   obtain ⟨rfl,rfl⟩:=hj
   have e0:decide (k<k+0)=false:=by simp
   refine ⟨fun _=> ?_,fun h=>absurd h (by omega),hd⟩
   unfold cur
   rw [if_pos (by omega:0<c+1)]
   simp only [e0,Bool.false_eq_true,↓reduceIte]
   rw [Qs L (k+1) E (k+0) (by omega)]
   exact hg
  |succ j=>
   have:=h2 j o' p' (by simpa using hj)
   have e1:decide (k<k+1+j)=true:=by simp;omega
   rw [show k+(j+1)=k+1+j by omega]
   unfold cur
   simp only [e1,↓reduceIte]
   refine ⟨fun hne=> ?_,fun he=>this.2.1 (by omega),this.2.2⟩
   have h4:=this.1 (by omega)
   by_cases hlt:j<c
   · rw [if_pos (by omega:j+1<c+1)];rwa [if_pos hlt] at h4
   · rw [if_neg (by omega:¬j+1<c+1)];rwa [if_neg hlt] at h4
structure DJ1 (n:Fm) (I I':Ca) (c:Nat) (L:List (Oper×Pr)) (E:Env) (listed:Array Bool) (a:Act) (w:World):Prop where
 size:listed.size=L.length
 down:∀(i k:Nat) o p,L[i]? =some (o,p)→listed.getD i false=true→JL o k=true→listed.getD k false=true
 st:∃M,a.tmps.size=n.sz∧a.defers=n.df∧F9 M w (cur (fun i=>listed.getD i false) 0 L E) a∧(if listed.getD c false then I' else I).h M w
theorem Tr.DN {Lo:Lg P} (hm:P.follows .mixedOrders=true) (c:Nat) {id:Nat} {l:List Oper} {E:Env} {Q:Exit→Act→World→Prop} (hB0:PV l c=true)
  (h:AR P n I l.toArray c l E (fun I' E'=>∀a w,St n E' I' a w→Q .normal a w)) (hc:calm l=true:=by with_unfolding_all rfl):Tr Lo n E I (.region id l.toArray true) Q:=by
 intro a w hs
 obtain ⟨L,I',h1,h2,h3⟩:=Qt c l 0 E h
 obtain ⟨hB,Vr,hA,hBc⟩:=PW hB0
 have hlen:L.length=l.length:=by rw [←h1];simp
 have hL:∀(i:Nat) o,l.toArray[i]? =some o→∃p,L[i]? =some (o,p):=by
  intro i o ho
  have:l[i]? =some o:=by simpa using ho
  rw [←h1,List.getElem?_map] at this
  cases hx:L[i]? with
  |none=>rw [hx] at this;simp at this
  |some x=>rw [hx] at this;simp at this;exact ⟨x.2,by rw [←this]⟩
 have hL':∀(i:Nat) o p,L[i]? =some (o,p)→l[i]? =some o:=by
  intro i o p hi
  rw [←h1,List.getElem?_map,hi];rfl
 -- what the check says
 have O3:∀(i:Nat) o,l[i]? =some o→(∀e∈o.after,Region.binds .any e=true→e.on<i)∧
   ∀(k:Nat) q s,l[k]? =some q→k≠i→q.dst=some s→o.dst≠some s∧(s∈seen l.toArray o→(k<i∧JL o k=true)∨(i<k∧JL q i=true)):=by
  intro i o ho
  unfold JM at hB
  rw [List.all_eq_true] at hB
  have hb:=hB (o,i) (by rw [List.mem_zipIdx_iff_getElem?];exact ho)
  simp only [Bool.and_eq_true] at hb
  refine ⟨fun e he hbd=> ?_,fun k q s hk hne hd=> ?_⟩
  ·
   have:=Array.all_eq_true_iff_forall_mem.1 hb.1 e he
   rw [hbd] at this;simpa using this
  ·
   have:=List.all_eq_true.1 hb.2 (q,k) (by rw [List.mem_zipIdx_iff_getElem?];exact hk)
   simp only [hd,Bool.or_eq_true,Bool.and_eq_true] at this
   rcases this with h|h
   · exact absurd (by simpa using h) hne
   ·
    refine ⟨by simpa using h.1,fun hs=> ?_⟩
    rcases h.2 with (h'|h')|h'
    ·
     have hc:(seen l.toArray o).contains s=true:=by simpa using hs
     rw [hc] at h';cases h'
    · exact .inl ⟨by simpa using h'.1,h'.2⟩
    · exact .inr ⟨by simpa using h'.1,h'.2⟩
 refine Lo.draw hc hm ?_
 -- the induction
 have key:∀(fuel:Nat) (listed:Array Bool) (a:Act) (w:World),listed.toList.count false≤fuel→DJ1 n I I' c L E listed a w→ID P .any l.toArray Q fuel listed a w:=by
  intro fuel
  -- all are listed where nothing is ready
  have fin:∀(listed:Array Bool) (a:Act) (w:World),DJ1 n I I' c L E listed a w→(∀i,i<L.length→listed.getD i false=true)→Q .normal a w:=by
   intro listed a w hJ hall
   obtain ⟨M,hn,hdf,he,hI⟩:=hJ.st
   rw [hall c (by rw [hlen];exact Vr)] at hI
   refine h3 a w ⟨M,hn,hdf,?_,hI⟩
   have:cur (fun i=>listed.getD i false) 0 L E=cur (fun _=>true) 0 L E:=by
    have:∀(L':List (Oper×Pr)) (k:Nat) (E:Env),k+L'.length≤L.length→cur (fun i=>listed.getD i false) k L' E=cur (fun _=>true) k L' E:=by
     intro L'
     induction L' with
     |nil=>intros;rfl
     |cons x L' ih=>
      intro k E hk
      obtain ⟨o,p⟩:=x
      simp only [List.length_cons] at hk
      unfold cur
      rw [hall k (by omega),ih _ _ (by omega)]
    exact this L 0 E (by omega)
   rwa [this] at he
  have G1:∀(listed:Array Bool) (a:Act) (w:World),DJ1 n I I' c L E listed a w→Region.ready .any l.toArray listed=[]→∀i,i<L.length→listed.getD i false=true:=by
   intro listed a w hJ hr i
   induction i using Nat.strongRecOn with
   |_ i ih=>
    intro hi
    cases Me:listed.getD i false with
    |true=>rfl
    |false=>
     exfalso
     have EO:i<l.length:=by omega
     have hmem:i∈Region.ready .any l.toArray listed:=by
      refine mem_ready.2 ⟨?_,l[i],by simp [EO],fun e he hb=> ?_⟩
      ·
       have:i<listed.size:=by rw [hJ.size];exact hi
       rw [Array.getD_eq_getD_getElem?,Array.getElem?_eq_getElem this] at Me ⊢
       simpa using Me
      ·
       have:=(O3 i l[i] (by simp [EO])).1 e he hb
       exact ih e.on this (by omega)
     rw [hr] at hmem
     cases hmem
  induction fuel with
  |zero=>
   intro listed a w hc hJ
   have hall:∀i,i<L.length→listed.getD i false=true:=by
    intro i hi
    have hsz:=hJ.size
    have h0:false∉listed.toList:=by
     have:listed.toList.count false=0:=by omega
     exact List.count_eq_zero.1 this
    cases Me:listed.getD i false with
    |true=>rfl
    |false=>
     exfalso
     have:i<listed.size:=by omega
     rw [Array.getD_eq_getD_getElem?,Array.getElem?_eq_getElem this] at Me
     apply h0
     simp at Me
     rw [←Me]
     exact Array.getElem_mem_toList this
   refine ⟨?_,fin listed a w hJ hall⟩
   cases hr:Region.ready .any l.toArray listed with
   |nil=>rfl
   |cons i r=>
    exfalso
    have hi:i∈Region.ready .any l.toArray listed:=by rw [hr];simp
    obtain ⟨hu,o,ho,_⟩:=mem_ready.1 hi
    obtain ⟨p,hp⟩:=hL i o ho
    have EO:i<L.length:=by rcases Nat.lt_or_ge i L.length with h|h;exact h;rw [List.getElem?_eq_none h] at hp;cases hp
    have h5:=hall i EO
    have:i<listed.size:=by rw [hJ.size];exact EO
    rw [Array.getD_eq_getD_getElem?,Array.getElem?_eq_getElem this] at hu h5
    simp at hu h5
    rw [hu] at h5;cases h5
  |succ fuel ih=>
   intro listed a w hc hJ
   refine ⟨fun hr=>fin listed a w hJ (G1 listed a w hJ hr),fun i hi=> ?_⟩
   obtain ⟨hu,o,ho,hall⟩:=mem_ready.1 hi
   obtain ⟨p,hp⟩:=hL i o ho
   have ho':l[i]? =some o:=hL' i o p hp
   have EO:i<L.length:=by rcases Nat.lt_or_ge i L.length with h|h;exact h;rw [List.getElem?_eq_none h] at hp;cases hp
   have his:i<listed.size:=by rw [hJ.size];exact EO
   have IA:listed.getD i false=false:=by
    rw [Array.getD_eq_getD_getElem?,Array.getElem?_eq_getElem his] at hu ⊢;simpa using hu
   have hpre:∀k,JL o k=true→listed.getD k false=true:=by
    intro k hk
    obtain ⟨e,he,hb,rfl⟩:=Kh.1 hk
    exact hall e he hb
   obtain ⟨hgp,hgt,hdn⟩:=h2 i o p hp
   rw [Nat.zero_add] at hgp hgt
   obtain ⟨M,hn,hdf,he,hI⟩:=hJ.st
   -- what is looked at reads as in the cU order
   have hsame:∀s,s∈seen l.toArray o→(cur (fun j=>decide (j<i)) 0 L E).lookup s=(cur (fun j=>listed.getD j false) 0 L E).lookup s:=by
    intro s hs
    by_cases hw:∃k q r,L[k]? =some (q,r)∧k≠i∧q.dst=some s
    ·
     obtain ⟨k,q,r,hk,hki,hd⟩:=hw
     have D_:∀(j:Nat) o' p',L[j]? =some (o',p')→j≠k→o'.dst≠some s:=by
      intro j o' p' hj hjk
      exact ((O3 j o' (hL' j o' p' hj)).2 k q s (hL' k q r hk) (Ne.symm hjk) hd).1
     rcases ((O3 i o ho').2 k q s (hL' k q r hk) hki hd).2 hs with ⟨h5,h6⟩|⟨h5,h6⟩
     · rw [DW L 0 E k q r hk (by simpa using h5) hd D_,DW L 0 E k q r hk (by simpa using hpre k h6) hd D_]
     ·
      have hnk:listed.getD k false=false:=by
       cases hlk:listed.getD k false with
       |false=>rfl
       |true=>have:=hJ.down k i q r hk hlk h6;rw [IA] at this;cases this
      rw [B7 L 0 E,B7 L 0 E]
      ·
       intro j o' p' hj hsel hd'
       by_cases hjk:j=k
       · subst hjk;rw [Nat.zero_add,hnk] at hsel;cases hsel
       · exact D_ j o' p' hj hjk hd'
      ·
       intro j o' p' hj hsel hd'
       by_cases hjk:j=k
       · subst hjk;simp at hsel;omega
       · exact D_ j o' p' hj hjk hd'
    ·
     rw [B7 L 0 E,B7 L 0 E]
     ·
      intro j o' p' hj hsel hd'
      by_cases hji:j=i
      · subst hji;rw [Nat.zero_add,IA] at hsel;cases hsel
      · exact hw ⟨j,o',p',hj,hji,hd'⟩
     ·
      intro j o' p' hj hsel hd'
      by_cases hji:j=i
      · subst hji;simp at hsel
      · exact hw ⟨j,o',p',hj,hji,hd'⟩
   have next:∀v w' M',p.h M' w' v→Ext M w M' w'→(if (listed.setIfInBounds i true).getD c false then I' else I).h M' w'→ID P .any l.toArray Q fuel (listed.setIfInBounds i true) (a.put o.dst v) w':=by
    intro v w' M' QN hb hI2
    refine ih _ _ _ ?_ ⟨by simpa using hJ.size,?_,M',by rw [CL];exact hn,by rw [put_defers];exact hdf,?_,hI2⟩
    ·
     have h7:listed.toList[i]? =some false:=by
      rw [Array.getElem?_toList,Array.getElem?_eq_getElem his]
      rw [Array.getD_eq_getD_getElem?,Array.getElem?_eq_getElem his] at IA
      simpa using IA
     have h8:=count_set h7
     rw [Array.toList_setIfInBounds]
     omega
    ·
     intro j k o' p' hj Rk iM
     have Gl:∀m,(listed.setIfInBounds i true).getD m false=(if m=i then true else listed.getD m false):=by
      intro m
      rw [Array.getD_eq_getD_getElem?,Array.getElem?_setIfInBounds]
      by_cases hm:i=m
      · subst hm;simp [his]
      · rw [if_neg hm,if_neg (Ne.symm hm),Array.getD_eq_getD_getElem?]
     rw [Gl] at Rk ⊢
     by_cases hki:k=i
     · simp [hki]
     ·
      rw [if_neg hki]
      by_cases hji:j=i
      ·
       subst hji
       rw [hp] at hj
       cases hj
       exact hpre k iM
      ·
       rw [if_neg hji] at Rk
       exact hJ.down j k o' p' hj Rk iM
    ·
     -- the QO
     intro s q hq
     have Gl:∀m,(listed.setIfInBounds i true).getD m false=(if m=i then true else listed.getD m false):=by
      intro m
      rw [Array.getD_eq_getD_getElem?,Array.getElem?_setIfInBounds]
      by_cases hm:i=m
      · subst hm;simp [his]
      · rw [if_neg hm,if_neg (Ne.symm hm),Array.getD_eq_getD_getElem?]
     by_cases hds:o.dst=some s
     ·
      rw [DW L 0 E i o p hp (by rw [Nat.zero_add, Gl]; simp) hds
       (fun j o' p' hj hji=>((O3 j o' (hL' j o' p' hj)).2 i o s ho' (Ne.symm hji) hds).1)] at hq
      cases hq
      rw [hds,B2 (by rw [hn];exact hdn s hds)]
      exact QN
     ·
      have QS:(cur (fun j=>listed.getD j false) 0 L E).lookup s=some q:=by
       rw [←hq]
       by_cases hw:∃k q r,L[k]? =some (q,r)∧q.dst=some s∧listed.getD k false=true
       ·
        obtain ⟨k,q',r,hk,hd,hlk⟩:=hw
        have D_:∀(j:Nat) o' p',L[j]? =some (o',p')→j≠k→o'.dst≠some s:=by
         intro j o' p' hj hjk
         exact ((O3 j o' (hL' j o' p' hj)).2 k q' s (hL' k q' r hk) (Ne.symm hjk) hd).1
        rw [DW L 0 E k q' r hk (by simpa using hlk) hd D_,DW L 0 E k q' r hk (by rw [Nat.zero_add,Gl];split;rfl;exact hlk) hd D_]
       ·
        rw [B7 L 0 E,B7 L 0 E]
        ·
         intro j o' p' hj hsel hd'
         rw [Nat.zero_add,Gl] at hsel
         by_cases hji:j=i
         · subst hji;rw [hp] at hj;cases hj;exact hds hd'
         · rw [if_neg hji] at hsel;exact hw ⟨j,o',p',hj,hd',hsel⟩
        ·
         intro j o' p' hj hsel hd'
         rw [Nat.zero_add] at hsel
         exact hw ⟨j,o',p',hj,hd',hsel⟩
      have hv:=he s q QS
      have:(a.put o.dst v).tmps.getD s undef=a.tmps.getD s undef:=by
       cases hd:o.dst with
       |none=>rfl
       |some d=>exact CK (fun e=>hds (by rw [hd,e]))
      rw [this]
      exact q.st _ _ _ _ _ hb hv
   have bw:(listed.setIfInBounds i true).getD c false=(if c=i then true else listed.getD c false):=by
    rw [Array.getD_eq_getD_getElem?,Array.getElem?_setIfInBounds]
    by_cases hm:i=c
    · subst hm;simp [his]
    · rw [if_neg hm,if_neg (Ne.symm hm),Array.getD_eq_getD_getElem?]
   have LO:∀(j:Nat) o',l[j]? =some o'→listed.getD j false=true→∀e∈o'.after,Region.binds .any e=true→listed.getD e.on false=true:=by
    intro j o' hj Rk e he' hb
    obtain ⟨p',Ns⟩:=hL j o' (by simpa using hj)
    exact hJ.down j e.on o' p' Ns Rk (Kh.2 ⟨e,he',hb,rfl⟩)
   have Rw:Ci M w (cur (fun j=>decide (j<i)) 0 L E) o a:=fun s q hs hq=>by
    rw [hsame s (by unfold seen;simp [hs])] at hq
    exact he s q hq
   unfold OA
   rw [ho]
   by_cases hic:i=c
   ·
    obtain ⟨YA,hg⟩:=hgt hic
    dsimp only
    rw [if_pos (Fb YA)]
    have hlc:listed.getD c false=false:=by rw [←hic];exact IA
    rw [hlc] at hI
    refine (Ua (hg M w a hn Rw hI) fun v w' M' hv hx hI2=>next v w' M' hv hx ?_)
    rw [bw,if_pos hic.symm];exact hI2
   ·
    have pH:=hgp hic
    have hlc:listed.getD c false=decide (c<i):=by
     by_cases hlt:i<c
     ·
      rw [decide_eq_false (by omega)]
      cases hlc:listed.getD c false with
      |false=>rfl
      |true=>
       exfalso
       obtain ⟨oc,hoc⟩:∃oc,l[c]? =some oc:=⟨l[c]'Vr,List.getElem?_eq_getElem Vr⟩
       have:=Ir (fun j=>listed.getD j false=true) l LO c oc hoc (fun e he' hb=>LO c oc hoc hlc e he' hb) i (hA i hlt)
       rw [IA] at this;cases this
     ·
      rw [decide_eq_true (by omega)]
      exact Ir (fun j=>listed.getD j false=true) l LO i o ho' (fun e he' hb=>hall e (by simpa using he') hb) c (hBc i (by omega) (by omega))
    rw [hlc] at hI
    have hI3:(if i<c then I else I').h M w:=by
     by_cases hlt:i<c
     · rw [decide_eq_false (by omega)] at hI;rw [if_pos hlt];exact hI
     · rw [decide_eq_true (by omega)] at hI;rw [if_neg hlt];exact hI
    refine Ip pH Rw (fun j want d q hgd hj hq=> ?_) hI3 ?_
    ·
     have hds:d∈seen l.toArray o:=by unfold seen;rw [hgd];exact List.mem_append.2 (.inr (by show d∈((l.toArray[j]?).bind (·.dst)).toList;rw [hj];simp))
     rw [hsame d hds] at hq
     exact he d q hq
    ·
     intro v w' QN hb
     refine next v w' M QN (Ext.below hb) ?_
     rw [bw,if_neg (Ne.symm hic),hlc]
     exact Ca.st _ _ _ _ hb hI
 refine key l.length _ a _ ?_ ⟨by simp [hlen],?_,?_⟩
 · simp [List.count_replicate]
 ·
  intro i k o p hp hl
  exfalso
  rw [Array.getD_eq_getD_getElem?,Array.getElem?_replicate] at hl
  split at hl<;>simp at hl
 ·
  obtain ⟨M,hn,hdf,he,hI⟩:=hs
  have hb:Below w.heap.size w { w with drawn:=w.drawn+1 }:=⟨rfl,rfl,rfl,Nat.le_refl _,fun _ _=>rfl⟩
  refine ⟨M,hn,hdf,?_,?_⟩
  rotate_left
  ·
   have:(Array.replicate l.toArray.size false).getD c false=false:=by rw [Array.getD_eq_getD_getElem?,Array.getElem?_replicate];split<;>rfl
   rw [this];exact I.st _ _ _ hb hI
  intro s q hq
  rw [B7 L 0 E] at hq
  · exact q.st _ _ _ _ _ (Ext.below hb) (he s q hq)
  ·
   intro j o p hj hsel
   exfalso
   rw [Array.getD_eq_getD_getElem?,Array.getElem?_replicate] at hsel
   split at hsel<;>simp at hsel
def At (P:Program) (f:FuncId) (args:List Pr) (pre:List BO) (res:Pr) (post:List BO):Prop:=N2 (α:=Unit) P f args pre (fun _=>True) (fun _=>res) (fun _=>post)
section
variable {M0:Av} {w0:World} {S:Nat→Prop} {rs:List BO} {E:Env} {o:Oper} {g:Func} {M1:Av} {w1:World}
theorem At.of {f : FuncId} {c : Code} {ps : List Pr} {pre post : List BO} {res : Pr} (hf : P.funcs[f]? = some g) (hb : g.body = some c) (hname : (g.name == "runtime.NumGoroutine") = false) (hlen : ps.length ≤ g.ntmps)
  (h:∀M0 w0 S rs M1 w1,Tr (cT P) g.ntmps (Ld 0 ps) (Hp M0 w0 S (pre++Bv M1 w1::rs)) c (bodyPost P g (OU M0 w0 S rs M1 w1 (fun _:Unit=>True) (fun _=>res) (fun _=>post)))):At P f ps pre res post:=
 N2.of hf hb hname hlen h
theorem EM {f:FuncId} {xs:Array Operand} {ts:Array TypeId} {ps:List Pr} {pre post:List BO} {res:Pr} (rest:List BO) (hg:o.guard=none) (ho:o.op= .call { callee:= .value (.func f),args:=xs,argTypes:=ts }) (hf:At P f ps pre res post)
  (hv:Fz E xs.toList ps) (hp:rs.Perm (pre++rest)):Ky P n (Hp M0 w0 S rs) (Hp M0 w0 S (post++rest)) o E res:=by
 refine ⟨hg,fun M w a hsz he hI=> ?_⟩
 have hI:BU M0 w0 S rs M w:=hI
 have h1:=Fz.Ev (o:=o) he (xs:=xs.toList) (fun x hx=>by simp [ho,Op.operands,Call.operands];exact .inr (by simpa using hx)) hv
 have hrun:(execOp a.eval o).run P w= .ok (.enter f (xs.toList.map a.eval).toArray) w:=by
  simp [execOp,ho,resolve,Deferred.ofValue,Act.eval,invoke,EI hf.1,GA xs]
 rw [hrun]
 refine (BU.NH hf hp hI h1).mono ?_
 rintro e w' ⟨v,M',x,rfl,hC,h2,h3,h4⟩
 exact ⟨v,M',rfl,h2,h3,h4⟩
theorem DO {f:FuncId} {cx:Operand} {xs:Array Operand} {ts:Array TypeId} {ps:List Pr} {pre post:List BO} {res:Pr} (rest:List BO) (hg:o.guard=none) (ho:o.op= .call { callee:= .value cx,args:=xs,argTypes:=ts }) (hc:VL E cx (fn (.func f) [])) (hf:At P f ps pre res post)
  (hv:Fz E xs.toList ps) (hp:rs.Perm (pre++rest)):Ky P n (Hp M0 w0 S rs) (Hp M0 w0 S (post++rest)) o E res:=by
 refine ⟨hg,fun M w a hsz he hI=> ?_⟩
 have hI:BU M0 w0 S rs M w:=hI
 have h1:=Fz.Ev (o:=o) he (xs:=xs.toList) (fun x hx=>by simp [ho,Op.operands,Call.operands];exact .inr (by simpa using hx)) hv
 have hcv:=hc.ev he (by simp [ho,Op.operands,Call.operands])
 have hrun:(execOp a.eval o).run P w= .ok (.enter f (xs.toList.map a.eval).toArray) w:=by
  obtain ⟨cs,h2,hcs⟩:=hcv
  cases cs with
  |nil=>simp [execOp,ho,resolve,Deferred.ofValue,h2,invoke,EI hf.1,GA xs]
  |cons c cs=>exact hcs.elim
 rw [hrun]
 refine (BU.NH hf hp hI h1).mono ?_
 rintro e w' ⟨v,M',x,rfl,hC,h2,h3,h4⟩
 exact ⟨v,M',rfl,h2,h3,h4⟩
theorem TO.C5 {Q:Exit→Act→World→Prop} {ops:Array Oper} {r:List Oper} {f:FuncId} {xs:Array Operand} {ts:Array TypeId} {ps:List Pr} {pre post:List BO} {res:Pr} {d:Nat} (rest:List BO) (hg:o.guard=none) (hd:o.dst=some d) (hn:d<n) (ho:o.op= .call { callee:= .value (.func f),args:=xs,argTypes:=ts }) (hf:At P f ps pre res post)
  (hv:Fz E xs.toList ps) (hp:rs.Perm (pre++rest)) (k:TO P n ops r ((d,res)::E) (Hp M0 w0 S (post++rest)) Q):TO P n ops (o::r) E (Hp M0 w0 S rs) Q:=
 TO.NH rest hg hd hn ho hf hv hp fun _ _=>k
theorem Fin.CN {rv:ResultVar} {q res:Pr} {post rs':List BO} (hr:g.results= #[rv]) (h:AW P E rs' rv q) (hl:Pr.le q res) (hp:rs'.Perm (post++Bv M1 w1::rs)):
  Fin ⟨fz,[]⟩ E (Hp M0 w0 S rs') (bodyPost P g (OU M0 w0 S rs M1 w1 (fun _:Unit=>True) (fun _=>res) (fun _=>post))) .ret:=
 Fin.Qq () hr h trivial hl hp
theorem BG.pure {f:FuncId} {args:List Pr} {res:Pr} {R':Value→BO} (h:BG P f args res Bm R'):A_ P f args res:=by
 refine ⟨h.1,fun M w vs hb hv=> ?_⟩
 refine (h.2 M w Mg [] M w vs ((BU.begin hb).Ms (r:=Bm) rfl trivial) hv).mono ?_
 rintro e w' ⟨v,M',rfl,h2,h3,h4⟩
 exact ⟨v,rfl,res.st _ _ _ _ _ (Ext.less h4.m) h2,h4.below⟩
theorem E3 {t e T:TypeId} {x:Operand} {sz j:Nat} {rows:List (List Pr)} {v:Value} (ho:o.op= .call { callee:= .builtin .len,args:= #[x],argTypes:= #[t] }) (ht:P.underlying t=some (.slice e)) (hx:VL E x (is v)):
  Hy P M0 w0 S j (SR.c (Af T sz rows v)) o E (int ((rows.length:Nat):Int)):=by
 intro M w a rs he hI hj
 have h1:a.eval x=v:=hx.ev he (by simp [ho,Op.operands,Call.operands])
 have hj':rs[j]? =some (Af T sz rows v):=hj
 have hrun:∃A c,v= .slice A rows.length c:=by
  rcases (hI.hold _ (List.mem_of_getElem? hj')).1 with ⟨rfl,A,hv⟩|⟨b,cap,spare,hv,_⟩
  · exact ⟨_,_,hv⟩
  · exact ⟨_,_,hv⟩
 obtain ⟨A,c,hv⟩:=hrun
 have:(execOp a.eval o).run P w= .ok (.value (.int .i64 ((rows.length:Nat):Int))) w:=by
  simp [execOp,ho,resolve,invoke,builtin,Builtin.len_,h1,hv,run_underlying ht,goInt]
 rw [this]
 exact ⟨rfl,Below.refl _ _⟩
end
end
section
variable {P:Program} {L:Lg P} {n:Fm} {fz:Nat} {E:Env} {M0:Av} {w0:World} {S:Nat→Prop} {rs:List BO} {o:Oper}
def WE (b off m:Nat):Pr where
 h _ _ u:=∃o c,u= .slice (some ⟨b,o,none⟩) m c∧(0<m→o=off)
 st _M _w _M' _w' _v _ h:=h
instance gM (b off m:Nat):One (WE b off m):=⟨by rintro M w u ⟨o,c,rfl,_⟩;exact ⟨rfl,rfl⟩⟩
theorem JJ {I:Ca} {t e:TypeId} {x y:Operand} {k:IntKind} {l:Int} {sz b m cap:Nat} (ho:o.op= .slice t x (some y) none none) (ht:P.underlying t=some (.slice e)) (hz:Ap P e=some sz) (hx:VL E x (is (.slice (some ⟨b,0,none⟩) m cap))) (hy:VL E y (is (.int k l))) (h0:0≤l) (hl:l≤m) (hc:m≤cap):
  Ad P I o E (WE b (l.toNat*sz) (m-l.toNat)):=
 Ad.same fun M w a he _=>by
  have h1:a.eval x=_:=hx.ev he (by simp [ho,Op.operands])
  have h3:a.eval y=_:=hy.ev he (by simp [ho,Op.operands])
  by_cases hne:cap=l.toNat
  ·
   refine ⟨.slice (some ⟨b,0,none⟩) (m-l.toNat) (cap-l.toNat),?_,0,_,rfl,fun h=>by omega⟩
   simp [execOp,ho,h1,h3,Instr.sliceAt,Instr.slice,run_underlying ht,Instr.sliceBounds,Instr.sliceBound,asIntOf,h0,hl,Bb hz,hne]
  ·
   refine ⟨.slice (some ⟨b,l.toNat*sz,none⟩) (m-l.toNat) (cap-l.toNat),?_,_,_,rfl,fun _=>rfl⟩
   simp [execOp,ho,h1,h3,Instr.sliceAt,Instr.slice,run_underlying ht,Instr.sliceBounds,Instr.sliceBound,asIntOf,h0,hl,Bb hz,hne,Co]
theorem NL {t e:TypeId} {x y:Operand} {sz d b k m cap off:Nat} {j:Nat} {new:Bool} {ps ps':List Pr} (hg:o.guard=none) (hd:o.dst=some d) (hn:d<n) (ho:o.op= .call { callee:= .builtin .append,args:= #[x,y],argTypes:= #[t,t] })
  (ht:P.underlying t=some (.slice e)) (hz:Ap P e=some sz) (hx:VL E x (is (.slice (some ⟨b,0,none⟩) k cap))) (hy:VL E y (WE b off m)) (hroom:k+m≤cap) (hl:off+m*sz≤ps.length) (bn:k*sz+m*sz≤ps.length)
  (hps:ps.take (k*sz)++(ps.drop off).take (m*sz)++ps.drop (k*sz+m*sz)=ps'):DU P M0 w0 S n j (SR.c (AE new b e ps)) (SR.c (AE new b e ps')) o E (is (.slice (some ⟨b,0,none⟩) (k+m) cap)):=by
 refine ⟨hg,fun M w a rs H7 he hI hj=> ?_⟩
 have h1:a.eval x=_:=hx.ev he (by simp [ho,Op.operands,Call.operands])
 obtain ⟨o2,c2,h2,ho2⟩:=hy.ev he (by simp [ho,Op.operands,Call.operands])
 obtain ⟨⟨_,cs,h4,h5,h6⟩,_⟩:=hI.hold _ (List.mem_of_getElem? hj)
 have X9:=h5.length
 have NC:((cs.drop off).take (m*sz)).length=m*sz:=by rw [List.length_take,List.length_drop];omega
 unfold Ap at hz
 cases hi:P.info? e with
 |none=>rw [hi] at hz;cases hz
 |some i=>
  rw [hi] at hz
  simp only [Option.map_some,Option.some.injEq] at hz
  have hrun := run_append_room (P := P) (w := w) t o.type e i ht hi b k cap cs.toArray h4 ⟨b, o2, none⟩ m c2 ((cs.drop off).take (m * sz)) (by rw [hz]; exact NC) (fun q u hk => by
   rw [Co]
   rw [List.getElem?_take] at hk
   split at hk
   ·
    rename_i hq
    have hm:0<m:=by rcases Nat.eq_zero_or_pos m with h|h;subst h;simp at hq;exact h
    have:=ho2 hm
    subst this
    rw [List.getElem?_drop] at hk;simp [World.cell?,h4,hk]
   · cases hk) (fun u hu=>h6 u (List.mem_of_mem_drop (List.mem_of_mem_take hu))) hroom (by rw [hz,NC];simp;omega)
  rw [hz,NC] at hrun
  obtain ⟨h7, h8⟩ := BU.write (qs := ps') (cs := cs.take (k * sz) ++ (cs.drop off).take (m * sz) ++ cs.drop (k * sz + m * sz)) hI hj (by rw [← hps]; exact ((h5.take _).app ((h5.drop off).take _)).app (h5.drop _))
   (fun c hc=>by
    simp only [List.mem_append] at hc
    rcases hc with (hc|hc)|hc
    · exact h6 c (List.mem_of_mem_take hc)
    · exact h6 c (List.mem_of_mem_drop (List.mem_of_mem_take hc))
    · exact h6 c (List.mem_of_mem_drop hc))
  have Cz:(execOp a.eval o).run P w= .ok (.value (.slice (some ⟨b,0,none⟩) (k+m) cap)) (w.setRow b (cs.take (k*sz)++(cs.drop off).take (m*sz)++cs.drop (k*sz+m*sz)).toArray):=by
   simp [execOp,ho,resolve,invoke,builtin,h1,h2,hrun]
  rw [Cz]
  exact ⟨M,rfl,h8,h7⟩
theorem KD {I:Ca} {t e:TypeId} {x y:Operand} {sz sz1 sz2:Nat} (ho:o.op= .call { callee:= .builtin .append,args:= #[x,y],argTypes:= #[t,t] }) (ht:P.underlying t=some (.slice e)) (hz:Ap P e=some sz) (hx:VL E x (full sz1 [])) (hy:VL E y (slice sz2 [])):Ad P I o E (full sz []):=
 Ad.same fun M w a he _=>by
  obtain ⟨_,A,h1⟩:=hx.ev he (by simp [ho,Op.operands,Call.operands])
  obtain ⟨A',c',h2,_⟩:=hy.ev he (by simp [ho,Op.operands,Call.operands])
  simp only [List.length_nil] at h1 h2
  refine ⟨.slice A 0 0,?_,OV sz A M w⟩
  have hrun:=Ho (P:=P) (ty:=o.type) (A:=A) (A':=A') (n:=0) (c:=0) (c':=c') ht hz (Nat.le_refl _) w
  simp [execOp,ho,resolve,invoke,builtin,h1,h2,hrun]
end
theorem jx {K:Nat} {r:List Pr} (h:K=1):(List.replicate K r).flatten=r:=by subst h;simp
section
variable {P:Program} {L:Lg P} {n:Fm} {fz:Nat} {E:Env} {M0:Av} {w0:World} {S:Nat→Prop} {rs:List BO} {o:Oper}
theorem Tk {p:Pr} (j:Nat) {R R':BO} (hR:rs[j]? =some R) (h:DU P M0 w0 S n j (SR.c R) (SR.c R') o E p):Ky P n (Hp M0 w0 S rs) (Hp M0 w0 S (rs.set j R')) o E p:=by
 refine ⟨h.1,fun M w a hsz he hI=> ?_⟩
 have:=h.2 M w a rs hsz he hI hR
 generalize (execOp a.eval o).run P w=r at this
 cases r with
 |halt x w'=>exact this.elim
 |ok x w'=>
  cases x<;>first|exact this.elim|exact this
end
theorem Je {β:Type} {f:β→List Pr} {sz:Nat} (hf:∀x,(f x).length=sz):∀(l:List β) (i:Nat),((l.map f).flatten).take (i*sz)=((l.take i).map f).flatten
 |[],i=>by simp
 |a::l,0=>by simp
 |a::l,i+1=>by
  rw [List.map_cons,List.flatten_cons,List.take_succ_cons,List.map_cons,List.flatten_cons,←Je hf l i,List.take_append,hf a,List.take_of_length_le (by rw [hf a,Nat.succ_mul];omega),Nat.succ_mul,Nat.add_sub_cancel]
theorem GF {β:Type} {f:β→List Pr} {sz:Nat} (hf:∀x,(f x).length=sz):∀(l:List β) (i:Nat),((l.map f).flatten).drop (i*sz)=((l.drop i).map f).flatten
 |[],i=>by simp
 |a::l,0=>by simp
 |a::l,i+1=>by
  rw [List.map_cons,List.flatten_cons,List.drop_succ_cons,←GF hf l i,List.drop_append,hf a,List.drop_of_length_le (by rw [hf a,Nat.succ_mul];omega),Nat.succ_mul,Nat.add_sub_cancel];rfl
theorem Iv {β:Type} {f:β→List Pr} {sz:Nat} (hf:∀x,(f x).length=sz) {l:List β} {i:Nat} {x:β}:((l.map f).flatten).take (i*sz)++f x++((l.map f).flatten).drop (i*sz)=((l.take i++[x]++l.drop i).map f).flatten:=by
 rw [Je hf,GF hf,List.map_append,List.map_append,List.flatten_append,List.flatten_append,List.map_singleton];simp
theorem OW {β:Type} {f:β→List Pr} {sz:Nat} (hf:∀x,(f x).length=sz) {l:List β} {i:Nat}:((l.map f).flatten).take (i*sz)++((l.map f).flatten).drop ((i+1)*sz)=((l.eraseIdx i).map f).flatten:=by
 rw [Je hf,GF hf,List.eraseIdx_eq_take_drop_succ,List.map_append,List.flatten_append]
theorem NM {A S X B:List Pr} {a z N o1 o2 o3 o4 o5 o6:Nat} (hA:A.length=N) (ha:a+z≤N) (hX:X.length=z) (hS:z≤S.length) (h1:o1=a+z) (h2:o2=a) (h3:o3=N-a) (h4:o4=a+z+(N-a)) (h5:o5=a) (h6:o6=a+z) (hB:B=(A.take a++X++A.drop a)++S.drop z):
  ((A++S).take o1++((A++S).drop o2).take o3++(A++S).drop o4).take o5++X++((A++S).take o1++((A++S).drop o2).take o3++(A++S).drop o4).drop o6=B:=by
 rw [h1,h2,h3,h4,h5,h6,hB]
 have e1:(A++S).take (a+z)=A.take a++(A.drop a).take z:=by rw [List.take_append_of_le_length (by omega),List.take_add]
 have e2:((A++S).drop a).take (N-a)=A.drop a:=by
  rw [List.drop_append_of_le_length (by omega),List.take_append_of_le_length (by rw [List.length_drop];omega),List.take_of_length_le (by rw [List.length_drop];omega)]
 have e3:(A++S).drop (a+z+(N-a))=S.drop z:=by
  rw [show a+z+(N-a)=A.length+z by omega,List.drop_append];simp
 have l1:(A.take a).length=a:=by rw [List.length_take];omega
 have l2:((A.drop a).take z).length=z:=by rw [List.length_take,List.length_drop];omega
 rw [e1,e2,e3]
 have t1:(A.take a++(A.drop a).take z++A.drop a++S.drop z).take a=A.take a:=by
  rw [List.append_assoc,List.append_assoc];exact List.take_left' l1
 have t2:(A.take a++(A.drop a).take z++A.drop a++S.drop z).drop (a+z)=A.drop a++S.drop z:=by
  rw [List.append_assoc];exact List.drop_left' (by rw [List.length_append];omega)
 rw [t1,t2]
 simp
theorem NN {A S Z X B R:List Pr} {a z N o0 o1 o2 o3 o4:Nat} (hA:A.length=N) (ha:a≤N) (hX:X.length=z) (hZ:N+z-a≤Z.length) (h0:o0=a) (h1:o1=a) (h2:o2=a+z) (h3:o3=a+z) (h4:o4=a+z+(N-a)) (hR:R=A.drop a) (hB:B=(A.take a++X++A.drop a)++Z.drop (N+z-a)):
  (((A++S).take o0++Z).take o1++X++((A++S).take o0++Z).drop o2).take o3++R++(((A++S).take o0++Z).take o1++X++((A++S).take o0++Z).drop o2).drop o4=B:=by
 rw [h0,h1,h2,h3,h4,hR,hB]
 have l1:(A.take a).length=a:=by rw [List.length_take];omega
 have e0:(A++S).take a=A.take a:=List.take_append_of_le_length (by omega)
 rw [e0]
 have e1:(A.take a++Z).take a=A.take a:=by rw [List.take_append_of_le_length (by omega),List.take_of_length_le (by omega)]
 have e2:(A.take a++Z).drop (a+z)=Z.drop z:=by rw [List.drop_append,List.drop_of_length_le (by omega),List.nil_append,l1];congr 1;omega
 rw [e1,e2]
 have l2:(A.take a++X).length=a+z:=by rw [List.length_append];omega
 have e3:(A.take a++X++Z.drop z).take (a+z)=A.take a++X:=by rw [List.take_append_of_le_length (by omega),List.take_of_length_le (by omega)]
 have e4:(A.take a++X++Z.drop z).drop (a+z+(N-a))=Z.drop (N+z-a):=by
  rw [List.drop_append,List.drop_of_length_le (by omega),List.nil_append,l2,List.drop_drop];congr 1;omega
 rw [e3,e4]
theorem OX {A S Z B:List Pr} {a z N o1 o2 o3 o4 o5 o6:Nat} (hA:A.length=N) (ha:a+z≤N) (h1:o1=a) (h2:o2=a+z) (h3:o3=N-(a+z)) (h4:o4=N-z) (h5:o5=N-z) (h6:o6=N) (hB:B=(A.take a++A.drop (a+z))++(Z++S)):
  ((A++S).take o1++((A++S).drop o2).take o3++(A++S).drop o4).take o5++Z++((A++S).take o1++((A++S).drop o2).take o3++(A++S).drop o4).drop o6=B:=by
 rw [h1,h2,h3,h4,h5,h6,hB]
 have e1:(A++S).take a=A.take a:=by rw [List.take_append_of_le_length (by omega)]
 have e2:((A++S).drop (a+z)).take (N-(a+z))=A.drop (a+z):=by
  rw [List.drop_append_of_le_length (by omega),List.take_append_of_le_length (by rw [List.length_drop];omega),List.take_of_length_le (by rw [List.length_drop];omega)]
 rw [e1,e2]
 have l1:(A.take a++A.drop (a+z)).length=N-z:=by rw [List.length_append,List.length_take,List.length_drop];omega
 have t1:(A.take a++A.drop (a+z)++(A++S).drop (N-z)).take (N-z)=A.take a++A.drop (a+z):=List.take_left' l1
 have t2:(A.take a++A.drop (a+z)++(A++S).drop (N-z)).drop N=S:=by
  rw [List.drop_append,List.drop_of_length_le (by omega),List.nil_append,l1,List.drop_drop,show N-z+(N-(N-z))=A.length by omega,List.drop_left]
 rw [t1,t2]
 simp
section
variable {P:Program} {L:Lg P} {n:Fm} {fz:Nat} {E:Env} {M0:Av} {w0:World} {S:Nat→Prop} {rs:List BO}
theorem St.Fv {i j k sz b:Nat} {new:Bool} {T e:TypeId} {ps:List Pr} {rows:List (List Pr)} {v:Value} {p:Pr} (hi:rs[i]? =some (AE new b T ps)) (hj:rs[j]? =some (Af e sz rows v)) (hij:j≠i) (hk:ps[k]? =some p) (hp:Pr.le p (is v)) (hl:∀r∈rows,r.length=sz) {a:Act} {w:World} (h:St n E (Hp M0 w0 S rs) a w):
  St n E (Hp M0 w0 S ((rs.set j Bm).set i (AE new b T (ps.set k (slice sz rows))))) a w:=by
 obtain ⟨M,h1,h2,h3,h4⟩:=h
 have h4:BU M0 w0 S rs M w:=h4
 have hi':(rs.set j (Af e sz rows v))[i]? =some (AE new b T ps):=by rw [List.getElem?_set_ne hij];exact hi
 obtain ⟨M',g1,g2,g3⟩:=h4.ZN hj hl
 have gi:(rs.set j Bm)[i]? =some (AE new b T ps):=by rw [List.getElem?_set_ne hij];exact hi
 refine ⟨M',h1,h2,fun s q hq=>q.st _ _ _ _ _ g1 (h3 s q hq),g2.Db gi rfl rfl ?_⟩
 obtain ⟨c1,cs,c2,c3,c4⟩:=(g2.hold _ (List.mem_of_getElem? gi)).1
 exact ⟨c1,cs,c2,c3.set hk (fun u hu=>by rw [show u=v from hp _ _ _ hu];exact g3),c4⟩
theorem Tr.Fv {Q:Exit→Act→World→Prop} {c:Code} (i j k:Nat) {sz b:Nat} {new:Bool} {T e:TypeId} {ps:List Pr} {rows:List (List Pr)} {v:Value} {p:Pr} (hi:rs[i]? =some (AE new b T ps)) (hj:rs[j]? =some (Af e sz rows v)) (hij:j≠i) (hk:ps[k]? =some p) (hp:Pr.le p (is v)) (hl:∀r∈rows,r.length=sz)
  (kk:Tr L n E (Hp M0 w0 S ((rs.set j Bm).set i (AE new b T (ps.set k (slice sz rows))))) c Q):Tr L n E (Hp M0 w0 S rs) c Q:=Tr.conv (fun _ _ hs=>hs.Fv hi hj hij hk hp hl) kk
end
theorem ZQ {β:Type} {f:β→List Pr} {l:List β} {k q m:Nat} {x:β} {qs:List Pr} (h:l[k]? =some x) (hq:(f x).take q++qs++(f x).drop (q+m)=f x):(l.map f).set k ((f x).take q++qs++(f x).drop (q+m))=l.map f:=by
 rw [hq]
 refine List.ext_getElem? fun i=> ?_
 rw [List.getElem?_set]
 by_cases hi:k=i
 ·
  subst hi
  rw [if_pos rfl,List.getElem?_map,h]
  have:=A1 h
  rw [if_pos (by rw [List.length_map];exact this)];rfl
 · rw [if_neg hi]
theorem HA {β:Type} {f:β→List Pr} {l:List β} {k q m:Nat} {x:β} {qs:List Pr} (h:l[k]? =some x) (hq:(f x).take q++qs++(f x).drop (q+m)=f x):(l.map f).set ((k:Nat):Int).toNat ((f x).take q++qs++(f x).drop (q+m))=l.map f:=by
 rw [Int.toNat_natCast];exact ZQ h hq
section
variable {P:Program} {L:Lg P} {n:Fm} {fz:Nat} {E:Env} {M0:Av} {w0:World} {S:Nat→Prop} {rs:List BO} {o:Oper} {g:Func} {M1:Av} {w1:World}
theorem At.gen {f:FuncId} {args args':List Pr} {pre:List BO} {res:Pr} [Ku res] (hfz:∀M0 w0 S rs M w,BU M0 w0 S (pre++rs) M w→∃M',Ext M w M' w∧BU M0 w0 S rs M' w∧∀vs,HL M w args vs→HL M' w args' vs)
  (h:A_ P f args' res):At P f args pre res pre:=by
 refine ⟨h.1,fun M0 w0 S rs M w vs hI hv=> ?_⟩
 obtain ⟨M',hx,Nt,ha⟩:=hfz M0 w0 S rs M w hI
 refine (h.2 M' w vs Nt.bd (ha vs hv)).mono ?_
 rintro e' w' ⟨u,rfl,h2,h3⟩
 exact ⟨u,M,(),rfl,trivial,Ku.free _ _ _ _ h2,Ext.below h3,(Hp M0 w0 S _).st _ _ _ h3 hI⟩
theorem Row.hd {M:Av} {w:World} {ad:Addr} {p q:Pr} {ps:List Pr} (h:Row M w ad 0 (p::ps)) (hq:∀u,p.h M w u→q.h M w u):Row M w ad 0 (q::ps):=by
 intro j r hr
 cases j with
 |zero=>
  simp at hr;subst hr
  obtain ⟨u,h1,h2,h3,h4⟩:=h 0 p rfl
  exact ⟨u,h1,h2,h3,hq u h4⟩
 |succ j=>exact h (j+1) r (by simpa using hr)
theorem At.look {f:FuncId} {wb ob:Nat} {WT OT e:TypeId} {YB ops rows ps:List Pr} {rws:List (List Pr)} {sz k:Nat} {v:Value} {res:Pr} [Ku res] (hk:ops[k]? =some (is v)) (hl:∀r∈rws,r.length=sz) (ho:ops.set k (slice sz rws)=rows)
  (h:A_ P f (ref (ref rows::YB)::ps) res):At P f (ptr wb 0::ps) [AE true wb WT (ptr ob 0::YB),AE true ob OT ops,Af e sz rws v] res [AE true wb WT (ptr ob 0::YB),AE true ob OT ops,Af e sz rws v]:=by
 refine At.gen (fun M0 w0 S rs M w hI=> ?_) h
 obtain ⟨Ma,a1,a2⟩:=BU.Fv (i:=1) (j:=2) (k:=k) hI rfl rfl (by decide) hk hl
 rw [ho] at a2
 have a3:BU M0 w0 S (AE true ob OT rows::AE true wb WT (ptr ob 0::YB)::Bm::rs) Ma w:=BU.perm (List.Perm.swap _ _ _) a2
 obtain ⟨Mb,b1,b2,b3⟩:=BU.PG a3
 obtain ⟨Mc,c1,c2,c3⟩:=BU.PG b1
 refine ⟨Mc,(a1.trans b2).trans c2,c1.LQ,fun vs hv=> ?_⟩
 match vs,hv with
 |u0::vs1,G_=>
  obtain ⟨IA,Gz⟩:=G_
  refine ⟨⟨⟨wb,0,none⟩,IA,c3.hd fun u hu=>⟨⟨ob,0,none⟩,hu,b3.st c2⟩⟩,Gz.st ((a1.trans b2).trans c2)⟩
theorem At.WG {f fg:FuncId} {wb:Nat} {WT e:TypeId} {YB:List Pr} {rws:List (List Pr)} {sz k:Nat} {v:Value} {res:Pr} [Ku res] (hl:∀r∈rws,r.length=sz)
  (h:A_ P f [slice sz (rws.drop k),fn (.func fg) [ref [ref YB]]] res):At P f [part sz v k,fn (.func fg) [ref [ptr wb 0]]] [AE true wb WT YB,Af e sz rws v] res [AE true wb WT YB,Af e sz rws v]:=by
 refine At.gen (fun M0 w0 S rs M w hI=> ?_) h
 obtain ⟨Ma,a1,a2,a3⟩:=BU.ZN (j:=1) hI rfl hl
 obtain ⟨Mb,b1,b2,b3⟩:=BU.PG (rs:=Bm::rs) a2
 refine ⟨Mb,a1.trans b2,b1.LQ,fun vs hv=> ?_⟩
 match vs,hv with
 |[u0,u1],G_=>
  obtain ⟨IA,hu1,_⟩:=G_
  refine ⟨SC ((slice sz rws).st _ _ _ _ _ b2 a3) ((part sz v k).st _ _ _ _ _ (a1.trans b2) IA),?_,trivial⟩
  obtain ⟨cs,rfl,hcs⟩:=hu1
  match cs,hcs with
  |[c0],hc1=>
   obtain ⟨ad,rfl,hrow⟩:=hc1.1
   exact ⟨_,rfl,⟨ad,rfl,(hrow.st (a1.trans b2)).hd fun u hu=>⟨⟨wb,0,none⟩,hu,b3⟩⟩,trivial⟩
theorem Dx {I:Ca} {t e:TypeId} {x y:Operand} {k:IntKind} {i:Int} {len:Nat} {ps:List Pr} {p:Pr} (ho:o.op= .index t x y) (ht:P.underlying t=some (.array len e)) (he:FA P e=true) (hz:Ap P e=some 1) (hx:VL E x (agg ps)) (hy:VL E y (is (.int k i))) (h0:0≤i) (hl:i<len)
  (hp:ps[i.toNat]? =some p):Ad P I o E p:=
 Ad.same fun M w ac dX _=>by
  obtain ⟨cs,h1,mY,h2⟩:=hx.ev dX (by simp [ho,Op.operands])
  have h3:ac.eval y=_:=hy.ev dX (by simp [ho,Op.operands])
  obtain ⟨u,hu,cW⟩:=h2.at_ i.toNat p hp
  refine ⟨u,?_,cW⟩
  simp [execOp,ho,h1,h3,Instr.index,asIntOf,run_underlying ht,h0,hl,Bb hz,Go.part,FW he,hu]
theorem Kz {t:TypeId} {x y:Operand} {q0:Tmp} {j:Nat} {new:Bool} {b off m:Nat} {T:TypeId} {ps:Value→List Pr} {qs:List Pr} (hg:o.guard=none) (hd:o.dst=none) (ho:o.op= .store t x y) (hx:VL E x (ptr b off)) (hy:VL E y (Dp qs))
  (hz:Ap P t=some m) (hm:qs.length=m) (hl:∀v,off+m≤(ps v).length):DU P M0 w0 S n j ⟨.one q0,fun v=>AE new b T (ps v)⟩ ⟨.one q0,fun v=>AE new b T ((ps v).take off++qs++(ps v).drop (off+m))⟩ o E any:=by
 refine ⟨hg,fun M w a rs hsz he hI hj=> ?_⟩
 have hj':rs[j]? =some (SR.at_ a (SR.c (AE new b T (ps (a.tmps.getD q0 undef))))):=hj
 obtain ⟨h1,h2⟩:=An (P:=P) (M0:=M0) (w0:=w0) (S:=S) (n:=n) (j:=j) (new:=new) (T:=T) (ps:=ps (a.tmps.getD q0 undef)) (b:=b) (off:=off) hg ho hx hy hz hm (hl _) rfl
 have h3:=h2 M w a rs hsz he hI hj'
 revert h3
 generalize (execOp a.eval o).run P w=r
 have key:∀v,SR.at_ (a.put o.dst v) (SR.c (AE new b T ((ps (a.tmps.getD q0 undef)).take off++qs++(ps (a.tmps.getD q0 undef)).drop (off+m))))=SR.at_ (a.put o.dst v) ⟨.one q0,fun v=>AE new b T ((ps v).take off++qs++(ps v).drop (off+m))⟩:=fun v=>by rw [hd];rfl
 intro h3
 cases r with
 |halt x w'=>exact h3
 |ok x w'=>
  cases x
  case value v=>obtain ⟨M',g1,g2,g3⟩:=h3;exact ⟨M',g1,g2,by rw [←key];exact g3⟩
  case skip=>obtain ⟨M',g1,g2,g3⟩:=h3;exact ⟨M',g1,g2,by rw [←key];exact g3⟩
  case enter f args=>
   refine Calls.mono h3 ?_
   rintro e w'' ⟨v,M',g0,g1,g2,g3⟩
   exact ⟨v,M',g0,g1,g2,by rw [←key];exact g3⟩
  all_goals exact h3
theorem TO.re {Q:Exit→Act→World→Prop} {ops:Array Oper} {l:List Oper} {I:Ca} (s:Nat) {q:Pr} (p:Pr) (hs:E.lookup s=some q) (hl:Pr.le q p) (k:TO P n ops l ((s,p)::E) I Q):TO P n ops l E I Q:=by
 intro m hm a w hst
 refine k m hm a w ?_
 obtain ⟨M,h1,h2,he,h4⟩:=hst
 refine ⟨M,h1,h2,fun s' r hr=> ?_,h4⟩
 simp only [List.lookup] at hr
 split at hr
 ·
  rename_i e1
  have:s'=s:=by simpa using e1
  subst this
  simp only [Option.some.injEq] at hr
  subst hr
  exact hl _ _ _ (he _ _ hs)
 · exact he _ _ hr
theorem Fin.K0 {Q:Exit→Act→World→Prop} {x:Exit} {r r':BO} (k:Fin n E (Hp M0 w0 S (r'::r::rs)) Q x):Fin n E (Hp M0 w0 S (r::r'::rs)) Q x:=
 Fin.conv (fun _ _ ⟨M,h1,h2,h3,h4⟩=>⟨M,h1,h2,h3,BU.perm (List.Perm.swap _ _ _) h4⟩) k
def Jf (P:Program) (f:FuncId) (args:List Pr) (res:Value→Pr) (post:Value→List BO):Prop:=N2 (α:=Value) P f args [] (fun _=>True) res post
theorem Jf.of {f : FuncId} {c : Code} {ps : List Pr} {res : Value → Pr} {post : Value → List BO} (hf : P.funcs[f]? = some g) (hb : g.body = some c) (hname : (g.name == "runtime.NumGoroutine") = false) (hlen : ps.length ≤ g.ntmps)
  (h:∀M0 w0 S rs M1 w1,Tr (cT P) g.ntmps (Ld 0 ps) (Hp M0 w0 S (Bv M1 w1::rs)) c (bodyPost P g (OU M0 w0 S rs M1 w1 (fun _:Value=>True) res post))):Jf P f ps res post:=
 N2.of hf hb hname hlen h
theorem Fin.Ub {rv:ResultVar} {q:Pr} {res:Value→Pr} {post:Value→List BO} {rs':List BO} (v:Value) (dr:List BO) (hr:g.results= #[rv]) (h:AW P E rs' rv q) (hl:Pr.le q (res v)) (hp:rs'.Perm (dr++(post v++Bv M1 w1::rs))):
  Fin ⟨fz,[]⟩ E (Hp M0 w0 S rs') (bodyPost P g (OU M0 w0 S rs M1 w1 (fun _:Value=>True) res post)) .ret:=by
 rintro a w ⟨M,_,hd,he,hi⟩
 have hi:BU M0 w0 S rs' M w:=hi
 obtain ⟨u,hu,Ns⟩:=h M w a he (fun q hq=>(hi.hold q hq).1)
 obtain ⟨h1,h2⟩:=ju (BU.bt (BU.perm hp hi))
 exact ⟨hd,u,results1 hr hu,_,M,v,rfl,trivial,hl _ _ _ Ns,h1,h2⟩
theorem TO.LY {Q:Exit→Act→World→Prop} {ops:Array Oper} {r:List Oper} {f:FuncId} {xs:Array Operand} {ts:Array TypeId} {ps:List Pr} {res:Value→Pr} {post:Value→List BO} {d:Nat} (hg:o.guard=none) (hd:o.dst=some d) (hn:d<n) (ho:o.op= .call { callee:= .value (.func f),args:=xs,argTypes:=ts }) (hf:Jf P f ps res post)
  (hv:Fz E xs.toList ps) (k:∀v,TO P n ops r ((d,res v)::E) (Hp M0 w0 S (post v++rs)) Q):TO P n ops (o::r) E (Hp M0 w0 S rs) Q:=
 TO.NH rs hg hd hn ho hf hv (List.Perm.refl _) fun v _=>k v
end
section
variable {P:Program} {L:Lg P} {n:Fm} {fz:Nat} {E:Env} {I:Ca} {Q:Exit→Act→World→Prop} {ops:Array Oper} {o:Oper} {r:List Oper} {g j:Nat} {b want:Bool}
theorem TO.cases (g:Nat) {b:Bool} {l:List Oper} (_hb:E.lookup g=some (bool b)) (ht:b=true→TO P n ops l E I Q) (hf:b=false→TO P n ops l E I Q):TO P n ops l E I Q:=by
 cases b
 · exact hf rfl
 · exact ht rfl
theorem TO.jy (hg:o.guard=some (j,want)) (hj:(ops[j]?).bind (·.dst)=some g) (hb:E.lookup g=some (bool b)) (Jw:b=want) (h:∀(K:Act→World→Prop) M w (a:Act),a.tmps.size=n.sz→a.defers=n.df→F9 M w E a→I.h M w→
  (∀E' I' a' w',TO P n ops r E' I' Q→St n E' I' a' w'→K a' w')→o.wp P a w K Q):TO P n ops (o::r) E I Q:=by
 intro k hl a w hs
 have h0:ops[k]? =some o:=by simpa using (hl 0).symm
 obtain ⟨M,hn,hd,he,hI⟩:=hs
 simp only [List.length_cons,List.range'_succ,wpS,h0]
 have hy:=HI (M:=M) (w:=w) (b:=some b) hj (he g _ hb)
 rw [GZ hg hy,if_pos (by simp [Jw])]
 exact (h _ M w a hn hd he hI fun E' I' a' w' hT hst=>hT (k+1) (fun j=>by have:=hl (j+1);simpa [Nat.add_assoc,Nat.add_comm 1 j] using this) a' w' hst)
theorem TO.SG {d:Nat} {p:Pr} (hg:o.guard=some (j,want)) (hj:(ops[j]?).bind (·.dst)=some g) (hb:E.lookup g=some (bool b)) (Jw:b=want) (hd:o.dst=some d) (hn:d<n) (h:Ad P I o E p) (k:TO P n ops r ((d,p)::E) I Q):TO P n ops (o::r) E I Q:=
 TO.jy hg hj hb Jw fun K M w a h1 h2 h3 h4 hK=>by
  refine F_ (h M w a (Cj h3) h4) fun v w' hv hb'=>hK _ _ _ _ k ⟨M,?_,?_,?_,I.st _ _ _ hb' h4⟩
  · rw [CL];exact h1
  · rw [put_defers];exact h2
  ·
   have:=h3.put (o:=o) (p:=p) hb' hv (fun d' hd'=>by rw [hd] at hd';cases hd';rw [h1];exact hn)
   rw [show upd o p E=(d,p)::E by unfold upd;rw [hd]] at this;exact this
theorem TO.OY {d:Nat} (hg:o.guard=some (j,want)) (hj:(ops[j]?).bind (·.dst)=some g) (hb:E.lookup g=some (bool b)) (Jw:b≠want) (hd:o.dst=some d) (hn:d<n) (kk:TO P n ops r ((d,is undef)::E) I Q):TO P n ops (o::r) E I Q:=by
 intro k hl a w hs
 have h0:ops[k]? =some o:=by simpa using (hl 0).symm
 obtain ⟨M,h1,h2,he,hI⟩:=hs
 simp only [List.length_cons,List.range'_succ,wpS,h0]
 have hy:=HI (M:=M) (w:=w) (b:=some b) hj (he g _ hb)
 rw [GZ hg hy,if_neg (by simp [Jw])]
 refine kk (k+1) (fun j=>by have:=hl (j+1);simpa [Nat.add_assoc,Nat.add_comm 1 j] using this) _ w ⟨M,by rw [CL];exact h1,by rw [put_defers];exact h2,?_,hI⟩
 have:=he.put (o:=o) (p:=is undef) (v:=undef) (Below.refl w.heap.size w) rfl (fun d' hd'=>by rw [hd] at hd';cases hd';rw [h1];exact hn)
 rw [show upd o (is undef) E=(d,is undef)::E by unfold upd;rw [hd]] at this;exact this
variable {M0:Av} {w0:World} {S:Nat→Prop} {rs:List BO}
theorem TO.ZR {d:Nat} {p:Pr} (i:Nat) {R:BO} {R':BO} (hg:o.guard=some (j,want)) (hj:(ops[j]?).bind (·.dst)=some g) (hb:E.lookup g=some (bool b)) (Jw:b=want) (hR:rs[i]? =some R) (hd:o.dst=some d) (hn:d<n) (h:DU P M0 w0 S n i (SR.c R) (SR.c R') { o with guard:=none } E p)
  (k:TO P n ops r ((d,p)::E) (Hp M0 w0 S (rs.set i R')) Q):TO P n ops (o::r) E (Hp M0 w0 S rs) Q:=
 TO.jy hg hj hb Jw fun K M w a hsz hdf he hI hK=>by
  have hw : ({ o with guard := none } : Oper).wp P a w K Q := Is (h.2 M w a rs hsz (Cj he) hI hR) fun v w' M' hv hx Nt => hK _ _ _ _ k ⟨M', by rw [CL]; exact hsz, by rw [put_defers]; exact hdf, by
   intro s q hq
   simp only [List.lookup] at hq
   by_cases hs:s=d
   · subst hs;simp at hq;subst hq;show p.h M' w' ((a.put o.dst v).tmps.getD s undef);rw [hd,B2 (by rw [hsz];exact hn)];exact hv
   · rw [show (s==d)=false by simpa using hs] at hq;show q.h M' w' ((a.put o.dst v).tmps.getD s undef);rw [hd,CK hs];exact q.st _ _ _ _ _ hx (he s q hq),Nt⟩
  exact hw
end
section
variable {P:Program} {L:Lg P} {E:Env} {I:Ca} {o:Oper}
end
class T1 (P:Program) (t:TypeId):Prop where
 h:FA P t=true
class TA (P:Program) (t:TypeId):Prop where
 h:FJ P t=true
class TZ (P:Program) (t:TypeId) (m:outParam Nat):Prop where
 h:Ap P t=some m
class TF (P:Program) (s f:Nat) (k:outParam Nat):Prop where
 h:Ag P s f=some k
class TU (P:Program) (t:TypeId) (d:outParam TypeDesc):Prop where
 h:P.underlying t=some d
class TB (P:Program) (t:TypeId) (place:outParam (Nat→Option (Nat×Nat))) (zs:outParam (List Value)):Prop where
 h:∀ps,P.built t ps=Instr.fill place zs.toArray ps
 z:zs.all (·.oneCell')=true
class TV (P:Program) (t:TypeId) (zs:outParam (List Value)):Prop where
 h:Bh P t=some zs
 z:zs.all (·.oneCell')=true
class TM (P:Program):Prop where
 h:P.follows .mixedOrders=true
section
variable {P:Program} {L:Lg P} {n:Fm} {fz:Nat} {I:Ca} {ops:Array Oper} {o:Oper} {r:List Oper} {E:Env} {K:Env→Prop} {d g j:Nat} {b want:Bool} {p:Pr} {x y:Operand} {Q:Exit→Act→World→Prop} {t u:TypeId}
theorem pI [i:T1 P t] {ps:List Pr} (ho:o.op= .load t x) (hx:DL E x=some (ref (p::ps))):Ad P I o E p:=Mi ho i.h (vl hx)
theorem pJ [i:TA P t] {m:Nat} [z:TZ P t m] {ps qs:List Pr} (ho:o.op= .load t x) (hx:DL E x=some (ref ps)) (hq:ps.take m=qs) (hm:qs.length=m):Ad P I o E (agg qs):=AH ho i.h z.h (vl hx) hq hm
theorem pK {s:TypeId} {f k:Nat} [i:TF P s f k] {ps qs:List Pr} (ho:o.op= .fieldAddr s x f) (hx:DL E x=some (ref ps)) (hq:ps.drop k=qs):Ad P I o E (ref qs):=Jy ho i.h (vl hx) hq
theorem pL {s:TypeId} {f k:Nat} [i:TF P s f k] {b off:Nat} (ho:o.op= .fieldAddr s x f) (hx:DL E x=some (ptr b off)):Ad P I o E (ptr b (off+k)):=AD ho i.h (vl hx)
theorem pM {e:TypeId} [i:TU P t (.slice e)] {sz:Nat} {β:Type} {f:β→List Pr} {l:List β} (ho:o.op= .call { callee:= .builtin .len,args:= #[x],argTypes:= #[t] }) (hx:DL E x=some (slice sz (l.map f))):Ad P I o E (int ((l.length:Nat):Int)):=Ew ho i.h (vl hx)
theorem pN [i:TU P t .string] {a:List UInt8} (ho:o.op= .call { callee:= .builtin .len,args:= #[x],argTypes:= #[t] }) (hx:DL E x=some (str a)):Ad P I o E (int ((a.length:Nat):Int)):=ZB ho i.h (vl hx)
theorem pO [i:TU P t .bool] {b c:Bool} (ho:o.op= .binOp .eql t x y u) (hx:DL E x=some (bool b)) (hy:DL E y=some (bool c)):Ad P I o E (bool (b==c)):=cv ho i.h (vl hx) (vl hy)
theorem pP {p:Pr} [One p] (ho:o.op= .box t x) (hx:DL E x=some p):Ad P I o E (ref [p]):=Bl ho (VL.le (vl hx) (AS p))
theorem pQ {ps:List Pr} (ho:o.op= .box t x) (hx:DL E x=some (agg ps)):Ad P I o E (ref ps):=Bl ho (VL.le (vl hx) (AZ ps))
class CP (p:Pr) (ps:outParam (List Pr)):Prop where
 h:Pr.le p (Dp ps)
instance pR (ps:List Pr):CP (agg ps) ps:=⟨AZ ps⟩
instance (priority:=low) pS (p:Pr) [One p]:CP p [p]:=⟨AS p⟩
class CQ (p:Pr) (ps:outParam (List Pr)):Prop where
 h:Pr.le p (Dp ps)
instance pT (ps:List Pr):CQ (agg ps) ps:=⟨AZ ps⟩
instance pU (k:IntKind) (n:Int):CQ (is (.int k n)) [is (.int k n)]:=⟨AS _⟩
instance mu (b:Bool):CQ (is (.bool b)) [is (.bool b)]:=⟨AS _⟩
instance pV (s:ByteArray):CQ (is (.string s)) [is (.string s)]:=⟨AS _⟩
instance pW (a:Option Addr):CQ (is (.pointer a)) [is (.pointer a)]:=⟨AS _⟩
instance jz (sz:Nat) (rows:List (List Pr)):CQ (slice sz rows) [slice sz rows]:=⟨AS _⟩
instance pX (ps:List Pr):CQ (ref ps) [ref ps]:=⟨AS _⟩
instance rP (f:Fn) (ps:List Pr):CQ (fn f ps) [fn f ps]:=⟨AS _⟩
theorem vf0:Rx E [] []:=trivial
theorem vf1 {i:Nat} {q:Pr} {row:List Pr} [c:CQ q row] {xs:List (Nat×Operand)} {rows:List (Nat×List Pr)} (hx:DL E x=some q) (h:Rx E xs rows):Rx E ((i,x)::xs) ((i,row)::rows):=⟨⟨rfl,VL.le (vl hx) c.h⟩,h⟩
theorem vr0 {sz:Nat}:Ny E sz [] []:=trivial
theorem vr1 {sz:Nat} {q:Pr} {row:List Pr} [c:CQ q row] {xs:List Operand} {rows:List (List Pr)} (hx:DL E x=some q) (hl:row.length=sz) (h:Ny E sz xs rows):Ny E sz (x::xs) (row::rows):=⟨⟨hl,VL.le (vl hx) c.h⟩,h⟩
theorem pY {parts:Array (Nat×Operand)} {place:Nat→Option (Nat×Nat)} {zs:List Value} [i:TB P t place zs] {rows:List (Nat×List Pr)} {qs:List Pr} (ho:o.op= .build t parts) (hx:Rx E parts.toList rows) (hq:OH place (zs.map is) rows=some qs):Ad P I o E (agg qs):=Al ho i.h i.z hx hq
theorem pZ {e:TypeId} {sz m:Nat} {zs:List Value} {xs:List Operand} {parts:Array (Nat×Operand)} {rows:List (List Pr)} [i:TU P t (.slice e)] [z:TZ P e sz] [v:TV P e zs] (ho:o.op= .buildSlice t m parts) (hp:parts.toList.map Prod.snd=xs) (hm:(m==xs.length&&(parts.toList.map Prod.fst==List.range m)&&zs.length==sz&&Nat.blt 0 sz&&Nat.ble (m*sz) 16777216)=true) (hx:Ny E sz xs rows):Ad P I o E (full sz rows):=by
 simp only [Bool.and_eq_true,beq_iff_eq,Nat.blt_eq,Nat.ble_eq] at hm
 obtain ⟨⟨⟨⟨h1,h2⟩,h3⟩,h4⟩,h5⟩:=hm
 subst h1
 refine AG ho ?_ i.h z.h v.h h3 h4 hx h5
 refine List.ext_getElem (by rw [←hp];simp) fun k h6 h7=> ?_
 have h8:k<xs.length:=by simpa using h7
 simp only [List.getElem_map,List.getElem_zipIdx,Nat.zero_add]
 have e1:(parts.toList.map Prod.fst)[k]'(by simpa using h6)=k:=by simp only [h2];exact List.getElem_range _
 have e2:(parts.toList.map Prod.snd)[k]'(by simpa using h6)=xs[k]:=by simp only [hp]
 simp only [List.getElem_map] at e1 e2
 exact Prod.ext e1 e2
section
variable {M0:Av} {w0:World} {S:Nat→Prop} {b off:Nat} {T:TypeId} {new:Bool} {ps qs:List Pr} {m:Nat} {q:Pr}
theorem Jg [i:T1 P t] (ho:o.op= .load t x) (hx:DL E x=some (ptr b off)) (hp:ps[off]? =some p):Hy P M0 w0 S j (SR.c (AE new b T ps)) o E p:=BL ho i.h (vl hx) hp
theorem Jh [i:TA P t] [z:TZ P t m] (ho:o.op= .load t x) (hx:DL E x=some (ptr b off)) (hq:(ps.drop off).take m=qs) (hm:qs.length=m):Hy P M0 w0 S j (SR.c (AE new b T ps)) o E (agg qs):=B8 ho i.h z.h (vl hx) hq hm
theorem Qu {ps':List Pr} [z:TZ P t m] [c:CP q qs] (hg:o.guard=none) (ho:o.op= .store t x y) (hx:DL E x=some (ptr b off)) (hy:DL E y=some q) (hm:qs.length=m:=by rfl) (hl:Nat.ble (off+m) ps.length=true:=by rfl) (hps:ps.take off++qs++ps.drop (off+m)=ps':=by rfl):DU P M0 w0 S n j (SR.c (AE new b T ps)) (SR.c (AE new b T ps')) o E any:=An hg ho (vl hx) (VL.le (vl hy) c.h) z.h hm (Nat.le_of_ble_eq_true hl) hps
variable {rs:List BO}
theorem sf (i s:Nat) [z:TZ P t m] [c:CP q qs] (hg:o.guard=none∧o.dst=none∧o.op= .store t x y) (hx:DL E x=some (ptr b 0)) (hy:DL E y=some q) (hi:rs[i]? =some (AE true b T ps)) (hs:E.lookup s=some (ptr b 0))
  (k:TO P n ops r ((s,ref qs)::E) (Hp M0 w0 S ((rs.set i (AE true b T qs)).eraseIdx i)) Q) (hm:qs.length=m:=by rfl) (hl:ps.length=m:=by rfl):TO P n ops (o::r) E (Hp M0 w0 S rs) Q:=
 TO.AY i hg.1 hg.2.1 hg.2.2 (vl hx) (VL.le (vl hy) c.h) hi z.h hm hl (TO.freeze (ps:=qs) i s (by
  have hlt:i<rs.length:=by rcases Nat.lt_or_ge i rs.length with h|h;exact h;rw [List.getElem?_eq_none h] at hi;cases hi
  rw [List.getElem?_set_self hlt]) hs k)
theorem sa (i:Nat) [z:TZ P t m] [c:CP q qs] (hg:o.guard=none∧o.dst=none∧o.op= .store t x y) (hx:DL E x=some (ptr b 0)) (hy:DL E y=some q) (hi:rs[i]? =some (AE new b T ps))
  (k:TO P n ops r E (Hp M0 w0 S (rs.set i (AE new b T qs))) Q) (hm:qs.length=m:=by rfl) (hl:ps.length=m:=by rfl):TO P n ops (o::r) E (Hp M0 w0 S rs) Q:=TO.AY i hg.1 hg.2.1 hg.2.2 (vl hx) (VL.le (vl hy) c.h) hi z.h hm hl k
end
def dm (o:Oper):Nat:=match o.op with
 | .move ..=>1
 | .assign ..=>1
 | .fieldAddr ..=>2
 | .load ..=>3
 | .binOp .add ..=>7
 | .binOp .sub ..=>8
 | .binOp ..=>4
 | .pick ..=>5
 | .nilCheck ..=>6
 | .call { callee:= .builtin .len,.. }=>9
 | .unOp ..=>10
 | .box ..=>11
 | .extract ..=>12
 | .makeFunc ..=>13
 | .build ..=>14
 | .buildSlice ..=>15
 | .store ..=>16
 |_=>0
def j0 (o:Oper):Bool:=o.guard.isNone
def grp (o:Oper):Nat:=if dm o=0 then 0 else if dm o<5 then 1 else if dm o<9 then 2 else if dm o<16 then 3 else 4
theorem pe {m z:Int} (ho:o.op= .binOp .add t x y u) (hx:DL E x=some (int m)) (hy:DL E y=some (int z)) (hr: -9223372036854775808≤m+z∧m+z≤9223372036854775807):Ad P I o E (int (m+z)):=FI ho (vl hx) (vl hy) hr
theorem pg {m z:Int} (ho:o.op= .binOp .sub t x y u) (hx:DL E x=some (int m)) (hy:DL E y=some (int z)) (hr: -9223372036854775808≤m-z∧m-z≤9223372036854775807):Ad P I o E (int (m-z)):=JO ho (vl hx) (vl hy) hr
theorem oF (h:Ad P I o E p:=by first|exact pK rfl rfl rfl|exact pL rfl rfl):Ad P I o E p:=h
theorem oL (h:Ad P I o E p:=by first|exact pI rfl rfl|exact pJ rfl rfl rfl rfl|exact Bc 0 rfl (Jg rfl rfl rfl)|exact Bc 0 rfl (Jh rfl rfl rfl rfl)|exact Bc 1 rfl (Jg rfl rfl rfl)|exact Bc 1 rfl (Jh rfl rfl rfl rfl)|exact Bc 2 rfl (Jg rfl rfl rfl)|exact Bc 2 rfl (Jh rfl rfl rfl rfl)|exact Bc 3 rfl (Jg rfl rfl rfl)|exact Bc 3 rfl (Jh rfl rfl rfl rfl)|exact Bc 4 rfl (Jg rfl rfl rfl)|exact Bc 4 rfl (Jh rfl rfl rfl rfl)):Ad P I o E p:=h
theorem oB (h:Ad P I o E p:=by first|exact ki rfl rfl rfl rfl|exact dV rfl (vl rfl) (vl rfl)|exact dW rfl (vl rfl) (vl rfl)|exact pO rfl rfl rfl):Ad P I o E p:=h
theorem oP (h:Ad P I o E p:=by first|exact JQ rfl rfl (by first|rfl|assumption) rfl|exact JB rfl rfl (by first|rfl|assumption) rfl|exact UY rfl (vl rfl) (vl rfl)|exact SB rfl (vl rfl) (vl rfl)):Ad P I o E p:=h
theorem oN (h:Ad P I o E p:=by first|exact Aw rfl (vl rfl)|exact Le rfl (vl rfl)|exact Mj rfl (vl rfl)):Ad P I o E p:=h
theorem oA (h:Ad P I o E p:=by first|exact pe rfl rfl rfl (by omega)|exact ki rfl rfl rfl rfl):Ad P I o E p:=h
theorem oS (h:Ad P I o E p:=by first|exact pg rfl rfl rfl (by omega)|exact ki rfl rfl rfl rfl):Ad P I o E p:=h
theorem oC (h:Ad P I o E p:=by first|exact pM rfl rfl|exact pN rfl rfl):Ad P I o E p:=h
theorem oU (h:Ad P I o E p:=by first|exact IE rfl (vl rfl)):Ad P I o E p:=h
theorem oO (h:Ad P I o E p:=by first|exact pQ rfl rfl|exact pP rfl rfl):Ad P I o E p:=h
theorem oE (h:Ad P I o E p:=by first|exact BI rfl (vl rfl) rfl):Ad P I o E p:=h
theorem oM (h:Ad P I o E p:=by first|exact IG rfl rfl):Ad P I o E p:=h
theorem oD (h:Ad P I o E p:=by first|exact pY rfl (by repeat any_goals first|exact vf0|refine' vf1 rfl ?_) (by rfl)):Ad P I o E p:=h
theorem oI (h:Ad P I o E p:=by first|exact pZ rfl rfl (by rfl) (by repeat any_goals first|exact vr0|refine' vr1 rfl (by rfl) ?_)):Ad P I o E p:=h
theorem Qv {f:FuncId} {ts:Array TypeId} {res:Pr} (hf:A_ P f [] res) (ho:o.op= .call { callee:= .value (.func f),args:= #[],argTypes:=ts }):Ad P I o E res:=Ae ho hf trivial
theorem B1 {f:FuncId} {ts:Array TypeId} {x0:Operand} {p0:Pr} {res:Pr} (hf:A_ P f [p0] res) (ho:o.op= .call { callee:= .value (.func f),args:= #[x0],argTypes:=ts }) (h0:DL E x0=some p0):Ad P I o E res:=Ae ho hf ⟨ke h0,trivial⟩
theorem C8 {f:FuncId} {ts:Array TypeId} {x0:Operand} {p0:Pr} {x1:Operand} {p1:Pr} {res:Pr} (hf:A_ P f [p0,p1] res) (ho:o.op= .call { callee:= .value (.func f),args:= #[x0,x1],argTypes:=ts }) (h0:DL E x0=some p0) (h1:DL E x1=some p1):Ad P I o E res:=Ae ho hf ⟨ke h0,ke h1,trivial⟩
theorem kc3 {f:FuncId} {ts:Array TypeId} {x0:Operand} {p0:Pr} {x1:Operand} {p1:Pr} {x2:Operand} {p2:Pr} {res:Pr} (hf:A_ P f [p0,p1,p2] res) (ho:o.op= .call { callee:= .value (.func f),args:= #[x0,x1,x2],argTypes:=ts }) (h0:DL E x0=some p0) (h1:DL E x1=some p1) (h2:DL E x2=some p2):Ad P I o E res:=Ae ho hf ⟨ke h0,ke h1,ke h2,trivial⟩
theorem kc5 {f:FuncId} {ts:Array TypeId} {x0:Operand} {p0:Pr} {x1:Operand} {p1:Pr} {x2:Operand} {p2:Pr} {x3:Operand} {p3:Pr} {x4:Operand} {p4:Pr} {res:Pr} (hf:A_ P f [p0,p1,p2,p3,p4] res) (ho:o.op= .call { callee:= .value (.func f),args:= #[x0,x1,x2,x3,x4],argTypes:=ts }) (h0:DL E x0=some p0) (h1:DL E x1=some p1) (h2:DL E x2=some p2) (h3:DL E x3=some p3) (h4:DL E x4=some p4):Ad P I o E res:=Ae ho hf ⟨ke h0,ke h1,ke h2,ke h3,ke h4,trivial⟩
theorem cP (_:j0 o=true) (h:Ch P n I ops (o::r) E K):Ch P n I ops (o::r) E K:=h
theorem cG (_:j0 o=false) (h:Ch P n I ops (o::r) E K):Ch P n I ops (o::r) E K:=h
theorem cK (k:Nat) (_:dm o=k) (h:Ch P n I ops (o::r) E K):Ch P n I ops (o::r) E K:=h
theorem cS (k:Nat) (_:grp o=k) (h:Ch P n I ops (o::r) E K):Ch P n I ops (o::r) E K:=h
theorem tK (k:Nat) (_:dm o=k) (h:TO P n ops (o::r) E I Q):TO P n ops (o::r) E I Q:=h
theorem tG (k:Nat) (_:grp o=k) (h:TO P n ops (o::r) E I Q):TO P n ops (o::r) E I Q:=h
theorem Tr.rm [i:TM P] {id:Nat} {l:List Oper} (hB:JM l=true) (h:Ch P n I l.toArray l E (fun E'=>Fin n E' I Q .normal)) (hc:calm l=true:=by with_unfolding_all rfl):Tr L n E I (.region id l.toArray true) Q:=Tr.Vf i.h hB h hc
theorem Tr.ct {c:Operand} {y z:Code} (hc:DL E c=some (bool true)) (k:Tr L n E I y Q):Tr L n E I (.cond c y z) Q:=Tr.cond hc (fun _=>k) (fun h=>nomatch h)
theorem Tr.cf {c:Operand} {y z:Code} (hc:DL E c=some (bool false)) (k:Tr L n E I z Q):Tr L n E I (.cond c y z) Q:=Tr.cond hc (fun h=>nomatch h) (fun _=>k)
structure WH (G:Prop):Prop where
 k:G
theorem Cx.mono {M0:Av} {w0:World} {S:Nat→Prop}:∀{l:List Oper} {E:Env} {rs:List SR} {K K':List X→Env→List SR→Prop},(∀L E rs,K L E rs→K' L E rs)→Cx P M0 w0 S n ops l E rs K→Cx P M0 w0 S n ops l E rs K'
 |[],_,_,_,_,h,k=>h _ _ _ k
 |_::_,_,_,_,_,h,⟨p,k,h1,h2,h3⟩=>⟨p,k,h1,h2,Cx.mono (fun _ _ _=>h _ _ _) h3⟩
theorem Cx.keys {M0:Av} {w0:World} {S:Nat→Prop}:∀{l:List Oper} {E:Env} {rs:List SR} {K:List X→Env→List SR→Prop},Cx P M0 w0 S n ops l E rs K→∃ks:List KN,Cx P M0 w0 S n ops l E rs (fun L E' rs'=>L.map (·.k.JP)=ks∧K L E' rs')
 |[],_,_,_,k=>⟨[],rfl,k⟩
 |_::_,_,_,_,⟨p,k,h1,h2,h3⟩=>by
  obtain ⟨ks,h4⟩:=Cx.keys h3
  exact ⟨k.JP::ks,p,k,h1,h2,Cx.mono (fun L E rs h=>⟨by rw [List.map_cons,h.1],h.2⟩) h4⟩
theorem Tr.rx {Lo:Lg P} [i:TM P] {M0:Av} {w0:World} {S:Nat→Prop} {id:Nat} {l:List Oper} {G3:List BO}
  (h:Cx P M0 w0 S n l.toArray l E (G3.map SR.c) (fun L E' rs'=>Lw l (L.map (·.k.JP))=true∧BV n M0 w0 S E' rs' Q)) (hc:calm l=true:=by with_unfolding_all rfl):Tr Lo n E (Hp M0 w0 S G3) (.region id l.toArray true) Q:=by
 obtain ⟨ks,hk⟩:=Cx.keys h
 obtain ⟨L,h1,h2,h3⟩:=O7 l 0 E _ hk
 exact Tr.QY i.h ks (by rw [←h3.1];exact h3.2.1) (hk.mono fun _ _ _ h=>⟨h.1,h.2.2⟩) hc
theorem al1 {rs:List BO} {r0:BO}:Ck (SR.c r0::rs.map SR.c) (r0::rs):= .cons (Ck.map _)
theorem ZS {rs:List BO} {r0:BO} {r1:BO}:Ck (SR.c r0::SR.c r1::rs.map SR.c) (r0::r1::rs):= .cons (.cons (Ck.map _))
theorem YC {rs:List BO} {r0:BO} {r1:BO} {r2:BO}:Ck (SR.c r0::SR.c r1::SR.c r2::rs.map SR.c) (r0::r1::r2::rs):= .cons (.cons (.cons (Ck.map _)))
theorem I8 {rs:List BO} {r0:BO} {r1:BO} {r2:BO} {r3:BO}:Ck (SR.c r0::SR.c r1::SR.c r2::SR.c r3::rs.map SR.c) (r0::r1::r2::r3::rs):= .cons (.cons (.cons (.cons (Ck.map _))))
theorem ZT {rs:List BO} {r0:BO} {r1:BO} {r2:BO} {r3:BO} {r4:BO}:Ck (SR.c r0::SR.c r1::SR.c r2::SR.c r3::SR.c r4::rs.map SR.c) (r0::r1::r2::r3::r4::rs):= .cons (.cons (.cons (.cons (.cons (Ck.map _)))))
theorem fo {f : FuncId} {g : Func} {c : Code} {ps : List Pr} {res : Pr} (hf : P.funcs[f]? = some g) (hb : g.body = some c) (hname : ((g.name == "runtime.NumGoroutine") = false ∧ Nat.ble ps.length g.ntmps = true))
  (h:∀M0 w0,Tr (cT P) g.ntmps (Ld 0 ps) (Bse M0 w0) c (bodyPost P g (QT M0 w0 res))):A_ P f ps res:=A_.of hf hb hname.1 (Nat.le_of_ble_eq_true hname.2) h
section
variable {M0:Av} {w0:World} {S:Nat→Prop} {rs:List SR} {KX:List X→Env→List SR→Prop}
theorem xId {l:List Oper} (h:Cx P M0 w0 S n ops l E rs KX):Cx P M0 w0 S n ops l E rs KX:=h
theorem xK (k:Nat) (_:dm o=k) (h:Cx P M0 w0 S n ops (o::r) E rs KX):Cx P M0 w0 S n ops (o::r) E rs KX:=h
theorem xG (k:Nat) (_:grp o=k) (h:Cx P M0 w0 S n ops (o::r) E rs KX):Cx P M0 w0 S n ops (o::r) E rs KX:=h
end
theorem cId {l:List Oper} (h:Ch P n I ops l E K):Ch P n I ops l E K:=h
theorem gN {c:Code} (h:Tr L n E I c Q):Tr L n E I c Q:=h
theorem fId {e:Exit} (h:Fin n E I Q e):Fin n E I Q e:=h
theorem j4 {l:List Oper} (h:TO P n ops l E I Q):TO P n ops l E I Q:=h
theorem ac {G H:Prop} (k:G) (h:WH G→H:=by
 intro k
 repeat1' first
  |((with_reducible refine cId ?_);first
   |with_reducible refine Ch.nil ?_
   |(refine cP rfl ?_;first
    |(refine cS 1 rfl ?_;first
      |(refine cK 1 rfl ?_;refine cm rfl ?_)
      |(refine cK 2 rfl ?_;refine co rfl oF ?_)
      |(refine cK 3 rfl ?_;refine co rfl oL ?_)
      |(refine cK 4 rfl ?_;refine co rfl oB ?_))
    |(refine cS 2 rfl ?_;first
      |(refine cK 5 rfl ?_;refine co rfl oP ?_)
      |(refine cK 6 rfl ?_;refine co rfl oN ?_)
      |(refine cK 7 rfl ?_;refine co rfl oA ?_)
      |(refine cK 8 rfl ?_;refine co rfl oS ?_))
    |(refine cS 3 rfl ?_;first
      |(refine cK 9 rfl ?_;refine co rfl oC ?_)
      |(refine cK 10 rfl ?_;refine co rfl oU ?_)
      |(refine cK 11 rfl ?_;refine co rfl oO ?_)
      |(refine cK 12 rfl ?_;refine co rfl oE ?_)
      |(refine cK 13 rfl ?_;refine co rfl oM ?_)
      |(refine cK 14 rfl ?_;refine co rfl oD ?_)
      |(refine cK 15 rfl ?_;refine co rfl oI ?_)))
   |(refine cG rfl ?_;first
    |refine cu rfl ?_
    |refine cnt (by assumption) rfl ?_
    |refine cnf (by assumption) rfl ?_
    |(refine cS 1 rfl ?_;first
      |(refine cK 1 rfl ?_;refine Gr (by first|assumption|rfl) rfl ?_)
      |(refine cK 2 rfl ?_;refine cy (by first|assumption|rfl) rfl oF ?_)
      |(refine cK 3 rfl ?_;refine cy (by first|assumption|rfl) rfl oL ?_)
      |(refine cK 4 rfl ?_;refine cy (by first|assumption|rfl) rfl oB ?_))
    |(refine cS 2 rfl ?_;first
      |(refine cK 5 rfl ?_;refine cy (by first|assumption|rfl) rfl oP ?_)
      |(refine cK 6 rfl ?_;refine cy (by first|assumption|rfl) rfl oN ?_)
      |(refine cK 7 rfl ?_;refine cy (by first|assumption|rfl) rfl oA ?_)
      |(refine cK 8 rfl ?_;refine cy (by first|assumption|rfl) rfl oS ?_))
    |(refine cS 3 rfl ?_;first
      |(refine cK 9 rfl ?_;refine cy (by first|assumption|rfl) rfl oC ?_)
      |(refine cK 10 rfl ?_;refine cy (by first|assumption|rfl) rfl oU ?_)
      |(refine cK 11 rfl ?_;refine cy (by first|assumption|rfl) rfl oO ?_)
      |(refine cK 12 rfl ?_;refine cy (by first|assumption|rfl) rfl oE ?_)
      |(refine cK 13 rfl ?_;refine cy (by first|assumption|rfl) rfl oM ?_)
      |(refine cK 14 rfl ?_;refine cy (by first|assumption|rfl) rfl oD ?_)
      |(refine cK 15 rfl ?_;refine cy (by first|assumption|rfl) rfl oI ?_))
    |refine VW rfl rfl ?_))
  |((with_reducible refine gN ?_);first
   |with_reducible refine Tr.seq ?_
   |with_reducible refine Tr.A3 ?_
   |refine Tr.rm (by kernel_rfl) ?_
   |with_reducible refine Tr.skip ?_
   |with_reducible refine Tr.block ?_
   |with_reducible refine Tr.ret ?_
   |with_reducible refine Tr.exit ?_
   |refine Tr.ct rfl ?_
   |refine Tr.cf rfl ?_)
  |((with_reducible refine fId ?_);first
   |with_reducible refine Fin.AF ?_
   |with_reducible refine Fin.Ar ?_
   |with_reducible refine Fin.Ao ?_
   |with_reducible refine Fin.BT ?_
   |refine Fin.Mf rfl ?_
   |with_reducible refine Fin.block ?_
   |refine Fin.JN rfl (CH.Ep _ _) rfl ?_)
 first|with_reducible refine Fin.go ?_|with_reducible refine cId ?_|with_reducible refine j4 ?_|with_reducible refine gN ?_|refine Fin.go ?_|skip
 exact k.k):H:=h ⟨k⟩
theorem ao {G H:Prop} (k:G) (h:WH G→H:=by
 intro k
 repeat1' first
  |((with_reducible refine j4 ?_);first
   |with_reducible refine TO.nil ?_
   |(refine tG 1 rfl ?_;first
     |(refine tK 1 rfl ?_;refine tm rfl ?_)
     |(refine tK 2 rfl ?_;refine tp rfl oF ?_)
     |(refine tK 3 rfl ?_;refine tp rfl oL ?_)
     |(refine tK 4 rfl ?_;refine tp rfl oB ?_))
   |(refine tG 2 rfl ?_;first
     |(refine tK 5 rfl ?_;refine tp rfl oP ?_)
     |(refine tK 6 rfl ?_;refine tp rfl oN ?_)
     |(refine tK 7 rfl ?_;refine tp rfl oA ?_)
     |(refine tK 8 rfl ?_;refine tp rfl oS ?_))
   |(refine tG 3 rfl ?_;first
     |(refine tK 9 rfl ?_;refine tp rfl oC ?_)
     |(refine tK 10 rfl ?_;refine tp rfl oU ?_)
     |(refine tK 12 rfl ?_;refine tp rfl oE ?_)
     |(refine tK 13 rfl ?_;refine tp rfl oM ?_)
     |(refine tK 14 rfl ?_;refine tp rfl oD ?_)
     |(refine tK 15 rfl ?_;refine tp rfl oI ?_)))
  |((with_reducible refine gN ?_);first
   |with_reducible refine Tr.seq ?_
   |with_reducible refine Tr.Aq ?_
   |with_reducible refine Tr.skip ?_
   |with_reducible refine Tr.block ?_
   |with_reducible refine Tr.ret ?_
   |with_reducible refine Tr.exit ?_)
  |((with_reducible refine fId ?_);first
   |with_reducible refine Fin.AF ?_
   |with_reducible refine Fin.Ar ?_
   |with_reducible refine Fin.Ao ?_
   |with_reducible refine Fin.BT ?_
   |refine Fin.Mf rfl ?_
   |with_reducible refine Fin.block ?_)
 first|with_reducible refine Fin.go ?_|with_reducible refine cId ?_|with_reducible refine j4 ?_|with_reducible refine gN ?_|refine Fin.go ?_|skip
 exact k.k):H:=h ⟨k⟩
theorem ap {G H:Prop} (k:G) (h:WH G→H:=by
 intro k
 repeat1' first
  |((with_reducible refine j4 ?_);first
   |with_reducible refine TO.nil ?_
   |(refine tG 1 rfl ?_;first
     |(refine tK 1 rfl ?_;refine tm rfl ?_)
     |(refine tK 2 rfl ?_;refine tp rfl oF ?_)
     |(refine tK 3 rfl ?_;refine tp rfl oL ?_)
     |(refine tK 4 rfl ?_;refine tp rfl oB ?_))
   |(refine tG 2 rfl ?_;first
     |(refine tK 5 rfl ?_;refine tp rfl oP ?_)
     |(refine tK 6 rfl ?_;refine tp rfl oN ?_)
     |(refine tK 7 rfl ?_;refine tp rfl oA ?_)
     |(refine tK 8 rfl ?_;refine tp rfl oS ?_))
   |(refine tG 3 rfl ?_;first
     |(refine tK 9 rfl ?_;refine tp rfl oC ?_)
     |(refine tK 10 rfl ?_;refine tp rfl oU ?_)
     |(refine tK 12 rfl ?_;refine tp rfl oE ?_)
     |(refine tK 13 rfl ?_;refine tp rfl oM ?_)
     |(refine tK 14 rfl ?_;refine tp rfl oD ?_)
     |(refine tK 15 rfl ?_;refine tp rfl oI ?_))
   |(refine tK 16 rfl ?_;first
    |refine sa 0 ⟨rfl,rfl,rfl⟩ rfl rfl rfl ?_
    |refine TO.C7 0 rfl rfl (Qu rfl rfl rfl rfl) ?_
    |refine sa 1 ⟨rfl,rfl,rfl⟩ rfl rfl rfl ?_
    |refine TO.C7 1 rfl rfl (Qu rfl rfl rfl rfl) ?_
    |refine sa 2 ⟨rfl,rfl,rfl⟩ rfl rfl rfl ?_
    |refine TO.C7 2 rfl rfl (Qu rfl rfl rfl rfl) ?_
    |refine sa 3 ⟨rfl,rfl,rfl⟩ rfl rfl rfl ?_
    |refine TO.C7 3 rfl rfl (Qu rfl rfl rfl rfl) ?_))
  |((with_reducible refine gN ?_);first
   |with_reducible refine Tr.seq ?_
   |with_reducible refine Tr.Aq ?_
   |with_reducible refine Tr.skip ?_
   |with_reducible refine Tr.block ?_
   |with_reducible refine Tr.ret ?_
   |with_reducible refine Tr.exit ?_)
  |((with_reducible refine fId ?_);first
   |with_reducible refine Fin.AF ?_
   |with_reducible refine Fin.Ar ?_
   |with_reducible refine Fin.Ao ?_
   |with_reducible refine Fin.BT ?_
   |refine Fin.Mf rfl ?_
   |with_reducible refine Fin.block ?_)
 first|with_reducible refine Fin.go ?_|with_reducible refine cId ?_|with_reducible refine j4 ?_|with_reducible refine gN ?_|refine Fin.go ?_|skip
 exact k.k):H:=h ⟨k⟩
theorem ax {G H:Prop} (k:G) (h:WH G→H:=by
 intro k
 repeat ((with_reducible refine xId ?_);first
   |(refine xG 1 rfl ?_;first
     |(refine xK 1 rfl ?_;refine xm rfl ?_)
     |(refine xK 2 rfl ?_;refine xo rfl (fun _=>oF) ?_)
     |(refine xK 3 rfl ?_;refine xo rfl (fun _=>oL) ?_)
     |(refine xK 4 rfl ?_;refine xo rfl (fun _=>oB) ?_))
   |(refine xG 2 rfl ?_;first
     |(refine xK 5 rfl ?_;refine xo rfl (fun _=>oP) ?_)
     |(refine xK 6 rfl ?_;refine xo rfl (fun _=>oN) ?_)
     |(refine xK 7 rfl ?_;refine xo rfl (fun _=>oA) ?_)
     |(refine xK 8 rfl ?_;refine xo rfl (fun _=>oS) ?_))
   |(refine xG 3 rfl ?_;first
     |(refine xK 9 rfl ?_;refine xo rfl (fun _=>oC) ?_)
     |(refine xK 10 rfl ?_;refine xo rfl (fun _=>oU) ?_)
     |(refine xK 11 rfl ?_;refine xo rfl (fun _=>oO) ?_)
     |(refine xK 12 rfl ?_;refine xo rfl (fun _=>oE) ?_)
     |(refine xK 13 rfl ?_;refine xo rfl (fun _=>oM) ?_)
     |(refine xK 14 rfl ?_;refine xo rfl (fun _=>oD) ?_))
   |(refine xK 3 rfl ?_;first
    |refine HG 0 rfl rfl (Jg rfl rfl rfl) ?_
    |refine HG 0 rfl rfl (Jh rfl rfl rfl rfl) ?_
    |refine HG 1 rfl rfl (Jg rfl rfl rfl) ?_
    |refine HG 1 rfl rfl (Jh rfl rfl rfl rfl) ?_
    |refine HG 2 rfl rfl (Jg rfl rfl rfl) ?_
    |refine HG 2 rfl rfl (Jh rfl rfl rfl rfl) ?_
    |refine HG 3 rfl rfl (Jg rfl rfl rfl) ?_
    |refine HG 3 rfl rfl (Jh rfl rfl rfl rfl) ?_
    |refine HG 4 rfl rfl (Jg rfl rfl rfl) ?_
    |refine HG 4 rfl rfl (Jh rfl rfl rfl rfl) ?_))
 exact k.k):H:=h ⟨k⟩
theorem ay {G H:Prop} (k:G) (h:WH G→H:=by
 intro k
 repeat ((with_reducible refine xId ?_);first
   |(refine xG 1 rfl ?_;first
     |(refine xK 1 rfl ?_;refine xm rfl ?_)
     |(refine xK 2 rfl ?_;refine xo rfl (fun _=>oF) ?_)
     |(refine xK 3 rfl ?_;refine xo rfl (fun _=>oL) ?_)
     |(refine xK 4 rfl ?_;refine xo rfl (fun _=>oB) ?_))
   |(refine xG 2 rfl ?_;first
     |(refine xK 5 rfl ?_;refine xo rfl (fun _=>oP) ?_)
     |(refine xK 6 rfl ?_;refine xo rfl (fun _=>oN) ?_)
     |(refine xK 7 rfl ?_;refine xo rfl (fun _=>oA) ?_)
     |(refine xK 8 rfl ?_;refine xo rfl (fun _=>oS) ?_))
   |(refine xG 3 rfl ?_;first
     |(refine xK 9 rfl ?_;refine xo rfl (fun _=>oC) ?_)
     |(refine xK 10 rfl ?_;refine xo rfl (fun _=>oU) ?_)
     |(refine xK 11 rfl ?_;refine xo rfl (fun _=>oO) ?_)
     |(refine xK 12 rfl ?_;refine xo rfl (fun _=>oE) ?_)
     |(refine xK 13 rfl ?_;refine xo rfl (fun _=>oM) ?_)
     |(refine xK 14 rfl ?_;refine xo rfl (fun _=>oD) ?_))
   |(refine xK 3 rfl ?_;first
    |refine HG 0 rfl rfl (Jg rfl rfl rfl) ?_
    |refine HG 0 rfl rfl (Jh rfl rfl rfl rfl) ?_
    |refine HG 1 rfl rfl (Jg rfl rfl rfl) ?_
    |refine HG 1 rfl rfl (Jh rfl rfl rfl rfl) ?_
    |refine HG 2 rfl rfl (Jg rfl rfl rfl) ?_
    |refine HG 2 rfl rfl (Jh rfl rfl rfl rfl) ?_
    |refine HG 3 rfl rfl (Jg rfl rfl rfl) ?_
    |refine HG 3 rfl rfl (Jh rfl rfl rfl rfl) ?_
    |refine HG 4 rfl rfl (Jg rfl rfl rfl) ?_
    |refine HG 4 rfl rfl (Jh rfl rfl rfl rfl) ?_)
   |(refine xK 16 rfl ?_;first
    |refine Cx.C7 0 rfl rfl (Qu rfl rfl rfl rfl) ?_
    |refine Cx.C7 1 rfl rfl (Qu rfl rfl rfl rfl) ?_
    |refine Cx.C7 2 rfl rfl (Qu rfl rfl rfl rfl) ?_
    |refine Cx.C7 3 rfl rfl (Qu rfl rfl rfl rfl) ?_))
 exact k.k):H:=h ⟨k⟩
theorem Ch.cg {l:List Oper} {b v:Bool} {g j:Nat} {pt pf:Prop} [ht:FX b true pt] [hf:FX b false pf] (_:o.guard=some (j,v)) (_:(ops[j]?.bind (·.dst))=some g) (hb:E.lookup g=some (bool b)) (k:b=true→pt→Ch P n I ops (o::l) E K) (k':b=false→pf→Ch P n I ops (o::l) E K):Ch P n I ops (o::l) E K:=Ch.cases g hb (fun h=>k h (ht.Gp h)) (fun h=>k' h (hf.Gp h))
theorem a2 {G H:Prop} (k:G) (h:WH G→H:=by
 intro k
 iterate 2 refine ac ?_
 exact k.k):H:=h ⟨k⟩
theorem a3 {G H:Prop} (k:G) (h:WH G→H:=by
 intro k
 iterate 3 refine ac ?_
 exact k.k):H:=h ⟨k⟩
theorem an {G L H:Prop} (k:G) (l:L) (h:WH G→WH L→H:=by
 intro k l
 refine ac ?_
 refine Tr.cn rfl ?_ ?_
 exact k.k
 exact l.k):H:=h ⟨k⟩ ⟨l⟩
theorem ag {G L H:Prop} (k:G) (l:L) (h:WH G→WH L→H:=by
 intro k l
 refine ac ?_
 refine Ch.cg rfl rfl rfl ?_ ?_
 exact k.k
 exact l.k):H:=h ⟨k⟩ ⟨l⟩
theorem Lr {p:Pr}:Pr.le p p:=Pr.le_refl p
theorem Vo {p:Pr} [One p] (h:DL E x=some p):VL E x (Dp [p]):=VL.le (vl h) (AS p)
theorem Va {ps:List Pr} (h:DL E x=some (agg ps)):VL E x (Dp ps):=VL.le (vl h) (AZ ps)
theorem Nb {a b:Nat} (h:Nat.ble a b=true):a≤b:=Nat.le_of_ble_eq_true h
theorem Kf {z:Nat} {l:List (List Pr)} (h:DL E x=some (full z l)):VL E x (slice z l):=⟨_,h,Au z l⟩
theorem Ka {v:Value} (h:DL E x=some (As v p)):VL E x (is v):=⟨_,h,Cy v p⟩
theorem Kb {v:Value} (h:DL E x=some (As v p)):VL E x p:=⟨_,h,A7 v p⟩
theorem Tl {M0:Av} {w0:World} {S:Nat→Prop} {rs:List BO} {T:TypeId} {zs:List Value} (hg:o.guard=none) (hd:o.dst=some d) (hn:Nat.blt d n=true) (ho:o.op= .alloc T) (hz:Bh P T=some zs) (h1':zs.all (·.oneCell')=true)
  (k:∀b,TO P n ops r ((d,is (.pointer (some ⟨b,0,none⟩)))::E) (Hp M0 w0 S (AE true b T (zs.map is)::rs)) Q):TO P n ops (o::r) E (Hp M0 w0 S rs) Q:=TO.alloc hg hd (Gq hn) ho hz h1' k
theorem DF {M0:Av} {w0:World} {S:Nat→Prop} {t e:TypeId} {sz bytes:Nat} {zs:List Value} {rows Ai:List (List Pr)} {R:SR} (hg:o.guard=none) (hd:o.dst=some d) (hn:Nat.blt d n=true) (ho:o.op= .call { callee:= .builtin .append,args:= #[x,y],argTypes:= #[t,t] })
  (ht:P.underlying t=some (.slice e)) (hz:Ap P e=some sz) (hby:CI P e=some bytes) (C6:Bh P e=some zs) (hx:VL E x (slice sz rows)) (hy:VL E y (slice sz Ai))
  (hR:∀M w (a:Act),Ci M w E o a→R.at_ a=BJ e sz (a.eval x)∨(R.at_ a=Bm∧Cu (a.eval x)=none)) (hzl:zs.length=sz:=by rfl) (hsz:Nat.blt 0 sz=true:=by rfl)
  (EB:rows.length+Ai.length≤maxLen:=by simp only [List.length_map,List.length_append,List.length_cons,List.length_nil,List.length_replicate,List.length_take,List.length_drop];unfold maxLen;omega) (hfit:(rows.length+Ai.length)*bytes≤140737488355328:=by simp only [List.length_map,List.length_append,List.length_cons,List.length_nil,List.length_replicate,List.length_take,List.length_drop];omega):DU P M0 w0 S n j R ⟨d,BJ e sz⟩ o E (slice sz (rows++Ai)):=G4 hg hd (Gq hn) ho ht hz hby C6 hzl (Gq hsz) hx hy EB hfit hR
end
end Cp
namespace Go.Proofs.YtppeeogffbpcbaaGreat
open Go Cp
instance mw:TM Tryz.prog:=⟨mixed⟩
instance sE:TV Tryz.prog 3 [.int .i64 0]:=⟨z3,jE⟩
instance pq:T1 Tryz.prog 3:=⟨CV⟩
instance rQ:TZ Tryz.prog 3 1:=⟨CO⟩
instance pz:T1 Tryz.prog 4:=⟨oq⟩
instance rR:TZ Tryz.prog 4 1:=⟨sz4⟩
instance YD:TU Tryz.prog 4 .bool:=⟨Tryz.underlying4⟩
instance sF:TV Tryz.prog 5 [.int .u8 0]:=⟨z5,zo5⟩
instance p_:T1 Tryz.prog 5:=⟨jF⟩
instance rS:TZ Tryz.prog 5 1:=⟨J5⟩
instance sG:TV Tryz.prog 9 [.string (ByteArray.mk #[])]:=⟨z9,zo9⟩
instance qA:T1 Tryz.prog 9:=⟨J6⟩
instance rT:TZ Tryz.prog 9 1:=⟨G0⟩
instance YE:TU Tryz.prog 9 .string:=⟨Tryz.underlying9⟩
instance mz:T1 Tryz.prog 22:=⟨OK⟩
instance qB:TZ Tryz.prog 22 1:=⟨Fl⟩
instance WI:TU Tryz.prog 22 (.slice 3):=⟨Tryz.underlying22⟩
instance qC:TB Tryz.prog 24 (fun i=>(#[(0,1),(1,1)]:Array (Nat×Nat))[i]?) (List.replicate 2 (.int .i64 0)):=⟨R4,De⟩
instance rU:TV Tryz.prog 24 (List.replicate 2 (.int .i64 0)):=⟨z24,De⟩
instance m8:TA Tryz.prog 24:=⟨CM⟩
instance qD:TZ Tryz.prog 24 2:=⟨DE⟩
instance j5:TF Tryz.prog 24 0 0:=⟨dF⟩
instance j6:TF Tryz.prog 24 1 1:=⟨dG⟩
instance m9:T1 Tryz.prog 25:=⟨bL⟩
instance qE:TZ Tryz.prog 25 1:=⟨jH⟩
instance WJ:TU Tryz.prog 25 (.slice 131):=⟨Tryz.underlying25⟩
instance qF:TB Tryz.prog 27 (fun i=>(#[(0,2),(2,1),(3,1)]:Array (Nat×Nat))[i]?) [.int .i64 0,.int .i64 0,.int .i64 0,.slice none 0 0]:=⟨Ya,HO⟩
instance rV:TV Tryz.prog 27 [.int .i64 0,.int .i64 0,.int .i64 0,.slice none 0 0]:=⟨HP,HO⟩
instance m_:TA Tryz.prog 27:=⟨E2⟩
instance qG:TZ Tryz.prog 27 4:=⟨BR⟩
instance j7:TF Tryz.prog 27 0 0:=⟨dH⟩
instance j8:TF Tryz.prog 27 1 2:=⟨dI⟩
instance j9:TF Tryz.prog 27 2 3:=⟨R5⟩
instance qH:TB Tryz.prog 29 (fun i=>(#[(0,1),(1,1),(2,1),(3,1),(4,4)]:Array (Nat×Nat))[i]?) [.int .i64 0,.int .i64 0,.int .i64 0,.int .i64 0,.int .i64 0,.int .i64 0,.int .i64 0,.slice none 0 0]:=⟨PI,Fo⟩
instance rW:TV Tryz.prog 29 [.int .i64 0,.int .i64 0,.int .i64 0,.int .i64 0,.int .i64 0,.int .i64 0,.int .i64 0,.slice none 0 0]:=⟨z29,Fo⟩
instance nA:TA Tryz.prog 29:=⟨Be⟩
instance qI:TZ Tryz.prog 29 8:=⟨BE⟩
instance j_:TF Tryz.prog 29 0 0:=⟨dJ⟩
instance kC:TF Tryz.prog 29 1 1:=⟨GD⟩
instance kD:TF Tryz.prog 29 2 2:=⟨HQ⟩
instance kE:TF Tryz.prog 29 3 3:=⟨JS⟩
instance kF:TF Tryz.prog 29 4 4:=⟨Kq⟩
instance nB:T1 Tryz.prog 30:=⟨Ta⟩
instance qJ:TZ Tryz.prog 30 1:=⟨Li⟩
instance WK:TU Tryz.prog 30 (.slice 27):=⟨Tryz.underlying30⟩
instance qK:TB Tryz.prog 32 (fun i=>(#[(0,1),(1,1),(2,1),(3,1),(4,1),(5,1),(6,1),(7,1),(8,1)]:Array (Nat×Nat))[i]?) [.string (ByteArray.mk #[]),.int .i64 0,.int .i64 0,.slice none 0 0,.bool false,.slice none 0 0,.slice none 0 0,.slice none 0 0,.bool false]:=⟨Yc,Df⟩
instance nC:TA Tryz.prog 32:=⟨BM⟩
instance qL:TZ Tryz.prog 32 9:=⟨A8⟩
instance kG:TF Tryz.prog 32 0 0:=⟨R6⟩
instance kH:TF Tryz.prog 32 1 1:=⟨V1⟩
instance kI:TF Tryz.prog 32 2 2:=⟨M6⟩
instance kJ:TF Tryz.prog 32 3 3:=⟨Ea⟩
instance kK:TF Tryz.prog 32 4 4:=⟨dK⟩
instance kL:TF Tryz.prog 32 5 5:=⟨EC⟩
instance kM:TF Tryz.prog 32 6 6:=⟨IL⟩
instance kN:TF Tryz.prog 32 7 7:=⟨IM⟩
instance kO:TF Tryz.prog 32 8 8:=⟨dL⟩
instance nD:T1 Tryz.prog 37:=⟨OL⟩
instance WL:TU Tryz.prog 37 (.slice 32):=⟨Tryz.underlying37⟩
instance nE:T1 Tryz.prog 38:=⟨Tc⟩
instance WM:TU Tryz.prog 38 (.slice 80):=⟨Tryz.underlying38⟩
instance nF:T1 Tryz.prog 39:=⟨V2⟩
instance WN:TU Tryz.prog 39 (.slice 107):=⟨Tryz.underlying39⟩
instance qM:TB Tryz.prog 41 (fun i=>(#[(0,1),(1,1),(2,1)]:Array (Nat×Nat))[i]?) (List.replicate 3 (.slice none 0 0)):=⟨Yf,Ef⟩
instance nG:TA Tryz.prog 41:=⟨Bu⟩
instance qN:TZ Tryz.prog 41 3:=⟨Bz⟩
instance kP:TF Tryz.prog 41 0 0:=⟨Gt⟩
instance kQ:TF Tryz.prog 41 1 1:=⟨Kr⟩
instance kR:TF Tryz.prog 41 2 2:=⟨JT⟩
instance WO:TU Tryz.prog 47 (.slice 29):=⟨Tryz.underlying47⟩
instance WQ:TU Tryz.prog 59 (.slice 3):=⟨Tryz.underlying59⟩
instance nH:T1 Tryz.prog 66:=⟨jL⟩
instance nI:T1 Tryz.prog 74:=⟨jN⟩
instance qO:TZ Tryz.prog 74 1:=⟨jM⟩
instance WR:TU Tryz.prog 74 (.slice 9):=⟨Tryz.underlying74⟩
instance qP:TB Tryz.prog 80 (fun i=>(#[(0,1),(1,1)]:Array (Nat×Nat))[i]?) (List.replicate 2 (.int .i64 0)):=⟨dN,R7⟩
instance rX:TV Tryz.prog 80 (List.replicate 2 (.int .i64 0)):=⟨Yg,R7⟩
instance nJ:TA Tryz.prog 80:=⟨OM⟩
instance qQ:TZ Tryz.prog 80 2:=⟨FL⟩
instance kS:TF Tryz.prog 80 0 0:=⟨IP⟩
instance kT:TF Tryz.prog 80 1 1:=⟨Ks⟩
instance nK:TB Tryz.prog 101 (fun i=>(#[(0,1),(1,1)]:Array (Nat×Nat))[i]?) [.slice none 0 0,.int .i64 0]:=⟨jO,jP⟩
instance gO:TF Tryz.prog 101 0 0:=⟨Yh⟩
instance gP:TF Tryz.prog 101 1 1:=⟨Yi⟩
instance kU:T1 Tryz.prog 105:=⟨dO⟩
instance VY:TU Tryz.prog 105 (.slice 152):=⟨Tryz.underlying105⟩
instance nL:TB Tryz.prog 107 (fun i=>(#[(0,1),(1,1),(2,1),(3,1),(4,1)]:Array (Nat×Nat))[i]?) [.string (ByteArray.mk #[]),.int .i64 0,.int .i64 0,.slice none 0 0,.int .i64 0]:=⟨jQ,LW⟩
instance qR:TV Tryz.prog 107 [.string (ByteArray.mk #[]),.int .i64 0,.int .i64 0,.slice none 0 0,.int .i64 0]:=⟨z107,LW⟩
instance kV:TA Tryz.prog 107:=⟨HR⟩
instance nM:TZ Tryz.prog 107 5:=⟨Dg⟩
instance gQ:TF Tryz.prog 107 0 0:=⟨Yj⟩
instance gR:TF Tryz.prog 107 1 1:=⟨Yk⟩
instance gS:TF Tryz.prog 107 2 2:=⟨Yl⟩
instance gT:TF Tryz.prog 107 3 3:=⟨L1⟩
instance gU:TF Tryz.prog 107 4 4:=⟨Ym⟩
instance VZ:TU Tryz.prog 114 (.slice 24):=⟨Tryz.underlying114⟩
instance kW:TA Tryz.prog 129:=⟨dP⟩
instance nN:TZ Tryz.prog 129 2:=⟨V4⟩
instance gV:TF Tryz.prog 129 0 0:=⟨Yn⟩
instance gW:TF Tryz.prog 129 1 1:=⟨Yo⟩
instance qS:TV Tryz.prog 131 [.int .i64 0,.string (ByteArray.mk #[]),.string (ByteArray.mk #[]),.int .i64 0,.int .i64 0,.int .i64 0,.int .i64 0,.int .i64 0,.int .i64 0,.int .i64 0,.bool false,.int .i64 0,.slice none 0 0,.int .i64 0,.int .i64 0]:=⟨z131,Gg⟩
instance kX:TA Tryz.prog 131:=⟨Dh⟩
instance nO:TZ Tryz.prog 131 15:=⟨CC⟩
instance gX:TF Tryz.prog 131 0 0:=⟨Yp⟩
instance gY:TF Tryz.prog 131 1 1:=⟨Yq⟩
instance dn:TF Tryz.prog 131 10 12:=⟨Qg⟩
instance dw:TF Tryz.prog 131 11 13:=⟨M7⟩
instance gZ:TF Tryz.prog 131 2 2:=⟨Yr⟩
instance ga:TF Tryz.prog 131 3 3:=⟨Ys⟩
instance gb:TF Tryz.prog 131 4 5:=⟨Yt⟩
instance gh:TF Tryz.prog 131 5 6:=⟨Yu⟩
instance gj:TF Tryz.prog 131 6 8:=⟨Yv⟩
instance gl:TF Tryz.prog 131 7 9:=⟨Yw⟩
instance gm:TF Tryz.prog 131 8 10:=⟨Yx⟩
instance gp:TF Tryz.prog 131 9 11:=⟨Yy⟩
instance nP:TB Tryz.prog 152 (fun i=>(#[(0,2),(2,1)]:Array (Nat×Nat))[i]?) (List.replicate 3 (.int .i64 0)):=⟨jR,V6⟩
instance qT:TV Tryz.prog 152 (List.replicate 3 (.int .i64 0)):=⟨z152,V6⟩
instance kY:TA Tryz.prog 152:=⟨PJ⟩
instance nQ:TZ Tryz.prog 152 3:=⟨EP⟩
instance gq:TF Tryz.prog 152 0 0:=⟨Yz⟩
instance gr:TF Tryz.prog 152 1 2:=⟨Y0⟩
instance kZ:T1 Tryz.prog 156:=⟨JU⟩
instance kf:T1 Tryz.prog 157:=⟨JV⟩
instance nR:TB Tryz.prog 159 (fun i=>(#[(0,1),(1,8),(9,8)]:Array (Nat×Nat))[i]?) [.pointer none,.int .i64 0,.int .i64 0,.int .i64 0,.int .i64 0,.int .i64 0,.int .i64 0,.int .i64 0,.slice none 0 0,.int .i64 0,.int .i64 0,.int .i64 0,.int .i64 0,.int .i64 0,.int .i64 0,.int .i64 0,.slice none 0 0]:=⟨jS,jT⟩
instance gu:TF Tryz.prog 159 0 0:=⟨HS⟩
instance gv:TF Tryz.prog 159 1 1:=⟨DY⟩
instance gw:TF Tryz.prog 159 2 9:=⟨Y1⟩
instance nS:TB Tryz.prog 161 (fun i=>some (i*1,1)) (List.replicate 13 (.nilFunc)):=⟨jU,bQ⟩
instance nT:TZ Tryz.prog 161 13:=⟨bP⟩
instance nU:TB Tryz.prog 170 (fun i=>(#[(0,1),(1,1),(2,2),(4,2),(6,2),(8,2),(10,1),(11,1)]:Array (Nat×Nat))[i]?) [.int .i64 0,.string (ByteArray.mk #[]),.int .i64 0,.int .i64 0,.int .i64 0,.int .i64 0,.int .i64 0,.int .i64 0,.int .i64 0,.int .i64 0,.int .i64 0,.int .i64 0]:=⟨Tf,J8⟩
instance kg:TA Tryz.prog 170:=⟨IQ⟩
instance nV:TZ Tryz.prog 170 12:=⟨Fu⟩
instance kj:T1 Tryz.prog 198:=⟨V7⟩
instance Vb:TU Tryz.prog 198 (.slice 5):=⟨Tryz.underlying198⟩
instance nW:TB Tryz.prog 209 (fun i=>(#[(0,1),(1,1)]:Array (Nat×Nat))[i]?) [.string (ByteArray.mk #[]),.int .i64 0]:=⟨jW,bS⟩
instance qU:TV Tryz.prog 209 [.string (ByteArray.mk #[]),.int .i64 0]:=⟨ou,bS⟩
instance nX:TZ Tryz.prog 209 2:=⟨bR⟩
instance gy:TF Tryz.prog 209 1 1:=⟨Y3⟩
instance Vc:TU Tryz.prog 210 (.slice 209):=⟨Tryz.underlying210⟩
instance ko:T1 Tryz.prog 221:=⟨PK⟩
instance nY:TB Tryz.prog 223 (fun i=>(#[(0,1),(1,1),(2,1),(3,1)]:Array (Nat×Nat))[i]?) [.int .i64 0,.slice none 0 0,.bool false,.slice none 0 0]:=⟨V8,JH⟩
instance kr:TA Tryz.prog 223:=⟨C9⟩
instance nZ:TZ Tryz.prog 223 4:=⟨CX⟩
instance gz:TF Tryz.prog 223 0 0:=⟨Y4⟩
instance g_:TF Tryz.prog 223 1 1:=⟨PL⟩
instance hG:TF Tryz.prog 223 2 2:=⟨Y5⟩
instance hO:TF Tryz.prog 223 3 3:=⟨J9⟩
instance ng:TB Tryz.prog 244 (fun i=>(#[(0,1),(1,1),(2,1),(3,1),(4,1)]:Array (Nat×Nat))[i]?) [.string (ByteArray.mk #[]),.int .i64 0,.int .i64 0,.slice none 0 0,.slice none 0 0]:=⟨D6,Di⟩
instance nh:TZ Tryz.prog 244 5:=⟨ON⟩
instance hY:TF Tryz.prog 244 1 1:=⟨Y6⟩
instance iA:TF Tryz.prog 244 2 2:=⟨Y7⟩
instance iB:TF Tryz.prog 244 3 3:=⟨Y8⟩
instance iC:TF Tryz.prog 244 4 4:=⟨Y9⟩
instance ni:TB Tryz.prog 272 (fun i=>some (i*5,5)) [.string (ByteArray.mk #[]),.int .i64 0,.int .i64 0,.slice none 0 0,.slice none 0 0,.string (ByteArray.mk #[]),.int .i64 0,.int .i64 0,.slice none 0 0,.slice none 0 0,.string (ByteArray.mk #[]),.int .i64 0,.int .i64 0,.slice none 0 0,.slice none 0 0,.string (ByteArray.mk #[]),.int .i64 0,.int .i64 0,.slice none 0 0,.slice none 0 0,.string (ByteArray.mk #[]),.int .i64 0,.int .i64 0,.slice none 0 0,.slice none 0 0,.string (ByteArray.mk #[]),.int .i64 0,.int .i64 0,.slice none 0 0,.slice none 0 0,.string (ByteArray.mk #[]),.int .i64 0,.int .i64 0,.slice none 0 0,.slice none 0 0,.string (ByteArray.mk #[]),.int .i64 0,.int .i64 0,.slice none 0 0,.slice none 0 0,.string (ByteArray.mk #[]),.int .i64 0,.int .i64 0,.slice none 0 0,.slice none 0 0,.string (ByteArray.mk #[]),.int .i64 0,.int .i64 0,.slice none 0 0,.slice none 0 0,.string (ByteArray.mk #[]),.int .i64 0,.int .i64 0,.slice none 0 0,.slice none 0 0,.string (ByteArray.mk #[]),.int .i64 0,.int .i64 0,.slice none 0 0,.slice none 0 0,.string (ByteArray.mk #[]),.int .i64 0,.int .i64 0,.slice none 0 0,.slice none 0 0,.string (ByteArray.mk #[]),.int .i64 0,.int .i64 0,.slice none 0 0,.slice none 0 0,.string (ByteArray.mk #[]),.int .i64 0,.int .i64 0,.slice none 0 0,.slice none 0 0,.string (ByteArray.mk #[]),.int .i64 0,.int .i64 0,.slice none 0 0,.slice none 0 0,.string (ByteArray.mk #[]),.int .i64 0,.int .i64 0,.slice none 0 0,.slice none 0 0,.string (ByteArray.mk #[]),.int .i64 0,.int .i64 0,.slice none 0 0,.slice none 0 0,.string (ByteArray.mk #[]),.int .i64 0,.int .i64 0,.slice none 0 0,.slice none 0 0,.string (ByteArray.mk #[]),.int .i64 0,.int .i64 0,.slice none 0 0,.slice none 0 0,.string (ByteArray.mk #[]),.int .i64 0,.int .i64 0,.slice none 0 0,.slice none 0 0,.string (ByteArray.mk #[]),.int .i64 0,.int .i64 0,.slice none 0 0,.slice none 0 0,.string (ByteArray.mk #[]),.int .i64 0,.int .i64 0,.slice none 0 0,.slice none 0 0]:=⟨jY,bV⟩
instance nj:TZ Tryz.prog 272 115:=⟨bU⟩
instance nk:TB Tryz.prog 292 (fun i=>some (i*1,1)) (List.replicate 2 (.int .i64 0)):=⟨jZ,bX⟩
instance nq:TZ Tryz.prog 292 2:=⟨bW⟩
instance nr:TB Tryz.prog 293 (fun i=>some (i*2,2)) (List.replicate 10 (.int .i64 0)):=⟨jc,jd⟩
end Go.Proofs.YtppeeogffbpcbaaGreat
namespace Go.Proofs.YtppeeogffbpcbaaGreat
open Go Go.RowKit Cp Go.Proofs.Tryz
abbrev ints (l:List Int):Pr:=slice 1 (l.map fun n=>[int n])
def idx {β:Type} (p:β→Bool) (l:List β):Int:=match l.findIdx? p with|some i=>i|none=> -1
theorem Dy {β:Type} {p:β→Bool} {l:List β} {k:Nat} {x:β} (hx:l[k]? =some x) (hp:p x=true) (h:∀j y,j<k→l[j]? =some y→p y=false):(k:Int)=idx p l:=by
 have:l.findIdx? p=some k:=by
  rw [List.findIdx?_eq_some_iff_getElem]
  have hk:k<l.length:=by rcases Nat.lt_or_ge k l.length with h|h;exact h;rw [List.getElem?_eq_none h] at hx;cases hx
  rw [List.getElem?_eq_getElem hk] at hx
  simp only [Option.some.injEq] at hx
  refine ⟨hk,by rw [hx];exact hp,fun j hj=> ?_⟩
  simpa using h j _ hj (List.getElem?_eq_getElem (by omega))
 unfold idx;rw [this]
theorem Eh {β:Type} {p:β→Bool} {l:List β} (h:∀j y,j<l.length→l[j]? =some y→p y=false):(-1:Int)=idx p l:=by
 have:l.findIdx? p=none:=by
  rw [List.findIdx?_eq_none_iff]
  intro x hx
  obtain ⟨j,hj,rfl⟩:=List.mem_iff_getElem.1 hx
  exact h j _ hj (List.getElem?_eq_getElem hj)
 unfold idx;rw [this]
theorem KE {β:Type} (p:β→Bool) (l:List β):decide (idx p l≥0)=l.any p:=by
 unfold idx
 cases h:l.findIdx? p with
 |none=>rw [List.findIdx?_eq_none_iff] at h;simp;intro x hx;simpa using h x hx
 |some i=>
  rw [List.findIdx?_eq_some_iff_getElem] at h
  obtain ⟨h1,h2,_⟩:=h
  simp
  exact ⟨_,List.getElem_mem h1,h2⟩
theorem DK {β:Type} {p:β→Bool} {l:List β} {k:Nat} {x:β} (hx:l[k]? =some x) (hp:p x=false) (h:∀j y,j<k→l[j]? =some y→p y=false):∀j y,j<k+1→l[j]? =some y→p y=false:=by
 intro j y hj hy
 by_cases hjk:j=k
 · subst hjk;rw [hx] at hy;cases hy;exact hp
 · exact h j y (by omega) hy
theorem PX {l:List Int} {p:Int→Bool}  :A_ prog 193 [ints l,O0 prog (fun x:Int=>[int x]) (fun x=>bool (p x))] (int (idx p l)):=by
 refine fo func193 rfl ⟨rfl,rfl⟩ fun M0 w0=>(Tr.Cr 0 rfl fun Dj=> ?_)
 refine a2 ?_
 refine Tr.block (Tr.BF [(0,_),(1,_),(7,_)] (Js rfl) (fun k:Nat=>[(8,int ((k:Nat):Int))]) (fun k:Nat=>k≤(l).length∧(∀j y,j<k→l[j]? =some y→p y=false)) (fun k:Nat=>(l).length-k) 0 (⟨Nat.zero_le _,fun j y hj=>absurd hj (by omega)⟩) ⟨ke rfl,trivial⟩ ?_)
 rintro k ⟨BN,AL⟩
 refine ac ?_
 refine Tr.seq ?_
 refine Tr.cn rfl ?_ ?_<;>intro h1 q1
 have Ac:k<(l).length:=AU h1
 obtain ⟨x,Aa⟩:=at_ Ac
 · repeat' first|exact int_eq (Dy Aa (by assumption) AL)|exact Fin.AM (k+1) ⟨⟨Ac,DK Aa (by assumption) AL⟩,by omega⟩ ⟨⟨_,rfl,AK k⟩,ke rfl,ke rfl,ke rfl,trivial⟩|refine co rfl (AA rfl underlying22 CO (vl rfl) (vl rfl) (by omega) (by exact AX (by assumption))) ?_|refine co rfl (E_ rfl CV rfl) (co rfl (EA x rfl (vl rfl) ⟨ke rfl,trivial⟩) ?_)|refine ac ?_|(refine Tr.cn rfl ?_ ?_<;>intro h q)
 have A4:k=(l).length:=by have:=AV h1;omega
 subst A4
 refine a3 ?_
 · exact int_eq (Eh AL)
theorem Hs {l:List Int} {p:Int→Bool}  :A_ prog 148 [ints l,O0 prog (fun x:Int=>[int x]) (fun x=>bool (p x))] (bool (l.any p)):=by
 refine fo func148 rfl ⟨rfl,rfl⟩ fun M0 w0=> ?_
 refine a2 ?_
 refine co rfl (C8 (PX) rfl rfl rfl) ?_
 refine a2 ?_
 · exact bool_eq (KE p l)
theorem NO {l:List Int} {v:Int}  :A_ prog 207 [ints l,int v] (int (idx (fun x=>v==x) l)):=by
 refine fo func207 rfl ⟨rfl,rfl⟩ fun M0 w0=>(Tr.Cr 0 rfl fun Dj=> ?_)
 refine a2 ?_
 refine Tr.block (Tr.BF [(0,_),(1,_),(7,_)] (Js rfl) (fun k:Nat=>[(8,int ((k:Nat):Int))]) (fun k:Nat=>k≤(l).length∧(∀j y,j<k→l[j]? =some y→(v==y)=false)) (fun k:Nat=>(l).length-k) 0 (⟨Nat.zero_le _,fun j y hj=>absurd hj (by omega)⟩) ⟨ke rfl,trivial⟩ ?_)
 rintro k ⟨BN,AL⟩
 refine ac ?_
 refine Tr.seq ?_
 refine Tr.cn rfl ?_ ?_<;>intro h1 q1
 have Ac:k<(l).length:=AU h1
 obtain ⟨x,Aa⟩:=at_ Ac
 · repeat' first|exact int_eq (Dy (p:=fun x=>v==x) Aa (by assumption) AL)|exact Fin.AM (k+1) ⟨⟨Ac,DK (p:=fun x=>v==x) Aa (by assumption) AL⟩,by omega⟩ ⟨⟨_,rfl,AK k⟩,ke rfl,ke rfl,ke rfl,trivial⟩|refine co rfl (AA rfl underlying22 CO (vl rfl) (vl rfl) (by omega) (by exact AX (by assumption))) ?_|refine ac ?_|(refine Tr.cn rfl ?_ ?_<;>intro h q)
 have A4:k=(l).length:=by have:=AV h1;omega
 subst A4
 refine a3 ?_
 · exact int_eq (Eh AL)
theorem IX {l:List Int} {v:Int}  :A_ prog 190 [ints l,int v] (bool (l.any fun x=>v==x)):=by
 refine fo func190 rfl ⟨rfl,rfl⟩ fun M0 w0=> ?_
 refine a2 ?_
 refine co rfl (C8 (NO) rfl rfl rfl) ?_
 refine a2 ?_
 · exact bool_eq (KE _ l)
end Go.Proofs.YtppeeogffbpcbaaGreat
namespace Go.Proofs.YtppeeogffbpcbaaGreat
open Go Go.RowKit Cp Go.ChangeShapes Go.WideShapes Go.ChangeAt Go.Proofs.Tryz
theorem qV:ownKnob Tryz.prog.godebug=none:=by kernel_rfl
theorem WS:laidOutB Tryz.prog=true:=by kernel_rfl
theorem i64_in {n:Int} (h:(Lit.int .i64 n).wf=true):LK n:=by
 simp only [Lit.wf,Bool.and_eq_true,decide_eq_true_eq] at h
 have h1:IntKind.i64.min= -9223372036854775808:=rfl
 have h2:IntKind.i64.max=9223372036854775807:=rfl
 unfold LK;omega
theorem NP {P:Program} {t e:TypeId} (ht:P.underlying t=some (.slice e)) (he:P.underlying e=some (.int .i64)) (hc:P.cellsOf e=1):Hq P t (fun l:List Int=>l.length≤maxLen∧∀n∈l,LK n) (fun l=>[ints l]):=
 (Qb ht hc (B5 he)).map id (fun _ h=>⟨h.2,fun n hn=>i64_in (h.1 n hn)⟩) (fun _=>rfl)
end Go.Proofs.YtppeeogffbpcbaaGreat
namespace Go.Proofs.YtppeeogffbpcbaaGreat
open Go Go.RowKit Cp Go.Proofs.Tryz
abbrev Cd (b:Nat) (s:DS):BO:=M4 101 b s
theorem ZU (n:Int) {k:Int} (hk:1≤k):(n.tmod k+k).tmod k=n % k:=by
 have h1: -k<n.tmod k:=by have:=Int.lt_tmod_of_pos n (b:=k) (by omega);omega
 rw [Int.tmod_eq_emod_of_nonneg (by omega),Int.tmod_def,show n-k*n.tdiv k+k=n+k*(1-n.tdiv k) by rw [Int.mul_sub];omega,Int.add_mul_emod_self_left]
theorem dx (n:Int) {k:Int} (hk:1≤k): -k<n.tmod k∧n.tmod k<k:=by
 have h1:=Int.lt_tmod_of_pos n (b:=k) (by omega)
 have h2:=Int.tmod_lt_of_pos n (b:=k) (by omega)
 omega
theorem ZV {l:List Int}  :A_ prog 10 [ints l] (bool (decide (l.length≤400))):=by
 refine fo func10 rfl ⟨rfl,rfl⟩ fun M0 w0=> ?_
 refine a3 ?_
 · refine bool_eq ?_;simp_all;omega
theorem ku {n k:Int} (hk:1≤k) (hk2:k≤1000000000):A_ prog 104 [int n,int k] (int (n % k)):=by
 refine fo func104 rfl ⟨rfl,rfl⟩ fun M0 w0=> ?_
 have hm:=dx n hk
 have hp:=ZU n hk
 · repeat' first|(exfalso;omega)|(refine int_eq ?_;exact hp)|refine co rfl (O4 rfl (vl rfl) (vl rfl) (by omega)) ?_|refine ac ?_|(refine Tr.cn rfl ?_ ?_<;>intro h q)
theorem BD {b:Nat} {s:DS} {n:Int} (hn:1≤n) (hn2:n≤1000000000):BG prog 52 [ptr b 0,int n] (int (s.val n)) (Cd b s) (fun _=>Cd b s.Aj):=by
 refine BG.of func52 rfl rfl (by exact Nb rfl) fun M0 w0 S rs M1 w1=> ?_
 have hs:=s.h
 have K1:=s.h2
 refine ac ?_
 refine an ?_ ?_<;>intro h1 q1
 refine ac ?_
 refine Tr.ret (Fin.AF ?_)
 rw [DS.YZ (s:=s) (by omega)]
 refine Fin.CB [] rfl (AW.tmp rfl (Lr)) ?_ (fun _ _ _ _=>rfl)
 · refine int_eq ?_;exact (DS.YY (by omega) n).symm
 have hlt:s.at_<s.l.length:=by omega
 obtain ⟨x,hx⟩:=at_ hlt
 refine ac ?_
 refine ap ?_
 refine B3 0 1 rfl ?_
 refine ac ?_
 refine co rfl (AA rfl underlying22 CO (vl rfl) (vl rfl) (by omega) (by rw [show ((s.at_:Nat):Int)+1-1=((s.at_:Nat):Int) by omega];exact AX hx)) ?_
 refine ac ?_
 refine co rfl (C8 (ku (by omega) (by omega)) rfl rfl rfl) ?_
 refine ac ?_
 refine Es 4 rfl (Tr.ret ?_)
 rw [DS.dD hlt]
 refine Fin.CB [] rfl (AW.tmp rfl (Lr)) ?_ (fun _ _ _ _=>rfl)
 · refine int_eq ?_;exact (DS.dB hx n).symm
theorem Fw {b:Nat} {s:DS} {l:List Int} (hl:l≠[]) (bn:l.length≤1000000000):BG prog 59 [ptr b 0,ints l] (int (s.of l)) (Cd b s) (fun _=>Cd b s.Aj):=by
 refine BG.of func59 rfl rfl (by exact Nb rfl) fun M0 w0 S rs M1 w1=> ?_
 have SD:1≤(l.length:Int):=by have:=List.length_pos_iff.2 hl;omega
 have hv:=s.B4 SD
 obtain ⟨x,hx⟩:=at_ (l:=l) (k:=(s.val l.length).toNat) (by omega)
 refine ac ?_
 refine ap ?_
 refine TO.Er 0 rfl rfl (by decide) (AQ rfl rfl (by decide) rfl (BD (by omega) (by omega)) ⟨ke rfl,ke rfl,trivial⟩) (tp rfl (AA rfl underlying22 CO (vl rfl) (vl rfl) (by omega) (DC hx)) ?_)
 refine ap ?_
 refine Tr.ret (Fin.CB [] rfl (AW.tmp rfl (Lr)) ?_ (fun _ _ _ _=>rfl))
 · refine int_eq ?_;unfold DS.of;rw [hx];rfl
theorem Ji {b:Nat} {s:DS} {n:Int} (hn:1≤n) (hn2:n≤1000000000):BG prog 36 [ptr b 0,int n] (bool (s.val n==n-1)) (Cd b s) (fun _=>Cd b s.Aj):=by
 refine BG.of func36 rfl rfl (by exact Nb rfl) fun M0 w0 S rs M1 w1=> ?_
 refine ac ?_
 refine ap ?_
 refine TO.Er 0 rfl rfl (by decide) (AQ rfl rfl (by decide) rfl (BD (by omega) (by omega)) ⟨ke rfl,ke rfl,trivial⟩) ?_
 refine ap ?_
 refine Tr.ret (Fin.CB [] rfl (AW.tmp rfl (Lr)) ?_ (fun _ _ _ _=>rfl))
 · exact Lr
def ZW (l:List Int) (hl:l.length≤1000000000) (v:Value):BO:=match v with| .pointer (some a)=>M4 101 a.block ⟨l,0,Nat.zero_le _,hl⟩|_=>Bm
theorem dy {l:List Int} (hl:l.length≤1000000000):BG prog 12 [ints l] (ex fun b=>ptr b 0) (Bm) (ZW l hl):=by
 refine BG.of func12 rfl rfl (by exact Nb rfl) fun M0 w0 S rs M1 w1=> ?_
 refine ac ?_
 refine ap ?_
 refine TO.IJ rfl rfl (by decide) rfl (Va rfl) (fun b1=> ?_)
 refine ap ?_
 refine Tr.ret (Fin.drop 1 ?_)
 refine Fin.CB [] rfl (AW.tmp rfl (Lr)) ?_ (by rintro _ _ _ rfl;rfl)
 · exact A9 b1 (Lr)
-- no type cipherplan/api.Fact here
-- no type cipherplan/rY.place here
theorem WU {d:Nat} {w:World} {x0 y0:Int} {x1 y1:Int}:(Op.equalIn (d+2) 24 (.agg #[.int .i64 x0,.int .i64 x1]) (.agg #[.int .i64 y0,.int .i64 y1])).run Tryz.prog w= .ok (decide (x0=y0∧x1=y1)) w:=by
 have h:=mZ (w:=w) (d:=d+1) (xs:= #[.int .i64 x0,.int .i64 x1]) (ys:= #[.int .i64 y0,.int .i64 y1]) Tryz.underlying24 (by kernel_rfl) (Ff (by decide) (Ct CV rfl) (Ct CV rfl) (HU (d:=d+0) Tryz.underlying3) (Ff (by decide) (Ct CV rfl) (Ct CV rfl) (HU (d:=d+0) Tryz.underlying3) (L2)))
 refine h.trans (congrArg (fun b=>Result.ok b w) ?_)
 rw [Bool.eq_iff_iff];simp [and_assoc]
theorem HV {E:Env} {I:Ca} {o:Oper} {u:TypeId} {x y:Operand} {x0 y0:Int} {x1 y1:Int} (ho:o.op= .binOp .eql 24 x y u) (hx:VL E x (agg [is (.int .i64 x0),is (.int .i64 x1)])) (hy:VL E y (agg [is (.int .i64 y0),is (.int .i64 y1)])):Ad Tryz.prog I o E (bool (decide (x0=y0∧x1=y1))):=
 Qk [.int .i64 x0,.int .i64 x1] [.int .i64 y0,.int .i64 y1] ho hx hy (by kernel_rfl) (fun w=>by rw [show Op.equal 24 _ _=Op.equalIn (9998+2) 24 _ _ from rfl];exact WU)
theorem L4 {E:Env} {I:Ca} {o:Oper} {u:TypeId} {x y:Operand} {x0 y0:Int} {x1 y1:Int} (ho:o.op= .binOp .neq 24 x y u) (hx:VL E x (agg [is (.int .i64 x0),is (.int .i64 x1)])) (hy:VL E y (agg [is (.int .i64 y0),is (.int .i64 y1)])):Ad Tryz.prog I o E (bool (!decide (x0=y0∧x1=y1))):=
 J_ [.int .i64 x0,.int .i64 x1] [.int .i64 y0,.int .i64 y1] ho hx hy (by kernel_rfl) (fun w=>by rw [show Op.equal 24 _ _=Op.equalIn (9998+2) 24 _ _ from rfl];exact WU)
def WV (c:UInt8):Bool:=decide (33≤c.toNat∧c.toNat≤126)
def named (s:List UInt8):Bool:=s.all WV&&decide (1≤s.length∧s.length≤32)
theorem HW {β:Type} {p:β→Bool} {l:List β} {k:Nat} {x:β} (hx:l[k]? =some x) (hp:p x=false):l.all p=false:=by
 rw [Bool.eq_false_iff];intro h;rw [List.all_eq_true] at h;rw [h x (List.mem_of_getElem? hx)] at hp;cases hp
theorem E4 {β:Type} {p:β→Bool} {l:List β} (h:∀j y,j<l.length→l[j]? =some y→(!p y)=false):l.all p=true:=by
 rw [List.all_eq_true]
 intro y hy
 obtain ⟨j,hj⟩:=List.mem_iff_getElem?.1 hy
 have:=h j y (by rcases Nat.lt_or_ge j l.length with h|h;exact h;rw [List.getElem?_eq_none h] at hj;cases hj) hj
 simpa using this
theorem k4 {n:Int}  :A_ prog 280 [int n] (bool false):=by
 refine fo func280 rfl ⟨rfl,rfl⟩ fun M0 w0=> ?_
 refine a3 ?_
 · exact bool_eq (by simp)
theorem L5 {s:List UInt8} (hs:s.length≤maxLen):A_ prog 184 [str s] (bool (named s)):=by
 refine fo func184 rfl ⟨rfl,rfl⟩ fun M0 w0=> ?_
 refine a2 ?_
 refine co rfl (M9 rfl underlying9 underlying198 underlying5 (vl rfl) (by assumption)) ?_
 refine ac ?_
 refine Tr.block (Tr.Cr 6 rfl fun hl6=>(Tr.BF [(0,_),(6,_),(7,_)] (Js rfl) (fun k:Nat=>[(8,int ((k:Nat):Int))]) (fun k:Nat=>k≤(s).length∧(∀j y,j<k→s[j]? =some y→(!WV y)=false)) (fun k:Nat=>(s).length-k) 0 (⟨Nat.zero_le _,fun j y hj=>absurd hj (by omega)⟩) ⟨ke rfl,trivial⟩ ?_))
 rintro k ⟨BN,AL⟩
 refine ac ?_
 refine Tr.seq ?_
 refine Tr.cn rfl ?_ ?_<;>intro h1 q1
 have Ac:k<(s).length:=AU h1
 obtain ⟨c,Aa⟩:=at_ Ac
 refine ac ?_
 refine Tr.seq (Tr.block (Tr.seq (Tr.A3 (co rfl (AA rfl underlying198 J5 (vl rfl) (vl rfl) (by omega) (by exact AX (by assumption))) ?_))))
 · repeat' first|(refine bool_eq ?_;unfold named;rw [HW (p:=WV) Aa (by simp [WV];omega)];rfl)|(exact Fin.AM (k+1) ⟨⟨Ac,DK (p:=fun c=> !WV c) Aa (by simp [WV];omega) AL⟩,by omega⟩ ⟨⟨_,rfl,AK k⟩,ke rfl,ke rfl,ke rfl,trivial⟩)|refine ac ?_|(refine Tr.cn rfl ?_ ?_<;>intro h q)|(refine Ch.cg rfl rfl rfl ?_ ?_<;>intro h q)
 have A4:k=(s).length:=by have:=AV h1;omega
 subst A4
 · repeat' first|(refine bool_eq ?_;unfold named;rw [E4 AL,Bool.true_and];rw [decide_eq_decide];omega)|(refine bool_eq ?_;unfold named;rw [E4 AL,Bool.true_and];(symm;rw [decide_eq_false_iff_not];omega))|refine ac ?_|(refine Ch.cg rfl rfl rfl ?_ ?_<;>intro h q)
theorem F0 {s:List UInt8}  :A_ prog 186 [str s] (bool (named s)):=by
 refine fo func186 rfl ⟨rfl,rfl⟩ fun M0 w0=> ?_
 refine ac ?_
 refine ag ?_ ?_<;>intro h1 q1
 refine a3 ?_
 · refine bool_eq ?_;unfold named;rw [Bool.and_eq_false_iff.2 (.inr (by simp;omega))]
 refine an ?_ ?_<;>intro h2 q2
 refine a2 ?_
 · refine bool_eq ?_;unfold named;rw [Bool.and_eq_false_iff.2 (.inr (by simp;omega))]
 refine a2 ?_
 refine Tr.block (Tr.BF [(0,_)] ⟨ke rfl,trivial⟩ (fun k:Nat=>[(3,int ((k:Nat):Int))]) (fun k:Nat=>k≤(s).length∧(∀j y,j<k→s[j]? =some y→(!WV y)=false)) (fun k:Nat=>(s).length-k) 0 (⟨Nat.zero_le _,fun j y hj=>absurd hj (by omega)⟩) ⟨ke rfl,trivial⟩ ?_)
 rintro k ⟨BN,AL⟩
 refine an ?_ ?_<;>intro h3 q3
 have Ac:k<(s).length:=AU h3
 obtain ⟨c,Aa⟩:=at_ Ac
 · repeat' first|(refine bool_eq ?_;unfold named;rw [HW (p:=WV) Aa (by simp [WV];omega)];rfl)|(exact Fin.AM (k+1) ⟨⟨Ac,DK (p:=fun c=> !WV c) Aa (by simp [WV];omega) AL⟩,by omega⟩ ⟨⟨_,rfl,AK k⟩,ke rfl,trivial⟩)|refine co rfl (PN rfl underlying9 (vl rfl) (vl rfl) (by omega) (PO (by assumption))) ?_|refine cy h rfl (PN rfl underlying9 (vl rfl) (vl rfl) (by omega) (PO (by assumption))) ?_|refine ac ?_|(refine Tr.cn rfl ?_ ?_<;>intro h q)|(refine Ch.cg rfl rfl rfl ?_ ?_<;>intro h q)
 have A4:k=(s).length:=by have:=AV h3;omega
 subst A4
 refine a3 ?_
 · refine bool_eq ?_;unfold named;rw [E4 AL,Bool.true_and];symm;rw [decide_eq_true_eq];omega
structure PY where
 name:List UInt8
 kind:Int
 way:Int
 sizes:List Int
 FN:List Int
abbrev dz (r:PY):List Pr:=[str r.name,int r.kind,int r.way,ints r.sizes,ints r.FN]
def GG:List PY:=[⟨[],0,0,[],[]⟩,⟨[109,100,53],1,0,[],[18]⟩,⟨[115,104,97,49],1,0,[],[60]⟩,⟨[115,104,97,50,53,54],1,0,[],[128]⟩,⟨[115,104,97,51,56,52],1,0,[],[192]⟩,⟨[114,115,97],2,1,[],[]⟩,⟨[100,115,97],2,1,[],[]⟩,⟨[101,99,100,115,97],2,2,[],[]⟩,⟨[101,100,50,53,53,49,57],2,0,[],[128]⟩,⟨[109,108,100,115,97],2,3,[44,65,87],[128,192,256]⟩,⟨[114,115,97,107,120],3,1,[],[]⟩,⟨[100,104,101],3,1,[],[]⟩,⟨[101,99,100,104,101],3,2,[],[]⟩,⟨[109,108,107,101,109],3,3,[512,768,1024],[128,192,256]⟩,⟨[114,99,52],4,3,[40,128],[40,60]⟩,⟨[100,101,115,51],4,3,[112,168],[80,112]⟩,⟨[97,101,115,99,98,99],4,3,[128,256],[128,256]⟩,⟨[97,101,115,103,99,109],4,3,[128,256],[128,256]⟩,⟨[99,104,97,99,104,97],4,0,[],[256]⟩,⟨[104,109,97,99,109,100,53],5,0,[],[64]⟩,⟨[104,109,97,99,115,104,97,49],5,0,[],[80]⟩,⟨[104,109,97,99,115,104,97,50,53,54],5,0,[],[128]⟩,⟨[97,101,97,100],5,0,[],[256]⟩]
def Tm:PY:=⟨[],0,0,[],[]⟩
def DT (Bp:Int):PY:=if 1≤Bp∧Bp≤22 then (GG[Bp.toNat]?).getD Tm else Tm
theorem IY {Bp:Int} (h:1≤Bp∧Bp≤22):GG[Bp.toNat]? =some (DT Bp):=by
 have hl:Bp.toNat<GG.length:=by show Bp.toNat<23;omega
 unfold DT;rw [if_pos h,List.getElem?_eq_getElem hl];rfl
theorem NQ {β:Type} {f:β→List Pr} {sz:Nat} (hf:∀x,(f x).length=sz):∀{l:List β} {i:Nat} {x:β},l[i]? =some x→((l.flatMap f).drop (i*sz)).take sz=f x
 |[],_,_,h=>by simp at h
 |a::l,0,x,h=>by
  simp at h;subst h
  rw [List.flatMap_cons,Nat.zero_mul,List.drop_zero,List.take_append_of_le_length (by rw [hf];exact Nat.le_refl _),List.take_of_length_le (by rw [hf];exact Nat.le_refl _)]
 |a::l,i+1,x,h=>by
  rw [List.flatMap_cons,Nat.succ_mul,Nat.add_comm,←List.drop_drop,List.drop_left' (hf a)]
  exact NQ hf (by simpa using h)
theorem drop_cons {β:Type} {l:List β} {k:Nat} {x:β} (h:l[k]? =some x):l.drop k=x::l.drop (k+1):=by
 have hk:k<l.length:=by rcases Nat.lt_or_ge k l.length with h'|h';exact h';rw [List.getElem?_eq_none h'] at h;cases h
 rw [List.drop_eq_getElem_cons hk]
 rw [List.getElem?_eq_getElem hk] at h
 simp at h;rw [h]
def mods:List (Int×Int):=[(1024,56),(2048,80),(3072,112),(7680,128),(15360,192)]
def d_:List (Int×Int)→Int→Int
 |[],_=>256
 |p::l,b=>if b<p.1 then p.2 else d_ l b
def WW (b:Int):Int:=d_ mods b
theorem eA   :A_ prog 266 [] (agg (GG.flatMap dz)):=by
 refine fo func266 rfl ⟨rfl,rfl⟩ fun M0 w0=>(Tr.seq (Tr.Aq ?_))
 refine Tl rfl rfl rfl rfl ox bV (fun b1=> ?_)
 refine ap ?_
 refine ap ?_
 refine tp rfl (Al (rows:=[(0,[_]),(1,[_]),(2,[_]),(3,[_]),(4,[_])]) rfl D6 Di ⟨⟨rfl,(Vo rfl)⟩,⟨⟨rfl,(Vo rfl)⟩,⟨⟨rfl,(Vo rfl)⟩,⟨⟨rfl,⟨_,rfl,Pr.le_trans (AB 1) (AS _)⟩⟩,⟨⟨rfl,⟨_,rfl,Pr.le_trans (Au _ _) (AS _)⟩⟩,trivial⟩⟩⟩⟩⟩ rfl) (tp rfl (oI) ?_)
 refine tp rfl (Al (rows:=[(0,[_]),(1,[_]),(2,[_]),(3,[_]),(4,[_])]) rfl D6 Di ⟨⟨rfl,(Vo rfl)⟩,⟨⟨rfl,(Vo rfl)⟩,⟨⟨rfl,(Vo rfl)⟩,⟨⟨rfl,⟨_,rfl,Pr.le_trans (AB 1) (AS _)⟩⟩,⟨⟨rfl,⟨_,rfl,Pr.le_trans (Au _ _) (AS _)⟩⟩,trivial⟩⟩⟩⟩⟩ rfl) (tp rfl (oI) ?_)
 refine tp rfl (Al (rows:=[(0,[_]),(1,[_]),(2,[_]),(3,[_]),(4,[_])]) rfl D6 Di ⟨⟨rfl,(Vo rfl)⟩,⟨⟨rfl,(Vo rfl)⟩,⟨⟨rfl,(Vo rfl)⟩,⟨⟨rfl,⟨_,rfl,Pr.le_trans (AB 1) (AS _)⟩⟩,⟨⟨rfl,⟨_,rfl,Pr.le_trans (Au _ _) (AS _)⟩⟩,trivial⟩⟩⟩⟩⟩ rfl) (tp rfl (oI) ?_)
 refine tp rfl (Al (rows:=[(0,[_]),(1,[_]),(2,[_]),(3,[_]),(4,[_])]) rfl D6 Di ⟨⟨rfl,(Vo rfl)⟩,⟨⟨rfl,(Vo rfl)⟩,⟨⟨rfl,(Vo rfl)⟩,⟨⟨rfl,⟨_,rfl,Pr.le_trans (AB 1) (AS _)⟩⟩,⟨⟨rfl,⟨_,rfl,Pr.le_trans (Au _ _) (AS _)⟩⟩,trivial⟩⟩⟩⟩⟩ rfl) (tp rfl (Al (rows:=[(0,[_]),(1,[_]),(2,[_]),(3,[_]),(4,[_])]) rfl D6 Di ⟨⟨rfl,(Vo rfl)⟩,⟨⟨rfl,(Vo rfl)⟩,⟨⟨rfl,(Vo rfl)⟩,⟨⟨rfl,⟨_,rfl,Pr.le_trans (AB 1) (AS _)⟩⟩,⟨⟨rfl,⟨_,rfl,Pr.le_trans (AB 1) (AS _)⟩⟩,trivial⟩⟩⟩⟩⟩ rfl) (tp rfl (Al (rows:=[(0,[_]),(1,[_]),(2,[_]),(3,[_]),(4,[_])]) rfl D6 Di ⟨⟨rfl,(Vo rfl)⟩,⟨⟨rfl,(Vo rfl)⟩,⟨⟨rfl,(Vo rfl)⟩,⟨⟨rfl,⟨_,rfl,Pr.le_trans (AB 1) (AS _)⟩⟩,⟨⟨rfl,⟨_,rfl,Pr.le_trans (AB 1) (AS _)⟩⟩,trivial⟩⟩⟩⟩⟩ rfl) (tp rfl (Al (rows:=[(0,[_]),(1,[_]),(2,[_]),(3,[_]),(4,[_])]) rfl D6 Di ⟨⟨rfl,(Vo rfl)⟩,⟨⟨rfl,(Vo rfl)⟩,⟨⟨rfl,(Vo rfl)⟩,⟨⟨rfl,⟨_,rfl,Pr.le_trans (AB 1) (AS _)⟩⟩,⟨⟨rfl,⟨_,rfl,Pr.le_trans (AB 1) (AS _)⟩⟩,trivial⟩⟩⟩⟩⟩ rfl) (tp rfl (oI) ?_))))
 refine tp rfl (Al (rows:=[(0,[_]),(1,[_]),(2,[_]),(3,[_]),(4,[_])]) rfl D6 Di ⟨⟨rfl,(Vo rfl)⟩,⟨⟨rfl,(Vo rfl)⟩,⟨⟨rfl,(Vo rfl)⟩,⟨⟨rfl,⟨_,rfl,Pr.le_trans (AB 1) (AS _)⟩⟩,⟨⟨rfl,⟨_,rfl,Pr.le_trans (Au _ _) (AS _)⟩⟩,trivial⟩⟩⟩⟩⟩ rfl) ?_
 refine ap ?_
 refine tp rfl (Al (rows:=[(0,[_]),(1,[_]),(2,[_]),(3,[_]),(4,[_])]) rfl D6 Di ⟨⟨rfl,(Vo rfl)⟩,⟨⟨rfl,(Vo rfl)⟩,⟨⟨rfl,(Vo rfl)⟩,⟨⟨rfl,⟨_,rfl,Pr.le_trans (Au _ _) (AS _)⟩⟩,⟨⟨rfl,⟨_,rfl,Pr.le_trans (Au _ _) (AS _)⟩⟩,trivial⟩⟩⟩⟩⟩ rfl) (tp rfl (Al (rows:=[(0,[_]),(1,[_]),(2,[_]),(3,[_]),(4,[_])]) rfl D6 Di ⟨⟨rfl,(Vo rfl)⟩,⟨⟨rfl,(Vo rfl)⟩,⟨⟨rfl,(Vo rfl)⟩,⟨⟨rfl,⟨_,rfl,Pr.le_trans (AB 1) (AS _)⟩⟩,⟨⟨rfl,⟨_,rfl,Pr.le_trans (AB 1) (AS _)⟩⟩,trivial⟩⟩⟩⟩⟩ rfl) (tp rfl (Al (rows:=[(0,[_]),(1,[_]),(2,[_]),(3,[_]),(4,[_])]) rfl D6 Di ⟨⟨rfl,(Vo rfl)⟩,⟨⟨rfl,(Vo rfl)⟩,⟨⟨rfl,(Vo rfl)⟩,⟨⟨rfl,⟨_,rfl,Pr.le_trans (AB 1) (AS _)⟩⟩,⟨⟨rfl,⟨_,rfl,Pr.le_trans (AB 1) (AS _)⟩⟩,trivial⟩⟩⟩⟩⟩ rfl) (tp rfl (Al (rows:=[(0,[_]),(1,[_]),(2,[_]),(3,[_]),(4,[_])]) rfl D6 Di ⟨⟨rfl,(Vo rfl)⟩,⟨⟨rfl,(Vo rfl)⟩,⟨⟨rfl,(Vo rfl)⟩,⟨⟨rfl,⟨_,rfl,Pr.le_trans (AB 1) (AS _)⟩⟩,⟨⟨rfl,⟨_,rfl,Pr.le_trans (AB 1) (AS _)⟩⟩,trivial⟩⟩⟩⟩⟩ rfl) ?_)))
 refine ap ?_
 refine tp rfl (Al (rows:=[(0,[_]),(1,[_]),(2,[_]),(3,[_]),(4,[_])]) rfl D6 Di ⟨⟨rfl,(Vo rfl)⟩,⟨⟨rfl,(Vo rfl)⟩,⟨⟨rfl,(Vo rfl)⟩,⟨⟨rfl,⟨_,rfl,Pr.le_trans (Au _ _) (AS _)⟩⟩,⟨⟨rfl,⟨_,rfl,Pr.le_trans (Au _ _) (AS _)⟩⟩,trivial⟩⟩⟩⟩⟩ rfl) ?_
 refine ap ?_
 refine tp rfl (Al (rows:=[(0,[_]),(1,[_]),(2,[_]),(3,[_]),(4,[_])]) rfl D6 Di ⟨⟨rfl,(Vo rfl)⟩,⟨⟨rfl,(Vo rfl)⟩,⟨⟨rfl,(Vo rfl)⟩,⟨⟨rfl,⟨_,rfl,Pr.le_trans (Au _ _) (AS _)⟩⟩,⟨⟨rfl,⟨_,rfl,Pr.le_trans (Au _ _) (AS _)⟩⟩,trivial⟩⟩⟩⟩⟩ rfl) ?_
 refine ap ?_
 refine tp rfl (Al (rows:=[(0,[_]),(1,[_]),(2,[_]),(3,[_]),(4,[_])]) rfl D6 Di ⟨⟨rfl,(Vo rfl)⟩,⟨⟨rfl,(Vo rfl)⟩,⟨⟨rfl,(Vo rfl)⟩,⟨⟨rfl,⟨_,rfl,Pr.le_trans (Au _ _) (AS _)⟩⟩,⟨⟨rfl,⟨_,rfl,Pr.le_trans (Au _ _) (AS _)⟩⟩,trivial⟩⟩⟩⟩⟩ rfl) ?_
 refine ap ?_
 refine tp rfl (Al (rows:=[(0,[_]),(1,[_]),(2,[_]),(3,[_]),(4,[_])]) rfl D6 Di ⟨⟨rfl,(Vo rfl)⟩,⟨⟨rfl,(Vo rfl)⟩,⟨⟨rfl,(Vo rfl)⟩,⟨⟨rfl,⟨_,rfl,Pr.le_trans (Au _ _) (AS _)⟩⟩,⟨⟨rfl,⟨_,rfl,Pr.le_trans (Au _ _) (AS _)⟩⟩,trivial⟩⟩⟩⟩⟩ rfl) ?_
 refine ap ?_
 refine tp rfl (Al (rows:=[(0,[_]),(1,[_]),(2,[_]),(3,[_]),(4,[_])]) rfl D6 Di ⟨⟨rfl,(Vo rfl)⟩,⟨⟨rfl,(Vo rfl)⟩,⟨⟨rfl,(Vo rfl)⟩,⟨⟨rfl,⟨_,rfl,Pr.le_trans (Au _ _) (AS _)⟩⟩,⟨⟨rfl,⟨_,rfl,Pr.le_trans (Au _ _) (AS _)⟩⟩,trivial⟩⟩⟩⟩⟩ rfl) (tp rfl (oI) ?_)
 refine tp rfl (Al (rows:=[(0,[_]),(1,[_]),(2,[_]),(3,[_]),(4,[_])]) rfl D6 Di ⟨⟨rfl,(Vo rfl)⟩,⟨⟨rfl,(Vo rfl)⟩,⟨⟨rfl,(Vo rfl)⟩,⟨⟨rfl,⟨_,rfl,Pr.le_trans (AB 1) (AS _)⟩⟩,⟨⟨rfl,⟨_,rfl,Pr.le_trans (Au _ _) (AS _)⟩⟩,trivial⟩⟩⟩⟩⟩ rfl) (tp rfl (oI) ?_)
 refine tp rfl (Al (rows:=[(0,[_]),(1,[_]),(2,[_]),(3,[_]),(4,[_])]) rfl D6 Di ⟨⟨rfl,(Vo rfl)⟩,⟨⟨rfl,(Vo rfl)⟩,⟨⟨rfl,(Vo rfl)⟩,⟨⟨rfl,⟨_,rfl,Pr.le_trans (AB 1) (AS _)⟩⟩,⟨⟨rfl,⟨_,rfl,Pr.le_trans (Au _ _) (AS _)⟩⟩,trivial⟩⟩⟩⟩⟩ rfl) (tp rfl (oI) ?_)
 refine tp rfl (Al (rows:=[(0,[_]),(1,[_]),(2,[_]),(3,[_]),(4,[_])]) rfl D6 Di ⟨⟨rfl,(Vo rfl)⟩,⟨⟨rfl,(Vo rfl)⟩,⟨⟨rfl,(Vo rfl)⟩,⟨⟨rfl,⟨_,rfl,Pr.le_trans (AB 1) (AS _)⟩⟩,⟨⟨rfl,⟨_,rfl,Pr.le_trans (Au _ _) (AS _)⟩⟩,trivial⟩⟩⟩⟩⟩ rfl) (tp rfl (oI) ?_)
 refine tp rfl (Al (rows:=[(0,[_]),(1,[_]),(2,[_]),(3,[_]),(4,[_])]) rfl D6 Di ⟨⟨rfl,(Vo rfl)⟩,⟨⟨rfl,(Vo rfl)⟩,⟨⟨rfl,(Vo rfl)⟩,⟨⟨rfl,⟨_,rfl,Pr.le_trans (AB 1) (AS _)⟩⟩,⟨⟨rfl,⟨_,rfl,Pr.le_trans (Au _ _) (AS _)⟩⟩,trivial⟩⟩⟩⟩⟩ rfl) (tp rfl (oI) ?_)
 refine tp rfl (Al (rows:=[(0,[_]),(1,[_]),(2,[_]),(3,[_]),(4,[_])]) rfl D6 Di ⟨⟨rfl,(Vo rfl)⟩,⟨⟨rfl,(Vo rfl)⟩,⟨⟨rfl,(Vo rfl)⟩,⟨⟨rfl,⟨_,rfl,Pr.le_trans (AB 1) (AS _)⟩⟩,⟨⟨rfl,⟨_,rfl,Pr.le_trans (Au _ _) (AS _)⟩⟩,trivial⟩⟩⟩⟩⟩ rfl) ?_
 refine ap ?_
 refine Es 0 rfl (Tr.ret (Fin.CU rfl (AW.cell 0 rfl rfl dS bU rfl (Lr)) ?_))
 · exact Ab ⟨Lr,Lr,Lr,AB 1,AB 1,Lr,Lr,Lr,Lr,Lr,Lr,Lr,Lr,Lr,Lr,Lr,Lr,Lr,Lr,Lr,Lr,Lr,Lr,Lr,Lr,Lr,Lr,Lr,Lr,Lr,Lr,Lr,Lr,Lr,Lr,Lr,Lr,Lr,Lr,Lr,Lr,Lr,Lr,Lr,Lr,Lr,Lr,Lr,Lr,Lr,Lr,Lr,Lr,Lr,Lr,Lr,Lr,Lr,Lr,Lr,Lr,Lr,Lr,Lr,Lr,Lr,Lr,Lr,Lr,Lr,Lr,Lr,Lr,Lr,Lr,Lr,Lr,Lr,Lr,Lr,Lr,Lr,Lr,Lr,Lr,Lr,Lr,Lr,Lr,Lr,Lr,Lr,Lr,Lr,Lr,Lr,Lr,Lr,Lr,Lr,Lr,Lr,Lr,Lr,Lr,Lr,Lr,Lr,Lr,Lr,Lr,Lr,Lr,Lr,Lr,trivial⟩
theorem k5 {Bp:Int}  :A_ prog 224 [int Bp] (Fa [agg (dz (DT Bp)),bool (decide (1≤Bp∧Bp≤22))]):=by
 refine fo func224 rfl ⟨rfl,rfl⟩ fun M0 w0=>(Tr.seq (Tr.Aq ?_))
 refine Tl rfl rfl rfl rfl dR Di (fun b1=> ?_)
 refine ap ?_
 refine ag ?_ ?_<;>intro h1 q1
 refine ac ?_
 refine Tr.cond rfl (fun _=> ?_) (fun h=>nomatch h)
 refine Tr.seq (Tr.Aq (tp rfl (Al (rows:=[]) rfl D6 Di trivial rfl) (TO.AY 0 rfl rfl rfl (vl rfl) (Va rfl) rfl ON rfl rfl (tm rfl (TO.nil (Fin.go (Tr.ret (Fin.AF (Fin.C4 rfl (AW.cell 0 rfl rfl PM ON rfl (Lr)) (AW.tmp rfl (Lr)) ?_)))))))))
 · refine BW ⟨?_,bool_eq (by symm;rw [decide_eq_false_iff_not];omega),trivial⟩;unfold DT;rw [if_neg (by omega)];exact Ab ⟨Lr,Lr,Lr,AB 1,AB 1,trivial⟩
 refine an ?_ ?_<;>intro h2 q2
 refine ap ?_
 refine Tr.ret (Fin.AF (Fin.C4 rfl (AW.cell 0 rfl rfl PM ON rfl (Lr)) (AW.tmp rfl (Lr)) ?_))
 · refine BW ⟨?_,bool_eq (by symm;rw [decide_eq_false_iff_not];omega),trivial⟩;unfold DT;rw [if_neg (by omega)];exact Ab ⟨Lr,Lr,Lr,AB 1,AB 1,trivial⟩
 have hin:1≤Bp∧Bp≤22:=by omega
 refine ac ?_
 refine Tr.seq (Tr.Aq (tp rfl (Qv (eA) rfl) (tm rfl (tp rfl (Qj rfl underlying272 PM ON (vl rfl) (vl rfl) (by omega) (by omega) (NQ (f:=dz) (fun _=>rfl) (IY hin))) ?_))))
 refine ap ?_
 refine Tr.ret (Fin.C4 rfl (AW.cell 0 rfl rfl PM ON rfl (Lr)) (AW.tmp rfl (Lr)) ?_)
 · exact BW ⟨Lr,bool_eq (by symm;rw [decide_eq_true_eq];exact hin),trivial⟩
theorem SH {Bp:Int}  :A_ prog 191 [int Bp] (int (DT Bp).kind):=by
 refine fo func191 rfl ⟨rfl,rfl⟩ fun M0 w0=> ?_
 refine ac ?_
 refine ao ?_
 refine tp rfl (B1 (k5) rfl rfl) ?_
 refine ao ?_
 refine Tl rfl rfl rfl rfl dR Di (fun b1=> ?_)
 refine sf 0 3 ⟨rfl,rfl,rfl⟩ rfl rfl rfl rfl ?_
 refine ao ?_
 refine a2 ?_
 · exact Lr
theorem Uc {b:Int}  :A_ prog 263 [int b] (int (WW b)):=by
 refine fo func263 rfl ⟨rfl,rfl⟩ fun M0 w0=> ?_
 have hml:mods.length=5:=rfl
 refine a2 ?_
 refine Tr.block (Tr.re 10 rfl (Pr.le_of_eq (show _=agg (mods.flatMap fun p=>[int p.1,int p.2]) from rfl)) (Tr.BF [(0,_),(10,_)] (Nu rfl) (fun k:Nat=>[(11,int ((k:Nat):Int))]) (fun k:Nat=>k≤(mods).length∧(WW b=d_ (mods.drop k) b)) (fun k:Nat=>(mods).length-k) 0 (⟨Nat.zero_le _,rfl⟩) ⟨ke rfl,trivial⟩ ?_))
 rintro k ⟨BN,AL⟩
 refine ac ?_
 refine Tr.seq ?_
 refine Tr.cn rfl ?_ ?_<;>intro h1 q1
 have Ac:k<(mods).length:=AU h1
 obtain ⟨p,Aa⟩:=at_ Ac
 have hL:k<5:=Ac
 have hdr:=drop_cons Aa
 refine ac ?_
 refine Tr.seq (Tr.block (Tr.seq (Tr.Aq (tp rfl (Qj rfl underlying293 dU bW (vl rfl) (vl rfl) (by omega) (by omega) (NQ (f:=fun p:Int×Int=>[int p.1,int p.2]) (fun _=>rfl) Aa)) ?_))))
 refine Tl rfl rfl rfl rfl oy bX (fun b1=> ?_)
 refine sf 0 4 ⟨rfl,rfl,rfl⟩ rfl rfl rfl rfl ?_
 refine ao ?_
 refine ac ?_
 refine co rfl (LR rfl underlying292 CO (vl rfl) (vl rfl) (by omega) (by omega) rfl) (co rfl (Mt rfl CV (vl rfl) rfl) ?_)
 refine an ?_ ?_<;>intro h2 q2
 refine Tr.seq (Tr.A3 (co rfl (LR rfl underlying292 CO (vl rfl) (vl rfl) (by omega) (by omega) rfl) (co rfl (Mt rfl CV (vl rfl) rfl) ?_)))
 refine ac ?_
 refine Es 2 rfl ?_
 refine ac ?_
 · refine int_eq ?_;rw [AL,hdr];exact (if_pos (by omega)).symm
 refine a2 ?_
 exact Fin.AM (k+1) ⟨⟨Ac,(by rw [AL,hdr];exact if_neg (by omega))⟩,by omega⟩ ⟨⟨_,rfl,AK k⟩,ke rfl,ke rfl,trivial⟩
 have A4:k=(mods).length:=by have:=AV h1;omega
 subst A4
 refine a3 ?_
 · refine int_eq ?_;rw [AL,List.drop_length];rfl
def OZ:List Int:=[160,224,256,384,521]
def Bw (Bp bits:Int):Int:=
 if 1 ≤ Bp ∧ Bp ≤ 22 then
  if (DT Bp).way=0 then (if bits=0 then ((DT Bp).FN[0]?).getD 0 else 0)
  else if (DT Bp).way=1 then (if 512≤bits∧bits≤16384 then WW bits else 0)
  else if (DT Bp).way=2 then (if (OZ.any fun x=>bits==x)=true then bits.tdiv 2 else 0)
  else if (DT Bp).way=3 then (if 0≤idx (fun x=>bits==x) (DT Bp).sizes then ((DT Bp).FN[(idx (fun x=>bits==x) (DT Bp).sizes).toNat]?).getD 0 else 0)
  else 0
 else 0
theorem SI {Bp:Int} (h:1≤Bp∧Bp≤22):DT Bp∈GG.tail:=by
 have h1:=IY h
 refine List.mem_of_getElem? (i:=Bp.toNat-1) ?_
 rw [List.getElem?_tail,show Bp.toNat-1+1=Bp.toNat by omega];exact h1
theorem eB:∀r∈GG.tail,(r.way=0→1≤r.FN.length)∧(r.way=3→r.sizes.length≤r.FN.length):=by decide
theorem eC {β:Type} (p:β→Bool) (l:List β):idx p l<l.length:=by
 unfold idx
 cases h:l.findIdx? p with
 |none=>simp;omega
 |some i=>rw [List.findIdx?_eq_some_iff_getElem] at h;obtain ⟨h1,_⟩:=h;simp;omega
theorem SJ {Bp bits:Int}  :A_ prog 221 [agg [int Bp,int bits]] (int (Bw Bp bits)):=by
 refine fo func221 rfl ⟨rfl,rfl⟩ fun M0 w0=> ?_
 refine ac ?_
 refine ao ?_
 refine tp rfl (B1 (k5) rfl rfl) ?_
 refine ao ?_
 refine Tl rfl rfl rfl rfl dR Di (fun b1=> ?_)
 refine sf 0 3 ⟨rfl,rfl,rfl⟩ rfl rfl rfl rfl ?_
 refine ao ?_
 refine ac ?_
 refine Cg 1 3 13 rfl ?_
 refine Tr.cn rfl ?_ ?_<;>intro h1 q1
 refine a2 ?_
 · refine int_eq ?_;unfold Bw;rw [if_neg (by intro hh;simp [hh] at h1)]
 have hin:1≤Bp∧Bp≤22:=by simpa using h1
 obtain ⟨hc0,hc3⟩:=eB _ (SI hin)
 refine a2 ?_
 refine an ?_ ?_<;>intro h2 q2
 refine an ?_ ?_<;>intro h3 q3
 obtain ⟨z,hz⟩:=at_ (l:=(DT Bp).FN) (k:=0) (hc0 (by omega))
 refine ac ?_
 refine co rfl (AA rfl underlying22 CO (vl rfl) (vl rfl) (by omega) (AX (k:=0) hz)) ?_
 refine ac ?_
 refine Es 2 rfl ?_
 refine ac ?_
 · refine int_eq ?_;unfold Bw;rw [if_pos hin,if_pos (by omega),if_pos (by omega),hz];rfl
 refine a3 ?_
 · refine int_eq ?_;unfold Bw;rw [if_pos hin,if_pos (by omega),if_neg (by omega)]
 refine an ?_ ?_<;>intro h4 q4
 · repeat' first|(refine int_eq ?_;unfold Bw;rw [if_pos hin,if_neg (by omega),if_pos (by omega),if_pos (by omega)])|(refine int_eq ?_;unfold Bw;rw [if_pos hin,if_neg (by omega),if_pos (by omega),if_neg (by omega)])|refine co rfl (B1 (Uc) rfl rfl) ?_|refine ac ?_|(refine Tr.cn rfl ?_ ?_<;>intro h q)|(refine Ch.cg rfl rfl rfl ?_ ?_<;>intro h q)
 refine an ?_ ?_<;>intro h7 q7
 refine ac ?_
 refine co rfl (Ae rfl (IX (l:=OZ)) ⟨(Kf rfl),ke rfl,trivial⟩) ?_
 refine ac ?_
 refine B3 1 43 rfl ?_
 refine Tr.cn rfl ?_ ?_<;>intro h8 q8
 have hb:bits=160∨bits=224∨bits=256∨bits=384∨bits=521:=by simpa [OZ] using h8
 refine ac ?_
 refine co rfl (Mh rfl (vl rfl) (vl rfl) (by omega)) ?_
 refine a2 ?_
 · refine int_eq ?_;unfold Bw;rw [if_pos hin,if_neg (by omega),if_neg (by omega),if_pos (by omega),if_pos (by assumption)];rcases hb with h|h|h|h|h<;>rw [h]<;>rfl
 refine a3 ?_
 · refine int_eq ?_;unfold Bw;rw [if_pos hin,if_neg (by omega),if_neg (by omega),if_pos (by omega),if_neg (Ce (by assumption))]
 refine an ?_ ?_<;>intro h9 q9
 refine ac ?_
 refine co rfl (C8 (NO) rfl rfl rfl) ?_
 refine ac ?_
 refine B3 3 5 rfl ?_
 refine an ?_ ?_<;>intro h10 PZ
 have hlt:=eC (fun x=>bits==x) (DT Bp).sizes
 obtain ⟨z,hz⟩:=at_ (l:=(DT Bp).FN) (k:=(idx (fun x=>bits==x) (DT Bp).sizes).toNat) (by have:=hc3 (by omega);omega)
 refine ac ?_
 refine co rfl (AA rfl underlying22 CO (vl rfl) (vl rfl) (by omega) (DC hz)) ?_
 refine a2 ?_
 · refine int_eq ?_;unfold Bw;rw [if_pos hin,if_neg (by omega),if_neg (by omega),if_neg (by omega),if_pos (by omega),if_pos (by assumption),hz];rfl
 refine a3 ?_
 · refine int_eq ?_;unfold Bw;rw [if_pos hin,if_neg (by omega),if_neg (by omega),if_neg (by omega),if_pos (by omega),if_neg (by omega)]
 refine a2 ?_
 refine Es 2 rfl ?_
 refine ac ?_
 · refine int_eq ?_;unfold Bw;rw [if_pos hin,if_neg (by omega),if_neg (by omega),if_neg (by omega),if_neg (by omega)]
theorem Pa {Bp bits:Int}  :A_ prog 185 [agg [int Bp,int bits]] (bool (decide (Bw Bp bits>0))):=by
 refine fo func185 rfl ⟨rfl,rfl⟩ fun M0 w0=> ?_
 refine a2 ?_
 refine co rfl (B1 (SJ) rfl rfl) ?_
 refine a2 ?_
 · exact Lr
def IZ (b:Int) (l m:List Int):Int:=if 0≤idx (fun x=>b==x) l then (m[(idx (fun x=>b==x) l).toNat]?).getD 0 else 0
theorem Ud {b:Int} {l m:List Int} {k:Nat} {x z:Int} (hx:l[k]? =some x) (he:x=b) (hz:m[k]? =some z) (h:∀j y,j<k→l[j]? =some y→(b==y)=false):z=IZ b l m:=by
 have:=Dy (p:=fun x=>b==x) hx (by simp [he]) h
 unfold IZ;rw [←this,if_pos (by omega),Int.toNat_natCast,hz];rfl
theorem SK {b:Int} {l m:List Int} (h:∀j y,j<l.length→l[j]? =some y→(b==y)=false):0=IZ b l m:=by
 have:=Eh (p:=fun x=>b==x) h
 unfold IZ;rw [←this,if_neg (by omega)]
def D7 (Bp:Int):Int:=if Bp=1 then 18 else if Bp=2 then 60 else if Bp=3∨Bp=8∨Bp=21 then 128 else if Bp=4 then 192 else if Bp=18∨Bp=22 then 256 else if Bp=19 then 64 else if Bp=20 then 80 else 0
def Ht (b:Int):Int:=if b<512∨b>16384 then 0 else if b<1024 then 56 else if b<2048 then 80 else if b<3072 then 112 else if b<7680 then 128 else if b<15360 then 192 else 256
theorem WX (b:Int):Ht b=if 512≤b∧b≤16384 then WW b else 0:=by
 have h1:WW b=if b<1024 then 56 else if b<2048 then 80 else if b<3072 then 112 else if b<7680 then 128 else if b<15360 then 192 else 256:=rfl
 rw [h1];unfold Ht
 by_cases h:512≤b∧b≤16384
 · rw [if_pos h,if_neg (by omega)]
 · rw [if_neg h,if_pos (by omega)]
theorem HX {b:Int} {l m:List Int} (hl:l.length≤m.length):A_ prog 256 [int b,ints l,ints m] (int (IZ b l m)):=by
 refine fo func256 rfl ⟨rfl,rfl⟩ fun M0 w0=>(Tr.Cr 1 rfl fun Fh=> ?_)
 refine a2 ?_
 refine Tr.block (Tr.BF [(0,_),(1,_),(2,_)] (Js rfl) (fun k:Nat=>[(7,int ((k:Nat):Int))]) (fun k:Nat=>k≤(l).length∧(∀j y,j<k→l[j]? =some y→(b==y)=false)) (fun k:Nat=>(l).length-k) 0 (⟨Nat.zero_le _,fun j y hj=>absurd hj (by omega)⟩) ⟨ke rfl,trivial⟩ ?_)
 rintro k ⟨BN,AL⟩
 refine an ?_ ?_<;>intro h1 q1
 have Ac:k<(l).length:=AU h1
 obtain ⟨x,Aa⟩:=at_ Ac
 obtain ⟨z,hz⟩:=at_ (l:=m) (k:=k) (by omega)
 · repeat' first|exact int_eq (Ud Aa (by assumption) hz AL)|(exact Fin.AM (k+1) ⟨⟨Ac,DK (p:=fun x=>b==x) Aa (by simp;omega) AL⟩,by omega⟩ ⟨⟨_,rfl,AK k⟩,ke rfl,ke rfl,ke rfl,trivial⟩)|refine co rfl (AA rfl underlying22 CO (vl rfl) (vl rfl) (by omega) (by exact AX (by assumption))) ?_|refine ac ?_|(refine Tr.cn rfl ?_ ?_<;>intro h q)
 have A4:k=(l).length:=by have:=AV h1;omega
 subst A4
 refine a3 ?_
 · exact int_eq (SK AL)
theorem WY {Bp:Int}  :A_ prog 257 [int Bp] (int (D7 Bp)):=by
 refine fo func257 rfl ⟨rfl,rfl⟩ fun M0 w0=> ?_
 refine a2 ?_
 refine an ?_ ?_<;>intro h1 q1
 refine a2 ?_
 · refine int_eq ?_;unfold D7;(repeat (rw [if_pos (by omega)]))
 refine an ?_ ?_<;>intro h2 q2
 refine a2 ?_
 · refine int_eq ?_;unfold D7;(repeat (first|rw [if_pos (by omega)]|rw [if_neg (by omega)]))
 refine an ?_ ?_<;>intro h3 q3
 refine ac ?_
 refine Tr.cond rfl (fun _=> ?_) (fun h=>nomatch h3.symm.trans h)
 refine a2 ?_
 · refine int_eq ?_;unfold D7;(repeat (first|rw [if_pos (by omega)]|rw [if_neg (by omega)]))
 refine an ?_ ?_<;>intro h4 q4
 refine ac ?_
 refine Tr.cond rfl (fun _=> ?_) (fun h=>nomatch h4.symm.trans h)
 refine a2 ?_
 · refine int_eq ?_;unfold D7;(repeat (first|rw [if_pos (by omega)]|rw [if_neg (by omega)]))
 refine an ?_ ?_<;>intro h5 q5
 refine a2 ?_
 · refine int_eq ?_;unfold D7;(repeat (first|rw [if_pos (by omega)]|rw [if_neg (by omega)]))
 refine ac ?_
 refine B3 3 12 rfl ?_
 refine Tr.cn rfl ?_ ?_<;>intro h6 q6
 refine a2 ?_
 · refine int_eq ?_;unfold D7;(repeat (first|rw [if_pos (by omega)]|rw [if_neg (by omega)]))
 refine an ?_ ?_<;>intro h7 q7
 refine ac ?_
 refine Tr.cond rfl (fun _=> ?_) (fun h=>nomatch h7.symm.trans h)
 refine a2 ?_
 · refine int_eq ?_;unfold D7;(repeat (first|rw [if_pos (by omega)]|rw [if_neg (by omega)]))
 · repeat' first|(refine int_eq ?_;unfold D7;(repeat (first|rw [if_pos (by omega)]|rw [if_neg (by omega)])))|(refine int_eq ?_;unfold D7;(repeat (rw [if_neg (by omega)])))|refine ac ?_|(refine Tr.cn rfl ?_ ?_<;>intro h q)
theorem HY {b:Int}  :A_ prog 255 [int b] (int (Ht b)):=by
 refine fo func255 rfl ⟨rfl,rfl⟩ fun M0 w0=> ?_
 refine ac ?_
 refine ac ?_
 refine Ch.cs 6 rfl ?_ ?_<;>intro h1 q1
 refine ac ?_
 refine ac ?_
 refine ac ?_
 · refine int_eq ?_;unfold Ht;(repeat (rw [if_pos (by omega)]))
 refine ac ?_
 refine Tr.cn rfl ?_ ?_<;>intro h2 q2
 refine ac ?_
 refine ac ?_
 · refine int_eq ?_;unfold Ht;(repeat (rw [if_pos (by omega)]))
 refine ac ?_
 refine Tr.cn rfl ?_ ?_<;>intro h3 q3
 refine ac ?_
 refine ac ?_
 · refine int_eq ?_;unfold Ht;(repeat (first|rw [if_pos (by omega)]|rw [if_neg (by omega)]))
 refine ac ?_
 refine B3 0 13 rfl ?_
 refine Tr.cn rfl ?_ ?_<;>intro h4 q4
 refine ac ?_
 refine ac ?_
 · refine int_eq ?_;unfold Ht;(repeat (first|rw [if_pos (by omega)]|rw [if_neg (by omega)]))
 refine ac ?_
 refine Tr.cn rfl ?_ ?_<;>intro h5 q5
 refine ac ?_
 refine ac ?_
 · refine int_eq ?_;unfold Ht;(repeat (first|rw [if_pos (by omega)]|rw [if_neg (by omega)]))
 refine ac ?_
 refine Tr.cn rfl ?_ ?_<;>intro h6 q6
 refine ac ?_
 refine ac ?_
 · refine int_eq ?_;unfold Ht;(repeat (first|rw [if_pos (by omega)]|rw [if_neg (by omega)]))
 refine ac ?_
 refine Tr.cn rfl ?_ ?_<;>intro h7 q7
 refine ac ?_
 refine ac ?_
 · refine int_eq ?_;unfold Ht;(repeat (first|rw [if_pos (by omega)]|rw [if_neg (by omega)]))
 refine ac ?_
 refine ac ?_
 refine ac ?_
 · refine int_eq ?_;unfold Ht;(repeat (rw [if_neg (by omega)]))
theorem ZX (b c:Int):IZ b [0] [c]=if b=0 then c else 0:=by
 unfold IZ idx
 by_cases h:b=0
 · subst h;rfl
 ·
  have:List.findIdx? (fun x=>b==x) [0]=none:=by simp [h]
  rw [this,if_neg h];rfl
theorem F1 {Bp b:Int} (h:Bp=5∨Bp=6∨Bp=10∨Bp=11):Ht b=Bw Bp b:=by
 rw [WX]
 rcases h with rfl|rfl|rfl|rfl<;>rfl
theorem N3 {Bp b:Int} (h:¬(Bp=5∨Bp=6∨Bp=7∨Bp=9∨Bp=10∨Bp=11∨Bp=12∨Bp=13∨Bp=14∨Bp=15∨Bp=16∨Bp=17)):IZ b [0] [D7 Bp]=Bw Bp b:=by
 rw [ZX]
 by_cases hin:1≤Bp∧Bp≤22
 ·
  have ha:Bp=1∨Bp=2∨Bp=3∨Bp=4∨Bp=8∨Bp=18∨Bp=19∨Bp=20∨Bp=21∨Bp=22:=by omega
  rcases ha with rfl|rfl|rfl|rfl|rfl|rfl|rfl|rfl|rfl|rfl<;>rfl
 ·
  have h1:D7 Bp=0:=by unfold D7;(repeat (first|rw [if_pos (by omega)]|rw [if_neg (by omega)]))
  unfold Bw
  rw [h1,if_neg hin];split<;>rfl
theorem F2 {Bp b:Int} (h:Bp=7∨Bp=12):Bw Bp b=if (OZ.any fun x=>b==x)=true then b.tdiv 2 else 0:=by
 rcases h with rfl|rfl<;>rfl
theorem Qw {Bp bits:Int}  :A_ prog 203 [agg [int Bp,int bits]] (int (Bw Bp bits)):=by
 refine fo func203 rfl ⟨rfl,rfl⟩ fun M0 w0=> ?_
 iterate 4 refine ac ?_
 refine Tr.cn rfl ?_ ?_<;>intro h1 q1
 refine ac ?_
 refine Tr.cond rfl (fun _=> ?_) (fun h=>nomatch h1.symm.trans h)
 refine ac ?_
 refine co rfl (B1 (HY) rfl rfl) ?_
 refine a2 ?_
 · refine int_eq ?_;exact F1 (by omega)
 refine an ?_ ?_<;>intro h2 q2
 refine ac ?_
 refine Tr.cond rfl (fun _=> ?_) (fun h=>nomatch h2.symm.trans h)
 refine ac ?_
 refine co rfl (B1 (HY) rfl rfl) ?_
 refine ac ?_
 refine Es 2 rfl ?_
 refine ac ?_
 · refine int_eq ?_;exact F1 (by omega)
 refine an ?_ ?_<;>intro h3 q3
 refine ac ?_
 refine Tr.cond rfl (fun _=> ?_) (fun h=>nomatch h3.symm.trans h)
 refine ac ?_
 refine co rfl (B1 (HY) rfl rfl) ?_
 refine ac ?_
 refine Es 2 rfl ?_
 refine ac ?_
 · refine int_eq ?_;exact F1 (by omega)
 refine ac ?_
 refine Fk 1 3 7 8 rfl ?_
 refine Tr.cn rfl ?_ ?_<;>intro h4 q4
 refine ac ?_
 refine co rfl (B1 (HY) rfl rfl) ?_
 refine a2 ?_
 · refine int_eq ?_;exact F1 (by omega)
 refine an ?_ ?_<;>intro h5 q5
 refine ac ?_
 refine Tr.cond rfl (fun _=> ?_) (fun h=>nomatch h5.symm.trans h)
 · repeat' first|(refine int_eq ?_;rw [F2 (by omega)];have hb:bits=160∨bits=224∨bits=256∨bits=384∨bits=521:=(by omega);rcases hb with rfl|rfl|rfl|rfl|rfl<;>rfl)|(refine int_eq ?_;rw [F2 (by omega),if_neg (by simp [OZ];omega)])|refine co rfl (Mh rfl (vl rfl) (vl rfl) (by omega)) ?_|refine ac ?_|(refine Tr.cn rfl ?_ ?_<;>intro h q)|(refine Ch.cg rfl rfl rfl ?_ ?_<;>intro h q)
 refine an ?_ ?_<;>intro h11 Qx
 · repeat' first|(refine int_eq ?_;rw [F2 (by omega)];have hb:bits=160∨bits=224∨bits=256∨bits=384∨bits=521:=(by omega);rcases hb with rfl|rfl|rfl|rfl|rfl<;>rfl)|(refine int_eq ?_;rw [F2 (by omega),if_neg (by simp [OZ];omega)])|refine co rfl (Mh rfl (vl rfl) (vl rfl) (by omega)) ?_|refine ac ?_|(refine Tr.cn rfl ?_ ?_<;>intro h q)|(refine Ch.cg rfl rfl rfl ?_ ?_<;>intro h q)
 refine an ?_ ?_<;>intro NR YF
 refine ac ?_
 refine co rfl (Ae rfl (HX (l:=[44,65,87]) (m:=[128,192,256]) (by simp)) ⟨ke rfl,(Kf rfl),(Kf rfl),trivial⟩) ?_
 refine ac ?_
 refine Es 2 rfl ?_
 refine ac ?_
 · refine int_eq ?_;have ha:Bp=9:=(by omega);rcases ha with rfl<;>rfl
 refine an ?_ ?_<;>intro NS bz
 refine ac ?_
 refine co rfl (Ae rfl (HX (l:=[512,768,1024]) (m:=[128,192,256]) (by simp)) ⟨ke rfl,(Kf rfl),(Kf rfl),trivial⟩) ?_
 refine ac ?_
 refine Es 2 rfl ?_
 refine ac ?_
 · refine int_eq ?_;have ha:Bp=13:=(by omega);rcases ha with rfl<;>rfl
 refine ac ?_
 refine Fk 1 3 7 50 rfl ?_
 refine Tr.cn rfl ?_ ?_<;>intro Rp iD
 refine ac ?_
 refine co rfl (Ae rfl (HX (l:=[40,128]) (m:=[40,60]) (by simp)) ⟨ke rfl,(Kf rfl),(Kf rfl),trivial⟩) ?_
 refine a2 ?_
 · refine int_eq ?_;have ha:Bp=14:=(by omega);rcases ha with rfl<;>rfl
 refine an ?_ ?_<;>intro NT iE
 refine ac ?_
 refine co rfl (Ae rfl (HX (l:=[112,168]) (m:=[80,112]) (by simp)) ⟨ke rfl,(Kf rfl),(Kf rfl),trivial⟩) ?_
 refine a2 ?_
 · refine int_eq ?_;have ha:Bp=15:=(by omega);rcases ha with rfl<;>rfl
 refine an ?_ ?_<;>intro Rq k6
 refine ac ?_
 refine Tr.cond rfl (fun _=> ?_) (fun h=>nomatch Rq.symm.trans h)
 refine ac ?_
 refine co rfl (Ae rfl (HX (l:=[128,256]) (m:=[128,256]) (by simp)) ⟨ke rfl,(Kf rfl),(Kf rfl),trivial⟩) ?_
 refine a2 ?_
 · refine int_eq ?_;have ha:Bp=16∨Bp=17:=(by omega);rcases ha with rfl|rfl<;>rfl
 · repeat' first|(refine int_eq ?_;have ha:Bp=16∨Bp=17:=(by omega);rcases ha with rfl|rfl<;>rfl)|(refine int_eq ?_;exact N3 (by omega))|refine co rfl (Ae rfl (HX (l:=[128,256]) (m:=[128,256]) (by simp)) ⟨ke rfl,(Kf rfl),(Kf rfl),trivial⟩) ?_|refine co rfl (B1 (WY) rfl rfl) (co rfl (AG (xs:=[.tmp 73]) (rows:=[[_]]) rfl rfl underlying22 CO z3 rfl (by decide) ⟨⟨(by exact rfl),(Vo rfl)⟩,trivial⟩ (by decide)) ?_)|refine co rfl (Ae rfl (HX (l:=[0]) (m:=[D7 Bp]) (by simp)) ⟨ke rfl,(Kf rfl),(Kf rfl),trivial⟩) ?_|refine ac ?_|(refine Tr.cn rfl ?_ ?_<;>intro h q)
theorem KF {Bp bits:Int}  :A_ prog 187 [agg [int Bp,int bits]] (bool (decide (Bw Bp bits>0))):=by
 refine fo func187 rfl ⟨rfl,rfl⟩ fun M0 w0=> ?_
 refine a2 ?_
 refine co rfl (B1 (Qw) rfl rfl) ?_
 refine a2 ?_
 · exact Lr
def eD:List (List UInt8×Int):=GG.map fun r=>(r.name,r.kind)
theorem ZY {Bp:Int} (h:1≤Bp∧Bp≤22):eD[Bp.toNat]? =some ((DT Bp).name,(DT Bp).kind):=by
 unfold eD;rw [List.getElem?_map,IY h];rfl
theorem ZZ   :A_ prog 181 [] (slice 2 (eD.map fun r=>[str r.1,int r.2])):=by
 refine fo func181 rfl ⟨rfl,rfl⟩ fun M0 w0=> ?_
 refine a2 ?_
 refine Es 0 rfl ?_
 refine ac ?_
 · exact Au _ _
theorem L6 {Bp:Int}  :A_ prog 127 [int Bp] (int (DT Bp).kind):=by
 refine fo func127 rfl ⟨rfl,rfl⟩ fun M0 w0=> ?_
 refine ac ?_
 refine ag ?_ ?_<;>intro h1 q1
 refine a3 ?_
 · refine int_eq ?_;unfold DT;rw [if_neg (by omega)];rfl
 refine an ?_ ?_<;>intro h2 q2
 refine a2 ?_
 · refine int_eq ?_;unfold DT;rw [if_neg (by omega)];rfl
 have hin:1≤Bp∧Bp≤22:=by omega
 refine ac ?_
 refine Tr.seq (Tr.A3 (co rfl (Qv (ZZ) rfl) (cm rfl (co rfl (AA rfl underlying210 bR (vl rfl) (vl rfl) (by omega) (DC (f:=fun r:List UInt8×Int=>[str r.1,int r.2]) (ZY hin))) ?_))))
 refine a2 ?_
 · exact Lr
theorem Ia {Bp bits:Int}  :A_ prog 180 [agg [int Bp,int bits]] (bool (decide (Bw Bp bits>0)&&(DT Bp).kind==2)):=by
 refine fo func180 rfl ⟨rfl,rfl⟩ fun M0 w0=> ?_
 refine ac ?_
 refine ac ?_
 refine co rfl (B1 (KF) rfl rfl) (cm rfl ?_)
 refine Ch.cs 5 rfl ?_ ?_<;>intro h1 q1
 refine ac ?_
 refine cy h1 rfl (B1 (L6) rfl rfl) ?_
 refine ac ?_
 refine ac ?_
 · refine bool_eq ?_;simp_all
 refine ac ?_
 refine ac ?_
 · refine bool_eq ?_;simp_all;omega
end Go.Proofs.YtppeeogffbpcbaaGreat
namespace Cp
open Go Go.RowKit
theorem Iw {P:Program} {E:Env} {I:Ca} {o:Oper} {t e:TypeId} {y:Operand} {sz bytes:Nat} {zs:List Value} {rows:List (List Pr)} (ho:o.op= .call { callee:= .builtin .append,args:= #[.const (.slice none 0 0),y],argTypes:= #[t,t] })
  (ht:P.underlying t=some (.slice e)) (hz:Ap P e=some sz) (hby:CI P e=some bytes) (C6:Bh P e=some zs) (hzl:zs.length=sz) (hsz:0<sz) (hy:VL E y (slice sz rows)) (EB:rows.length≤maxLen) (hfit:rows.length*bytes≤140737488355328):Ad P I o E (slice sz rows):=
 Ad.val fun M w a he hI=>by
  have h0:=(BU.begin (I.bd _ _ hI)).Ms (r:=Bm) rfl trivial
  obtain ⟨v',w',M',h1,h2,h3,h4⟩:=Mp (ty:=o.type) (j:=0) (v:= .slice none 0 0) (rows:=[]) ht hz hby C6 hzl hsz h0 rfl (.inr ⟨rfl,rfl⟩) (AB sz M w _ rfl) (hy.ev he (by simp [ho,Op.operands,Call.operands])) (by simpa using EB) (by simpa using hfit)
  have h5:a.eval (.const (.slice none 0 0))= .slice none 0 0:=rfl
  exact ⟨v',w',by simp [execOp,ho,resolve,invoke,builtin,h1,h5],(slice sz rows).st _ _ _ _ _ (Ext.less h4.m) (by simpa using h2),h4.below⟩
theorem WZ {P:Program} {E:Env} {I:Ca} {o:Oper} {t u:TypeId} {x y:Operand} {a b:List UInt8} (ho:o.op= .binOp .add t x y u) (hx:VL E x (str a)) (hy:VL E y (str b)) (hl:a.length+b.length≤maxLen):Ad P I o E (str (a++b)):=
 Ad.same fun M w ac he _=>by
  have h1:ac.eval x=_:=hx.ev he (by simp [ho,Op.operands])
  have h2:ac.eval y=_:=hy.ev he (by simp [ho,Op.operands])
  have hs:¬((9223372036854775807:Int)<((ByteArray.mk a.toArray).size:Int)+((ByteArray.mk b.toArray).size:Int)):=by rw [IU,IU];unfold maxLen at hl;omega
  refine ⟨_,by simp [execOp,ho,h1,h2,eqGuard,binOp,Op.stringOp,hs];rfl,?_⟩
  show Value.string _=Value.string _
  congr 1
theorem Wa {sz:Nat} {rows:List (List Pr)} {M:Av} {w:World} {v:Value} (h:(full sz rows).h M w v):Cu v=none:=by
 obtain ⟨_,a,rfl⟩:=h
 cases a with
 |none=>rfl
 |some a=>show (if _ then _ else _)=_;rw [if_neg (by omega)]
theorem Iy {P:Program} {E:Env} {I:Ca} {o:Oper} {t e:TypeId} {x y:Operand} {sz bytes:Nat} {zs:List Value} {Tn rows:List (List Pr)} (ho:o.op= .call { callee:= .builtin .append,args:= #[x,y],argTypes:= #[t,t] })
  (ht:P.underlying t=some (.slice e)) (hz:Ap P e=some sz) (hby:CI P e=some bytes) (C6:Bh P e=some zs) (hzl:zs.length=sz) (hsz:0<sz) (hx:VL E x (full sz Tn)) (hy:VL E y (slice sz rows)) (EB:Tn.length+rows.length≤maxLen) (hfit:(Tn.length+rows.length)*bytes≤140737488355328):Ad P I o E (slice sz (Tn++rows)):=
 Ad.val fun M w a he hI=>by
  have h0:=(BU.begin (I.bd _ _ hI)).Ms (r:=Bm) rfl trivial
  have hv:=hx.ev he (by simp [ho,Op.operands,Call.operands])
  obtain ⟨v',w',M',h1,h2,h3,h4⟩:=Mp (ty:=o.type) (j:=0) ht hz hby C6 hzl hsz h0 rfl (.inr ⟨rfl,Wa hv⟩) hv.1 (hy.ev he (by simp [ho,Op.operands,Call.operands])) EB hfit
  exact ⟨v',w',by simp [execOp,ho,resolve,invoke,builtin,h1],(slice sz _).st _ _ _ _ _ (Ext.less h4.m) h2,h4.below⟩
theorem TO.JE {P:Program} {n:Fm} {E:Env} {M0:Av} {w0:World} {S:Nat→Prop} {rs:List BO} {ops:Array Oper} {r:List Oper} {Q:Exit→Act→World→Prop} (i:Nat) {T:TypeId} {b:Nat} (hi:rs[i]? =some (EZ T b)) (k:∀s,TO P n ops r E (Hp M0 w0 S (rs.set i (M4 T b s))) Q):TO P n ops r E (Hp M0 w0 S rs) Q:=by
 rintro m hl a w ⟨M,h1,h2,h3,h4⟩
 have h4:BU M0 w0 S rs M w:=h4
 obtain ⟨x,hx,hh⟩:=(h4.hold _ (List.mem_of_getElem? hi)).1
 exact k x m hl a w ⟨M,h1,h2,h3,h4.Db hi rfl rfl hh⟩
theorem Ad.R3 {P:Program} {E:Env} {I:Ca} {o:Oper} {p:Pr} (s:Nat) {α:Type} {f:α→Pr} (hs:E.lookup s=some (Cp.ex f)) (hm:s∈looks o) (h:∀x,Ad P I o ((s,f x)::E) p):Ad P I o E p:=by
 intro M w a he hI
 obtain ⟨x,hx⟩:=he s _ hm hs
 refine h x M w a (fun t q ht hq=> ?_) hI
 simp only [List.lookup] at hq
 by_cases hts:t=s
 · subst hts;simp at hq;subst hq;exact hx
 · rw [show (t==s)=false by simpa using hts] at hq;exact he t q ht hq
theorem Ad.iF {P:Program} {E:Env} {I:Ca} {o:Oper} {p q:Pr} {φ:Prop} (s:Nat) (hs:E.lookup s=some (Cp.fact φ q)) (hm:s∈looks o) (h:φ→Ad P I o ((s,q)::E) p):Ad P I o E p:=by
 intro M w a he hI
 obtain ⟨hφ,hx⟩:=he s _ hm hs
 refine h hφ M w a (fun t r ht hr=> ?_) hI
 simp only [List.lookup] at hr
 by_cases hts:t=s
 · subst hts;simp at hr;subst hr;exact hx
 · rw [show (t==s)=false by simpa using hts] at hr;exact he t r ht hr
end Cp
namespace Cp
open Go Go.RowKit Go.Great Go.ChangeShapes Go.WideShapes
def Oa {H:Type} (P:Program) (t:TypeId) (d:DataW H):Prop:=∀n∈d.weights P t,n≤reachBytes
theorem Ib {H:Type} {P:Program} {e:TypeId}:∀{l:List (DataW H)} {d:DataW H} {n:Nat},d∈l→n∈d.weights P e→n∈DataW.weightsAll P e l
 |[],_,_,h,_=>nomatch h
 |a::l,d,n,h,hn=>by
  unfold DataW.weightsAll
  rcases List.mem_cons.1 h with rfl|h
  · exact List.mem_append_left _ hn
  · exact List.mem_append_right _ (Ib h hn)
theorem Fp {H:Type} {P:Program}:∀{ts:List TypeId} {l:List (DataW H)} {i:Nat} {t:TypeId} {d:DataW H} {n:Nat},ts[i]? =some t→l[i]? =some d→n∈d.weights P t→n∈DataW.weightsEach P ts l
 |t::ts,a::l,0,_,_,n,h1,h2,hn=>by
  simp at h1 h2;subst h1;subst h2
  unfold DataW.weightsEach;exact List.mem_append_left _ hn
 |t::ts,a::l,i+1,_,_,n,h1,h2,hn=>by
  simp at h1 h2
  unfold DataW.weightsEach;exact List.mem_append_right _ (Fp h1 h2 hn)
 |[],_,_,_,_,_,h1,_,_=>by simp at h1
 |_::_,[],_,_,_,_,_,h2,_=>by simp at h2
def Em (P:Program) (t:TypeId) {α:Type} (ok:α→Prop) (f:α→List Pr):Prop:=
 ∀(H:Type) (enc:TypeId×Value→H) (w:World) (fuel:Nat) (cs:List Value) (x:DataW H×List MemPlace),DataW.trod enc P w 0 (fun _=>true) true fuel t cs=some x→Oa P t x.1→∃a,ok a∧HL YU w (f a) cs∧∀c∈cs,c.oneCell'=true
theorem Hq.w {P:Program} {t:TypeId} {α:Type} {ok:α→Prop} {f:α→List Pr} (h:Hq P t ok f):Em P t ok f:=fun H enc w fuel cs x hx _=>h H enc w fuel cs x hx
theorem Em.map {P:Program} {t:TypeId} {α β:Type} {ok:α→Prop} {f:α→List Pr} {ok':β→Prop} {f':β→List Pr} (h:Em P t ok f) (g:α→β) (h1:∀a,ok a→ok' (g a)) (h2:∀a,f' (g a)=f a):Em P t ok' f':=by
 intro H enc w fuel cs x hx hl
 obtain ⟨a,h3,h4,h5⟩:=h H enc w fuel cs x hx hl
 exact ⟨g a,h1 a h3,by rw [h2];exact h4,h5⟩
theorem LZ {H:Type} {enc:TypeId×Value→H} {P:Program} {w:World} {e:TypeId} {α:Type} {ok:α→Prop} {f:α→List Pr} (he:Em P e ok f) {sz:Nat} (hc:P.cellsOf e=sz) {a:Addr} {m:Nat}:
  ∀(len:Nat),(∀i,i<len→∃y,(w.cells? 0 (a.add (i*sz)) sz).bind (DataW.trod enc P w 0 (fun _=>true) true m e)=some y∧Oa P e y.1)→
   ∃l:List α,l.length=len∧(∀z∈l,ok z)∧∀(i:Nat) z,l[i]? =some z→(f z).length=sz∧Row YU w a (i*sz) (f z)
 |0,_=>⟨[],rfl,by simp,by simp⟩
 |len+1,h=>by
  obtain ⟨l,h1,h2,h3⟩:=LZ he hc len (fun i hi=>h i (by omega))
  obtain ⟨y,hy,hly⟩:=h len (by omega)
  obtain ⟨cs,hcs,hy⟩:=Option.bind_eq_some_iff.1 hy
  obtain ⟨z,hz,hl,h1c⟩:=he H enc w m cs y hy hly
  obtain ⟨_,hlen,Mz⟩:=World.cells?_some hcs
  refine ⟨l++[z],by simp [h1],?_,fun i u hu=> ?_⟩
  ·
   intro u hu
   rcases List.mem_append.1 hu with hu|hu
   · exact h2 u hu
   · rw [List.mem_singleton.1 hu];exact hz
  ·
   rcases Nat.lt_trichotomy i len with hi|hi|hi
   ·
    rw [List.getElem?_append_left (by omega)] at hu
    exact h3 i u hu
   ·
    subst hi
    rw [List.getElem?_append_right (by omega),h1] at hu
    simp at hu;subst hu
    have hfl:(f z).length=sz:=by rw [hl.len,hlen]
    refine ⟨hfl,fun j p hp=> ?_⟩
    obtain ⟨v,hv,QN⟩:=hl.nth j p hp
    have hj:j<sz:=by
     rcases Nat.lt_or_ge j (f z).length with h'|h'
     · omega
     · rw [List.getElem?_eq_none h'] at hp;cases hp
    refine ⟨v,?_,fun hf=>hf,h1c v (List.mem_of_getElem? hv),QN⟩
    rw [←hv,←Mz j hj]
    rw [add_add]
   · rw [List.getElem?_eq_none (by simp [h1];omega)] at hu;cases hu
theorem KG {P:Program} {t e:TypeId} {α:Type} {ok:α→Prop} {f:α→List Pr} {sz b:Nat} (ht:P.underlying t=some (.slice e)) (hc:P.cellsOf e=sz) (hb:P.bytesOf e=b) (he:Em P e ok f):
  Em P t (fun l:List α=>(∀z∈l,ok z)∧l.length≤maxLen∧l.length*b≤reachBytes) (fun l=>[slice sz (l.map f)]):=by
 intro H enc w fuel cs x hx Pb
 rcases DataW.trod_slice ht hx with ⟨rfl,_⟩|⟨a,len,cap,elems,rest,n,rfl,rfl,rfl,_,hl,hm,hel,Mz,_⟩
 · exact ⟨[],⟨by simp,by simp,by simp⟩,⟨⟨none,0,rfl,by simp,by simp,fun _=>rfl,by simp⟩,trivial⟩,by simp [Value.oneCell']⟩
 ·
  have hw:∀k,k∈(DataW.slice (elems.map (·.1)) (rest.map (·.1))).weights P t↔k=((elems.map (·.1)).length+(rest.map (·.1)).length)*P.bytesOf e∨k∈DataW.weightsAll P e (elems.map (·.1))++DataW.weightsAll P e (rest.map (·.1)):=by
   intro k
   unfold DataW.weights
   rw [ht];exact List.mem_cons
  have h0:=Pb _ ((hw _).2 (.inl rfl))
  simp only [List.length_map] at h0
  obtain ⟨l,h1,h2,h3⟩:=LZ (H:=H) (enc:=enc) (w:=w) (a:=a) (m:=n) he hc len (fun i hi=>by
   have:=Mz i hi
   rw [hc] at this
   rw [this,List.getElem?_eq_getElem (by omega)]
   exact ⟨_,rfl,fun k hk=>Pb k ((hw k).2 (.inr (List.mem_append_left _ (Ib (List.mem_map.2 ⟨_,List.getElem_mem _,rfl⟩) hk))))⟩)
  refine ⟨l,⟨h2,by omega,?_⟩,⟨⟨some a,cap,by simp [h1],by simp;omega,hm,by simp,fun i row hr=> ?_⟩,trivial⟩,by simp [Value.oneCell']⟩
  ·
   refine Nat.le_trans (Nat.mul_le_mul_right b (?_:l.length≤elems.length+rest.length)) (hb ▸ h0)
   omega
  ·
   rw [List.getElem?_map] at hr
   cases hz:l[i]? with
   |none=>rw [hz] at hr;cases hr
   |some z=>
    rw [hz] at hr;simp at hr;subst hr
    obtain ⟨h4,h5⟩:=h3 i z hz
    exact ⟨h4,a,rfl,h5⟩
def L7 (P:Program) (o:Nat) (fs:List Field) {α:Type} (ok:α→Prop) (f:α→List Pr):Prop:=
 ∀(H:Type) (enc:TypeId×Value→H) (w:World) (n:Nat) (cs:List Value),(∀fl∈fs,∃y,DataW.trod (H:=H) enc P w 0 (fun _=>true) true n fl.type ((cs.drop fl.offset).take (P.cellsOf fl.type))=some y∧Oa P fl.type y.1)→
  cs.length=o+(fs.map fun fl=>P.cellsOf fl.type).sum→∃a,ok a∧HL YU w (f a) (cs.drop o)∧∀c∈cs.drop o,c.oneCell'=true
theorem ED (P:Program) (o:Nat):L7 P o [] (fun _:Unit=>True) (fun _=>[]):=by
 intro H enc w n cs _ hl
 have:cs.drop o=[]:=List.drop_eq_nil_of_le (by simp at hl;omega)
 rw [this]
 exact ⟨(),trivial,trivial,by simp⟩
theorem Ax {P:Program} {o c:Nat} {fl:Field} {fs:List Field} {α β:Type} {ok:α→Prop} {f:α→List Pr} {ok':β→Prop} {f':β→List Pr} (ho:fl.offset=o) (hc:P.cellsOf fl.type=c)
  (h:Em P fl.type ok f) (k:L7 P (o+c) fs ok' f'):L7 P o (fl::fs) (fun z:α×β=>ok z.1∧ok' z.2) (fun z=>f z.1++f' z.2):=by
 intro H enc w n cs hy hl
 obtain ⟨y,h0,hly⟩:=hy fl (List.mem_cons_self ..)
 rw [ho,hc] at h0
 obtain ⟨a,h1,h2,h3⟩:=h H enc w n _ y h0 hly
 obtain ⟨b,h4,h5,h6⟩:=k H enc w n cs (fun g hg=>hy g (List.mem_cons_of_mem _ hg)) (by rw [hl];simp [hc];omega)
 have e:cs.drop o=(cs.drop o).take c++cs.drop (o+c):=by rw [←List.drop_drop,List.take_append_drop]
 refine ⟨(a,b),⟨h1,h4⟩,by rw [e];exact h2.app h5,fun v hv=> ?_⟩
 rw [e] at hv
 rcases List.mem_append.1 hv with hv|hv
 · exact h3 v hv
 · exact h6 v hv
theorem DP {P:Program} {t:TypeId} {fs:Array Field} {α:Type} {ok:α→Prop} {f:α→List Pr} (ht:P.underlying t=some (.struct fs)) (hc:P.cellsOf t=(fs.toList.map fun fl=>P.cellsOf fl.type).sum) (h:L7 P 0 fs.toList ok f):Em P t ok f:=by
 intro H enc w fuel cs x hx Pb
 obtain ⟨xs,n,rfl,rfl,hl,hxs,Mz⟩:=DataW.trod_struct ht hx
 obtain ⟨a,h1,h2,h3⟩:=h H enc w n cs (fun fl hfl=>by
  obtain ⟨i,hi⟩:=List.mem_iff_getElem?.1 hfl
  have hi':fs[i]? =some fl:=by simpa using hi
  have:=Mz i fl hi'
  rw [this]
  have hlt:i<fs.size:=by
   rcases Nat.lt_or_ge i fs.size with h'|h'
   · exact h'
   · rw [Array.getElem?_eq_none h'] at hi';cases hi'
  have hx':xs[i]? =some xs[i]:=List.getElem?_eq_getElem (by omega)
  refine ⟨_,hx',fun k hk=>Pb k ?_⟩
  show k∈(DataW.agg (xs.map (·.1))).weights P t
  unfold DataW.weights
  rw [ht]
  exact Fp (i:=i) (by rw [List.getElem?_map,hi];rfl) (by rw [List.getElem?_map,hx'];rfl) hk) (by rw [hl,hc];simp)
 exact ⟨a,h1,by simpa using h2,by simpa using h3⟩
theorem NU {H:Type} {enc:TypeId×Value→H} {P:Program} {w:World} {t:TypeId} {α:Type} {ok:α→Prop} {p:α→Pr} (ho:Em P t ok (fun a=>[p a])) {v:Value} {d:DataW H} {ps:List MemPlace} (h:DataW.Trod enc P w 0 (fun _=>true) true t v d ps) (hl:Oa P t d) (hv:v.cells= #[v]):
  ∃a,ok a∧(p a).h YU w v:=by
 obtain ⟨fuel,hf⟩:=h
 obtain ⟨a,h1,h2,_⟩:=ho _ _ _ _ _ _ hf hl
 rw [hv] at h2
 exact ⟨a,h1,h2.1⟩
theorem Wb {H:Type} {enc:TypeId×Value→H} {P:Program} {w:World} {t:TypeId} {α:Type} {ok:α→Prop} {f:α→List Pr} (ho:Em P t ok f) {v:Value} {d:DataW H} {ps:List MemPlace} (h:DataW.Trod enc P w 0 (fun _=>true) true t v d ps) (hl:Oa P t d) (hv:∃cs,v= .agg cs):
  ∃a,ok a∧(agg (f a)).h YU w v:=by
 obtain ⟨fuel,hf⟩:=h
 obtain ⟨cs,rfl⟩:=hv
 obtain ⟨a,h1,h2,h3⟩:=ho _ _ _ _ _ _ hf hl
 exact ⟨a,h1,cs.toList,by simp,h3,h2⟩
theorem KH {H:Type} {P:Program} {ts:List TypeId} {ds gs:List (DataW H)} (hw:(DataW.weightsEach P ts (ds++gs)).all (· ≤reachBytes)=true) {i:Nat} {t:TypeId} {d:DataW H} (ht:ts[i]? =some t) (hd:ds[i]? =some d):Oa P t d:=fun k hk=>by
 have hlt:i<ds.length:=A1 hd
 have:=List.all_eq_true.1 hw k (Fp ht (by rw [List.getElem?_append_left hlt];exact hd) hk)
 simpa using this
end Cp
namespace Cp
open Go Go.RowKit Go.Great
section
variable {P:Program} {L:Lg P} {n:Fm} {fz:Nat} {E:Env} {M0:Av} {w0:World} {S:Nat→Prop} {rs:List BO}
theorem BU.Wc {i:Nat} {r r':BO} {M:Av} {w:World} (h:BU M0 w0 S rs M w) (hi:rs[i]? =some r) (hb:∀b,r'.IB=some b→r.IB=some b) (hn:r'.new=r.new) (hh:r'.h M w):BU M0 w0 S (rs.set i r') M w:=by
 have EO:i<rs.length:=by rcases Nat.lt_or_ge i rs.length with h|h;exact h;rw [List.getElem?_eq_none h] at hi;cases hi
 have h1:=BU.perm (AO hi) h
 refine BU.perm (Jz EO) ⟨h1.m0,h1.m,h1.os,h1.tape,h1.output,h1.size,h1.block,h1.bd,fun q hq=> ?_,?_⟩
 ·
  rcases List.mem_cons.1 hq with rfl|hq
  · exact ⟨hh,fun b hbk=>by rw [hn];exact (h1.hold r (by simp)).2 b (hb b hbk)⟩
  · exact h1.hold q (by simp [hq])
 ·
  obtain ⟨h2,h3⟩:=List.pairwise_cons.1 h1.nd
  exact List.Pairwise.cons (fun q hq b hbk=>h2 q hq b (hb b hbk)) h3
theorem BU.Ob {j:Nat} {e:TypeId} {sz:Nat} {rows:List (List Pr)} {v:Value} {M:Av} {w:World} (h:BU M0 w0 S rs M w) (hj:rs[j]? =some (B0 e sz rows v)):BU M0 w0 S (rs.set j (Af e sz rows v)) M w:=by
 rcases (h.hold _ (List.mem_of_getElem? hj)).1 with ⟨h1,h2⟩|⟨b,cap,sp,h1,h2,h3,h4,h5⟩
 ·
  subst h2
  exact h.Wc hj (fun b hb=>by cases hb) rfl (.inl ⟨h1,_,rfl⟩)
 ·
  subst h1
  cases cap with
  |zero=>
   have hr:rows=[]:=List.eq_nil_of_length_eq_zero (by omega)
   subst hr
   exact h.Wc hj (fun b hb=>by cases hb) rfl (.inl ⟨rfl,_,rfl⟩)
  |succ c=>exact h.Wc hj (fun b hb=>hb) rfl (.inr ⟨b,c,sp,rfl,h2,h3,h4,h5⟩)
theorem Fin.Ob {Q:Exit→Act→World→Prop} {x:Exit} {e:TypeId} {sz:Nat} {rows:List (List Pr)} {v:Value} (j:Nat) (hj:rs[j]? =some (B0 e sz rows v)) (k:Fin n E (Hp M0 w0 S (rs.set j (Af e sz rows v))) Q x):Fin n E (Hp M0 w0 S rs) Q x:=
 Fin.conv (fun a w hs=>by
  obtain ⟨M,h1,h2,h3,h4⟩:=hs
  have h4:BU M0 w0 S rs M w:=h4
  exact ⟨M,h1,h2,h3,h4.Ob hj⟩) k
theorem Tr.Ob {Q:Exit→Act→World→Prop} {c:Code} {e:TypeId} {sz:Nat} {rows:List (List Pr)} {v:Value} (j:Nat) (hj:rs[j]? =some (B0 e sz rows v)) (k:Tr L n E (Hp M0 w0 S (rs.set j (Af e sz rows v))) c Q):Tr L n E (Hp M0 w0 S rs) c Q:=
 Tr.conv (fun _ _ ⟨M,h1,h2,h3,h4⟩=>⟨M,h1,h2,h3,BU.Ob h4 hj⟩) k
end
end Cp
namespace Cp
open Go Go.RowKit
theorem Za {β:Type} {f:β→Pr} {ps:List Pr} {M:Av} {w:World} {ad:Addr} {n:Nat} (h:Row M w ad n (ps++[Cp.ex f])):∃x,Row M w ad n (ps++[f x]):=by
 obtain ⟨u,h1,h2,h3,x,h4⟩:=h ps.length (Cp.ex f) (by simp)
 refine ⟨x,fun j p hp=> ?_⟩
 rcases Nat.lt_trichotomy j ps.length with hj|hj|hj
 · exact h j p (by rw [List.getElem?_append_left hj] at hp ⊢;exact hp)
 · subst hj;simp at hp;subst hp;exact ⟨u,h1,h2,h3,h4⟩
 · rw [List.getElem?_eq_none (by simp;omega)] at hp;cases hp
theorem Ue {φ:Prop} {q:Pr} {ps:List Pr} {M:Av} {w:World} {ad:Addr} {n:Nat} (h:Row M w ad n (ps++[fact φ q])):φ∧Row M w ad n (ps++[q]):=by
 obtain ⟨u,h1,h2,h3,hφ,h4⟩:=h ps.length (fact φ q) (by simp)
 refine ⟨hφ,fun j p hp=> ?_⟩
 rcases Nat.lt_trichotomy j ps.length with hj|hj|hj
 · exact h j p (by rw [List.getElem?_append_left hj] at hp ⊢;exact hp)
 · subst hj;simp at hp;subst hp;exact ⟨u,h1,h2,h3,h4⟩
 · rw [List.getElem?_eq_none (by simp;omega)] at hp;cases hp
theorem NV {α β:Type} {f:α→List Pr} {g:β→List Pr} {φ:α→β→Prop} {sz:Nat} (h:∀a M w ad n,Row M w ad n (f a)→∃b,φ a b∧Row M w ad n (g b)) (hf:∀a,(f a).length=sz) (hg:∀b,(g b).length=sz) (ms:List α):
  Pr.le (slice sz (ms.map f)) (Cp.ex fun l:List β=>fact (l.length=ms.length∧∀(i:Nat) a b,ms[i]? =some a→l[i]? =some b→φ a b) (slice sz (l.map g))):=by
 rintro M w v ⟨a,cap,hv,h1,h2,h3,h5⟩
 have hk:∀k,k≤ms.length→∃l:List β,l.length=k∧(∀(i:Nat) a b,ms[i]? =some a→l[i]? =some b→φ a b)∧∀(i:Nat) b,l[i]? =some b→∃ad,a=some ad∧Row M w ad (i*sz) (g b):=by
  intro k
  induction k with
  |zero=>intro _;exact ⟨[],rfl,by simp,by simp⟩
  |succ k ih=>
   intro hk
   obtain ⟨l,hl,hp,hr⟩:=ih (by omega)
   obtain ⟨x,hx⟩:∃x,ms[k]? =some x:=⟨ms[k],List.getElem?_eq_getElem (by omega)⟩
   obtain ⟨_,ad,had,hrow⟩:=h5 k (f x) (by rw [List.getElem?_map,hx];rfl)
   obtain ⟨b,Rs,Vi⟩:=h x M w ad (k*sz) hrow
   refine ⟨l++[b],by simp [hl],fun i y c hy hc=> ?_,fun i c hc=> ?_⟩
   ·
    rcases Nat.lt_trichotomy i k with hi|hi|hi
    · rw [List.getElem?_append_left (by omega)] at hc;exact hp i y c hy hc
    · subst hi;rw [List.getElem?_append_right (by omega),hl] at hc;simp at hc;subst hc;rw [hx] at hy;cases hy;exact Rs
    · rw [List.getElem?_eq_none (by simp [hl];omega)] at hc;cases hc
   ·
    rcases Nat.lt_trichotomy i k with hi|hi|hi
    · rw [List.getElem?_append_left (by omega)] at hc;exact hr i c hc
    · subst hi;rw [List.getElem?_append_right (by omega),hl] at hc;simp at hc;subst hc;exact ⟨ad,had,Vi⟩
    · rw [List.getElem?_eq_none (by simp [hl];omega)] at hc;cases hc
 obtain ⟨l,hl,hp,hr⟩:=hk ms.length (Nat.le_refl _)
 rw [List.length_map] at hv h1
 refine ⟨l,⟨hl,hp⟩,a,cap,by rw [List.length_map,hl];exact hv,by rw [List.length_map,hl];exact h1,h2,h3,fun i row hrow=> ?_⟩
 rw [List.getElem?_map] at hrow
 cases hb:l[i]? with
 |none=>rw [hb] at hrow;cases hrow
 |some b=>
  rw [hb] at hrow;simp at hrow;subst hrow
  exact ⟨hg b,hr i b hb⟩
end Cp
namespace Cp
open Go Go.RowKit Go.Great
section
variable {P:Program} {L:Lg P} {n:Fm} {fz:Nat} {E:Env} {M0:Av} {w0:World} {S:Nat→Prop} {rs:List BO} {o:Oper} {g:Func} {M1:Av} {w1:World}
end
section
variable {P:Program} {L:Lg P} {n:Fm} {fz:Nat} {E:Env} {M0:Av} {w0:World} {S:Nat→Prop} {rs:List BO}
end
section
variable {P:Program} {L:Lg P} {n:Fm} {fz:Nat} {E:Env} {M0:Av} {w0:World} {S:Nat→Prop} {rs:List BO} {o:Oper}
def E5 (e:TypeId) (sz:Nat) (rows:List (List Pr)) (v v2:Value):BO where
 IB:=Cu v
 new:=true
 h M w:=(BJ e sz v).h M w∧∃(ad:Addr) (c:Nat) (news:List Value),v2= .slice (some ad) rows.length c∧Flat M w sz rows news∧(∀(k:Nat) u,news[k]? =some u→w.cell? (ad.add k)=some u)∧((∀k,k<news.length→¬M ad.block (ad.off+k))∨Cu v=some ad.block)
 st M w M' w' he hk h:=by
  obtain ⟨h1,ad,c,news,rfl,h2,h3,h4⟩:=h
  refine ⟨(BJ e sz v).st _ _ _ _ he hk h1,ad,c,news,rfl,h2.st he,?_⟩
  rcases h4 with h4|h4
  ·
   refine ⟨fun k u hu=> ?_,.inl fun k hku=> ?_⟩
   ·
    have O9:k<news.length:=A1 hu
    exact (he.keep _ _ (h3 k u hu) (by rw [Da,Fy];exact h4 k O9)).2
   ·
    have:=(he.keep _ _ (h3 k _ (List.getElem?_eq_getElem hku)) (by rw [Da,Fy];exact h4 k hku)).1
    rw [Da,Fy] at this;exact this
  ·
   refine ⟨fun k u hu=> ?_,.inr h4⟩
   rw [World.cell?_of_block (w:=w) (by rw [Da];exact (hk _ h4).1)]
   exact h3 k u hu
theorem Zb {M:Av} {w:World} {t ty e:TypeId} {sz bytes:Nat} {zs:List Value} {rows Ai:List (List Pr)} {v u:Value} {j:Nat} (ht:P.underlying t=some (.slice e)) (hz:Ap P e=some sz) (hby:CI P e=some bytes)
  (C6:Bh P e=some zs) (hzl:zs.length=sz) (hsz:0<sz) (h:BU M0 w0 S rs M w) (hj:rs[j]? =some (BJ e sz v))
  (hv:(slice sz rows).h M w v) (hu:(slice sz Ai).h M w u) (h0:0<rows.length) (hm:0<Ai.length) (EB:rows.length+Ai.length≤maxLen) (hfit:(rows.length+Ai.length)*bytes≤140737488355328):
  ∃v' w',(Builtin.append_ #[t,t] ty #[v,u]).run P w= .ok v' w'∧Ext M w M w'∧BU M0 w0 S (rs.set j (E5 e sz (rows++Ai) v v')) M w':=by
 unfold Ap at hz
 unfold CI at hby
 unfold Bh at C6
 cases hi:P.info? e with
 |none=>rw [hi] at hz;cases hz
 |some i=>
  rw [hi] at hz hby C6
  simp only [Option.map_some,Option.some.injEq,Option.map_eq_some_iff] at hz hby C6
  obtain ⟨z,OG,C6⟩:=C6
  have hmem:=List.mem_of_getElem? hj
  obtain ⟨A,c,rfl,hnc,hcm,hA,hrows⟩:=hv
  obtain ⟨A',c',rfl,Vm,Mq,UT,D0⟩:=hu
  have Vn:(slice sz rows).h M w (.slice A rows.length c):=⟨A,c,rfl,hnc,hcm,hA,hrows⟩
  have IA:(slice sz Ai).h M w (.slice A' Ai.length c'):=⟨A',c',rfl,Vm,Mq,UT,D0⟩
  obtain ⟨JA,rfl⟩:∃JA,A'=some JA:=by
   obtain ⟨_,b,hb,_⟩:=D0 0 _ (List.getElem?_eq_getElem hm)
   exact ⟨b,hb⟩
  obtain ⟨a,rfl⟩:∃a,A=some a:=by
   obtain ⟨_,b,hb,_⟩:=hrows 0 _ (List.getElem?_eq_getElem h0)
   exact ⟨b,hb⟩
  obtain ⟨news,H6,Km⟩:=Dq hsz IA
  obtain ⟨olds,hfl,hcell⟩:=Dq hsz Vn
  have TL:rows.length+Ai.length≤9223372036854775807:=by unfold maxLen at EB;exact EB
  have HB:(rows++Ai).length=rows.length+Ai.length:=List.length_append
  have hvl:∀k u,(olds++news)[k]? =some u→k<(rows.length+Ai.length)*sz:=fun k u hk=>by
   have:=A1 hk
   rwa [List.length_append,hfl.1,H6.1,←Nat.add_mul] at this
  have hold:=(h.hold _ hmem).1
  by_cases hroom:rows.length+Ai.length≤c
  ·
   have hlt:rows.length<c:=by omega
   obtain ⟨⟨xs,hown⟩,hspare⟩:=hold a _ _ rfl hlt
   obtain ⟨g,cap,cur,Gz,h0g,hh,qW,_,hcs,htk⟩:∃g cap cur,Value.slice (some a) rows.length c= .slice (some ⟨g,0,none⟩) rows.length cap∧0≤g∧w.heap[g]? =some (.cells cur e (0,0))∧rows.length≤cap∧cap≤maxLen∧cur.size=cap*sz∧cur.toList.take (rows.length*sz)=xs:=by
    rcases hown.2 with ⟨h1,_⟩|h1
    · injection h1 with h1;cases h1
    · exact h1
   injection Gz with e1 _ e3
   injection e1 with e1
   subst e1;subst e3
   obtain ⟨w',hrun,TN,hgrow⟩:=run_append_fits (P:=P) w 0 t ty e i sz ht hi hz g rows.length c xs hown JA Ai.length c' news H6.1 (fun k u hk=>(Km k u hk).1) H6.2.1 hroom
   obtain ⟨cur',mR,ia,YR⟩:∃cur',w'.heap[g]? =some (.cells cur' e (0,0))∧cur'.size=c*sz∧cur'.toList.take ((rows.length+Ai.length)*sz)=xs++news:=by
    rcases TN.2 with ⟨h1,_⟩|⟨g2,Lf,cq,h1,_,h2,_,_,h3,h4⟩
    · injection h1 with h1;cases h1
    ·
     injection h1 with e1 _ e3
     injection e1 with e1
     injection e1 with e1
     subst e1;subst e3
     exact ⟨cq,h2,h3,h4⟩
   have Mr:∀k u,(xs++news)[k]? =some u→w'.cell? ⟨g,k,none⟩=some u:=by
    intro k u hk
    simp only [World.cell?,mR]
    rw [if_neg (by simp),←Array.getElem?_toList]
    rw [←YR,List.getElem?_take] at hk
    split at hk
    · exact hk
    · cases hk
   have II:∀k u,xs[k]? =some u→w.cell? ⟨g,k,none⟩=some u:=by
    intro k u hk
    simp only [World.cell?,hh]
    rw [if_neg (by simp),←Array.getElem?_toList]
    rw [←htk,List.getElem?_take] at hk
    split at hk
    · exact hk
    · cases hk
   have hxs:xs.length=rows.length*sz:=hown.1
   have eE:∀k,Addr.add ⟨g,0,none⟩ k=⟨g,k,none⟩:=fun k=>by unfold Addr.add;split<;>simp_all
   have hoe:olds=xs:=by
    apply List.ext_getElem?
    intro k
    by_cases hk:k<rows.length*sz
    ·
     have h1:k<olds.length:=by rw [hfl.1];exact hk
     have h2:k<xs.length:=by rw [hxs];exact hk
     have h3:=(hcell k _ (List.getElem?_eq_getElem h1)).1
     rw [eE,II k _ (List.getElem?_eq_getElem h2)] at h3
     rw [List.getElem?_eq_getElem h1,List.getElem?_eq_getElem h2,h3]
    · rw [List.getElem?_eq_none (by rw [hfl.1];omega),List.getElem?_eq_none (by rw [hxs];omega)]
   subst hoe
   have DV:Ext M w M w':=by
    refine ⟨hgrow.size,fun ad v hc hm=>⟨hm,?_⟩,fun b o ho hp hm=>⟨hm,?_⟩⟩
    ·
     by_cases hb:ad.block=g
     ·
      have ig:ad.spot=none:=by
       unfold World.cell? at hc
       rw [hb,hh] at hc
       simp only [] at hc
       cases hs:ad.spot with
       |none=>rfl
       |some s=>rw [hs] at hc;simp at hc
      have Vp:ad.off<rows.length*sz:=by
       rcases Nat.lt_or_ge ad.off (rows.length*sz) with h1|h1
       · exact h1
       · exact absurd (by rw [hb];exact hspare _ h1) hm
      have had:ad=⟨g,ad.off,none⟩:=by cases ad;simp_all
      have h2:ad.off<olds.length:=by rw [hfl.1];exact Vp
      have h4:=II ad.off _ (List.getElem?_eq_getElem h2)
      rw [←had,hc] at h4
      have h5:=Mr ad.off _ (by rw [List.getElem?_append_left h2];exact List.getElem?_eq_getElem h2)
      rw [←had] at h5
      rw [h5,←h4]
     · rw [World.cell?_of_block (w:=w) (hgrow.block ad.block (D3 hc) (fun e=>hb (by injection e)))];exact hc
    ·
     by_cases hb:b=g
     · subst hb;rw [hh] at ho;cases ho;cases hp
     · rw [hgrow.block b (by rcases Nat.lt_or_ge b w.heap.size with h|h;exact h;rw [Array.getElem?_eq_none h] at ho;cases ho) (fun e=>hb (by injection e))];exact ho
   have hgl:g<w.heap.size:=by rcases Nat.lt_or_ge g w.heap.size with h|h;exact h;rw [Array.getElem?_eq_none h] at hh;cases hh
   have hbk:Cu (.slice (some ⟨g,0,none⟩) rows.length c)=some g:=by simp [Cu,hlt]
   refine ⟨_,w',hrun,DV,h.replace hj DV hgrow.os hgrow.tape hgrow.output (fun k hk hne=>hgrow.block k hk (fun e=>hne (hbk.trans e.symm))) rfl (fun _ _ hm _=>hm) (fun b o hx=>Nat.lt_of_lt_of_le (h.bd b o hx) hgrow.size) ⟨?_,?_⟩ rfl (fun b hb=> ?_)⟩
   ·
    intro a n' c2 Gz Vp
    injection Gz with e1 e2 e3
    injection e1 with e1
    subst e1;subst e2;subst e3
    refine ⟨⟨olds,hxs,.inr ⟨g,c,cur',rfl,h0g,mR,qW,hcm,ia,?_⟩⟩,hspare⟩
    have h9:=congrArg (List.take (rows.length*sz)) YR
    rw [List.take_take,Nat.min_eq_left (Nat.mul_le_mul_right sz (by omega)),←hxs,List.take_left,hxs] at h9
    exact h9
   · exact ⟨⟨g,0,none⟩,c,olds++news,by rw [HB],(hfl.app H6).st DV,fun k u hk=>by rw [eE];exact Mr k u hk,.inr hbk⟩
   ·
    obtain rfl:g=b:=Option.some.inj (hbk.symm.trans hb)
    exact ⟨Nat.lt_of_lt_of_le hgl hgrow.size,.inl hbk⟩
  ·
   have X_:Builtin.nextslicecap (rows.length+Ai.length) c≤2*(rows.length+Ai.length):=nextslicecap_le (by omega)
   have hrun := run_append_grow (P := P) w t ty e i z ht hi OG a rows.length c olds (by rw [hz]; exact hfl.1) (fun k u hk => (hcell k u hk).1) JA Ai.length c' news (by rw [hz]; exact H6.1) (fun k u hk => (Km k u hk).1) (by omega) (by omega)
    (by rw [hby];have:=Nat.mul_le_mul_right bytes X_;rw [Nat.mul_assoc] at this;omega)
   generalize grownCap w (rows.length+Ai.length) c e=cap at hrun
   generalize Builtin.zeroCells z.cells (cap-(rows.length+Ai.length))=zc at hrun
   have hb:Below w.heap.size w (w.drew.alloc (.cells (olds.toArray++news.toArray++zc) e)):=((Below.refl _ _).drew).alloc (Nat.le_refl _) _
   have DV:=Ext.below (M:=M) hb
   have hs1:(w.drew.alloc (.cells (olds.toArray++news.toArray++zc) e)).heap.size=w.heap.size+1:=by simp
   refine ⟨_,_,hrun,DV,h.replace hj DV hb.os hb.tape hb.output (fun k hk _=>hb.block k hk) rfl (fun _ _ hm _=>hm) (fun b o hx=>by have:=h.bd _ _ hx;omega) ⟨(BJ e sz _).st _ _ _ _ DV (fun b hbk=>⟨hb.block b ((h.hold _ hmem).2 b hbk).1,fun _ hm=>hm⟩) hold,⟨w.heap.size,0,none⟩,cap,olds++news,by rw [HB],(hfl.app H6).st DV,fun k u hk=> ?_,.inl fun k hk hx=> ?_⟩ rfl (fun b hbk=>⟨by have:=((h.hold _ hmem).2 b hbk).1;omega,.inl hbk⟩)⟩
   ·
    have hh:(w.drew.alloc (.cells (olds.toArray++news.toArray++zc) e)).heap[w.heap.size]? =some (.cells (olds.toArray++news.toArray++zc) e (0,0)):=heap_alloc_new w.drew _
    have O9:=A1 hk
    rw [show Addr.add ⟨w.heap.size,0,none⟩ k=⟨w.heap.size,k,none⟩ by unfold Addr.add;split<;>simp_all]
    simp only [World.cell?,hh]
    have hk2:k<(olds.toArray++news.toArray).size:=by simpa using O9
    rw [if_neg (by simp),Array.getElem?_append_left hk2]
    simpa using hk
   · exact Nat.lt_irrefl _ (show w.heap.size<w.heap.size from h.bd _ _ hx)
theorem Zc {t e:TypeId} {x y:Operand} {sz bytes d:Nat} {zs:List Value} {rows Ai:List (List Pr)} {v:Value} {j:Nat} (hg:o.guard=none) (hd:o.dst=some d) (hn:d<n) (ho:o.op= .call { callee:= .builtin .append,args:= #[x,y],argTypes:= #[t,t] })
  (ht:P.underlying t=some (.slice e)) (hz:Ap P e=some sz) (hby:CI P e=some bytes) (C6:Bh P e=some zs) (hzl:zs.length=sz) (hsz:0<sz)
  (hx:VL E x (As v (slice sz rows))) (hy:VL E y (slice sz Ai)) (h0:0<rows.length) (hm:0<Ai.length) (EB:rows.length+Ai.length≤maxLen) (hfit:(rows.length+Ai.length)*bytes≤140737488355328):DU P M0 w0 S n j (SR.c (BJ e sz v)) ⟨d,E5 e sz (rows++Ai) v⟩ o E (lens (rows++Ai).length):=by
 refine ⟨hg,fun M w a rs H7 he hI hj=> ?_⟩
 obtain ⟨h1,h1'⟩:=hx.ev he (by simp [ho,Op.operands,Call.operands])
 have h2:=hy.ev he (by simp [ho,Op.operands,Call.operands])
 obtain ⟨v',w',hrun,h4,h5⟩:=Zb (ty:=o.type) ht hz hby C6 hzl hsz hI hj (by rw [←h1];exact h1') h2 h0 hm EB hfit
 have Cz:(execOp a.eval o).run P w= .ok (.value v') w':=by simp [execOp,ho,resolve,invoke,builtin,h1,hrun]
 rw [Cz]
 have:(SR.at_ (a.put o.dst v') ⟨d,E5 e sz (rows++Ai) v⟩)=E5 e sz (rows++Ai) v v':=by unfold SR.at_ Slot.val;dsimp only;rw [hd,B2 (by rw [H7];exact hn)]
 refine ⟨M,?_,h4,by rw [this];exact h5⟩
 have hjl:=A1 hj
 obtain ⟨_,ad,c,news,hv,_⟩:=(h5.hold _ (List.mem_of_getElem? (List.getElem?_set_self hjl))).1
 exact ⟨_,_,hv⟩
theorem Zd {t e T:TypeId} {x:Operand} {sz j:Nat} {rows:List (List Pr)} {v v2:Value} (ho:o.op= .call { callee:= .builtin .len,args:= #[x],argTypes:= #[t] }) (ht:P.underlying t=some (.slice e)) (hx:VL E x (is v2)):
  Hy P M0 w0 S j (SR.c (E5 T sz rows v v2)) o E (int ((rows.length:Nat):Int)):=by
 intro M w a rs he hI hj
 have h1:a.eval x=v2:=hx.ev he (by simp [ho,Op.operands,Call.operands])
 have hj':rs[j]? =some (E5 T sz rows v v2):=hj
 obtain ⟨_,ad,c,news,rfl,_⟩:=(hI.hold _ (List.mem_of_getElem? hj')).1
 have:(execOp a.eval o).run P w= .ok (.value (.int .i64 ((rows.length:Nat):Int))) w:=by
  simp [execOp,ho,resolve,invoke,builtin,Builtin.len_,h1,run_underlying ht,goInt]
 rw [this]
 exact ⟨rfl,Below.refl _ _⟩
theorem Ze {t e:TypeId} {x y:Operand} {k:IntKind} {l:Int} {sz j:Nat} {T:TypeId} {rows:List (List Pr)} {v v2:Value} (ho:o.op= .indexAddr t x y) (ht:P.underlying t=some (.slice e)) (hz:Ap P e=some sz) (hx:VL E x (is v2)) (hy:VL E y (is (.int k l))) (h0:0≤l) (hl:l<rows.length):
  Hy P M0 w0 S j (SR.c (E5 T sz rows v v2)) o E (bq sz v2 l.toNat 0):=by
 intro M w a rs he hI hj
 have h1:a.eval x=v2:=hx.ev he (by simp [ho,Op.operands])
 have h3:a.eval y= .int k l:=hy.ev he (by simp [ho,Op.operands])
 have hj':rs[j]? =some (E5 T sz rows v v2):=hj
 obtain ⟨_,ad,c,news,rfl,_⟩:=(hI.hold _ (List.mem_of_getElem? hj')).1
 have hrun:(execOp a.eval o).run P w= .ok (.value (.pointer (some (ad.add (l.toNat*sz))))) w:=by
  simp [execOp,ho,h1,h3,Instr.indexAt,asIntOf,run_underlying ht,Bb hz,h0,hl]
 rw [hrun]
 exact ⟨⟨_,_,_,rfl,rfl⟩,Below.refl _ _⟩
theorem SL {t:TypeId} {x:Operand} {sz j i:Nat} {T:TypeId} {rows:List (List Pr)} {row:List Pr} {v v2:Value} (ho:o.op= .load t x) (ht:FJ P t=true) (hz:Ap P t=some sz) (hx:VL E x (bq sz v2 i 0)) (hi:rows[i]? =some row):
  Hy P M0 w0 S j (SR.c (E5 T sz rows v v2)) o E (agg row):=by
 intro M w a rs he hI hj
 obtain ⟨a0,m0,c0,Vn,h1⟩:=hx.ev he (by simp [ho,Op.operands])
 rw [Nat.add_zero] at h1
 have hj':rs[j]? =some (E5 T sz rows v v2):=hj
 obtain ⟨_,ad,c,news,hv,hfl,Vr,_⟩:=(hI.hold _ (List.mem_of_getElem? hj')).1
 rw [Vn] at hv
 injection hv with e1 e2 e3
 injection e1 with e1
 subst e1
 obtain ⟨hrl,hrow⟩:=hfl.2.2 i row hi
 have EO:=A1 hi
 have hle:(i+1)*sz≤rows.length*sz:=Nat.mul_le_mul_right sz EO
 rw [Nat.add_mul] at hle
 have hl':((news.drop (i*sz)).take sz).length=sz:=by rw [List.length_take,List.length_drop,hfl.1];omega
 have hrun:(loadCells (a0.add (i*sz)) sz).run P w= .ok ((news.drop (i*sz)).take sz).toArray w:=by
  have:=run_loadCells_list (P:=P) w (a0.add (i*sz)) ((news.drop (i*sz)).take sz) (fun k u hk=>by
   rw [add_add]
   rw [List.getElem?_take] at hk
   split at hk
   · rw [List.getElem?_drop] at hk;exact Vr _ _ hk
   · cases hk)
  rwa [hl'] at this
 have Cz:(execOp a.eval o).run P w= .ok (.value (.agg ((news.drop (i*sz)).take sz).toArray)) w:=by simp [execOp,ho,h1,Instr.loadAt,Instr.sureAddr,loadVar,DM ht,Bb hz,hrun]
 rw [Cz]
 exact ⟨⟨_, rfl, fun c hc => hfl.2.1 c (List.mem_of_mem_drop (List.mem_of_mem_take hc)), Qh (by rw [hl', hrl]) fun k p hp => by
  obtain ⟨u,hu,hh⟩:=hrow k p hp
  refine ⟨u,?_,hh⟩
  rw [List.getElem?_take,if_pos (by have:=A1 hp;omega),List.getElem?_drop];exact hu⟩,Below.refl _ _⟩
theorem BU.Qy {M:Av} {w:World} {j:Nat} {e:TypeId} {sz:Nat} {rows:List (List Pr)} {v v2:Value} (h:BU M0 w0 S rs M w) (hj:rs[j]? =some (E5 e sz rows v v2)):BU M0 w0 S (rs.set j (BJ e sz v)) M w:=
 h.Db hj rfl rfl (h.hold _ (List.mem_of_getElem? hj)).1.1
theorem Tr.Qy {Q:Exit→Act→World→Prop} {c:Code} {e:TypeId} {sz:Nat} {rows:List (List Pr)} {v v2:Value} (j:Nat) (hj:rs[j]? =some (E5 e sz rows v v2)) (k:Tr L n E (Hp M0 w0 S (rs.set j (BJ e sz v))) c Q):Tr L n E (Hp M0 w0 S rs) c Q:=
 Tr.conv (fun _ _ ⟨M,h1,h2,h3,h4⟩=>⟨M,h1,h2,h3,BU.Qy h4 hj⟩) k
theorem Fin.Qy {Q:Exit→Act→World→Prop} {x:Exit} {e:TypeId} {sz:Nat} {rows:List (List Pr)} {v v2:Value} (j:Nat) (hj:rs[j]? =some (E5 e sz rows v v2)) (k:Fin n E (Hp M0 w0 S (rs.set j (BJ e sz v))) Q x):Fin n E (Hp M0 w0 S rs) Q x:=
 Fin.conv (fun a w hs=>by
  obtain ⟨M,h1,h2,h3,h4⟩:=hs
  have h4:BU M0 w0 S rs M w:=h4
  exact ⟨M,h1,h2,h3,h4.Qy hj⟩) k
end
end Cp
namespace Cp
open Go Go.RowKit
theorem Ci.R3 {M:Av} {w:World} {E:Env} {o:Oper} {a:Act} (s:Nat) {α:Type} {f:α→Pr} (hs:E.lookup s=some (Cp.ex f)) (hm:s∈looks o) (he:Ci M w E o a):∃x,Ci M w ((s,f x)::E) o a:=by
 obtain ⟨x,hx⟩:=he s _ hm hs
 refine ⟨x,fun t q ht hq=> ?_⟩
 simp only [List.lookup] at hq
 by_cases hts:t=s
 · subst hts;simp at hq;subst hq;exact hx
 · rw [show (t==s)=false by simpa using hts] at hq;exact he t q ht hq
theorem Ci.iF {M:Av} {w:World} {E:Env} {o:Oper} {a:Act} {φ:Prop} {p:Pr} (s:Nat) (hs:E.lookup s=some (Cp.fact φ p)) (hm:s∈looks o) (he:Ci M w E o a):φ∧Ci M w ((s,p)::E) o a:=by
 obtain ⟨hφ,hx⟩:=he s _ hm hs
 refine ⟨hφ,fun t q ht hq=> ?_⟩
 simp only [List.lookup] at hq
 by_cases hts:t=s
 · subst hts;simp at hq;subst hq;exact hx
 · rw [show (t==s)=false by simpa using hts] at hq;exact he t q ht hq
section
variable {P:Program} {M0:Av} {w0:World} {S:Nat→Prop} {n:Fm} {j:Nat} {R R':SR} {E:Env} {o:Oper}
theorem DU.R3 {p:Pr} (s:Nat) {α:Type} {f:α→Pr} (hg:o.guard=none) (hs:E.lookup s=some (Cp.ex f)) (hm:s∈looks o) (h:∀x,DU P M0 w0 S n j R R' o ((s,f x)::E) p):DU P M0 w0 S n j R R' o E p:=
 ⟨hg,fun M w a rs hsz he hI hj=>by obtain ⟨x,hx⟩:=he.R3 s hs hm;exact (h x).2 M w a rs hsz hx hI hj⟩
theorem DU.iF {p q:Pr} {φ:Prop} (s:Nat) (hg:o.guard=none) (hs:E.lookup s=some (Cp.fact φ q)) (hm:s∈looks o) (h:φ→DU P M0 w0 S n j R R' o ((s,q)::E) p):DU P M0 w0 S n j R R' o E p:=
 ⟨hg,fun M w a rs hsz he hI hj=>by obtain ⟨hφ,hx⟩:=he.iF s hs hm;exact (h hφ).2 M w a rs hsz hx hI hj⟩
theorem DU.le {p q:Pr} (h:DU P M0 w0 S n j R R' o E p) (hl:Pr.le p q):DU P M0 w0 S n j R R' o E q:=by
 refine ⟨h.1,fun M w a rs hsz he hI hj=> ?_⟩
 have this:=h.2 M w a rs hsz he hI hj
 generalize (execOp a.eval o).run P w=r at this ⊢
 unfold O5 at this
 split at this
 · obtain ⟨M',h1,h2,h3⟩:=this;exact ⟨M',hl _ _ _ h1,h2,h3⟩
 · obtain ⟨M',h1,h2,h3⟩:=this;exact ⟨M',hl _ _ _ h1,h2,h3⟩
 · exact Calls.mono this fun _ _ ⟨v,M',h0,h1,h2,h3⟩=>⟨v,M',h0,hl _ _ _ h1,h2,h3⟩
 · exact this.elim
end
theorem Wd {z:Array Value} {n:Nat} {u:Value} (h0:0<z.size) (h:u∈(madeCells z n).toList):u∈z.toList:=by
 simp only [madeCells,Array.toList_map,List.mem_map] at h
 obtain ⟨k,_,rfl⟩:=h
 have hk:k % z.size<z.size:=Nat.mod_lt _ h0
 rw [getElem!_pos z _ hk]
 exact Array.getElem_mem_toList hk
theorem Zf {z:Array Value} {m sz i j:Nat} {u:Value} (hz:z.size=sz) (hi:i<m) (hu:z.toList[j]? =some u):(madeCells z (m*sz)).toList[i*sz+j]? =some u:=by
 have hjl:j<sz:=by
  rcases Nat.lt_or_ge j sz with h|h
  · exact h
  · rw [List.getElem?_eq_none (by simp;omega)] at hu;cases hu
 have hlt:i*sz+j<m*sz:=by
  have:(i+1)*sz≤m*sz:=Nat.mul_le_mul_right sz hi
  rw [Nat.add_mul] at this;omega
 have hmod:(i*sz+j) % sz=j:=by rw [Nat.mul_comm,Nat.mul_add_mod,Nat.mod_eq_of_lt hjl]
 have hjz:j<z.size:=by omega
 rw [Array.getElem?_toList] at hu ⊢
 rw [Array.getElem?_eq_getElem hjz] at hu
 simp only [madeCells]
 rw [Array.getElem?_map,Array.getElem?_range,if_pos hlt,Option.map_some,hz,hmod,getElem!_pos z _ hjz,hu]
theorem We {P:Program} {I:Ca} {E:Env} {o:Oper} {t e:TypeId} {x y:Operand} {sz by_ m:Nat} {zs:List Value} (ho:o.op= .makeSlice t x y) (ht:P.underlying t=some (.slice e)) (hz:Ap P e=some sz) (hby:CI P e=some by_) (C6:Bh P e=some zs) (hzl:zs.length=sz) (hsz:0<sz)
  (h1:zs.all (·.oneCell')=true) (hx:VL E x (int ((m:Nat):Int))) (hy:VL E y (int ((m:Nat):Int))) (hm:m≤maxLen) (hb:by_*m≤281474976710656):Ad P I o E (full sz (List.replicate m (zs.map is))):=
 Ad.val fun M w a he hI=>by
  have hx1:a.eval x= .int .i64 m:=hx.ev he (by simp [ho,Op.operands])
  have hy1:a.eval y= .int .i64 m:=hy.ev he (by simp [ho,Op.operands])
  unfold Ap at hz
  unfold CI at hby
  unfold Bh at C6
  cases hi:P.info? e with
  |none=>rw [hi] at hz;cases hz
  |some i=>
   rw [hi] at hz hby C6
   simp only [Option.map_some,Option.some.injEq,Option.map_eq_some_iff] at hz hby C6
   obtain ⟨z,OG,C6⟩:=C6
   have Rl:z.cells.size=sz:=by rw [←hzl,←C6];simp
   have hrun:=run_make (P:=P) w t e i z ht hi OG .i64 .i64 (m:Int) (m:Int) (by omega) (Int.le_refl _) (by rw [hby];have h0:((by_*m:Nat):Int)≤281474976710656:=Int.ofNat_le.2 hb;rw [←Int.natCast_mul];exact h0) (by unfold maxLen at hm;omega)
   rw [hz] at hrun
   simp only [Int.toNat_natCast] at hrun
   have hbe:Below w.heap.size w (w.alloc (.cells (madeCells z.cells (m*sz)) e)):=(Below.refl _ _).alloc (Nat.le_refl _) _
   have hrl:(List.replicate m (zs.map is)).length=m:=List.length_replicate
   have hfl:Flat M w sz (List.replicate m (zs.map is)) (madeCells z.cells (m*sz)).toList:=by
    refine ⟨by rw [hrl];simp [size_madeCells],fun u hu=>List.all_eq_true.1 h1 _ (by rw [←C6];exact Wd (by omega) hu),fun k row hr=> ?_⟩
    have hk:k<m:=by have:=A1 hr;omega
    obtain rfl:row=zs.map is:=List.eq_of_mem_replicate (List.mem_of_getElem? hr)
    refine ⟨by simp [hzl],fun j p hp=> ?_⟩
    rw [List.getElem?_map,Option.map_eq_some_iff] at hp
    obtain ⟨u,hu,rfl⟩:=hp
    exact ⟨u,Zf Rl hk (by rw [C6];exact hu),rfl⟩
   refine ⟨.slice (some ⟨w.heap.size,0,none⟩) m m,w.alloc (.cells (madeCells z.cells (m*sz)) e),by simp [execOp,ho,hx1,hy1,hrun],?_,hbe⟩
   have k7:=Ed (hfl.st (Ext.below hbe)) (c:=m) (Nat.le_of_eq hrl) hm (g:=w.heap.size) (fun k u hk=>⟨by rw [Mk];simpa using hk,fun hx=>by have:=I.bd _ _ hI _ _ hx;omega⟩)
   rw [hrl] at k7
   exact ⟨k7,_,by rw [hrl]⟩
section
variable {P:Program} {L:Lg P} {n:Fm} {E:Env} {M0:Av} {w0:World} {S:Nat→Prop} {rs:List BO}
theorem Fin.Fv {Q:Exit→Act→World→Prop} {x:Exit} (i j k:Nat) {sz b:Nat} {new:Bool} {T e:TypeId} {ps:List Pr} {rows:List (List Pr)} {v:Value} {p:Pr} (hi:rs[i]? =some (AE new b T ps)) (hj:rs[j]? =some (Af e sz rows v)) (hij:j≠i) (hk:ps[k]? =some p) (hp:Pr.le p (is v)) (hl:∀r∈rows,r.length=sz)
  (kk:Fin n E (Hp M0 w0 S ((rs.set j Bm).set i (AE new b T (ps.set k (slice sz rows))))) Q x):Fin n E (Hp M0 w0 S rs) Q x:=Fin.conv (fun _ _ hs=>hs.Fv hi hj hij hk hp hl) kk
end
end Cp
namespace Go.Proofs.YtppeeogffbpcbaaGreat
open Go Go.RowKit Cp Go.Proofs.Tryz
structure FF where
 Gv:Int
 HZ:List UInt8
 F3:List UInt8
 Lk:Int
 Hu:Int
 BX:Int
 Pc:Int
 KI:Int
 from_:Int
 SM:Int
 auth:Bool
 path:Int
 names:List (List UInt8)
 Uf:Int
 Ug:Int
abbrev Pf (l:List (List UInt8)):Pr:=slice 1 (l.map fun t=>[str t])
abbrev CZ (c:FF):List Pr:=[int c.Gv,str c.HZ,str c.F3,int c.Lk,int c.Hu,int c.BX,int c.Pc,int c.KI,int c.from_,int c.SM,bool c.auth,int c.path,Pf c.names,int c.Uf,int c.Ug]
abbrev Gh (l:List FF):Pr:=slice 15 (l.map CZ)
structure FF.fits (c:FF):Prop where
 HZ:c.HZ.length≤maxLen
 F3:c.F3.length≤maxLen
 names:∀s∈c.names,s.length≤maxLen
def E6 (n:Int):Bool:=decide (0≤n)&&decide (n≤2147483648)
def Uh (n:Int):Bool:=decide (0≤n)&&decide (n<4294967296)
def Cl (o:List UInt8) (c:UInt8):Bool:=decide (97≤c.toNat∧c.toNat≤122)||decide (65≤c.toNat∧c.toNat≤90)||decide (48≤c.toNat∧c.toNat≤57)||decide (0≤Lib.indexByte o c)
def Hv (s:List UInt8):Bool:=s.all (Cl [45,95,46])&&decide (1≤s.length∧s.length≤32)
def nameAt (l:List (List UInt8)) (i:Nat):Bool:=named (l[i]?.getD [])&&(decide (i=0)||decide (Lib.compareBytes (l[i-1]?.getD []) (l[i]?.getD [])= -1))
def DA (l:List (List UInt8)):Bool:=allI (nameAt l) l.length&&decide (l.length≤8)
def En (Bp bits kind:Int):Bool:=decide (Bw Bp bits>0)&&(DT Bp).kind==kind
def B9 (c:FF):Bool:=
 (decide (0≤c.Gv)&&decide (c.Gv≤1099511627776)&&named c.HZ&&named c.F3&&DA c.names)&&
 (En c.Lk c.Hu 2&&E6 c.BX&&En c.Pc c.KI 1&&E6 c.Uf&&Uh c.Ug)&&
 (decide (0≤c.from_)&&decide (c.from_≤c.SM)&&decide (c.SM≤40000))&&(decide (0≤c.path)&&decide (c.path≤8)&&(c.auth||c.path==0))
def NW (Bp bits id:Int) (l:List FF):Bool:=En Bp bits 2&&E6 id&&decide (l.length≤8)&&l.all B9&&match l with|[]=>true|c::_=>decide (c.Lk=Bp∧c.Hu=bits)&&c.BX==id
structure Du where
 Bp:Int
 bits:Int
 BX:Int
 chain:List FF
abbrev Az (x:Du):List Pr:=[int x.Bp,int x.bits,int x.BX,Gh x.chain]
abbrev Eu (l:List Du):Pr:=slice 4 (l.map Az)
def Du.fits (x:Du):Prop:=∀c∈x.chain,c.fits
structure A5 where
 name:List UInt8
 least:Int
 most:Int
 AJ:List Int
 own:Bool
 ids:List Du
 anchors:List Int
 hashes:List Int
 Fq:Bool
abbrev Ah (e:A5):List Pr:=[str e.name,int e.least,int e.most,ints e.AJ,bool e.own,Eu e.ids,ints e.anchors,ints e.hashes,bool e.Fq]
structure A5.fits (e:A5):Prop where
 name:e.name.length≤maxLen
 ids:∀x∈e.ids,x.fits
def FG (l:List Int) (i:Nat):Bool:=decide (i=0)||decide (l[i-1]?.getD 0<l[i]?.getD 0)
def Pg (l:List Int):Bool:=allI (FG l) l.length
def DZ (l:List Int) (i:Nat):Bool:=decide (1≤l[i]?.getD 0∧l[i]?.getD 0≤16)&& !((l.take i).any fun x=>l[i]?.getD 0==x)
def FY (l:List Int):Bool:=allI (DZ l) l.length
def Ic (n:Int):Bool:=(DT n).kind==1
def Ui (x:Du):Bool:=NW x.Bp x.bits x.BX x.chain
def B_ (e:A5):Bool:=
 (Hv e.name&&decide (1≤e.least)&&decide (e.least≤e.most)&&decide (e.most≤4)&&FY e.AJ)&&
 (decide (e.ids.length≤4)&&decide (e.anchors.length≤16)&&Pg e.anchors&&Pg e.hashes)&&e.ids.all Ui&&e.anchors.all E6&&e.hashes.all Ic
theorem To {β:Type} (p:β→Bool) (l:List β):(l.any fun x=> !p x)= !l.all p:=by
 induction l with
 |nil=>rfl
 |cons a l ih=>rw [List.any_cons,List.all_cons,ih];cases p a<;>rfl
theorem Bi {β:Type} {l:List β} {k:Nat} {x d:β} (h:l[k]? =some x):l[k]?.getD d=x:=by rw [h];rfl
theorem eF {s:List UInt8} {c:UInt8}  :A_ prog 264 [str s,is (.int .u8 ((c.toNat:Nat):Int))] (int (Lib.indexByte s c)):=by
 refine fo func264 rfl ⟨rfl,rfl⟩ fun M0 w0=> ?_
 refine a2 ?_
 refine co rfl (SF rfl func293 (by kernel_rfl) (by kernel_rfl) (by kernel_rfl) (by kernel_rfl) (vl rfl) (vl rfl)) ?_
 refine a2 ?_
 · exact Lr
theorem La {s:List UInt8} {c:UInt8}  :A_ prog 222 [str s,is (.int .u8 ((c.toNat:Nat):Int))] (int (Lib.indexByte s c)):=by
 refine fo func222 rfl ⟨rfl,rfl⟩ fun M0 w0=> ?_
 refine a2 ?_
 refine co rfl (C8 (eF) rfl rfl rfl) ?_
 refine a2 ?_
 · exact Lr
theorem Wf {o:List UInt8} {c:UInt8}  :A_ prog 188 [is (.int .u8 ((c.toNat:Nat):Int)),str o] (bool (Cl o c)):=by
 refine fo func188 rfl ⟨rfl,rfl⟩ fun M0 w0=> ?_
 refine ac ?_
 refine ag ?_ ?_<;>intro h1 q1
 refine ag ?_ ?_<;>intro h2 q2
 refine ac ?_
 refine Es 4 rfl ?_
 refine ac ?_
 · refine bool_eq ?_;unfold Cl;simp_all;omega
 refine ag ?_ ?_<;>intro h3 q3
 refine ag ?_ ?_<;>intro h4 q4
 refine ac ?_
 refine Es 4 rfl ?_
 refine ac ?_
 · refine bool_eq ?_;unfold Cl;simp_all;omega
 refine ag ?_ ?_<;>intro h5 q5
 · repeat' first|(refine bool_eq ?_;unfold Cl;simp_all;omega)|refine cy h rfl (C8 (La) rfl rfl rfl) ?_|refine ac ?_|(refine Ch.cg rfl rfl rfl ?_ ?_<;>intro h q)
 refine ac ?_
 refine cy rfl rfl (C8 (La) rfl rfl rfl) ?_
 refine ac ?_
 refine Es 4 rfl ?_
 refine ac ?_
 · refine bool_eq ?_;unfold Cl;simp_all;omega
 refine ag ?_ ?_<;>intro h7 q7
 · repeat' first|(refine bool_eq ?_;unfold Cl;simp_all;omega)|refine cy h rfl (C8 (La) rfl rfl rfl) ?_|refine ac ?_|(refine Ch.cg rfl rfl rfl ?_ ?_<;>intro h q)
 refine ac ?_
 refine cy rfl rfl (C8 (La) rfl rfl rfl) ?_
 refine ac ?_
 refine Es 4 rfl ?_
 refine ac ?_
 · refine bool_eq ?_;unfold Cl;simp_all;omega
 refine ag ?_ ?_<;>intro h9 q9
 refine ag ?_ ?_<;>intro h10 PZ
 refine ac ?_
 refine Es 4 rfl ?_
 refine ac ?_
 · refine bool_eq ?_;unfold Cl;simp_all;omega
 refine ag ?_ ?_<;>intro h11 Qx
 · repeat' first|(refine bool_eq ?_;unfold Cl;simp_all;omega)|refine cy h rfl (C8 (La) rfl rfl rfl) ?_|refine ac ?_|(refine Ch.cg rfl rfl rfl ?_ ?_<;>intro h q)
 refine ac ?_
 refine cy rfl rfl (C8 (La) rfl rfl rfl) ?_
 refine ac ?_
 refine Es 4 rfl ?_
 refine ac ?_
 · refine bool_eq ?_;unfold Cl;simp_all;omega
 refine ag ?_ ?_<;>intro H8 Tp
 · repeat' first|(refine bool_eq ?_;unfold Cl;simp_all;omega)|refine cy h rfl (C8 (La) rfl rfl rfl) ?_|refine ac ?_|(refine Ch.cg rfl rfl rfl ?_ ?_<;>intro h q)
 refine ac ?_
 refine cy rfl rfl (C8 (La) rfl rfl rfl) ?_
 refine ac ?_
 refine Es 4 rfl ?_
 refine ac ?_
 · refine bool_eq ?_;unfold Cl;simp_all;omega
theorem eG {s:List UInt8} (hs:s.length≤maxLen):A_ prog 142 [str s] (bool (Hv s)):=by
 refine fo func142 rfl ⟨rfl,rfl⟩ fun M0 w0=> ?_
 refine a2 ?_
 refine co rfl (M9 rfl underlying9 underlying198 underlying5 (vl rfl) (by assumption)) ?_
 refine ac ?_
 refine Tr.block (Tr.Cr 6 rfl fun hl6=>(Tr.BF [(0,_),(6,_),(7,_)] (Js rfl) (fun k:Nat=>[(8,int ((k:Nat):Int))]) (fun k:Nat=>k≤(s).length∧(∀j y,j<k→s[j]? =some y→(!Cl [45,95,46] y)=false)) (fun k:Nat=>(s).length-k) 0 (⟨Nat.zero_le _,fun j y hj=>absurd hj (by omega)⟩) ⟨ke rfl,trivial⟩ ?_))
 rintro k ⟨BN,AL⟩
 refine ac ?_
 refine Tr.seq ?_
 refine Tr.cn rfl ?_ ?_<;>intro h1 q1
 have Ac:k<(s).length:=AU h1
 obtain ⟨c,Aa⟩:=at_ Ac
 refine ac ?_
 refine Tr.seq (Tr.block (Tr.seq (Tr.A3 (co rfl (AA rfl underlying198 J5 (vl rfl) (vl rfl) (by omega) (by exact AX (by assumption))) ?_))))
 · repeat' first|(refine bool_eq ?_;unfold Hv;rw [HW (p:=Cl [45,95,46]) Aa (by simp_all)];rfl)|exact Fin.AM (k+1) ⟨⟨Ac,DK (p:=fun c=> !Cl [45,95,46] c) Aa (by simp_all) AL⟩,by omega⟩ ⟨⟨_,rfl,AK k⟩,ke rfl,ke rfl,ke rfl,trivial⟩|refine co rfl (C8 (Wf) rfl rfl rfl) ?_|refine ac ?_|(refine Tr.cn rfl ?_ ?_<;>intro h q)
 have A4:k=(s).length:=by have:=AV h1;omega
 subst A4
 · repeat' first|(refine bool_eq ?_;unfold Hv;rw [E4 AL,Bool.true_and];rw [decide_eq_decide];omega)|(refine bool_eq ?_;unfold Hv;rw [E4 AL,Bool.true_and];symm;rw [decide_eq_false_iff_not];omega)|refine ac ?_|(refine Ch.cg rfl rfl rfl ?_ ?_<;>intro h q)
theorem SN {n:Int}  :A_ prog 149 [int n] (bool (E6 n)):=by
 refine fo func149 rfl ⟨rfl,rfl⟩ fun M0 w0=> ?_
 refine ac ?_
 refine ac ?_
 refine Ch.cs 5 rfl ?_ ?_<;>intro h1 q1
 refine ac ?_
 refine ac ?_
 · refine bool_eq ?_;unfold E6;simp_all
 refine ac ?_
 refine ac ?_
 · refine bool_eq ?_;unfold E6;simp_all;omega
theorem eH:Entry Tryz.prog 149:=⟨_,Tryz.func149,rfl,rfl⟩
theorem eI {n:Int}  :A_ prog 269 [int n] (bool (Uh n)):=by
 refine fo func269 rfl ⟨rfl,rfl⟩ fun M0 w0=> ?_
 refine ac ?_
 refine ac ?_
 refine Ch.cs 5 rfl ?_ ?_<;>intro h1 q1
 refine ac ?_
 refine ac ?_
 · refine bool_eq ?_;unfold Uh;simp_all
 refine ac ?_
 refine ac ?_
 · refine bool_eq ?_;unfold Uh;simp_all;omega
theorem b_ {Bp bits kind:Int}  :A_ prog 268 [agg [int Bp,int bits],int kind] (bool (En Bp bits kind)):=by
 refine fo func268 rfl ⟨rfl,rfl⟩ fun M0 w0=> ?_
 refine ac ?_
 refine ac ?_
 refine co rfl (B1 (Pa) rfl rfl) (cm rfl ?_)
 refine Ch.cs 7 rfl ?_ ?_<;>intro h1 q1
 refine ac ?_
 refine cy h1 rfl (B1 (SH) rfl rfl) ?_
 refine ac ?_
 refine ac ?_
 · refine bool_eq ?_;unfold En;simp_all
 refine ac ?_
 refine ac ?_
 · refine bool_eq ?_;unfold En;simp_all;omega
theorem Wg {l:List (List UInt8)} (hf:∀s∈l,s.length≤maxLen):A_ prog 267 [Pf l] (bool (DA l)):=by
 refine fo func267 rfl ⟨rfl,rfl⟩ fun M0 w0=>(Tr.Cr 0 rfl fun Dj=> ?_)
 refine a2 ?_
 refine Tr.block (Tr.BF [(0,_),(5,_),(6,_)] (Js rfl) (fun k:Nat=>[(7,int ((k:Nat):Int))]) (fun k:Nat=>k≤(l).length∧(∀j,j<k→nameAt l j=true)) (fun k:Nat=>(l).length-k) 0 (⟨Nat.zero_le _,fun j hj=>absurd hj (by omega)⟩) ⟨ke rfl,trivial⟩ ?_)
 rintro k ⟨BN,AL⟩
 refine ac ?_
 refine Tr.seq ?_
 refine Tr.cn rfl ?_ ?_<;>intro h1 q1
 have Ac:k<(l).length:=AU h1
 obtain ⟨s,Aa⟩:=at_ Ac
 have hsf:=hf s (List.mem_of_getElem? Aa)
 have hg:=Bi (d:=[]) Aa
 refine a2 ?_
 refine co rfl (AA rfl underlying74 G0 (vl rfl) (vl rfl) (by omega) (AX Aa)) ?_
 refine a2 ?_
 refine co rfl (B1 (L5 hsf) rfl rfl) ?_
 refine ag ?_ ?_<;>intro h2 q2
 refine ac ?_
 refine Ej 0 5 6 7 27 rfl ?_
 refine a2 ?_
 · refine bool_eq ?_;unfold DA;rw [C0 (p:=nameAt l) (k:=k) (by omega) (by unfold nameAt;rw [hg];simp_all)];rfl
 refine ag ?_ ?_<;>intro h3 q3
 have Qz:0<k:=by simpa using h3
 obtain ⟨y,hy⟩:=at_ (l:=l) (k:=k-1) (by omega)
 have IC:=Bi (d:=[]) hy
 · repeat' first|(refine bool_eq ?_;unfold DA;rw [C0 (p:=nameAt l) (k:=k) (by omega) (by unfold nameAt;rw [hg,IC];simp_all;omega)];rfl)|(exact Fin.AM (k+1) ⟨⟨Ac,Bq AL (by unfold nameAt;rw [hg,IC];simp_all)⟩,by omega⟩ ⟨⟨_,rfl,AK k⟩,ke rfl,ke rfl,ke rfl,trivial⟩)|(refine cy h3 rfl (AA rfl underlying74 G0 (vl rfl) (vl rfl) (by omega) (by rw [show ((k:Nat):Int)-1=((k-1:Nat):Int) by omega];exact AX hy)) ?_)|refine cy h3 rfl (JX rfl (vl rfl) (vl rfl)) ?_|refine ac ?_|(refine Tr.cn rfl ?_ ?_<;>intro h q)
 refine ac ?_
 refine Ej 0 5 6 7 27 rfl ?_
 refine a2 ?_
 exact Fin.AM (k+1) ⟨⟨Ac,Bq AL (by unfold nameAt;rw [hg];simp_all)⟩,by omega⟩ ⟨⟨_,rfl,AK k⟩,ke rfl,ke rfl,ke rfl,trivial⟩
 have A4:k=(l).length:=by have:=AV h1;omega
 subst A4
 refine a3 ?_
 · refine bool_eq ?_;unfold DA;rw [IW AL,Bool.true_and];simp;omega
theorem Wh {c:FF} (hc:c.fits):A_ prog 225 [agg (CZ c)] (bool (B9 c)):=by
 refine fo func225 rfl ⟨rfl,rfl⟩ fun M0 w0=> ?_
 · repeat' first|(refine bool_eq ?_;unfold B9;simp_all;omega)|(refine bool_eq ?_;unfold B9;simp_all)|refine cy h rfl (B1 (L5 hc.HZ) rfl rfl) ?_|refine cy h rfl (B1 (L5 hc.F3) rfl rfl) ?_|refine cy h rfl (B1 (Wg hc.names) rfl rfl) ?_|refine co rfl (C8 (b_) rfl rfl rfl) ?_|refine cy h rfl (C8 (b_) rfl rfl rfl) ?_|refine cy h rfl (B1 (eI) rfl rfl) ?_|refine cy h rfl (B1 (SN) rfl rfl) ?_|refine ac ?_|(refine Tr.cn rfl ?_ ?_<;>intro h q)|(refine Ch.cg rfl rfl rfl ?_ ?_<;>intro h q)
theorem Wi {c:FF} (hc:c.fits):A_ prog 192 [agg (CZ c)] (int (if B9 c then 0 else 9)):=by
 refine fo func192 rfl ⟨rfl,rfl⟩ fun M0 w0=> ?_
 · repeat' first|(refine int_eq ?_;simp_all)|refine co rfl (B1 (Wh (by assumption)) rfl rfl) ?_|refine ac ?_|(refine Tr.cn rfl ?_ ?_<;>intro h q)
end Go.Proofs.YtppeeogffbpcbaaGreat
