/-
  Part 3 of the texts that prove this claim, merged.
-/
import Derived.Lib.Bytealg
import Derived.Test.YtgilhkjlfongoaaGreatRows
import Derived.Test.YtgilhkjlfongoaaGreatIdMadeP2
set_option linter.all false
set_option maxRecDepth 40000
set_option maxHeartbeats 16000000
namespace Cp
open Go Go.RowKit Go.Great
section
variable {P:Program} {L:Lg P} {n:Fm} {fz:Nat} {E:Env} {M0:Av} {w0:World} {S:Nat→Prop} {rs:List Ao} {o:Oper}
theorem Qh {I:B5} {t e:TypeId} {x:Operand} {A:Option Addr} {m cap:Nat} (ho:o.op= .call { callee:= .builtin .cap,args:= #[x],argTypes:= #[t] }) (ht:P.underlying t=some (.slice e)) (hx:VL E x (is (.slice A m cap))):AS P I o E (int cap):=
 AS.same fun M w a he _=>by
  have h1:a.eval x=_:=hx.ev he (by simp [ho,Op.operands,Call.operands])
  exact ⟨.int .i64 cap,by simp [execOp,ho,resolve,invoke,builtin,Builtin.cap_,h1,run_underlying ht,goInt],rfl⟩
theorem Hz {I:B5} {t e:TypeId} {x y:Operand} {k:IntKind} {h:Int} {sz b m cap:Nat} (ho:o.op= .slice t x none (some y) none) (ht:P.underlying t=some (.slice e)) (hz:Ax P e=some sz) (hx:VL E x (is (.slice (some ⟨b,0,none⟩) m cap))) (hy:VL E y (is (.int k h))) (h0:0≤h) (hl:h≤cap) (jc:0<cap):
  AS P I o E (is (.slice (some ⟨b,0,none⟩) h.toNat cap)):=
 AS.same fun M w a he _=>by
  have h1:a.eval x=_:=hx.ev he (by simp [ho,Op.operands])
  have h3:a.eval y=_:=hy.ev he (by simp [ho,Op.operands])
  refine ⟨_,?_,rfl⟩
  simp [execOp,ho,h1,h3,Instr.sliceAt,Instr.slice,run_underlying ht,Instr.sliceBounds,Instr.sliceBound,asIntOf,h0,hl,BZ hz]
  intro _;rfl
theorem H6 {I:B5} {t e:TypeId} {x y:Operand} {k:IntKind} {l:Int} {sz b m cap:Nat} (ho:o.op= .slice t x (some y) none none) (ht:P.underlying t=some (.slice e)) (hz:Ax P e=some sz) (hx:VL E x (is (.slice (some ⟨b,0,none⟩) m cap))) (hy:VL E y (is (.int k l))) (h0:0≤l) (hl:l≤m) (hc:m≤cap):
  AS P I o E (lens (m-l.toNat)):=
 AS.same fun M w a he _=>by
  have h1:a.eval x=_:=hx.ev he (by simp [ho,Op.operands])
  have h3:a.eval y=_:=hy.ev he (by simp [ho,Op.operands])
  have hb:l≤(m:Int):=by omega
  refine ⟨.slice (if cap=l.toNat then some ⟨b,0,none⟩ else some ⟨b,l.toNat*sz,none⟩) (m-l.toNat) (cap-l.toNat),?_,_,_,rfl⟩
  by_cases hne:cap=l.toNat<;>
  simp [execOp,ho,h1,h3,Instr.sliceAt,Instr.slice,run_underlying ht,Instr.sliceBounds,Instr.sliceBound,asIntOf,h0,hb,BZ hz,hne,CH]
theorem Tr.Fi {Q:Exit→Act→World→Prop} {c:Code} {e:TypeId} {sz b cap m:Nat} {rows:List (List Pr)} {sp:List Value} {ps:List Pr} (j:Nat) (hj:rs[j]? =some (AA true b e ps)) (hps:ps=rows.flatten++sp.map is) (hm:rows.length=m) (h1:m≤cap) (h2:cap≤maxLen) (h3:sp.length=(cap-m)*sz)
  (k:Tr L n E (Hp M0 w0 S (rs.set j (Al e sz rows (.slice (some ⟨b,0,none⟩) m cap)))) c Q):Tr L n E (Hp M0 w0 S rs) c Q:=Tr.conv (fun _ _ hs=>hs.Fi j (by rw [hj,hps]) hm h1 h2 h3) k
theorem Fin.Ms {Q:Exit→Act→World→Prop} {x:Exit} {e:TypeId} {sz b cap m:Nat} {rows:List (List Pr)} {sp:List Value} {ps:List Pr} (j:Nat) (hj:rs[j]? =some (AA true b e ps)) (hps:ps=rows.flatten++sp.map is) (hm:rows.length=m) (h1:m≤cap) (h2:cap≤maxLen) (h3:sp.length=(cap-m)*sz)
  (k:Fin n E (Hp M0 w0 S (rs.set j (Al e sz rows (.slice (some ⟨b,0,none⟩) m cap)))) Q x):Fin n E (Hp M0 w0 S rs) Q x:=Fin.conv (fun _ _ hs=>hs.Fi j (by rw [hj,hps]) hm h1 h2 h3) k
theorem A5.Lu {f:FuncId} {e:TypeId} {sz:Nat} {rows:List (List Pr)} {v:Value} {p:Pr} {ps:List Pr} {res:Pr} {R':Value→Ao} (hE:Entry P f) (h0:rows=[]→v= .slice none 0 0→A5 P f (is (.slice none 0 0)::ps) res BT R')
  (h1:∀(b cap:Nat) (sp:List Value),v= .slice (some ⟨b,0,none⟩) rows.length cap→rows.length≤cap→cap≤maxLen→sp.length=(cap-rows.length)*sz→A5 P f (Aq (.slice (some ⟨b,0,none⟩) rows.length cap) (lens rows.length)::ps) res (AA true b e (rows.flatten++sp.map is)) R'):
  A5 P f (Aq v p::ps) res (Al e sz rows v) R':=by
 refine ⟨hE,fun M0 w0 S rs M w vs hI hv=> ?_⟩
 match vs,hv with
 |u0::vs1,FX=>
  obtain ⟨JX,F7⟩:=FX
  obtain rfl:u0=v:=JX.1
  have hb0:=hI.hold _ (List.mem_cons_self ..)
  rcases hb0.1 with ⟨hnil,rfl⟩|Mp
  ·
   have JG:=hI.Bt (i:=0) (r':=BT) rfl rfl rfl trivial
   exact (h0 hnil rfl).2 M0 w0 S rs M w _ JG (show HL M w (_::_) (_::vs1) from ⟨rfl,F7⟩)
  ·
   obtain ⟨b,cap,spare,rfl,hnc,hcm,hsp,O_⟩:=Mp
   have hC:=hI.Bt (i:=0) (r':=AA true b e (rows.flatten++spare.map is)) rfl rfl rfl O_
   exact (h1 b cap spare rfl hnc hcm hsp).2 M0 w0 S rs M w _ hC (show HL M w (_::_) (_::vs1) from ⟨⟨rfl,_,_,rfl⟩,F7⟩)
theorem A5.Kr {f:FuncId} {e:TypeId} {sz:Nat} {rows:List (List Pr)} {ps:List Pr} {res:Pr} {R:Ao} (h:A5 P f ps res R (fun v=>E6 e sz rows v)):A5 P f ps res R (fun v=>Al e sz rows v):=by
 refine ⟨h.1,fun M0 w0 S rs M w vs hI hv=>(h.2 M0 w0 S rs M w vs hI hv).mono ?_⟩
 rintro e' w' ⟨v,M',rfl,h2,h3,h4⟩
 exact ⟨v,M',rfl,h2,h3,h4.Bt (i:=0) rfl rfl rfl (.inr (h4.hold _ (List.mem_cons_self ..)).1)⟩
theorem A5.Nt {f:FuncId} {e:TypeId} {sz:Nat} {rows:List (List Pr)} {v:Value} {p:Pr} {ps:List Pr} {res:Pr} [Ht res] (hE:Entry P f) (h0:rows=[]→v= .slice none 0 0→Be P f (is (.slice none 0 0)::ps) res)
  (h1:∀(b cap:Nat) (sp:List Value),v= .slice (some ⟨b,0,none⟩) rows.length cap→rows.length≤cap→cap≤maxLen→sp.length=(cap-rows.length)*sz→A5 P f (Aq (.slice (some ⟨b,0,none⟩) rows.length cap) (lens rows.length)::ps) res (AA true b e (rows.flatten++sp.map is)) (fun _=>AA true b e (rows.flatten++sp.map is))):
  A5 P f (Aq v p::ps) res (Al e sz rows v) (fun _=>Al e sz rows v):=by
 refine ⟨hE,fun M0 w0 S rs M w vs hI hv=> ?_⟩
 match vs,hv with
 |u0::vs1,FX=>
  obtain ⟨JX,F7⟩:=FX
  obtain rfl:u0=v:=JX.1
  have hb0:=hI.hold _ (List.mem_cons_self ..)
  rcases hb0.1 with ⟨hnil,rfl⟩|Mp
  ·
   refine ((h0 hnil rfl).2 M w _ hI.bd (show HL M w (_::_) (_::vs1) from ⟨rfl,F7⟩)).mono ?_
   rintro e' w' ⟨u,rfl,h2,h3⟩
   have JG:Am M0 w0 S (Al e sz rows (.slice none 0 0)::rs) M w':=(Hp M0 w0 S _).st _ _ _ h3 hI
   exact ⟨u,M,rfl,Ht.free _ _ _ _ h2,Ext.below h3,JG⟩
  ·
   obtain ⟨b,cap,spare,rfl,hnc,hcm,hsp,O_⟩:=Mp
   have hC:=hI.Bt (i:=0) (r':=AA true b e (rows.flatten++spare.map is)) rfl rfl rfl O_
   refine ((h1 b cap spare rfl hnc hcm hsp).2 M0 w0 S rs M w _ hC (show HL M w (_::_) (_::vs1) from ⟨⟨rfl,_,_,rfl⟩,F7⟩)).mono ?_
   rintro e' w' ⟨u,M',rfl,h2,h3,h4⟩
   exact ⟨u,M',rfl,h2,h3,h4.Bt (i:=0) rfl rfl rfl (.inr ⟨b,cap,spare,rfl,hnc,hcm,hsp,(h4.hold _ (List.mem_cons_self ..)).1⟩)⟩
theorem RZ {A S:List Pr} {X:Pr} {i n:Nat} (hA:A.length=n) (hi:i<n) (hS:0<S.length) {P1 P2:List Pr}
  (h1:P1=(A++S).take (i+1)++((A++S).drop i).take (n-i)++(A++S).drop (i+1+(n-i))) (h2:P2=P1.take i++[X]++P1.drop (i+1)):P2=(A.take i++[X]++A.drop i)++S.drop 1:=by
 have e1:(A++S).take (i+1)=A.take i++(A.drop i).take 1:=by
  rw [List.take_append_of_le_length (by omega),List.take_add]
 have e2:((A++S).drop i).take (n-i)=A.drop i:=by
  rw [List.drop_append_of_le_length (by omega),List.take_append_of_le_length (by rw [List.length_drop];omega),List.take_of_length_le (by rw [List.length_drop];omega)]
 have e3:(A++S).drop (i+1+(n-i))=S.drop 1:=by
  rw [show i+1+(n-i)=A.length+1 by omega,List.drop_append];simp
 have l1:(A.take i).length=i:=by rw [List.length_take];omega
 have l2:((A.drop i).take 1).length=1:=by rw [List.length_take,List.length_drop];omega
 rw [e1,e2,e3] at h1
 subst h1
 subst h2
 have t1:(A.take i++(A.drop i).take 1++A.drop i++S.drop 1).take i=A.take i:=by
  rw [List.append_assoc,List.append_assoc];exact List.take_left' l1
 have t2:(A.take i++(A.drop i).take 1++A.drop i++S.drop 1).drop (i+1)=A.drop i++S.drop 1:=by
  rw [List.append_assoc];exact List.drop_left' (by rw [List.length_append];omega)
 rw [t1,t2]
 simp
theorem Ra {A S Z:List Pr} {X:Pr} {i n:Nat} (hA:A.length=n) (hi:i<n) (hZ:n+1-i≤Z.length) {P0 P1 P2:List Pr}
  (h0:P0=(A++S).take i++Z) (h1:P1=P0.take i++[X]++P0.drop (i+1)) (h2:P2=P1.take (i+1)++A.drop i++P1.drop (i+1+(n-i))):P2=(A.take i++[X]++A.drop i)++Z.drop (n+1-i):=by
 have l1:(A.take i).length=i:=by rw [List.length_take];omega
 rw [List.take_append_of_le_length (by omega)] at h0
 subst h0
 have e1:(A.take i++Z).take i=A.take i:=by rw [List.take_append_of_le_length (by omega),List.take_of_length_le (by omega)]
 have e2:(A.take i++Z).drop (i+1)=Z.drop 1:=by rw [List.drop_append,List.drop_of_length_le (by omega),List.nil_append,l1];congr 1;omega
 rw [e1,e2] at h1
 subst h1
 have l2:(A.take i++[X]).length=i+1:=by simp;omega
 have e3:(A.take i++[X]++Z.drop 1).take (i+1)=A.take i++[X]:=by rw [List.take_append_of_le_length (by omega),List.take_of_length_le (by omega)]
 have e4:(A.take i++[X]++Z.drop 1).drop (i+1+(n-i))=Z.drop (n+1-i):=by
  rw [List.drop_append,List.drop_of_length_le (by omega),List.nil_append,l2,List.drop_drop];congr 1;omega
 rw [e3,e4] at h2
 exact h2
theorem Ks {A S B:List Pr} {X:Pr} {i n o1 o2 o3 o4 o5 o6:Nat} {X1:List Pr} (hA:A.length=n) (hi:i<n) (hS:0<S.length) (h1:o1=i+1) (h2:o2=i) (h3:o3=n-i) (h4:o4=i+1+(n-i)) (h5:o5=i) (h6:o6=i+1) (hX:X1=[X]) (hB:B=(A.take i++[X]++A.drop i)++S.drop 1):
  ((A++S).take o1++((A++S).drop o2).take o3++(A++S).drop o4).take o5++X1++((A++S).take o1++((A++S).drop o2).take o3++(A++S).drop o4).drop o6=B:=by
 subst h1 h2 h3 h4 h5 h6 hX hB
 exact RZ hA hi hS rfl rfl
theorem Kt {A S Z B R:List Pr} {X:Pr} {i n o0 o1 o2 o3 o4:Nat} {X1:List Pr} (hA:A.length=n) (hi:i<n) (hZ:n+1-i≤Z.length) (h0:o0=i) (h1:o1=i) (h2:o2=i+1) (h3:o3=i+1) (h4:o4=i+1+(n-i)) (hX:X1=[X]) (hR:R=A.drop i) (hB:B=(A.take i++[X]++A.drop i)++Z.drop (n+1-i)):
  (((A++S).take o0++Z).take o1++X1++((A++S).take o0++Z).drop o2).take o3++R++(((A++S).take o0++Z).take o1++X1++((A++S).take o0++Z).drop o2).drop o4=B:=by
 subst h0 h1 h2 h3 h4 hX hR hB
 exact Ra hA hi hZ rfl rfl rfl
theorem Ku {β:Type} {f:β→List Pr} (hf:∀x,(f x).length=1):∀(l:List β) (i:Nat),((l.map f).flatten).take i=((l.take i).map f).flatten
 |[],i=>by simp
 |a::l,0=>by simp
 |a::l,i+1=>by
  rw [List.map_cons,List.flatten_cons,List.take_succ_cons,List.map_cons,List.flatten_cons,←Ku hf l i,List.take_append,hf a,List.take_of_length_le (by rw [hf a];omega)];rfl
theorem Fj {β:Type} {f:β→List Pr} (hf:∀x,(f x).length=1):∀(l:List β) (i:Nat),((l.map f).flatten).drop i=((l.drop i).map f).flatten
 |[],i=>by simp
 |a::l,0=>by simp
 |a::l,i+1=>by
  rw [List.map_cons,List.flatten_cons,List.drop_succ_cons,←Fj hf l i,List.drop_append,hf a,List.drop_of_length_le (by rw [hf a];omega)];rfl
theorem H7 {β:Type} {f:β→List Pr} (hf:∀x,(f x).length=1) {l:List β} {i:Nat} {x:β} {X:Pr} (hX:f x=[X]):((l.map f).flatten).take i++[X]++((l.map f).flatten).drop i=((l.take i++[x]++l.drop i).map f).flatten:=by
 rw [Ku hf,Fj hf,List.map_append,List.map_append,List.flatten_append,List.flatten_append,List.map_singleton,hX];simp
instance ZU (p q:Pr) [Ht p] [Ht q]:Ht (FZ [p,q]):=⟨fun M M' w v ⟨cs,h1,h2⟩=>⟨cs,h1,by
 match cs,h2 with
 |[a,b],h2=>exact ⟨Ht.free _ _ _ _ h2.1,Ht.free _ _ _ _ h2.2.1,trivial⟩⟩⟩
theorem Nu {I:B5} {s t:TypeId} {x:Operand} {k:IntKind} {n:Int} (ho:o.op= .convert s t x) (hs:P.underlying s=some (.int k)) (ht:P.underlying t=some (.int .u64)) (hx:VL E x (is (.int k n))) (h0:0≤n) (h1:n≤18446744073709551615):AS P I o E (is (.int .u64 n)):=by
 have:=Er (P:=P) (I:=I) ho hs ht hx
 rwa [IntWalk.u64_in n ⟨h0,h1⟩] at this
theorem Qi {I:B5} {t u:TypeId} {x y:Operand} {m:Int} (ho:o.op= .binOp .shr t x y u) (hx:VL E x (is (.int .u64 m))) (hy:VL E y (is (.int .u64 1))) (h0:0≤m):AS P I o E (is (.int .u64 (m/2))):=
 AS.same fun M w a he _=>by
  have h1:a.eval x= .int .u64 m:=hx.ev he (by simp [ho,Op.operands])
  have h2:a.eval y= .int .u64 1:=hy.ev he (by simp [ho,Op.operands])
  refine ⟨.int .u64 (m.fdiv 2),?_,congrArg (Value.int .u64) (Int.fdiv_eq_ediv_of_nonneg m (by omega))⟩
  simp only [execOp,ho,h1,h2]
  simp [eqGuard,binOp,Op.shift,IntKind.bits]
end
section
variable {P:Program} {L:Lg P} {n:Fm} {fz:Nat} {E:Env} {M0:Av} {w0:World} {S:Nat→Prop} {o:Oper}
def VZ (new:Bool) (b:Nat) (T:TypeId) (off:Nat) (p:Pr) (ps:Value→List Pr) (u:Value):Ao:=match u with
 | .tuple t=>AA new b T ((ps (t.getD 0 undef)).take off++[Aq (t.getD 1 undef) p]++(ps (t.getD 0 undef)).drop (off+1))
 |_=>BT
theorem Rb {t:TypeId} {x:Operand} {q0 q:Tmp} {j:Nat} {new:Bool} {b off:Nat} {T:TypeId} {ps:Value→List Pr} {p:Pr} [One p] (hg:o.guard=none) (hd:o.dst=none) (ho:o.op= .store t x (.tmp q)) (hx:VL E x (ptr b off)) (hy:E.lookup q=some p)
  (hz:Ax P t=some 1) (hl:∀v,off+1≤(ps v).length):DH P M0 w0 S n j ⟨.one q0,fun v=>AA new b T (ps v)⟩ ⟨.two q0 q,VZ new b T off p ps⟩ o E any:=by
 refine ⟨hg,fun M w a rs hsz he hI hj=> ?_⟩
 have hj':rs[j]? =some (SR.at_ a (SR.c (AA new b T (ps (a.tmps.getD q0 undef))))):=hj
 obtain ⟨h1,h2⟩:=Ik (P:=P) (M0:=M0) (w0:=w0) (S:=S) (n:=n) (j:=j) (new:=new) (T:=T) (ps:=ps (a.tmps.getD q0 undef)) (b:=b) (off:=off) hg hd ho hx hy hz (hl _)
 have h3:=h2 M w a rs hsz he hI hj'
 revert h3
 generalize (execOp a.eval o).run P w=r
 have key:∀v,SR.at_ (a.put o.dst v) ⟨.one q,fun v=>AA new b T ((ps (a.tmps.getD q0 undef)).take off++[Aq v p]++(ps (a.tmps.getD q0 undef)).drop (off+1))⟩=SR.at_ (a.put o.dst v) ⟨.two q0 q,VZ new b T off p ps⟩:=fun v=>by rw [hd];rfl
 intro h3
 cases r with
 |halt x w'=>exact h3
 |ok x w'=>
  cases x
  case value v=>obtain ⟨M',g1,g2,g3⟩:=h3;exact ⟨M',g1,g2,by rw [←key];exact g3⟩
  case skip=>obtain ⟨M',g1,g2,g3⟩:=h3;exact ⟨M',g1,g2,by rw [←key];exact g3⟩
  case enter f args=>
   refine Calls.mono h3 ?_
   rintro e w'' ⟨v,M',g0,g1,g2,g3⟩
   exact ⟨v,M',g0,g1,g2,by rw [←key];exact g3⟩
  all_goals exact h3
theorem BJ.bB {Q:Exit→Act→World→Prop} {rs:List SR} (j1 j2 i s t:Nat) {f g:Value→Ao} {new:Bool} {b off:Nat} {T:TypeId} {ps:Value→List Pr} {p q r:Pr} (h1:rs[j1]? =some ⟨.one s,f⟩) (h2:rs[j2]? =some ⟨.one t,g⟩) (h3:rs[i]? =some ⟨.two s t,VZ new b T off r ps⟩) (h12:j1≠j2) (Od:j1≠i) (h23:j2≠i) (hst:s≠t) (hs:E.lookup s=some p) (ht:E.lookup t=some q)
  (k:∀v u,BJ n M0 w0 S ((t,Aq u q)::(s,Aq v p)::E) (((rs.set j1 (SR.c (f v))).set j2 (SR.c (g u))).set i (SR.c (AA new b T ((ps v).take off++[Aq u r]++(ps v).drop (off+1))))) Q):BJ n M0 w0 S E rs Q:=by
 rintro a w ⟨M,g1,g2,g3,g4⟩
 refine k (a.tmps.getD s undef) (a.tmps.getD t undef) a w ⟨M,g1,g2,?_,?_⟩
 ·
  intro c z hz
  simp only [List.lookup] at hz
  by_cases hct:c=t
  · subst hct;simp only [beq_self_eq_true,Option.some.injEq] at hz;subst hz;exact ⟨rfl,g3 c q ht⟩
  ·
   rw [show (c==t)=false by simpa using hct] at hz
   by_cases hcs:c=s
   · subst hcs;simp only [beq_self_eq_true,Option.some.injEq] at hz;subst hz;exact ⟨rfl,g3 c p hs⟩
   · rw [show (c==s)=false by simpa using hcs] at hz;exact g3 c z hz
 ·
  have e1:=Mg h1 a
  have e2:=Mg (rs:=rs.set j1 (SR.c (f (a.tmps.getD s undef)))) (j:=j2) (s:=t) (f:=g) (by rw [List.getElem?_set,if_neg h12];exact h2) a
  have h3':((rs.set j1 (SR.c (f (a.tmps.getD s undef)))).set j2 (SR.c (g (a.tmps.getD t undef))))[i]? =some ⟨.two s t,VZ new b T off r ps⟩:=by
   rw [List.getElem?_set,if_neg h23,List.getElem?_set,if_neg Od];exact h3
  rw [List.map_set,e2,e1]
  have e3:(rs.map (·.at_ a)).set i (AA new b T ((ps (a.tmps.getD s undef)).take off++[Aq (a.tmps.getD t undef) r]++(ps (a.tmps.getD s undef)).drop (off+1)))=rs.map (·.at_ a):=by
   apply List.ext_getElem?
   intro m
   rw [List.getElem?_set]
   by_cases fG:i=m
   ·
    subst fG
    rw [if_pos rfl]
    split
    · rw [List.getElem?_map,h3];rfl
    ·
     rename_i hge
     rw [List.getElem?_eq_none (by omega)]
   · rw [if_neg fG]
  exact (congrArg (fun l=>Am M0 w0 S l M w) e3).mpr g4
end
section
variable {P:Program} {L:Lg P} {n:Fm} {fz:Nat} {E:Env} {M0:Av} {w0:World} {S:Nat→Prop} {rs:List Ao} {ε:Type} {res:ε→List Ao}
theorem Am.Kv {Φ:ε→Av→World→Prop} {w:World} (hst:∀x M M',Ext M w M' w→Φ x M w→Φ x M' w) (h1:∀x rs M,Am M0 w0 S (res x++rs) M w→∃M',Ext M w M' w∧Am M0 w0 S rs M' w∧Φ x M' w):
  ∀(X:List ε) (Bf:List Ao) (M:Av),Am M0 w0 S (Bf++GA res X) M w→∃M',Ext M w M' w∧Am M0 w0 S Bf M' w∧∀x∈X,Φ x M' w
 |[],Bf,M,h=>⟨M,Ext.refl _ _,by simpa [GA] using h,fun x hx=>by simp at hx⟩
 |x::X,Bf,M,h=>by
  have hp:(Bf++GA res (x::X)).Perm (res x++(Bf++GA res X)):=by
   show (Bf++(res x++GA res X)).Perm _
   rw [←List.append_assoc,←List.append_assoc]
   exact List.perm_append_comm.append_right _
  obtain ⟨M1,g1,g2,g3⟩:=h1 x _ M (Am.perm hp h)
  obtain ⟨M2,k1,k2,k3⟩:=Am.Kv hst h1 X Bf M1 g2
  refine ⟨M2,g1.trans k1,k2,fun y hy=> ?_⟩
  rcases List.mem_cons.1 hy with rfl|hy
  · exact hst _ _ _ k1 g3
  · exact k3 y hy
theorem St.Mt {a:Act} {w:World} (Bf:List Ao) {X:List ε} (x:ε) (Lt:rs=Bf++GA res X) (h0:∀r∈res x,r.Ee=none∧∀M w,r.h M w) (h:St n E (Hp M0 w0 S rs) a w):St n E (Hp M0 w0 S (Bf++GA res (X++[x]))) a w:=by
 subst Lt
 obtain ⟨M,h1,h2,h3,h4⟩:=h
 refine ⟨M,h1,h2,h3,?_⟩
 have key:∀l:List Ao,(∀r∈l,r.Ee=none∧∀M w,r.h M w)→∀rs,Am M0 w0 S rs M w→Am M0 w0 S (l++rs) M w:=by
  intro l
  induction l with
  |nil=>intro _ rs h;exact h
  |cons r l ih=>intro hl rs h;exact Am.Ja (ih (fun r hr=>hl r (List.mem_cons_of_mem _ hr)) rs h) (hl r (List.mem_cons_self ..)).1 ((hl r (List.mem_cons_self ..)).2 _ _)
 have:=key (res x) h0 _ h4
 refine Am.perm ?_ this
 rw [S9,←List.append_assoc Bf]
 exact List.perm_append_comm
theorem Fin.Mt {Q:Exit→Act→World→Prop} {e:Exit} (Bf:List Ao) {X:List ε} (x:ε) (Lt:rs=Bf++GA res X) (h0:∀r∈res x,r.Ee=none∧∀M w,r.h M w) (k:Fin n E (Hp M0 w0 S (Bf++GA res (X++[x]))) Q e):Fin n E (Hp M0 w0 S rs) Q e:=
 Fin.conv (fun _ _ hs=>hs.Mt Bf x Lt h0) k
theorem Tr.gM {Q:Exit→Act→World→Prop} {c:Code} (j:Nat) {new:Bool} {b:Nat} {T:TypeId} {ps:List Pr} (qs:List Pr) (hi:rs[j]? =some (AA new b T ps)) (h:ps=qs) (k:Tr L n E (Hp M0 w0 S (rs.set j (AA new b T qs))) c Q):Tr L n E (Hp M0 w0 S rs) c Q:=by
 subst h;exact Tr.Jn j ps hi (LY.rfl' ps) k
theorem Fin.gM {Q:Exit→Act→World→Prop} {e:Exit} (j:Nat) {new:Bool} {b:Nat} {T:TypeId} {ps:List Pr} (qs:List Pr) (hi:rs[j]? =some (AA new b T ps)) (h:ps=qs) (k:Fin n E (Hp M0 w0 S (rs.set j (AA new b T qs))) Q e):Fin n E (Hp M0 w0 S rs) Q e:=by
 subst h;exact Fin.Jn j ps hi (LY.rfl' ps) k
theorem S_ {e:TypeId} {sz:Nat} {rows AV:List (List Pr)} {v:Value} {M:Av} {w:World} (hl:rows.length=AV.length) (hf:rows.flatten.length=AV.flatten.length) (h:∀vs,HL M w rows.flatten vs→HL M w AV.flatten vs) (ho:(Al e sz rows v).h M w):(Al e sz AV v).h M w:=by
 rcases ho with ⟨h1,h2⟩|⟨b,cap,sp,h1,h2,h3,h4,h5,cs,h6,h7,h8⟩
 ·
  refine .inl ⟨?_,h2⟩
  subst h1
  exact List.length_eq_zero_iff.1 hl.symm
 ·
  refine .inr ⟨b,cap,sp,by rw [←hl];exact h1,by rw [←hl];exact h2,h3,by rw [←hl];exact h4,h5,cs,h6,?_,h8⟩
  have e1:=h7.take rows.flatten.length
  have e2:=h7.drop rows.flatten.length
  rw [List.take_left] at e1
  rw [List.drop_left] at e2
  have:=(h _ e1).app e2
  rwa [List.take_append_drop] at this
theorem Tr.Kv {Q:Exit→Act→World→Prop} {c:Code} {X:List ε} {Φ:ε→Av→World→Prop} {e:TypeId} {sz d:Nat} {f g:ε→List Pr} {v:Value} {p:Pr} (Bf:List Ao) (Lt:rs=Al e sz (X.map f) v::Bf++GA res X) (hd:E.lookup d=some (Aq v p)) (hf:∀x,(f x).length=sz) (hg:∀x,(g x).length=sz)
  (hst:∀x M M' w,Ext M w M' w→Φ x M w→Φ x M' w) (h1:∀x rs M w,Am M0 w0 S (res x++rs) M w→∃M',Ext M w M' w∧Am M0 w0 S rs M' w∧Φ x M' w) (h2:∀x M w vs,Φ x M w→HL M w (f x) vs→HL M w (g x) vs)
  (k:Tr L n ((d,Aq v (slice sz (X.map g)))::E) (Hp M0 w0 S (BR e sz v::Bf)) c Q):Tr L n E (Hp M0 w0 S rs) c Q:=by
 subst Lt
 intro a w hs
 obtain ⟨M,k1,k2,k3,k4⟩:=hs
 have k4:Am M0 w0 S ((Al e sz (X.map f) v::Bf)++GA res X) M w:=k4
 obtain ⟨M1,g1,g2,g3⟩:=Am.Kv (Φ:=Φ) (fun x M M'=>hst x M M' w) (fun x rs M=>h1 x rs M w) X _ M k4
 have hlen:∀(f:ε→List Pr),(∀x,(f x).length=sz)→(X.map f).flatten.length=X.length*sz:=fun f hf=>by
  rw [Bu (Aj hf),List.length_map]
 have hown:(Al e sz (X.map g) v).h M1 w:=by
  refine S_ (by simp) (by rw [hlen f hf,hlen g hg]) (fun vs hvs=> ?_) (g2.hold _ (List.mem_cons_self ..)).1
  have key:∀(Y:List ε) (vs:List Value),(∀x∈Y,Φ x M1 w)→HL M1 w (Y.map f).flatten vs→HL M1 w (Y.map g).flatten vs:=by
   intro Y
   induction Y with
   |nil=>intro vs _ h;exact h
   |cons y Y ih=>
    intro vs hY h
    rw [List.map_cons,List.flatten_cons] at h ⊢
    have e1:=h.take (f y).length
    have e2:=h.drop (f y).length
    rw [List.take_left] at e1
    rw [List.drop_left] at e2
    have:=(h2 y M1 w _ (hY y (List.mem_cons_self ..)) e1).app (ih _ (fun x hx=>hY x (List.mem_cons_of_mem _ hx)) e2)
    rwa [List.take_append_drop] at this
  exact key X vs g3 hvs
 have g4:=g2.Bt (i:=0) (r':=Al e sz (X.map g) v) rfl rfl rfl hown
 obtain ⟨M2,j1,j2,j3⟩:=Am.RP (j:=0) g4 rfl (Aj hg)
 refine k a w ⟨M2,k1,k2,fun s q hq=> ?_,j2⟩
 have hE:Ext M w M2 w:=g1.trans j1
 simp only [List.lookup] at hq
 split at hq
 ·
  rename_i e1
  have:s=d:=by simpa using e1
  subst this
  simp only [Option.some.injEq] at hq
  subst hq
  have h9:=(k3 _ _ hd).1
  exact ⟨h9,by rw [h9];exact j3⟩
 · exact q.st _ _ _ _ _ hE (k3 s q hq)
end
section
variable {P:Program} {L:Lg P} {n:Fm} {fz:Nat} {E:Env} {M0:Av} {w0:World} {S:Nat→Prop} {o:Oper}
theorem TC {I:B5} {t e:TypeId} {x:Operand} {m:Nat} (ho:o.op= .call { callee:= .builtin .len,args:= #[x],argTypes:= #[t] }) (ht:P.underlying t=some (.slice e)) (hx:VL E x (lens m)):AS P I o E (int m):=
 AS.same fun M w a he _=>by
  obtain ⟨A,c,h1⟩:=hx.ev he (by simp [ho,Op.operands,Call.operands])
  exact ⟨.int .i64 m,by simp [execOp,ho,resolve,invoke,builtin,Builtin.len_,h1,run_underlying ht,goInt],rfl⟩
theorem PI {κ:Type} [DecidableEq κ] {enc:κ→Value} {T kt et:TypeId} {x y:Operand} {b j:Nat} {es:List (κ×Int)} (k:κ) {q:Pr} (hT:O6 P T kt et enc) (ho:o.op= .lookup T x y false) (hx:VL E x (is (.map (some b)))) (hy:VL E y q) (hk:∀M w v,q.h M w v→v=enc k):
  F5 P M0 w0 S j (SR.c (G3 enc b es)) o E (int ((look es k).getD 0)):=by
 intro M w a rs he hI hj
 have h1:a.eval x=_:=hx.ev he (by simp [ho,Op.operands])
 have h2:a.eval y=enc k:=hk _ _ _ (hy.ev he (by simp [ho,Op.operands]))
 have hj':rs[j]? =some (G3 enc b es):=hj
 obtain ⟨_,hh⟩:=(hI.hold _ (List.mem_of_getElem? hj')).1
 have hrun:(execOp a.eval o).run P w= .ok (.value (.int .i64 ((look es k).getD 0))) w:=by
  have hf:=Kc hT k w es
  have hg:=D9 (fun p:κ×Int=>decide (k=p.1)) es
  unfold look
  cases HC:es.findIdx? fun p=>decide (k=p.1) with
  |none=>
   rw [HC] at hf hg
   rw [←hg]
   simp only [Option.bind_none] at hf
   simp [execOp,ho,h1,h2,Instr.lookup,run_underlying hT.O7,MapKept.run_getObj_map hh,hT.RL,hf,hT.zero,Result.andThen]
  |some i=>
   rw [HC] at hf hg
   rw [←hg]
   have CS:i<es.length:=by rw [List.findIdx?_eq_some_iff_getElem] at HC;exact HC.1
   simp only [Option.bind_some,List.getElem?_eq_getElem CS,Option.map_some] at hf ⊢
   simp [execOp,ho,h1,h2,Instr.lookup,run_underlying hT.O7,MapKept.run_getObj_map hh,hT.RL,hf,Result.andThen]
 rw [hrun]
 exact ⟨rfl,Below.refl _ _⟩
end
end Cp
namespace Cp
open Go Go.RowKit
section
variable {P:Program} {L:Lg P} {I:B5} {o:Oper} {E:Env}
theorem Rc {c y:Operand} {b d:Bool} (ho:o.op= .pick c (.const (.bool true)) y) (hc:VL E c (bool b)) (hy:VL E y (bool d)):AS P I o E (bool (b||d)):=by
 cases b with
 |true=>exact Gd ho hc rfl (vl rfl)
 |false=>exact Ge ho hc rfl hy
theorem PJ {c x:Operand} {b d:Bool} (ho:o.op= .pick c x (.const (.bool false))) (hc:VL E c (bool b)) (hx:VL E x (bool d)):AS P I o E (bool (b&&d)):=by
 cases b with
 |true=>exact Gd ho hc rfl hx
 |false=>exact Ge ho hc rfl (vl rfl)
end
section
variable {P:Program} {L:Lg P} {n:Fm} {fz:Nat} {E:Env} {M0:Av} {w0:World} {S:Nat→Prop} {rs:List Ao} {o:Oper}
end
end Cp
namespace Cp
open Go Go.RowKit Go.Great
def H8 {α:Type} (P:Program) (f:FuncId) (args:List Pr) (pre:List Ao) (C:α→Prop) (res:α→Pr) (post:α→List Ao):Prop:=Entry P f∧∀M0 w0 S rs M w vs,Am M0 w0 S (pre++rs) M w→HL M w args vs→
 Calls P f vs.toArray w fun e w'=>∃v M' x,e= .returned v∧C x∧(res x).h M' w' v∧Ext M w M' w'∧Am M0 w0 S (post x++rs) M' w'
def Nv {α:Type} (M0:Av) (w0:World) (S:Nat→Prop) (rs:List Ao) (M1:Av) (w1:World) (C:α→Prop) (res:α→Pr) (post:α→List Ao) (e:Ending) (w':World):Prop:=∃v M' x,e= .returned v∧C x∧(res x).h M' w' v∧Ext M1 w1 M' w'∧Am M0 w0 S (post x++rs) M' w'
section
variable {P:Program} {L:Lg P} {n:Fm} {fz:Nat} {E:Env} {M0:Av} {w0:World} {S:Nat→Prop} {rs:List Ao} {α:Type} {pre:List Ao} {C:α→Prop} {res:α→Pr} {post:α→List Ao} {M1:Av} {w1:World} {g:Func} {o:Oper} {r:List Oper} {ops:Array Oper}
theorem H8.of {f : FuncId} {c : Code} {ps : List Pr} (hf : P.funcs[f]? = some g) (hb : g.body = some c) (hname : (g.name == "runtime.NumGoroutine") = false) (hlen : ps.length ≤ g.ntmps)
  (h:∀M0 w0 S rs M1 w1,Tr (XZ P) g.ntmps (JY 0 ps) (Hp M0 w0 S (pre++Ak M1 w1::rs)) c (bodyPost P g (Nv M0 w0 S rs M1 w1 C res post))):H8 P f ps pre C res post:=by
 refine ⟨⟨g,hf,hname,by rw [hb];rfl⟩,fun M0 w0 S rs M w vs hI hv=> ?_⟩
 refine calls_of_wp hf hb (h M0 w0 S rs M w _ _ ⟨M,?_,rfl,Gc hv,?_⟩)
 ·
  have:=hv.length
  simp [this];omega
 · exact Am.perm List.perm_middle.symm (Am.Ja hI (r:=Ak M w) rfl (Ext.refl _ _))
theorem Am.Nw {M:Av} {w:World} {f:FuncId} {args:List Pr} {rest:List Ao} (hf:H8 P f args pre C res post) (hp:rs.Perm (pre++rest)) (hI:Am M0 w0 S rs M w) {vs:List Value} (hv:HL M w args vs):
  Calls P f vs.toArray w fun e w'=>∃v M' x,e= .returned v∧C x∧(res x).h M' w' v∧Ext M w M' w'∧Am M0 w0 S (post x++rest) M' w':=hf.2 M0 w0 S rest M w vs (Am.perm hp hI) hv
theorem TO.Nw {Q:Exit→Act→World→Prop} {f:FuncId} {xs:Array Operand} {ts:Array TypeId} {ps:List Pr} (rest:List Ao) {d:Nat} (hg:o.guard=none) (hd:o.dst=some d) (hn:d<n) (ho:o.op= .call { callee:= .value (.func f),args:=xs,argTypes:=ts }) (hf:H8 P f ps pre C res post)
  (hv:FD E xs.toList ps) (hp:rs.Perm (pre++rest)) (k:∀x,C x→TO P n ops r ((d,res x)::E) (Hp M0 w0 S (post x++rest)) Q):TO P n ops (o::r) E (Hp M0 w0 S rs) Q:=
 TO.MV hg fun K M w a hsz hdf he hI hK=>by
  have hI:Am M0 w0 S rs M w:=hI
  have h1:=FD.Dp (o:=o) (BX he) (xs:=xs.toList) (fun x hx=>by simp [ho,Op.operands,Call.operands];exact .inr (by simpa using hx)) hv
  have hrun:(execOp a.eval o).run P w= .ok (.enter f (xs.toList.map a.eval).toArray) w:=by
   simp [execOp,ho,resolve,Deferred.ofValue,Act.eval,invoke,DM hf.1,FF xs]
  unfold Oper.wp
  rw [hrun]
  refine (Am.Nw hf hp hI h1).mono ?_
  rintro e w' ⟨v,M',x,rfl,hC,h2,h3,h4⟩
  refine hK _ _ _ _ (k x hC) ⟨M',by rw [BN];exact hsz,by rw [put_defers];exact hdf,?_,h4⟩
  intro s q hq
  simp only [List.lookup] at hq
  by_cases hs:s=d
  · subst hs;simp at hq;subst hq;rw [hd,A_ (by rw [hsz];exact hn)];exact h2
  · rw [show (s==d)=false by simpa using hs] at hq;rw [hd,BD hs];exact q.st _ _ _ _ _ h3 (he s q hq)
theorem Eg {l:List Ao} {M:Av} {w:World} (h:Am M0 w0 S (l++Ak M1 w1::rs) M w):Ext M1 w1 M w∧Am M0 w0 S (l++rs) M w:=
 ⟨(h.hold (Ak M1 w1) (by simp)).1,(Am.perm List.perm_middle h).G9⟩
theorem Fin.Kw {rv:ResultVar} {q:Pr} {rs':List Ao} (x:α) (hr:g.results= #[rv]) (h:Bc P E rs' rv q) (hC:C x) (hl:Pr.le q (res x)) (hp:rs'.Perm (post x++Ak M1 w1::rs)):
  Fin ⟨fz,[]⟩ E (Hp M0 w0 S rs') (bodyPost P g (Nv M0 w0 S rs M1 w1 C res post)) .ret:=by
 rintro a w ⟨M,_,hd,he,hi⟩
 have hi:Am M0 w0 S rs' M w:=hi
 obtain ⟨v,hv,Le⟩:=h M w a he (fun q hq=>(hi.hold q hq).1)
 obtain ⟨h1,h2⟩:=Eg (Am.perm hp hi)
 exact ⟨hd,v,results1 hr hv,_,M,x,rfl,hC,hl _ _ _ Le,h1,h2⟩
theorem Fin.bC {rv jh:ResultVar} {q q':Pr} {rs':List Ao} (x:α) (hr:g.results= #[rv,jh]) (h:Bc P E rs' rv q) (h':Bc P E rs' jh q') (hC:C x) (hl:Pr.le (FZ [q,q']) (res x)) (hp:rs'.Perm (post x++Ak M1 w1::rs)):
  Fin ⟨fz,[]⟩ E (Hp M0 w0 S rs') (bodyPost P g (Nv M0 w0 S rs M1 w1 C res post)) .ret:=by
 rintro a w ⟨M,_,hd,he,hi⟩
 have hi:Am M0 w0 S rs' M w:=hi
 obtain ⟨v,hv,F_⟩:=h M w a he (fun q hq=>(hi.hold q hq).1)
 obtain ⟨v',aA,Nk⟩:=h' M w a he (fun q hq=>(hi.hold q hq).1)
 obtain ⟨h1,h2⟩:=Eg (Am.perm hp hi)
 exact ⟨hd,_,results2 hr hv aA,_,M,x,rfl,hC,hl _ _ _ ⟨[_,_],rfl,F_,Nk,trivial⟩,h1,h2⟩
end
section
variable {P:Program} {L:Lg P} {n:Fm} {fz:Nat} {E:Env} {M0:Av} {w0:World} {S:Nat→Prop} {rs:List Ao} {o:Oper}
def YM:Value→Option Nat
 | .slice (some a) _ (_+1)=>some a.block
 |_=>none
def A3 (e:TypeId) (sz:Nat) (rows:List (List Pr)) (v:Value):Ao where
 Ee:=YM v
 new:=true
 h M w:=(rows=[]∧∃A,v= .slice A 0 0)∨(∃(b cap:Nat) (spare:List Value),v= .slice (some ⟨b,0,none⟩) rows.length (cap+1)∧rows.length≤cap+1∧cap+1≤maxLen∧spare.length=(cap+1-rows.length)*sz∧(AA true b e (rows.flatten++spare.map is)).h M w)
 st M w M' w' he hk h:=by
  rcases h with h|⟨b,cap,spare,rfl,h1,h2,h3,h4⟩
  · exact .inl h
  · exact .inr ⟨b,cap,spare,rfl,h1,h2,h3,(AA true b e _).st _ _ _ _ he hk h4⟩
theorem CD {α:Type} {l:List α} {j:Nat} {x:α} (h:l[j]? =some x):j<l.length:=by
 rcases Nat.lt_or_ge j l.length with h'|h'
 · exact h'
 · rw [List.getElem?_eq_none h'] at h;cases h
theorem Am.blank {M:Av} {w:World} {j:Nat} {r:Ao} (h:Am M0 w0 S rs M w) (hj:rs[j]? =some r):Am M0 w0 S (rs.set j BT) M w:=
 Am.perm (GK (CD hj)) ((Am.perm (DQ hj) h).G9.Ja (r:=BT) rfl trivial)
theorem PK (sz:Nat) (A:Option Addr) (M:Av) (w:World):(slice sz []).h M w (.slice A 0 0):=⟨A,0,rfl,Nat.le_refl _,Nat.zero_le _,fun _=>rfl,fun i row h=>by simp at h⟩
theorem Am.YN {M:Av} {w:World} {sz:Nat} {e:TypeId} {rows:List (List Pr)} {v:Value} {j:Nat} (h:Am M0 w0 S rs M w) (hj:rs[j]? =some (A3 e sz rows v)) (hl:∀r∈rows,r.length=sz):
  ∃M',Ext M w M' w∧Am M0 w0 S (rs.set j BT) M' w∧(slice sz rows).h M' w v:=by
 have hjl:=CD hj
 rcases (h.hold _ (List.mem_of_getElem? hj)).1 with ⟨rfl,A,rfl⟩|⟨b,cap,spare,rfl,hnc,hcm,hsp,O_⟩
 · exact ⟨M,Ext.refl _ _,h.blank hj,PK sz A M w⟩
 ·
  have hC:=h.Bt (r':=AA true b e (rows.flatten++spare.map is)) hj rfl rfl O_
  obtain ⟨M',h1,h2,h3⟩:=Am.dz hC (List.getElem?_set_self hjl) hl hnc hcm (by rw [List.length_map];exact hsp)
  have h4:=h2.blank (j:=j) (by rw [List.set_set];exact List.getElem?_set_self hjl)
  rw [List.set_set,List.set_set] at h4
  exact ⟨M',h1,h4,h3⟩
theorem HL.set {M:Av} {w:World} {ps:List Pr} {vs:List Value} {k:Nat} {p q:Pr} (h:HL M w ps vs) (hk:ps[k]? =some p) (hq:∀u,p.h M w u→q.h M w u):HL M w (ps.set k q) vs:=by
 refine Ss (by rw [h.length];simp) fun k' p' hk'=> ?_
 rw [List.getElem?_set] at hk'
 split at hk'
 ·
  rename_i e1
  subst e1
  split at hk'
  ·
   obtain ⟨u,hu,Zo⟩:=h.at_ k p hk
   simp at hk';subst hk'
   exact ⟨u,hu,hq u Zo⟩
  · cases hk'
 · exact h.at_ k' p' hk'
theorem Am.Lv {M:Av} {w:World} {i j k sz b:Nat} {new:Bool} {T e:TypeId} {ps:List Pr} {rows:List (List Pr)} {v:Value} (h:Am M0 w0 S rs M w) (hi:rs[i]? =some (AA new b T ps)) (hj:rs[j]? =some (A3 e sz rows v)) (hij:j≠i) (hk:ps[k]? =some (is v)) (hl:∀r∈rows,r.length=sz):
  ∃M',Ext M w M' w∧Am M0 w0 S ((rs.set j BT).set i (AA new b T (ps.set k (slice sz rows)))) M' w:=by
 obtain ⟨M',h1,h2,h3⟩:=h.YN hj hl
 have hi':(rs.set j BT)[i]? =some (AA new b T ps):=by rw [List.getElem?_set_ne hij];exact hi
 refine ⟨M',h1,h2.Bt hi' rfl rfl ?_⟩
 obtain ⟨g1,cs,g2,g3,g4⟩:=(h2.hold _ (List.mem_of_getElem? hi')).1
 exact ⟨g1,cs,g2,g3.set hk (fun u hu=>by rw [show u=v from hu];exact h3),g4⟩
def part (sz:Nat) (v:Value) (k:Nat):Pr where
 h _ _ u:=∃a m c,v= .slice a m c∧k≤m∧u= .slice (if c=k then a else a.map fun x=>x.add (k*sz)) (m-k) (c-k)
 st _M _w _M' _w' _v _ h:=h
instance bD (sz:Nat) (v:Value) (k:Nat):One (part sz v k):=⟨by rintro M w u ⟨a,m,c,h1,h2,rfl⟩;exact ⟨rfl,rfl⟩⟩
theorem A5.dz {f:FuncId} {args:List Pr} {e:TypeId} {sz m:Nat} {rows:List (List Pr)} {R:Ao} (hl:∀r∈rows,r.length=sz) (h:A5 P f args (lens m) R (fun v=>Al e sz rows v)):A5 P f args (slice sz rows) R (fun _=>BT):=by
 refine ⟨h.1,fun M0 w0 S rs M w vs hI hv=>(h.2 M0 w0 S rs M w vs hI hv).mono ?_⟩
 rintro e' w' ⟨v,M',rfl,h2,h3,h4⟩
 obtain ⟨M2,j1,j2,j3⟩:=Am.RP (j:=0) h4 rfl hl
 exact ⟨v,M2,rfl,j3,h3.trans j1,j2.blank (j:=0) rfl⟩
def YO (sz:Nat) (v:Value) (i o:Nat):Pr where
 h _ _ u:=∃a m c,v= .slice (some a) m c∧u= .pointer (some (a.add (i*sz+o)))
 st _M _w _M' _w' _v _ h:=h
instance eE (sz:Nat) (v:Value) (k o:Nat):One (YO sz v k o):=⟨by rintro M w u ⟨a,m,c,h1,rfl⟩;exact ⟨rfl,rfl⟩⟩
theorem C8 {t e:TypeId} {x y:Operand} {k:IntKind} {l:Int} {sz j:Nat} {T:TypeId} {rows:List (List Pr)} {v:Value} (ho:o.op= .indexAddr t x y) (ht:P.underlying t=some (.slice e)) (hz:Ax P e=some sz) (hx:VL E x (is v)) (hy:VL E y (is (.int k l))) (h0:0≤l) (hl:l<rows.length):
  F5 P M0 w0 S j (SR.c (A3 T sz rows v)) o E (YO sz v l.toNat 0):=by
 intro M w a rs he hI hj
 have h1:a.eval x=v:=hx.ev he (by simp [ho,Op.operands])
 have h3:a.eval y= .int k l:=hy.ev he (by simp [ho,Op.operands])
 have hj':rs[j]? =some (A3 T sz rows v):=hj
 rcases (hI.hold _ (List.mem_of_getElem? hj')).1 with ⟨rfl,A,hv⟩|⟨b,cap,spare,hv,hnc,hcm,hsp,O_⟩
 · simp at hl;omega
 ·
  have hrun:(execOp a.eval o).run P w= .ok (.value (.pointer (some ((⟨b,0,none⟩:Addr).add (l.toNat*sz))))) w:=by
   simp [execOp,ho,h1,h3,hv,Instr.indexAt,asIntOf,run_underlying ht,BZ hz,h0,hl]
  rw [hrun]
  exact ⟨⟨_,_,_,hv,rfl⟩,Below.refl _ _⟩
theorem Cl {I:B5} {t:TypeId} {x:Operand} {f sz i q off:Nat} {v:Value} (ho:o.op= .fieldAddr t x f) (hf:A1 P t f=some off) (hx:VL E x (YO sz v i q)):AS P I o E (YO sz v i (q+off)):=
 AS.same fun M w a he _=>by
  obtain ⟨a0,m0,c0,hv,h1⟩:=hx.ev he (by simp [ho,Op.operands])
  exact ⟨.pointer (some ((a0.add (i*sz+q)).add off)),by simp [execOp,ho,h1,GI hf],a0,m0,c0,hv,by rw [add_add,Nat.add_assoc]⟩
theorem FP {t:TypeId} {x:Operand} {sz j i:Nat} {T:TypeId} {rows:List (List Pr)} {row:List Pr} {v:Value} (ho:o.op= .load t x) (ht:GH P t=true) (hz:Ax P t=some sz) (hx:VL E x (YO sz v i 0)) (hl:∀r∈rows,r.length=sz) (hi:rows[i]? =some row):
  F5 P M0 w0 S j (SR.c (A3 T sz rows v)) o E (agg row):=by
 intro M w a rs he hI hj
 obtain ⟨a0,m0,c0,SY,h1⟩:=hx.ev he (by simp [ho,Op.operands])
 rw [Nat.add_zero] at h1
 have hj':rs[j]? =some (A3 T sz rows v):=hj
 rcases (hI.hold _ (List.mem_of_getElem? hj')).1 with ⟨rfl,A,hv⟩|⟨b,cap,spare,hv,hnc,hcm,hsp,⟨_,cs,h4,h5,h6⟩⟩
 · simp at hi
 ·
  rw [SY] at hv
  injection hv with e1 e2 e3
  injection e1 with e1
  subst e1
  have CS:=CD hi
  have hrl:=hl row (List.mem_of_getElem? hi)
  have hfl:=Bu hl
  have hle:(i+1)*sz≤rows.length*sz:=Nat.mul_le_mul_right sz CS
  rw [Nat.add_mul] at hle
  have h7:HL M w row ((cs.drop (i*sz)).take sz):=by
   have h8:=(h5.drop (i*sz)).take sz
   have e4:((rows.flatten++spare.map is).drop (i*sz)).take sz=row:=by
    refine List.ext_getElem? fun j=> ?_
    rw [List.getElem?_take]
    split
    ·
     rename_i hj
     rw [List.getElem?_drop,List.getElem?_append_left (by rw [hfl];omega),Ff hl hi hj]
    · rw [List.getElem?_eq_none (by omega)]
   rwa [e4] at h8
  have hl':((cs.drop (i*sz)).take sz).length=sz:=by rw [h7.length,hrl]
  have hrun:(loadCells ((⟨b,0,none⟩:Addr).add (i*sz)) sz).run P w= .ok ((cs.drop (i*sz)).take sz).toArray w:=by
   have:=run_loadCells_list (P:=P) w ((⟨b,0,none⟩:Addr).add (i*sz)) ((cs.drop (i*sz)).take sz) (fun k u hk=>by
    rw [add_add,CH]
    rw [List.getElem?_take] at hk
    split at hk
    · rw [List.getElem?_drop] at hk;simp [World.cell?,h4,hk]
    · cases hk)
   rwa [hl'] at this
  have CZ:(execOp a.eval o).run P w= .ok (.value (.agg ((cs.drop (i*sz)).take sz).toArray)) w:=by simp [execOp,ho,h1,Instr.loadAt,Instr.sureAddr,loadVar,Cy ht,BZ hz,hrun]
  rw [CZ]
  exact ⟨⟨_,rfl,fun c hc=>h6 c (List.mem_of_mem_drop (List.mem_of_mem_take hc)),h7⟩,Below.refl _ _⟩
theorem Nx {sz:Nat}:∀{rows:List (List Pr)} {i:Nat} {row:List Pr} {o:Nat} {qs S:List Pr},(∀r∈rows,r.length=sz)→rows[i]? =some row→o+qs.length≤sz→
  (rows.flatten++S).take (i*sz+o)++qs++(rows.flatten++S).drop (i*sz+o+qs.length)=(rows.set i (row.take o++qs++row.drop (o+qs.length))).flatten++S
 |[],_,_,_,_,_,_,h,_=>by simp at h
 |a::l,0,row,o,qs,S,hl,h,ho=>by
  simp at h;subst h
  have h1:=hl a (by simp)
  rw [List.set_cons_zero,List.flatten_cons,List.flatten_cons,Nat.zero_mul,Nat.zero_add,List.append_assoc a,List.take_append_of_le_length (by omega),List.drop_append_of_le_length (by omega)]
  simp
 |a::l,i+1,row,o,qs,S,hl,h,ho=>by
  have h1:=hl a (by simp)
  have ih:=Nx (S:=S) (fun r hr=>hl r (List.mem_cons_of_mem _ hr)) (i:=i) (row:=row) (o:=o) (qs:=qs) (by simpa using h) ho
  rw [List.set_cons_succ, List.flatten_cons, List.flatten_cons, List.append_assoc a, List.append_assoc a, ← ih, List.take_append, List.drop_append, List.take_of_length_le (by rw [h1, Nat.succ_mul]; omega), List.drop_of_length_le (by rw [h1, Nat.succ_mul]; omega),
   show (i+1)*sz+o-a.length=i*sz+o by rw [h1,Nat.succ_mul];omega,show (i+1)*sz+o+qs.length-a.length=i*sz+o+qs.length by rw [h1,Nat.succ_mul];omega]
  simp
theorem Fk {t:TypeId} {x y:Operand} {sz j i q m:Nat} {T:TypeId} {rows AV:List (List Pr)} {row qs:List Pr} {v:Value} (hg:o.guard=none) (ho:o.op= .store t x y) (hx:VL E x (YO sz v i q)) (hy:VL E y (C4 qs)) (hz:Ax P t=some m) (hm:qs.length=m)
  (hl:∀r∈rows,r.length=sz) (hi:rows[i]? =some row) (hq:q+m≤sz) (hps:rows.set i (row.take q++qs++row.drop (q+m))=AV):DH P M0 w0 S n j (SR.c (A3 T sz rows v)) (SR.c (A3 T sz AV v)) o E any:=by
 refine ⟨hg,fun M w a rs hsz he hI hj=> ?_⟩
 obtain ⟨a0,m0,c0,SY,h1⟩:=hx.ev he (show x∈o.op.operands.toList by simp [ho,Op.operands])
 obtain ⟨h2,h3⟩:=hy.ev he (show y∈o.op.operands.toList by simp [ho,Op.operands])
 have hj':rs[j]? =some (A3 T sz rows v):=hj
 have hjl:=CD hj'
 rcases (hI.hold _ (List.mem_of_getElem? hj')).1 with ⟨rfl,A,hv⟩|⟨b,cap,spare,hv,hnc,hcm,hsp,O_⟩
 · simp at hi
 ·
  subst hv
  injection SY with e1 e2 e3
  injection e1 with e1
  subst e1
  have hC:=hI.Bt (r':=AA true b T (rows.flatten++spare.map is)) hj' rfl rfl O_
  have eB:(rs.set j (AA true b T (rows.flatten++spare.map is)))[j]? =some (AA true b T (rows.flatten++spare.map is)):=List.getElem?_set_self hjl
  obtain ⟨_,cs,h4,h5,h6⟩:=O_
  have Xd:=h5.length
  have ZM:=h2.length
  have CS:=CD hi
  have hfl:=Bu hl
  rw [List.length_append,hfl,List.length_map] at Xd
  have hle:(i+1)*sz≤rows.length*sz:=Nat.mul_le_mul_right sz CS
  rw [Nat.succ_mul] at hle
  have hcells:(a.eval y).cells.size=m:=by rw [←hm,←ZM];simp
  have hrun:(storeCells ((⟨b,0,none⟩:Addr).add (i*sz+q)) (a.eval y).cells.toList 0).run P w= .ok () (w.setRow b (cs.take (i*sz+q)++(a.eval y).cells.toList++cs.drop (i*sz+q+m)).toArray):=by
   have:=run_storeCells_at (P:=P) b (i*sz+q) T (a.eval y).cells.toList 0 cs.toArray w h4 (by simp;omega) h3
   rw [CH,Nat.zero_add]
   simpa [hcells] using this
  have CZ:(execOp a.eval o).run P w= .ok .skip (w.setRow b (cs.take (i*sz+q)++(a.eval y).cells.toList++cs.drop (i*sz+q+m)).toArray):=by
   simp [execOp,ho,h1,Instr.storeAt,Instr.sureAddr,storeVar,BZ hz,hcells,hrun]
  rw [CZ]
  have hfs:=Nx (S:=spare.map is) hl hi (o:=q) (qs:=qs) (by omega)
  rw [hm,hps] at hfs
  obtain ⟨h7, h8⟩ := Am.write (qs := AV.flatten ++ spare.map is) (cs := cs.take (i * sz + q) ++ (a.eval y).cells.toList ++ cs.drop (i * sz + q + m)) hC eB (by rw [← hfs]; exact (((h5.take (i * sz + q)).app h2)).app (h5.drop (i * sz + q + m)))
   (fun c hc=>by
    simp only [List.mem_append] at hc
    rcases hc with (hc|hc)|hc
    · exact h6 c (List.mem_of_mem_take hc)
    · exact h3 c hc
    · exact h6 c (List.mem_of_mem_drop hc))
  rw [List.set_set] at h7
  refine ⟨M,trivial,h8,?_⟩
  have hlen:AV.length=rows.length:=by rw [←hps,List.length_set]
  have h9:=h7.Bt (r':=A3 T sz AV (.slice (some ⟨b,0,none⟩) rows.length (cap+1))) (List.getElem?_set_self hjl) rfl rfl (.inr ⟨b,cap,spare,by rw [hlen],by rw [hlen];exact hnc,hcm,by rw [hlen];exact hsp,(h7.hold _ (List.mem_of_getElem? (List.getElem?_set_self hjl))).1⟩)
  rw [List.set_set] at h9
  exact h9
end
section
variable {P:Program} {L:Lg P} {E:Env} {I:B5} {o:Oper}
section
variable {n:Fm} {fz:Nat} {M0:Av} {w0:World} {S:Nat→Prop}
end
end
section
variable {P:Program} {L:Lg P} {n:Fm} {fz:Nat} {I:B5}
def bE (P:Program) (I':B5) (M:Av) (w:World) (p:Pr):Result Next→Prop
 | .ok (.value v) w'=>∃M',p.h M' w' v∧Ext M w M' w'∧I'.h M' w'
 | .ok .skip w'=>∃M',p.h M' w' undef∧Ext M w M' w'∧I'.h M' w'
 | .ok (.enter f args) w'=>Calls P f args w' fun e w''=>∃v M',e= .returned v∧p.h M' w'' v∧Ext M w M' w''∧I'.h M' w''
 |_=>False
def TD (P:Program) (n:Fm) (I I':B5) (o:Oper) (E:Env) (p:Pr):Prop:=o.guard=none∧∀M w (a:Act),a.tmps.size=n.sz→B8 M w E o a→I.h M w→bE P I' M w p ((execOp a.eval o).run P w)
def Lw (P:Program) (n:Fm) (I:B5) (ops:Array Oper):Nat→List Oper→Env→(B5→Env→Prop)→Prop
 |_,[],_,_=>False
 |0,o::r,E,K=>∃p I',TD P n I I' o E p∧(∀d,o.dst=some d→d<n)∧Ch P n I' ops r (upd o p E) (K I')
 |c+1,o::r,E,K=>∃p,SM P I ops o E p∧(∀d,o.dst=some d→d<n)∧Lw P n I ops c r (upd o p E) K
theorem Lw.op {ops:Array Oper} {o:Oper} {r:List Oper} {E:Env} {K:B5→Env→Prop} {d c:Nat} {p:Pr} (hg:o.guard=none) (hd:o.dst=some d) (hn:d<n) (h:AS P I o E p)
  (k:Lw P n I ops c r ((d,p)::E) K):Lw P n I ops (c+1) (o::r) E K:=
 ⟨p,by unfold SM;rw [hg];exact h,fun d' hd'=>by rw [hd] at hd';cases hd';exact hn,by unfold upd;rw [hd];exact k⟩
theorem Lw.turn {ops:Array Oper} {o:Oper} {r:List Oper} {E:Env} {K:B5→Env→Prop} {d:Nat} {p:Pr} (I':B5) (hd:o.dst=some d) (hn:d<n) (h:TD P n I I' o E p)
  (k:Ch P n I' ops r ((d,p)::E) (K I')):Lw P n I ops 0 (o::r) E K:=
 ⟨p,I',h,fun d' hd'=>by rw [hd] at hd';cases hd';exact hn,by unfold upd;rw [hd];exact k⟩
def PL (P:Program) (f:FuncId) (args:List Pr) (pre:List Ao) (res:Pr) (post:List Ao):Prop:=H8 (α:=Unit) P f args pre (fun _=>True) (fun _=>res) (fun _=>post)
section
variable {M0:Av} {w0:World} {S:Nat→Prop} {rs:List Ao} {E:Env} {o:Oper} {g:Func} {M1:Av} {w1:World}
theorem PL.of {f : FuncId} {c : Code} {ps : List Pr} {pre post : List Ao} {res : Pr} (hf : P.funcs[f]? = some g) (hb : g.body = some c) (hname : (g.name == "runtime.NumGoroutine") = false) (hlen : ps.length ≤ g.ntmps)
  (h:∀M0 w0 S rs M1 w1,Tr (XZ P) g.ntmps (JY 0 ps) (Hp M0 w0 S (pre++Ak M1 w1::rs)) c (bodyPost P g (Nv M0 w0 S rs M1 w1 (fun _:Unit=>True) (fun _=>res) (fun _=>post)))):PL P f ps pre res post:=
 H8.of hf hb hname hlen h
theorem A5.pure {f:FuncId} {args:List Pr} {res:Pr} {R':Value→Ao} (h:A5 P f args res BT R'):Be P f args res:=by
 refine ⟨h.1,fun M w vs hb hv=> ?_⟩
 refine (h.2 M w J9 [] M w vs ((Am.begin hb).Ja (r:=BT) rfl trivial) hv).mono ?_
 rintro e w' ⟨v,M',rfl,h2,h3,h4⟩
 exact ⟨v,rfl,res.st _ _ _ _ _ (Ext.less h4.m) h2,h4.below⟩
theorem Gp {t e T:TypeId} {x:Operand} {sz j:Nat} {rows:List (List Pr)} {v:Value} (ho:o.op= .call { callee:= .builtin .len,args:= #[x],argTypes:= #[t] }) (ht:P.underlying t=some (.slice e)) (hx:VL E x (is v)):
  F5 P M0 w0 S j (SR.c (A3 T sz rows v)) o E (int ((rows.length:Nat):Int)):=by
 intro M w a rs he hI hj
 have h1:a.eval x=v:=hx.ev he (by simp [ho,Op.operands,Call.operands])
 have hj':rs[j]? =some (A3 T sz rows v):=hj
 have hrun:∃A c,v= .slice A rows.length c:=by
  rcases (hI.hold _ (List.mem_of_getElem? hj')).1 with ⟨rfl,A,hv⟩|⟨b,cap,spare,hv,_⟩
  · exact ⟨_,_,hv⟩
  · exact ⟨_,_,hv⟩
 obtain ⟨A,c,hv⟩:=hrun
 have:(execOp a.eval o).run P w= .ok (.value (.int .i64 ((rows.length:Nat):Int))) w:=by
  simp [execOp,ho,resolve,invoke,builtin,Builtin.len_,h1,hv,run_underlying ht,goInt]
 rw [this]
 exact ⟨rfl,Below.refl _ _⟩
end
end
section
variable {P:Program} {L:Lg P} {n:Fm} {fz:Nat} {E:Env} {M0:Av} {w0:World} {S:Nat→Prop} {rs:List Ao} {o:Oper}
def bH (b off m:Nat):Pr where
 h _ _ u:=∃o c,u= .slice (some ⟨b,o,none⟩) m c∧(0<m→o=off)
 st _M _w _M' _w' _v _ h:=h
instance ZV (b off m:Nat):One (bH b off m):=⟨by rintro M w u ⟨o,c,rfl,_⟩;exact ⟨rfl,rfl⟩⟩
end
section
variable {P:Program} {L:Lg P} {n:Fm} {fz:Nat} {E:Env} {M0:Av} {w0:World} {S:Nat→Prop} {rs:List Ao} {o:Oper}
end
section
variable {P:Program} {L:Lg P} {n:Fm} {fz:Nat} {E:Env} {M0:Av} {w0:World} {S:Nat→Prop} {rs:List Ao}
theorem St.Lv {i j k sz b:Nat} {new:Bool} {T e:TypeId} {ps:List Pr} {rows:List (List Pr)} {v:Value} {p:Pr} (hi:rs[i]? =some (AA new b T ps)) (hj:rs[j]? =some (A3 e sz rows v)) (hij:j≠i) (hk:ps[k]? =some p) (hp:Pr.le p (is v)) (hl:∀r∈rows,r.length=sz) {a:Act} {w:World} (h:St n E (Hp M0 w0 S rs) a w):
  St n E (Hp M0 w0 S ((rs.set j BT).set i (AA new b T (ps.set k (slice sz rows))))) a w:=by
 obtain ⟨M,h1,h2,h3,h4⟩:=h
 have h4:Am M0 w0 S rs M w:=h4
 have hi':(rs.set j (A3 e sz rows v))[i]? =some (AA new b T ps):=by rw [List.getElem?_set_ne hij];exact hi
 obtain ⟨M',g1,g2,g3⟩:=h4.YN hj hl
 have gi:(rs.set j BT)[i]? =some (AA new b T ps):=by rw [List.getElem?_set_ne hij];exact hi
 refine ⟨M',h1,h2,fun s q hq=>q.st _ _ _ _ _ g1 (h3 s q hq),g2.Bt gi rfl rfl ?_⟩
 obtain ⟨c1,cs,c2,c3,c4⟩:=(g2.hold _ (List.mem_of_getElem? gi)).1
 exact ⟨c1,cs,c2,c3.set hk (fun u hu=>by rw [show u=v from hp _ _ _ hu];exact g3),c4⟩
theorem Tr.Lv {Q:Exit→Act→World→Prop} {c:Code} (i j k:Nat) {sz b:Nat} {new:Bool} {T e:TypeId} {ps:List Pr} {rows:List (List Pr)} {v:Value} {p:Pr} (hi:rs[i]? =some (AA new b T ps)) (hj:rs[j]? =some (A3 e sz rows v)) (hij:j≠i) (hk:ps[k]? =some p) (hp:Pr.le p (is v)) (hl:∀r∈rows,r.length=sz)
  (kk:Tr L n E (Hp M0 w0 S ((rs.set j BT).set i (AA new b T (ps.set k (slice sz rows))))) c Q):Tr L n E (Hp M0 w0 S rs) c Q:=Tr.conv (fun _ _ hs=>hs.Lv hi hj hij hk hp hl) kk
end
section
variable {P:Program} {L:Lg P} {n:Fm} {fz:Nat} {E:Env} {M0:Av} {w0:World} {S:Nat→Prop} {rs:List Ao} {o:Oper} {g:Func} {M1:Av} {w1:World}
theorem PL.gen {f:FuncId} {args args':List Pr} {pre:List Ao} {res:Pr} [Ht res] (hfz:∀M0 w0 S rs M w,Am M0 w0 S (pre++rs) M w→∃M',Ext M w M' w∧Am M0 w0 S rs M' w∧∀vs,HL M w args vs→HL M' w args' vs)
  (h:Be P f args' res):PL P f args pre res pre:=by
 refine ⟨h.1,fun M0 w0 S rs M w vs hI hv=> ?_⟩
 obtain ⟨M',hx,JG,ha⟩:=hfz M0 w0 S rs M w hI
 refine (h.2 M' w vs JG.bd (ha vs hv)).mono ?_
 rintro e' w' ⟨u,rfl,h2,h3⟩
 exact ⟨u,M,(),rfl,trivial,Ht.free _ _ _ _ h2,Ext.below h3,(Hp M0 w0 S _).st _ _ _ h3 hI⟩
theorem Row.hd {M:Av} {w:World} {ad:Addr} {p q:Pr} {ps:List Pr} (h:Row M w ad 0 (p::ps)) (hq:∀u,p.h M w u→q.h M w u):Row M w ad 0 (q::ps):=by
 intro j r hr
 cases j with
 |zero=>
  simp at hr;subst hr
  obtain ⟨u,h1,h2,h3,h4⟩:=h 0 p rfl
  exact ⟨u,h1,h2,h3,hq u h4⟩
 |succ j=>exact h (j+1) r (by simpa using hr)
theorem PL.look {f:FuncId} {wb ob:Nat} {WT OT e:TypeId} {eF ops rows ps:List Pr} {rws:List (List Pr)} {sz k:Nat} {v:Value} {res:Pr} [Ht res] (hk:ops[k]? =some (is v)) (hl:∀r∈rws,r.length=sz) (ho:ops.set k (slice sz rws)=rows)
  (h:Be P f (ref (ref rows::eF)::ps) res):PL P f (ptr wb 0::ps) [AA true wb WT (ptr ob 0::eF),AA true ob OT ops,A3 e sz rws v] res [AA true wb WT (ptr ob 0::eF),AA true ob OT ops,A3 e sz rws v]:=by
 refine PL.gen (fun M0 w0 S rs M w hI=> ?_) h
 obtain ⟨Ma,a1,a2⟩:=Am.Lv (i:=1) (j:=2) (k:=k) hI rfl rfl (by decide) hk hl
 rw [ho] at a2
 have a3:Am M0 w0 S (AA true ob OT rows::AA true wb WT (ptr ob 0::eF)::BT::rs) Ma w:=Am.perm (List.Perm.swap _ _ _) a2
 obtain ⟨Mb,b1,b2,b3⟩:=Am.QW a3
 obtain ⟨Mc,c1,c2,c3⟩:=Am.QW b1
 refine ⟨Mc,(a1.trans b2).trans c2,c1.G9,fun vs hv=> ?_⟩
 match vs,hv with
 |u0::vs1,FX=>
  obtain ⟨JX,F7⟩:=FX
  refine ⟨⟨⟨wb,0,none⟩,JX,c3.hd fun u hu=>⟨⟨ob,0,none⟩,hu,b3.st c2⟩⟩,F7.st ((a1.trans b2).trans c2)⟩
theorem TO.re {Q:Exit→Act→World→Prop} {ops:Array Oper} {l:List Oper} {I:B5} (s:Nat) {q:Pr} (p:Pr) (hs:E.lookup s=some q) (hl:Pr.le q p) (k:TO P n ops l ((s,p)::E) I Q):TO P n ops l E I Q:=by
 intro m hm a w hst
 refine k m hm a w ?_
 obtain ⟨M,h1,h2,he,h4⟩:=hst
 refine ⟨M,h1,h2,fun s' r hr=> ?_,h4⟩
 simp only [List.lookup] at hr
 split at hr
 ·
  rename_i e1
  have:s'=s:=by simpa using e1
  subst this
  simp only [Option.some.injEq] at hr
  subst hr
  exact hl _ _ _ (he _ _ hs)
 · exact he _ _ hr
def bI (P:Program) (f:FuncId) (args:List Pr) (res:Value→Pr) (post:Value→List Ao):Prop:=H8 (α:=Value) P f args [] (fun _=>True) res post
theorem bI.of {f : FuncId} {c : Code} {ps : List Pr} {res : Value → Pr} {post : Value → List Ao} (hf : P.funcs[f]? = some g) (hb : g.body = some c) (hname : (g.name == "runtime.NumGoroutine") = false) (hlen : ps.length ≤ g.ntmps)
  (h:∀M0 w0 S rs M1 w1,Tr (XZ P) g.ntmps (JY 0 ps) (Hp M0 w0 S (Ak M1 w1::rs)) c (bodyPost P g (Nv M0 w0 S rs M1 w1 (fun _:Value=>True) res post))):bI P f ps res post:=
 H8.of hf hb hname hlen h
end
section
variable {P:Program} {L:Lg P} {n:Fm} {fz:Nat} {E:Env} {I:B5} {Q:Exit→Act→World→Prop} {ops:Array Oper} {o:Oper} {r:List Oper} {g j:Nat} {b want:Bool}
theorem TO.cases (g:Nat) {b:Bool} {l:List Oper} (_hb:E.lookup g=some (bool b)) (ht:b=true→TO P n ops l E I Q) (hf:b=false→TO P n ops l E I Q):TO P n ops l E I Q:=by
 cases b
 · exact hf rfl
 · exact ht rfl
variable {M0:Av} {w0:World} {S:Nat→Prop} {rs:List Ao}
end
section
variable {P:Program} {L:Lg P} {E:Env} {I:B5} {o:Oper}
end
class T1 (P:Program) (t:TypeId):Prop where
 h:FE P t=true
class TA (P:Program) (t:TypeId):Prop where
 h:GH P t=true
class TZ (P:Program) (t:TypeId) (m:outParam Nat):Prop where
 h:Ax P t=some m
class TF (P:Program) (s f:Nat) (k:outParam Nat):Prop where
 h:A1 P s f=some k
class TU (P:Program) (t:TypeId) (d:outParam TypeDesc):Prop where
 h:P.underlying t=some d
class TB (P:Program) (t:TypeId) (place:outParam (Nat→Option (Nat×Nat))) (zs:outParam (List Value)):Prop where
 h:∀ps,P.built t ps=Instr.fill place zs.toArray ps
 z:zs.all (·.oneCell')=true
class TV (P:Program) (t:TypeId) (zs:outParam (List Value)):Prop where
 h:Bb P t=some zs
 z:zs.all (·.oneCell')=true
class TM (P:Program):Prop where
 h:P.follows .mixedOrders=true
section
variable {P:Program} {L:Lg P} {n:Fm} {fz:Nat} {I:B5} {ops:Array Oper} {o:Oper} {r:List Oper} {E:Env} {K:Env→Prop} {d g j:Nat} {b want:Bool} {p:Pr} {x y:Operand} {Q:Exit→Act→World→Prop} {t u:TypeId}
theorem gN [i:T1 P t] {ps:List Pr} (ho:o.op= .load t x) (hx:CE E x=some (ref (p::ps))):AS P I o E p:=Du ho i.h (vl hx)
theorem gO [i:TA P t] {m:Nat} [z:TZ P t m] {ps qs:List Pr} (ho:o.op= .load t x) (hx:CE E x=some (ref ps)) (hq:ps.take m=qs) (hm:qs.length=m):AS P I o E (agg qs):=Ap ho i.h z.h (vl hx) hq hm
theorem gP {s:TypeId} {f k:Nat} [i:TF P s f k] {ps qs:List Pr} (ho:o.op= .fieldAddr s x f) (hx:CE E x=some (ref ps)) (hq:ps.drop k=qs):AS P I o E (ref qs):=D7 ho i.h (vl hx) hq
theorem gQ {s:TypeId} {f k:Nat} [i:TF P s f k] {b off:Nat} (ho:o.op= .fieldAddr s x f) (hx:CE E x=some (ptr b off)):AS P I o E (ptr b (off+k)):=Br ho i.h (vl hx)
theorem gR {e:TypeId} [i:TU P t (.slice e)] {sz:Nat} {β:Type} {f:β→List Pr} {l:List β} (ho:o.op= .call { callee:= .builtin .len,args:= #[x],argTypes:= #[t] }) (hx:CE E x=some (slice sz (l.map f))):AS P I o E (int ((l.length:Nat):Int)):=Co ho i.h (vl hx)
theorem gS [i:TU P t .string] {a:List UInt8} (ho:o.op= .call { callee:= .builtin .len,args:= #[x],argTypes:= #[t] }) (hx:CE E x=some (str a)):AS P I o E (int ((a.length:Nat):Int)):=VM ho i.h (vl hx)
theorem gT [i:TU P t .bool] {b c:Bool} (ho:o.op= .binOp .eql t x y u) (hx:CE E x=some (bool b)) (hy:CE E y=some (bool c)):AS P I o E (bool (b==c)):=Xi ho i.h (vl hx) (vl hy)
theorem gU {p:Pr} [One p] (ho:o.op= .box t x) (hx:CE E x=some p):AS P I o E (ref [p]):=KA ho (VL.le (vl hx) (AL p))
theorem gV {ps:List Pr} (ho:o.op= .box t x) (hx:CE E x=some (agg ps)):AS P I o E (ref ps):=KA ho (VL.le (vl hx) (Df ps))
class CP (p:Pr) (ps:outParam (List Pr)):Prop where
 h:Pr.le p (C4 ps)
instance gW (ps:List Pr):CP (agg ps) ps:=⟨Df ps⟩
instance (priority:=low) gX (p:Pr) [One p]:CP p [p]:=⟨AL p⟩
class CQ (p:Pr) (ps:outParam (List Pr)):Prop where
 h:Pr.le p (C4 ps)
instance gY (ps:List Pr):CQ (agg ps) ps:=⟨Df ps⟩
instance gZ (k:IntKind) (n:Int):CQ (is (.int k n)) [is (.int k n)]:=⟨AL _⟩
instance eG (b:Bool):CQ (is (.bool b)) [is (.bool b)]:=⟨AL _⟩
instance ga (s:ByteArray):CQ (is (.string s)) [is (.string s)]:=⟨AL _⟩
instance gb (a:Option Addr):CQ (is (.pointer a)) [is (.pointer a)]:=⟨AL _⟩
instance bJ (sz:Nat) (rows:List (List Pr)):CQ (slice sz rows) [slice sz rows]:=⟨AL _⟩
instance gh (ps:List Pr):CQ (ref ps) [ref ps]:=⟨AL _⟩
instance ji (f:Fn) (ps:List Pr):CQ (fn f ps) [fn f ps]:=⟨AL _⟩
theorem lX:Oo E [] []:=trivial
theorem lY {i:Nat} {q:Pr} {row:List Pr} [c:CQ q row] {xs:List (Nat×Operand)} {rows:List (Nat×List Pr)} (hx:CE E x=some q) (h:Oo E xs rows):Oo E ((i,x)::xs) ((i,row)::rows):=⟨⟨rfl,VL.le (vl hx) c.h⟩,h⟩
theorem lZ {sz:Nat}:MZ E sz [] []:=trivial
theorem ld {sz:Nat} {q:Pr} {row:List Pr} [c:CQ q row] {xs:List Operand} {rows:List (List Pr)} (hx:CE E x=some q) (hl:row.length=sz) (h:MZ E sz xs rows):MZ E sz (x::xs) (row::rows):=⟨⟨hl,VL.le (vl hx) c.h⟩,h⟩
theorem gj {parts:Array (Nat×Operand)} {place:Nat→Option (Nat×Nat)} {zs:List Value} [i:TB P t place zs] {rows:List (Nat×List Pr)} {qs:List Pr} (ho:o.op= .build t parts) (hx:Oo E parts.toList rows) (hq:Lk place (zs.map is) rows=some qs):AS P I o E (agg qs):=BK ho i.h i.z hx hq
theorem gl {e:TypeId} {sz m:Nat} {zs:List Value} {xs:List Operand} {parts:Array (Nat×Operand)} {rows:List (List Pr)} [i:TU P t (.slice e)] [z:TZ P e sz] [v:TV P e zs] (ho:o.op= .buildSlice t m parts) (hp:parts.toList.map Prod.snd=xs) (hm:(m==xs.length&&(parts.toList.map Prod.fst==List.range m)&&zs.length==sz&&Nat.blt 0 sz&&Nat.ble (m*sz) 16777216)=true) (hx:MZ E sz xs rows):AS P I o E (full sz rows):=by
 simp only [Bool.and_eq_true,beq_iff_eq,Nat.blt_eq,Nat.ble_eq] at hm
 obtain ⟨⟨⟨⟨h1,h2⟩,h3⟩,h4⟩,h5⟩:=hm
 subst h1
 refine AH ho ?_ i.h z.h v.h h3 h4 hx h5
 refine List.ext_getElem (by rw [←hp];simp) fun k h6 h7=> ?_
 have h8:k<xs.length:=by simpa using h7
 simp only [List.getElem_map,List.getElem_zipIdx,Nat.zero_add]
 have e1:(parts.toList.map Prod.fst)[k]'(by simpa using h6)=k:=by simp only [h2];exact List.getElem_range _
 have e2:(parts.toList.map Prod.snd)[k]'(by simpa using h6)=xs[k]:=by simp only [hp]
 simp only [List.getElem_map] at e1 e2
 exact Prod.ext e1 e2
section
variable {M0:Av} {w0:World} {S:Nat→Prop} {b off:Nat} {T:TypeId} {new:Bool} {ps qs:List Pr} {m:Nat} {q:Pr}
theorem HP [i:T1 P t] (ho:o.op= .load t x) (hx:CE E x=some (ptr b off)) (hp:ps[off]? =some p):F5 P M0 w0 S j (SR.c (AA new b T ps)) o E p:=B2 ho i.h (vl hx) hp
theorem HQ [i:TA P t] [z:TZ P t m] (ho:o.op= .load t x) (hx:CE E x=some (ptr b off)) (hq:(ps.drop off).take m=qs) (hm:qs.length=m):F5 P M0 w0 S j (SR.c (AA new b T ps)) o E (agg qs):=AW ho i.h z.h (vl hx) hq hm
theorem Ny {ps':List Pr} [z:TZ P t m] [c:CP q qs] (hg:o.guard=none) (ho:o.op= .store t x y) (hx:CE E x=some (ptr b off)) (hy:CE E y=some q) (hm:qs.length=m:=by rfl) (hl:Nat.ble (off+m) ps.length=true:=by rfl) (hps:ps.take off++qs++ps.drop (off+m)=ps':=by rfl):DH P M0 w0 S n j (SR.c (AA new b T ps)) (SR.c (AA new b T ps')) o E any:=Ar hg ho (vl hx) (VL.le (vl hy) c.h) z.h hm (Nat.le_of_ble_eq_true hl) hps
variable {rs:List Ao}
theorem sf (i s:Nat) [z:TZ P t m] [c:CP q qs] (hg:o.guard=none∧o.dst=none∧o.op= .store t x y) (hx:CE E x=some (ptr b 0)) (hy:CE E y=some q) (hi:rs[i]? =some (AA true b T ps)) (hs:E.lookup s=some (ptr b 0))
  (k:TO P n ops r ((s,ref qs)::E) (Hp M0 w0 S ((rs.set i (AA true b T qs)).eraseIdx i)) Q) (hm:qs.length=m:=by rfl) (hl:ps.length=m:=by rfl):TO P n ops (o::r) E (Hp M0 w0 S rs) Q:=
 TO.DB i hg.1 hg.2.1 hg.2.2 (vl hx) (VL.le (vl hy) c.h) hi z.h hm hl (TO.freeze (ps:=qs) i s (by
  have hlt:i<rs.length:=by rcases Nat.lt_or_ge i rs.length with h|h;exact h;rw [List.getElem?_eq_none h] at hi;cases hi
  rw [List.getElem?_set_self hlt]) hs k)
theorem sa (i:Nat) [z:TZ P t m] [c:CP q qs] (hg:o.guard=none∧o.dst=none∧o.op= .store t x y) (hx:CE E x=some (ptr b 0)) (hy:CE E y=some q) (hi:rs[i]? =some (AA new b T ps))
  (k:TO P n ops r E (Hp M0 w0 S (rs.set i (AA new b T qs))) Q) (hm:qs.length=m:=by rfl) (hl:ps.length=m:=by rfl):TO P n ops (o::r) E (Hp M0 w0 S rs) Q:=TO.DB i hg.1 hg.2.1 hg.2.2 (vl hx) (VL.le (vl hy) c.h) hi z.h hm hl k
end
def YP (o:Oper):Nat:=match o.op with
 | .move ..=>1
 | .assign ..=>1
 | .fieldAddr ..=>2
 | .load ..=>3
 | .binOp .add ..=>7
 | .binOp .sub ..=>8
 | .binOp ..=>4
 | .pick ..=>5
 | .nilCheck ..=>6
 | .call { callee:= .builtin .len,.. }=>9
 | .unOp ..=>10
 | .box ..=>11
 | .extract ..=>12
 | .makeFunc ..=>13
 | .build ..=>14
 | .buildSlice ..=>15
 | .store ..=>16
 |_=>0
def bK (o:Oper):Bool:=o.guard.isNone
def gm (o:Oper):Nat:=if YP o=0 then 0 else if YP o<5 then 1 else if YP o<9 then 2 else if YP o<16 then 3 else 4
theorem gp {m z:Int} (ho:o.op= .binOp .add t x y u) (hx:CE E x=some (int m)) (hy:CE E y=some (int z)) (hr: -9223372036854775808≤m+z∧m+z≤9223372036854775807):AS P I o E (int (m+z)):=B9 ho (vl hx) (vl hy) hr
theorem gq {m z:Int} (ho:o.op= .binOp .sub t x y u) (hx:CE E x=some (int m)) (hy:CE E y=some (int z)) (hr: -9223372036854775808≤m-z∧m-z≤9223372036854775807):AS P I o E (int (m-z)):=GG ho (vl hx) (vl hy) hr
theorem oF (h:AS P I o E p:=by first|exact gP rfl rfl rfl|exact gQ rfl rfl):AS P I o E p:=h
theorem oL (h:AS P I o E p:=by first|exact gN rfl rfl|exact gO rfl rfl rfl rfl|exact Ay 0 rfl (HP rfl rfl rfl)|exact Ay 0 rfl (HQ rfl rfl rfl rfl)|exact Ay 1 rfl (HP rfl rfl rfl)|exact Ay 1 rfl (HQ rfl rfl rfl rfl)|exact Ay 2 rfl (HP rfl rfl rfl)|exact Ay 2 rfl (HQ rfl rfl rfl rfl)|exact Ay 3 rfl (HP rfl rfl rfl)|exact Ay 3 rfl (HQ rfl rfl rfl rfl)|exact Ay 4 rfl (HP rfl rfl rfl)|exact Ay 4 rfl (HQ rfl rfl rfl rfl)):AS P I o E p:=h
theorem oB (h:AS P I o E p:=by first|exact ki rfl rfl rfl rfl|exact O4 rfl (vl rfl) (vl rfl)|exact YE rfl (vl rfl) (vl rfl)|exact gT rfl rfl rfl):AS P I o E p:=h
theorem oP (h:AS P I o E p:=by first|exact NM rfl rfl (by first|rfl|assumption) rfl|exact KP rfl rfl (by first|rfl|assumption) rfl|exact Rc rfl (vl rfl) (vl rfl)|exact PJ rfl (vl rfl) (vl rfl)):AS P I o E p:=h
theorem oN (h:AS P I o E p:=by first|exact Hg rfl (vl rfl)|exact JZ rfl (vl rfl)|exact J_ rfl (vl rfl)):AS P I o E p:=h
theorem oA (h:AS P I o E p:=by first|exact gp rfl rfl rfl (by omega)|exact ki rfl rfl rfl rfl):AS P I o E p:=h
theorem oS (h:AS P I o E p:=by first|exact gq rfl rfl rfl (by omega)|exact ki rfl rfl rfl rfl):AS P I o E p:=h
theorem oC (h:AS P I o E p:=by first|exact gR rfl rfl|exact gS rfl rfl):AS P I o E p:=h
theorem oU (h:AS P I o E p:=by first|exact E0 rfl (vl rfl)):AS P I o E p:=h
theorem oO (h:AS P I o E p:=by first|exact gV rfl rfl|exact gU rfl rfl):AS P I o E p:=h
theorem oE (h:AS P I o E p:=by first|exact A2 rfl (vl rfl) rfl):AS P I o E p:=h
theorem oM (h:AS P I o E p:=by first|exact NS rfl rfl):AS P I o E p:=h
theorem oD (h:AS P I o E p:=by first|exact gj rfl (by repeat any_goals first|exact lX|refine' lY rfl ?_) (by rfl)):AS P I o E p:=h
theorem oI (h:AS P I o E p:=by first|exact gl rfl rfl (by rfl) (by repeat any_goals first|exact lZ|refine' ld rfl (by rfl) ?_)):AS P I o E p:=h
theorem jj {f:FuncId} {ts:Array TypeId} {res:Pr} (hf:Be P f [] res) (ho:o.op= .call { callee:= .value (.func f),args:= #[],argTypes:=ts }):AS P I o E res:=Ai ho hf trivial
theorem Eh {f:FuncId} {ts:Array TypeId} {x0:Operand} {p0:Pr} {res:Pr} (hf:Be P f [p0] res) (ho:o.op= .call { callee:= .value (.func f),args:= #[x0],argTypes:=ts }) (h0:CE E x0=some p0):AS P I o E res:=Ai ho hf ⟨ke h0,trivial⟩
theorem F3 {f:FuncId} {ts:Array TypeId} {x0:Operand} {p0:Pr} {x1:Operand} {p1:Pr} {res:Pr} (hf:Be P f [p0,p1] res) (ho:o.op= .call { callee:= .value (.func f),args:= #[x0,x1],argTypes:=ts }) (h0:CE E x0=some p0) (h1:CE E x1=some p1):AS P I o E res:=Ai ho hf ⟨ke h0,ke h1,trivial⟩
theorem eH {f:FuncId} {ts:Array TypeId} {x0:Operand} {p0:Pr} {x1:Operand} {p1:Pr} {x2:Operand} {p2:Pr} {res:Pr} (hf:Be P f [p0,p1,p2] res) (ho:o.op= .call { callee:= .value (.func f),args:= #[x0,x1,x2],argTypes:=ts }) (h0:CE E x0=some p0) (h1:CE E x1=some p1) (h2:CE E x2=some p2):AS P I o E res:=Ai ho hf ⟨ke h0,ke h1,ke h2,trivial⟩
theorem lf {f:FuncId} {ts:Array TypeId} {x0:Operand} {p0:Pr} {x1:Operand} {p1:Pr} {x2:Operand} {p2:Pr} {x3:Operand} {p3:Pr} {res:Pr} (hf:Be P f [p0,p1,p2,p3] res) (ho:o.op= .call { callee:= .value (.func f),args:= #[x0,x1,x2,x3],argTypes:=ts }) (h0:CE E x0=some p0) (h1:CE E x1=some p1) (h2:CE E x2=some p2) (h3:CE E x3=some p3):AS P I o E res:=Ai ho hf ⟨ke h0,ke h1,ke h2,ke h3,trivial⟩
theorem cP (_:bK o=true) (h:Ch P n I ops (o::r) E K):Ch P n I ops (o::r) E K:=h
theorem cG (_:bK o=false) (h:Ch P n I ops (o::r) E K):Ch P n I ops (o::r) E K:=h
theorem cK (k:Nat) (_:YP o=k) (h:Ch P n I ops (o::r) E K):Ch P n I ops (o::r) E K:=h
theorem cS (k:Nat) (_:gm o=k) (h:Ch P n I ops (o::r) E K):Ch P n I ops (o::r) E K:=h
theorem tK (k:Nat) (_:YP o=k) (h:TO P n ops (o::r) E I Q):TO P n ops (o::r) E I Q:=h
theorem tG (k:Nat) (_:gm o=k) (h:TO P n ops (o::r) E I Q):TO P n ops (o::r) E I Q:=h
theorem Tr.rm [i:TM P] {id:Nat} {l:List Oper} (hB:MU l=true) (h:Ch P n I l.toArray l E (fun E'=>Fin n E' I Q .normal)) (hc:calm l=true:=by with_unfolding_all rfl):Tr L n E I (.region id l.toArray true) Q:=Tr.J8 i.h hB h hc
theorem Tr.ct {c:Operand} {y z:Code} (hc:CE E c=some (bool true)) (k:Tr L n E I y Q):Tr L n E I (.cond c y z) Q:=Tr.cond hc (fun _=>k) (fun h=>nomatch h)
theorem Tr.cf {c:Operand} {y z:Code} (hc:CE E c=some (bool false)) (k:Tr L n E I z Q):Tr L n E I (.cond c y z) Q:=Tr.cond hc (fun h=>nomatch h) (fun _=>k)
structure TE (G:Prop):Prop where
 k:G
theorem Cx.mono {M0:Av} {w0:World} {S:Nat→Prop}:∀{l:List Oper} {E:Env} {rs:List SR} {K K':List X→Env→List SR→Prop},(∀L E rs,K L E rs→K' L E rs)→Cx P M0 w0 S n ops l E rs K→Cx P M0 w0 S n ops l E rs K'
 |[],_,_,_,_,h,k=>h _ _ _ k
 |_::_,_,_,_,_,h,⟨p,k,h1,h2,h3⟩=>⟨p,k,h1,h2,Cx.mono (fun _ _ _=>h _ _ _) h3⟩
theorem Cx.keys {M0:Av} {w0:World} {S:Nat→Prop}:∀{l:List Oper} {E:Env} {rs:List SR} {K:List X→Env→List SR→Prop},Cx P M0 w0 S n ops l E rs K→∃ks:List KN,Cx P M0 w0 S n ops l E rs (fun L E' rs'=>L.map (·.k.HI)=ks∧K L E' rs')
 |[],_,_,_,k=>⟨[],rfl,k⟩
 |_::_,_,_,_,⟨p,k,h1,h2,h3⟩=>by
  obtain ⟨ks,h4⟩:=Cx.keys h3
  exact ⟨k.HI::ks,p,k,h1,h2,Cx.mono (fun L E rs h=>⟨by rw [List.map_cons,h.1],h.2⟩) h4⟩
theorem Tr.rx {Lo:Lg P} [i:TM P] {M0:Av} {w0:World} {S:Nat→Prop} {id:Nat} {l:List Oper} {FH:List Ao}
  (h:Cx P M0 w0 S n l.toArray l E (FH.map SR.c) (fun L E' rs'=>Jk l (L.map (·.k.HI))=true∧BJ n M0 w0 S E' rs' Q)) (hc:calm l=true:=by with_unfolding_all rfl):Tr Lo n E (Hp M0 w0 S FH) (.region id l.toArray true) Q:=by
 obtain ⟨ks,hk⟩:=Cx.keys h
 obtain ⟨L,h1,h2,h3⟩:=MW l 0 E _ hk
 exact Tr.EL i.h ks (by rw [←h3.1];exact h3.2.1) (hk.mono fun _ _ _ h=>⟨h.1,h.2.2⟩) hc
theorem eI {rs:List Ao} {r0:Ao}:BS (SR.c r0::rs.map SR.c) (r0::rs):= .cons (BS.map _)
theorem Oe {rs:List Ao} {r0:Ao} {r1:Ao}:BS (SR.c r0::SR.c r1::rs.map SR.c) (r0::r1::rs):= .cons (.cons (BS.map _))
theorem gr {rs:List Ao} {r0:Ao} {r1:Ao} {r2:Ao}:BS (SR.c r0::SR.c r1::SR.c r2::rs.map SR.c) (r0::r1::r2::rs):= .cons (.cons (.cons (BS.map _)))
theorem lg {rs:List Ao} {r0:Ao} {r1:Ao} {r2:Ao} {r3:Ao} {r4:Ao} {r5:Ao}:BS (SR.c r0::SR.c r1::SR.c r2::SR.c r3::SR.c r4::SR.c r5::rs.map SR.c) (r0::r1::r2::r3::r4::r5::rs):= .cons (.cons (.cons (.cons (.cons (.cons (BS.map _))))))
theorem lp {rs:List Ao} {r0:Ao} {r1:Ao} {r2:Ao} {r3:Ao} {r4:Ao} {r5:Ao} {r6:Ao}:BS (SR.c r0::SR.c r1::SR.c r2::SR.c r3::SR.c r4::SR.c r5::SR.c r6::rs.map SR.c) (r0::r1::r2::r3::r4::r5::r6::rs):= .cons (.cons (.cons (.cons (.cons (.cons (.cons (BS.map _)))))))
theorem fo {f : FuncId} {g : Func} {c : Code} {ps : List Pr} {res : Pr} (hf : P.funcs[f]? = some g) (hb : g.body = some c) (hname : ((g.name == "runtime.NumGoroutine") = false ∧ Nat.ble ps.length g.ntmps = true))
  (h:∀M0 w0,Tr (XZ P) g.ntmps (JY 0 ps) (jI M0 w0) c (bodyPost P g (NQ M0 w0 res))):Be P f ps res:=Be.of hf hb hname.1 (Nat.le_of_ble_eq_true hname.2) h
section
variable {M0:Av} {w0:World} {S:Nat→Prop} {rs:List SR} {KX:List X→Env→List SR→Prop}
theorem jk {l:List Oper} (h:Cx P M0 w0 S n ops l E rs KX):Cx P M0 w0 S n ops l E rs KX:=h
theorem xK (k:Nat) (_:YP o=k) (h:Cx P M0 w0 S n ops (o::r) E rs KX):Cx P M0 w0 S n ops (o::r) E rs KX:=h
theorem xG (k:Nat) (_:gm o=k) (h:Cx P M0 w0 S n ops (o::r) E rs KX):Cx P M0 w0 S n ops (o::r) E rs KX:=h
end
theorem cId {l:List Oper} (h:Ch P n I ops l E K):Ch P n I ops l E K:=h
theorem ZW {c:Code} (h:Tr L n E I c Q):Tr L n E I c Q:=h
theorem fId {e:Exit} (h:Fin n E I Q e):Fin n E I Q e:=h
theorem bL {l:List Oper} (h:TO P n ops l E I Q):TO P n ops l E I Q:=h
theorem ac {G H:Prop} (k:G) (h:TE G→H:=by
 intro k
 repeat1' first
  |((with_reducible refine cId ?_);first
   |with_reducible refine Ch.nil ?_
   |(refine cP rfl ?_;first
    |(refine cS 1 rfl ?_;first
      |(refine cK 1 rfl ?_;refine cm rfl ?_)
      |(refine cK 2 rfl ?_;refine co rfl oF ?_)
      |(refine cK 3 rfl ?_;refine co rfl oL ?_)
      |(refine cK 4 rfl ?_;refine co rfl oB ?_))
    |(refine cS 2 rfl ?_;first
      |(refine cK 5 rfl ?_;refine co rfl oP ?_)
      |(refine cK 6 rfl ?_;refine co rfl oN ?_)
      |(refine cK 7 rfl ?_;refine co rfl oA ?_)
      |(refine cK 8 rfl ?_;refine co rfl oS ?_))
    |(refine cS 3 rfl ?_;first
      |(refine cK 9 rfl ?_;refine co rfl oC ?_)
      |(refine cK 10 rfl ?_;refine co rfl oU ?_)
      |(refine cK 11 rfl ?_;refine co rfl oO ?_)
      |(refine cK 12 rfl ?_;refine co rfl oE ?_)
      |(refine cK 13 rfl ?_;refine co rfl oM ?_)
      |(refine cK 14 rfl ?_;refine co rfl oD ?_)
      |(refine cK 15 rfl ?_;refine co rfl oI ?_)))
   |(refine cG rfl ?_;first
    |refine cu rfl ?_
    |refine cnt (by assumption) rfl ?_
    |refine cnf (by assumption) rfl ?_
    |(refine cS 1 rfl ?_;first
      |(refine cK 1 rfl ?_;refine Dh (by first|assumption|rfl) rfl ?_)
      |(refine cK 2 rfl ?_;refine cy (by first|assumption|rfl) rfl oF ?_)
      |(refine cK 3 rfl ?_;refine cy (by first|assumption|rfl) rfl oL ?_)
      |(refine cK 4 rfl ?_;refine cy (by first|assumption|rfl) rfl oB ?_))
    |(refine cS 2 rfl ?_;first
      |(refine cK 5 rfl ?_;refine cy (by first|assumption|rfl) rfl oP ?_)
      |(refine cK 6 rfl ?_;refine cy (by first|assumption|rfl) rfl oN ?_)
      |(refine cK 7 rfl ?_;refine cy (by first|assumption|rfl) rfl oA ?_)
      |(refine cK 8 rfl ?_;refine cy (by first|assumption|rfl) rfl oS ?_))
    |(refine cS 3 rfl ?_;first
      |(refine cK 9 rfl ?_;refine cy (by first|assumption|rfl) rfl oC ?_)
      |(refine cK 10 rfl ?_;refine cy (by first|assumption|rfl) rfl oU ?_)
      |(refine cK 11 rfl ?_;refine cy (by first|assumption|rfl) rfl oO ?_)
      |(refine cK 12 rfl ?_;refine cy (by first|assumption|rfl) rfl oE ?_)
      |(refine cK 13 rfl ?_;refine cy (by first|assumption|rfl) rfl oM ?_)
      |(refine cK 14 rfl ?_;refine cy (by first|assumption|rfl) rfl oD ?_)
      |(refine cK 15 rfl ?_;refine cy (by first|assumption|rfl) rfl oI ?_))
    |refine lC rfl rfl ?_))
  |((with_reducible refine ZW ?_);first
   |with_reducible refine Tr.seq ?_
   |with_reducible refine Tr.A0 ?_
   |refine Tr.rm (by kernel_rfl) ?_
   |with_reducible refine Tr.skip ?_
   |with_reducible refine Tr.block ?_
   |with_reducible refine Tr.ret ?_
   |with_reducible refine Tr.exit ?_
   |refine Tr.ct rfl ?_
   |refine Tr.cf rfl ?_)
  |((with_reducible refine fId ?_);first
   |with_reducible refine Fin.AJ ?_
   |with_reducible refine Fin.Ad ?_
   |with_reducible refine Fin.AK ?_
   |with_reducible refine Fin.Aa ?_
   |refine Fin.Hf rfl ?_
   |with_reducible refine Fin.block ?_
   |refine Fin.EI rfl (Bq.D3 _ _) rfl ?_)
 first|with_reducible refine Fin.go ?_|with_reducible refine cId ?_|with_reducible refine bL ?_|with_reducible refine ZW ?_|refine Fin.go ?_|skip
 exact k.k):H:=h ⟨k⟩
theorem ao {G H:Prop} (k:G) (h:TE G→H:=by
 intro k
 repeat1' first
  |((with_reducible refine bL ?_);first
   |with_reducible refine TO.nil ?_
   |(refine tG 1 rfl ?_;first
     |(refine tK 1 rfl ?_;refine tm rfl ?_)
     |(refine tK 2 rfl ?_;refine tp rfl oF ?_)
     |(refine tK 3 rfl ?_;refine tp rfl oL ?_)
     |(refine tK 4 rfl ?_;refine tp rfl oB ?_))
   |(refine tG 2 rfl ?_;first
     |(refine tK 5 rfl ?_;refine tp rfl oP ?_)
     |(refine tK 6 rfl ?_;refine tp rfl oN ?_)
     |(refine tK 7 rfl ?_;refine tp rfl oA ?_)
     |(refine tK 8 rfl ?_;refine tp rfl oS ?_))
   |(refine tG 3 rfl ?_;first
     |(refine tK 9 rfl ?_;refine tp rfl oC ?_)
     |(refine tK 10 rfl ?_;refine tp rfl oU ?_)
     |(refine tK 12 rfl ?_;refine tp rfl oE ?_)
     |(refine tK 13 rfl ?_;refine tp rfl oM ?_)
     |(refine tK 14 rfl ?_;refine tp rfl oD ?_)
     |(refine tK 15 rfl ?_;refine tp rfl oI ?_)))
  |((with_reducible refine ZW ?_);first
   |with_reducible refine Tr.seq ?_
   |with_reducible refine Tr.Cq ?_
   |with_reducible refine Tr.skip ?_
   |with_reducible refine Tr.block ?_
   |with_reducible refine Tr.ret ?_
   |with_reducible refine Tr.exit ?_)
  |((with_reducible refine fId ?_);first
   |with_reducible refine Fin.AJ ?_
   |with_reducible refine Fin.Ad ?_
   |with_reducible refine Fin.AK ?_
   |with_reducible refine Fin.Aa ?_
   |refine Fin.Hf rfl ?_
   |with_reducible refine Fin.block ?_)
 first|with_reducible refine Fin.go ?_|with_reducible refine cId ?_|with_reducible refine bL ?_|with_reducible refine ZW ?_|refine Fin.go ?_|skip
 exact k.k):H:=h ⟨k⟩
theorem ap {G H:Prop} (k:G) (h:TE G→H:=by
 intro k
 repeat1' first
  |((with_reducible refine bL ?_);first
   |with_reducible refine TO.nil ?_
   |(refine tG 1 rfl ?_;first
     |(refine tK 1 rfl ?_;refine tm rfl ?_)
     |(refine tK 2 rfl ?_;refine tp rfl oF ?_)
     |(refine tK 3 rfl ?_;refine tp rfl oL ?_)
     |(refine tK 4 rfl ?_;refine tp rfl oB ?_))
   |(refine tG 2 rfl ?_;first
     |(refine tK 5 rfl ?_;refine tp rfl oP ?_)
     |(refine tK 6 rfl ?_;refine tp rfl oN ?_)
     |(refine tK 7 rfl ?_;refine tp rfl oA ?_)
     |(refine tK 8 rfl ?_;refine tp rfl oS ?_))
   |(refine tG 3 rfl ?_;first
     |(refine tK 9 rfl ?_;refine tp rfl oC ?_)
     |(refine tK 10 rfl ?_;refine tp rfl oU ?_)
     |(refine tK 12 rfl ?_;refine tp rfl oE ?_)
     |(refine tK 13 rfl ?_;refine tp rfl oM ?_)
     |(refine tK 14 rfl ?_;refine tp rfl oD ?_)
     |(refine tK 15 rfl ?_;refine tp rfl oI ?_))
   |(refine tK 16 rfl ?_;first
    |refine sa 0 ⟨rfl,rfl,rfl⟩ rfl rfl rfl ?_
    |refine TO.DP 0 rfl rfl (Ny rfl rfl rfl rfl) ?_
    |refine sa 1 ⟨rfl,rfl,rfl⟩ rfl rfl rfl ?_
    |refine TO.DP 1 rfl rfl (Ny rfl rfl rfl rfl) ?_
    |refine sa 2 ⟨rfl,rfl,rfl⟩ rfl rfl rfl ?_
    |refine TO.DP 2 rfl rfl (Ny rfl rfl rfl rfl) ?_
    |refine sa 3 ⟨rfl,rfl,rfl⟩ rfl rfl rfl ?_
    |refine TO.DP 3 rfl rfl (Ny rfl rfl rfl rfl) ?_))
  |((with_reducible refine ZW ?_);first
   |with_reducible refine Tr.seq ?_
   |with_reducible refine Tr.Cq ?_
   |with_reducible refine Tr.skip ?_
   |with_reducible refine Tr.block ?_
   |with_reducible refine Tr.ret ?_
   |with_reducible refine Tr.exit ?_)
  |((with_reducible refine fId ?_);first
   |with_reducible refine Fin.AJ ?_
   |with_reducible refine Fin.Ad ?_
   |with_reducible refine Fin.AK ?_
   |with_reducible refine Fin.Aa ?_
   |refine Fin.Hf rfl ?_
   |with_reducible refine Fin.block ?_)
 first|with_reducible refine Fin.go ?_|with_reducible refine cId ?_|with_reducible refine bL ?_|with_reducible refine ZW ?_|refine Fin.go ?_|skip
 exact k.k):H:=h ⟨k⟩
theorem ax {G H:Prop} (k:G) (h:TE G→H:=by
 intro k
 repeat ((with_reducible refine jk ?_);first
   |(refine xG 1 rfl ?_;first
     |(refine xK 1 rfl ?_;refine xm rfl ?_)
     |(refine xK 2 rfl ?_;refine xo rfl (fun _=>oF) ?_)
     |(refine xK 3 rfl ?_;refine xo rfl (fun _=>oL) ?_)
     |(refine xK 4 rfl ?_;refine xo rfl (fun _=>oB) ?_))
   |(refine xG 2 rfl ?_;first
     |(refine xK 5 rfl ?_;refine xo rfl (fun _=>oP) ?_)
     |(refine xK 6 rfl ?_;refine xo rfl (fun _=>oN) ?_)
     |(refine xK 7 rfl ?_;refine xo rfl (fun _=>oA) ?_)
     |(refine xK 8 rfl ?_;refine xo rfl (fun _=>oS) ?_))
   |(refine xG 3 rfl ?_;first
     |(refine xK 9 rfl ?_;refine xo rfl (fun _=>oC) ?_)
     |(refine xK 10 rfl ?_;refine xo rfl (fun _=>oU) ?_)
     |(refine xK 11 rfl ?_;refine xo rfl (fun _=>oO) ?_)
     |(refine xK 12 rfl ?_;refine xo rfl (fun _=>oE) ?_)
     |(refine xK 13 rfl ?_;refine xo rfl (fun _=>oM) ?_)
     |(refine xK 14 rfl ?_;refine xo rfl (fun _=>oD) ?_))
   |(refine xK 3 rfl ?_;first
    |refine DI 0 rfl rfl (HP rfl rfl rfl) ?_
    |refine DI 0 rfl rfl (HQ rfl rfl rfl rfl) ?_
    |refine DI 1 rfl rfl (HP rfl rfl rfl) ?_
    |refine DI 1 rfl rfl (HQ rfl rfl rfl rfl) ?_
    |refine DI 2 rfl rfl (HP rfl rfl rfl) ?_
    |refine DI 2 rfl rfl (HQ rfl rfl rfl rfl) ?_
    |refine DI 3 rfl rfl (HP rfl rfl rfl) ?_
    |refine DI 3 rfl rfl (HQ rfl rfl rfl rfl) ?_
    |refine DI 4 rfl rfl (HP rfl rfl rfl) ?_
    |refine DI 4 rfl rfl (HQ rfl rfl rfl rfl) ?_))
 exact k.k):H:=h ⟨k⟩
theorem ay {G H:Prop} (k:G) (h:TE G→H:=by
 intro k
 repeat ((with_reducible refine jk ?_);first
   |(refine xG 1 rfl ?_;first
     |(refine xK 1 rfl ?_;refine xm rfl ?_)
     |(refine xK 2 rfl ?_;refine xo rfl (fun _=>oF) ?_)
     |(refine xK 3 rfl ?_;refine xo rfl (fun _=>oL) ?_)
     |(refine xK 4 rfl ?_;refine xo rfl (fun _=>oB) ?_))
   |(refine xG 2 rfl ?_;first
     |(refine xK 5 rfl ?_;refine xo rfl (fun _=>oP) ?_)
     |(refine xK 6 rfl ?_;refine xo rfl (fun _=>oN) ?_)
     |(refine xK 7 rfl ?_;refine xo rfl (fun _=>oA) ?_)
     |(refine xK 8 rfl ?_;refine xo rfl (fun _=>oS) ?_))
   |(refine xG 3 rfl ?_;first
     |(refine xK 9 rfl ?_;refine xo rfl (fun _=>oC) ?_)
     |(refine xK 10 rfl ?_;refine xo rfl (fun _=>oU) ?_)
     |(refine xK 11 rfl ?_;refine xo rfl (fun _=>oO) ?_)
     |(refine xK 12 rfl ?_;refine xo rfl (fun _=>oE) ?_)
     |(refine xK 13 rfl ?_;refine xo rfl (fun _=>oM) ?_)
     |(refine xK 14 rfl ?_;refine xo rfl (fun _=>oD) ?_))
   |(refine xK 3 rfl ?_;first
    |refine DI 0 rfl rfl (HP rfl rfl rfl) ?_
    |refine DI 0 rfl rfl (HQ rfl rfl rfl rfl) ?_
    |refine DI 1 rfl rfl (HP rfl rfl rfl) ?_
    |refine DI 1 rfl rfl (HQ rfl rfl rfl rfl) ?_
    |refine DI 2 rfl rfl (HP rfl rfl rfl) ?_
    |refine DI 2 rfl rfl (HQ rfl rfl rfl rfl) ?_
    |refine DI 3 rfl rfl (HP rfl rfl rfl) ?_
    |refine DI 3 rfl rfl (HQ rfl rfl rfl rfl) ?_
    |refine DI 4 rfl rfl (HP rfl rfl rfl) ?_
    |refine DI 4 rfl rfl (HQ rfl rfl rfl rfl) ?_)
   |(refine xK 16 rfl ?_;first
    |refine Cx.DP 0 rfl rfl (Ny rfl rfl rfl rfl) ?_
    |refine Cx.DP 1 rfl rfl (Ny rfl rfl rfl rfl) ?_
    |refine Cx.DP 2 rfl rfl (Ny rfl rfl rfl rfl) ?_
    |refine Cx.DP 3 rfl rfl (Ny rfl rfl rfl rfl) ?_))
 exact k.k):H:=h ⟨k⟩
theorem Ch.cg {l:List Oper} {b v:Bool} {g j:Nat} {pt pf:Prop} [ht:GL b true pt] [hf:GL b false pf] (_:o.guard=some (j,v)) (_:(ops[j]?.bind (·.dst))=some g) (hb:E.lookup g=some (bool b)) (k:b=true→pt→Ch P n I ops (o::l) E K) (k':b=false→pf→Ch P n I ops (o::l) E K):Ch P n I ops (o::l) E K:=Ch.cases g hb (fun h=>k h (ht.Jl h)) (fun h=>k' h (hf.Jl h))
theorem a2 {G H:Prop} (k:G) (h:TE G→H:=by
 intro k
 iterate 2 refine ac ?_
 exact k.k):H:=h ⟨k⟩
theorem a3 {G H:Prop} (k:G) (h:TE G→H:=by
 intro k
 iterate 3 refine ac ?_
 exact k.k):H:=h ⟨k⟩
theorem an {G L H:Prop} (k:G) (l:L) (h:TE G→TE L→H:=by
 intro k l
 refine ac ?_
 refine Tr.cn rfl ?_ ?_
 exact k.k
 exact l.k):H:=h ⟨k⟩ ⟨l⟩
theorem ag {G L H:Prop} (k:G) (l:L) (h:TE G→TE L→H:=by
 intro k l
 refine ac ?_
 refine Ch.cg rfl rfl rfl ?_ ?_
 exact k.k
 exact l.k):H:=h ⟨k⟩ ⟨l⟩
theorem Lr {p:Pr}:Pr.le p p:=Pr.le_refl p
theorem Vo {p:Pr} [One p] (h:CE E x=some p):VL E x (C4 [p]):=VL.le (vl h) (AL p)
theorem Va {ps:List Pr} (h:CE E x=some (agg ps)):VL E x (C4 ps):=VL.le (vl h) (Df ps)
theorem Nb {a b:Nat} (h:Nat.ble a b=true):a≤b:=Nat.le_of_ble_eq_true h
theorem Kf {z:Nat} {l:List (List Pr)} (h:CE E x=some (full z l)):VL E x (slice z l):=⟨_,h,BO z l⟩
theorem Ka {v:Value} (h:CE E x=some (Aq v p)):VL E x (is v):=⟨_,h,DO v p⟩
theorem Kb {v:Value} (h:CE E x=some (Aq v p)):VL E x p:=⟨_,h,BP v p⟩
theorem Tl {M0:Av} {w0:World} {S:Nat→Prop} {rs:List Ao} {T:TypeId} {zs:List Value} (hg:o.guard=none) (hd:o.dst=some d) (hn:Nat.blt d n=true) (ho:o.op= .alloc T) (hz:Bb P T=some zs) (h1':zs.all (·.oneCell')=true)
  (k:∀b,TO P n ops r ((d,is (.pointer (some ⟨b,0,none⟩)))::E) (Hp M0 w0 S (AA true b T (zs.map is)::rs)) Q):TO P n ops (o::r) E (Hp M0 w0 S rs) Q:=TO.alloc hg hd (E5 hn) ho hz h1' k
theorem Vb {M0:Av} {w0:World} {S:Nat→Prop} {t e:TypeId} {sz bytes:Nat} {zs:List Value} {rows AV:List (List Pr)} {R:SR} (hg:o.guard=none) (hd:o.dst=some d) (hn:Nat.blt d n=true) (ho:o.op= .call { callee:= .builtin .append,args:= #[x,y],argTypes:= #[t,t] })
  (ht:P.underlying t=some (.slice e)) (hz:Ax P e=some sz) (hby:Bx P e=some bytes) (C1:Bb P e=some zs) (hx:VL E x (slice sz rows)) (hy:VL E y (slice sz AV))
  (hR:∀M w (a:Act),B8 M w E o a→R.at_ a=BR e sz (a.eval x)∨(R.at_ a=BT∧CG (a.eval x)=none)) (hzl:zs.length=sz:=by rfl) (hsz:Nat.blt 0 sz=true:=by rfl)
  (CY:rows.length+AV.length≤maxLen:=by simp only [List.length_map,List.length_append,List.length_cons,List.length_nil,List.length_replicate,List.length_take,List.length_drop];unfold maxLen;omega) (hfit:(rows.length+AV.length)*bytes≤140737488355328:=by simp only [List.length_map,List.length_append,List.length_cons,List.length_nil,List.length_replicate,List.length_take,List.length_drop];omega):DH P M0 w0 S n j R ⟨d,BR e sz⟩ o E (slice sz (rows++AV)):=Ah hg hd (E5 hn) ho ht hz hby C1 hzl (E5 hsz) hx hy CY hfit hR
end
end Cp
namespace Go.Proofs.YtgilhkjlfongoaaGreat
open Go Cp
instance eJ:TM Tryz.prog:=⟨mixed⟩
instance lq:TV Tryz.prog 3 [.int .i64 0]:=⟨z3,jW⟩
instance gu:T1 Tryz.prog 3:=⟨Cr⟩
instance jl:TZ Tryz.prog 3 1:=⟨B7⟩
instance gv:T1 Tryz.prog 5:=⟨fT⟩
instance lu:TV Tryz.prog 9 [.string (ByteArray.mk #[])]:=⟨z9,lG⟩
instance gw:T1 Tryz.prog 9:=⟨Nc⟩
instance jm:TZ Tryz.prog 9 1:=⟨Da⟩
instance Uu:TU Tryz.prog 9 .string:=⟨Tryz.underlying9⟩
instance eK:T1 Tryz.prog 22:=⟨Nd⟩
instance TG:TU Tryz.prog 22 (.slice 3):=⟨Tryz.underlying22⟩
instance gy:TB Tryz.prog 24 (fun i=>(#[(0,1),(1,1)]:Array (Nat×Nat))[i]?) (List.replicate 2 (.int .i64 0)):=⟨fU,aC⟩
instance jo:TV Tryz.prog 24 (List.replicate 2 (.int .i64 0)):=⟨z24,aC⟩
instance eL:TA Tryz.prog 24:=⟨aB⟩
instance gz:TZ Tryz.prog 24 2:=⟨Xr⟩
instance bM:TF Tryz.prog 24 0 0:=⟨Xs⟩
instance bN:TF Tryz.prog 24 1 1:=⟨Xt⟩
instance g_:TB Tryz.prog 26 (fun i=>(#[(0,1),(1,1),(2,1),(3,1),(4,1),(5,1),(6,1),(7,2),(9,1),(10,1)]:Array (Nat×Nat))[i]?) [.int .i64 0,.string (ByteArray.mk #[]),.int .i64 0,.int .i64 0,.int .i64 0,.int .i64 0,.string (ByteArray.mk #[]),.int .i64 0,.int .i64 0,.int .i64 0,.string (ByteArray.mk #[])]:=⟨aD,Hq⟩
instance eM:TA Tryz.prog 26:=⟨BI⟩
instance hG:TZ Tryz.prog 26 11:=⟨AY⟩
instance bO:TF Tryz.prog 26 0 0:=⟨Xu⟩
instance bP:TF Tryz.prog 26 1 1:=⟨Sn⟩
instance bQ:TF Tryz.prog 26 2 2:=⟨Mi⟩
instance bR:TF Tryz.prog 26 3 3:=⟨So⟩
instance bS:TF Tryz.prog 26 4 4:=⟨Sq⟩
instance bT:TF Tryz.prog 26 5 5:=⟨Xv⟩
instance bU:TF Tryz.prog 26 6 6:=⟨Xw⟩
instance bV:TF Tryz.prog 26 7 7:=⟨Xx⟩
instance bW:TF Tryz.prog 26 8 9:=⟨Xy⟩
instance bX:TF Tryz.prog 26 9 10:=⟨Xz⟩
instance eN:T1 Tryz.prog 31:=⟨aE⟩
instance TH:TU Tryz.prog 31 (.slice 26):=⟨Tryz.underlying31⟩
instance TI:TU Tryz.prog 35 (.slice 55):=⟨Tryz.underlying35⟩
instance TJ:TU Tryz.prog 39 (.slice 57):=⟨Tryz.underlying39⟩
instance eO:T1 Tryz.prog 53:=⟨QX⟩
instance TK:TU Tryz.prog 53 (.slice 9):=⟨Tryz.underlying53⟩
instance hO:TB Tryz.prog 55 (fun i=>(#[(0,1),(1,1),(2,1),(3,1)]:Array (Nat×Nat))[i]?) [.int .i64 0,.slice none 0 0,.slice none 0 0,.slice none 0 0]:=⟨aG,RJ⟩
instance jq:TV Tryz.prog 55 [.int .i64 0,.slice none 0 0,.slice none 0 0,.slice none 0 0]:=⟨X2,RJ⟩
instance h_:TZ Tryz.prog 55 4:=⟨EO⟩
instance bY:TF Tryz.prog 55 0 0:=⟨X3⟩
instance bZ:TF Tryz.prog 55 1 1:=⟨Oz⟩
instance bf:TF Tryz.prog 55 2 2:=⟨O0⟩
instance bg:TF Tryz.prog 55 3 3:=⟨O1⟩
instance iA:TB Tryz.prog 57 (fun i=>(#[(0,1),(1,1),(2,1)]:Array (Nat×Nat))[i]?) [.int .i64 0,.int .i64 0,.slice none 0 0]:=⟨fV,aH⟩
instance jr:TV Tryz.prog 57 [.int .i64 0,.int .i64 0,.slice none 0 0]:=⟨NN,aH⟩
instance eP:TA Tryz.prog 57:=⟨BG⟩
instance iB:TZ Tryz.prog 57 3:=⟨AQ⟩
instance bh:TF Tryz.prog 57 0 0:=⟨Mj⟩
instance bk:TF Tryz.prog 57 1 1:=⟨O2⟩
instance bl:TF Tryz.prog 57 2 2:=⟨O3⟩
instance TL:TU Tryz.prog 76 (.slice 24):=⟨Tryz.underlying76⟩
instance iC:TB Tryz.prog 80 (fun i=>(#[(0,1),(1,1)]:Array (Nat×Nat))[i]?) [.slice none 0 0,.int .i64 0]:=⟨fW,fX⟩
instance bn:TF Tryz.prog 80 0 0:=⟨X4⟩
instance bp:TF Tryz.prog 80 1 1:=⟨X5⟩
instance iD:TB Tryz.prog 92 (fun i=>(#[(0,1),(1,1)]:Array (Nat×Nat))[i]?) (List.replicate 2 (.int .i64 0)):=⟨fZ,X6⟩
instance eR:TA Tryz.prog 92:=⟨aI⟩
instance iE:TZ Tryz.prog 92 2:=⟨fY⟩
instance bq:TF Tryz.prog 92 0 0:=⟨X7⟩
instance bu:TF Tryz.prog 92 1 1:=⟨X8⟩
instance eS:T1 Tryz.prog 96:=⟨aJ⟩
instance eT:TB Tryz.prog 126 (fun i=>some (i*1,1)) (List.replicate 400 (.int .i64 0)):=⟨aK,aL⟩
instance bw:T1 Tryz.prog 143:=⟨X9⟩
instance bz:T1 Tryz.prog 144:=⟨X_⟩
instance b7:T1 Tryz.prog 146:=⟨YA⟩
instance SG:TU Tryz.prog 175 (.slice 5):=⟨Tryz.underlying175⟩
instance b8:T1 Tryz.prog 189:=⟨YB⟩
instance eU:TZ Tryz.prog 189 1:=⟨aM⟩
instance eV:TB Tryz.prog 196 (fun i=>(#[(0,1),(1,1),(2,1),(3,1),(4,1)]:Array (Nat×Nat))[i]?) [.string (ByteArray.mk #[]),.int .i64 0,.int .i64 0,.slice none 0 0,.slice none 0 0]:=⟨Cj,CJ⟩
instance eW:TZ Tryz.prog 196 5:=⟨Ln⟩
instance ZX:TF Tryz.prog 196 1 1:=⟨VF⟩
instance ZY:TF Tryz.prog 196 2 2:=⟨VG⟩
instance ZZ:TF Tryz.prog 196 3 3:=⟨VH⟩
instance Za:TF Tryz.prog 196 4 4:=⟨VI⟩
instance eX:TB Tryz.prog 201 (fun i=>(#[(0,1),(1,1)]:Array (Nat×Nat))[i]?) [.string (ByteArray.mk #[]),.int .i64 0]:=⟨aO,W_⟩
instance iF:TV Tryz.prog 201 [.string (ByteArray.mk #[]),.int .i64 0]:=⟨z201,W_⟩
instance eY:TZ Tryz.prog 201 2:=⟨W9⟩
instance Zb:TF Tryz.prog 201 1 1:=⟨VJ⟩
instance SH:TU Tryz.prog 202 (.slice 201):=⟨Tryz.underlying202⟩
instance eZ:TB Tryz.prog 217 (fun i=>some (i*5,5)) [.string (ByteArray.mk #[]),.int .i64 0,.int .i64 0,.slice none 0 0,.slice none 0 0,.string (ByteArray.mk #[]),.int .i64 0,.int .i64 0,.slice none 0 0,.slice none 0 0,.string (ByteArray.mk #[]),.int .i64 0,.int .i64 0,.slice none 0 0,.slice none 0 0,.string (ByteArray.mk #[]),.int .i64 0,.int .i64 0,.slice none 0 0,.slice none 0 0,.string (ByteArray.mk #[]),.int .i64 0,.int .i64 0,.slice none 0 0,.slice none 0 0,.string (ByteArray.mk #[]),.int .i64 0,.int .i64 0,.slice none 0 0,.slice none 0 0,.string (ByteArray.mk #[]),.int .i64 0,.int .i64 0,.slice none 0 0,.slice none 0 0,.string (ByteArray.mk #[]),.int .i64 0,.int .i64 0,.slice none 0 0,.slice none 0 0,.string (ByteArray.mk #[]),.int .i64 0,.int .i64 0,.slice none 0 0,.slice none 0 0,.string (ByteArray.mk #[]),.int .i64 0,.int .i64 0,.slice none 0 0,.slice none 0 0,.string (ByteArray.mk #[]),.int .i64 0,.int .i64 0,.slice none 0 0,.slice none 0 0,.string (ByteArray.mk #[]),.int .i64 0,.int .i64 0,.slice none 0 0,.slice none 0 0,.string (ByteArray.mk #[]),.int .i64 0,.int .i64 0,.slice none 0 0,.slice none 0 0,.string (ByteArray.mk #[]),.int .i64 0,.int .i64 0,.slice none 0 0,.slice none 0 0,.string (ByteArray.mk #[]),.int .i64 0,.int .i64 0,.slice none 0 0,.slice none 0 0,.string (ByteArray.mk #[]),.int .i64 0,.int .i64 0,.slice none 0 0,.slice none 0 0,.string (ByteArray.mk #[]),.int .i64 0,.int .i64 0,.slice none 0 0,.slice none 0 0,.string (ByteArray.mk #[]),.int .i64 0,.int .i64 0,.slice none 0 0,.slice none 0 0,.string (ByteArray.mk #[]),.int .i64 0,.int .i64 0,.slice none 0 0,.slice none 0 0,.string (ByteArray.mk #[]),.int .i64 0,.int .i64 0,.slice none 0 0,.slice none 0 0,.string (ByteArray.mk #[]),.int .i64 0,.int .i64 0,.slice none 0 0,.slice none 0 0,.string (ByteArray.mk #[]),.int .i64 0,.int .i64 0,.slice none 0 0,.slice none 0 0,.string (ByteArray.mk #[]),.int .i64 0,.int .i64 0,.slice none 0 0,.slice none 0 0]:=⟨aP,XB⟩
instance ec:TZ Tryz.prog 217 115:=⟨XA⟩
instance ej:TB Tryz.prog 223 (fun i=>some (i*1,1)) (List.replicate 2 (.int .i64 0)):=⟨aQ,XD⟩
instance eo:TZ Tryz.prog 223 2:=⟨XC⟩
instance ep:TB Tryz.prog 224 (fun i=>some (i*2,2)) (List.replicate 10 (.int .i64 0)):=⟨aR,aS⟩
end Go.Proofs.YtgilhkjlfongoaaGreat
namespace Go.Proofs.YtgilhkjlfongoaaGreat
open Go Go.RowKit Cp Go.Proofs.Tryz
abbrev ints (l:List Int):Pr:=slice 1 (l.map fun n=>[int n])
def idx {β:Type} (p:β→Bool) (l:List β):Int:=match l.findIdx? p with|some i=>i|none=> -1
theorem It {β:Type} {p:β→Bool} {l:List β} {k:Nat} {x:β} (hx:l[k]? =some x) (hp:p x=true) (h:∀j y,j<k→l[j]? =some y→p y=false):(k:Int)=idx p l:=by
 have:l.findIdx? p=some k:=by
  rw [List.findIdx?_eq_some_iff_getElem]
  have hk:k<l.length:=by rcases Nat.lt_or_ge k l.length with h|h;exact h;rw [List.getElem?_eq_none h] at hx;cases hx
  rw [List.getElem?_eq_getElem hk] at hx
  simp only [Option.some.injEq] at hx
  refine ⟨hk,by rw [hx];exact hp,fun j hj=> ?_⟩
  simpa using h j _ hj (List.getElem?_eq_getElem (by omega))
 unfold idx;rw [this]
theorem Kx {β:Type} {p:β→Bool} {l:List β} (h:∀j y,j<l.length→l[j]? =some y→p y=false):(-1:Int)=idx p l:=by
 have:l.findIdx? p=none:=by
  rw [List.findIdx?_eq_none_iff]
  intro x hx
  obtain ⟨j,hj,rfl⟩:=List.mem_iff_getElem.1 hx
  exact h j _ hj (List.getElem?_eq_getElem hj)
 unfold idx;rw [this]
theorem Qj {β:Type} (p:β→Bool) (l:List β):decide (idx p l≥0)=l.any p:=by
 unfold idx
 cases h:l.findIdx? p with
 |none=>rw [List.findIdx?_eq_none_iff] at h;simp;intro x hx;simpa using h x hx
 |some i=>
  rw [List.findIdx?_eq_some_iff_getElem] at h
  obtain ⟨h1,h2,_⟩:=h
  simp
  exact ⟨_,List.getElem_mem h1,h2⟩
theorem Fl {β:Type} {p:β→Bool} {l:List β} {k:Nat} {x:β} (hx:l[k]? =some x) (hp:p x=false) (h:∀j y,j<k→l[j]? =some y→p y=false):∀j y,j<k+1→l[j]? =some y→p y=false:=by
 intro j y hj hy
 by_cases hjk:j=k
 · subst hjk;rw [hx] at hy;cases hy;exact hp
 · exact h j y (by omega) hy
theorem Nz {l:List Int} {v:Int}  :Be prog 109 [ints l,int v] (int (idx (fun x=>v==x) l)):=by
 refine fo func109 rfl ⟨rfl,rfl⟩ fun M0 w0=>(Tr.Db 0 rfl fun DD=> ?_)
 refine a2 ?_
 refine Tr.block (Tr.BV [(0,_),(1,_),(7,_)] (RI rfl) (fun k:Nat=>[(8,int ((k:Nat):Int))]) (fun k:Nat=>k≤(l).length∧(∀j y,j<k→l[j]? =some y→(v==y)=false)) (fun k:Nat=>(l).length-k) 0 (⟨Nat.zero_le _,fun j y hj=>absurd hj (by omega)⟩) ⟨ke rfl,trivial⟩ ?_)
 rintro k ⟨CN,Ac⟩
 refine ac ?_
 refine Tr.seq ?_
 refine Tr.cn rfl ?_ ?_<;>intro h1 q1
 have Au:k<(l).length:=Af h1
 obtain ⟨x,Ae⟩:=at_ Au
 · repeat' first|exact int_eq (It (p:=fun x=>v==x) Ae (by assumption) Ac)|exact Fin.AF (k+1) ⟨⟨Au,Fl (p:=fun x=>v==x) Ae (by assumption) Ac⟩,by omega⟩ ⟨⟨_,rfl,AM k⟩,ke rfl,ke rfl,ke rfl,trivial⟩|refine co rfl (AB rfl underlying22 B7 (vl rfl) (vl rfl) (by omega) (by exact AZ (by assumption))) ?_|refine ac ?_|(refine Tr.cn rfl ?_ ?_<;>intro h q)
 have Bn:k=(l).length:=by have:=Ag h1;omega
 subst Bn
 refine a3 ?_
 · exact int_eq (Kx Ac)
theorem JO {l:List Int} {v:Int}  :Be prog 66 [ints l,int v] (bool (l.any fun x=>v==x)):=by
 refine fo func66 rfl ⟨rfl,rfl⟩ fun M0 w0=> ?_
 refine a2 ?_
 refine co rfl (F3 (Nz) rfl rfl rfl) ?_
 refine a2 ?_
 · exact bool_eq (Qj _ l)
theorem b9 {d:Nat} {w:World} {x0 y0:Int} {x1 y1:Int}:(Op.equalIn (d+2) 24 (.agg #[.int .i64 x0,.int .i64 x1]) (.agg #[.int .i64 y0,.int .i64 y1])).run Tryz.prog w= .ok (decide (x0=y0∧x1=y1)) w:=by
 have h:=jY (w:=w) (d:=d+1) (xs:= #[.int .i64 x0,.int .i64 x1]) (ys:= #[.int .i64 y0,.int .i64 y1]) Tryz.underlying24 (by kernel_rfl) (Hr (by decide) (Ce Cr rfl) (Ce Cr rfl) (Hs (d:=d+0) Tryz.underlying3) (Hr (by decide) (Ce Cr rfl) (Ce Cr rfl) (Hs (d:=d+0) Tryz.underlying3) (QZ)))
 refine h.trans (congrArg (fun b=>Result.ok b w) ?_)
 rw [Bool.eq_iff_iff];simp [and_assoc]
theorem Mu {E:Env} {I:B5} {o:Oper} {u:TypeId} {x y:Operand} {x0 y0:Int} {x1 y1:Int} (ho:o.op= .binOp .eql 24 x y u) (hx:VL E x (agg [is (.int .i64 x0),is (.int .i64 x1)])) (hy:VL E y (agg [is (.int .i64 y0),is (.int .i64 y1)])):AS Tryz.prog I o E (bool (decide (x0=y0∧x1=y1))):=
 Sv [.int .i64 x0,.int .i64 x1] [.int .i64 y0,.int .i64 y1] ho hx hy (by kernel_rfl) (fun w=>by rw [show Op.equal 24 _ _=Op.equalIn (9998+2) 24 _ _ from rfl];exact b9)
def An (a b:Int):Int:=if a<b then -1 else if b<a then 1 else 0
theorem Cf {a b:Int}:An a b=0↔a=b:=by unfold An;by_cases h1:a<b<;>by_cases h2:b<a<;>simp [h1,h2]<;>omega
def Zc (l:List Int):Int:=(l.find? fun x=>x !=0).getD 0
theorem Qk {l:List Int} {k:Nat} {x:Int} (hx:l[k]? =some x) (h0:¬x=0) (h:∀j y,j<k→l[j]? =some y→(y !=0)=false):x=Zc l:=by
 unfold Zc
 have:l.find? (fun x=>x !=0)=some x:=by
  rw [List.find?_eq_some_iff_getElem]
  have hk:k<l.length:=by rcases Nat.lt_or_ge k l.length with h|h;exact h;rw [List.getElem?_eq_none h] at hx;cases hx
  rw [List.getElem?_eq_getElem hk] at hx
  simp only [Option.some.injEq] at hx
  refine ⟨by simpa using h0,k,hk,hx,fun j hj=> ?_⟩
  have:=h j _ hj (List.getElem?_eq_getElem (by omega))
  simpa using this
 rw [this];rfl
theorem N0 {l:List Int} (h:∀j y,j<l.length→l[j]? =some y→(y !=0)=false):0=Zc l:=by
 unfold Zc
 have:l.find? (fun x=>x !=0)=none:=by
  rw [List.find?_eq_none]
  intro x hx
  obtain ⟨j,hj,rfl⟩:=List.mem_iff_getElem.1 hx
  have:=h j _ hj (List.getElem?_eq_getElem hj)
  simpa using this
 rw [this];rfl
def TN (c:UInt8):Bool:=decide (33≤c.toNat∧c.toNat≤126)
def named (s:List UInt8):Bool:=s.all TN&&decide (1≤s.length∧s.length≤32)
theorem Ql {β:Type} {p:β→Bool} {l:List β} {k:Nat} {x:β} (hx:l[k]? =some x) (hp:p x=false):l.all p=false:=by
 rw [Bool.eq_false_iff];intro h;rw [List.all_eq_true] at h;rw [h x (List.mem_of_getElem? hx)] at hp;cases hp
theorem Mv {β:Type} {p:β→Bool} {l:List β} (h:∀j y,j<l.length→l[j]? =some y→(!p y)=false):l.all p=true:=by
 rw [List.all_eq_true]
 intro y hy
 obtain ⟨j,hj⟩:=List.mem_iff_getElem?.1 hy
 have:=h j y (by rcases Nat.lt_or_ge j l.length with h|h;exact h;rw [List.getElem?_eq_none h] at hj;cases hj) hj
 simpa using this
theorem N1 {n:Int}  :Be prog 101 [int n] (bool false):=by
 refine fo func101 rfl ⟨rfl,rfl⟩ fun M0 w0=> ?_
 refine a3 ?_
 · exact bool_eq (by simp)
theorem Iu {a b:Int}  :Be prog 59 [int a,int b] (int (An a b)):=by
 refine fo func59 rfl ⟨rfl,rfl⟩ fun M0 w0=> ?_
 · repeat' first|exact absurd h (by decide)|(refine int_eq ?_;unfold An;(repeat split)<;>omega)|refine co rfl (Eh (N1) rfl rfl) ?_|refine ac ?_|(refine Tr.cn rfl ?_ ?_<;>intro h q)
theorem XJ {l:List Int}  :Be prog 58 [ints l] (int (Zc l)):=by
 refine fo func58 rfl ⟨rfl,rfl⟩ fun M0 w0=>(Tr.Db 0 rfl fun DD=> ?_)
 refine a3 ?_
 refine Tr.block (Tr.BV [(3,_),(6,_),(7,_)] (RI rfl) (fun k:Nat=>[(8,int ((k:Nat):Int))]) (fun k:Nat=>k≤(l).length∧(∀j y,j<k→l[j]? =some y→(y !=0)=false)) (fun k:Nat=>(l).length-k) 0 (⟨Nat.zero_le _,fun j y hj=>absurd hj (by omega)⟩) ⟨ke rfl,trivial⟩ ?_)
 rintro k ⟨CN,Ac⟩
 refine ac ?_
 refine Tr.seq ?_
 refine Tr.cn rfl ?_ ?_<;>intro h1 q1
 have Au:k<(l).length:=Af h1
 obtain ⟨x,Ae⟩:=at_ Au
 refine ac ?_
 refine Tr.seq (Tr.block (Tr.seq (Tr.A0 (co rfl (AB rfl underlying22 B7 (vl rfl) (vl rfl) (by omega) (by exact AZ (by assumption))) ?_))))
 · repeat' first|exact int_eq (Qk Ae (by assumption) Ac)|exact Fin.AF (k+1) ⟨⟨Au,Fl (p:=fun y=>y !=0) Ae (by simpa using by assumption) Ac⟩,by omega⟩ ⟨⟨_,rfl,AM k⟩,ke rfl,ke rfl,ke rfl,trivial⟩|refine ac ?_|(refine Tr.cn rfl ?_ ?_<;>intro h q)
 have Bn:k=(l).length:=by have:=Ag h1;omega
 subst Bn
 refine a3 ?_
 · exact int_eq (N0 Ac)
theorem Vc {a b:List UInt8}  :Be prog 172 [str a,str b] (int (Lib.compareBytes a b)):=by
 refine fo func172 rfl ⟨rfl,rfl⟩ fun M0 w0=> ?_
 refine a2 ?_
 refine co rfl (RK rfl func200 (by kernel_rfl) (by kernel_rfl) (by kernel_rfl) (by kernel_rfl) (vl rfl) (vl rfl)) ?_
 refine a2 ?_
 · exact Lr
theorem YQ {a b:List UInt8}  :Be prog 115 [str a,str b] (int (Lib.compareBytes a b)):=by
 refine fo func115 rfl ⟨rfl,rfl⟩ fun M0 w0=> ?_
 refine a2 ?_
 refine co rfl (F3 (Vc) rfl rfl rfl) ?_
 refine a2 ?_
 · exact Lr
theorem Mw {s:List UInt8} (hs:s.length≤maxLen):Be prog 104 [str s] (bool (named s)):=by
 refine fo func104 rfl ⟨rfl,rfl⟩ fun M0 w0=> ?_
 refine a2 ?_
 refine co rfl (Su rfl underlying9 underlying175 underlying5 (vl rfl) (by assumption)) ?_
 refine ac ?_
 refine Tr.block (Tr.Db 6 rfl fun nP=>(Tr.BV [(0,_),(6,_),(7,_)] (RI rfl) (fun k:Nat=>[(8,int ((k:Nat):Int))]) (fun k:Nat=>k≤(s).length∧(∀j y,j<k→s[j]? =some y→(!TN y)=false)) (fun k:Nat=>(s).length-k) 0 (⟨Nat.zero_le _,fun j y hj=>absurd hj (by omega)⟩) ⟨ke rfl,trivial⟩ ?_))
 rintro k ⟨CN,Ac⟩
 refine ac ?_
 refine Tr.seq ?_
 refine Tr.cn rfl ?_ ?_<;>intro h1 q1
 have Au:k<(s).length:=Af h1
 obtain ⟨c,Ae⟩:=at_ Au
 refine ac ?_
 refine Tr.seq (Tr.block (Tr.seq (Tr.A0 (co rfl (AB rfl underlying175 lF (vl rfl) (vl rfl) (by omega) (by exact AZ (by assumption))) ?_))))
 · repeat' first|(refine bool_eq ?_;unfold named;rw [Ql (p:=TN) Ae (by simp [TN];omega)];rfl)|(exact Fin.AF (k+1) ⟨⟨Au,Fl (p:=fun c=> !TN c) Ae (by simp [TN];omega) Ac⟩,by omega⟩ ⟨⟨_,rfl,AM k⟩,ke rfl,ke rfl,ke rfl,trivial⟩)|refine ac ?_|(refine Tr.cn rfl ?_ ?_<;>intro h q)|(refine Ch.cg rfl rfl rfl ?_ ?_<;>intro h q)
 have Bn:k=(s).length:=by have:=Ag h1;omega
 subst Bn
 · repeat' first|(refine bool_eq ?_;unfold named;rw [Mv Ac,Bool.true_and];rw [decide_eq_decide];omega)|(refine bool_eq ?_;unfold named;rw [Mv Ac,Bool.true_and];(symm;rw [decide_eq_false_iff_not];omega))|refine ac ?_|(refine Ch.cg rfl rfl rfl ?_ ?_<;>intro h q)
theorem Mx {s:List UInt8}  :Be prog 106 [str s] (bool (named s)):=by
 refine fo func106 rfl ⟨rfl,rfl⟩ fun M0 w0=> ?_
 refine ac ?_
 refine ag ?_ ?_<;>intro h1 q1
 refine a3 ?_
 · refine bool_eq ?_;unfold named;rw [Bool.and_eq_false_iff.2 (.inr (by simp;omega))]
 refine an ?_ ?_<;>intro h2 q2
 refine a2 ?_
 · refine bool_eq ?_;unfold named;rw [Bool.and_eq_false_iff.2 (.inr (by simp;omega))]
 refine a2 ?_
 refine Tr.block (Tr.BV [(0,_)] ⟨ke rfl,trivial⟩ (fun k:Nat=>[(3,int ((k:Nat):Int))]) (fun k:Nat=>k≤(s).length∧(∀j y,j<k→s[j]? =some y→(!TN y)=false)) (fun k:Nat=>(s).length-k) 0 (⟨Nat.zero_le _,fun j y hj=>absurd hj (by omega)⟩) ⟨ke rfl,trivial⟩ ?_)
 rintro k ⟨CN,Ac⟩
 refine an ?_ ?_<;>intro h3 q3
 have Au:k<(s).length:=Af h3
 obtain ⟨c,Ae⟩:=at_ Au
 · repeat' first|(refine bool_eq ?_;unfold named;rw [Ql (p:=TN) Ae (by simp [TN];omega)];rfl)|(exact Fin.AF (k+1) ⟨⟨Au,Fl (p:=fun c=> !TN c) Ae (by simp [TN];omega) Ac⟩,by omega⟩ ⟨⟨_,rfl,AM k⟩,ke rfl,trivial⟩)|refine co rfl (Ml rfl underlying9 (vl rfl) (vl rfl) (by omega) (QY (by assumption))) ?_|refine cy h rfl (Ml rfl underlying9 (vl rfl) (vl rfl) (by omega) (QY (by assumption))) ?_|refine ac ?_|(refine Tr.cn rfl ?_ ?_<;>intro h q)|(refine Ch.cg rfl rfl rfl ?_ ?_<;>intro h q)
 have Bn:k=(s).length:=by have:=Ag h3;omega
 subst Bn
 refine a3 ?_
 · refine bool_eq ?_;unfold named;rw [Mv Ac,Bool.true_and];symm;rw [decide_eq_true_eq];omega
structure My where
 name:List UInt8
 kind:Int
 way:Int
 sizes:List Int
 Dj:List Int
abbrev YR (r:My):List Pr:=[str r.name,int r.kind,int r.way,ints r.sizes,ints r.Dj]
def ES:List My:=[⟨[],0,0,[],[]⟩,⟨[109,100,53],1,0,[],[18]⟩,⟨[115,104,97,49],1,0,[],[60]⟩,⟨[115,104,97,50,53,54],1,0,[],[128]⟩,⟨[115,104,97,51,56,52],1,0,[],[192]⟩,⟨[114,115,97],2,1,[],[]⟩,⟨[100,115,97],2,1,[],[]⟩,⟨[101,99,100,115,97],2,2,[],[]⟩,⟨[101,100,50,53,53,49,57],2,0,[],[128]⟩,⟨[109,108,100,115,97],2,3,[44,65,87],[128,192,256]⟩,⟨[114,115,97,107,120],3,1,[],[]⟩,⟨[100,104,101],3,1,[],[]⟩,⟨[101,99,100,104,101],3,2,[],[]⟩,⟨[109,108,107,101,109],3,3,[512,768,1024],[128,192,256]⟩,⟨[114,99,52],4,3,[40,128],[40,60]⟩,⟨[100,101,115,51],4,3,[112,168],[80,112]⟩,⟨[97,101,115,99,98,99],4,3,[128,256],[128,256]⟩,⟨[97,101,115,103,99,109],4,3,[128,256],[128,256]⟩,⟨[99,104,97,99,104,97],4,0,[],[256]⟩,⟨[104,109,97,99,109,100,53],5,0,[],[64]⟩,⟨[104,109,97,99,115,104,97,49],5,0,[],[80]⟩,⟨[104,109,97,99,115,104,97,50,53,54],5,0,[],[128]⟩,⟨[97,101,97,100],5,0,[],[256]⟩]
def Qm:My:=⟨[],0,0,[],[]⟩
def CO (BL:Int):My:=if 1≤BL∧BL≤22 then (ES[BL.toNat]?).getD Qm else Qm
theorem GM {BL:Int} (h:1≤BL∧BL≤22):ES[BL.toNat]? =some (CO BL):=by
 have hl:BL.toNat<ES.length:=by show BL.toNat<23;omega
 unfold CO;rw [if_pos h,List.getElem?_eq_getElem hl];rfl
theorem Ky {β:Type} {f:β→List Pr} {sz:Nat} (hf:∀x,(f x).length=sz):∀{l:List β} {i:Nat} {x:β},l[i]? =some x→((l.flatMap f).drop (i*sz)).take sz=f x
 |[],_,_,h=>by simp at h
 |a::l,0,x,h=>by
  simp at h;subst h
  rw [List.flatMap_cons,Nat.zero_mul,List.drop_zero,List.take_append_of_le_length (by rw [hf];exact Nat.le_refl _),List.take_of_length_le (by rw [hf];exact Nat.le_refl _)]
 |a::l,i+1,x,h=>by
  rw [List.flatMap_cons,Nat.succ_mul,Nat.add_comm,←List.drop_drop,List.drop_left' (hf a)]
  exact Ky hf (by simpa using h)
theorem drop_cons {β:Type} {l:List β} {k:Nat} {x:β} (h:l[k]? =some x):l.drop k=x::l.drop (k+1):=by
 have hk:k<l.length:=by rcases Nat.lt_or_ge k l.length with h'|h';exact h';rw [List.getElem?_eq_none h'] at h;cases h
 rw [List.drop_eq_getElem_cons hk]
 rw [List.getElem?_eq_getElem hk] at h
 simp at h;rw [h]
def mods:List (Int×Int):=[(1024,56),(2048,80),(3072,112),(7680,128),(15360,192)]
def YS:List (Int×Int)→Int→Int
 |[],_=>256
 |p::l,b=>if b<p.1 then p.2 else YS l b
def TP (b:Int):Int:=YS mods b
theorem YT   :Be prog 216 [] (agg (ES.flatMap YR)):=by
 refine fo func216 rfl ⟨rfl,rfl⟩ fun M0 w0=>(Tr.seq (Tr.Cq ?_))
 refine Tl rfl rfl rfl rfl fm XB (fun b1=> ?_)
 refine ap ?_
 refine ap ?_
 refine tp rfl (BK (rows:=[(0,[_]),(1,[_]),(2,[_]),(3,[_]),(4,[_])]) rfl Cj CJ ⟨⟨rfl,(Vo rfl)⟩,⟨⟨rfl,(Vo rfl)⟩,⟨⟨rfl,(Vo rfl)⟩,⟨⟨rfl,⟨_,rfl,Pr.le_trans (AX 1) (AL _)⟩⟩,⟨⟨rfl,⟨_,rfl,Pr.le_trans (BO _ _) (AL _)⟩⟩,trivial⟩⟩⟩⟩⟩ rfl) (tp rfl (oI) ?_)
 refine tp rfl (BK (rows:=[(0,[_]),(1,[_]),(2,[_]),(3,[_]),(4,[_])]) rfl Cj CJ ⟨⟨rfl,(Vo rfl)⟩,⟨⟨rfl,(Vo rfl)⟩,⟨⟨rfl,(Vo rfl)⟩,⟨⟨rfl,⟨_,rfl,Pr.le_trans (AX 1) (AL _)⟩⟩,⟨⟨rfl,⟨_,rfl,Pr.le_trans (BO _ _) (AL _)⟩⟩,trivial⟩⟩⟩⟩⟩ rfl) (tp rfl (oI) ?_)
 refine tp rfl (BK (rows:=[(0,[_]),(1,[_]),(2,[_]),(3,[_]),(4,[_])]) rfl Cj CJ ⟨⟨rfl,(Vo rfl)⟩,⟨⟨rfl,(Vo rfl)⟩,⟨⟨rfl,(Vo rfl)⟩,⟨⟨rfl,⟨_,rfl,Pr.le_trans (AX 1) (AL _)⟩⟩,⟨⟨rfl,⟨_,rfl,Pr.le_trans (BO _ _) (AL _)⟩⟩,trivial⟩⟩⟩⟩⟩ rfl) (tp rfl (oI) ?_)
 refine tp rfl (BK (rows:=[(0,[_]),(1,[_]),(2,[_]),(3,[_]),(4,[_])]) rfl Cj CJ ⟨⟨rfl,(Vo rfl)⟩,⟨⟨rfl,(Vo rfl)⟩,⟨⟨rfl,(Vo rfl)⟩,⟨⟨rfl,⟨_,rfl,Pr.le_trans (AX 1) (AL _)⟩⟩,⟨⟨rfl,⟨_,rfl,Pr.le_trans (BO _ _) (AL _)⟩⟩,trivial⟩⟩⟩⟩⟩ rfl) (tp rfl (BK (rows:=[(0,[_]),(1,[_]),(2,[_]),(3,[_]),(4,[_])]) rfl Cj CJ ⟨⟨rfl,(Vo rfl)⟩,⟨⟨rfl,(Vo rfl)⟩,⟨⟨rfl,(Vo rfl)⟩,⟨⟨rfl,⟨_,rfl,Pr.le_trans (AX 1) (AL _)⟩⟩,⟨⟨rfl,⟨_,rfl,Pr.le_trans (AX 1) (AL _)⟩⟩,trivial⟩⟩⟩⟩⟩ rfl) (tp rfl (BK (rows:=[(0,[_]),(1,[_]),(2,[_]),(3,[_]),(4,[_])]) rfl Cj CJ ⟨⟨rfl,(Vo rfl)⟩,⟨⟨rfl,(Vo rfl)⟩,⟨⟨rfl,(Vo rfl)⟩,⟨⟨rfl,⟨_,rfl,Pr.le_trans (AX 1) (AL _)⟩⟩,⟨⟨rfl,⟨_,rfl,Pr.le_trans (AX 1) (AL _)⟩⟩,trivial⟩⟩⟩⟩⟩ rfl) (tp rfl (BK (rows:=[(0,[_]),(1,[_]),(2,[_]),(3,[_]),(4,[_])]) rfl Cj CJ ⟨⟨rfl,(Vo rfl)⟩,⟨⟨rfl,(Vo rfl)⟩,⟨⟨rfl,(Vo rfl)⟩,⟨⟨rfl,⟨_,rfl,Pr.le_trans (AX 1) (AL _)⟩⟩,⟨⟨rfl,⟨_,rfl,Pr.le_trans (AX 1) (AL _)⟩⟩,trivial⟩⟩⟩⟩⟩ rfl) (tp rfl (oI) ?_))))
 refine tp rfl (BK (rows:=[(0,[_]),(1,[_]),(2,[_]),(3,[_]),(4,[_])]) rfl Cj CJ ⟨⟨rfl,(Vo rfl)⟩,⟨⟨rfl,(Vo rfl)⟩,⟨⟨rfl,(Vo rfl)⟩,⟨⟨rfl,⟨_,rfl,Pr.le_trans (AX 1) (AL _)⟩⟩,⟨⟨rfl,⟨_,rfl,Pr.le_trans (BO _ _) (AL _)⟩⟩,trivial⟩⟩⟩⟩⟩ rfl) ?_
 refine ap ?_
 refine tp rfl (BK (rows:=[(0,[_]),(1,[_]),(2,[_]),(3,[_]),(4,[_])]) rfl Cj CJ ⟨⟨rfl,(Vo rfl)⟩,⟨⟨rfl,(Vo rfl)⟩,⟨⟨rfl,(Vo rfl)⟩,⟨⟨rfl,⟨_,rfl,Pr.le_trans (BO _ _) (AL _)⟩⟩,⟨⟨rfl,⟨_,rfl,Pr.le_trans (BO _ _) (AL _)⟩⟩,trivial⟩⟩⟩⟩⟩ rfl) (tp rfl (BK (rows:=[(0,[_]),(1,[_]),(2,[_]),(3,[_]),(4,[_])]) rfl Cj CJ ⟨⟨rfl,(Vo rfl)⟩,⟨⟨rfl,(Vo rfl)⟩,⟨⟨rfl,(Vo rfl)⟩,⟨⟨rfl,⟨_,rfl,Pr.le_trans (AX 1) (AL _)⟩⟩,⟨⟨rfl,⟨_,rfl,Pr.le_trans (AX 1) (AL _)⟩⟩,trivial⟩⟩⟩⟩⟩ rfl) (tp rfl (BK (rows:=[(0,[_]),(1,[_]),(2,[_]),(3,[_]),(4,[_])]) rfl Cj CJ ⟨⟨rfl,(Vo rfl)⟩,⟨⟨rfl,(Vo rfl)⟩,⟨⟨rfl,(Vo rfl)⟩,⟨⟨rfl,⟨_,rfl,Pr.le_trans (AX 1) (AL _)⟩⟩,⟨⟨rfl,⟨_,rfl,Pr.le_trans (AX 1) (AL _)⟩⟩,trivial⟩⟩⟩⟩⟩ rfl) (tp rfl (BK (rows:=[(0,[_]),(1,[_]),(2,[_]),(3,[_]),(4,[_])]) rfl Cj CJ ⟨⟨rfl,(Vo rfl)⟩,⟨⟨rfl,(Vo rfl)⟩,⟨⟨rfl,(Vo rfl)⟩,⟨⟨rfl,⟨_,rfl,Pr.le_trans (AX 1) (AL _)⟩⟩,⟨⟨rfl,⟨_,rfl,Pr.le_trans (AX 1) (AL _)⟩⟩,trivial⟩⟩⟩⟩⟩ rfl) ?_)))
 refine ap ?_
 refine tp rfl (BK (rows:=[(0,[_]),(1,[_]),(2,[_]),(3,[_]),(4,[_])]) rfl Cj CJ ⟨⟨rfl,(Vo rfl)⟩,⟨⟨rfl,(Vo rfl)⟩,⟨⟨rfl,(Vo rfl)⟩,⟨⟨rfl,⟨_,rfl,Pr.le_trans (BO _ _) (AL _)⟩⟩,⟨⟨rfl,⟨_,rfl,Pr.le_trans (BO _ _) (AL _)⟩⟩,trivial⟩⟩⟩⟩⟩ rfl) ?_
 refine ap ?_
 refine tp rfl (BK (rows:=[(0,[_]),(1,[_]),(2,[_]),(3,[_]),(4,[_])]) rfl Cj CJ ⟨⟨rfl,(Vo rfl)⟩,⟨⟨rfl,(Vo rfl)⟩,⟨⟨rfl,(Vo rfl)⟩,⟨⟨rfl,⟨_,rfl,Pr.le_trans (BO _ _) (AL _)⟩⟩,⟨⟨rfl,⟨_,rfl,Pr.le_trans (BO _ _) (AL _)⟩⟩,trivial⟩⟩⟩⟩⟩ rfl) ?_
 refine ap ?_
 refine tp rfl (BK (rows:=[(0,[_]),(1,[_]),(2,[_]),(3,[_]),(4,[_])]) rfl Cj CJ ⟨⟨rfl,(Vo rfl)⟩,⟨⟨rfl,(Vo rfl)⟩,⟨⟨rfl,(Vo rfl)⟩,⟨⟨rfl,⟨_,rfl,Pr.le_trans (BO _ _) (AL _)⟩⟩,⟨⟨rfl,⟨_,rfl,Pr.le_trans (BO _ _) (AL _)⟩⟩,trivial⟩⟩⟩⟩⟩ rfl) ?_
 refine ap ?_
 refine tp rfl (BK (rows:=[(0,[_]),(1,[_]),(2,[_]),(3,[_]),(4,[_])]) rfl Cj CJ ⟨⟨rfl,(Vo rfl)⟩,⟨⟨rfl,(Vo rfl)⟩,⟨⟨rfl,(Vo rfl)⟩,⟨⟨rfl,⟨_,rfl,Pr.le_trans (BO _ _) (AL _)⟩⟩,⟨⟨rfl,⟨_,rfl,Pr.le_trans (BO _ _) (AL _)⟩⟩,trivial⟩⟩⟩⟩⟩ rfl) ?_
 refine ap ?_
 refine tp rfl (BK (rows:=[(0,[_]),(1,[_]),(2,[_]),(3,[_]),(4,[_])]) rfl Cj CJ ⟨⟨rfl,(Vo rfl)⟩,⟨⟨rfl,(Vo rfl)⟩,⟨⟨rfl,(Vo rfl)⟩,⟨⟨rfl,⟨_,rfl,Pr.le_trans (BO _ _) (AL _)⟩⟩,⟨⟨rfl,⟨_,rfl,Pr.le_trans (BO _ _) (AL _)⟩⟩,trivial⟩⟩⟩⟩⟩ rfl) (tp rfl (oI) ?_)
 refine tp rfl (BK (rows:=[(0,[_]),(1,[_]),(2,[_]),(3,[_]),(4,[_])]) rfl Cj CJ ⟨⟨rfl,(Vo rfl)⟩,⟨⟨rfl,(Vo rfl)⟩,⟨⟨rfl,(Vo rfl)⟩,⟨⟨rfl,⟨_,rfl,Pr.le_trans (AX 1) (AL _)⟩⟩,⟨⟨rfl,⟨_,rfl,Pr.le_trans (BO _ _) (AL _)⟩⟩,trivial⟩⟩⟩⟩⟩ rfl) (tp rfl (oI) ?_)
 refine tp rfl (BK (rows:=[(0,[_]),(1,[_]),(2,[_]),(3,[_]),(4,[_])]) rfl Cj CJ ⟨⟨rfl,(Vo rfl)⟩,⟨⟨rfl,(Vo rfl)⟩,⟨⟨rfl,(Vo rfl)⟩,⟨⟨rfl,⟨_,rfl,Pr.le_trans (AX 1) (AL _)⟩⟩,⟨⟨rfl,⟨_,rfl,Pr.le_trans (BO _ _) (AL _)⟩⟩,trivial⟩⟩⟩⟩⟩ rfl) (tp rfl (oI) ?_)
 refine tp rfl (BK (rows:=[(0,[_]),(1,[_]),(2,[_]),(3,[_]),(4,[_])]) rfl Cj CJ ⟨⟨rfl,(Vo rfl)⟩,⟨⟨rfl,(Vo rfl)⟩,⟨⟨rfl,(Vo rfl)⟩,⟨⟨rfl,⟨_,rfl,Pr.le_trans (AX 1) (AL _)⟩⟩,⟨⟨rfl,⟨_,rfl,Pr.le_trans (BO _ _) (AL _)⟩⟩,trivial⟩⟩⟩⟩⟩ rfl) (tp rfl (oI) ?_)
 refine tp rfl (BK (rows:=[(0,[_]),(1,[_]),(2,[_]),(3,[_]),(4,[_])]) rfl Cj CJ ⟨⟨rfl,(Vo rfl)⟩,⟨⟨rfl,(Vo rfl)⟩,⟨⟨rfl,(Vo rfl)⟩,⟨⟨rfl,⟨_,rfl,Pr.le_trans (AX 1) (AL _)⟩⟩,⟨⟨rfl,⟨_,rfl,Pr.le_trans (BO _ _) (AL _)⟩⟩,trivial⟩⟩⟩⟩⟩ rfl) (tp rfl (oI) ?_)
 refine tp rfl (BK (rows:=[(0,[_]),(1,[_]),(2,[_]),(3,[_]),(4,[_])]) rfl Cj CJ ⟨⟨rfl,(Vo rfl)⟩,⟨⟨rfl,(Vo rfl)⟩,⟨⟨rfl,(Vo rfl)⟩,⟨⟨rfl,⟨_,rfl,Pr.le_trans (AX 1) (AL _)⟩⟩,⟨⟨rfl,⟨_,rfl,Pr.le_trans (BO _ _) (AL _)⟩⟩,trivial⟩⟩⟩⟩⟩ rfl) ?_
 refine ap ?_
 refine Cg 0 rfl (Tr.ret (Fin.Z_ rfl (Bc.cell 0 rfl rfl YC XA rfl (Lr)) ?_))
 · exact Ot ⟨Lr,Lr,Lr,AX 1,AX 1,Lr,Lr,Lr,Lr,Lr,Lr,Lr,Lr,Lr,Lr,Lr,Lr,Lr,Lr,Lr,Lr,Lr,Lr,Lr,Lr,Lr,Lr,Lr,Lr,Lr,Lr,Lr,Lr,Lr,Lr,Lr,Lr,Lr,Lr,Lr,Lr,Lr,Lr,Lr,Lr,Lr,Lr,Lr,Lr,Lr,Lr,Lr,Lr,Lr,Lr,Lr,Lr,Lr,Lr,Lr,Lr,Lr,Lr,Lr,Lr,Lr,Lr,Lr,Lr,Lr,Lr,Lr,Lr,Lr,Lr,Lr,Lr,Lr,Lr,Lr,Lr,Lr,Lr,Lr,Lr,Lr,Lr,Lr,Lr,Lr,Lr,Lr,Lr,Lr,Lr,Lr,Lr,Lr,Lr,Lr,Lr,Lr,Lr,Lr,Lr,Lr,Lr,Lr,Lr,Lr,Lr,Lr,Lr,Lr,Lr,trivial⟩
theorem b_ {BL:Int}  :Be prog 192 [int BL] (FZ [agg (YR (CO BL)),bool (decide (1≤BL∧BL≤22))]):=by
 refine fo func192 rfl ⟨rfl,rfl⟩ fun M0 w0=>(Tr.seq (Tr.Cq ?_))
 refine Tl rfl rfl rfl rfl z196 CJ (fun b1=> ?_)
 refine ap ?_
 refine ag ?_ ?_<;>intro h1 q1
 refine ac ?_
 refine Tr.cond rfl (fun _=> ?_) (fun h=>nomatch h)
 refine Tr.seq (Tr.Cq (tp rfl (BK (rows:=[]) rfl Cj CJ trivial rfl) (TO.DB 0 rfl rfl rfl (vl rfl) (Va rfl) rfl Ln rfl rfl (tm rfl (TO.nil (Fin.go (Tr.ret (Fin.AJ (Fin.Sm rfl (Bc.cell 0 rfl rfl Mk Ln rfl (Lr)) (Bc.tmp rfl (Lr)) ?_)))))))))
 · refine Ou ⟨?_,bool_eq (by symm;rw [decide_eq_false_iff_not];omega),trivial⟩;unfold CO;rw [if_neg (by omega)];exact Ot ⟨Lr,Lr,Lr,AX 1,AX 1,trivial⟩
 refine an ?_ ?_<;>intro h2 q2
 refine ap ?_
 refine Tr.ret (Fin.AJ (Fin.Sm rfl (Bc.cell 0 rfl rfl Mk Ln rfl (Lr)) (Bc.tmp rfl (Lr)) ?_))
 · refine Ou ⟨?_,bool_eq (by symm;rw [decide_eq_false_iff_not];omega),trivial⟩;unfold CO;rw [if_neg (by omega)];exact Ot ⟨Lr,Lr,Lr,AX 1,AX 1,trivial⟩
 have hin:1≤BL∧BL≤22:=by omega
 refine ac ?_
 refine Tr.seq (Tr.Cq (tp rfl (jj (YT) rfl) (tm rfl (tp rfl (Nf rfl underlying217 Mk Ln (vl rfl) (vl rfl) (by omega) (by omega) (Ky (f:=YR) (fun _=>rfl) (GM hin))) ?_))))
 refine ap ?_
 refine Tr.ret (Fin.Sm rfl (Bc.cell 0 rfl rfl Mk Ln rfl (Lr)) (Bc.tmp rfl (Lr)) ?_)
 · exact Ou ⟨Lr,bool_eq (by symm;rw [decide_eq_true_eq];exact hin),trivial⟩
theorem YU {BL:Int}  :Be prog 161 [int BL] (int (CO BL).kind):=by
 refine fo func161 rfl ⟨rfl,rfl⟩ fun M0 w0=> ?_
 refine ac ?_
 refine ao ?_
 refine tp rfl (Eh (b_) rfl rfl) ?_
 refine ao ?_
 refine Tl rfl rfl rfl rfl z196 CJ (fun b1=> ?_)
 refine sf 0 3 ⟨rfl,rfl,rfl⟩ rfl rfl rfl rfl ?_
 refine ao ?_
 refine a2 ?_
 · exact Lr
theorem Rd {b:Int}  :Be prog 215 [int b] (int (TP b)):=by
 refine fo func215 rfl ⟨rfl,rfl⟩ fun M0 w0=> ?_
 have hml:mods.length=5:=rfl
 refine a2 ?_
 refine Tr.block (Tr.re 10 rfl (Pr.le_of_eq (show _=agg (mods.flatMap fun p=>[int p.1,int p.2]) from rfl)) (Tr.BV [(0,_),(10,_)] (Ow rfl) (fun k:Nat=>[(11,int ((k:Nat):Int))]) (fun k:Nat=>k≤(mods).length∧(TP b=YS (mods.drop k) b)) (fun k:Nat=>(mods).length-k) 0 (⟨Nat.zero_le _,rfl⟩) ⟨ke rfl,trivial⟩ ?_))
 rintro k ⟨CN,Ac⟩
 refine ac ?_
 refine Tr.seq ?_
 refine Tr.cn rfl ?_ ?_<;>intro h1 q1
 have Au:k<(mods).length:=Af h1
 obtain ⟨p,Ae⟩:=at_ Au
 have hL:k<5:=Au
 have jt:=drop_cons Ae
 refine ac ?_
 refine Tr.seq (Tr.block (Tr.seq (Tr.Cq (tp rfl (Nf rfl underlying224 YD XC (vl rfl) (vl rfl) (by omega) (by omega) (Ky (f:=fun p:Int×Int=>[int p.1,int p.2]) (fun _=>rfl) Ae)) ?_))))
 refine Tl rfl rfl rfl rfl fq XD (fun b1=> ?_)
 refine sf 0 4 ⟨rfl,rfl,rfl⟩ rfl rfl rfl rfl ?_
 refine ao ?_
 refine ac ?_
 refine co rfl (JH rfl underlying223 B7 (vl rfl) (vl rfl) (by omega) (by omega) rfl) (co rfl (KK rfl Cr (vl rfl) rfl) ?_)
 refine an ?_ ?_<;>intro h2 q2
 refine Tr.seq (Tr.A0 (co rfl (JH rfl underlying223 B7 (vl rfl) (vl rfl) (by omega) (by omega) rfl) (co rfl (KK rfl Cr (vl rfl) rfl) ?_)))
 refine ac ?_
 refine Cg 2 rfl ?_
 refine ac ?_
 · refine int_eq ?_;rw [Ac,jt];exact (if_pos (by omega)).symm
 refine a2 ?_
 exact Fin.AF (k+1) ⟨⟨Au,(by rw [Ac,jt];exact if_neg (by omega))⟩,by omega⟩ ⟨⟨_,rfl,AM k⟩,ke rfl,ke rfl,trivial⟩
 have Bn:k=(mods).length:=by have:=Ag h1;omega
 subst Bn
 refine a3 ?_
 · refine int_eq ?_;rw [Ac,List.drop_length];rfl
def Lx:List Int:=[160,224,256,384,521]
def BQ (BL bits:Int):Int:=
 if 1 ≤ BL ∧ BL ≤ 22 then
  if (CO BL).way=0 then (if bits=0 then ((CO BL).Dj[0]?).getD 0 else 0)
  else if (CO BL).way=1 then (if 512≤bits∧bits≤16384 then TP bits else 0)
  else if (CO BL).way=2 then (if (Lx.any fun x=>bits==x)=true then bits.tdiv 2 else 0)
  else if (CO BL).way=3 then (if 0≤idx (fun x=>bits==x) (CO BL).sizes then ((CO BL).Dj[(idx (fun x=>bits==x) (CO BL).sizes).toNat]?).getD 0 else 0)
  else 0
 else 0
theorem PM {BL:Int} (h:1≤BL∧BL≤22):CO BL∈ES.tail:=by
 have h1:=GM h
 refine List.mem_of_getElem? (i:=BL.toNat-1) ?_
 rw [List.getElem?_tail,show BL.toNat-1+1=BL.toNat by omega];exact h1
theorem YV:∀r∈ES.tail,(r.way=0→1≤r.Dj.length)∧(r.way=3→r.sizes.length≤r.Dj.length):=by decide
theorem YW {β:Type} (p:β→Bool) (l:List β):idx p l<l.length:=by
 unfold idx
 cases h:l.findIdx? p with
 |none=>simp;omega
 |some i=>rw [List.findIdx?_eq_some_iff_getElem] at h;obtain ⟨h1,_⟩:=h;simp;omega
theorem PN {BL bits:Int}  :Be prog 191 [agg [int BL,int bits]] (int (BQ BL bits)):=by
 refine fo func191 rfl ⟨rfl,rfl⟩ fun M0 w0=> ?_
 refine ac ?_
 refine ao ?_
 refine tp rfl (Eh (b_) rfl rfl) ?_
 refine ao ?_
 refine Tl rfl rfl rfl rfl z196 CJ (fun b1=> ?_)
 refine sf 0 3 ⟨rfl,rfl,rfl⟩ rfl rfl rfl rfl ?_
 refine ao ?_
 refine ac ?_
 refine Ur 1 3 13 rfl ?_
 refine Tr.cn rfl ?_ ?_<;>intro h1 q1
 refine a2 ?_
 · refine int_eq ?_;unfold BQ;rw [if_neg (by intro hh;simp [hh] at h1)]
 have hin:1≤BL∧BL≤22:=by simpa using h1
 obtain ⟨hc0,lz⟩:=YV _ (PM hin)
 refine a2 ?_
 refine an ?_ ?_<;>intro h2 q2
 refine an ?_ ?_<;>intro h3 q3
 obtain ⟨z,hz⟩:=at_ (l:=(CO BL).Dj) (k:=0) (hc0 (by omega))
 refine ac ?_
 refine co rfl (AB rfl underlying22 B7 (vl rfl) (vl rfl) (by omega) (AZ (k:=0) hz)) ?_
 refine ac ?_
 refine Cg 2 rfl ?_
 refine ac ?_
 · refine int_eq ?_;unfold BQ;rw [if_pos hin,if_pos (by omega),if_pos (by omega),hz];rfl
 refine a3 ?_
 · refine int_eq ?_;unfold BQ;rw [if_pos hin,if_pos (by omega),if_neg (by omega)]
 refine an ?_ ?_<;>intro h4 q4
 · repeat' first|(refine int_eq ?_;unfold BQ;rw [if_pos hin,if_neg (by omega),if_pos (by omega),if_pos (by omega)])|(refine int_eq ?_;unfold BQ;rw [if_pos hin,if_neg (by omega),if_pos (by omega),if_neg (by omega)])|refine co rfl (Eh (Rd) rfl rfl) ?_|refine ac ?_|(refine Tr.cn rfl ?_ ?_<;>intro h q)|(refine Ch.cg rfl rfl rfl ?_ ?_<;>intro h q)
 refine an ?_ ?_<;>intro h7 q7
 refine ac ?_
 refine co rfl (Ai rfl (JO (l:=Lx)) ⟨(Kf rfl),ke rfl,trivial⟩) ?_
 refine ac ?_
 refine F8 1 43 rfl ?_
 refine Tr.cn rfl ?_ ?_<;>intro h8 q8
 have hb:bits=160∨bits=224∨bits=256∨bits=384∨bits=521:=by simpa [Lx] using h8
 refine ac ?_
 refine co rfl (EK rfl (vl rfl) (vl rfl) (by omega)) ?_
 refine a2 ?_
 · refine int_eq ?_;unfold BQ;rw [if_pos hin,if_neg (by omega),if_neg (by omega),if_pos (by omega),if_pos (by assumption)];rcases hb with h|h|h|h|h<;>rw [h]<;>rfl
 refine a3 ?_
 · refine int_eq ?_;unfold BQ;rw [if_pos hin,if_neg (by omega),if_neg (by omega),if_pos (by omega),if_neg (QG (by assumption))]
 refine an ?_ ?_<;>intro h9 q9
 refine ac ?_
 refine co rfl (F3 (Nz) rfl rfl rfl) ?_
 refine ac ?_
 refine F8 3 5 rfl ?_
 refine an ?_ ?_<;>intro h10 XK
 have hlt:=YW (fun x=>bits==x) (CO BL).sizes
 obtain ⟨z,hz⟩:=at_ (l:=(CO BL).Dj) (k:=(idx (fun x=>bits==x) (CO BL).sizes).toNat) (by have:=lz (by omega);omega)
 refine ac ?_
 refine co rfl (AB rfl underlying22 B7 (vl rfl) (vl rfl) (by omega) (CC hz)) ?_
 refine a2 ?_
 · refine int_eq ?_;unfold BQ;rw [if_pos hin,if_neg (by omega),if_neg (by omega),if_neg (by omega),if_pos (by omega),if_pos (by assumption),hz];rfl
 refine a3 ?_
 · refine int_eq ?_;unfold BQ;rw [if_pos hin,if_neg (by omega),if_neg (by omega),if_neg (by omega),if_pos (by omega),if_neg (by omega)]
 refine a2 ?_
 refine Cg 2 rfl ?_
 refine ac ?_
 · refine int_eq ?_;unfold BQ;rw [if_pos hin,if_neg (by omega),if_neg (by omega),if_neg (by omega),if_neg (by omega)]
theorem Mz {BL bits:Int}  :Be prog 160 [agg [int BL,int bits]] (bool (decide (BQ BL bits>0))):=by
 refine fo func160 rfl ⟨rfl,rfl⟩ fun M0 w0=> ?_
 refine a2 ?_
 refine co rfl (Eh (PN) rfl rfl) ?_
 refine a2 ?_
 · exact Lr
def GN (b:Int) (l m:List Int):Int:=if 0≤idx (fun x=>b==x) l then (m[(idx (fun x=>b==x) l).toNat]?).getD 0 else 0
theorem Re {b:Int} {l m:List Int} {k:Nat} {x z:Int} (hx:l[k]? =some x) (he:x=b) (hz:m[k]? =some z) (h:∀j y,j<k→l[j]? =some y→(b==y)=false):z=GN b l m:=by
 have:=It (p:=fun x=>b==x) hx (by simp [he]) h
 unfold GN;rw [←this,if_pos (by omega),Int.toNat_natCast,hz];rfl
theorem PO {b:Int} {l m:List Int} (h:∀j y,j<l.length→l[j]? =some y→(b==y)=false):0=GN b l m:=by
 have:=Kx (p:=fun x=>b==x) h
 unfold GN;rw [←this,if_neg (by omega)]
def Ck (BL:Int):Int:=if BL=1 then 18 else if BL=2 then 60 else if BL=3∨BL=8∨BL=21 then 128 else if BL=4 then 192 else if BL=18∨BL=22 then 256 else if BL=19 then 64 else if BL=20 then 80 else 0
def F4 (b:Int):Int:=if b<512∨b>16384 then 0 else if b<1024 then 56 else if b<2048 then 80 else if b<3072 then 112 else if b<7680 then 128 else if b<15360 then 192 else 256
theorem TQ (b:Int):F4 b=if 512≤b∧b≤16384 then TP b else 0:=by
 have h1:TP b=if b<1024 then 56 else if b<2048 then 80 else if b<3072 then 112 else if b<7680 then 128 else if b<15360 then 192 else 256:=rfl
 rw [h1];unfold F4
 by_cases h:512≤b∧b≤16384
 · rw [if_pos h,if_neg (by omega)]
 · rw [if_neg h,if_pos (by omega)]
theorem Fo {b:Int} {l m:List Int} (hl:l.length≤m.length):Be prog 194 [int b,ints l,ints m] (int (GN b l m)):=by
 refine fo func194 rfl ⟨rfl,rfl⟩ fun M0 w0=>(Tr.Db 1 rfl fun N2=> ?_)
 refine a2 ?_
 refine Tr.block (Tr.BV [(0,_),(1,_),(2,_)] (RI rfl) (fun k:Nat=>[(7,int ((k:Nat):Int))]) (fun k:Nat=>k≤(l).length∧(∀j y,j<k→l[j]? =some y→(b==y)=false)) (fun k:Nat=>(l).length-k) 0 (⟨Nat.zero_le _,fun j y hj=>absurd hj (by omega)⟩) ⟨ke rfl,trivial⟩ ?_)
 rintro k ⟨CN,Ac⟩
 refine an ?_ ?_<;>intro h1 q1
 have Au:k<(l).length:=Af h1
 obtain ⟨x,Ae⟩:=at_ Au
 obtain ⟨z,hz⟩:=at_ (l:=m) (k:=k) (by omega)
 · repeat' first|exact int_eq (Re Ae (by assumption) hz Ac)|(exact Fin.AF (k+1) ⟨⟨Au,Fl (p:=fun x=>b==x) Ae (by simp;omega) Ac⟩,by omega⟩ ⟨⟨_,rfl,AM k⟩,ke rfl,ke rfl,ke rfl,trivial⟩)|refine co rfl (AB rfl underlying22 B7 (vl rfl) (vl rfl) (by omega) (by exact AZ (by assumption))) ?_|refine ac ?_|(refine Tr.cn rfl ?_ ?_<;>intro h q)
 have Bn:k=(l).length:=by have:=Ag h1;omega
 subst Bn
 refine a3 ?_
 · exact int_eq (PO Ac)
theorem TR {BL:Int}  :Be prog 195 [int BL] (int (Ck BL)):=by
 refine fo func195 rfl ⟨rfl,rfl⟩ fun M0 w0=> ?_
 refine a2 ?_
 refine an ?_ ?_<;>intro h1 q1
 refine a2 ?_
 · refine int_eq ?_;unfold Ck;(repeat (rw [if_pos (by omega)]))
 refine an ?_ ?_<;>intro h2 q2
 refine a2 ?_
 · refine int_eq ?_;unfold Ck;(repeat (first|rw [if_pos (by omega)]|rw [if_neg (by omega)]))
 refine an ?_ ?_<;>intro h3 q3
 refine ac ?_
 refine Tr.cond rfl (fun _=> ?_) (fun h=>nomatch h3.symm.trans h)
 refine a2 ?_
 · refine int_eq ?_;unfold Ck;(repeat (first|rw [if_pos (by omega)]|rw [if_neg (by omega)]))
 refine an ?_ ?_<;>intro h4 q4
 refine ac ?_
 refine Tr.cond rfl (fun _=> ?_) (fun h=>nomatch h4.symm.trans h)
 refine a2 ?_
 · refine int_eq ?_;unfold Ck;(repeat (first|rw [if_pos (by omega)]|rw [if_neg (by omega)]))
 refine an ?_ ?_<;>intro h5 q5
 refine a2 ?_
 · refine int_eq ?_;unfold Ck;(repeat (first|rw [if_pos (by omega)]|rw [if_neg (by omega)]))
 refine ac ?_
 refine F8 3 12 rfl ?_
 refine Tr.cn rfl ?_ ?_<;>intro h6 q6
 refine a2 ?_
 · refine int_eq ?_;unfold Ck;(repeat (first|rw [if_pos (by omega)]|rw [if_neg (by omega)]))
 refine an ?_ ?_<;>intro h7 q7
 refine ac ?_
 refine Tr.cond rfl (fun _=> ?_) (fun h=>nomatch h7.symm.trans h)
 refine a2 ?_
 · refine int_eq ?_;unfold Ck;(repeat (first|rw [if_pos (by omega)]|rw [if_neg (by omega)]))
 · repeat' first|(refine int_eq ?_;unfold Ck;(repeat (first|rw [if_pos (by omega)]|rw [if_neg (by omega)])))|(refine int_eq ?_;unfold Ck;(repeat (rw [if_neg (by omega)])))|refine ac ?_|(refine Tr.cn rfl ?_ ?_<;>intro h q)
theorem Fp {b:Int}  :Be prog 193 [int b] (int (F4 b)):=by
 refine fo func193 rfl ⟨rfl,rfl⟩ fun M0 w0=> ?_
 refine ac ?_
 refine ac ?_
 refine Ch.cs 6 rfl ?_ ?_<;>intro h1 q1
 refine ac ?_
 refine ac ?_
 refine ac ?_
 · refine int_eq ?_;unfold F4;(repeat (rw [if_pos (by omega)]))
 refine ac ?_
 refine Tr.cn rfl ?_ ?_<;>intro h2 q2
 refine ac ?_
 refine ac ?_
 · refine int_eq ?_;unfold F4;(repeat (rw [if_pos (by omega)]))
 refine ac ?_
 refine Tr.cn rfl ?_ ?_<;>intro h3 q3
 refine ac ?_
 refine ac ?_
 · refine int_eq ?_;unfold F4;(repeat (first|rw [if_pos (by omega)]|rw [if_neg (by omega)]))
 refine ac ?_
 refine F8 0 13 rfl ?_
 refine Tr.cn rfl ?_ ?_<;>intro h4 q4
 refine ac ?_
 refine ac ?_
 · refine int_eq ?_;unfold F4;(repeat (first|rw [if_pos (by omega)]|rw [if_neg (by omega)]))
 refine ac ?_
 refine Tr.cn rfl ?_ ?_<;>intro h5 q5
 refine ac ?_
 refine ac ?_
 · refine int_eq ?_;unfold F4;(repeat (first|rw [if_pos (by omega)]|rw [if_neg (by omega)]))
 refine ac ?_
 refine Tr.cn rfl ?_ ?_<;>intro h6 q6
 refine ac ?_
 refine ac ?_
 · refine int_eq ?_;unfold F4;(repeat (first|rw [if_pos (by omega)]|rw [if_neg (by omega)]))
 refine ac ?_
 refine Tr.cn rfl ?_ ?_<;>intro h7 q7
 refine ac ?_
 refine ac ?_
 · refine int_eq ?_;unfold F4;(repeat (first|rw [if_pos (by omega)]|rw [if_neg (by omega)]))
 refine ac ?_
 refine ac ?_
 refine ac ?_
 · refine int_eq ?_;unfold F4;(repeat (rw [if_neg (by omega)]))
theorem Vd (b c:Int):GN b [0] [c]=if b=0 then c else 0:=by
 unfold GN idx
 by_cases h:b=0
 · subst h;rfl
 ·
  have:List.findIdx? (fun x=>b==x) [0]=none:=by simp [h]
  rw [this,if_neg h];rfl
theorem D_ {BL b:Int} (h:BL=5∨BL=6∨BL=10∨BL=11):F4 b=BQ BL b:=by
 rw [TQ]
 rcases h with rfl|rfl|rfl|rfl<;>rfl
theorem Lb {BL b:Int} (h:¬(BL=5∨BL=6∨BL=7∨BL=9∨BL=10∨BL=11∨BL=12∨BL=13∨BL=14∨BL=15∨BL=16∨BL=17)):GN b [0] [Ck BL]=BQ BL b:=by
 rw [Vd]
 by_cases hin:1≤BL∧BL≤22
 ·
  have ha:BL=1∨BL=2∨BL=3∨BL=4∨BL=8∨BL=18∨BL=19∨BL=20∨BL=21∨BL=22:=by omega
  rcases ha with rfl|rfl|rfl|rfl|rfl|rfl|rfl|rfl|rfl|rfl<;>rfl
 ·
  have h1:Ck BL=0:=by unfold Ck;(repeat (first|rw [if_pos (by omega)]|rw [if_neg (by omega)]))
  unfold BQ
  rw [h1,if_neg hin];split<;>rfl
theorem EA {BL b:Int} (h:BL=7∨BL=12):BQ BL b=if (Lx.any fun x=>b==x)=true then b.tdiv 2 else 0:=by
 rcases h with rfl|rfl<;>rfl
theorem N3 {BL bits:Int}  :Be prog 162 [agg [int BL,int bits]] (int (BQ BL bits)):=by
 refine fo func162 rfl ⟨rfl,rfl⟩ fun M0 w0=> ?_
 iterate 4 refine ac ?_
 refine Tr.cn rfl ?_ ?_<;>intro h1 q1
 refine ac ?_
 refine Tr.cond rfl (fun _=> ?_) (fun h=>nomatch h1.symm.trans h)
 refine ac ?_
 refine co rfl (Eh (Fp) rfl rfl) ?_
 refine a2 ?_
 · refine int_eq ?_;exact D_ (by omega)
 refine an ?_ ?_<;>intro h2 q2
 refine ac ?_
 refine Tr.cond rfl (fun _=> ?_) (fun h=>nomatch h2.symm.trans h)
 refine ac ?_
 refine co rfl (Eh (Fp) rfl rfl) ?_
 refine ac ?_
 refine Cg 2 rfl ?_
 refine ac ?_
 · refine int_eq ?_;exact D_ (by omega)
 refine an ?_ ?_<;>intro h3 q3
 refine ac ?_
 refine Tr.cond rfl (fun _=> ?_) (fun h=>nomatch h3.symm.trans h)
 refine ac ?_
 refine co rfl (Eh (Fp) rfl rfl) ?_
 refine ac ?_
 refine Cg 2 rfl ?_
 refine ac ?_
 · refine int_eq ?_;exact D_ (by omega)
 refine ac ?_
 refine FB 1 3 7 8 rfl ?_
 refine Tr.cn rfl ?_ ?_<;>intro h4 q4
 refine ac ?_
 refine co rfl (Eh (Fp) rfl rfl) ?_
 refine a2 ?_
 · refine int_eq ?_;exact D_ (by omega)
 refine an ?_ ?_<;>intro h5 q5
 refine ac ?_
 refine Tr.cond rfl (fun _=> ?_) (fun h=>nomatch h5.symm.trans h)
 · repeat' first|(refine int_eq ?_;rw [EA (by omega)];have hb:bits=160∨bits=224∨bits=256∨bits=384∨bits=521:=(by omega);rcases hb with rfl|rfl|rfl|rfl|rfl<;>rfl)|(refine int_eq ?_;rw [EA (by omega),if_neg (by simp [Lx];omega)])|refine co rfl (EK rfl (vl rfl) (vl rfl) (by omega)) ?_|refine ac ?_|(refine Tr.cn rfl ?_ ?_<;>intro h q)|(refine Ch.cg rfl rfl rfl ?_ ?_<;>intro h q)
 refine an ?_ ?_<;>intro h11 Zd
 · repeat' first|(refine int_eq ?_;rw [EA (by omega)];have hb:bits=160∨bits=224∨bits=256∨bits=384∨bits=521:=(by omega);rcases hb with rfl|rfl|rfl|rfl|rfl<;>rfl)|(refine int_eq ?_;rw [EA (by omega),if_neg (by simp [Lx];omega)])|refine co rfl (EK rfl (vl rfl) (vl rfl) (by omega)) ?_|refine ac ?_|(refine Tr.cn rfl ?_ ?_<;>intro h q)|(refine Ch.cg rfl rfl rfl ?_ ?_<;>intro h q)
 refine an ?_ ?_<;>intro cA iG
 refine ac ?_
 refine co rfl (Ai rfl (Fo (l:=[44,65,87]) (m:=[128,192,256]) (by simp)) ⟨ke rfl,(Kf rfl),(Kf rfl),trivial⟩) ?_
 refine ac ?_
 refine Cg 2 rfl ?_
 refine ac ?_
 · refine int_eq ?_;have ha:BL=9:=(by omega);rcases ha with rfl<;>rfl
 refine an ?_ ?_<;>intro ju jv
 refine ac ?_
 refine co rfl (Ai rfl (Fo (l:=[512,768,1024]) (m:=[128,192,256]) (by simp)) ⟨ke rfl,(Kf rfl),(Kf rfl),trivial⟩) ?_
 refine ac ?_
 refine Cg 2 rfl ?_
 refine ac ?_
 · refine int_eq ?_;have ha:BL=13:=(by omega);rcases ha with rfl<;>rfl
 refine ac ?_
 refine FB 1 3 7 50 rfl ?_
 refine Tr.cn rfl ?_ ?_<;>intro jw jx
 refine ac ?_
 refine co rfl (Ai rfl (Fo (l:=[40,128]) (m:=[40,60]) (by simp)) ⟨ke rfl,(Kf rfl),(Kf rfl),trivial⟩) ?_
 refine a2 ?_
 · refine int_eq ?_;have ha:BL=14:=(by omega);rcases ha with rfl<;>rfl
 refine an ?_ ?_<;>intro jy jz
 refine ac ?_
 refine co rfl (Ai rfl (Fo (l:=[112,168]) (m:=[80,112]) (by simp)) ⟨ke rfl,(Kf rfl),(Kf rfl),trivial⟩) ?_
 refine a2 ?_
 · refine int_eq ?_;have ha:BL=15:=(by omega);rcases ha with rfl<;>rfl
 refine an ?_ ?_<;>intro iH j0
 refine ac ?_
 refine Tr.cond rfl (fun _=> ?_) (fun h=>nomatch iH.symm.trans h)
 refine ac ?_
 refine co rfl (Ai rfl (Fo (l:=[128,256]) (m:=[128,256]) (by simp)) ⟨ke rfl,(Kf rfl),(Kf rfl),trivial⟩) ?_
 refine a2 ?_
 · refine int_eq ?_;have ha:BL=16∨BL=17:=(by omega);rcases ha with rfl|rfl<;>rfl
 · repeat' first|(refine int_eq ?_;have ha:BL=16∨BL=17:=(by omega);rcases ha with rfl|rfl<;>rfl)|(refine int_eq ?_;exact Lb (by omega))|refine co rfl (Ai rfl (Fo (l:=[128,256]) (m:=[128,256]) (by simp)) ⟨ke rfl,(Kf rfl),(Kf rfl),trivial⟩) ?_|refine co rfl (Eh (TR) rfl rfl) (co rfl (AH (xs:=[.tmp 73]) (rows:=[[_]]) rfl rfl underlying22 B7 z3 rfl (by decide) ⟨⟨(by exact rfl),(Vo rfl)⟩,trivial⟩ (by decide)) ?_)|refine co rfl (Ai rfl (Fo (l:=[0]) (m:=[Ck BL]) (by simp)) ⟨ke rfl,(Kf rfl),(Kf rfl),trivial⟩) ?_|refine ac ?_|(refine Tr.cn rfl ?_ ?_<;>intro h q)
theorem Kz {BL bits:Int}  :Be prog 107 [agg [int BL,int bits]] (bool (decide (BQ BL bits>0))):=by
 refine fo func107 rfl ⟨rfl,rfl⟩ fun M0 w0=> ?_
 refine a2 ?_
 refine co rfl (Eh (N3) rfl rfl) ?_
 refine a2 ?_
 · exact Lr
def YX:List (List UInt8×Int):=ES.map fun r=>(r.name,r.kind)
theorem Ve {BL:Int} (h:1≤BL∧BL≤22):YX[BL.toNat]? =some ((CO BL).name,(CO BL).kind):=by
 unfold YX;rw [List.getElem?_map,GM h];rfl
theorem Vf   :Be prog 196 [] (slice 2 (YX.map fun r=>[str r.1,int r.2])):=by
 refine fo func196 rfl ⟨rfl,rfl⟩ fun M0 w0=> ?_
 refine a2 ?_
 refine Cg 0 rfl ?_
 refine ac ?_
 · exact BO _ _
theorem Vg {BL:Int}  :Be prog 163 [int BL] (int (CO BL).kind):=by
 refine fo func163 rfl ⟨rfl,rfl⟩ fun M0 w0=> ?_
 refine ac ?_
 refine ag ?_ ?_<;>intro h1 q1
 refine a3 ?_
 · refine int_eq ?_;unfold CO;rw [if_neg (by omega)];rfl
 refine an ?_ ?_<;>intro h2 q2
 refine a2 ?_
 · refine int_eq ?_;unfold CO;rw [if_neg (by omega)];rfl
 have hin:1≤BL∧BL≤22:=by omega
 refine ac ?_
 refine Tr.seq (Tr.A0 (co rfl (jj (Vf) rfl) (cm rfl (co rfl (AB rfl underlying202 W9 (vl rfl) (vl rfl) (by omega) (CC (f:=fun r:List UInt8×Int=>[str r.1,int r.2]) (Ve hin))) ?_))))
 refine a2 ?_
 · exact Lr
theorem N4 {BL bits:Int}  :Be prog 108 [agg [int BL,int bits]] (bool (decide (BQ BL bits>0)&&(CO BL).kind==2)):=by
 refine fo func108 rfl ⟨rfl,rfl⟩ fun M0 w0=> ?_
 refine ac ?_
 refine ac ?_
 refine co rfl (Eh (Kz) rfl rfl) (cm rfl ?_)
 refine Ch.cs 5 rfl ?_ ?_<;>intro h1 q1
 refine ac ?_
 refine cy h1 rfl (Eh (Vg) rfl rfl) ?_
 refine ac ?_
 refine ac ?_
 · refine bool_eq ?_;simp_all
 refine ac ?_
 refine ac ?_
 · refine bool_eq ?_;simp_all;omega
structure AO where
 src:Int
 host:List UInt8
 machine:Int
 day:Int
 Cm:Int
 kind:Int
 CV:List UInt8
 BL:Int
 bits:Int
 num:Int
 text:List UInt8
abbrev BA (f:AO):List Pr:=[int f.src,str f.host,int f.machine,int f.day,int f.Cm,int f.kind,str f.CV,int f.BL,int f.bits,int f.num,str f.text]
abbrev BC (l:List AO):Pr:=slice 11 (l.map BA)
structure AO.fits (f:AO):Prop where
 host:f.host.length≤maxLen
 CV:f.CV.length≤maxLen
 text:f.text.length≤maxLen
def Bj (f:AO):Bool:=decide (f.BL=0∧f.bits=0)&&decide (f.text=[])
def AP (f:AO):Bool:=
 if f.kind=1∨f.kind=8 then decide (BQ f.BL f.bits>0)&&decide (f.num=0)&&decide (f.text=[])
 else if f.kind=2 then Bj f&&decide (0≤f.num)&&decide (f.num≤65535)
 else if f.kind=3 then decide (BQ f.BL f.bits>0)&&(CO f.BL).kind==2&&decide (0≤f.num)&&decide (f.num≤2147483648)&&decide (f.text=[])
 else if f.kind=4∨f.kind=5 then Bj f&&decide (1≤f.num)&&decide (f.num≤4)
 else if f.kind=6 then Bj f&&decide (0≤f.num)&&decide (f.num≤2147483648)
 else if f.kind=7 then decide (f.BL=0∧f.bits=0)&&decide (f.num=0)&&named f.text
 else false
def CW (f:AO):Bool:=named f.host&&named f.CV&&decide (0≤f.machine)&&decide (f.machine≤1099511627776)
def DE (f:AO):Bool:=decide (0≤f.day)&&decide (f.day≤40000)&&decide (1≤f.Cm)&&decide (f.Cm≤100)
def BB (f:AO):Bool:=CW f&&DE f&&decide (1≤f.src)&&decide (f.src≤7)&&AP f
theorem Rf {f:AO} (hf:f.fits):Be prog 105 [agg (BA f)] (bool (AP f)):=by
 refine fo func105 rfl ⟨rfl,rfl⟩ fun M0 w0=> ?_
 refine ac ?_
 refine Cg 1 rfl (Tr.KE [1] [(3,bool (Bj f))] (True) ?_ (fun h1=> ?_))
 refine ac ?_
 refine co rfl (Mu rfl (vl rfl) (vl rfl)) (cm rfl ?_)
 refine Ch.cs 8 rfl ?_ ?_<;>intro h2 q2
 refine ac ?_
 exact Fin.AF () (by simp_all) ⟨⟨_,rfl,bool_eq (by simp_all [Bj])⟩,ke rfl,trivial⟩
 refine ac ?_
 exact Fin.AF () (by simp_all) ⟨⟨_,rfl,bool_eq (by simp_all [Bj])⟩,ke rfl,trivial⟩
 refine ac ?_
 refine ac ?_
 refine Tr.cn rfl ?_ ?_<;>intro h3 q3
 refine ac ?_
 refine Tr.cond rfl (fun _=> ?_) (fun h=>nomatch h3.symm.trans h)
 refine ac ?_
 refine co rfl (Eh (Mz) rfl rfl) (cm rfl ?_)
 refine Ch.cs 21 rfl ?_ ?_<;>intro h4 q4
 refine ac ?_
 refine Ch.cs 26 rfl ?_ ?_<;>intro h5 q5
 refine ac ?_
 refine Cg 2 rfl ?_
 refine ac ?_
 · refine bool_eq ?_;unfold AP;simp_all
 refine ac ?_
 refine Cg 2 rfl ?_
 refine ac ?_
 · refine bool_eq ?_;unfold AP;simp_all
 refine ac ?_
 refine Cg 2 rfl ?_
 refine ac ?_
 · refine bool_eq ?_;unfold AP;simp_all;omega
 refine ac ?_
 refine Tr.cn rfl ?_ ?_<;>intro h6 q6
 refine ac ?_
 refine co rfl (Eh (Mz) rfl rfl) (cm rfl ?_)
 refine Ch.cs 21 rfl ?_ ?_<;>intro h7 q7
 refine ac ?_
 refine Ch.cs 26 rfl ?_ ?_<;>intro h8 q8
 refine ac ?_
 refine Cg 2 rfl ?_
 refine ac ?_
 · refine bool_eq ?_;unfold AP;simp_all
 refine ac ?_
 refine Cg 2 rfl ?_
 refine ac ?_
 · refine bool_eq ?_;unfold AP;simp_all
 refine ac ?_
 refine Cg 2 rfl ?_
 refine ac ?_
 · refine bool_eq ?_;unfold AP;simp_all;omega
 refine ac ?_
 refine Tr.cn rfl ?_ ?_<;>intro h9 q9
 refine ac ?_
 refine Ch.cs 34 rfl ?_ ?_<;>intro h10 XK
 refine ac ?_
 refine Ch.cs 39 rfl ?_ ?_<;>intro h11 Zd
 refine ac ?_
 refine Cg 2 rfl ?_
 refine ac ?_
 · refine bool_eq ?_;unfold AP;simp_all
 refine ac ?_
 refine Cg 2 rfl ?_
 refine ac ?_
 · refine bool_eq ?_;unfold AP;simp_all;omega
 refine ac ?_
 refine Cg 2 rfl ?_
 refine ac ?_
 · refine bool_eq ?_;unfold AP;simp_all
 refine ac ?_
 refine Tr.cn rfl ?_ ?_<;>intro h12 YY
 refine ac ?_
 refine co rfl (Eh (Mz) rfl rfl) (cm rfl ?_)
 refine Ch.cs 49 rfl ?_ ?_<;>intro Od cB
 refine ac ?_
 refine cy Od rfl (Eh (YU) rfl rfl) ?_
 refine ac ?_
 refine Ch.cs 56 rfl ?_ ?_<;>intro Vh iI
 refine ac ?_
 refine Ch.cs 61 rfl ?_ ?_<;>intro iJ j4
 refine ac ?_
 refine Ch.cs 66 rfl ?_ ?_<;>intro h16 j5
 refine ac ?_
 refine Cg 2 rfl ?_
 refine ac ?_
 · refine bool_eq ?_;unfold AP;simp_all
 refine ac ?_
 refine Cg 2 rfl ?_
 refine ac ?_
 · refine bool_eq ?_;unfold AP;simp_all;omega
 refine ac ?_
 refine Cg 2 rfl ?_
 refine ac ?_
 · refine bool_eq ?_;unfold AP;simp_all;omega
 refine ac ?_
 refine Cg 2 rfl ?_
 refine ac ?_
 · refine bool_eq ?_;unfold AP;simp_all
 refine ac ?_
 refine Cg 2 rfl ?_
 refine ac ?_
 · refine bool_eq ?_;unfold AP;simp_all;omega
 refine ac ?_
 refine FB 1 3 14 71 rfl ?_
 refine Tr.cn rfl ?_ ?_<;>intro cA iG
 refine ac ?_
 refine Tr.cond rfl (fun _=> ?_) (fun h=>nomatch cA.symm.trans h)
 refine ac ?_
 refine Ch.cs 75 rfl ?_ ?_<;>intro ju jv
 refine ac ?_
 refine Ch.cs 80 rfl ?_ ?_<;>intro jw jx
 refine ac ?_
 refine Cg 2 rfl ?_
 refine ac ?_
 · refine bool_eq ?_;unfold AP;simp_all
 refine ac ?_
 refine Cg 2 rfl ?_
 refine ac ?_
 · refine bool_eq ?_;unfold AP;simp_all;omega
 refine ac ?_
 refine Cg 2 rfl ?_
 refine ac ?_
 · refine bool_eq ?_;unfold AP;simp_all
 refine ac ?_
 refine Tr.cn rfl ?_ ?_<;>intro jy jz
 refine ac ?_
 refine Ch.cs 75 rfl ?_ ?_<;>intro iH j0
 refine ac ?_
 refine Ch.cs 80 rfl ?_ ?_<;>intro l5 l6
 refine ac ?_
 refine Cg 2 rfl ?_
 refine ac ?_
 · refine bool_eq ?_;unfold AP;simp_all
 refine ac ?_
 refine Cg 2 rfl ?_
 refine ac ?_
 · refine bool_eq ?_;unfold AP;simp_all;omega
 refine ac ?_
 refine Cg 2 rfl ?_
 refine ac ?_
 · refine bool_eq ?_;unfold AP;simp_all
 refine ac ?_
 refine Tr.cn rfl ?_ ?_<;>intro h23 l7
 refine ac ?_
 refine Ch.cs 88 rfl ?_ ?_<;>intro l8 l9
 refine ac ?_
 refine Ch.cs 93 rfl ?_ ?_<;>intro l_ mA
 refine ac ?_
 refine Cg 2 rfl ?_
 refine ac ?_
 · refine bool_eq ?_;unfold AP;simp_all
 refine ac ?_
 refine Cg 2 rfl ?_
 refine ac ?_
 · refine bool_eq ?_;unfold AP;simp_all;omega
 refine ac ?_
 refine Cg 2 rfl ?_
 refine ac ?_
 · refine bool_eq ?_;unfold AP;simp_all
 refine ac ?_
 refine Tr.cn rfl ?_ ?_<;>intro j6 mB
 refine ac ?_
 refine co rfl (Mu rfl (vl rfl) (vl rfl)) (cm rfl ?_)
 refine Ch.cs 104 rfl ?_ ?_<;>intro mC mD
 refine ac ?_
 refine Ch.cs 109 rfl ?_ ?_<;>intro j7 mE
 refine ac ?_
 refine cy j7 rfl (Eh (Mw hf.text) rfl rfl) ?_
 refine ac ?_
 refine Cg 2 rfl ?_
 refine ac ?_
 · refine bool_eq ?_;unfold AP;simp_all
 refine ac ?_
 refine Cg 2 rfl ?_
 refine ac ?_
 · refine bool_eq ?_;unfold AP;simp_all
 refine ac ?_
 refine Cg 2 rfl ?_
 refine ac ?_
 · refine bool_eq ?_;unfold AP;simp_all
 refine ac ?_
 refine ac ?_
 refine ac ?_
 · refine bool_eq ?_;unfold AP;simp_all
theorem N5 {f:AO} (hf:f.fits):Be prog 62 [agg (BA f)] (int (if BB f then 0 else 24)):=by
 refine fo func62 rfl ⟨rfl,rfl⟩ fun M0 w0=> ?_
 refine ac ?_
 refine Cg 1 rfl (Tr.KE [1] [(3,bool (CW f))] (True) ?_ (fun h1=> ?_))
 refine ac ?_
 refine co rfl (Eh (Mw hf.host) rfl rfl) (cm rfl ?_)
 refine Ch.cs 8 rfl ?_ ?_<;>intro h2 q2
 refine ac ?_
 refine cy h2 rfl (Eh (Mw hf.CV) rfl rfl) ?_
 refine ac ?_
 refine Ch.cs 13 rfl ?_ ?_<;>intro h3 q3
 refine ac ?_
 refine Ch.cs 18 rfl ?_ ?_<;>intro h4 q4
 refine ac ?_
 exact Fin.AF () (by simp_all) ⟨⟨_,rfl,bool_eq (by simp_all [CW])⟩,ke rfl,trivial⟩
 refine ac ?_
 exact Fin.AF () (by simp_all) ⟨⟨_,rfl,bool_eq (by simp_all [CW];omega)⟩,ke rfl,trivial⟩
 refine ac ?_
 exact Fin.AF () (by simp_all) ⟨⟨_,rfl,bool_eq (by simp_all [CW])⟩,ke rfl,trivial⟩
 refine ac ?_
 exact Fin.AF () (by simp_all) ⟨⟨_,rfl,bool_eq (by simp_all [CW])⟩,ke rfl,trivial⟩
 refine F8 1 3 rfl (Tr.KE [1,3] [(4,bool (DE f))] (True) ?_ (fun h5=> ?_))
 refine ac ?_
 refine Ch.cs 26 rfl ?_ ?_<;>intro h6 q6
 refine ac ?_
 refine Ch.cs 31 rfl ?_ ?_<;>intro h7 q7
 refine ac ?_
 refine Ch.cs 36 rfl ?_ ?_<;>intro h8 q8
 refine ac ?_
 exact Fin.AF () (by simp_all) ⟨⟨_,rfl,bool_eq (by simp_all [DE])⟩,ke rfl,ke rfl,trivial⟩
 refine ac ?_
 exact Fin.AF () (by simp_all) ⟨⟨_,rfl,bool_eq (by simp_all [DE];omega)⟩,ke rfl,ke rfl,trivial⟩
 refine ac ?_
 exact Fin.AF () (by simp_all) ⟨⟨_,rfl,bool_eq (by simp_all [DE];omega)⟩,ke rfl,ke rfl,trivial⟩
 refine ac ?_
 exact Fin.AF () (by simp_all) ⟨⟨_,rfl,bool_eq (by simp_all [DE];omega)⟩,ke rfl,ke rfl,trivial⟩
 refine ac ?_
 refine Ch.cs 43 rfl ?_ ?_<;>intro h9 q9
 refine ac ?_
 refine Cg 61 rfl ?_
 refine ac ?_
 refine ac ?_
 · refine int_eq ?_;unfold BB;simp_all
 refine ac ?_
 refine Ch.cs 47 rfl ?_ ?_<;>intro h10 XK
 refine ac ?_
 refine Cg 61 rfl ?_
 refine ac ?_
 refine ac ?_
 · refine int_eq ?_;unfold BB;simp_all
 refine ac ?_
 refine Ch.cs 52 rfl ?_ ?_<;>intro h11 Zd
 refine ac ?_
 refine Cg 61 rfl ?_
 refine ac ?_
 refine ac ?_
 · refine int_eq ?_;unfold BB;simp_all;omega
 refine ac ?_
 refine Ch.cs 57 rfl ?_ ?_<;>intro h12 YY
 refine ac ?_
 refine Cg 61 rfl ?_
 refine ac ?_
 refine ac ?_
 · refine int_eq ?_;unfold BB;simp_all;omega
 refine cy h12 rfl (Ap rfl BI AY (vl rfl) rfl rfl) (cy h12 rfl (Eh (Rf (by assumption)) rfl rfl) ?_)
 refine ac ?_
 refine Cg 61 rfl ?_
 refine Tr.cn rfl ?_ ?_<;>intro Od cB
 refine ac ?_
 refine ac ?_
 · refine int_eq ?_;unfold BB;simp_all
 refine ac ?_
 refine ac ?_
 refine ac ?_
 · refine int_eq ?_;unfold BB;simp_all
theorem Fq {f:AO}  :Be prog 64 [agg (BA f)] (int (if BB f then 0 else 24)):=by
 refine fo func64 rfl ⟨rfl,rfl⟩ fun M0 w0=> ?_
 refine ac ?_
 refine ac ?_
 refine Ch.cs 10 rfl ?_ ?_<;>intro h1 q1
 refine ac ?_
 refine F8 1 56 rfl ?_
 refine ac ?_
 refine ac ?_
 · refine int_eq ?_;unfold BB CW DE;simp_all;omega
 refine ac ?_
 refine Ch.cs 15 rfl ?_ ?_<;>intro h2 q2
 refine ac ?_
 refine F8 1 56 rfl ?_
 refine ac ?_
 refine ac ?_
 · refine int_eq ?_;unfold BB CW DE;simp_all;omega
 refine ac ?_
 refine cy h2 rfl (Eh (Mx) rfl rfl) ?_
 refine ac ?_
 refine Ch.cs 21 rfl ?_ ?_<;>intro h3 q3
 refine ac ?_
 refine F8 1 56 rfl ?_
 refine ac ?_
 refine ac ?_
 · refine int_eq ?_;unfold BB CW DE;simp_all
 refine ac ?_
 refine Ch.cs 26 rfl ?_ ?_<;>intro h4 q4
 refine ac ?_
 refine F8 1 56 rfl ?_
 refine ac ?_
 refine ac ?_
 · refine int_eq ?_;unfold BB CW DE;simp_all;omega
 refine ac ?_
 refine Ch.cs 31 rfl ?_ ?_<;>intro h5 q5
 refine ac ?_
 refine F8 1 56 rfl ?_
 refine ac ?_
 refine ac ?_
 · refine int_eq ?_;unfold BB CW DE;simp_all;omega
 refine ac ?_
 refine Ch.cs 36 rfl ?_ ?_<;>intro h6 q6
 refine ac ?_
 refine F8 1 56 rfl ?_
 refine ac ?_
 refine ac ?_
 · refine int_eq ?_;unfold BB CW DE;simp_all;omega
 refine ac ?_
 refine Ch.cs 41 rfl ?_ ?_<;>intro h7 q7
 refine ac ?_
 refine F8 1 56 rfl ?_
 refine ac ?_
 refine ac ?_
 · refine int_eq ?_;unfold BB CW DE;simp_all;omega
 refine ac ?_
 refine Ch.cs 46 rfl ?_ ?_<;>intro h8 q8
 refine ac ?_
 refine F8 1 56 rfl ?_
 refine ac ?_
 refine ac ?_
 · refine int_eq ?_;unfold BB CW DE;simp_all;omega
 refine ac ?_
 refine Ch.cs 51 rfl ?_ ?_<;>intro h9 q9
 refine ac ?_
 refine F8 1 56 rfl ?_
 refine ac ?_
 refine ac ?_
 · refine int_eq ?_;unfold BB CW DE;simp_all;omega
 refine ac ?_
 refine cy h9 rfl (Eh (Mx) rfl rfl) ?_
 refine ac ?_
 refine F8 1 56 rfl ?_
 refine Tr.cn rfl ?_ ?_<;>intro h10 XK
 refine ac ?_
 refine ac ?_
 · refine int_eq ?_;unfold BB CW DE;simp_all
 refine ac ?_
 refine ac ?_
 refine co rfl (Mu rfl (vl rfl) (vl rfl)) ?_
 refine ac ?_
 refine FB 1 3 4 5 rfl ?_
 refine ac ?_
 refine Tr.KE [] [(6,bool (AP f))] (True) ?_ (fun h11=> ?_)
 refine ac ?_
 refine ac ?_
 refine Tr.cn rfl ?_ ?_<;>intro h12 YY
 refine ac ?_
 refine Tr.cond rfl (fun _=> ?_) (fun h=>nomatch h12.symm.trans h)
 refine ac ?_
 refine co rfl (Eh (Kz) rfl rfl) (cm rfl ?_)
 refine Ch.cs 75 rfl ?_ ?_<;>intro Od cB
 refine ac ?_
 refine Ch.cs 78 rfl ?_ ?_<;>intro Vh iI
 refine ac ?_
 exact Fin.AF () (by simp_all) ⟨⟨_,rfl,bool_eq (by unfold AP Bj;simp_all)⟩,trivial⟩
 refine ac ?_
 exact Fin.AF () (by simp_all) ⟨⟨_,rfl,bool_eq (by unfold AP Bj;simp_all)⟩,trivial⟩
 refine ac ?_
 exact Fin.AF () (by simp_all) ⟨⟨_,rfl,bool_eq (by unfold AP Bj;simp_all;omega)⟩,trivial⟩
 refine ac ?_
 refine Tr.cn rfl ?_ ?_<;>intro iJ j4
 refine ac ?_
 refine co rfl (Eh (Kz) rfl rfl) (cm rfl ?_)
 refine Ch.cs 75 rfl ?_ ?_<;>intro h16 j5
 refine ac ?_
 refine Ch.cs 78 rfl ?_ ?_<;>intro cA iG
 refine ac ?_
 exact Fin.AF () (by simp_all) ⟨⟨_,rfl,bool_eq (by unfold AP Bj;simp_all)⟩,trivial⟩
 refine ac ?_
 exact Fin.AF () (by simp_all) ⟨⟨_,rfl,bool_eq (by unfold AP Bj;simp_all)⟩,trivial⟩
 refine ac ?_
 exact Fin.AF () (by simp_all) ⟨⟨_,rfl,bool_eq (by unfold AP Bj;simp_all;omega)⟩,trivial⟩
 refine ac ?_
 refine Tr.cn rfl ?_ ?_<;>intro ju jv
 refine ac ?_
 refine Ch.cs 84 rfl ?_ ?_<;>intro jw jx
 refine ac ?_
 refine Ch.cs 89 rfl ?_ ?_<;>intro jy jz
 refine ac ?_
 refine Ch.cs 94 rfl ?_ ?_<;>intro iH j0
 refine ac ?_
 exact Fin.AF () (by simp_all) ⟨⟨_,rfl,bool_eq (by unfold AP Bj;simp_all)⟩,trivial⟩
 refine ac ?_
 exact Fin.AF () (by simp_all) ⟨⟨_,rfl,bool_eq (by unfold AP Bj;simp_all)⟩,trivial⟩
 refine ac ?_
 exact Fin.AF () (by simp_all) ⟨⟨_,rfl,bool_eq (by unfold AP Bj;simp_all;omega)⟩,trivial⟩
 refine ac ?_
 exact Fin.AF () (by simp_all) ⟨⟨_,rfl,bool_eq (by unfold AP Bj;simp_all)⟩,trivial⟩
 refine ac ?_
 refine JJ 1 3 4 5 6 68 97 rfl ?_
 refine Tr.cn rfl ?_ ?_<;>intro l5 l6
 refine ac ?_
 refine co rfl (Eh (N4) rfl rfl) (cm rfl ?_)
 refine Ch.cs 102 rfl ?_ ?_<;>intro h23 l7
 refine ac ?_
 refine Ch.cs 107 rfl ?_ ?_<;>intro l8 l9
 refine ac ?_
 refine Ch.cs 112 rfl ?_ ?_<;>intro l_ mA
 refine ac ?_
 exact Fin.AF () (by simp_all) ⟨⟨_,rfl,bool_eq (by unfold AP Bj;simp_all)⟩,trivial⟩
 refine ac ?_
 exact Fin.AF () (by simp_all) ⟨⟨_,rfl,bool_eq (by unfold AP Bj;simp_all;omega)⟩,trivial⟩
 refine ac ?_
 exact Fin.AF () (by simp_all) ⟨⟨_,rfl,bool_eq (by unfold AP Bj;simp_all;omega)⟩,trivial⟩
 refine ac ?_
 exact Fin.AF () (by simp_all) ⟨⟨_,rfl,bool_eq (by unfold AP Bj;simp_all)⟩,trivial⟩
 refine ac ?_
 refine Tr.cn rfl ?_ ?_<;>intro j6 mB
 refine ac ?_
 refine Tr.cond rfl (fun _=> ?_) (fun h=>nomatch j6.symm.trans h)
 refine ac ?_
 refine Ch.cs 119 rfl ?_ ?_<;>intro mC mD
 refine ac ?_
 refine Ch.cs 124 rfl ?_ ?_<;>intro j7 mE
 refine ac ?_
 refine Ch.cs 129 rfl ?_ ?_<;>intro nQ nR
 refine ac ?_
 exact Fin.AF () (by simp_all) ⟨⟨_,rfl,bool_eq (by unfold AP Bj;simp_all)⟩,trivial⟩
 refine ac ?_
 exact Fin.AF () (by simp_all) ⟨⟨_,rfl,bool_eq (by unfold AP Bj;simp_all)⟩,trivial⟩
 refine ac ?_
 exact Fin.AF () (by simp_all) ⟨⟨_,rfl,bool_eq (by unfold AP Bj;simp_all;omega)⟩,trivial⟩
 refine ac ?_
 exact Fin.AF () (by simp_all) ⟨⟨_,rfl,bool_eq (by unfold AP Bj;simp_all)⟩,trivial⟩
 refine ac ?_
 refine Tr.cn rfl ?_ ?_<;>intro nS nT
 refine ac ?_
 refine Ch.cs 119 rfl ?_ ?_<;>intro nU nV
 refine ac ?_
 refine Ch.cs 124 rfl ?_ ?_<;>intro h32 nW
 refine ac ?_
 refine Ch.cs 129 rfl ?_ ?_<;>intro nX nY
 refine ac ?_
 exact Fin.AF () (by simp_all) ⟨⟨_,rfl,bool_eq (by unfold AP Bj;simp_all)⟩,trivial⟩
 refine ac ?_
 exact Fin.AF () (by simp_all) ⟨⟨_,rfl,bool_eq (by unfold AP Bj;simp_all)⟩,trivial⟩
 refine ac ?_
 exact Fin.AF () (by simp_all) ⟨⟨_,rfl,bool_eq (by unfold AP Bj;simp_all;omega)⟩,trivial⟩
 refine ac ?_
 exact Fin.AF () (by simp_all) ⟨⟨_,rfl,bool_eq (by unfold AP Bj;simp_all)⟩,trivial⟩
 refine ac ?_
 refine Tr.cn rfl ?_ ?_<;>intro nZ ng
 refine ac ?_
 refine Ch.cs 135 rfl ?_ ?_<;>intro nh ni
 refine ac ?_
 refine Ch.cs 140 rfl ?_ ?_<;>intro nj nk
 refine ac ?_
 refine Ch.cs 145 rfl ?_ ?_<;>intro nq nr
 refine ac ?_
 exact Fin.AF () (by simp_all) ⟨⟨_,rfl,bool_eq (by unfold AP Bj;simp_all)⟩,trivial⟩
 refine ac ?_
 exact Fin.AF () (by simp_all) ⟨⟨_,rfl,bool_eq (by unfold AP Bj;simp_all)⟩,trivial⟩
 refine ac ?_
 exact Fin.AF () (by simp_all) ⟨⟨_,rfl,bool_eq (by unfold AP Bj;simp_all;omega)⟩,trivial⟩
 refine ac ?_
 exact Fin.AF () (by simp_all) ⟨⟨_,rfl,bool_eq (by unfold AP Bj;simp_all)⟩,trivial⟩
 refine ac ?_
 refine HJ 1 3 4 6 148 rfl ?_
 refine Tr.cn rfl ?_ ?_<;>intro nu nw
 refine ac ?_
 refine Ch.cs 151 rfl ?_ ?_<;>intro nx ny
 refine ac ?_
 refine Ch.cs 154 rfl ?_ ?_<;>intro mF n5
 refine ac ?_
 refine cy mF rfl (Eh (Mx) rfl rfl) ?_
 refine ac ?_
 exact Fin.AF () (by simp_all) ⟨⟨_,rfl,bool_eq (by unfold AP Bj;simp_all)⟩,trivial⟩
 refine ac ?_
 exact Fin.AF () (by simp_all) ⟨⟨_,rfl,bool_eq (by unfold AP Bj;simp_all)⟩,trivial⟩
 refine ac ?_
 exact Fin.AF () (by simp_all) ⟨⟨_,rfl,bool_eq (by unfold AP Bj;simp_all)⟩,trivial⟩
 refine Tr.skip (Fin.block ?_)
 exact Fin.AF () (by simp_all) ⟨⟨_,rfl,bool_eq (by unfold AP Bj;simp_all)⟩,trivial⟩
 refine ac ?_
 refine Tr.cn rfl ?_ ?_<;>intro n7 n8
 refine ac ?_
 refine ac ?_
 · refine int_eq ?_;unfold BB CW DE;simp_all
 refine ac ?_
 refine ac ?_
 refine ac ?_
 · refine int_eq ?_;unfold BB CW DE;simp_all
def FY:List Int→Int
 |[]=>0
 |a::l=>if a=0 then FY l else a
theorem Gq:∀l,Zc l=FY l
 |[]=>rfl
 |a::l=>by
  have ih:(l.find? fun x=>x !=0).getD 0=FY l:=Gq l
  show ((a::l).find? fun x=>x !=0).getD 0=if a=0 then FY l else a
  by_cases h:a=0
  · rw [List.find?_cons_of_neg (by simp [h]),if_pos h];exact ih
  · rw [List.find?_cons_of_pos (by simpa using h),if_neg h];rfl
def D4 (a b:AO):List Int:=[Lib.compareBytes a.host b.host,An a.machine b.machine,An a.day b.day,Lib.compareBytes a.CV b.CV,An a.kind b.kind,An a.BL b.BL,An a.bits b.bits,An a.num b.num,Lib.compareBytes a.text b.text,An a.src b.src,An a.Cm b.Cm]
def DT (a b:AO):Int:=FY (D4 a b)
theorem Vi {a b:List UInt8}  :Be prog 146 [str a,str b] (int (Lib.compareBytes a b)):=by
 refine fo func146 rfl ⟨rfl,rfl⟩ fun M0 w0=> ?_
 · repeat' first|(refine int_eq ?_;have h9:=Il a b;simp_all)|refine co rfl (O5 rfl (vl rfl) (vl rfl)) ?_|refine co rfl (YF rfl (vl rfl) (vl rfl)) ?_|refine ac ?_|(refine Tr.cn rfl ?_ ?_<;>intro h q)
def K0:List Int→List Int→Int
 |a::l,b::m=>if An a b=0 then K0 l m else An a b
 |_,_=>0
theorem PR {a b:List Int} {k:Nat} {x y:Int} (hx:a[k]? =some x) (hy:b[k]? =some y):K0 (a.drop k) (b.drop k)=if An x y=0 then K0 (a.drop (k+1)) (b.drop (k+1)) else An x y:=by
 rw [drop_cons hx,drop_cons hy];rfl
theorem M4 {a b:List Int} (hl:a.length≤b.length):Be prog 147 [ints a,ints b] (int (K0 a b)):=by
 refine fo func147 rfl ⟨rfl,rfl⟩ fun M0 w0=>(Tr.Db 0 rfl fun DD=> ?_)
 refine a2 ?_
 refine Tr.block (Tr.BV [(0,_),(1,_)] (Ow rfl) (fun k:Nat=>[(5,int ((k:Nat):Int))]) (fun k:Nat=>k≤(a).length∧(K0 a b=K0 (a.drop k) (b.drop k))) (fun k:Nat=>(a).length-k) 0 (⟨Nat.zero_le _,rfl⟩) ⟨ke rfl,trivial⟩ ?_)
 rintro k ⟨CN,Ac⟩
 refine an ?_ ?_<;>intro h1 q1
 have Au:k<(a).length:=Af h1
 obtain ⟨x,Ae⟩:=at_ Au
 obtain ⟨y,hy⟩:=at_ (l:=b) (k:=k) (by omega)
 have hst:=PR Ae hy
 · repeat' first|(refine int_eq ?_;rw [Ac,hst];unfold An;(repeat (first|rw [if_pos (by omega)]|rw [if_neg (by omega)])))|(exact Fin.AF (k+1) ⟨⟨Au,(Ac.trans (hst.trans (if_pos (by rw [Cf];omega))))⟩,by omega⟩ ⟨⟨_,rfl,AM k⟩,ke rfl,ke rfl,trivial⟩)|refine co rfl (AB rfl underlying22 B7 (vl rfl) (vl rfl) (by omega) (by exact AZ (by assumption))) ?_|refine ac ?_|(refine Tr.cn rfl ?_ ?_<;>intro h q)
 have Bn:k=(a).length:=by have:=Ag h1;omega
 subst Bn
 refine a3 ?_
 · refine int_eq ?_;rw [Ac,List.drop_length];cases b<;>rfl
theorem K1 {a:Int} {l:List Int} (h:¬a=0):FY (a::l)=a:=if_neg h
theorem CX {a:Int} {l:List Int} (h:a=0):FY (a::l)=FY l:=if_pos h
theorem Vj (a b c d:Int):K0 [a,b] [c,d]=FY [An a c,An b d]:=by
 show (if An a c=0 then (if An b d=0 then 0 else An b d) else An a c)=if An a c=0 then (if An b d=0 then 0 else An b d) else An a c
 rfl
theorem Js:∀(l m:List Int),FY (l++m)=if FY l=0 then FY m else FY l
 |[],m=>by simp [FY]
 |a::l,m=>by
  have ih:=Js l m
  show (if a=0 then FY (l++m) else a)=if (if a=0 then FY l else a)=0 then FY m else (if a=0 then FY l else a)
  by_cases h:a=0
  · simp only [h,if_true];exact ih
  · simp [h]
theorem Gr (a b:AO):DT a b=FY [Lib.compareBytes a.host b.host,FY [An a.machine b.machine,An a.day b.day],Lib.compareBytes a.CV b.CV,FY [An a.kind b.kind,An a.BL b.BL,An a.bits b.bits,An a.num b.num],Lib.compareBytes a.text b.text,FY [An a.src b.src,An a.Cm b.Cm]]:=by
 have h:∀(l:List Int) (m n:List Int),FY (m++(FY l::n))=FY (m++(l++n)):=by
  intro l m n
  rw [Js,Js m,Js l n];rfl
 unfold DT D4
 have e1:=h [An a.machine b.machine,An a.day b.day] [Lib.compareBytes a.host b.host] [Lib.compareBytes a.CV b.CV,FY [An a.kind b.kind,An a.BL b.BL,An a.bits b.bits,An a.num b.num],Lib.compareBytes a.text b.text,FY [An a.src b.src,An a.Cm b.Cm]]
 have e2:=h [An a.kind b.kind,An a.BL b.BL,An a.bits b.bits,An a.num b.num] [Lib.compareBytes a.host b.host,An a.machine b.machine,An a.day b.day,Lib.compareBytes a.CV b.CV] [Lib.compareBytes a.text b.text,FY [An a.src b.src,An a.Cm b.Cm]]
 have e3:=h [An a.src b.src,An a.Cm b.Cm] [Lib.compareBytes a.host b.host,An a.machine b.machine,An a.day b.day,Lib.compareBytes a.CV b.CV,An a.kind b.kind,An a.BL b.BL,An a.bits b.bits,An a.num b.num,Lib.compareBytes a.text b.text] []
 exact (e1.trans (e2.trans e3)).symm
theorem C9 {a b:AO}  :Be prog 96 [agg (BA a),agg (BA b)] (int (DT a b)):=by
 refine fo func96 rfl ⟨rfl,rfl⟩ fun M0 w0=> ?_
 · repeat' first|(refine int_eq ?_;rw [Gr];exact (K1 (by assumption)).symm)|(refine int_eq ?_;rw [Gr];rw [CX (by assumption)];exact (K1 (by assumption)).symm)|(refine int_eq ?_;rw [Gr];rw [CX (by assumption),CX (by assumption)];exact (K1 (by assumption)).symm)|(refine int_eq ?_;rw [Gr];rw [CX (by assumption),CX (by assumption),CX (by assumption)];exact (K1 (by assumption)).symm)|(refine int_eq ?_;rw [Gr];rw [CX (by assumption),CX (by assumption),CX (by assumption),CX (by assumption)];exact (K1 (by assumption)).symm)|(refine int_eq ?_;rw [Gr,CX (by assumption),CX (by assumption),CX (by assumption),CX (by assumption),CX (by assumption)];rw [Vj];unfold FY;split<;>simp_all [FY])|refine co rfl (Ai rfl (M4 (a:=[a.machine,a.day]) (b:=[b.machine,b.day]) (by simp)) ⟨(Kf rfl),(Kf rfl),trivial⟩) ?_|refine co rfl (Ai rfl (M4 (a:=[a.kind,a.BL,a.bits,a.num]) (b:=[b.kind,b.BL,b.bits,b.num]) (by simp)) ⟨(Kf rfl),(Kf rfl),trivial⟩) ?_|refine co rfl (Ai rfl (M4 (a:=[a.src,a.Cm]) (b:=[b.src,b.Cm]) (by simp)) ⟨(Kf rfl),(Kf rfl),trivial⟩) ?_|refine co rfl (F3 (Vi) rfl rfl rfl) ?_|refine ac ?_|(refine Tr.cn rfl ?_ ?_<;>intro h q)
theorem cC {f:AO}  :Be prog 116 [agg (BA f)] (str f.host):=by
 refine fo func116 rfl ⟨rfl,rfl⟩ fun M0 w0=> ?_
 refine a3 ?_
 · exact Lr
theorem cE:Entry Tryz.prog 116:=⟨_,Tryz.func116,rfl,rfl⟩
theorem cF {f:AO}  :Be prog 117 [agg (BA f)] (int f.machine):=by
 refine fo func117 rfl ⟨rfl,rfl⟩ fun M0 w0=> ?_
 refine a3 ?_
 · exact Lr
theorem cH:Entry Tryz.prog 117:=⟨_,Tryz.func117,rfl,rfl⟩
theorem cI {f:AO}  :Be prog 118 [agg (BA f)] (int f.day):=by
 refine fo func118 rfl ⟨rfl,rfl⟩ fun M0 w0=> ?_
 refine a3 ?_
 · exact Lr
theorem cJ:Entry Tryz.prog 118:=⟨_,Tryz.func118,rfl,rfl⟩
theorem cL {f:AO}  :Be prog 119 [agg (BA f)] (str f.CV):=by
 refine fo func119 rfl ⟨rfl,rfl⟩ fun M0 w0=> ?_
 refine a3 ?_
 · exact Lr
theorem cM:Entry Tryz.prog 119:=⟨_,Tryz.func119,rfl,rfl⟩
theorem cN {f:AO}  :Be prog 120 [agg (BA f)] (int f.kind):=by
 refine fo func120 rfl ⟨rfl,rfl⟩ fun M0 w0=> ?_
 refine a3 ?_
 · exact Lr
theorem cO:Entry Tryz.prog 120:=⟨_,Tryz.func120,rfl,rfl⟩
theorem cQ {f:AO}  :Be prog 121 [agg (BA f)] (int f.BL):=by
 refine fo func121 rfl ⟨rfl,rfl⟩ fun M0 w0=> ?_
 refine a3 ?_
 · exact Lr
theorem cR:Entry Tryz.prog 121:=⟨_,Tryz.func121,rfl,rfl⟩
theorem cT {f:AO}  :Be prog 122 [agg (BA f)] (int f.bits):=by
 refine fo func122 rfl ⟨rfl,rfl⟩ fun M0 w0=> ?_
 refine a3 ?_
 · exact Lr
theorem cU:Entry Tryz.prog 122:=⟨_,Tryz.func122,rfl,rfl⟩
theorem YZ {f:AO}  :Be prog 123 [agg (BA f)] (int f.num):=by
 refine fo func123 rfl ⟨rfl,rfl⟩ fun M0 w0=> ?_
 refine a3 ?_
 · exact Lr
theorem Ya:Entry Tryz.prog 123:=⟨_,Tryz.func123,rfl,rfl⟩
theorem Yb {f:AO}  :Be prog 124 [agg (BA f)] (str f.text):=by
 refine fo func124 rfl ⟨rfl,rfl⟩ fun M0 w0=> ?_
 refine a3 ?_
 · exact Lr
theorem Yc:Entry Tryz.prog 124:=⟨_,Tryz.func124,rfl,rfl⟩
theorem Yd {f:AO}  :Be prog 125 [agg (BA f)] (int f.src):=by
 refine fo func125 rfl ⟨rfl,rfl⟩ fun M0 w0=> ?_
 refine a3 ?_
 · exact Lr
theorem Ye:Entry Tryz.prog 125:=⟨_,Tryz.func125,rfl,rfl⟩
theorem Yf {f:AO}  :Be prog 126 [agg (BA f)] (int f.Cm):=by
 refine fo func126 rfl ⟨rfl,rfl⟩ fun M0 w0=> ?_
 refine a3 ?_
 · exact Lr
theorem Yg:Entry Tryz.prog 126:=⟨_,Tryz.func126,rfl,rfl⟩
theorem cV {g:AO→Int} {a b:AO}  :Be prog 112 [ref [GF prog (fun f:AO=>[agg (BA f)]) (fun f=>int (g f))],ref (BA a),ref (BA b)] (int (An (g a) (g b))):=by
 refine fo func112 rfl ⟨rfl,rfl⟩ fun M0 w0=> ?_
 refine a2 ?_
 refine co rfl (A6 a rfl (vl rfl) ⟨ke rfl,trivial⟩) ?_
 refine ac ?_
 refine co rfl (A6 b rfl (vl rfl) ⟨ke rfl,trivial⟩) (co rfl (F3 (Iu) rfl rfl rfl) ?_)
 refine a2 ?_
 · exact Lr
theorem cW:Entry Tryz.prog 112:=⟨_,Tryz.func112,rfl,rfl⟩
theorem cX {g:AO→List UInt8} {a b:AO}  :Be prog 114 [ref [GF prog (fun f:AO=>[agg (BA f)]) (fun f=>str (g f))],ref (BA a),ref (BA b)] (int (Lib.compareBytes (g a) (g b))):=by
 refine fo func114 rfl ⟨rfl,rfl⟩ fun M0 w0=> ?_
 refine a2 ?_
 refine co rfl (A6 a rfl (vl rfl) ⟨ke rfl,trivial⟩) ?_
 refine ac ?_
 refine co rfl (A6 b rfl (vl rfl) ⟨ke rfl,trivial⟩) (co rfl (F3 (YQ) rfl rfl rfl) ?_)
 refine a2 ?_
 · exact Lr
theorem cY:Entry Tryz.prog 114:=⟨_,Tryz.func114,rfl,rfl⟩
theorem iK {g:AO→Int} {a b:AO}  :Be prog 111 [GF prog (fun f:AO=>[agg (BA f)]) (fun f=>int (g f)),ref (BA a),ref (BA b)] (GF prog (fun _:Unit=>[]) (fun _=>int (An (g a) (g b)))):=by
 refine fo func111 rfl ⟨rfl,rfl⟩ fun M0 w0=> ?_
 refine a3 ?_
 · exact BW cW (fun _=>cV)
theorem iL:Entry Tryz.prog 111:=⟨_,Tryz.func111,rfl,rfl⟩
theorem iM {g:AO→List UInt8} {a b:AO}  :Be prog 113 [GF prog (fun f:AO=>[agg (BA f)]) (fun f=>str (g f)),ref (BA a),ref (BA b)] (GF prog (fun _:Unit=>[]) (fun _=>int (Lib.compareBytes (g a) (g b)))):=by
 refine fo func113 rfl ⟨rfl,rfl⟩ fun M0 w0=> ?_
 refine a3 ?_
 · exact BW cY (fun _=>cX)
theorem iN:Entry Tryz.prog 113:=⟨_,Tryz.func113,rfl,rfl⟩
theorem TS {a b:AO} {k:Nat} {x:Int} (hx:(D4 a b)[k]? =some x) (h0:¬x=0) (h:∀j y,j<k→(D4 a b)[j]? =some y→(y !=0)=false):x=DT a b:=by
 have:=Qk hx h0 h;rw [Gq] at this;exact this
theorem Rh {a b:AO} (h:∀j y,j<(D4 a b).length→(D4 a b)[j]? =some y→(y !=0)=false):0=DT a b:=by
 have:=N0 h;rw [Gq] at this;exact this
theorem TT {a b:AO}  :Be prog 70 [agg (BA a),agg (BA b)] (int (DT a b)):=by
 refine fo func70 rfl ⟨rfl,rfl⟩ fun M0 w0=> ?_
 refine a3 ?_
 refine Tr.seq (Tr.seq (Tr.re 5 rfl (BW (dom:=fun g:AO→Int=>[GF prog (fun f:AO=>[agg (BA f)]) (fun f=>int (g f))]) (res:=fun g=>GF prog (fun _:Unit=>[]) (fun _=>int (An (g a) (g b)))) iL (fun g=>iK (g:=g) (a:=a) (b:=b))) (Tr.re 6 rfl (BW (dom:=fun g:AO→List UInt8=>[GF prog (fun f:AO=>[agg (BA f)]) (fun f=>str (g f))]) (res:=fun g=>GF prog (fun _:Unit=>[]) (fun _=>int (Lib.compareBytes (g a) (g b)))) iN (fun g=>iM (g:=g) (a:=a) (b:=b))) ?_)))
 refine ac ?_
 refine co rfl (A6 (fun f:AO=>f.host) rfl (vl rfl) ⟨⟨_,rfl,BW (dom:=fun f:AO=>[agg (BA f)]) (res:=fun f=>str f.host) cE (fun f=>cC (f:=f))⟩,trivial⟩) (cm rfl (co rfl (A6 (fun f:AO=>f.machine) rfl (vl rfl) ⟨⟨_,rfl,BW (dom:=fun f:AO=>[agg (BA f)]) (res:=fun f=>int f.machine) cH (fun f=>cF (f:=f))⟩,trivial⟩) (cm rfl (co rfl (A6 (fun f:AO=>f.day) rfl (vl rfl) ⟨⟨_,rfl,BW (dom:=fun f:AO=>[agg (BA f)]) (res:=fun f=>int f.day) cJ (fun f=>cI (f:=f))⟩,trivial⟩) (cm rfl (co rfl (A6 (fun f:AO=>f.CV) rfl (vl rfl) ⟨⟨_,rfl,BW (dom:=fun f:AO=>[agg (BA f)]) (res:=fun f=>str f.CV) cM (fun f=>cL (f:=f))⟩,trivial⟩) (cm rfl (co rfl (A6 (fun f:AO=>f.kind) rfl (vl rfl) ⟨⟨_,rfl,BW (dom:=fun f:AO=>[agg (BA f)]) (res:=fun f=>int f.kind) cO (fun f=>cN (f:=f))⟩,trivial⟩) (cm rfl (co rfl (A6 (fun f:AO=>f.BL) rfl (vl rfl) ⟨⟨_,rfl,BW (dom:=fun f:AO=>[agg (BA f)]) (res:=fun f=>int f.BL) cR (fun f=>cQ (f:=f))⟩,trivial⟩) (cm rfl (co rfl (A6 (fun f:AO=>f.bits) rfl (vl rfl) ⟨⟨_,rfl,BW (dom:=fun f:AO=>[agg (BA f)]) (res:=fun f=>int f.bits) cU (fun f=>cT (f:=f))⟩,trivial⟩) (cm rfl ?_)))))))))))))
 refine co rfl (A6 (fun f:AO=>f.num) rfl (vl rfl) ⟨⟨_,rfl,BW (dom:=fun f:AO=>[agg (BA f)]) (res:=fun f=>int f.num) Ya (fun f=>YZ (f:=f))⟩,trivial⟩) (cm rfl (co rfl (A6 (fun f:AO=>f.text) rfl (vl rfl) ⟨⟨_,rfl,BW (dom:=fun f:AO=>[agg (BA f)]) (res:=fun f=>str f.text) Yc (fun f=>Yb (f:=f))⟩,trivial⟩) (cm rfl (co rfl (A6 (fun f:AO=>f.src) rfl (vl rfl) ⟨⟨_,rfl,BW (dom:=fun f:AO=>[agg (BA f)]) (res:=fun f=>int f.src) Ye (fun f=>Yd (f:=f))⟩,trivial⟩) (cm rfl (co rfl (A6 (fun f:AO=>f.Cm) rfl (vl rfl) ⟨⟨_,rfl,BW (dom:=fun f:AO=>[agg (BA f)]) (res:=fun f=>int f.Cm) Yg (fun f=>Yf (f:=f))⟩,trivial⟩) (co rfl (AH (xs:=[.tmp 13,.tmp 15,.tmp 17,.tmp 19,.tmp 21,.tmp 23,.tmp 25,.tmp 27,.tmp 29,.tmp 31,.tmp 33]) (rows:=[[_],[_],[_],[_],[_],[_],[_],[_],[_],[_],[_]]) rfl rfl underlying149 W8 fc rfl (by decide) ⟨⟨(by exact rfl),(Vo rfl)⟩,⟨⟨(by exact rfl),(Vo rfl)⟩,⟨⟨(by exact rfl),(Vo rfl)⟩,⟨⟨(by exact rfl),(Vo rfl)⟩,⟨⟨(by exact rfl),(Vo rfl)⟩,⟨⟨(by exact rfl),(Vo rfl)⟩,⟨⟨(by exact rfl),(Vo rfl)⟩,⟨⟨(by exact rfl),(Vo rfl)⟩,⟨⟨(by exact rfl),(Vo rfl)⟩,⟨⟨(by exact rfl),(Vo rfl)⟩,⟨⟨(by exact rfl),(Vo rfl)⟩,trivial⟩⟩⟩⟩⟩⟩⟩⟩⟩⟩⟩ (by decide)) ?_)))))))
 refine co rfl (E2 rfl underlying149 (Kf rfl)) ?_
 refine ac ?_
 refine Ur 34 35 36 rfl (Tr.block (Tr.re 34 rfl (Pr.le_trans (BO _ _) (Pr.le_of_eq (show _=slice 1 ((D4 a b).map fun k=>[GF prog (fun _:Unit=>[]) (fun _=>int (k))]) from rfl))) (Tr.re 35 rfl (int_eq (b:=(((D4 a b).length:Nat):Int)) rfl) ?_)))
 refine Tr.BV [(34,_),(35,_)] (Ow rfl) (fun k:Nat=>[(36,int ((k:Nat):Int))]) (fun k:Nat=>k≤(D4 a b).length∧(∀j y,j<k→(D4 a b)[j]? =some y→(y !=0)=false)) (fun k:Nat=>(D4 a b).length-k) 0 (⟨Nat.zero_le _,fun j y hj=>absurd hj (by omega)⟩) ⟨ke rfl,trivial⟩ ?_
 rintro k ⟨CN,Ac⟩
 refine ac ?_
 refine Tr.seq ?_
 refine Tr.cn rfl ?_ ?_<;>intro h1 q1
 have Au:k<(D4 a b).length:=Af h1
 obtain ⟨x,Ae⟩:=at_ Au
 have hL:k<11:=Au
 refine ac ?_
 refine Tr.seq (Tr.block (Tr.seq (Tr.A0 (co rfl (AB rfl underlying149 W8 (vl rfl) (vl rfl) (by omega) (AZ (f:=fun k=>[GF prog (fun _:Unit=>[]) (fun _=>int (k))]) Ae)) ?_))))
 · repeat' first|exact int_eq (TS Ae (by assumption) Ac)|exact Fin.AF (k+1) ⟨⟨Au,Fl (p:=fun y=>y !=0) Ae (by simpa using by assumption) Ac⟩,by omega⟩ ⟨⟨_,rfl,AM k⟩,ke rfl,ke rfl,trivial⟩|refine co rfl (A6 () rfl (vl rfl) trivial) ?_|refine ac ?_|(refine Tr.cn rfl ?_ ?_<;>intro h q)
 have Bn:k=(D4 a b).length:=by have:=Ag h1;omega
 subst Bn
 refine a3 ?_
 · exact int_eq (Rh Ac)
def Jc (l:List AO):Prop:=∀(j:Nat) a b,l[j]? =some a→l[j+1]? =some b→DT a b<0
structure B_ (l:List AO):Prop where
 check:∀f∈l,BB f=true
 iO:Jc l
 len:l.length≤400
abbrev N6 (l:List AO) (k:Nat):Prop:=∀(j:Nat) a b,j+1<k→l[j]? =some a→l[j+1]? =some b→DT a b<0
theorem H9 {l:List AO} {k:Nat} {x:AO} (hx:l[k]? =some x) (hp:∀y,0<k→l[k-1]? =some y→DT y x<0) (h:N6 l k):N6 l (k+1):=by
 intro j a b hj ha hb
 by_cases hjk:j+1=k
 ·
  subst hjk
  rw [hx] at hb;cases hb
  exact hp a (by omega) (by simpa using ha)
 · exact h j a b (by omega) ha hb
abbrev TW (l:List AO) (k:Nat):Prop:=∀(j:Nat) y,j<k→l[j]? =some y→BB y=true
theorem Jt {l:List AO} {k:Nat} {x:AO} (hx:l[k]? =some x) (hp:BB x=true) (h:TW l k):TW l (k+1):=by
 intro j y hj hy
 by_cases hjk:j=k
 · subst hjk;rw [hx] at hy;cases hy;exact hp
 · exact h j y (by omega) hy
theorem TX {l:List AO} (h:TW l l.length):∀f∈l,BB f=true:=by
 intro f hf
 obtain ⟨j,hj⟩:=List.mem_iff_getElem?.1 hf
 exact h j f (by rcases Nat.lt_or_ge j l.length with h'|h';exact h';rw [List.getElem?_eq_none h'] at hj;cases hj) hj
theorem Qn {l:List AO} (h:N6 l l.length):Jc l:=fun j a b ha hb=>h j a b (by rcases Nat.lt_or_ge (j+1) l.length with h'|h';exact h';rw [List.getElem?_eq_none h'] at hb;cases hb) ha hb
theorem TY {f:AO} (h:¬(if BB f=true then (0:Int) else 24)=0):BB f=false:=by
 cases hc:BB f with
 |false=>rfl
 |true=>rw [if_pos hc] at h;exact absurd rfl h
theorem Ri {f:AO} (h:(if BB f=true then (0:Int) else 24)=0):BB f=true:=by
 cases hc:BB f with
 |true=>rfl
 |false=>rw [hc] at h;cases h
theorem H_ {l:List AO} {f:AO→List Pr} {k:Nat} {x:AO} (h0:0<k) (h:l[k-1]? =some x):(l.map f)[(((k:Nat):Int)-1).toNat]? =some (f x):=by
 rw [show (((k:Nat):Int)-1).toNat=k-1 by omega,List.getElem?_map,h];rfl
theorem Ly {l:List AO} (hf:∀f∈l,f.fits) [Decidable (B_ l)]:Be prog 55 [BC l] (bool (decide (B_ l))):=by
 refine fo func55 rfl ⟨rfl,rfl⟩ fun M0 w0=>(Tr.Db 0 rfl fun DD=> ?_)
 refine a2 ?_
 refine Tr.block (Tr.BV [(0,_),(5,_),(6,_)] (RI rfl) (fun k:Nat=>[(7,int ((k:Nat):Int))]) (fun k:Nat=>k≤(l).length∧(TW l k∧N6 l k)) (fun k:Nat=>(l).length-k) 0 (⟨Nat.zero_le _,⟨fun j y hj=>absurd hj (by omega),fun j a b hj=>absurd hj (by omega)⟩⟩) ⟨ke rfl,trivial⟩ ?_)
 rintro k ⟨CN,Ac⟩
 refine ac ?_
 refine Tr.seq ?_
 refine Tr.cn rfl ?_ ?_<;>intro h1 q1
 have Au:k<(l).length:=Af h1
 obtain ⟨x,Ae⟩:=at_ Au
 refine ac ?_
 refine ao ?_
 refine tp rfl (AB rfl underlying31 AY (vl rfl) (vl rfl) (by omega) (by exact AZ (by assumption))) ?_
 refine tp rfl (Ap rfl BI AY (vl rfl) rfl rfl) ?_
 refine Tl rfl rfl rfl rfl Di Hq (fun b1=> ?_)
 refine tm rfl ?_
 refine sf 0 4 ⟨rfl,rfl,rfl⟩ rfl rfl rfl rfl ?_
 refine ao ?_
 refine ac ?_
 refine co rfl (Eh (N5 (hf x (List.mem_of_getElem? Ae))) rfl rfl) ?_
 refine ag ?_ ?_<;>intro h2 q2
 have hc:=TY q2
 refine ac ?_
 refine HJ 0 5 6 7 28 rfl ?_
 refine a2 ?_
 · refine bool_eq ?_;symm;rw [decide_eq_false_iff_not];intro hn;have:=hn.check x (List.mem_of_getElem? Ae);rw [hc] at this;cases this
 have hc:=Ri q2
 refine ag ?_ ?_<;>intro h3 q3
 obtain ⟨p,hp⟩:=at_ (l:=l) (k:=k-1) (by omega)
 · repeat' first|(refine bool_eq ?_;symm;rw [decide_eq_false_iff_not];intro hn;have:=hn.iO (k-1) p x hp (by rw [show k-1+1=k by omega];exact Ae);omega)|(exact Fin.AF (k+1) ⟨⟨Au,⟨Jt Ae hc Ac.1,H9 Ae (by intro y h0 hy;rw [hp] at hy;cases hy;omega) Ac.2⟩⟩,by omega⟩ ⟨⟨_,rfl,AM k⟩,ke rfl,ke rfl,ke rfl,trivial⟩)|refine cy h3 rfl (AB rfl underlying31 AY (vl rfl) (vl rfl) (by omega) (H_ (by omega) hp)) ?_|refine cy h3 rfl (F3 (TT) rfl rfl rfl) ?_|refine ac ?_|(refine Tr.cn rfl ?_ ?_<;>intro h q)
 refine ac ?_
 refine HJ 0 5 6 7 28 rfl ?_
 refine a2 ?_
 exact Fin.AF (k+1) ⟨⟨Au,⟨Jt Ae hc Ac.1,H9 Ae (by intro y h0 hy;omega) Ac.2⟩⟩,by omega⟩ ⟨⟨_,rfl,AM k⟩,ke rfl,ke rfl,ke rfl,trivial⟩
 have Bn:k=(l).length:=by have:=Ag h1;omega
 subst Bn
 refine a3 ?_
 · refine bool_eq ?_;rw [decide_eq_decide];exact ⟨fun hl=>⟨TX Ac.1,Qn Ac.2,by omega⟩,fun hn=>by have:=hn.len;omega⟩
def kF (l:List AO) (f:AO):Nat:=(l.reverse.dropWhile fun x=>decide (0<DT x f)).length
def Ci (l:List AO) (f:AO):List AO:=if 0<kF l f∧((l[kF l f-1]?).map fun x=>DT x f)=some 0 then l else l.take (kF l f)++[f]++l.drop (kF l f)
theorem HE {β:Type} {p:β→Bool}:∀{l m:List β},(∀x∈l,p x=true)→(l++m).dropWhile p=m.dropWhile p
 |[],_,_=>rfl
 |a::l,m,h=>by
  rw [List.cons_append,List.dropWhile_cons_of_pos (h a (by simp))]
  exact HE fun x hx=>h x (List.mem_cons_of_mem _ hx)
theorem Lz {l:List AO} {f:AO} {k:Nat} (hk:k≤l.length) (hgt:∀(j:Nat) y,k≤j→l[j]? =some y→0<DT y f) (hle:k=0∨∃x,l[k-1]? =some x∧¬0<DT x f):kF l f=k:=by
 unfold kF
 have h1:l.reverse=(l.drop k).reverse++(l.take k).reverse:=by rw [←List.reverse_append,List.take_append_drop]
 rw [h1,HE (by
  intro x hx
  rw [List.mem_reverse] at hx
  obtain ⟨j,hj⟩:=List.mem_iff_getElem?.1 hx
  rw [List.getElem?_drop] at hj
  simpa using hgt _ x (by omega) hj)]
 rcases hle with h0|⟨x,hx,hn⟩
 · subst h0;simp
 ·
  have iP:0<k:=by
   rcases Nat.eq_zero_or_pos k with h|h
   ·
    subst h
    rw [show (0:Nat)-1=0 from rfl] at hx
    exact absurd (hgt 0 x (Nat.le_refl _) hx) hn
   · exact h
  have h2:l.take k=l.take (k-1)++[x]:=by
   have:=List.take_add_one (l:=l) (i:=k-1)
   rw [show k-1+1=k by omega,hx] at this
   simpa using this
  rw [h2,List.reverse_append]
  show (List.dropWhile _ (x::(l.take (k-1)).reverse)).length=k
  rw [List.dropWhile_cons_of_neg (by simpa using hn)]
  simp;omega
theorem L1 {l:List AO} {f x:AO} {k:Nat} (h:kF l f=k) (h0:0<k) (hx:l[k-1]? =some x) (he:DT x f=0):Ci l f=l:=by
 unfold Ci;rw [h,if_pos ⟨h0,by rw [hx];simp [he]⟩]
theorem IA {l:List AO} {f:AO} {k:Nat} (h:kF l f=k) (hn:k=0∨∃x,l[k-1]? =some x∧¬DT x f=0):Ci l f=l.take k++[f]++l.drop k:=by
 unfold Ci;rw [h,if_neg]
 rintro ⟨h1,h2⟩
 rcases hn with h3|⟨x,hx,hne⟩
 · omega
 · rw [hx] at h2;simp at h2;exact hne h2
theorem cZ {l:List AO} {f:AO} (hl:l.length≤1000):Be prog 88 [BC l,agg (BA f)] (BC (Ci l f)):=by
 refine Be.of func88 rfl rfl (by exact Nb rfl) fun M0 w0=> ?_
 refine Tr.seq (Tr.A0 (co rfl (KA rfl (Va rfl)) (cm rfl (Ch.nil (Fin.go (Tr.seq (Tr.A0 (cm rfl (co rfl (Co rfl underlying31 (vl rfl)) (cm rfl (Ch.nil (Fin.go (Tr.seq (Tr.block ?_))))))))))))))
 refine Tr.BV [(0,_),(3,_)] (Ow rfl) (fun k:Nat=>[(5,int ((k:Nat):Int))]) (fun k:Nat=>k≤l.length∧∀(j:Nat) y,k≤j→l[j]? =some y→0<DT y f) (fun k:Nat=>k) l.length (⟨Nat.le_refl _,fun j y h1 h2=>by rw [List.getElem?_eq_none h1] at h2;cases h2⟩) ⟨ke rfl,trivial⟩ ?_
 rintro k ⟨hk,hgt⟩
 refine Tr.seq (Tr.seq (Tr.J8 mixed (by kernel_rfl) (cm rfl (co rfl (ki rfl rfl rfl rfl) (cm rfl ?_)))))
 refine Ch.cs 10 rfl ?_ ?_<;>intro h1 q1
 obtain ⟨x,hx⟩:=at_ (l:=l) (k:=k-1) (by omega)
 refine Dh h1 rfl (Dh h1 rfl ?_)
 refine cy h1 rfl (GG rfl (vl rfl) (vl rfl) ?hin) ?_;case hin=>unfold Em;omega
 refine cy h1 rfl (AB rfl underlying31 AY (vl rfl) (vl rfl) (by omega) (H_ (by omega) hx)) (cy h1 rfl (Ap rfl BI AY (vl rfl) rfl rfl) (cy h1 rfl (Ap rfl BI AY (vl rfl) rfl rfl) (cy h1 rfl (Ai rfl (C9) ⟨ke rfl,ke rfl,trivial⟩) (cy h1 rfl (ki rfl rfl rfl rfl) (co rfl (NM rfl rfl h1 rfl) (Ch.nil (Fin.go (FB 0 3 5 19 rfl ?_))))))))
 refine Tr.cn rfl ?_ ?_<;>intro h2 q2
 have:=h2
 refine Tr.skip (Fin.go (Tr.block (Tr.A0 (cm rfl (fP rfl rfl rfl rfl (by omega) (cm rfl (Ch.nil (Fin.block ?_))))))))
 exact Fin.AF (k-1) ⟨⟨by omega,fun j y h1 h2=>by rcases Nat.eq_or_lt_of_le h1 with h3|h3;(subst h3;rw [hx] at h2;cases h2;omega);exact hgt j y (by omega) h2⟩,by omega⟩ ⟨⟨_,rfl,int_eq (by omega)⟩,ke rfl,ke rfl,trivial⟩
 have:=h2
 refine Tr.exit (Fin.AK (Fin.AK (Fin.Aa (Fin.go (Tr.seq (Tr.seq (Tr.J8 mixed (by kernel_rfl) (cm rfl (co rfl (ki rfl rfl rfl rfl) (cm rfl ?_))))))))))
 refine Ch.cs 24 rfl ?_ ?_<;>intro h3 q3
 obtain ⟨x2,hx2⟩:=at_ (l:=l) (k:=k-1) (by omega)
 refine Dh h3 rfl (Dh h3 rfl ?_)
 refine cy h3 rfl (GG rfl (vl rfl) (vl rfl) ?hin) ?_;case hin=>unfold Em;omega
 refine cy h3 rfl (AB rfl underlying31 AY (vl rfl) (vl rfl) (by omega) (H_ (by omega) hx2)) (cy h3 rfl (Ap rfl BI AY (vl rfl) rfl rfl) (cy h3 rfl (Ap rfl BI AY (vl rfl) rfl rfl) (cy h3 rfl (Ai rfl (C9) ⟨ke rfl,ke rfl,trivial⟩) (cy h3 rfl (ki rfl rfl rfl rfl) (co rfl (NM rfl rfl h3 rfl) (Ch.nil (Fin.go (FB 0 3 5 33 rfl ?_))))))))
 refine Tr.cn rfl ?_ ?_<;>intro h4 q4
 refine Tr.seq (Tr.A0 (cm rfl (cm rfl (Ch.nil (Fin.go (Tr.ret (Fin.AJ (Fin.EI rfl (Bq.D3 _ _) rfl ?_))))))))
 · rw [L1 (Lz hk hgt (.inr ⟨x,hx,by omega⟩)) (by omega) hx2 (by assumption)];exact Lr
 refine Tr.skip (Fin.go (Tr.seq (Tr.pad (Tr.EL mixed [none,none,none,none,some (0,0,true,39),none,none,some (39,0,true,42),none,none,none,some (42,0,true,46),some (46,0,true,4)] (by kernel_rfl) (xo rfl (fun _=>AH (xs:=[]) (rows:=[]) rfl rfl underlying31 AY Di rfl (by decide) trivial (by decide)) (xm rfl (xm rfl ?_)))))))
 refine xo rfl (fun _=>BM rfl underlying31 AY (vl rfl) (vl rfl) (by omega) (by simp;omega)) ?_
 refine Cx.ef 0 rfl rfl (by decide) (Ah rfl rfl (by decide) rfl underlying31 AY Dz Di rfl (by decide) (Kf rfl) (vl rfl) (by simp;unfold maxLen;omega) (by simp;omega) (CB (by exact List.Mem.head _) (vl rfl))) ?_
 refine xo rfl (fun _=>Ap rfl BI AY (vl rfl) rfl rfl) (xo rfl (fun _=>AH (xs:=[.tmp 40]) (rows:=[_]) rfl rfl underlying31 AY Di rfl (by decide) ⟨⟨(by exact rfl),(Va rfl)⟩,trivial⟩ (by decide)) ?_)
 refine Cx.ef 0 rfl rfl (by decide) (Ah rfl rfl (by decide) rfl underlying31 AY Dz Di rfl (by decide) (vl rfl) (Kf rfl) (by simp;unfold maxLen;omega) (by simp;omega) BF) ?_
 refine xm rfl (xm rfl ?_)
 refine xo rfl (fun _=>At rfl underlying31 AY (vl rfl) (vl rfl) (by omega) (by simp;omega)) ?_
 refine Cx.ef 0 rfl rfl (by decide) (Ah rfl rfl (by decide) rfl underlying31 AY Dz Di rfl (by decide) (vl rfl) (vl rfl) (by simp;unfold maxLen;omega) (by simp;omega) BF) ?_
 refine Cx.ef 0 rfl rfl (by decide) (B6 rfl rfl (by decide) rfl (vl rfl)) ?_
 refine Cx.nil ⟨rfl,?_⟩
 refine BJ.open_ 0 4 rfl rfl (fun v1=> ?_)
 refine BJ.done (BS.cons (BS.map _)) (Fin.go (Cg 4 rfl (Tr.ret (Fin.EI rfl (Bq.D3 _ _) rfl ?_))))
 · rw [IA (Lz hk hgt (.inr ⟨x,hx,by omega⟩)) (.inr ⟨x2,hx2,by assumption⟩)];exact Pr.le_trans (BP _ _) (Pr.le_of_eq (by show slice 11 _=slice 11 _;rw [Int.toNat_natCast,List.map_append,List.map_append,List.map_take,List.map_drop,List.nil_append];rfl))
 iterate 8 refine cnt h3 rfl ?_
 refine co rfl (KP rfl rfl h3 rfl) (Ch.nil (Fin.go (FB 0 3 5 33 rfl (Tr.cond rfl (fun h=>nomatch h) (fun _=> ?_)))))
 refine Tr.skip (Fin.go (Tr.seq (Tr.pad (Tr.EL mixed [none,none,none,none,some (0,0,true,39),none,none,some (39,0,true,42),none,none,none,some (42,0,true,46),some (46,0,true,4)] (by kernel_rfl) (xo rfl (fun _=>AH (xs:=[]) (rows:=[]) rfl rfl underlying31 AY Di rfl (by decide) trivial (by decide)) (xm rfl (xm rfl (xo rfl (fun _=>BM rfl underlying31 AY (vl rfl) (vl rfl) (by omega) (by omega)) ?_))))))))
 refine Cx.ef 0 rfl rfl (by decide) (Ah rfl rfl (by decide) rfl underlying31 AY Dz Di rfl (by decide) (Kf rfl) (vl rfl) (by simp;unfold maxLen;omega) (by simp;omega) (CB (by exact List.Mem.head _) (vl rfl))) ?_
 refine xo rfl (fun _=>Ap rfl BI AY (vl rfl) rfl rfl) (xo rfl (fun _=>AH (xs:=[.tmp 40]) (rows:=[_]) rfl rfl underlying31 AY Di rfl (by decide) ⟨⟨(by exact rfl),(Va rfl)⟩,trivial⟩ (by decide)) ?_)
 refine Cx.ef 0 rfl rfl (by decide) (Ah rfl rfl (by decide) rfl underlying31 AY Dz Di rfl (by decide) (vl rfl) (Kf rfl) (by simp;unfold maxLen;omega) (by simp;omega) BF) ?_
 refine xm rfl (xm rfl (xo rfl (fun _=>At rfl underlying31 AY (vl rfl) (vl rfl) (by omega) (by omega)) ?_))
 refine Cx.ef 0 rfl rfl (by decide) (Ah rfl rfl (by decide) rfl underlying31 AY Dz Di rfl (by decide) (vl rfl) (vl rfl) (by simp;unfold maxLen;omega) (by simp;omega) BF) ?_
 refine Cx.ef 0 rfl rfl (by decide) (B6 rfl rfl (by decide) rfl (vl rfl)) ?_
 refine Cx.nil ⟨rfl,?_⟩
 refine BJ.open_ 0 4 rfl rfl (fun v2=> ?_)
 refine BJ.done (BS.cons (BS.map _)) (Fin.go (Cg 4 rfl (Tr.ret (Fin.EI rfl (Bq.D3 _ _) rfl ?_))))
 · exfalso;omega
 iterate 8 refine cnt h1 rfl ?_
 refine co rfl (KP rfl rfl h1 rfl) (Ch.nil (Fin.go (FB 0 3 5 19 rfl (Tr.cond rfl (fun h=>nomatch h) (fun _=> ?_)))))
 refine Tr.exit (Fin.AK (Fin.AK (Fin.Aa (Fin.go (Tr.seq (Tr.seq (Tr.J8 mixed (by kernel_rfl) (cm rfl (co rfl (ki rfl rfl rfl rfl) (cm rfl ?_))))))))))
 refine Ch.cs 24 rfl ?_ ?_<;>intro h5 q5
 obtain ⟨x2,hx2⟩:=at_ (l:=l) (k:=k-1) (by omega)
 refine Dh h5 rfl (Dh h5 rfl ?_)
 refine cy h5 rfl (GG rfl (vl rfl) (vl rfl) ?hin) ?_;case hin=>unfold Em;omega
 refine cy h5 rfl (AB rfl underlying31 AY (vl rfl) (vl rfl) (by omega) (H_ (by omega) hx2)) (cy h5 rfl (Ap rfl BI AY (vl rfl) rfl rfl) (cy h5 rfl (Ap rfl BI AY (vl rfl) rfl rfl) (cy h5 rfl (Ai rfl (C9) ⟨ke rfl,ke rfl,trivial⟩) (cy h5 rfl (ki rfl rfl rfl rfl) (co rfl (NM rfl rfl h5 rfl) (Ch.nil (Fin.go (FB 0 3 5 33 rfl ?_))))))))
 refine Tr.cn rfl ?_ ?_<;>intro h6 q6
 refine Tr.seq (Tr.A0 (cm rfl (cm rfl (Ch.nil (Fin.go (Tr.ret (Fin.AJ (Fin.EI rfl (Bq.D3 _ _) rfl ?_))))))))
 · exfalso;omega
 refine Tr.skip (Fin.go (Tr.seq (Tr.pad (Tr.EL mixed [none,none,none,none,some (0,0,true,39),none,none,some (39,0,true,42),none,none,none,some (42,0,true,46),some (46,0,true,4)] (by kernel_rfl) (xo rfl (fun _=>AH (xs:=[]) (rows:=[]) rfl rfl underlying31 AY Di rfl (by decide) trivial (by decide)) (xm rfl (xm rfl (xo rfl (fun _=>BM rfl underlying31 AY (vl rfl) (vl rfl) (by omega) (by omega)) ?_))))))))
 refine Cx.ef 0 rfl rfl (by decide) (Ah rfl rfl (by decide) rfl underlying31 AY Dz Di rfl (by decide) (Kf rfl) (vl rfl) (by simp;unfold maxLen;omega) (by simp;omega) (CB (by exact List.Mem.head _) (vl rfl))) ?_
 refine xo rfl (fun _=>Ap rfl BI AY (vl rfl) rfl rfl) (xo rfl (fun _=>AH (xs:=[.tmp 40]) (rows:=[_]) rfl rfl underlying31 AY Di rfl (by decide) ⟨⟨(by exact rfl),(Va rfl)⟩,trivial⟩ (by decide)) ?_)
 refine Cx.ef 0 rfl rfl (by decide) (Ah rfl rfl (by decide) rfl underlying31 AY Dz Di rfl (by decide) (vl rfl) (Kf rfl) (by simp;unfold maxLen;omega) (by simp;omega) BF) ?_
 refine xm rfl (xm rfl (xo rfl (fun _=>At rfl underlying31 AY (vl rfl) (vl rfl) (by omega) (by omega)) ?_))
 refine Cx.ef 0 rfl rfl (by decide) (Ah rfl rfl (by decide) rfl underlying31 AY Dz Di rfl (by decide) (vl rfl) (vl rfl) (by simp;unfold maxLen;omega) (by simp;omega) BF) ?_
 refine Cx.ef 0 rfl rfl (by decide) (B6 rfl rfl (by decide) rfl (vl rfl)) ?_
 refine Cx.nil ⟨rfl,?_⟩
 refine BJ.open_ 0 4 rfl rfl (fun v3=> ?_)
 refine BJ.done (BS.cons (BS.map _)) (Fin.go (Cg 4 rfl (Tr.ret (Fin.EI rfl (Bq.D3 _ _) rfl ?_))))
 · exfalso;omega
 iterate 8 refine cnt h5 rfl ?_
 refine co rfl (KP rfl rfl h5 rfl) (Ch.nil (Fin.go (FB 0 3 5 33 rfl (Tr.cond rfl (fun h=>nomatch h) (fun _=> ?_)))))
 refine Tr.skip (Fin.go (Tr.seq (Tr.pad (Tr.EL mixed [none,none,none,none,some (0,0,true,39),none,none,some (39,0,true,42),none,none,none,some (42,0,true,46),some (46,0,true,4)] (by kernel_rfl) (xo rfl (fun _=>AH (xs:=[]) (rows:=[]) rfl rfl underlying31 AY Di rfl (by decide) trivial (by decide)) (xm rfl (xm rfl (xo rfl (fun _=>BM rfl underlying31 AY (vl rfl) (vl rfl) (by omega) (by omega)) ?_))))))))
 refine Cx.ef 0 rfl rfl (by decide) (Ah rfl rfl (by decide) rfl underlying31 AY Dz Di rfl (by decide) (Kf rfl) (vl rfl) (by simp;unfold maxLen;omega) (by simp;omega) (CB (by exact List.Mem.head _) (vl rfl))) ?_
 refine xo rfl (fun _=>Ap rfl BI AY (vl rfl) rfl rfl) (xo rfl (fun _=>AH (xs:=[.tmp 40]) (rows:=[_]) rfl rfl underlying31 AY Di rfl (by decide) ⟨⟨(by exact rfl),(Va rfl)⟩,trivial⟩ (by decide)) ?_)
 refine Cx.ef 0 rfl rfl (by decide) (Ah rfl rfl (by decide) rfl underlying31 AY Dz Di rfl (by decide) (vl rfl) (Kf rfl) (by simp;unfold maxLen;omega) (by simp;omega) BF) ?_
 refine xm rfl (xm rfl (xo rfl (fun _=>At rfl underlying31 AY (vl rfl) (vl rfl) (by omega) (by omega)) ?_))
 refine Cx.ef 0 rfl rfl (by decide) (Ah rfl rfl (by decide) rfl underlying31 AY Dz Di rfl (by decide) (vl rfl) (vl rfl) (by simp;unfold maxLen;omega) (by simp;omega) BF) ?_
 refine Cx.ef 0 rfl rfl (by decide) (B6 rfl rfl (by decide) rfl (vl rfl)) ?_
 refine Cx.nil ⟨rfl,?_⟩
 refine BJ.open_ 0 4 rfl rfl (fun v4=> ?_)
 refine BJ.done (BS.cons (BS.map _)) (Fin.go (Cg 4 rfl (Tr.ret (Fin.EI rfl (Bq.D3 _ _) rfl ?_))))
 · rw [IA (Lz hk hgt (.inl (by omega))) (.inl (by omega))];exact Pr.le_trans (BP _ _) (Pr.le_of_eq (by show slice 11 _=slice 11 _;rw [Int.toNat_natCast,List.map_append,List.map_append,List.map_take,List.map_drop,List.nil_append];rfl))
theorem XL (l:List AO) (f:AO):kF l f≤l.length:=by
 unfold kF
 have:=(List.dropWhile_sublist (l:=l.reverse) (fun x=>decide (0<DT x f))).length_le
 simpa using this
theorem Ta (l:List AO) (f:AO):(Ci l f).length≤l.length+1:=by
 have:=XL l f
 unfold Ci;split
 · omega
 · simp;omega
theorem IB:∀(l acc:List AO),(l.foldl Ci acc).length≤acc.length+l.length
 |[],acc=>by simp
 |f::l,acc=>by
  have h1:=IB l (Ci acc f)
  have h2:=Ta acc f
  rw [List.foldl_cons,List.length_cons];omega
theorem Gs {l:List AO} {k:Nat} {x:AO} (hx:l[k]? =some x):Ci ((l.take k).foldl Ci []) x=(l.take (k+1)).foldl Ci []:=by
 rw [List.take_add_one,hx,List.foldl_append];rfl
theorem Gt (l:List AO) (k:Nat):((l.take k).foldl Ci []).length≤k:=by
 have:=IB (l.take k) []
 have h2:=List.length_take_le k l
 simp at this;omega
theorem Rj {l:List AO} (hc:∀f∈l,BB f=true) (hl:l.length≤400):Be prog 45 [BC l] (FZ [BC (l.foldl Ci []),int 0]):=by
 refine fo func45 rfl ⟨rfl,rfl⟩ fun M0 w0=> ?_
 refine a2 ?_
 refine Tr.block (Tr.BV [(0,_)] ⟨ke rfl,trivial⟩ (fun k:Nat=>[(4,int ((k:Nat):Int))]) (fun k:Nat=>k≤(l).length) (fun k:Nat=>(l).length-k) 0 (Nat.zero_le _) ⟨ke rfl,trivial⟩ ?_)
 rintro k CN
 refine an ?_ ?_<;>intro h1 q1
 have Au:k<(l).length:=Af h1
 obtain ⟨x,Ae⟩:=at_ Au
 · repeat' first|exact absurd (if_pos (hc x (List.mem_of_getElem? Ae))) q|exact Fin.AF (k+1) ⟨Au,by omega⟩ ⟨⟨_,rfl,AM k⟩,ke rfl,trivial⟩|refine co rfl (AB rfl underlying31 AY (vl rfl) (vl rfl) (by omega) (by exact AZ (by assumption))) ?_|refine co rfl (Ap rfl BI AY (vl rfl) rfl rfl) (co rfl (Eh (Fq) rfl rfl) ?_)|refine ac ?_|(refine Tr.cn rfl ?_ ?_<;>intro h q)
 have Bn:k=(l).length:=by have:=Ag h1;omega
 subst Bn
 refine a3 ?_
 refine Tr.block (Tr.BV [(0,_)] ⟨ke rfl,trivial⟩ (fun m:Nat=>[(7,int ((m:Nat):Int)),(6,BC ((l.take m).foldl Ci []))]) (fun m:Nat=>m≤(l).length) (fun m:Nat=>(l).length-m) 0 (Nat.zero_le _) ⟨ke rfl,⟨_,rfl,AX 11⟩,trivial⟩ ?_)
 rintro m j8
 refine an ?_ ?_<;>intro h3 q3
 have Vk:m<(l).length:=Af h3
 obtain ⟨y,Tc⟩:=at_ Vk
 · repeat' first|(exfalso;rw [Gs Tc] at q;have:=Gt l (m+1);omega)|exact Fin.AF (m+1) ⟨Vk,by omega⟩ ⟨⟨_,rfl,AM m⟩,⟨_,rfl,Pr.le_of_eq (by rw [Gs Tc])⟩,ke rfl,trivial⟩|refine co rfl (AB rfl underlying31 AY (vl rfl) (vl rfl) (by omega) (by exact AZ (by assumption))) ?_|refine co rfl (Ap rfl BI AY (vl rfl) rfl rfl) ?_|(refine co rfl (F3 (cZ (l:=(l.take m).foldl Ci []) (f:=y) (by have:=Gt l m;omega)) rfl rfl rfl) ?_)|refine ac ?_|(refine Tr.cn rfl ?_ ?_<;>intro h q)
 have iQ:m=(l).length:=by have:=Ag h3;omega
 subst iQ
 refine a2 ?_
 refine Tr.ret (Fin.EJ rfl (Bq.D3 _ _) rfl ?_ rfl ?_)
 · exact Pr.le_of_eq (by rw [List.take_length])
 · exact Lr
theorem DF (a b:Int):An b a= -An a b:=by unfold An;by_cases h1:a<b<;>by_cases h2:b<a<;>simp [h1,h2]<;>omega
theorem Qo:∀l:List Int,FY (l.map fun x=> -x)= -FY l
 |[]=>rfl
 |a::l=>by
  have ih:=Qo l
  show (if -a=0 then FY (l.map fun x=> -x) else -a)= -(if a=0 then FY l else a)
  by_cases h:a=0
  · rw [if_pos (by omega),if_pos h,ih]
  · rw [if_neg (by omega),if_neg h]
theorem Rk (a b:AO):DT b a= -DT a b:=by
 unfold DT
 rw [←Qo]
 unfold D4
 simp only [List.map_cons,List.map_nil]
 rw [EP a.host b.host,EP a.CV b.CV,EP a.text b.text,DF a.machine,DF a.day,DF a.kind,DF a.BL,DF a.bits,DF a.num,DF a.src,DF a.Cm]
theorem GO {β:Type} {p:β→Bool}:∀(l:List β),∃m,l=m++l.dropWhile p∧(∀x∈m,p x=true)∧∀y r,l.dropWhile p=y::r→p y=false
 |[]=>⟨[],rfl,by simp,fun y r h=>by cases h⟩
 |a::l=>by
  by_cases h:p a=true
  ·
   obtain ⟨m,h1,h2,h3⟩:=GO (p:=p) l
   refine ⟨a::m,?_,?_,?_⟩
   · rw [List.dropWhile_cons_of_pos h,List.cons_append,←h1]
   ·
    intro x hx
    rcases List.mem_cons.1 hx with rfl|hx
    · exact h
    · exact h2 x hx
   · intro y r hy;rw [List.dropWhile_cons_of_pos h] at hy;exact h3 y r hy
  ·
   refine ⟨[],?_,by simp,?_⟩
   · rw [List.dropWhile_cons_of_neg h];rfl
   · intro y r hy;rw [List.dropWhile_cons_of_neg h] at hy;injection hy with h1 _;subst h1;simpa using h
theorem Vl (l:List AO) (f:AO):(∀y,l[kF l f]? =some y→0<DT y f)∧(∀x,0<kF l f→l[kF l f-1]? =some x→DT x f≤0):=by
 obtain ⟨m,h1,h2,h3⟩:=GO (p:=fun x=>decide (0<DT x f)) l.reverse
 have hk:kF l f=(l.reverse.dropWhile fun x=>decide (0<DT x f)).length:=rfl
 generalize l.reverse.dropWhile (fun x=>decide (0<DT x f))=d at*
 have hl:l=d.reverse++m.reverse:=by rw [←List.reverse_append,←h1,List.reverse_reverse]
 refine ⟨fun y hy=> ?_,fun x h0 hx=> ?_⟩
 ·
  rw [hk,hl,List.getElem?_append_right (by simp)] at hy
  have:=h2 y (by have:=List.mem_of_getElem? hy;simpa using this)
  simpa using this
 ·
  cases d with
  |nil=>rw [hk] at h0;cases h0
  |cons y r=>
   have hx2:x=y:=by
    rw [hk,hl,List.getElem?_append_left (by simp)] at hx
    rw [List.reverse_cons,List.getElem?_append_right (by simp)] at hx
    simpa using hx.symm
   have:=h3 y r rfl
   rw [hx2];simpa using this
theorem Vm {l:List AO} (f:AO) (h:Jc l):Jc (Ci l f):=by
 obtain ⟨h1,h2⟩:=Vl l f
 have hk:=XL l f
 unfold Ci
 split
 · exact h
 ·
  rename_i hn
  generalize kF l f=k at*
  have hlen:(l.take k).length=k:=by rw [List.length_take];omega
  intro j a b ha hb
  rw [List.append_assoc] at ha hb
  rcases Nat.lt_trichotomy (j+1) k with hj|hj|hj
  ·
   rw [List.getElem?_append_left (by omega),List.getElem?_take,if_pos (by omega)] at ha
   rw [List.getElem?_append_left (by omega),List.getElem?_take,if_pos (by omega)] at hb
   exact h j a b ha hb
  ·
   rw [List.getElem?_append_left (by omega),List.getElem?_take,if_pos (by omega)] at ha
   rw [List.getElem?_append_right (by omega),hlen,show j+1-k=0 by omega] at hb
   simp at hb;subst hb
   have ha':l[k-1]? =some a:=by rw [show k-1=j by omega];exact ha
   have h3:=h2 a (by omega) ha'
   rcases Int.lt_or_eq_of_le h3 with h4|h4
   · exact h4
   · exact absurd ⟨by omega,by rw [ha'];simp [h4]⟩ hn
  ·
   rcases Nat.eq_or_lt_of_le (Nat.le_of_lt_succ hj) with hj2|hj2
   ·
    rw [List.getElem?_append_right (by omega),hlen,show j-k=0 by omega] at ha
    simp at ha;subst ha
    rw [List.getElem?_append_right (by omega),hlen,show j+1-k=1 by omega] at hb
    simp at hb
    have:=h1 b (by simpa using hb)
    rw [Rk b f];omega
   ·
    rw [List.getElem?_append_right (by omega),hlen,show j-k=(j-k-1)+1 by omega] at ha
    rw [List.getElem?_append_right (by omega),hlen,show j+1-k=(j-k)+1 by omega] at hb
    simp at ha hb
    exact h (j-1) a b (by rw [show j-1=k+(j-k-1) by omega];exact ha) (by rw [show j-1+1=k+(j-k) by omega];exact hb)
theorem Vn {l:List AO} {f x:AO} (h:x∈Ci l f):x∈l∨x=f:=by
 unfold Ci at h
 split at h
 · exact .inl h
 ·
  simp only [List.mem_append,List.mem_singleton] at h
  rcases h with (h|h)|h
  · exact .inl (List.mem_of_mem_take h)
  · exact .inr h
  · exact .inl (List.mem_of_mem_drop h)
theorem N7:∀(l acc:List AO),Jc acc→Jc (l.foldl Ci acc)
 |[],_,h=>h
 |f::l,acc,h=>N7 l _ (Vm f h)
theorem K2:∀(l acc:List AO) {x:AO},x∈l.foldl Ci acc→x∈acc∨x∈l
 |[],_,_,h=> .inl h
 |f::l,acc,x,h=>by
  rcases K2 l _ h with h1|h1
  ·
   rcases Vn h1 with h2|h2
   · exact .inl h2
   · exact .inr (by simp [h2])
  · exact .inr (List.mem_cons_of_mem _ h1)
theorem Qp {l:List AO} (hc:∀f∈l,BB f=true) (hl:l.length≤400):B_ (l.foldl Ci []):=
 ⟨fun f hf=>by rcases K2 l [] hf with h|h;exact absurd h (by simp);exact hc f h,N7 l [] (fun j a b h=>by simp at h),by have:=IB l [];simp at this;omega⟩
abbrev HF (b:Nat) (s:DS):Ao:=NZ 80 b s
theorem Vp (n:Int) {k:Int} (hk:1≤k):(n.tmod k+k).tmod k=n % k:=by
 have h1: -k<n.tmod k:=by have:=Int.lt_tmod_of_pos n (b:=k) (by omega);omega
 rw [Int.tmod_eq_emod_of_nonneg (by omega),Int.tmod_def,show n-k*n.tdiv k+k=n+k*(1-n.tdiv k) by rw [Int.mul_sub];omega,Int.add_mul_emod_self_left]
theorem Yh (n:Int) {k:Int} (hk:1≤k): -k<n.tmod k∧n.tmod k<k:=by
 have h1:=Int.lt_tmod_of_pos n (b:=k) (by omega)
 have h2:=Int.tmod_lt_of_pos n (b:=k) (by omega)
 omega
theorem Vq {l:List Int}  :Be prog 6 [ints l] (bool (decide (l.length≤400))):=by
 refine fo func6 rfl ⟨rfl,rfl⟩ fun M0 w0=> ?_
 refine a3 ?_
 · refine bool_eq ?_;simp_all;omega
theorem cj {n k:Int} (hk:1≤k) (hk2:k≤1000000000):Be prog 31 [int n,int k] (int (n % k)):=by
 refine fo func31 rfl ⟨rfl,rfl⟩ fun M0 w0=> ?_
 have hm:=Yh n hk
 have hp:=Vp n hk
 · repeat' first|(exfalso;omega)|(refine int_eq ?_;exact hp)|refine co rfl (Xa rfl (vl rfl) (vl rfl) (by omega)) ?_|refine ac ?_|(refine Tr.cn rfl ?_ ?_<;>intro h q)
theorem CF {b:Nat} {s:DS} {n:Int} (hn:1≤n) (hn2:n≤1000000000):A5 prog 10 [ptr b 0,int n] (int (s.val n)) (HF b s) (fun _=>HF b s.DR):=by
 refine A5.of func10 rfl rfl (by exact Nb rfl) fun M0 w0 S rs M1 w1=> ?_
 have hs:=s.h
 have n9:=s.h2
 refine ac ?_
 refine an ?_ ?_<;>intro h1 q1
 refine ac ?_
 refine Tr.ret (Fin.AJ ?_)
 rw [DS.VC (s:=s) (by omega)]
 refine Fin.EN [] rfl (Bc.tmp rfl (Lr)) ?_ (fun _ _ _ _=>rfl)
 · refine int_eq ?_;exact (DS.VB (by omega) n).symm
 have hlt:s.at_<s.l.length:=by omega
 obtain ⟨x,hx⟩:=at_ hlt
 refine ac ?_
 refine ap ?_
 refine F8 0 1 rfl ?_
 refine ac ?_
 refine co rfl (AB rfl underlying22 B7 (vl rfl) (vl rfl) (by omega) (by rw [show ((s.at_:Nat):Int)+1-1=((s.at_:Nat):Int) by omega];exact AZ hx)) ?_
 refine ac ?_
 refine co rfl (F3 (cj (by omega) (by omega)) rfl rfl rfl) ?_
 refine ac ?_
 refine Cg 4 rfl (Tr.ret ?_)
 rw [DS.Xp hlt]
 refine Fin.EN [] rfl (Bc.tmp rfl (Lr)) ?_ (fun _ _ _ _=>rfl)
 · refine int_eq ?_;exact (DS.Xo hx n).symm
theorem Td {b:Nat} {s:DS} {l:List Int} (hl:l≠[]) (eC:l.length≤1000000000):A5 prog 30 [ptr b 0,ints l] (int (s.of l)) (HF b s) (fun _=>HF b s.DR):=by
 refine A5.of func30 rfl rfl (by exact Nb rfl) fun M0 w0 S rs M1 w1=> ?_
 have PT:1≤(l.length:Int):=by have:=List.length_pos_iff.2 hl;omega
 have hv:=s.C7 PT
 obtain ⟨x,hx⟩:=at_ (l:=l) (k:=(s.val l.length).toNat) (by omega)
 refine ac ?_
 refine ap ?_
 refine TO.DZ 0 rfl rfl (by decide) (Ab rfl rfl (by decide) rfl (CF (by omega) (by omega)) ⟨ke rfl,ke rfl,trivial⟩) (tp rfl (AB rfl underlying22 B7 (vl rfl) (vl rfl) (by omega) (CC hx)) ?_)
 refine ap ?_
 refine Tr.ret (Fin.EN [] rfl (Bc.tmp rfl (Lr)) ?_ (fun _ _ _ _=>rfl))
 · refine int_eq ?_;unfold DS.of;rw [hx];rfl
def Vr (l:List Int) (hl:l.length≤1000000000) (v:Value):Ao:=match v with| .pointer (some a)=>NZ 80 a.block ⟨l,0,Nat.zero_le _,hl⟩|_=>BT
theorem Yi {l:List Int} (hl:l.length≤1000000000):A5 prog 8 [ints l] (ex fun b=>ptr b 0) (BT) (Vr l hl):=by
 refine A5.of func8 rfl rfl (by exact Nb rfl) fun M0 w0 S rs M1 w1=> ?_
 refine ac ?_
 refine ap ?_
 refine TO.Z1 rfl rfl (by decide) rfl (Va rfl) (fun b1=> ?_)
 refine ap ?_
 refine Tr.ret (Fin.drop 1 ?_)
 refine Fin.EN [] rfl (Bc.tmp rfl (Lr)) ?_ (by rintro _ _ _ rfl;rfl)
 · exact Bm b1 (Lr)
end Go.Proofs.YtgilhkjlfongoaaGreat
