/-
  Part 3 of the texts that prove this claim, merged.
-/
import Derived.Lib.Bytealg
import Derived.Test.YteomgekmipcdpaaGreatDoorRows
import Derived.Test.YteomgekmipcdpaaGreatDoorRbCP2
set_option linter.all false
set_option maxRecDepth 40000
set_option maxHeartbeats 16000000
namespace Cp
open Go Go.RowKit Go.Great
variable {M:Av} {new:Bool} {rows rows':List (List Pr)} {ps:List Pr} {sp:List Value} {b j m:Nat} {x:Operand} {p q:Pr} {T e t:TypeId} {v:Value} {w:World}
section
variable {P:Program} {L:Lg P} {n:Fm} {fz:Nat} {E:Env} {M0:Av} {w0:World} {S:Nat→Prop} {rs:List Ay} {o:Oper}
theorem Tr.L_ {Q:Exit→Act→World→Prop} {c:Code} {sz cap:Nat} (j:Nat) (hj:rs[j]? =some (AE true b e ps)) (hps:ps=rows.flatten++sp.map is) (hm:rows.length=m) (h1:m≤cap) (h2:cap≤maxLen) (h3:sp.length=(cap-m)*sz) (k:Tr L n E (Hp M0 w0 S (rs.set j (BX e sz rows (.slice (some ⟨b,0,none⟩) m cap)))) c Q):Tr L n E (Hp M0 w0 S rs) c Q:=Tr.conv (fun _ _ hs=>hs.L_ j (by rw [hj,hps]) hm h1 h2 h3) k
instance ACJ (p q:Pr) [NC p] [NC q]:NC (DW [p,q]):=⟨fun M M' w v ⟨cs,h1,h2⟩=>⟨cs,h1,by
 match cs,h2 with
 |[a,b],h2=>exact ⟨NC.free _ _ _ _ h2.1,NC.free _ _ _ _ h2.2.1,trivial⟩⟩⟩
end
section
variable {P:Program} {L:Lg P} {n:Fm} {fz:Nat} {E:Env} {M0:Av} {w0:World} {S:Nat→Prop} {o:Oper}
end
section
variable {P:Program} {L:Lg P} {n:Fm} {fz:Nat} {E:Env} {M0:Av} {w0:World} {S:Nat→Prop} {rs:List Ay} {ε:Type} {res:ε→List Ay}
theorem A8.Vf {Φ:ε→Av→World→Prop} {w:World} (hst:∀x M M',Ext M w M' w→Φ x M w→Φ x M' w) (h1:∀x rs M,A8 M0 w0 S (res x++rs) M w→∃M',Ext M w M' w∧A8 M0 w0 S rs M' w∧Φ x M' w):
  ∀(X:List ε) (Cl:List Ay) (M:Av),A8 M0 w0 S (Cl++HX res X) M w→∃M',Ext M w M' w∧A8 M0 w0 S Cl M' w∧∀x∈X,Φ x M' w
 |[],Cl,M,h=>⟨M,Ext.refl _ _,by simpa [HX] using h,fun x hx=>by simp at hx⟩
 |x::X,Cl,M,h=>by
  have hp:(Cl++HX res (x::X)).Perm (res x++(Cl++HX res X)):=by
   show (Cl++(res x++HX res X)).Perm _
   rw [←List.append_assoc,←List.append_assoc]
   exact List.perm_append_comm.append_right _
  obtain ⟨M1,g1,g2,g3⟩:=h1 x _ M (A8.perm hp h)
  obtain ⟨M2,k1,k2,k3⟩:=A8.Vf hst h1 X Cl M1 g2
  refine ⟨M2,g1.trans k1,k2,fun y hy=> ?_⟩
  rcases List.mem_cons.1 hy with rfl|hy
  · exact hst _ _ _ k1 g3
  · exact k3 y hy
theorem Tr.j6 {Q:Exit→Act→World→Prop} {c:Code} (j:Nat) (qs:List Pr) (hi:rs[j]? =some (AE new b T ps)) (h:ps=qs) (k:Tr L n E (Hp M0 w0 S (rs.set j (AE new b T qs))) c Q):Tr L n E (Hp M0 w0 S rs) c Q:=by
 subst h;exact Tr.Iw j ps hi (PR.rfl' ps) k
theorem Fin.j6 {Q:Exit→Act→World→Prop} {e:Exit} (j:Nat) (qs:List Pr) (hi:rs[j]? =some (AE new b T ps)) (h:ps=qs) (k:Fin n E (Hp M0 w0 S (rs.set j (AE new b T qs))) Q e):Fin n E (Hp M0 w0 S rs) Q e:=by
 subst h;exact Fin.Iw j ps hi (PR.rfl' ps) k
theorem mZ {sz:Nat} (hl:rows.length=rows'.length) (hf:rows.flatten.length=rows'.flatten.length) (h:∀vs,HL M w rows.flatten vs→HL M w rows'.flatten vs) (ho:(BX e sz rows v).h M w):(BX e sz rows' v).h M w:=by
 rcases ho with ⟨h1,h2⟩|⟨b,cap,sp,h1,h2,h3,h4,h5,cs,h6,h7,h8⟩
 ·
  refine .inl ⟨?_,h2⟩
  subst h1
  exact List.length_eq_zero_iff.1 hl.symm
 ·
  refine .inr ⟨b,cap,sp,by rw [←hl];exact h1,by rw [←hl];exact h2,h3,by rw [←hl];exact h4,h5,cs,h6,?_,h8⟩
  have e1:=h7.take rows.flatten.length
  have e2:=h7.drop rows.flatten.length
  rw [List.take_left] at e1
  rw [List.drop_left] at e2
  have:=(h _ e1).app e2
  rwa [List.take_append_drop] at this
theorem Tr.Vf {Q:Exit→Act→World→Prop} {c:Code} {X:List ε} {Φ:ε→Av→World→Prop} {sz d:Nat} {f g:ε→List Pr} (Cl:List Ay) (NJ:rs=BX e sz (X.map f) v::Cl++HX res X) (hd:E.lookup d=some (Ag v p)) (hf:∀x,(f x).length=sz) (hg:∀x,(g x).length=sz) (hst:∀x M M' w,Ext M w M' w→Φ x M w→Φ x M' w) (h1:∀x rs M w,A8 M0 w0 S (res x++rs) M w→∃M',Ext M w M' w∧A8 M0 w0 S rs M' w∧Φ x M' w) (h2:∀x M w vs,Φ x M w→HL M w (f x) vs→HL M w (g x) vs) (k:Tr L n ((d,Ag v (slice sz (X.map g)))::E) (Hp M0 w0 S (Ax e sz v::Cl)) c Q):Tr L n E (Hp M0 w0 S rs) c Q:=by
 subst NJ
 intro a w hs
 obtain ⟨M,k1,k2,k3,k4⟩:=hs
 have k4:A8 M0 w0 S ((BX e sz (X.map f) v::Cl)++HX res X) M w:=k4
 obtain ⟨M1,g1,g2,g3⟩:=A8.Vf (Φ:=Φ) (fun x M M'=>hst x M M' w) (fun x rs M=>h1 x rs M w) X _ M k4
 have hlen:∀(f:ε→List Pr),(∀x,(f x).length=sz)→(X.map f).flatten.length=X.length*sz:=fun f hf=>by
  rw [Cv (Bh hf),List.length_map]
 have hown:(BX e sz (X.map g) v).h M1 w:=by
  refine mZ AR (by rw [hlen f hf,hlen g hg]) (fun vs hvs=> ?_) (g2.hold _ (List.mem_cons_self ..)).1
  have key:∀(Y:List ε) (vs:List Value),(∀x∈Y,Φ x M1 w)→HL M1 w (Y.map f).flatten vs→HL M1 w (Y.map g).flatten vs:=by
   intro Y
   induction Y with
   |nil=>intro vs _ h;exact h
   |cons y Y ih=>
    intro vs hY h
    rw [List.map_cons,List.flatten_cons] at h ⊢
    have e1:=h.take (f y).length
    have e2:=h.drop (f y).length
    rw [List.take_left] at e1
    rw [List.drop_left] at e2
    have:=(h2 y M1 w _ (hY y (List.mem_cons_self ..)) e1).app (ih _ (fun x hx=>hY x (List.mem_cons_of_mem _ hx)) e2)
    rwa [List.take_append_drop] at this
  exact key X vs g3 hvs
 have g4:=g2.Cw (i:=0) (r':=BX e sz (X.map g) v) rfl rfl rfl hown
 obtain ⟨M2,j1,j2,j3⟩:=A8.gV (j:=0) g4 rfl (Bh hg)
 refine k a w ⟨M2,k1,k2,fun s q hq=> ?_,j2⟩
 have hE:Ext M w M2 w:=g1.trans j1
 simp only [List.lookup] at hq
 split at hq
 ·
  rename_i e1
  have:s=d:=by simpa using e1
  subst this
  simp only [Option.some.injEq] at hq
  subst hq
  have h9:=(k3 _ _ hd).1
  exact ⟨h9,by rw [h9];exact j3⟩
 · exact q.st _ _ _ _ _ hE (k3 s q hq)
end
section
variable {P:Program} {L:Lg P} {n:Fm} {fz:Nat} {E:Env} {M0:Av} {w0:World} {S:Nat→Prop} {o:Oper}
theorem Rr {I:Cc} (ho:o.op= .call { callee:= .builtin .len,args:= #[x],argTypes:= #[t] }) (ht:P.underlying t=some (.slice e)) (hx:VL E x (lens m)):Ab P I o E (int m):=
 Ab.same fun M w a he _=>by
  obtain ⟨A,c,h1⟩:=hx.ev he Da
  exact ⟨.int .i64 m,by simp [execOp,ho,resolve,invoke,builtin,Builtin.len_,h1,run_underlying ht,goInt],rfl⟩
theorem Ze {κ:Type} [DecidableEq κ] {enc:κ→Value} {kt et:TypeId} {y:Operand} {es:List (κ×Int)} (k:κ) (hT:ZY P T kt et enc) (ho:o.op= .lookup T x y false) (hx:VL E x (is (.map (some b)))) (hy:VL E y q) (hk:∀M w v,q.h M w v→v=enc k):
  L4 P M0 w0 S j (SR.c (L6 enc b es)) o E (int ((look es k).getD 0)):=by
 intro M w a rs he hI hj
 have h1:a.eval x=_:=hx.ev he Ap
 have h2:a.eval y=enc k:=hk _ _ _ (hy.ev he Ap)
 have hj':rs[j]? =some (L6 enc b es):=hj
 obtain ⟨_,hh⟩:=(hI.hold _ (List.mem_of_getElem? hj')).1
 have hrun:(execOp a.eval o).run P w= .ok (.value (.int .i64 ((look es k).getD 0))) w:=by
  have hf:=Re hT k w es
  have hg:=VY (fun p:κ×Int=>decide (k=p.1)) es
  unfold look
  cases Wj:es.findIdx? fun p=>decide (k=p.1) with
  |none=>
   rw [Wj] at hf hg
   rw [←hg]
   simp only [Option.bind_none] at hf
   simp [execOp,ho,h1,h2,Instr.lookup,run_underlying hT.und,MapKept.run_getObj_map hh,hT.chk,hf,hT.zero,Result.andThen]
  |some i=>
   rw [Wj] at hf hg
   rw [←hg]
   have Fw:i<es.length:=by rw [List.findIdx?_eq_some_iff_getElem] at Wj;exact Wj.1
   simp only [Option.bind_some,List.getElem?_eq_getElem Fw,Option.map_some] at hf ⊢
   simp [execOp,ho,h1,h2,Instr.lookup,run_underlying hT.und,MapKept.run_getObj_map hh,hT.chk,hf,Result.andThen]
 rw [hrun]
 exact ⟨rfl,Below.refl _ _⟩
end
end Cp
namespace Cp
open Go Go.RowKit
variable {rows rows':List (List Pr)} {qs:List Pr} {zs:List Value} {j k m:Nat} {p:Pr} {e t:TypeId} {v:Value}
section
variable {P:Program} {L:Lg P} {I:Cc} {o:Oper} {E:Env}
theorem gj {c y:Operand} {b d:Bool} (ho:o.op= .pick c (.const (.bool true)) y) (hc:VL E c (bool b)) (hy:VL E y (bool d)):Ab P I o E (bool (b||d)):=by
 cases b with
 |true=>exact Kx ho hc rfl (vl rfl)
 |false=>exact Ky ho hc rfl hy
theorem Zf {c x:Operand} {b d:Bool} (ho:o.op= .pick c x (.const (.bool false))) (hc:VL E c (bool b)) (hx:VL E x (bool d)):Ab P I o E (bool (b&&d)):=by
 cases b with
 |true=>exact Kx ho hc rfl hx
 |false=>exact Ky ho hc rfl (vl rfl)
theorem Aj {β:Type} {g:β→Pr} {l:List β} {i:Int} (h:i.toNat<l.length):((l.map fun x=>[g x]).flatten++qs)[0+i.toNat*1]? =some (g (l[i.toNat]'h)):=
 XI (f:=fun x=>[g x]) (fun _=>rfl) (List.getElem?_eq_getElem h) rfl
end
section
variable {P:Program} {L:Lg P} {n:Fm} {fz:Nat} {E:Env} {M0:Av} {w0:World} {S:Nat→Prop} {rs:List Ay} {o:Oper}
theorem Rs {x y:Operand} {sz bytes d:Nat} (hg:o.guard=none) (hd:o.dst=some d) (hn:d<n) (ho:o.op= .call { callee:= .builtin .append,args:= #[x,y],argTypes:= #[t,t] }) (ht:P.underlying t=some (.slice e)) (hz:Az P e=some sz) (hby:Br P e=some bytes) (D8:BM P e=some zs) (hzl:zs.length=sz) (hone:zs.all (·.oneCell')=true) (hsz:0<sz) (hx:VL E x (Ag v p)) (hy:VL E y (slice sz rows')) (hl:∀r∈rows,r.length=sz) (Gc:rows.length+rows'.length≤maxLen) (hfit:(rows.length+rows'.length)*bytes≤140737488355328):DY P M0 w0 S n j (SR.c (BX e sz rows v)) ⟨d,BX e sz (rows++rows')⟩ o E (lens (rows.length+rows'.length)):=by
 rcases Nat.eq_zero_or_pos rows'.length with h0|h0
 ·
  have hr0:rows'=[]:=List.eq_nil_of_length_eq_zero h0
  subst hr0
  refine ⟨hg,fun M w a rs Uz he hI hj=> ?_⟩
  have h1:a.eval x=v:=(hx.ev he Da).1
  obtain ⟨A',c',hu,_⟩:=hy.ev he Da
  have hj':rs[j]? =some (BX e sz rows v):=hj
  have hv:∃A c,v= .slice A rows.length c∧rows.length≤c:=by
   rcases (hI.hold _ (List.mem_of_getElem? hj')).1 with ⟨rfl,rfl⟩|⟨b,cap,sp,rfl,h2,_⟩
   · exact ⟨none,0,rfl,Nat.le_refl _⟩
   · exact ⟨_,_,rfl,h2⟩
  obtain ⟨A,c,TI,PO⟩:=hv
  have hrun:=Gn (P:=P) (ty:=o.type) (A:=A) (A':=A') (n:=rows.length) (c:=c) (c':=c') ht hz PO w
  have Ep:(execOp a.eval o).run P w= .ok (.value v) w:=by
   simp [execOp,ho,resolve,invoke,builtin,h1,hu]
   rw [TI,hrun];rfl
  rw [Ep]
  refine ⟨M,⟨A,c,by rw [TI];rfl⟩,Ext.refl _ _,?_⟩
  have:(SR.at_ (a.put o.dst v) ⟨d,BX e sz (rows++[])⟩)=BX e sz (rows++[]) v:=by unfold SR.at_ Slot.val;dsimp only;rw [hd,B1 Hf]
  rw [this,List.append_nil]
  have hse:rs.set j (BX e sz rows v)=rs:=by
   apply List.ext_getElem?
   intro i
   rw [List.getElem?_set]
   by_cases hij:j=i
   ·
    subst hij
    rw [if_pos rfl]
    split
    · exact hj'.symm
    ·
     rename_i hge
     rw [List.getElem?_eq_none AA]
   · rw [if_neg hij]
  rw [hse];exact hI
 · exact Ex hg hd hn ho ht hz hby D8 hzl hone hsz hx hy hl h0 Gc hfit
theorem Fin.yt {Q:Exit→Act→World→Prop} {x:Exit} {sz:Nat} (j:Nat) (hj:rs[j]? =some (BX e sz rows v)) (hne:rows≠[]) (k:Fin n E (Hp M0 w0 S (rs.set j (HJ e sz rows v))) Q x):Fin n E (Hp M0 w0 S rs) Q x:=
 Fin.conv (fun a w hs=>by
  obtain ⟨M,h1,h2,h3,h4⟩:=hs
  have h4:A8 M0 w0 S rs M w:=h4
  refine ⟨M,h1,h2,h3,h4.Cw hj rfl rfl ?_⟩
  rcases (h4.hold _ (List.mem_of_getElem? hj)).1 with ⟨h5,_⟩|h5
  · exact absurd h5 hne
  · exact h5) k
theorem Df {β:Type} {g:β→Pr} {l:List β} {x:β} (hm:m=k) (h:l[k]? =some x):((l.map fun x=>[g x]).flatten++qs)[m]? =some (g x):=by
 subst hm
 have h1:=XI (f:=fun x=>[g x]) (qs:=qs) (fun _=>rfl) (i:=((m:Nat):Int)) (by rw [Int.toNat_natCast];exact h) rfl
 rw [Int.toNat_natCast,Nat.zero_add,Nat.mul_one] at h1
 exact h1
end
end Cp
namespace Cp
open Go Go.RowKit Go.Great
variable {a:Act} {ops:Array Oper} {ts:Array TypeId} {M:Av} {new:Bool} {f:FuncId} {rows rows':List (List Pr)} {ps qs:List Pr} {rs:List Ay} {zs:List Value} {b d i j k m n:Nat} {o:Oper} {p q:Pr} {T e t:TypeId} {v:Value} {w w0:World}
def JG {α:Type} (P:Program) (f:FuncId) (args:List Pr) (pre:List Ay) (C:α→Prop) (res:α→Pr) (post:α→List Ay):Prop:=Entry P f∧∀M0 w0 S rs M w vs,A8 M0 w0 S (pre++rs) M w→HL M w args vs→
 Calls P f vs.toArray w fun e w'=>∃v M' x,e= .returned v∧C x∧(res x).h M' w' v∧Ext M w M' w'∧A8 M0 w0 S (post x++rs) M' w'
def Rt {α:Type} (M0:Av) (w0:World) (S:Nat→Prop) (rs:List Ay) (M1:Av) (w1:World) (C:α→Prop) (res:α→Pr) (post:α→List Ay) (e:Ending) (w':World):Prop:=∃v M' x,e= .returned v∧C x∧(res x).h M' w' v∧Ext M1 w1 M' w'∧A8 M0 w0 S (post x++rs) M' w'
section
variable {P:Program} {L:Lg P} {n:Fm} {fz:Nat} {E:Env} {M0:Av} {w0:World} {S:Nat→Prop} {rs:List Ay} {α:Type} {pre:List Ay} {C:α→Prop} {res:α→Pr} {post:α→List Ay} {M1:Av} {w1:World} {g:Func} {o:Oper} {r:List Oper} {ops:Array Oper}
theorem JG.of {c : Code} (hf : P.funcs[f]? = some g) (hb : g.body = some c) (hname : (g.name == "runtime.NumGoroutine") = false) (hlen : ps.length ≤ g.ntmps) (h : ∀ M0 w0 S rs M1 w1, Tr (Yr P) g.ntmps (L2 0 ps) (Hp M0 w0 S (pre ++ Ac M1 w1 :: rs)) c (bodyPost P g (Rt M0 w0 S rs M1 w1 C res post))) : JG P f ps pre C res post := by
 refine ⟨⟨g,hf,hname,by rw [hb];rfl⟩,fun M0 w0 S rs M w vs hI hv=> ?_⟩
 refine calls_of_wp hf hb (h M0 w0 S rs M w _ _ ⟨M,?_,rfl,F_ hv,?_⟩)
 ·
  have:=hv.length
  simp [this];omega
 · exact ZH
theorem A8.me {args:List Pr} {rest:List Ay} (hf:JG P f args pre C res post) (hp:rs.Perm (pre++rest)) (hI:A8 M0 w0 S rs M w) {vs:List Value} (hv:HL M w args vs):
  Calls P f vs.toArray w fun e w'=>∃v M' x,e= .returned v∧C x∧(res x).h M' w' v∧Ext M w M' w'∧A8 M0 w0 S (post x++rest) M' w':=hf.2 M0 w0 S rest M w vs (A8.perm hp hI) hv
theorem TO.me {Q:Exit→Act→World→Prop} {xs:Array Operand} (rest:List Ay) (hg:o.guard=none) (hd:o.dst=some d) (hn:d<n) (ho:o.op= .call { callee:= .value (.func f),args:=xs,argTypes:=ts }) (hf:JG P f ps pre C res post) (hv:IB E xs.toList ps) (hp:rs.Perm (pre++rest)) (k:∀x,C x→TO P n ops r ((d,res x)::E) (Hp M0 w0 S (post x++rest)) Q):TO P n ops (o::r) E (Hp M0 w0 S rs) Q:=
 TO.ZM hg fun K M w a hsz hdf he hI hK=>by
  have hI:A8 M0 w0 S rs M w:=hI
  have h1:=IB.GU (o:=o) (CR he) (xs:=xs.toList) (fun x hx=>by simp [ho,Op.operands,Call.operands];exact .inr Gy) hv
  have hrun:(execOp a.eval o).run P w= .ok (.enter f (xs.toList.map a.eval).toArray) w:=by
   simp [execOp,ho,resolve,Deferred.ofValue,Act.eval,invoke,EJ hf.1,IW xs]
  unfold Oper.wp
  rw [hrun]
  refine (A8.me hf hp hI h1).mono ?_
  rintro e w' ⟨v,M',x,rfl,hC,h2,h3,h4⟩
  refine hK _ _ _ _ (k x hC) ⟨M',by rw [B4];exact hsz,by rw [put_defers];exact hdf,?_,h4⟩
  intro s q hq
  simp only [List.lookup] at hq
  by_cases hs:s=d
  · subst hs;simp at hq;subst hq;rw [hd,B1 H_];exact h2
  · rw [show (s==d)=false by simpa using hs] at hq;rw [hd,BQ hs];exact q.st _ _ _ _ _ h3 (he s q hq)
theorem gl {l:List Ay} (h:A8 M0 w0 S (l++Ac M1 w1::rs) M w):Ext M1 w1 M w∧A8 M0 w0 S (l++rs) M w:=
 ⟨(h.hold (Ac M1 w1) AR).1,(A8.perm List.perm_middle h).J5⟩
theorem Fin.AEe {rv:ResultVar} {rs':List Ay} (x:α) (hr:g.results= #[rv]) (h:AQ P E rs' rv q) (hC:C x) (hl:Pr.le q (res x)) (hp:rs'.Perm (post x++Ac M1 w1::rs)):
  Fin ⟨fz,[]⟩ E (Hp M0 w0 S rs') (bodyPost P g (Rt M0 w0 S rs M1 w1 C res post)) .ret:=by
 rintro a w ⟨M,_,hd,he,hi⟩
 have hi:A8 M0 w0 S rs' M w:=hi
 obtain ⟨v,hv,hp'⟩:=h M w a he (fun q hq=>(hi.hold q hq).1)
 obtain ⟨h1,h2⟩:=gl (A8.perm hp hi)
 exact ⟨hd,v,results1 hr hv,_,M,x,rfl,hC,hl _ _ _ hp',h1,h2⟩
theorem Fin.AEf {rv rv':ResultVar} {q':Pr} {rs':List Ay} (x:α) (hr:g.results= #[rv,rv']) (h:AQ P E rs' rv q) (h':AQ P E rs' rv' q') (hC:C x) (hl:Pr.le (DW [q,q']) (res x)) (hp:rs'.Perm (post x++Ac M1 w1::rs)):
  Fin ⟨fz,[]⟩ E (Hp M0 w0 S rs') (bodyPost P g (Rt M0 w0 S rs M1 w1 C res post)) .ret:=by
 rintro a w ⟨M,_,hd,he,hi⟩
 have hi:A8 M0 w0 S rs' M w:=hi
 obtain ⟨v,hv,Mj⟩:=h M w a he (fun q hq=>(hi.hold q hq).1)
 obtain ⟨v',lU,dw⟩:=h' M w a he (fun q hq=>(hi.hold q hq).1)
 obtain ⟨h1,h2⟩:=gl (A8.perm hp hi)
 exact ⟨hd,_,results2 hr hv lU,_,M,x,rfl,hC,hl _ _ _ ⟨[_,_],rfl,Mj,dw,trivial⟩,h1,h2⟩
end
section
variable {P:Program} {L:Lg P} {n:Fm} {fz:Nat} {E:Env} {M0:Av} {w0:World} {S:Nat→Prop} {rs:List Ay} {o:Oper}
def AAk:Value→Option Nat
 | .slice (some a) _ (_+1)=>some a.block
 |_=>none
def CX (e:TypeId) (sz:Nat) (rows:List (List Pr)) (v:Value):Ay where
 blk:=AAk v
 new:=true
 h M w:=(rows=[]∧∃A,v= .slice A 0 0)∨(∃(b cap:Nat) (spare:List Value),v= .slice (some ⟨b,0,none⟩) rows.length (cap+1)∧rows.length≤cap+1∧cap+1≤maxLen∧spare.length=(cap+1-rows.length)*sz∧(AE true b e (rows.flatten++spare.map is)).h M w)
 st M w M' w' he hk h:=by
  rcases h with h|⟨b,cap,spare,rfl,h1,h2,h3,h4⟩
  · exact .inl h
  · exact .inr ⟨b,cap,spare,rfl,h1,h2,h3,(AE true b e _).st _ _ _ _ he hk h4⟩
theorem BZ {α:Type} {l:List α} {x:α} (h:l[j]? =some x):j<l.length:=by grind
theorem A8.blank {r:Ay} (h:A8 M0 w0 S rs M w) (hj:rs[j]? =some r):A8 M0 w0 S (rs.set j Bo) M w:=
 A8.perm (J4 (BZ hj)) ((A8.perm (EL hj) h).J5.Jm (r:=Bo) rfl trivial)
theorem Zg (sz:Nat) (A:Option Addr) (M:Av) (w:World):(slice sz []).h M w (.slice A 0 0):=⟨A,0,rfl,Nat.le_refl _,Nat.zero_le _,fun _=>rfl,fun i row h=>by simp at h⟩
theorem A8.AAl {sz:Nat} (h:A8 M0 w0 S rs M w) (hj:rs[j]? =some (CX e sz rows v)) (hl:∀r∈rows,r.length=sz):
  ∃M',Ext M w M' w∧A8 M0 w0 S (rs.set j Bo) M' w∧(slice sz rows).h M' w v:=by
 have hjl:=BZ hj
 rcases (h.hold _ (List.mem_of_getElem? hj)).1 with ⟨rfl,A,rfl⟩|⟨b,cap,spare,rfl,hnc,hcm,hsp,hcr⟩
 · exact ⟨M,Ext.refl _ _,h.blank hj,Zg sz A M w⟩
 ·
  have hC:=h.Cw (r':=AE true b e (rows.flatten++spare.map is)) hj rfl rfl hcr
  obtain ⟨M',h1,h2,h3⟩:=A8.frz hC (List.getElem?_set_self hjl) hl hnc hcm (by rw [List.length_map];exact hsp)
  have h4:=h2.blank (j:=j) (by rw [List.set_set];exact List.getElem?_set_self hjl)
  rw [List.set_set,List.set_set] at h4
  exact ⟨M',h1,h4,h3⟩
theorem HL.set {vs:List Value} (h:HL M w ps vs) (hk:ps[k]? =some p) (hq:∀u,p.h M w u→q.h M w u):HL M w (ps.set k q) vs:=by
 refine T0 (by rw [h.length];simp) fun k' p' hk'=> ?_
 rw [List.getElem?_set] at hk'
 split at hk'
 ·
  rename_i e1
  subst e1
  split at hk'
  ·
   obtain ⟨u,hu,hpu⟩:=h.at_ k p hk
   simp at hk';subst hk'
   exact ⟨u,hu,hq u hpu⟩
  · cases hk'
 · exact h.at_ k' p' hk'
theorem A8.NL {sz:Nat} (h:A8 M0 w0 S rs M w) (hi:rs[i]? =some (AE new b T ps)) (hj:rs[j]? =some (CX e sz rows v)) (hij:j≠i) (hk:ps[k]? =some (is v)) (hl:∀r∈rows,r.length=sz):
  ∃M',Ext M w M' w∧A8 M0 w0 S ((rs.set j Bo).set i (AE new b T (ps.set k (slice sz rows)))) M' w:=by
 obtain ⟨M',h1,h2,h3⟩:=h.AAl hj hl
 have hi':(rs.set j Bo)[i]? =some (AE new b T ps):=by grind
 refine ⟨M',h1,h2.Cw hi' rfl rfl ?_⟩
 obtain ⟨g1,cs,g2,g3,g4⟩:=(h2.hold _ (List.mem_of_getElem? hi')).1
 exact ⟨g1,cs,g2,g3.set hk (fun u hu=>by rw [show u=v from hu];exact h3),g4⟩
def part (sz:Nat) (v:Value) (k:Nat):Pr where
 h _ _ u:=∃a m c,v= .slice a m c∧k≤m∧u= .slice (if c=k then a else a.map fun x=>x.add (k*sz)) (m-k) (c-k)
 st _M _w _M' _w' _v _ h:=h
instance AEg (sz:Nat) (v:Value) (k:Nat):One (part sz v k):=⟨by rintro M w u ⟨a,m,c,h1,h2,rfl⟩;exact ⟨rfl,rfl⟩⟩
theorem Ba.frz {args:List Pr} {sz:Nat} {R:Ay} (hl:∀r∈rows,r.length=sz) (h:Ba P f args (lens m) R (fun v=>BX e sz rows v)):Ba P f args (slice sz rows) R (fun _=>Bo):=by
 refine ⟨h.1,fun M0 w0 S rs M w vs hI hv=>(h.2 M0 w0 S rs M w vs hI hv).mono ?_⟩
 rintro e' w' ⟨v,M',rfl,h2,h3,h4⟩
 obtain ⟨M2,j1,j2,j3⟩:=A8.gV (j:=0) h4 rfl hl
 exact ⟨v,M2,rfl,j3,h3.trans j1,j2.blank (j:=0) rfl⟩
def elp (sz:Nat) (v:Value) (i o:Nat):Pr where
 h _ _ u:=∃a m c,v= .slice (some a) m c∧u= .pointer (some (a.add (i*sz+o)))
 st _M _w _M' _w' _v _ h:=h
instance AG1 (sz:Nat) (v:Value) (k o:Nat):One (elp sz v k o):=⟨by rintro M w u ⟨a,m,c,h1,rfl⟩;exact ⟨rfl,rfl⟩⟩
theorem Zh {x y:Operand} {k:IntKind} {l:Int} {sz:Nat} (ho:o.op= .indexAddr t x y) (ht:P.underlying t=some (.slice e)) (hz:Az P e=some sz) (hx:VL E x (is v)) (hy:VL E y (is (.int k l))) (h0:0≤l) (hl:l<rows.length):
  L4 P M0 w0 S j (SR.c (CX T sz rows v)) o E (elp sz v l.toNat 0):=by
 intro M w a rs he hI hj
 have h1:a.eval x=v:=hx.ev he Ap
 have h3:a.eval y= .int k l:=hy.ev he Ap
 have hj':rs[j]? =some (CX T sz rows v):=hj
 rcases (hI.hold _ (List.mem_of_getElem? hj')).1 with ⟨rfl,A,hv⟩|⟨b,cap,spare,hv,hnc,hcm,hsp,hcr⟩
 · simp at hl;omega
 ·
  have hrun:(execOp a.eval o).run P w= .ok (.value (.pointer (some ((⟨b,0,none⟩:Addr).add (l.toNat*sz))))) w:=by
   simp [execOp,ho,h1,h3,hv,Instr.indexAt,asIntOf,run_underlying ht,CL hz,h0,hl]
  rw [hrun]
  exact ⟨⟨_,_,_,hv,rfl⟩,Below.refl _ _⟩
theorem XO {sz:Nat}:∀{rows:List (List Pr)} {i:Nat} {row:List Pr} {o:Nat} {qs S:List Pr},(∀r∈rows,r.length=sz)→rows[i]? =some row→o+qs.length≤sz→
  (rows.flatten++S).take (i*sz+o)++qs++(rows.flatten++S).drop (i*sz+o+qs.length)=(rows.set i (row.take o++qs++row.drop (o+qs.length))).flatten++S
 |[],_,_,_,_,_,_,h,_=>by simp at h
 |a::l,0,row,o,qs,S,hl,h,ho=>by
  simp at h;subst h
  have h1:=hl a AR
  rw [List.set_cons_zero,List.flatten_cons,List.flatten_cons,Nat.zero_mul,Nat.zero_add,List.append_assoc a,List.take_append_of_le_length AA,List.drop_append_of_le_length AA]
  simp
 |a::l,i+1,row,o,qs,S,hl,h,ho=>by
  have h1:=hl a AR
  have ih:=XO (S:=S) (fun r hr=>hl r (List.mem_cons_of_mem _ hr)) (i:=i) (row:=row) (o:=o) (qs:=qs) D5 ho
  rw [List.set_cons_succ, List.flatten_cons, List.flatten_cons, List.append_assoc a, List.append_assoc a, ← ih, List.take_append, List.drop_append, List.take_of_length_le (by rw [h1, Nat.succ_mul]; omega), List.drop_of_length_le (by rw [h1, Nat.succ_mul]; omega),
   show (i+1)*sz+o-a.length=i*sz+o by rw [h1,Nat.succ_mul];omega,show (i+1)*sz+o+qs.length-a.length=i*sz+o+qs.length by rw [h1,Nat.succ_mul];omega]
  simp
theorem Ru {x y:Operand} {sz q:Nat} {row:List Pr} (hg:o.guard=none) (ho:o.op= .store t x y) (hx:VL E x (elp sz v i q)) (hy:VL E y (DP qs)) (hz:Az P t=some m) (hm:qs.length=m) (hl:∀r∈rows,r.length=sz) (hi:rows[i]? =some row) (hq:q+m≤sz) (hps:rows.set i (row.take q++qs++row.drop (q+m))=rows'):DY P M0 w0 S n j (SR.c (CX T sz rows v)) (SR.c (CX T sz rows' v)) o E any:=by
 refine ⟨hg,fun M w a rs hsz he hI hj=> ?_⟩
 obtain ⟨a0,m0,c0,jy,h1⟩:=hx.ev he (show x∈o.op.operands.toList by simp [ho,Op.operands])
 obtain ⟨h2,h3⟩:=hy.ev he (show y∈o.op.operands.toList by simp [ho,Op.operands])
 have hj':rs[j]? =some (CX T sz rows v):=hj
 have hjl:=BZ hj'
 rcases (hI.hold _ (List.mem_of_getElem? hj')).1 with ⟨rfl,A,hv⟩|⟨b,cap,spare,hv,hnc,hcm,hsp,hcr⟩
 · simp at hi
 ·
  subst hv
  injection jy with e1 e2 e3
  injection e1 with e1
  subst e1
  have hC:=hI.Cw (r':=AE true b T (rows.flatten++spare.map is)) hj' rfl rfl hcr
  have hjC:(rs.set j (AE true b T (rows.flatten++spare.map is)))[j]? =some (AE true b T (rows.flatten++spare.map is)):=List.getElem?_set_self hjl
  obtain ⟨_,cs,h4,h5,h6⟩:=hcr
  have h5l:=h5.length
  have h2l:=h2.length
  have Fw:=BZ hi
  have hfl:=Cv hl
  rw [List.length_append,hfl,List.length_map] at h5l
  have hle:(i+1)*sz≤rows.length*sz:=Nat.mul_le_mul_right sz Fw
  rw [Nat.succ_mul] at hle
  have hcells:(a.eval y).cells.size=m:=by rw [←hm,←h2l];simp
  have hrun:(storeCells ((⟨b,0,none⟩:Addr).add (i*sz+q)) (a.eval y).cells.toList 0).run P w= .ok () (w.setRow b (cs.take (i*sz+q)++(a.eval y).cells.toList++cs.drop (i*sz+q+m)).toArray):=by
   have:=run_storeCells_at (P:=P) b (i*sz+q) T (a.eval y).cells.toList 0 cs.toArray w h4 Bz h3
   rw [Ff,Nat.zero_add]
   simpa [hcells] using this
  have Ep:(execOp a.eval o).run P w= .ok .skip (w.setRow b (cs.take (i*sz+q)++(a.eval y).cells.toList++cs.drop (i*sz+q+m)).toArray):=by
   simp [execOp,ho,h1,Instr.storeAt,Instr.sureAddr,storeVar,CL hz,hcells,hrun]
  rw [Ep]
  have hfs:=XO (S:=spare.map is) hl hi (o:=q) (qs:=qs) AA
  rw [hm,hps] at hfs
  obtain ⟨h7, h8⟩ := A8.write (qs := rows'.flatten ++ spare.map is) (cs := cs.take (i * sz + q) ++ (a.eval y).cells.toList ++ cs.drop (i * sz + q + m)) hC hjC (by rw [← hfs]; exact (((h5.take (i * sz + q)).app h2)).app (h5.drop (i * sz + q + m)))
   (fun c hc=>by
    simp only [List.mem_append] at hc
    rcases hc with (hc|hc)|hc
    · grind
    · exact h3 c hc
    · exact h6 c (List.mem_of_mem_drop hc))
  rw [List.set_set] at h7
  refine ⟨M,trivial,h8,?_⟩
  have hlen:rows'.length=rows.length:=by rw [←hps,List.length_set]
  have h9:=h7.Cw (r':=CX T sz rows' (.slice (some ⟨b,0,none⟩) rows.length (cap+1))) (List.getElem?_set_self hjl) rfl rfl (.inr ⟨b,cap,spare,by rw [hlen],by rw [hlen];exact hnc,hcm,by rw [hlen];exact hsp,(h7.hold _ (List.mem_of_getElem? (List.getElem?_set_self hjl))).1⟩)
  rw [List.set_set] at h9
  exact h9
theorem A8.yu:∀{l:List Ay} {M:Av} {w:World},A8 M0 w0 S (l++rs) M w→A8 M0 w0 S rs M w
 |[],_,_,h=>h
 |_::l,_,_,h=>A8.yu (l:=l) h.J5
end
section
variable {P:Program} {L:Lg P} {E:Env} {I:Cc} {o:Oper}
section
variable {n:Fm} {fz:Nat} {M0:Av} {w0:World} {S:Nat→Prop}
end
end
def allI (p:Nat→Bool) (n:Nat):Bool:=(List.range n).all p
theorem CA {p:Nat→Bool}:allI p n=true↔∀j,j<n→p j=true:=by unfold allI;simp
theorem mg {p:Nat→Bool} (h:∀j,j<n→p j=true):allI p n=true:=CA.2 h
theorem Q1 {p:Nat→Bool} (hk:k<n) (h:p k=false):allI p n=false:=by
 rw [Bool.eq_false_iff];intro h';rw [CA.1 h' k hk] at h;cases h
theorem EA {p:Nat→Bool} (h:∀j,j<k→p j=true) (hk:p k=true):∀j,j<k+1→p j=true:=by
 intro j hj
 by_cases e:j=k
 · subst e;exact hk
 · exact h j AA
section
variable {P:Program} {L:Lg P} {n:Fm} {fz:Nat} {I:Cc}
def AEh (P:Program) (I':Cc) (M:Av) (w:World) (p:Pr):Result Next→Prop
 | .ok (.value v) w'=>∃M',p.h M' w' v∧Ext M w M' w'∧I'.h M' w'
 | .ok .skip w'=>∃M',p.h M' w' undef∧Ext M w M' w'∧I'.h M' w'
 | .ok (.enter f args) w'=>Calls P f args w' fun e w''=>∃v M',e= .returned v∧p.h M' w'' v∧Ext M w M' w''∧I'.h M' w''
 |_=>False
def mh (P:Program) (n:Fm) (I I':Cc) (o:Oper) (E:Env) (p:Pr):Prop:=o.guard=none∧∀M w (a:Act),a.tmps.size=n.sz→Cb M w E o a→I.h M w→AEh P I' M w p ((execOp a.eval o).run P w)
def T7 (P:Program) (n:Fm) (I:Cc) (ops:Array Oper):Nat→List Oper→Env→(Cc→Env→Prop)→Prop
 |_,[],_,_=>False
 |0,o::r,E,K=>∃p I',mh P n I I' o E p∧(∀d,o.dst=some d→d<n)∧Ch P n I' ops r (upd o p E) (K I')
 |c+1,o::r,E,K=>∃p,lE P I ops o E p∧(∀d,o.dst=some d→d<n)∧T7 P n I ops c r (upd o p E) K
theorem T7.op {r:List Oper} {E:Env} {K:Cc→Env→Prop} {c:Nat} (hg:o.guard=none) (hd:o.dst=some d) (hn:d<n) (h:Ab P I o E p) (k:T7 P n I ops c r ((d,p)::E) K):T7 P n I ops (c+1) (o::r) E K:=
 ⟨p,by unfold lE;rw [hg];exact h,fun d' hd'=>by rw [hd] at hd';cases hd';exact hn,by unfold upd;rw [hd];exact k⟩
theorem T7.turn {r:List Oper} {E:Env} {K:Cc→Env→Prop} (I':Cc) (hd:o.dst=some d) (hn:d<n) (h:mh P n I I' o E p) (k:Ch P n I' ops r ((d,p)::E) (K I')):T7 P n I ops 0 (o::r) E K:=
 ⟨p,I',h,fun d' hd'=>by rw [hd] at hd';cases hd';exact hn,by unfold upd;rw [hd];exact k⟩
def TJ (P:Program) (f:FuncId) (args:List Pr) (pre:List Ay) (res:Pr) (post:List Ay):Prop:=JG (α:=Unit) P f args pre (fun _=>True) (fun _=>res) (fun _=>post)
section
variable {M0:Av} {w0:World} {S:Nat→Prop} {rs:List Ay} {E:Env} {o:Oper} {g:Func} {M1:Av} {w1:World}
theorem TJ.of {c : Code} {pre post : List Ay} {res : Pr} (hf : P.funcs[f]? = some g) (hb : g.body = some c) (hname : (g.name == "runtime.NumGoroutine") = false) (hlen : ps.length ≤ g.ntmps) (h : ∀ M0 w0 S rs M1 w1, Tr (Yr P) g.ntmps (L2 0 ps) (Hp M0 w0 S (pre ++ Ac M1 w1 :: rs)) c (bodyPost P g (Rt M0 w0 S rs M1 w1 (fun _ : Unit => True) (fun _ => res) (fun _ => post)))) : TJ P f ps pre res post :=
 JG.of hf hb hname hlen h
theorem Ba.pure {args:List Pr} {res:Pr} {R':Value→Ay} (h:Ba P f args res Bo R'):A_ P f args res:=by
 refine ⟨h.1,fun M w vs hb hv=> ?_⟩
 refine (h.2 M w FG [] M w vs ((A8.begin hb).Jm (r:=Bo) rfl trivial) hv).mono ?_
 rintro e w' ⟨v,M',rfl,h2,h3,h4⟩
 exact ⟨v,rfl,res.st _ _ _ _ _ (Ext.less h4.m) h2,h4.below⟩
end
end
section
variable {P:Program} {L:Lg P} {n:Fm} {fz:Nat} {E:Env} {M0:Av} {w0:World} {S:Nat→Prop} {rs:List Ay} {o:Oper}
def AEi (b off m:Nat):Pr where
 h _ _ u:=∃o c,u= .slice (some ⟨b,o,none⟩) m c∧(0<m→o=off)
 st _M _w _M' _w' _v _ h:=h
instance ACK (b off m:Nat):One (AEi b off m):=⟨by rintro M w u ⟨o,c,rfl,_⟩;exact ⟨rfl,rfl⟩⟩
end
section
variable {P:Program} {L:Lg P} {n:Fm} {fz:Nat} {E:Env} {M0:Av} {w0:World} {S:Nat→Prop} {rs:List Ay} {o:Oper}
end
section
variable {P:Program} {L:Lg P} {n:Fm} {fz:Nat} {E:Env} {M0:Av} {w0:World} {S:Nat→Prop} {rs:List Ay}
theorem St.NL {sz:Nat} (hi:rs[i]? =some (AE new b T ps)) (hj:rs[j]? =some (CX e sz rows v)) (hij:j≠i) (hk:ps[k]? =some p) (hp:Pr.le p (is v)) (hl:∀r∈rows,r.length=sz) (h:St n E (Hp M0 w0 S rs) a w):
  St n E (Hp M0 w0 S ((rs.set j Bo).set i (AE new b T (ps.set k (slice sz rows))))) a w:=by
 obtain ⟨M,h1,h2,h3,h4⟩:=h
 have h4:A8 M0 w0 S rs M w:=h4
 have hi':(rs.set j (CX e sz rows v))[i]? =some (AE new b T ps):=by rw [List.getElem?_set_ne hij];exact hi
 obtain ⟨M',g1,g2,g3⟩:=h4.AAl hj hl
 have gi:(rs.set j Bo)[i]? =some (AE new b T ps):=by rw [List.getElem?_set_ne hij];exact hi
 refine ⟨M',h1,h2,fun s q hq=>q.st _ _ _ _ _ g1 (h3 s q hq),g2.Cw gi rfl rfl ?_⟩
 obtain ⟨c1,cs,c2,c3,c4⟩:=(g2.hold _ (List.mem_of_getElem? gi)).1
 exact ⟨c1,cs,c2,c3.set hk (fun u hu=>by rw [show u=v from hp _ _ _ hu];exact g3),c4⟩
theorem Tr.NL {Q:Exit→Act→World→Prop} {c:Code} (i j k:Nat) {sz:Nat} (hi:rs[i]? =some (AE new b T ps)) (hj:rs[j]? =some (CX e sz rows v)) (hij:j≠i) (hk:ps[k]? =some p) (hp:Pr.le p (is v)) (hl:∀r∈rows,r.length=sz) (kk:Tr L n E (Hp M0 w0 S ((rs.set j Bo).set i (AE new b T (ps.set k (slice sz rows))))) c Q):Tr L n E (Hp M0 w0 S rs) c Q:=Tr.conv (fun _ _ hs=>hs.NL hi hj hij hk hp hl) kk
end
section
variable {P:Program} {L:Lg P} {n:Fm} {fz:Nat} {E:Env} {M0:Av} {w0:World} {S:Nat→Prop} {rs:List Ay} {o:Oper} {g:Func} {M1:Av} {w1:World}
theorem TJ.gen {args args':List Pr} {pre:List Ay} {res:Pr} [NC res] (hfz:∀M0 w0 S rs M w,A8 M0 w0 S (pre++rs) M w→∃M',Ext M w M' w∧A8 M0 w0 S rs M' w∧∀vs,HL M w args vs→HL M' w args' vs) (h:A_ P f args' res):TJ P f args pre res pre:=by
 refine ⟨h.1,fun M0 w0 S rs M w vs hI hv=> ?_⟩
 obtain ⟨M',hx,Tp,ha⟩:=hfz M0 w0 S rs M w hI
 refine (h.2 M' w vs Tp.bd (ha vs hv)).mono ?_
 rintro e' w' ⟨u,rfl,h2,h3⟩
 exact ⟨u,M,(),rfl,trivial,NC.free _ _ _ _ h2,Ext.below h3,(Hp M0 w0 S _).st _ _ _ h3 hI⟩
theorem Row.hd {ad:Addr} (h:Row M w ad 0 (p::ps)) (hq:∀u,p.h M w u→q.h M w u):Row M w ad 0 (q::ps):=by
 intro j r hr
 cases j with
 |zero=>
  simp at hr;subst hr
  obtain ⟨u,h1,h2,h3,h4⟩:=h 0 p rfl
  exact ⟨u,h1,h2,h3,hq u h4⟩
 |succ j=>exact h (j+1) r (by simpa using hr)
theorem TJ.look {wb ob:Nat} {WT OT:TypeId} {wps ops rows:List Pr} {rws:List (List Pr)} {sz:Nat} {res:Pr} [NC res] (hk:ops[k]? =some (is v)) (hl:∀r∈rws,r.length=sz) (ho:ops.set k (slice sz rws)=rows) (h:A_ P f (ref (ref rows::wps)::ps) res):TJ P f (ptr wb 0::ps) [AE true wb WT (ptr ob 0::wps),AE true ob OT ops,CX e sz rws v] res [AE true wb WT (ptr ob 0::wps),AE true ob OT ops,CX e sz rws v]:=by
 refine TJ.gen (fun M0 w0 S rs M w hI=> ?_) h
 obtain ⟨Ma,a1,a2⟩:=A8.NL (i:=1) (j:=2) (k:=k) hI rfl rfl AD hk hl
 rw [ho] at a2
 have a3:A8 M0 w0 S (AE true ob OT rows::AE true wb WT (ptr ob 0::wps)::Bo::rs) Ma w:=A8.perm (List.Perm.swap _ _ _) a2
 obtain ⟨Mb,b1,b2,b3⟩:=A8.P9 a3
 obtain ⟨Mc,c1,c2,c3⟩:=A8.P9 b1
 refine ⟨Mc,(a1.trans b2).trans c2,c1.J5,fun vs hv=> ?_⟩
 match vs,hv with
 |u0::vs1,TI=>
  obtain ⟨Ti,PO⟩:=TI
  refine ⟨⟨⟨wb,0,none⟩,Ti,c3.hd fun u hu=>⟨⟨ob,0,none⟩,hu,b3.st c2⟩⟩,PO.st ((a1.trans b2).trans c2)⟩
theorem TO.re {Q:Exit→Act→World→Prop} {l:List Oper} {I:Cc} (s:Nat) (p:Pr) (hs:E.lookup s=some q) (hl:Pr.le q p) (k:TO P n ops l ((s,p)::E) I Q):TO P n ops l E I Q:=by
 intro m hm a w hst
 refine k m hm a w ?_
 obtain ⟨M,h1,h2,he,h4⟩:=hst
 refine ⟨M,h1,h2,fun s' r hr=> ?_,h4⟩
 simp only [List.lookup] at hr
 split at hr
 ·
  rename_i e1
  have:s'=s:=by simpa using e1
  subst this
  simp only [Option.some.injEq] at hr
  subst hr
  exact hl _ _ _ (he _ _ hs)
 · exact he _ _ hr
theorem Fin.Zi {Q:Exit→Act→World→Prop} {x:Exit} {r r':Ay} (k:Fin n E (Hp M0 w0 S (r'::r::rs)) Q x):Fin n E (Hp M0 w0 S (r::r'::rs)) Q x:=
 Fin.conv (fun _ _ ⟨M,h1,h2,h3,h4⟩=>⟨M,h1,h2,h3,A8.perm (List.Perm.swap _ _ _) h4⟩) k
def Vg (P:Program) (f:FuncId) (args:List Pr) (res:Value→Pr) (post:Value→List Ay):Prop:=JG (α:=Value) P f args [] (fun _=>True) res post
theorem Vg.of {c : Code} {res : Value → Pr} {post : Value → List Ay} (hf : P.funcs[f]? = some g) (hb : g.body = some c) (hname : (g.name == "runtime.NumGoroutine") = false) (hlen : ps.length ≤ g.ntmps) (h : ∀ M0 w0 S rs M1 w1, Tr (Yr P) g.ntmps (L2 0 ps) (Hp M0 w0 S (Ac M1 w1 :: rs)) c (bodyPost P g (Rt M0 w0 S rs M1 w1 (fun _ : Value => True) res post))) : Vg P f ps res post :=
 JG.of hf hb hname hlen h
theorem Fin.AEj {rv:ResultVar} {res:Value→Pr} {post:Value→List Ay} {rs':List Ay} (v:Value) (dr:List Ay) (hr:g.results= #[rv]) (h:AQ P E rs' rv q) (hl:Pr.le q (res v)) (hp:rs'.Perm (dr++(post v++Ac M1 w1::rs))):
  Fin ⟨fz,[]⟩ E (Hp M0 w0 S rs') (bodyPost P g (Rt M0 w0 S rs M1 w1 (fun _:Value=>True) res post)) .ret:=by
 rintro a w ⟨M,_,hd,he,hi⟩
 have hi:A8 M0 w0 S rs' M w:=hi
 obtain ⟨u,hu,hp'⟩:=h M w a he (fun q hq=>(hi.hold q hq).1)
 obtain ⟨h1,h2⟩:=gl (A8.yu (A8.perm hp hi))
 exact ⟨hd,u,results1 hr hu,_,M,v,rfl,trivial,hl _ _ _ hp',h1,h2⟩
theorem TO.mj {Q:Exit→Act→World→Prop} {r:List Oper} {xs:Array Operand} {res:Value→Pr} {post:Value→List Ay} (hg:o.guard=none) (hd:o.dst=some d) (hn:d<n) (ho:o.op= .call { callee:= .value (.func f),args:=xs,argTypes:=ts }) (hf:Vg P f ps res post) (hv:IB E xs.toList ps) (k:∀v,TO P n ops r ((d,res v)::E) (Hp M0 w0 S (post v++rs)) Q):TO P n ops (o::r) E (Hp M0 w0 S rs) Q:=
 TO.me rs hg hd hn ho hf hv (List.Perm.refl _) fun v _=>k v
end
section
variable {P:Program} {L:Lg P} {n:Fm} {fz:Nat} {E:Env} {I:Cc} {Q:Exit→Act→World→Prop} {ops:Array Oper} {o:Oper} {r:List Oper} {g j:Nat} {b want:Bool}
theorem TO.cases (g:Nat) {b:Bool} {l:List Oper} (_hb:E.lookup g=some (bool b)) (ht:b=true→TO P n ops l E I Q) (hf:b=false→TO P n ops l E I Q):TO P n ops l E I Q:=by
 cases b
 · exact hf rfl
 · exact ht rfl
theorem TO.AEk (hg:o.guard=some (j,want)) (hj:(ops[j]?).bind (·.dst)=some g) (hb:E.lookup g=some (bool b)) (N5:b=want) (h:∀(K:Act→World→Prop) M w (a:Act),a.tmps.size=n.sz→a.defers=n.df→Fc M w E a→I.h M w→
  (∀E' I' a' w',TO P n ops r E' I' Q→St n E' I' a' w'→K a' w')→o.wp P a w K Q):TO P n ops (o::r) E I Q:=by
 intro k hl a w hs
 have h0:ops[k]? =some o:=by simpa using (hl 0).symm
 obtain ⟨M,hn,hd,he,hI⟩:=hs
 simp only [List.length_cons,List.range'_succ,wpS,h0]
 have hy:=I5 (M:=M) (w:=w) (b:=some b) hj (he g _ hb)
 rw [Hl hg hy,if_pos (by simp [N5])]
 exact (h _ M w a hn hd he hI fun E' I' a' w' hT hst=>hT (k+1) (fun j=>by have:=hl (j+1);simpa [Nat.add_assoc,Nat.add_comm 1 j] using this) a' w' hst)
theorem TO.PV (hg:o.guard=some (j,want)) (hj:(ops[j]?).bind (·.dst)=some g) (hb:E.lookup g=some (bool b)) (N5:b=want) (hd:o.dst=some d) (hn:d<n) (h:Ab P I o E p) (k:TO P n ops r ((d,p)::E) I Q):TO P n ops (o::r) E I Q:=
 TO.AEk hg hj hb N5 fun K M w a h1 h2 h3 h4 hK=>by
  refine HC (h M w a (CR h3) h4) fun v w' hv hb'=>hK _ _ _ _ k ⟨M,?_,?_,?_,I.st _ _ _ hb' h4⟩
  · rw [B4];exact h1
  · rw [put_defers];exact h2
  ·
   have:=h3.put (o:=o) (p:=p) hb' hv (fun d' hd'=>by rw [hd] at hd';cases hd';rw [h1];exact hn)
   rw [show upd o p E=(d,p)::E by unfold upd;rw [hd]] at this;exact this
theorem TO.Wk (hg:o.guard=some (j,want)) (hj:(ops[j]?).bind (·.dst)=some g) (hb:E.lookup g=some (bool b)) (N5:b≠want) (hd:o.dst=some d) (hn:d<n) (kk:TO P n ops r ((d,is undef)::E) I Q):TO P n ops (o::r) E I Q:=by
 intro k hl a w hs
 have h0:ops[k]? =some o:=by simpa using (hl 0).symm
 obtain ⟨M,h1,h2,he,hI⟩:=hs
 simp only [List.length_cons,List.range'_succ,wpS,h0]
 have hy:=I5 (M:=M) (w:=w) (b:=some b) hj (he g _ hb)
 rw [Hl hg hy,if_neg (by simp [N5])]
 refine kk (k+1) (fun j=>by have:=hl (j+1);simpa [Nat.add_assoc,Nat.add_comm 1 j] using this) _ w ⟨M,by rw [B4];exact h1,by rw [put_defers];exact h2,?_,hI⟩
 have:=he.put (o:=o) (p:=is undef) (v:=undef) (Below.refl w.heap.size w) rfl (fun d' hd'=>by rw [hd] at hd';cases hd';rw [h1];exact hn)
 rw [show upd o (is undef) E=(d,is undef)::E by unfold upd;rw [hd]] at this;exact this
variable {M0:Av} {w0:World} {S:Nat→Prop} {rs:List Ay}
theorem TO.AEl (i:Nat) {R:Ay} {R':Ay} (hg:o.guard=some (j,want)) (hj:(ops[j]?).bind (·.dst)=some g) (hb:E.lookup g=some (bool b)) (N5:b=want) (hR:rs[i]? =some R) (hd:o.dst=some d) (hn:d<n) (h:DY P M0 w0 S n i (SR.c R) (SR.c R') { o with guard:=none } E p) (k:TO P n ops r ((d,p)::E) (Hp M0 w0 S (rs.set i R')) Q):TO P n ops (o::r) E (Hp M0 w0 S rs) Q:=
 TO.AEk hg hj hb N5 fun K M w a hsz hdf he hI hK=>by
  have hw : ({ o with guard := none } : Oper).wp P a w K Q := Kz (h.2 M w a rs hsz (CR he) hI hR) fun v w' M' hv hx Tp => hK _ _ _ _ k ⟨M', by rw [B4]; exact hsz, by rw [put_defers]; exact hdf, by
   intro s q hq
   simp only [List.lookup] at hq
   by_cases hs:s=d
   · subst hs;simp at hq;subst hq;show p.h M' w' ((a.put o.dst v).tmps.getD s undef);rw [hd,B1 H_];exact hv
   · rw [show (s==d)=false by simpa using hs] at hq;show q.h M' w' ((a.put o.dst v).tmps.getD s undef);rw [hd,BQ hs];exact q.st _ _ _ _ _ hx (he s q hq),Tp⟩
  exact hw
end
section
variable {P:Program} {L:Lg P} {E:Env} {I:Cc} {o:Oper}
end
class T1 (P:Program) (t:TypeId):Prop where
 h:D6 P t=true
class TA (P:Program) (t:TypeId):Prop where
 h:Em P t=true
class TZ (P:Program) (t:TypeId) (m:outParam Nat):Prop where
 h:Az P t=some m
class TF (P:Program) (s f:Nat) (k:outParam Nat):Prop where
 h:AU P s f=some k
class TU (P:Program) (t:TypeId) (d:outParam TypeDesc):Prop where
 h:P.underlying t=some d
class TB (P:Program) (t:TypeId) (place:outParam (Nat→Option (Nat×Nat))) (zs:outParam (List Value)):Prop where
 h:∀ps,P.built t ps=Instr.fill place zs.toArray ps
 z:zs.all (·.oneCell')=true
class TV (P:Program) (t:TypeId) (zs:outParam (List Value)):Prop where
 h:BM P t=some zs
 z:zs.all (·.oneCell')=true
class TM (P:Program):Prop where
 h:P.follows .mixedOrders=true
section
variable {P:Program} {L:Lg P} {n:Fm} {fz:Nat} {I:Cc} {ops:Array Oper} {o:Oper} {r:List Oper} {E:Env} {K:Env→Prop} {d g j:Nat} {b want:Bool} {p:Pr} {x y:Operand} {Q:Exit→Act→World→Prop} {t u:TypeId}
theorem AIu [i:T1 P t] (ho:o.op= .load t x) (hx:C7 E x=some (ref (p::ps))):Ab P I o E p:=Q_ ho i.h (vl hx)
theorem AIv [i:TA P t] [z:TZ P t m] (ho:o.op= .load t x) (hx:C7 E x=some (ref ps)) (hq:ps.take m=qs) (hm:qs.length=m):Ab P I o E (agg qs):=Al ho i.h z.h (vl hx) hq hm
theorem AIw {s:TypeId} {f:Nat} [i:TF P s f k] (ho:o.op= .fieldAddr s x f) (hx:C7 E x=some (ref ps)) (hq:ps.drop k=qs):Ab P I o E (ref qs):=Mz ho i.h (vl hx) hq
theorem AIx {s:TypeId} {f:Nat} [i:TF P s f k] {b off:Nat} (ho:o.op= .fieldAddr s x f) (hx:C7 E x=some (ptr b off)):Ab P I o E (ptr b (off+k)):=BU ho i.h (vl hx)
theorem AIy [i:TU P t (.slice e)] {sz:Nat} {β:Type} {f:β→List Pr} {l:List β} (ho:o.op= .call { callee:= .builtin .len,args:= #[x],argTypes:= #[t] }) (hx:C7 E x=some (slice sz (l.map f))):Ab P I o E (int ((l.length:Nat):Int)):=E_ ho i.h (vl hx)
theorem AIz [i:TU P t .string] {a:List UInt8} (ho:o.op= .call { callee:= .builtin .len,args:= #[x],argTypes:= #[t] }) (hx:C7 E x=some (str a)):Ab P I o E (int ((a.length:Nat):Int)):=u9 ho i.h (vl hx)
theorem AI0 [i:TU P t .bool] {b c:Bool} (ho:o.op= .binOp .eql t x y u) (hx:C7 E x=some (bool b)) (hy:C7 E y=some (bool c)):Ab P I o E (bool (b==c)):=ze ho i.h (vl hx) (vl hy)
theorem AI1 {p:Pr} [One p] (ho:o.op= .box t x) (hx:C7 E x=some p):Ab P I o E (ref [p]):=Bv ho (VL.le (vl hx) (AO p))
theorem AI2 (ho:o.op= .box t x) (hx:C7 E x=some (agg ps)):Ab P I o E (ref ps):=Bv ho (VL.le (vl hx) (Ah ps))
class CP (p:Pr) (ps:outParam (List Pr)):Prop where
 h:Pr.le p (DP ps)
instance AI3 (ps:List Pr):CP (agg ps) ps:=⟨Ah ps⟩
instance (priority:=low) AI4 (p:Pr) [One p]:CP p [p]:=⟨AO p⟩
class CQ (p:Pr) (ps:outParam (List Pr)):Prop where
 h:Pr.le p (DP ps)
instance AI5 (ps:List Pr):CQ (agg ps) ps:=⟨Ah ps⟩
instance AI6 (k:IntKind) (n:Int):CQ (is (.int k n)) [is (.int k n)]:=⟨AO _⟩
instance AG2 (b:Bool):CQ (is (.bool b)) [is (.bool b)]:=⟨AO _⟩
instance AI7 (s:ByteArray):CQ (is (.string s)) [is (.string s)]:=⟨AO _⟩
instance AI8 (a:Option Addr):CQ (is (.pointer a)) [is (.pointer a)]:=⟨AO _⟩
instance AEm (sz:Nat) (rows:List (List Pr)):CQ (slice sz rows) [slice sz rows]:=⟨AO _⟩
instance AI9 (ps:List Pr):CQ (ref ps) [ref ps]:=⟨AO _⟩
instance AKs (f:Fn) (ps:List Pr):CQ (fn f ps) [fn f ps]:=⟨AO _⟩
theorem vf0:ZS E [] []:=trivial
theorem vf1 {row:List Pr} [c:CQ q row] {xs:List (Nat×Operand)} {rows:List (Nat×List Pr)} (hx:C7 E x=some q) (h:ZS E xs rows):ZS E ((i,x)::xs) ((i,row)::rows):=⟨⟨rfl,VL.le (vl hx) c.h⟩,h⟩
theorem vr0 {sz:Nat}:VH E sz [] []:=trivial
theorem vr1 {sz:Nat} {row:List Pr} [c:CQ q row] {xs:List Operand} (hx:C7 E x=some q) (hl:row.length=sz) (h:VH E sz xs rows):VH E sz (x::xs) (row::rows):=⟨⟨hl,VL.le (vl hx) c.h⟩,h⟩
theorem AI_ {parts:Array (Nat×Operand)} {place:Nat→Option (Nat×Nat)} [i:TB P t place zs] {rows:List (Nat×List Pr)} (ho:o.op= .build t parts) (hx:ZS E parts.toList rows) (hq:Ts place (zs.map is) rows=some qs):Ab P I o E (agg qs):=Au ho i.h i.z hx hq
theorem AJA {sz:Nat} {xs:List Operand} {parts:Array (Nat×Operand)} [i:TU P t (.slice e)] [z:TZ P e sz] [v:TV P e zs] (ho:o.op= .buildSlice t m parts) (hp:parts.toList.map Prod.snd=xs) (hm:(m==xs.length&&(parts.toList.map Prod.fst==List.range m)&&zs.length==sz&&Nat.blt 0 sz&&Nat.ble (m*sz) 16777216)=true) (hx:VH E sz xs rows):Ab P I o E (full sz rows):=by
 simp only [Bool.and_eq_true,beq_iff_eq,Nat.blt_eq,Nat.ble_eq] at hm
 obtain ⟨⟨⟨⟨h1,h2⟩,h3⟩,h4⟩,h5⟩:=hm
 subst h1
 refine Aa ho ?_ i.h z.h v.h h3 h4 hx h5
 refine List.ext_getElem (by rw [←hp];simp) fun k h6 h7=> ?_
 have h8:k<xs.length:=by simpa using h7
 simp only [List.getElem_map,List.getElem_zipIdx,Nat.zero_add]
 have e1:(parts.toList.map Prod.fst)[k]'(by simpa using h6)=k:=by grind
 have e2:(parts.toList.map Prod.snd)[k]'(by simpa using h6)=xs[k]:=by simp only [hp]
 simp only [List.getElem_map] at e1 e2
 exact Prod.ext e1 e2
section
variable {M0:Av} {w0:World} {S:Nat→Prop} {b off:Nat} {T:TypeId} {new:Bool} {ps qs:List Pr} {m:Nat} {q:Pr}
theorem MA [i:T1 P t] (ho:o.op= .load t x) (hx:C7 E x=some (ptr b off)) (hp:ps[off]? =some p):L4 P M0 w0 S j (SR.c (AE new b T ps)) o E p:=AW ho i.h (vl hx) hp
theorem MB [i:TA P t] [z:TZ P t m] (ho:o.op= .load t x) (hx:C7 E x=some (ptr b off)) (hq:(ps.drop off).take m=qs) (hm:qs.length=m):L4 P M0 w0 S j (SR.c (AE new b T ps)) o E (agg qs):=Fg ho i.h z.h (vl hx) hq hm
theorem XP {ps':List Pr} [z:TZ P t m] [c:CP q qs] (hg:o.guard=none) (ho:o.op= .store t x y) (hx:C7 E x=some (ptr b off)) (hy:C7 E y=some q) (hm:qs.length=m:=by rfl) (hl:Nat.ble (off+m) ps.length=true:=by rfl) (hps:ps.take off++qs++ps.drop (off+m)=ps':=by rfl):DY P M0 w0 S n j (SR.c (AE new b T ps)) (SR.c (AE new b T ps')) o E any:=Aq hg ho (vl hx) (VL.le (vl hy) c.h) z.h hm (Nat.le_of_ble_eq_true hl) hps
variable {rs:List Ay}
theorem sf (i s:Nat) [z:TZ P t m] [c:CP q qs] (hg:o.guard=none∧o.dst=none∧o.op= .store t x y) (hx:C7 E x=some (ptr b 0)) (hy:C7 E y=some q) (hi:rs[i]? =some (AE true b T ps)) (hs:E.lookup s=some (ptr b 0))
  (k:TO P n ops r ((s,ref qs)::E) (Hp M0 w0 S ((rs.set i (AE true b T qs)).eraseIdx i)) Q) (hm:qs.length=m:=by rfl) (hl:ps.length=m:=by rfl):TO P n ops (o::r) E (Hp M0 w0 S rs) Q:=
 TO.AV i hg.1 hg.2.1 hg.2.2 (vl hx) (VL.le (vl hy) c.h) hi z.h hm hl (TO.freeze (ps:=qs) i s (by
  have hlt:i<rs.length:=by rcases Nat.lt_or_ge i rs.length with h|h;exact h;rw [List.getElem?_eq_none h] at hi;cases hi
  rw [List.getElem?_set_self hlt]) hs k)
theorem sa (i:Nat) [z:TZ P t m] [c:CP q qs] (hg:o.guard=none∧o.dst=none∧o.op= .store t x y) (hx:C7 E x=some (ptr b 0)) (hy:C7 E y=some q) (hi:rs[i]? =some (AE new b T ps))
  (k:TO P n ops r E (Hp M0 w0 S (rs.set i (AE new b T qs))) Q) (hm:qs.length=m:=by rfl) (hl:ps.length=m:=by rfl):TO P n ops (o::r) E (Hp M0 w0 S rs) Q:=TO.AV i hg.1 hg.2.1 hg.2.2 (vl hx) (VL.le (vl hy) c.h) hi z.h hm hl k
end
def opk (o:Oper):Nat:=match o.op with
 | .move ..=>1
 | .assign ..=>1
 | .fieldAddr ..=>2
 | .load ..=>3
 | .binOp .add ..=>7
 | .binOp .sub ..=>8
 | .binOp ..=>4
 | .pick ..=>5
 | .nilCheck ..=>6
 | .call { callee:= .builtin .len,.. }=>9
 | .unOp ..=>10
 | .box ..=>11
 | .extract ..=>12
 | .makeFunc ..=>13
 | .build ..=>14
 | .buildSlice ..=>15
 | .store ..=>16
 |_=>0
def AEn (o:Oper):Bool:=o.guard.isNone
def grp (o:Oper):Nat:=if opk o=0 then 0 else if opk o<5 then 1 else if opk o<9 then 2 else if opk o<16 then 3 else 4
theorem AJB {m z:Int} (ho:o.op= .binOp .add t x y u) (hx:C7 E x=some (int m)) (hy:C7 E y=some (int z)) (hr: -9223372036854775808≤m+z∧m+z≤9223372036854775807):Ab P I o E (int (m+z)):=I7 ho (vl hx) (vl hy) hr
theorem AJC {m z:Int} (ho:o.op= .binOp .sub t x y u) (hx:C7 E x=some (int m)) (hy:C7 E y=some (int z)) (hr: -9223372036854775808≤m-z∧m-z≤9223372036854775807):Ab P I o E (int (m-z)):=ZK ho (vl hx) (vl hy) hr
theorem oF (h:Ab P I o E p:=by first|exact AIw rfl rfl rfl|exact AIx rfl rfl):Ab P I o E p:=h
theorem oL (h:Ab P I o E p:=by first|exact AIu rfl rfl|exact AIv rfl rfl rfl rfl|exact Bi 0 rfl (MA rfl rfl rfl)|exact Bi 0 rfl (MB rfl rfl rfl rfl)|exact Bi 1 rfl (MA rfl rfl rfl)|exact Bi 1 rfl (MB rfl rfl rfl rfl)|exact Bi 2 rfl (MA rfl rfl rfl)|exact Bi 2 rfl (MB rfl rfl rfl rfl)|exact Bi 3 rfl (MA rfl rfl rfl)|exact Bi 3 rfl (MB rfl rfl rfl rfl)|exact Bi 4 rfl (MA rfl rfl rfl)|exact Bi 4 rfl (MB rfl rfl rfl rfl)):Ab P I o E p:=h
theorem oB (h:Ab P I o E p:=by first|exact ki rfl rfl rfl rfl|exact mH rfl (vl rfl) (vl rfl)|exact AAa rfl (vl rfl) (vl rfl)|exact AI0 rfl rfl rfl):Ab P I o E p:=h
theorem oP (h:Ab P I o E p:=by first|exact Wh rfl rfl (by first|rfl|assumption) rfl|exact dI rfl rfl (by first|rfl|assumption) rfl|exact gj rfl (vl rfl) (vl rfl)|exact Zf rfl (vl rfl) (vl rfl)):Ab P I o E p:=h
theorem oN (h:Ab P I o E p:=by first|exact I9 rfl (vl rfl)|exact Jb rfl (vl rfl)|exact RA rfl (vl rfl)):Ab P I o E p:=h
theorem oA (h:Ab P I o E p:=by first|exact AJB rfl rfl rfl AA|exact ki rfl rfl rfl rfl):Ab P I o E p:=h
theorem oS (h:Ab P I o E p:=by first|exact AJC rfl rfl rfl AA|exact ki rfl rfl rfl rfl):Ab P I o E p:=h
theorem oC (h:Ab P I o E p:=by first|exact AIy rfl rfl|exact AIz rfl rfl):Ab P I o E p:=h
theorem oU (h:Ab P I o E p:=by first|exact L3 rfl (vl rfl)):Ab P I o E p:=h
theorem oO (h:Ab P I o E p:=by first|exact AI2 rfl rfl|exact AI1 rfl rfl):Ab P I o E p:=h
theorem oE (h:Ab P I o E p:=by first|exact FH rfl (vl rfl) rfl):Ab P I o E p:=h
theorem oM (h:Ab P I o E p:=by first|exact Ws rfl rfl):Ab P I o E p:=h
theorem oD (h:Ab P I o E p:=by first|exact AI_ rfl (by repeat any_goals first|exact vf0|refine' vf1 rfl ?_) (by rfl)):Ab P I o E p:=h
theorem oI (h:Ab P I o E p:=by first|exact AJA rfl rfl (by rfl) (by repeat any_goals first|exact vr0|refine' vr1 rfl (by rfl) ?_)):Ab P I o E p:=h
theorem kc0 {res:Pr} (hf:A_ P f [] res) (ho:o.op= .call { callee:= .value (.func f),args:= #[],argTypes:=ts }):Ab P I o E res:=AY ho hf trivial
theorem CE {x0:Operand} {p0:Pr} {res:Pr} (hf:A_ P f [p0] res) (ho:o.op= .call { callee:= .value (.func f),args:= #[x0],argTypes:=ts }) (h0:C7 E x0=some p0):Ab P I o E res:=AY ho hf ⟨ke h0,trivial⟩
theorem Bu {x0:Operand} {p0:Pr} {x1:Operand} {p1:Pr} {res:Pr} (hf:A_ P f [p0,p1] res) (ho:o.op= .call { callee:= .value (.func f),args:= #[x0,x1],argTypes:=ts }) (h0:C7 E x0=some p0) (h1:C7 E x1=some p1):Ab P I o E res:=AY ho hf ⟨ke h0,ke h1,trivial⟩
theorem Iy {x0:Operand} {p0:Pr} {x1:Operand} {p1:Pr} {x2:Operand} {p2:Pr} {res:Pr} (hf:A_ P f [p0,p1,p2] res) (ho:o.op= .call { callee:= .value (.func f),args:= #[x0,x1,x2],argTypes:=ts }) (h0:C7 E x0=some p0) (h1:C7 E x1=some p1) (h2:C7 E x2=some p2):Ab P I o E res:=AY ho hf ⟨ke h0,ke h1,ke h2,trivial⟩
theorem eA {x0:Operand} {p0:Pr} {x1:Operand} {p1:Pr} {x2:Operand} {p2:Pr} {x3:Operand} {p3:Pr} {res:Pr} (hf:A_ P f [p0,p1,p2,p3] res) (ho:o.op= .call { callee:= .value (.func f),args:= #[x0,x1,x2,x3],argTypes:=ts }) (h0:C7 E x0=some p0) (h1:C7 E x1=some p1) (h2:C7 E x2=some p2) (h3:C7 E x3=some p3):Ab P I o E res:=AY ho hf ⟨ke h0,ke h1,ke h2,ke h3,trivial⟩
theorem kc5 {x0:Operand} {p0:Pr} {x1:Operand} {p1:Pr} {x2:Operand} {p2:Pr} {x3:Operand} {p3:Pr} {x4:Operand} {p4:Pr} {res:Pr} (hf:A_ P f [p0,p1,p2,p3,p4] res) (ho:o.op= .call { callee:= .value (.func f),args:= #[x0,x1,x2,x3,x4],argTypes:=ts }) (h0:C7 E x0=some p0) (h1:C7 E x1=some p1) (h2:C7 E x2=some p2) (h3:C7 E x3=some p3) (h4:C7 E x4=some p4):Ab P I o E res:=AY ho hf ⟨ke h0,ke h1,ke h2,ke h3,ke h4,trivial⟩
theorem cP (_:AEn o=true) (h:Ch P n I ops (o::r) E K):Ch P n I ops (o::r) E K:=h
theorem cG (_:AEn o=false) (h:Ch P n I ops (o::r) E K):Ch P n I ops (o::r) E K:=h
theorem cK (k:Nat) (_:opk o=k) (h:Ch P n I ops (o::r) E K):Ch P n I ops (o::r) E K:=h
theorem cS (k:Nat) (_:grp o=k) (h:Ch P n I ops (o::r) E K):Ch P n I ops (o::r) E K:=h
theorem tK (k:Nat) (_:opk o=k) (h:TO P n ops (o::r) E I Q):TO P n ops (o::r) E I Q:=h
theorem tG (k:Nat) (_:grp o=k) (h:TO P n ops (o::r) E I Q):TO P n ops (o::r) E I Q:=h
theorem Tr.rm [i:TM P] {id:Nat} {l:List Oper} (hB:VC l=true) (h:Ch P n I l.toArray l E (fun E'=>Fin n E' I Q .normal)) (hc:calm l=true:=by with_unfolding_all rfl):Tr L n E I (.region id l.toArray true) Q:=Tr.ADS i.h hB h hc
theorem Tr.ct {c:Operand} {y z:Code} (hc:C7 E c=some (bool true)) (k:Tr L n E I y Q):Tr L n E I (.cond c y z) Q:=Tr.cond hc (fun _=>k) (fun h=>nomatch h)
theorem Tr.cf {c:Operand} {y z:Code} (hc:C7 E c=some (bool false)) (k:Tr L n E I z Q):Tr L n E I (.cond c y z) Q:=Tr.cond hc (fun h=>nomatch h) (fun _=>k)
structure mm (G:Prop):Prop where
 k:G
theorem Cx.mono {M0:Av} {w0:World} {S:Nat→Prop}:∀{l:List Oper} {E:Env} {rs:List SR} {K K':List X→Env→List SR→Prop},(∀L E rs,K L E rs→K' L E rs)→Cx P M0 w0 S n ops l E rs K→Cx P M0 w0 S n ops l E rs K'
 |[],_,_,_,_,h,k=>h _ _ _ k
 |_::_,_,_,_,_,h,⟨p,k,h1,h2,h3⟩=>⟨p,k,h1,h2,Cx.mono (fun _ _ _=>h _ _ _) h3⟩
theorem Cx.keys {M0:Av} {w0:World} {S:Nat→Prop}:∀{l:List Oper} {E:Env} {rs:List SR} {K:List X→Env→List SR→Prop},Cx P M0 w0 S n ops l E rs K→∃ks:List KN,Cx P M0 w0 S n ops l E rs (fun L E' rs'=>L.map (·.k.L5)=ks∧K L E' rs')
 |[],_,_,_,k=>⟨[],rfl,k⟩
 |_::_,_,_,_,⟨p,k,h1,h2,h3⟩=>by
  obtain ⟨ks,h4⟩:=Cx.keys h3
  exact ⟨k.L5::ks,p,k,h1,h2,Cx.mono (fun L E rs h=>⟨by rw [List.map_cons,h.1],h.2⟩) h4⟩
theorem Tr.rx {Lo : Lg P} [i : TM P] {M0 : Av} {S : Nat → Prop} {id : Nat} {l : List Oper} {IZ : List Ay} (h : Cx P M0 w0 S n l.toArray l E (IZ.map SR.c) (fun L E' rs' => P5 l (L.map (·.k.L5)) = true ∧ BE n M0 w0 S E' rs' Q)) (hc : calm l = true := by with_unfolding_all rfl) : Tr Lo n E (Hp M0 w0 S IZ) (.region id l.toArray true) Q := by
 obtain ⟨ks,hk⟩:=Cx.keys h
 obtain ⟨L,h1,h2,h3⟩:=VE l 0 E _ hk
 exact Tr.zZ i.h ks (by rw [←h3.1];exact h3.2.1) (hk.mono fun _ _ _ h=>⟨h.1,h.2.2⟩) hc
theorem al1 {r0:Ay}:EK (SR.c r0::rs.map SR.c) (r0::rs):= .cons (EK.map _)
theorem Mk {r0:Ay} {r1:Ay}:EK (SR.c r0::SR.c r1::rs.map SR.c) (r0::r1::rs):= .cons (.cons (EK.map _))
theorem al3 {r0:Ay} {r1:Ay} {r2:Ay}:EK (SR.c r0::SR.c r1::SR.c r2::rs.map SR.c) (r0::r1::r2::rs):= .cons (.cons (.cons (EK.map _)))
theorem al4 {r0:Ay} {r1:Ay} {r2:Ay} {r3:Ay}:EK (SR.c r0::SR.c r1::SR.c r2::SR.c r3::rs.map SR.c) (r0::r1::r2::r3::rs):= .cons (.cons (.cons (.cons (EK.map _))))
theorem al5 {r0:Ay} {r1:Ay} {r2:Ay} {r3:Ay} {r4:Ay}:EK (SR.c r0::SR.c r1::SR.c r2::SR.c r3::SR.c r4::rs.map SR.c) (r0::r1::r2::r3::r4::rs):= .cons (.cons (.cons (.cons (.cons (EK.map _)))))
theorem mo {r0:Ay} {r1:Ay} {r2:Ay} {r3:Ay} {r4:Ay} {r5:Ay}:EK (SR.c r0::SR.c r1::SR.c r2::SR.c r3::SR.c r4::SR.c r5::rs.map SR.c) (r0::r1::r2::r3::r4::r5::rs):= .cons (.cons (.cons (.cons (.cons (.cons (EK.map _))))))
theorem al7 {r0:Ay} {r1:Ay} {r2:Ay} {r3:Ay} {r4:Ay} {r5:Ay} {r6:Ay}:EK (SR.c r0::SR.c r1::SR.c r2::SR.c r3::SR.c r4::SR.c r5::SR.c r6::rs.map SR.c) (r0::r1::r2::r3::r4::r5::r6::rs):= .cons (.cons (.cons (.cons (.cons (.cons (.cons (EK.map _)))))))
theorem fo {g : Func} {c : Code} {res : Pr} (hf : P.funcs[f]? = some g) (hb : g.body = some c) (hname : ((g.name == "runtime.NumGoroutine") = false ∧ Nat.ble ps.length g.ntmps = true)) (h : ∀ M0 w0, Tr (Yr P) g.ntmps (L2 0 ps) (Bse M0 w0) c (bodyPost P g (Q9 M0 w0 res))) : A_ P f ps res := A_.of hf hb hname.1 (Nat.le_of_ble_eq_true hname.2) h
section
variable {M0:Av} {w0:World} {S:Nat→Prop} {rs:List SR} {KX:List X→Env→List SR→Prop}
theorem xId {l:List Oper} (h:Cx P M0 w0 S n ops l E rs KX):Cx P M0 w0 S n ops l E rs KX:=h
theorem xK (k:Nat) (_:opk o=k) (h:Cx P M0 w0 S n ops (o::r) E rs KX):Cx P M0 w0 S n ops (o::r) E rs KX:=h
theorem xG (k:Nat) (_:grp o=k) (h:Cx P M0 w0 S n ops (o::r) E rs KX):Cx P M0 w0 S n ops (o::r) E rs KX:=h
end
theorem cId {l:List Oper} (h:Ch P n I ops l E K):Ch P n I ops l E K:=h
theorem rId {c:Code} (h:Tr L n E I c Q):Tr L n E I c Q:=h
theorem fId {e:Exit} (h:Fin n E I Q e):Fin n E I Q e:=h
theorem tId {l:List Oper} (h:TO P n ops l E I Q):TO P n ops l E I Q:=h
theorem ac {G H:Prop} (k:G) (h:mm G→H:=by
 intro k
 repeat1' first
  |((with_reducible refine cId ?_);first
   |with_reducible refine Ch.nil ?_
   |(refine cP rfl ?_;first
    |(refine cS 1 rfl ?_;first
      |(refine cK 1 rfl ?_;refine cm rfl ?_)
      |(refine cK 2 rfl ?_;refine co rfl oF ?_)
      |(refine cK 3 rfl ?_;refine co rfl oL ?_)
      |(refine cK 4 rfl ?_;refine co rfl oB ?_))
    |(refine cS 2 rfl ?_;first
      |(refine cK 5 rfl ?_;refine co rfl oP ?_)
      |(refine cK 6 rfl ?_;refine co rfl oN ?_)
      |(refine cK 7 rfl ?_;refine co rfl oA ?_)
      |(refine cK 8 rfl ?_;refine co rfl oS ?_))
    |(refine cS 3 rfl ?_;first
      |(refine cK 9 rfl ?_;refine co rfl oC ?_)
      |(refine cK 10 rfl ?_;refine co rfl oU ?_)
      |(refine cK 11 rfl ?_;refine co rfl oO ?_)
      |(refine cK 12 rfl ?_;refine co rfl oE ?_)
      |(refine cK 13 rfl ?_;refine co rfl oM ?_)
      |(refine cK 14 rfl ?_;refine co rfl oD ?_)
      |(refine cK 15 rfl ?_;refine co rfl oI ?_)))
   |(refine cG rfl ?_;first
    |refine cu rfl ?_
    |refine cnt BO rfl ?_
    |refine cnf BO rfl ?_
    |(refine cS 1 rfl ?_;first
      |(refine cK 1 rfl ?_;refine OB FF rfl ?_)
      |(refine cK 2 rfl ?_;refine cy FF rfl oF ?_)
      |(refine cK 3 rfl ?_;refine cy FF rfl oL ?_)
      |(refine cK 4 rfl ?_;refine cy FF rfl oB ?_))
    |(refine cS 2 rfl ?_;first
      |(refine cK 5 rfl ?_;refine cy FF rfl oP ?_)
      |(refine cK 6 rfl ?_;refine cy FF rfl oN ?_)
      |(refine cK 7 rfl ?_;refine cy FF rfl oA ?_)
      |(refine cK 8 rfl ?_;refine cy FF rfl oS ?_))
    |(refine cS 3 rfl ?_;first
      |(refine cK 9 rfl ?_;refine cy FF rfl oC ?_)
      |(refine cK 10 rfl ?_;refine cy FF rfl oU ?_)
      |(refine cK 11 rfl ?_;refine cy FF rfl oO ?_)
      |(refine cK 12 rfl ?_;refine cy FF rfl oE ?_)
      |(refine cK 13 rfl ?_;refine cy FF rfl oM ?_)
      |(refine cK 14 rfl ?_;refine cy FF rfl oD ?_)
      |(refine cK 15 rfl ?_;refine cy FF rfl oI ?_))
    |refine cnd rfl rfl ?_))
  |((with_reducible refine rId ?_);first
   |with_reducible refine Tr.seq ?_
   |with_reducible refine Tr.Bq ?_
   |refine Tr.rm CS ?_
   |with_reducible refine Tr.skip ?_
   |with_reducible refine Tr.block ?_
   |with_reducible refine Tr.ret ?_
   |with_reducible refine Tr.exit ?_
   |refine Tr.ct rfl ?_
   |refine Tr.cf rfl ?_)
  |((with_reducible refine fId ?_);first
   |with_reducible refine Fin.AF ?_
   |with_reducible refine Fin.AP ?_
   |with_reducible refine Fin.Ai ?_
   |with_reducible refine Fin.BB ?_
   |refine Fin.My rfl ?_
   |with_reducible refine Fin.block ?_
   |refine Fin.tI rfl (Bt.Dx _ _) rfl ?_)
 first|with_reducible refine Fin.go ?_|with_reducible refine cId ?_|with_reducible refine tId ?_|with_reducible refine rId ?_|refine Fin.go ?_|skip
 exact k.k):H:=h ⟨k⟩
theorem ao {G H:Prop} (k:G) (h:mm G→H:=by
 intro k
 repeat1' first
  |((with_reducible refine tId ?_);first
   |with_reducible refine TO.nil ?_
   |(refine tG 1 rfl ?_;first
     |(refine tK 1 rfl ?_;refine tm rfl ?_)
     |(refine tK 2 rfl ?_;refine tp rfl oF ?_)
     |(refine tK 3 rfl ?_;refine tp rfl oL ?_)
     |(refine tK 4 rfl ?_;refine tp rfl oB ?_))
   |(refine tG 2 rfl ?_;first
     |(refine tK 5 rfl ?_;refine tp rfl oP ?_)
     |(refine tK 6 rfl ?_;refine tp rfl oN ?_)
     |(refine tK 7 rfl ?_;refine tp rfl oA ?_)
     |(refine tK 8 rfl ?_;refine tp rfl oS ?_))
   |(refine tG 3 rfl ?_;first
     |(refine tK 9 rfl ?_;refine tp rfl oC ?_)
     |(refine tK 10 rfl ?_;refine tp rfl oU ?_)
     |(refine tK 12 rfl ?_;refine tp rfl oE ?_)
     |(refine tK 13 rfl ?_;refine tp rfl oM ?_)
     |(refine tK 14 rfl ?_;refine tp rfl oD ?_)
     |(refine tK 15 rfl ?_;refine tp rfl oI ?_)))
  |((with_reducible refine rId ?_);first
   |with_reducible refine Tr.seq ?_
   |with_reducible refine Tr.BI ?_
   |with_reducible refine Tr.skip ?_
   |with_reducible refine Tr.block ?_
   |with_reducible refine Tr.ret ?_
   |with_reducible refine Tr.exit ?_)
  |((with_reducible refine fId ?_);first
   |with_reducible refine Fin.AF ?_
   |with_reducible refine Fin.AP ?_
   |with_reducible refine Fin.Ai ?_
   |with_reducible refine Fin.BB ?_
   |refine Fin.My rfl ?_
   |with_reducible refine Fin.block ?_)
 first|with_reducible refine Fin.go ?_|with_reducible refine cId ?_|with_reducible refine tId ?_|with_reducible refine rId ?_|refine Fin.go ?_|skip
 exact k.k):H:=h ⟨k⟩
theorem ap {G H:Prop} (k:G) (h:mm G→H:=by
 intro k
 repeat1' first
  |((with_reducible refine tId ?_);first
   |with_reducible refine TO.nil ?_
   |(refine tG 1 rfl ?_;first
     |(refine tK 1 rfl ?_;refine tm rfl ?_)
     |(refine tK 2 rfl ?_;refine tp rfl oF ?_)
     |(refine tK 3 rfl ?_;refine tp rfl oL ?_)
     |(refine tK 4 rfl ?_;refine tp rfl oB ?_))
   |(refine tG 2 rfl ?_;first
     |(refine tK 5 rfl ?_;refine tp rfl oP ?_)
     |(refine tK 6 rfl ?_;refine tp rfl oN ?_)
     |(refine tK 7 rfl ?_;refine tp rfl oA ?_)
     |(refine tK 8 rfl ?_;refine tp rfl oS ?_))
   |(refine tG 3 rfl ?_;first
     |(refine tK 9 rfl ?_;refine tp rfl oC ?_)
     |(refine tK 10 rfl ?_;refine tp rfl oU ?_)
     |(refine tK 12 rfl ?_;refine tp rfl oE ?_)
     |(refine tK 13 rfl ?_;refine tp rfl oM ?_)
     |(refine tK 14 rfl ?_;refine tp rfl oD ?_)
     |(refine tK 15 rfl ?_;refine tp rfl oI ?_))
   |(refine tK 16 rfl ?_;first
    |refine sa 0 ⟨rfl,rfl,rfl⟩ rfl rfl rfl ?_
    |refine TO.C0 0 rfl rfl (XP rfl rfl rfl rfl) ?_
    |refine sa 1 ⟨rfl,rfl,rfl⟩ rfl rfl rfl ?_
    |refine TO.C0 1 rfl rfl (XP rfl rfl rfl rfl) ?_
    |refine sa 2 ⟨rfl,rfl,rfl⟩ rfl rfl rfl ?_
    |refine TO.C0 2 rfl rfl (XP rfl rfl rfl rfl) ?_
    |refine sa 3 ⟨rfl,rfl,rfl⟩ rfl rfl rfl ?_
    |refine TO.C0 3 rfl rfl (XP rfl rfl rfl rfl) ?_))
  |((with_reducible refine rId ?_);first
   |with_reducible refine Tr.seq ?_
   |with_reducible refine Tr.BI ?_
   |with_reducible refine Tr.skip ?_
   |with_reducible refine Tr.block ?_
   |with_reducible refine Tr.ret ?_
   |with_reducible refine Tr.exit ?_)
  |((with_reducible refine fId ?_);first
   |with_reducible refine Fin.AF ?_
   |with_reducible refine Fin.AP ?_
   |with_reducible refine Fin.Ai ?_
   |with_reducible refine Fin.BB ?_
   |refine Fin.My rfl ?_
   |with_reducible refine Fin.block ?_)
 first|with_reducible refine Fin.go ?_|with_reducible refine cId ?_|with_reducible refine tId ?_|with_reducible refine rId ?_|refine Fin.go ?_|skip
 exact k.k):H:=h ⟨k⟩
theorem ax {G H:Prop} (k:G) (h:mm G→H:=by
 intro k
 repeat ((with_reducible refine xId ?_);first
   |(refine xG 1 rfl ?_;first
     |(refine xK 1 rfl ?_;refine xm rfl ?_)
     |(refine xK 2 rfl ?_;refine xo rfl (fun _=>oF) ?_)
     |(refine xK 3 rfl ?_;refine xo rfl (fun _=>oL) ?_)
     |(refine xK 4 rfl ?_;refine xo rfl (fun _=>oB) ?_))
   |(refine xG 2 rfl ?_;first
     |(refine xK 5 rfl ?_;refine xo rfl (fun _=>oP) ?_)
     |(refine xK 6 rfl ?_;refine xo rfl (fun _=>oN) ?_)
     |(refine xK 7 rfl ?_;refine xo rfl (fun _=>oA) ?_)
     |(refine xK 8 rfl ?_;refine xo rfl (fun _=>oS) ?_))
   |(refine xG 3 rfl ?_;first
     |(refine xK 9 rfl ?_;refine xo rfl (fun _=>oC) ?_)
     |(refine xK 10 rfl ?_;refine xo rfl (fun _=>oU) ?_)
     |(refine xK 11 rfl ?_;refine xo rfl (fun _=>oO) ?_)
     |(refine xK 12 rfl ?_;refine xo rfl (fun _=>oE) ?_)
     |(refine xK 13 rfl ?_;refine xo rfl (fun _=>oM) ?_)
     |(refine xK 14 rfl ?_;refine xo rfl (fun _=>oD) ?_))
   |(refine xK 3 rfl ?_;first
    |refine GV 0 rfl rfl (MA rfl rfl rfl) ?_
    |refine GV 0 rfl rfl (MB rfl rfl rfl rfl) ?_
    |refine GV 1 rfl rfl (MA rfl rfl rfl) ?_
    |refine GV 1 rfl rfl (MB rfl rfl rfl rfl) ?_
    |refine GV 2 rfl rfl (MA rfl rfl rfl) ?_
    |refine GV 2 rfl rfl (MB rfl rfl rfl rfl) ?_
    |refine GV 3 rfl rfl (MA rfl rfl rfl) ?_
    |refine GV 3 rfl rfl (MB rfl rfl rfl rfl) ?_
    |refine GV 4 rfl rfl (MA rfl rfl rfl) ?_
    |refine GV 4 rfl rfl (MB rfl rfl rfl rfl) ?_))
 exact k.k):H:=h ⟨k⟩
theorem ay {G H:Prop} (k:G) (h:mm G→H:=by
 intro k
 repeat ((with_reducible refine xId ?_);first
   |(refine xG 1 rfl ?_;first
     |(refine xK 1 rfl ?_;refine xm rfl ?_)
     |(refine xK 2 rfl ?_;refine xo rfl (fun _=>oF) ?_)
     |(refine xK 3 rfl ?_;refine xo rfl (fun _=>oL) ?_)
     |(refine xK 4 rfl ?_;refine xo rfl (fun _=>oB) ?_))
   |(refine xG 2 rfl ?_;first
     |(refine xK 5 rfl ?_;refine xo rfl (fun _=>oP) ?_)
     |(refine xK 6 rfl ?_;refine xo rfl (fun _=>oN) ?_)
     |(refine xK 7 rfl ?_;refine xo rfl (fun _=>oA) ?_)
     |(refine xK 8 rfl ?_;refine xo rfl (fun _=>oS) ?_))
   |(refine xG 3 rfl ?_;first
     |(refine xK 9 rfl ?_;refine xo rfl (fun _=>oC) ?_)
     |(refine xK 10 rfl ?_;refine xo rfl (fun _=>oU) ?_)
     |(refine xK 11 rfl ?_;refine xo rfl (fun _=>oO) ?_)
     |(refine xK 12 rfl ?_;refine xo rfl (fun _=>oE) ?_)
     |(refine xK 13 rfl ?_;refine xo rfl (fun _=>oM) ?_)
     |(refine xK 14 rfl ?_;refine xo rfl (fun _=>oD) ?_))
   |(refine xK 3 rfl ?_;first
    |refine GV 0 rfl rfl (MA rfl rfl rfl) ?_
    |refine GV 0 rfl rfl (MB rfl rfl rfl rfl) ?_
    |refine GV 1 rfl rfl (MA rfl rfl rfl) ?_
    |refine GV 1 rfl rfl (MB rfl rfl rfl rfl) ?_
    |refine GV 2 rfl rfl (MA rfl rfl rfl) ?_
    |refine GV 2 rfl rfl (MB rfl rfl rfl rfl) ?_
    |refine GV 3 rfl rfl (MA rfl rfl rfl) ?_
    |refine GV 3 rfl rfl (MB rfl rfl rfl rfl) ?_
    |refine GV 4 rfl rfl (MA rfl rfl rfl) ?_
    |refine GV 4 rfl rfl (MB rfl rfl rfl rfl) ?_)
   |(refine xK 16 rfl ?_;first
    |refine Cx.C0 0 rfl rfl (XP rfl rfl rfl rfl) ?_
    |refine Cx.C0 1 rfl rfl (XP rfl rfl rfl rfl) ?_
    |refine Cx.C0 2 rfl rfl (XP rfl rfl rfl rfl) ?_
    |refine Cx.C0 3 rfl rfl (XP rfl rfl rfl rfl) ?_))
 exact k.k):H:=h ⟨k⟩
theorem Ch.cg {l:List Oper} {b v:Bool} {g j:Nat} {pt pf:Prop} [ht:FM b true pt] [hf:FM b false pf] (_:o.guard=some (j,v)) (_:(ops[j]?.bind (·.dst))=some g) (hb:E.lookup g=some (bool b)) (k:b=true→pt→Ch P n I ops (o::l) E K) (k':b=false→pf→Ch P n I ops (o::l) E K):Ch P n I ops (o::l) E K:=Ch.cases g hb (fun h=>k h (ht.Gp h)) (fun h=>k' h (hf.Gp h))
theorem a2 {G H:Prop} (k:G) (h:mm G→H:=by
 intro k
 iterate 2 refine ac ?_
 exact k.k):H:=h ⟨k⟩
theorem a3 {G H:Prop} (k:G) (h:mm G→H:=by
 intro k
 iterate 3 refine ac ?_
 exact k.k):H:=h ⟨k⟩
theorem an {G L H:Prop} (k:G) (l:L) (h:mm G→mm L→H:=by
 intro k l
 refine ac ?_
 refine Tr.cn rfl ?_ ?_
 exact k.k
 exact l.k):H:=h ⟨k⟩ ⟨l⟩
theorem ag {G L H:Prop} (k:G) (l:L) (h:mm G→mm L→H:=by
 intro k l
 refine ac ?_
 refine Ch.cg rfl rfl rfl ?_ ?_
 exact k.k
 exact l.k):H:=h ⟨k⟩ ⟨l⟩
theorem Lr {p:Pr}:Pr.le p p:=Pr.le_refl p
theorem Vo {p:Pr} [One p] (h:C7 E x=some p):VL E x (DP [p]):=VL.le (vl h) (AO p)
theorem Va (h:C7 E x=some (agg ps)):VL E x (DP ps):=VL.le (vl h) (Ah ps)
theorem Nb {a b:Nat} (h:Nat.ble a b=true):a≤b:=Nat.le_of_ble_eq_true h
theorem Kf {z:Nat} {l:List (List Pr)} (h:C7 E x=some (full z l)):VL E x (slice z l):=⟨_,h,BF z l⟩
theorem Ka (h:C7 E x=some (Ag v p)):VL E x (is v):=⟨_,h,HE v p⟩
theorem Kb (h:C7 E x=some (Ag v p)):VL E x p:=⟨_,h,At v p⟩
theorem Ce {p:Pr} [One p] (h:C7 E x=some p:=by exact rfl):VL E x (DP [p]):=Vo h
theorem Cu (h:C7 E x=some (agg ps):=by exact rfl):VL E x (DP ps):=Va h
theorem Ea {z:Nat} {l:List (List Pr)} (h:C7 E x=some (full z l):=by exact rfl):VL E x (slice z l):=Kf h
theorem Gi (h:C7 E x=some (Ag v p):=by exact rfl):VL E x (is v):=Ka h
theorem Fo (h:C7 E x=some (Ag v p):=by exact rfl):VL E x p:=Kb h
theorem Tl {M0:Av} {S:Nat→Prop} (hg:o.guard=none) (hd:o.dst=some d) (hn:Nat.blt d n=true) (ho:o.op= .alloc T) (hz:BM P T=some zs) (h1':zs.all (·.oneCell')=true) (k:∀b,TO P n ops r ((d,is (.pointer (some ⟨b,0,none⟩)))::E) (Hp M0 w0 S (AE true b T (zs.map is)::rs)) Q):TO P n ops (o::r) E (Hp M0 w0 S rs) Q:=TO.alloc hg hd (I_ hn) ho hz h1' k
theorem B7 {M0:Av} {S:Nat→Prop} {t:TypeId} {sz bytes:Nat} {R:SR} (hg:o.guard=none) (hd:o.dst=some d) (hn:Nat.blt d n=true) (ho:o.op= .call { callee:= .builtin .append,args:= #[x,y],argTypes:= #[t,t] }) (ht:P.underlying t=some (.slice e)) (hz:Az P e=some sz) (hby:Br P e=some bytes) (D8:BM P e=some zs) (hx:VL E x (slice sz rows)) (hy:VL E y (slice sz rows')) (hR:∀M w (a:Act),Cb M w E o a→R.at_ a=Ax e sz (a.eval x)∨(R.at_ a=Bo∧Db (a.eval x)=none)) (hzl:zs.length=sz:=by rfl) (hsz:Nat.blt 0 sz=true:=by rfl) (Gc:rows.length+rows'.length≤maxLen:=by simp only [List.length_map,List.length_append,List.length_cons,List.length_nil,List.length_replicate,List.length_take,List.length_drop];unfold maxLen;omega) (hfit:(rows.length+rows'.length)*bytes≤140737488355328:=by simp only [List.length_map,List.length_append,List.length_cons,List.length_nil,List.length_replicate,List.length_take,List.length_drop];omega):DY P M0 w0 S n j R ⟨d,Ax e sz⟩ o E (slice sz (rows++rows')):=by grind [DK,I_]
end
end Cp
namespace Go.Proofs.YteomgekmipcdpaaGreatDoor
open Go Cp
instance AG3:TM Tryz.prog:=⟨mixed⟩
instance ALV:TV Tryz.prog 3 [.int .i64 0]:=⟨z3,zo3⟩
instance AJD:T1 Tryz.prog 3:=⟨BT⟩
instance AKt:TZ Tryz.prog 3 1:=⟨BJ⟩
instance AJE:T1 Tryz.prog 4:=⟨gQ⟩
instance AKu:TZ Tryz.prog 4 1:=⟨W9⟩
instance s_:TU Tryz.prog 4 .bool:=⟨Tryz.underlying4⟩
instance ALW:TV Tryz.prog 5 [.int .u8 0]:=⟨z5,zo5⟩
instance AJF:T1 Tryz.prog 5:=⟨ADh⟩
instance AKv:TZ Tryz.prog 5 1:=⟨Nq⟩
instance ALX:TV Tryz.prog 9 [.string (ByteArray.mk #[])]:=⟨z9,zo9⟩
instance AJG:T1 Tryz.prog 9:=⟨Ge⟩
instance AKw:TZ Tryz.prog 9 1:=⟨Hs⟩
instance tA:TU Tryz.prog 9 .string:=⟨Tryz.underlying9⟩
instance AG4:T1 Tryz.prog 22:=⟨dL⟩
instance AJH:TZ Tryz.prog 22 1:=⟨G0⟩
instance mq:TU Tryz.prog 22 (.slice 3):=⟨Tryz.underlying22⟩
instance AG5:T1 Tryz.prog 27:=⟨dM⟩
instance AJI:TZ Tryz.prog 27 1:=⟨ADi⟩
instance mu:TU Tryz.prog 27 (.slice 102):=⟨Tryz.underlying27⟩
instance AG6:T1 Tryz.prog 28:=⟨yP⟩
instance AJJ:TZ Tryz.prog 28 1:=⟨AIS⟩
instance mw:TU Tryz.prog 28 (.slice 109):=⟨Tryz.underlying28⟩
instance AG7:T1 Tryz.prog 29:=⟨ADj⟩
instance mz:TU Tryz.prog 29 (.slice 112):=⟨Tryz.underlying29⟩
instance AJK:TB Tryz.prog 31 (fun i=>(#[(0,1),(1,1),(2,1)]:Array (Nat×Nat))[i]?) (List.replicate 3 (.slice none 0 0)):=⟨ADk,Ic⟩
instance AG8:TA Tryz.prog 31:=⟨Gf⟩
instance AJL:TZ Tryz.prog 31 3:=⟨Fi⟩
instance AEo:TF Tryz.prog 31 0 0:=⟨RP⟩
instance AEp:TF Tryz.prog 31 1 1:=⟨lZ⟩
instance AEq:TF Tryz.prog 31 2 2:=⟨VM⟩
instance AG9:T1 Tryz.prog 32:=⟨ADl⟩
instance m8:TU Tryz.prog 32 (.slice 116):=⟨Tryz.underlying32⟩
instance AG_:T1 Tryz.prog 33:=⟨ld⟩
instance m9:TU Tryz.prog 33 (.slice 85):=⟨Tryz.underlying33⟩
instance AJM:TB Tryz.prog 35 (fun i=>(#[(0,1),(1,1),(2,1)]:Array (Nat×Nat))[i]?) (List.replicate 3 (.slice none 0 0)):=⟨zk,Jq⟩
instance AHA:TA Tryz.prog 35:=⟨EG⟩
instance AJN:TZ Tryz.prog 35 3:=⟨Cq⟩
instance AEr:TF Tryz.prog 35 0 0:=⟨lf⟩
instance AEs:TF Tryz.prog 35 1 1:=⟨zl⟩
instance AEt:TF Tryz.prog 35 2 2:=⟨lp⟩
instance AKx:TV Tryz.prog 38 [.slice none 0 0]:=⟨z38,AIW⟩
instance AHB:T1 Tryz.prog 38:=⟨yQ⟩
instance AJO:TZ Tryz.prog 38 1:=⟨HH⟩
instance m_:TU Tryz.prog 38 (.slice 3):=⟨Tryz.underlying38⟩
instance AHC:T1 Tryz.prog 40:=⟨ADm⟩
instance AJP:TB Tryz.prog 48 (fun i=>(#[(0,1),(1,1),(2,1),(3,1),(4,1)]:Array (Nat×Nat))[i]?) (List.replicate 5 (.slice none 0 0)):=⟨tV,TE⟩
instance AHD:TA Tryz.prog 48:=⟨Tu⟩
instance AJQ:TZ Tryz.prog 48 5:=⟨XA⟩
instance AEu:TF Tryz.prog 48 0 0:=⟨zn⟩
instance AEv:TF Tryz.prog 48 1 1:=⟨zo⟩
instance AEw:TF Tryz.prog 48 2 2:=⟨lq⟩
instance AEx:TF Tryz.prog 48 3 3:=⟨zq⟩
instance AEy:TF Tryz.prog 48 4 4:=⟨zu⟩
instance AHE:T1 Tryz.prog 51:=⟨ADn⟩
instance AJR:TZ Tryz.prog 51 1:=⟨lu⟩
instance nA:TU Tryz.prog 51 (.slice 9):=⟨Tryz.underlying51⟩
instance AJS:TB Tryz.prog 55 (fun i=>(#[(0,1),(1,1)]:Array (Nat×Nat))[i]?) (List.replicate 2 (.int .i64 0)):=⟨zv,Ec⟩
instance AKy:TV Tryz.prog 55 (List.replicate 2 (.int .i64 0)):=⟨K2,Ec⟩
instance AHF:TA Tryz.prog 55:=⟨Ht⟩
instance AJT:TZ Tryz.prog 55 2:=⟨Jr⟩
instance AEz:TF Tryz.prog 55 0 0:=⟨zw⟩
instance AE0:TF Tryz.prog 55 1 1:=⟨zx⟩
instance AJU:TB Tryz.prog 57 (fun i=>(#[(0,1),(1,1),(2,1),(3,1),(4,1),(5,1),(6,1),(7,2),(9,1),(10,1)]:Array (Nat×Nat))[i]?) [.int .i64 0,.string (ByteArray.mk #[]),.int .i64 0,.int .i64 0,.int .i64 0,.int .i64 0,.string (ByteArray.mk #[]),.int .i64 0,.int .i64 0,.int .i64 0,.string (ByteArray.mk #[])]:=⟨AIX,ZX⟩
instance AKz:TV Tryz.prog 57 [.int .i64 0,.string (ByteArray.mk #[]),.int .i64 0,.int .i64 0,.int .i64 0,.int .i64 0,.string (ByteArray.mk #[]),.int .i64 0,.int .i64 0,.int .i64 0,.string (ByteArray.mk #[])]:=⟨z57,ZX⟩
instance AHG:TA Tryz.prog 57:=⟨J9⟩
instance AJV:TZ Tryz.prog 57 11:=⟨HI⟩
instance AE1:TF Tryz.prog 57 0 0:=⟨zz⟩
instance AE2:TF Tryz.prog 57 1 1:=⟨lz⟩
instance AE3:TF Tryz.prog 57 2 2:=⟨z7⟩
instance AE4:TF Tryz.prog 57 3 3:=⟨z8⟩
instance AE5:TF Tryz.prog 57 4 4:=⟨z_⟩
instance AE6:TF Tryz.prog 57 5 5:=⟨AAA⟩
instance AE7:TF Tryz.prog 57 6 6:=⟨AAB⟩
instance AE8:TF Tryz.prog 57 7 7:=⟨AAC⟩
instance AE9:TF Tryz.prog 57 8 9:=⟨AAD⟩
instance AE_:TF Tryz.prog 57 9 10:=⟨AAE⟩
instance AJW:TB Tryz.prog 60 (fun i=>(#[(0,1),(1,1)]:Array (Nat×Nat))[i]?) [.slice none 0 0,.int .i64 0]:=⟨AIY,AIZ⟩
instance AFA:TF Tryz.prog 60 0 0:=⟨AAF⟩
instance AFB:TF Tryz.prog 60 1 1:=⟨AAG⟩
instance AHH:T1 Tryz.prog 63:=⟨ADo⟩
instance nB:TU Tryz.prog 63 (.slice 250):=⟨Tryz.underlying63⟩
instance AJX:TB Tryz.prog 65 (fun i=>(#[(0,1)]:Array (Nat×Nat))[i]?) [.slice none 0 0]:=⟨tW,LR⟩
instance AHI:TA Tryz.prog 65:=⟨Dw⟩
instance AJY:TZ Tryz.prog 65 1:=⟨Cn⟩
instance AFC:TF Tryz.prog 65 0 0:=⟨l5⟩
instance AHJ:T1 Tryz.prog 68:=⟨ADp⟩
instance nC:TU Tryz.prog 68 (.slice 133):=⟨Tryz.underlying68⟩
instance AHK:TA Tryz.prog 70:=⟨yR⟩
instance AJZ:TZ Tryz.prog 70 3:=⟨ADq⟩
instance AFD:TF Tryz.prog 70 0 0:=⟨AAH⟩
instance AFE:TF Tryz.prog 70 1 1:=⟨AAI⟩
instance AFF:TF Tryz.prog 70 2 2:=⟨AAJ⟩
instance AHL:T1 Tryz.prog 72:=⟨ADs⟩
instance AHM:T1 Tryz.prog 73:=⟨yS⟩
instance AJa:TB Tryz.prog 75 (fun i=>(#[(0,1),(1,1)]:Array (Nat×Nat))[i]?) (List.replicate 2 (.slice none 0 0)):=⟨AId,AIe⟩
instance AHN:TA Tryz.prog 75:=⟨ADt⟩
instance AJb:TZ Tryz.prog 75 2:=⟨AIc⟩
instance AFG:TF Tryz.prog 75 0 0:=⟨AAK⟩
instance AFH:TF Tryz.prog 75 1 1:=⟨l6⟩
instance AJc:TB Tryz.prog 77 (fun i=>(#[(0,1),(1,1)]:Array (Nat×Nat))[i]?) [.slice none 0 0,.int .i64 0]:=⟨AIg,AIh⟩
instance AHO:TA Tryz.prog 77:=⟨ADu⟩
instance AJd:TZ Tryz.prog 77 2:=⟨AIf⟩
instance AJe:TB Tryz.prog 85 (fun i=>(#[(0,1),(1,1)]:Array (Nat×Nat))[i]?) (List.replicate 2 (.int .i64 0)):=⟨AIi,RQ⟩
instance AK0:TV Tryz.prog 85 (List.replicate 2 (.int .i64 0)):=⟨z85,RQ⟩
instance AHP:TA Tryz.prog 85:=⟨Jd⟩
instance AJf:TZ Tryz.prog 85 2:=⟨Dy⟩
instance AFI:TF Tryz.prog 85 0 0:=⟨AAL⟩
instance AFJ:TF Tryz.prog 85 1 1:=⟨AAM⟩
instance AK1:TV Tryz.prog 91 [.slice none 0 0]:=⟨z91,AIj⟩
instance AHQ:T1 Tryz.prog 91:=⟨ADv⟩
instance AJg:TZ Tryz.prog 91 1:=⟨AAN⟩
instance nD:TU Tryz.prog 91 (.slice 57):=⟨Tryz.underlying91⟩
instance nE:TU Tryz.prog 98 (.slice 22):=⟨Tryz.underlying98⟩
instance AFK:T1 Tryz.prog 100:=⟨l_⟩
instance AHR:TZ Tryz.prog 100 1:=⟨l9⟩
instance j7:TU Tryz.prog 100 (.slice 105):=⟨Tryz.underlying100⟩
instance AHS:TB Tryz.prog 102 (fun i=>(#[(0,1),(1,1),(2,1),(3,1),(4,1),(5,1),(6,1),(7,1),(8,1)]:Array (Nat×Nat))[i]?) [.string (ByteArray.mk #[]),.int .i64 0,.int .i64 0,.slice none 0 0,.bool false,.slice none 0 0,.slice none 0 0,.slice none 0 0,.bool false]:=⟨dN,Fj⟩
instance AFL:TA Tryz.prog 102:=⟨CK⟩
instance AHT:TZ Tryz.prog 102 9:=⟨Bj⟩
instance ACL:TF Tryz.prog 102 0 0:=⟨dO⟩
instance ACN:TF Tryz.prog 102 1 1:=⟨tX⟩
instance ACO:TF Tryz.prog 102 2 2:=⟨dP⟩
instance ACP:TF Tryz.prog 102 3 3:=⟨P_⟩
instance ACQ:TF Tryz.prog 102 4 4:=⟨tY⟩
instance ACR:TF Tryz.prog 102 5 5:=⟨VN⟩
instance ACS:TF Tryz.prog 102 6 6:=⟨dQ⟩
instance ACT:TF Tryz.prog 102 7 7:=⟨dR⟩
instance ACU:TF Tryz.prog 102 8 8:=⟨tZ⟩
instance AFM:T1 Tryz.prog 103:=⟨AAO⟩
instance AHU:TZ Tryz.prog 103 1:=⟨ADw⟩
instance j8:TU Tryz.prog 103 (.slice 171):=⟨Tryz.underlying103⟩
instance AHV:TB Tryz.prog 105 (fun i=>(#[(0,2),(2,1),(3,1)]:Array (Nat×Nat))[i]?) [.int .i64 0,.int .i64 0,.int .i64 0,.slice none 0 0]:=⟨yT,Ow⟩
instance AJh:TV Tryz.prog 105 [.int .i64 0,.int .i64 0,.int .i64 0,.slice none 0 0]:=⟨z105,Ow⟩
instance AFN:TA Tryz.prog 105:=⟨RR⟩
instance AHW:TZ Tryz.prog 105 4:=⟨ES⟩
instance ACV:TF Tryz.prog 105 0 0:=⟨td⟩
instance ACW:TF Tryz.prog 105 1 2:=⟨tg⟩
instance ACX:TF Tryz.prog 105 2 3:=⟨th⟩
instance AHX:TB Tryz.prog 109 (fun i=>(#[(0,1),(1,1)]:Array (Nat×Nat))[i]?) (List.replicate 2 (.int .i64 0)):=⟨ADx,XB⟩
instance AJi:TV Tryz.prog 109 (List.replicate 2 (.int .i64 0)):=⟨z109,XB⟩
instance AFO:TA Tryz.prog 109:=⟨RS⟩
instance AHY:TZ Tryz.prog 109 2:=⟨FO⟩
instance ACY:TF Tryz.prog 109 0 0:=⟨tj⟩
instance ACZ:TF Tryz.prog 109 1 1:=⟨tq⟩
instance AFP:T1 Tryz.prog 110:=⟨AAP⟩
instance j9:TU Tryz.prog 110 (.slice 176):=⟨Tryz.underlying110⟩
instance AHZ:TB Tryz.prog 112 (fun i=>(#[(0,1),(1,1),(2,1),(3,1),(4,1)]:Array (Nat×Nat))[i]?) [.string (ByteArray.mk #[]),.int .i64 0,.int .i64 0,.slice none 0 0,.int .i64 0]:=⟨ADy,XC⟩
instance AJj:TV Tryz.prog 112 [.string (ByteArray.mk #[]),.int .i64 0,.int .i64 0,.slice none 0 0,.int .i64 0]:=⟨VP,XC⟩
instance AFQ:TA Tryz.prog 112:=⟨VO⟩
instance AHa:TZ Tryz.prog 112 5:=⟨Hu⟩
instance ACa:TF Tryz.prog 112 0 0:=⟨tu⟩
instance ACb:TF Tryz.prog 112 1 1:=⟨tv⟩
instance ACc:TF Tryz.prog 112 2 2:=⟨tw⟩
instance ACd:TF Tryz.prog 112 3 3:=⟨VQ⟩
instance ACe:TF Tryz.prog 112 4 4:=⟨t_⟩
instance AFR:TA Tryz.prog 116:=⟨Gr⟩
instance AHb:TZ Tryz.prog 116 8:=⟨Cg⟩
instance ACf:TF Tryz.prog 116 0 0:=⟨uA⟩
instance ACg:TF Tryz.prog 116 1 1:=⟨uB⟩
instance ACh:TF Tryz.prog 116 2 2:=⟨uC⟩
instance ACi:TF Tryz.prog 116 3 3:=⟨uD⟩
instance ACj:TF Tryz.prog 116 4 4:=⟨uE⟩
instance AHc:TB Tryz.prog 131 (fun i=>(#[(0,1),(1,1)]:Array (Nat×Nat))[i]?) (List.replicate 2 (.int .i64 0)):=⟨ADz,AD0⟩
instance ACk:TF Tryz.prog 131 0 0:=⟨uF⟩
instance ACl:TF Tryz.prog 131 1 1:=⟨uG⟩
instance AJk:TV Tryz.prog 133 [.int .i64 0,.int .i64 0,.slice none 0 0]:=⟨gR,RU⟩
instance AHd:TZ Tryz.prog 133 3:=⟨Ie⟩
instance ACm:TF Tryz.prog 133 0 0:=⟨uH⟩
instance ACn:TF Tryz.prog 133 1 2:=⟨uI⟩
instance AFS:T1 Tryz.prog 136:=⟨VR⟩
instance AFT:T1 Tryz.prog 142:=⟨JD⟩
instance AFU:T1 Tryz.prog 143:=⟨VS⟩
instance j_:TU Tryz.prog 143 (.slice 142):=⟨Tryz.underlying143⟩
instance ACo:TF Tryz.prog 145 0 0:=⟨uJ⟩
instance ACp:TF Tryz.prog 145 1 1:=⟨dS⟩
instance AFV:T1 Tryz.prog 157:=⟨AAQ⟩
instance kA:TU Tryz.prog 159 (.slice 163):=⟨Tryz.underlying159⟩
instance AHe:TB Tryz.prog 163 (fun i=>(#[(0,1),(1,1),(2,1),(3,1)]:Array (Nat×Nat))[i]?) [.int .i64 0,.slice none 0 0,.slice none 0 0,.slice none 0 0]:=⟨AD8,dV⟩
instance AJl:TV Tryz.prog 163 [.int .i64 0,.slice none 0 0,.slice none 0 0,.slice none 0 0]:=⟨uK,dV⟩
instance AHf:TZ Tryz.prog 163 4:=⟨RV⟩
instance ACq:TF Tryz.prog 163 0 0:=⟨uL⟩
instance ACr:TF Tryz.prog 163 1 1:=⟨uM⟩
instance ACs:TF Tryz.prog 163 2 2:=⟨uN⟩
instance ACt:TF Tryz.prog 163 3 3:=⟨uO⟩
instance kB:TU Tryz.prog 165 (.slice 51):=⟨Tryz.underlying165⟩
instance AHg:TB Tryz.prog 169 (fun i=>(#[(0,1),(1,1)]:Array (Nat×Nat))[i]?) (List.replicate 2 (.int .i64 0)):=⟨AD_,AEA⟩
instance AFW:TA Tryz.prog 169:=⟨AAR⟩
instance AHh:TZ Tryz.prog 169 2:=⟨AD9⟩
instance ACu:TF Tryz.prog 169 0 0:=⟨uP⟩
instance ACv:TF Tryz.prog 169 1 1:=⟨uQ⟩
instance AJm:TV Tryz.prog 171 [.int .i64 0,.string (ByteArray.mk #[]),.string (ByteArray.mk #[]),.int .i64 0,.int .i64 0,.int .i64 0,.int .i64 0,.int .i64 0,.int .i64 0,.int .i64 0,.bool false,.int .i64 0,.slice none 0 0,.int .i64 0,.int .i64 0]:=⟨z171,RW⟩
instance AFX:TA Tryz.prog 171:=⟨OE⟩
instance AHi:TZ Tryz.prog 171 15:=⟨F2⟩
instance ACw:TF Tryz.prog 171 0 0:=⟨uR⟩
instance ACx:TF Tryz.prog 171 1 1:=⟨uS⟩
instance AAm:TF Tryz.prog 171 10 12:=⟨mD⟩
instance AAn:TF Tryz.prog 171 11 13:=⟨mE⟩
instance ACy:TF Tryz.prog 171 2 2:=⟨uT⟩
instance ACz:TF Tryz.prog 171 3 3:=⟨uU⟩
instance AC0:TF Tryz.prog 171 4 5:=⟨uV⟩
instance AC1:TF Tryz.prog 171 5 6:=⟨uW⟩
instance AC2:TF Tryz.prog 171 6 8:=⟨uX⟩
instance AC3:TF Tryz.prog 171 7 9:=⟨uY⟩
instance AC4:TF Tryz.prog 171 8 10:=⟨uZ⟩
instance AC5:TF Tryz.prog 171 9 11:=⟨uc⟩
instance kC:TU Tryz.prog 174 (.slice 55):=⟨Tryz.underlying174⟩
instance AHj:TB Tryz.prog 176 (fun i=>(#[(0,2),(2,1)]:Array (Nat×Nat))[i]?) (List.replicate 3 (.int .i64 0)):=⟨AED,yY⟩
instance AJn:TV Tryz.prog 176 (List.replicate 3 (.int .i64 0)):=⟨AAS,yY⟩
instance AHk:TZ Tryz.prog 176 3:=⟨J_⟩
instance AC6:TF Tryz.prog 176 0 0:=⟨ud⟩
instance AC7:TF Tryz.prog 176 1 2:=⟨ue⟩
instance AFY:T1 Tryz.prog 191:=⟨AAT⟩
instance AFZ:T1 Tryz.prog 213:=⟨AAU⟩
instance AHl:TZ Tryz.prog 213 1:=⟨AEG⟩
instance kD:TU Tryz.prog 213 (.slice 5):=⟨Tryz.underlying213⟩
instance kE:TU Tryz.prog 223 (.slice 91):=⟨Tryz.underlying223⟩
instance AHm:TB Tryz.prog 233 (fun i=>(#[(0,1),(1,1),(2,2),(4,2),(6,2),(8,2),(10,1),(11,1)]:Array (Nat×Nat))[i]?) [.int .i64 0,.string (ByteArray.mk #[]),.int .i64 0,.int .i64 0,.int .i64 0,.int .i64 0,.int .i64 0,.int .i64 0,.int .i64 0,.int .i64 0,.int .i64 0,.int .i64 0]:=⟨dW,Je⟩
instance AFa:TA Tryz.prog 233:=⟨JE⟩
instance AHn:TZ Tryz.prog 233 12:=⟨Gg⟩
instance AC8:TF Tryz.prog 233 2 2:=⟨uf⟩
instance AC9:TF Tryz.prog 233 3 4:=⟨ug⟩
instance AC_:TF Tryz.prog 233 4 6:=⟨uh⟩
instance ADA:TF Tryz.prog 233 5 8:=⟨uj⟩
instance ADB:TF Tryz.prog 233 6 10:=⟨uk⟩
instance ADC:TF Tryz.prog 233 7 11:=⟨um⟩
instance AHo:TB Tryz.prog 248 (fun i=>(#[(0,1),(1,1)]:Array (Nat×Nat))[i]?) (List.replicate 2 (.int .i64 0)):=⟨Ty,Fl⟩
instance AJo:TV Tryz.prog 248 (List.replicate 2 (.int .i64 0)):=⟨Js,Fl⟩
instance AFb:TA Tryz.prog 248:=⟨Cz⟩
instance AHp:TZ Tryz.prog 248 2:=⟨CG⟩
instance ADD:TF Tryz.prog 248 1 1:=⟨uo⟩
instance AHq:TB Tryz.prog 250 (fun i=>(#[(0,1),(1,1),(2,2)]:Array (Nat×Nat))[i]?) [.int .i64 0,.slice none 0 0,.int .i64 0,.int .i64 0]:=⟨dY,RY⟩
instance AJp:TV Tryz.prog 250 [.int .i64 0,.slice none 0 0,.int .i64 0,.int .i64 0]:=⟨uq,RY⟩
instance AHr:TZ Tryz.prog 250 4:=⟨F3⟩
instance kG:TU Tryz.prog 254 (.slice 257):=⟨Tryz.underlying254⟩
instance AJq:TV Tryz.prog 257 [.slice none 0 0]:=⟨AEK,AEJ⟩
instance AFc:T1 Tryz.prog 257:=⟨AAV⟩
instance AHs:TZ Tryz.prog 257 1:=⟨dZ⟩
instance kH:TU Tryz.prog 257 (.slice 38):=⟨Tryz.underlying257⟩
instance AHt:TB Tryz.prog 282 (fun i=>(#[(0,1),(1,1),(2,1),(3,1),(4,1)]:Array (Nat×Nat))[i]?) [.string (ByteArray.mk #[]),.int .i64 0,.int .i64 0,.slice none 0 0,.slice none 0 0]:=⟨Ef,D9⟩
instance AHu:TZ Tryz.prog 282 5:=⟨Tz⟩
instance ADE:TF Tryz.prog 282 1 1:=⟨ur⟩
instance ADF:TF Tryz.prog 282 2 2:=⟨uu⟩
instance ADG:TF Tryz.prog 282 3 3:=⟨uv⟩
instance ADH:TF Tryz.prog 282 4 4:=⟨uw⟩
instance AHv:TB Tryz.prog 288 (fun i=>some (i*1,1)) (List.replicate 400 (.int .i64 0)):=⟨AEL,AEM⟩
instance AFd:T1 Tryz.prog 302:=⟨mF⟩
instance AHw:TZ Tryz.prog 302 1:=⟨AEN⟩
instance AHx:TB Tryz.prog 304 (fun i=>(#[(0,1),(1,1),(2,1),(3,1)]:Array (Nat×Nat))[i]?) [.int .i64 0,.slice none 0 0,.bool false,.slice none 0 0]:=⟨mG,Lj⟩
instance AFe:TA Tryz.prog 304:=⟨DQ⟩
instance AHy:TZ Tryz.prog 304 4:=⟨Ck⟩
instance ADI:TF Tryz.prog 304 0 0:=⟨ux⟩
instance ADJ:TF Tryz.prog 304 1 1:=⟨uy⟩
instance ADK:TF Tryz.prog 304 2 2:=⟨uz⟩
instance ADL:TF Tryz.prog 304 3 3:=⟨dc⟩
instance AHz:TB Tryz.prog 309 (fun i=>(#[(0,1),(1,1)]:Array (Nat×Nat))[i]?) [.string (ByteArray.mk #[]),.int .i64 0]:=⟨AEO,yc⟩
instance AJr:TV Tryz.prog 309 [.string (ByteArray.mk #[]),.int .i64 0]:=⟨AIl,yc⟩
instance AH0:TZ Tryz.prog 309 2:=⟨ya⟩
instance ADM:TF Tryz.prog 309 1 1:=⟨u5⟩
instance kI:TU Tryz.prog 310 (.slice 309):=⟨Tryz.underlying310⟩
instance AFf:T1 Tryz.prog 329:=⟨AAX⟩
instance AH1:TZ Tryz.prog 329 1:=⟨AEP⟩
instance AH2:TB Tryz.prog 337 (fun i=>some (i*5,5)) [.string (ByteArray.mk #[]),.int .i64 0,.int .i64 0,.slice none 0 0,.slice none 0 0,.string (ByteArray.mk #[]),.int .i64 0,.int .i64 0,.slice none 0 0,.slice none 0 0,.string (ByteArray.mk #[]),.int .i64 0,.int .i64 0,.slice none 0 0,.slice none 0 0,.string (ByteArray.mk #[]),.int .i64 0,.int .i64 0,.slice none 0 0,.slice none 0 0,.string (ByteArray.mk #[]),.int .i64 0,.int .i64 0,.slice none 0 0,.slice none 0 0,.string (ByteArray.mk #[]),.int .i64 0,.int .i64 0,.slice none 0 0,.slice none 0 0,.string (ByteArray.mk #[]),.int .i64 0,.int .i64 0,.slice none 0 0,.slice none 0 0,.string (ByteArray.mk #[]),.int .i64 0,.int .i64 0,.slice none 0 0,.slice none 0 0,.string (ByteArray.mk #[]),.int .i64 0,.int .i64 0,.slice none 0 0,.slice none 0 0,.string (ByteArray.mk #[]),.int .i64 0,.int .i64 0,.slice none 0 0,.slice none 0 0,.string (ByteArray.mk #[]),.int .i64 0,.int .i64 0,.slice none 0 0,.slice none 0 0,.string (ByteArray.mk #[]),.int .i64 0,.int .i64 0,.slice none 0 0,.slice none 0 0,.string (ByteArray.mk #[]),.int .i64 0,.int .i64 0,.slice none 0 0,.slice none 0 0,.string (ByteArray.mk #[]),.int .i64 0,.int .i64 0,.slice none 0 0,.slice none 0 0,.string (ByteArray.mk #[]),.int .i64 0,.int .i64 0,.slice none 0 0,.slice none 0 0,.string (ByteArray.mk #[]),.int .i64 0,.int .i64 0,.slice none 0 0,.slice none 0 0,.string (ByteArray.mk #[]),.int .i64 0,.int .i64 0,.slice none 0 0,.slice none 0 0,.string (ByteArray.mk #[]),.int .i64 0,.int .i64 0,.slice none 0 0,.slice none 0 0,.string (ByteArray.mk #[]),.int .i64 0,.int .i64 0,.slice none 0 0,.slice none 0 0,.string (ByteArray.mk #[]),.int .i64 0,.int .i64 0,.slice none 0 0,.slice none 0 0,.string (ByteArray.mk #[]),.int .i64 0,.int .i64 0,.slice none 0 0,.slice none 0 0,.string (ByteArray.mk #[]),.int .i64 0,.int .i64 0,.slice none 0 0,.slice none 0 0,.string (ByteArray.mk #[]),.int .i64 0,.int .i64 0,.slice none 0 0,.slice none 0 0]:=⟨AER,yf⟩
instance AH3:TZ Tryz.prog 337 115:=⟨yd⟩
instance kJ:TU Tryz.prog 362 (.slice 248):=⟨Tryz.underlying362⟩
instance AH4:TB Tryz.prog 373 (fun i=>some (i*1,1)) (List.replicate 2 (.int .i64 0)):=⟨AES,yh⟩
instance AH5:TZ Tryz.prog 373 2:=⟨yg⟩
instance AH6:TB Tryz.prog 374 (fun i=>some (i*2,2)) (List.replicate 10 (.int .i64 0)):=⟨AET,AEU⟩
end Go.Proofs.YteomgekmipcdpaaGreatDoor
namespace Go.Proofs.YteomgekmipcdpaaGreatDoor
open Go Go.RowKit Cp Go.Proofs.Tryz
abbrev ints (l:List Int):Pr:=slice 1 (l.map fun n=>[int n])
def idx {β:Type} (p:β→Bool) (l:List β):Int:=match l.findIdx? p with|some i=>i|none=> -1
theorem Ev {β:Type} {p:β→Bool} {l:List β} {k:Nat} {x:β} (hx:l[k]? =some x) (hp:p x=true) (h:∀j y,j<k→l[j]? =some y→p y=false):(k:Int)=idx p l:=by
 have:l.findIdx? p=some k:=by
  rw [List.findIdx?_eq_some_iff_getElem]
  have hk:k<l.length:=by rcases Nat.lt_or_ge k l.length with h|h;exact h;rw [List.getElem?_eq_none h] at hx;cases hx
  rw [List.getElem?_eq_getElem hk] at hx
  simp only [Option.some.injEq] at hx
  refine ⟨hk,by rw [hx];exact hp,fun j hj=> ?_⟩
  simpa using h j _ hj (List.getElem?_eq_getElem AA)
 unfold idx;rw [this]
theorem Gj {β:Type} {p:β→Bool} {l:List β} (h:∀j y,j<l.length→l[j]? =some y→p y=false):(-1:Int)=idx p l:=by
 have:l.findIdx? p=none:=by
  rw [List.findIdx?_eq_none_iff]
  intro x hx
  obtain ⟨j,hj,rfl⟩:=List.mem_iff_getElem.1 hx
  exact h j _ hj (List.getElem?_eq_getElem hj)
 unfold idx;rw [this]
theorem QD {β:Type} (p:β→Bool) (l:List β):decide (idx p l≥0)=l.any p:=by
 unfold idx
 cases h:l.findIdx? p with
 |none=>rw [List.findIdx?_eq_none_iff] at h;simp;intro x hx;simpa using h x hx
 |some i=>
  rw [List.findIdx?_eq_some_iff_getElem] at h
  obtain ⟨h1,h2,_⟩:=h
  simp
  exact ⟨_,List.getElem_mem h1,h2⟩
theorem Dm {β:Type} {p:β→Bool} {l:List β} {k:Nat} {x:β} (hx:l[k]? =some x) (hp:p x=false) (h:∀j y,j<k→l[j]? =some y→p y=false):∀j y,j<k+1→l[j]? =some y→p y=false:=by
 intro j y hj hy
 by_cases hjk:j=k
 · subst hjk;rw [hx] at hy;cases hy;exact hp
 · exact h j y AA hy
theorem XQ {l:List Int} {v:Int}  :A_ prog 131 [ints l,int v] (int (idx (fun x=>v==x) l)):=by
 refine fo func131 rfl ⟨rfl,rfl⟩ fun M0 w0=>(Tr.CN 0 rfl fun C3=> ?_)
 refine a2 ?_
 refine Tr.block (Tr.A0 _ (kk [7,1,0] rfl) (fun k:Nat=>[(8,int ((k:Nat):Int))]) (fun k:Nat=>k≤(l).length∧(∀j y,j<k→l[j]? =some y→(v==y)=false)) (fun k:Nat=>(l).length-k) 0 (⟨Nat.zero_le _,fun j y hj=>absurd hj AA⟩) kz ?_)
 rintro k ⟨BN,AX⟩
 refine ac ?_
 refine Tr.seq ?_
 refine Tr.cn rfl ?_ ?_<;>intro h1 q1
 have Ae:k<(l).length:=AJ h1
 obtain ⟨x,Af⟩:=at_ Ae
 · repeat' first|exact int_eq (Ev (p:=fun x=>v==x) Af BO AX)|exact Fin.AL (k+1) ⟨⟨Ae,Dm (p:=fun x=>v==x) Af BO AX⟩,by omega⟩ ⟨⟨_,rfl,AG k⟩,kz⟩|refine co rfl (AB rfl underlying22 BJ vq vq AA Bk) ?_|refine ac ?_|(refine Tr.cn rfl ?_ ?_<;>intro h q)
 have BC:k=(l).length:=by have:=AK h1;omega
 subst BC
 refine a3 ?_
 · exact int_eq (Gj AX)
theorem O1 {l:List Int} {v:Int}  :A_ prog 77 [ints l,int v] (bool (l.any fun x=>v==x)):=by
 refine fo func77 rfl ⟨rfl,rfl⟩ fun M0 w0=> ?_
 refine a2 ?_
 refine co rfl (Bu (XQ) rfl rfl rfl) ?_
 refine a2 ?_
 · exact bool_eq (QD _ l)
end Go.Proofs.YteomgekmipcdpaaGreatDoor
namespace Go.Proofs.YteomgekmipcdpaaGreatDoor
open Go Go.RowKit Cp Go.ChangeShapes Go.WideShapes Go.ChangeAt Go.Proofs.Tryz
theorem AJs:ownKnob Tryz.prog.godebug=none:=by kernel_rfl
theorem nF:laidOutB Tryz.prog=true:=by kernel_rfl
theorem u8_in {n:Int} (h:(Lit.int .u8 n).wf=true):0≤n∧n<256:=by
 simp only [Lit.wf,Bool.and_eq_true,decide_eq_true_eq] at h
 have h1:IntKind.u8.min=0:=rfl
 have h2:IntKind.u8.max=255:=rfl
 omega
theorem i64_in {n:Int} (h:(Lit.int .i64 n).wf=true):Oj n:=by
 simp only [Lit.wf,Bool.and_eq_true,decide_eq_true_eq] at h
 have h1:IntKind.i64.min= -9223372036854775808:=rfl
 have h2:IntKind.i64.max=9223372036854775807:=rfl
 unfold Oj;omega
theorem Zj {P:Program} {t e:TypeId} (ht:P.underlying t=some (.slice e)) (he:P.underlying e=some (.int .i64)) (hc:P.cellsOf e=1):M9 P t (fun l:List Int=>l.length≤maxLen∧∀n∈l,Oj n) (fun l=>[ints l]):=
 (W6 ht hc (gO he)).map id (fun _ h=>⟨h.2,fun n hn=>i64_in (h.1 n hn)⟩) (fun _=>rfl)
end Go.Proofs.YteomgekmipcdpaaGreatDoor
namespace Go.Proofs.YteomgekmipcdpaaGreatDoor
open Go Go.RowKit Cp Go.Proofs.Tryz
variable {I:Cc} {E:Env} {f:FuncId} {B8:Int} {rows rows':List (List Pr)} {ps:List Pr} {b d i j k m n:Nat} {o:Oper} {p q:Pr} {P:Program} {w:World}
abbrev DA (b:Nat) (s:DS):Ay:=W7 60 b s
theorem vJ (n:Int) {k:Int} (hk:1≤k):(n.tmod k+k).tmod k=n % k:=by
 have h1: -k<n.tmod k:=by have:=Int.lt_tmod_of_pos n (b:=k) AA;omega
 rw [Int.tmod_eq_emod_of_nonneg AA,Int.tmod_def,show n-k*n.tdiv k+k=n+k*(1-n.tdiv k) by rw [Int.mul_sub];omega,Int.add_mul_emod_self_left]
theorem AAo (n:Int) {k:Int} (hk:1≤k): -k<n.tmod k∧n.tmod k<k:=by
 have h1:=Int.lt_tmod_of_pos n (b:=k) AA
 have h2:=Int.tmod_lt_of_pos n (b:=k) AA
 omega
theorem vK {l:List Int}  :A_ prog 4 [ints l] (bool (decide (l.length≤400))):=by
 refine fo func4 rfl ⟨rfl,rfl⟩ fun M0 w0=> ?_
 refine a3 ?_
 · exact Pv
theorem AFg {n k:Int} (hk:1≤k) (hk2:k≤1000000000):A_ prog 57 [int n,int k] (int (n % k)):=by
 refine fo func57 rfl ⟨rfl,rfl⟩ fun M0 w0=> ?_
 have hm:=AAo n hk
 have hp:=vJ n hk
 · repeat' first|(exfalso;omega)|(refine int_eq ?_;exact hp)|refine co rfl (VD rfl vq vq AA) ?_|refine ac ?_|(refine Tr.cn rfl ?_ ?_<;>intro h q)
theorem CV {s:DS} {n:Int} (hn:1≤n) (hn2:n≤1000000000):Ba prog 23 [ptr b 0,int n] (int (s.val n)) (DA b s) (fun _=>DA b s.Cd):=by
 refine Ba.of func23 rfl rfl Am fun M0 w0 S rs M1 w1=> ?_
 have hs:=s.h
 have Vh:=s.h2
 refine ac ?_
 refine an ?_ ?_<;>intro h1 q1
 refine ac ?_
 refine Tr.ret (Fin.AF ?_)
 rw [DS.tU (s:=s) AA]
 refine Fin.Fh [] rfl (AQ.tmp rfl Lr) ?_ (fun _ _ _ _=>rfl)
 · refine int_eq ?_;exact (DS.tT AA n).symm
 have hlt:s.at_<s.l.length:=by omega
 obtain ⟨x,hx⟩:=at_ hlt
 refine ac ?_
 refine ap ?_
 refine wk [1,0] rfl ?_
 refine ac ?_
 refine co rfl (AB rfl underlying22 BJ vq vq AA (by rw [show ((s.at_:Nat):Int)+1-1=((s.at_:Nat):Int) by omega];exact Ad hx)) ?_
 refine ac ?_
 refine co rfl (Bu (AFg AA AA) rfl rfl rfl) ?_
 refine ac ?_
 refine wk [4] rfl (Tr.ret ?_)
 rw [DS.zi hlt]
 refine Fin.Fh [] rfl (AQ.tmp rfl Lr) ?_ (fun _ _ _ _=>rfl)
 · refine int_eq ?_;exact (DS.zh hx n).symm
theorem XR {s:DS} {l:List Int} (hl:l≠[]) (hl2:l.length≤1000000000):Ba prog 22 [ptr b 0,ints l] (int (s.of l)) (DA b s) (fun _=>DA b s.Cd):=by
 refine Ba.of func22 rfl rfl Am fun M0 w0 S rs M1 w1=> ?_
 have nG:1≤(l.length:Int):=by have:=List.length_pos_iff.2 hl;omega
 have hv:=s.DF nG
 obtain ⟨x,hx⟩:=at_ (l:=l) (k:=(s.val l.length).toNat) AA
 refine ac ?_
 refine ap ?_
 refine TO.FL 0 rfl rfl AD (Ak rfl rfl AD rfl (CV AA AA) ⟨kq,kz⟩) (tp rfl (AB rfl underlying22 BJ vq vq AA (Be hx)) ?_)
 refine ap ?_
 refine Tr.ret (Fin.Fh [] rfl (AQ.tmp rfl Lr) ?_ (fun _ _ _ _=>rfl))
 · refine int_eq ?_;unfold DS.of;rw [hx];rfl
theorem nH {s:DS} {n:Int} (hn:1≤n) (hn2:n≤1000000000):Ba prog 40 [ptr b 0,int n] (bool (s.val n==n-1)) (DA b s) (fun _=>DA b s.Cd):=by
 refine Ba.of func40 rfl rfl Am fun M0 w0 S rs M1 w1=> ?_
 refine ac ?_
 refine ap ?_
 refine TO.FL 0 rfl rfl AD (Ak rfl rfl AD rfl (CV AA AA) ⟨kq,kz⟩) ?_
 refine ap ?_
 refine Tr.ret (Fin.Fh [] rfl (AQ.tmp rfl Lr) ?_ (fun _ _ _ _=>rfl))
 · exact Lr
def vL (l:List Int) (hl:l.length≤1000000000) (v:Value):Ay:=match v with| .pointer (some a)=>W7 60 a.block ⟨l,0,Nat.zero_le _,hl⟩|_=>Bo
theorem AAp {l:List Int} (hl:l.length≤1000000000):Ba prog 6 [ints l] (ex fun b=>ptr b 0) (Bo) (vL l hl):=by
 refine Ba.of func6 rfl rfl Am fun M0 w0 S rs M1 w1=> ?_
 refine ac ?_
 refine ap ?_
 refine TO.gL rfl rfl AD rfl Cu (fun b1=> ?_)
 refine ap ?_
 refine Tr.ret (Fin.drop 1 ?_)
 refine Fin.Fh [] rfl (AQ.tmp rfl Lr) ?_ Ms
 · exact As b1 Lr
-- no type cipherplan/api.Fact here
-- no type cipherplan/AK2.place here
theorem nI {x0 y0:Int} {x1 y1:Int}:(Op.equalIn (d+2) 55 (.agg #[.int .i64 x0,.int .i64 x1]) (.agg #[.int .i64 y0,.int .i64 y1])).run Tryz.prog w= .ok (decide (x0=y0∧x1=y1)) w:=by
 have h:=eqS (w:=w) (d:=d+1) (xs:= #[.int .i64 x0,.int .i64 x1]) (ys:= #[.int .i64 y0,.int .i64 y1]) Tryz.underlying55 CS (CZ AD (BG BT rfl) (BG BT rfl) (Dl (d:=d+0) Tryz.underlying3) (CZ AD (BG BT rfl) (BG BT rfl) (Dl (d:=d+0) Tryz.underlying3) (K3)))
 refine h.trans (congrArg (fun b=>Result.ok b w) ?_)
 rw [Bool.eq_iff_iff];simp [and_assoc]
theorem Vi {u:TypeId} {x y:Operand} {x0 y0:Int} {x1 y1:Int} (ho:o.op= .binOp .eql 55 x y u) (hx:VL E x (agg [is (.int .i64 x0),is (.int .i64 x1)])) (hy:VL E y (agg [is (.int .i64 y0),is (.int .i64 y1)])):Ab Tryz.prog I o E (bool (decide (x0=y0∧x1=y1))):=
 Rc [.int .i64 x0,.int .i64 x1] [.int .i64 y0,.int .i64 y1] ho hx hy CS (fun w=>by rw [show Op.equal 55 _ _=Op.equalIn (9998+2) 55 _ _ from rfl];exact nI)
theorem QE {u:TypeId} {x y:Operand} {x0 y0:Int} {x1 y1:Int} (ho:o.op= .binOp .neq 55 x y u) (hx:VL E x (agg [is (.int .i64 x0),is (.int .i64 x1)])) (hy:VL E y (agg [is (.int .i64 y0),is (.int .i64 y1)])):Ab Tryz.prog I o E (bool (!decide (x0=y0∧x1=y1))):=
 NA [.int .i64 x0,.int .i64 x1] [.int .i64 y0,.int .i64 y1] ho hx hy CS (fun w=>by rw [show Op.equal 55 _ _=Op.equalIn (9998+2) 55 _ _ from rfl];exact nI)
theorem AFh {x0 y0:Int} {x1 y1:List UInt8} {x2 y2:Int} {x3 y3:Int} {x4 y4:Int} {x5 y5:Int} {x6 y6:List UInt8} {x7 y7:Int} {x8 y8:Int} {x9 y9:Int} {x10 y10:List UInt8}:(Op.equalIn (d+3) 57 (.agg #[.int .i64 x0,.string ⟨x1.toArray⟩,.int .i64 x2,.int .i64 x3,.int .i64 x4,.int .i64 x5,.string ⟨x6.toArray⟩,.int .i64 x7,.int .i64 x8,.int .i64 x9,.string ⟨x10.toArray⟩]) (.agg #[.int .i64 y0,.string ⟨y1.toArray⟩,.int .i64 y2,.int .i64 y3,.int .i64 y4,.int .i64 y5,.string ⟨y6.toArray⟩,.int .i64 y7,.int .i64 y8,.int .i64 y9,.string ⟨y10.toArray⟩])).run Tryz.prog w= .ok (decide (x0=y0∧x1=y1∧x2=y2∧x3=y3∧x4=y4∧x5=y5∧x6=y6∧x7=y7∧x8=y8∧x9=y9∧x10=y10)) w:=by
 have h:=eqS (w:=w) (d:=d+2) (xs:= #[.int .i64 x0,.string ⟨x1.toArray⟩,.int .i64 x2,.int .i64 x3,.int .i64 x4,.int .i64 x5,.string ⟨x6.toArray⟩,.int .i64 x7,.int .i64 x8,.int .i64 x9,.string ⟨x10.toArray⟩]) (ys:= #[.int .i64 y0,.string ⟨y1.toArray⟩,.int .i64 y2,.int .i64 y3,.int .i64 y4,.int .i64 y5,.string ⟨y6.toArray⟩,.int .i64 y7,.int .i64 y8,.int .i64 y9,.string ⟨y10.toArray⟩]) Tryz.underlying57 CS (CZ AD (BG BT rfl) (BG BT rfl) (Dl (d:=d+1) Tryz.underlying3) (CZ AD (BG Ge rfl) (BG Ge rfl) (VX (d:=d+1) Tryz.underlying9) (CZ AD (BG BT rfl) (BG BT rfl) (Dl (d:=d+1) Tryz.underlying3) (CZ AD (BG BT rfl) (BG BT rfl) (Dl (d:=d+1) Tryz.underlying3) (CZ AD (BG BT rfl) (BG BT rfl) (Dl (d:=d+1) Tryz.underlying3) (CZ AD (BG BT rfl) (BG BT rfl) (Dl (d:=d+1) Tryz.underlying3) (CZ AD (BG Ge rfl) (BG Ge rfl) (VX (d:=d+1) Tryz.underlying9) (CZ AD (XF Ht Jr rfl) (XF Ht Jr rfl) (nI (d:=d+0) (w:=w)) (CZ AD (BG BT rfl) (BG BT rfl) (Dl (d:=d+1) Tryz.underlying3) (CZ AD (BG Ge rfl) (BG Ge rfl) (VX (d:=d+1) Tryz.underlying9) (K3)))))))))))
 refine h.trans (congrArg (fun b=>Result.ok b w) ?_)
 rw [Bool.eq_iff_iff];simp [and_assoc]
theorem vM {u:TypeId} {x y:Operand} {x0 y0:Int} {x1 y1:List UInt8} {x2 y2:Int} {x3 y3:Int} {x4 y4:Int} {x5 y5:Int} {x6 y6:List UInt8} {x7 y7:Int} {x8 y8:Int} {x9 y9:Int} {x10 y10:List UInt8} (ho:o.op= .binOp .neq 57 x y u) (hx:VL E x (agg [is (.int .i64 x0),str x1,is (.int .i64 x2),is (.int .i64 x3),is (.int .i64 x4),is (.int .i64 x5),str x6,is (.int .i64 x7),is (.int .i64 x8),is (.int .i64 x9),str x10])) (hy:VL E y (agg [is (.int .i64 y0),str y1,is (.int .i64 y2),is (.int .i64 y3),is (.int .i64 y4),is (.int .i64 y5),str y6,is (.int .i64 y7),is (.int .i64 y8),is (.int .i64 y9),str y10])):Ab Tryz.prog I o E (bool (!decide (x0=y0∧x1=y1∧x2=y2∧x3=y3∧x4=y4∧x5=y5∧x6=y6∧x7=y7∧x8=y8∧x9=y9∧x10=y10))):=
 NA [.int .i64 x0,.string ⟨x1.toArray⟩,.int .i64 x2,.int .i64 x3,.int .i64 x4,.int .i64 x5,.string ⟨x6.toArray⟩,.int .i64 x7,.int .i64 x8,.int .i64 x9,.string ⟨x10.toArray⟩] [.int .i64 y0,.string ⟨y1.toArray⟩,.int .i64 y2,.int .i64 y3,.int .i64 y4,.int .i64 y5,.string ⟨y6.toArray⟩,.int .i64 y7,.int .i64 y8,.int .i64 y9,.string ⟨y10.toArray⟩] ho hx hy CS (fun w=>by rw [show Op.equal 57 _ _=Op.equalIn (9997+3) 57 _ _ from rfl];exact AFh)
def DB (a b:Int):Int:=if a<b then -1 else if b<a then 1 else 0
theorem K5 {a b:Int}:DB a b=0↔a=b:=by grind [DB]
def orF (l:List Int):Int:=(l.find? fun x=>x !=0).getD 0
theorem vN {l:List Int} {x:Int} (hx:l[k]? =some x) (h0:¬x=0) (h:∀j y,j<k→l[j]? =some y→(y !=0)=false):x=orF l:=by
 unfold orF
 have:l.find? (fun x=>x !=0)=some x:=by
  rw [List.find?_eq_some_iff_getElem]
  have hk:k<l.length:=by rcases Nat.lt_or_ge k l.length with h|h;exact h;rw [List.getElem?_eq_none h] at hx;cases hx
  rw [List.getElem?_eq_getElem hk] at hx
  simp only [Option.some.injEq] at hx
  refine ⟨by simpa using h0,k,hk,hx,fun j hj=> ?_⟩
  have:=h j _ hj (List.getElem?_eq_getElem AA)
  simpa using this
 rw [this];rfl
theorem nJ {l:List Int} (h:∀j y,j<l.length→l[j]? =some y→(y !=0)=false):0=orF l:=by
 unfold orF
 have:l.find? (fun x=>x !=0)=none:=by
  rw [List.find?_eq_none]
  intro x hx
  obtain ⟨j,hj,rfl⟩:=List.mem_iff_getElem.1 hx
  have:=h j _ hj (List.getElem?_eq_getElem hj)
  simpa using this
 rw [this];rfl
def okc (c:UInt8):Bool:=decide (33≤c.toNat∧c.toNat≤126)
def named (s:List UInt8):Bool:=s.all okc&&decide (1≤s.length∧s.length≤32)
theorem QF {β:Type} {p:β→Bool} {l:List β} {x:β} (hx:l[k]? =some x) (hp:p x=false):l.all p=false:=by grind
theorem JH {β:Type} {p:β→Bool} {l:List β} (h:∀j y,j<l.length→l[j]? =some y→(!p y)=false):l.all p=true:=by
 rw [List.all_eq_true]
 intro y hy
 obtain ⟨j,hj⟩:=List.mem_iff_getElem?.1 hy
 have:=h j y bn hj
 simpa using this
theorem XS {n:Int}  :A_ prog 180 [int n] (bool false):=by
 refine fo func180 rfl ⟨rfl,rfl⟩ fun M0 w0=> ?_
 refine a3 ?_
 · exact bool_eq AR
theorem nK {a b:Int}  :A_ prog 107 [int a,int b] (int (DB a b)):=by
 refine fo func107 rfl ⟨rfl,rfl⟩ fun M0 w0=> ?_
 · repeat' first|exact absurd h AD|(refine int_eq ?_;unfold DB;(repeat split)<;>omega)|refine co rfl (CE (XS) rfl rfl) ?_|refine ac ?_|(refine Tr.cn rfl ?_ ?_<;>intro h q)
theorem AFi {l:List Int}  :A_ prog 160 [ints l] (int (orF l)):=by
 refine fo func160 rfl ⟨rfl,rfl⟩ fun M0 w0=>(Tr.CN 0 rfl fun C3=> ?_)
 refine a3 ?_
 refine Tr.block (Tr.A0 _ (kk [7,6,3] rfl) (fun k:Nat=>[(8,int ((k:Nat):Int))]) (fun k:Nat=>k≤(l).length∧(∀j y,j<k→l[j]? =some y→(y !=0)=false)) (fun k:Nat=>(l).length-k) 0 (⟨Nat.zero_le _,fun j y hj=>absurd hj AA⟩) kz ?_)
 rintro k ⟨BN,AX⟩
 refine ac ?_
 refine Tr.seq ?_
 refine Tr.cn rfl ?_ ?_<;>intro h1 q1
 have Ae:k<(l).length:=AJ h1
 obtain ⟨x,Af⟩:=at_ Ae
 refine ac ?_
 refine Tr.seq (Tr.block (Tr.seq (Tr.Bq (co rfl (AB rfl underlying22 BJ vq vq AA Bk) ?_))))
 · repeat' first|exact int_eq (vN Af BO AX)|exact Fin.AL (k+1) ⟨⟨Ae,Dm (p:=fun y=>y !=0) Af (by simpa using by assumption) AX⟩,by omega⟩ ⟨⟨_,rfl,AG k⟩,kz⟩|refine ac ?_|(refine Tr.cn rfl ?_ ?_<;>intro h q)
 have BC:k=(l).length:=by have:=AK h1;omega
 subst BC
 refine a3 ?_
 · exact int_eq (nJ AX)
theorem Vj {s:List UInt8} (hs:s.length≤maxLen):A_ prog 73 [str s] (bool (named s)):=by
 refine fo func73 rfl ⟨rfl,rfl⟩ fun M0 w0=> ?_
 refine a2 ?_
 refine co rfl (XD rfl underlying9 underlying213 underlying5 vq BO) ?_
 refine ac ?_
 refine Tr.block (Tr.CN 6 rfl fun hl6=>(Tr.A0 _ (kk [7,6,0] rfl) (fun k:Nat=>[(8,int ((k:Nat):Int))]) (fun k:Nat=>k≤(s).length∧(∀j y,j<k→s[j]? =some y→(!okc y)=false)) (fun k:Nat=>(s).length-k) 0 (⟨Nat.zero_le _,fun j y hj=>absurd hj AA⟩) kz ?_))
 rintro k ⟨BN,AX⟩
 refine ac ?_
 refine Tr.seq ?_
 refine Tr.cn rfl ?_ ?_<;>intro h1 q1
 have Ae:k<(s).length:=AJ h1
 obtain ⟨c,Af⟩:=at_ Ae
 refine ac ?_
 refine Tr.seq (Tr.block (Tr.seq (Tr.Bq (co rfl (AB rfl underlying213 Nq vq vq AA Bk) ?_))))
 · repeat' first|(refine bool_eq ?_;unfold named;rw [QF (p:=okc) Af Px];rfl)|(exact Fin.AL (k+1) ⟨⟨Ae,Dm (p:=fun c=> !okc c) Af Px AX⟩,by omega⟩ ⟨⟨_,rfl,AG k⟩,kz⟩)|refine ac ?_|(refine Tr.cn rfl ?_ ?_<;>intro h q)|(refine Ch.cg rfl rfl rfl ?_ ?_<;>intro h q)
 have BC:k=(s).length:=by have:=AK h1;omega
 subst BC
 · repeat' first|(refine bool_eq ?_;unfold named;rw [JH AX,Bool.true_and];rw [decide_eq_decide];omega)|(refine bool_eq ?_;unfold named;rw [JH AX,Bool.true_and];(symm;rw [decide_eq_false_iff_not];omega))|refine ac ?_|(refine Ch.cg rfl rfl rfl ?_ ?_<;>intro h q)
theorem G1 {s:List UInt8}  :A_ prog 144 [str s] (bool (named s)):=by
 refine fo func144 rfl ⟨rfl,rfl⟩ fun M0 w0=> ?_
 refine ac ?_
 refine ag ?_ ?_<;>intro h1 q1
 refine a3 ?_
 · exact cI
 refine an ?_ ?_<;>intro h2 q2
 refine a2 ?_
 · exact cI
 refine a2 ?_
 refine Tr.block (Tr.A0 _ (kk [0] rfl) (fun k:Nat=>[(3,int ((k:Nat):Int))]) (fun k:Nat=>k≤(s).length∧(∀j y,j<k→s[j]? =some y→(!okc y)=false)) (fun k:Nat=>(s).length-k) 0 (⟨Nat.zero_le _,fun j y hj=>absurd hj AA⟩) kz ?_)
 rintro k ⟨BN,AX⟩
 refine an ?_ ?_<;>intro h3 q3
 have Ae:k<(s).length:=AJ h3
 obtain ⟨c,Af⟩:=at_ Ae
 · repeat' first|(refine bool_eq ?_;unfold named;rw [QF (p:=okc) Af Px];rfl)|(exact Fin.AL (k+1) ⟨⟨Ae,Dm (p:=fun c=> !okc c) Af Px AX⟩,by omega⟩ ⟨⟨_,rfl,AG k⟩,kz⟩)|refine co rfl (QA rfl underlying9 vq vq AA (VV BO)) ?_|refine cy h rfl (QA rfl underlying9 vq vq AA (VV BO)) ?_|refine ac ?_|(refine Tr.cn rfl ?_ ?_<;>intro h q)|(refine Ch.cg rfl rfl rfl ?_ ?_<;>intro h q)
 have BC:k=(s).length:=by have:=AK h3;omega
 subst BC
 refine a3 ?_
 · refine bool_eq ?_;unfold named;rw [JH AX,Bool.true_and];symm;rw [decide_eq_true_eq];omega
structure Vk where
 name:List UInt8
 kind:Int
 way:Int
 sizes:List Int
 GJ:List Int
abbrev AAq (r:Vk):List Pr:=[str r.name,int r.kind,int r.way,ints r.sizes,ints r.GJ]
def Fp:List Vk:=[⟨[],0,0,[],[]⟩,⟨[109,100,53],1,0,[],[18]⟩,⟨[115,104,97,49],1,0,[],[60]⟩,⟨[115,104,97,50,53,54],1,0,[],[128]⟩,⟨[115,104,97,51,56,52],1,0,[],[192]⟩,⟨[114,115,97],2,1,[],[]⟩,⟨[100,115,97],2,1,[],[]⟩,⟨[101,99,100,115,97],2,2,[],[]⟩,⟨[101,100,50,53,53,49,57],2,0,[],[128]⟩,⟨[109,108,100,115,97],2,3,[44,65,87],[128,192,256]⟩,⟨[114,115,97,107,120],3,1,[],[]⟩,⟨[100,104,101],3,1,[],[]⟩,⟨[101,99,100,104,101],3,2,[],[]⟩,⟨[109,108,107,101,109],3,3,[512,768,1024],[128,192,256]⟩,⟨[114,99,52],4,3,[40,128],[40,60]⟩,⟨[100,101,115,51],4,3,[112,168],[80,112]⟩,⟨[97,101,115,99,98,99],4,3,[128,256],[128,256]⟩,⟨[97,101,115,103,99,109],4,3,[128,256],[128,256]⟩,⟨[99,104,97,99,104,97],4,0,[],[256]⟩,⟨[104,109,97,99,109,100,53],5,0,[],[64]⟩,⟨[104,109,97,99,115,104,97,49],5,0,[],[80]⟩,⟨[104,109,97,99,115,104,97,50,53,54],5,0,[],[128]⟩,⟨[97,101,97,100],5,0,[],[256]⟩]
def eB:Vk:=⟨[],0,0,[],[]⟩
def DG (B8:Int):Vk:=if 1≤B8∧B8≤22 then (Fp[B8.toNat]?).getD eB else eB
theorem Hw (h:1≤B8∧B8≤22):Fp[B8.toNat]? =some (DG B8):=by
 have hl:B8.toNat<Fp.length:=by show B8.toNat<23;omega
 unfold DG;rw [if_pos h,List.getElem?_eq_getElem hl];rfl
theorem gm (h:1≤B8∧B8≤22):DG B8∈Fp:=List.mem_of_getElem? (Hw h)
theorem Rv {β:Type} {f:β→List Pr} {sz:Nat} (hf:∀x,(f x).length=sz):∀{l:List β} {i:Nat} {x:β},l[i]? =some x→((l.flatMap f).drop (i*sz)).take sz=f x
 |[],_,_,h=>by simp at h
 |a::l,0,x,h=>by
  simp at h;subst h
  rw [List.flatMap_cons,Nat.zero_mul,List.drop_zero,List.take_append_of_le_length (by rw [hf];exact Nat.le_refl _),List.take_of_length_le (by rw [hf];exact Nat.le_refl _)]
 |a::l,i+1,x,h=>by
  rw [List.flatMap_cons,Nat.succ_mul,Nat.add_comm,←List.drop_drop,List.drop_left' (hf a)]
  exact Rv hf D5
theorem drop_cons {β:Type} {l:List β} {x:β} (h:l[k]? =some x):l.drop k=x::l.drop (k+1):=by
 have hk:k<l.length:=by rcases Nat.lt_or_ge k l.length with h'|h';exact h';rw [List.getElem?_eq_none h'] at h;cases h
 rw [List.drop_eq_getElem_cons hk]
 rw [List.getElem?_eq_getElem hk] at h
 simp at h;rw [h]
def mods:List (Int×Int):=[(1024,56),(2048,80),(3072,112),(7680,128),(15360,192)]
def AAr:List (Int×Int)→Int→Int
 |[],_=>256
 |p::l,b=>if b<p.1 then p.2 else AAr l b
def nL (b:Int):Int:=AAr mods b
theorem AAs   :A_ prog 231 [] (agg (Fp.flatMap AAq)):=by
 refine fo func231 rfl ⟨rfl,rfl⟩ fun M0 w0=>(Tr.seq (Tr.BI ?_))
 refine Tl rfl rfl rfl rfl AIn yf (fun b1=> ?_)
 refine ap ?_
 refine ap ?_
 refine tp rfl (Au (rows:=[(0,[_]),(1,[_]),(2,[_]),(3,[_]),(4,[_])]) rfl Ef D9 ⟨⟨rfl,Ce⟩,⟨⟨rfl,Ce⟩,⟨⟨rfl,Ce⟩,⟨⟨rfl,⟨_,rfl,Pr.le_trans (AM 1) (AO _)⟩⟩,⟨⟨rfl,⟨_,rfl,Pr.le_trans (BF _ _) (AO _)⟩⟩,trivial⟩⟩⟩⟩⟩ rfl) (tp rfl (oI) ?_)
 refine tp rfl (Au (rows:=[(0,[_]),(1,[_]),(2,[_]),(3,[_]),(4,[_])]) rfl Ef D9 ⟨⟨rfl,Ce⟩,⟨⟨rfl,Ce⟩,⟨⟨rfl,Ce⟩,⟨⟨rfl,⟨_,rfl,Pr.le_trans (AM 1) (AO _)⟩⟩,⟨⟨rfl,⟨_,rfl,Pr.le_trans (BF _ _) (AO _)⟩⟩,trivial⟩⟩⟩⟩⟩ rfl) (tp rfl (oI) ?_)
 refine tp rfl (Au (rows:=[(0,[_]),(1,[_]),(2,[_]),(3,[_]),(4,[_])]) rfl Ef D9 ⟨⟨rfl,Ce⟩,⟨⟨rfl,Ce⟩,⟨⟨rfl,Ce⟩,⟨⟨rfl,⟨_,rfl,Pr.le_trans (AM 1) (AO _)⟩⟩,⟨⟨rfl,⟨_,rfl,Pr.le_trans (BF _ _) (AO _)⟩⟩,trivial⟩⟩⟩⟩⟩ rfl) (tp rfl (oI) ?_)
 refine tp rfl (Au (rows:=[(0,[_]),(1,[_]),(2,[_]),(3,[_]),(4,[_])]) rfl Ef D9 ⟨⟨rfl,Ce⟩,⟨⟨rfl,Ce⟩,⟨⟨rfl,Ce⟩,⟨⟨rfl,⟨_,rfl,Pr.le_trans (AM 1) (AO _)⟩⟩,⟨⟨rfl,⟨_,rfl,Pr.le_trans (BF _ _) (AO _)⟩⟩,trivial⟩⟩⟩⟩⟩ rfl) (tp rfl (Au (rows:=[(0,[_]),(1,[_]),(2,[_]),(3,[_]),(4,[_])]) rfl Ef D9 ⟨⟨rfl,Ce⟩,⟨⟨rfl,Ce⟩,⟨⟨rfl,Ce⟩,⟨⟨rfl,⟨_,rfl,Pr.le_trans (AM 1) (AO _)⟩⟩,⟨⟨rfl,⟨_,rfl,Pr.le_trans (AM 1) (AO _)⟩⟩,trivial⟩⟩⟩⟩⟩ rfl) (tp rfl (Au (rows:=[(0,[_]),(1,[_]),(2,[_]),(3,[_]),(4,[_])]) rfl Ef D9 ⟨⟨rfl,Ce⟩,⟨⟨rfl,Ce⟩,⟨⟨rfl,Ce⟩,⟨⟨rfl,⟨_,rfl,Pr.le_trans (AM 1) (AO _)⟩⟩,⟨⟨rfl,⟨_,rfl,Pr.le_trans (AM 1) (AO _)⟩⟩,trivial⟩⟩⟩⟩⟩ rfl) (tp rfl (Au (rows:=[(0,[_]),(1,[_]),(2,[_]),(3,[_]),(4,[_])]) rfl Ef D9 ⟨⟨rfl,Ce⟩,⟨⟨rfl,Ce⟩,⟨⟨rfl,Ce⟩,⟨⟨rfl,⟨_,rfl,Pr.le_trans (AM 1) (AO _)⟩⟩,⟨⟨rfl,⟨_,rfl,Pr.le_trans (AM 1) (AO _)⟩⟩,trivial⟩⟩⟩⟩⟩ rfl) (tp rfl (oI) ?_))))
 refine tp rfl (Au (rows:=[(0,[_]),(1,[_]),(2,[_]),(3,[_]),(4,[_])]) rfl Ef D9 ⟨⟨rfl,Ce⟩,⟨⟨rfl,Ce⟩,⟨⟨rfl,Ce⟩,⟨⟨rfl,⟨_,rfl,Pr.le_trans (AM 1) (AO _)⟩⟩,⟨⟨rfl,⟨_,rfl,Pr.le_trans (BF _ _) (AO _)⟩⟩,trivial⟩⟩⟩⟩⟩ rfl) ?_
 refine ap ?_
 refine tp rfl (Au (rows:=[(0,[_]),(1,[_]),(2,[_]),(3,[_]),(4,[_])]) rfl Ef D9 ⟨⟨rfl,Ce⟩,⟨⟨rfl,Ce⟩,⟨⟨rfl,Ce⟩,⟨⟨rfl,⟨_,rfl,Pr.le_trans (BF _ _) (AO _)⟩⟩,⟨⟨rfl,⟨_,rfl,Pr.le_trans (BF _ _) (AO _)⟩⟩,trivial⟩⟩⟩⟩⟩ rfl) (tp rfl (Au (rows:=[(0,[_]),(1,[_]),(2,[_]),(3,[_]),(4,[_])]) rfl Ef D9 ⟨⟨rfl,Ce⟩,⟨⟨rfl,Ce⟩,⟨⟨rfl,Ce⟩,⟨⟨rfl,⟨_,rfl,Pr.le_trans (AM 1) (AO _)⟩⟩,⟨⟨rfl,⟨_,rfl,Pr.le_trans (AM 1) (AO _)⟩⟩,trivial⟩⟩⟩⟩⟩ rfl) (tp rfl (Au (rows:=[(0,[_]),(1,[_]),(2,[_]),(3,[_]),(4,[_])]) rfl Ef D9 ⟨⟨rfl,Ce⟩,⟨⟨rfl,Ce⟩,⟨⟨rfl,Ce⟩,⟨⟨rfl,⟨_,rfl,Pr.le_trans (AM 1) (AO _)⟩⟩,⟨⟨rfl,⟨_,rfl,Pr.le_trans (AM 1) (AO _)⟩⟩,trivial⟩⟩⟩⟩⟩ rfl) (tp rfl (Au (rows:=[(0,[_]),(1,[_]),(2,[_]),(3,[_]),(4,[_])]) rfl Ef D9 ⟨⟨rfl,Ce⟩,⟨⟨rfl,Ce⟩,⟨⟨rfl,Ce⟩,⟨⟨rfl,⟨_,rfl,Pr.le_trans (AM 1) (AO _)⟩⟩,⟨⟨rfl,⟨_,rfl,Pr.le_trans (AM 1) (AO _)⟩⟩,trivial⟩⟩⟩⟩⟩ rfl) ?_)))
 refine ap ?_
 refine tp rfl (Au (rows:=[(0,[_]),(1,[_]),(2,[_]),(3,[_]),(4,[_])]) rfl Ef D9 ⟨⟨rfl,Ce⟩,⟨⟨rfl,Ce⟩,⟨⟨rfl,Ce⟩,⟨⟨rfl,⟨_,rfl,Pr.le_trans (BF _ _) (AO _)⟩⟩,⟨⟨rfl,⟨_,rfl,Pr.le_trans (BF _ _) (AO _)⟩⟩,trivial⟩⟩⟩⟩⟩ rfl) ?_
 refine ap ?_
 refine tp rfl (Au (rows:=[(0,[_]),(1,[_]),(2,[_]),(3,[_]),(4,[_])]) rfl Ef D9 ⟨⟨rfl,Ce⟩,⟨⟨rfl,Ce⟩,⟨⟨rfl,Ce⟩,⟨⟨rfl,⟨_,rfl,Pr.le_trans (BF _ _) (AO _)⟩⟩,⟨⟨rfl,⟨_,rfl,Pr.le_trans (BF _ _) (AO _)⟩⟩,trivial⟩⟩⟩⟩⟩ rfl) ?_
 refine ap ?_
 refine tp rfl (Au (rows:=[(0,[_]),(1,[_]),(2,[_]),(3,[_]),(4,[_])]) rfl Ef D9 ⟨⟨rfl,Ce⟩,⟨⟨rfl,Ce⟩,⟨⟨rfl,Ce⟩,⟨⟨rfl,⟨_,rfl,Pr.le_trans (BF _ _) (AO _)⟩⟩,⟨⟨rfl,⟨_,rfl,Pr.le_trans (BF _ _) (AO _)⟩⟩,trivial⟩⟩⟩⟩⟩ rfl) ?_
 refine ap ?_
 refine tp rfl (Au (rows:=[(0,[_]),(1,[_]),(2,[_]),(3,[_]),(4,[_])]) rfl Ef D9 ⟨⟨rfl,Ce⟩,⟨⟨rfl,Ce⟩,⟨⟨rfl,Ce⟩,⟨⟨rfl,⟨_,rfl,Pr.le_trans (BF _ _) (AO _)⟩⟩,⟨⟨rfl,⟨_,rfl,Pr.le_trans (BF _ _) (AO _)⟩⟩,trivial⟩⟩⟩⟩⟩ rfl) ?_
 refine ap ?_
 refine tp rfl (Au (rows:=[(0,[_]),(1,[_]),(2,[_]),(3,[_]),(4,[_])]) rfl Ef D9 ⟨⟨rfl,Ce⟩,⟨⟨rfl,Ce⟩,⟨⟨rfl,Ce⟩,⟨⟨rfl,⟨_,rfl,Pr.le_trans (BF _ _) (AO _)⟩⟩,⟨⟨rfl,⟨_,rfl,Pr.le_trans (BF _ _) (AO _)⟩⟩,trivial⟩⟩⟩⟩⟩ rfl) (tp rfl (oI) ?_)
 refine tp rfl (Au (rows:=[(0,[_]),(1,[_]),(2,[_]),(3,[_]),(4,[_])]) rfl Ef D9 ⟨⟨rfl,Ce⟩,⟨⟨rfl,Ce⟩,⟨⟨rfl,Ce⟩,⟨⟨rfl,⟨_,rfl,Pr.le_trans (AM 1) (AO _)⟩⟩,⟨⟨rfl,⟨_,rfl,Pr.le_trans (BF _ _) (AO _)⟩⟩,trivial⟩⟩⟩⟩⟩ rfl) (tp rfl (oI) ?_)
 refine tp rfl (Au (rows:=[(0,[_]),(1,[_]),(2,[_]),(3,[_]),(4,[_])]) rfl Ef D9 ⟨⟨rfl,Ce⟩,⟨⟨rfl,Ce⟩,⟨⟨rfl,Ce⟩,⟨⟨rfl,⟨_,rfl,Pr.le_trans (AM 1) (AO _)⟩⟩,⟨⟨rfl,⟨_,rfl,Pr.le_trans (BF _ _) (AO _)⟩⟩,trivial⟩⟩⟩⟩⟩ rfl) (tp rfl (oI) ?_)
 refine tp rfl (Au (rows:=[(0,[_]),(1,[_]),(2,[_]),(3,[_]),(4,[_])]) rfl Ef D9 ⟨⟨rfl,Ce⟩,⟨⟨rfl,Ce⟩,⟨⟨rfl,Ce⟩,⟨⟨rfl,⟨_,rfl,Pr.le_trans (AM 1) (AO _)⟩⟩,⟨⟨rfl,⟨_,rfl,Pr.le_trans (BF _ _) (AO _)⟩⟩,trivial⟩⟩⟩⟩⟩ rfl) (tp rfl (oI) ?_)
 refine tp rfl (Au (rows:=[(0,[_]),(1,[_]),(2,[_]),(3,[_]),(4,[_])]) rfl Ef D9 ⟨⟨rfl,Ce⟩,⟨⟨rfl,Ce⟩,⟨⟨rfl,Ce⟩,⟨⟨rfl,⟨_,rfl,Pr.le_trans (AM 1) (AO _)⟩⟩,⟨⟨rfl,⟨_,rfl,Pr.le_trans (BF _ _) (AO _)⟩⟩,trivial⟩⟩⟩⟩⟩ rfl) (tp rfl (oI) ?_)
 refine tp rfl (Au (rows:=[(0,[_]),(1,[_]),(2,[_]),(3,[_]),(4,[_])]) rfl Ef D9 ⟨⟨rfl,Ce⟩,⟨⟨rfl,Ce⟩,⟨⟨rfl,Ce⟩,⟨⟨rfl,⟨_,rfl,Pr.le_trans (AM 1) (AO _)⟩⟩,⟨⟨rfl,⟨_,rfl,Pr.le_trans (BF _ _) (AO _)⟩⟩,trivial⟩⟩⟩⟩⟩ rfl) ?_
 refine ap ?_
 refine wk [0] rfl (Tr.ret (Fin.CY rfl (AQ.cell 0 rfl rfl AAY yd rfl Lr) ?_))
 · exact BP ⟨Lr,Lr,Lr,AM 1,AM 1,Lr,Lr,Lr,Lr,Lr,Lr,Lr,Lr,Lr,Lr,Lr,Lr,Lr,Lr,Lr,Lr,Lr,Lr,Lr,Lr,Lr,Lr,Lr,Lr,Lr,Lr,Lr,Lr,Lr,Lr,Lr,Lr,Lr,Lr,Lr,Lr,Lr,Lr,Lr,Lr,Lr,Lr,Lr,Lr,Lr,Lr,Lr,Lr,Lr,Lr,Lr,Lr,Lr,Lr,Lr,Lr,Lr,Lr,Lr,Lr,Lr,Lr,Lr,Lr,Lr,Lr,Lr,Lr,Lr,Lr,Lr,Lr,Lr,Lr,Lr,Lr,Lr,Lr,Lr,Lr,Lr,Lr,Lr,Lr,Lr,Lr,Lr,Lr,Lr,Lr,Lr,Lr,Lr,Lr,Lr,Lr,Lr,Lr,Lr,Lr,Lr,Lr,Lr,Lr,Lr,Lr,Lr,Lr,Lr,Lr,trivial⟩
theorem AFj:A_ prog 183 [int B8] (DW [agg (AAq (DG B8)),bool (decide (1≤B8∧B8≤22))]):=by
 refine fo func183 rfl ⟨rfl,rfl⟩ fun M0 w0=>(Tr.seq (Tr.BI ?_))
 refine Tl rfl rfl rfl rfl AAW D9 (fun b1=> ?_)
 refine ap ?_
 refine ag ?_ ?_<;>intro h1 q1
 refine ac ?_
 refine Tr.cond rfl (fun _=> ?_) (fun h=>nomatch h)
 refine Tr.seq (Tr.BI (tp rfl (Au (rows:=[]) rfl Ef D9 trivial rfl) (TO.AV 0 rfl rfl rfl vq Cu rfl Tz rfl rfl (tm rfl (TO.nil (Fin.go (Tr.ret (Fin.AF (Fin.BW rfl (AQ.cell 0 rfl rfl VT Tz rfl Lr) (AQ.tmp rfl Lr) ?_)))))))))
 · exact kf
 refine an ?_ ?_<;>intro h2 q2
 refine ap ?_
 refine Tr.ret (Fin.AF (Fin.BW rfl (AQ.cell 0 rfl rfl VT Tz rfl Lr) (AQ.tmp rfl Lr) ?_))
 · exact kf
 have hin:1≤B8∧B8≤22:=by omega
 refine ac ?_
 refine Tr.seq (Tr.BI (tp rfl (kc0 (AAs) rfl) (tm rfl (tp rfl (XE rfl underlying337 VT Tz vq vq AA AA (Rv (f:=AAq) (fun _=>rfl) (Hw hin))) ?_))))
 refine ap ?_
 refine Tr.ret (Fin.BW rfl (AQ.cell 0 rfl rfl VT Tz rfl Lr) (AQ.tmp rfl Lr) ?_)
 · exact BK ⟨Lr,bool_eq (by symm;rw [decide_eq_true_eq];exact hin),trivial⟩
theorem AAt:A_ prog 123 [int B8] (int (DG B8).kind):=by
 refine fo func123 rfl ⟨rfl,rfl⟩ fun M0 w0=> ?_
 refine ac ?_
 refine ao ?_
 refine tp rfl (CE (AFj) rfl rfl) ?_
 refine ao ?_
 refine Tl rfl rfl rfl rfl AAW D9 (fun b1=> ?_)
 refine sf 0 3 ⟨rfl,rfl,rfl⟩ rfl rfl rfl rfl ?_
 refine ao ?_
 refine a2 ?_
 · exact Lr
theorem gp {b:Int}  :A_ prog 230 [int b] (int (nL b)):=by
 refine fo func230 rfl ⟨rfl,rfl⟩ fun M0 w0=> ?_
 have hml:mods.length=5:=rfl
 refine a2 ?_
 refine Tr.block (Tr.re 10 rfl (Pr.le_of_eq (show _=agg (mods.flatMap fun p=>[int p.1,int p.2]) from rfl)) (Tr.A0 _ (kk [10,0] rfl) (fun k:Nat=>[(11,int ((k:Nat):Int))]) (fun k:Nat=>k≤(mods).length∧(nL b=AAr (mods.drop k) b)) (fun k:Nat=>(mods).length-k) 0 (⟨Nat.zero_le _,rfl⟩) kz ?_))
 rintro k ⟨BN,AX⟩
 refine ac ?_
 refine Tr.seq ?_
 refine Tr.cn rfl ?_ ?_<;>intro h1 q1
 have Ae:k<(mods).length:=AJ h1
 obtain ⟨p,Af⟩:=at_ Ae
 have hL:k<5:=Ae
 have hdr:=drop_cons Af
 refine ac ?_
 refine Tr.seq (Tr.block (Tr.seq (Tr.BI (tp rfl (XE rfl underlying374 AAZ yg vq vq AA AA (Rv (f:=fun p:Int×Int=>[int p.1,int p.2]) (fun _=>rfl) Af)) ?_))))
 refine Tl rfl rfl rfl rfl AIo yh (fun b1=> ?_)
 refine sf 0 4 ⟨rfl,rfl,rfl⟩ rfl rfl rfl rfl ?_
 refine ao ?_
 refine ac ?_
 refine co rfl (Ov rfl underlying373 BJ vq vq AA AA rfl) (co rfl (RH rfl BT vq rfl) ?_)
 refine an ?_ ?_<;>intro h2 q2
 refine Tr.seq (Tr.Bq (co rfl (Ov rfl underlying373 BJ vq vq AA AA rfl) (co rfl (RH rfl BT vq rfl) ?_)))
 refine ac ?_
 refine wk [2] rfl ?_
 refine ac ?_
 · refine int_eq ?_;rw [AX,hdr];exact (if_pos AA).symm
 refine a2 ?_
 exact Fin.AL (k+1) ⟨⟨Ae,(by rw [AX,hdr];exact if_neg AA)⟩,by omega⟩ ⟨⟨_,rfl,AG k⟩,kz⟩
 have BC:k=(mods).length:=by have:=AK h1;omega
 subst BC
 refine a3 ?_
 · refine int_eq ?_;rw [AX,List.drop_length];rfl
def Td:List Int:=[160,224,256,384,521]
def Bx (B8 bits:Int):Int:=
 if 1 ≤ B8 ∧ B8 ≤ 22 then
  if (DG B8).way=0 then (if bits=0 then ((DG B8).GJ[0]?).getD 0 else 0)
  else if (DG B8).way=1 then (if 512≤bits∧bits≤16384 then nL bits else 0)
  else if (DG B8).way=2 then (if (Td.any fun x=>bits==x)=true then bits.tdiv 2 else 0)
  else if (DG B8).way=3 then (if 0≤idx (fun x=>bits==x) (DG B8).sizes then ((DG B8).GJ[(idx (fun x=>bits==x) (DG B8).sizes).toNat]?).getD 0 else 0)
  else 0
 else 0
theorem Zk (h:1≤B8∧B8≤22):DG B8∈Fp.tail:=by
 have h1:=Hw h
 refine List.mem_of_getElem? (i:=B8.toNat-1) ?_
 rw [List.getElem?_tail,show B8.toNat-1+1=B8.toNat by omega];exact h1
theorem AAu:∀r∈Fp.tail,(r.way=0→1≤r.GJ.length)∧(r.way=3→r.sizes.length≤r.GJ.length):=by decide
theorem AAv {β:Type} (p:β→Bool) (l:List β):idx p l<l.length:=by
 unfold idx
 cases h:l.findIdx? p with
 |none=>simp;omega
 |some i=>rw [List.findIdx?_eq_some_iff_getElem] at h;obtain ⟨h1,_⟩:=h;simp;omega
theorem Zl {bits:Int}:A_ prog 182 [agg [int B8,int bits]] (int (Bx B8 bits)):=by
 refine fo func182 rfl ⟨rfl,rfl⟩ fun M0 w0=> ?_
 refine ac ?_
 refine ao ?_
 refine tp rfl (CE (AFj) rfl rfl) ?_
 refine ao ?_
 refine Tl rfl rfl rfl rfl AAW D9 (fun b1=> ?_)
 refine sf 0 3 ⟨rfl,rfl,rfl⟩ rfl rfl rfl rfl ?_
 refine ao ?_
 refine ac ?_
 refine wk [13,3,1] rfl ?_
 refine Tr.cn rfl ?_ ?_<;>intro h1 q1
 refine a2 ?_
 · refine int_eq ?_;unfold Bx;rw [if_neg (by intro hh;simp [hh] at h1)]
 have hin:1≤B8∧B8≤22:=by simpa using h1
 obtain ⟨hc0,hc3⟩:=AAu _ (Zk hin)
 refine a2 ?_
 refine an ?_ ?_<;>intro h2 q2
 refine an ?_ ?_<;>intro h3 q3
 obtain ⟨z,hz⟩:=at_ (l:=(DG B8).GJ) (k:=0) (hc0 AA)
 refine ac ?_
 refine co rfl (AB rfl underlying22 BJ vq vq AA (Ad (k:=0) hz)) ?_
 refine ac ?_
 refine wk [2] rfl ?_
 refine ac ?_
 · refine int_eq ?_;unfold Bx;rw [if_pos hin,if_pos AA,if_pos AA,hz];rfl
 refine a3 ?_
 · refine int_eq ?_;unfold Bx;rw [if_pos hin,if_pos AA,if_neg AA]
 refine an ?_ ?_<;>intro h4 q4
 · repeat' first|(refine int_eq ?_;unfold Bx;rw [if_pos hin,if_neg AA,if_pos AA,if_pos AA])|(refine int_eq ?_;unfold Bx;rw [if_pos hin,if_neg AA,if_pos AA,if_neg AA])|refine co rfl (CE (gp) rfl rfl) ?_|refine ac ?_|(refine Tr.cn rfl ?_ ?_<;>intro h q)|(refine Ch.cg rfl rfl rfl ?_ ?_<;>intro h q)
 refine an ?_ ?_<;>intro h7 q7
 refine ac ?_
 refine co rfl (AY rfl (O1 (l:=Td)) ⟨Ea,kz⟩) ?_
 refine ac ?_
 refine wk [43,1] rfl ?_
 refine Tr.cn rfl ?_ ?_<;>intro h8 q8
 have hb:bits=160∨bits=224∨bits=256∨bits=384∨bits=521:=by simpa [Td] using h8
 refine ac ?_
 refine co rfl (F7 rfl vq vq AA) ?_
 refine a2 ?_
 · refine int_eq ?_;unfold Bx;rw [if_pos hin,if_neg AA,if_neg AA,if_pos AA,if_pos BO];rcases hb with h|h|h|h|h<;>rw [h]<;>rfl
 refine a3 ?_
 · refine int_eq ?_;unfold Bx;rw [if_pos hin,if_neg AA,if_neg AA,if_pos AA,if_neg (Bb BO)]
 refine an ?_ ?_<;>intro h9 q9
 refine ac ?_
 refine co rfl (Bu (XQ) rfl rfl rfl) ?_
 refine ac ?_
 refine wk [5,3] rfl ?_
 refine an ?_ ?_<;>intro h10 O2
 have hlt:=AAv (fun x=>bits==x) (DG B8).sizes
 obtain ⟨z,hz⟩:=at_ (l:=(DG B8).GJ) (k:=(idx (fun x=>bits==x) (DG B8).sizes).toNat) (by have:=hc3 AA;omega)
 refine ac ?_
 refine co rfl (AB rfl underlying22 BJ vq vq AA (Be hz)) ?_
 refine a2 ?_
 · refine int_eq ?_;unfold Bx;rw [if_pos hin,if_neg AA,if_neg AA,if_neg AA,if_pos AA,if_pos BO,hz];rfl
 refine a3 ?_
 · refine int_eq ?_;unfold Bx;rw [if_pos hin,if_neg AA,if_neg AA,if_neg AA,if_pos AA,if_neg AA]
 refine a2 ?_
 refine wk [2] rfl ?_
 refine ac ?_
 · refine int_eq ?_;unfold Bx;rw [if_pos hin,if_neg AA,if_neg AA,if_neg AA,if_neg AA]
theorem Vl {bits:Int}:A_ prog 122 [agg [int B8,int bits]] (bool (decide (Bx B8 bits>0))):=by
 refine fo func122 rfl ⟨rfl,rfl⟩ fun M0 w0=> ?_
 refine a2 ?_
 refine co rfl (CE (Zl) rfl rfl) ?_
 refine a2 ?_
 · exact Lr
structure Jh where
 KD:Int
 OJ:List UInt8
 K6:List UInt8
 TK:Int
 Lm:Int
 CW:Int
 Zm:Int
 Rw:Int
 from_:Int
 OK:Int
 auth:Bool
 path:Int
 names:List (List UInt8)
 vO:Int
 vP:Int
abbrev vQ (l:List (List UInt8)):Pr:=slice 1 (l.map fun t=>[str t])
abbrev F4 (c:Jh):List Pr:=[int c.KD,str c.OJ,str c.K6,int c.TK,int c.Lm,int c.CW,int c.Zm,int c.Rw,int c.from_,int c.OK,bool c.auth,int c.path,vQ c.names,int c.vO,int c.vP]
abbrev O3 (l:List Jh):Pr:=slice 15 (l.map F4)
structure Jh.fits (c:Jh):Prop where
 OJ:c.OJ.length≤maxLen
 K6:c.K6.length≤maxLen
 names:∀s∈c.names,s.length≤maxLen
def IP (n:Int):Bool:=decide (0≤n)&&decide (n≤2147483648)
def AAw (n:Int):Bool:=decide (0≤n)&&decide (n<4294967296)
def K7 (o:List UInt8) (c:UInt8):Bool:=decide (97≤c.toNat∧c.toNat≤122)||decide (65≤c.toNat∧c.toNat≤90)||decide (48≤c.toNat∧c.toNat≤57)||decide (0≤Lib.indexByte o c)
def Q3 (s:List UInt8):Bool:=s.all (K7 [45,95,46])&&decide (1≤s.length∧s.length≤32)
def nameAt (l:List (List UInt8)) (i:Nat):Bool:=named (l[i]?.getD [])&&(decide (i=0)||decide (Lib.compareBytes (l[i-1]?.getD []) (l[i]?.getD [])= -1))
def HK (l:List (List UInt8)):Bool:=allI (nameAt l) l.length&&decide (l.length≤8)
def Le (B8 bits kind:Int):Bool:=decide (Bx B8 bits>0)&&(DG B8).kind==kind
def EB (c:Jh):Bool:=
 (decide (0≤c.KD)&&decide (c.KD≤1099511627776)&&named c.OJ&&named c.K6&&HK c.names)&&
 (Le c.TK c.Lm 2&&IP c.CW&&Le c.Zm c.Rw 1&&IP c.vO&&AAw c.vP)&&
 (decide (0≤c.from_)&&decide (c.from_≤c.OK)&&decide (c.OK≤40000))&&(decide (0≤c.path)&&decide (c.path≤8)&&(c.auth||c.path==0))
def Vm (B8 bits id:Int) (l:List Jh):Bool:=Le B8 bits 2&&IP id&&decide (l.length≤8)&&l.all EB&&match l with|[]=>true|c::_=>decide (c.TK=B8∧c.Lm=bits)&&c.CW==id
structure Ju where
 B8:Int
 bits:Int
 CW:Int
 chain:List Jh
abbrev Ig (x:Ju):List Pr:=[int x.B8,int x.bits,int x.CW,O3 x.chain]
abbrev AJt (l:List Ju):Pr:=slice 4 (l.map Ig)
def Ju.fits (x:Ju):Prop:=∀c∈x.chain,c.fits
structure CF where
 name:List UInt8
 least:Int
 most:Int
 BA:List Int
 own:Bool
 ids:List Ju
 anchors:List Int
 hashes:List Int
 OL:Bool
abbrev Bp (e:CF):List Pr:=[str e.name,int e.least,int e.most,ints e.BA,bool e.own,AJt e.ids,ints e.anchors,ints e.hashes,bool e.OL]
structure CF.fits (e:CF):Prop where
 name:e.name.length≤maxLen
 ids:∀x∈e.ids,x.fits
def Ih (l:List Int) (i:Nat):Bool:=decide (i=0)||decide (l[i-1]?.getD 0<l[i]?.getD 0)
def gq (l:List Int):Bool:=allI (Ih l) l.length
def GZ (l:List Int) (i:Nat):Bool:=decide (1≤l[i]?.getD 0∧l[i]?.getD 0≤16)&& !((l.take i).any fun x=>l[i]?.getD 0==x)
def K8 (l:List Int):Bool:=allI (GZ l) l.length
def Ry (n:Int):Bool:=(DG n).kind==1
def idB (x:Ju):Bool:=Vm x.B8 x.bits x.CW x.chain
def Gt (e:CF):Bool:=
 (Q3 e.name&&decide (1≤e.least)&&decide (e.least≤e.most)&&decide (e.most≤4)&&K8 e.BA)&&
 (decide (e.ids.length≤4)&&decide (e.anchors.length≤16)&&gq e.anchors&&gq e.hashes)&&e.ids.all idB&&e.anchors.all IP&&e.hashes.all Ry
theorem getD_at {β:Type} {l:List β} {x d:β} (h:l[k]? =some x):l[k]?.getD d=x:=by rw [h];rfl
abbrev DR:List Pr:=[any,any,any,any,any,any,any,any,any,any,any,any]
abbrev NM:List (List Pr):=[DR,DR,DR,DR,DR,DR,DR,DR,DR,DR,DR,DR,DR,DR,DR,DR]
theorem nM (hk:k<16):NM[k]? =some DR:=by
 have hk':k<NM.length:=hk
 rw [List.getElem?_eq_getElem hk']
 have:∀r∈NM,r=DR:=by intro r hr;simp at hr;exact hr
 rw [this _ (List.getElem_mem hk')]
theorem gr (h:DR[i]? =some p):p=any:=by have:=List.mem_of_getElem? h;simp at this;exact this
theorem Vn (h:ps.length=12):Pr.le (agg ps) (agg DR):=fun M w v ⟨cs,h1,h2,h3⟩=>⟨cs,h1,h2,HL.yK (by rw [h3.length,h];rfl) fun i p v hp _=>by rw [gr hp];trivial⟩
def nN (B8 bits id:Int) (l:List Jh):Bool:=match l with|[]=>true|c::_=>decide (c.TK=B8∧c.Lm=bits)&&c.CW==id
theorem gu {bits id:Int} {l:List Jh} (h:l.length=0):nN B8 bits id l=true:=by rw [List.eq_nil_of_length_eq_zero h];rfl
theorem XT {bits id:Int} {l:List Jh} {c:Jh} (h:l[0]? =some c):nN B8 bits id l=(decide (c.TK=B8∧c.Lm=bits)&&c.CW==id):=by
 cases l with
 |nil=>simp at h
 |cons a l=>simp at h;subst h;rfl
theorem G4 (B8 bits id:Int) (l:List Jh):Vm B8 bits id l=(Le B8 bits 2&&IP id&&decide (l.length≤8)&&l.all EB&&nN B8 bits id l):=rfl
structure Ju.small (x:Ju):Prop where
 chain:x.chain.length≤925904528640
 names:∀c∈x.chain,c.names.length≤8796093022208
structure Bl where
 AZ:Int
 kind:Int
 number:Int
 at_:Int
 DM:Ju
abbrev FI (c:Bl):List Pr:=[int c.AZ,int c.kind,int c.number,int c.at_,int c.DM.B8,int c.DM.bits,int c.DM.CW,O3 c.DM.chain]
def Bs (key:Int) (l:List Ju):Int:=idx (fun x=>x.CW==key) l
theorem QG {β:Type} {p:β→Bool} {l:List β} (h:0≤idx p l):∃x,l[(idx p l).toNat]? =some x∧p x=true∧(idx p l).toNat<l.length:=by
 unfold idx at*
 cases hf:l.findIdx? p with
 |none=>rw [hf] at h;simp at h
 |some i=>
  rw [List.findIdx?_eq_some_iff_getElem] at hf
  obtain ⟨h1,h2,_⟩:=hf
  refine ⟨l[i],?_,h2,by simpa using h1⟩
  simp
theorem TJ.perm {args:List Pr} {pre post post':List Ay} {res:Pr} (h:TJ P f args pre res post) (hp:post.Perm post'):TJ P f args pre res post':=
 ⟨h.1,fun M0 w0 S rs M w vs hI hv=>(h.2 M0 w0 S rs M w vs hI hv).mono fun _e _w' ⟨v,M',x,h1,h2,h3,h4,h5⟩=>⟨v,M',x,h1,h2,h3,h4,A8.perm (hp.append_right rs) h5⟩⟩
def eC (x:Ju):Bool:=decide (x.B8=0∧x.bits=0)&&x.CW==0&&(((x.chain.length:Nat):Int)==0)
def kV (c:Bl):Bool:=if c.kind=1 then eC c.DM else if c.kind=5 then c.number==0 else c.at_==0&&eC c.DM
structure CF.small (e:CF):Prop where
 BA:e.BA.length≤1000000
 anchors:e.anchors.length≤1000000
 hashes:e.hashes.length≤1000000
 Y6:e.ids.length≤1000000
 ids:∀x∈e.ids,x.small
def KE (b:Int) (l m:List Int):Int:=if 0≤idx (fun x=>b==x) l then (m[(idx (fun x=>b==x) l).toNat]?).getD 0 else 0
theorem gv {b:Int} {l m:List Int} {x z:Int} (hx:l[k]? =some x) (he:x=b) (hz:m[k]? =some z) (h:∀j y,j<k→l[j]? =some y→(b==y)=false):z=KE b l m:=by
 have:=Ev (p:=fun x=>b==x) hx (by simp [he]) h
 unfold KE;rw [←this,if_pos AA,Int.toNat_natCast,hz];rfl
theorem Zn {b:Int} {l m:List Int} (h:∀j y,j<l.length→l[j]? =some y→(b==y)=false):0=KE b l m:=by grind [Gj,KE]
def Gx (B8:Int):Int:=if B8=1 then 18 else if B8=2 then 60 else if B8=3∨B8=8∨B8=21 then 128 else if B8=4 then 192 else if B8=18∨B8=22 then 256 else if B8=19 then 64 else if B8=20 then 80 else 0
def Oi (b:Int):Int:=if b<512∨b>16384 then 0 else if b<1024 then 56 else if b<2048 then 80 else if b<3072 then 112 else if b<7680 then 128 else if b<15360 then 192 else 256
theorem nO (b:Int):Oi b=if 512≤b∧b≤16384 then nL b else 0:=by
 have h1:nL b=if b<1024 then 56 else if b<2048 then 80 else if b<3072 then 112 else if b<7680 then 128 else if b<15360 then 192 else 256:=rfl
 rw [h1];unfold Oi
 by_cases h:512≤b∧b≤16384
 · rw [if_pos h,if_neg AA]
 · rw [if_neg h,if_pos AA]
theorem JI {b:Int} {l m:List Int} (hl:l.length≤m.length):A_ prog 254 [int b,ints l,ints m] (int (KE b l m)):=by
 refine fo func254 rfl ⟨rfl,rfl⟩ fun M0 w0=>(Tr.CN 1 rfl fun Fq=> ?_)
 refine a2 ?_
 refine Tr.block (Tr.A0 _ (kk [2,1,0] rfl) (fun k:Nat=>[(7,int ((k:Nat):Int))]) (fun k:Nat=>k≤(l).length∧(∀j y,j<k→l[j]? =some y→(b==y)=false)) (fun k:Nat=>(l).length-k) 0 (⟨Nat.zero_le _,fun j y hj=>absurd hj AA⟩) kz ?_)
 rintro k ⟨BN,AX⟩
 refine an ?_ ?_<;>intro h1 q1
 have Ae:k<(l).length:=AJ h1
 obtain ⟨x,Af⟩:=at_ Ae
 obtain ⟨z,hz⟩:=at_ (l:=m) (k:=k) AA
 · repeat' first|exact int_eq (gv Af BO hz AX)|(exact Fin.AL (k+1) ⟨⟨Ae,Dm (p:=fun x=>b==x) Af Bz AX⟩,by omega⟩ ⟨⟨_,rfl,AG k⟩,kz⟩)|refine co rfl (AB rfl underlying22 BJ vq vq AA Bk) ?_|refine ac ?_|(refine Tr.cn rfl ?_ ?_<;>intro h q)
 have BC:k=(l).length:=by have:=AK h1;omega
 subst BC
 refine a3 ?_
 · exact int_eq (Zn AX)
theorem nP:A_ prog 255 [int B8] (int (Gx B8)):=by
 refine fo func255 rfl ⟨rfl,rfl⟩ fun M0 w0=> ?_
 refine a2 ?_
 refine an ?_ ?_<;>intro h1 q1
 refine a2 ?_
 · refine int_eq ?_;unfold Gx;(repeat (rw [if_pos AA]))
 refine an ?_ ?_<;>intro h2 q2
 refine a2 ?_
 · exact Nu
 refine an ?_ ?_<;>intro h3 q3
 refine ac ?_
 refine Tr.cond rfl (fun _=> ?_) (fun h=>nomatch h3.symm.trans h)
 refine a2 ?_
 · exact Nu
 refine an ?_ ?_<;>intro h4 q4
 refine ac ?_
 refine Tr.cond rfl (fun _=> ?_) (fun h=>nomatch h4.symm.trans h)
 refine a2 ?_
 · exact Nu
 refine an ?_ ?_<;>intro h5 q5
 refine a2 ?_
 · exact Nu
 refine ac ?_
 refine wk [12,3] rfl ?_
 refine Tr.cn rfl ?_ ?_<;>intro h6 q6
 refine a2 ?_
 · exact Nu
 refine an ?_ ?_<;>intro h7 q7
 refine ac ?_
 refine Tr.cond rfl (fun _=> ?_) (fun h=>nomatch h7.symm.trans h)
 refine a2 ?_
 · exact Nu
 · repeat' first|(refine int_eq ?_;unfold Gx;(repeat (first|rw [if_pos AA]|rw [if_neg AA])))|(refine int_eq ?_;unfold Gx;(repeat (rw [if_neg AA])))|refine ac ?_|(refine Tr.cn rfl ?_ ?_<;>intro h q)
theorem JJ {b:Int}  :A_ prog 253 [int b] (int (Oi b)):=by
 refine fo func253 rfl ⟨rfl,rfl⟩ fun M0 w0=> ?_
 refine ac ?_
 refine ac ?_
 refine Ch.cs 6 rfl ?_ ?_<;>intro h1 q1
 refine ac ?_
 refine ac ?_
 refine ac ?_
 · refine int_eq ?_;unfold Oi;(repeat (rw [if_pos AA]))
 refine ac ?_
 refine Tr.cn rfl ?_ ?_<;>intro h2 q2
 refine ac ?_
 refine ac ?_
 · refine int_eq ?_;unfold Oi;(repeat (rw [if_pos AA]))
 refine ac ?_
 refine Tr.cn rfl ?_ ?_<;>intro h3 q3
 refine ac ?_
 refine ac ?_
 · exact Qt
 refine ac ?_
 refine wk [13,0] rfl ?_
 refine Tr.cn rfl ?_ ?_<;>intro h4 q4
 refine ac ?_
 refine ac ?_
 · exact Qt
 refine ac ?_
 refine Tr.cn rfl ?_ ?_<;>intro h5 q5
 refine ac ?_
 refine ac ?_
 · exact Qt
 refine ac ?_
 refine Tr.cn rfl ?_ ?_<;>intro h6 q6
 refine ac ?_
 refine ac ?_
 · exact Qt
 refine ac ?_
 refine Tr.cn rfl ?_ ?_<;>intro h7 q7
 refine ac ?_
 refine ac ?_
 · exact Qt
 refine ac ?_
 refine ac ?_
 refine ac ?_
 · refine int_eq ?_;unfold Oi;(repeat (rw [if_neg AA]))
theorem vR (b c:Int):KE b [0] [c]=if b=0 then c else 0:=by grind [KE,idx]
theorem U2 {b:Int} (h:B8=5∨B8=6∨B8=10∨B8=11):Oi b=Bx B8 b:=by
 rw [nO]
 rcases h with rfl|rfl|rfl|rfl<;>rfl
theorem TL {b:Int} (h:¬(B8=5∨B8=6∨B8=7∨B8=9∨B8=10∨B8=11∨B8=12∨B8=13∨B8=14∨B8=15∨B8=16∨B8=17)):KE b [0] [Gx B8]=Bx B8 b:=by
 rw [vR]
 by_cases hin:1≤B8∧B8≤22
 ·
  have ha:B8=1∨B8=2∨B8=3∨B8=4∨B8=8∨B8=18∨B8=19∨B8=20∨B8=21∨B8=22:=by omega
  rcases ha with rfl|rfl|rfl|rfl|rfl|rfl|rfl|rfl|rfl|rfl<;>rfl
 ·
  have h1:Gx B8=0:=by unfold Gx;(repeat (first|rw [if_pos AA]|rw [if_neg AA]))
  unfold Bx
  rw [h1,if_neg hin];split<;>rfl
theorem Ml {b:Int} (h:B8=7∨B8=12):Bx B8 b=if (Td.any fun x=>b==x)=true then b.tdiv 2 else 0:=by
 rcases h with rfl|rfl<;>rfl
theorem XU {bits:Int}:A_ prog 208 [agg [int B8,int bits]] (int (Bx B8 bits)):=by
 refine fo func208 rfl ⟨rfl,rfl⟩ fun M0 w0=> ?_
 iterate 4 refine ac ?_
 refine Tr.cn rfl ?_ ?_<;>intro h1 q1
 refine ac ?_
 refine Tr.cond rfl (fun _=> ?_) (fun h=>nomatch h1.symm.trans h)
 refine ac ?_
 refine co rfl (CE (JJ) rfl rfl) ?_
 refine a2 ?_
 · exact Po
 refine an ?_ ?_<;>intro h2 q2
 refine ac ?_
 refine Tr.cond rfl (fun _=> ?_) (fun h=>nomatch h2.symm.trans h)
 refine ac ?_
 refine co rfl (CE (JJ) rfl rfl) ?_
 refine ac ?_
 refine wk [2] rfl ?_
 refine ac ?_
 · exact Po
 refine an ?_ ?_<;>intro h3 q3
 refine ac ?_
 refine Tr.cond rfl (fun _=> ?_) (fun h=>nomatch h3.symm.trans h)
 refine ac ?_
 refine co rfl (CE (JJ) rfl rfl) ?_
 refine ac ?_
 refine wk [2] rfl ?_
 refine ac ?_
 · exact Po
 refine ac ?_
 refine wk [8,7,3,1] rfl ?_
 refine Tr.cn rfl ?_ ?_<;>intro h4 q4
 refine ac ?_
 refine co rfl (CE (JJ) rfl rfl) ?_
 refine a2 ?_
 · exact Po
 refine an ?_ ?_<;>intro h5 q5
 refine ac ?_
 refine Tr.cond rfl (fun _=> ?_) (fun h=>nomatch h5.symm.trans h)
 · exact kO
 refine an ?_ ?_<;>intro h11 Rz
 · exact kO
 refine an ?_ ?_<;>intro OD q17
 refine ac ?_
 refine co rfl (AY rfl (JI (l:=[44,65,87]) (m:=[128,192,256]) AR) ⟨kq,Ea,Ea,trivial⟩) ?_
 refine ac ?_
 refine wk [2] rfl ?_
 refine ac ?_
 · refine int_eq ?_;have ha:B8=9:=AA;rcases ha with rfl<;>rfl
 refine an ?_ ?_<;>intro RO q18
 refine ac ?_
 refine co rfl (AY rfl (JI (l:=[512,768,1024]) (m:=[128,192,256]) AR) ⟨kq,Ea,Ea,trivial⟩) ?_
 refine ac ?_
 refine wk [2] rfl ?_
 refine ac ?_
 · refine int_eq ?_;have ha:B8=13:=AA;rcases ha with rfl<;>rfl
 refine ac ?_
 refine wk [50,7,3,1] rfl ?_
 refine Tr.cn rfl ?_ ?_<;>intro nQ q19
 refine ac ?_
 refine co rfl (AY rfl (JI (l:=[40,128]) (m:=[40,60]) AR) ⟨kq,Ea,Ea,trivial⟩) ?_
 refine a2 ?_
 · refine int_eq ?_;have ha:B8=14:=AA;rcases ha with rfl<;>rfl
 refine an ?_ ?_<;>intro R3 q20
 refine ac ?_
 refine co rfl (AY rfl (JI (l:=[112,168]) (m:=[80,112]) AR) ⟨kq,Ea,Ea,trivial⟩) ?_
 refine a2 ?_
 · refine int_eq ?_;have ha:B8=15:=AA;rcases ha with rfl<;>rfl
 refine an ?_ ?_<;>intro Zo q21
 refine ac ?_
 refine Tr.cond rfl (fun _=> ?_) (fun h=>nomatch Zo.symm.trans h)
 refine ac ?_
 refine co rfl (AY rfl (JI (l:=[128,256]) (m:=[128,256]) AR) ⟨kq,Ea,Ea,trivial⟩) ?_
 refine a2 ?_
 · refine int_eq ?_;have ha:B8=16∨B8=17:=AA;rcases ha with rfl|rfl<;>rfl
 · repeat' first|(refine int_eq ?_;have ha:B8=16∨B8=17:=AA;rcases ha with rfl|rfl<;>rfl)|(refine int_eq ?_;exact TL AA)|refine co rfl (AY rfl (JI (l:=[128,256]) (m:=[128,256]) AR) ⟨kq,Ea,Ea,trivial⟩) ?_|refine co rfl (CE (nP) rfl rfl) (co rfl (Aa (xs:=[.tmp 73]) (rows:=[[_]]) rfl rfl underlying22 BJ z3 rfl AD ⟨⟨Ao,Ce⟩,trivial⟩ AD) ?_)|refine co rfl (AY rfl (JI (l:=[0]) (m:=[Gx B8]) AR) ⟨kq,Ea,Ea,trivial⟩) ?_|refine ac ?_|(refine Tr.cn rfl ?_ ?_<;>intro h q)
theorem KF {bits:Int}:A_ prog 145 [agg [int B8,int bits]] (bool (decide (Bx B8 bits>0))):=by
 refine fo func145 rfl ⟨rfl,rfl⟩ fun M0 w0=> ?_
 refine a2 ?_
 refine co rfl (CE (XU) rfl rfl) ?_
 refine a2 ?_
 · exact Lr
def AAx:List (List UInt8×Int):=Fp.map fun r=>(r.name,r.kind)
theorem vS (h:1≤B8∧B8≤22):AAx[B8.toNat]? =some ((DG B8).name,(DG B8).kind):=by
 unfold AAx;rw [List.getElem?_map,Hw h];rfl
theorem vT   :A_ prog 207 [] (slice 2 (AAx.map fun r=>[str r.1,int r.2])):=by
 refine fo func207 rfl ⟨rfl,rfl⟩ fun M0 w0=> ?_
 refine a2 ?_
 refine wk [0] rfl ?_
 refine ac ?_
 · exact BF _ _
theorem QH:A_ prog 143 [int B8] (int (DG B8).kind):=by
 refine fo func143 rfl ⟨rfl,rfl⟩ fun M0 w0=> ?_
 refine ac ?_
 refine ag ?_ ?_<;>intro h1 q1
 refine a3 ?_
 · refine int_eq ?_;unfold DG;rw [if_neg AA];rfl
 refine an ?_ ?_<;>intro h2 q2
 refine a2 ?_
 · refine int_eq ?_;unfold DG;rw [if_neg AA];rfl
 have hin:1≤B8∧B8≤22:=by omega
 refine ac ?_
 refine Tr.seq (Tr.Bq (co rfl (kc0 (vT) rfl) (cm rfl (co rfl (AB rfl underlying310 ya vq vq AA (Be (f:=fun r:List UInt8×Int=>[str r.1,int r.2]) (vS hin))) ?_))))
 refine a2 ?_
 · exact Lr
theorem KG {bits:Int}:A_ prog 203 [agg [int B8,int bits]] (bool (decide (Bx B8 bits>0)&&(DG B8).kind==2)):=by
 refine fo func203 rfl ⟨rfl,rfl⟩ fun M0 w0=> ?_
 refine ac ?_
 refine ac ?_
 refine co rfl (CE (KF) rfl rfl) (cm rfl ?_)
 refine Ch.cs 5 rfl ?_ ?_<;>intro h1 q1
 refine ac ?_
 refine cy h1 rfl (CE (QH) rfl rfl) ?_
 refine ac ?_
 refine ac ?_
 · refine bool_eq ?_;simp_all
 refine ac ?_
 refine ac ?_
 · exact Pv
def FE:CF:=⟨[],0,0,[],false,[],[],[],false⟩
def B6:Ju:=⟨0,0,0,[]⟩
def Hx:Bl:=⟨0,0,0,0,B6⟩
abbrev vU (l:List Int):Prop:=l.Pairwise (· < ·)
def E7 (l:List Int) (x:Int):Nat:=(l.takeWhile fun y=>decide (y<x)).length
theorem eD (l:List Int) (x:Int):E7 l x≤l.length:=by
 unfold E7
 have h:=List.takeWhile_append_dropWhile (p:=fun y=>decide (y<x)) (l:=l)
 have:=congrArg List.length h
 rw [List.length_append] at this;omega
theorem Vp {x:Int}:∀{l:List Int} {k:Nat},k≤l.length→(∀(j:Nat) y,j<k→l[j]? =some y→y<x)→(∀y,l[k]? =some y→¬y<x)→E7 l x=k
  | [], k, hk, _, _ => by have : k = 0 := by simpa using hk
                          subst this;rfl
  |y::r,0,_,_,h2=>by unfold E7;rw [List.takeWhile_cons_of_neg (by simpa using h2 y rfl)];rfl
  |y::r,k+1,hk,h1,h2=>by
    have ih:=Vp (l:=r) (k:=k) P4 (fun j z hj hz=>h1 (j+1) z AA Kv) (fun z hz=>h2 z Kv)
    unfold E7 at ih ⊢
    rw [List.takeWhile_cons_of_pos (by simpa using h1 0 y AA rfl),List.length_cons,ih]
theorem Vq {x:Int}:∀{l:List Int} {j:Nat} {y:Int},j<E7 l x→l[j]? =some y→y<x
 |[],j,y,h,_=>by unfold E7 at h;simp at h
 |z::r,j,y,h,hy=>by
  by_cases hz:z<x
  ·
   cases j with
   |zero=>simp at hy;subst hy;exact hz
   |succ j=>
    refine Vq (l:=r) (j:=j) ?_ (by simpa using hy)
    unfold E7 at h ⊢
    rw [List.takeWhile_cons_of_pos Kv,List.length_cons] at h;omega
  · unfold E7 at h;rw [List.takeWhile_cons_of_neg Kv] at h;simp at h
theorem eE {x:Int}:∀{l:List Int} {y:Int},l[E7 l x]? =some y→¬y<x
 |[],y,h=>by simp at h
 |z::r,y,h=>by
  by_cases hz:z<x
  ·
   unfold E7 at h
   rw [List.takeWhile_cons_of_pos Kv,List.length_cons,List.getElem?_cons_succ] at h
   exact eE (l:=r) h
  · unfold E7 at h;rw [List.takeWhile_cons_of_neg Kv] at h;simp at h;subst h;exact hz
abbrev Gk (l:List Int) (x:Int):Bool:=(l[E7 l x]?).any (fun y=>decide (y=x))
abbrev Zp (l:List Int) (x:Int):List Int:=l.take (E7 l x)++[x]++l.drop (E7 l x)
theorem vV {l:List Int} (hs:vU l) {y z:Int} (hjk:j<k) (hy:l[j]? =some y) (hz:l[k]? =some z):y<z:=by
 have h1:=BZ hy;have h2:=BZ hz
 have:=List.pairwise_iff_getElem.1 hs j k h1 h2 hjk
 rw [List.getElem?_eq_getElem h1] at hy;rw [List.getElem?_eq_getElem h2] at hz
 cases hy;cases hz;exact this
theorem QI {l:List Int} (h:gq l=true):vU l:=by
 unfold gq at h;rw [CA] at h
 have h1:∀(d i:Nat) y z,l[i]? =some y→l[i+d+1]? =some z→y<z:=by
  intro d
  induction d with
  |zero=>
   intro i y z hy hz
   have:=h (i+1) (BZ hz)
   unfold Ih at this
   rw [getD_at (show l[i+1]? =some z from hz),getD_at (show l[i+1-1]? =some y from hy)] at this
   simpa using this
  |succ d ih=>
   intro i y z hy hz
   obtain ⟨m,hm⟩:=at_ (l:=l) (k:=i+d+1) (by have:=BZ hz;omega)
   have a1:=ih i y m hy hm
   have:=h (i+(d+1)+1) (BZ hz)
   unfold Ih at this
   rw [getD_at hz,getD_at (show l[i+(d+1)+1-1]? =some m from hm)] at this
   have:m<z:=by simpa using this
   omega
 refine List.pairwise_iff_getElem.2 fun i j hi hj hij=> ?_
 refine h1 (j-i-1) i _ _ (List.getElem?_eq_getElem hi) ?_
 rw [show i+(j-i-1)+1=j by omega];exact List.getElem?_eq_getElem hj
theorem Vr {l:List Int} {x:Int} (h:Gk l x=true):E7 l x<l.length:=by
 by_cases hp:E7 l x<l.length
 · exact hp
 · unfold Gk at h;rw [List.getElem?_eq_none AA] at h;cases h
abbrev NN (b:Bool):Int:=if b then 1 else 0
abbrev NO (e:CF) (c:Bl):Int:=idx (fun y=>c.number==y) e.BA
def CD (e:CF) (c:Bl):Except Int (CF×Bl):=
 if c.kind = 1 then
  if ¬(0≤c.at_∧c.at_≤(e.BA.length:Nat)) then .error 2
  else if (e.BA.any fun y=>c.number==y)=true then .error 41
  else .ok ({ e with BA:=e.BA.take c.at_.toNat++[c.number]++e.BA.drop c.at_.toNat },⟨c.AZ,2,c.number,0,B6⟩)
 else if c.kind = 2 then
  if NO e c<0 then .error 41 else .ok ({ e with BA:=e.BA.eraseIdx (NO e c).toNat },⟨c.AZ,1,c.number,NO e c,B6⟩)
 else if c.kind = 3 then
  if e.most=c.number then .error 41 else .ok ({ e with most:=c.number },⟨c.AZ,c.kind,e.most,0,B6⟩)
 else if c.kind = 4 then
  if e.least=c.number then .error 41 else .ok ({ e with least:=c.number },⟨c.AZ,c.kind,e.least,0,B6⟩)
 else if c.kind = 5 then
  if ¬(0≤c.at_∧c.at_≤(e.ids.length:Nat)) then .error 2
  else if 0≤Bs c.DM.CW e.ids then .error 41
  else .ok ({ e with ids:=e.ids.take c.at_.toNat++[c.DM]++e.ids.drop c.at_.toNat },⟨c.AZ,6,c.DM.CW,0,B6⟩)
 else if c.kind = 6 then
  match e.ids[(Bs c.number e.ids).toNat]? with
  |none=> .error 41
  |some x=>
   if Bs c.number e.ids<0 then .error 41
   else if ((e.ids.drop (Bs c.number e.ids+1).toNat).any fun x=>x.CW==c.number)=true then .error 5
   else .ok ({ e with ids:=e.ids.eraseIdx (Bs c.number e.ids).toNat },⟨c.AZ,5,0,Bs c.number e.ids,x⟩)
 else if c.kind = 7 then
  if Gk e.anchors c.number=true then .error 41 else .ok ({ e with anchors:=Zp e.anchors c.number },⟨c.AZ,8,c.number,0,B6⟩)
 else if c.kind = 8 then
  if Gk e.anchors c.number=true then .ok ({ e with anchors:=e.anchors.eraseIdx (E7 e.anchors c.number) },⟨c.AZ,7,c.number,0,B6⟩) else .error 41
 else if c.kind = 9 then
  if Gk e.hashes c.number=true then .error 41 else .ok ({ e with hashes:=Zp e.hashes c.number },⟨c.AZ,10,c.number,0,B6⟩)
 else if c.kind = 10 then
  if Gk e.hashes c.number=true then .ok ({ e with hashes:=e.hashes.eraseIdx (E7 e.hashes c.number) },⟨c.AZ,9,c.number,0,B6⟩) else .error 41
 else if c.kind = 11 then
  if ¬(0≤c.number∧c.number≤1) then .error 2
  else if NN e.OL=c.number then .error 41 else .ok ({ e with OL:=(c.number==1) },⟨c.AZ,c.kind,NN e.OL,0,B6⟩)
 else
  if ¬(0≤c.number∧c.number≤1) then .error 2
  else if NN e.own=c.number then .error 41 else .ok ({ e with own:=(c.number==1) },⟨c.AZ,c.kind,NN e.own,0,B6⟩)
def Jl (c:Bl):Prop:=(1≤c.kind∧c.kind≤12)∧kV c=true
instance (c:Bl):Decidable (Jl c):=inferInstanceAs (Decidable (_∧_))
def ET (e:CF) (c:Bl):CF×Bl×Int:=
 if Gt e=false then (FE,Hx,19)
 else if ¬Jl c then (FE,Hx,40)
 else match CD e c with
  | .error f=>(FE,Hx,f)
  | .ok (e2,b)=>if Gt e2=true then (e2,b,0) else (FE,Hx,18)
theorem QJ {e:CF} {c:Bl} (h:c.kind=1):CD e c=
  (
  if ¬(0≤c.at_∧c.at_≤(e.BA.length:Nat)) then .error 2
  else if (e.BA.any fun y=>c.number==y)=true then .error 41
  else .ok ({ e with BA:=e.BA.take c.at_.toNat++[c.number]++e.BA.drop c.at_.toNat },⟨c.AZ,2,c.number,0,B6⟩)):=by
 unfold CD;rw [if_pos h]
theorem QK {e:CF} {c:Bl} (h:c.kind=2):CD e c=
  (
  if NO e c<0 then .error 41 else .ok ({ e with BA:=e.BA.eraseIdx (NO e c).toNat },⟨c.AZ,1,c.number,NO e c,B6⟩)):=by
 unfold CD;rw [if_neg (by rw [h];decide)];rw [if_pos h]
theorem QL {e:CF} {c:Bl} (h:c.kind=3):CD e c=
  (
  if e.most=c.number then .error 41 else .ok ({ e with most:=c.number },⟨c.AZ,c.kind,e.most,0,B6⟩)):=by grind [CD]
theorem QM {e:CF} {c:Bl} (h:c.kind=4):CD e c=
  (
  if e.least=c.number then .error 41 else .ok ({ e with least:=c.number },⟨c.AZ,c.kind,e.least,0,B6⟩)):=by grind [CD]
theorem QN {e:CF} {c:Bl} (h:c.kind=5):CD e c=
  (
  if ¬(0≤c.at_∧c.at_≤(e.ids.length:Nat)) then .error 2
  else if 0≤Bs c.DM.CW e.ids then .error 41
  else .ok ({ e with ids:=e.ids.take c.at_.toNat++[c.DM]++e.ids.drop c.at_.toNat },⟨c.AZ,6,c.DM.CW,0,B6⟩)):=by grind [CD]
theorem QO {e:CF} {c:Bl} (h:c.kind=6):CD e c=
  (
  match e.ids[(Bs c.number e.ids).toNat]? with
  |none=> .error 41
  |some x=>
   if Bs c.number e.ids<0 then .error 41
   else if ((e.ids.drop (Bs c.number e.ids+1).toNat).any fun x=>x.CW==c.number)=true then .error 5
   else .ok ({ e with ids:=e.ids.eraseIdx (Bs c.number e.ids).toNat },⟨c.AZ,5,0,Bs c.number e.ids,x⟩)):=by grind [CD]
theorem QS {e:CF} {c:Bl} (h:c.kind=7):CD e c=
  (
  if Gk e.anchors c.number=true then .error 41 else .ok ({ e with anchors:=Zp e.anchors c.number },⟨c.AZ,8,c.number,0,B6⟩)):=by grind [CD]
theorem QT {e:CF} {c:Bl} (h:c.kind=8):CD e c=
  (
  if Gk e.anchors c.number=true then .ok ({ e with anchors:=e.anchors.eraseIdx (E7 e.anchors c.number) },⟨c.AZ,7,c.number,0,B6⟩) else .error 41):=by grind [CD]
theorem QU {e:CF} {c:Bl} (h:c.kind=9):CD e c=
  (
  if Gk e.hashes c.number=true then .error 41 else .ok ({ e with hashes:=Zp e.hashes c.number },⟨c.AZ,10,c.number,0,B6⟩)):=by grind [CD]
theorem NP {e:CF} {c:Bl} (h:c.kind=10):CD e c=
  (
  if Gk e.hashes c.number=true then .ok ({ e with hashes:=e.hashes.eraseIdx (E7 e.hashes c.number) },⟨c.AZ,9,c.number,0,B6⟩) else .error 41):=by simp_all [CD]
theorem NQ {e:CF} {c:Bl} (h:c.kind=11):CD e c=
  (
  if ¬(0≤c.number∧c.number≤1) then .error 2
  else if NN e.OL=c.number then .error 41 else .ok ({ e with OL:=(c.number==1) },⟨c.AZ,c.kind,NN e.OL,0,B6⟩)):=by simp_all [CD]
theorem NR {e:CF} {c:Bl} (h:c.kind=12):CD e c=
  (
  if ¬(0≤c.number∧c.number≤1) then .error 2
  else if NN e.own=c.number then .error 41 else .ok ({ e with own:=(c.number==1) },⟨c.AZ,c.kind,NN e.own,0,B6⟩)):=by simp_all [CD]
theorem gw {e:CF} {c:Bl} {f:Int} (h:Gt e=true) (hc:Jl c) (hs:CD e c= .error f):ET e c=(FE,Hx,f):=by grind [ET]
theorem nR {e:CF} {c:Bl} {e2:CF} {b:Bl} (h:Gt e=true) (hc:Jl c) (hs:CD e c= .ok (e2,b)) (h2:Gt e2=true):ET e c=(e2,b,0):=by grind [ET]
theorem vW {e:CF} {c:Bl} {e2:CF} {b:Bl} (h:Gt e=true) (hc:Jl c) (hs:CD e c= .ok (e2,b)) (h2:Gt e2=false):ET e c=(FE,Hx,18):=by grind [ET]
structure eF (e:CF):Prop where
 name:Q3 e.name=true
 least:1≤e.least
 lm:e.least≤e.most
 most:e.most≤4
 BA:K8 e.BA=true
 Y6:e.ids.length≤4
 ADO:e.anchors.length≤16
 anc:gq e.anchors=true
 hash:gq e.hashes=true
 ids:e.ids.all idB=true
 keys:e.anchors.all IP=true
 hsh:e.hashes.all Ry=true
theorem DN {e:CF}:Gt e=true↔eF e:=by
 unfold Gt;simp only [Bool.and_eq_true,decide_eq_true_eq]
 exact ⟨fun ⟨⟨⟨⟨⟨⟨⟨⟨a,b⟩,c⟩,d⟩,f⟩,⟨⟨⟨g,h⟩,i⟩,j⟩⟩,k⟩,l⟩,m⟩=>⟨a,b,c,d,f,g,h,i,j,k,l,m⟩,fun ⟨a,b,c,d,f,g,h,i,j,k,l,m⟩=>⟨⟨⟨⟨⟨⟨⟨⟨a,b⟩,c⟩,d⟩,f⟩,⟨⟨⟨g,h⟩,i⟩,j⟩⟩,k⟩,l⟩,m⟩⟩
theorem gy:B6.small:=⟨by show 0≤_;omega,fun c hc=>by cases hc⟩
abbrev T8:List Pr:=[Dt .u8]
abbrev eG (m:Nat):Pr:=slice 1 (List.replicate m T8)
abbrev Es (B:Nat):Pr:=Cp.ex fun m:Nat=>fact (m≤B) (eG m)
abbrev EN:Pr:=Cp.ex fun b:Bool=>bool b
abbrev Bm (q:Pr):List Pr:=[Dt .i64,Es 1000,EN,q]
abbrev KH (row:List Pr):Pr:=Cp.ex fun m:Nat=>fact (m≤20) (slice 4 (List.replicate m row))
abbrev MC (D:Nat):Pr:=Cp.ex fun d:Int=>fact (0≤d∧d≤(D:Nat)) (int d)
theorem KI {r:List Pr} (h:k<m):(List.replicate m r)[((k:Nat):Int).toNat]? =some r:=by rw [Int.toNat_natCast,List.getElem?_replicate,if_pos h]
theorem eH {r:List Pr}:List.replicate m r++[r]=List.replicate (m+1) r:=by rw [List.replicate_succ']
theorem NS {r:List Pr}:List.replicate m r++List.replicate k r=List.replicate (m+k) r:=by rw [List.replicate_append_replicate]
theorem PR.refl:∀l:List Pr,PR l l
 |[]=>trivial
 |_::l=>⟨Pr.le_refl _,PR.refl l⟩
theorem RI {sz:Nat} (hl:rows.length=rows'.length) (h:∀(i:Nat) r r',rows[i]? =some r→rows'[i]? =some r'→r.length=r'.length∧∀(j:Nat) p p',r[j]? =some p→r'[j]? =some p'→Pr.le p p'):Pr.le (slice sz rows) (slice sz rows'):=by
 rintro M w v ⟨a,cap,h1,h2,h3,h4,h5⟩
 refine ⟨a,cap,by rw [←hl];exact h1,by rw [←hl];exact h2,h3,h4,fun i row hr=> ?_⟩
 have hi:i<rows.length:=by rw [hl];exact BZ hr
 have hr0:=List.getElem?_eq_getElem hi
 obtain ⟨g1,g2⟩:=h i _ _ hr0 hr
 obtain ⟨k1,ad,k2,k3⟩:=h5 i _ hr0
 refine ⟨by rw [←g1];exact k1,ad,k2,fun j p' hp'=> ?_⟩
 have hj:j<rows[i].length:=by rw [g1];exact BZ hp'
 have hp:=List.getElem?_eq_getElem hj
 obtain ⟨u,c1,c2,c3,c4⟩:=k3 j _ hp
 exact ⟨u,c1,c2,c3,g2 j _ _ hp hp' _ _ _ c4⟩
theorem gz {sz:Nat} {r:List Pr} (h:∀q∈rows,q.length=r.length∧∀(j:Nat) p p',q[j]? =some p→r[j]? =some p'→Pr.le p p'):Pr.le (slice sz rows) (slice sz (List.replicate rows.length r)):=by grind [RI,BZ]
theorem Y7 {β:Type} {l:List β} {f:β→Int}:Pr.le (slice 1 (l.map fun x=>[is (.int .u8 (f x))])) (eG l.length):=by
 have:=gz (sz:=1) (rows:=l.map fun x=>[is (.int .u8 (f x))]) (r:=T8) (by
  intro q hq
  obtain ⟨x,_,rfl⟩:=List.mem_map.1 hq
  refine ⟨rfl,fun j p p' hp hp'=> ?_⟩
  cases j with
  |zero=>simp at hp hp';subst hp;subst hp';exact Cf _ _
  |succ j=>simp at hp)
 rwa [List.length_map] at this
theorem F6 {B:Nat} (h:m≤B) (hp:Pr.le p (eG m)):Pr.le p (Es B):=As m (Ar h hp)
theorem A_.Bm {row:List Pr} {res:Pr} (h:∀(t:Int) (b:Nat) (n:Bool) (m:Nat),b≤1000→m≤20→A_ P f [agg [int t,eG b,bool n,slice 4 (List.replicate m row)]] res):A_ P f [agg (Bm (KH row))] res:=by
 refine ⟨(h 0 0 false 0 AA AA).1,fun M w vs hb hv=> ?_⟩
 match vs,hv with
 |[u0],TI=>
  obtain ⟨⟨cs,rfl,ho,hcs⟩,_⟩:=TI
  match cs,hcs with
  |[c0,c1,c2,c3],hc=>
   obtain ⟨⟨t,h0⟩,⟨b,S7,h1⟩,⟨n,h2⟩,⟨m,hm1,h3⟩,_⟩:=hc
   exact (h t b n m S7 hm1).2 M w _ hb ⟨⟨_,rfl,ho,h0,h1,h2,h3,trivial⟩,trivial⟩
theorem A_.nS {res:Pr} (h:∀(t:Int) (b:Nat) (n:Bool),b≤1000→A_ P f [agg [int t,eG b,bool n,slice 4 []]] res):A_ P f [agg [Dt .i64,Es 1000,EN,slice 4 []]] res:=by
 refine ⟨(h 0 0 false AA).1,fun M w vs hb hv=> ?_⟩
 match vs,hv with
 |[u0],TI=>
  obtain ⟨⟨cs,rfl,ho,hcs⟩,_⟩:=TI
  match cs,hcs with
  |[c0,c1,c2,c3],hc=>
   obtain ⟨⟨t,h0⟩,⟨b,S7,h1⟩,⟨n,h2⟩,h3,_⟩:=hc
   exact (h t b n S7).2 M w _ hb ⟨⟨_,rfl,ho,h0,h1,h2,h3,trivial⟩,trivial⟩
theorem AAy {n:Int}  :A_ prog 274 [int n] (bool (decide (1≤n)&&decide (n≤255)&&(n.tmod 32 !=31))):=by
 refine fo func274 rfl ⟨rfl,rfl⟩ fun M0 w0=> ?_
 refine ac ?_
 refine ag ?_ ?_<;>intro h1 q1
 refine ag ?_ ?_<;>intro h2 q2
 refine OB h2 rfl (cy h2 rfl (VD rfl vq vq AA) ?_)
 refine a2 ?_
 · refine bool_eq ?_;simp_all
 refine a2 ?_
 · exact Pv
 refine a2 ?_
 · exact Pv
theorem OM {t:Int} {n:Bool} (hb:b≤1000) (hm:m≤20) (ih:m=0∨A_ prog 243 [agg (Bm q)] (EN)):A_ prog 243 [agg [int t,eG b,bool n,slice 4 (List.replicate m (Bm q))]] (EN):=by
 refine fo func243 rfl ⟨rfl,rfl⟩ fun M0 w0=> ?_
 have hlr:(List.replicate m (Bm q)).length=m:=List.length_replicate
 have hlb:(List.replicate b T8).length=b:=List.length_replicate
 refine a2 ?_
 refine co rfl (CE (AAy) rfl rfl) ?_
 refine ag ?_ ?_<;>intro h1 q1
 refine ac ?_
 refine wk [38,1] rfl ?_
 refine a2 ?_
 · exact Aw
 refine ac ?_
 refine cy h1 rfl (F7 rfl vq vq AA) (cy h1 rfl (VD rfl vq vq AA) (cy h1 rfl kiq (cy h1 rfl (ZU rfl underlying4 vq vq) ?_)))
 refine ag ?_ ?_<;>intro h2 q2
 refine ac ?_
 refine wk [38,1] rfl ?_
 refine a2 ?_
 · exact Aw
 refine ag ?_ ?_<;>intro h3 q3
 refine ac ?_
 refine cy h3 rfl (CB rfl underlying213 vq) ?_
 refine ag ?_ ?_<;>intro h4 q4
 refine ac ?_
 refine wk [38,1] rfl ?_
 refine a2 ?_
 · exact Aw
 refine ag ?_ ?_<;>intro h5 q5
 refine ac ?_
 refine cy h5 rfl (CB rfl underlying302 vq) ?_
 refine ac ?_
 refine wk [38,1] rfl ?_
 refine Tr.cn rfl ?_ ?_<;>intro h6 q6
 refine a2 ?_
 · exact Aw
 refine a2 ?_
 refine Tr.block (Tr.A0 _ (kk [1] rfl) (fun k:Nat=>[(3,int ((k:Nat):Int))]) (fun k:Nat=>k≤((List.replicate m (Bm q)).length)) (fun k:Nat=>((List.replicate m (Bm q)).length)-k) 0 (Nat.zero_le _) kz ?_)
 rintro k BN
 refine ac ?_
 refine co rfl (CB rfl underlying302 vq) ?_
 refine an ?_ ?_<;>intro h7 q7
 have Ae:k<((List.replicate m (Bm q)).length):=AJ h7
 have hkm:k<m:=by simpa using Ae
 have ih2:=ih.resolve_left AA
 refine ac ?_
 refine ap ?_
 refine tp rfl (AB rfl underlying302 Ck vq vq AA (KI hkm)) (tp rfl (Al rfl DQ Ck vq rfl rfl) (tp rfl (CE (ih2) rfl rfl) ?_))
 refine TO.ex 51 rfl (fun z51=> ?_)
 refine ap ?_
 · exact Lx
 have BC:k=((List.replicate m (Bm q)).length):=by have:=AK h7;omega
 refine a3 ?_
 · exact Aw
 refine ac ?_
 refine wk [38,1] rfl ?_
 refine a2 ?_
 refine Tr.block (Tr.A0 _ (kk [1] rfl) (fun k:Nat=>[(3,int ((k:Nat):Int))]) (fun k:Nat=>k≤((List.replicate m (Bm q)).length)) (fun k:Nat=>((List.replicate m (Bm q)).length)-k) 0 (Nat.zero_le _) kz ?_)
 rintro k BN
 refine ac ?_
 refine co rfl (CB rfl underlying302 vq) ?_
 refine an ?_ ?_<;>intro h9 q9
 have Ae:k<((List.replicate m (Bm q)).length):=AJ h9
 have hkm:k<m:=by simpa using Ae
 have ih2:=ih.resolve_left AA
 refine ac ?_
 refine ap ?_
 refine tp rfl (AB rfl underlying302 Ck vq vq AA (KI hkm)) (tp rfl (Al rfl DQ Ck vq rfl rfl) (tp rfl (CE (ih2) rfl rfl) ?_))
 refine TO.ex 51 rfl (fun z51=> ?_)
 refine ap ?_
 · exact Lx
 have BC:k=((List.replicate m (Bm q)).length):=by have:=AK h9;omega
 refine a3 ?_
 · exact Aw
 refine ag ?_ ?_<;>intro h11 Rz
 refine ac ?_
 refine cy h11 rfl (CB rfl underlying302 vq) ?_
 refine ac ?_
 refine wk [38,1] rfl ?_
 refine Tr.cn rfl ?_ ?_<;>intro h12 TN
 refine a2 ?_
 · exact Aw
 refine a2 ?_
 refine Tr.block (Tr.A0 _ (kk [1] rfl) (fun k:Nat=>[(3,int ((k:Nat):Int))]) (fun k:Nat=>k≤((List.replicate m (Bm q)).length)) (fun k:Nat=>((List.replicate m (Bm q)).length)-k) 0 (Nat.zero_le _) kz ?_)
 rintro k BN
 refine ac ?_
 refine co rfl (CB rfl underlying302 vq) ?_
 refine an ?_ ?_<;>intro J8 Vs
 have Ae:k<((List.replicate m (Bm q)).length):=AJ J8
 have hkm:k<m:=by simpa using Ae
 have ih2:=ih.resolve_left AA
 refine ac ?_
 refine ap ?_
 refine tp rfl (AB rfl underlying302 Ck vq vq AA (KI hkm)) (tp rfl (Al rfl DQ Ck vq rfl rfl) (tp rfl (CE (ih2) rfl rfl) ?_))
 refine TO.ex 51 rfl (fun z51=> ?_)
 refine ap ?_
 · exact Lx
 have BC:k=((List.replicate m (Bm q)).length):=by have:=AK J8;omega
 refine a3 ?_
 · exact Aw
 refine ac ?_
 refine wk [38,1] rfl ?_
 refine a2 ?_
 refine Tr.block (Tr.A0 _ (kk [1] rfl) (fun k:Nat=>[(3,int ((k:Nat):Int))]) (fun k:Nat=>k≤((List.replicate m (Bm q)).length)) (fun k:Nat=>((List.replicate m (Bm q)).length)-k) 0 (Nat.zero_le _) kz ?_)
 rintro k BN
 refine ac ?_
 refine co rfl (CB rfl underlying302 vq) ?_
 refine an ?_ ?_<;>intro Wi q15
 have Ae:k<((List.replicate m (Bm q)).length):=AJ Wi
 have hkm:k<m:=by simpa using Ae
 have ih2:=ih.resolve_left AA
 refine ac ?_
 refine ap ?_
 refine tp rfl (AB rfl underlying302 Ck vq vq AA (KI hkm)) (tp rfl (Al rfl DQ Ck vq rfl rfl) (tp rfl (CE (ih2) rfl rfl) ?_))
 refine TO.ex 51 rfl (fun z51=> ?_)
 refine ap ?_
 · exact Lx
 have BC:k=((List.replicate m (Bm q)).length):=by have:=AK Wi;omega
 refine a3 ?_
 · exact Aw
theorem R4 {t:Int} {n:Bool} {D:Nat} (hb:b≤1000) (hm:m≤20) (hD:D≤1000) (ih:m=0∨A_ prog 244 [agg (Bm q)] (MC D)):A_ prog 244 [agg [int t,eG b,bool n,slice 4 (List.replicate m (Bm q))]] (MC (D+1)):=by
 refine fo func244 rfl ⟨rfl,rfl⟩ fun M0 w0=> ?_
 have hlr:(List.replicate m (Bm q)).length=m:=List.length_replicate
 have hlb:(List.replicate b T8).length=b:=List.length_replicate
 refine ac ?_
 refine ac ?_
 refine ac ?_
 refine Tr.block (Tr.A0 _ (kk [1] rfl) (fun k:Nat=>[(4,int ((k:Nat):Int)),(3,MC D)]) (fun k:Nat=>k≤((List.replicate m (Bm q)).length)) (fun k:Nat=>((List.replicate m (Bm q)).length)-k) 0 (Nat.zero_le _) ⟨ke rfl,⟨_,rfl,As 0 (Ar AA Lr)⟩,trivial⟩ ?_)
 rintro k BN
 refine ac ?_
 refine co rfl (CB rfl underlying302 (vl rfl)) ?_
 refine ac ?_
 refine Tr.cn rfl ?_ ?_<;>intro h1 q1
 have Ae:k<((List.replicate m (Bm q)).length):=AJ h1
 have hkm:k<m:=by simpa using Ae
 have ih2:=ih.resolve_left AA
 refine ac ?_
 refine Tr.seq (Tr.block (Tr.BI (tm rfl ?_)))
 refine TO.ex 12 rfl (fun z12=>TO.fact 12 rfl fun ALY=> ?_)
 refine tp rfl (kfa rfl dc rfl rfl) (tp rfl (JA rfl mF rfl) (tm rfl (tp rfl (AB rfl underlying302 Ck (vl rfl) (vl rfl) AA (KI hkm)) (tp rfl (Al rfl DQ Ck (vl rfl) rfl rfl) (tp rfl (CE (ih2) rfl rfl) ?_)))))
 refine TO.ex 18 rfl (fun z18=>TO.fact 18 rfl fun AJu=> ?_)
 refine tp rfl (N9 rfl (vl rfl) (vl rfl)) ?_
 refine ap ?_
 refine wk [4,3,1] rfl ?_
 refine ac ?_
 exact Fin.AL (k+1) ⟨Ae,by omega⟩ ⟨⟨_,rfl,AG k⟩,⟨_,rfl,As _ (Ar AA Lr)⟩,kz⟩
 have BC:k=((List.replicate m (Bm q)).length):=by have:=AK h1;omega
 refine ac ?_
 refine ap ?_
 refine TO.ex 20 rfl (fun z20=>TO.fact 20 rfl fun ALZ=> ?_)
 refine ap ?_
 refine ac ?_
 · exact U6
def R5 (n:Nat):Nat:=if h:n=0 then 0 else 1+R5 (n/256)
termination_by n
decreasing_by omega
theorem T9:R5 0=0:=by unfold R5;simp
theorem XV (h:0<n):R5 n=1+R5 (n/256):=by conv=>lhs;unfold R5;rw [dif_neg AA]
theorem Vt:∀(n:Nat),R5 n≤n:=by
 intro n
 induction n using Nat.strongRecOn with
 |_ n ih=>
  rcases Nat.eq_zero_or_pos n with h|h
  · subst h;rw [T9];omega
  · rw [XV h];have:=ih (n/256) AA;omega
def g_ (n:Nat):Nat:=if n<128 then 1 else 1+R5 n
theorem eI (n:Nat):g_ n≤n+1:=by unfold g_;have:=Vt n;split<;>omega
theorem tC (k:Int):Pr.le (slice 1 [[is (.int .u8 k)]]) (eG 1):=Y7 (l:=[()]) (f:=fun _=>k)
theorem hO (hn:n≤100000000):A_ prog 275 [int ((n:Nat):Int)] (eG (g_ n)):=by
 refine fo func275 rfl ⟨rfl,rfl⟩ fun M0 w0=> ?_
 refine ac ?_
 refine an ?_ ?_<;>intro h1 q1
 refine ac ?_
 refine co rfl (Cr rfl underlying3 underlying5 vq) (co rfl (Aa (xs:=[.tmp 7]) (rows:=[T8]) rfl rfl underlying213 Nq z5 rfl AD ⟨⟨Ao,VL.le vq (Pr.le_trans (Cf _ _) (AO _))⟩,trivial⟩ AD) ?_)
 refine a2 ?_
 · refine Pr.le_trans (BF _ _) (Pr.le_of_eq ?_);unfold g_;rw [if_pos AA];rfl
 refine a2 ?_
 refine Tr.seq (Tr.block (Tr.B5 5 1 (Tr.Cy [] trivial (fun (k:Nat) (acc:Nat) v=>[(0,int ((k:Nat):Int)),(3,Ag v (eG acc))]) (fun (k:Nat) (acc:Nat) v=>Hp M0 w0 FG ([Ax 5 1 v])) (fun (k:Nat) (acc:Nat)=>R5 k+acc=R5 n∧k≤n) (fun (k:Nat) (acc:Nat)=>k) (n) (0) (.slice none 0 0) (⟨by omega,by omega⟩) ⟨kq,⟨_,rfl,Bf rfl⟩,trivial⟩ (fun _ _ h=>h) ?_)))
 rintro k acc v ⟨hk1,hk2⟩
 refine an ?_ ?_<;>intro h2 q2
 have hk0:0<k:=by have:=FM.Gp h2;omega
 have hdg:=XV hk0
 have hle:=Vt n
 refine ac ?_
 refine ap ?_
 refine tp rfl (VD rfl vq vq AA) (tp rfl (Cr rfl underlying3 underlying5 vq) (tp rfl (Aa (xs:=[.tmp 13]) (rows:=[T8]) rfl rfl underlying213 Nq z5 rfl AD ⟨⟨Ao,VL.le vq (Pr.le_trans (Cf _ _) (AO _))⟩,trivial⟩ AD) ?_))
 refine tm rfl (TO.pad ?_)
 refine TO.C1 0 rfl rfl AD (B7 rfl rfl rfl rfl underlying213 Nq dK z5 Ea Fo (Bc BD vq)) (fun v1=> ?_)
 refine ap ?_
 refine ac ?_
 refine co rfl (F7 rfl vq vq AA) ?_
 refine ac ?_
 refine Fin.drop 1 ?_
 exact Fin.Bg (k/256) (acc+1) v1 (⟨⟨by omega,by omega⟩,by omega⟩) ⟨⟨_,rfl,int_eq (by rw [Int.tdiv_eq_ediv_of_nonneg AA,Gz Ku];omega)⟩,⟨_,rfl,A9 (by rw [show ([T8]:List (List Pr))=List.replicate 1 T8 from rfl,NS,Nat.add_comm])⟩,trivial⟩ (fun _ _ h=>h)
 have hk0:k=0:=by have:=FM.Gp h2;omega
 subst hk0
 have hle:=Vt n
 rw [T9] at hk1
 refine ac ?_
 refine ap ?_
 refine tp rfl (CB rfl underlying213 Fo) (tp rfl kiq (tp rfl (Cr rfl underlying3 underlying5 vq) (tp rfl (Aa (xs:=[.tmp 22]) (rows:=[T8]) rfl rfl underlying213 Nq z5 rfl AD ⟨⟨Ao,VL.le vq (Pr.le_trans (Cf _ _) (AO _))⟩,trivial⟩ AD) ?_)))
 refine tm rfl (TO.pad ?_)
 refine TO.C1 0 rfl rfl AD (B7 rfl rfl rfl rfl underlying213 Nq dK z5 Ea Fo (Bc BD vq)) (fun v2=> ?_)
 refine ap ?_
 refine ac ?_
 · refine Pr.le_trans (At _ _) (Pr.le_of_eq ?_);unfold g_;rw [if_neg AA,show ([T8]:List (List Pr))=List.replicate 1 T8 from rfl,NS,show acc=R5 n by omega]
end Go.Proofs.YteomgekmipcdpaaGreatDoor
