/-
  Part 3 of the texts that prove this claim, merged.
-/
import Derived.Lib.Bytealg
import Derived.Test.YtmocaapoeefgkaaGreatDoorRows
import Derived.Test.YtmocaapoeefgkaaGreatDoorPaCP2
set_option linter.all false
set_option maxRecDepth 40000
set_option maxHeartbeats 16000000
namespace Cp
open Go Go.RowKit Go.Great
section
variable {P:Program} {L:Lg P} {n:Fm} {fz:Nat} {E:Env} {M0:Av} {w0:World} {S:Nat→Prop} {rs:List An} {o:Oper}
def uL:Value→Option Nat
 | .slice (some a) _ (_+1)=>some a.block
 |_=>none
def Bc (e:TypeId) (sz:Nat) (rows:List (List Pr)) (v:Value):An where
 blk:=uL v
 new:=true
 h M w:=(rows=[]∧∃A,v= .slice A 0 0)∨(∃(b cap:Nat) (spare:List Value),v= .slice (some ⟨b,0,none⟩) rows.length (cap+1)∧rows.length≤cap+1∧cap+1≤maxLen∧spare.length=(cap+1-rows.length)*sz∧(AE true b e (rows.flatten++spare.map is)).h M w)
 st M w M' w' he hk h:=by
  rcases h with h|⟨b,cap,spare,rfl,h1,h2,h3,h4⟩
  · exact .inl h
  · exact .inr ⟨b,cap,spare,rfl,h1,h2,h3,(AE true b e _).st _ _ _ _ he hk h4⟩
theorem BP {α:Type} {l:List α} {j:Nat} {x:α} (h:l[j]? =some x):j<l.length:=by
 rcases Nat.lt_or_ge j l.length with h'|h'
 · exact h'
 · rw [List.getElem?_eq_none h'] at h;cases h
theorem At.blank {M:Av} {w:World} {j:Nat} {r:An} (h:At M0 w0 S rs M w) (hj:rs[j]? =some r):At M0 w0 S (rs.set j Bb) M w:=
 At.perm (Lw (BP hj)) ((At.perm (Cl hj) h).Iv.I8 (r:=Bb) rfl trivial)
theorem P5 (sz:Nat) (A:Option Addr) (M:Av) (w:World):(slice sz []).h M w (.slice A 0 0):=⟨A,0,rfl,Nat.le_refl _,Nat.zero_le _,fun _=>rfl,fun i row h=>by simp at h⟩
theorem bV (sz:Nat) (A:Option Addr) (M:Av) (w:World):(full sz []).h M w (.slice A 0 0):=⟨P5 sz A M w,A,rfl⟩
theorem At.uM {M:Av} {w:World} {sz:Nat} {e:TypeId} {rows:List (List Pr)} {v:Value} {j:Nat} (h:At M0 w0 S rs M w) (hj:rs[j]? =some (Bc e sz rows v)) (hl:∀r∈rows,r.length=sz):
  ∃M',Ext M w M' w∧At M0 w0 S (rs.set j Bb) M' w∧(slice sz rows).h M' w v:=by
 have hjl:=BP hj
 rcases (h.hold _ (List.mem_of_getElem? hj)).1 with ⟨rfl,A,rfl⟩|⟨b,cap,spare,rfl,hnc,hcm,hsp,bS⟩
 · exact ⟨M,Ext.refl _ _,h.blank hj,P5 sz A M w⟩
 ·
  have hC:=h.CD (r':=AE true b e (rows.flatten++spare.map is)) hj rfl rfl bS
  obtain ⟨M',h1,h2,h3⟩:=At.frz hC (List.getElem?_set_self hjl) hl hnc hcm (by rw [List.length_map];exact hsp)
  have h4:=h2.blank (j:=j) (by rw [List.set_set];exact List.getElem?_set_self hjl)
  rw [List.set_set,List.set_set] at h4
  exact ⟨M',h1,h4,h3⟩
theorem HL.set {M:Av} {w:World} {ps:List Pr} {vs:List Value} {k:Nat} {p q:Pr} (h:HL M w ps vs) (hk:ps[k]? =some p) (hq:∀u,p.h M w u→q.h M w u):HL M w (ps.set k q) vs:=by
 refine Ri (by rw [h.length];simp) fun k' p' hk'=> ?_
 rw [List.getElem?_set] at hk'
 split at hk'
 ·
  rename_i e1
  subst e1
  split at hk'
  ·
   obtain ⟨u,hu,mu⟩:=h.at_ k p hk
   simp at hk';subst hk'
   exact ⟨u,hu,hq u mu⟩
  · cases hk'
 · exact h.at_ k' p' hk'
theorem At.HC {M:Av} {w:World} {i j k sz b:Nat} {new:Bool} {T e:TypeId} {ps:List Pr} {rows:List (List Pr)} {v:Value} (h:At M0 w0 S rs M w) (hi:rs[i]? =some (AE new b T ps)) (hj:rs[j]? =some (Bc e sz rows v)) (hij:j≠i) (hk:ps[k]? =some (is v)) (hl:∀r∈rows,r.length=sz):
  ∃M',Ext M w M' w∧At M0 w0 S ((rs.set j Bb).set i (AE new b T (ps.set k (slice sz rows)))) M' w:=by
 obtain ⟨M',h1,h2,h3⟩:=h.uM hj hl
 have hi':(rs.set j Bb)[i]? =some (AE new b T ps):=by rw [List.getElem?_set_ne hij];exact hi
 refine ⟨M',h1,h2.CD hi' rfl rfl ?_⟩
 obtain ⟨g1,cs,g2,g3,g4⟩:=(h2.hold _ (List.mem_of_getElem? hi')).1
 exact ⟨g1,cs,g2,g3.set hk (fun u hu=>by rw [show u=v from hu];exact h3),g4⟩
def part (sz:Nat) (v:Value) (k:Nat):Pr where
 h _ _ u:=∃a m c,v= .slice a m c∧k≤m∧u= .slice (if c=k then a else a.map fun x=>x.add (k*sz)) (m-k) (c-k)
 st _M _w _M' _w' _v _ h:=h
instance yt (sz:Nat) (v:Value) (k:Nat):One (part sz v k):=⟨by rintro M w u ⟨a,m,c,h1,h2,rfl⟩;exact ⟨rfl,rfl⟩⟩
theorem BR.frz {f:FuncId} {args:List Pr} {e:TypeId} {sz m:Nat} {rows:List (List Pr)} {R:An} (hl:∀r∈rows,r.length=sz) (h:BR P f args (lens m) R (fun v=>BM e sz rows v)):BR P f args (slice sz rows) R (fun _=>Bb):=by
 refine ⟨h.1,fun M0 w0 S rs M w vs hI hv=>(h.2 M0 w0 S rs M w vs hI hv).mono ?_⟩
 rintro e' w' ⟨v,M',rfl,h2,h3,h4⟩
 obtain ⟨M2,j1,j2,j3⟩:=At.W7 (j:=0) h4 rfl hl
 exact ⟨v,M2,rfl,j3,h3.trans j1,j2.blank (j:=0) rfl⟩
theorem BR.yu {f:FuncId} {args:List Pr} {e:TypeId} {sz m:Nat} {rows:List (List Pr)} {R:An} (hl:∀r∈rows,r.length=sz) (h:BR P f args (lens m) R (fun v=>DE e sz rows v)):BR P f args (slice sz rows) R (fun _=>Bb):=
 BR.frz hl (BR.W8 h)
theorem BR.P6 {f:FuncId} {e:TypeId} {sz:Nat} {rows:List (List Pr)} {ps:List Pr} {res:Pr} {R:An} (h0:rows≠[]) (h:BR P f ps res R (fun v=>DE e sz rows v)):BR P f ps res R (fun v=>Bc e sz rows v):=by
 refine ⟨h.1,fun M0 w0 S rs M w vs hI hv=>(h.2 M0 w0 S rs M w vs hI hv).mono ?_⟩
 rintro e' w' ⟨v,M',rfl,h2,h3,h4⟩
 refine ⟨v,M',rfl,h2,h3,?_⟩
 have hpos:=List.length_pos_iff.2 h0
 obtain ⟨b,cap,spare,rfl,hnc,hcm,hsp,bS⟩:=(h4.hold _ (List.mem_cons_self ..)).1
 cases cap with
 |zero=>omega
 |succ cap=>exact h4.CD (i:=0) rfl rfl rfl (.inr ⟨b,cap,spare,rfl,hnc,hcm,hsp,bS⟩)
theorem BR.U2 {f:FuncId} {e:TypeId} {sz sz':Nat} {ps:List Pr} (h:BD P f ps (full sz' [])):BR P f ps (lens 0) Bb (fun v=>Bc e sz [] v):=by
 refine ⟨h.1,fun M0 w0 S rs M w vs hI hv=>(h.2 M w vs hI.bd hv).mono ?_⟩
 rintro e' w' ⟨v,rfl,⟨_,a,rfl⟩,h3⟩
 refine ⟨_,M,rfl,⟨_,_,rfl⟩,Ext.below h3,?_⟩
 have OW:At M0 w0 S (Bb::rs) M w':=(Hp M0 w0 S _).st _ _ _ h3 hI
 exact OW.CD (i:=0) (r':=Bc e sz [] (.slice a 0 0)) rfl (by cases a<;>rfl) rfl (.inl ⟨rfl,a,rfl⟩)
def elp (sz:Nat) (v:Value) (i o:Nat):Pr where
 h _ _ u:=∃a m c,v= .slice (some a) m c∧u= .pointer (some (a.add (i*sz+o)))
 st _M _w _M' _w' _v _ h:=h
instance ABP (sz:Nat) (v:Value) (k o:Nat):One (elp sz v k o):=⟨by rintro M w u ⟨a,m,c,h1,rfl⟩;exact ⟨rfl,rfl⟩⟩
theorem LA {t e:TypeId} {x y:Operand} {k:IntKind} {l:Int} {sz j:Nat} {T:TypeId} {rows:List (List Pr)} {v:Value} (ho:o.op= .indexAddr t x y) (ht:P.underlying t=some (.slice e)) (hz:Au P e=some sz) (hx:VL E x (is v)) (hy:VL E y (is (.int k l))) (h0:0≤l) (hl:l<rows.length):
  JP P M0 w0 S j (SR.c (Bc T sz rows v)) o E (elp sz v l.toNat 0):=by
 intro M w a rs he hI hj
 have h1:a.eval x=v:=hx.ev he Ap
 have h3:a.eval y= .int k l:=hy.ev he Ap
 have hj':rs[j]? =some (Bc T sz rows v):=hj
 rcases (hI.hold _ (List.mem_of_getElem? hj')).1 with ⟨rfl,A,hv⟩|⟨b,cap,spare,hv,hnc,hcm,hsp,bS⟩
 · simp at hl;omega
 ·
  have hrun:(execOp a.eval o).run P w= .ok (.value (.pointer (some ((⟨b,0,none⟩:Addr).add (l.toNat*sz))))) w:=by
   simp [execOp,ho,h1,h3,hv,Instr.indexAt,asIntOf,run_underlying ht,CA hz,h0,hl]
  rw [hrun]
  exact ⟨⟨_,_,_,hv,rfl⟩,Below.refl _ _⟩
theorem XA {I:CS} {t:TypeId} {x:Operand} {f sz i q off:Nat} {v:Value} (ho:o.op= .fieldAddr t x f) (hf:Af P t f=some off) (hx:VL E x (elp sz v i q)):Ad P I o E (elp sz v i (q+off)):=
 Ad.same fun M w a he _=>by
  obtain ⟨a0,m0,c0,hv,h1⟩:=hx.ev he Ap
  exact ⟨.pointer (some ((a0.add (i*sz+q)).add off)),by simp [execOp,ho,h1,JN hf],a0,m0,c0,hv,by rw [add_add,Nat.add_assoc]⟩
theorem bW {t:TypeId} {x:Operand} {sz j i:Nat} {T:TypeId} {rows:List (List Pr)} {row:List Pr} {v:Value} (ho:o.op= .load t x) (ht:FR P t=true) (hz:Au P t=some sz) (hx:VL E x (elp sz v i 0)) (hl:∀r∈rows,r.length=sz) (hi:rows[i]? =some row):
  JP P M0 w0 S j (SR.c (Bc T sz rows v)) o E (agg row):=by
 intro M w a rs he hI hj
 obtain ⟨a0,m0,c0,ZK,h1⟩:=hx.ev he Ap
 rw [Nat.add_zero] at h1
 have hj':rs[j]? =some (Bc T sz rows v):=hj
 rcases (hI.hold _ (List.mem_of_getElem? hj')).1 with ⟨rfl,A,hv⟩|⟨b,cap,spare,hv,hnc,hcm,hsp,⟨_,cs,h4,h5,h6⟩⟩
 · simp at hi
 ·
  rw [ZK] at hv
  injection hv with e1 e2 e3
  injection e1 with e1
  subst e1
  have FU:=BP hi
  have hrl:=hl row (List.mem_of_getElem? hi)
  have hfl:=CR hl
  have hle:(i+1)*sz≤rows.length*sz:=Nat.mul_le_mul_right sz FU
  rw [Nat.add_mul] at hle
  have h7:HL M w row ((cs.drop (i*sz)).take sz):=by
   have h8:=(h5.drop (i*sz)).take sz
   have e4:((rows.flatten++spare.map is).drop (i*sz)).take sz=row:=by
    refine List.ext_getElem? fun j=> ?_
    rw [List.getElem?_take]
    split
    ·
     rename_i hj
     rw [List.getElem?_drop,List.getElem?_append_left (by rw [hfl];omega),GW hl hi hj]
    · rw [List.getElem?_eq_none AA]
   rwa [e4] at h8
  have hl':((cs.drop (i*sz)).take sz).length=sz:=by rw [h7.length,hrl]
  have hrun:(loadCells ((⟨b,0,none⟩:Addr).add (i*sz)) sz).run P w= .ok ((cs.drop (i*sz)).take sz).toArray w:=by
   have:=run_loadCells_list (P:=P) w ((⟨b,0,none⟩:Addr).add (i*sz)) ((cs.drop (i*sz)).take sz) (fun k u hk=>by
    rw [add_add,Ep]
    rw [List.getElem?_take] at hk
    split at hk
    · rw [List.getElem?_drop] at hk;simp [World.cell?,h4,hk]
    · cases hk)
   rwa [hl'] at this
  have Dl:(execOp a.eval o).run P w= .ok (.value (.agg ((cs.drop (i*sz)).take sz).toArray)) w:=by simp [execOp,ho,h1,Instr.loadAt,Instr.sureAddr,loadVar,En ht,CA hz,hrun]
  rw [Dl]
  exact ⟨⟨_,rfl,fun c hc=>h6 c (List.mem_of_mem_drop (List.mem_of_mem_take hc)),h7⟩,Below.refl _ _⟩
theorem U3 {sz:Nat}:∀{rows:List (List Pr)} {i:Nat} {row:List Pr} {o:Nat} {qs S:List Pr},(∀r∈rows,r.length=sz)→rows[i]? =some row→o+qs.length≤sz→
  (rows.flatten++S).take (i*sz+o)++qs++(rows.flatten++S).drop (i*sz+o+qs.length)=(rows.set i (row.take o++qs++row.drop (o+qs.length))).flatten++S
 |[],_,_,_,_,_,_,h,_=>by simp at h
 |a::l,0,row,o,qs,S,hl,h,ho=>by
  simp at h;subst h
  have h1:=hl a AO
  rw [List.set_cons_zero,List.flatten_cons,List.flatten_cons,Nat.zero_mul,Nat.zero_add,List.append_assoc a,List.take_append_of_le_length AA,List.drop_append_of_le_length AA]
  simp
 |a::l,i+1,row,o,qs,S,hl,h,ho=>by
  have h1:=hl a AO
  have ih:=U3 (S:=S) (fun r hr=>hl r (List.mem_cons_of_mem _ hr)) (i:=i) (row:=row) (o:=o) (qs:=qs) DM ho
  rw [List.set_cons_succ, List.flatten_cons, List.flatten_cons, List.append_assoc a, List.append_assoc a, ← ih, List.take_append, List.drop_append, List.take_of_length_le (by rw [h1, Nat.succ_mul]; omega), List.drop_of_length_le (by rw [h1, Nat.succ_mul]; omega),
   show (i+1)*sz+o-a.length=i*sz+o by rw [h1,Nat.succ_mul];omega,show (i+1)*sz+o+qs.length-a.length=i*sz+o+qs.length by rw [h1,Nat.succ_mul];omega]
  simp
theorem Ia {t:TypeId} {x y:Operand} {sz j i q m:Nat} {T:TypeId} {rows rows':List (List Pr)} {row qs:List Pr} {v:Value} (hg:o.guard=none) (ho:o.op= .store t x y) (hx:VL E x (elp sz v i q)) (hy:VL E y (Co qs)) (hz:Au P t=some m) (hm:qs.length=m)
  (hl:∀r∈rows,r.length=sz) (hi:rows[i]? =some row) (hq:q+m≤sz) (hps:rows.set i (row.take q++qs++row.drop (q+m))=rows'):Di P M0 w0 S n j (SR.c (Bc T sz rows v)) (SR.c (Bc T sz rows' v)) o E any:=by
 refine ⟨hg,fun M w a rs hsz he hI hj=> ?_⟩
 obtain ⟨a0,m0,c0,ZK,h1⟩:=hx.ev he (show x∈o.op.operands.toList by simp [ho,Op.operands])
 obtain ⟨h2,h3⟩:=hy.ev he (show y∈o.op.operands.toList by simp [ho,Op.operands])
 have hj':rs[j]? =some (Bc T sz rows v):=hj
 have hjl:=BP hj'
 rcases (hI.hold _ (List.mem_of_getElem? hj')).1 with ⟨rfl,A,hv⟩|⟨b,cap,spare,hv,hnc,hcm,hsp,bS⟩
 · simp at hi
 ·
  subst hv
  injection ZK with e1 e2 e3
  injection e1 with e1
  subst e1
  have hC:=hI.CD (r':=AE true b T (rows.flatten++spare.map is)) hj' rfl rfl bS
  have hjC:(rs.set j (AE true b T (rows.flatten++spare.map is)))[j]? =some (AE true b T (rows.flatten++spare.map is)):=List.getElem?_set_self hjl
  obtain ⟨_,cs,h4,h5,h6⟩:=bS
  have h5l:=h5.length
  have h2l:=h2.length
  have FU:=BP hi
  have hfl:=CR hl
  rw [List.length_append,hfl,List.length_map] at h5l
  have hle:(i+1)*sz≤rows.length*sz:=Nat.mul_le_mul_right sz FU
  rw [Nat.succ_mul] at hle
  have hcells:(a.eval y).cells.size=m:=by rw [←hm,←h2l];simp
  have hrun:(storeCells ((⟨b,0,none⟩:Addr).add (i*sz+q)) (a.eval y).cells.toList 0).run P w= .ok () (w.setRow b (cs.take (i*sz+q)++(a.eval y).cells.toList++cs.drop (i*sz+q+m)).toArray):=by
   have:=run_storeCells_at (P:=P) b (i*sz+q) T (a.eval y).cells.toList 0 cs.toArray w h4 B1 h3
   rw [Ep,Nat.zero_add]
   simpa [hcells] using this
  have Dl:(execOp a.eval o).run P w= .ok .skip (w.setRow b (cs.take (i*sz+q)++(a.eval y).cells.toList++cs.drop (i*sz+q+m)).toArray):=by
   simp [execOp,ho,h1,Instr.storeAt,Instr.sureAddr,storeVar,CA hz,hcells,hrun]
  rw [Dl]
  have hfs:=U3 (S:=spare.map is) hl hi (o:=q) (qs:=qs) AA
  rw [hm,hps] at hfs
  obtain ⟨h7, h8⟩ := At.write (qs := rows'.flatten ++ spare.map is) (cs := cs.take (i * sz + q) ++ (a.eval y).cells.toList ++ cs.drop (i * sz + q + m)) hC hjC (by rw [← hfs]; exact (((h5.take (i * sz + q)).app h2)).app (h5.drop (i * sz + q + m)))
   (fun c hc=>by
    simp only [List.mem_append] at hc
    rcases hc with (hc|hc)|hc
    · exact Lj
    · exact h3 c hc
    · exact h6 c (List.mem_of_mem_drop hc))
  rw [List.set_set] at h7
  refine ⟨M,trivial,h8,?_⟩
  have hlen:rows'.length=rows.length:=by rw [←hps,List.length_set]
  have h9:=h7.CD (r':=Bc T sz rows' (.slice (some ⟨b,0,none⟩) rows.length (cap+1))) (List.getElem?_set_self hjl) rfl rfl (.inr ⟨b,cap,spare,by rw [hlen],by rw [hlen];exact hnc,hcm,by rw [hlen];exact hsp,(h7.hold _ (List.mem_of_getElem? (List.getElem?_set_self hjl))).1⟩)
  rw [List.set_set] at h9
  exact h9
theorem At.gj:∀{l:List An} {M:Av} {w:World},At M0 w0 S (l++rs) M w→At M0 w0 S rs M w
 |[],_,_,h=>h
 |_::l,_,_,h=>At.gj (l:=l) h.Iv
end
section
variable {P:Program} {L:Lg P} {E:Env} {I:CS} {o:Oper}
theorem XB {f : FuncId} {fn : Func} {x y : Operand} {ts : Array TypeId} {a : List UInt8} {c : UInt8} (ho : o.op = .call { callee := .value (.func f), args := #[x, y], argTypes := ts }) (hf : P.funcs[f]? = some fn) (hname : (fn.name == "runtime.NumGoroutine") = false)
  (hb:fn.body.isNone=true) (hn:Extern.findNext fn=none) (hex:Extern.find fn=some Extern.BytealgIndexByte.indexByte) (hx:VL E x (str a)) (hy:VL E y (is (.int .u8 ((c.toNat:Nat):Int)))):Ad P I o E (int (Lib.indexByte a c)):=
 Ad.same fun M w ac he _=>by
  have h1:ac.eval x=_:=hx.ev he Cn
  have h2:ac.eval y=_:=hy.ev he Cn
  have h3:ac.eval (.func f)= .func (.func f) #[] #[]:=rfl
  refine ⟨_,?_,rfl⟩
  have hrun:(execOp ac.eval o).run P w=(callFunc f #[ac.eval x,ac.eval y]).run P w:=by simp [execOp,ho,resolve,Deferred.ofValue,invoke,h3]
  rw [hrun,h1,h2,run_callFunc_extern hf hname hb hn hex,Lib.run_indexByteString]
  simp
theorem gl {f:FuncId} {cx:Operand} {xs:Array Operand} {ts:Array TypeId} {ps caps:List Pr} {res:Pr} (ho:o.op= .call { callee:= .value cx,args:=xs,argTypes:=ts }) (hc:VL E cx (fn (.func f) caps)) (hf:BD P f (ps++caps) res) (hv:Gi E xs.toList ps):Ad P I o E res:=by
 intro M w a he hI
 have h1:=Gi.FG (o:=o) he (xs:=xs.toList) (fun x hx=>by simp [ho,Op.operands,Call.operands];exact .inr Gf) hv
 obtain ⟨cs,h2,h3⟩:=hc.ev he Cn
 have hrun:(execOp a.eval o).run P w= .ok (.enter f ((xs.toList.map a.eval).toArray++cs.toArray)) w:=by
  simp [execOp,ho,resolve,Deferred.ofValue,h2,invoke,Cz hf.1,Fy xs]
 rw [hrun]
 have h4:=hf.2 M w _ (I.bd _ _ hI) (h1.app h3)
 exact ⟨Below.refl _ _,by simpa using h4⟩
section
variable {n:Fm} {fz:Nat} {M0:Av} {w0:World} {S:Nat→Prop}
theorem bX {t e:TypeId} {sz d j:Nat} {zs:List Value} {xs:List Operand} {parts:Array (Nat×Operand)} {rows:List (List Pr)} (hg:o.guard=none) (hd:o.dst=some d) (hn:d<n) (ho:o.op= .buildSlice t xs.length parts) (hp:parts.toList=(xs.zipIdx 0).map fun x=>(x.2,x.1))
  (ht:P.underlying t=some (.slice e)) (hz:Au P e=some sz) (Dr:BO P e=some zs) (hzl:zs.length=sz) (hsz:0<sz) (hx:Q9 E sz xs rows) (hsmall:xs.length*sz≤16777216) (AEN:0<xs.length):Di P M0 w0 S n j (SR.c Bb) ⟨d,DE e sz rows⟩ o E (lens rows.length):=by
 refine ⟨hg,fun M w a rs Q4 he hI hj=> ?_⟩
 have tH:∀x∈xs,x∈o.op.operands.toList:=by
  intro x hx
  simp only [ho,Op.operands,List.mem_map]
  obtain ⟨i,hi,rfl⟩:=List.mem_iff_getElem.1 hx
  exact ⟨(i,xs[i]),by rw [hp];exact List.mem_map.2 ⟨(xs[i],i),by rw [List.mem_zipIdx_iff_getElem?];simp [hi],rfl⟩,rfl⟩
 obtain ⟨h1,h2,h3⟩:=hx.ev he tH
 unfold Au at hz
 unfold BO at Dr
 cases hi:P.info? e with
 |none=>rw [hi] at hz;cases hz
 |some i=>
  rw [hi] at hz Dr
  simp only [Option.map_some,Option.some.injEq,Option.map_eq_some_iff] at hz Dr
  obtain ⟨z,WC,Dr⟩:=Dr
  have bK:z.cells.size=sz:=by rw [←hzl,←Dr];simp
  have hparts:(parts.map fun (i,x)=>(i,a.eval x)).toList=((xs.map a.eval).zipIdx 0).map fun x=>(x.2,x.1):=by
   rw [Array.toList_map,hp,List.map_map,List.zipIdx_map,List.map_map]
   rfl
  have fX := fill_whole (s := i.size) (by rw [hz]; exact hsz) (xs.map a.eval) ((Array.range (xs.length * i.size)).map (z.cells[· % z.cells.size]!)) (fun v hv => by
   obtain ⟨x,hx,rfl⟩:=List.mem_map.1 hv
   rw [hz];exact h2 x hx) AO
  have hpos:¬xs.length*i.size=0:=by rw [hz];exact Nat.ne_of_gt (Nat.mul_pos AA hsz)
  have hrun:=run_buildSlice (P:=P) w t e xs.length (parts.map fun (i,x)=>(i,a.eval x)) _ i z ht hi WC (by rw [hz];omega) hpos (by rw [hparts];exact fX)
  have Dl:(execOp a.eval o).run P w= .ok (.value (.slice (some ⟨w.heap.size,0,none⟩) xs.length xs.length)) (w.alloc (.cells ((xs.map a.eval).flatMap fun v=>v.cells.toList).toArray e)):=by simp [execOp,ho,hrun]
  rw [Dl]
  generalize hcs:(xs.map a.eval).flatMap (fun v=>v.cells.toList)=cs at h3 ⊢
  have hb:Below w.heap.size w (w.alloc (.cells cs.toArray e)):=(Below.refl _ _).alloc (Nat.le_refl _) _
  have hlen:rows.length≤maxLen:=by
   have:xs.length*1≤xs.length*sz:=Nat.mul_le_mul_left _ hsz
   unfold maxLen;omega
  have h4:=Ext.below (M:=M) hb
  have EL:Ext M w (fun b o=>M b o∨b=w.heap.size) (w.alloc (.cells cs.toArray e)):=by
   refine ⟨h4.size,fun a v hc hm=>⟨fun hx=> ?_,(h4.keep a v hc hm).2⟩,fun b o ho hp hm=>⟨fun hx=> ?_,(h4.obj b o ho hp hm).2⟩⟩
   ·
    rcases hx with hx|hx
    · exact B8
    · exact Eh
   ·
    rcases hx with hx|hx
    · exact B8
    · exact Ej
  have hs1:(w.alloc (.cells cs.toArray e)).heap.size=w.heap.size+1:=by simp
  have hat:(SR.at_ (a.put o.dst (.slice (some ⟨w.heap.size,0,none⟩) xs.length xs.length)) ⟨d,DE e sz rows⟩)=DE e sz rows (.slice (some ⟨w.heap.size,0,none⟩) xs.length xs.length):=by unfold SR.at_ Slot.val;dsimp only;rw [hd,Bk ID]
  refine ⟨fun b o=>M b o∨b=w.heap.size,⟨_,_,by rw [h1]⟩,EL,?_⟩
  rw [hat]
  refine hI.replace hj EL hb.os hb.tape hb.output (fun k hk _=>hb.block k hk) rfl (fun b o hm _=> .inl hm) (fun b o hx=> ?_) ?_ rfl (fun b hbk=> ?_)
  ·
   rcases hx with hx|hx
   · have:=hI.bd _ _ hx;omega
   · omega
  ·
   refine ⟨w.heap.size,rows.length,[],by rw [h1],Nat.le_refl _,hlen,by simp,fun o=> .inr rfl,cs,heap_alloc_new w _,?_,h3.2.1⟩
   simpa using (h3.st EL).hl hsz
  ·
   have ET:some w.heap.size=some b:=hbk
   injection ET with e1
   subst e1
   exact ⟨by rw [hs1];omega,.inr (Nat.le_refl _)⟩
end
theorem oo (p:Pr) [One p]:Pr.le p (Co [any]):=fun M w v h=>by
 obtain ⟨h1,h2⟩:=AP p M w v h
 refine ⟨?_,h2⟩
 match v.cells.toList,h1 with
 |[_],_=>exact ⟨trivial,trivial⟩
theorem oq {ps:List Pr} {off:Nat} (h:ps[off]? =some any):ps.take off++[any]++ps.drop (off+1)=ps:=by
 have hl:=BP h
 rw [List.getElem?_eq_getElem hl] at h
 simp only [Option.some.injEq] at h
 conv=>rhs;rw [←List.take_append_drop off ps,List.drop_eq_getElem_cons hl,h]
 simp
end
def allI (p:Nat→Bool) (n:Nat):Bool:=(List.range n).all p
theorem Br {p:Nat→Bool} {n:Nat}:allI p n=true↔∀j,j<n→p j=true:=by unfold allI;simp
theorem JX {p:Nat→Bool} {n:Nat} (h:∀j,j<n→p j=true):allI p n=true:=Br.2 h
theorem EP {p:Nat→Bool} {n k:Nat} (hk:k<n) (h:p k=false):allI p n=false:=by
 rw [Bool.eq_false_iff];intro h';rw [Br.1 h' k hk] at h;cases h
theorem Bo {p:Nat→Bool} {k:Nat} (h:∀j,j<k→p j=true) (hk:p k=true):∀j,j<k+1→p j=true:=by
 intro j hj
 by_cases e:j=k
 · subst e;exact hk
 · exact h j AA
section
variable {P:Program} {L:Lg P} {n:Fm} {fz:Nat} {I:CS}
def yw (P:Program) (I':CS) (M:Av) (w:World) (p:Pr):Result Next→Prop
 | .ok (.value v) w'=>∃M',p.h M' w' v∧Ext M w M' w'∧I'.h M' w'
 | .ok .skip w'=>∃M',p.h M' w' undef∧Ext M w M' w'∧I'.h M' w'
 | .ok (.enter f args) w'=>Calls P f args w' fun e w''=>∃v M',e= .returned v∧p.h M' w'' v∧Ext M w M' w''∧I'.h M' w''
 |_=>False
def gm (P:Program) (n:Fm) (I I':CS) (o:Oper) (E:Env) (p:Pr):Prop:=o.guard=none∧∀M w (a:Act),a.tmps.size=n.sz→Cd M w E o a→I.h M w→yw P I' M w p ((execOp a.eval o).run P w)
def Rm (P:Program) (n:Fm) (I:CS) (ops:Array Oper):Nat→List Oper→Env→(CS→Env→Prop)→Prop
 |_,[],_,_=>False
 |0,o::r,E,K=>∃p I',gm P n I I' o E p∧(∀d,o.dst=some d→d<n)∧Ch P n I' ops r (upd o p E) (K I')
 |c+1,o::r,E,K=>∃p,fQ P I ops o E p∧(∀d,o.dst=some d→d<n)∧Rm P n I ops c r (upd o p E) K
theorem Rm.op {ops:Array Oper} {o:Oper} {r:List Oper} {E:Env} {K:CS→Env→Prop} {d c:Nat} {p:Pr} (hg:o.guard=none) (hd:o.dst=some d) (hn:d<n) (h:Ad P I o E p)
  (k:Rm P n I ops c r ((d,p)::E) K):Rm P n I ops (c+1) (o::r) E K:=
 ⟨p,by unfold fQ;rw [hg];exact h,fun d' hd'=>by rw [hd] at hd';cases hd';exact hn,by unfold upd;rw [hd];exact k⟩
theorem Rm.turn {ops:Array Oper} {o:Oper} {r:List Oper} {E:Env} {K:CS→Env→Prop} {d:Nat} {p:Pr} (I':CS) (hd:o.dst=some d) (hn:d<n) (h:gm P n I I' o E p)
  (k:Ch P n I' ops r ((d,p)::E) (K I')):Rm P n I ops 0 (o::r) E K:=
 ⟨p,I',h,fun d' hd'=>by rw [hd] at hd';cases hd';exact hn,by unfold upd;rw [hd];exact k⟩
def RC (P:Program) (f:FuncId) (args:List Pr) (pre:List An) (res:Pr) (post:List An):Prop:=E2 (α:=Unit) P f args pre (fun _=>True) (fun _=>res) (fun _=>post)
section
variable {M0:Av} {w0:World} {S:Nat→Prop} {rs:List An} {E:Env} {o:Oper} {g:Func} {M1:Av} {w1:World}
theorem RC.of {f : FuncId} {c : Code} {ps : List Pr} {pre post : List An} {res : Pr} (hf : P.funcs[f]? = some g) (hb : g.body = some c) (hname : (g.name == "runtime.NumGoroutine") = false) (hlen : ps.length ≤ g.ntmps)
  (h:∀M0 w0 S rs M1 w1,Tr (V_ P) g.ntmps (K1 0 ps) (Hp M0 w0 S (pre++Ak M1 w1::rs)) c (bodyPost P g (Ns M0 w0 S rs M1 w1 (fun _:Unit=>True) (fun _=>res) (fun _=>post)))):RC P f ps pre res post:=
 E2.of hf hb hname hlen h
theorem BR.pure {f:FuncId} {args:List Pr} {res:Pr} {R':Value→An} (h:BR P f args res Bb R'):BD P f args res:=by
 refine ⟨h.1,fun M w vs hb hv=> ?_⟩
 refine (h.2 M w II [] M w vs ((At.begin hb).I8 (r:=Bb) rfl trivial) hv).mono ?_
 rintro e w' ⟨v,M',rfl,h2,h3,h4⟩
 exact ⟨v,rfl,res.st _ _ _ _ _ (Ext.less h4.m) h2,h4.below⟩
theorem Tf {t e T:TypeId} {x:Operand} {sz j:Nat} {rows:List (List Pr)} {v:Value} (ho:o.op= .call { callee:= .builtin .len,args:= #[x],argTypes:= #[t] }) (ht:P.underlying t=some (.slice e)) (hx:VL E x (is v)):
  JP P M0 w0 S j (SR.c (Bc T sz rows v)) o E (int ((rows.length:Nat):Int)):=by
 intro M w a rs he hI hj
 have h1:a.eval x=v:=hx.ev he Cn
 have hj':rs[j]? =some (Bc T sz rows v):=hj
 have hrun:∃A c,v= .slice A rows.length c:=by
  rcases (hI.hold _ (List.mem_of_getElem? hj')).1 with ⟨rfl,A,hv⟩|⟨b,cap,spare,hv,_⟩
  · exact ⟨_,_,hv⟩
  · exact ⟨_,_,hv⟩
 obtain ⟨A,c,hv⟩:=hrun
 have:(execOp a.eval o).run P w= .ok (.value (.int .i64 ((rows.length:Nat):Int))) w:=by
  simp [execOp,ho,resolve,invoke,builtin,Builtin.len_,h1,hv,run_underlying ht,goInt]
 rw [this]
 exact ⟨rfl,Below.refl _ _⟩
end
end
section
variable {P:Program} {L:Lg P} {n:Fm} {fz:Nat} {E:Env} {M0:Av} {w0:World} {S:Nat→Prop} {rs:List An} {o:Oper}
def yx (b off m:Nat):Pr where
 h _ _ u:=∃o c,u= .slice (some ⟨b,o,none⟩) m c∧(0<m→o=off)
 st _M _w _M' _w' _v _ h:=h
instance wM (b off m:Nat):One (yx b off m):=⟨by rintro M w u ⟨o,c,rfl,_⟩;exact ⟨rfl,rfl⟩⟩
theorem L_ {I:CS} {t e:TypeId} {x y:Operand} {sz sz1 sz2:Nat} (ho:o.op= .call { callee:= .builtin .append,args:= #[x,y],argTypes:= #[t,t] }) (ht:P.underlying t=some (.slice e)) (hz:Au P e=some sz) (hx:VL E x (full sz1 [])) (hy:VL E y (slice sz2 [])):Ad P I o E (full sz []):=
 Ad.same fun M w a he _=>by
  obtain ⟨_,A,h1⟩:=hx.ev he Cn
  obtain ⟨A',c',h2,_⟩:=hy.ev he Cn
  simp only [List.length_nil] at h1 h2
  refine ⟨.slice A 0 0,?_,bV sz A M w⟩
  have hrun:=F_ (P:=P) (ty:=o.type) (A:=A) (A':=A') (n:=0) (c:=0) (c':=c') ht hz (Nat.le_refl _) w
  simp [execOp,ho,resolve,invoke,builtin,h1,h2,hrun]
end
section
variable {P:Program} {L:Lg P} {n:Fm} {fz:Nat} {E:Env} {M0:Av} {w0:World} {S:Nat→Prop} {rs:List An} {o:Oper}
end
section
variable {P:Program} {L:Lg P} {n:Fm} {fz:Nat} {E:Env} {M0:Av} {w0:World} {S:Nat→Prop} {rs:List An}
theorem St.HC {i j k sz b:Nat} {new:Bool} {T e:TypeId} {ps:List Pr} {rows:List (List Pr)} {v:Value} {p:Pr} (hi:rs[i]? =some (AE new b T ps)) (hj:rs[j]? =some (Bc e sz rows v)) (hij:j≠i) (hk:ps[k]? =some p) (hp:Pr.le p (is v)) (hl:∀r∈rows,r.length=sz) {a:Act} {w:World} (h:St n E (Hp M0 w0 S rs) a w):
  St n E (Hp M0 w0 S ((rs.set j Bb).set i (AE new b T (ps.set k (slice sz rows))))) a w:=by
 obtain ⟨M,h1,h2,h3,h4⟩:=h
 have h4:At M0 w0 S rs M w:=h4
 have hi':(rs.set j (Bc e sz rows v))[i]? =some (AE new b T ps):=by rw [List.getElem?_set_ne hij];exact hi
 obtain ⟨M',g1,g2,g3⟩:=h4.uM hj hl
 have gi:(rs.set j Bb)[i]? =some (AE new b T ps):=by rw [List.getElem?_set_ne hij];exact hi
 refine ⟨M',h1,h2,fun s q hq=>q.st _ _ _ _ _ g1 (h3 s q hq),g2.CD gi rfl rfl ?_⟩
 obtain ⟨c1,cs,c2,c3,c4⟩:=(g2.hold _ (List.mem_of_getElem? gi)).1
 exact ⟨c1,cs,c2,c3.set hk (fun u hu=>by rw [show u=v from hp _ _ _ hu];exact g3),c4⟩
theorem Tr.HC {Q:Exit→Act→World→Prop} {c:Code} (i j k:Nat) {sz b:Nat} {new:Bool} {T e:TypeId} {ps:List Pr} {rows:List (List Pr)} {v:Value} {p:Pr} (hi:rs[i]? =some (AE new b T ps)) (hj:rs[j]? =some (Bc e sz rows v)) (hij:j≠i) (hk:ps[k]? =some p) (hp:Pr.le p (is v)) (hl:∀r∈rows,r.length=sz)
  (kk:Tr L n E (Hp M0 w0 S ((rs.set j Bb).set i (AE new b T (ps.set k (slice sz rows))))) c Q):Tr L n E (Hp M0 w0 S rs) c Q:=Tr.conv (fun _ _ hs=>hs.HC hi hj hij hk hp hl) kk
end
theorem ot {β:Type} {f:β→List Pr} {l:List β} {k q m:Nat} {x:β} {qs:List Pr} (h:l[k]? =some x) (hq:(f x).take q++qs++(f x).drop (q+m)=f x):(l.map f).set k ((f x).take q++qs++(f x).drop (q+m))=l.map f:=by
 rw [hq]
 refine List.ext_getElem? fun i=> ?_
 rw [List.getElem?_set]
 by_cases hi:k=i
 ·
  subst hi
  rw [if_pos rfl,List.getElem?_map,h]
  have:=BP h
  rw [if_pos (by rw [List.length_map];exact this)];rfl
 · rw [if_neg hi]
theorem gp {β:Type} {f:β→List Pr} {l:List β} {k q m:Nat} {x:β} {qs:List Pr} (h:l[k]? =some x) (hq:(f x).take q++qs++(f x).drop (q+m)=f x):(l.map f).set ((k:Nat):Int).toNat ((f x).take q++qs++(f x).drop (q+m))=l.map f:=by
 rw [Int.toNat_natCast];exact ot h hq
section
variable {P:Program} {L:Lg P} {n:Fm} {fz:Nat} {E:Env} {M0:Av} {w0:World} {S:Nat→Prop} {rs:List An} {o:Oper} {g:Func} {M1:Av} {w1:World}
theorem RC.gen {f:FuncId} {args args':List Pr} {pre:List An} {res:Pr} [JA res] (hfz:∀M0 w0 S rs M w,At M0 w0 S (pre++rs) M w→∃M',Ext M w M' w∧At M0 w0 S rs M' w∧∀vs,HL M w args vs→HL M' w args' vs)
  (h:BD P f args' res):RC P f args pre res pre:=by
 refine ⟨h.1,fun M0 w0 S rs M w vs hI hv=> ?_⟩
 obtain ⟨M',hx,OW,ha⟩:=hfz M0 w0 S rs M w hI
 refine (h.2 M' w vs OW.bd (ha vs hv)).mono ?_
 rintro e' w' ⟨u,rfl,h2,h3⟩
 exact ⟨u,M,(),rfl,trivial,JA.free _ _ _ _ h2,Ext.below h3,(Hp M0 w0 S _).st _ _ _ h3 hI⟩
theorem Row.hd {M:Av} {w:World} {ad:Addr} {p q:Pr} {ps:List Pr} (h:Row M w ad 0 (p::ps)) (hq:∀u,p.h M w u→q.h M w u):Row M w ad 0 (q::ps):=by
 intro j r hr
 cases j with
 |zero=>
  simp at hr;subst hr
  obtain ⟨u,h1,h2,h3,h4⟩:=h 0 p rfl
  exact ⟨u,h1,h2,h3,hq u h4⟩
 |succ j=>exact h (j+1) r (by simpa using hr)
theorem RC.look {f:FuncId} {wb ob:Nat} {WT OT e:TypeId} {wps ops rows ps:List Pr} {rws:List (List Pr)} {sz k:Nat} {v:Value} {res:Pr} [JA res] (hk:ops[k]? =some (is v)) (hl:∀r∈rws,r.length=sz) (ho:ops.set k (slice sz rws)=rows)
  (h:BD P f (ref (ref rows::wps)::ps) res):RC P f (ptr wb 0::ps) [AE true wb WT (ptr ob 0::wps),AE true ob OT ops,Bc e sz rws v] res [AE true wb WT (ptr ob 0::wps),AE true ob OT ops,Bc e sz rws v]:=by
 refine RC.gen (fun M0 w0 S rs M w hI=> ?_) h
 obtain ⟨Ma,a1,a2⟩:=At.HC (i:=1) (j:=2) (k:=k) hI rfl rfl AB hk hl
 rw [ho] at a2
 have a3:At M0 w0 S (AE true ob OT rows::AE true wb WT (ptr ob 0::wps)::Bb::rs) Ma w:=At.perm (List.Perm.swap _ _ _) a2
 obtain ⟨Mb,b1,b2,b3⟩:=At.OZ a3
 obtain ⟨Mc,c1,c2,c3⟩:=At.OZ b1
 refine ⟨Mc,(a1.trans b2).trans c2,c1.Iv,fun vs hv=> ?_⟩
 match vs,hv with
 |u0::vs1,WD=>
  obtain ⟨Q5,RW⟩:=WD
  refine ⟨⟨⟨wb,0,none⟩,Q5,c3.hd fun u hu=>⟨⟨ob,0,none⟩,hu,b3.st c2⟩⟩,RW.st ((a1.trans b2).trans c2)⟩
theorem TO.re {Q:Exit→Act→World→Prop} {ops:Array Oper} {l:List Oper} {I:CS} (s:Nat) {q:Pr} (p:Pr) (hs:E.lookup s=some q) (hl:Pr.le q p) (k:TO P n ops l ((s,p)::E) I Q):TO P n ops l E I Q:=by
 intro m hm a w hst
 refine k m hm a w ?_
 obtain ⟨M,h1,h2,he,h4⟩:=hst
 refine ⟨M,h1,h2,fun s' r hr=> ?_,h4⟩
 simp only [List.lookup] at hr
 split at hr
 ·
  rename_i e1
  have:s'=s:=by simpa using e1
  subst this
  simp only [Option.some.injEq] at hr
  subst hr
  exact hl _ _ _ (he _ _ hs)
 · exact he _ _ hr
theorem Fin.JY {Q:Exit→Act→World→Prop} {x:Exit} {r r':An} (k:Fin n E (Hp M0 w0 S (r'::r::rs)) Q x):Fin n E (Hp M0 w0 S (r::r'::rs)) Q x:=
 Fin.conv (fun _ _ ⟨M,h1,h2,h3,h4⟩=>⟨M,h1,h2,h3,At.perm (List.Perm.swap _ _ _) h4⟩) k
def Tg (P:Program) (f:FuncId) (args:List Pr) (res:Value→Pr) (post:Value→List An):Prop:=E2 (α:=Value) P f args [] (fun _=>True) res post
theorem Tg.of {f : FuncId} {c : Code} {ps : List Pr} {res : Value → Pr} {post : Value → List An} (hf : P.funcs[f]? = some g) (hb : g.body = some c) (hname : (g.name == "runtime.NumGoroutine") = false) (hlen : ps.length ≤ g.ntmps)
  (h:∀M0 w0 S rs M1 w1,Tr (V_ P) g.ntmps (K1 0 ps) (Hp M0 w0 S (Ak M1 w1::rs)) c (bodyPost P g (Ns M0 w0 S rs M1 w1 (fun _:Value=>True) res post))):Tg P f ps res post:=
 E2.of hf hb hname hlen h
theorem Fin.yy {rv:ResultVar} {q:Pr} {res:Value→Pr} {post:Value→List An} {rs':List An} (v:Value) (dr:List An) (hr:g.results= #[rv]) (h:A7 P E rs' rv q) (hl:Pr.le q (res v)) (hp:rs'.Perm (dr++(post v++Ak M1 w1::rs))):
  Fin ⟨fz,[]⟩ E (Hp M0 w0 S rs') (bodyPost P g (Ns M0 w0 S rs M1 w1 (fun _:Value=>True) res post)) .ret:=by
 rintro a w ⟨M,_,hd,he,hi⟩
 have hi:At M0 w0 S rs' M w:=hi
 obtain ⟨u,hu,hp'⟩:=h M w a he (fun q hq=>(hi.hold q hq).1)
 obtain ⟨h1,h2⟩:=Ht (At.gj (At.perm hp hi))
 exact ⟨hd,u,results1 hr hu,_,M,v,rfl,trivial,hl _ _ _ hp',h1,h2⟩
theorem TO.gq {Q:Exit→Act→World→Prop} {ops:Array Oper} {r:List Oper} {f:FuncId} {xs:Array Operand} {ts:Array TypeId} {ps:List Pr} {res:Value→Pr} {post:Value→List An} {d:Nat} (hg:o.guard=none) (hd:o.dst=some d) (hn:d<n) (ho:o.op= .call { callee:= .value (.func f),args:=xs,argTypes:=ts }) (hf:Tg P f ps res post)
  (hv:Gi E xs.toList ps) (k:∀v,TO P n ops r ((d,res v)::E) (Hp M0 w0 S (post v++rs)) Q):TO P n ops (o::r) E (Hp M0 w0 S rs) Q:=
 TO.Nt rs hg hd hn ho hf hv (List.Perm.refl _) fun v _=>k v
end
section
variable {P:Program} {L:Lg P} {n:Fm} {fz:Nat} {E:Env} {I:CS} {Q:Exit→Act→World→Prop} {ops:Array Oper} {o:Oper} {r:List Oper} {g j:Nat} {b want:Bool}
theorem TO.cases (g:Nat) {b:Bool} {l:List Oper} (_hb:E.lookup g=some (bool b)) (ht:b=true→TO P n ops l E I Q) (hf:b=false→TO P n ops l E I Q):TO P n ops l E I Q:=by
 cases b
 · exact hf rfl
 · exact ht rfl
theorem TO.yz (hg:o.guard=some (j,want)) (hj:(ops[j]?).bind (·.dst)=some g) (hb:E.lookup g=some (bool b)) (K0:b=want) (h:∀(K:Act→World→Prop) M w (a:Act),a.tmps.size=n.sz→a.defers=n.df→FF M w E a→I.h M w→
  (∀E' I' a' w',TO P n ops r E' I' Q→St n E' I' a' w'→K a' w')→o.wp P a w K Q):TO P n ops (o::r) E I Q:=by
 intro k hl a w hs
 have h0:ops[k]? =some o:=by simpa using (hl 0).symm
 obtain ⟨M,hn,hd,he,hI⟩:=hs
 simp only [List.length_cons,List.range'_succ,wpS,h0]
 have hy:=IG (M:=M) (w:=w) (b:=some b) hj (he g _ hb)
 rw [G6 hg hy,if_pos (by simp [K0])]
 exact (h _ M w a hn hd he hI fun E' I' a' w' hT hst=>hT (k+1) (fun j=>by have:=hl (j+1);simpa [Nat.add_assoc,Nat.add_comm 1 j] using this) a' w' hst)
theorem TO.UR {d:Nat} {p:Pr} (hg:o.guard=some (j,want)) (hj:(ops[j]?).bind (·.dst)=some g) (hb:E.lookup g=some (bool b)) (K0:b=want) (hd:o.dst=some d) (hn:d<n) (h:Ad P I o E p) (k:TO P n ops r ((d,p)::E) I Q):TO P n ops (o::r) E I Q:=
 TO.yz hg hj hb K0 fun K M w a h1 h2 h3 h4 hK=>by
  refine Gj (h M w a (CF h3) h4) fun v w' hv hb'=>hK _ _ _ _ k ⟨M,?_,?_,?_,I.st _ _ _ hb' h4⟩
  · rw [Bp];exact h1
  · rw [put_defers];exact h2
  ·
   have:=h3.put (o:=o) (p:=p) hb' hv (fun d' hd'=>by rw [hd] at hd';cases hd';rw [h1];exact hn)
   rw [show upd o p E=(d,p)::E by unfold upd;rw [hd]] at this;exact this
theorem TO.RD {d:Nat} (hg:o.guard=some (j,want)) (hj:(ops[j]?).bind (·.dst)=some g) (hb:E.lookup g=some (bool b)) (K0:b≠want) (hd:o.dst=some d) (hn:d<n) (kk:TO P n ops r ((d,is undef)::E) I Q):TO P n ops (o::r) E I Q:=by
 intro k hl a w hs
 have h0:ops[k]? =some o:=by simpa using (hl 0).symm
 obtain ⟨M,h1,h2,he,hI⟩:=hs
 simp only [List.length_cons,List.range'_succ,wpS,h0]
 have hy:=IG (M:=M) (w:=w) (b:=some b) hj (he g _ hb)
 rw [G6 hg hy,if_neg (by simp [K0])]
 refine kk (k+1) (fun j=>by have:=hl (j+1);simpa [Nat.add_assoc,Nat.add_comm 1 j] using this) _ w ⟨M,by rw [Bp];exact h1,by rw [put_defers];exact h2,?_,hI⟩
 have:=he.put (o:=o) (p:=is undef) (v:=undef) (Below.refl w.heap.size w) rfl (fun d' hd'=>by rw [hd] at hd';cases hd';rw [h1];exact hn)
 rw [show upd o (is undef) E=(d,is undef)::E by unfold upd;rw [hd]] at this;exact this
variable {M0:Av} {w0:World} {S:Nat→Prop} {rs:List An}
theorem TO.gr {d:Nat} {p:Pr} (i:Nat) {R:An} {R':An} (hg:o.guard=some (j,want)) (hj:(ops[j]?).bind (·.dst)=some g) (hb:E.lookup g=some (bool b)) (K0:b=want) (hR:rs[i]? =some R) (hd:o.dst=some d) (hn:d<n) (h:Di P M0 w0 S n i (SR.c R) (SR.c R') { o with guard:=none } E p)
  (k:TO P n ops r ((d,p)::E) (Hp M0 w0 S (rs.set i R')) Q):TO P n ops (o::r) E (Hp M0 w0 S rs) Q:=
 TO.yz hg hj hb K0 fun K M w a hsz hdf he hI hK=>by
  have hw : ({ o with guard := none } : Oper).wp P a w K Q := Lv (h.2 M w a rs hsz (CF he) hI hR) fun v w' M' hv hx OW => hK _ _ _ _ k ⟨M', by rw [Bp]; exact hsz, by rw [put_defers]; exact hdf, by
   intro s q hq
   simp only [List.lookup] at hq
   by_cases hs:s=d
   · subst hs;simp at hq;subst hq;show p.h M' w' ((a.put o.dst v).tmps.getD s undef);rw [hd,Bk Gd];exact hv
   · rw [show (s==d)=false by simpa using hs] at hq;show q.h M' w' ((a.put o.dst v).tmps.getD s undef);rw [hd,BN hs];exact q.st _ _ _ _ _ hx (he s q hq),OW⟩
  exact hw
end
section
variable {P:Program} {L:Lg P} {E:Env} {I:CS} {o:Oper}
end
class T1 (P:Program) (t:TypeId):Prop where
 h:ES P t=true
class TA (P:Program) (t:TypeId):Prop where
 h:FR P t=true
class TZ (P:Program) (t:TypeId) (m:outParam Nat):Prop where
 h:Au P t=some m
class TF (P:Program) (s f:Nat) (k:outParam Nat):Prop where
 h:Af P s f=some k
class TU (P:Program) (t:TypeId) (d:outParam TypeDesc):Prop where
 h:P.underlying t=some d
class TB (P:Program) (t:TypeId) (place:outParam (Nat→Option (Nat×Nat))) (zs:outParam (List Value)):Prop where
 h:∀ps,P.built t ps=Instr.fill place zs.toArray ps
 z:zs.all (·.oneCell')=true
class TV (P:Program) (t:TypeId) (zs:outParam (List Value)):Prop where
 h:BO P t=some zs
 z:zs.all (·.oneCell')=true
class TM (P:Program):Prop where
 h:P.follows .mixedOrders=true
section
variable {P:Program} {L:Lg P} {n:Fm} {fz:Nat} {I:CS} {ops:Array Oper} {o:Oper} {r:List Oper} {E:Env} {K:Env→Prop} {d g j:Nat} {b want:Bool} {p:Pr} {x y:Operand} {Q:Exit→Act→World→Prop} {t u:TypeId}
theorem ACn [i:T1 P t] {ps:List Pr} (ho:o.op= .load t x) (hx:Cv E x=some (ref (p::ps))):Ad P I o E p:=Bf ho i.h (vl hx)
theorem ACo [i:TA P t] {m:Nat} [z:TZ P t m] {ps qs:List Pr} (ho:o.op= .load t x) (hx:Cv E x=some (ref ps)) (hq:ps.take m=qs) (hm:qs.length=m):Ad P I o E (agg qs):=AK ho i.h z.h (vl hx) hq hm
theorem ACp {s:TypeId} {f k:Nat} [i:TF P s f k] {ps qs:List Pr} (ho:o.op= .fieldAddr s x f) (hx:Cv E x=some (ref ps)) (hq:ps.drop k=qs):Ad P I o E (ref qs):=BF ho i.h (vl hx) hq
theorem ACq {s:TypeId} {f k:Nat} [i:TF P s f k] {b off:Nat} (ho:o.op= .fieldAddr s x f) (hx:Cv E x=some (ptr b off)):Ad P I o E (ptr b (off+k)):=AY ho i.h (vl hx)
theorem ACr {e:TypeId} [i:TU P t (.slice e)] {sz:Nat} {β:Type} {f:β→List Pr} {l:List β} (ho:o.op= .call { callee:= .builtin .len,args:= #[x],argTypes:= #[t] }) (hx:Cv E x=some (slice sz (l.map f))):Ad P I o E (int ((l.length:Nat):Int)):=Bn ho i.h (vl hx)
theorem ACs [i:TU P t .string] {a:List UInt8} (ho:o.op= .call { callee:= .builtin .len,args:= #[x],argTypes:= #[t] }) (hx:Cv E x=some (str a)):Ad P I o E (int ((a.length:Nat):Int)):=oQ ho i.h (vl hx)
theorem ACt [i:TU P t .bool] {b c:Bool} (ho:o.op= .binOp .eql t x y u) (hx:Cv E x=some (bool b)) (hy:Cv E y=some (bool c)):Ad P I o E (bool (b==c)):=tI ho i.h (vl hx) (vl hy)
theorem ACu {p:Pr} [One p] (ho:o.op= .box t x) (hx:Cv E x=some p):Ad P I o E (ref [p]):=Cq ho (VL.le (vl hx) (AP p))
theorem ACv {ps:List Pr} (ho:o.op= .box t x) (hx:Cv E x=some (agg ps)):Ad P I o E (ref ps):=Cq ho (VL.le (vl hx) (AW ps))
class CP (p:Pr) (ps:outParam (List Pr)):Prop where
 h:Pr.le p (Co ps)
instance ACw (ps:List Pr):CP (agg ps) ps:=⟨AW ps⟩
instance (priority:=low) ACx (p:Pr) [One p]:CP p [p]:=⟨AP p⟩
class CQ (p:Pr) (ps:outParam (List Pr)):Prop where
 h:Pr.le p (Co ps)
instance ACy (ps:List Pr):CQ (agg ps) ps:=⟨AW ps⟩
instance ACz (k:IntKind) (n:Int):CQ (is (.int k n)) [is (.int k n)]:=⟨AP _⟩
instance ABQ (b:Bool):CQ (is (.bool b)) [is (.bool b)]:=⟨AP _⟩
instance AC0 (s:ByteArray):CQ (is (.string s)) [is (.string s)]:=⟨AP _⟩
instance AC1 (a:Option Addr):CQ (is (.pointer a)) [is (.pointer a)]:=⟨AP _⟩
instance y5 (sz:Nat) (rows:List (List Pr)):CQ (slice sz rows) [slice sz rows]:=⟨AP _⟩
instance AC2 (ps:List Pr):CQ (ref ps) [ref ps]:=⟨AP _⟩
instance AEO (f:Fn) (ps:List Pr):CQ (fn f ps) [fn f ps]:=⟨AP _⟩
theorem vf0:Wq E [] []:=trivial
theorem vf1 {i:Nat} {q:Pr} {row:List Pr} [c:CQ q row] {xs:List (Nat×Operand)} {rows:List (Nat×List Pr)} (hx:Cv E x=some q) (h:Wq E xs rows):Wq E ((i,x)::xs) ((i,row)::rows):=⟨⟨rfl,VL.le (vl hx) c.h⟩,h⟩
theorem vr0 {sz:Nat}:Q9 E sz [] []:=trivial
theorem vr1 {sz:Nat} {q:Pr} {row:List Pr} [c:CQ q row] {xs:List Operand} {rows:List (List Pr)} (hx:Cv E x=some q) (hl:row.length=sz) (h:Q9 E sz xs rows):Q9 E sz (x::xs) (row::rows):=⟨⟨hl,VL.le (vl hx) c.h⟩,h⟩
theorem AC3 {parts:Array (Nat×Operand)} {place:Nat→Option (Nat×Nat)} {zs:List Value} [i:TB P t place zs] {rows:List (Nat×List Pr)} {qs:List Pr} (ho:o.op= .build t parts) (hx:Wq E parts.toList rows) (hq:RZ place (zs.map is) rows=some qs):Ad P I o E (agg qs):=Ar ho i.h i.z hx hq
theorem AC4 {e:TypeId} {sz m:Nat} {zs:List Value} {xs:List Operand} {parts:Array (Nat×Operand)} {rows:List (List Pr)} [i:TU P t (.slice e)] [z:TZ P e sz] [v:TV P e zs] (ho:o.op= .buildSlice t m parts) (hp:parts.toList.map Prod.snd=xs) (hm:(m==xs.length&&(parts.toList.map Prod.fst==List.range m)&&zs.length==sz&&Nat.blt 0 sz&&Nat.ble (m*sz) 16777216)=true) (hx:Q9 E sz xs rows):Ad P I o E (full sz rows):=by
 simp only [Bool.and_eq_true,beq_iff_eq,Nat.blt_eq,Nat.ble_eq] at hm
 obtain ⟨⟨⟨⟨h1,h2⟩,h3⟩,h4⟩,h5⟩:=hm
 subst h1
 refine AQ ho ?_ i.h z.h v.h h3 h4 hx h5
 refine List.ext_getElem (by rw [←hp];simp) fun k h6 h7=> ?_
 have h8:k<xs.length:=by simpa using h7
 simp only [List.getElem_map,List.getElem_zipIdx,Nat.zero_add]
 have e1:(parts.toList.map Prod.fst)[k]'(by simpa using h6)=k:=by simp only [h2];exact List.getElem_range _
 have e2:(parts.toList.map Prod.snd)[k]'(by simpa using h6)=xs[k]:=by simp only [hp]
 simp only [List.getElem_map] at e1 e2
 exact Prod.ext e1 e2
section
variable {M0:Av} {w0:World} {S:Nat→Prop} {b off:Nat} {T:TypeId} {new:Bool} {ps qs:List Pr} {m:Nat} {q:Pr}
theorem LB [i:T1 P t] (ho:o.op= .load t x) (hx:Cv E x=some (ptr b off)) (hp:ps[off]? =some p):JP P M0 w0 S j (SR.c (AE new b T ps)) o E p:=Ay ho i.h (vl hx) hp
theorem LC [i:TA P t] [z:TZ P t m] (ho:o.op= .load t x) (hx:Cv E x=some (ptr b off)) (hq:(ps.drop off).take m=qs) (hm:qs.length=m):JP P M0 w0 S j (SR.c (AE new b T ps)) o E (agg qs):=D3 ho i.h z.h (vl hx) hq hm
theorem U4 {ps':List Pr} [z:TZ P t m] [c:CP q qs] (hg:o.guard=none) (ho:o.op= .store t x y) (hx:Cv E x=some (ptr b off)) (hy:Cv E y=some q) (hm:qs.length=m:=by rfl) (hl:Nat.ble (off+m) ps.length=true:=by rfl) (hps:ps.take off++qs++ps.drop (off+m)=ps':=by rfl):Di P M0 w0 S n j (SR.c (AE new b T ps)) (SR.c (AE new b T ps')) o E any:=A9 hg ho (vl hx) (VL.le (vl hy) c.h) z.h hm (Nat.le_of_ble_eq_true hl) hps
variable {rs:List An}
theorem sf (i s:Nat) [z:TZ P t m] [c:CP q qs] (hg:o.guard=none∧o.dst=none∧o.op= .store t x y) (hx:Cv E x=some (ptr b 0)) (hy:Cv E y=some q) (hi:rs[i]? =some (AE true b T ps)) (hs:E.lookup s=some (ptr b 0))
  (k:TO P n ops r ((s,ref qs)::E) (Hp M0 w0 S ((rs.set i (AE true b T qs)).eraseIdx i)) Q) (hm:qs.length=m:=by rfl) (hl:ps.length=m:=by rfl):TO P n ops (o::r) E (Hp M0 w0 S rs) Q:=
 TO.Aj i hg.1 hg.2.1 hg.2.2 (vl hx) (VL.le (vl hy) c.h) hi z.h hm hl (TO.freeze (ps:=qs) i s (by
  have hlt:i<rs.length:=by rcases Nat.lt_or_ge i rs.length with h|h;exact h;rw [List.getElem?_eq_none h] at hi;cases hi
  rw [List.getElem?_set_self hlt]) hs k)
theorem sa (i:Nat) [z:TZ P t m] [c:CP q qs] (hg:o.guard=none∧o.dst=none∧o.op= .store t x y) (hx:Cv E x=some (ptr b 0)) (hy:Cv E y=some q) (hi:rs[i]? =some (AE new b T ps))
  (k:TO P n ops r E (Hp M0 w0 S (rs.set i (AE new b T qs))) Q) (hm:qs.length=m:=by rfl) (hl:ps.length=m:=by rfl):TO P n ops (o::r) E (Hp M0 w0 S rs) Q:=TO.Aj i hg.1 hg.2.1 hg.2.2 (vl hx) (VL.le (vl hy) c.h) hi z.h hm hl k
end
def opk (o:Oper):Nat:=match o.op with
 | .move ..=>1
 | .assign ..=>1
 | .fieldAddr ..=>2
 | .load ..=>3
 | .binOp .add ..=>7
 | .binOp .sub ..=>8
 | .binOp ..=>4
 | .pick ..=>5
 | .nilCheck ..=>6
 | .call { callee:= .builtin .len,.. }=>9
 | .unOp ..=>10
 | .box ..=>11
 | .extract ..=>12
 | .makeFunc ..=>13
 | .build ..=>14
 | .buildSlice ..=>15
 | .store ..=>16
 |_=>0
def y7 (o:Oper):Bool:=o.guard.isNone
def grp (o:Oper):Nat:=if opk o=0 then 0 else if opk o<5 then 1 else if opk o<9 then 2 else if opk o<16 then 3 else 4
theorem AC5 {m z:Int} (ho:o.op= .binOp .add t x y u) (hx:Cv E x=some (int m)) (hy:Cv E y=some (int z)) (hr: -9223372036854775808≤m+z∧m+z≤9223372036854775807):Ad P I o E (int (m+z)):=Ey ho (vl hx) (vl hy) hr
theorem AC6 {m z:Int} (ho:o.op= .binOp .sub t x y u) (hx:Cv E x=some (int m)) (hy:Cv E y=some (int z)) (hr: -9223372036854775808≤m-z∧m-z≤9223372036854775807):Ad P I o E (int (m-z)):=Wj ho (vl hx) (vl hy) hr
theorem oF (h:Ad P I o E p:=by first|exact ACp rfl rfl rfl|exact ACq rfl rfl):Ad P I o E p:=h
theorem oL (h:Ad P I o E p:=by first|exact ACn rfl rfl|exact ACo rfl rfl rfl rfl|exact CY 0 rfl (LB rfl rfl rfl)|exact CY 0 rfl (LC rfl rfl rfl rfl)|exact CY 1 rfl (LB rfl rfl rfl)|exact CY 1 rfl (LC rfl rfl rfl rfl)|exact CY 2 rfl (LB rfl rfl rfl)|exact CY 2 rfl (LC rfl rfl rfl rfl)|exact CY 3 rfl (LB rfl rfl rfl)|exact CY 3 rfl (LC rfl rfl rfl rfl)|exact CY 4 rfl (LB rfl rfl rfl)|exact CY 4 rfl (LC rfl rfl rfl rfl)):Ad P I o E p:=h
theorem oB (h:Ad P I o E p:=by first|exact ki rfl rfl rfl rfl|exact uE rfl (vl rfl) (vl rfl)|exact uF rfl (vl rfl) (vl rfl)|exact ACt rfl rfl rfl):Ad P I o E p:=h
theorem oP (h:Ad P I o E p:=by first|exact PY rfl rfl (by first|rfl|assumption) rfl|exact LX rfl rfl (by first|rfl|assumption) rfl|exact bT rfl (vl rfl) (vl rfl)|exact W9 rfl (vl rfl) (vl rfl)):Ad P I o E p:=h
theorem oN (h:Ad P I o E p:=by first|exact Dx rfl (vl rfl)|exact Iu rfl (vl rfl)|exact PN rfl (vl rfl)):Ad P I o E p:=h
theorem oA (h:Ad P I o E p:=by first|exact AC5 rfl rfl rfl AA|exact ki rfl rfl rfl rfl):Ad P I o E p:=h
theorem oS (h:Ad P I o E p:=by first|exact AC6 rfl rfl rfl AA|exact ki rfl rfl rfl rfl):Ad P I o E p:=h
theorem oC (h:Ad P I o E p:=by first|exact ACr rfl rfl|exact ACs rfl rfl):Ad P I o E p:=h
theorem oU (h:Ad P I o E p:=by first|exact F9 rfl (vl rfl)):Ad P I o E p:=h
theorem oO (h:Ad P I o E p:=by first|exact ACv rfl rfl|exact ACu rfl rfl):Ad P I o E p:=h
theorem oE (h:Ad P I o E p:=by first|exact Ba rfl (vl rfl) rfl):Ad P I o E p:=h
theorem oM (h:Ad P I o E p:=by first|exact NV rfl rfl):Ad P I o E p:=h
theorem oD (h:Ad P I o E p:=by first|exact AC3 rfl (by repeat any_goals first|exact vf0|refine' vf1 rfl ?_) (by rfl)):Ad P I o E p:=h
theorem oI (h:Ad P I o E p:=by first|exact AC4 rfl rfl (by rfl) (by repeat any_goals first|exact vr0|refine' vr1 rfl (by rfl) ?_)):Ad P I o E p:=h
theorem kc0 {f:FuncId} {ts:Array TypeId} {res:Pr} (hf:BD P f [] res) (ho:o.op= .call { callee:= .value (.func f),args:= #[],argTypes:=ts }):Ad P I o E res:=AZ ho hf trivial
theorem C8 {f:FuncId} {ts:Array TypeId} {x0:Operand} {p0:Pr} {res:Pr} (hf:BD P f [p0] res) (ho:o.op= .call { callee:= .value (.func f),args:= #[x0],argTypes:=ts }) (h0:Cv E x0=some p0):Ad P I o E res:=AZ ho hf ⟨ke h0,trivial⟩
theorem C4 {f:FuncId} {ts:Array TypeId} {x0:Operand} {p0:Pr} {x1:Operand} {p1:Pr} {res:Pr} (hf:BD P f [p0,p1] res) (ho:o.op= .call { callee:= .value (.func f),args:= #[x0,x1],argTypes:=ts }) (h0:Cv E x0=some p0) (h1:Cv E x1=some p1):Ad P I o E res:=AZ ho hf ⟨ke h0,ke h1,trivial⟩
theorem XC {f:FuncId} {ts:Array TypeId} {x0:Operand} {p0:Pr} {x1:Operand} {p1:Pr} {x2:Operand} {p2:Pr} {res:Pr} (hf:BD P f [p0,p1,p2] res) (ho:o.op= .call { callee:= .value (.func f),args:= #[x0,x1,x2],argTypes:=ts }) (h0:Cv E x0=some p0) (h1:Cv E x1=some p1) (h2:Cv E x2=some p2):Ad P I o E res:=AZ ho hf ⟨ke h0,ke h1,ke h2,trivial⟩
theorem kc4 {f:FuncId} {ts:Array TypeId} {x0:Operand} {p0:Pr} {x1:Operand} {p1:Pr} {x2:Operand} {p2:Pr} {x3:Operand} {p3:Pr} {res:Pr} (hf:BD P f [p0,p1,p2,p3] res) (ho:o.op= .call { callee:= .value (.func f),args:= #[x0,x1,x2,x3],argTypes:=ts }) (h0:Cv E x0=some p0) (h1:Cv E x1=some p1) (h2:Cv E x2=some p2) (h3:Cv E x3=some p3):Ad P I o E res:=AZ ho hf ⟨ke h0,ke h1,ke h2,ke h3,trivial⟩
theorem kc5 {f:FuncId} {ts:Array TypeId} {x0:Operand} {p0:Pr} {x1:Operand} {p1:Pr} {x2:Operand} {p2:Pr} {x3:Operand} {p3:Pr} {x4:Operand} {p4:Pr} {res:Pr} (hf:BD P f [p0,p1,p2,p3,p4] res) (ho:o.op= .call { callee:= .value (.func f),args:= #[x0,x1,x2,x3,x4],argTypes:=ts }) (h0:Cv E x0=some p0) (h1:Cv E x1=some p1) (h2:Cv E x2=some p2) (h3:Cv E x3=some p3) (h4:Cv E x4=some p4):Ad P I o E res:=AZ ho hf ⟨ke h0,ke h1,ke h2,ke h3,ke h4,trivial⟩
theorem cP (_:y7 o=true) (h:Ch P n I ops (o::r) E K):Ch P n I ops (o::r) E K:=h
theorem cG (_:y7 o=false) (h:Ch P n I ops (o::r) E K):Ch P n I ops (o::r) E K:=h
theorem cK (k:Nat) (_:opk o=k) (h:Ch P n I ops (o::r) E K):Ch P n I ops (o::r) E K:=h
theorem cS (k:Nat) (_:grp o=k) (h:Ch P n I ops (o::r) E K):Ch P n I ops (o::r) E K:=h
theorem tK (k:Nat) (_:opk o=k) (h:TO P n ops (o::r) E I Q):TO P n ops (o::r) E I Q:=h
theorem tG (k:Nat) (_:grp o=k) (h:TO P n ops (o::r) E I Q):TO P n ops (o::r) E I Q:=h
theorem Tr.rm [i:TM P] {id:Nat} {l:List Oper} (hB:S0 l=true) (h:Ch P n I l.toArray l E (fun E'=>Fin n E' I Q .normal)) (hc:calm l=true:=by with_unfolding_all rfl):Tr L n E I (.region id l.toArray true) Q:=Tr.Wi i.h hB h hc
theorem Tr.ct {c:Operand} {y z:Code} (hc:Cv E c=some (bool true)) (k:Tr L n E I y Q):Tr L n E I (.cond c y z) Q:=Tr.cond hc (fun _=>k) (fun h=>nomatch h)
theorem Tr.cf {c:Operand} {y z:Code} (hc:Cv E c=some (bool false)) (k:Tr L n E I z Q):Tr L n E I (.cond c y z) Q:=Tr.cond hc (fun h=>nomatch h) (fun _=>k)
structure gu (G:Prop):Prop where
 k:G
theorem Cx.mono {M0:Av} {w0:World} {S:Nat→Prop}:∀{l:List Oper} {E:Env} {rs:List SR} {K K':List X→Env→List SR→Prop},(∀L E rs,K L E rs→K' L E rs)→Cx P M0 w0 S n ops l E rs K→Cx P M0 w0 S n ops l E rs K'
 |[],_,_,_,_,h,k=>h _ _ _ k
 |_::_,_,_,_,_,h,⟨p,k,h1,h2,h3⟩=>⟨p,k,h1,h2,Cx.mono (fun _ _ _=>h _ _ _) h3⟩
theorem Cx.keys {M0:Av} {w0:World} {S:Nat→Prop}:∀{l:List Oper} {E:Env} {rs:List SR} {K:List X→Env→List SR→Prop},Cx P M0 w0 S n ops l E rs K→∃ks:List KN,Cx P M0 w0 S n ops l E rs (fun L E' rs'=>L.map (·.k.K2)=ks∧K L E' rs')
 |[],_,_,_,k=>⟨[],rfl,k⟩
 |_::_,_,_,_,⟨p,k,h1,h2,h3⟩=>by
  obtain ⟨ks,h4⟩:=Cx.keys h3
  exact ⟨k.K2::ks,p,k,h1,h2,Cx.mono (fun L E rs h=>⟨by rw [List.map_cons,h.1],h.2⟩) h4⟩
theorem Tr.rx {Lo:Lg P} [i:TM P] {M0:Av} {w0:World} {S:Nat→Prop} {id:Nat} {l:List Oper} {Hj:List An}
  (h:Cx P M0 w0 S n l.toArray l E (Hj.map SR.c) (fun L E' rs'=>OV l (L.map (·.k.K2))=true∧BW n M0 w0 S E' rs' Q)) (hc:calm l=true:=by with_unfolding_all rfl):Tr Lo n E (Hp M0 w0 S Hj) (.region id l.toArray true) Q:=by
 obtain ⟨ks,hk⟩:=Cx.keys h
 obtain ⟨L,h1,h2,h3⟩:=S3 l 0 E _ hk
 exact Tr.K3 i.h ks (by rw [←h3.1];exact h3.2.1) (hk.mono fun _ _ _ h=>⟨h.1,h.2.2⟩) hc
theorem al1 {rs:List An} {r0:An}:BT (SR.c r0::rs.map SR.c) (r0::rs):= .cons (BT.map _)
theorem al2 {rs:List An} {r0:An} {r1:An}:BT (SR.c r0::SR.c r1::rs.map SR.c) (r0::r1::rs):= .cons (.cons (BT.map _))
theorem al3 {rs:List An} {r0:An} {r1:An} {r2:An}:BT (SR.c r0::SR.c r1::SR.c r2::rs.map SR.c) (r0::r1::r2::rs):= .cons (.cons (.cons (BT.map _)))
theorem al4 {rs:List An} {r0:An} {r1:An} {r2:An} {r3:An}:BT (SR.c r0::SR.c r1::SR.c r2::SR.c r3::rs.map SR.c) (r0::r1::r2::r3::rs):= .cons (.cons (.cons (.cons (BT.map _))))
theorem al5 {rs:List An} {r0:An} {r1:An} {r2:An} {r3:An} {r4:An}:BT (SR.c r0::SR.c r1::SR.c r2::SR.c r3::SR.c r4::rs.map SR.c) (r0::r1::r2::r3::r4::rs):= .cons (.cons (.cons (.cons (.cons (BT.map _)))))
theorem al6 {rs:List An} {r0:An} {r1:An} {r2:An} {r3:An} {r4:An} {r5:An}:BT (SR.c r0::SR.c r1::SR.c r2::SR.c r3::SR.c r4::SR.c r5::rs.map SR.c) (r0::r1::r2::r3::r4::r5::rs):= .cons (.cons (.cons (.cons (.cons (.cons (BT.map _))))))
theorem al7 {rs:List An} {r0:An} {r1:An} {r2:An} {r3:An} {r4:An} {r5:An} {r6:An}:BT (SR.c r0::SR.c r1::SR.c r2::SR.c r3::SR.c r4::SR.c r5::SR.c r6::rs.map SR.c) (r0::r1::r2::r3::r4::r5::r6::rs):= .cons (.cons (.cons (.cons (.cons (.cons (.cons (BT.map _)))))))
theorem fo {f : FuncId} {g : Func} {c : Code} {ps : List Pr} {res : Pr} (hf : P.funcs[f]? = some g) (hb : g.body = some c) (hname : ((g.name == "runtime.NumGoroutine") = false ∧ Nat.ble ps.length g.ntmps = true))
  (h:∀M0 w0,Tr (V_ P) g.ntmps (K1 0 ps) (Bse M0 w0) c (bodyPost P g (UZ M0 w0 res))):BD P f ps res:=BD.of hf hb hname.1 (Nat.le_of_ble_eq_true hname.2) h
section
variable {M0:Av} {w0:World} {S:Nat→Prop} {rs:List SR} {KX:List X→Env→List SR→Prop}
theorem xId {l:List Oper} (h:Cx P M0 w0 S n ops l E rs KX):Cx P M0 w0 S n ops l E rs KX:=h
theorem xK (k:Nat) (_:opk o=k) (h:Cx P M0 w0 S n ops (o::r) E rs KX):Cx P M0 w0 S n ops (o::r) E rs KX:=h
theorem xG (k:Nat) (_:grp o=k) (h:Cx P M0 w0 S n ops (o::r) E rs KX):Cx P M0 w0 S n ops (o::r) E rs KX:=h
end
theorem cId {l:List Oper} (h:Ch P n I ops l E K):Ch P n I ops l E K:=h
theorem rId {c:Code} (h:Tr L n E I c Q):Tr L n E I c Q:=h
theorem fId {e:Exit} (h:Fin n E I Q e):Fin n E I Q e:=h
theorem tId {l:List Oper} (h:TO P n ops l E I Q):TO P n ops l E I Q:=h
theorem ac {G H:Prop} (k:G) (h:gu G→H:=by
 intro k
 repeat1' first
  |((with_reducible refine cId ?_);first
   |with_reducible refine Ch.nil ?_
   |(refine cP rfl ?_;first
    |(refine cS 1 rfl ?_;first
      |(refine cK 1 rfl ?_;refine cm rfl ?_)
      |(refine cK 2 rfl ?_;refine co rfl oF ?_)
      |(refine cK 3 rfl ?_;refine co rfl oL ?_)
      |(refine cK 4 rfl ?_;refine co rfl oB ?_))
    |(refine cS 2 rfl ?_;first
      |(refine cK 5 rfl ?_;refine co rfl oP ?_)
      |(refine cK 6 rfl ?_;refine co rfl oN ?_)
      |(refine cK 7 rfl ?_;refine co rfl oA ?_)
      |(refine cK 8 rfl ?_;refine co rfl oS ?_))
    |(refine cS 3 rfl ?_;first
      |(refine cK 9 rfl ?_;refine co rfl oC ?_)
      |(refine cK 10 rfl ?_;refine co rfl oU ?_)
      |(refine cK 11 rfl ?_;refine co rfl oO ?_)
      |(refine cK 12 rfl ?_;refine co rfl oE ?_)
      |(refine cK 13 rfl ?_;refine co rfl oM ?_)
      |(refine cK 14 rfl ?_;refine co rfl oD ?_)
      |(refine cK 15 rfl ?_;refine co rfl oI ?_)))
   |(refine cG rfl ?_;first
    |refine cu rfl ?_
    |refine cnt BC rfl ?_
    |refine cnf BC rfl ?_
    |(refine cS 1 rfl ?_;first
      |(refine cK 1 rfl ?_;refine HZ Ew rfl ?_)
      |(refine cK 2 rfl ?_;refine cy Ew rfl oF ?_)
      |(refine cK 3 rfl ?_;refine cy Ew rfl oL ?_)
      |(refine cK 4 rfl ?_;refine cy Ew rfl oB ?_))
    |(refine cS 2 rfl ?_;first
      |(refine cK 5 rfl ?_;refine cy Ew rfl oP ?_)
      |(refine cK 6 rfl ?_;refine cy Ew rfl oN ?_)
      |(refine cK 7 rfl ?_;refine cy Ew rfl oA ?_)
      |(refine cK 8 rfl ?_;refine cy Ew rfl oS ?_))
    |(refine cS 3 rfl ?_;first
      |(refine cK 9 rfl ?_;refine cy Ew rfl oC ?_)
      |(refine cK 10 rfl ?_;refine cy Ew rfl oU ?_)
      |(refine cK 11 rfl ?_;refine cy Ew rfl oO ?_)
      |(refine cK 12 rfl ?_;refine cy Ew rfl oE ?_)
      |(refine cK 13 rfl ?_;refine cy Ew rfl oM ?_)
      |(refine cK 14 rfl ?_;refine cy Ew rfl oD ?_)
      |(refine cK 15 rfl ?_;refine cy Ew rfl oI ?_))
    |refine cnd rfl rfl ?_))
  |((with_reducible refine rId ?_);first
   |with_reducible refine Tr.seq ?_
   |with_reducible refine Tr.Ah ?_
   |refine Tr.rm BS ?_
   |with_reducible refine Tr.skip ?_
   |with_reducible refine Tr.block ?_
   |with_reducible refine Tr.ret ?_
   |with_reducible refine Tr.exit ?_
   |refine Tr.ct rfl ?_
   |refine Tr.cf rfl ?_)
  |((with_reducible refine fId ?_);first
   |with_reducible refine Fin.AG ?_
   |with_reducible refine Fin.Ag ?_
   |with_reducible refine Fin.AV ?_
   |with_reducible refine Fin.Ao ?_
   |refine Fin.PM rfl ?_
   |with_reducible refine Fin.block ?_
   |refine Fin.HK rfl (Bm.Dw _ _) rfl ?_)
 first|with_reducible refine Fin.go ?_|with_reducible refine cId ?_|with_reducible refine tId ?_|with_reducible refine rId ?_|refine Fin.go ?_|skip
 exact k.k):H:=h ⟨k⟩
theorem ao {G H:Prop} (k:G) (h:gu G→H:=by
 intro k
 repeat1' first
  |((with_reducible refine tId ?_);first
   |with_reducible refine TO.nil ?_
   |(refine tG 1 rfl ?_;first
     |(refine tK 1 rfl ?_;refine tm rfl ?_)
     |(refine tK 2 rfl ?_;refine tp rfl oF ?_)
     |(refine tK 3 rfl ?_;refine tp rfl oL ?_)
     |(refine tK 4 rfl ?_;refine tp rfl oB ?_))
   |(refine tG 2 rfl ?_;first
     |(refine tK 5 rfl ?_;refine tp rfl oP ?_)
     |(refine tK 6 rfl ?_;refine tp rfl oN ?_)
     |(refine tK 7 rfl ?_;refine tp rfl oA ?_)
     |(refine tK 8 rfl ?_;refine tp rfl oS ?_))
   |(refine tG 3 rfl ?_;first
     |(refine tK 9 rfl ?_;refine tp rfl oC ?_)
     |(refine tK 10 rfl ?_;refine tp rfl oU ?_)
     |(refine tK 12 rfl ?_;refine tp rfl oE ?_)
     |(refine tK 13 rfl ?_;refine tp rfl oM ?_)
     |(refine tK 14 rfl ?_;refine tp rfl oD ?_)
     |(refine tK 15 rfl ?_;refine tp rfl oI ?_)))
  |((with_reducible refine rId ?_);first
   |with_reducible refine Tr.seq ?_
   |with_reducible refine Tr.A0 ?_
   |with_reducible refine Tr.skip ?_
   |with_reducible refine Tr.block ?_
   |with_reducible refine Tr.ret ?_
   |with_reducible refine Tr.exit ?_)
  |((with_reducible refine fId ?_);first
   |with_reducible refine Fin.AG ?_
   |with_reducible refine Fin.Ag ?_
   |with_reducible refine Fin.AV ?_
   |with_reducible refine Fin.Ao ?_
   |refine Fin.PM rfl ?_
   |with_reducible refine Fin.block ?_)
 first|with_reducible refine Fin.go ?_|with_reducible refine cId ?_|with_reducible refine tId ?_|with_reducible refine rId ?_|refine Fin.go ?_|skip
 exact k.k):H:=h ⟨k⟩
theorem ap {G H:Prop} (k:G) (h:gu G→H:=by
 intro k
 repeat1' first
  |((with_reducible refine tId ?_);first
   |with_reducible refine TO.nil ?_
   |(refine tG 1 rfl ?_;first
     |(refine tK 1 rfl ?_;refine tm rfl ?_)
     |(refine tK 2 rfl ?_;refine tp rfl oF ?_)
     |(refine tK 3 rfl ?_;refine tp rfl oL ?_)
     |(refine tK 4 rfl ?_;refine tp rfl oB ?_))
   |(refine tG 2 rfl ?_;first
     |(refine tK 5 rfl ?_;refine tp rfl oP ?_)
     |(refine tK 6 rfl ?_;refine tp rfl oN ?_)
     |(refine tK 7 rfl ?_;refine tp rfl oA ?_)
     |(refine tK 8 rfl ?_;refine tp rfl oS ?_))
   |(refine tG 3 rfl ?_;first
     |(refine tK 9 rfl ?_;refine tp rfl oC ?_)
     |(refine tK 10 rfl ?_;refine tp rfl oU ?_)
     |(refine tK 12 rfl ?_;refine tp rfl oE ?_)
     |(refine tK 13 rfl ?_;refine tp rfl oM ?_)
     |(refine tK 14 rfl ?_;refine tp rfl oD ?_)
     |(refine tK 15 rfl ?_;refine tp rfl oI ?_))
   |(refine tK 16 rfl ?_;first
    |refine sa 0 ⟨rfl,rfl,rfl⟩ rfl rfl rfl ?_
    |refine TO.Ee 0 rfl rfl (U4 rfl rfl rfl rfl) ?_
    |refine sa 1 ⟨rfl,rfl,rfl⟩ rfl rfl rfl ?_
    |refine TO.Ee 1 rfl rfl (U4 rfl rfl rfl rfl) ?_
    |refine sa 2 ⟨rfl,rfl,rfl⟩ rfl rfl rfl ?_
    |refine TO.Ee 2 rfl rfl (U4 rfl rfl rfl rfl) ?_
    |refine sa 3 ⟨rfl,rfl,rfl⟩ rfl rfl rfl ?_
    |refine TO.Ee 3 rfl rfl (U4 rfl rfl rfl rfl) ?_))
  |((with_reducible refine rId ?_);first
   |with_reducible refine Tr.seq ?_
   |with_reducible refine Tr.A0 ?_
   |with_reducible refine Tr.skip ?_
   |with_reducible refine Tr.block ?_
   |with_reducible refine Tr.ret ?_
   |with_reducible refine Tr.exit ?_)
  |((with_reducible refine fId ?_);first
   |with_reducible refine Fin.AG ?_
   |with_reducible refine Fin.Ag ?_
   |with_reducible refine Fin.AV ?_
   |with_reducible refine Fin.Ao ?_
   |refine Fin.PM rfl ?_
   |with_reducible refine Fin.block ?_)
 first|with_reducible refine Fin.go ?_|with_reducible refine cId ?_|with_reducible refine tId ?_|with_reducible refine rId ?_|refine Fin.go ?_|skip
 exact k.k):H:=h ⟨k⟩
theorem ax {G H:Prop} (k:G) (h:gu G→H:=by
 intro k
 repeat ((with_reducible refine xId ?_);first
   |(refine xG 1 rfl ?_;first
     |(refine xK 1 rfl ?_;refine xm rfl ?_)
     |(refine xK 2 rfl ?_;refine xo rfl (fun _=>oF) ?_)
     |(refine xK 3 rfl ?_;refine xo rfl (fun _=>oL) ?_)
     |(refine xK 4 rfl ?_;refine xo rfl (fun _=>oB) ?_))
   |(refine xG 2 rfl ?_;first
     |(refine xK 5 rfl ?_;refine xo rfl (fun _=>oP) ?_)
     |(refine xK 6 rfl ?_;refine xo rfl (fun _=>oN) ?_)
     |(refine xK 7 rfl ?_;refine xo rfl (fun _=>oA) ?_)
     |(refine xK 8 rfl ?_;refine xo rfl (fun _=>oS) ?_))
   |(refine xG 3 rfl ?_;first
     |(refine xK 9 rfl ?_;refine xo rfl (fun _=>oC) ?_)
     |(refine xK 10 rfl ?_;refine xo rfl (fun _=>oU) ?_)
     |(refine xK 11 rfl ?_;refine xo rfl (fun _=>oO) ?_)
     |(refine xK 12 rfl ?_;refine xo rfl (fun _=>oE) ?_)
     |(refine xK 13 rfl ?_;refine xo rfl (fun _=>oM) ?_)
     |(refine xK 14 rfl ?_;refine xo rfl (fun _=>oD) ?_))
   |(refine xK 3 rfl ?_;first
    |refine HO 0 rfl rfl (LB rfl rfl rfl) ?_
    |refine HO 0 rfl rfl (LC rfl rfl rfl rfl) ?_
    |refine HO 1 rfl rfl (LB rfl rfl rfl) ?_
    |refine HO 1 rfl rfl (LC rfl rfl rfl rfl) ?_
    |refine HO 2 rfl rfl (LB rfl rfl rfl) ?_
    |refine HO 2 rfl rfl (LC rfl rfl rfl rfl) ?_
    |refine HO 3 rfl rfl (LB rfl rfl rfl) ?_
    |refine HO 3 rfl rfl (LC rfl rfl rfl rfl) ?_
    |refine HO 4 rfl rfl (LB rfl rfl rfl) ?_
    |refine HO 4 rfl rfl (LC rfl rfl rfl rfl) ?_))
 exact k.k):H:=h ⟨k⟩
theorem ay {G H:Prop} (k:G) (h:gu G→H:=by
 intro k
 repeat ((with_reducible refine xId ?_);first
   |(refine xG 1 rfl ?_;first
     |(refine xK 1 rfl ?_;refine xm rfl ?_)
     |(refine xK 2 rfl ?_;refine xo rfl (fun _=>oF) ?_)
     |(refine xK 3 rfl ?_;refine xo rfl (fun _=>oL) ?_)
     |(refine xK 4 rfl ?_;refine xo rfl (fun _=>oB) ?_))
   |(refine xG 2 rfl ?_;first
     |(refine xK 5 rfl ?_;refine xo rfl (fun _=>oP) ?_)
     |(refine xK 6 rfl ?_;refine xo rfl (fun _=>oN) ?_)
     |(refine xK 7 rfl ?_;refine xo rfl (fun _=>oA) ?_)
     |(refine xK 8 rfl ?_;refine xo rfl (fun _=>oS) ?_))
   |(refine xG 3 rfl ?_;first
     |(refine xK 9 rfl ?_;refine xo rfl (fun _=>oC) ?_)
     |(refine xK 10 rfl ?_;refine xo rfl (fun _=>oU) ?_)
     |(refine xK 11 rfl ?_;refine xo rfl (fun _=>oO) ?_)
     |(refine xK 12 rfl ?_;refine xo rfl (fun _=>oE) ?_)
     |(refine xK 13 rfl ?_;refine xo rfl (fun _=>oM) ?_)
     |(refine xK 14 rfl ?_;refine xo rfl (fun _=>oD) ?_))
   |(refine xK 3 rfl ?_;first
    |refine HO 0 rfl rfl (LB rfl rfl rfl) ?_
    |refine HO 0 rfl rfl (LC rfl rfl rfl rfl) ?_
    |refine HO 1 rfl rfl (LB rfl rfl rfl) ?_
    |refine HO 1 rfl rfl (LC rfl rfl rfl rfl) ?_
    |refine HO 2 rfl rfl (LB rfl rfl rfl) ?_
    |refine HO 2 rfl rfl (LC rfl rfl rfl rfl) ?_
    |refine HO 3 rfl rfl (LB rfl rfl rfl) ?_
    |refine HO 3 rfl rfl (LC rfl rfl rfl rfl) ?_
    |refine HO 4 rfl rfl (LB rfl rfl rfl) ?_
    |refine HO 4 rfl rfl (LC rfl rfl rfl rfl) ?_)
   |(refine xK 16 rfl ?_;first
    |refine Cx.Ee 0 rfl rfl (U4 rfl rfl rfl rfl) ?_
    |refine Cx.Ee 1 rfl rfl (U4 rfl rfl rfl rfl) ?_
    |refine Cx.Ee 2 rfl rfl (U4 rfl rfl rfl rfl) ?_
    |refine Cx.Ee 3 rfl rfl (U4 rfl rfl rfl rfl) ?_))
 exact k.k):H:=h ⟨k⟩
theorem Ch.cg {l:List Oper} {b v:Bool} {g j:Nat} {pt pf:Prop} [ht:Df b true pt] [hf:Df b false pf] (_:o.guard=some (j,v)) (_:(ops[j]?.bind (·.dst))=some g) (hb:E.lookup g=some (bool b)) (k:b=true→pt→Ch P n I ops (o::l) E K) (k':b=false→pf→Ch P n I ops (o::l) E K):Ch P n I ops (o::l) E K:=Ch.cases g hb (fun h=>k h (ht.EA h)) (fun h=>k' h (hf.EA h))
theorem a2 {G H:Prop} (k:G) (h:gu G→H:=by
 intro k
 iterate 2 refine ac ?_
 exact k.k):H:=h ⟨k⟩
theorem a3 {G H:Prop} (k:G) (h:gu G→H:=by
 intro k
 iterate 3 refine ac ?_
 exact k.k):H:=h ⟨k⟩
theorem an {G L H:Prop} (k:G) (l:L) (h:gu G→gu L→H:=by
 intro k l
 refine ac ?_
 refine Tr.cn rfl ?_ ?_
 exact k.k
 exact l.k):H:=h ⟨k⟩ ⟨l⟩
theorem ag {G L H:Prop} (k:G) (l:L) (h:gu G→gu L→H:=by
 intro k l
 refine ac ?_
 refine Ch.cg rfl rfl rfl ?_ ?_
 exact k.k
 exact l.k):H:=h ⟨k⟩ ⟨l⟩
theorem Lr {p:Pr}:Pr.le p p:=Pr.le_refl p
theorem Vo {p:Pr} [One p] (h:Cv E x=some p):VL E x (Co [p]):=VL.le (vl h) (AP p)
theorem Va {ps:List Pr} (h:Cv E x=some (agg ps)):VL E x (Co ps):=VL.le (vl h) (AW ps)
theorem Nb {a b:Nat} (h:Nat.ble a b=true):a≤b:=Nat.le_of_ble_eq_true h
theorem Kf {z:Nat} {l:List (List Pr)} (h:Cv E x=some (full z l)):VL E x (slice z l):=⟨_,h,BA z l⟩
theorem Ka {v:Value} (h:Cv E x=some (Ae v p)):VL E x (is v):=⟨_,h,EU v p⟩
theorem Kb {v:Value} (h:Cv E x=some (Ae v p)):VL E x p:=⟨_,h,A_ v p⟩
theorem DK {p:Pr} [One p] (h:Cv E x=some p:=by exact rfl):VL E x (Co [p]):=Vo h
theorem LD {ps:List Pr} (h:Cv E x=some (agg ps):=by exact rfl):VL E x (Co ps):=Va h
theorem Gx {z:Nat} {l:List (List Pr)} (h:Cv E x=some (full z l):=by exact rfl):VL E x (slice z l):=Kf h
theorem Oc {v:Value} (h:Cv E x=some (Ae v p):=by exact rfl):VL E x (is v):=Ka h
theorem KR {v:Value} (h:Cv E x=some (Ae v p):=by exact rfl):VL E x p:=Kb h
theorem Tl {M0:Av} {w0:World} {S:Nat→Prop} {rs:List An} {T:TypeId} {zs:List Value} (hg:o.guard=none) (hd:o.dst=some d) (hn:Nat.blt d n=true) (ho:o.op= .alloc T) (hz:BO P T=some zs) (h1':zs.all (·.oneCell')=true)
  (k:∀b,TO P n ops r ((d,is (.pointer (some ⟨b,0,none⟩)))::E) (Hp M0 w0 S (AE true b T (zs.map is)::rs)) Q):TO P n ops (o::r) E (Hp M0 w0 S rs) Q:=TO.alloc hg hd (HN hn) ho hz h1' k
theorem CN {M0:Av} {w0:World} {S:Nat→Prop} {t e:TypeId} {sz bytes:Nat} {zs:List Value} {rows rows':List (List Pr)} {R:SR} (hg:o.guard=none) (hd:o.dst=some d) (hn:Nat.blt d n=true) (ho:o.op= .call { callee:= .builtin .append,args:= #[x,y],argTypes:= #[t,t] })
  (ht:P.underlying t=some (.slice e)) (hz:Au P e=some sz) (hby:Bq P e=some bytes) (Dr:BO P e=some zs) (hx:VL E x (slice sz rows)) (hy:VL E y (slice sz rows'))
  (hR:∀M w (a:Act),Cd M w E o a→R.at_ a=As e sz (a.eval x)∨(R.at_ a=Bb∧Dj (a.eval x)=none)) (hzl:zs.length=sz:=by rfl) (hsz:Nat.blt 0 sz=true:=by rfl)
  (F7:rows.length+rows'.length≤maxLen:=by simp only [List.length_map,List.length_append,List.length_cons,List.length_nil,List.length_replicate,List.length_take,List.length_drop];unfold maxLen;omega) (hfit:(rows.length+rows'.length)*bytes≤140737488355328:=by simp only [List.length_map,List.length_append,List.length_cons,List.length_nil,List.length_replicate,List.length_take,List.length_drop];omega):Di P M0 w0 S n j R ⟨d,As e sz⟩ o E (slice sz (rows++rows')):=J5 hg hd (HN hn) ho ht hz hby Dr hzl (HN hsz) hx hy F7 hfit hR
end
end Cp
namespace Go.Proofs.YtmocaapoeefgkaaGreatDoor
open Go Cp
instance ABR:TM Tryz.prog:=⟨mixed⟩
instance AEo:TV Tryz.prog 3 [.int .i64 0]:=⟨z3,zo3⟩
instance AC7:T1 Tryz.prog 3:=⟨CX⟩
instance AEP:TZ Tryz.prog 3 1:=⟨Bg⟩
instance AC8:T1 Tryz.prog 4:=⟨gG⟩
instance mV:TU Tryz.prog 4 .bool:=⟨Tryz.underlying4⟩
instance AEp:TV Tryz.prog 5 [.int .u8 0]:=⟨z5,zo5⟩
instance AC9:T1 Tryz.prog 5:=⟨xp⟩
instance AEQ:TZ Tryz.prog 5 1:=⟨LY⟩
instance AEq:TV Tryz.prog 9 [.string (ByteArray.mk #[])]:=⟨z9,zo9⟩
instance AC_:T1 Tryz.prog 9:=⟨OA⟩
instance AER:TZ Tryz.prog 9 1:=⟨LZ⟩
instance mW:TU Tryz.prog 9 .string:=⟨Tryz.underlying9⟩
instance ABS:T1 Tryz.prog 22:=⟨FV⟩
instance gv:TU Tryz.prog 22 (.slice 3):=⟨Tryz.underlying22⟩
instance ABT:T1 Tryz.prog 27:=⟨Re⟩
instance gw:TU Tryz.prog 27 (.slice 40):=⟨Tryz.underlying27⟩
instance ABU:T1 Tryz.prog 28:=⟨ZU⟩
instance gy:TU Tryz.prog 28 (.slice 132):=⟨Tryz.underlying28⟩
instance ABV:T1 Tryz.prog 29:=⟨gH⟩
instance gz:TU Tryz.prog 29 (.slice 135):=⟨Tryz.underlying29⟩
instance ABW:TA Tryz.prog 31:=⟨GK⟩
instance ADA:TZ Tryz.prog 31 3:=⟨IP⟩
instance y8:TF Tryz.prog 31 0 0:=⟨JQ⟩
instance y9:TF Tryz.prog 31 1 1:=⟨My⟩
instance y_:TF Tryz.prog 31 2 2:=⟨Ph⟩
instance ABX:T1 Tryz.prog 32:=⟨Pj⟩
instance g_:TU Tryz.prog 32 (.slice 86):=⟨Tryz.underlying32⟩
instance ABY:T1 Tryz.prog 33:=⟨Rf⟩
instance hO:TU Tryz.prog 33 (.slice 61):=⟨Tryz.underlying33⟩
instance ADB:TB Tryz.prog 35 (fun i=>(#[(0,1),(1,1),(2,1)]:Array (Nat×Nat))[i]?) (List.replicate 3 (.slice none 0 0)):=⟨Wv,I_⟩
instance ABZ:TA Tryz.prog 35:=⟨C5⟩
instance ADC:TZ Tryz.prog 35 3:=⟨Ci⟩
instance zA:TF Tryz.prog 35 0 0:=⟨IQ⟩
instance zB:TF Tryz.prog 35 1 1:=⟨Mz⟩
instance zC:TF Tryz.prog 35 2 2:=⟨FL⟩
instance ABa:T1 Tryz.prog 38:=⟨rU⟩
instance iA:TU Tryz.prog 38 (.slice 84):=⟨Tryz.underlying38⟩
instance ABb:TA Tryz.prog 40:=⟨Pk⟩
instance ADD:TZ Tryz.prog 40 9:=⟨Gy⟩
instance zD:TF Tryz.prog 40 0 0:=⟨gJ⟩
instance zE:TF Tryz.prog 40 1 1:=⟨tR⟩
instance zF:TF Tryz.prog 40 2 2:=⟨Ww⟩
instance zG:TF Tryz.prog 40 3 3:=⟨Pm⟩
instance zH:TF Tryz.prog 40 5 5:=⟨TH⟩
instance zI:TF Tryz.prog 40 6 6:=⟨tS⟩
instance zJ:TF Tryz.prog 40 7 7:=⟨tT⟩
instance iB:TU Tryz.prog 51 (.slice 3):=⟨Tryz.underlying51⟩
instance ADE:TB Tryz.prog 61 (fun i=>(#[(0,1),(1,1)]:Array (Nat×Nat))[i]?) (List.replicate 2 (.int .i64 0)):=⟨x5,L5⟩
instance AES:TV Tryz.prog 61 (List.replicate 2 (.int .i64 0)):=⟨Ob,L5⟩
instance ABc:TA Tryz.prog 61:=⟨EI⟩
instance ADF:TZ Tryz.prog 61 2:=⟨B5⟩
instance zK:TF Tryz.prog 61 0 0:=⟨Pn⟩
instance zL:TF Tryz.prog 61 1 1:=⟨Po⟩
instance ABd:T1 Tryz.prog 71:=⟨x6⟩
instance ADG:TZ Tryz.prog 71 1:=⟨ACa⟩
instance ABe:T1 Tryz.prog 75:=⟨x7⟩
instance iC:TU Tryz.prog 75 (.slice 141):=⟨Tryz.underlying75⟩
instance ABf:TA Tryz.prog 77:=⟨Gn⟩
instance ADH:TZ Tryz.prog 77 3:=⟨KQ⟩
instance zM:TF Tryz.prog 77 0 0:=⟨gL⟩
instance zN:TF Tryz.prog 77 1 1:=⟨TJ⟩
instance zO:TF Tryz.prog 77 2 2:=⟨tV⟩
instance ADI:TB Tryz.prog 81 (fun i=>(#[(0,1),(1,1)]:Array (Nat×Nat))[i]?) (List.replicate 2 (.int .i64 0)):=⟨tW,EB⟩
instance AET:TV Tryz.prog 81 (List.replicate 2 (.int .i64 0)):=⟨JR,EB⟩
instance ABg:TA Tryz.prog 81:=⟨CL⟩
instance ADJ:TZ Tryz.prog 81 2:=⟨Dc⟩
instance zP:TF Tryz.prog 81 0 0:=⟨tX⟩
instance zQ:TF Tryz.prog 81 1 1:=⟨tY⟩
instance ABh:T1 Tryz.prog 82:=⟨x9⟩
instance ADK:TZ Tryz.prog 82 1:=⟨x8⟩
instance iD:TU Tryz.prog 82 (.slice 189):=⟨Tryz.underlying82⟩
instance ADL:TB Tryz.prog 84 (fun i=>(#[(0,2),(2,1),(3,1)]:Array (Nat×Nat))[i]?) [.int .i64 0,.int .i64 0,.int .i64 0,.slice none 0 0]:=⟨x_,TK⟩
instance ABi:TA Tryz.prog 84:=⟨Up⟩
instance ADM:TZ Tryz.prog 84 4:=⟨JS⟩
instance zR:TF Tryz.prog 84 0 0:=⟨tZ⟩
instance zS:TF Tryz.prog 84 1 2:=⟨td⟩
instance zT:TF Tryz.prog 84 2 3:=⟨gM⟩
instance ADN:TB Tryz.prog 86 (fun i=>(#[(0,1),(1,1),(2,1),(3,1),(4,4)]:Array (Nat×Nat))[i]?) [.int .i64 0,.int .i64 0,.int .i64 0,.int .i64 0,.int .i64 0,.int .i64 0,.int .i64 0,.slice none 0 0]:=⟨Wx,Gz⟩
instance ABj:TA Tryz.prog 86:=⟨CT⟩
instance ADO:TZ Tryz.prog 86 8:=⟨Be⟩
instance zU:TF Tryz.prog 86 0 0:=⟨tg⟩
instance zV:TF Tryz.prog 86 1 1:=⟨th⟩
instance zW:TF Tryz.prog 86 2 2:=⟨Wy⟩
instance zX:TF Tryz.prog 86 3 3:=⟨tj⟩
instance zY:TF Tryz.prog 86 4 4:=⟨gN⟩
instance ABk:TB Tryz.prog 104 (fun i=>(#[(0,1),(1,1)]:Array (Nat×Nat))[i]?) [.slice none 0 0,.int .i64 0]:=⟨yA,yB⟩
instance wN:TF Tryz.prog 104 0 0:=⟨nI⟩
instance wO:TF Tryz.prog 104 1 1:=⟨nJ⟩
instance zZ:T1 Tryz.prog 127:=⟨tq⟩
instance ABl:TZ Tryz.prog 127 1:=⟨rV⟩
instance eH:TU Tryz.prog 127 (.slice 9):=⟨Tryz.underlying127⟩
instance eI:TU Tryz.prog 128 (.slice 22):=⟨Tryz.underlying128⟩
instance ABm:TZ Tryz.prog 132 2:=⟨GL⟩
instance wP:TF Tryz.prog 132 0 0:=⟨nK⟩
instance wQ:TF Tryz.prog 132 1 1:=⟨nL⟩
instance za:T1 Tryz.prog 133:=⟨tu⟩
instance eJ:TU Tryz.prog 133 (.slice 198):=⟨Tryz.underlying133⟩
instance ABn:TB Tryz.prog 135 (fun i=>(#[(0,1),(1,1),(2,1),(3,1),(4,1)]:Array (Nat×Nat))[i]?) [.string (ByteArray.mk #[]),.int .i64 0,.int .i64 0,.slice none 0 0,.int .i64 0]:=⟨yE,gO⟩
instance ze:TA Tryz.prog 135:=⟨TN⟩
instance ABo:TZ Tryz.prog 135 5:=⟨Iz⟩
instance wR:TF Tryz.prog 135 0 0:=⟨nM⟩
instance wS:TF Tryz.prog 135 1 1:=⟨nN⟩
instance wT:TF Tryz.prog 135 2 2:=⟨nO⟩
instance wU:TF Tryz.prog 135 3 3:=⟨ZV⟩
instance wV:TF Tryz.prog 135 4 4:=⟨nP⟩
instance ABp:TB Tryz.prog 139 (fun i=>(#[(0,1),(1,1)]:Array (Nat×Nat))[i]?) (List.replicate 2 (.int .i64 0)):=⟨yF,yG⟩
instance wW:TF Tryz.prog 139 0 0:=⟨nQ⟩
instance wX:TF Tryz.prog 139 1 1:=⟨nR⟩
instance ABq:TB Tryz.prog 141 (fun i=>(#[(0,2),(2,1)]:Array (Nat×Nat))[i]?) [.int .i64 0,.int .i64 0,.slice none 0 0]:=⟨yI,Nk⟩
instance ABr:TZ Tryz.prog 141 3:=⟨EW⟩
instance wY:TF Tryz.prog 141 0 0:=⟨nS⟩
instance wZ:TF Tryz.prog 141 1 2:=⟨nT⟩
instance eK:TU Tryz.prog 143 (.slice 81):=⟨Tryz.underlying143⟩
instance zf:T1 Tryz.prog 160:=⟨tv⟩
instance zg:T1 Tryz.prog 181:=⟨Fe⟩
instance zh:TA Tryz.prog 187:=⟨tw⟩
instance ABs:TZ Tryz.prog 187 2:=⟨gP⟩
instance we:TF Tryz.prog 187 0 0:=⟨nU⟩
instance wg:TF Tryz.prog 187 1 1:=⟨nV⟩
instance ADP:TV Tryz.prog 189 [.int .i64 0,.string (ByteArray.mk #[]),.string (ByteArray.mk #[]),.int .i64 0,.int .i64 0,.int .i64 0,.int .i64 0,.int .i64 0,.int .i64 0,.int .i64 0,.bool false,.int .i64 0,.slice none 0 0,.int .i64 0,.int .i64 0]:=⟨Pp,Kn⟩
instance zi:TA Tryz.prog 189:=⟨FM⟩
instance ABt:TZ Tryz.prog 189 15:=⟨C6⟩
instance wh:TF Tryz.prog 189 0 0:=⟨nW⟩
instance wj:TF Tryz.prog 189 1 1:=⟨nX⟩
instance uN:TF Tryz.prog 189 10 12:=⟨Ur⟩
instance uO:TF Tryz.prog 189 11 13:=⟨Pq⟩
instance wm:TF Tryz.prog 189 2 2:=⟨nY⟩
instance wo:TF Tryz.prog 189 3 3:=⟨nZ⟩
instance wq:TF Tryz.prog 189 4 5:=⟨ng⟩
instance wu:TF Tryz.prog 189 5 6:=⟨nh⟩
instance wv:TF Tryz.prog 189 6 8:=⟨nj⟩
instance wz:TF Tryz.prog 189 7 9:=⟨nk⟩
instance w4:TF Tryz.prog 189 8 10:=⟨nq⟩
instance w5:TF Tryz.prog 189 9 11:=⟨nr⟩
instance ABu:TB Tryz.prog 198 (fun i=>(#[(0,2),(2,1)]:Array (Nat×Nat))[i]?) (List.replicate 3 (.int .i64 0)):=⟨yP,gQ⟩
instance ADQ:TV Tryz.prog 198 (List.replicate 3 (.int .i64 0)):=⟨z198,gQ⟩
instance ABv:TZ Tryz.prog 198 3:=⟨HB⟩
instance w7:TF Tryz.prog 198 0 0:=⟨nu⟩
instance w8:TF Tryz.prog 198 1 2:=⟨nv⟩
instance zj:T1 Tryz.prog 204:=⟨uA⟩
instance ABw:TZ Tryz.prog 204 1:=⟨yQ⟩
instance zk:T1 Tryz.prog 232:=⟨JV⟩
instance eL:TU Tryz.prog 232 (.slice 181):=⟨Tryz.underlying232⟩
instance w9:TF Tryz.prog 234 0 0:=⟨nw⟩
instance w_:TF Tryz.prog 234 1 1:=⟨IU⟩
instance zl:T1 Tryz.prog 241:=⟨gR⟩
instance eM:TU Tryz.prog 241 (.slice 5):=⟨Tryz.underlying241⟩
instance ABx:TB Tryz.prog 247 (fun i=>(#[(0,1),(1,1),(2,2),(4,2),(6,2),(8,2),(10,1),(11,1)]:Array (Nat×Nat))[i]?) [.int .i64 0,.string (ByteArray.mk #[]),.int .i64 0,.int .i64 0,.int .i64 0,.int .i64 0,.int .i64 0,.int .i64 0,.int .i64 0,.int .i64 0,.int .i64 0,.int .i64 0]:=⟨ZX,L6⟩
instance zm:TA Tryz.prog 247:=⟨JW⟩
instance ABy:TZ Tryz.prog 247 12:=⟨GM⟩
instance zn:T1 Tryz.prog 283:=⟨TP⟩
instance ABz:TB Tryz.prog 285 (fun i=>(#[(0,1),(1,1),(2,1),(3,1)]:Array (Nat×Nat))[i]?) [.int .i64 0,.slice none 0 0,.bool false,.slice none 0 0]:=⟨gS,Ko⟩
instance zo:TA Tryz.prog 285:=⟨DD⟩
instance AB0:TZ Tryz.prog 285 4:=⟨CU⟩
instance xA:TF Tryz.prog 285 0 0:=⟨n5⟩
instance xB:TF Tryz.prog 285 1 1:=⟨TQ⟩
instance xC:TF Tryz.prog 285 2 2:=⟨n7⟩
instance xD:TF Tryz.prog 285 3 3:=⟨L7⟩
instance AB1:TB Tryz.prog 290 (fun i=>(#[(0,1),(1,1)]:Array (Nat×Nat))[i]?) [.string (ByteArray.mk #[]),.int .i64 0]:=⟨yW,rz⟩
instance ADR:TV Tryz.prog 290 [.string (ByteArray.mk #[]),.int .i64 0]:=⟨ACg,rz⟩
instance AB2:TZ Tryz.prog 290 2:=⟨ry⟩
instance xE:TF Tryz.prog 290 1 1:=⟨n8⟩
instance eN:TU Tryz.prog 291 (.slice 290):=⟨Tryz.underlying291⟩
instance AB3:TB Tryz.prog 300 (fun i=>some (i*8,8)) (List.replicate 256 (.int .i64 0)):=⟨yX,yY⟩
instance AB4:TB Tryz.prog 342 (fun i=>(#[(0,1),(1,1),(2,1),(3,1),(4,1)]:Array (Nat×Nat))[i]?) [.string (ByteArray.mk #[]),.int .i64 0,.int .i64 0,.slice none 0 0,.slice none 0 0]:=⟨EJ,Dp⟩
instance AB5:TZ Tryz.prog 342 5:=⟨Rh⟩
instance xF:TF Tryz.prog 342 1 1:=⟨n9⟩
instance xH:TF Tryz.prog 342 2 2:=⟨n_⟩
instance xI:TF Tryz.prog 342 3 3:=⟨oG⟩
instance xJ:TF Tryz.prog 342 4 4:=⟨oH⟩
instance AB6:TB Tryz.prog 356 (fun i=>some (i*5,5)) [.string (ByteArray.mk #[]),.int .i64 0,.int .i64 0,.slice none 0 0,.slice none 0 0,.string (ByteArray.mk #[]),.int .i64 0,.int .i64 0,.slice none 0 0,.slice none 0 0,.string (ByteArray.mk #[]),.int .i64 0,.int .i64 0,.slice none 0 0,.slice none 0 0,.string (ByteArray.mk #[]),.int .i64 0,.int .i64 0,.slice none 0 0,.slice none 0 0,.string (ByteArray.mk #[]),.int .i64 0,.int .i64 0,.slice none 0 0,.slice none 0 0,.string (ByteArray.mk #[]),.int .i64 0,.int .i64 0,.slice none 0 0,.slice none 0 0,.string (ByteArray.mk #[]),.int .i64 0,.int .i64 0,.slice none 0 0,.slice none 0 0,.string (ByteArray.mk #[]),.int .i64 0,.int .i64 0,.slice none 0 0,.slice none 0 0,.string (ByteArray.mk #[]),.int .i64 0,.int .i64 0,.slice none 0 0,.slice none 0 0,.string (ByteArray.mk #[]),.int .i64 0,.int .i64 0,.slice none 0 0,.slice none 0 0,.string (ByteArray.mk #[]),.int .i64 0,.int .i64 0,.slice none 0 0,.slice none 0 0,.string (ByteArray.mk #[]),.int .i64 0,.int .i64 0,.slice none 0 0,.slice none 0 0,.string (ByteArray.mk #[]),.int .i64 0,.int .i64 0,.slice none 0 0,.slice none 0 0,.string (ByteArray.mk #[]),.int .i64 0,.int .i64 0,.slice none 0 0,.slice none 0 0,.string (ByteArray.mk #[]),.int .i64 0,.int .i64 0,.slice none 0 0,.slice none 0 0,.string (ByteArray.mk #[]),.int .i64 0,.int .i64 0,.slice none 0 0,.slice none 0 0,.string (ByteArray.mk #[]),.int .i64 0,.int .i64 0,.slice none 0 0,.slice none 0 0,.string (ByteArray.mk #[]),.int .i64 0,.int .i64 0,.slice none 0 0,.slice none 0 0,.string (ByteArray.mk #[]),.int .i64 0,.int .i64 0,.slice none 0 0,.slice none 0 0,.string (ByteArray.mk #[]),.int .i64 0,.int .i64 0,.slice none 0 0,.slice none 0 0,.string (ByteArray.mk #[]),.int .i64 0,.int .i64 0,.slice none 0 0,.slice none 0 0,.string (ByteArray.mk #[]),.int .i64 0,.int .i64 0,.slice none 0 0,.slice none 0 0,.string (ByteArray.mk #[]),.int .i64 0,.int .i64 0,.slice none 0 0,.slice none 0 0]:=⟨yZ,r8⟩
instance AB7:TZ Tryz.prog 356 115:=⟨r7⟩
instance AB8:TB Tryz.prog 360 (fun i=>some (i*1,1)) (List.replicate 2 (.int .i64 0)):=⟨ya,r_⟩
instance AB9:TZ Tryz.prog 360 2:=⟨r9⟩
instance AB_:TB Tryz.prog 361 (fun i=>some (i*2,2)) (List.replicate 10 (.int .i64 0)):=⟨yc,yd⟩
end Go.Proofs.YtmocaapoeefgkaaGreatDoor
namespace Go.Proofs.YtmocaapoeefgkaaGreatDoor
open Go Go.RowKit Cp Go.Proofs.Tryz
abbrev ints (l:List Int):Pr:=slice 1 (l.map fun n=>[int n])
def idx {β:Type} (p:β→Bool) (l:List β):Int:=match l.findIdx? p with|some i=>i|none=> -1
theorem E8 {β:Type} {p:β→Bool} {l:List β} {k:Nat} {x:β} (hx:l[k]? =some x) (hp:p x=true) (h:∀j y,j<k→l[j]? =some y→p y=false):(k:Int)=idx p l:=by
 have:l.findIdx? p=some k:=by
  rw [List.findIdx?_eq_some_iff_getElem]
  have hk:k<l.length:=by rcases Nat.lt_or_ge k l.length with h|h;exact h;rw [List.getElem?_eq_none h] at hx;cases hx
  rw [List.getElem?_eq_getElem hk] at hx
  simp only [Option.some.injEq] at hx
  refine ⟨hk,by rw [hx];exact hp,fun j hj=> ?_⟩
  simpa using h j _ hj (List.getElem?_eq_getElem AA)
 unfold idx;rw [this]
theorem PI {β:Type} {p:β→Bool} {l:List β} (h:∀j y,j<l.length→l[j]? =some y→p y=false):(-1:Int)=idx p l:=by
 have:l.findIdx? p=none:=by
  rw [List.findIdx?_eq_none_iff]
  intro x hx
  obtain ⟨j,hj,rfl⟩:=List.mem_iff_getElem.1 hx
  exact h j _ hj (List.getElem?_eq_getElem hj)
 unfold idx;rw [this]
theorem Od {β:Type} (p:β→Bool) (l:List β):decide (idx p l≥0)=l.any p:=by
 unfold idx
 cases h:l.findIdx? p with
 |none=>rw [List.findIdx?_eq_none_iff] at h;simp;intro x hx;simpa using h x hx
 |some i=>
  rw [List.findIdx?_eq_some_iff_getElem] at h
  obtain ⟨h1,h2,_⟩:=h
  simp
  exact ⟨_,List.getElem_mem h1,h2⟩
theorem CJ {β:Type} {p:β→Bool} {l:List β} {k:Nat} {x:β} (hx:l[k]? =some x) (hp:p x=false) (h:∀j y,j<k→l[j]? =some y→p y=false):∀j y,j<k+1→l[j]? =some y→p y=false:=by
 intro j y hj hy
 by_cases hjk:j=k
 · subst hjk;rw [hx] at hy;cases hy;exact hp
 · exact h j y AA hy
theorem Th {l:List Int} {p:Int→Bool}  :BD prog 145 [ints l,OU prog (fun x:Int=>[int x]) (fun x=>bool (p x))] (int (idx p l)):=by
 refine fo func145 rfl ⟨rfl,rfl⟩ fun M0 w0=>(Tr.CM 0 rfl fun D4=> ?_)
 refine a2 ?_
 refine Tr.block (Tr.Ax _ (kk [7,1,0] rfl) (fun k:Nat=>[(8,int ((k:Nat):Int))]) (fun k:Nat=>k≤(l).length∧(∀j y,j<k→l[j]? =some y→p y=false)) (fun k:Nat=>(l).length-k) 0 (⟨Nat.zero_le _,fun j y hj=>absurd hj AA⟩) kz ?_)
 rintro k ⟨BK,AL⟩
 refine ac ?_
 refine Tr.seq ?_
 refine Tr.cn rfl ?_ ?_<;>intro h1 q1
 have Aa:k<(l).length:=AH h1
 obtain ⟨x,AX⟩:=at_ Aa
 · repeat' first|exact int_eq (E8 AX BC AL)|exact Fin.AM (k+1) ⟨⟨Aa,CJ AX BC AL⟩,by omega⟩ ⟨⟨_,rfl,AF k⟩,kz⟩|refine co rfl (AD rfl underlying22 Bg vq vq AA Bl) ?_|refine co rfl (GI rfl CX rfl) (co rfl (EO x rfl vq kz) ?_)|refine ac ?_|(refine Tr.cn rfl ?_ ?_<;>intro h q)
 have Az:k=(l).length:=by have:=AJ h1;omega
 subst Az
 refine a3 ?_
 · exact Lm
theorem DT {l:List Int} {p:Int→Bool}  :BD prog 84 [ints l,OU prog (fun x:Int=>[int x]) (fun x=>bool (p x))] (bool (l.any p)):=by
 refine fo func84 rfl ⟨rfl,rfl⟩ fun M0 w0=> ?_
 refine a2 ?_
 refine co rfl (C4 (Th) rfl rfl rfl) ?_
 refine a2 ?_
 · exact bool_eq (Od p l)
theorem U5 {l:List Int} {v:Int}  :BD prog 247 [ints l,int v] (int (idx (fun x=>v==x) l)):=by
 refine fo func247 rfl ⟨rfl,rfl⟩ fun M0 w0=>(Tr.CM 0 rfl fun D4=> ?_)
 refine a2 ?_
 refine Tr.block (Tr.Ax _ (kk [7,1,0] rfl) (fun k:Nat=>[(8,int ((k:Nat):Int))]) (fun k:Nat=>k≤(l).length∧(∀j y,j<k→l[j]? =some y→(v==y)=false)) (fun k:Nat=>(l).length-k) 0 (⟨Nat.zero_le _,fun j y hj=>absurd hj AA⟩) kz ?_)
 rintro k ⟨BK,AL⟩
 refine ac ?_
 refine Tr.seq ?_
 refine Tr.cn rfl ?_ ?_<;>intro h1 q1
 have Aa:k<(l).length:=AH h1
 obtain ⟨x,AX⟩:=at_ Aa
 · repeat' first|exact int_eq (E8 (p:=fun x=>v==x) AX BC AL)|exact Fin.AM (k+1) ⟨⟨Aa,CJ (p:=fun x=>v==x) AX BC AL⟩,by omega⟩ ⟨⟨_,rfl,AF k⟩,kz⟩|refine co rfl (AD rfl underlying22 Bg vq vq AA Bl) ?_|refine ac ?_|(refine Tr.cn rfl ?_ ?_<;>intro h q)
 have Az:k=(l).length:=by have:=AJ h1;omega
 subst Az
 refine a3 ?_
 · exact Lm
theorem HD {l:List Int} {v:Int}  :BD prog 205 [ints l,int v] (bool (l.any fun x=>v==x)):=by
 refine fo func205 rfl ⟨rfl,rfl⟩ fun M0 w0=> ?_
 refine a2 ?_
 refine co rfl (C4 (U5) rfl rfl rfl) ?_
 refine a2 ?_
 · exact bool_eq (Od _ l)
theorem iE {l:List Int} (hl:l.length≤1000000000):BR prog 131 [ints l] (ints l) (Bb) (As 3 1):=by
 refine BR.of func131 rfl rfl Al fun M0 w0 S rs M1 w1=> ?_
 refine a2 ?_
 refine co rfl (FJ rfl underlying22 vq) ?_
 refine ac ?_
 refine Tr.ex 4 rfl (fun z1=>Tr.fact 4 rfl fun G8=> ?_)
 refine Tr.cn rfl ?_ ?_<;>intro h1 q1
 refine ac ?_
 refine Tr.ret (Fin.AG (Fin.CB 3 1 (Fin.drop 1 ?_)))
 refine Fin.E7 rfl rfl ?_ (by rintro _ _ _ rfl;rfl)
 · (have hl0:l=[]:=(by simpa using G8 h1));subst hl0;exact Ai 1
 refine ac ?_
 refine ap ?_
 refine TO.pad ?_
 refine TO.Ef 0 rfl rfl AB (CN rfl rfl rfl rfl underlying22 Bg J_ z3 Gx vq (B_ BI vq)) (fun v1=> ?_)
 refine ap ?_
 refine Tr.ret (Fin.drop 1 ?_)
 refine Fin.E7 rfl rfl ?_ Ll
 · exact Pr.le_trans (A_ _ _) (Pr.le_of_eq AO)
end Go.Proofs.YtmocaapoeefgkaaGreatDoor
namespace Go.Proofs.YtmocaapoeefgkaaGreatDoor
open Go Go.RowKit Cp Go.ChangeShapes Go.WideShapes Go.ChangeAt Go.Proofs.Tryz
theorem ADS:ownKnob Tryz.prog.godebug=none:=by kernel_rfl
theorem iF:laidOutB Tryz.prog=true:=by kernel_rfl
theorem i64_in {n:Int} (h:(Lit.int .i64 n).wf=true):N9 n:=by
 simp only [Lit.wf,Bool.and_eq_true,decide_eq_true_eq] at h
 have h1:IntKind.i64.min= -9223372036854775808:=rfl
 have h2:IntKind.i64.max=9223372036854775807:=rfl
 unfold N9;omega
theorem P7 {P:Program} {t e:TypeId} (ht:P.underlying t=some (.slice e)) (he:P.underlying e=some (.int .i64)) (hc:P.cellsOf e=1):Iy P t (fun l:List Int=>l.length≤maxLen∧∀n∈l,N9 n) (fun l=>[ints l]):=
 (Nf ht hc (J7 he)).map id (fun _ h=>⟨h.2,fun n hn=>i64_in (h.1 n hn)⟩) (fun _=>rfl)
end Go.Proofs.YtmocaapoeefgkaaGreatDoor
namespace Go.Proofs.YtmocaapoeefgkaaGreatDoor
open Go Go.RowKit Cp Go.Proofs.Tryz
abbrev CG (b:Nat) (s:DS):An:=Pg 104 b s
theorem ou (n:Int) {k:Int} (hk:1≤k):(n.tmod k+k).tmod k=n % k:=by
 have h1: -k<n.tmod k:=by have:=Int.lt_tmod_of_pos n (b:=k) AA;omega
 rw [Int.tmod_eq_emod_of_nonneg AA,Int.tmod_def,show n-k*n.tdiv k+k=n+k*(1-n.tdiv k) by rw [Int.mul_sub];omega,Int.add_mul_emod_self_left]
theorem uP (n:Int) {k:Int} (hk:1≤k): -k<n.tmod k∧n.tmod k<k:=by
 have h1:=Int.lt_tmod_of_pos n (b:=k) AA
 have h2:=Int.tmod_lt_of_pos n (b:=k) AA
 omega
theorem ow {l:List Int}  :BD prog 10 [ints l] (bool (decide (l.length≤400))):=by
 refine fo func10 rfl ⟨rfl,rfl⟩ fun M0 w0=> ?_
 refine a3 ?_
 · exact ON
theorem zq {n k:Int} (hk:1≤k) (hk2:k≤1000000000):BD prog 68 [int n,int k] (int (n % k)):=by
 refine fo func68 rfl ⟨rfl,rfl⟩ fun M0 w0=> ?_
 have hm:=uP n hk
 have hp:=ou n hk
 · repeat' first|(exfalso;omega)|(refine int_eq ?_;exact hp)|refine co rfl (S1 rfl vq vq AA) ?_|refine ac ?_|(refine Tr.cn rfl ?_ ?_<;>intro h q)
theorem A8 {b:Nat} {s:DS} {n:Int} (hn:1≤n) (hn2:n≤1000000000):BR prog 16 [ptr b 0,int n] (int (s.val n)) (CG b s) (fun _=>CG b s.BV):=by
 refine BR.of func16 rfl rfl Al fun M0 w0 S rs M1 w1=> ?_
 have hs:=s.h
 have Za:=s.h2
 refine ac ?_
 refine an ?_ ?_<;>intro h1 q1
 refine ac ?_
 refine Tr.ret (Fin.AG ?_)
 rw [DS.nF (s:=s) AA]
 refine Fin.Cb [] rfl (A7.tmp rfl Lr) ?_ (fun _ _ _ _=>rfl)
 · refine int_eq ?_;exact (DS.nE AA n).symm
 have hlt:s.at_<s.l.length:=by omega
 obtain ⟨x,hx⟩:=at_ hlt
 refine ac ?_
 refine ap ?_
 refine wk [1,0] rfl ?_
 refine ac ?_
 refine co rfl (AD rfl underlying22 Bg vq vq AA (by rw [show ((s.at_:Nat):Int)+1-1=((s.at_:Nat):Int) by omega];exact Ac hx)) ?_
 refine ac ?_
 refine co rfl (C4 (zq AA AA) rfl rfl rfl) ?_
 refine ac ?_
 refine wk [4] rfl (Tr.ret ?_)
 rw [DS.tO hlt]
 refine Fin.Cb [] rfl (A7.tmp rfl Lr) ?_ (fun _ _ _ _=>rfl)
 · refine int_eq ?_;exact (DS.tN hx n).symm
theorem Kq {b:Nat} {s:DS} {l:List Int} (hl:l≠[]) (hl2:l.length≤1000000000):BR prog 34 [ptr b 0,ints l] (int (s.of l)) (CG b s) (fun _=>CG b s.BV):=by
 refine BR.of func34 rfl rfl Al fun M0 w0 S rs M1 w1=> ?_
 have hl0:1≤(l.length:Int):=by have:=List.length_pos_iff.2 hl;omega
 have hv:=s.Bi hl0
 obtain ⟨x,hx⟩:=at_ (l:=l) (k:=(s.val l.length).toNat) AA
 refine ac ?_
 refine ap ?_
 refine TO.EV 0 rfl rfl AB (AU rfl rfl AB rfl (A8 AA AA) ⟨kq,kz⟩) (tp rfl (AD rfl underlying22 Bg vq vq AA (Bt hx)) ?_)
 refine ap ?_
 refine Tr.ret (Fin.Cb [] rfl (A7.tmp rfl Lr) ?_ (fun _ _ _ _=>rfl))
 · refine int_eq ?_;unfold DS.of;rw [hx];rfl
theorem M7 {b:Nat} {s:DS} {n:Int} (hn:1≤n) (hn2:n≤1000000000):BR prog 39 [ptr b 0,int n] (bool (s.val n==n-1)) (CG b s) (fun _=>CG b s.BV):=by
 refine BR.of func39 rfl rfl Al fun M0 w0 S rs M1 w1=> ?_
 refine ac ?_
 refine ap ?_
 refine TO.EV 0 rfl rfl AB (AU rfl rfl AB rfl (A8 AA AA) ⟨kq,kz⟩) ?_
 refine ap ?_
 refine Tr.ret (Fin.Cb [] rfl (A7.tmp rfl Lr) ?_ (fun _ _ _ _=>rfl))
 · exact Lr
def ox (l:List Int) (hl:l.length≤1000000000) (v:Value):An:=match v with| .pointer (some a)=>Pg 104 a.block ⟨l,0,Nat.zero_le _,hl⟩|_=>Bb
theorem uQ {l:List Int} (hl:l.length≤1000000000):BR prog 12 [ints l] (ex fun b=>ptr b 0) (Bb) (ox l hl):=by
 refine BR.of func12 rfl rfl Al fun M0 w0 S rs M1 w1=> ?_
 refine ac ?_
 refine ap ?_
 refine TO.S6 rfl rfl AB rfl LD (fun b1=> ?_)
 refine ap ?_
 refine Tr.ret (Fin.drop 1 ?_)
 refine Fin.Cb [] rfl (A7.tmp rfl Lr) ?_ (by rintro _ _ _ rfl;rfl)
 · exact DA b1 Lr
-- no type cipherplan/api.Fact here
-- no type cipherplan/api.ACA here
-- no type cipherplan/AEU.place here
theorem sF {d:Nat} {w:World} {x0 y0:Int} {x1 y1:Int}:(Op.equalIn (d+2) 81 (.agg #[.int .i64 x0,.int .i64 x1]) (.agg #[.int .i64 y0,.int .i64 y1])).run Tryz.prog w= .ok (decide (x0=y0∧x1=y1)) w:=by
 have h:=eqS (w:=w) (d:=d+1) (xs:= #[.int .i64 x0,.int .i64 x1]) (ys:= #[.int .i64 y0,.int .i64 y1]) Tryz.underlying81 BS (Hr AB (DR CX rfl) (DR CX rfl) (KA (d:=d+0) Tryz.underlying3) (Hr AB (DR CX rfl) (DR CX rfl) (KA (d:=d+0) Tryz.underlying3) (TX)))
 refine h.trans (congrArg (fun b=>Result.ok b w) ?_)
 rw [Bool.eq_iff_iff];simp [and_assoc]
theorem MA {E:Env} {I:CS} {o:Oper} {u:TypeId} {x y:Operand} {x0 y0:Int} {x1 y1:Int} (ho:o.op= .binOp .eql 81 x y u) (hx:VL E x (agg [is (.int .i64 x0),is (.int .i64 x1)])) (hy:VL E y (agg [is (.int .i64 y0),is (.int .i64 y1)])):Ad Tryz.prog I o E (bool (decide (x0=y0∧x1=y1))):=
 Pv [.int .i64 x0,.int .i64 x1] [.int .i64 y0,.int .i64 y1] ho hx hy BS (fun w=>by rw [show Op.equal 81 _ _=Op.equalIn (9998+2) 81 _ _ from rfl];exact sF)
theorem Ti {E:Env} {I:CS} {o:Oper} {u:TypeId} {x y:Operand} {x0 y0:Int} {x1 y1:Int} (ho:o.op= .binOp .neq 81 x y u) (hx:VL E x (agg [is (.int .i64 x0),is (.int .i64 x1)])) (hy:VL E y (agg [is (.int .i64 y0),is (.int .i64 y1)])):Ad Tryz.prog I o E (bool (!decide (x0=y0∧x1=y1))):=
 Pw [.int .i64 x0,.int .i64 x1] [.int .i64 y0,.int .i64 y1] ho hx hy BS (fun w=>by rw [show Op.equal 81 _ _=Op.equalIn (9998+2) 81 _ _ from rfl];exact sF)
def JB (a b:Int):Int:=if a<b then -1 else if b<a then 1 else 0
def orF (l:List Int):Int:=(l.find? fun x=>x !=0).getD 0
theorem oy {l:List Int} {k:Nat} {x:Int} (hx:l[k]? =some x) (h0:¬x=0) (h:∀j y,j<k→l[j]? =some y→(y !=0)=false):x=orF l:=by
 unfold orF
 have:l.find? (fun x=>x !=0)=some x:=by
  rw [List.find?_eq_some_iff_getElem]
  have hk:k<l.length:=by rcases Nat.lt_or_ge k l.length with h|h;exact h;rw [List.getElem?_eq_none h] at hx;cases hx
  rw [List.getElem?_eq_getElem hk] at hx
  simp only [Option.some.injEq] at hx
  refine ⟨by simpa using h0,k,hk,hx,fun j hj=> ?_⟩
  have:=h j _ hj (List.getElem?_eq_getElem AA)
  simpa using this
 rw [this];rfl
theorem iG {l:List Int} (h:∀j y,j<l.length→l[j]? =some y→(y !=0)=false):0=orF l:=by
 unfold orF
 have:l.find? (fun x=>x !=0)=none:=by
  rw [List.find?_eq_none]
  intro x hx
  obtain ⟨j,hj,rfl⟩:=List.mem_iff_getElem.1 hx
  have:=h j _ hj (List.getElem?_eq_getElem hj)
  simpa using this
 rw [this];rfl
def okc (c:UInt8):Bool:=decide (33≤c.toNat∧c.toNat≤126)
def named (s:List UInt8):Bool:=s.all okc&&decide (1≤s.length∧s.length≤32)
theorem Ib {β:Type} {p:β→Bool} {l:List β} {k:Nat} {x:β} (hx:l[k]? =some x) (hp:p x=false):l.all p=false:=by
 rw [Bool.eq_false_iff];intro h;rw [List.all_eq_true] at h;rw [h x (List.mem_of_getElem? hx)] at hp;cases hp
theorem FO {β:Type} {p:β→Bool} {l:List β} (h:∀j y,j<l.length→l[j]? =some y→(!p y)=false):l.all p=true:=by
 rw [List.all_eq_true]
 intro y hy
 obtain ⟨j,hj⟩:=List.mem_iff_getElem?.1 hy
 have:=h j y fK hj
 simpa using this
theorem iH {n:Int}  :BD prog 166 [int n] (bool false):=by
 refine fo func166 rfl ⟨rfl,rfl⟩ fun M0 w0=> ?_
 refine a3 ?_
 · exact bool_eq AO
theorem XD {a b:Int}  :BD prog 115 [int a,int b] (int (JB a b)):=by
 refine fo func115 rfl ⟨rfl,rfl⟩ fun M0 w0=> ?_
 · repeat' first|exact absurd h AB|(refine int_eq ?_;unfold JB;(repeat split)<;>omega)|refine co rfl (C8 (iH) rfl rfl) ?_|refine ac ?_|(refine Tr.cn rfl ?_ ?_<;>intro h q)
theorem zu {l:List Int}  :BD prog 223 [ints l] (int (orF l)):=by
 refine fo func223 rfl ⟨rfl,rfl⟩ fun M0 w0=>(Tr.CM 0 rfl fun D4=> ?_)
 refine a3 ?_
 refine Tr.block (Tr.Ax _ (kk [7,6,3] rfl) (fun k:Nat=>[(8,int ((k:Nat):Int))]) (fun k:Nat=>k≤(l).length∧(∀j y,j<k→l[j]? =some y→(y !=0)=false)) (fun k:Nat=>(l).length-k) 0 (⟨Nat.zero_le _,fun j y hj=>absurd hj AA⟩) kz ?_)
 rintro k ⟨BK,AL⟩
 refine ac ?_
 refine Tr.seq ?_
 refine Tr.cn rfl ?_ ?_<;>intro h1 q1
 have Aa:k<(l).length:=AH h1
 obtain ⟨x,AX⟩:=at_ Aa
 refine ac ?_
 refine Tr.seq (Tr.block (Tr.seq (Tr.Ah (co rfl (AD rfl underlying22 Bg vq vq AA Bl) ?_))))
 · repeat' first|exact int_eq (oy AX BC AL)|exact Fin.AM (k+1) ⟨⟨Aa,CJ (p:=fun y=>y !=0) AX (by simpa using by assumption) AL⟩,by omega⟩ ⟨⟨_,rfl,AF k⟩,kz⟩|refine ac ?_|(refine Tr.cn rfl ?_ ?_<;>intro h q)
 have Az:k=(l).length:=by have:=AJ h1;omega
 subst Az
 refine a3 ?_
 · exact int_eq (iG AL)
theorem Oe {s:List UInt8} (hs:s.length≤maxLen):BD prog 239 [str s] (bool (named s)):=by
 refine fo func239 rfl ⟨rfl,rfl⟩ fun M0 w0=> ?_
 refine a2 ?_
 refine co rfl (Pu rfl underlying9 underlying241 underlying5 vq BC) ?_
 refine ac ?_
 refine Tr.block (Tr.CM 6 rfl fun hl6=>(Tr.Ax _ (kk [7,6,0] rfl) (fun k:Nat=>[(8,int ((k:Nat):Int))]) (fun k:Nat=>k≤(s).length∧(∀j y,j<k→s[j]? =some y→(!okc y)=false)) (fun k:Nat=>(s).length-k) 0 (⟨Nat.zero_le _,fun j y hj=>absurd hj AA⟩) kz ?_))
 rintro k ⟨BK,AL⟩
 refine ac ?_
 refine Tr.seq ?_
 refine Tr.cn rfl ?_ ?_<;>intro h1 q1
 have Aa:k<(s).length:=AH h1
 obtain ⟨c,AX⟩:=at_ Aa
 refine ac ?_
 refine Tr.seq (Tr.block (Tr.seq (Tr.Ah (co rfl (AD rfl underlying241 LY vq vq AA Bl) ?_))))
 · repeat' first|(refine bool_eq ?_;unfold named;rw [Ib (p:=okc) AX OP];rfl)|(exact Fin.AM (k+1) ⟨⟨Aa,CJ (p:=fun c=> !okc c) AX OP AL⟩,by omega⟩ ⟨⟨_,rfl,AF k⟩,kz⟩)|refine ac ?_|(refine Tr.cn rfl ?_ ?_<;>intro h q)|(refine Ch.cg rfl rfl rfl ?_ ?_<;>intro h q)
 have Az:k=(s).length:=by have:=AJ h1;omega
 subst Az
 · repeat' first|(refine bool_eq ?_;unfold named;rw [FO AL,Bool.true_and];rw [decide_eq_decide];omega)|(refine bool_eq ?_;unfold named;rw [FO AL,Bool.true_and];(symm;rw [decide_eq_false_iff_not];omega))|refine ac ?_|(refine Ch.cg rfl rfl rfl ?_ ?_<;>intro h q)
theorem GX {s:List UInt8}  :BD prog 196 [str s] (bool (named s)):=by
 refine fo func196 rfl ⟨rfl,rfl⟩ fun M0 w0=> ?_
 refine ac ?_
 refine ag ?_ ?_<;>intro h1 q1
 refine a3 ?_
 · exact Ys
 refine an ?_ ?_<;>intro h2 q2
 refine a2 ?_
 · exact Ys
 refine a2 ?_
 refine Tr.block (Tr.Ax _ (kk [0] rfl) (fun k:Nat=>[(3,int ((k:Nat):Int))]) (fun k:Nat=>k≤(s).length∧(∀j y,j<k→s[j]? =some y→(!okc y)=false)) (fun k:Nat=>(s).length-k) 0 (⟨Nat.zero_le _,fun j y hj=>absurd hj AA⟩) kz ?_)
 rintro k ⟨BK,AL⟩
 refine an ?_ ?_<;>intro h3 q3
 have Aa:k<(s).length:=AH h3
 obtain ⟨c,AX⟩:=at_ Aa
 · repeat' first|(refine bool_eq ?_;unfold named;rw [Ib (p:=okc) AX OP];rfl)|(exact Fin.AM (k+1) ⟨⟨Aa,CJ (p:=fun c=> !okc c) AX OP AL⟩,by omega⟩ ⟨⟨_,rfl,AF k⟩,kz⟩)|refine co rfl (TS rfl underlying9 vq vq AA (TT BC)) ?_|refine cy h rfl (TS rfl underlying9 vq vq AA (TT BC)) ?_|refine ac ?_|(refine Tr.cn rfl ?_ ?_<;>intro h q)|(refine Ch.cg rfl rfl rfl ?_ ?_<;>intro h q)
 have Az:k=(s).length:=by have:=AJ h3;omega
 subst Az
 refine a3 ?_
 · refine bool_eq ?_;unfold named;rw [FO AL,Bool.true_and];symm;rw [decide_eq_true_eq];omega
structure Tj where
 name:List UInt8
 kind:Int
 way:Int
 sizes:List Int
 Fh:List Int
abbrev uR (r:Tj):List Pr:=[str r.name,int r.kind,int r.way,ints r.sizes,ints r.Fh]
def Gq:List Tj:=[⟨[],0,0,[],[]⟩,⟨[109,100,53],1,0,[],[18]⟩,⟨[115,104,97,49],1,0,[],[60]⟩,⟨[115,104,97,50,53,54],1,0,[],[128]⟩,⟨[115,104,97,51,56,52],1,0,[],[192]⟩,⟨[114,115,97],2,1,[],[]⟩,⟨[100,115,97],2,1,[],[]⟩,⟨[101,99,100,115,97],2,2,[],[]⟩,⟨[101,100,50,53,53,49,57],2,0,[],[128]⟩,⟨[109,108,100,115,97],2,3,[44,65,87],[128,192,256]⟩,⟨[114,115,97,107,120],3,1,[],[]⟩,⟨[100,104,101],3,1,[],[]⟩,⟨[101,99,100,104,101],3,2,[],[]⟩,⟨[109,108,107,101,109],3,3,[512,768,1024],[128,192,256]⟩,⟨[114,99,52],4,3,[40,128],[40,60]⟩,⟨[100,101,115,51],4,3,[112,168],[80,112]⟩,⟨[97,101,115,99,98,99],4,3,[128,256],[128,256]⟩,⟨[97,101,115,103,99,109],4,3,[128,256],[128,256]⟩,⟨[99,104,97,99,104,97],4,0,[],[256]⟩,⟨[104,109,97,99,109,100,53],5,0,[],[64]⟩,⟨[104,109,97,99,115,104,97,49],5,0,[],[80]⟩,⟨[104,109,97,99,115,104,97,50,53,54],5,0,[],[128]⟩,⟨[97,101,97,100],5,0,[],[256]⟩]
def Zb:Tj:=⟨[],0,0,[],[]⟩
def Dh (Bh:Int):Tj:=if 1≤Bh∧Bh≤22 then (Gq[Bh.toNat]?).getD Zb else Zb
theorem JZ {Bh:Int} (h:1≤Bh∧Bh≤22):Gq[Bh.toNat]? =some (Dh Bh):=by
 have hl:Bh.toNat<Gq.length:=by show Bh.toNat<23;omega
 unfold Dh;rw [if_pos h,List.getElem?_eq_getElem hl];rfl
theorem P8 {β:Type} {f:β→List Pr} {sz:Nat} (hf:∀x,(f x).length=sz):∀{l:List β} {i:Nat} {x:β},l[i]? =some x→((l.flatMap f).drop (i*sz)).take sz=f x
 |[],_,_,h=>by simp at h
 |a::l,0,x,h=>by
  simp at h;subst h
  rw [List.flatMap_cons,Nat.zero_mul,List.drop_zero,List.take_append_of_le_length (by rw [hf];exact Nat.le_refl _),List.take_of_length_le (by rw [hf];exact Nat.le_refl _)]
 |a::l,i+1,x,h=>by
  rw [List.flatMap_cons,Nat.succ_mul,Nat.add_comm,←List.drop_drop,List.drop_left' (hf a)]
  exact P8 hf DM
theorem drop_cons {β:Type} {l:List β} {k:Nat} {x:β} (h:l[k]? =some x):l.drop k=x::l.drop (k+1):=by
 have hk:k<l.length:=by rcases Nat.lt_or_ge k l.length with h'|h';exact h';rw [List.getElem?_eq_none h'] at h;cases h
 rw [List.drop_eq_getElem_cons hk]
 rw [List.getElem?_eq_getElem hk] at h
 simp at h;rw [h]
def mods:List (Int×Int):=[(1024,56),(2048,80),(3072,112),(7680,128),(15360,192)]
def uS:List (Int×Int)→Int→Int
 |[],_=>256
 |p::l,b=>if b<p.1 then p.2 else uS l b
def iI (b:Int):Int:=uS mods b
theorem uT   :BD prog 308 [] (agg (Gq.flatMap uR)):=by
 refine fo func308 rfl ⟨rfl,rfl⟩ fun M0 w0=>(Tr.seq (Tr.A0 ?_))
 refine Tl rfl rfl rfl rfl ACh r8 (fun b1=> ?_)
 refine ap ?_
 refine ap ?_
 refine tp rfl (Ar (rows:=[(0,[_]),(1,[_]),(2,[_]),(3,[_]),(4,[_])]) rfl EJ Dp ⟨⟨rfl,DK⟩,⟨⟨rfl,DK⟩,⟨⟨rfl,DK⟩,⟨⟨rfl,⟨_,rfl,Pr.le_trans (Ai 1) (AP _)⟩⟩,⟨⟨rfl,⟨_,rfl,Pr.le_trans (BA _ _) (AP _)⟩⟩,trivial⟩⟩⟩⟩⟩ rfl) (tp rfl (oI) ?_)
 refine tp rfl (Ar (rows:=[(0,[_]),(1,[_]),(2,[_]),(3,[_]),(4,[_])]) rfl EJ Dp ⟨⟨rfl,DK⟩,⟨⟨rfl,DK⟩,⟨⟨rfl,DK⟩,⟨⟨rfl,⟨_,rfl,Pr.le_trans (Ai 1) (AP _)⟩⟩,⟨⟨rfl,⟨_,rfl,Pr.le_trans (BA _ _) (AP _)⟩⟩,trivial⟩⟩⟩⟩⟩ rfl) (tp rfl (oI) ?_)
 refine tp rfl (Ar (rows:=[(0,[_]),(1,[_]),(2,[_]),(3,[_]),(4,[_])]) rfl EJ Dp ⟨⟨rfl,DK⟩,⟨⟨rfl,DK⟩,⟨⟨rfl,DK⟩,⟨⟨rfl,⟨_,rfl,Pr.le_trans (Ai 1) (AP _)⟩⟩,⟨⟨rfl,⟨_,rfl,Pr.le_trans (BA _ _) (AP _)⟩⟩,trivial⟩⟩⟩⟩⟩ rfl) (tp rfl (oI) ?_)
 refine tp rfl (Ar (rows:=[(0,[_]),(1,[_]),(2,[_]),(3,[_]),(4,[_])]) rfl EJ Dp ⟨⟨rfl,DK⟩,⟨⟨rfl,DK⟩,⟨⟨rfl,DK⟩,⟨⟨rfl,⟨_,rfl,Pr.le_trans (Ai 1) (AP _)⟩⟩,⟨⟨rfl,⟨_,rfl,Pr.le_trans (BA _ _) (AP _)⟩⟩,trivial⟩⟩⟩⟩⟩ rfl) (tp rfl (Ar (rows:=[(0,[_]),(1,[_]),(2,[_]),(3,[_]),(4,[_])]) rfl EJ Dp ⟨⟨rfl,DK⟩,⟨⟨rfl,DK⟩,⟨⟨rfl,DK⟩,⟨⟨rfl,⟨_,rfl,Pr.le_trans (Ai 1) (AP _)⟩⟩,⟨⟨rfl,⟨_,rfl,Pr.le_trans (Ai 1) (AP _)⟩⟩,trivial⟩⟩⟩⟩⟩ rfl) (tp rfl (Ar (rows:=[(0,[_]),(1,[_]),(2,[_]),(3,[_]),(4,[_])]) rfl EJ Dp ⟨⟨rfl,DK⟩,⟨⟨rfl,DK⟩,⟨⟨rfl,DK⟩,⟨⟨rfl,⟨_,rfl,Pr.le_trans (Ai 1) (AP _)⟩⟩,⟨⟨rfl,⟨_,rfl,Pr.le_trans (Ai 1) (AP _)⟩⟩,trivial⟩⟩⟩⟩⟩ rfl) (tp rfl (Ar (rows:=[(0,[_]),(1,[_]),(2,[_]),(3,[_]),(4,[_])]) rfl EJ Dp ⟨⟨rfl,DK⟩,⟨⟨rfl,DK⟩,⟨⟨rfl,DK⟩,⟨⟨rfl,⟨_,rfl,Pr.le_trans (Ai 1) (AP _)⟩⟩,⟨⟨rfl,⟨_,rfl,Pr.le_trans (Ai 1) (AP _)⟩⟩,trivial⟩⟩⟩⟩⟩ rfl) (tp rfl (oI) ?_))))
 refine tp rfl (Ar (rows:=[(0,[_]),(1,[_]),(2,[_]),(3,[_]),(4,[_])]) rfl EJ Dp ⟨⟨rfl,DK⟩,⟨⟨rfl,DK⟩,⟨⟨rfl,DK⟩,⟨⟨rfl,⟨_,rfl,Pr.le_trans (Ai 1) (AP _)⟩⟩,⟨⟨rfl,⟨_,rfl,Pr.le_trans (BA _ _) (AP _)⟩⟩,trivial⟩⟩⟩⟩⟩ rfl) ?_
 refine ap ?_
 refine tp rfl (Ar (rows:=[(0,[_]),(1,[_]),(2,[_]),(3,[_]),(4,[_])]) rfl EJ Dp ⟨⟨rfl,DK⟩,⟨⟨rfl,DK⟩,⟨⟨rfl,DK⟩,⟨⟨rfl,⟨_,rfl,Pr.le_trans (BA _ _) (AP _)⟩⟩,⟨⟨rfl,⟨_,rfl,Pr.le_trans (BA _ _) (AP _)⟩⟩,trivial⟩⟩⟩⟩⟩ rfl) (tp rfl (Ar (rows:=[(0,[_]),(1,[_]),(2,[_]),(3,[_]),(4,[_])]) rfl EJ Dp ⟨⟨rfl,DK⟩,⟨⟨rfl,DK⟩,⟨⟨rfl,DK⟩,⟨⟨rfl,⟨_,rfl,Pr.le_trans (Ai 1) (AP _)⟩⟩,⟨⟨rfl,⟨_,rfl,Pr.le_trans (Ai 1) (AP _)⟩⟩,trivial⟩⟩⟩⟩⟩ rfl) (tp rfl (Ar (rows:=[(0,[_]),(1,[_]),(2,[_]),(3,[_]),(4,[_])]) rfl EJ Dp ⟨⟨rfl,DK⟩,⟨⟨rfl,DK⟩,⟨⟨rfl,DK⟩,⟨⟨rfl,⟨_,rfl,Pr.le_trans (Ai 1) (AP _)⟩⟩,⟨⟨rfl,⟨_,rfl,Pr.le_trans (Ai 1) (AP _)⟩⟩,trivial⟩⟩⟩⟩⟩ rfl) (tp rfl (Ar (rows:=[(0,[_]),(1,[_]),(2,[_]),(3,[_]),(4,[_])]) rfl EJ Dp ⟨⟨rfl,DK⟩,⟨⟨rfl,DK⟩,⟨⟨rfl,DK⟩,⟨⟨rfl,⟨_,rfl,Pr.le_trans (Ai 1) (AP _)⟩⟩,⟨⟨rfl,⟨_,rfl,Pr.le_trans (Ai 1) (AP _)⟩⟩,trivial⟩⟩⟩⟩⟩ rfl) ?_)))
 refine ap ?_
 refine tp rfl (Ar (rows:=[(0,[_]),(1,[_]),(2,[_]),(3,[_]),(4,[_])]) rfl EJ Dp ⟨⟨rfl,DK⟩,⟨⟨rfl,DK⟩,⟨⟨rfl,DK⟩,⟨⟨rfl,⟨_,rfl,Pr.le_trans (BA _ _) (AP _)⟩⟩,⟨⟨rfl,⟨_,rfl,Pr.le_trans (BA _ _) (AP _)⟩⟩,trivial⟩⟩⟩⟩⟩ rfl) ?_
 refine ap ?_
 refine tp rfl (Ar (rows:=[(0,[_]),(1,[_]),(2,[_]),(3,[_]),(4,[_])]) rfl EJ Dp ⟨⟨rfl,DK⟩,⟨⟨rfl,DK⟩,⟨⟨rfl,DK⟩,⟨⟨rfl,⟨_,rfl,Pr.le_trans (BA _ _) (AP _)⟩⟩,⟨⟨rfl,⟨_,rfl,Pr.le_trans (BA _ _) (AP _)⟩⟩,trivial⟩⟩⟩⟩⟩ rfl) ?_
 refine ap ?_
 refine tp rfl (Ar (rows:=[(0,[_]),(1,[_]),(2,[_]),(3,[_]),(4,[_])]) rfl EJ Dp ⟨⟨rfl,DK⟩,⟨⟨rfl,DK⟩,⟨⟨rfl,DK⟩,⟨⟨rfl,⟨_,rfl,Pr.le_trans (BA _ _) (AP _)⟩⟩,⟨⟨rfl,⟨_,rfl,Pr.le_trans (BA _ _) (AP _)⟩⟩,trivial⟩⟩⟩⟩⟩ rfl) ?_
 refine ap ?_
 refine tp rfl (Ar (rows:=[(0,[_]),(1,[_]),(2,[_]),(3,[_]),(4,[_])]) rfl EJ Dp ⟨⟨rfl,DK⟩,⟨⟨rfl,DK⟩,⟨⟨rfl,DK⟩,⟨⟨rfl,⟨_,rfl,Pr.le_trans (BA _ _) (AP _)⟩⟩,⟨⟨rfl,⟨_,rfl,Pr.le_trans (BA _ _) (AP _)⟩⟩,trivial⟩⟩⟩⟩⟩ rfl) ?_
 refine ap ?_
 refine tp rfl (Ar (rows:=[(0,[_]),(1,[_]),(2,[_]),(3,[_]),(4,[_])]) rfl EJ Dp ⟨⟨rfl,DK⟩,⟨⟨rfl,DK⟩,⟨⟨rfl,DK⟩,⟨⟨rfl,⟨_,rfl,Pr.le_trans (BA _ _) (AP _)⟩⟩,⟨⟨rfl,⟨_,rfl,Pr.le_trans (BA _ _) (AP _)⟩⟩,trivial⟩⟩⟩⟩⟩ rfl) (tp rfl (oI) ?_)
 refine tp rfl (Ar (rows:=[(0,[_]),(1,[_]),(2,[_]),(3,[_]),(4,[_])]) rfl EJ Dp ⟨⟨rfl,DK⟩,⟨⟨rfl,DK⟩,⟨⟨rfl,DK⟩,⟨⟨rfl,⟨_,rfl,Pr.le_trans (Ai 1) (AP _)⟩⟩,⟨⟨rfl,⟨_,rfl,Pr.le_trans (BA _ _) (AP _)⟩⟩,trivial⟩⟩⟩⟩⟩ rfl) (tp rfl (oI) ?_)
 refine tp rfl (Ar (rows:=[(0,[_]),(1,[_]),(2,[_]),(3,[_]),(4,[_])]) rfl EJ Dp ⟨⟨rfl,DK⟩,⟨⟨rfl,DK⟩,⟨⟨rfl,DK⟩,⟨⟨rfl,⟨_,rfl,Pr.le_trans (Ai 1) (AP _)⟩⟩,⟨⟨rfl,⟨_,rfl,Pr.le_trans (BA _ _) (AP _)⟩⟩,trivial⟩⟩⟩⟩⟩ rfl) (tp rfl (oI) ?_)
 refine tp rfl (Ar (rows:=[(0,[_]),(1,[_]),(2,[_]),(3,[_]),(4,[_])]) rfl EJ Dp ⟨⟨rfl,DK⟩,⟨⟨rfl,DK⟩,⟨⟨rfl,DK⟩,⟨⟨rfl,⟨_,rfl,Pr.le_trans (Ai 1) (AP _)⟩⟩,⟨⟨rfl,⟨_,rfl,Pr.le_trans (BA _ _) (AP _)⟩⟩,trivial⟩⟩⟩⟩⟩ rfl) (tp rfl (oI) ?_)
 refine tp rfl (Ar (rows:=[(0,[_]),(1,[_]),(2,[_]),(3,[_]),(4,[_])]) rfl EJ Dp ⟨⟨rfl,DK⟩,⟨⟨rfl,DK⟩,⟨⟨rfl,DK⟩,⟨⟨rfl,⟨_,rfl,Pr.le_trans (Ai 1) (AP _)⟩⟩,⟨⟨rfl,⟨_,rfl,Pr.le_trans (BA _ _) (AP _)⟩⟩,trivial⟩⟩⟩⟩⟩ rfl) (tp rfl (oI) ?_)
 refine tp rfl (Ar (rows:=[(0,[_]),(1,[_]),(2,[_]),(3,[_]),(4,[_])]) rfl EJ Dp ⟨⟨rfl,DK⟩,⟨⟨rfl,DK⟩,⟨⟨rfl,DK⟩,⟨⟨rfl,⟨_,rfl,Pr.le_trans (Ai 1) (AP _)⟩⟩,⟨⟨rfl,⟨_,rfl,Pr.le_trans (BA _ _) (AP _)⟩⟩,trivial⟩⟩⟩⟩⟩ rfl) ?_
 refine ap ?_
 refine wk [0] rfl (Tr.ret (Fin.Dn rfl (A7.cell 0 rfl rfl uC r7 rfl Lr) ?_))
 · exact Bv ⟨Lr,Lr,Lr,Ai 1,Ai 1,Lr,Lr,Lr,Lr,Lr,Lr,Lr,Lr,Lr,Lr,Lr,Lr,Lr,Lr,Lr,Lr,Lr,Lr,Lr,Lr,Lr,Lr,Lr,Lr,Lr,Lr,Lr,Lr,Lr,Lr,Lr,Lr,Lr,Lr,Lr,Lr,Lr,Lr,Lr,Lr,Lr,Lr,Lr,Lr,Lr,Lr,Lr,Lr,Lr,Lr,Lr,Lr,Lr,Lr,Lr,Lr,Lr,Lr,Lr,Lr,Lr,Lr,Lr,Lr,Lr,Lr,Lr,Lr,Lr,Lr,Lr,Lr,Lr,Lr,Lr,Lr,Lr,Lr,Lr,Lr,Lr,Lr,Lr,Lr,Lr,Lr,Lr,Lr,Lr,Lr,Lr,Lr,Lr,Lr,Lr,Lr,Lr,Lr,Lr,Lr,Lr,Lr,Lr,Lr,Lr,Lr,Lr,Lr,Lr,Lr,trivial⟩
theorem zv {Bh:Int}  :BD prog 294 [int Bh] (F8 [agg (uR (Dh Bh)),bool (decide (1≤Bh∧Bh≤22))]):=by
 refine fo func294 rfl ⟨rfl,rfl⟩ fun M0 w0=>(Tr.seq (Tr.A0 ?_))
 refine Tl rfl rfl rfl rfl uB Dp (fun b1=> ?_)
 refine ap ?_
 refine ag ?_ ?_<;>intro h1 q1
 refine ac ?_
 refine Tr.cond rfl (fun _=> ?_) (fun h=>nomatch h)
 refine Tr.seq (Tr.A0 (tp rfl (Ar (rows:=[]) rfl EJ Dp trivial rfl) (TO.Aj 0 rfl rfl rfl vq LD rfl Rh rfl rfl (tm rfl (TO.nil (Fin.go (Tr.ret (Fin.AG (Fin.GJ rfl (A7.cell 0 rfl rfl TR Rh rfl Lr) (A7.tmp rfl Lr) ?_)))))))))
 · exact ec
 refine an ?_ ?_<;>intro h2 q2
 refine ap ?_
 refine Tr.ret (Fin.AG (Fin.GJ rfl (A7.cell 0 rfl rfl TR Rh rfl Lr) (A7.tmp rfl Lr) ?_))
 · exact ec
 have hin:1≤Bh∧Bh≤22:=by omega
 refine ac ?_
 refine Tr.seq (Tr.A0 (tp rfl (kc0 (uT) rfl) (tm rfl (tp rfl (Uu rfl underlying356 TR Rh vq vq AA AA (P8 (f:=uR) (fun _=>rfl) (JZ hin))) ?_))))
 refine ap ?_
 refine Tr.ret (Fin.GJ rfl (A7.cell 0 rfl rfl TR Rh rfl Lr) (A7.tmp rfl Lr) ?_)
 · exact DB ⟨Lr,bool_eq (by symm;rw [decide_eq_true_eq];exact hin),trivial⟩
theorem XE {Bh:Int}  :BD prog 273 [int Bh] (int (Dh Bh).kind):=by
 refine fo func273 rfl ⟨rfl,rfl⟩ fun M0 w0=> ?_
 refine ac ?_
 refine ao ?_
 refine tp rfl (C8 (zv) rfl rfl) ?_
 refine ao ?_
 refine Tl rfl rfl rfl rfl uB Dp (fun b1=> ?_)
 refine sf 0 3 ⟨rfl,rfl,rfl⟩ rfl rfl rfl rfl ?_
 refine ao ?_
 refine a2 ?_
 · exact Lr
theorem bY {b:Int}  :BD prog 296 [int b] (int (iI b)):=by
 refine fo func296 rfl ⟨rfl,rfl⟩ fun M0 w0=> ?_
 have hml:mods.length=5:=rfl
 refine a2 ?_
 refine Tr.block (Tr.re 10 rfl (Pr.le_of_eq (show _=agg (mods.flatMap fun p=>[int p.1,int p.2]) from rfl)) (Tr.Ax _ (kk [10,0] rfl) (fun k:Nat=>[(11,int ((k:Nat):Int))]) (fun k:Nat=>k≤(mods).length∧(iI b=uS (mods.drop k) b)) (fun k:Nat=>(mods).length-k) 0 (⟨Nat.zero_le _,rfl⟩) kz ?_))
 rintro k ⟨BK,AL⟩
 refine ac ?_
 refine Tr.seq ?_
 refine Tr.cn rfl ?_ ?_<;>intro h1 q1
 have Aa:k<(mods).length:=AH h1
 obtain ⟨p,AX⟩:=at_ Aa
 have hL:k<5:=Aa
 have hdr:=drop_cons AX
 refine ac ?_
 refine Tr.seq (Tr.block (Tr.seq (Tr.A0 (tp rfl (Uu rfl underlying361 uD r9 vq vq AA AA (P8 (f:=fun p:Int×Int=>[int p.1,int p.2]) (fun _=>rfl) AX)) ?_))))
 refine Tl rfl rfl rfl rfl ACi r_ (fun b1=> ?_)
 refine sf 0 4 ⟨rfl,rfl,rfl⟩ rfl rfl rfl rfl ?_
 refine ao ?_
 refine ac ?_
 refine co rfl (E6 rfl underlying360 Bg vq vq AA AA rfl) (co rfl (IK rfl CX vq rfl) ?_)
 refine an ?_ ?_<;>intro h2 q2
 refine Tr.seq (Tr.Ah (co rfl (E6 rfl underlying360 Bg vq vq AA AA rfl) (co rfl (IK rfl CX vq rfl) ?_)))
 refine ac ?_
 refine wk [2] rfl ?_
 refine ac ?_
 · refine int_eq ?_;rw [AL,hdr];exact (if_pos AA).symm
 refine a2 ?_
 exact Fin.AM (k+1) ⟨⟨Aa,(by rw [AL,hdr];exact if_neg AA)⟩,by omega⟩ ⟨⟨_,rfl,AF k⟩,kz⟩
 have Az:k=(mods).length:=by have:=AJ h1;omega
 subst Az
 refine a3 ?_
 · refine int_eq ?_;rw [AL,List.drop_length];rfl
def UU:List Int:=[160,224,256,384,521]
def Bs (Bh bits:Int):Int:=
 if 1 ≤ Bh ∧ Bh ≤ 22 then
  if (Dh Bh).way=0 then (if bits=0 then ((Dh Bh).Fh[0]?).getD 0 else 0)
  else if (Dh Bh).way=1 then (if 512≤bits∧bits≤16384 then iI bits else 0)
  else if (Dh Bh).way=2 then (if (UU.any fun x=>bits==x)=true then bits.tdiv 2 else 0)
  else if (Dh Bh).way=3 then (if 0≤idx (fun x=>bits==x) (Dh Bh).sizes then ((Dh Bh).Fh[(idx (fun x=>bits==x) (Dh Bh).sizes).toNat]?).getD 0 else 0)
  else 0
 else 0
theorem XF {Bh:Int} (h:1≤Bh∧Bh≤22):Dh Bh∈Gq.tail:=by
 have h1:=JZ h
 refine List.mem_of_getElem? (i:=Bh.toNat-1) ?_
 rw [List.getElem?_tail,show Bh.toNat-1+1=Bh.toNat by omega];exact h1
theorem uU:∀r∈Gq.tail,(r.way=0→1≤r.Fh.length)∧(r.way=3→r.sizes.length≤r.Fh.length):=by decide
theorem uV {β:Type} (p:β→Bool) (l:List β):idx p l<l.length:=by
 unfold idx
 cases h:l.findIdx? p with
 |none=>simp;omega
 |some i=>rw [List.findIdx?_eq_some_iff_getElem] at h;obtain ⟨h1,_⟩:=h;simp;omega
theorem XG {Bh bits:Int}  :BD prog 275 [agg [int Bh,int bits]] (int (Bs Bh bits)):=by
 refine fo func275 rfl ⟨rfl,rfl⟩ fun M0 w0=> ?_
 refine ac ?_
 refine ao ?_
 refine tp rfl (C8 (zv) rfl rfl) ?_
 refine ao ?_
 refine Tl rfl rfl rfl rfl uB Dp (fun b1=> ?_)
 refine sf 0 3 ⟨rfl,rfl,rfl⟩ rfl rfl rfl rfl ?_
 refine ao ?_
 refine ac ?_
 refine wk [13,3,1] rfl ?_
 refine Tr.cn rfl ?_ ?_<;>intro h1 q1
 refine a2 ?_
 · refine int_eq ?_;unfold Bs;rw [if_neg (by intro hh;simp [hh] at h1)]
 have hin:1≤Bh∧Bh≤22:=by simpa using h1
 obtain ⟨hc0,hc3⟩:=uU _ (XF hin)
 refine a2 ?_
 refine an ?_ ?_<;>intro h2 q2
 refine an ?_ ?_<;>intro h3 q3
 obtain ⟨z,hz⟩:=at_ (l:=(Dh Bh).Fh) (k:=0) (hc0 AA)
 refine ac ?_
 refine co rfl (AD rfl underlying22 Bg vq vq AA (Ac (k:=0) hz)) ?_
 refine ac ?_
 refine wk [2] rfl ?_
 refine ac ?_
 · refine int_eq ?_;unfold Bs;rw [if_pos hin,if_pos AA,if_pos AA,hz];rfl
 refine a3 ?_
 · refine int_eq ?_;unfold Bs;rw [if_pos hin,if_pos AA,if_neg AA]
 refine an ?_ ?_<;>intro h4 q4
 · repeat' first|(refine int_eq ?_;unfold Bs;rw [if_pos hin,if_neg AA,if_pos AA,if_pos AA])|(refine int_eq ?_;unfold Bs;rw [if_pos hin,if_neg AA,if_pos AA,if_neg AA])|refine co rfl (C8 (bY) rfl rfl) ?_|refine ac ?_|(refine Tr.cn rfl ?_ ?_<;>intro h q)|(refine Ch.cg rfl rfl rfl ?_ ?_<;>intro h q)
 refine an ?_ ?_<;>intro h7 q7
 refine ac ?_
 refine co rfl (AZ rfl (HD (l:=UU)) ⟨Gx,kz⟩) ?_
 refine ac ?_
 refine wk [43,1] rfl ?_
 refine Tr.cn rfl ?_ ?_<;>intro h8 q8
 have hb:bits=160∨bits=224∨bits=256∨bits=384∨bits=521:=by simpa [UU] using h8
 refine ac ?_
 refine co rfl (SP rfl vq vq AA) ?_
 refine a2 ?_
 · refine int_eq ?_;unfold Bs;rw [if_pos hin,if_neg AA,if_neg AA,if_pos AA,if_pos BC];rcases hb with h|h|h|h|h<;>rw [h]<;>rfl
 refine a3 ?_
 · refine int_eq ?_;unfold Bs;rw [if_pos hin,if_neg AA,if_neg AA,if_pos AA,if_neg (Aw BC)]
 refine an ?_ ?_<;>intro h9 q9
 refine ac ?_
 refine co rfl (C4 (U5) rfl rfl rfl) ?_
 refine ac ?_
 refine wk [5,3] rfl ?_
 refine an ?_ ?_<;>intro h10 Q2
 have hlt:=uV (fun x=>bits==x) (Dh Bh).sizes
 obtain ⟨z,hz⟩:=at_ (l:=(Dh Bh).Fh) (k:=(idx (fun x=>bits==x) (Dh Bh).sizes).toNat) (by have:=hc3 AA;omega)
 refine ac ?_
 refine co rfl (AD rfl underlying22 Bg vq vq AA (Bt hz)) ?_
 refine a2 ?_
 · refine int_eq ?_;unfold Bs;rw [if_pos hin,if_neg AA,if_neg AA,if_neg AA,if_pos AA,if_pos BC,hz];rfl
 refine a3 ?_
 · refine int_eq ?_;unfold Bs;rw [if_pos hin,if_neg AA,if_neg AA,if_neg AA,if_pos AA,if_neg AA]
 refine a2 ?_
 refine wk [2] rfl ?_
 refine ac ?_
 · refine int_eq ?_;unfold Bs;rw [if_pos hin,if_neg AA,if_neg AA,if_neg AA,if_neg AA]
theorem Tk {Bh bits:Int}  :BD prog 240 [agg [int Bh,int bits]] (bool (decide (Bs Bh bits>0))):=by
 refine fo func240 rfl ⟨rfl,rfl⟩ fun M0 w0=> ?_
 refine a2 ?_
 refine co rfl (C8 (XG) rfl rfl) ?_
 refine a2 ?_
 · exact Lr
def Ja (b:Int) (l m:List Int):Int:=if 0≤idx (fun x=>b==x) l then (m[(idx (fun x=>b==x) l).toNat]?).getD 0 else 0
theorem bZ {b:Int} {l m:List Int} {k:Nat} {x z:Int} (hx:l[k]? =some x) (he:x=b) (hz:m[k]? =some z) (h:∀j y,j<k→l[j]? =some y→(b==y)=false):z=Ja b l m:=by
 have:=E8 (p:=fun x=>b==x) hx (by simp [he]) h
 unfold Ja;rw [←this,if_pos AA,Int.toNat_natCast,hz];rfl
theorem XH {b:Int} {l m:List Int} (h:∀j y,j<l.length→l[j]? =some y→(b==y)=false):0=Ja b l m:=by
 have:=PI (p:=fun x=>b==x) h
 unfold Ja;rw [←this,if_neg AA]
def GR (Bh:Int):Int:=if Bh=1 then 18 else if Bh=2 then 60 else if Bh=3∨Bh=8∨Bh=21 then 128 else if Bh=4 then 192 else if Bh=18∨Bh=22 then 256 else if Bh=19 then 64 else if Bh=20 then 80 else 0
def NQ (b:Int):Int:=if b<512∨b>16384 then 0 else if b<1024 then 56 else if b<2048 then 80 else if b<3072 then 112 else if b<7680 then 128 else if b<15360 then 192 else 256
theorem iJ (b:Int):NQ b=if 512≤b∧b≤16384 then iI b else 0:=by
 have h1:iI b=if b<1024 then 56 else if b<2048 then 80 else if b<3072 then 112 else if b<7680 then 128 else if b<15360 then 192 else 256:=rfl
 rw [h1];unfold NQ
 by_cases h:512≤b∧b≤16384
 · rw [if_pos h,if_neg AA]
 · rw [if_neg h,if_pos AA]
theorem Ic {b:Int} {l m:List Int} (hl:l.length≤m.length):BD prog 269 [int b,ints l,ints m] (int (Ja b l m)):=by
 refine fo func269 rfl ⟨rfl,rfl⟩ fun M0 w0=>(Tr.CM 1 rfl fun Fz=> ?_)
 refine a2 ?_
 refine Tr.block (Tr.Ax _ (kk [2,1,0] rfl) (fun k:Nat=>[(7,int ((k:Nat):Int))]) (fun k:Nat=>k≤(l).length∧(∀j y,j<k→l[j]? =some y→(b==y)=false)) (fun k:Nat=>(l).length-k) 0 (⟨Nat.zero_le _,fun j y hj=>absurd hj AA⟩) kz ?_)
 rintro k ⟨BK,AL⟩
 refine an ?_ ?_<;>intro h1 q1
 have Aa:k<(l).length:=AH h1
 obtain ⟨x,AX⟩:=at_ Aa
 obtain ⟨z,hz⟩:=at_ (l:=m) (k:=k) AA
 · repeat' first|exact int_eq (bZ AX BC hz AL)|(exact Fin.AM (k+1) ⟨⟨Aa,CJ (p:=fun x=>b==x) AX B1 AL⟩,by omega⟩ ⟨⟨_,rfl,AF k⟩,kz⟩)|refine co rfl (AD rfl underlying22 Bg vq vq AA Bl) ?_|refine ac ?_|(refine Tr.cn rfl ?_ ?_<;>intro h q)
 have Az:k=(l).length:=by have:=AJ h1;omega
 subst Az
 refine a3 ?_
 · exact int_eq (XH AL)
theorem iK {Bh:Int}  :BD prog 270 [int Bh] (int (GR Bh)):=by
 refine fo func270 rfl ⟨rfl,rfl⟩ fun M0 w0=> ?_
 refine a2 ?_
 refine an ?_ ?_<;>intro h1 q1
 refine a2 ?_
 · refine int_eq ?_;unfold GR;(repeat (rw [if_pos AA]))
 refine an ?_ ?_<;>intro h2 q2
 refine a2 ?_
 · exact Mf
 refine an ?_ ?_<;>intro h3 q3
 refine ac ?_
 refine Tr.cond rfl (fun _=> ?_) (fun h=>nomatch h3.symm.trans h)
 refine a2 ?_
 · exact Mf
 refine an ?_ ?_<;>intro h4 q4
 refine ac ?_
 refine Tr.cond rfl (fun _=> ?_) (fun h=>nomatch h4.symm.trans h)
 refine a2 ?_
 · exact Mf
 refine an ?_ ?_<;>intro h5 q5
 refine a2 ?_
 · exact Mf
 refine ac ?_
 refine wk [12,3] rfl ?_
 refine Tr.cn rfl ?_ ?_<;>intro h6 q6
 refine a2 ?_
 · exact Mf
 refine an ?_ ?_<;>intro h7 q7
 refine ac ?_
 refine Tr.cond rfl (fun _=> ?_) (fun h=>nomatch h7.symm.trans h)
 refine a2 ?_
 · exact Mf
 · repeat' first|(refine int_eq ?_;unfold GR;(repeat (first|rw [if_pos AA]|rw [if_neg AA])))|(refine int_eq ?_;unfold GR;(repeat (rw [if_neg AA])))|refine ac ?_|(refine Tr.cn rfl ?_ ?_<;>intro h q)
theorem Ie {b:Int}  :BD prog 268 [int b] (int (NQ b)):=by
 refine fo func268 rfl ⟨rfl,rfl⟩ fun M0 w0=> ?_
 refine ac ?_
 refine ac ?_
 refine Ch.cs 6 rfl ?_ ?_<;>intro h1 q1
 refine ac ?_
 refine ac ?_
 refine ac ?_
 · refine int_eq ?_;unfold NQ;(repeat (rw [if_pos AA]))
 refine ac ?_
 refine Tr.cn rfl ?_ ?_<;>intro h2 q2
 refine ac ?_
 refine ac ?_
 · refine int_eq ?_;unfold NQ;(repeat (rw [if_pos AA]))
 refine ac ?_
 refine Tr.cn rfl ?_ ?_<;>intro h3 q3
 refine ac ?_
 refine ac ?_
 · exact O6
 refine ac ?_
 refine Ki 0 13 rfl ?_
 refine Tr.cn rfl ?_ ?_<;>intro h4 q4
 refine ac ?_
 refine ac ?_
 · exact O6
 refine ac ?_
 refine Tr.cn rfl ?_ ?_<;>intro h5 q5
 refine ac ?_
 refine ac ?_
 · exact O6
 refine ac ?_
 refine Tr.cn rfl ?_ ?_<;>intro h6 q6
 refine ac ?_
 refine ac ?_
 · exact O6
 refine ac ?_
 refine Tr.cn rfl ?_ ?_<;>intro h7 q7
 refine ac ?_
 refine ac ?_
 · exact O6
 refine ac ?_
 refine ac ?_
 refine ac ?_
 · refine int_eq ?_;unfold NQ;(repeat (rw [if_neg AA]))
theorem oz (b c:Int):Ja b [0] [c]=if b=0 then c else 0:=by
 unfold Ja idx
 by_cases h:b=0
 · subst h;rfl
 ·
  have:List.findIdx? (fun x=>b==x) [0]=none:=by simp [h]
  rw [this,if_neg h];rfl
theorem Si {Bh b:Int} (h:Bh=5∨Bh=6∨Bh=10∨Bh=11):NQ b=Bs Bh b:=by
 rw [iJ]
 rcases h with rfl|rfl|rfl|rfl<;>rfl
theorem RE {Bh b:Int} (h:¬(Bh=5∨Bh=6∨Bh=7∨Bh=9∨Bh=10∨Bh=11∨Bh=12∨Bh=13∨Bh=14∨Bh=15∨Bh=16∨Bh=17)):Ja b [0] [GR Bh]=Bs Bh b:=by
 rw [oz]
 by_cases hin:1≤Bh∧Bh≤22
 ·
  have ha:Bh=1∨Bh=2∨Bh=3∨Bh=4∨Bh=8∨Bh=18∨Bh=19∨Bh=20∨Bh=21∨Bh=22:=by omega
  rcases ha with rfl|rfl|rfl|rfl|rfl|rfl|rfl|rfl|rfl|rfl<;>rfl
 ·
  have h1:GR Bh=0:=by unfold GR;(repeat (first|rw [if_pos AA]|rw [if_neg AA]))
  unfold Bs
  rw [h1,if_neg hin];split<;>rfl
theorem Lc {Bh b:Int} (h:Bh=7∨Bh=12):Bs Bh b=if (UU.any fun x=>b==x)=true then b.tdiv 2 else 0:=by
 rcases h with rfl|rfl<;>rfl
theorem U6 {Bh bits:Int}  :BD prog 229 [agg [int Bh,int bits]] (int (Bs Bh bits)):=by
 refine fo func229 rfl ⟨rfl,rfl⟩ fun M0 w0=> ?_
 iterate 4 refine ac ?_
 refine Tr.cn rfl ?_ ?_<;>intro h1 q1
 refine ac ?_
 refine Tr.cond rfl (fun _=> ?_) (fun h=>nomatch h1.symm.trans h)
 refine ac ?_
 refine co rfl (C8 (Ie) rfl rfl) ?_
 refine a2 ?_
 · exact OL
 refine an ?_ ?_<;>intro h2 q2
 refine ac ?_
 refine Tr.cond rfl (fun _=> ?_) (fun h=>nomatch h2.symm.trans h)
 refine ac ?_
 refine co rfl (C8 (Ie) rfl rfl) ?_
 refine ac ?_
 refine wk [2] rfl ?_
 refine ac ?_
 · exact OL
 refine an ?_ ?_<;>intro h3 q3
 refine ac ?_
 refine Tr.cond rfl (fun _=> ?_) (fun h=>nomatch h3.symm.trans h)
 refine ac ?_
 refine co rfl (C8 (Ie) rfl rfl) ?_
 refine ac ?_
 refine wk [2] rfl ?_
 refine ac ?_
 · exact OL
 refine ac ?_
 refine wk [8,7,3,1] rfl ?_
 refine Tr.cn rfl ?_ ?_<;>intro h4 q4
 refine ac ?_
 refine co rfl (C8 (Ie) rfl rfl) ?_
 refine a2 ?_
 · exact OL
 refine an ?_ ?_<;>intro h5 q5
 refine ac ?_
 refine Tr.cond rfl (fun _=> ?_) (fun h=>nomatch h5.symm.trans h)
 · exact eV
 refine an ?_ ?_<;>intro h11 U7
 · exact eV
 refine an ?_ ?_<;>intro Nj mX
 refine ac ?_
 refine co rfl (AZ rfl (Ic (l:=[44,65,87]) (m:=[128,192,256]) AO) ⟨kq,Gx,Gx,trivial⟩) ?_
 refine ac ?_
 refine wk [2] rfl ?_
 refine ac ?_
 · refine int_eq ?_;have ha:Bh=9:=AA;rcases ha with rfl<;>rfl
 refine an ?_ ?_<;>intro Oa q18
 refine ac ?_
 refine co rfl (AZ rfl (Ic (l:=[512,768,1024]) (m:=[128,192,256]) AO) ⟨kq,Gx,Gx,trivial⟩) ?_
 refine ac ?_
 refine wk [2] rfl ?_
 refine ac ?_
 · refine int_eq ?_;have ha:Bh=13:=AA;rcases ha with rfl<;>rfl
 refine ac ?_
 refine wk [50,7,3,1] rfl ?_
 refine Tr.cn rfl ?_ ?_<;>intro WE q19
 refine ac ?_
 refine co rfl (AZ rfl (Ic (l:=[40,128]) (m:=[40,60]) AO) ⟨kq,Gx,Gx,trivial⟩) ?_
 refine a2 ?_
 · refine int_eq ?_;have ha:Bh=14:=AA;rcases ha with rfl<;>rfl
 refine an ?_ ?_<;>intro MY q20
 refine ac ?_
 refine co rfl (AZ rfl (Ic (l:=[112,168]) (m:=[80,112]) AO) ⟨kq,Gx,Gx,trivial⟩) ?_
 refine a2 ?_
 · refine int_eq ?_;have ha:Bh=15:=AA;rcases ha with rfl<;>rfl
 refine an ?_ ?_<;>intro RF q21
 refine ac ?_
 refine Tr.cond rfl (fun _=> ?_) (fun h=>nomatch RF.symm.trans h)
 refine ac ?_
 refine co rfl (AZ rfl (Ic (l:=[128,256]) (m:=[128,256]) AO) ⟨kq,Gx,Gx,trivial⟩) ?_
 refine a2 ?_
 · refine int_eq ?_;have ha:Bh=16∨Bh=17:=AA;rcases ha with rfl|rfl<;>rfl
 · repeat' first|(refine int_eq ?_;have ha:Bh=16∨Bh=17:=AA;rcases ha with rfl|rfl<;>rfl)|(refine int_eq ?_;exact RE AA)|refine co rfl (AZ rfl (Ic (l:=[128,256]) (m:=[128,256]) AO) ⟨kq,Gx,Gx,trivial⟩) ?_|refine co rfl (C8 (iK) rfl rfl) (co rfl (AQ (xs:=[.tmp 73]) (rows:=[[_]]) rfl rfl underlying22 Bg z3 rfl AB ⟨⟨Ab,DK⟩,trivial⟩ AB) ?_)|refine co rfl (AZ rfl (Ic (l:=[0]) (m:=[GR Bh]) AO) ⟨kq,Gx,Gx,trivial⟩) ?_|refine ac ?_|(refine Tr.cn rfl ?_ ?_<;>intro h q)
theorem MB {Bh bits:Int}  :BD prog 197 [agg [int Bh,int bits]] (bool (decide (Bs Bh bits>0))):=by
 refine fo func197 rfl ⟨rfl,rfl⟩ fun M0 w0=> ?_
 refine a2 ?_
 refine co rfl (C8 (U6) rfl rfl) ?_
 refine a2 ?_
 · exact Lr
def uW:List (List UInt8×Int):=Gq.map fun r=>(r.name,r.kind)
theorem o9 {Bh:Int} (h:1≤Bh∧Bh≤22):uW[Bh.toNat]? =some ((Dh Bh).name,(Dh Bh).kind):=by
 unfold uW;rw [List.getElem?_map,JZ h];rfl
theorem o_   :BD prog 228 [] (slice 2 (uW.map fun r=>[str r.1,int r.2])):=by
 refine fo func228 rfl ⟨rfl,rfl⟩ fun M0 w0=> ?_
 refine a2 ?_
 refine wk [0] rfl ?_
 refine ac ?_
 · exact BA _ _
theorem Of {Bh:Int}  :BD prog 195 [int Bh] (int (Dh Bh).kind):=by
 refine fo func195 rfl ⟨rfl,rfl⟩ fun M0 w0=> ?_
 refine ac ?_
 refine ag ?_ ?_<;>intro h1 q1
 refine a3 ?_
 · refine int_eq ?_;unfold Dh;rw [if_neg AA];rfl
 refine an ?_ ?_<;>intro h2 q2
 refine a2 ?_
 · refine int_eq ?_;unfold Dh;rw [if_neg AA];rfl
 have hin:1≤Bh∧Bh≤22:=by omega
 refine ac ?_
 refine Tr.seq (Tr.Ah (co rfl (kc0 (o_) rfl) (cm rfl (co rfl (AD rfl underlying291 ry vq vq AA (Bt (f:=fun r:List UInt8×Int=>[str r.1,int r.2]) (o9 hin))) ?_))))
 refine a2 ?_
 · exact Lr
theorem Jb {Bh bits:Int}  :BD prog 224 [agg [int Bh,int bits]] (bool (decide (Bs Bh bits>0)&&(Dh Bh).kind==2)):=by
 refine fo func224 rfl ⟨rfl,rfl⟩ fun M0 w0=> ?_
 refine ac ?_
 refine ac ?_
 refine co rfl (C8 (MB) rfl rfl) (cm rfl ?_)
 refine Ch.cs 5 rfl ?_ ?_<;>intro h1 q1
 refine ac ?_
 refine cy h1 rfl (C8 (Of) rfl rfl) ?_
 refine ac ?_
 refine ac ?_
 · refine bool_eq ?_;simp_all
 refine ac ?_
 refine ac ?_
 · exact ON
structure HR where
 Jc:Int
 LF:List UInt8
 Ig:List UInt8
 RG:Int
 Kr:Int
 El:Int
 XI:Int
 P9:Int
 from_:Int
 to_:Int
 auth:Bool
 path:Int
 names:List (List UInt8)
 pE:Int
 pF:Int
abbrev bf (l:List (List UInt8)):Pr:=slice 1 (l.map fun t=>[str t])
abbrev DF (c:HR):List Pr:=[int c.Jc,str c.LF,str c.Ig,int c.RG,int c.Kr,int c.El,int c.XI,int c.P9,int c.from_,int c.to_,bool c.auth,int c.path,bf c.names,int c.pE,int c.pF]
abbrev Nv (l:List HR):Pr:=slice 15 (l.map DF)
structure HR.fits (c:HR):Prop where
 LF:c.LF.length≤maxLen
 Ig:c.Ig.length≤maxLen
 names:∀s∈c.names,s.length≤maxLen
def Fw (n:Int):Bool:=decide (0≤n)&&decide (n≤2147483648)
def bg (n:Int):Bool:=decide (0≤n)&&decide (n<4294967296)
def Es (o:List UInt8) (c:UInt8):Bool:=decide (97≤c.toNat∧c.toNat≤122)||decide (65≤c.toNat∧c.toNat≤90)||decide (48≤c.toNat∧c.toNat≤57)||decide (0≤Lib.indexByte o c)
def JK (s:List UInt8):Bool:=s.all (Es [45,95,46])&&decide (1≤s.length∧s.length≤32)
def nameAt (l:List (List UInt8)) (i:Nat):Bool:=named (l[i]?.getD [])&&(decide (i=0)||decide (Lib.compareBytes (l[i-1]?.getD []) (l[i]?.getD [])= -1))
def E3 (l:List (List UInt8)):Bool:=allI (nameAt l) l.length&&decide (l.length≤8)
def HY (Bh bits kind:Int):Bool:=decide (Bs Bh bits>0)&&(Dh Bh).kind==kind
def Cr (c:HR):Bool:=
 (decide (0≤c.Jc)&&decide (c.Jc≤1099511627776)&&named c.LF&&named c.Ig&&E3 c.names)&&
 (HY c.RG c.Kr 2&&Fw c.El&&HY c.XI c.P9 1&&Fw c.pE&&bg c.pF)&&
 (decide (0≤c.from_)&&decide (c.from_≤c.to_)&&decide (c.to_≤40000))&&(decide (0≤c.path)&&decide (c.path≤8)&&(c.auth||c.path==0))
def P_ (Bh bits id:Int) (l:List HR):Bool:=HY Bh bits 2&&Fw id&&decide (l.length≤8)&&l.all Cr&&match l with|[]=>true|c::_=>decide (c.RG=Bh∧c.Kr=bits)&&c.El==id
structure U8 where
 Bh:Int
 bits:Int
 El:Int
 chain:List HR
abbrev Ks (x:U8):List Pr:=[int x.Bh,int x.bits,int x.El,Nv x.chain]
abbrev ADT (l:List U8):Pr:=slice 4 (l.map Ks)
def U8.fits (x:U8):Prop:=∀c∈x.chain,c.fits
structure E4 where
 name:List UInt8
 least:Int
 most:Int
 B6:List Int
 own:Bool
 ids:List U8
 anchors:List Int
 hashes:List Int
 ADU:Bool
abbrev Dq (e:E4):List Pr:=[str e.name,int e.least,int e.most,ints e.B6,bool e.own,ADT e.ids,ints e.anchors,ints e.hashes,bool e.ADU]
structure E4.fits (e:E4):Prop where
 name:e.name.length≤maxLen
 ids:∀x∈e.ids,x.fits
def GN (l:List Int) (i:Nat):Bool:=decide (i=0)||decide (l[i-1]?.getD 0<l[i]?.getD 0)
def XJ (l:List Int):Bool:=allI (GN l) l.length
def EG (l:List Int) (i:Nat):Bool:=decide (1≤l[i]?.getD 0∧l[i]?.getD 0≤16)&& !((l.take i).any fun x=>l[i]?.getD 0==x)
def Fq (l:List Int):Bool:=allI (EG l) l.length
def Jd (n:Int):Bool:=(Dh n).kind==1
def bh (x:U8):Bool:=P_ x.Bh x.bits x.El x.chain
def PG (e:E4):Bool:=
 (JK e.name&&decide (1≤e.least)&&decide (e.least≤e.most)&&decide (e.most≤4)&&Fq e.B6)&&
 (decide (e.ids.length≤4)&&decide (e.anchors.length≤16)&&XJ e.anchors&&XJ e.hashes)&&e.ids.all bh&&e.anchors.all Fw&&e.hashes.all Jd
theorem Zc {β:Type} (p:β→Bool) (l:List β):(l.any fun x=> !p x)= !l.all p:=by
 induction l with
 |nil=>rfl
 |cons a l ih=>rw [List.any_cons,List.all_cons,ih];cases p a<;>rfl
theorem getD_at {β:Type} {l:List β} {k:Nat} {x d:β} (h:l[k]? =some x):l[k]?.getD d=x:=by rw [h];rfl
theorem uX {s:List UInt8} {c:UInt8}  :BD prog 306 [str s,is (.int .u8 ((c.toNat:Nat):Int))] (int (Lib.indexByte s c)):=by
 refine fo func306 rfl ⟨rfl,rfl⟩ fun M0 w0=> ?_
 refine a2 ?_
 refine co rfl (XB rfl func318 BS BS BS BS vq vq) ?_
 refine a2 ?_
 · exact Lr
theorem UW {s:List UInt8} {c:UInt8}  :BD prog 292 [str s,is (.int .u8 ((c.toNat:Nat):Int))] (int (Lib.indexByte s c)):=by
 refine fo func292 rfl ⟨rfl,rfl⟩ fun M0 w0=> ?_
 refine a2 ?_
 refine co rfl (C4 (uX) rfl rfl rfl) ?_
 refine a2 ?_
 · exact Lr
theorem iL {o:List UInt8} {c:UInt8}  :BD prog 271 [is (.int .u8 ((c.toNat:Nat):Int)),str o] (bool (Es o c)):=by
 refine fo func271 rfl ⟨rfl,rfl⟩ fun M0 w0=> ?_
 refine ac ?_
 refine ag ?_ ?_<;>intro h1 q1
 refine ag ?_ ?_<;>intro h2 q2
 refine ac ?_
 refine wk [4] rfl ?_
 refine ac ?_
 · exact Kx
 refine ag ?_ ?_<;>intro h3 q3
 refine ag ?_ ?_<;>intro h4 q4
 refine ac ?_
 refine wk [4] rfl ?_
 refine ac ?_
 · exact Kx
 refine ag ?_ ?_<;>intro h5 q5
 · exact SQ
 refine ac ?_
 refine cy rfl rfl (C4 (UW) rfl rfl rfl) ?_
 refine ac ?_
 refine wk [4] rfl ?_
 refine ac ?_
 · exact Kx
 refine ag ?_ ?_<;>intro h7 q7
 · exact SQ
 refine ac ?_
 refine cy rfl rfl (C4 (UW) rfl rfl rfl) ?_
 refine ac ?_
 refine wk [4] rfl ?_
 refine ac ?_
 · exact Kx
 refine ag ?_ ?_<;>intro h9 q9
 refine ag ?_ ?_<;>intro h10 Q2
 refine ac ?_
 refine wk [4] rfl ?_
 refine ac ?_
 · exact Kx
 refine ag ?_ ?_<;>intro h11 U7
 · exact SQ
 refine ac ?_
 refine cy rfl rfl (C4 (UW) rfl rfl rfl) ?_
 refine ac ?_
 refine wk [4] rfl ?_
 refine ac ?_
 · exact Kx
 refine ag ?_ ?_<;>intro L4 XK
 · exact SQ
 refine ac ?_
 refine cy rfl rfl (C4 (UW) rfl rfl rfl) ?_
 refine ac ?_
 refine wk [4] rfl ?_
 refine ac ?_
 · exact Kx
theorem uY {s:List UInt8} (hs:s.length≤maxLen):BD prog 230 [str s] (bool (JK s)):=by
 refine fo func230 rfl ⟨rfl,rfl⟩ fun M0 w0=> ?_
 refine a2 ?_
 refine co rfl (Pu rfl underlying9 underlying241 underlying5 vq BC) ?_
 refine ac ?_
 refine Tr.block (Tr.CM 6 rfl fun hl6=>(Tr.Ax _ (kk [7,6,0] rfl) (fun k:Nat=>[(8,int ((k:Nat):Int))]) (fun k:Nat=>k≤(s).length∧(∀j y,j<k→s[j]? =some y→(!Es [45,95,46] y)=false)) (fun k:Nat=>(s).length-k) 0 (⟨Nat.zero_le _,fun j y hj=>absurd hj AA⟩) kz ?_))
 rintro k ⟨BK,AL⟩
 refine ac ?_
 refine Tr.seq ?_
 refine Tr.cn rfl ?_ ?_<;>intro h1 q1
 have Aa:k<(s).length:=AH h1
 obtain ⟨c,AX⟩:=at_ Aa
 refine ac ?_
 refine Tr.seq (Tr.block (Tr.seq (Tr.Ah (co rfl (AD rfl underlying241 LY vq vq AA Bl) ?_))))
 · repeat' first|(refine bool_eq ?_;unfold JK;rw [Ib (p:=Es [45,95,46]) AX Cc];rfl)|exact Fin.AM (k+1) ⟨⟨Aa,CJ (p:=fun c=> !Es [45,95,46] c) AX Cc AL⟩,by omega⟩ ⟨⟨_,rfl,AF k⟩,kz⟩|refine co rfl (C4 (iL) rfl rfl rfl) ?_|refine ac ?_|(refine Tr.cn rfl ?_ ?_<;>intro h q)
 have Az:k=(s).length:=by have:=AJ h1;omega
 subst Az
 · repeat' first|(refine bool_eq ?_;unfold JK;rw [FO AL,Bool.true_and];rw [decide_eq_decide];omega)|(refine bool_eq ?_;unfold JK;rw [FO AL,Bool.true_and];symm;rw [decide_eq_false_iff_not];omega)|refine ac ?_|(refine Ch.cg rfl rfl rfl ?_ ?_<;>intro h q)
theorem XL {n:Int}  :BD prog 236 [int n] (bool (Fw n)):=by
 refine fo func236 rfl ⟨rfl,rfl⟩ fun M0 w0=> ?_
 refine ac ?_
 refine ac ?_
 refine Ch.cs 5 rfl ?_ ?_<;>intro h1 q1
 refine ac ?_
 refine ac ?_
 · refine bool_eq ?_;unfold Fw;simp_all
 refine ac ?_
 refine ac ?_
 · refine bool_eq ?_;unfold Fw;simp_all;omega
theorem uZ:Entry Tryz.prog 236:=⟨_,Tryz.func236,rfl,rfl⟩
theorem uc {n:Int}  :BD prog 311 [int n] (bool (bg n)):=by
 refine fo func311 rfl ⟨rfl,rfl⟩ fun M0 w0=> ?_
 refine ac ?_
 refine ac ?_
 refine Ch.cs 5 rfl ?_ ?_<;>intro h1 q1
 refine ac ?_
 refine ac ?_
 · refine bool_eq ?_;unfold bg;simp_all
 refine ac ?_
 refine ac ?_
 · refine bool_eq ?_;unfold bg;simp_all;omega
theorem sG {Bh bits kind:Int}  :BD prog 310 [agg [int Bh,int bits],int kind] (bool (HY Bh bits kind)):=by
 refine fo func310 rfl ⟨rfl,rfl⟩ fun M0 w0=> ?_
 refine ac ?_
 refine ac ?_
 refine co rfl (C8 (Tk) rfl rfl) (cm rfl ?_)
 refine Ch.cs 7 rfl ?_ ?_<;>intro h1 q1
 refine ac ?_
 refine cy h1 rfl (C8 (XE) rfl rfl) ?_
 refine ac ?_
 refine ac ?_
 · refine bool_eq ?_;unfold HY;simp_all
 refine ac ?_
 refine ac ?_
 · refine bool_eq ?_;unfold HY;simp_all;omega
theorem iM {l:List (List UInt8)} (hf:∀s∈l,s.length≤maxLen):BD prog 309 [bf l] (bool (E3 l)):=by
 refine fo func309 rfl ⟨rfl,rfl⟩ fun M0 w0=>(Tr.CM 0 rfl fun D4=> ?_)
 refine a2 ?_
 refine Tr.block (Tr.Ax _ (kk [6,5,0] rfl) (fun k:Nat=>[(7,int ((k:Nat):Int))]) (fun k:Nat=>k≤(l).length∧(∀j,j<k→nameAt l j=true)) (fun k:Nat=>(l).length-k) 0 (⟨Nat.zero_le _,fun j hj=>absurd hj AA⟩) kz ?_)
 rintro k ⟨BK,AL⟩
 refine ac ?_
 refine Tr.seq ?_
 refine Tr.cn rfl ?_ ?_<;>intro h1 q1
 have Aa:k<(l).length:=AH h1
 obtain ⟨s,AX⟩:=at_ Aa
 have hsf:=hf s (List.mem_of_getElem? AX)
 have hg:=getD_at (d:=[]) AX
 refine a2 ?_
 refine co rfl (AD rfl underlying127 LZ vq vq AA (Ac AX)) ?_
 refine a2 ?_
 refine co rfl (C8 (Oe hsf) rfl rfl) ?_
 refine ag ?_ ?_<;>intro h2 q2
 refine ac ?_
 refine wk [27,7,6,5,0] rfl ?_
 refine a2 ?_
 · refine bool_eq ?_;unfold E3;rw [EP (p:=nameAt l) (k:=k) AA (by unfold nameAt;rw [hg];simp_all)];rfl
 refine ag ?_ ?_<;>intro h3 q3
 have hk0:0<k:=by simpa using h3
 obtain ⟨y,hy⟩:=at_ (l:=l) (k:=k-1) AA
 have Ke:=getD_at (d:=[]) hy
 · repeat' first|(refine bool_eq ?_;unfold E3;rw [EP (p:=nameAt l) (k:=k) AA (by unfold nameAt;rw [hg,Ke];simp_all;omega)];rfl)|(exact Fin.AM (k+1) ⟨⟨Aa,Bo AL (by unfold nameAt;rw [hg,Ke];simp_all)⟩,by omega⟩ ⟨⟨_,rfl,AF k⟩,kz⟩)|(refine cy h3 rfl (AD rfl underlying127 LZ vq vq AA FE) ?_)|refine cy h3 rfl (K7 rfl vq vq) ?_|refine ac ?_|(refine Tr.cn rfl ?_ ?_<;>intro h q)
 refine ac ?_
 refine wk [27,7,6,5,0] rfl ?_
 refine a2 ?_
 exact Fin.AM (k+1) ⟨⟨Aa,Bo AL (by unfold nameAt;rw [hg];simp_all)⟩,by omega⟩ ⟨⟨_,rfl,AF k⟩,kz⟩
 have Az:k=(l).length:=by have:=AJ h1;omega
 subst Az
 refine a3 ?_
 · refine bool_eq ?_;unfold E3;rw [JX AL,Bool.true_and];simp;omega
theorem iN {c:HR} (hc:c.fits):BD prog 295 [agg (DF c)] (bool (Cr c)):=by
 refine fo func295 rfl ⟨rfl,rfl⟩ fun M0 w0=> ?_
 · repeat' first|(refine bool_eq ?_;unfold Cr;simp_all;omega)|(refine bool_eq ?_;unfold Cr;simp_all)|refine cy h rfl (C8 (Oe hc.LF) rfl rfl) ?_|refine cy h rfl (C8 (Oe hc.Ig) rfl rfl) ?_|refine cy h rfl (C8 (iM hc.names) rfl rfl) ?_|refine co rfl (C4 (sG) rfl rfl rfl) ?_|refine cy h rfl (C4 (sG) rfl rfl rfl) ?_|refine cy h rfl (C8 (uc) rfl rfl) ?_|refine cy h rfl (C8 (XL) rfl rfl) ?_|refine ac ?_|(refine Tr.cn rfl ?_ ?_<;>intro h q)|(refine Ch.cg rfl rfl rfl ?_ ?_<;>intro h q)
theorem iO {c:HR} (hc:c.fits):BD prog 274 [agg (DF c)] (int (if Cr c then 0 else 9)):=by
 refine fo func274 rfl ⟨rfl,rfl⟩ fun M0 w0=> ?_
 · repeat' first|(refine int_eq ?_;simp_all)|refine co rfl (C8 (iN BC) rfl rfl) ?_|refine ac ?_|(refine Tr.cn rfl ?_ ?_<;>intro h q)
abbrev Ce:List Pr:=[any,any,any,any,any,any,any,any,any,any,any,any]
abbrev C1:List (List Pr):=[Ce,Ce,Ce,Ce,Ce,Ce,Ce,Ce,Ce,Ce,Ce,Ce,Ce,Ce,Ce,Ce]
theorem ud {q:List Pr} {k o:Nat} (hk:k<16) (ho:o=k*12):(C1.flatten++q)[o]? =some any:=by
 subst ho
 have h:C1[k]? =some Ce:=by
  have hk':k<C1.length:=hk
  rw [List.getElem?_eq_getElem hk']
  have:∀r∈C1,r=Ce:=by intro r hr;simp at hr;exact hr
  rw [this _ (List.getElem_mem hk')]
 have hl:∀r∈C1,r.length=12:=by intro r hr;simp at hr;rw [hr];rfl
 rw [List.getElem?_append_left (by rw [CR hl];show k*12<16*12;omega)]
 exact GW (j:=0) hl h AA
theorem U9 {k:Nat} (hk:k<16):C1[k]? =some Ce:=by
 have hk':k<C1.length:=hk
 rw [List.getElem?_eq_getElem hk']
 have:∀r∈C1,r=Ce:=by intro r hr;simp at hr;exact hr
 rw [this _ (List.getElem_mem hk')]
theorem Zd:∀r∈C1,r.length=12:=by intro r hr;simp at hr;rw [hr];rfl
theorem bk {i:Nat} {p:Pr} (h:Ce[i]? =some p):p=any:=by have:=List.mem_of_getElem? h;simp at this;exact this
theorem Cy {ps:List Pr} (h:ps.length=12):Pr.le (agg ps) (agg Ce):=fun M w v ⟨cs,h1,h2,h3⟩=>⟨cs,h1,h2,HL.rQ (by rw [h3.length,h];rfl) fun i p v hp _=>by rw [bk hp];trivial⟩
def iP (Bh bits id:Int) (l:List HR):Bool:=match l with|[]=>true|c::_=>decide (c.RG=Bh∧c.Kr=bits)&&c.El==id
theorem Rn {Bh bits id:Int} {l:List HR} (h:l.length=0):iP Bh bits id l=true:=by rw [List.eq_nil_of_length_eq_zero h];rfl
theorem MC {Bh bits id:Int} {l:List HR} {c:HR} (h:l[0]? =some c):iP Bh bits id l=(decide (c.RG=Bh∧c.Kr=bits)&&c.El==id):=by
 cases l with
 |nil=>simp at h
 |cons a l=>simp at h;subst h;rfl
theorem Ck (Bh bits id:Int) (l:List HR):P_ Bh bits id l=(HY Bh bits 2&&Fw id&&decide (l.length≤8)&&l.all Cr&&iP Bh bits id l):=rfl
theorem I2 {a b:Int}  :BD prog 307 [int a,int b] (agg [int a,int b]):=by
 refine fo func307 rfl ⟨rfl,rfl⟩ fun M0 w0=>(Tr.seq (Tr.A0 ?_))
 refine Tl rfl rfl rfl rfl JR EB (fun b1=> ?_)
 refine ap ?_
 refine ap ?_
 refine Tr.ret (Fin.Dn rfl (A7.cell 0 rfl rfl CL Dc rfl Lr) ?_)
 · exact Lr
theorem iQ   :BD prog 293 [] (slice 12 C1):=by
 refine fo func293 rfl ⟨rfl,rfl⟩ fun M0 w0=> ?_
 refine ac ?_
 refine Tr.seq (Tr.A0 ?_)
 iterate 4 refine tp rfl (C4 (I2) rfl rfl rfl) ?_
 refine tp rfl (Ar (rows:=[]) rfl tW EB trivial rfl) ?_
 refine Tl rfl rfl rfl rfl JR EB (fun b1=> ?_)
 refine Tl rfl rfl rfl rfl JR EB (fun b2=> ?_)
 refine Tl rfl rfl rfl rfl JR EB (fun b3=> ?_)
 refine Tl rfl rfl rfl rfl JR EB (fun b4=> ?_)
 refine Tl rfl rfl rfl rfl JR EB (fun b5=> ?_)
 refine sf 4 1 ⟨rfl,rfl,rfl⟩ rfl rfl rfl rfl ?_
 refine sf 3 2 ⟨rfl,rfl,rfl⟩ rfl rfl rfl rfl ?_
 refine sf 2 3 ⟨rfl,rfl,rfl⟩ rfl rfl rfl rfl ?_
 refine sf 1 4 ⟨rfl,rfl,rfl⟩ rfl rfl rfl rfl ?_
 refine sf 0 5 ⟨rfl,rfl,rfl⟩ rfl rfl rfl rfl ?_
 refine TO.nil (Fin.go (wk [5,4,3,2,1] rfl (Tr.seq (Tr.A0 ?_))))
 iterate 5 refine tp rfl (C4 (I2) rfl rfl rfl) ?_
 refine Tl rfl rfl rfl rfl JR EB (fun b6=> ?_)
 refine Tl rfl rfl rfl rfl JR EB (fun b7=> ?_)
 refine Tl rfl rfl rfl rfl JR EB (fun b8=> ?_)
 refine Tl rfl rfl rfl rfl JR EB (fun b9=> ?_)
 refine Tl rfl rfl rfl rfl JR EB (fun b10=> ?_)
 refine sf 4 6 ⟨rfl,rfl,rfl⟩ rfl rfl rfl rfl ?_
 refine sf 3 7 ⟨rfl,rfl,rfl⟩ rfl rfl rfl rfl ?_
 refine sf 2 8 ⟨rfl,rfl,rfl⟩ rfl rfl rfl rfl ?_
 refine sf 1 9 ⟨rfl,rfl,rfl⟩ rfl rfl rfl rfl ?_
 refine sf 0 10 ⟨rfl,rfl,rfl⟩ rfl rfl rfl rfl ?_
 refine TO.nil (Fin.go (wk [10,9,8,7,6,5,4,3,2,1] rfl (Tr.seq (Tr.A0 ?_))))
 iterate 4 refine tp rfl (C4 (I2) rfl rfl rfl) ?_
 refine Tl rfl rfl rfl rfl JR EB (fun b11=> ?_)
 refine Tl rfl rfl rfl rfl JR EB (fun b12=> ?_)
 refine Tl rfl rfl rfl rfl JR EB (fun b13=> ?_)
 refine Tl rfl rfl rfl rfl JR EB (fun b14=> ?_)
 refine sf 3 11 ⟨rfl,rfl,rfl⟩ rfl rfl rfl rfl ?_
 refine sf 2 12 ⟨rfl,rfl,rfl⟩ rfl rfl rfl rfl ?_
 refine sf 1 13 ⟨rfl,rfl,rfl⟩ rfl rfl rfl rfl ?_
 refine sf 0 14 ⟨rfl,rfl,rfl⟩ rfl rfl rfl rfl ?_
 refine TO.nil (Fin.go (wk [14,13,12,11,10,9,8,7,6,5,4,3,2,1] rfl (Tr.seq (Tr.pad (Tr.rx (xo rfl (fun _=>AK rfl CL Dc vq rfl rfl) (xo rfl (fun _=>AK rfl CL Dc vq rfl rfl) (xo rfl (fun _=>C4 (I2) rfl rfl rfl) (xo rfl (fun _=>AK rfl CL Dc vq rfl rfl) (xo rfl (fun _=>oD) (xo rfl (fun _=>AK rfl CL Dc vq rfl rfl) (xo rfl (fun _=>AK rfl CL Dc vq rfl rfl) (xo rfl (fun _=>C4 (I2) rfl rfl rfl) ?_)))))))))))))
 refine xo rfl (fun _=>AK rfl CL Dc vq rfl rfl) (xo rfl (fun _=>oD) ?_)
 iterate 4 refine xo rfl (fun _=>AK rfl CL Dc vq rfl rfl) ?_
 refine xo rfl (fun _=>oD) (xo rfl (fun _=>C4 (I2) rfl rfl rfl) (xo rfl (fun _=>AK rfl CL Dc vq rfl rfl) (xo rfl (fun _=>AK rfl CL Dc vq rfl rfl) (xo rfl (fun _=>AK rfl CL Dc vq rfl rfl) (xo rfl (fun _=>oD) (xo rfl (fun _=>C4 (I2) rfl rfl rfl) (xo rfl (fun _=>AK rfl CL Dc vq rfl rfl) (xo rfl (fun _=>AK rfl CL Dc vq rfl rfl) (xo rfl (fun _=>AK rfl CL Dc vq rfl rfl) (xo rfl (fun _=>oD) ?_))))))))))
 iterate 4 refine xo rfl (fun _=>AK rfl CL Dc vq rfl rfl) ?_
 refine xo rfl (fun _=>oD) (xo rfl (fun _=>C4 (I2) rfl rfl rfl) (xo rfl (fun _=>AK rfl CL Dc vq rfl rfl) (xo rfl (fun _=>AK rfl CL Dc vq rfl rfl) (xo rfl (fun _=>AK rfl CL Dc vq rfl rfl) (xo rfl (fun _=>oD) ?_)))))
 iterate 4 refine xo rfl (fun _=>AK rfl CL Dc vq rfl rfl) ?_
 refine xo rfl (fun _=>oD) (xo rfl (fun _=>AK rfl CL Dc vq rfl rfl) (xo rfl (fun _=>AK rfl CL Dc vq rfl rfl) (xo rfl (fun _=>C4 (I2) rfl rfl rfl) (xo rfl (fun _=>C4 (I2) rfl rfl rfl) (xo rfl (fun _=>oD) ?_)))))
 iterate 4 refine xo rfl (fun _=>AK rfl CL Dc vq rfl rfl) ?_
 refine xo rfl (fun _=>oD) (xo rfl (fun _=>C4 (I2) rfl rfl rfl) (xo rfl (fun _=>AK rfl CL Dc vq rfl rfl) (xo rfl (fun _=>AK rfl CL Dc vq rfl rfl) (xo rfl (fun _=>AK rfl CL Dc vq rfl rfl) (xo rfl (fun _=>oD) ?_)))))
 iterate 4 refine xo rfl (fun _=>AK rfl CL Dc vq rfl rfl) ?_
 refine xo rfl (fun _=>oD) ?_
 iterate 4 refine xo rfl (fun _=>AK rfl CL Dc vq rfl rfl) ?_
 refine xo rfl (fun _=>oD) ?_
 iterate 4 refine xo rfl (fun _=>AK rfl CL Dc vq rfl rfl) ?_
 refine xo rfl (fun _=>oD) ?_
 iterate 4 refine xo rfl (fun _=>AK rfl CL Dc vq rfl rfl) ?_
 refine xo rfl (fun _=>oD) (xo rfl (fun _=>C4 (I2) rfl rfl rfl) (xo rfl (fun _=>AK rfl CL Dc vq rfl rfl) (xo rfl (fun _=>AK rfl CL Dc vq rfl rfl) (xo rfl (fun _=>AK rfl CL Dc vq rfl rfl) (xo rfl (fun _=>oD) (Cx.ef 0 rfl rfl AB (bX (xs:=[.tmp 35,.tmp 40,.tmp 45,.tmp 50,.tmp 55,.tmp 60,.tmp 65,.tmp 70,.tmp 75,.tmp 80,.tmp 85,.tmp 90,.tmp 95,.tmp 100,.tmp 105,.tmp 110]) (rows:=C1) rfl rfl AB rfl rfl underlying287 GM W0 rfl AB ⟨⟨Ab,VL.le vq (Pr.le_trans (Cy rfl) (AW _))⟩,⟨⟨Ab,VL.le vq (Pr.le_trans (Cy rfl) (AW _))⟩,⟨⟨Ab,VL.le vq (Pr.le_trans (Cy rfl) (AW _))⟩,⟨⟨Ab,VL.le vq (Pr.le_trans (Cy rfl) (AW _))⟩,⟨⟨Ab,VL.le vq (Pr.le_trans (Cy rfl) (AW _))⟩,⟨⟨Ab,VL.le vq (Pr.le_trans (Cy rfl) (AW _))⟩,⟨⟨Ab,VL.le vq (Pr.le_trans (Cy rfl) (AW _))⟩,⟨⟨Ab,VL.le vq (Pr.le_trans (Cy rfl) (AW _))⟩,⟨⟨Ab,VL.le vq (Pr.le_trans (Cy rfl) (AW _))⟩,⟨⟨Ab,VL.le vq (Pr.le_trans (Cy rfl) (AW _))⟩,⟨⟨Ab,VL.le vq (Pr.le_trans (Cy rfl) (AW _))⟩,⟨⟨Ab,VL.le vq (Pr.le_trans (Cy rfl) (AW _))⟩,⟨⟨Ab,VL.le vq (Pr.le_trans (Cy rfl) (AW _))⟩,⟨⟨Ab,VL.le vq (Pr.le_trans (Cy rfl) (AW _))⟩,⟨⟨Ab,VL.le vq (Pr.le_trans (Cy rfl) (AW _))⟩,⟨⟨Ab,VL.le vq (Pr.le_trans (Cy rfl) (AW _))⟩,trivial⟩⟩⟩⟩⟩⟩⟩⟩⟩⟩⟩⟩⟩⟩⟩⟩ AB AB) ?_))))))
 refine Cx.ef 0 rfl rfl AB (OX rfl rfl AB rfl vq) ?_
 refine Cx.nil ⟨by kernel_rfl,?_⟩
 refine BW.open_ 0 15 rfl rfl (fun v1=> ?_)
 refine BW.done al1 (Fin.go (wk [15] rfl (Tr.seq (Tr.seq (Tr.Nn 0 rfl fun b15 AEV AEr ADV ADW ADX ADY=> ?_)))))
 subst ADV
 refine ac ?_
 refine co rfl (IX rfl underlying287 Oc) ?_
 refine ac ?_
 refine Tr.block (Tr.Ax _ (kk [113,15] rfl) (fun k:Nat=>[(114,int ((k:Nat):Int))]) (fun k:Nat=>k≤(C1.length)) (fun k:Nat=>(C1.length)-k) 0 (Nat.zero_le _) kz ?_)
 rintro k BK
 refine ac ?_
 refine Tr.seq ?_
 refine Tr.cn rfl ?_ ?_<;>intro h1 q1
 have Aa:k<(C1.length):=AH h1
 have ADZ:k<16:=Aa
 refine a2 ?_
 refine Tr.A0 (tm rfl (tm rfl (tm rfl ?_)))
 refine tp rfl (Ey rfl vq vq ?hin) ?_;case hin=>unfold N9;omega
 refine tp rfl (BE rfl underlying287 GM Oc vq AA AA) (tp rfl (AY rfl ny vq) ?_)
 refine TO.Ee 0 rfl rfl (A9 rfl rfl vq (VL.le vq (oo _)) Bg rfl (by rw [List.length_append,CR Zd];show _≤16*12+_;omega) (oq (ud ADZ AA))) ?_
 refine TO.nil ?_
 refine a2 ?_
 exact Fin.AM (k+1) ⟨Aa,by omega⟩ ⟨⟨_,rfl,AF k⟩,kz⟩
 have Az:k=(C1.length):=by have:=AJ h1;omega
 subst Az
 refine ac ?_
 refine Tr.seq ?_
 refine Tr.W6 (sz:=12) C1 0 15 rfl rfl (EU _ _) Zd ADW ADX (by rw [List.length_map];exact ADY) ?_
 refine a2 ?_
 · exact G3
theorem pG {code:Int}  :BD prog 272 [int code] (F8 [agg Ce,int (if 1≤code∧code≤16 then 0 else 8)]):=by
 refine fo func272 rfl ⟨rfl,rfl⟩ fun M0 w0=> ?_
 have hL:C1.length=16:=rfl
 refine Tr.seq (Tr.A0 ?_)
 refine Tl rfl rfl rfl rfl W0 L6 (fun b1=> ?_)
 refine ap ?_
 refine Tr.seq (Tr.Ah (co rfl (kc0 (iQ) rfl) ?_))
 refine ac ?_
 refine ag ?_ ?_<;>intro h1 q1
 refine ac ?_
 refine Tr.cond rfl (fun _=> ?_) (fun h=>nomatch h)
 refine Tr.seq (Tr.A0 (tp rfl (Ar (rows:=[]) rfl ZX L6 trivial rfl) (TO.Aj 0 rfl rfl rfl vq LD rfl GM rfl rfl (tm rfl (TO.nil (Fin.go (wk [3,2] rfl (Tr.ret (Fin.AG (Fin.GJ rfl (A7.cell 0 rfl rfl JW GM rfl Lr) (A7.tmp rfl Lr) ?_))))))))))
 · exact Yw
 refine ac ?_
 refine cy h1 rfl (B7 rfl underlying287 vq) ?_
 refine an ?_ ?_<;>intro h2 q2
 refine ap ?_
 refine wk [3,2] rfl (Tr.ret (Fin.AG (Fin.GJ rfl (A7.cell 0 rfl rfl JW GM rfl Lr) (A7.tmp rfl Lr) ?_)))
 · exact Y0
 have hin:1≤code∧code≤16:=by omega
 refine ac ?_
 refine ap ?_
 refine tp rfl (AD rfl underlying287 GM vq vq AA (U9 AA)) ?_
 refine ap ?_
 refine wk [3,2] rfl (Tr.ret (Fin.GJ rfl (A7.cell 0 rfl rfl JW GM rfl Lr) (A7.tmp rfl Lr) ?_))
 · exact DB ⟨Lr,int_eq (by rw [if_pos hin]),trivial⟩
theorem pH {Bh bits id:Int} {l:List HR} (hf:∀c∈l,c.fits):BD prog 233 [agg [int Bh,int bits],int id,Nv l] (bool (P_ Bh bits id l)):=by
 refine fo func233 rfl ⟨rfl,rfl⟩ fun M0 w0=>(Tr.CM 2 rfl fun U_=> ?_)
 refine a2 ?_
 refine co rfl (C8 (Tk) rfl rfl) ?_
 refine ag ?_ ?_<;>intro h1 q1
 refine ac ?_
 refine wk [27,3,2,1] rfl ?_
 refine a2 ?_
 · refine bool_eq ?_;rw [Ck];unfold HY;simp_all;omega
 refine ac ?_
 refine cy h1 rfl (C8 (XE) rfl rfl) ?_
 refine ag ?_ ?_<;>intro h2 q2
 refine ac ?_
 refine wk [27,3,2,1] rfl ?_
 refine a2 ?_
 · refine bool_eq ?_;rw [Ck];unfold HY;simp_all
 refine HZ h2 rfl (cy h2 rfl (C8 (XL) rfl rfl) ?_)
 refine ag ?_ ?_<;>intro h3 q3
 refine ac ?_
 refine wk [27,3,2,1] rfl ?_
 refine a2 ?_
 · refine bool_eq ?_;rw [Ck];unfold HY;simp_all
 refine ac ?_
 refine wk [27,3,2,1] rfl ?_
 refine Tr.cn rfl ?_ ?_<;>intro h4 q4
 refine a2 ?_
 · refine bool_eq ?_;rw [Ck];unfold HY;simp_all;omega
 refine a2 ?_
 refine Tr.block (Tr.Ax _ (kk [29,28,3,2,1] rfl) (fun k:Nat=>[(30,int ((k:Nat):Int))]) (fun k:Nat=>k≤(l).length∧(∀j y,j<k→l[j]? =some y→(!Cr y)=false)) (fun k:Nat=>(l).length-k) 0 (⟨Nat.zero_le _,fun j y hj=>absurd hj AA⟩) kz ?_)
 rintro k ⟨BK,AL⟩
 refine ac ?_
 refine Tr.seq ?_
 refine Tr.cn rfl ?_ ?_<;>intro h5 q5
 have Aa:k<(l).length:=AH h5
 obtain ⟨c,AX⟩:=at_ Aa
 have hcf:=hf c (List.mem_of_getElem? AX)
 refine ac ?_
 refine Tr.seq (Tr.block (Tr.seq (Tr.A0 (tp rfl (AD rfl underlying82 C6 vq vq AA Bl) ?_))))
 refine tp rfl (AK rfl FM C6 vq rfl rfl) ?_
 refine Tl rfl rfl rfl rfl Pp Kn (fun b1=> ?_)
 refine sf 0 8 ⟨rfl,rfl,rfl⟩ rfl rfl rfl rfl ?_
 refine ao ?_
 · repeat' first|(refine bool_eq ?_;rw [Ck];unfold HY;rw [Ib (p:=Cr) AX Cc];simp)|exact Fin.AM (k+1) ⟨⟨Aa,CJ (p:=fun c=> !Cr c) AX Cc AL⟩,by omega⟩ ⟨⟨_,rfl,AF k⟩,kz⟩|refine co rfl (C8 (iO hcf) rfl rfl) ?_|refine ac ?_|(refine Tr.cn rfl ?_ ?_<;>intro h q)
 have Az:k=(l).length:=by have:=AJ h5;omega
 subst Az
 have hall:=FO AL
 refine ac ?_
 refine ag ?_ ?_<;>intro h7 q7
 refine ac ?_
 refine wk [6] rfl ?_
 refine ac ?_
 · refine bool_eq ?_;rw [Ck];unfold HY;rw [hall,Rn Cc];simp_all
 obtain ⟨c0,hc0⟩:=at_ (l:=l) (k:=0) (by have:=h7;simp at this;exact List.length_pos_iff.2 this)
 refine HZ h7 rfl ?_
 refine cy h7 rfl (AD rfl underlying82 C6 vq vq AA (Ac (k:=0) hc0)) ?_
 refine ac ?_
 refine cy h7 rfl (MA rfl vq vq) (HZ h7 rfl ?_)
 refine Ch.cs 48 rfl ?_ ?_<;>intro h8 q8
 refine HZ h8 rfl ?_
 refine cy h8 rfl (AD rfl underlying82 C6 vq vq AA (Ac (k:=0) hc0)) ?_
 refine ac ?_
 refine wk [6] rfl ?_
 refine ac ?_
 · refine bool_eq ?_;rw [Ck];unfold HY;rw [hall,MC hc0];clear hall AL hf hc0;simp_all;omega
 refine ac ?_
 refine wk [6] rfl ?_
 refine ac ?_
 · refine bool_eq ?_;rw [Ck];unfold HY;rw [hall,MC hc0];clear hall AL hf hc0;simp_all
theorem Ro {l:List Int}  :BD prog 232 [ints l] (bool (XJ l)):=by
 refine fo func232 rfl ⟨rfl,rfl⟩ fun M0 w0=>(Tr.CM 0 rfl fun D4=> ?_)
 refine a2 ?_
 refine Tr.block (Tr.Ax _ (kk [5,0] rfl) (fun k:Nat=>[(6,int ((k:Nat):Int))]) (fun k:Nat=>k≤(l).length∧(∀j,j<k→GN l j=true)) (fun k:Nat=>(l).length-k) 0 (⟨Nat.zero_le _,fun j hj=>absurd hj AA⟩) kz ?_)
 rintro k ⟨BK,AL⟩
 refine ac ?_
 refine Tr.seq ?_
 refine Tr.cn rfl ?_ ?_<;>intro h1 q1
 have Aa:k<(l).length:=AH h1
 obtain ⟨x,AX⟩:=at_ Aa
 have hg:=getD_at (d:=(0:Int)) AX
 refine a2 ?_
 refine ag ?_ ?_<;>intro h2 q2
 have hk0:0<k:=by simpa using h2
 obtain ⟨y,hy⟩:=at_ (l:=l) (k:=k-1) AA
 have Ke:=getD_at (d:=(0:Int)) hy
 · repeat' first|(refine bool_eq ?_;unfold XJ;exact (EP (p:=GN l) (k:=k) AA (by unfold GN;rw [hg,Ke];simp_all;omega)).symm)|(exact Fin.AM (k+1) ⟨⟨Aa,Bo AL (by unfold GN;rw [hg,Ke];simp_all)⟩,by omega⟩ ⟨⟨_,rfl,AF k⟩,kz⟩)|(refine cy h2 rfl (AD rfl underlying22 Bg vq vq AA FE) ?_)|refine cy h2 rfl (AD rfl underlying22 Bg vq vq AA (Ac AX)) ?_|refine ac ?_|(refine Tr.cn rfl ?_ ?_<;>intro h q)
 refine ac ?_
 refine wk [22,6,5,0] rfl ?_
 refine a2 ?_
 exact Fin.AM (k+1) ⟨⟨Aa,Bo AL (by unfold GN;rw [hg];simp_all)⟩,by omega⟩ ⟨⟨_,rfl,AF k⟩,kz⟩
 have Az:k=(l).length:=by have:=AJ h1;omega
 subst Az
 refine a3 ?_
 · refine bool_eq ?_;unfold XJ;exact (JX AL).symm
theorem ue {n:Int}  :BD prog 237 [int n] (bool (Jd n)):=by
 refine fo func237 rfl ⟨rfl,rfl⟩ fun M0 w0=> ?_
 refine a2 ?_
 refine co rfl (C8 (XE) rfl rfl) ?_
 refine a2 ?_
 · exact Lr
theorem e_hash:Entry Tryz.prog 237:=⟨_,Tryz.func237,rfl,rfl⟩
theorem iR {l:List Int}  :BD prog 231 [ints l] (bool (Fq l)):=by
 refine fo func231 rfl ⟨rfl,rfl⟩ fun M0 w0=>(Tr.CM 0 rfl fun D4=> ?_)
 refine a2 ?_
 refine Tr.block (Tr.Ax _ (kk [8,7,0] rfl) (fun k:Nat=>[(9,int ((k:Nat):Int))]) (fun k:Nat=>k≤(l).length∧(∀j,j<k→EG l j=true)) (fun k:Nat=>(l).length-k) 0 (⟨Nat.zero_le _,fun j hj=>absurd hj AA⟩) kz ?_)
 rintro k ⟨BK,AL⟩
 refine ac ?_
 refine Tr.seq ?_
 refine Tr.cn rfl ?_ ?_<;>intro h1 q1
 have Aa:k<(l).length:=AH h1
 obtain ⟨x,AX⟩:=at_ Aa
 have hg:=getD_at (d:=(0:Int)) AX
 refine a2 ?_
 refine co rfl (AD rfl underlying22 Bg vq vq AA Bl) ?_
 refine ac ?_
 refine ao ?_
 refine tp rfl (C8 (pG) rfl rfl) ?_
 refine ao ?_
 refine Tl rfl rfl rfl rfl W0 L6 (fun b1=> ?_)
 refine sf 0 5 ⟨rfl,rfl,rfl⟩ rfl rfl rfl rfl ?_
 refine ao ?_
 refine wk [9,8,7,6,4,3,0] rfl ?_
 refine ag ?_ ?_<;>intro h2 q2
 have uf:¬(1≤x∧x≤16):=by intro hh;rw [if_pos hh] at h2;exact absurd h2 AB
 refine ac ?_
 refine wk [27,9,8,7,0] rfl ?_
 refine a2 ?_
 · refine bool_eq ?_;unfold Fq;exact (EP (p:=EG l) (k:=k) AA (by unfold EG;rw [hg];rw [decide_eq_false uf];rfl)).symm
 have hin:1≤x∧x≤16:=by refine Decidable.byContradiction fun hh=> ?_;rw [if_neg hh] at h2;exact absurd h2 AB
 refine ac ?_
 refine cy h2 rfl (Ff rfl underlying22 Bg vq vq AA B1) ?_
 refine HZ h2 rfl ?_
 · repeat' first|(refine bool_eq ?_;unfold Fq;exact (EP (p:=EG l) (k:=k) AA Sf).symm)|(exact Fin.AM (k+1) ⟨⟨Aa,Bo AL Sf⟩,by omega⟩ ⟨⟨_,rfl,AF k⟩,kz⟩)|refine cy h2 rfl (AZ rfl (HD (l:=l.take k) (v:=x)) ⟨⟨_,rfl,Pr.le_of_eq (by rw [←List.map_take,Int.toNat_natCast])⟩,kz⟩) ?_|refine ac ?_|(refine Tr.cn rfl ?_ ?_<;>intro h q)
 have Az:k=(l).length:=by have:=AJ h1;omega
 subst Az
 refine a3 ?_
 · refine bool_eq ?_;unfold Fq;exact (JX AL).symm
theorem ug {p:Int→Bool} {n:Int}  :BD prog 235 [int n,ref [OU prog (fun x:Int=>[int x]) (fun x=>bool (p x))]] (bool (!p n)):=by
 refine fo func235 rfl ⟨rfl,rfl⟩ fun M0 w0=> ?_
 refine a2 ?_
 refine co rfl (EO n rfl vq kz) ?_
 refine a2 ?_
 · exact Lr
theorem uh:Entry Tryz.prog 235:=⟨_,Tryz.func235,rfl,rfl⟩
theorem zw {p:Int→Bool}  :BD prog 234 [OU prog (fun x:Int=>[int x]) (fun x=>bool (p x))] (OU prog (fun x:Int=>[int x]) (fun x=>bool (!p x))):=by
 refine fo func234 rfl ⟨rfl,rfl⟩ fun M0 w0=> ?_
 refine a3 ?_
 · exact B9 uh (fun x=>ug (p:=p) (n:=x))
theorem zx:Entry Tryz.prog 234:=⟨_,Tryz.func234,rfl,rfl⟩
theorem iS {e:E4} (hf:e.fits):BD prog 198 [agg (Dq e)] (int (if PG e then 0 else 19)):=by
 refine fo func198 rfl ⟨rfl,rfl⟩ fun M0 w0=> ?_
 refine a2 ?_
 refine co rfl (C8 (uY hf.name) rfl rfl) ?_
 refine ag ?_ ?_<;>intro h1 q1
 refine ac ?_
 refine wk [32,1] rfl ?_
 refine a2 ?_
 · exact OM
 refine ag ?_ ?_<;>intro h2 q2
 refine ac ?_
 refine wk [32,1] rfl ?_
 refine a2 ?_
 · exact Lh
 refine ag ?_ ?_<;>intro h3 q3
 refine ac ?_
 refine wk [32,1] rfl ?_
 refine a2 ?_
 · exact Lh
 refine ag ?_ ?_<;>intro h4 q4
 refine ac ?_
 refine wk [32,1] rfl ?_
 refine a2 ?_
 · exact Lh
 refine ac ?_
 refine cy h4 rfl (C8 (iR) rfl rfl) ?_
 refine ac ?_
 refine wk [32,1] rfl ?_
 refine Tr.cn rfl ?_ ?_<;>intro h5 q5
 refine a2 ?_
 · exact OM
 refine ac ?_
 refine ag ?_ ?_<;>intro h6 q6
 refine ac ?_
 refine wk [54,1] rfl ?_
 refine a2 ?_
 · exact Lh
 refine ag ?_ ?_<;>intro h7 q7
 refine ac ?_
 refine wk [54,1] rfl ?_
 refine a2 ?_
 · exact Lh
 refine ac ?_
 refine cy h7 rfl (C8 (Ro) rfl rfl) ?_
 refine ag ?_ ?_<;>intro h8 q8
 refine ac ?_
 refine wk [54,1] rfl ?_
 refine a2 ?_
 · exact OM
 refine ac ?_
 refine cy h8 rfl (C8 (Ro) rfl rfl) ?_
 refine ac ?_
 refine wk [54,1] rfl ?_
 refine Tr.cn rfl ?_ ?_<;>intro h9 q9
 refine a2 ?_
 · exact OM
 refine a2 ?_
 refine Tr.block (Tr.Ax _ (kk [57,56,1] rfl) (fun k:Nat=>[(58,int ((k:Nat):Int))]) (fun k:Nat=>k≤(e.ids).length∧(∀j y,j<k→e.ids[j]? =some y→(!bh y)=false)) (fun k:Nat=>(e.ids).length-k) 0 (⟨Nat.zero_le _,fun j y hj=>absurd hj AA⟩) kz ?_)
 rintro k ⟨BK,AL⟩
 refine ac ?_
 refine Tr.seq ?_
 refine Tr.cn rfl ?_ ?_<;>intro h10 Q2
 have Aa:k<(e.ids).length:=AH h10
 obtain ⟨x,AX⟩:=at_ Aa
 have hxf:=hf.ids x (List.mem_of_getElem? AX)
 refine ac ?_
 refine Tr.seq (Tr.block (Tr.seq (Tr.A0 (tp rfl (AD rfl underlying38 JS (vl rfl) (vl rfl) AA Bl) ?_))))
 refine tp rfl (AK rfl Up JS (vl rfl) rfl rfl) ?_
 refine Tl rfl rfl rfl rfl nH TK (fun b1=> ?_)
 refine sf 0 4 ⟨rfl,rfl,rfl⟩ rfl rfl rfl rfl ?_
 refine ao ?_
 · repeat' first|(refine int_eq ?_;unfold PG;rw [Ib (p:=bh) AX (by unfold bh;simp_all)];simp)|(exact Fin.AM (k+1) ⟨⟨Aa,CJ (p:=fun c=> !bh c) AX (by unfold bh;simp_all) AL⟩,by omega⟩ ⟨⟨_,rfl,AF k⟩,kz⟩)|refine co rfl (XC (pH hxf) rfl rfl rfl rfl) ?_|refine ac ?_|(refine Tr.cn rfl ?_ ?_<;>intro h q)
 have Az:k=(e.ids).length:=by have:=AJ h10;omega
 subst Az
 have hall:=FO AL
 refine a2 ?_
 refine Tr.seq (Tr.seq (Tr.re 5 rfl (B9 (dom:=fun p:Int→Bool=>[OU prog (fun x:Int=>[int x]) (fun x=>bool (p x))]) (res:=fun p=>OU prog (fun x:Int=>[int x]) (fun x=>bool (!p x))) zx (fun p=>zw (p:=p))) ?_))
 refine ac ?_
 refine co rfl (EO Fw rfl (vl rfl) ⟨⟨_,rfl,B9 (dom:=fun n:Int=>[int n]) (res:=fun n=>bool (Fw n)) uZ (fun n=>XL (n:=n))⟩,trivial⟩) ?_
 refine co rfl (C4 (DT (l:=e.anchors) (p:=fun n=> !Fw n)) rfl rfl rfl) ?_
 refine cm rfl ?_
 · repeat' first|(refine int_eq ?_;unfold PG;rw [if_neg];intro hh;simp only [Bool.and_eq_true] at hh;have g1:=hh.1.2;have g2:=hh.2;clear hh AL hf hall;simp only [Zc,g1,g2,Bool.not_true,Bool.false_eq_true] at*)|(refine int_eq ?_;unfold PG;simp_all;omega)|refine cy h rfl (EO Jd rfl (vl rfl) ⟨⟨_,rfl,B9 (dom:=fun n:Int=>[int n]) (res:=fun n=>bool (Jd n)) e_hash (fun n=>ue (n:=n))⟩,trivial⟩) ?_|refine cy h rfl (C4 (DT (l:=e.hashes) (p:=fun n=> !Jd n)) rfl rfl rfl) ?_|refine ac ?_|(refine Tr.cn rfl ?_ ?_<;>intro h q)|(refine Ch.cg rfl rfl rfl ?_ ?_<;>intro h q)
theorem MD {β γ:Type} {f:β→γ} {l:List β} (h:l≠[]):0<(l.map f).length:=by rw [List.length_map];exact List.length_pos_iff.2 h
theorem bl {l:List (Int)} (h0:l≠[]) (hl:l.length≤1000000):BR prog 131 [slice 1 (l.map (fun n:Int=>[int n]))] (lens (l.map (fun n:Int=>[int n])).length) (Bb) (fun v=>DE 3 1 (l.map (fun n:Int=>[int n])) v):=by
 refine BR.of func131 rfl rfl Al fun M0 w0 S rs M1 w1=> ?_
 have hpos:=MD (f:=(fun n:Int=>[int n])) h0
 refine a2 ?_
 refine co rfl (FJ rfl underlying22 vq) ?_
 refine ac ?_
 refine Tr.ex 4 rfl (fun z1=>Tr.fact 4 rfl fun G8=> ?_)
 refine Tr.cn rfl ?_ ?_<;>intro h1 q1
 exfalso;have:=G8 h1;simp_all
 refine ac ?_
 refine ap ?_
 refine TO.pad ?_
 refine TO.Ef 0 rfl rfl AB (IW rfl rfl AB rfl underlying22 Bg J_ z3 rfl AB AB vq vq hpos Mn Da) (fun v1=> ?_)
 refine ap ?_
 refine Tr.ret (Fin.drop 1 ?_)
 refine Fin.E7 rfl rfl ?_ Ll
 · exact G3
theorem bn   :BD prog 131 [slice 1 []] (full 1 []):=by
 refine fo func131 rfl ⟨rfl,rfl⟩ fun M0 w0=> ?_
 refine a2 ?_
 refine co rfl (FJ rfl underlying22 vq) ?_
 refine ac ?_
 refine Tr.ex 4 rfl (fun z1=>Tr.fact 4 rfl fun G8=> ?_)
 · repeat' first|exact FI 1|exact Lr|refine co rfl (L_ rfl underlying22 Bg vq vq) ?_|refine ac ?_|(refine Tr.cn rfl ?_ ?_<;>intro h q)
theorem bp {l:List (Int)} (hl:l.length≤1000000):BR Tryz.prog 131 [slice 1 (l.map (fun n:Int=>[int n]))] (lens l.length) Bb (fun v=>Bc 3 1 (l.map (fun n:Int=>[int n])) v):=by
 by_cases h0:l=[]
 · subst h0;exact BR.U2 bn
 ·
  have:=BR.P6 (by intro h;exact h0 DM) (bl h0 hl)
  rwa [List.length_map] at this
theorem bq {l:List (HR)} (h0:l≠[]) (hl:l.length≤925904528640):BR prog 241 [slice 15 (l.map DF)] (lens (l.map DF).length) (Bb) (fun v=>DE 189 15 (l.map DF) v):=by
 refine BR.of func241 rfl rfl Al fun M0 w0 S rs M1 w1=> ?_
 have hpos:=MD (f:=DF) h0
 refine a2 ?_
 refine co rfl (FJ rfl underlying82 vq) ?_
 refine ac ?_
 refine Tr.ex 4 rfl (fun z1=>Tr.fact 4 rfl fun G8=> ?_)
 refine Tr.cn rfl ?_ ?_<;>intro h1 q1
 exfalso;have:=G8 h1;simp_all
 refine ac ?_
 refine ap ?_
 refine TO.pad ?_
 refine TO.Ef 0 rfl rfl AB (IW rfl rfl AB rfl underlying82 C6 rq Pp rfl AB AB vq vq hpos Mn Da) (fun v1=> ?_)
 refine ap ?_
 refine Tr.ret (Fin.drop 1 ?_)
 refine Fin.E7 rfl rfl ?_ Ll
 · exact G3
theorem bt   :BD prog 241 [slice 15 []] (full 15 []):=by
 refine fo func241 rfl ⟨rfl,rfl⟩ fun M0 w0=> ?_
 refine a2 ?_
 refine co rfl (FJ rfl underlying82 vq) ?_
 refine ac ?_
 refine Tr.ex 4 rfl (fun z1=>Tr.fact 4 rfl fun G8=> ?_)
 · repeat' first|exact FI 15|exact Lr|refine co rfl (L_ rfl underlying82 C6 vq vq) ?_|refine ac ?_|(refine Tr.cn rfl ?_ ?_<;>intro h q)
theorem bu {l:List (HR)} (hl:l.length≤925904528640):BR Tryz.prog 241 [slice 15 (l.map DF)] (lens l.length) Bb (fun v=>Bc 189 15 (l.map DF) v):=by
 by_cases h0:l=[]
 · subst h0;exact BR.U2 bt
 ·
  have:=BR.P6 (by intro h;exact h0 DM) (bq h0 hl)
  rwa [List.length_map] at this
theorem bw {l:List (List UInt8)} (h0:l≠[]) (hl:l.length≤8796093022208):BR prog 242 [slice 1 (l.map (fun t:List UInt8=>[str t]))] (lens (l.map (fun t:List UInt8=>[str t])).length) (Bb) (fun v=>DE 9 1 (l.map (fun t:List UInt8=>[str t])) v):=by
 refine BR.of func242 rfl rfl Al fun M0 w0 S rs M1 w1=> ?_
 have hpos:=MD (f:=(fun t:List UInt8=>[str t])) h0
 refine a2 ?_
 refine co rfl (FJ rfl underlying127 vq) ?_
 refine ac ?_
 refine Tr.ex 4 rfl (fun z1=>Tr.fact 4 rfl fun G8=> ?_)
 refine Tr.cn rfl ?_ ?_<;>intro h1 q1
 exfalso;have:=G8 h1;simp_all
 refine ac ?_
 refine ap ?_
 refine TO.pad ?_
 refine TO.Ef 0 rfl rfl AB (IW rfl rfl AB rfl underlying127 LZ by9 z9 rfl AB AB vq vq hpos Mn Da) (fun v1=> ?_)
 refine ap ?_
 refine Tr.ret (Fin.drop 1 ?_)
 refine Fin.E7 rfl rfl ?_ Ll
 · exact G3
theorem bz   :BD prog 242 [slice 1 []] (full 1 []):=by
 refine fo func242 rfl ⟨rfl,rfl⟩ fun M0 w0=> ?_
 refine a2 ?_
 refine co rfl (FJ rfl underlying127 vq) ?_
 refine ac ?_
 refine Tr.ex 4 rfl (fun z1=>Tr.fact 4 rfl fun G8=> ?_)
 · repeat' first|exact FI 1|exact Lr|refine co rfl (L_ rfl underlying127 LZ vq vq) ?_|refine ac ?_|(refine Tr.cn rfl ?_ ?_<;>intro h q)
theorem b_ {l:List (List UInt8)} (hl:l.length≤8796093022208):BD Tryz.prog 242 [slice 1 (l.map (fun t:List UInt8=>[str t]))] (slice 1 (l.map (fun t:List UInt8=>[str t]))):=by
 by_cases h0:l=[]
 · subst h0;exact BD.le bz (fun _ _ _ h=>h) (BA _ _)
 · exact (BR.yu (rows:=(l.map (fun t:List UInt8=>[str t]))) (BL fun _=>rfl) (bw h0 hl)).pure
structure U8.small (x:U8):Prop where
 chain:x.chain.length≤925904528640
 names:∀c∈x.chain,c.names.length≤8796093022208
theorem iT {x:U8} (hx:x.small):BD prog 203 [agg (Ks x)] (agg (Ks x)):=by
 refine fo func203 rfl ⟨rfl,rfl⟩ fun M0 w0=> ?_
 have hch:=hx.chain
 refine Tr.seq (Tr.A0 ?_)
 refine TO.S6 rfl rfl AB rfl LD (fun b1=> ?_)
 refine Tl rfl rfl rfl rfl nH TK (fun b2=> ?_)
 refine ao ?_
 refine ao ?_
 refine TO.pad ?_
 refine TO.Ef 0 rfl rfl AB (HA rfl rfl AB rfl (bu (l:=x.chain) AA) kz) (fun v1=> ?_)
 refine tp rfl (AY rfl gM vq) (TO.Ee 2 rfl rfl (A9 rfl rfl vq DK x8 rfl Al rfl) ?_)
 refine ao ?_
 refine ac ?_
 refine co rfl (CY 0 rfl (Tf rfl underlying82 Oc)) ?_
 refine ac ?_
 refine Tr.block (Tr.re 11 rfl (int_eq Sx) (Tr.Ax _ (kk [11,10,2,1] rfl) (fun k:Nat=>[(12,int ((k:Nat):Int))]) (fun k:Nat=>k≤(x.chain).length) (fun k:Nat=>(x.chain).length-k) 0 (Nat.zero_le _) kz ?_))
 rintro k BK
 refine ac ?_
 refine Tr.seq ?_
 refine Tr.cn rfl ?_ ?_<;>intro h1 q1
 have Aa:k<(x.chain).length:=AH h1
 obtain ⟨c,AX⟩:=at_ Aa
 have hcn:=hx.names c (List.mem_of_getElem? AX)
 refine ac ?_
 refine ao ?_
 refine tp rfl (CY 0 rfl (LA rfl underlying82 C6 Oc vq AA Da)) ?_
 refine tp rfl (CY 0 rfl (bW rfl FM C6 vq (BL fun _=>rfl) Y5)) ?_
 refine Tl rfl rfl rfl rfl Pp Kn (fun b3=> ?_)
 refine tm rfl ?_
 refine sf 0 4 ⟨rfl,rfl,rfl⟩ rfl rfl rfl rfl ?_
 refine ao ?_
 refine Tr.rx ?_
 refine ax ?_
 refine xo rfl (fun _=>C8 (b_ hcn) rfl rfl) ?_
 refine HO 0 rfl rfl (LA rfl underlying82 C6 Oc vq AA Da) ?_
 refine xo rfl (fun _=>XA rfl Ur vq) ?_
 refine Cx.Ee 0 rfl rfl (Ia rfl rfl vq DK rV rfl (BL fun _=>rfl) Y5 AB (gp (f:=DF) AX rfl)) ?_
 refine Cx.nil ⟨by kernel_rfl,?_⟩
 refine BW.done al3 ?_
 refine ac ?_
 refine wk [12,11,10,2,1] rfl ?_
 refine ac ?_
 exact Fin.AM (k+1) ⟨Aa,by omega⟩ ⟨⟨_,rfl,AF k⟩,kz⟩
 have Az:k=(x.chain).length:=by have:=AJ h1;omega
 subst Az
 refine ac ?_
 refine Tr.seq (Tr.HC 2 0 3 rfl rfl AB rfl (EU _ _) (BL fun _=>rfl) ?_)
 refine ao ?_
 refine TO.Aj 1 rfl rfl rfl vq LD rfl JS rfl rfl ?_
 refine ao ?_
 refine Tr.drop 0 (Tr.drop 1 (Tr.ret (Fin.Dn rfl (A7.cell 0 rfl rfl Up JS rfl Lr) ?_)))
 · exact Lr
structure Bz where
 BJ:Int
 kind:Int
 number:Int
 at_:Int
 HS:U8
abbrev DP (c:Bz):List Pr:=[int c.BJ,int c.kind,int c.number,int c.at_,int c.HS.Bh,int c.HS.bits,int c.HS.El,Nv c.HS.chain]
theorem RC.perm {P:Program} {f:FuncId} {args:List Pr} {pre post post':List An} {res:Pr} (h:RC P f args pre res post) (hp:post.Perm post'):RC P f args pre res post':=
 ⟨h.1,fun M0 w0 S rs M w vs hI hv=>(h.2 M0 w0 S rs M w vs hI hv).mono fun _e _w' ⟨v,M',x,h1,h2,h3,h4,h5⟩=>⟨v,M',x,h1,h2,h3,h4,At.perm (hp.append_right rs) h5⟩⟩
def sH (x:U8):Bool:=decide (x.Bh=0∧x.bits=0)&&x.El==0&&(((x.chain.length:Nat):Int)==0)
def zy (c:Bz):Bool:=if c.kind=1 then sH c.HS else if c.kind=5 then c.number==0 else c.at_==0&&sH c.HS
structure E4.small (e:E4):Prop where
 B6:e.B6.length≤1000000
 anchors:e.anchors.length≤1000000
 hashes:e.hashes.length≤1000000
 idl:e.ids.length≤1000000
 ids:∀x∈e.ids,x.small
theorem pI {c:Bz} (hx:c.HS.small):BD prog 155 [agg (DP c)] (agg (DP c)):=by
 refine fo func155 rfl ⟨rfl,rfl⟩ fun M0 w0=>(Tr.seq (Tr.A0 ?_))
 refine TO.S6 rfl rfl AB rfl LD (fun b1=> ?_)
 refine Tl rfl rfl rfl rfl Km Gz (fun b2=> ?_)
 refine ap ?_
 refine ap ?_
 refine tp rfl (C8 (iT (x:=c.HS) hx) rfl rfl) ?_
 refine ap ?_
 refine ap ?_
 refine Tr.drop 1 (Tr.ret (Fin.Dn rfl (A7.cell 0 rfl rfl CT Be rfl Lr) ?_))
 · exact Lr
def Je:E4:=⟨[],0,0,[],false,[],[],[],false⟩
def SO:U8:=⟨0,0,0,[]⟩
def pJ:Bz:=⟨0,0,0,0,SO⟩
def ADa (c:Bz):Prop:=(1≤c.kind∧c.kind≤12)∧zy c=true
instance (c:Bz):Decidable (ADa c):=inferInstanceAs (Decidable (_∧_))
structure sI (e:E4):Prop where
 name:JK e.name=true
 least:1≤e.least
 lm:e.least≤e.most
 most:e.most≤4
 B6:Fq e.B6=true
 idl:e.ids.length≤4
 xM:e.anchors.length≤16
 anc:XJ e.anchors=true
 hash:XJ e.hashes=true
 ids:e.ids.all bh=true
 keys:e.anchors.all Fw=true
 hsh:e.hashes.all Jd=true
theorem EN {e:E4}:PG e=true↔sI e:=by
 unfold PG;simp only [Bool.and_eq_true,decide_eq_true_eq]
 exact ⟨fun ⟨⟨⟨⟨⟨⟨⟨⟨a,b⟩,c⟩,d⟩,f⟩,⟨⟨⟨g,h⟩,i⟩,j⟩⟩,k⟩,l⟩,m⟩=>⟨a,b,c,d,f,g,h,i,j,k,l,m⟩,fun ⟨a,b,c,d,f,g,h,i,j,k,l,m⟩=>⟨⟨⟨⟨⟨⟨⟨⟨a,b⟩,c⟩,d⟩,f⟩,⟨⟨⟨g,h⟩,i⟩,j⟩⟩,k⟩,l⟩,m⟩⟩
theorem bA:SO.small:=⟨by show 0≤_;omega,fun c hc=>by cases hc⟩
theorem iU {d:Nat} {w:World} {x0 y0:Int} {x1 y1:Int}:(Op.equalIn (d+2) 187 (.agg #[.int .i64 x0,.int .i64 x1]) (.agg #[.int .i64 y0,.int .i64 y1])).run Tryz.prog w= .ok (decide (x0=y0∧x1=y1)) w:=by
 have h:=eqS (w:=w) (d:=d+1) (xs:= #[.int .i64 x0,.int .i64 x1]) (ys:= #[.int .i64 y0,.int .i64 y1]) Tryz.underlying187 BS (Hr AB (DR CX rfl) (DR CX rfl) (KA (d:=d+0) Tryz.underlying3) (Hr AB (DR CX rfl) (DR CX rfl) (KA (d:=d+0) Tryz.underlying3) (TX)))
 refine h.trans (congrArg (fun b=>Result.ok b w) ?_)
 rw [Bool.eq_iff_iff];simp [and_assoc]
theorem iV {E:Env} {I:CS} {o:Oper} {u:TypeId} {x y:Operand} {x0 y0:Int} {x1 y1:Int} (ho:o.op= .binOp .eql 187 x y u) (hx:VL E x (agg [is (.int .i64 x0),is (.int .i64 x1)])) (hy:VL E y (agg [is (.int .i64 y0),is (.int .i64 y1)])):Ad Tryz.prog I o E (bool (decide (x0=y0∧x1=y1))):=
 Pv [.int .i64 x0,.int .i64 x1] [.int .i64 y0,.int .i64 y1] ho hx hy BS (fun w=>by rw [show Op.equal 187 _ _=Op.equalIn (9998+2) 187 _ _ from rfl];exact iU)
theorem iW {E:Env} {I:CS} {o:Oper} {u:TypeId} {x y:Operand} {x0 y0:Int} {x1 y1:Int} (ho:o.op= .binOp .neq 187 x y u) (hx:VL E x (agg [is (.int .i64 x0),is (.int .i64 x1)])) (hy:VL E y (agg [is (.int .i64 y0),is (.int .i64 y1)])):Ad Tryz.prog I o E (bool (!decide (x0=y0∧x1=y1))):=
 Pw [.int .i64 x0,.int .i64 x1] [.int .i64 y0,.int .i64 y1] ho hx hy BS (fun w=>by rw [show Op.equal 187 _ _=Op.equalIn (9998+2) 187 _ _ from rfl];exact iU)
deriving instance DecidableEq for HR
deriving instance DecidableEq for U8
deriving instance DecidableEq for E4
deriving instance DecidableEq for Bz
theorem O4 {α:Type} {a b:List α} {k:Nat} {x y:α} (ha:a[k]? =some x) (hb:b[k]? =some y) (h:a.take k=b.take k) (e:x=y):a.take (k+1)=b.take (k+1):=by
 rw [List.take_add_one,List.take_add_one,ha,hb,h,e]
theorem Yj {α:Type} {a b:List α} {k:Nat} {x y:α} (ha:a[k]? =some x) (hb:b[k]? =some y) (e:¬x=y):¬a=b:=by
 rintro rfl;rw [ha] at hb;cases hb;exact e rfl
theorem Yk {α:Type} {a b:List α} (hl:a.length=b.length) (h:a.take a.length=b.take a.length):a=b:=by
 rw [List.take_length,hl,List.take_length] at h;exact h
theorem XM {a b:HR} (hn:a.names.length≤8796093022208):BD prog 207 [agg (DF a),agg (DF b)] (bool (decide (a=b))):=by
 refine fo func207 rfl ⟨rfl,rfl⟩ fun M0 w0=> ?_
 refine ac ?_
 refine ag ?_ ?_<;>intro h1 q1
 refine ac ?_
 refine wk [89,3,2] rfl ?_
 refine a2 ?_
 · exact Ev
 refine ag ?_ ?_<;>intro h2 q2
 refine ac ?_
 refine wk [89,3,2] rfl ?_
 refine a2 ?_
 · exact Ev
 refine ag ?_ ?_<;>intro h3 q3
 refine ac ?_
 refine wk [89,3,2] rfl ?_
 refine a2 ?_
 · exact Ev
 refine ac ?_
 refine cy h3 rfl (Ti rfl vq vq) ?_
 refine ag ?_ ?_<;>intro h4 q4
 refine ac ?_
 refine wk [89,3,2] rfl ?_
 refine a2 ?_
 · exact Ev
 refine ag ?_ ?_<;>intro h5 q5
 refine ac ?_
 refine wk [89,3,2] rfl ?_
 refine a2 ?_
 · exact Ev
 refine ac ?_
 refine cy h5 rfl (Ti rfl vq vq) ?_
 refine ag ?_ ?_<;>intro h6 q6
 refine ac ?_
 refine wk [89,3,2] rfl ?_
 refine a2 ?_
 · exact Ev
 refine ag ?_ ?_<;>intro h7 q7
 refine ac ?_
 refine wk [89,3,2] rfl ?_
 refine a2 ?_
 · exact Ev
 refine ag ?_ ?_<;>intro h8 q8
 refine ac ?_
 refine wk [89,3,2] rfl ?_
 refine a2 ?_
 · exact Ev
 refine ac ?_
 refine cy h8 rfl (S7 rfl underlying4 vq vq) ?_
 refine ag ?_ ?_<;>intro h9 q9
 refine ac ?_
 refine wk [89,3,2] rfl ?_
 refine a2 ?_
 · exact Ev
 refine ag ?_ ?_<;>intro h10 Q2
 refine ac ?_
 refine wk [89,3,2] rfl ?_
 refine a2 ?_
 · exact Ev
 refine ac ?_
 refine cy h10 rfl (iW rfl vq vq) ?_
 refine ag ?_ ?_<;>intro h11 U7
 refine ac ?_
 refine wk [89,3,2] rfl ?_
 refine a2 ?_
 · exact Ev
 refine ac ?_
 refine wk [89,3,2] rfl ?_
 refine Tr.cn rfl ?_ ?_<;>intro h12 Ze
 refine a2 ?_
 · exact Ev
 have Q0:a.names.length=b.names.length:=by simp_all;omega
 refine a2 ?_
 refine Tr.block (Tr.Ax _ (kk [92,3,2] rfl) (fun k:Nat=>[(93,int ((k:Nat):Int))]) (fun k:Nat=>k≤(a.names).length∧(a.names.take k=b.names.take k)) (fun k:Nat=>(a.names).length-k) 0 (⟨Nat.zero_le _,rfl⟩) kz ?_)
 rintro k ⟨BK,AL⟩
 refine ac ?_
 refine Tr.seq ?_
 refine Tr.cn rfl ?_ ?_<;>intro L4 XK
 have Aa:k<(a.names).length:=AH L4
 obtain ⟨x,AX⟩:=at_ Aa
 obtain ⟨y,hy⟩:=at_ (l:=b.names) (k:=k) AA
 · repeat' first|(refine bool_eq ?_;symm;rw [decide_eq_false_iff_not];rintro rfl;rw [AX] at hy;cases hy;simp_all)|exact Fin.AM (k+1) ⟨⟨Aa,O4 AX hy AL Cc⟩,by omega⟩ ⟨⟨_,rfl,AF k⟩,kz⟩|refine co rfl (AD rfl underlying127 LZ vq vq AA (Ac AX)) ?_|refine co rfl (AD rfl underlying127 LZ vq vq AA (Ac hy)) ?_|refine ac ?_|(refine Tr.cn rfl ?_ ?_<;>intro h q)
 have Az:k=(a.names).length:=by have:=AJ L4;omega
 subst Az
 refine a3 ?_
 · refine bool_eq ?_;have hnn:=Yk Q0 AL;clear AL Q0;cases a;cases b;simp_all
theorem XN {a b:U8} (hs:a.small):BD prog 162 [agg (Ks a),agg (Ks b)] (bool (decide (a=b))):=by
 refine fo func162 rfl ⟨rfl,rfl⟩ fun M0 w0=> ?_
 have hsc:=hs.chain
 refine a2 ?_
 refine co rfl (Ti rfl vq vq) (cm rfl ?_)
 refine Ch.cs 11 rfl ?_ ?_<;>intro h1 q1
 refine ac ?_
 refine wk [26,3,2] rfl ?_
 refine a2 ?_
 · exact Ev
 refine ag ?_ ?_<;>intro h2 q2
 refine ac ?_
 refine wk [26,3,2] rfl ?_
 refine a2 ?_
 · exact Ev
 refine ac ?_
 refine wk [26,3,2] rfl ?_
 refine Tr.cn rfl ?_ ?_<;>intro h3 q3
 refine a2 ?_
 · exact Ev
 have Q0:a.chain.length=b.chain.length:=by simp_all;omega
 refine a2 ?_
 refine Tr.block (Tr.Ax _ (kk [29,3,2] rfl) (fun k:Nat=>[(30,int ((k:Nat):Int))]) (fun k:Nat=>k≤(a.chain).length∧(a.chain.take k=b.chain.take k)) (fun k:Nat=>(a.chain).length-k) 0 (⟨Nat.zero_le _,rfl⟩) kz ?_)
 rintro k ⟨BK,AL⟩
 refine ac ?_
 refine Tr.seq ?_
 refine Tr.cn rfl ?_ ?_<;>intro h4 q4
 have Aa:k<(a.chain).length:=AH h4
 obtain ⟨x,AX⟩:=at_ Aa
 obtain ⟨y,hy⟩:=at_ (l:=b.chain) (k:=k) AA
 have hxn:=hs.names x (List.mem_of_getElem? AX)
 · repeat' first|(refine bool_eq ?_;symm;rw [decide_eq_false_iff_not];rintro rfl;rw [AX] at hy;cases hy;simp_all)|exact Fin.AM (k+1) ⟨⟨Aa,O4 AX hy AL Cc⟩,by omega⟩ ⟨⟨_,rfl,AF k⟩,kz⟩|refine co rfl (AD rfl underlying82 C6 vq vq AA (Ac AX)) ?_|refine co rfl (AD rfl underlying82 C6 vq vq AA (Ac hy)) (co rfl (AK rfl FM C6 vq rfl rfl) (co rfl (C4 (XM hxn) rfl rfl rfl) ?_))|refine ac ?_|(refine Tr.cn rfl ?_ ?_<;>intro h q)
 have Az:k=(a.chain).length:=by have:=AJ h4;omega
 subst Az
 refine a3 ?_
 · refine bool_eq ?_;have hnn:=Yk Q0 AL;clear AL Q0 hs;cases a;cases b;simp_all
theorem cA {a b:Bz} (hs:a.HS.small):BD prog 106 [agg (DP a),agg (DP b)] (bool (decide (a=b))):=by
 refine fo func106 rfl ⟨rfl,rfl⟩ fun M0 w0=> ?_
 · repeat' first|(clear hs;refine bool_eq ?_;cases a;cases b;simp_all [Bool.beq_eq_decide_eq])|refine cy h rfl (C4 (XN hs) rfl rfl rfl) ?_|refine ac ?_|(refine Ch.cg rfl rfl rfl ?_ ?_<;>intro h q)
end Go.Proofs.YtmocaapoeefgkaaGreatDoor
