/-
  Part 3 of the texts that prove this claim, merged.
-/
import Derived.Lib.Bytealg
import Derived.Test.YtppeeogffbpcbaaGreatRows
import Derived.HandedShaped
import Derived.Test.YtppeeogffbpcbaaGreatHlBP2
set_option linter.all false
set_option maxRecDepth 40000
set_option maxHeartbeats 16000000
namespace Cp
open Go Go.RowKit Go.Great
def Le {α:Type} (P:Program) (f:FuncId) (args:List Pr) (pre:List BS) (C:α→Prop) (res:α→Pr) (post:α→List BS):Prop:=Entry P f∧∀M0 w0 S rs M w vs,Bl M0 w0 S (pre++rs) M w→HL M w args vs→
 Calls P f vs.toArray w fun e w'=>∃v M' x,e= .returned v∧C x∧(res x).h M' w' v∧Ext M w M' w'∧Bl M0 w0 S (post x++rs) M' w'
def LL {α:Type} (M0:Av) (w0:World) (S:Nat→Prop) (rs:List BS) (M1:Av) (w1:World) (C:α→Prop) (res:α→Pr) (post:α→List BS) (e:Ending) (w':World):Prop:=∃v M' x,e= .returned v∧C x∧(res x).h M' w' v∧Ext M1 w1 M' w'∧Bl M0 w0 S (post x++rs) M' w'
section
variable {P:Program} {L:Lg P} {n:Fm} {fz:Nat} {E:Env} {M0:Av} {w0:World} {S:Nat→Prop} {rs:List BS} {α:Type} {pre:List BS} {C:α→Prop} {res:α→Pr} {post:α→List BS} {M1:Av} {w1:World} {g:Func} {o:Oper} {r:List Oper} {ops:Array Oper}
theorem Le.of {f : FuncId} {c : Code} {ps : List Pr} (hf : P.funcs[f]? = some g) (hb : g.body = some c) (hname : (g.name == "runtime.NumGoroutine") = false) (hlen : ps.length ≤ g.ntmps)
  (h:∀M0 w0 S rs M1 w1,Tr (UN P) g.ntmps (LW 0 ps) (Hp M0 w0 S (pre++Bc M1 w1::rs)) c (bodyPost P g (LL M0 w0 S rs M1 w1 C res post))):Le P f ps pre C res post:=by
 refine ⟨⟨g,hf,hname,by rw [hb];rfl⟩,fun M0 w0 S rs M w vs hI hv=> ?_⟩
 refine calls_of_wp hf hb (h M0 w0 S rs M w _ _ ⟨M,?_,rfl,Iw hv,?_⟩)
 ·
  have:=hv.length
  simp [this];omega
 · exact Bl.perm List.perm_middle.symm (Bl.Nw hI (r:=Bc M w) rfl (Ext.refl _ _))
theorem Bl.G_ {M:Av} {w:World} {f:FuncId} {args:List Pr} {rest:List BS} (hf:Le P f args pre C res post) (hp:rs.Perm (pre++rest)) (hI:Bl M0 w0 S rs M w) {vs:List Value} (hv:HL M w args vs):
  Calls P f vs.toArray w fun e w'=>∃v M' x,e= .returned v∧C x∧(res x).h M' w' v∧Ext M w M' w'∧Bl M0 w0 S (post x++rest) M' w':=hf.2 M0 w0 S rest M w vs (Bl.perm hp hI) hv
theorem TO.G_ {Q:Exit→Act→World→Prop} {f:FuncId} {xs:Array Operand} {ts:Array TypeId} {ps:List Pr} (rest:List BS) {d:Nat} (hg:o.guard=none) (hd:o.dst=some d) (hn:d<n) (ho:o.op= .call { callee:= .value (.func f),args:=xs,argTypes:=ts }) (hf:Le P f ps pre C res post)
  (hv:FD E xs.toList ps) (hp:rs.Perm (pre++rest)) (k:∀x,C x→TO P n ops r ((d,res x)::E) (Hp M0 w0 S (post x++rest)) Q):TO P n ops (o::r) E (Hp M0 w0 S rs) Q:=
 TO.UQ hg fun K M w a hsz hdf he hI hK=>by
  have hI:Bl M0 w0 S rs M w:=hI
  have h1:=FD.EJ (o:=o) (Ca he) (xs:=xs.toList) (fun x hx=>by simp [ho,Op.operands,Call.operands];exact .inr (by simpa using hx)) hv
  have hrun:(execOp a.eval o).run P w= .ok (.enter f (xs.toList.map a.eval).toArray) w:=by
   simp [execOp,ho,resolve,Deferred.ofValue,Act.eval,invoke,DR hf.1,E5 xs]
  unfold Oper.wp
  rw [hrun]
  refine (Bl.G_ hf hp hI h1).mono ?_
  rintro e w' ⟨v,M',x,rfl,hC,h2,h3,h4⟩
  refine hK _ _ _ _ (k x hC) ⟨M',by rw [CF];exact hsz,by rw [put_defers];exact hdf,?_,h4⟩
  intro s q hq
  simp only [List.lookup] at hq
  by_cases hs:s=d
  · subst hs;simp at hq;subst hq;rw [hd,B4 (by rw [hsz];exact hn)];exact h2
  · rw [show (s==d)=false by simpa using hs] at hq;rw [hd,CD hs];exact q.st _ _ _ _ _ h3 (he s q hq)
theorem ZW {l:List BS} {M:Av} {w:World} (h:Bl M0 w0 S (l++Bc M1 w1::rs) M w):Ext M1 w1 M w∧Bl M0 w0 S (l++rs) M w:=
 ⟨(h.hold (Bc M1 w1) (by simp)).1,(Bl.perm List.perm_middle h).LF⟩
theorem Fin.kr {rv:ResultVar} {q:Pr} {rs':List BS} (x:α) (hr:g.results= #[rv]) (h:AL P E rs' rv q) (hC:C x) (hl:Pr.le q (res x)) (hp:rs'.Perm (post x++Bc M1 w1::rs)):
  Fin ⟨fz,[]⟩ E (Hp M0 w0 S rs') (bodyPost P g (LL M0 w0 S rs M1 w1 C res post)) .ret:=by
 rintro a w ⟨M,_,hd,he,hi⟩
 have hi:Bl M0 w0 S rs' M w:=hi
 obtain ⟨v,hv,Jq⟩:=h M w a he (fun q hq=>(hi.hold q hq).1)
 obtain ⟨h1,h2⟩:=ZW (Bl.perm hp hi)
 exact ⟨hd,v,results1 hr hv,_,M,x,rfl,hC,hl _ _ _ Jq,h1,h2⟩
theorem Fin.ku {rv rv':ResultVar} {q q':Pr} {rs':List BS} (x:α) (hr:g.results= #[rv,rv']) (h:AL P E rs' rv q) (h':AL P E rs' rv' q') (hC:C x) (hl:Pr.le (Eu [q,q']) (res x)) (hp:rs'.Perm (post x++Bc M1 w1::rs)):
  Fin ⟨fz,[]⟩ E (Hp M0 w0 S rs') (bodyPost P g (LL M0 w0 S rs M1 w1 C res post)) .ret:=by
 rintro a w ⟨M,_,hd,he,hi⟩
 have hi:Bl M0 w0 S rs' M w:=hi
 obtain ⟨v,hv,Np⟩:=h M w a he (fun q hq=>(hi.hold q hq).1)
 obtain ⟨v',dn,UW⟩:=h' M w a he (fun q hq=>(hi.hold q hq).1)
 obtain ⟨h1,h2⟩:=ZW (Bl.perm hp hi)
 exact ⟨hd,_,results2 hr hv dn,_,M,x,rfl,hC,hl _ _ _ ⟨[_,_],rfl,Np,UW,trivial⟩,h1,h2⟩
end
section
variable {P:Program} {L:Lg P} {n:Fm} {fz:Nat} {E:Env} {M0:Av} {w0:World} {S:Nat→Prop} {rs:List BS} {o:Oper}
def ey:Value→Option Nat
 | .slice (some a) _ (_+1)=>some a.block
 |_=>none
def Ap (e:TypeId) (sz:Nat) (rows:List (List Pr)) (v:Value):BS where
 Iv:=ey v
 new:=true
 h M w:=(rows=[]∧∃A,v= .slice A 0 0)∨(∃(b cap:Nat) (spare:List Value),v= .slice (some ⟨b,0,none⟩) rows.length (cap+1)∧rows.length≤cap+1∧cap+1≤maxLen∧spare.length=(cap+1-rows.length)*sz∧(AA true b e (rows.flatten++spare.map is)).h M w)
 st M w M' w' he hk h:=by
  rcases h with h|⟨b,cap,spare,rfl,h1,h2,h3,h4⟩
  · exact .inl h
  · exact .inr ⟨b,cap,spare,rfl,h1,h2,h3,(AA true b e _).st _ _ _ _ he hk h4⟩
theorem Bb {α:Type} {l:List α} {j:Nat} {x:α} (h:l[j]? =some x):j<l.length:=by
 rcases Nat.lt_or_ge j l.length with h'|h'
 · exact h'
 · rw [List.getElem?_eq_none h'] at h;cases h
theorem Bl.blank {M:Av} {w:World} {j:Nat} {r:BS} (h:Bl M0 w0 S rs M w) (hj:rs[j]? =some r):Bl M0 w0 S (rs.set j Bw) M w:=
 Bl.perm (Jw (Bb hj)) ((Bl.perm (AK hj) h).LF.Nw (r:=Bw) rfl trivial)
theorem M_ (sz:Nat) (A:Option Addr) (M:Av) (w:World):(slice sz []).h M w (.slice A 0 0):=⟨A,0,rfl,Nat.le_refl _,Nat.zero_le _,fun _=>rfl,fun i row h=>by simp at h⟩
theorem OS (sz:Nat) (A:Option Addr) (M:Av) (w:World):(full sz []).h M w (.slice A 0 0):=⟨M_ sz A M w,A,rfl⟩
theorem Bl.ZX {M:Av} {w:World} {sz:Nat} {e:TypeId} {rows:List (List Pr)} {v:Value} {j:Nat} (h:Bl M0 w0 S rs M w) (hj:rs[j]? =some (Ap e sz rows v)) (hl:∀r∈rows,r.length=sz):
  ∃M',Ext M w M' w∧Bl M0 w0 S (rs.set j Bw) M' w∧(slice sz rows).h M' w v:=by
 have hjl:=Bb hj
 rcases (h.hold _ (List.mem_of_getElem? hj)).1 with ⟨rfl,A,rfl⟩|⟨b,cap,spare,rfl,hnc,hcm,hsp,Tj⟩
 · exact ⟨M,Ext.refl _ _,h.blank hj,M_ sz A M w⟩
 ·
  have hC:=h.Dr (r':=AA true b e (rows.flatten++spare.map is)) hj rfl rfl Tj
  obtain ⟨M',h1,h2,h3⟩:=Bl.ZG hC (List.getElem?_set_self hjl) hl hnc hcm (by rw [List.length_map];exact hsp)
  have h4:=h2.blank (j:=j) (by rw [List.set_set];exact List.getElem?_set_self hjl)
  rw [List.set_set,List.set_set] at h4
  exact ⟨M',h1,h4,h3⟩
theorem HL.set {M:Av} {w:World} {ps:List Pr} {vs:List Value} {k:Nat} {p q:Pr} (h:HL M w ps vs) (hk:ps[k]? =some p) (hq:∀u,p.h M w u→q.h M w u):HL M w (ps.set k q) vs:=by
 refine Th (by rw [h.length];simp) fun k' p' hk'=> ?_
 rw [List.getElem?_set] at hk'
 split at hk'
 ·
  rename_i e1
  subst e1
  split at hk'
  ·
   obtain ⟨u,hu,dP⟩:=h.at_ k p hk
   simp at hk';subst hk'
   exact ⟨u,hu,hq u dP⟩
  · cases hk'
 · exact h.at_ k' p' hk'
theorem Bl.J7 {M:Av} {w:World} {i j k sz b:Nat} {new:Bool} {T e:TypeId} {ps:List Pr} {rows:List (List Pr)} {v:Value} (h:Bl M0 w0 S rs M w) (hi:rs[i]? =some (AA new b T ps)) (hj:rs[j]? =some (Ap e sz rows v)) (hij:j≠i) (hk:ps[k]? =some (is v)) (hl:∀r∈rows,r.length=sz):
  ∃M',Ext M w M' w∧Bl M0 w0 S ((rs.set j Bw).set i (AA new b T (ps.set k (slice sz rows)))) M' w:=by
 obtain ⟨M',h1,h2,h3⟩:=h.ZX hj hl
 have hi':(rs.set j Bw)[i]? =some (AA new b T ps):=by rw [List.getElem?_set_ne hij];exact hi
 refine ⟨M',h1,h2.Dr hi' rfl rfl ?_⟩
 obtain ⟨g1,cs,g2,g3,g4⟩:=(h2.hold _ (List.mem_of_getElem? hi')).1
 exact ⟨g1,cs,g2,g3.set hk (fun u hu=>by rw [show u=v from hu];exact h3),g4⟩
theorem BE.I0 {f:FuncId} {e:TypeId} {sz:Nat} {rows:List (List Pr)} {v:Value} {ps:List Pr} {res:Pr} {R':Value→BS} (hE:Entry P f) (h0:rows=[]→BE P f (full sz []::ps) res Bw R')
  (h1:∀(b cap:Nat) (sp:List Value),rows.length≤cap→cap≤maxLen→sp.length=(cap-rows.length)*sz→BE P f (Ay (.slice (some ⟨b,0,none⟩) rows.length cap) (lens rows.length)::ps) res (AA true b e (rows.flatten++sp.map is)) R'):
  BE P f (is v::ps) res (Ap e sz rows v) R':=by
 refine ⟨hE,fun M0 w0 S rs M w vs hI hv=> ?_⟩
 match vs,hv with
 |u0::vs1,HH=>
  obtain ⟨Iu,HG⟩:=HH
  obtain rfl:u0=v:=Iu
  rcases (hI.hold _ (List.mem_cons_self ..)).1 with ⟨hnil,A,rfl⟩|⟨b,cap,spare,rfl,hnc,hcm,hsp,Tj⟩
  · exact (h0 hnil).2 M0 w0 S rs M w _ (hI.blank (j:=0) rfl) (show HL M w (_::_) (_::vs1) from ⟨OS sz A M w,HG⟩)
  ·
   have hC:=hI.Dr (i:=0) (r':=AA true b e (rows.flatten++spare.map is)) rfl rfl rfl Tj
   exact (h1 b (cap+1) spare hnc hcm hsp).2 M0 w0 S rs M w _ hC (show HL M w (_::_) (_::vs1) from ⟨⟨rfl,_,_,rfl⟩,HG⟩)
theorem BE.NA {f:FuncId} {e:TypeId} {sz:Nat} {rows:List (List Pr)} {v:Value} {ps:List Pr} {res:Pr} [Kj res] (hl:∀r∈rows,r.length=sz) (h:A4 P f (slice sz rows::ps) res):
  BE P f (is v::ps) res (Ap e sz rows v) (fun _=>Ap e sz rows v):=by
 refine ⟨h.1,fun M0 w0 S rs M w vs hI hv=> ?_⟩
 match vs,hv with
 |u0::vs1,HH=>
  obtain ⟨Iu,HG⟩:=HH
  obtain rfl:u0=v:=Iu
  obtain ⟨M',hx,Ls,hs⟩:=Bl.ZX (j:=0) hI rfl hl
  refine (h.2 M' w _ Ls.bd (show HL M' w (_::_) (_::vs1) from ⟨hs,HG.st hx⟩)).mono ?_
  rintro e' w' ⟨u,rfl,h2,h3⟩
  exact ⟨u,M,rfl,Kj.free _ _ _ _ h2,Ext.below h3,(Hp M0 w0 S _).st _ _ _ h3 hI⟩
def part (sz:Nat) (v:Value) (k:Nat):Pr where
 h _ _ u:=∃a m c,v= .slice a m c∧k≤m∧u= .slice (if c=k then a else a.map fun x=>x.add (k*sz)) (m-k) (c-k)
 st _M _w _M' _w' _v _ h:=h
instance k4 (sz:Nat) (v:Value) (k:Nat):One (part sz v k):=⟨by rintro M w u ⟨a,m,c,h1,h2,rfl⟩;exact ⟨rfl,rfl⟩⟩
theorem Sa {sz k:Nat} {rows:List (List Pr)} {v u:Value} {M:Av} {w:World} (h:(slice sz rows).h M w v) (hu:(part sz v k).h M w u):(slice sz (rows.drop k)).h M w u:=by
 obtain ⟨A,cap,rfl,hc,hm,hA,hr⟩:=h
 obtain ⟨a,m,c,hv,hk,rfl⟩:=hu
 injection hv with e1 e2 e3
 subst e1;subst e2;subst e3
 refine ⟨_,cap-k,by rw [List.length_drop],by rw [List.length_drop];omega,by omega,fun hn=> ?_,fun i row hi=> ?_⟩
 ·
  split at hn
  · have:=hA hn;omega
  ·
   cases A with
   |none=>have:=hA rfl;omega
   |some x=>cases hn
 ·
  rw [List.getElem?_drop] at hi
  obtain ⟨h1,ad,rfl,h3⟩:=hr _ _ hi
  have:=Bb hi
  refine ⟨h1,ad.add (k*sz),by rw [if_neg (by omega)];rfl,fun j p hp=> ?_⟩
  obtain ⟨q,h4,h5,h6,h7⟩:=h3 j p hp
  have e:k*sz+(i*sz+j)=(k+i)*sz+j:=by rw [Nat.add_mul];omega
  exact ⟨q,by rw [add_add,e];exact h4,by rw [FM,It,Nat.add_assoc,e];exact h5,h6,h7⟩
theorem BE.ZG {f:FuncId} {args:List Pr} {e:TypeId} {sz m:Nat} {rows:List (List Pr)} {R:BS} (hl:∀r∈rows,r.length=sz) (h:BE P f args (lens m) R (fun v=>Dw e sz rows v)):BE P f args (slice sz rows) R (fun _=>Bw):=by
 refine ⟨h.1,fun M0 w0 S rs M w vs hI hv=>(h.2 M0 w0 S rs M w vs hI hv).mono ?_⟩
 rintro e' w' ⟨v,M',rfl,h2,h3,h4⟩
 obtain ⟨M2,j1,j2,j3⟩:=Bl.qR (j:=0) h4 rfl hl
 exact ⟨v,M2,rfl,j3,h3.trans j1,j2.blank (j:=0) rfl⟩
theorem BE.k5 {f:FuncId} {args:List Pr} {e:TypeId} {sz m:Nat} {rows:List (List Pr)} {R:BS} (hl:∀r∈rows,r.length=sz) (h:BE P f args (lens m) R (fun v=>C8 e sz rows v)):BE P f args (slice sz rows) R (fun _=>Bw):=
 BE.ZG hl (BE.Jd h)
theorem BE.Je {f:FuncId} {e:TypeId} {sz:Nat} {rows:List (List Pr)} {ps:List Pr} {res:Pr} {R:BS} (h0:rows≠[]) (h:BE P f ps res R (fun v=>C8 e sz rows v)):BE P f ps res R (fun v=>Ap e sz rows v):=by
 refine ⟨h.1,fun M0 w0 S rs M w vs hI hv=>(h.2 M0 w0 S rs M w vs hI hv).mono ?_⟩
 rintro e' w' ⟨v,M',rfl,h2,h3,h4⟩
 refine ⟨v,M',rfl,h2,h3,?_⟩
 have hpos:=List.length_pos_iff.2 h0
 obtain ⟨b,cap,spare,rfl,hnc,hcm,hsp,Tj⟩:=(h4.hold _ (List.mem_cons_self ..)).1
 cases cap with
 |zero=>omega
 |succ cap=>exact h4.Dr (i:=0) rfl rfl rfl (.inr ⟨b,cap,spare,rfl,hnc,hcm,hsp,Tj⟩)
theorem BE.NB {f:FuncId} {e:TypeId} {sz sz':Nat} {ps:List Pr} (h:A4 P f ps (full sz' [])):BE P f ps (lens 0) Bw (fun v=>Ap e sz [] v):=by
 refine ⟨h.1,fun M0 w0 S rs M w vs hI hv=>(h.2 M w vs hI.bd hv).mono ?_⟩
 rintro e' w' ⟨v,rfl,⟨_,a,rfl⟩,h3⟩
 refine ⟨_,M,rfl,⟨_,_,rfl⟩,Ext.below h3,?_⟩
 have Ls:Bl M0 w0 S (Bw::rs) M w':=(Hp M0 w0 S _).st _ _ _ h3 hI
 exact Ls.Dr (i:=0) (r':=Ap e sz [] (.slice a 0 0)) rfl (by cases a<;>rfl) rfl (.inl ⟨rfl,a,rfl⟩)
theorem Tp {t e:TypeId} {x y:Operand} {k:IntKind} {l:Int} {sz j:Nat} {T:TypeId} {rows:List (List Pr)} {v:Value} (ho:o.op= .slice t x (some y) none none) (ht:P.underlying t=some (.slice e)) (hz:Aw P e=some sz) (hx:VL E x (is v)) (hy:VL E y (is (.int k l))) (h0:0≤l) (hl:l≤rows.length):
  JS P M0 w0 S j (SR.c (Ap T sz rows v)) o E (part sz v l.toNat):=by
 intro M w a rs he hI hj
 have h1:a.eval x=v:=hx.ev he (by simp [ho,Op.operands])
 have h3:a.eval y= .int k l:=hy.ev he (by simp [ho,Op.operands])
 have hj':rs[j]? =some (Ap T sz rows v):=hj
 rcases (hI.hold _ (List.mem_of_getElem? hj')).1 with ⟨rfl,A,hv⟩|⟨b,cap,spare,hv,hnc,hcm,hsp,Tj⟩
 ·
  have Q1:l=0:=by simp at hl;omega
  subst Q1
  have hrun:(execOp a.eval o).run P w= .ok (.value (.slice A 0 0)) w:=by
   simp [execOp,ho,h1,h3,hv,Instr.sliceAt,Instr.slice,run_underlying ht,Instr.sliceBounds,Instr.sliceBound,asIntOf,Bm hz]
  rw [hrun]
  exact ⟨⟨A,0,0,hv,Nat.le_refl _,by simp⟩,Below.refl _ _⟩
 ·
  have hrun:(execOp a.eval o).run P w= .ok (.value (.slice (if cap+1=l.toNat then some ⟨b,0,none⟩ else some ⟨b,l.toNat*sz,none⟩) (rows.length-l.toNat) (cap+1-l.toNat))) w:=by
   by_cases hne:cap+1=l.toNat<;>
   simp [execOp,ho,h1,h3,hv,Instr.sliceAt,Instr.slice,run_underlying ht,Instr.sliceBounds,Instr.sliceBound,asIntOf,h0,hl,Bm hz,hne,Cv]
  rw [hrun]
  refine ⟨⟨_,_,_,hv,by omega,?_⟩,Below.refl _ _⟩
  simp [Cv]
def iG (sz:Nat) (v:Value) (i o:Nat):Pr where
 h _ _ u:=∃a m c,v= .slice (some a) m c∧u= .pointer (some (a.add (i*sz+o)))
 st _M _w _M' _w' _v _ h:=h
instance oH (sz:Nat) (v:Value) (k o:Nat):One (iG sz v k o):=⟨by rintro M w u ⟨a,m,c,h1,rfl⟩;exact ⟨rfl,rfl⟩⟩
theorem FT {t e:TypeId} {x y:Operand} {k:IntKind} {l:Int} {sz j:Nat} {T:TypeId} {rows:List (List Pr)} {v:Value} (ho:o.op= .indexAddr t x y) (ht:P.underlying t=some (.slice e)) (hz:Aw P e=some sz) (hx:VL E x (is v)) (hy:VL E y (is (.int k l))) (h0:0≤l) (hl:l<rows.length):
  JS P M0 w0 S j (SR.c (Ap T sz rows v)) o E (iG sz v l.toNat 0):=by
 intro M w a rs he hI hj
 have h1:a.eval x=v:=hx.ev he (by simp [ho,Op.operands])
 have h3:a.eval y= .int k l:=hy.ev he (by simp [ho,Op.operands])
 have hj':rs[j]? =some (Ap T sz rows v):=hj
 rcases (hI.hold _ (List.mem_of_getElem? hj')).1 with ⟨rfl,A,hv⟩|⟨b,cap,spare,hv,hnc,hcm,hsp,Tj⟩
 · simp at hl;omega
 ·
  have hrun:(execOp a.eval o).run P w= .ok (.value (.pointer (some ((⟨b,0,none⟩:Addr).add (l.toNat*sz))))) w:=by
   simp [execOp,ho,h1,h3,hv,Instr.indexAt,asIntOf,run_underlying ht,Bm hz,h0,hl]
  rw [hrun]
  exact ⟨⟨_,_,_,hv,rfl⟩,Below.refl _ _⟩
theorem Sb {I:Ci} {t:TypeId} {x:Operand} {f sz i q off:Nat} {v:Value} (ho:o.op= .fieldAddr t x f) (hf:Ag P t f=some off) (hx:VL E x (iG sz v i q)):Af P I o E (iG sz v i (q+off)):=
 Af.same fun M w a he _=>by
  obtain ⟨a0,m0,c0,hv,h1⟩:=hx.ev he (by simp [ho,Op.operands])
  exact ⟨.pointer (some ((a0.add (i*sz+q)).add off)),by simp [execOp,ho,h1,IF hf],a0,m0,c0,hv,by rw [add_add,Nat.add_assoc]⟩
theorem FU {t:TypeId} {x:Operand} {sz j i:Nat} {T:TypeId} {rows:List (List Pr)} {row:List Pr} {v:Value} (ho:o.op= .load t x) (ht:FO P t=true) (hz:Aw P t=some sz) (hx:VL E x (iG sz v i 0)) (hl:∀r∈rows,r.length=sz) (hi:rows[i]? =some row):
  JS P M0 w0 S j (SR.c (Ap T sz rows v)) o E (agg row):=by
 intro M w a rs he hI hj
 obtain ⟨a0,m0,c0,dV,h1⟩:=hx.ev he (by simp [ho,Op.operands])
 rw [Nat.add_zero] at h1
 have hj':rs[j]? =some (Ap T sz rows v):=hj
 rcases (hI.hold _ (List.mem_of_getElem? hj')).1 with ⟨rfl,A,hv⟩|⟨b,cap,spare,hv,hnc,hcm,hsp,⟨_,cs,h4,h5,h6⟩⟩
 · simp at hi
 ·
  rw [dV] at hv
  injection hv with e1 e2 e3
  injection e1 with e1
  subst e1
  have E3:=Bb hi
  have hrl:=hl row (List.mem_of_getElem? hi)
  have hfl:=CO hl
  have hle:(i+1)*sz≤rows.length*sz:=Nat.mul_le_mul_right sz E3
  rw [Nat.add_mul] at hle
  have h7:HL M w row ((cs.drop (i*sz)).take sz):=by
   have h8:=(h5.drop (i*sz)).take sz
   have e4:((rows.flatten++spare.map is).drop (i*sz)).take sz=row:=by
    refine List.ext_getElem? fun j=> ?_
    rw [List.getElem?_take]
    split
    ·
     rename_i hj
     rw [List.getElem?_drop,List.getElem?_append_left (by rw [hfl];omega),HU hl hi hj]
    · rw [List.getElem?_eq_none (by omega)]
   rwa [e4] at h8
  have hl':((cs.drop (i*sz)).take sz).length=sz:=by rw [h7.length,hrl]
  have hrun:(loadCells ((⟨b,0,none⟩:Addr).add (i*sz)) sz).run P w= .ok ((cs.drop (i*sz)).take sz).toArray w:=by
   have:=run_loadCells_list (P:=P) w ((⟨b,0,none⟩:Addr).add (i*sz)) ((cs.drop (i*sz)).take sz) (fun k u hk=>by
    rw [add_add,Cv]
    rw [List.getElem?_take] at hk
    split at hk
    · rw [List.getElem?_drop] at hk;simp [World.cell?,h4,hk]
    · cases hk)
   rwa [hl'] at this
  have DT:(execOp a.eval o).run P w= .ok (.value (.agg ((cs.drop (i*sz)).take sz).toArray)) w:=by simp [execOp,ho,h1,Instr.loadAt,Instr.sureAddr,loadVar,DV ht,Bm hz,hrun]
  rw [DT]
  exact ⟨⟨_,rfl,fun c hc=>h6 c (List.mem_of_mem_drop (List.mem_of_mem_take hc)),h7⟩,Below.refl _ _⟩
theorem Q2 {sz:Nat}:∀{rows:List (List Pr)} {i:Nat} {row:List Pr} {o:Nat} {qs S:List Pr},(∀r∈rows,r.length=sz)→rows[i]? =some row→o+qs.length≤sz→
  (rows.flatten++S).take (i*sz+o)++qs++(rows.flatten++S).drop (i*sz+o+qs.length)=(rows.set i (row.take o++qs++row.drop (o+qs.length))).flatten++S
 |[],_,_,_,_,_,_,h,_=>by simp at h
 |a::l,0,row,o,qs,S,hl,h,ho=>by
  simp at h;subst h
  have h1:=hl a (by simp)
  rw [List.set_cons_zero,List.flatten_cons,List.flatten_cons,Nat.zero_mul,Nat.zero_add,List.append_assoc a,List.take_append_of_le_length (by omega),List.drop_append_of_le_length (by omega)]
  simp
 |a::l,i+1,row,o,qs,S,hl,h,ho=>by
  have h1:=hl a (by simp)
  have ih:=Q2 (S:=S) (fun r hr=>hl r (List.mem_cons_of_mem _ hr)) (i:=i) (row:=row) (o:=o) (qs:=qs) (by simpa using h) ho
  rw [List.set_cons_succ, List.flatten_cons, List.flatten_cons, List.append_assoc a, List.append_assoc a, ← ih, List.take_append, List.drop_append, List.take_of_length_le (by rw [h1, Nat.succ_mul]; omega), List.drop_of_length_le (by rw [h1, Nat.succ_mul]; omega),
   show (i+1)*sz+o-a.length=i*sz+o by rw [h1,Nat.succ_mul];omega,show (i+1)*sz+o+qs.length-a.length=i*sz+o+qs.length by rw [h1,Nat.succ_mul];omega]
  simp
theorem FV {t:TypeId} {x y:Operand} {sz j i q m:Nat} {T:TypeId} {rows A1:List (List Pr)} {row qs:List Pr} {v:Value} (hg:o.guard=none) (ho:o.op= .store t x y) (hx:VL E x (iG sz v i q)) (hy:VL E y (Di qs)) (hz:Aw P t=some m) (hm:qs.length=m)
  (hl:∀r∈rows,r.length=sz) (hi:rows[i]? =some row) (hq:q+m≤sz) (hps:rows.set i (row.take q++qs++row.drop (q+m))=A1):E6 P M0 w0 S n j (SR.c (Ap T sz rows v)) (SR.c (Ap T sz A1 v)) o E any:=by
 refine ⟨hg,fun M w a rs hsz he hI hj=> ?_⟩
 obtain ⟨a0,m0,c0,dV,h1⟩:=hx.ev he (show x∈o.op.operands.toList by simp [ho,Op.operands])
 obtain ⟨h2,h3⟩:=hy.ev he (show y∈o.op.operands.toList by simp [ho,Op.operands])
 have hj':rs[j]? =some (Ap T sz rows v):=hj
 have hjl:=Bb hj'
 rcases (hI.hold _ (List.mem_of_getElem? hj')).1 with ⟨rfl,A,hv⟩|⟨b,cap,spare,hv,hnc,hcm,hsp,Tj⟩
 · simp at hi
 ·
  subst hv
  injection dV with e1 e2 e3
  injection e1 with e1
  subst e1
  have hC:=hI.Dr (r':=AA true b T (rows.flatten++spare.map is)) hj' rfl rfl Tj
  have hjC:(rs.set j (AA true b T (rows.flatten++spare.map is)))[j]? =some (AA true b T (rows.flatten++spare.map is)):=List.getElem?_set_self hjl
  obtain ⟨_,cs,h4,h5,h6⟩:=Tj
  have YN:=h5.length
  have bg:=h2.length
  have E3:=Bb hi
  have hfl:=CO hl
  rw [List.length_append,hfl,List.length_map] at YN
  have hle:(i+1)*sz≤rows.length*sz:=Nat.mul_le_mul_right sz E3
  rw [Nat.succ_mul] at hle
  have hcells:(a.eval y).cells.size=m:=by rw [←hm,←bg];simp
  have hrun:(storeCells ((⟨b,0,none⟩:Addr).add (i*sz+q)) (a.eval y).cells.toList 0).run P w= .ok () (w.setRow b (cs.take (i*sz+q)++(a.eval y).cells.toList++cs.drop (i*sz+q+m)).toArray):=by
   have:=run_storeCells_at (P:=P) b (i*sz+q) T (a.eval y).cells.toList 0 cs.toArray w h4 (by simp;omega) h3
   rw [Cv,Nat.zero_add]
   simpa [hcells] using this
  have DT:(execOp a.eval o).run P w= .ok .skip (w.setRow b (cs.take (i*sz+q)++(a.eval y).cells.toList++cs.drop (i*sz+q+m)).toArray):=by
   simp [execOp,ho,h1,Instr.storeAt,Instr.sureAddr,storeVar,Bm hz,hcells,hrun]
  rw [DT]
  have hfs:=Q2 (S:=spare.map is) hl hi (o:=q) (qs:=qs) (by omega)
  rw [hm,hps] at hfs
  obtain ⟨h7, h8⟩ := Bl.write (qs := A1.flatten ++ spare.map is) (cs := cs.take (i * sz + q) ++ (a.eval y).cells.toList ++ cs.drop (i * sz + q + m)) hC hjC (by rw [← hfs]; exact (((h5.take (i * sz + q)).app h2)).app (h5.drop (i * sz + q + m)))
   (fun c hc=>by
    simp only [List.mem_append] at hc
    rcases hc with (hc|hc)|hc
    · exact h6 c (List.mem_of_mem_take hc)
    · exact h3 c hc
    · exact h6 c (List.mem_of_mem_drop hc))
  rw [List.set_set] at h7
  refine ⟨M,trivial,h8,?_⟩
  have hlen:A1.length=rows.length:=by rw [←hps,List.length_set]
  have h9:=h7.Dr (r':=Ap T sz A1 (.slice (some ⟨b,0,none⟩) rows.length (cap+1))) (List.getElem?_set_self hjl) rfl rfl (.inr ⟨b,cap,spare,by rw [hlen],by rw [hlen];exact hnc,hcm,by rw [hlen];exact hsp,(h7.hold _ (List.mem_of_getElem? (List.getElem?_set_self hjl))).1⟩)
  rw [List.set_set] at h9
  exact h9
theorem J8 {I:Ci} {t e:TypeId} {x y z:Operand} {k k':IntKind} {l h:Int} {sz b m cap:Nat} (ho:o.op= .slice t x (some y) (some z) none) (ht:P.underlying t=some (.slice e)) (hz:Aw P e=some sz) (hx:VL E x (is (.slice (some ⟨b,0,none⟩) m cap))) (hy:VL E y (is (.int k l))) (hzv:VL E z (is (.int k' h))) (h0:0≤l) (hlh:l<h) (hl:h≤cap):
  Af P I o E (is (.slice (some ⟨b,l.toNat*sz,none⟩) (h.toNat-l.toNat) (cap-l.toNat))):=
 Af.same fun M w a he _=>by
  have h1:a.eval x=_:=hx.ev he (by simp [ho,Op.operands])
  have h3:a.eval y=_:=hy.ev he (by simp [ho,Op.operands])
  have h5:a.eval z=_:=hzv.ev he (by simp [ho,Op.operands])
  have hne:¬cap=l.toNat:=by omega
  have h00:0≤h:=by omega
  have hle:l≤h:=by omega
  have m1:max h 0=h:=by omega
  have m2:¬h<l:=by omega
  refine ⟨_,?_,rfl⟩
  simp [execOp,ho,h1,h3,h5,Instr.sliceAt,Instr.slice,run_underlying ht,Instr.sliceBounds,Instr.sliceBound,asIntOf,h0,h00,hle,hl,m1,m2,Bm hz,hne,Cv]
theorem IW {I:Ci} {t e:TypeId} {x y z u:Operand} {k k' k2:IntKind} {l h c:Int} {sz b m cap:Nat} (ho:o.op= .slice t x (some y) (some z) (some u)) (ht:P.underlying t=some (.slice e)) (hz:Aw P e=some sz) (hx:VL E x (is (.slice (some ⟨b,0,none⟩) m cap))) (hy:VL E y (is (.int k l))) (hzv:VL E z (is (.int k' h))) (hu:VL E u (is (.int k2 c))) (h0:0≤l) (hlh:l≤h) (hhc:h≤c) (hl:c≤cap):
  Af P I o E (lens (h.toNat-l.toNat)):=
 Af.same fun M w a he _=>by
  have h1:a.eval x=_:=hx.ev he (by simp [ho,Op.operands])
  have h3:a.eval y=_:=hy.ev he (by simp [ho,Op.operands])
  have h5:a.eval z=_:=hzv.ev he (by simp [ho,Op.operands])
  have h7:a.eval u=_:=hu.ev he (by simp [ho,Op.operands])
  have h00:0≤h:=by omega
  have h01:0≤c:=by omega
  have m1:max h 0=h:=by omega
  have m3:max l 0=l:=by omega
  have m4:max c 0=c:=by omega
  have m5:¬h<l:=by omega
  have m6:¬c<h:=by omega
  refine ⟨.slice (if c.toNat=l.toNat then some ⟨b,0,none⟩ else some ⟨b,l.toNat*sz,none⟩) (h.toNat-l.toNat) (c.toNat-l.toNat),?_,_,_,rfl⟩
  by_cases hne:c.toNat=l.toNat<;>
  simp [execOp,ho,h1,h3,h5,h7,Instr.sliceAt,Instr.slice,run_underlying ht,Instr.sliceBounds,Instr.sliceBound,asIntOf,h0,h00,h01,hlh,hhc,hl,m1,m3,m4,m5,m6,Bm hz,hne,Cv]<;>(intro _;exfalso;omega)
theorem Bl.cX:∀{l:List BS} {M:Av} {w:World},Bl M0 w0 S (l++rs) M w→Bl M0 w0 S rs M w
 |[],_,_,h=>h
 |_::l,_,_,h=>Bl.cX (l:=l) h.LF
end
section
variable {P:Program} {L:Lg P} {E:Env} {I:Ci} {o:Oper}
theorem Sc {f : FuncId} {fn : Func} {x y : Operand} {ts : Array TypeId} {a : List UInt8} {c : UInt8} (ho : o.op = .call { callee := .value (.func f), args := #[x, y], argTypes := ts }) (hf : P.funcs[f]? = some fn) (hname : (fn.name == "runtime.NumGoroutine") = false)
  (hb:fn.body.isNone=true) (hn:Extern.findNext fn=none) (hex:Extern.find fn=some Extern.BytealgIndexByte.indexByte) (hx:VL E x (str a)) (hy:VL E y (is (.int .u8 ((c.toNat:Nat):Int)))):Af P I o E (int (Lib.indexByte a c)):=
 Af.same fun M w ac he _=>by
  have h1:ac.eval x=_:=hx.ev he (by simp [ho,Op.operands,Call.operands])
  have h2:ac.eval y=_:=hy.ev he (by simp [ho,Op.operands,Call.operands])
  have h3:ac.eval (.func f)= .func (.func f) #[] #[]:=rfl
  refine ⟨_,?_,rfl⟩
  have hrun:(execOp ac.eval o).run P w=(callFunc f #[ac.eval x,ac.eval y]).run P w:=by simp [execOp,ho,resolve,Deferred.ofValue,invoke,h3]
  rw [hrun,h1,h2,run_callFunc_extern hf hname hb hn hex,Lib.run_indexByteString]
  simp
theorem NC {f:FuncId} {cx:Operand} {xs:Array Operand} {ts:Array TypeId} {ps caps:List Pr} {res:Pr} (ho:o.op= .call { callee:= .value cx,args:=xs,argTypes:=ts }) (hc:VL E cx (fn (.func f) caps)) (hf:A4 P f (ps++caps) res) (hv:FD E xs.toList ps):Af P I o E res:=by
 intro M w a he hI
 have h1:=FD.EJ (o:=o) he (xs:=xs.toList) (fun x hx=>by simp [ho,Op.operands,Call.operands];exact .inr (by simpa using hx)) hv
 obtain ⟨cs,h2,h3⟩:=hc.ev he (by simp [ho,Op.operands,Call.operands])
 have hrun:(execOp a.eval o).run P w= .ok (.enter f ((xs.toList.map a.eval).toArray++cs.toArray)) w:=by
  simp [execOp,ho,resolve,Deferred.ofValue,h2,invoke,DR hf.1,E5 xs]
 rw [hrun]
 have h4:=hf.2 M w _ (I.bd _ _ hI) (h1.app h3)
 exact ⟨Below.refl _ _,by simpa using h4⟩
section
variable {n:Fm} {fz:Nat} {M0:Av} {w0:World} {S:Nat→Prop}
theorem Ug {t e:TypeId} {sz d j:Nat} {zs:List Value} {xs:List Operand} {parts:Array (Nat×Operand)} {rows:List (List Pr)} (hg:o.guard=none) (hd:o.dst=some d) (hn:d<n) (ho:o.op= .buildSlice t xs.length parts) (hp:parts.toList=(xs.zipIdx 0).map fun x=>(x.2,x.1))
  (ht:P.underlying t=some (.slice e)) (hz:Aw P e=some sz) (Dy:Bn P e=some zs) (hzl:zs.length=sz) (hsz:0<sz) (hx:Nx E sz xs rows) (hsmall:xs.length*sz≤16777216) (sj:0<xs.length):E6 P M0 w0 S n j (SR.c Bw) ⟨d,C8 e sz rows⟩ o E (lens rows.length):=by
 refine ⟨hg,fun M w a rs H_ he hI hj=> ?_⟩
 have dW:∀x∈xs,x∈o.op.operands.toList:=by
  intro x hx
  simp only [ho,Op.operands,List.mem_map]
  obtain ⟨i,hi,rfl⟩:=List.mem_iff_getElem.1 hx
  exact ⟨(i,xs[i]),by rw [hp];exact List.mem_map.2 ⟨(xs[i],i),by rw [List.mem_zipIdx_iff_getElem?];simp [hi],rfl⟩,rfl⟩
 obtain ⟨h1,h2,h3⟩:=hx.ev he dW
 unfold Aw at hz
 unfold Bn at Dy
 cases hi:P.info? e with
 |none=>rw [hi] at hz;cases hz
 |some i=>
  rw [hi] at hz Dy
  simp only [Option.map_some,Option.some.injEq,Option.map_eq_some_iff] at hz Dy
  obtain ⟨z,QV,Dy⟩:=Dy
  have TY:z.cells.size=sz:=by rw [←hzl,←Dy];simp
  have hparts:(parts.map fun (i,x)=>(i,a.eval x)).toList=((xs.map a.eval).zipIdx 0).map fun x=>(x.2,x.1):=by
   rw [Array.toList_map,hp,List.map_map,List.zipIdx_map,List.map_map]
   rfl
  have Vw := fill_whole (s := i.size) (by rw [hz]; exact hsz) (xs.map a.eval) ((Array.range (xs.length * i.size)).map (z.cells[· % z.cells.size]!)) (fun v hv => by
   obtain ⟨x,hx,rfl⟩:=List.mem_map.1 hv
   rw [hz];exact h2 x hx) (by simp)
  have hpos:¬xs.length*i.size=0:=by rw [hz];exact Nat.ne_of_gt (Nat.mul_pos (by omega) hsz)
  have hrun:=run_buildSlice (P:=P) w t e xs.length (parts.map fun (i,x)=>(i,a.eval x)) _ i z ht hi QV (by rw [hz];omega) hpos (by rw [hparts];exact Vw)
  have DT:(execOp a.eval o).run P w= .ok (.value (.slice (some ⟨w.heap.size,0,none⟩) xs.length xs.length)) (w.alloc (.cells ((xs.map a.eval).flatMap fun v=>v.cells.toList).toArray e)):=by simp [execOp,ho,hrun]
  rw [DT]
  generalize hcs:(xs.map a.eval).flatMap (fun v=>v.cells.toList)=cs at h3 ⊢
  have hb:Below w.heap.size w (w.alloc (.cells cs.toArray e)):=(Below.refl _ _).alloc (Nat.le_refl _) _
  have hlen:rows.length≤maxLen:=by
   have:xs.length*1≤xs.length*sz:=Nat.mul_le_mul_left _ hsz
   unfold maxLen;omega
  have h4:=Ext.below (M:=M) hb
  have D3:Ext M w (fun b o=>M b o∨b=w.heap.size) (w.alloc (.cells cs.toArray e)):=by
   refine ⟨h4.size,fun a v hc hm=>⟨fun hx=> ?_,(h4.keep a v hc hm).2⟩,fun b o ho hp hm=>⟨fun hx=> ?_,(h4.obj b o ho hp hm).2⟩⟩
   ·
    rcases hx with hx|hx
    · exact hm hx
    · have:=D6 hc;omega
   ·
    rcases hx with hx|hx
    · exact hm hx
    · subst hx;simp at ho
  have hs1:(w.alloc (.cells cs.toArray e)).heap.size=w.heap.size+1:=by simp
  have Lb:(SR.at_ (a.put o.dst (.slice (some ⟨w.heap.size,0,none⟩) xs.length xs.length)) ⟨d,C8 e sz rows⟩)=C8 e sz rows (.slice (some ⟨w.heap.size,0,none⟩) xs.length xs.length):=by unfold SR.at_ Slot.val;dsimp only;rw [hd,B4 (by rw [H_];exact hn)]
  refine ⟨fun b o=>M b o∨b=w.heap.size,⟨_,_,by rw [h1]⟩,D3,?_⟩
  rw [Lb]
  refine hI.replace hj D3 hb.os hb.tape hb.output (fun k hk _=>hb.block k hk) rfl (fun b o hm _=> .inl hm) (fun b o hx=> ?_) ?_ rfl (fun b hbk=> ?_)
  ·
   rcases hx with hx|hx
   · have:=hI.bd _ _ hx;omega
   · omega
  ·
   refine ⟨w.heap.size,rows.length,[],by rw [h1],Nat.le_refl _,hlen,by simp,fun o=> .inr rfl,cs,heap_alloc_new w _,?_,h3.2.1⟩
   simpa using (h3.st D3).hl hsz
  ·
   have EH:some w.heap.size=some b:=hbk
   injection EH with e1
   subst e1
   exact ⟨by rw [hs1];omega,.inr (Nat.le_refl _)⟩
end
theorem ZY (p:Pr) [One p]:Pr.le p (Di [any]):=fun M w v h=>by
 obtain ⟨h1,h2⟩:=AU p M w v h
 refine ⟨?_,h2⟩
 match v.cells.toList,h1 with
 |[_],_=>exact ⟨trivial,trivial⟩
theorem ZZ {ps:List Pr} {off:Nat} (h:ps[off]? =some any):ps.take off++[any]++ps.drop (off+1)=ps:=by
 have hl:=Bb h
 rw [List.getElem?_eq_getElem hl] at h
 simp only [Option.some.injEq] at h
 conv=>rhs;rw [←List.take_append_drop off ps,List.drop_eq_getElem_cons hl,h]
 simp
end
def allI (p:Nat→Bool) (n:Nat):Bool:=(List.range n).all p
theorem Cj {p:Nat→Bool} {n:Nat}:allI p n=true↔∀j,j<n→p j=true:=by unfold allI;simp
theorem ND {p:Nat→Bool} {n:Nat} (h:∀j,j<n→p j=true):allI p n=true:=Cj.2 h
theorem IX {p:Nat→Bool} {n k:Nat} (hk:k<n) (h:p k=false):allI p n=false:=by
 rw [Bool.eq_false_iff];intro h';rw [Cj.1 h' k hk] at h;cases h
theorem F6 {p:Nat→Bool} {k:Nat} (h:∀j,j<k→p j=true) (hk:p k=true):∀j,j<k+1→p j=true:=by
 intro j hj
 by_cases e:j=k
 · subst e;exact hk
 · exact h j (by omega)
section
variable {P:Program} {L:Lg P} {n:Fm} {fz:Nat} {I:Ci}
def cY (P:Program) (I':Ci) (M:Av) (w:World) (p:Pr):Result Next→Prop
 | .ok (.value v) w'=>∃M',p.h M' w' v∧Ext M w M' w'∧I'.h M' w'
 | .ok .skip w'=>∃M',p.h M' w' undef∧Ext M w M' w'∧I'.h M' w'
 | .ok (.enter f args) w'=>Calls P f args w' fun e w''=>∃v M',e= .returned v∧p.h M' w'' v∧Ext M w M' w''∧I'.h M' w''
 |_=>False
def Kp (P:Program) (n:Fm) (I I':Ci) (o:Oper) (E:Env) (p:Pr):Prop:=o.guard=none∧∀M w (a:Act),a.tmps.size=n.sz→DM M w E o a→I.h M w→cY P I' M w p ((execOp a.eval o).run P w)
theorem Uh {M:Av} {w:World} {o:Oper} {p:Pr} {a:Act} {K:Act→World→Prop} {Q:Exit→Act→World→Prop} {I':Ci} (h:cY P I' M w p ((execOp a.eval o).run P w))
  (k:∀v w' M',p.h M' w' v→Ext M w M' w'→I'.h M' w'→K (a.put o.dst v) w'):o.wp P a w K Q:=by
 unfold Oper.wp
 generalize (execOp a.eval o).run P w=r at h
 cases r with
 |halt x w'=>exact h.elim
 |ok x w'=>
  cases x<;>first|exact h.elim|skip
  case value v=>obtain ⟨M',h1,h2,h3⟩:=h;exact k _ _ _ h1 h2 h3
  case skip=>obtain ⟨M',h1,h2,h3⟩:=h;exact k _ _ _ h1 h2 h3
  case enter f args=>
   refine h.mono ?_
   rintro e w'' ⟨v,M',rfl,h1,h2,h3⟩
   exact k _ _ _ h1 h2 h3
def AP (P:Program) (n:Fm) (I:Ci) (ops:Array Oper):Nat→List Oper→Env→(Ci→Env→Prop)→Prop
 |_,[],_,_=>False
 |0,o::r,E,K=>∃p I',Kp P n I I' o E p∧(∀d,o.dst=some d→d<n)∧Ch P n I' ops r (upd o p E) (K I')
 |c+1,o::r,E,K=>∃p,UO P I ops o E p∧(∀d,o.dst=some d→d<n)∧AP P n I ops c r (upd o p E) K
theorem AP.op {ops:Array Oper} {o:Oper} {r:List Oper} {E:Env} {K:Ci→Env→Prop} {d c:Nat} {p:Pr} (hg:o.guard=none) (hd:o.dst=some d) (hn:d<n) (h:Af P I o E p)
  (k:AP P n I ops c r ((d,p)::E) K):AP P n I ops (c+1) (o::r) E K:=
 ⟨p,by unfold UO;rw [hg];exact h,fun d' hd'=>by rw [hd] at hd';cases hd';exact hn,by unfold upd;rw [hd];exact k⟩
theorem AP.turn {ops:Array Oper} {o:Oper} {r:List Oper} {E:Env} {K:Ci→Env→Prop} {d:Nat} {p:Pr} (I':Ci) (hd:o.dst=some d) (hn:d<n) (h:Kp P n I I' o E p)
  (k:Ch P n I' ops r ((d,p)::E) (K I')):AP P n I ops 0 (o::r) E K:=
 ⟨p,I',h,fun d' hd'=>by rw [hd] at hd';cases hd';exact hn,by unfold upd;rw [hd];exact k⟩
def PX (l:List Oper) (c:Nat):Bool:=
 let b:=O0 l
 JR l&&decide (c<l.length)&&(List.range l.length).all fun i=>i==c||(decide (i<c)&&(b.getD c 0).testBit i)||(decide (c<i)&&(b.getD i 0).testBit c)
theorem PY {l:List Oper} {c:Nat} (h:PX l c=true):JR l=true∧c<l.length∧(∀i,i<c→((O0 l).getD c 0).testBit i=true)∧∀i,c<i→i<l.length→((O0 l).getD i 0).testBit c=true:=by
 unfold PX at h
 simp only [Bool.and_eq_true,decide_eq_true_eq] at h
 obtain ⟨⟨h1,h2⟩,h3⟩:=h
 rw [List.all_eq_true] at h3
 refine ⟨h1,h2,fun i hi=> ?_,fun i hi hl=> ?_⟩
 ·
  have:=h3 i (by simp;omega)
  simp at this
  rcases this with (h|h)|h
  · omega
  · exact h.2
  · omega
 ·
  have:=h3 i (by simp;omega)
  simp at this
  rcases this with (h|h)|h
  · omega
  · omega
  · exact h.2
theorem Q3:∀(L:List (Oper×Pr)) (m:Nat) (E:Env) (b:Nat),b≤m→cur (fun i=>decide (i<b)) m L E=E:=by
 intro L
 induction L with
 |nil=>intros;rfl
 |cons x L ih=>intro m E b hm;obtain ⟨o,p⟩:=x;unfold cur;rw [if_neg (by simp;omega)];exact ih _ _ _ (by omega)
theorem Q4 {ops:Array Oper} {K:Ci→Env→Prop}:∀(c:Nat) (l:List Oper) (k:Nat) (E:Env),AP P n I ops c l E K→∃(L:List (Oper×Pr)) (I':Ci),L.map (·.1)=l∧
  (∀j o p,L[j]? =some (o,p)→(j≠c→UO P (if j<c then I else I') ops o (cur (fun i=>decide (i<k+j)) k L E) p)∧(j=c→Kp P n I I' o (cur (fun i=>decide (i<k+j)) k L E) p)∧∀d,o.dst=some d→d<n)∧K I' (cur (fun _=>true) k L E)
 |_,[],_,_,h=>by unfold AP at h;exact h.elim
 |0,o::l,k,E,h=>by
  obtain ⟨p,I',hg,hd,hr⟩:=h
  obtain ⟨L,h1,h2,h3⟩:=Ow l (k+1) _ hr
  refine ⟨(o,p)::L,I',by simp [h1],fun j o' p' hj=> ?_,by unfold cur;simpa using h3⟩
  cases j with
  |zero=>
   simp only [List.getElem?_cons_zero,Option.some.injEq,Prod.mk.injEq] at hj
   obtain ⟨rfl,rfl⟩:=hj
   have e0:decide (k<k+0)=false:=by simp
   refine ⟨fun h=>absurd rfl h,fun _=> ?_,hd⟩
   unfold cur
   simp only [e0,Bool.false_eq_true,↓reduceIte]
   rw [Q3 L (k+1) E (k+0) (by omega)]
   exact hg
  |succ j=>
   have:=h2 j o' p' (by simpa using hj)
   have e1:decide (k<k+1+j)=true:=by simp;omega
   rw [show k+(j+1)=k+1+j by omega]
   unfold cur
   simp only [e1,↓reduceIte]
   exact ⟨fun _=>by rw [if_neg (by omega:¬j+1<0)];exact this.1,fun h=>absurd h (by omega),this.2⟩
 |c+1,o::l,k,E,h=>by
  obtain ⟨p,hg,hd,hr⟩:=h
  obtain ⟨L,I',h1,h2,h3⟩:=Q4 c l (k+1) _ hr
  refine ⟨(o,p)::L,I',by simp [h1],fun j o' p' hj=> ?_,by unfold cur;simpa using h3⟩
  cases j with
  |zero=>
   simp only [List.getElem?_cons_zero,Option.some.injEq,Prod.mk.injEq] at hj
   obtain ⟨rfl,rfl⟩:=hj
   have e0:decide (k<k+0)=false:=by simp
   refine ⟨fun _=> ?_,fun h=>absurd h (by omega),hd⟩
   unfold cur
   rw [if_pos (by omega:0<c+1)]
   simp only [e0,Bool.false_eq_true,↓reduceIte]
   rw [Q3 L (k+1) E (k+0) (by omega)]
   exact hg
  |succ j=>
   have:=h2 j o' p' (by simpa using hj)
   have e1:decide (k<k+1+j)=true:=by simp;omega
   rw [show k+(j+1)=k+1+j by omega]
   unfold cur
   simp only [e1,↓reduceIte]
   refine ⟨fun hne=> ?_,fun he=>this.2.1 (by omega),this.2.2⟩
   have h4:=this.1 (by omega)
   by_cases hlt:j<c
   · rw [if_pos (by omega:j+1<c+1)];rwa [if_pos hlt] at h4
   · rw [if_neg (by omega:¬j+1<c+1)];rwa [if_neg hlt] at h4
structure DJ1 (n:Fm) (I I':Ci) (c:Nat) (L:List (Oper×Pr)) (E:Env) (listed:Array Bool) (a:Act) (w:World):Prop where
 size:listed.size=L.length
 down:∀(i k:Nat) o p,L[i]? =some (o,p)→listed.getD i false=true→LV o k=true→listed.getD k false=true
 st:∃M,a.tmps.size=n.sz∧a.defers=n.df∧F_ M w (cur (fun i=>listed.getD i false) 0 L E) a∧(if listed.getD c false then I' else I).h M w
theorem Tr.Da (hm:P.follows .mixedOrders=true) (c:Nat) {id:Nat} {l:List Oper} {E:Env} {Q:Exit→Act→World→Prop} (hB0:PX l c=true)
  (h:AP P n I l.toArray c l E (fun I' E'=>∀a w,St n E' I' a w→Q .normal a w)):Tr (UN P) n E I (.region id l.toArray true) Q:=by
 intro a w hs
 obtain ⟨L,I',h1,h2,h3⟩:=Q4 c l 0 E h
 obtain ⟨hB,Yi,hA,hBc⟩:=PY hB0
 have hlen:L.length=l.length:=by rw [←h1];simp
 have hL:∀(i:Nat) o,l.toArray[i]? =some o→∃p,L[i]? =some (o,p):=by
  intro i o ho
  have:l[i]? =some o:=by simpa using ho
  rw [←h1,List.getElem?_map] at this
  cases hx:L[i]? with
  |none=>rw [hx] at this;simp at this
  |some x=>rw [hx] at this;simp at this;exact ⟨x.2,by rw [←this]⟩
 have hL':∀(i:Nat) o p,L[i]? =some (o,p)→l[i]? =some o:=by
  intro i o p hi
  rw [←h1,List.getElem?_map,hi];rfl
 -- what the check says
 have Ox:∀(i:Nat) o,l[i]? =some o→(∀e∈o.after,Region.binds .any e=true→e.on<i)∧
   ∀(k:Nat) q s,l[k]? =some q→k≠i→q.dst=some s→o.dst≠some s∧(s∈seen l.toArray o→(k<i∧LV o k=true)∨(i<k∧LV q i=true)):=by
  intro i o ho
  unfold JR at hB
  rw [List.all_eq_true] at hB
  have hb:=hB (o,i) (by rw [List.mem_zipIdx_iff_getElem?];exact ho)
  simp only [Bool.and_eq_true] at hb
  refine ⟨fun e he hbd=> ?_,fun k q s hk hne hd=> ?_⟩
  ·
   have:=Array.all_eq_true_iff_forall_mem.1 hb.1 e he
   rw [hbd] at this;simpa using this
  ·
   have:=List.all_eq_true.1 hb.2 (q,k) (by rw [List.mem_zipIdx_iff_getElem?];exact hk)
   simp only [hd,Bool.or_eq_true,Bool.and_eq_true] at this
   rcases this with h|h
   · exact absurd (by simpa using h) hne
   ·
    refine ⟨by simpa using h.1,fun hs=> ?_⟩
    rcases h.2 with (h'|h')|h'
    ·
     have hc:(seen l.toArray o).contains s=true:=by simpa using hs
     rw [hc] at h';cases h'
    · exact .inl ⟨by simpa using h'.1,h'.2⟩
    · exact .inr ⟨by simpa using h'.1,h'.2⟩
 refine wp_region_any hm ?_
 -- the induction
 have key:∀(fuel:Nat) (listed:Array Bool) (a:Act) (w:World),listed.toList.count false≤fuel→DJ1 n I I' c L E listed a w→wpAny P .any l.toArray Q fuel listed a w:=by
  intro fuel
  -- all are listed where nothing is ready
  have fin:∀(listed:Array Bool) (a:Act) (w:World),DJ1 n I I' c L E listed a w→(∀i,i<L.length→listed.getD i false=true)→Q .normal a w:=by
   intro listed a w hJ hall
   obtain ⟨M,hn,hdf,he,hI⟩:=hJ.st
   rw [hall c (by rw [hlen];exact Yi)] at hI
   refine h3 a w ⟨M,hn,hdf,?_,hI⟩
   have:cur (fun i=>listed.getD i false) 0 L E=cur (fun _=>true) 0 L E:=by
    have:∀(L':List (Oper×Pr)) (k:Nat) (E:Env),k+L'.length≤L.length→cur (fun i=>listed.getD i false) k L' E=cur (fun _=>true) k L' E:=by
     intro L'
     induction L' with
     |nil=>intros;rfl
     |cons x L' ih=>
      intro k E hk
      obtain ⟨o,p⟩:=x
      simp only [List.length_cons] at hk
      unfold cur
      rw [hall k (by omega),ih _ _ (by omega)]
    exact this L 0 E (by omega)
   rwa [this] at he
  have G3:∀(listed:Array Bool) (a:Act) (w:World),DJ1 n I I' c L E listed a w→Region.ready .any l.toArray listed=[]→∀i,i<L.length→listed.getD i false=true:=by
   intro listed a w hJ hr i
   induction i using Nat.strongRecOn with
   |_ i ih=>
    intro hi
    cases Ns:listed.getD i false with
    |true=>rfl
    |false=>
     exfalso
     have E3:i<l.length:=by omega
     have hmem:i∈Region.ready .any l.toArray listed:=by
      refine mem_ready.2 ⟨?_,l[i],by simp [E3],fun e he hb=> ?_⟩
      ·
       have:i<listed.size:=by rw [hJ.size];exact hi
       rw [Array.getD_eq_getD_getElem?,Array.getElem?_eq_getElem this] at Ns ⊢
       simpa using Ns
      ·
       have:=(Ox i l[i] (by simp [E3])).1 e he hb
       exact ih e.on this (by omega)
     rw [hr] at hmem
     cases hmem
  induction fuel with
  |zero=>
   intro listed a w hc hJ
   have hall:∀i,i<L.length→listed.getD i false=true:=by
    intro i hi
    have hsz:=hJ.size
    have h0:false∉listed.toList:=by
     have:listed.toList.count false=0:=by omega
     exact List.count_eq_zero.1 this
    cases Ns:listed.getD i false with
    |true=>rfl
    |false=>
     exfalso
     have:i<listed.size:=by omega
     rw [Array.getD_eq_getD_getElem?,Array.getElem?_eq_getElem this] at Ns
     apply h0
     simp at Ns
     rw [←Ns]
     exact Array.getElem_mem_toList this
   refine ⟨?_,fin listed a w hJ hall⟩
   cases hr:Region.ready .any l.toArray listed with
   |nil=>rfl
   |cons i r=>
    exfalso
    have hi:i∈Region.ready .any l.toArray listed:=by rw [hr];simp
    obtain ⟨hu,o,ho,_⟩:=mem_ready.1 hi
    obtain ⟨p,hp⟩:=hL i o ho
    have E3:i<L.length:=by rcases Nat.lt_or_ge i L.length with h|h;exact h;rw [List.getElem?_eq_none h] at hp;cases hp
    have h5:=hall i E3
    have:i<listed.size:=by rw [hJ.size];exact E3
    rw [Array.getD_eq_getD_getElem?,Array.getElem?_eq_getElem this] at hu h5
    simp at hu h5
    rw [hu] at h5;cases h5
  |succ fuel ih=>
   intro listed a w hc hJ
   refine ⟨fun hr=>fin listed a w hJ (G3 listed a w hJ hr),fun i hi=> ?_⟩
   obtain ⟨hu,o,ho,hall⟩:=mem_ready.1 hi
   obtain ⟨p,hp⟩:=hL i o ho
   have ho':l[i]? =some o:=hL' i o p hp
   have E3:i<L.length:=by rcases Nat.lt_or_ge i L.length with h|h;exact h;rw [List.getElem?_eq_none h] at hp;cases hp
   have his:i<listed.size:=by rw [hJ.size];exact E3
   have Iu:listed.getD i false=false:=by
    rw [Array.getD_eq_getD_getElem?,Array.getElem?_eq_getElem his] at hu ⊢;simpa using hu
   have hpre:∀k,LV o k=true→listed.getD k false=true:=by
    intro k hk
    obtain ⟨e,he,hb,rfl⟩:=KT.1 hk
    exact hall e he hb
   obtain ⟨hgp,hgt,hdn⟩:=h2 i o p hp
   rw [Nat.zero_add] at hgp hgt
   obtain ⟨M,hn,hdf,he,hI⟩:=hJ.st
   -- what is looked at reads as in the dO order
   have hsame:∀s,s∈seen l.toArray o→(cur (fun j=>decide (j<i)) 0 L E).lookup s=(cur (fun j=>listed.getD j false) 0 L E).lookup s:=by
    intro s hs
    by_cases hw:∃k q r,L[k]? =some (q,r)∧k≠i∧q.dst=some s
    ·
     obtain ⟨k,q,r,hk,hki,hd⟩:=hw
     have EF:∀(j:Nat) o' p',L[j]? =some (o',p')→j≠k→o'.dst≠some s:=by
      intro j o' p' hj hjk
      exact ((Ox j o' (hL' j o' p' hj)).2 k q s (hL' k q r hk) (Ne.symm hjk) hd).1
     rcases ((Ox i o ho').2 k q s (hL' k q r hk) hki hd).2 hs with ⟨h5,h6⟩|⟨h5,h6⟩
     · rw [Dg L 0 E k q r hk (by simpa using h5) hd EF,Dg L 0 E k q r hk (by simpa using hpre k h6) hd EF]
     ·
      have hnk:listed.getD k false=false:=by
       cases hlk:listed.getD k false with
       |false=>rfl
       |true=>have:=hJ.down k i q r hk hlk h6;rw [Iu] at this;cases this
      rw [CA L 0 E,CA L 0 E]
      ·
       intro j o' p' hj hsel hd'
       by_cases hjk:j=k
       · subst hjk;rw [Nat.zero_add,hnk] at hsel;cases hsel
       · exact EF j o' p' hj hjk hd'
      ·
       intro j o' p' hj hsel hd'
       by_cases hjk:j=k
       · subst hjk;simp at hsel;omega
       · exact EF j o' p' hj hjk hd'
    ·
     rw [CA L 0 E,CA L 0 E]
     ·
      intro j o' p' hj hsel hd'
      by_cases hji:j=i
      · subst hji;rw [Nat.zero_add,Iu] at hsel;cases hsel
      · exact hw ⟨j,o',p',hj,hji,hd'⟩
     ·
      intro j o' p' hj hsel hd'
      by_cases hji:j=i
      · subst hji;simp at hsel
      · exact hw ⟨j,o',p',hj,hji,hd'⟩
   have next:∀v w' M',p.h M' w' v→Ext M w M' w'→(if (listed.setIfInBounds i true).getD c false then I' else I).h M' w'→wpAny P .any l.toArray Q fuel (listed.setIfInBounds i true) (a.put o.dst v) w':=by
    intro v w' M' HJ hb hI2
    refine ih _ _ _ ?_ ⟨by simpa using hJ.size,?_,M',by rw [CF];exact hn,by rw [put_defers];exact hdf,?_,hI2⟩
    ·
     have h7:listed.toList[i]? =some false:=by
      rw [Array.getElem?_toList,Array.getElem?_eq_getElem his]
      rw [Array.getD_eq_getD_getElem?,Array.getElem?_eq_getElem his] at Iu
      simpa using Iu
     have h8:=count_set h7
     rw [Array.toList_setIfInBounds]
     omega
    ·
     intro j k o' p' hj R5 jH
     have Gu:∀m,(listed.setIfInBounds i true).getD m false=(if m=i then true else listed.getD m false):=by
      intro m
      rw [Array.getD_eq_getD_getElem?,Array.getElem?_setIfInBounds]
      by_cases hm:i=m
      · subst hm;simp [his]
      · rw [if_neg hm,if_neg (Ne.symm hm),Array.getD_eq_getD_getElem?]
     rw [Gu] at R5 ⊢
     by_cases hki:k=i
     · simp [hki]
     ·
      rw [if_neg hki]
      by_cases hji:j=i
      ·
       subst hji
       rw [hp] at hj
       cases hj
       exact hpre k jH
      ·
       rw [if_neg hji] at R5
       exact hJ.down j k o' p' hj R5 jH
    ·
     -- the Qc
     intro s q hq
     have Gu:∀m,(listed.setIfInBounds i true).getD m false=(if m=i then true else listed.getD m false):=by
      intro m
      rw [Array.getD_eq_getD_getElem?,Array.getElem?_setIfInBounds]
      by_cases hm:i=m
      · subst hm;simp [his]
      · rw [if_neg hm,if_neg (Ne.symm hm),Array.getD_eq_getD_getElem?]
     by_cases hds:o.dst=some s
     ·
      rw [Dg L 0 E i o p hp (by rw [Nat.zero_add, Gu]; simp) hds
       (fun j o' p' hj hji=>((Ox j o' (hL' j o' p' hj)).2 i o s ho' (Ne.symm hji) hds).1)] at hq
      cases hq
      rw [hds,B4 (by rw [hn];exact hdn s hds)]
      exact HJ
     ·
      have R6:(cur (fun j=>listed.getD j false) 0 L E).lookup s=some q:=by
       rw [←hq]
       by_cases hw:∃k q r,L[k]? =some (q,r)∧q.dst=some s∧listed.getD k false=true
       ·
        obtain ⟨k,q',r,hk,hd,hlk⟩:=hw
        have EF:∀(j:Nat) o' p',L[j]? =some (o',p')→j≠k→o'.dst≠some s:=by
         intro j o' p' hj hjk
         exact ((Ox j o' (hL' j o' p' hj)).2 k q' s (hL' k q' r hk) (Ne.symm hjk) hd).1
        rw [Dg L 0 E k q' r hk (by simpa using hlk) hd EF,Dg L 0 E k q' r hk (by rw [Nat.zero_add,Gu];split;rfl;exact hlk) hd EF]
       ·
        rw [CA L 0 E,CA L 0 E]
        ·
         intro j o' p' hj hsel hd'
         rw [Nat.zero_add,Gu] at hsel
         by_cases hji:j=i
         · subst hji;rw [hp] at hj;cases hj;exact hds hd'
         · rw [if_neg hji] at hsel;exact hw ⟨j,o',p',hj,hd',hsel⟩
        ·
         intro j o' p' hj hsel hd'
         rw [Nat.zero_add] at hsel
         exact hw ⟨j,o',p',hj,hd',hsel⟩
      have hv:=he s q R6
      have:(a.put o.dst v).tmps.getD s undef=a.tmps.getD s undef:=by
       cases hd:o.dst with
       |none=>rfl
       |some d=>exact CD (fun e=>hds (by rw [hd,e]))
      rw [this]
      exact q.st _ _ _ _ _ hb hv
   have cZ:(listed.setIfInBounds i true).getD c false=(if c=i then true else listed.getD c false):=by
    rw [Array.getD_eq_getD_getElem?,Array.getElem?_setIfInBounds]
    by_cases hm:i=c
    · subst hm;simp [his]
    · rw [if_neg hm,if_neg (Ne.symm hm),Array.getD_eq_getD_getElem?]
   have LC:∀(j:Nat) o',l[j]? =some o'→listed.getD j false=true→∀e∈o'.after,Region.binds .any e=true→listed.getD e.on false=true:=by
    intro j o' hj R5 e he' hb
    obtain ⟨p',Jq⟩:=hL j o' (by simpa using hj)
    exact hJ.down j e.on o' p' Jq R5 (KT.2 ⟨e,he',hb,rfl⟩)
   have SF:DM M w (cur (fun j=>decide (j<i)) 0 L E) o a:=fun s q hs hq=>by
    rw [hsame s (by unfold seen;simp [hs])] at hq
    exact he s q hq
   unfold wpOp
   rw [ho]
   by_cases hic:i=c
   ·
    obtain ⟨hg0,hg⟩:=hgt hic
    dsimp only
    rw [if_pos (Fk hg0)]
    have hlc:listed.getD c false=false:=by rw [←hic];exact Iu
    rw [hlc] at hI
    refine .inl (Uh (hg M w a hn SF hI) fun v w' M' hv hx hI2=>next v w' M' hv hx ?_)
    rw [cZ,if_pos hic.symm];exact hI2
   ·
    have qZ:=hgp hic
    have hlc:listed.getD c false=decide (c<i):=by
     by_cases hlt:i<c
     ·
      rw [decide_eq_false (by omega)]
      cases hlc:listed.getD c false with
      |false=>rfl
      |true=>
       exfalso
       obtain ⟨oc,hoc⟩:∃oc,l[c]? =some oc:=⟨l[c]'Yi,List.getElem?_eq_getElem Yi⟩
       have:=Iy (fun j=>listed.getD j false=true) l LC c oc hoc (fun e he' hb=>LC c oc hoc hlc e he' hb) i (hA i hlt)
       rw [Iu] at this;cases this
     ·
      rw [decide_eq_true (by omega)]
      exact Iy (fun j=>listed.getD j false=true) l LC i o ho' (fun e he' hb=>hall e (by simpa using he') hb) c (hBc i (by omega) (by omega))
    rw [hlc] at hI
    have hI3:(if i<c then I else I').h M w:=by
     by_cases hlt:i<c
     · rw [decide_eq_false (by omega)] at hI;rw [if_pos hlt];exact hI
     · rw [decide_eq_true (by omega)] at hI;rw [if_neg hlt];exact hI
    refine MS qZ SF (fun j want d q hgd hj hq=> ?_) hI3 ?_
    ·
     have hds:d∈seen l.toArray o:=by unfold seen;rw [hgd];exact List.mem_append.2 (.inr (by show d∈((l.toArray[j]?).bind (·.dst)).toList;rw [hj];simp))
     rw [hsame d hds] at hq
     exact he d q hq
    ·
     intro v w' HJ hb
     refine next v w' M HJ (Ext.below hb) ?_
     rw [cZ,if_neg (Ne.symm hic),hlc]
     exact Ci.st _ _ _ _ hb hI
 refine key l.length _ a _ ?_ ⟨by simp [hlen],?_,?_⟩
 · simp [List.count_replicate]
 ·
  intro i k o p hp hl
  exfalso
  rw [Array.getD_eq_getD_getElem?,Array.getElem?_replicate] at hl
  split at hl<;>simp at hl
 ·
  obtain ⟨M,hn,hdf,he,hI⟩:=hs
  have hb:Below w.heap.size w { w with drawn:=w.drawn+1 }:=⟨rfl,rfl,rfl,Nat.le_refl _,fun _ _=>rfl⟩
  refine ⟨M,hn,hdf,?_,?_⟩
  rotate_left
  ·
   have:(Array.replicate l.toArray.size false).getD c false=false:=by rw [Array.getD_eq_getD_getElem?,Array.getElem?_replicate];split<;>rfl
   rw [this];exact I.st _ _ _ hb hI
  intro s q hq
  rw [CA L 0 E] at hq
  · exact q.st _ _ _ _ _ (Ext.below hb) (he s q hq)
  ·
   intro j o p hj hsel
   exfalso
   rw [Array.getD_eq_getD_getElem?,Array.getElem?_replicate] at hsel
   split at hsel<;>simp at hsel
def A3 (P:Program) (f:FuncId) (args:List Pr) (pre:List BS) (res:Pr) (post:List BS):Prop:=Le (α:=Unit) P f args pre (fun _=>True) (fun _=>res) (fun _=>post)
section
variable {M0:Av} {w0:World} {S:Nat→Prop} {rs:List BS} {E:Env} {o:Oper} {g:Func} {M1:Av} {w1:World}
theorem A3.of {f : FuncId} {c : Code} {ps : List Pr} {pre post : List BS} {res : Pr} (hf : P.funcs[f]? = some g) (hb : g.body = some c) (hname : (g.name == "runtime.NumGoroutine") = false) (hlen : ps.length ≤ g.ntmps)
  (h:∀M0 w0 S rs M1 w1,Tr (UN P) g.ntmps (LW 0 ps) (Hp M0 w0 S (pre++Bc M1 w1::rs)) c (bodyPost P g (LL M0 w0 S rs M1 w1 (fun _:Unit=>True) (fun _=>res) (fun _=>post)))):A3 P f ps pre res post:=
 Le.of hf hb hname hlen h
theorem EO {f:FuncId} {xs:Array Operand} {ts:Array TypeId} {ps:List Pr} {pre post:List BS} {res:Pr} (rest:List BS) (hg:o.guard=none) (ho:o.op= .call { callee:= .value (.func f),args:=xs,argTypes:=ts }) (hf:A3 P f ps pre res post)
  (hv:FD E xs.toList ps) (hp:rs.Perm (pre++rest)):Kp P n (Hp M0 w0 S rs) (Hp M0 w0 S (post++rest)) o E res:=by
 refine ⟨hg,fun M w a hsz he hI=> ?_⟩
 have hI:Bl M0 w0 S rs M w:=hI
 have h1:=FD.EJ (o:=o) he (xs:=xs.toList) (fun x hx=>by simp [ho,Op.operands,Call.operands];exact .inr (by simpa using hx)) hv
 have hrun:(execOp a.eval o).run P w= .ok (.enter f (xs.toList.map a.eval).toArray) w:=by
  simp [execOp,ho,resolve,Deferred.ofValue,Act.eval,invoke,DR hf.1,E5 xs]
 rw [hrun]
 refine (Bl.G_ hf hp hI h1).mono ?_
 rintro e w' ⟨v,M',x,rfl,hC,h2,h3,h4⟩
 exact ⟨v,M',rfl,h2,h3,h4⟩
theorem Db {f:FuncId} {cx:Operand} {xs:Array Operand} {ts:Array TypeId} {ps:List Pr} {pre post:List BS} {res:Pr} (rest:List BS) (hg:o.guard=none) (ho:o.op= .call { callee:= .value cx,args:=xs,argTypes:=ts }) (hc:VL E cx (fn (.func f) [])) (hf:A3 P f ps pre res post)
  (hv:FD E xs.toList ps) (hp:rs.Perm (pre++rest)):Kp P n (Hp M0 w0 S rs) (Hp M0 w0 S (post++rest)) o E res:=by
 refine ⟨hg,fun M w a hsz he hI=> ?_⟩
 have hI:Bl M0 w0 S rs M w:=hI
 have h1:=FD.EJ (o:=o) he (xs:=xs.toList) (fun x hx=>by simp [ho,Op.operands,Call.operands];exact .inr (by simpa using hx)) hv
 have hcv:=hc.ev he (by simp [ho,Op.operands,Call.operands])
 have hrun:(execOp a.eval o).run P w= .ok (.enter f (xs.toList.map a.eval).toArray) w:=by
  obtain ⟨cs,h2,hcs⟩:=hcv
  cases cs with
  |nil=>simp [execOp,ho,resolve,Deferred.ofValue,h2,invoke,DR hf.1,E5 xs]
  |cons c cs=>exact hcs.elim
 rw [hrun]
 refine (Bl.G_ hf hp hI h1).mono ?_
 rintro e w' ⟨v,M',x,rfl,hC,h2,h3,h4⟩
 exact ⟨v,M',rfl,h2,h3,h4⟩
theorem TO.DF {Q:Exit→Act→World→Prop} {ops:Array Oper} {r:List Oper} {f:FuncId} {xs:Array Operand} {ts:Array TypeId} {ps:List Pr} {pre post:List BS} {res:Pr} {d:Nat} (rest:List BS) (hg:o.guard=none) (hd:o.dst=some d) (hn:d<n) (ho:o.op= .call { callee:= .value (.func f),args:=xs,argTypes:=ts }) (hf:A3 P f ps pre res post)
  (hv:FD E xs.toList ps) (hp:rs.Perm (pre++rest)) (k:TO P n ops r ((d,res)::E) (Hp M0 w0 S (post++rest)) Q):TO P n ops (o::r) E (Hp M0 w0 S rs) Q:=
 TO.G_ rest hg hd hn ho hf hv hp fun _ _=>k
theorem Fin.CS {rv:ResultVar} {q res:Pr} {post rs':List BS} (hr:g.results= #[rv]) (h:AL P E rs' rv q) (hl:Pr.le q res) (hp:rs'.Perm (post++Bc M1 w1::rs)):
  Fin ⟨fz,[]⟩ E (Hp M0 w0 S rs') (bodyPost P g (LL M0 w0 S rs M1 w1 (fun _:Unit=>True) (fun _=>res) (fun _=>post))) .ret:=
 Fin.kr () hr h trivial hl hp
theorem BE.pure {f:FuncId} {args:List Pr} {res:Pr} {R':Value→BS} (h:BE P f args res Bw R'):A4 P f args res:=by
 refine ⟨h.1,fun M w vs hb hv=> ?_⟩
 refine (h.2 M w Jp [] M w vs ((Bl.begin hb).Nw (r:=Bw) rfl trivial) hv).mono ?_
 rintro e w' ⟨v,M',rfl,h2,h3,h4⟩
 exact ⟨v,rfl,res.st _ _ _ _ _ (Ext.less h4.m) h2,h4.below⟩
theorem Ff {t e T:TypeId} {x:Operand} {sz j:Nat} {rows:List (List Pr)} {v:Value} (ho:o.op= .call { callee:= .builtin .len,args:= #[x],argTypes:= #[t] }) (ht:P.underlying t=some (.slice e)) (hx:VL E x (is v)):
  JS P M0 w0 S j (SR.c (Ap T sz rows v)) o E (int ((rows.length:Nat):Int)):=by
 intro M w a rs he hI hj
 have h1:a.eval x=v:=hx.ev he (by simp [ho,Op.operands,Call.operands])
 have hj':rs[j]? =some (Ap T sz rows v):=hj
 have hrun:∃A c,v= .slice A rows.length c:=by
  rcases (hI.hold _ (List.mem_of_getElem? hj')).1 with ⟨rfl,A,hv⟩|⟨b,cap,spare,hv,_⟩
  · exact ⟨_,_,hv⟩
  · exact ⟨_,_,hv⟩
 obtain ⟨A,c,hv⟩:=hrun
 have:(execOp a.eval o).run P w= .ok (.value (.int .i64 ((rows.length:Nat):Int))) w:=by
  simp [execOp,ho,resolve,invoke,builtin,Builtin.len_,h1,hv,run_underlying ht,goInt]
 rw [this]
 exact ⟨rfl,Below.refl _ _⟩
end
end
section
variable {P:Program} {L:Lg P} {n:Fm} {fz:Nat} {E:Env} {M0:Av} {w0:World} {S:Nat→Prop} {rs:List BS} {o:Oper}
def Wa (b off m:Nat):Pr where
 h _ _ u:=∃o c,u= .slice (some ⟨b,o,none⟩) m c∧(0<m→o=off)
 st _M _w _M' _w' _v _ h:=h
instance iH (b off m:Nat):One (Wa b off m):=⟨by rintro M w u ⟨o,c,rfl,_⟩;exact ⟨rfl,rfl⟩⟩
theorem JM {I:Ci} {t e:TypeId} {x y:Operand} {k:IntKind} {l:Int} {sz b m cap:Nat} (ho:o.op= .slice t x (some y) none none) (ht:P.underlying t=some (.slice e)) (hz:Aw P e=some sz) (hx:VL E x (is (.slice (some ⟨b,0,none⟩) m cap))) (hy:VL E y (is (.int k l))) (h0:0≤l) (hl:l≤m) (hc:m≤cap):
  Af P I o E (Wa b (l.toNat*sz) (m-l.toNat)):=
 Af.same fun M w a he _=>by
  have h1:a.eval x=_:=hx.ev he (by simp [ho,Op.operands])
  have h3:a.eval y=_:=hy.ev he (by simp [ho,Op.operands])
  by_cases hne:cap=l.toNat
  ·
   refine ⟨.slice (some ⟨b,0,none⟩) (m-l.toNat) (cap-l.toNat),?_,0,_,rfl,fun h=>by omega⟩
   simp [execOp,ho,h1,h3,Instr.sliceAt,Instr.slice,run_underlying ht,Instr.sliceBounds,Instr.sliceBound,asIntOf,h0,hl,Bm hz,hne]
  ·
   refine ⟨.slice (some ⟨b,l.toNat*sz,none⟩) (m-l.toNat) (cap-l.toNat),?_,_,_,rfl,fun _=>rfl⟩
   simp [execOp,ho,h1,h3,Instr.sliceAt,Instr.slice,run_underlying ht,Instr.sliceBounds,Instr.sliceBound,asIntOf,h0,hl,Bm hz,hne,Cv]
theorem NF {t e:TypeId} {x y:Operand} {sz d b k m cap off:Nat} {j:Nat} {new:Bool} {ps ps':List Pr} (hg:o.guard=none) (hd:o.dst=some d) (hn:d<n) (ho:o.op= .call { callee:= .builtin .append,args:= #[x,y],argTypes:= #[t,t] })
  (ht:P.underlying t=some (.slice e)) (hz:Aw P e=some sz) (hx:VL E x (is (.slice (some ⟨b,0,none⟩) k cap))) (hy:VL E y (Wa b off m)) (hroom:k+m≤cap) (hl:off+m*sz≤ps.length) (kU:k*sz+m*sz≤ps.length)
  (hps:ps.take (k*sz)++(ps.drop off).take (m*sz)++ps.drop (k*sz+m*sz)=ps'):E6 P M0 w0 S n j (SR.c (AA new b e ps)) (SR.c (AA new b e ps')) o E (is (.slice (some ⟨b,0,none⟩) (k+m) cap)):=by
 refine ⟨hg,fun M w a rs H_ he hI hj=> ?_⟩
 have h1:a.eval x=_:=hx.ev he (by simp [ho,Op.operands,Call.operands])
 obtain ⟨o2,c2,h2,ho2⟩:=hy.ev he (by simp [ho,Op.operands,Call.operands])
 obtain ⟨⟨_,cs,h4,h5,h6⟩,_⟩:=hI.hold _ (List.mem_of_getElem? hj)
 have YN:=h5.length
 have Mz:((cs.drop off).take (m*sz)).length=m*sz:=by rw [List.length_take,List.length_drop];omega
 unfold Aw at hz
 cases hi:P.info? e with
 |none=>rw [hi] at hz;cases hz
 |some i=>
  rw [hi] at hz
  simp only [Option.map_some,Option.some.injEq] at hz
  have hrun := run_append_room (P := P) (w := w) t o.type e i ht hi b k cap cs.toArray h4 ⟨b, o2, none⟩ m c2 ((cs.drop off).take (m * sz)) (by rw [hz]; exact Mz) (fun q u hk => by
   rw [Cv]
   rw [List.getElem?_take] at hk
   split at hk
   ·
    rename_i hq
    have hm:0<m:=by rcases Nat.eq_zero_or_pos m with h|h;subst h;simp at hq;exact h
    have:=ho2 hm
    subst this
    rw [List.getElem?_drop] at hk;simp [World.cell?,h4,hk]
   · cases hk) (fun u hu=>h6 u (List.mem_of_mem_drop (List.mem_of_mem_take hu))) hroom (by rw [hz,Mz];simp;omega)
  rw [hz,Mz] at hrun
  obtain ⟨h7, h8⟩ := Bl.write (qs := ps') (cs := cs.take (k * sz) ++ (cs.drop off).take (m * sz) ++ cs.drop (k * sz + m * sz)) hI hj (by rw [← hps]; exact ((h5.take _).app ((h5.drop off).take _)).app (h5.drop _))
   (fun c hc=>by
    simp only [List.mem_append] at hc
    rcases hc with (hc|hc)|hc
    · exact h6 c (List.mem_of_mem_take hc)
    · exact h6 c (List.mem_of_mem_drop (List.mem_of_mem_take hc))
    · exact h6 c (List.mem_of_mem_drop hc))
  have DT:(execOp a.eval o).run P w= .ok (.value (.slice (some ⟨b,0,none⟩) (k+m) cap)) (w.setRow b (cs.take (k*sz)++(cs.drop off).take (m*sz)++cs.drop (k*sz+m*sz)).toArray):=by
   simp [execOp,ho,resolve,invoke,builtin,h1,h2,hrun]
  rw [DT]
  exact ⟨M,rfl,h8,h7⟩
theorem J9 {I:Ci} {t e:TypeId} {x y:Operand} {sz sz1 sz2:Nat} (ho:o.op= .call { callee:= .builtin .append,args:= #[x,y],argTypes:= #[t,t] }) (ht:P.underlying t=some (.slice e)) (hz:Aw P e=some sz) (hx:VL E x (full sz1 [])) (hy:VL E y (slice sz2 [])):Af P I o E (full sz []):=
 Af.same fun M w a he _=>by
  obtain ⟨_,A,h1⟩:=hx.ev he (by simp [ho,Op.operands,Call.operands])
  obtain ⟨A',c',h2,_⟩:=hy.ev he (by simp [ho,Op.operands,Call.operands])
  simp only [List.length_nil] at h1 h2
  refine ⟨.slice A 0 0,?_,OS sz A M w⟩
  have hrun:=Hs (P:=P) (ty:=o.type) (A:=A) (A':=A') (n:=0) (c:=0) (c':=c') ht hz (Nat.le_refl _) w
  simp [execOp,ho,resolve,invoke,builtin,h1,h2,hrun]
end
theorem k6 {K:Nat} {r:List Pr} (h:K=1):(List.replicate K r).flatten=r:=by subst h;simp
section
variable {P:Program} {L:Lg P} {n:Fm} {fz:Nat} {E:Env} {M0:Av} {w0:World} {S:Nat→Prop} {rs:List BS} {o:Oper}
theorem Tq {p:Pr} (j:Nat) {R R':BS} (hR:rs[j]? =some R) (h:E6 P M0 w0 S n j (SR.c R) (SR.c R') o E p):Kp P n (Hp M0 w0 S rs) (Hp M0 w0 S (rs.set j R')) o E p:=by
 refine ⟨h.1,fun M w a hsz he hI=> ?_⟩
 have:=h.2 M w a rs hsz he hI hR
 generalize (execOp a.eval o).run P w=r at this
 cases r with
 |halt x w'=>exact this.elim
 |ok x w'=>
  cases x<;>first|exact this.elim|exact this
end
theorem Jf {β:Type} {f:β→List Pr} {sz:Nat} (hf:∀x,(f x).length=sz):∀(l:List β) (i:Nat),((l.map f).flatten).take (i*sz)=((l.take i).map f).flatten
 |[],i=>by simp
 |a::l,0=>by simp
 |a::l,i+1=>by
  rw [List.map_cons,List.flatten_cons,List.take_succ_cons,List.map_cons,List.flatten_cons,←Jf hf l i,List.take_append,hf a,List.take_of_length_le (by rw [hf a,Nat.succ_mul];omega),Nat.succ_mul,Nat.add_sub_cancel]
theorem GF {β:Type} {f:β→List Pr} {sz:Nat} (hf:∀x,(f x).length=sz):∀(l:List β) (i:Nat),((l.map f).flatten).drop (i*sz)=((l.drop i).map f).flatten
 |[],i=>by simp
 |a::l,0=>by simp
 |a::l,i+1=>by
  rw [List.map_cons,List.flatten_cons,List.drop_succ_cons,←GF hf l i,List.drop_append,hf a,List.drop_of_length_le (by rw [hf a,Nat.succ_mul];omega),Nat.succ_mul,Nat.add_sub_cancel];rfl
theorem I2 {β:Type} {f:β→List Pr} {sz:Nat} (hf:∀x,(f x).length=sz) {l:List β} {i:Nat} {x:β}:((l.map f).flatten).take (i*sz)++f x++((l.map f).flatten).drop (i*sz)=((l.take i++[x]++l.drop i).map f).flatten:=by
 rw [Jf hf,GF hf,List.map_append,List.map_append,List.flatten_append,List.flatten_append,List.map_singleton];simp
theorem OU {β:Type} {f:β→List Pr} {sz:Nat} (hf:∀x,(f x).length=sz) {l:List β} {i:Nat}:((l.map f).flatten).take (i*sz)++((l.map f).flatten).drop ((i+1)*sz)=((l.eraseIdx i).map f).flatten:=by
 rw [Jf hf,GF hf,List.eraseIdx_eq_take_drop_succ,List.map_append,List.flatten_append]
theorem NG {A S X B:List Pr} {a z N o1 o2 o3 o4 o5 o6:Nat} (hA:A.length=N) (ha:a+z≤N) (hX:X.length=z) (hS:z≤S.length) (h1:o1=a+z) (h2:o2=a) (h3:o3=N-a) (h4:o4=a+z+(N-a)) (h5:o5=a) (h6:o6=a+z) (hB:B=(A.take a++X++A.drop a)++S.drop z):
  ((A++S).take o1++((A++S).drop o2).take o3++(A++S).drop o4).take o5++X++((A++S).take o1++((A++S).drop o2).take o3++(A++S).drop o4).drop o6=B:=by
 rw [h1,h2,h3,h4,h5,h6,hB]
 have e1:(A++S).take (a+z)=A.take a++(A.drop a).take z:=by rw [List.take_append_of_le_length (by omega),List.take_add]
 have e2:((A++S).drop a).take (N-a)=A.drop a:=by
  rw [List.drop_append_of_le_length (by omega),List.take_append_of_le_length (by rw [List.length_drop];omega),List.take_of_length_le (by rw [List.length_drop];omega)]
 have e3:(A++S).drop (a+z+(N-a))=S.drop z:=by
  rw [show a+z+(N-a)=A.length+z by omega,List.drop_append];simp
 have l1:(A.take a).length=a:=by rw [List.length_take];omega
 have l2:((A.drop a).take z).length=z:=by rw [List.length_take,List.length_drop];omega
 rw [e1,e2,e3]
 have t1:(A.take a++(A.drop a).take z++A.drop a++S.drop z).take a=A.take a:=by
  rw [List.append_assoc,List.append_assoc];exact List.take_left' l1
 have t2:(A.take a++(A.drop a).take z++A.drop a++S.drop z).drop (a+z)=A.drop a++S.drop z:=by
  rw [List.append_assoc];exact List.drop_left' (by rw [List.length_append];omega)
 rw [t1,t2]
 simp
theorem NH {A S Z X B R:List Pr} {a z N o0 o1 o2 o3 o4:Nat} (hA:A.length=N) (ha:a≤N) (hX:X.length=z) (hZ:N+z-a≤Z.length) (h0:o0=a) (h1:o1=a) (h2:o2=a+z) (h3:o3=a+z) (h4:o4=a+z+(N-a)) (hR:R=A.drop a) (hB:B=(A.take a++X++A.drop a)++Z.drop (N+z-a)):
  (((A++S).take o0++Z).take o1++X++((A++S).take o0++Z).drop o2).take o3++R++(((A++S).take o0++Z).take o1++X++((A++S).take o0++Z).drop o2).drop o4=B:=by
 rw [h0,h1,h2,h3,h4,hR,hB]
 have l1:(A.take a).length=a:=by rw [List.length_take];omega
 have e0:(A++S).take a=A.take a:=List.take_append_of_le_length (by omega)
 rw [e0]
 have e1:(A.take a++Z).take a=A.take a:=by rw [List.take_append_of_le_length (by omega),List.take_of_length_le (by omega)]
 have e2:(A.take a++Z).drop (a+z)=Z.drop z:=by rw [List.drop_append,List.drop_of_length_le (by omega),List.nil_append,l1];congr 1;omega
 rw [e1,e2]
 have l2:(A.take a++X).length=a+z:=by rw [List.length_append];omega
 have e3:(A.take a++X++Z.drop z).take (a+z)=A.take a++X:=by rw [List.take_append_of_le_length (by omega),List.take_of_length_le (by omega)]
 have e4:(A.take a++X++Z.drop z).drop (a+z+(N-a))=Z.drop (N+z-a):=by
  rw [List.drop_append,List.drop_of_length_le (by omega),List.nil_append,l2,List.drop_drop];congr 1;omega
 rw [e3,e4]
theorem OV {A S Z B:List Pr} {a z N o1 o2 o3 o4 o5 o6:Nat} (hA:A.length=N) (ha:a+z≤N) (h1:o1=a) (h2:o2=a+z) (h3:o3=N-(a+z)) (h4:o4=N-z) (h5:o5=N-z) (h6:o6=N) (hB:B=(A.take a++A.drop (a+z))++(Z++S)):
  ((A++S).take o1++((A++S).drop o2).take o3++(A++S).drop o4).take o5++Z++((A++S).take o1++((A++S).drop o2).take o3++(A++S).drop o4).drop o6=B:=by
 rw [h1,h2,h3,h4,h5,h6,hB]
 have e1:(A++S).take a=A.take a:=by rw [List.take_append_of_le_length (by omega)]
 have e2:((A++S).drop (a+z)).take (N-(a+z))=A.drop (a+z):=by
  rw [List.drop_append_of_le_length (by omega),List.take_append_of_le_length (by rw [List.length_drop];omega),List.take_of_length_le (by rw [List.length_drop];omega)]
 rw [e1,e2]
 have l1:(A.take a++A.drop (a+z)).length=N-z:=by rw [List.length_append,List.length_take,List.length_drop];omega
 have t1:(A.take a++A.drop (a+z)++(A++S).drop (N-z)).take (N-z)=A.take a++A.drop (a+z):=List.take_left' l1
 have t2:(A.take a++A.drop (a+z)++(A++S).drop (N-z)).drop N=S:=by
  rw [List.drop_append,List.drop_of_length_le (by omega),List.nil_append,l1,List.drop_drop,show N-z+(N-(N-z))=A.length by omega,List.drop_left]
 rw [t1,t2]
 simp
section
variable {P:Program} {L:Lg P} {n:Fm} {fz:Nat} {E:Env} {M0:Av} {w0:World} {S:Nat→Prop} {rs:List BS}
theorem St.J7 {i j k sz b:Nat} {new:Bool} {T e:TypeId} {ps:List Pr} {rows:List (List Pr)} {v:Value} {p:Pr} (hi:rs[i]? =some (AA new b T ps)) (hj:rs[j]? =some (Ap e sz rows v)) (hij:j≠i) (hk:ps[k]? =some p) (hp:Pr.le p (is v)) (hl:∀r∈rows,r.length=sz) {a:Act} {w:World} (h:St n E (Hp M0 w0 S rs) a w):
  St n E (Hp M0 w0 S ((rs.set j Bw).set i (AA new b T (ps.set k (slice sz rows))))) a w:=by
 obtain ⟨M,h1,h2,h3,h4⟩:=h
 have h4:Bl M0 w0 S rs M w:=h4
 have hi':(rs.set j (Ap e sz rows v))[i]? =some (AA new b T ps):=by rw [List.getElem?_set_ne hij];exact hi
 obtain ⟨M',g1,g2,g3⟩:=h4.ZX hj hl
 have gi:(rs.set j Bw)[i]? =some (AA new b T ps):=by rw [List.getElem?_set_ne hij];exact hi
 refine ⟨M',h1,h2,fun s q hq=>q.st _ _ _ _ _ g1 (h3 s q hq),g2.Dr gi rfl rfl ?_⟩
 obtain ⟨c1,cs,c2,c3,c4⟩:=(g2.hold _ (List.mem_of_getElem? gi)).1
 exact ⟨c1,cs,c2,c3.set hk (fun u hu=>by rw [show u=v from hp _ _ _ hu];exact g3),c4⟩
theorem Tr.J7 {Q:Exit→Act→World→Prop} {c:Code} (i j k:Nat) {sz b:Nat} {new:Bool} {T e:TypeId} {ps:List Pr} {rows:List (List Pr)} {v:Value} {p:Pr} (hi:rs[i]? =some (AA new b T ps)) (hj:rs[j]? =some (Ap e sz rows v)) (hij:j≠i) (hk:ps[k]? =some p) (hp:Pr.le p (is v)) (hl:∀r∈rows,r.length=sz)
  (kk:Tr L n E (Hp M0 w0 S ((rs.set j Bw).set i (AA new b T (ps.set k (slice sz rows))))) c Q):Tr L n E (Hp M0 w0 S rs) c Q:=Tr.conv (fun _ _ hs=>hs.J7 hi hj hij hk hp hl) kk
end
theorem Za {β:Type} {f:β→List Pr} {l:List β} {k q m:Nat} {x:β} {qs:List Pr} (h:l[k]? =some x) (hq:(f x).take q++qs++(f x).drop (q+m)=f x):(l.map f).set k ((f x).take q++qs++(f x).drop (q+m))=l.map f:=by
 rw [hq]
 refine List.ext_getElem? fun i=> ?_
 rw [List.getElem?_set]
 by_cases hi:k=i
 ·
  subst hi
  rw [if_pos rfl,List.getElem?_map,h]
  have:=Bb h
  rw [if_pos (by rw [List.length_map];exact this)];rfl
 · rw [if_neg hi]
theorem HA {β:Type} {f:β→List Pr} {l:List β} {k q m:Nat} {x:β} {qs:List Pr} (h:l[k]? =some x) (hq:(f x).take q++qs++(f x).drop (q+m)=f x):(l.map f).set ((k:Nat):Int).toNat ((f x).take q++qs++(f x).drop (q+m))=l.map f:=by
 rw [Int.toNat_natCast];exact Za h hq
section
variable {P:Program} {L:Lg P} {n:Fm} {fz:Nat} {E:Env} {M0:Av} {w0:World} {S:Nat→Prop} {rs:List BS} {o:Oper} {g:Func} {M1:Av} {w1:World}
theorem A3.gen {f:FuncId} {args args':List Pr} {pre:List BS} {res:Pr} [Kj res] (hfz:∀M0 w0 S rs M w,Bl M0 w0 S (pre++rs) M w→∃M',Ext M w M' w∧Bl M0 w0 S rs M' w∧∀vs,HL M w args vs→HL M' w args' vs)
  (h:A4 P f args' res):A3 P f args pre res pre:=by
 refine ⟨h.1,fun M0 w0 S rs M w vs hI hv=> ?_⟩
 obtain ⟨M',hx,Ls,ha⟩:=hfz M0 w0 S rs M w hI
 refine (h.2 M' w vs Ls.bd (ha vs hv)).mono ?_
 rintro e' w' ⟨u,rfl,h2,h3⟩
 exact ⟨u,M,(),rfl,trivial,Kj.free _ _ _ _ h2,Ext.below h3,(Hp M0 w0 S _).st _ _ _ h3 hI⟩
theorem Row.hd {M:Av} {w:World} {ad:Addr} {p q:Pr} {ps:List Pr} (h:Row M w ad 0 (p::ps)) (hq:∀u,p.h M w u→q.h M w u):Row M w ad 0 (q::ps):=by
 intro j r hr
 cases j with
 |zero=>
  simp at hr;subst hr
  obtain ⟨u,h1,h2,h3,h4⟩:=h 0 p rfl
  exact ⟨u,h1,h2,h3,hq u h4⟩
 |succ j=>exact h (j+1) r (by simpa using hr)
theorem A3.look {f:FuncId} {wb ob:Nat} {WT OT e:TypeId} {YS ops rows ps:List Pr} {rws:List (List Pr)} {sz k:Nat} {v:Value} {res:Pr} [Kj res] (hk:ops[k]? =some (is v)) (hl:∀r∈rws,r.length=sz) (ho:ops.set k (slice sz rws)=rows)
  (h:A4 P f (ref (ref rows::YS)::ps) res):A3 P f (ptr wb 0::ps) [AA true wb WT (ptr ob 0::YS),AA true ob OT ops,Ap e sz rws v] res [AA true wb WT (ptr ob 0::YS),AA true ob OT ops,Ap e sz rws v]:=by
 refine A3.gen (fun M0 w0 S rs M w hI=> ?_) h
 obtain ⟨Ma,a1,a2⟩:=Bl.J7 (i:=1) (j:=2) (k:=k) hI rfl rfl (by decide) hk hl
 rw [ho] at a2
 have a3:Bl M0 w0 S (AA true ob OT rows::AA true wb WT (ptr ob 0::YS)::Bw::rs) Ma w:=Bl.perm (List.Perm.swap _ _ _) a2
 obtain ⟨Mb,b1,b2,b3⟩:=Bl.PB a3
 obtain ⟨Mc,c1,c2,c3⟩:=Bl.PB b1
 refine ⟨Mc,(a1.trans b2).trans c2,c1.LF,fun vs hv=> ?_⟩
 match vs,hv with
 |u0::vs1,HH=>
  obtain ⟨Iu,HG⟩:=HH
  refine ⟨⟨⟨wb,0,none⟩,Iu,c3.hd fun u hu=>⟨⟨ob,0,none⟩,hu,b3.st c2⟩⟩,HG.st ((a1.trans b2).trans c2)⟩
theorem A3.Wb {f fg:FuncId} {wb:Nat} {WT e:TypeId} {YS:List Pr} {rws:List (List Pr)} {sz k:Nat} {v:Value} {res:Pr} [Kj res] (hl:∀r∈rws,r.length=sz)
  (h:A4 P f [slice sz (rws.drop k),fn (.func fg) [ref [ref YS]]] res):A3 P f [part sz v k,fn (.func fg) [ref [ptr wb 0]]] [AA true wb WT YS,Ap e sz rws v] res [AA true wb WT YS,Ap e sz rws v]:=by
 refine A3.gen (fun M0 w0 S rs M w hI=> ?_) h
 obtain ⟨Ma,a1,a2,a3⟩:=Bl.ZX (j:=1) hI rfl hl
 obtain ⟨Mb,b1,b2,b3⟩:=Bl.PB (rs:=Bw::rs) a2
 refine ⟨Mb,a1.trans b2,b1.LF,fun vs hv=> ?_⟩
 match vs,hv with
 |[u0,u1],HH=>
  obtain ⟨Iu,hu1,_⟩:=HH
  refine ⟨Sa ((slice sz rws).st _ _ _ _ _ b2 a3) ((part sz v k).st _ _ _ _ _ (a1.trans b2) Iu),?_,trivial⟩
  obtain ⟨cs,rfl,hcs⟩:=hu1
  match cs,hcs with
  |[c0],hc1=>
   obtain ⟨ad,rfl,hrow⟩:=hc1.1
   exact ⟨_,rfl,⟨ad,rfl,(hrow.st (a1.trans b2)).hd fun u hu=>⟨⟨wb,0,none⟩,hu,b3⟩⟩,trivial⟩
theorem D1 {I:Ci} {t e:TypeId} {x y:Operand} {k:IntKind} {i:Int} {len:Nat} {ps:List Pr} {p:Pr} (ho:o.op= .index t x y) (ht:P.underlying t=some (.array len e)) (he:Ed P e=true) (hz:Aw P e=some 1) (hx:VL E x (agg ps)) (hy:VL E y (is (.int k i))) (h0:0≤i) (hl:i<len)
  (hp:ps[i.toNat]? =some p):Af P I o E p:=
 Af.same fun M w ac ZI _=>by
  obtain ⟨cs,h1,iC,h2⟩:=hx.ev ZI (by simp [ho,Op.operands])
  have h3:ac.eval y=_:=hy.ev ZI (by simp [ho,Op.operands])
  obtain ⟨u,hu,dP⟩:=h2.at_ i.toNat p hp
  refine ⟨u,?_,dP⟩
  simp [execOp,ho,h1,h3,Instr.index,asIntOf,run_underlying ht,h0,hl,Bm hz,Go.part,FZ he,hu]
theorem Kq {t:TypeId} {x y:Operand} {q0:Tmp} {j:Nat} {new:Bool} {b off m:Nat} {T:TypeId} {ps:Value→List Pr} {qs:List Pr} (hg:o.guard=none) (hd:o.dst=none) (ho:o.op= .store t x y) (hx:VL E x (ptr b off)) (hy:VL E y (Di qs))
  (hz:Aw P t=some m) (hm:qs.length=m) (hl:∀v,off+m≤(ps v).length):E6 P M0 w0 S n j ⟨.one q0,fun v=>AA new b T (ps v)⟩ ⟨.one q0,fun v=>AA new b T ((ps v).take off++qs++(ps v).drop (off+m))⟩ o E any:=by
 refine ⟨hg,fun M w a rs hsz he hI hj=> ?_⟩
 have hj':rs[j]? =some (SR.at_ a (SR.c (AA new b T (ps (a.tmps.getD q0 undef))))):=hj
 obtain ⟨h1,h2⟩:=Ab (P:=P) (M0:=M0) (w0:=w0) (S:=S) (n:=n) (j:=j) (new:=new) (T:=T) (ps:=ps (a.tmps.getD q0 undef)) (b:=b) (off:=off) hg ho hx hy hz hm (hl _) rfl
 have h3:=h2 M w a rs hsz he hI hj'
 revert h3
 generalize (execOp a.eval o).run P w=r
 have key:∀v,SR.at_ (a.put o.dst v) (SR.c (AA new b T ((ps (a.tmps.getD q0 undef)).take off++qs++(ps (a.tmps.getD q0 undef)).drop (off+m))))=SR.at_ (a.put o.dst v) ⟨.one q0,fun v=>AA new b T ((ps v).take off++qs++(ps v).drop (off+m))⟩:=fun v=>by rw [hd];rfl
 intro h3
 cases r with
 |halt x w'=>exact h3
 |ok x w'=>
  cases x
  case value v=>obtain ⟨M',g1,g2,g3⟩:=h3;exact ⟨M',g1,g2,by rw [←key];exact g3⟩
  case skip=>obtain ⟨M',g1,g2,g3⟩:=h3;exact ⟨M',g1,g2,by rw [←key];exact g3⟩
  case enter f args=>
   refine Calls.mono h3 ?_
   rintro e w'' ⟨v,M',g0,g1,g2,g3⟩
   exact ⟨v,M',g0,g1,g2,by rw [←key];exact g3⟩
  all_goals exact h3
theorem TO.re {Q:Exit→Act→World→Prop} {ops:Array Oper} {l:List Oper} {I:Ci} (s:Nat) {q:Pr} (p:Pr) (hs:E.lookup s=some q) (hl:Pr.le q p) (k:TO P n ops l ((s,p)::E) I Q):TO P n ops l E I Q:=by
 intro m hm a w hst
 refine k m hm a w ?_
 obtain ⟨M,h1,h2,he,h4⟩:=hst
 refine ⟨M,h1,h2,fun s' r hr=> ?_,h4⟩
 simp only [List.lookup] at hr
 split at hr
 ·
  rename_i e1
  have:s'=s:=by simpa using e1
  subst this
  simp only [Option.some.injEq] at hr
  subst hr
  exact hl _ _ _ (he _ _ hs)
 · exact he _ _ hr
theorem Fin.Kr {Q:Exit→Act→World→Prop} {x:Exit} {r r':BS} (k:Fin n E (Hp M0 w0 S (r'::r::rs)) Q x):Fin n E (Hp M0 w0 S (r::r'::rs)) Q x:=
 Fin.conv (fun _ _ ⟨M,h1,h2,h3,h4⟩=>⟨M,h1,h2,h3,Bl.perm (List.Perm.swap _ _ _) h4⟩) k
def Jg (P:Program) (f:FuncId) (args:List Pr) (res:Value→Pr) (post:Value→List BS):Prop:=Le (α:=Value) P f args [] (fun _=>True) res post
theorem Jg.of {f : FuncId} {c : Code} {ps : List Pr} {res : Value → Pr} {post : Value → List BS} (hf : P.funcs[f]? = some g) (hb : g.body = some c) (hname : (g.name == "runtime.NumGoroutine") = false) (hlen : ps.length ≤ g.ntmps)
  (h:∀M0 w0 S rs M1 w1,Tr (UN P) g.ntmps (LW 0 ps) (Hp M0 w0 S (Bc M1 w1::rs)) c (bodyPost P g (LL M0 w0 S rs M1 w1 (fun _:Value=>True) res post))):Jg P f ps res post:=
 Le.of hf hb hname hlen h
theorem Fin.Ui {rv:ResultVar} {q:Pr} {res:Value→Pr} {post:Value→List BS} {rs':List BS} (v:Value) (dr:List BS) (hr:g.results= #[rv]) (h:AL P E rs' rv q) (hl:Pr.le q (res v)) (hp:rs'.Perm (dr++(post v++Bc M1 w1::rs))):
  Fin ⟨fz,[]⟩ E (Hp M0 w0 S rs') (bodyPost P g (LL M0 w0 S rs M1 w1 (fun _:Value=>True) res post)) .ret:=by
 rintro a w ⟨M,_,hd,he,hi⟩
 have hi:Bl M0 w0 S rs' M w:=hi
 obtain ⟨u,hu,Jq⟩:=h M w a he (fun q hq=>(hi.hold q hq).1)
 obtain ⟨h1,h2⟩:=ZW (Bl.cX (Bl.perm hp hi))
 exact ⟨hd,u,results1 hr hu,_,M,v,rfl,trivial,hl _ _ _ Jq,h1,h2⟩
theorem TO.OW {Q:Exit→Act→World→Prop} {ops:Array Oper} {r:List Oper} {f:FuncId} {xs:Array Operand} {ts:Array TypeId} {ps:List Pr} {res:Value→Pr} {post:Value→List BS} {d:Nat} (hg:o.guard=none) (hd:o.dst=some d) (hn:d<n) (ho:o.op= .call { callee:= .value (.func f),args:=xs,argTypes:=ts }) (hf:Jg P f ps res post)
  (hv:FD E xs.toList ps) (k:∀v,TO P n ops r ((d,res v)::E) (Hp M0 w0 S (post v++rs)) Q):TO P n ops (o::r) E (Hp M0 w0 S rs) Q:=
 TO.G_ rs hg hd hn ho hf hv (List.Perm.refl _) fun v _=>k v
end
section
variable {P:Program} {L:Lg P} {n:Fm} {fz:Nat} {E:Env} {I:Ci} {Q:Exit→Act→World→Prop} {ops:Array Oper} {o:Oper} {r:List Oper} {g j:Nat} {b want:Bool}
theorem TO.cases (g:Nat) {b:Bool} {l:List Oper} (_hb:E.lookup g=some (bool b)) (ht:b=true→TO P n ops l E I Q) (hf:b=false→TO P n ops l E I Q):TO P n ops l E I Q:=by
 cases b
 · exact hf rfl
 · exact ht rfl
theorem TO.k7 (hg:o.guard=some (j,want)) (hj:(ops[j]?).bind (·.dst)=some g) (hb:E.lookup g=some (bool b)) (Js:b=want) (h:∀(K:Act→World→Prop) M w (a:Act),a.tmps.size=n.sz→a.defers=n.df→F_ M w E a→I.h M w→
  (∀E' I' a' w',TO P n ops r E' I' Q→St n E' I' a' w'→K a' w')→o.wp P a w K Q):TO P n ops (o::r) E I Q:=by
 intro k hl a w hs
 have h0:ops[k]? =some o:=by simpa using (hl 0).symm
 obtain ⟨M,hn,hd,he,hI⟩:=hs
 simp only [List.length_cons,List.range'_succ,wpS,h0]
 have hy:=HI (M:=M) (w:=w) (b:=some b) hj (he g _ hb)
 rw [Gh hg hy,if_pos (by simp [Js])]
 exact (h _ M w a hn hd he hI fun E' I' a' w' hT hst=>hT (k+1) (fun j=>by have:=hl (j+1);simpa [Nat.add_assoc,Nat.add_comm 1 j] using this) a' w' hst)
theorem TO.OX {d:Nat} {p:Pr} (hg:o.guard=some (j,want)) (hj:(ops[j]?).bind (·.dst)=some g) (hb:E.lookup g=some (bool b)) (Js:b=want) (hd:o.dst=some d) (hn:d<n) (h:Af P I o E p) (k:TO P n ops r ((d,p)::E) I Q):TO P n ops (o::r) E I Q:=
 TO.k7 hg hj hb Js fun K M w a h1 h2 h3 h4 hK=>by
  refine GA (h M w a (Ca h3) h4) fun v w' hv hb'=>hK _ _ _ _ k ⟨M,?_,?_,?_,I.st _ _ _ hb' h4⟩
  · rw [CF];exact h1
  · rw [put_defers];exact h2
  ·
   have:=h3.put (o:=o) (p:=p) hb' hv (fun d' hd'=>by rw [hd] at hd';cases hd';rw [h1];exact hn)
   rw [show upd o p E=(d,p)::E by unfold upd;rw [hd]] at this;exact this
theorem TO.N3 {d:Nat} (hg:o.guard=some (j,want)) (hj:(ops[j]?).bind (·.dst)=some g) (hb:E.lookup g=some (bool b)) (Js:b≠want) (hd:o.dst=some d) (hn:d<n) (kk:TO P n ops r ((d,is undef)::E) I Q):TO P n ops (o::r) E I Q:=by
 intro k hl a w hs
 have h0:ops[k]? =some o:=by simpa using (hl 0).symm
 obtain ⟨M,h1,h2,he,hI⟩:=hs
 simp only [List.length_cons,List.range'_succ,wpS,h0]
 have hy:=HI (M:=M) (w:=w) (b:=some b) hj (he g _ hb)
 rw [Gh hg hy,if_neg (by simp [Js])]
 refine kk (k+1) (fun j=>by have:=hl (j+1);simpa [Nat.add_assoc,Nat.add_comm 1 j] using this) _ w ⟨M,by rw [CF];exact h1,by rw [put_defers];exact h2,?_,hI⟩
 have:=he.put (o:=o) (p:=is undef) (v:=undef) (Below.refl w.heap.size w) rfl (fun d' hd'=>by rw [hd] at hd';cases hd';rw [h1];exact hn)
 rw [show upd o (is undef) E=(d,is undef)::E by unfold upd;rw [hd]] at this;exact this
variable {M0:Av} {w0:World} {S:Nat→Prop} {rs:List BS}
theorem TO.ez {d:Nat} {p:Pr} (i:Nat) {R:BS} {R':BS} (hg:o.guard=some (j,want)) (hj:(ops[j]?).bind (·.dst)=some g) (hb:E.lookup g=some (bool b)) (Js:b=want) (hR:rs[i]? =some R) (hd:o.dst=some d) (hn:d<n) (h:E6 P M0 w0 S n i (SR.c R) (SR.c R') { o with guard:=none } E p)
  (k:TO P n ops r ((d,p)::E) (Hp M0 w0 S (rs.set i R')) Q):TO P n ops (o::r) E (Hp M0 w0 S rs) Q:=
 TO.k7 hg hj hb Js fun K M w a hsz hdf he hI hK=>by
  have hw : ({ o with guard := none } : Oper).wp P a w K Q := HN (h.2 M w a rs hsz (Ca he) hI hR) fun v w' M' hv hx Ls => hK _ _ _ _ k ⟨M', by rw [CF]; exact hsz, by rw [put_defers]; exact hdf, by
   intro s q hq
   simp only [List.lookup] at hq
   by_cases hs:s=d
   · subst hs;simp at hq;subst hq;show p.h M' w' ((a.put o.dst v).tmps.getD s undef);rw [hd,B4 (by rw [hsz];exact hn)];exact hv
   · rw [show (s==d)=false by simpa using hs] at hq;show q.h M' w' ((a.put o.dst v).tmps.getD s undef);rw [hd,CD hs];exact q.st _ _ _ _ _ hx (he s q hq),Ls⟩
  exact hw
end
section
variable {P:Program} {L:Lg P} {E:Env} {I:Ci} {o:Oper}
def Sd (P:Program) (s:TypeId) (f:Nat):Option (Nat×TypeId):=
 match P.underlying s with
 |some (.struct fs)=>(fs[f]?).map fun fd=>(fd.offset,fd.type)
 |_=>none
theorem Uj {s:TypeId} {f k:Nat} {t:TypeId} (h:Sd P s f=some (k,t)):∃fs fd,P.underlying s=some (.struct fs)∧fs[f]? =some fd∧fd.offset=k∧fd.type=t:=by
 unfold Sd at h
 cases hu:P.underlying s with
 |none=>rw [hu] at h;cases h
 |some d=>
  rw [hu] at h
  cases d with
  |struct fs=>
   simp only at h
   cases hf:fs[f]? with
   |none=>rw [hf] at h;cases h
   |some fd=>
    rw [hf] at h
    simp only [Option.map_some,Option.some.injEq,Prod.mk.injEq] at h
    exact ⟨fs,fd,rfl,hf,h.1,h.2⟩
  |_=>cases h
theorem Uk {s t:TypeId} {x:Operand} {f k sz:Nat} {ps qs:List Pr} (ho:o.op= .field s x f) (hf:Sd P s f=some (k,t)) (he:FO P t=true) (hz:Aw P t=some sz) (hx:VL E x (agg ps)) (hq:(ps.drop k).take sz=qs):Af P I o E (agg qs):=
 Af.same fun M w ac ZI _=>by
  obtain ⟨cs,h1,iC,h2⟩:=hx.ev ZI (by simp [ho,Op.operands])
  obtain ⟨fs,fd,hu,hfd,rfl,rfl⟩:=Uj hf
  refine ⟨.agg (cs.toArray.extract fd.offset (fd.offset+sz)),?_,(cs.drop fd.offset).take sz,?_,fun c hc=>iC c (List.mem_of_mem_drop (List.mem_of_mem_take hc)),by rw [←hq];exact (h2.drop _).take _⟩
  · simp [execOp,ho,h1,Instr.field,asAgg,run_underlying hu,hfd,Bm hz,Go.part,DV he]
  ·
   congr 1
   apply Array.toList_inj.1
   simp [List.extract,Nat.add_sub_cancel_left]
end
class T1 (P:Program) (t:TypeId):Prop where
 h:Ed P t=true
class TA (P:Program) (t:TypeId):Prop where
 h:FO P t=true
class TZ (P:Program) (t:TypeId) (m:outParam Nat):Prop where
 h:Aw P t=some m
class TF (P:Program) (s f:Nat) (k:outParam Nat):Prop where
 h:Ag P s f=some k
class TU (P:Program) (t:TypeId) (d:outParam TypeDesc):Prop where
 h:P.underlying t=some d
class TB (P:Program) (t:TypeId) (place:outParam (Nat→Option (Nat×Nat))) (zs:outParam (List Value)):Prop where
 h:∀ps,P.built t ps=Instr.fill place zs.toArray ps
 z:zs.all (·.oneCell')=true
class TV (P:Program) (t:TypeId) (zs:outParam (List Value)):Prop where
 h:Bn P t=some zs
 z:zs.all (·.oneCell')=true
class TM (P:Program):Prop where
 h:P.follows .mixedOrders=true
section
variable {P:Program} {L:Lg P} {n:Fm} {fz:Nat} {I:Ci} {ops:Array Oper} {o:Oper} {r:List Oper} {E:Env} {K:Env→Prop} {d g j:Nat} {b want:Bool} {p:Pr} {x y:Operand} {Q:Exit→Act→World→Prop} {t u:TypeId}
theorem qa [i:T1 P t] {ps:List Pr} (ho:o.op= .load t x) (hx:DL E x=some (ref (p::ps))):Af P I o E p:=MU ho i.h (vl hx)
theorem qb [i:TA P t] {m:Nat} [z:TZ P t m] {ps qs:List Pr} (ho:o.op= .load t x) (hx:DL E x=some (ref ps)) (hq:ps.take m=qs) (hm:qs.length=m):Af P I o E (agg qs):=AO ho i.h z.h (vl hx) hq hm
theorem qc {s:TypeId} {f k:Nat} [i:TF P s f k] {ps qs:List Pr} (ho:o.op= .fieldAddr s x f) (hx:DL E x=some (ref ps)) (hq:ps.drop k=qs):Af P I o E (ref qs):=Ju ho i.h (vl hx) hq
theorem qd {s:TypeId} {f k:Nat} [i:TF P s f k] {b off:Nat} (ho:o.op= .fieldAddr s x f) (hx:DL E x=some (ptr b off)):Af P I o E (ptr b (off+k)):=AE ho i.h (vl hx)
theorem qg {e:TypeId} [i:TU P t (.slice e)] {sz:Nat} {β:Type} {f:β→List Pr} {l:List β} (ho:o.op= .call { callee:= .builtin .len,args:= #[x],argTypes:= #[t] }) (hx:DL E x=some (slice sz (l.map f))):Af P I o E (int ((l.length:Nat):Int)):=Gi ho i.h (vl hx)
theorem qh [i:TU P t .string] {a:List UInt8} (ho:o.op= .call { callee:= .builtin .len,args:= #[x],argTypes:= #[t] }) (hx:DL E x=some (str a)):Af P I o E (int ((a.length:Nat):Int)):=ZH ho i.h (vl hx)
theorem qi [i:TU P t .bool] {b c:Bool} (ho:o.op= .binOp .eql t x y u) (hx:DL E x=some (bool b)) (hy:DL E y=some (bool c)):Af P I o E (bool (b==c)):=dX ho i.h (vl hx) (vl hy)
theorem qj {p:Pr} [One p] (ho:o.op= .box t x) (hx:DL E x=some p):Af P I o E (ref [p]):=Ba ho (VL.le (vl hx) (AU p))
theorem ql {ps:List Pr} (ho:o.op= .box t x) (hx:DL E x=some (agg ps)):Af P I o E (ref ps):=Ba ho (VL.le (vl hx) (Ae ps))
class CP (p:Pr) (ps:outParam (List Pr)):Prop where
 h:Pr.le p (Di ps)
instance qm (ps:List Pr):CP (agg ps) ps:=⟨Ae ps⟩
instance (priority:=low) qn (p:Pr) [One p]:CP p [p]:=⟨AU p⟩
class CQ (p:Pr) (ps:outParam (List Pr)):Prop where
 h:Pr.le p (Di ps)
instance qo (ps:List Pr):CQ (agg ps) ps:=⟨Ae ps⟩
instance qp (k:IntKind) (n:Int):CQ (is (.int k n)) [is (.int k n)]:=⟨AU _⟩
instance oJ (b:Bool):CQ (is (.bool b)) [is (.bool b)]:=⟨AU _⟩
instance qq (s:ByteArray):CQ (is (.string s)) [is (.string s)]:=⟨AU _⟩
instance qt (a:Option Addr):CQ (is (.pointer a)) [is (.pointer a)]:=⟨AU _⟩
instance k8 (sz:Nat) (rows:List (List Pr)):CQ (slice sz rows) [slice sz rows]:=⟨AU _⟩
instance qu (ps:List Pr):CQ (ref ps) [ref ps]:=⟨AU _⟩
instance sk (f:Fn) (ps:List Pr):CQ (fn f ps) [fn f ps]:=⟨AU _⟩
theorem vf0:SH E [] []:=trivial
theorem vf1 {i:Nat} {q:Pr} {row:List Pr} [c:CQ q row] {xs:List (Nat×Operand)} {rows:List (Nat×List Pr)} (hx:DL E x=some q) (h:SH E xs rows):SH E ((i,x)::xs) ((i,row)::rows):=⟨⟨rfl,VL.le (vl hx) c.h⟩,h⟩
theorem vr0 {sz:Nat}:Nx E sz [] []:=trivial
theorem vr1 {sz:Nat} {q:Pr} {row:List Pr} [c:CQ q row] {xs:List Operand} {rows:List (List Pr)} (hx:DL E x=some q) (hl:row.length=sz) (h:Nx E sz xs rows):Nx E sz (x::xs) (row::rows):=⟨⟨hl,VL.le (vl hx) c.h⟩,h⟩
theorem qv {parts:Array (Nat×Operand)} {place:Nat→Option (Nat×Nat)} {zs:List Value} [i:TB P t place zs] {rows:List (Nat×List Pr)} {qs:List Pr} (ho:o.op= .build t parts) (hx:SH E parts.toList rows) (hq:OG place (zs.map is) rows=some qs):Af P I o E (agg qs):=As ho i.h i.z hx hq
theorem qw {e:TypeId} {sz m:Nat} {zs:List Value} {xs:List Operand} {parts:Array (Nat×Operand)} {rows:List (List Pr)} [i:TU P t (.slice e)] [z:TZ P e sz] [v:TV P e zs] (ho:o.op= .buildSlice t m parts) (hp:parts.toList.map Prod.snd=xs) (hm:(m==xs.length&&(parts.toList.map Prod.fst==List.range m)&&zs.length==sz&&Nat.blt 0 sz&&Nat.ble (m*sz) 16777216)=true) (hx:Nx E sz xs rows):Af P I o E (full sz rows):=by
 simp only [Bool.and_eq_true,beq_iff_eq,Nat.blt_eq,Nat.ble_eq] at hm
 obtain ⟨⟨⟨⟨h1,h2⟩,h3⟩,h4⟩,h5⟩:=hm
 subst h1
 refine AM ho ?_ i.h z.h v.h h3 h4 hx h5
 refine List.ext_getElem (by rw [←hp];simp) fun k h6 h7=> ?_
 have h8:k<xs.length:=by simpa using h7
 simp only [List.getElem_map,List.getElem_zipIdx,Nat.zero_add]
 have e1:(parts.toList.map Prod.fst)[k]'(by simpa using h6)=k:=by simp only [h2];exact List.getElem_range _
 have e2:(parts.toList.map Prod.snd)[k]'(by simpa using h6)=xs[k]:=by simp only [hp]
 simp only [List.getElem_map] at e1 e2
 exact Prod.ext e1 e2
section
variable {M0:Av} {w0:World} {S:Nat→Prop} {b off:Nat} {T:TypeId} {new:Bool} {ps qs:List Pr} {m:Nat} {q:Pr}
theorem Jh [i:T1 P t] (ho:o.op= .load t x) (hx:DL E x=some (ptr b off)) (hp:ps[off]? =some p):JS P M0 w0 S j (SR.c (AA new b T ps)) o E p:=Bg ho i.h (vl hx) hp
theorem Ji [i:TA P t] [z:TZ P t m] (ho:o.op= .load t x) (hx:DL E x=some (ptr b off)) (hq:(ps.drop off).take m=qs) (hm:qs.length=m):JS P M0 w0 S j (SR.c (AA new b T ps)) o E (agg qs):=AQ ho i.h z.h (vl hx) hq hm
theorem Q5 {ps':List Pr} [z:TZ P t m] [c:CP q qs] (hg:o.guard=none) (ho:o.op= .store t x y) (hx:DL E x=some (ptr b off)) (hy:DL E y=some q) (hm:qs.length=m:=by rfl) (hl:Nat.ble (off+m) ps.length=true:=by rfl) (hps:ps.take off++qs++ps.drop (off+m)=ps':=by rfl):E6 P M0 w0 S n j (SR.c (AA new b T ps)) (SR.c (AA new b T ps')) o E any:=Ab hg ho (vl hx) (VL.le (vl hy) c.h) z.h hm (Nat.le_of_ble_eq_true hl) hps
variable {rs:List BS}
theorem sf (i s:Nat) [z:TZ P t m] [c:CP q qs] (hg:o.guard=none∧o.dst=none∧o.op= .store t x y) (hx:DL E x=some (ptr b 0)) (hy:DL E y=some q) (hi:rs[i]? =some (AA true b T ps)) (hs:E.lookup s=some (ptr b 0))
  (k:TO P n ops r ((s,ref qs)::E) (Hp M0 w0 S ((rs.set i (AA true b T qs)).eraseIdx i)) Q) (hm:qs.length=m:=by rfl) (hl:ps.length=m:=by rfl):TO P n ops (o::r) E (Hp M0 w0 S rs) Q:=
 TO.AR i hg.1 hg.2.1 hg.2.2 (vl hx) (VL.le (vl hy) c.h) hi z.h hm hl (TO.freeze (ps:=qs) i s (by
  have hlt:i<rs.length:=by rcases Nat.lt_or_ge i rs.length with h|h;exact h;rw [List.getElem?_eq_none h] at hi;cases hi
  rw [List.getElem?_set_self hlt]) hs k)
theorem sa (i:Nat) [z:TZ P t m] [c:CP q qs] (hg:o.guard=none∧o.dst=none∧o.op= .store t x y) (hx:DL E x=some (ptr b 0)) (hy:DL E y=some q) (hi:rs[i]? =some (AA new b T ps))
  (k:TO P n ops r E (Hp M0 w0 S (rs.set i (AA new b T qs))) Q) (hm:qs.length=m:=by rfl) (hl:ps.length=m:=by rfl):TO P n ops (o::r) E (Hp M0 w0 S rs) Q:=TO.AR i hg.1 hg.2.1 hg.2.2 (vl hx) (VL.le (vl hy) c.h) hi z.h hm hl k
end
def e6 (o:Oper):Nat:=match o.op with
 | .move ..=>1
 | .assign ..=>1
 | .fieldAddr ..=>2
 | .load ..=>3
 | .binOp .add ..=>7
 | .binOp .sub ..=>8
 | .binOp ..=>4
 | .pick ..=>5
 | .nilCheck ..=>6
 | .call { callee:= .builtin .len,.. }=>9
 | .unOp ..=>10
 | .box ..=>11
 | .extract ..=>12
 | .makeFunc ..=>13
 | .build ..=>14
 | .buildSlice ..=>15
 | .store ..=>16
 |_=>0
def k9 (o:Oper):Bool:=o.guard.isNone
def grp (o:Oper):Nat:=if e6 o=0 then 0 else if e6 o<5 then 1 else if e6 o<9 then 2 else if e6 o<16 then 3 else 4
theorem qx {m z:Int} (ho:o.op= .binOp .add t x y u) (hx:DL E x=some (int m)) (hy:DL E y=some (int z)) (hr: -9223372036854775808≤m+z∧m+z≤9223372036854775807):Af P I o E (int (m+z)):=Cu ho (vl hx) (vl hy) hr
theorem qy {m z:Int} (ho:o.op= .binOp .sub t x y u) (hx:DL E x=some (int m)) (hy:DL E y=some (int z)) (hr: -9223372036854775808≤m-z∧m-z≤9223372036854775807):Af P I o E (int (m-z)):=KY ho (vl hx) (vl hy) hr
theorem oF (h:Af P I o E p:=by first|exact qc rfl rfl rfl|exact qd rfl rfl):Af P I o E p:=h
theorem oL (h:Af P I o E p:=by first|exact qa rfl rfl|exact qb rfl rfl rfl rfl|exact Az 0 rfl (Jh rfl rfl rfl)|exact Az 0 rfl (Ji rfl rfl rfl rfl)|exact Az 1 rfl (Jh rfl rfl rfl)|exact Az 1 rfl (Ji rfl rfl rfl rfl)|exact Az 2 rfl (Jh rfl rfl rfl)|exact Az 2 rfl (Ji rfl rfl rfl rfl)|exact Az 3 rfl (Jh rfl rfl rfl)|exact Az 3 rfl (Ji rfl rfl rfl rfl)|exact Az 4 rfl (Jh rfl rfl rfl)|exact Az 4 rfl (Ji rfl rfl rfl rfl)):Af P I o E p:=h
theorem oB (h:Af P I o E p:=by first|exact ki rfl rfl rfl rfl|exact eT rfl (vl rfl) (vl rfl)|exact eU rfl (vl rfl) (vl rfl)|exact qi rfl rfl rfl):Af P I o E p:=h
theorem oP (h:Af P I o E p:=by first|exact Vf rfl rfl (by first|rfl|assumption) rfl|exact SJ rfl rfl (by first|rfl|assumption) rfl|exact Uf rfl (vl rfl) (vl rfl)|exact SZ rfl (vl rfl) (vl rfl)):Af P I o E p:=h
theorem oN (h:Af P I o E p:=by first|exact A6 rfl (vl rfl)|exact LY rfl (vl rfl)|exact MV rfl (vl rfl)):Af P I o E p:=h
theorem oA (h:Af P I o E p:=by first|exact qx rfl rfl rfl (by omega)|exact ki rfl rfl rfl rfl):Af P I o E p:=h
theorem oS (h:Af P I o E p:=by first|exact qy rfl rfl rfl (by omega)|exact ki rfl rfl rfl rfl):Af P I o E p:=h
theorem oC (h:Af P I o E p:=by first|exact qg rfl rfl|exact qh rfl rfl):Af P I o E p:=h
theorem oU (h:Af P I o E p:=by first|exact HK rfl (vl rfl)):Af P I o E p:=h
theorem oO (h:Af P I o E p:=by first|exact ql rfl rfl|exact qj rfl rfl):Af P I o E p:=h
theorem oE (h:Af P I o E p:=by first|exact Aq rfl (vl rfl) rfl):Af P I o E p:=h
theorem oM (h:Af P I o E p:=by first|exact IG rfl rfl):Af P I o E p:=h
theorem oD (h:Af P I o E p:=by first|exact qv rfl (by repeat any_goals first|exact vf0|refine' vf1 rfl ?_) (by rfl)):Af P I o E p:=h
theorem oI (h:Af P I o E p:=by first|exact qw rfl rfl (by rfl) (by repeat any_goals first|exact vr0|refine' vr1 rfl (by rfl) ?_)):Af P I o E p:=h
theorem R9 {f:FuncId} {ts:Array TypeId} {res:Pr} (hf:A4 P f [] res) (ho:o.op= .call { callee:= .value (.func f),args:= #[],argTypes:=ts }):Af P I o E res:=AX ho hf trivial
theorem Bq {f:FuncId} {ts:Array TypeId} {x0:Operand} {p0:Pr} {res:Pr} (hf:A4 P f [p0] res) (ho:o.op= .call { callee:= .value (.func f),args:= #[x0],argTypes:=ts }) (h0:DL E x0=some p0):Af P I o E res:=AX ho hf ⟨ke h0,trivial⟩
theorem Dc {f:FuncId} {ts:Array TypeId} {x0:Operand} {p0:Pr} {x1:Operand} {p1:Pr} {res:Pr} (hf:A4 P f [p0,p1] res) (ho:o.op= .call { callee:= .value (.func f),args:= #[x0,x1],argTypes:=ts }) (h0:DL E x0=some p0) (h1:DL E x1=some p1):Af P I o E res:=AX ho hf ⟨ke h0,ke h1,trivial⟩
theorem iI {f:FuncId} {ts:Array TypeId} {x0:Operand} {p0:Pr} {x1:Operand} {p1:Pr} {x2:Operand} {p2:Pr} {res:Pr} (hf:A4 P f [p0,p1,p2] res) (ho:o.op= .call { callee:= .value (.func f),args:= #[x0,x1,x2],argTypes:=ts }) (h0:DL E x0=some p0) (h1:DL E x1=some p1) (h2:DL E x2=some p2):Af P I o E res:=AX ho hf ⟨ke h0,ke h1,ke h2,trivial⟩
theorem kc4 {f:FuncId} {ts:Array TypeId} {x0:Operand} {p0:Pr} {x1:Operand} {p1:Pr} {x2:Operand} {p2:Pr} {x3:Operand} {p3:Pr} {res:Pr} (hf:A4 P f [p0,p1,p2,p3] res) (ho:o.op= .call { callee:= .value (.func f),args:= #[x0,x1,x2,x3],argTypes:=ts }) (h0:DL E x0=some p0) (h1:DL E x1=some p1) (h2:DL E x2=some p2) (h3:DL E x3=some p3):Af P I o E res:=AX ho hf ⟨ke h0,ke h1,ke h2,ke h3,trivial⟩
theorem kc5 {f:FuncId} {ts:Array TypeId} {x0:Operand} {p0:Pr} {x1:Operand} {p1:Pr} {x2:Operand} {p2:Pr} {x3:Operand} {p3:Pr} {x4:Operand} {p4:Pr} {res:Pr} (hf:A4 P f [p0,p1,p2,p3,p4] res) (ho:o.op= .call { callee:= .value (.func f),args:= #[x0,x1,x2,x3,x4],argTypes:=ts }) (h0:DL E x0=some p0) (h1:DL E x1=some p1) (h2:DL E x2=some p2) (h3:DL E x3=some p3) (h4:DL E x4=some p4):Af P I o E res:=AX ho hf ⟨ke h0,ke h1,ke h2,ke h3,ke h4,trivial⟩
theorem cP (_:k9 o=true) (h:Ch P n I ops (o::r) E K):Ch P n I ops (o::r) E K:=h
theorem cG (_:k9 o=false) (h:Ch P n I ops (o::r) E K):Ch P n I ops (o::r) E K:=h
theorem cK (k:Nat) (_:e6 o=k) (h:Ch P n I ops (o::r) E K):Ch P n I ops (o::r) E K:=h
theorem cS (k:Nat) (_:grp o=k) (h:Ch P n I ops (o::r) E K):Ch P n I ops (o::r) E K:=h
theorem tK (k:Nat) (_:e6 o=k) (h:TO P n ops (o::r) E I Q):TO P n ops (o::r) E I Q:=h
theorem tG (k:Nat) (_:grp o=k) (h:TO P n ops (o::r) E I Q):TO P n ops (o::r) E I Q:=h
theorem Tr.rm [i:TM P] {id:Nat} {l:List Oper} (hB:JR l=true) (h:Ch P n I l.toArray l E (fun E'=>Fin n E' I Q .normal)):Tr (UN P) n E I (.region id l.toArray true) Q:=Tr.MT i.h hB h
theorem Tr.ct {c:Operand} {y z:Code} (hc:DL E c=some (bool true)) (k:Tr L n E I y Q):Tr L n E I (.cond c y z) Q:=Tr.cond hc (fun _=>k) (fun h=>nomatch h)
theorem Tr.cf {c:Operand} {y z:Code} (hc:DL E c=some (bool false)) (k:Tr L n E I z Q):Tr L n E I (.cond c y z) Q:=Tr.cond hc (fun h=>nomatch h) (fun _=>k)
structure Wc (G:Prop):Prop where
 k:G
theorem Cx.mono {M0:Av} {w0:World} {S:Nat→Prop}:∀{l:List Oper} {E:Env} {rs:List SR} {K K':List X→Env→List SR→Prop},(∀L E rs,K L E rs→K' L E rs)→Cx P M0 w0 S n ops l E rs K→Cx P M0 w0 S n ops l E rs K'
 |[],_,_,_,_,h,k=>h _ _ _ k
 |_::_,_,_,_,_,h,⟨p,k,h1,h2,h3⟩=>⟨p,k,h1,h2,Cx.mono (fun _ _ _=>h _ _ _) h3⟩
theorem Cx.keys {M0:Av} {w0:World} {S:Nat→Prop}:∀{l:List Oper} {E:Env} {rs:List SR} {K:List X→Env→List SR→Prop},Cx P M0 w0 S n ops l E rs K→∃ks:List KN,Cx P M0 w0 S n ops l E rs (fun L E' rs'=>L.map (·.k.JT)=ks∧K L E' rs')
 |[],_,_,_,k=>⟨[],rfl,k⟩
 |_::_,_,_,_,⟨p,k,h1,h2,h3⟩=>by
  obtain ⟨ks,h4⟩:=Cx.keys h3
  exact ⟨k.JT::ks,p,k,h1,h2,Cx.mono (fun L E rs h=>⟨by rw [List.map_cons,h.1],h.2⟩) h4⟩
theorem Tr.rx [i:TM P] {M0:Av} {w0:World} {S:Nat→Prop} {id:Nat} {l:List Oper} {G5:List BS}
  (h:Cx P M0 w0 S n l.toArray l E (G5.map SR.c) (fun L E' rs'=>Lq l (L.map (·.k.JT))=true∧A9 n M0 w0 S E' rs' Q)):Tr (UN P) n E (Hp M0 w0 S G5) (.region id l.toArray true) Q:=by
 obtain ⟨ks,hk⟩:=Cx.keys h
 obtain ⟨L,h1,h2,h3⟩:=O1 l 0 E _ hk
 exact Tr.Jv i.h ks (by rw [←h3.1];exact h3.2.1) (hk.mono fun _ _ _ h=>⟨h.1,h.2.2⟩)
theorem al1 {rs:List BS} {r0:BS}:CB (SR.c r0::rs.map SR.c) (r0::rs):= .cons (CB.map _)
theorem KP {rs:List BS} {r0:BS} {r1:BS}:CB (SR.c r0::SR.c r1::rs.map SR.c) (r0::r1::rs):= .cons (.cons (CB.map _))
theorem Wd {rs:List BS} {r0:BS} {r1:BS} {r2:BS}:CB (SR.c r0::SR.c r1::SR.c r2::rs.map SR.c) (r0::r1::r2::rs):= .cons (.cons (.cons (CB.map _)))
theorem IY {rs:List BS} {r0:BS} {r1:BS} {r2:BS} {r3:BS}:CB (SR.c r0::SR.c r1::SR.c r2::SR.c r3::rs.map SR.c) (r0::r1::r2::r3::rs):= .cons (.cons (.cons (.cons (CB.map _))))
theorem Zb {rs:List BS} {r0:BS} {r1:BS} {r2:BS} {r3:BS} {r4:BS}:CB (SR.c r0::SR.c r1::SR.c r2::SR.c r3::SR.c r4::rs.map SR.c) (r0::r1::r2::r3::r4::rs):= .cons (.cons (.cons (.cons (.cons (CB.map _)))))
theorem fo {f : FuncId} {g : Func} {c : Code} {ps : List Pr} {res : Pr} (hf : P.funcs[f]? = some g) (hb : g.body = some c) (hname : ((g.name == "runtime.NumGoroutine") = false ∧ Nat.ble ps.length g.ntmps = true))
  (h:∀M0 w0,Tr (UN P) g.ntmps (LW 0 ps) (Bse M0 w0) c (bodyPost P g (Nt M0 w0 res))):A4 P f ps res:=A4.of hf hb hname.1 (Nat.le_of_ble_eq_true hname.2) h
section
variable {M0:Av} {w0:World} {S:Nat→Prop} {rs:List SR} {KX:List X→Env→List SR→Prop}
theorem xId {l:List Oper} (h:Cx P M0 w0 S n ops l E rs KX):Cx P M0 w0 S n ops l E rs KX:=h
theorem xK (k:Nat) (_:e6 o=k) (h:Cx P M0 w0 S n ops (o::r) E rs KX):Cx P M0 w0 S n ops (o::r) E rs KX:=h
theorem xG (k:Nat) (_:grp o=k) (h:Cx P M0 w0 S n ops (o::r) E rs KX):Cx P M0 w0 S n ops (o::r) E rs KX:=h
end
theorem cId {l:List Oper} (h:Ch P n I ops l E K):Ch P n I ops l E K:=h
theorem iJ {c:Code} (h:Tr L n E I c Q):Tr L n E I c Q:=h
theorem fId {e:Exit} (h:Fin n E I Q e):Fin n E I Q e:=h
theorem k_ {l:List Oper} (h:TO P n ops l E I Q):TO P n ops l E I Q:=h
theorem ac {G H:Prop} (k:G) (h:Wc G→H:=by
 intro k
 repeat1' first
  |((with_reducible refine cId ?_);first
   |with_reducible refine Ch.nil ?_
   |(refine cP rfl ?_;first
    |(refine cS 1 rfl ?_;first
      |(refine cK 1 rfl ?_;refine cm rfl ?_)
      |(refine cK 2 rfl ?_;refine co rfl oF ?_)
      |(refine cK 3 rfl ?_;refine co rfl oL ?_)
      |(refine cK 4 rfl ?_;refine co rfl oB ?_))
    |(refine cS 2 rfl ?_;first
      |(refine cK 5 rfl ?_;refine co rfl oP ?_)
      |(refine cK 6 rfl ?_;refine co rfl oN ?_)
      |(refine cK 7 rfl ?_;refine co rfl oA ?_)
      |(refine cK 8 rfl ?_;refine co rfl oS ?_))
    |(refine cS 3 rfl ?_;first
      |(refine cK 9 rfl ?_;refine co rfl oC ?_)
      |(refine cK 10 rfl ?_;refine co rfl oU ?_)
      |(refine cK 11 rfl ?_;refine co rfl oO ?_)
      |(refine cK 12 rfl ?_;refine co rfl oE ?_)
      |(refine cK 13 rfl ?_;refine co rfl oM ?_)
      |(refine cK 14 rfl ?_;refine co rfl oD ?_)
      |(refine cK 15 rfl ?_;refine co rfl oI ?_)))
   |(refine cG rfl ?_;first
    |refine cu rfl ?_
    |refine cnt (by assumption) rfl ?_
    |refine cnf (by assumption) rfl ?_
    |(refine cS 1 rfl ?_;first
      |(refine cK 1 rfl ?_;refine II (by first|assumption|rfl) rfl ?_)
      |(refine cK 2 rfl ?_;refine cy (by first|assumption|rfl) rfl oF ?_)
      |(refine cK 3 rfl ?_;refine cy (by first|assumption|rfl) rfl oL ?_)
      |(refine cK 4 rfl ?_;refine cy (by first|assumption|rfl) rfl oB ?_))
    |(refine cS 2 rfl ?_;first
      |(refine cK 5 rfl ?_;refine cy (by first|assumption|rfl) rfl oP ?_)
      |(refine cK 6 rfl ?_;refine cy (by first|assumption|rfl) rfl oN ?_)
      |(refine cK 7 rfl ?_;refine cy (by first|assumption|rfl) rfl oA ?_)
      |(refine cK 8 rfl ?_;refine cy (by first|assumption|rfl) rfl oS ?_))
    |(refine cS 3 rfl ?_;first
      |(refine cK 9 rfl ?_;refine cy (by first|assumption|rfl) rfl oC ?_)
      |(refine cK 10 rfl ?_;refine cy (by first|assumption|rfl) rfl oU ?_)
      |(refine cK 11 rfl ?_;refine cy (by first|assumption|rfl) rfl oO ?_)
      |(refine cK 12 rfl ?_;refine cy (by first|assumption|rfl) rfl oE ?_)
      |(refine cK 13 rfl ?_;refine cy (by first|assumption|rfl) rfl oM ?_)
      |(refine cK 14 rfl ?_;refine cy (by first|assumption|rfl) rfl oD ?_)
      |(refine cK 15 rfl ?_;refine cy (by first|assumption|rfl) rfl oI ?_))
    |refine cnd rfl rfl ?_))
  |((with_reducible refine iJ ?_);first
   |with_reducible refine Tr.seq ?_
   |with_reducible refine Tr.B_ ?_
   |refine Tr.rm (by kernel_rfl) ?_
   |with_reducible refine Tr.skip ?_
   |with_reducible refine Tr.block ?_
   |with_reducible refine Tr.ret ?_
   |with_reducible refine Tr.exit ?_
   |refine Tr.ct rfl ?_
   |refine Tr.cf rfl ?_)
  |((with_reducible refine fId ?_);first
   |with_reducible refine Fin.AJ ?_
   |with_reducible refine Fin.Au ?_
   |with_reducible refine Fin.Ai ?_
   |with_reducible refine Fin.BA ?_
   |refine Fin.Jt rfl ?_
   |with_reducible refine Fin.block ?_
   |refine Fin.LX rfl (Ct.F5 _ _) rfl ?_)
 first|with_reducible refine Fin.go ?_|with_reducible refine cId ?_|with_reducible refine k_ ?_|with_reducible refine iJ ?_|refine Fin.go ?_|skip
 exact k.k):H:=h ⟨k⟩
theorem ao {G H:Prop} (k:G) (h:Wc G→H:=by
 intro k
 repeat1' first
  |((with_reducible refine k_ ?_);first
   |with_reducible refine TO.nil ?_
   |(refine tG 1 rfl ?_;first
     |(refine tK 1 rfl ?_;refine tm rfl ?_)
     |(refine tK 2 rfl ?_;refine tp rfl oF ?_)
     |(refine tK 3 rfl ?_;refine tp rfl oL ?_)
     |(refine tK 4 rfl ?_;refine tp rfl oB ?_))
   |(refine tG 2 rfl ?_;first
     |(refine tK 5 rfl ?_;refine tp rfl oP ?_)
     |(refine tK 6 rfl ?_;refine tp rfl oN ?_)
     |(refine tK 7 rfl ?_;refine tp rfl oA ?_)
     |(refine tK 8 rfl ?_;refine tp rfl oS ?_))
   |(refine tG 3 rfl ?_;first
     |(refine tK 9 rfl ?_;refine tp rfl oC ?_)
     |(refine tK 10 rfl ?_;refine tp rfl oU ?_)
     |(refine tK 12 rfl ?_;refine tp rfl oE ?_)
     |(refine tK 13 rfl ?_;refine tp rfl oM ?_)
     |(refine tK 14 rfl ?_;refine tp rfl oD ?_)
     |(refine tK 15 rfl ?_;refine tp rfl oI ?_)))
  |((with_reducible refine iJ ?_);first
   |with_reducible refine Tr.seq ?_
   |with_reducible refine Tr.Ax ?_
   |with_reducible refine Tr.skip ?_
   |with_reducible refine Tr.block ?_
   |with_reducible refine Tr.ret ?_
   |with_reducible refine Tr.exit ?_)
  |((with_reducible refine fId ?_);first
   |with_reducible refine Fin.AJ ?_
   |with_reducible refine Fin.Au ?_
   |with_reducible refine Fin.Ai ?_
   |with_reducible refine Fin.BA ?_
   |refine Fin.Jt rfl ?_
   |with_reducible refine Fin.block ?_)
 first|with_reducible refine Fin.go ?_|with_reducible refine cId ?_|with_reducible refine k_ ?_|with_reducible refine iJ ?_|refine Fin.go ?_|skip
 exact k.k):H:=h ⟨k⟩
theorem ap {G H:Prop} (k:G) (h:Wc G→H:=by
 intro k
 repeat1' first
  |((with_reducible refine k_ ?_);first
   |with_reducible refine TO.nil ?_
   |(refine tG 1 rfl ?_;first
     |(refine tK 1 rfl ?_;refine tm rfl ?_)
     |(refine tK 2 rfl ?_;refine tp rfl oF ?_)
     |(refine tK 3 rfl ?_;refine tp rfl oL ?_)
     |(refine tK 4 rfl ?_;refine tp rfl oB ?_))
   |(refine tG 2 rfl ?_;first
     |(refine tK 5 rfl ?_;refine tp rfl oP ?_)
     |(refine tK 6 rfl ?_;refine tp rfl oN ?_)
     |(refine tK 7 rfl ?_;refine tp rfl oA ?_)
     |(refine tK 8 rfl ?_;refine tp rfl oS ?_))
   |(refine tG 3 rfl ?_;first
     |(refine tK 9 rfl ?_;refine tp rfl oC ?_)
     |(refine tK 10 rfl ?_;refine tp rfl oU ?_)
     |(refine tK 12 rfl ?_;refine tp rfl oE ?_)
     |(refine tK 13 rfl ?_;refine tp rfl oM ?_)
     |(refine tK 14 rfl ?_;refine tp rfl oD ?_)
     |(refine tK 15 rfl ?_;refine tp rfl oI ?_))
   |(refine tK 16 rfl ?_;first
    |refine sa 0 ⟨rfl,rfl,rfl⟩ rfl rfl rfl ?_
    |refine TO.CT 0 rfl rfl (Q5 rfl rfl rfl rfl) ?_
    |refine sa 1 ⟨rfl,rfl,rfl⟩ rfl rfl rfl ?_
    |refine TO.CT 1 rfl rfl (Q5 rfl rfl rfl rfl) ?_
    |refine sa 2 ⟨rfl,rfl,rfl⟩ rfl rfl rfl ?_
    |refine TO.CT 2 rfl rfl (Q5 rfl rfl rfl rfl) ?_
    |refine sa 3 ⟨rfl,rfl,rfl⟩ rfl rfl rfl ?_
    |refine TO.CT 3 rfl rfl (Q5 rfl rfl rfl rfl) ?_))
  |((with_reducible refine iJ ?_);first
   |with_reducible refine Tr.seq ?_
   |with_reducible refine Tr.Ax ?_
   |with_reducible refine Tr.skip ?_
   |with_reducible refine Tr.block ?_
   |with_reducible refine Tr.ret ?_
   |with_reducible refine Tr.exit ?_)
  |((with_reducible refine fId ?_);first
   |with_reducible refine Fin.AJ ?_
   |with_reducible refine Fin.Au ?_
   |with_reducible refine Fin.Ai ?_
   |with_reducible refine Fin.BA ?_
   |refine Fin.Jt rfl ?_
   |with_reducible refine Fin.block ?_)
 first|with_reducible refine Fin.go ?_|with_reducible refine cId ?_|with_reducible refine k_ ?_|with_reducible refine iJ ?_|refine Fin.go ?_|skip
 exact k.k):H:=h ⟨k⟩
theorem ax {G H:Prop} (k:G) (h:Wc G→H:=by
 intro k
 repeat ((with_reducible refine xId ?_);first
   |(refine xG 1 rfl ?_;first
     |(refine xK 1 rfl ?_;refine xm rfl ?_)
     |(refine xK 2 rfl ?_;refine xo rfl (fun _=>oF) ?_)
     |(refine xK 3 rfl ?_;refine xo rfl (fun _=>oL) ?_)
     |(refine xK 4 rfl ?_;refine xo rfl (fun _=>oB) ?_))
   |(refine xG 2 rfl ?_;first
     |(refine xK 5 rfl ?_;refine xo rfl (fun _=>oP) ?_)
     |(refine xK 6 rfl ?_;refine xo rfl (fun _=>oN) ?_)
     |(refine xK 7 rfl ?_;refine xo rfl (fun _=>oA) ?_)
     |(refine xK 8 rfl ?_;refine xo rfl (fun _=>oS) ?_))
   |(refine xG 3 rfl ?_;first
     |(refine xK 9 rfl ?_;refine xo rfl (fun _=>oC) ?_)
     |(refine xK 10 rfl ?_;refine xo rfl (fun _=>oU) ?_)
     |(refine xK 11 rfl ?_;refine xo rfl (fun _=>oO) ?_)
     |(refine xK 12 rfl ?_;refine xo rfl (fun _=>oE) ?_)
     |(refine xK 13 rfl ?_;refine xo rfl (fun _=>oM) ?_)
     |(refine xK 14 rfl ?_;refine xo rfl (fun _=>oD) ?_))
   |(refine xK 3 rfl ?_;first
    |refine Ev 0 rfl rfl (Jh rfl rfl rfl) ?_
    |refine Ev 0 rfl rfl (Ji rfl rfl rfl rfl) ?_
    |refine Ev 1 rfl rfl (Jh rfl rfl rfl) ?_
    |refine Ev 1 rfl rfl (Ji rfl rfl rfl rfl) ?_
    |refine Ev 2 rfl rfl (Jh rfl rfl rfl) ?_
    |refine Ev 2 rfl rfl (Ji rfl rfl rfl rfl) ?_
    |refine Ev 3 rfl rfl (Jh rfl rfl rfl) ?_
    |refine Ev 3 rfl rfl (Ji rfl rfl rfl rfl) ?_
    |refine Ev 4 rfl rfl (Jh rfl rfl rfl) ?_
    |refine Ev 4 rfl rfl (Ji rfl rfl rfl rfl) ?_))
 exact k.k):H:=h ⟨k⟩
theorem ay {G H:Prop} (k:G) (h:Wc G→H:=by
 intro k
 repeat ((with_reducible refine xId ?_);first
   |(refine xG 1 rfl ?_;first
     |(refine xK 1 rfl ?_;refine xm rfl ?_)
     |(refine xK 2 rfl ?_;refine xo rfl (fun _=>oF) ?_)
     |(refine xK 3 rfl ?_;refine xo rfl (fun _=>oL) ?_)
     |(refine xK 4 rfl ?_;refine xo rfl (fun _=>oB) ?_))
   |(refine xG 2 rfl ?_;first
     |(refine xK 5 rfl ?_;refine xo rfl (fun _=>oP) ?_)
     |(refine xK 6 rfl ?_;refine xo rfl (fun _=>oN) ?_)
     |(refine xK 7 rfl ?_;refine xo rfl (fun _=>oA) ?_)
     |(refine xK 8 rfl ?_;refine xo rfl (fun _=>oS) ?_))
   |(refine xG 3 rfl ?_;first
     |(refine xK 9 rfl ?_;refine xo rfl (fun _=>oC) ?_)
     |(refine xK 10 rfl ?_;refine xo rfl (fun _=>oU) ?_)
     |(refine xK 11 rfl ?_;refine xo rfl (fun _=>oO) ?_)
     |(refine xK 12 rfl ?_;refine xo rfl (fun _=>oE) ?_)
     |(refine xK 13 rfl ?_;refine xo rfl (fun _=>oM) ?_)
     |(refine xK 14 rfl ?_;refine xo rfl (fun _=>oD) ?_))
   |(refine xK 3 rfl ?_;first
    |refine Ev 0 rfl rfl (Jh rfl rfl rfl) ?_
    |refine Ev 0 rfl rfl (Ji rfl rfl rfl rfl) ?_
    |refine Ev 1 rfl rfl (Jh rfl rfl rfl) ?_
    |refine Ev 1 rfl rfl (Ji rfl rfl rfl rfl) ?_
    |refine Ev 2 rfl rfl (Jh rfl rfl rfl) ?_
    |refine Ev 2 rfl rfl (Ji rfl rfl rfl rfl) ?_
    |refine Ev 3 rfl rfl (Jh rfl rfl rfl) ?_
    |refine Ev 3 rfl rfl (Ji rfl rfl rfl rfl) ?_
    |refine Ev 4 rfl rfl (Jh rfl rfl rfl) ?_
    |refine Ev 4 rfl rfl (Ji rfl rfl rfl rfl) ?_)
   |(refine xK 16 rfl ?_;first
    |refine Cx.CT 0 rfl rfl (Q5 rfl rfl rfl rfl) ?_
    |refine Cx.CT 1 rfl rfl (Q5 rfl rfl rfl rfl) ?_
    |refine Cx.CT 2 rfl rfl (Q5 rfl rfl rfl rfl) ?_
    |refine Cx.CT 3 rfl rfl (Q5 rfl rfl rfl rfl) ?_))
 exact k.k):H:=h ⟨k⟩
theorem Ch.cg {l:List Oper} {b v:Bool} {g j:Nat} {pt pf:Prop} [ht:GC b true pt] [hf:GC b false pf] (_:o.guard=some (j,v)) (_:(ops[j]?.bind (·.dst))=some g) (hb:E.lookup g=some (bool b)) (k:b=true→pt→Ch P n I ops (o::l) E K) (k':b=false→pf→Ch P n I ops (o::l) E K):Ch P n I ops (o::l) E K:=Ch.cases g hb (fun h=>k h (ht.IE h)) (fun h=>k' h (hf.IE h))
theorem a2 {G H:Prop} (k:G) (h:Wc G→H:=by
 intro k
 iterate 2 refine ac ?_
 exact k.k):H:=h ⟨k⟩
theorem a3 {G H:Prop} (k:G) (h:Wc G→H:=by
 intro k
 iterate 3 refine ac ?_
 exact k.k):H:=h ⟨k⟩
theorem an {G L H:Prop} (k:G) (l:L) (h:Wc G→Wc L→H:=by
 intro k l
 refine ac ?_
 refine Tr.cn rfl ?_ ?_
 exact k.k
 exact l.k):H:=h ⟨k⟩ ⟨l⟩
theorem ag {G L H:Prop} (k:G) (l:L) (h:Wc G→Wc L→H:=by
 intro k l
 refine ac ?_
 refine Ch.cg rfl rfl rfl ?_ ?_
 exact k.k
 exact l.k):H:=h ⟨k⟩ ⟨l⟩
theorem Lr {p:Pr}:Pr.le p p:=Pr.le_refl p
theorem Vo {p:Pr} [One p] (h:DL E x=some p):VL E x (Di [p]):=VL.le (vl h) (AU p)
theorem Va {ps:List Pr} (h:DL E x=some (agg ps)):VL E x (Di ps):=VL.le (vl h) (Ae ps)
theorem Nb {a b:Nat} (h:Nat.ble a b=true):a≤b:=Nat.le_of_ble_eq_true h
theorem Kf {z:Nat} {l:List (List Pr)} (h:DL E x=some (full z l)):VL E x (slice z l):=⟨_,h,BT z l⟩
theorem Ka {v:Value} (h:DL E x=some (Ay v p)):VL E x (is v):=⟨_,h,Dj v p⟩
theorem Kb {v:Value} (h:DL E x=some (Ay v p)):VL E x p:=⟨_,h,Ar v p⟩
theorem Tl {M0:Av} {w0:World} {S:Nat→Prop} {rs:List BS} {T:TypeId} {zs:List Value} (hg:o.guard=none) (hd:o.dst=some d) (hn:Nat.blt d n=true) (ho:o.op= .alloc T) (hz:Bn P T=some zs) (h1':zs.all (·.oneCell')=true)
  (k:∀b,TO P n ops r ((d,is (.pointer (some ⟨b,0,none⟩)))::E) (Hp M0 w0 S (AA true b T (zs.map is)::rs)) Q):TO P n ops (o::r) E (Hp M0 w0 S rs) Q:=TO.alloc hg hd (Gw hn) ho hz h1' k
theorem DN {M0:Av} {w0:World} {S:Nat→Prop} {t e:TypeId} {sz bytes:Nat} {zs:List Value} {rows A1:List (List Pr)} {R:SR} (hg:o.guard=none) (hd:o.dst=some d) (hn:Nat.blt d n=true) (ho:o.op= .call { callee:= .builtin .append,args:= #[x,y],argTypes:= #[t,t] })
  (ht:P.underlying t=some (.slice e)) (hz:Aw P e=some sz) (hby:Cm P e=some bytes) (Dy:Bn P e=some zs) (hx:VL E x (slice sz rows)) (hy:VL E y (slice sz A1))
  (hR:∀M w (a:Act),DM M w E o a→R.at_ a=BR e sz (a.eval x)∨(R.at_ a=Bw∧DW (a.eval x)=none)) (hzl:zs.length=sz:=by rfl) (hsz:Nat.blt 0 sz=true:=by rfl)
  (FE:rows.length+A1.length≤maxLen:=by simp only [List.length_map,List.length_append,List.length_cons,List.length_nil,List.length_replicate,List.length_take,List.length_drop];unfold maxLen;omega) (hfit:(rows.length+A1.length)*bytes≤140737488355328:=by simp only [List.length_map,List.length_append,List.length_cons,List.length_nil,List.length_replicate,List.length_take,List.length_drop];omega):E6 P M0 w0 S n j R ⟨d,BR e sz⟩ o E (slice sz (rows++A1)):=CN hg hd (Gw hn) ho ht hz hby Dy hzl (Gw hsz) hx hy FE hfit hR
end
end Cp
namespace Go.Proofs.YtppeeogffbpcbaaGreat
open Go Cp
instance oK:TM Tryz.prog:=⟨mixed⟩
instance tU:TV Tryz.prog 3 [.int .i64 0]:=⟨z3,iB⟩
instance qz:T1 Tryz.prog 3:=⟨Ce⟩
instance sn:TZ Tryz.prog 3 1:=⟨Cg⟩
instance q_:T1 Tryz.prog 4:=⟨qC⟩
instance sq:TZ Tryz.prog 4 1:=⟨sz4⟩
instance YT:TU Tryz.prog 4 .bool:=⟨Tryz.underlying4⟩
instance tV:TV Tryz.prog 5 [.int .u8 0]:=⟨z5,zo5⟩
instance rA:T1 Tryz.prog 5:=⟨ji⟩
instance sr:TZ Tryz.prog 5 1:=⟨Jz⟩
instance tW:TV Tryz.prog 9 [.string (ByteArray.mk #[])]:=⟨z9,zo9⟩
instance rB:T1 Tryz.prog 9:=⟨HQ⟩
instance sv:TZ Tryz.prog 9 1:=⟨JB⟩
instance YU:TU Tryz.prog 9 .string:=⟨Tryz.underlying9⟩
instance oQ:T1 Tryz.prog 22:=⟨Qq⟩
instance rC:TZ Tryz.prog 22 1:=⟨GU⟩
instance We:TU Tryz.prog 22 (.slice 3):=⟨Tryz.underlying22⟩
instance rD:TB Tryz.prog 24 (fun i=>(#[(0,1),(1,1)]:Array (Nat×Nat))[i]?) (List.replicate 2 (.int .i64 0)):=⟨Ny,DZ⟩
instance oV:TA Tryz.prog 24:=⟨CM⟩
instance rE:TZ Tryz.prog 24 2:=⟨C3⟩
instance lA:TF Tryz.prog 24 0 0:=⟨dw⟩
instance lB:TF Tryz.prog 24 1 1:=⟨dx⟩
instance oW:T1 Tryz.prog 25:=⟨jk⟩
instance rF:TZ Tryz.prog 25 1:=⟨jj⟩
instance Wf:TU Tryz.prog 25 (.slice 131):=⟨Tryz.underlying25⟩
instance rG:TB Tryz.prog 27 (fun i=>(#[(0,2),(2,1),(3,1)]:Array (Nat×Nat))[i]?) [.int .i64 0,.int .i64 0,.int .i64 0,.slice none 0 0]:=⟨jl,IB⟩
instance sx:TV Tryz.prog 27 [.int .i64 0,.int .i64 0,.int .i64 0,.slice none 0 0]:=⟨JG,IB⟩
instance oX:TA Tryz.prog 27:=⟨Ew⟩
instance rH:TZ Tryz.prog 27 4:=⟨Be⟩
instance lC:TF Tryz.prog 27 0 0:=⟨dy⟩
instance lD:TF Tryz.prog 27 1 2:=⟨dz⟩
instance lE:TF Tryz.prog 27 2 3:=⟨V2⟩
instance rI:TB Tryz.prog 29 (fun i=>(#[(0,1),(1,1),(2,1),(3,1),(4,4)]:Array (Nat×Nat))[i]?) [.int .i64 0,.int .i64 0,.int .i64 0,.int .i64 0,.int .i64 0,.int .i64 0,.int .i64 0,.slice none 0 0]:=⟨d_,JV⟩
instance oY:TA Tryz.prog 29:=⟨CC⟩
instance rJ:TZ Tryz.prog 29 8:=⟨CK⟩
instance lF:TF Tryz.prog 29 0 0:=⟨eA⟩
instance lG:TF Tryz.prog 29 1 1:=⟨GD⟩
instance lH:TF Tryz.prog 29 2 2:=⟨HR⟩
instance lI:TF Tryz.prog 29 3 3:=⟨JW⟩
instance lJ:TF Tryz.prog 29 4 4:=⟨PC⟩
instance oZ:T1 Tryz.prog 30:=⟨bw⟩
instance rK:TZ Tryz.prog 30 1:=⟨N0⟩
instance Wg:TU Tryz.prog 30 (.slice 27):=⟨Tryz.underlying30⟩
instance rL:TB Tryz.prog 32 (fun i=>(#[(0,1),(1,1),(2,1),(3,1),(4,1),(5,1),(6,1),(7,1),(8,1)]:Array (Nat×Nat))[i]?) [.string (ByteArray.mk #[]),.int .i64 0,.int .i64 0,.slice none 0 0,.bool false,.slice none 0 0,.slice none 0 0,.slice none 0 0,.bool false]:=⟨Yo,Dl⟩
instance sy:TV Tryz.prog 32 [.string (ByteArray.mk #[]),.int .i64 0,.int .i64 0,.slice none 0 0,.bool false,.slice none 0 0,.slice none 0 0,.slice none 0 0,.bool false]:=⟨z32,Dl⟩
instance oa:TA Tryz.prog 32:=⟨Bh⟩
instance rM:TZ Tryz.prog 32 9:=⟨BI⟩
instance lK:TF Tryz.prog 32 0 0:=⟨eB⟩
instance lM:TF Tryz.prog 32 1 1:=⟨eC⟩
instance lN:TF Tryz.prog 32 2 2:=⟨V3⟩
instance lO:TF Tryz.prog 32 3 3:=⟨FQ⟩
instance lP:TF Tryz.prog 32 4 4:=⟨eD⟩
instance lQ:TF Tryz.prog 32 5 5:=⟨FR⟩
instance lR:TF Tryz.prog 32 6 6:=⟨IM⟩
instance lS:TF Tryz.prog 32 7 7:=⟨JX⟩
instance lT:TF Tryz.prog 32 8 8:=⟨eE⟩
instance og:T1 Tryz.prog 37:=⟨OI⟩
instance rN:TZ Tryz.prog 37 1:=⟨PF⟩
instance Wh:TU Tryz.prog 37 (.slice 32):=⟨Tryz.underlying37⟩
instance lU:TF Tryz.prog 41 0 0:=⟨IP⟩
instance oh:T1 Tryz.prog 66:=⟨jq⟩
instance om:T1 Tryz.prog 74:=⟨jt⟩
instance rO:TZ Tryz.prog 74 1:=⟨jr⟩
instance Wi:TU Tryz.prog 74 (.slice 9):=⟨Tryz.underlying74⟩
instance rP:TB Tryz.prog 82 (fun i=>(#[(0,9),(9,1)]:Array (Nat×Nat))[i]?) [.string (ByteArray.mk #[]),.int .i64 0,.int .i64 0,.slice none 0 0,.bool false,.slice none 0 0,.slice none 0 0,.slice none 0 0,.bool false,.slice none 0 0]:=⟨qF,Eb⟩
instance oo:TA Tryz.prog 82:=⟨Bo⟩
instance rQ:TZ Tryz.prog 82 10:=⟨Br⟩
instance lV:TF Tryz.prog 82 0 0:=⟨V5⟩
instance lW:TF Tryz.prog 82 1 9:=⟨JY⟩
instance oq:T1 Tryz.prog 92:=⟨jw⟩
instance Wj:TU Tryz.prog 92 (.slice 96):=⟨Tryz.underlying92⟩
instance s6:TV Tryz.prog 96 [.int .i64 0,.string (ByteArray.mk #[]),.int .i64 0,.int .i64 0,.int .i64 0,.int .i64 0,.string (ByteArray.mk #[]),.int .i64 0,.int .i64 0,.int .i64 0,.string (ByteArray.mk #[])]:=⟨G2,Lc⟩
instance ou:TA Tryz.prog 96:=⟨BD⟩
instance rR:TZ Tryz.prog 96 11:=⟨AW⟩
instance lX:TF Tryz.prog 96 0 0:=⟨V6⟩
instance lY:TF Tryz.prog 96 1 1:=⟨V7⟩
instance lZ:TF Tryz.prog 96 2 2:=⟨V8⟩
instance ld:TF Tryz.prog 96 3 3:=⟨V9⟩
instance lf:TF Tryz.prog 96 4 4:=⟨V_⟩
instance lg:TF Tryz.prog 96 5 5:=⟨SM⟩
instance lp:TF Tryz.prog 96 6 6:=⟨WA⟩
instance lq:TF Tryz.prog 96 7 7:=⟨SN⟩
instance lu:TF Tryz.prog 96 8 9:=⟨PJ⟩
instance lz:TF Tryz.prog 96 9 10:=⟨WB⟩
instance ox:TB Tryz.prog 101 (fun i=>(#[(0,1),(1,1)]:Array (Nat×Nat))[i]?) [.slice none 0 0,.int .i64 0]:=⟨jx,jy⟩
instance iK:TF Tryz.prog 101 0 0:=⟨Yp⟩
instance iL:TF Tryz.prog 101 1 1:=⟨Yq⟩
instance l5:TA Tryz.prog 129:=⟨eJ⟩
instance oy:TZ Tryz.prog 129 2:=⟨WG⟩
instance iM:TF Tryz.prog 129 0 0:=⟨Ys⟩
instance iN:TF Tryz.prog 129 1 1:=⟨Yt⟩
instance rS:TV Tryz.prog 131 [.int .i64 0,.string (ByteArray.mk #[]),.string (ByteArray.mk #[]),.int .i64 0,.int .i64 0,.int .i64 0,.int .i64 0,.int .i64 0,.int .i64 0,.int .i64 0,.bool false,.int .i64 0,.slice none 0 0,.int .i64 0,.int .i64 0]:=⟨z131,JI⟩
instance l6:TA Tryz.prog 131:=⟨Em⟩
instance oz:TZ Tryz.prog 131 15:=⟨Cw⟩
instance iO:TF Tryz.prog 131 0 0:=⟨Yu⟩
instance iP:TF Tryz.prog 131 1 1:=⟨Yv⟩
instance e7:TF Tryz.prog 131 10 12:=⟨Qr⟩
instance e8:TF Tryz.prog 131 11 13:=⟨Mm⟩
instance iQ:TF Tryz.prog 131 2 2:=⟨Yw⟩
instance iR:TF Tryz.prog 131 3 3:=⟨Yx⟩
instance iS:TF Tryz.prog 131 4 5:=⟨Yy⟩
instance iT:TF Tryz.prog 131 5 6:=⟨Yz⟩
instance iU:TF Tryz.prog 131 6 8:=⟨Y0⟩
instance iV:TF Tryz.prog 131 7 9:=⟨Y1⟩
instance iW:TF Tryz.prog 131 8 10:=⟨Y2⟩
instance iX:TF Tryz.prog 131 9 11:=⟨Y3⟩
instance l7:T1 Tryz.prog 156:=⟨JZ⟩
instance l8:T1 Tryz.prog 157:=⟨Ja⟩
instance o7:TB Tryz.prog 159 (fun i=>(#[(0,1),(1,8),(9,8)]:Array (Nat×Nat))[i]?) [.pointer none,.int .i64 0,.int .i64 0,.int .i64 0,.int .i64 0,.int .i64 0,.int .i64 0,.int .i64 0,.slice none 0 0,.int .i64 0,.int .i64 0,.int .i64 0,.int .i64 0,.int .i64 0,.int .i64 0,.int .i64 0,.slice none 0 0]:=⟨j8,j9⟩
instance iY:TF Tryz.prog 159 0 0:=⟨HT⟩
instance iZ:TF Tryz.prog 159 1 1:=⟨Dh⟩
instance ia:TF Tryz.prog 159 2 9:=⟨Y5⟩
instance o8:TB Tryz.prog 161 (fun i=>some (i*1,1)) (List.replicate 13 (.nilFunc)):=⟨j_,cF⟩
instance o9:TZ Tryz.prog 161 13:=⟨cE⟩
instance o_:TB Tryz.prog 170 (fun i=>(#[(0,1),(1,1),(2,2),(4,2),(6,2),(8,2),(10,1),(11,1)]:Array (Nat×Nat))[i]?) [.int .i64 0,.string (ByteArray.mk #[]),.int .i64 0,.int .i64 0,.int .i64 0,.int .i64 0,.int .i64 0,.int .i64 0,.int .i64 0,.int .i64 0,.int .i64 0,.int .i64 0]:=⟨Tg,J0⟩
instance l9:TA Tryz.prog 170:=⟨IQ⟩
instance pE:TZ Tryz.prog 170 12:=⟨Fw⟩
instance ig:TF Tryz.prog 191 0 0:=⟨Y7⟩
instance ij:TF Tryz.prog 191 1 11:=⟨Y8⟩
instance l_:T1 Tryz.prog 198:=⟨WI⟩
instance Vh:TU Tryz.prog 198 (.slice 5):=⟨Tryz.underlying198⟩
instance pF:TB Tryz.prog 209 (fun i=>(#[(0,1),(1,1)]:Array (Nat×Nat))[i]?) [.string (ByteArray.mk #[]),.int .i64 0]:=⟨kG,cI⟩
instance rT:TV Tryz.prog 209 [.string (ByteArray.mk #[]),.int .i64 0]:=⟨qI,cI⟩
instance pG:TZ Tryz.prog 209 2:=⟨cH⟩
instance iq:TF Tryz.prog 209 1 1:=⟨Y9⟩
instance Vi:TU Tryz.prog 210 (.slice 209):=⟨Tryz.underlying210⟩
instance mA:T1 Tryz.prog 221:=⟨PL⟩
instance pH:TB Tryz.prog 223 (fun i=>(#[(0,1),(1,1),(2,1),(3,1)]:Array (Nat×Nat))[i]?) [.int .i64 0,.slice none 0 0,.bool false,.slice none 0 0]:=⟨WJ,JK⟩
instance mB:TA Tryz.prog 223:=⟨DE⟩
instance pI:TZ Tryz.prog 223 4:=⟨CX⟩
instance ir:TF Tryz.prog 223 0 0:=⟨Y_⟩
instance iw:TF Tryz.prog 223 1 1:=⟨PM⟩
instance iz:TF Tryz.prog 223 2 2:=⟨ZA⟩
instance i6:TF Tryz.prog 223 3 3:=⟨J1⟩
instance pJ:TB Tryz.prog 244 (fun i=>(#[(0,1),(1,1),(2,1),(3,1),(4,1)]:Array (Nat×Nat))[i]?) [.string (ByteArray.mk #[]),.int .i64 0,.int .i64 0,.slice none 0 0,.slice none 0 0]:=⟨D8,Dm⟩
instance pK:TZ Tryz.prog 244 5:=⟨OK⟩
instance i7:TF Tryz.prog 244 1 1:=⟨ZB⟩
instance i9:TF Tryz.prog 244 2 2:=⟨ZC⟩
instance i_:TF Tryz.prog 244 3 3:=⟨ZD⟩
instance jA:TF Tryz.prog 244 4 4:=⟨ZE⟩
instance mC:T1 Tryz.prog 252:=⟨eM⟩
instance mD:T1 Tryz.prog 253:=⟨eN⟩
instance mE:T1 Tryz.prog 255:=⟨eO⟩
instance pL:TB Tryz.prog 272 (fun i=>some (i*5,5)) [.string (ByteArray.mk #[]),.int .i64 0,.int .i64 0,.slice none 0 0,.slice none 0 0,.string (ByteArray.mk #[]),.int .i64 0,.int .i64 0,.slice none 0 0,.slice none 0 0,.string (ByteArray.mk #[]),.int .i64 0,.int .i64 0,.slice none 0 0,.slice none 0 0,.string (ByteArray.mk #[]),.int .i64 0,.int .i64 0,.slice none 0 0,.slice none 0 0,.string (ByteArray.mk #[]),.int .i64 0,.int .i64 0,.slice none 0 0,.slice none 0 0,.string (ByteArray.mk #[]),.int .i64 0,.int .i64 0,.slice none 0 0,.slice none 0 0,.string (ByteArray.mk #[]),.int .i64 0,.int .i64 0,.slice none 0 0,.slice none 0 0,.string (ByteArray.mk #[]),.int .i64 0,.int .i64 0,.slice none 0 0,.slice none 0 0,.string (ByteArray.mk #[]),.int .i64 0,.int .i64 0,.slice none 0 0,.slice none 0 0,.string (ByteArray.mk #[]),.int .i64 0,.int .i64 0,.slice none 0 0,.slice none 0 0,.string (ByteArray.mk #[]),.int .i64 0,.int .i64 0,.slice none 0 0,.slice none 0 0,.string (ByteArray.mk #[]),.int .i64 0,.int .i64 0,.slice none 0 0,.slice none 0 0,.string (ByteArray.mk #[]),.int .i64 0,.int .i64 0,.slice none 0 0,.slice none 0 0,.string (ByteArray.mk #[]),.int .i64 0,.int .i64 0,.slice none 0 0,.slice none 0 0,.string (ByteArray.mk #[]),.int .i64 0,.int .i64 0,.slice none 0 0,.slice none 0 0,.string (ByteArray.mk #[]),.int .i64 0,.int .i64 0,.slice none 0 0,.slice none 0 0,.string (ByteArray.mk #[]),.int .i64 0,.int .i64 0,.slice none 0 0,.slice none 0 0,.string (ByteArray.mk #[]),.int .i64 0,.int .i64 0,.slice none 0 0,.slice none 0 0,.string (ByteArray.mk #[]),.int .i64 0,.int .i64 0,.slice none 0 0,.slice none 0 0,.string (ByteArray.mk #[]),.int .i64 0,.int .i64 0,.slice none 0 0,.slice none 0 0,.string (ByteArray.mk #[]),.int .i64 0,.int .i64 0,.slice none 0 0,.slice none 0 0,.string (ByteArray.mk #[]),.int .i64 0,.int .i64 0,.slice none 0 0,.slice none 0 0,.string (ByteArray.mk #[]),.int .i64 0,.int .i64 0,.slice none 0 0,.slice none 0 0]:=⟨kI,cN⟩
instance pM:TZ Tryz.prog 272 115:=⟨cM⟩
instance pN:TB Tryz.prog 292 (fun i=>some (i*1,1)) (List.replicate 2 (.int .i64 0)):=⟨kJ,cQ⟩
instance pO:TZ Tryz.prog 292 2:=⟨cO⟩
instance pP:TB Tryz.prog 293 (fun i=>some (i*2,2)) (List.replicate 10 (.int .i64 0)):=⟨kK,kL⟩
instance mF:T1 Tryz.prog 294:=⟨eS⟩
instance pQ:TZ Tryz.prog 294 1:=⟨kM⟩
end Go.Proofs.YtppeeogffbpcbaaGreat
namespace Go.Proofs.YtppeeogffbpcbaaGreat
open Go Go.RowKit Cp Go.Proofs.Tryz
abbrev ints (l:List Int):Pr:=slice 1 (l.map fun n=>[int n])
def idx {β:Type} (p:β→Bool) (l:List β):Int:=match l.findIdx? p with|some i=>i|none=> -1
theorem F7 {β:Type} {p:β→Bool} {l:List β} {k:Nat} {x:β} (hx:l[k]? =some x) (hp:p x=true) (h:∀j y,j<k→l[j]? =some y→p y=false):(k:Int)=idx p l:=by
 have:l.findIdx? p=some k:=by
  rw [List.findIdx?_eq_some_iff_getElem]
  have hk:k<l.length:=by rcases Nat.lt_or_ge k l.length with h|h;exact h;rw [List.getElem?_eq_none h] at hx;cases hx
  rw [List.getElem?_eq_getElem hk] at hx
  simp only [Option.some.injEq] at hx
  refine ⟨hk,by rw [hx];exact hp,fun j hj=> ?_⟩
  simpa using h j _ hj (List.getElem?_eq_getElem (by omega))
 unfold idx;rw [this]
theorem HB {β:Type} {p:β→Bool} {l:List β} (h:∀j y,j<l.length→l[j]? =some y→p y=false):(-1:Int)=idx p l:=by
 have:l.findIdx? p=none:=by
  rw [List.findIdx?_eq_none_iff]
  intro x hx
  obtain ⟨j,hj,rfl⟩:=List.mem_iff_getElem.1 hx
  exact h j _ hj (List.getElem?_eq_getElem hj)
 unfold idx;rw [this]
theorem Ly {β:Type} (p:β→Bool) (l:List β):decide (idx p l≥0)=l.any p:=by
 unfold idx
 cases h:l.findIdx? p with
 |none=>rw [List.findIdx?_eq_none_iff] at h;simp;intro x hx;simpa using h x hx
 |some i=>
  rw [List.findIdx?_eq_some_iff_getElem] at h
  obtain ⟨h1,h2,_⟩:=h
  simp
  exact ⟨_,List.getElem_mem h1,h2⟩
theorem D_ {β:Type} {p:β→Bool} {l:List β} {k:Nat} {x:β} (hx:l[k]? =some x) (hp:p x=false) (h:∀j y,j<k→l[j]? =some y→p y=false):∀j y,j<k+1→l[j]? =some y→p y=false:=by
 intro j y hj hy
 by_cases hjk:j=k
 · subst hjk;rw [hx] at hy;cases hy;exact hp
 · exact h j y (by omega) hy
theorem PZ {l:List Int} {p:Int→Bool}  :A4 prog 193 [ints l,G1 prog (fun x:Int=>[int x]) (fun x=>bool (p x))] (int (idx p l)):=by
 refine fo func193 rfl ⟨rfl,rfl⟩ fun M0 w0=>(Tr.EC 0 rfl fun Ex=> ?_)
 refine a2 ?_
 refine Tr.block (Tr.BW [(0,_),(1,_),(7,_)] (OH rfl) (fun k:Nat=>[(8,int ((k:Nat):Int))]) (fun k:Nat=>k≤(l).length∧(∀j y,j<k→l[j]? =some y→p y=false)) (fun k:Nat=>(l).length-k) 0 (⟨Nat.zero_le _,fun j y hj=>absurd hj (by omega)⟩) ⟨ke rfl,trivial⟩ ?_)
 rintro k ⟨Bk,Ac⟩
 refine ac ?_
 refine Tr.seq ?_
 refine Tr.cn rfl ?_ ?_<;>intro h1 q1
 have Ao:k<(l).length:=AZ h1
 obtain ⟨x,An⟩:=at_ Ao
 · repeat' first|exact int_eq (F7 An (by assumption) Ac)|exact Fin.AG (k+1) ⟨⟨Ao,D_ An (by assumption) Ac⟩,by omega⟩ ⟨⟨_,rfl,AS k⟩,ke rfl,ke rfl,ke rfl,trivial⟩|refine co rfl (AB rfl underlying22 Cg (vl rfl) (vl rfl) (by omega) (by exact Ak (by assumption))) ?_|refine co rfl (Fv rfl Ce rfl) (co rfl (BN x rfl (vl rfl) ⟨ke rfl,trivial⟩) ?_)|refine ac ?_|(refine Tr.cn rfl ?_ ?_<;>intro h q)
 have BQ:k=(l).length:=by have:=Aa h1;omega
 subst BQ
 refine a3 ?_
 · exact int_eq (HB Ac)
theorem Hw {l:List Int} {p:Int→Bool}  :A4 prog 148 [ints l,G1 prog (fun x:Int=>[int x]) (fun x=>bool (p x))] (bool (l.any p)):=by
 refine fo func148 rfl ⟨rfl,rfl⟩ fun M0 w0=> ?_
 refine a2 ?_
 refine co rfl (Dc (PZ) rfl rfl rfl) ?_
 refine a2 ?_
 · exact bool_eq (Ly p l)
theorem NI {l:List Int} {v:Int}  :A4 prog 207 [ints l,int v] (int (idx (fun x=>v==x) l)):=by
 refine fo func207 rfl ⟨rfl,rfl⟩ fun M0 w0=>(Tr.EC 0 rfl fun Ex=> ?_)
 refine a2 ?_
 refine Tr.block (Tr.BW [(0,_),(1,_),(7,_)] (OH rfl) (fun k:Nat=>[(8,int ((k:Nat):Int))]) (fun k:Nat=>k≤(l).length∧(∀j y,j<k→l[j]? =some y→(v==y)=false)) (fun k:Nat=>(l).length-k) 0 (⟨Nat.zero_le _,fun j y hj=>absurd hj (by omega)⟩) ⟨ke rfl,trivial⟩ ?_)
 rintro k ⟨Bk,Ac⟩
 refine ac ?_
 refine Tr.seq ?_
 refine Tr.cn rfl ?_ ?_<;>intro h1 q1
 have Ao:k<(l).length:=AZ h1
 obtain ⟨x,An⟩:=at_ Ao
 · repeat' first|exact int_eq (F7 (p:=fun x=>v==x) An (by assumption) Ac)|exact Fin.AG (k+1) ⟨⟨Ao,D_ (p:=fun x=>v==x) An (by assumption) Ac⟩,by omega⟩ ⟨⟨_,rfl,AS k⟩,ke rfl,ke rfl,ke rfl,trivial⟩|refine co rfl (AB rfl underlying22 Cg (vl rfl) (vl rfl) (by omega) (by exact Ak (by assumption))) ?_|refine ac ?_|(refine Tr.cn rfl ?_ ?_<;>intro h q)
 have BQ:k=(l).length:=by have:=Aa h1;omega
 subst BQ
 refine a3 ?_
 · exact int_eq (HB Ac)
theorem IZ {l:List Int} {v:Int}  :A4 prog 190 [ints l,int v] (bool (l.any fun x=>v==x)):=by
 refine fo func190 rfl ⟨rfl,rfl⟩ fun M0 w0=> ?_
 refine a2 ?_
 refine co rfl (Dc (NI) rfl rfl rfl) ?_
 refine a2 ?_
 · exact bool_eq (Ly _ l)
end Go.Proofs.YtppeeogffbpcbaaGreat
namespace Go.Proofs.YtppeeogffbpcbaaGreat
open Go Go.RowKit Cp Go.ChangeShapes Go.WideShapes Go.ChangeAt Go.Proofs.Tryz
theorem rU:ownKnob Tryz.prog.godebug=none:=by kernel_rfl
theorem Wk:laidOutB Tryz.prog=true:=by kernel_rfl
theorem u8_in {n:Int} (h:(Lit.int .u8 n).wf=true):0≤n∧n<256:=by
 simp only [Lit.wf,Bool.and_eq_true,decide_eq_true_eq] at h
 have h1:IntKind.u8.min=0:=rfl
 have h2:IntKind.u8.max=255:=rfl
 omega
theorem i64_in {n:Int} (h:(Lit.int .i64 n).wf=true):GP n:=by
 simp only [Lit.wf,Bool.and_eq_true,decide_eq_true_eq] at h
 have h1:IntKind.i64.min= -9223372036854775808:=rfl
 have h2:IntKind.i64.max=9223372036854775807:=rfl
 unfold GP;omega
theorem Se {P:Program} {t e:TypeId} (ht:P.underlying t=some (.slice e)) (he:P.underlying e=some (.int .i64)) (hc:P.cellsOf e=1):Ht P t (fun l:List Int=>l.length≤maxLen∧∀n∈l,GP n) (fun l=>[ints l]):=
 (Qm ht hc (B7 he)).map id (fun _ h=>⟨h.2,fun n hn=>i64_in (h.1 n hn)⟩) (fun _=>rfl)
end Go.Proofs.YtppeeogffbpcbaaGreat
namespace Go.Proofs.YtppeeogffbpcbaaGreat
open Go Go.RowKit Cp Go.Proofs.Tryz
abbrev E_ (b:Nat) (s:DS):BS:=Qp 101 b s
theorem Zc (n:Int) {k:Int} (hk:1≤k):(n.tmod k+k).tmod k=n % k:=by
 have h1: -k<n.tmod k:=by have:=Int.lt_tmod_of_pos n (b:=k) (by omega);omega
 rw [Int.tmod_eq_emod_of_nonneg (by omega),Int.tmod_def,show n-k*n.tdiv k+k=n+k*(1-n.tdiv k) by rw [Int.mul_sub];omega,Int.add_mul_emod_self_left]
theorem e9 (n:Int) {k:Int} (hk:1≤k): -k<n.tmod k∧n.tmod k<k:=by
 have h1:=Int.lt_tmod_of_pos n (b:=k) (by omega)
 have h2:=Int.tmod_lt_of_pos n (b:=k) (by omega)
 omega
theorem Zd {l:List Int}  :A4 prog 10 [ints l] (bool (decide (l.length≤400))):=by
 refine fo func10 rfl ⟨rfl,rfl⟩ fun M0 w0=> ?_
 refine a3 ?_
 · refine bool_eq ?_;simp_all;omega
theorem mG {n k:Int} (hk:1≤k) (hk2:k≤1000000000):A4 prog 104 [int n,int k] (int (n % k)):=by
 refine fo func104 rfl ⟨rfl,rfl⟩ fun M0 w0=> ?_
 have hm:=e9 n hk
 have hp:=Zc n hk
 · repeat' first|(exfalso;omega)|(refine int_eq ?_;exact hp)|refine co rfl (Oy rfl (vl rfl) (vl rfl) (by omega)) ?_|refine ac ?_|(refine Tr.cn rfl ?_ ?_<;>intro h q)
theorem Bu {b:Nat} {s:DS} {n:Int} (hn:1≤n) (hn2:n≤1000000000):BE prog 52 [ptr b 0,int n] (int (s.val n)) (E_ b s) (fun _=>E_ b s.CW):=by
 refine BE.of func52 rfl rfl (by exact Nb rfl) fun M0 w0 S rs M1 w1=> ?_
 have hs:=s.h
 have LM:=s.h2
 refine ac ?_
 refine an ?_ ?_<;>intro h1 q1
 refine ac ?_
 refine Tr.ret (Fin.AJ ?_)
 rw [DS.Yn (s:=s) (by omega)]
 refine Fin.Ds [] rfl (AL.tmp rfl (Lr)) ?_ (fun _ _ _ _=>rfl)
 · refine int_eq ?_;exact (DS.Ym (by omega) n).symm
 have hlt:s.at_<s.l.length:=by omega
 obtain ⟨x,hx⟩:=at_ hlt
 refine ac ?_
 refine ap ?_
 refine CL 0 1 rfl ?_
 refine ac ?_
 refine co rfl (AB rfl underlying22 Cg (vl rfl) (vl rfl) (by omega) (by rw [show ((s.at_:Nat):Int)+1-1=((s.at_:Nat):Int) by omega];exact Ak hx)) ?_
 refine ac ?_
 refine co rfl (Dc (mG (by omega) (by omega)) rfl rfl rfl) ?_
 refine ac ?_
 refine DD 4 rfl (Tr.ret ?_)
 rw [DS.dj hlt]
 refine Fin.Ds [] rfl (AL.tmp rfl (Lr)) ?_ (fun _ _ _ _=>rfl)
 · refine int_eq ?_;exact (DS.dh hx n).symm
theorem Q6 {b:Nat} {s:DS} {l:List Int} (hl:l≠[]) (kU:l.length≤1000000000):BE prog 59 [ptr b 0,ints l] (int (s.of l)) (E_ b s) (fun _=>E_ b s.CW):=by
 refine BE.of func59 rfl rfl (by exact Nb rfl) fun M0 w0 S rs M1 w1=> ?_
 have Q1:1≤(l.length:Int):=by have:=List.length_pos_iff.2 hl;omega
 have hv:=s.Dk Q1
 obtain ⟨x,hx⟩:=at_ (l:=l) (k:=(s.val l.length).toNat) (by omega)
 refine ac ?_
 refine ap ?_
 refine TO.FF 0 rfl rfl (by decide) (AV rfl rfl (by decide) rfl (Bu (by omega) (by omega)) ⟨ke rfl,ke rfl,trivial⟩) (tp rfl (AB rfl underlying22 Cg (vl rfl) (vl rfl) (by omega) (Du hx)) ?_)
 refine ap ?_
 refine Tr.ret (Fin.Ds [] rfl (AL.tmp rfl (Lr)) ?_ (fun _ _ _ _=>rfl))
 · refine int_eq ?_;unfold DS.of;rw [hx];rfl
theorem NJ {b:Nat} {s:DS} {n:Int} (hn:1≤n) (hn2:n≤1000000000):BE prog 36 [ptr b 0,int n] (bool (s.val n==n-1)) (E_ b s) (fun _=>E_ b s.CW):=by
 refine BE.of func36 rfl rfl (by exact Nb rfl) fun M0 w0 S rs M1 w1=> ?_
 refine ac ?_
 refine ap ?_
 refine TO.FF 0 rfl rfl (by decide) (AV rfl rfl (by decide) rfl (Bu (by omega) (by omega)) ⟨ke rfl,ke rfl,trivial⟩) ?_
 refine ap ?_
 refine Tr.ret (Fin.Ds [] rfl (AL.tmp rfl (Lr)) ?_ (fun _ _ _ _=>rfl))
 · exact Lr
def Ze (l:List Int) (hl:l.length≤1000000000) (v:Value):BS:=match v with| .pointer (some a)=>Qp 101 a.block ⟨l,0,Nat.zero_le _,hl⟩|_=>Bw
theorem e_ {l:List Int} (hl:l.length≤1000000000):BE prog 12 [ints l] (ex fun b=>ptr b 0) (Bw) (Ze l hl):=by
 refine BE.of func12 rfl rfl (by exact Nb rfl) fun M0 w0 S rs M1 w1=> ?_
 refine ac ?_
 refine ap ?_
 refine TO.IA rfl rfl (by decide) rfl (Va rfl) (fun b1=> ?_)
 refine ap ?_
 refine Tr.ret (Fin.drop 1 ?_)
 refine Fin.Ds [] rfl (AL.tmp rfl (Lr)) ?_ (by rintro _ _ _ rfl;rfl)
 · exact A5 b1 (Lr)
-- no type cipherplan/api.Fact here
-- no type cipherplan/s7.place here
theorem Wl {d:Nat} {w:World} {x0 y0:Int} {x1 y1:Int}:(Op.equalIn (d+2) 24 (.agg #[.int .i64 x0,.int .i64 x1]) (.agg #[.int .i64 y0,.int .i64 y1])).run Tryz.prog w= .ok (decide (x0=y0∧x1=y1)) w:=by
 have h:=eqS (w:=w) (d:=d+1) (xs:= #[.int .i64 x0,.int .i64 x1]) (ys:= #[.int .i64 y0,.int .i64 y1]) Tryz.underlying24 (by kernel_rfl) (DU (by decide) (Bp Ce rfl) (Bp Ce rfl) (Fe (d:=d+0) Tryz.underlying3) (DU (by decide) (Bp Ce rfl) (Bp Ce rfl) (Fe (d:=d+0) Tryz.underlying3) (PT)))
 refine h.trans (congrArg (fun b=>Result.ok b w) ?_)
 rw [Bool.eq_iff_iff];simp [and_assoc]
theorem Fg {E:Env} {I:Ci} {o:Oper} {u:TypeId} {x y:Operand} {x0 y0:Int} {x1 y1:Int} (ho:o.op= .binOp .eql 24 x y u) (hx:VL E x (agg [is (.int .i64 x0),is (.int .i64 x1)])) (hy:VL E y (agg [is (.int .i64 y0),is (.int .i64 y1)])):Af Tryz.prog I o E (bool (decide (x0=y0∧x1=y1))):=
 Mq [.int .i64 x0,.int .i64 x1] [.int .i64 y0,.int .i64 y1] ho hx hy (by kernel_rfl) (fun w=>by rw [show Op.equal 24 _ _=Op.equalIn (9998+2) 24 _ _ from rfl];exact Wl)
theorem Lz {E:Env} {I:Ci} {o:Oper} {u:TypeId} {x y:Operand} {x0 y0:Int} {x1 y1:Int} (ho:o.op= .binOp .neq 24 x y u) (hx:VL E x (agg [is (.int .i64 x0),is (.int .i64 x1)])) (hy:VL E y (agg [is (.int .i64 y0),is (.int .i64 y1)])):Af Tryz.prog I o E (bool (!decide (x0=y0∧x1=y1))):=
 Mr [.int .i64 x0,.int .i64 x1] [.int .i64 y0,.int .i64 y1] ho hx hy (by kernel_rfl) (fun w=>by rw [show Op.equal 24 _ _=Op.equalIn (9998+2) 24 _ _ from rfl];exact Wl)
theorem cj {d:Nat} {w:World} {x0 y0:Int} {x1 y1:List UInt8} {x2 y2:Int} {x3 y3:Int} {x4 y4:Int} {x5 y5:Int} {x6 y6:List UInt8} {x7 y7:Int} {x8 y8:Int} {x9 y9:Int} {Wm Wn:List UInt8}:(Op.equalIn (d+3) 96 (.agg #[.int .i64 x0,.string ⟨x1.toArray⟩,.int .i64 x2,.int .i64 x3,.int .i64 x4,.int .i64 x5,.string ⟨x6.toArray⟩,.int .i64 x7,.int .i64 x8,.int .i64 x9,.string ⟨Wm.toArray⟩]) (.agg #[.int .i64 y0,.string ⟨y1.toArray⟩,.int .i64 y2,.int .i64 y3,.int .i64 y4,.int .i64 y5,.string ⟨y6.toArray⟩,.int .i64 y7,.int .i64 y8,.int .i64 y9,.string ⟨Wn.toArray⟩])).run Tryz.prog w= .ok (decide (x0=y0∧x1=y1∧x2=y2∧x3=y3∧x4=y4∧x5=y5∧x6=y6∧x7=y7∧x8=y8∧x9=y9∧Wm=Wn)) w:=by
 have h:=eqS (w:=w) (d:=d+2) (xs:= #[.int .i64 x0,.string ⟨x1.toArray⟩,.int .i64 x2,.int .i64 x3,.int .i64 x4,.int .i64 x5,.string ⟨x6.toArray⟩,.int .i64 x7,.int .i64 x8,.int .i64 x9,.string ⟨Wm.toArray⟩]) (ys:= #[.int .i64 y0,.string ⟨y1.toArray⟩,.int .i64 y2,.int .i64 y3,.int .i64 y4,.int .i64 y5,.string ⟨y6.toArray⟩,.int .i64 y7,.int .i64 y8,.int .i64 y9,.string ⟨Wn.toArray⟩]) Tryz.underlying96 (by kernel_rfl) (DU (by decide) (Bp Ce rfl) (Bp Ce rfl) (Fe (d:=d+1) Tryz.underlying3) (DU (by decide) (Bp HQ rfl) (Bp HQ rfl) (PU (d:=d+1) Tryz.underlying9) (DU (by decide) (Bp Ce rfl) (Bp Ce rfl) (Fe (d:=d+1) Tryz.underlying3) (DU (by decide) (Bp Ce rfl) (Bp Ce rfl) (Fe (d:=d+1) Tryz.underlying3) (DU (by decide) (Bp Ce rfl) (Bp Ce rfl) (Fe (d:=d+1) Tryz.underlying3) (DU (by decide) (Bp Ce rfl) (Bp Ce rfl) (Fe (d:=d+1) Tryz.underlying3) (DU (by decide) (Bp HQ rfl) (Bp HQ rfl) (PU (d:=d+1) Tryz.underlying9) (DU (by decide) (Qt CM C3 rfl) (Qt CM C3 rfl) (Wl (d:=d+0) (w:=w)) (DU (by decide) (Bp Ce rfl) (Bp Ce rfl) (Fe (d:=d+1) Tryz.underlying3) (DU (by decide) (Bp HQ rfl) (Bp HQ rfl) (PU (d:=d+1) Tryz.underlying9) (PT)))))))))))
 refine h.trans (congrArg (fun b=>Result.ok b w) ?_)
 rw [Bool.eq_iff_iff];simp [and_assoc]
theorem Zf {E:Env} {I:Ci} {o:Oper} {u:TypeId} {x y:Operand} {x0 y0:Int} {x1 y1:List UInt8} {x2 y2:Int} {x3 y3:Int} {x4 y4:Int} {x5 y5:Int} {x6 y6:List UInt8} {x7 y7:Int} {x8 y8:Int} {x9 y9:Int} {Wm Wn:List UInt8} (ho:o.op= .binOp .eql 96 x y u) (hx:VL E x (agg [is (.int .i64 x0),str x1,is (.int .i64 x2),is (.int .i64 x3),is (.int .i64 x4),is (.int .i64 x5),str x6,is (.int .i64 x7),is (.int .i64 x8),is (.int .i64 x9),str Wm])) (hy:VL E y (agg [is (.int .i64 y0),str y1,is (.int .i64 y2),is (.int .i64 y3),is (.int .i64 y4),is (.int .i64 y5),str y6,is (.int .i64 y7),is (.int .i64 y8),is (.int .i64 y9),str Wn])):Af Tryz.prog I o E (bool (decide (x0=y0∧x1=y1∧x2=y2∧x3=y3∧x4=y4∧x5=y5∧x6=y6∧x7=y7∧x8=y8∧x9=y9∧Wm=Wn))):=
 Mq [.int .i64 x0,.string ⟨x1.toArray⟩,.int .i64 x2,.int .i64 x3,.int .i64 x4,.int .i64 x5,.string ⟨x6.toArray⟩,.int .i64 x7,.int .i64 x8,.int .i64 x9,.string ⟨Wm.toArray⟩] [.int .i64 y0,.string ⟨y1.toArray⟩,.int .i64 y2,.int .i64 y3,.int .i64 y4,.int .i64 y5,.string ⟨y6.toArray⟩,.int .i64 y7,.int .i64 y8,.int .i64 y9,.string ⟨Wn.toArray⟩] ho hx hy (by kernel_rfl) (fun w=>by rw [show Op.equal 96 _ _=Op.equalIn (9997+3) 96 _ _ from rfl];exact cj)
theorem Ts {E:Env} {I:Ci} {o:Oper} {u:TypeId} {x y:Operand} {x0 y0:Int} {x1 y1:List UInt8} {x2 y2:Int} {x3 y3:Int} {x4 y4:Int} {x5 y5:Int} {x6 y6:List UInt8} {x7 y7:Int} {x8 y8:Int} {x9 y9:Int} {Wm Wn:List UInt8} (ho:o.op= .binOp .neq 96 x y u) (hx:VL E x (agg [is (.int .i64 x0),str x1,is (.int .i64 x2),is (.int .i64 x3),is (.int .i64 x4),is (.int .i64 x5),str x6,is (.int .i64 x7),is (.int .i64 x8),is (.int .i64 x9),str Wm])) (hy:VL E y (agg [is (.int .i64 y0),str y1,is (.int .i64 y2),is (.int .i64 y3),is (.int .i64 y4),is (.int .i64 y5),str y6,is (.int .i64 y7),is (.int .i64 y8),is (.int .i64 y9),str Wn])):Af Tryz.prog I o E (bool (!decide (x0=y0∧x1=y1∧x2=y2∧x3=y3∧x4=y4∧x5=y5∧x6=y6∧x7=y7∧x8=y8∧x9=y9∧Wm=Wn))):=
 Mr [.int .i64 x0,.string ⟨x1.toArray⟩,.int .i64 x2,.int .i64 x3,.int .i64 x4,.int .i64 x5,.string ⟨x6.toArray⟩,.int .i64 x7,.int .i64 x8,.int .i64 x9,.string ⟨Wm.toArray⟩] [.int .i64 y0,.string ⟨y1.toArray⟩,.int .i64 y2,.int .i64 y3,.int .i64 y4,.int .i64 y5,.string ⟨y6.toArray⟩,.int .i64 y7,.int .i64 y8,.int .i64 y9,.string ⟨Wn.toArray⟩] ho hx hy (by kernel_rfl) (fun w=>by rw [show Op.equal 96 _ _=Op.equalIn (9997+3) 96 _ _ from rfl];exact cj)
def CH (a b:Int):Int:=if a<b then -1 else if b<a then 1 else 0
theorem Ks {a b:Int}:CH a b=0↔a=b:=by unfold CH;by_cases h1:a<b<;>by_cases h2:b<a<;>simp [h1,h2]<;>omega
def mH (l:List Int):Int:=(l.find? fun x=>x !=0).getD 0
theorem Zg {l:List Int} {k:Nat} {x:Int} (hx:l[k]? =some x) (h0:¬x=0) (h:∀j y,j<k→l[j]? =some y→(y !=0)=false):x=mH l:=by
 unfold mH
 have:l.find? (fun x=>x !=0)=some x:=by
  rw [List.find?_eq_some_iff_getElem]
  have hk:k<l.length:=by rcases Nat.lt_or_ge k l.length with h|h;exact h;rw [List.getElem?_eq_none h] at hx;cases hx
  rw [List.getElem?_eq_getElem hk] at hx
  simp only [Option.some.injEq] at hx
  refine ⟨by simpa using h0,k,hk,hx,fun j hj=> ?_⟩
  have:=h j _ hj (List.getElem?_eq_getElem (by omega))
  simpa using this
 rw [this];rfl
theorem Wo {l:List Int} (h:∀j y,j<l.length→l[j]? =some y→(y !=0)=false):0=mH l:=by
 unfold mH
 have:l.find? (fun x=>x !=0)=none:=by
  rw [List.find?_eq_none]
  intro x hx
  obtain ⟨j,hj,rfl⟩:=List.mem_iff_getElem.1 hx
  have:=h j _ hj (List.getElem?_eq_getElem hj)
  simpa using this
 rw [this];rfl
def Wp (c:UInt8):Bool:=decide (33≤c.toNat∧c.toNat≤126)
def named (s:List UInt8):Bool:=s.all Wp&&decide (1≤s.length∧s.length≤32)
theorem HX {β:Type} {p:β→Bool} {l:List β} {k:Nat} {x:β} (hx:l[k]? =some x) (hp:p x=false):l.all p=false:=by
 rw [Bool.eq_false_iff];intro h;rw [List.all_eq_true] at h;rw [h x (List.mem_of_getElem? hx)] at hp;cases hp
theorem Fh {β:Type} {p:β→Bool} {l:List β} (h:∀j y,j<l.length→l[j]? =some y→(!p y)=false):l.all p=true:=by
 rw [List.all_eq_true]
 intro y hy
 obtain ⟨j,hj⟩:=List.mem_iff_getElem?.1 hy
 have:=h j y (by rcases Nat.lt_or_ge j l.length with h|h;exact h;rw [List.getElem?_eq_none h] at hj;cases hj) hj
 simpa using this
theorem Q7 {n:Int}  :A4 prog 280 [int n] (bool false):=by
 refine fo func280 rfl ⟨rfl,rfl⟩ fun M0 w0=> ?_
 refine a3 ?_
 · exact bool_eq (by simp)
theorem fA {a b:Int}  :A4 prog 231 [int a,int b] (int (CH a b)):=by
 refine fo func231 rfl ⟨rfl,rfl⟩ fun M0 w0=> ?_
 · repeat' first|exact absurd h (by decide)|(refine int_eq ?_;unfold CH;(repeat split)<;>omega)|refine co rfl (Bq (Q7) rfl rfl) ?_|refine ac ?_|(refine Tr.cn rfl ?_ ?_<;>intro h q)
theorem Zh {a b:List UInt8}  :A4 prog 281 [str a,str b] (int (Lib.compareBytes a b)):=by
 refine fo func281 rfl ⟨rfl,rfl⟩ fun M0 w0=> ?_
 refine a2 ?_
 refine co rfl (UU rfl func299 (by kernel_rfl) (by kernel_rfl) (by kernel_rfl) (by kernel_rfl) (vl rfl) (vl rfl)) ?_
 refine a2 ?_
 · exact Lr
theorem fB {a b:List UInt8}  :A4 prog 234 [str a,str b] (int (Lib.compareBytes a b)):=by
 refine fo func234 rfl ⟨rfl,rfl⟩ fun M0 w0=> ?_
 refine a2 ?_
 refine co rfl (Dc (Zh) rfl rfl rfl) ?_
 refine a2 ?_
 · exact Lr
theorem I3 {s:List UInt8} (hs:s.length≤maxLen):A4 prog 184 [str s] (bool (named s)):=by
 refine fo func184 rfl ⟨rfl,rfl⟩ fun M0 w0=> ?_
 refine a2 ?_
 refine co rfl (Mp rfl underlying9 underlying198 underlying5 (vl rfl) (by assumption)) ?_
 refine ac ?_
 refine Tr.block (Tr.EC 6 rfl fun hl6=>(Tr.BW [(0,_),(6,_),(7,_)] (OH rfl) (fun k:Nat=>[(8,int ((k:Nat):Int))]) (fun k:Nat=>k≤(s).length∧(∀j y,j<k→s[j]? =some y→(!Wp y)=false)) (fun k:Nat=>(s).length-k) 0 (⟨Nat.zero_le _,fun j y hj=>absurd hj (by omega)⟩) ⟨ke rfl,trivial⟩ ?_))
 rintro k ⟨Bk,Ac⟩
 refine ac ?_
 refine Tr.seq ?_
 refine Tr.cn rfl ?_ ?_<;>intro h1 q1
 have Ao:k<(s).length:=AZ h1
 obtain ⟨c,An⟩:=at_ Ao
 refine ac ?_
 refine Tr.seq (Tr.block (Tr.seq (Tr.B_ (co rfl (AB rfl underlying198 Jz (vl rfl) (vl rfl) (by omega) (by exact Ak (by assumption))) ?_))))
 · repeat' first|(refine bool_eq ?_;unfold named;rw [HX (p:=Wp) An (by simp [Wp];omega)];rfl)|(exact Fin.AG (k+1) ⟨⟨Ao,D_ (p:=fun c=> !Wp c) An (by simp [Wp];omega) Ac⟩,by omega⟩ ⟨⟨_,rfl,AS k⟩,ke rfl,ke rfl,ke rfl,trivial⟩)|refine ac ?_|(refine Tr.cn rfl ?_ ?_<;>intro h q)|(refine Ch.cg rfl rfl rfl ?_ ?_<;>intro h q)
 have BQ:k=(s).length:=by have:=Aa h1;omega
 subst BQ
 · repeat' first|(refine bool_eq ?_;unfold named;rw [Fh Ac,Bool.true_and];rw [decide_eq_decide];omega)|(refine bool_eq ?_;unfold named;rw [Fh Ac,Bool.true_and];(symm;rw [decide_eq_false_iff_not];omega))|refine ac ?_|(refine Ch.cg rfl rfl rfl ?_ ?_<;>intro h q)
theorem FA {s:List UInt8}  :A4 prog 186 [str s] (bool (named s)):=by
 refine fo func186 rfl ⟨rfl,rfl⟩ fun M0 w0=> ?_
 refine ac ?_
 refine ag ?_ ?_<;>intro h1 q1
 refine a3 ?_
 · refine bool_eq ?_;unfold named;rw [Bool.and_eq_false_iff.2 (.inr (by simp;omega))]
 refine an ?_ ?_<;>intro h2 q2
 refine a2 ?_
 · refine bool_eq ?_;unfold named;rw [Bool.and_eq_false_iff.2 (.inr (by simp;omega))]
 refine a2 ?_
 refine Tr.block (Tr.BW [(0,_)] ⟨ke rfl,trivial⟩ (fun k:Nat=>[(3,int ((k:Nat):Int))]) (fun k:Nat=>k≤(s).length∧(∀j y,j<k→s[j]? =some y→(!Wp y)=false)) (fun k:Nat=>(s).length-k) 0 (⟨Nat.zero_le _,fun j y hj=>absurd hj (by omega)⟩) ⟨ke rfl,trivial⟩ ?_)
 rintro k ⟨Bk,Ac⟩
 refine an ?_ ?_<;>intro h3 q3
 have Ao:k<(s).length:=AZ h3
 obtain ⟨c,An⟩:=at_ Ao
 · repeat' first|(refine bool_eq ?_;unfold named;rw [HX (p:=Wp) An (by simp [Wp];omega)];rfl)|(exact Fin.AG (k+1) ⟨⟨Ao,D_ (p:=fun c=> !Wp c) An (by simp [Wp];omega) Ac⟩,by omega⟩ ⟨⟨_,rfl,AS k⟩,ke rfl,trivial⟩)|refine co rfl (Lu rfl underlying9 (vl rfl) (vl rfl) (by omega) (PO (by assumption))) ?_|refine cy h rfl (Lu rfl underlying9 (vl rfl) (vl rfl) (by omega) (PO (by assumption))) ?_|refine ac ?_|(refine Tr.cn rfl ?_ ?_<;>intro h q)|(refine Ch.cg rfl rfl rfl ?_ ?_<;>intro h q)
 have BQ:k=(s).length:=by have:=Aa h3;omega
 subst BQ
 refine a3 ?_
 · refine bool_eq ?_;unfold named;rw [Fh Ac,Bool.true_and];symm;rw [decide_eq_true_eq];omega
structure Pa where
 name:List UInt8
 kind:Int
 way:Int
 sizes:List Int
 FW:List Int
abbrev fC (r:Pa):List Pr:=[str r.name,int r.kind,int r.way,ints r.sizes,ints r.FW]
def GG:List Pa:=[⟨[],0,0,[],[]⟩,⟨[109,100,53],1,0,[],[18]⟩,⟨[115,104,97,49],1,0,[],[60]⟩,⟨[115,104,97,50,53,54],1,0,[],[128]⟩,⟨[115,104,97,51,56,52],1,0,[],[192]⟩,⟨[114,115,97],2,1,[],[]⟩,⟨[100,115,97],2,1,[],[]⟩,⟨[101,99,100,115,97],2,2,[],[]⟩,⟨[101,100,50,53,53,49,57],2,0,[],[128]⟩,⟨[109,108,100,115,97],2,3,[44,65,87],[128,192,256]⟩,⟨[114,115,97,107,120],3,1,[],[]⟩,⟨[100,104,101],3,1,[],[]⟩,⟨[101,99,100,104,101],3,2,[],[]⟩,⟨[109,108,107,101,109],3,3,[512,768,1024],[128,192,256]⟩,⟨[114,99,52],4,3,[40,128],[40,60]⟩,⟨[100,101,115,51],4,3,[112,168],[80,112]⟩,⟨[97,101,115,99,98,99],4,3,[128,256],[128,256]⟩,⟨[97,101,115,103,99,109],4,3,[128,256],[128,256]⟩,⟨[99,104,97,99,104,97],4,0,[],[256]⟩,⟨[104,109,97,99,109,100,53],5,0,[],[64]⟩,⟨[104,109,97,99,115,104,97,49],5,0,[],[80]⟩,⟨[104,109,97,99,115,104,97,50,53,54],5,0,[],[128]⟩,⟨[97,101,97,100],5,0,[],[256]⟩]
def Tt:Pa:=⟨[],0,0,[],[]⟩
def C5 (BO:Int):Pa:=if 1≤BO∧BO≤22 then (GG[BO.toNat]?).getD Tt else Tt
theorem Ia {BO:Int} (h:1≤BO∧BO≤22):GG[BO.toNat]? =some (C5 BO):=by
 have hl:BO.toNat<GG.length:=by show BO.toNat<23;omega
 unfold C5;rw [if_pos h,List.getElem?_eq_getElem hl];rfl
theorem NK {β:Type} {f:β→List Pr} {sz:Nat} (hf:∀x,(f x).length=sz):∀{l:List β} {i:Nat} {x:β},l[i]? =some x→((l.flatMap f).drop (i*sz)).take sz=f x
 |[],_,_,h=>by simp at h
 |a::l,0,x,h=>by
  simp at h;subst h
  rw [List.flatMap_cons,Nat.zero_mul,List.drop_zero,List.take_append_of_le_length (by rw [hf];exact Nat.le_refl _),List.take_of_length_le (by rw [hf];exact Nat.le_refl _)]
 |a::l,i+1,x,h=>by
  rw [List.flatMap_cons,Nat.succ_mul,Nat.add_comm,←List.drop_drop,List.drop_left' (hf a)]
  exact NK hf (by simpa using h)
theorem drop_cons {β:Type} {l:List β} {k:Nat} {x:β} (h:l[k]? =some x):l.drop k=x::l.drop (k+1):=by
 have hk:k<l.length:=by rcases Nat.lt_or_ge k l.length with h'|h';exact h';rw [List.getElem?_eq_none h'] at h;cases h
 rw [List.drop_eq_getElem_cons hk]
 rw [List.getElem?_eq_getElem hk] at h
 simp at h;rw [h]
def mods:List (Int×Int):=[(1024,56),(2048,80),(3072,112),(7680,128),(15360,192)]
def fD:List (Int×Int)→Int→Int
 |[],_=>256
 |p::l,b=>if b<p.1 then p.2 else fD l b
def Wq (b:Int):Int:=fD mods b
theorem fE   :A4 prog 266 [] (agg (GG.flatMap fC)):=by
 refine fo func266 rfl ⟨rfl,rfl⟩ fun M0 w0=>(Tr.seq (Tr.Ax ?_))
 refine Tl rfl rfl rfl rfl qK cN (fun b1=> ?_)
 refine ap ?_
 refine ap ?_
 refine tp rfl (As (rows:=[(0,[_]),(1,[_]),(2,[_]),(3,[_]),(4,[_])]) rfl D8 Dm ⟨⟨rfl,(Vo rfl)⟩,⟨⟨rfl,(Vo rfl)⟩,⟨⟨rfl,(Vo rfl)⟩,⟨⟨rfl,⟨_,rfl,Pr.le_trans (AD 1) (AU _)⟩⟩,⟨⟨rfl,⟨_,rfl,Pr.le_trans (BT _ _) (AU _)⟩⟩,trivial⟩⟩⟩⟩⟩ rfl) (tp rfl (oI) ?_)
 refine tp rfl (As (rows:=[(0,[_]),(1,[_]),(2,[_]),(3,[_]),(4,[_])]) rfl D8 Dm ⟨⟨rfl,(Vo rfl)⟩,⟨⟨rfl,(Vo rfl)⟩,⟨⟨rfl,(Vo rfl)⟩,⟨⟨rfl,⟨_,rfl,Pr.le_trans (AD 1) (AU _)⟩⟩,⟨⟨rfl,⟨_,rfl,Pr.le_trans (BT _ _) (AU _)⟩⟩,trivial⟩⟩⟩⟩⟩ rfl) (tp rfl (oI) ?_)
 refine tp rfl (As (rows:=[(0,[_]),(1,[_]),(2,[_]),(3,[_]),(4,[_])]) rfl D8 Dm ⟨⟨rfl,(Vo rfl)⟩,⟨⟨rfl,(Vo rfl)⟩,⟨⟨rfl,(Vo rfl)⟩,⟨⟨rfl,⟨_,rfl,Pr.le_trans (AD 1) (AU _)⟩⟩,⟨⟨rfl,⟨_,rfl,Pr.le_trans (BT _ _) (AU _)⟩⟩,trivial⟩⟩⟩⟩⟩ rfl) (tp rfl (oI) ?_)
 refine tp rfl (As (rows:=[(0,[_]),(1,[_]),(2,[_]),(3,[_]),(4,[_])]) rfl D8 Dm ⟨⟨rfl,(Vo rfl)⟩,⟨⟨rfl,(Vo rfl)⟩,⟨⟨rfl,(Vo rfl)⟩,⟨⟨rfl,⟨_,rfl,Pr.le_trans (AD 1) (AU _)⟩⟩,⟨⟨rfl,⟨_,rfl,Pr.le_trans (BT _ _) (AU _)⟩⟩,trivial⟩⟩⟩⟩⟩ rfl) (tp rfl (As (rows:=[(0,[_]),(1,[_]),(2,[_]),(3,[_]),(4,[_])]) rfl D8 Dm ⟨⟨rfl,(Vo rfl)⟩,⟨⟨rfl,(Vo rfl)⟩,⟨⟨rfl,(Vo rfl)⟩,⟨⟨rfl,⟨_,rfl,Pr.le_trans (AD 1) (AU _)⟩⟩,⟨⟨rfl,⟨_,rfl,Pr.le_trans (AD 1) (AU _)⟩⟩,trivial⟩⟩⟩⟩⟩ rfl) (tp rfl (As (rows:=[(0,[_]),(1,[_]),(2,[_]),(3,[_]),(4,[_])]) rfl D8 Dm ⟨⟨rfl,(Vo rfl)⟩,⟨⟨rfl,(Vo rfl)⟩,⟨⟨rfl,(Vo rfl)⟩,⟨⟨rfl,⟨_,rfl,Pr.le_trans (AD 1) (AU _)⟩⟩,⟨⟨rfl,⟨_,rfl,Pr.le_trans (AD 1) (AU _)⟩⟩,trivial⟩⟩⟩⟩⟩ rfl) (tp rfl (As (rows:=[(0,[_]),(1,[_]),(2,[_]),(3,[_]),(4,[_])]) rfl D8 Dm ⟨⟨rfl,(Vo rfl)⟩,⟨⟨rfl,(Vo rfl)⟩,⟨⟨rfl,(Vo rfl)⟩,⟨⟨rfl,⟨_,rfl,Pr.le_trans (AD 1) (AU _)⟩⟩,⟨⟨rfl,⟨_,rfl,Pr.le_trans (AD 1) (AU _)⟩⟩,trivial⟩⟩⟩⟩⟩ rfl) (tp rfl (oI) ?_))))
 refine tp rfl (As (rows:=[(0,[_]),(1,[_]),(2,[_]),(3,[_]),(4,[_])]) rfl D8 Dm ⟨⟨rfl,(Vo rfl)⟩,⟨⟨rfl,(Vo rfl)⟩,⟨⟨rfl,(Vo rfl)⟩,⟨⟨rfl,⟨_,rfl,Pr.le_trans (AD 1) (AU _)⟩⟩,⟨⟨rfl,⟨_,rfl,Pr.le_trans (BT _ _) (AU _)⟩⟩,trivial⟩⟩⟩⟩⟩ rfl) ?_
 refine ap ?_
 refine tp rfl (As (rows:=[(0,[_]),(1,[_]),(2,[_]),(3,[_]),(4,[_])]) rfl D8 Dm ⟨⟨rfl,(Vo rfl)⟩,⟨⟨rfl,(Vo rfl)⟩,⟨⟨rfl,(Vo rfl)⟩,⟨⟨rfl,⟨_,rfl,Pr.le_trans (BT _ _) (AU _)⟩⟩,⟨⟨rfl,⟨_,rfl,Pr.le_trans (BT _ _) (AU _)⟩⟩,trivial⟩⟩⟩⟩⟩ rfl) (tp rfl (As (rows:=[(0,[_]),(1,[_]),(2,[_]),(3,[_]),(4,[_])]) rfl D8 Dm ⟨⟨rfl,(Vo rfl)⟩,⟨⟨rfl,(Vo rfl)⟩,⟨⟨rfl,(Vo rfl)⟩,⟨⟨rfl,⟨_,rfl,Pr.le_trans (AD 1) (AU _)⟩⟩,⟨⟨rfl,⟨_,rfl,Pr.le_trans (AD 1) (AU _)⟩⟩,trivial⟩⟩⟩⟩⟩ rfl) (tp rfl (As (rows:=[(0,[_]),(1,[_]),(2,[_]),(3,[_]),(4,[_])]) rfl D8 Dm ⟨⟨rfl,(Vo rfl)⟩,⟨⟨rfl,(Vo rfl)⟩,⟨⟨rfl,(Vo rfl)⟩,⟨⟨rfl,⟨_,rfl,Pr.le_trans (AD 1) (AU _)⟩⟩,⟨⟨rfl,⟨_,rfl,Pr.le_trans (AD 1) (AU _)⟩⟩,trivial⟩⟩⟩⟩⟩ rfl) (tp rfl (As (rows:=[(0,[_]),(1,[_]),(2,[_]),(3,[_]),(4,[_])]) rfl D8 Dm ⟨⟨rfl,(Vo rfl)⟩,⟨⟨rfl,(Vo rfl)⟩,⟨⟨rfl,(Vo rfl)⟩,⟨⟨rfl,⟨_,rfl,Pr.le_trans (AD 1) (AU _)⟩⟩,⟨⟨rfl,⟨_,rfl,Pr.le_trans (AD 1) (AU _)⟩⟩,trivial⟩⟩⟩⟩⟩ rfl) ?_)))
 refine ap ?_
 refine tp rfl (As (rows:=[(0,[_]),(1,[_]),(2,[_]),(3,[_]),(4,[_])]) rfl D8 Dm ⟨⟨rfl,(Vo rfl)⟩,⟨⟨rfl,(Vo rfl)⟩,⟨⟨rfl,(Vo rfl)⟩,⟨⟨rfl,⟨_,rfl,Pr.le_trans (BT _ _) (AU _)⟩⟩,⟨⟨rfl,⟨_,rfl,Pr.le_trans (BT _ _) (AU _)⟩⟩,trivial⟩⟩⟩⟩⟩ rfl) ?_
 refine ap ?_
 refine tp rfl (As (rows:=[(0,[_]),(1,[_]),(2,[_]),(3,[_]),(4,[_])]) rfl D8 Dm ⟨⟨rfl,(Vo rfl)⟩,⟨⟨rfl,(Vo rfl)⟩,⟨⟨rfl,(Vo rfl)⟩,⟨⟨rfl,⟨_,rfl,Pr.le_trans (BT _ _) (AU _)⟩⟩,⟨⟨rfl,⟨_,rfl,Pr.le_trans (BT _ _) (AU _)⟩⟩,trivial⟩⟩⟩⟩⟩ rfl) ?_
 refine ap ?_
 refine tp rfl (As (rows:=[(0,[_]),(1,[_]),(2,[_]),(3,[_]),(4,[_])]) rfl D8 Dm ⟨⟨rfl,(Vo rfl)⟩,⟨⟨rfl,(Vo rfl)⟩,⟨⟨rfl,(Vo rfl)⟩,⟨⟨rfl,⟨_,rfl,Pr.le_trans (BT _ _) (AU _)⟩⟩,⟨⟨rfl,⟨_,rfl,Pr.le_trans (BT _ _) (AU _)⟩⟩,trivial⟩⟩⟩⟩⟩ rfl) ?_
 refine ap ?_
 refine tp rfl (As (rows:=[(0,[_]),(1,[_]),(2,[_]),(3,[_]),(4,[_])]) rfl D8 Dm ⟨⟨rfl,(Vo rfl)⟩,⟨⟨rfl,(Vo rfl)⟩,⟨⟨rfl,(Vo rfl)⟩,⟨⟨rfl,⟨_,rfl,Pr.le_trans (BT _ _) (AU _)⟩⟩,⟨⟨rfl,⟨_,rfl,Pr.le_trans (BT _ _) (AU _)⟩⟩,trivial⟩⟩⟩⟩⟩ rfl) ?_
 refine ap ?_
 refine tp rfl (As (rows:=[(0,[_]),(1,[_]),(2,[_]),(3,[_]),(4,[_])]) rfl D8 Dm ⟨⟨rfl,(Vo rfl)⟩,⟨⟨rfl,(Vo rfl)⟩,⟨⟨rfl,(Vo rfl)⟩,⟨⟨rfl,⟨_,rfl,Pr.le_trans (BT _ _) (AU _)⟩⟩,⟨⟨rfl,⟨_,rfl,Pr.le_trans (BT _ _) (AU _)⟩⟩,trivial⟩⟩⟩⟩⟩ rfl) (tp rfl (oI) ?_)
 refine tp rfl (As (rows:=[(0,[_]),(1,[_]),(2,[_]),(3,[_]),(4,[_])]) rfl D8 Dm ⟨⟨rfl,(Vo rfl)⟩,⟨⟨rfl,(Vo rfl)⟩,⟨⟨rfl,(Vo rfl)⟩,⟨⟨rfl,⟨_,rfl,Pr.le_trans (AD 1) (AU _)⟩⟩,⟨⟨rfl,⟨_,rfl,Pr.le_trans (BT _ _) (AU _)⟩⟩,trivial⟩⟩⟩⟩⟩ rfl) (tp rfl (oI) ?_)
 refine tp rfl (As (rows:=[(0,[_]),(1,[_]),(2,[_]),(3,[_]),(4,[_])]) rfl D8 Dm ⟨⟨rfl,(Vo rfl)⟩,⟨⟨rfl,(Vo rfl)⟩,⟨⟨rfl,(Vo rfl)⟩,⟨⟨rfl,⟨_,rfl,Pr.le_trans (AD 1) (AU _)⟩⟩,⟨⟨rfl,⟨_,rfl,Pr.le_trans (BT _ _) (AU _)⟩⟩,trivial⟩⟩⟩⟩⟩ rfl) (tp rfl (oI) ?_)
 refine tp rfl (As (rows:=[(0,[_]),(1,[_]),(2,[_]),(3,[_]),(4,[_])]) rfl D8 Dm ⟨⟨rfl,(Vo rfl)⟩,⟨⟨rfl,(Vo rfl)⟩,⟨⟨rfl,(Vo rfl)⟩,⟨⟨rfl,⟨_,rfl,Pr.le_trans (AD 1) (AU _)⟩⟩,⟨⟨rfl,⟨_,rfl,Pr.le_trans (BT _ _) (AU _)⟩⟩,trivial⟩⟩⟩⟩⟩ rfl) (tp rfl (oI) ?_)
 refine tp rfl (As (rows:=[(0,[_]),(1,[_]),(2,[_]),(3,[_]),(4,[_])]) rfl D8 Dm ⟨⟨rfl,(Vo rfl)⟩,⟨⟨rfl,(Vo rfl)⟩,⟨⟨rfl,(Vo rfl)⟩,⟨⟨rfl,⟨_,rfl,Pr.le_trans (AD 1) (AU _)⟩⟩,⟨⟨rfl,⟨_,rfl,Pr.le_trans (BT _ _) (AU _)⟩⟩,trivial⟩⟩⟩⟩⟩ rfl) (tp rfl (oI) ?_)
 refine tp rfl (As (rows:=[(0,[_]),(1,[_]),(2,[_]),(3,[_]),(4,[_])]) rfl D8 Dm ⟨⟨rfl,(Vo rfl)⟩,⟨⟨rfl,(Vo rfl)⟩,⟨⟨rfl,(Vo rfl)⟩,⟨⟨rfl,⟨_,rfl,Pr.le_trans (AD 1) (AU _)⟩⟩,⟨⟨rfl,⟨_,rfl,Pr.le_trans (BT _ _) (AU _)⟩⟩,trivial⟩⟩⟩⟩⟩ rfl) ?_
 refine ap ?_
 refine DD 0 rfl (Tr.ret (Fin.CG rfl (AL.cell 0 rfl rfl eP cM rfl (Lr)) ?_))
 · exact AY ⟨Lr,Lr,Lr,AD 1,AD 1,Lr,Lr,Lr,Lr,Lr,Lr,Lr,Lr,Lr,Lr,Lr,Lr,Lr,Lr,Lr,Lr,Lr,Lr,Lr,Lr,Lr,Lr,Lr,Lr,Lr,Lr,Lr,Lr,Lr,Lr,Lr,Lr,Lr,Lr,Lr,Lr,Lr,Lr,Lr,Lr,Lr,Lr,Lr,Lr,Lr,Lr,Lr,Lr,Lr,Lr,Lr,Lr,Lr,Lr,Lr,Lr,Lr,Lr,Lr,Lr,Lr,Lr,Lr,Lr,Lr,Lr,Lr,Lr,Lr,Lr,Lr,Lr,Lr,Lr,Lr,Lr,Lr,Lr,Lr,Lr,Lr,Lr,Lr,Lr,Lr,Lr,Lr,Lr,Lr,Lr,Lr,Lr,Lr,Lr,Lr,Lr,Lr,Lr,Lr,Lr,Lr,Lr,Lr,Lr,Lr,Lr,Lr,Lr,Lr,Lr,trivial⟩
theorem mI {BO:Int}  :A4 prog 224 [int BO] (Eu [agg (fC (C5 BO)),bool (decide (1≤BO∧BO≤22))]):=by
 refine fo func224 rfl ⟨rfl,rfl⟩ fun M0 w0=>(Tr.seq (Tr.Ax ?_))
 refine Tl rfl rfl rfl rfl eL Dm (fun b1=> ?_)
 refine ap ?_
 refine ag ?_ ?_<;>intro h1 q1
 refine ac ?_
 refine Tr.cond rfl (fun _=> ?_) (fun h=>nomatch h)
 refine Tr.seq (Tr.Ax (tp rfl (As (rows:=[]) rfl D8 Dm trivial rfl) (TO.AR 0 rfl rfl rfl (vl rfl) (Va rfl) rfl OK rfl rfl (tm rfl (TO.nil (Fin.go (Tr.ret (Fin.AJ (Fin.DK rfl (AL.cell 0 rfl rfl PN OK rfl (Lr)) (AL.tmp rfl (Lr)) ?_)))))))))
 · refine A_ ⟨?_,bool_eq (by symm;rw [decide_eq_false_iff_not];omega),trivial⟩;unfold C5;rw [if_neg (by omega)];exact AY ⟨Lr,Lr,Lr,AD 1,AD 1,trivial⟩
 refine an ?_ ?_<;>intro h2 q2
 refine ap ?_
 refine Tr.ret (Fin.AJ (Fin.DK rfl (AL.cell 0 rfl rfl PN OK rfl (Lr)) (AL.tmp rfl (Lr)) ?_))
 · refine A_ ⟨?_,bool_eq (by symm;rw [decide_eq_false_iff_not];omega),trivial⟩;unfold C5;rw [if_neg (by omega)];exact AY ⟨Lr,Lr,Lr,AD 1,AD 1,trivial⟩
 have hin:1≤BO∧BO≤22:=by omega
 refine ac ?_
 refine Tr.seq (Tr.Ax (tp rfl (R9 (fE) rfl) (tm rfl (tp rfl (Qs rfl underlying272 PN OK (vl rfl) (vl rfl) (by omega) (by omega) (NK (f:=fC) (fun _=>rfl) (Ia hin))) ?_))))
 refine ap ?_
 refine Tr.ret (Fin.DK rfl (AL.cell 0 rfl rfl PN OK rfl (Lr)) (AL.tmp rfl (Lr)) ?_)
 · exact A_ ⟨Lr,bool_eq (by symm;rw [decide_eq_true_eq];exact hin),trivial⟩
theorem Pb {BO:Int}  :A4 prog 191 [int BO] (int (C5 BO).kind):=by
 refine fo func191 rfl ⟨rfl,rfl⟩ fun M0 w0=> ?_
 refine ac ?_
 refine ao ?_
 refine tp rfl (Bq (mI) rfl rfl) ?_
 refine ao ?_
 refine Tl rfl rfl rfl rfl eL Dm (fun b1=> ?_)
 refine sf 0 3 ⟨rfl,rfl,rfl⟩ rfl rfl rfl rfl ?_
 refine ao ?_
 refine a2 ?_
 · exact Lr
theorem Ul {b:Int}  :A4 prog 263 [int b] (int (Wq b)):=by
 refine fo func263 rfl ⟨rfl,rfl⟩ fun M0 w0=> ?_
 have hml:mods.length=5:=rfl
 refine a2 ?_
 refine Tr.block (Tr.re 10 rfl (Pr.le_of_eq (show _=agg (mods.flatMap fun p=>[int p.1,int p.2]) from rfl)) (Tr.BW [(0,_),(10,_)] (LH rfl) (fun k:Nat=>[(11,int ((k:Nat):Int))]) (fun k:Nat=>k≤(mods).length∧(Wq b=fD (mods.drop k) b)) (fun k:Nat=>(mods).length-k) 0 (⟨Nat.zero_le _,rfl⟩) ⟨ke rfl,trivial⟩ ?_))
 rintro k ⟨Bk,Ac⟩
 refine ac ?_
 refine Tr.seq ?_
 refine Tr.cn rfl ?_ ?_<;>intro h1 q1
 have Ao:k<(mods).length:=AZ h1
 obtain ⟨p,An⟩:=at_ Ao
 have hL:k<5:=Ao
 have hdr:=drop_cons An
 refine ac ?_
 refine Tr.seq (Tr.block (Tr.seq (Tr.Ax (tp rfl (Qs rfl underlying293 eR cO (vl rfl) (vl rfl) (by omega) (by omega) (NK (f:=fun p:Int×Int=>[int p.1,int p.2]) (fun _=>rfl) An)) ?_))))
 refine Tl rfl rfl rfl rfl qL cQ (fun b1=> ?_)
 refine sf 0 4 ⟨rfl,rfl,rfl⟩ rfl rfl rfl rfl ?_
 refine ao ?_
 refine ac ?_
 refine co rfl (LG rfl underlying292 Cg (vl rfl) (vl rfl) (by omega) (by omega) rfl) (co rfl (Mf rfl Ce (vl rfl) rfl) ?_)
 refine an ?_ ?_<;>intro h2 q2
 refine Tr.seq (Tr.B_ (co rfl (LG rfl underlying292 Cg (vl rfl) (vl rfl) (by omega) (by omega) rfl) (co rfl (Mf rfl Ce (vl rfl) rfl) ?_)))
 refine ac ?_
 refine DD 2 rfl ?_
 refine ac ?_
 · refine int_eq ?_;rw [Ac,hdr];exact (if_pos (by omega)).symm
 refine a2 ?_
 exact Fin.AG (k+1) ⟨⟨Ao,(by rw [Ac,hdr];exact if_neg (by omega))⟩,by omega⟩ ⟨⟨_,rfl,AS k⟩,ke rfl,ke rfl,trivial⟩
 have BQ:k=(mods).length:=by have:=Aa h1;omega
 subst BQ
 refine a3 ?_
 · refine int_eq ?_;rw [Ac,List.drop_length];rfl
def OY:List Int:=[160,224,256,384,521]
def B5 (BO bits:Int):Int:=
 if 1 ≤ BO ∧ BO ≤ 22 then
  if (C5 BO).way=0 then (if bits=0 then ((C5 BO).FW[0]?).getD 0 else 0)
  else if (C5 BO).way=1 then (if 512≤bits∧bits≤16384 then Wq bits else 0)
  else if (C5 BO).way=2 then (if (OY.any fun x=>bits==x)=true then bits.tdiv 2 else 0)
  else if (C5 BO).way=3 then (if 0≤idx (fun x=>bits==x) (C5 BO).sizes then ((C5 BO).FW[(idx (fun x=>bits==x) (C5 BO).sizes).toNat]?).getD 0 else 0)
  else 0
 else 0
theorem Sf {BO:Int} (h:1≤BO∧BO≤22):C5 BO∈GG.tail:=by
 have h1:=Ia h
 refine List.mem_of_getElem? (i:=BO.toNat-1) ?_
 rw [List.getElem?_tail,show BO.toNat-1+1=BO.toNat by omega];exact h1
theorem fF:∀r∈GG.tail,(r.way=0→1≤r.FW.length)∧(r.way=3→r.sizes.length≤r.FW.length):=by decide
theorem fG {β:Type} (p:β→Bool) (l:List β):idx p l<l.length:=by
 unfold idx
 cases h:l.findIdx? p with
 |none=>simp;omega
 |some i=>rw [List.findIdx?_eq_some_iff_getElem] at h;obtain ⟨h1,_⟩:=h;simp;omega
theorem Sg {BO bits:Int}  :A4 prog 221 [agg [int BO,int bits]] (int (B5 BO bits)):=by
 refine fo func221 rfl ⟨rfl,rfl⟩ fun M0 w0=> ?_
 refine ac ?_
 refine ao ?_
 refine tp rfl (Bq (mI) rfl rfl) ?_
 refine ao ?_
 refine Tl rfl rfl rfl rfl eL Dm (fun b1=> ?_)
 refine sf 0 3 ⟨rfl,rfl,rfl⟩ rfl rfl rfl rfl ?_
 refine ao ?_
 refine ac ?_
 refine Cr 1 3 13 rfl ?_
 refine Tr.cn rfl ?_ ?_<;>intro h1 q1
 refine a2 ?_
 · refine int_eq ?_;unfold B5;rw [if_neg (by intro hh;simp [hh] at h1)]
 have hin:1≤BO∧BO≤22:=by simpa using h1
 obtain ⟨hc0,hc3⟩:=fF _ (Sf hin)
 refine a2 ?_
 refine an ?_ ?_<;>intro h2 q2
 refine an ?_ ?_<;>intro h3 q3
 obtain ⟨z,hz⟩:=at_ (l:=(C5 BO).FW) (k:=0) (hc0 (by omega))
 refine ac ?_
 refine co rfl (AB rfl underlying22 Cg (vl rfl) (vl rfl) (by omega) (Ak (k:=0) hz)) ?_
 refine ac ?_
 refine DD 2 rfl ?_
 refine ac ?_
 · refine int_eq ?_;unfold B5;rw [if_pos hin,if_pos (by omega),if_pos (by omega),hz];rfl
 refine a3 ?_
 · refine int_eq ?_;unfold B5;rw [if_pos hin,if_pos (by omega),if_neg (by omega)]
 refine an ?_ ?_<;>intro h4 q4
 · repeat' first|(refine int_eq ?_;unfold B5;rw [if_pos hin,if_neg (by omega),if_pos (by omega),if_pos (by omega)])|(refine int_eq ?_;unfold B5;rw [if_pos hin,if_neg (by omega),if_pos (by omega),if_neg (by omega)])|refine co rfl (Bq (Ul) rfl rfl) ?_|refine ac ?_|(refine Tr.cn rfl ?_ ?_<;>intro h q)|(refine Ch.cg rfl rfl rfl ?_ ?_<;>intro h q)
 refine an ?_ ?_<;>intro h7 q7
 refine ac ?_
 refine co rfl (AX rfl (IZ (l:=OY)) ⟨(Kf rfl),ke rfl,trivial⟩) ?_
 refine ac ?_
 refine CL 1 43 rfl ?_
 refine Tr.cn rfl ?_ ?_<;>intro h8 q8
 have hb:bits=160∨bits=224∨bits=256∨bits=384∨bits=521:=by simpa [OY] using h8
 refine ac ?_
 refine co rfl (FN rfl (vl rfl) (vl rfl) (by omega)) ?_
 refine a2 ?_
 · refine int_eq ?_;unfold B5;rw [if_pos hin,if_neg (by omega),if_neg (by omega),if_pos (by omega),if_pos (by assumption)];rcases hb with h|h|h|h|h<;>rw [h]<;>rfl
 refine a3 ?_
 · refine int_eq ?_;unfold B5;rw [if_pos hin,if_neg (by omega),if_neg (by omega),if_pos (by omega),if_neg (EK (by assumption))]
 refine an ?_ ?_<;>intro h9 q9
 refine ac ?_
 refine co rfl (Dc (NI) rfl rfl rfl) ?_
 refine ac ?_
 refine CL 3 5 rfl ?_
 refine an ?_ ?_<;>intro h10 OZ
 have hlt:=fG (fun x=>bits==x) (C5 BO).sizes
 obtain ⟨z,hz⟩:=at_ (l:=(C5 BO).FW) (k:=(idx (fun x=>bits==x) (C5 BO).sizes).toNat) (by have:=hc3 (by omega);omega)
 refine ac ?_
 refine co rfl (AB rfl underlying22 Cg (vl rfl) (vl rfl) (by omega) (Du hz)) ?_
 refine a2 ?_
 · refine int_eq ?_;unfold B5;rw [if_pos hin,if_neg (by omega),if_neg (by omega),if_neg (by omega),if_pos (by omega),if_pos (by assumption),hz];rfl
 refine a3 ?_
 · refine int_eq ?_;unfold B5;rw [if_pos hin,if_neg (by omega),if_neg (by omega),if_neg (by omega),if_pos (by omega),if_neg (by omega)]
 refine a2 ?_
 refine DD 2 rfl ?_
 refine ac ?_
 · refine int_eq ?_;unfold B5;rw [if_pos hin,if_neg (by omega),if_neg (by omega),if_neg (by omega),if_neg (by omega)]
theorem J_ {BO bits:Int}  :A4 prog 185 [agg [int BO,int bits]] (bool (decide (B5 BO bits>0))):=by
 refine fo func185 rfl ⟨rfl,rfl⟩ fun M0 w0=> ?_
 refine a2 ?_
 refine co rfl (Bq (Sg) rfl rfl) ?_
 refine a2 ?_
 · exact Lr
def Ib (b:Int) (l m:List Int):Int:=if 0≤idx (fun x=>b==x) l then (m[(idx (fun x=>b==x) l).toNat]?).getD 0 else 0
theorem Um {b:Int} {l m:List Int} {k:Nat} {x z:Int} (hx:l[k]? =some x) (he:x=b) (hz:m[k]? =some z) (h:∀j y,j<k→l[j]? =some y→(b==y)=false):z=Ib b l m:=by
 have:=F7 (p:=fun x=>b==x) hx (by simp [he]) h
 unfold Ib;rw [←this,if_pos (by omega),Int.toNat_natCast,hz];rfl
theorem Sh {b:Int} {l m:List Int} (h:∀j y,j<l.length→l[j]? =some y→(b==y)=false):0=Ib b l m:=by
 have:=HB (p:=fun x=>b==x) h
 unfold Ib;rw [←this,if_neg (by omega)]
def EA (BO:Int):Int:=if BO=1 then 18 else if BO=2 then 60 else if BO=3∨BO=8∨BO=21 then 128 else if BO=4 then 192 else if BO=18∨BO=22 then 256 else if BO=19 then 64 else if BO=20 then 80 else 0
def Hx (b:Int):Int:=if b<512∨b>16384 then 0 else if b<1024 then 56 else if b<2048 then 80 else if b<3072 then 112 else if b<7680 then 128 else if b<15360 then 192 else 256
theorem Wr (b:Int):Hx b=if 512≤b∧b≤16384 then Wq b else 0:=by
 have h1:Wq b=if b<1024 then 56 else if b<2048 then 80 else if b<3072 then 112 else if b<7680 then 128 else if b<15360 then 192 else 256:=rfl
 rw [h1];unfold Hx
 by_cases h:512≤b∧b≤16384
 · rw [if_pos h,if_neg (by omega)]
 · rw [if_neg h,if_pos (by omega)]
theorem HY {b:Int} {l m:List Int} (hl:l.length≤m.length):A4 prog 256 [int b,ints l,ints m] (int (Ib b l m)):=by
 refine fo func256 rfl ⟨rfl,rfl⟩ fun M0 w0=>(Tr.EC 1 rfl fun JN=> ?_)
 refine a2 ?_
 refine Tr.block (Tr.BW [(0,_),(1,_),(2,_)] (OH rfl) (fun k:Nat=>[(7,int ((k:Nat):Int))]) (fun k:Nat=>k≤(l).length∧(∀j y,j<k→l[j]? =some y→(b==y)=false)) (fun k:Nat=>(l).length-k) 0 (⟨Nat.zero_le _,fun j y hj=>absurd hj (by omega)⟩) ⟨ke rfl,trivial⟩ ?_)
 rintro k ⟨Bk,Ac⟩
 refine an ?_ ?_<;>intro h1 q1
 have Ao:k<(l).length:=AZ h1
 obtain ⟨x,An⟩:=at_ Ao
 obtain ⟨z,hz⟩:=at_ (l:=m) (k:=k) (by omega)
 · repeat' first|exact int_eq (Um An (by assumption) hz Ac)|(exact Fin.AG (k+1) ⟨⟨Ao,D_ (p:=fun x=>b==x) An (by simp;omega) Ac⟩,by omega⟩ ⟨⟨_,rfl,AS k⟩,ke rfl,ke rfl,ke rfl,trivial⟩)|refine co rfl (AB rfl underlying22 Cg (vl rfl) (vl rfl) (by omega) (by exact Ak (by assumption))) ?_|refine ac ?_|(refine Tr.cn rfl ?_ ?_<;>intro h q)
 have BQ:k=(l).length:=by have:=Aa h1;omega
 subst BQ
 refine a3 ?_
 · exact int_eq (Sh Ac)
theorem Ws {BO:Int}  :A4 prog 257 [int BO] (int (EA BO)):=by
 refine fo func257 rfl ⟨rfl,rfl⟩ fun M0 w0=> ?_
 refine a2 ?_
 refine an ?_ ?_<;>intro h1 q1
 refine a2 ?_
 · refine int_eq ?_;unfold EA;(repeat (rw [if_pos (by omega)]))
 refine an ?_ ?_<;>intro h2 q2
 refine a2 ?_
 · refine int_eq ?_;unfold EA;(repeat (first|rw [if_pos (by omega)]|rw [if_neg (by omega)]))
 refine an ?_ ?_<;>intro h3 q3
 refine ac ?_
 refine Tr.cond rfl (fun _=> ?_) (fun h=>nomatch h3.symm.trans h)
 refine a2 ?_
 · refine int_eq ?_;unfold EA;(repeat (first|rw [if_pos (by omega)]|rw [if_neg (by omega)]))
 refine an ?_ ?_<;>intro h4 q4
 refine ac ?_
 refine Tr.cond rfl (fun _=> ?_) (fun h=>nomatch h4.symm.trans h)
 refine a2 ?_
 · refine int_eq ?_;unfold EA;(repeat (first|rw [if_pos (by omega)]|rw [if_neg (by omega)]))
 refine an ?_ ?_<;>intro h5 q5
 refine a2 ?_
 · refine int_eq ?_;unfold EA;(repeat (first|rw [if_pos (by omega)]|rw [if_neg (by omega)]))
 refine ac ?_
 refine CL 3 12 rfl ?_
 refine Tr.cn rfl ?_ ?_<;>intro h6 q6
 refine a2 ?_
 · refine int_eq ?_;unfold EA;(repeat (first|rw [if_pos (by omega)]|rw [if_neg (by omega)]))
 refine an ?_ ?_<;>intro h7 q7
 refine ac ?_
 refine Tr.cond rfl (fun _=> ?_) (fun h=>nomatch h7.symm.trans h)
 refine a2 ?_
 · refine int_eq ?_;unfold EA;(repeat (first|rw [if_pos (by omega)]|rw [if_neg (by omega)]))
 · repeat' first|(refine int_eq ?_;unfold EA;(repeat (first|rw [if_pos (by omega)]|rw [if_neg (by omega)])))|(refine int_eq ?_;unfold EA;(repeat (rw [if_neg (by omega)])))|refine ac ?_|(refine Tr.cn rfl ?_ ?_<;>intro h q)
theorem HZ {b:Int}  :A4 prog 255 [int b] (int (Hx b)):=by
 refine fo func255 rfl ⟨rfl,rfl⟩ fun M0 w0=> ?_
 refine ac ?_
 refine ac ?_
 refine Ch.cs 6 rfl ?_ ?_<;>intro h1 q1
 refine ac ?_
 refine ac ?_
 refine ac ?_
 · refine int_eq ?_;unfold Hx;(repeat (rw [if_pos (by omega)]))
 refine ac ?_
 refine Tr.cn rfl ?_ ?_<;>intro h2 q2
 refine ac ?_
 refine ac ?_
 · refine int_eq ?_;unfold Hx;(repeat (rw [if_pos (by omega)]))
 refine ac ?_
 refine Tr.cn rfl ?_ ?_<;>intro h3 q3
 refine ac ?_
 refine ac ?_
 · refine int_eq ?_;unfold Hx;(repeat (first|rw [if_pos (by omega)]|rw [if_neg (by omega)]))
 refine ac ?_
 refine CL 0 13 rfl ?_
 refine Tr.cn rfl ?_ ?_<;>intro h4 q4
 refine ac ?_
 refine ac ?_
 · refine int_eq ?_;unfold Hx;(repeat (first|rw [if_pos (by omega)]|rw [if_neg (by omega)]))
 refine ac ?_
 refine Tr.cn rfl ?_ ?_<;>intro h5 q5
 refine ac ?_
 refine ac ?_
 · refine int_eq ?_;unfold Hx;(repeat (first|rw [if_pos (by omega)]|rw [if_neg (by omega)]))
 refine ac ?_
 refine Tr.cn rfl ?_ ?_<;>intro h6 q6
 refine ac ?_
 refine ac ?_
 · refine int_eq ?_;unfold Hx;(repeat (first|rw [if_pos (by omega)]|rw [if_neg (by omega)]))
 refine ac ?_
 refine Tr.cn rfl ?_ ?_<;>intro h7 q7
 refine ac ?_
 refine ac ?_
 · refine int_eq ?_;unfold Hx;(repeat (first|rw [if_pos (by omega)]|rw [if_neg (by omega)]))
 refine ac ?_
 refine ac ?_
 refine ac ?_
 · refine int_eq ?_;unfold Hx;(repeat (rw [if_neg (by omega)]))
theorem Zi (b c:Int):Ib b [0] [c]=if b=0 then c else 0:=by
 unfold Ib idx
 by_cases h:b=0
 · subst h;rfl
 ·
  have:List.findIdx? (fun x=>b==x) [0]=none:=by simp [h]
  rw [this,if_neg h];rfl
theorem F1 {BO b:Int} (h:BO=5∨BO=6∨BO=10∨BO=11):Hx b=B5 BO b:=by
 rw [Wr]
 rcases h with rfl|rfl|rfl|rfl<;>rfl
theorem N4 {BO b:Int} (h:¬(BO=5∨BO=6∨BO=7∨BO=9∨BO=10∨BO=11∨BO=12∨BO=13∨BO=14∨BO=15∨BO=16∨BO=17)):Ib b [0] [EA BO]=B5 BO b:=by
 rw [Zi]
 by_cases hin:1≤BO∧BO≤22
 ·
  have ha:BO=1∨BO=2∨BO=3∨BO=4∨BO=8∨BO=18∨BO=19∨BO=20∨BO=21∨BO=22:=by omega
  rcases ha with rfl|rfl|rfl|rfl|rfl|rfl|rfl|rfl|rfl|rfl<;>rfl
 ·
  have h1:EA BO=0:=by unfold EA;(repeat (first|rw [if_pos (by omega)]|rw [if_neg (by omega)]))
  unfold B5
  rw [h1,if_neg hin];split<;>rfl
theorem F2 {BO b:Int} (h:BO=7∨BO=12):B5 BO b=if (OY.any fun x=>b==x)=true then b.tdiv 2 else 0:=by
 rcases h with rfl|rfl<;>rfl
theorem Q8 {BO bits:Int}  :A4 prog 203 [agg [int BO,int bits]] (int (B5 BO bits)):=by
 refine fo func203 rfl ⟨rfl,rfl⟩ fun M0 w0=> ?_
 iterate 4 refine ac ?_
 refine Tr.cn rfl ?_ ?_<;>intro h1 q1
 refine ac ?_
 refine Tr.cond rfl (fun _=> ?_) (fun h=>nomatch h1.symm.trans h)
 refine ac ?_
 refine co rfl (Bq (HZ) rfl rfl) ?_
 refine a2 ?_
 · refine int_eq ?_;exact F1 (by omega)
 refine an ?_ ?_<;>intro h2 q2
 refine ac ?_
 refine Tr.cond rfl (fun _=> ?_) (fun h=>nomatch h2.symm.trans h)
 refine ac ?_
 refine co rfl (Bq (HZ) rfl rfl) ?_
 refine ac ?_
 refine DD 2 rfl ?_
 refine ac ?_
 · refine int_eq ?_;exact F1 (by omega)
 refine an ?_ ?_<;>intro h3 q3
 refine ac ?_
 refine Tr.cond rfl (fun _=> ?_) (fun h=>nomatch h3.symm.trans h)
 refine ac ?_
 refine co rfl (Bq (HZ) rfl rfl) ?_
 refine ac ?_
 refine DD 2 rfl ?_
 refine ac ?_
 · refine int_eq ?_;exact F1 (by omega)
 refine ac ?_
 refine Ez 1 3 7 8 rfl ?_
 refine Tr.cn rfl ?_ ?_<;>intro h4 q4
 refine ac ?_
 refine co rfl (Bq (HZ) rfl rfl) ?_
 refine a2 ?_
 · refine int_eq ?_;exact F1 (by omega)
 refine an ?_ ?_<;>intro h5 q5
 refine ac ?_
 refine Tr.cond rfl (fun _=> ?_) (fun h=>nomatch h5.symm.trans h)
 · repeat' first|(refine int_eq ?_;rw [F2 (by omega)];have hb:bits=160∨bits=224∨bits=256∨bits=384∨bits=521:=(by omega);rcases hb with rfl|rfl|rfl|rfl|rfl<;>rfl)|(refine int_eq ?_;rw [F2 (by omega),if_neg (by simp [OY];omega)])|refine co rfl (FN rfl (vl rfl) (vl rfl) (by omega)) ?_|refine ac ?_|(refine Tr.cn rfl ?_ ?_<;>intro h q)|(refine Ch.cg rfl rfl rfl ?_ ?_<;>intro h q)
 refine an ?_ ?_<;>intro h11 QX
 · repeat' first|(refine int_eq ?_;rw [F2 (by omega)];have hb:bits=160∨bits=224∨bits=256∨bits=384∨bits=521:=(by omega);rcases hb with rfl|rfl|rfl|rfl|rfl<;>rfl)|(refine int_eq ?_;rw [F2 (by omega),if_neg (by simp [OY];omega)])|refine co rfl (FN rfl (vl rfl) (vl rfl) (by omega)) ?_|refine ac ?_|(refine Tr.cn rfl ?_ ?_<;>intro h q)|(refine Ch.cg rfl rfl rfl ?_ ?_<;>intro h q)
 refine an ?_ ?_<;>intro Tu ck
 refine ac ?_
 refine co rfl (AX rfl (HY (l:=[44,65,87]) (m:=[128,192,256]) (by simp)) ⟨ke rfl,(Kf rfl),(Kf rfl),trivial⟩) ?_
 refine ac ?_
 refine DD 2 rfl ?_
 refine ac ?_
 · refine int_eq ?_;have ha:BO=9:=(by omega);rcases ha with rfl<;>rfl
 refine an ?_ ?_<;>intro Tv jB
 refine ac ?_
 refine co rfl (AX rfl (HY (l:=[512,768,1024]) (m:=[128,192,256]) (by simp)) ⟨ke rfl,(Kf rfl),(Kf rfl),trivial⟩) ?_
 refine ac ?_
 refine DD 2 rfl ?_
 refine ac ?_
 · refine int_eq ?_;have ha:BO=13:=(by omega);rcases ha with rfl<;>rfl
 refine ac ?_
 refine Ez 1 3 7 50 rfl ?_
 refine Tr.cn rfl ?_ ?_<;>intro Zj mJ
 refine ac ?_
 refine co rfl (AX rfl (HY (l:=[40,128]) (m:=[40,60]) (by simp)) ⟨ke rfl,(Kf rfl),(Kf rfl),trivial⟩) ?_
 refine a2 ?_
 · refine int_eq ?_;have ha:BO=14:=(by omega);rcases ha with rfl<;>rfl
 refine an ?_ ?_<;>intro N5 jC
 refine ac ?_
 refine co rfl (AX rfl (HY (l:=[112,168]) (m:=[80,112]) (by simp)) ⟨ke rfl,(Kf rfl),(Kf rfl),trivial⟩) ?_
 refine a2 ?_
 · refine int_eq ?_;have ha:BO=15:=(by omega);rcases ha with rfl<;>rfl
 refine an ?_ ?_<;>intro cq mK
 refine ac ?_
 refine Tr.cond rfl (fun _=> ?_) (fun h=>nomatch cq.symm.trans h)
 refine ac ?_
 refine co rfl (AX rfl (HY (l:=[128,256]) (m:=[128,256]) (by simp)) ⟨ke rfl,(Kf rfl),(Kf rfl),trivial⟩) ?_
 refine a2 ?_
 · refine int_eq ?_;have ha:BO=16∨BO=17:=(by omega);rcases ha with rfl|rfl<;>rfl
 · repeat' first|(refine int_eq ?_;have ha:BO=16∨BO=17:=(by omega);rcases ha with rfl|rfl<;>rfl)|(refine int_eq ?_;exact N4 (by omega))|refine co rfl (AX rfl (HY (l:=[128,256]) (m:=[128,256]) (by simp)) ⟨ke rfl,(Kf rfl),(Kf rfl),trivial⟩) ?_|refine co rfl (Bq (Ws) rfl rfl) (co rfl (AM (xs:=[.tmp 73]) (rows:=[[_]]) rfl rfl underlying22 Cg z3 rfl (by decide) ⟨⟨(by exact rfl),(Vo rfl)⟩,trivial⟩ (by decide)) ?_)|refine co rfl (AX rfl (HY (l:=[0]) (m:=[EA BO]) (by simp)) ⟨ke rfl,(Kf rfl),(Kf rfl),trivial⟩) ?_|refine ac ?_|(refine Tr.cn rfl ?_ ?_<;>intro h q)
theorem Ic {BO bits:Int}  :A4 prog 187 [agg [int BO,int bits]] (bool (decide (B5 BO bits>0))):=by
 refine fo func187 rfl ⟨rfl,rfl⟩ fun M0 w0=> ?_
 refine a2 ?_
 refine co rfl (Bq (Q8) rfl rfl) ?_
 refine a2 ?_
 · exact Lr
def fH:List (List UInt8×Int):=GG.map fun r=>(r.name,r.kind)
theorem Zk {BO:Int} (h:1≤BO∧BO≤22):fH[BO.toNat]? =some ((C5 BO).name,(C5 BO).kind):=by
 unfold fH;rw [List.getElem?_map,Ia h];rfl
theorem Zl   :A4 prog 181 [] (slice 2 (fH.map fun r=>[str r.1,int r.2])):=by
 refine fo func181 rfl ⟨rfl,rfl⟩ fun M0 w0=> ?_
 refine a2 ?_
 refine DD 0 rfl ?_
 refine ac ?_
 · exact BT _ _
theorem L1 {BO:Int}  :A4 prog 127 [int BO] (int (C5 BO).kind):=by
 refine fo func127 rfl ⟨rfl,rfl⟩ fun M0 w0=> ?_
 refine ac ?_
 refine ag ?_ ?_<;>intro h1 q1
 refine a3 ?_
 · refine int_eq ?_;unfold C5;rw [if_neg (by omega)];rfl
 refine an ?_ ?_<;>intro h2 q2
 refine a2 ?_
 · refine int_eq ?_;unfold C5;rw [if_neg (by omega)];rfl
 have hin:1≤BO∧BO≤22:=by omega
 refine ac ?_
 refine Tr.seq (Tr.B_ (co rfl (R9 (Zl) rfl) (cm rfl (co rfl (AB rfl underlying210 cH (vl rfl) (vl rfl) (by omega) (Du (f:=fun r:List UInt8×Int=>[str r.1,int r.2]) (Zk hin))) ?_))))
 refine a2 ?_
 · exact Lr
theorem Gm {BO bits:Int}  :A4 prog 180 [agg [int BO,int bits]] (bool (decide (B5 BO bits>0)&&(C5 BO).kind==2)):=by
 refine fo func180 rfl ⟨rfl,rfl⟩ fun M0 w0=> ?_
 refine ac ?_
 refine ac ?_
 refine co rfl (Bq (Ic) rfl rfl) (cm rfl ?_)
 refine Ch.cs 5 rfl ?_ ?_<;>intro h1 q1
 refine ac ?_
 refine cy h1 rfl (Bq (L1) rfl rfl) ?_
 refine ac ?_
 refine ac ?_
 · refine bool_eq ?_;simp_all
 refine ac ?_
 refine ac ?_
 · refine bool_eq ?_;simp_all;omega
end Go.Proofs.YtppeeogffbpcbaaGreat
namespace Cp
open Go Go.RowKit
theorem L2 {P:Program} {E:Env} {I:Ci} {o:Oper} {t e:TypeId} {y:Operand} {sz bytes:Nat} {zs:List Value} {rows:List (List Pr)} (ho:o.op= .call { callee:= .builtin .append,args:= #[.const (.slice none 0 0),y],argTypes:= #[t,t] })
  (ht:P.underlying t=some (.slice e)) (hz:Aw P e=some sz) (hby:Cm P e=some bytes) (Dy:Bn P e=some zs) (hzl:zs.length=sz) (hsz:0<sz) (hy:VL E y (slice sz rows)) (FE:rows.length≤maxLen) (hfit:rows.length*bytes≤140737488355328):Af P I o E (slice sz rows):=
 Af.val fun M w a he hI=>by
  have h0:=(Bl.begin (I.bd _ _ hI)).Nw (r:=Bw) rfl trivial
  obtain ⟨v',w',M',h1,h2,h3,h4⟩:=Qi (ty:=o.type) (j:=0) (v:= .slice none 0 0) (rows:=[]) ht hz hby Dy hzl hsz h0 rfl (.inr ⟨rfl,rfl⟩) (AD sz M w _ rfl) (hy.ev he (by simp [ho,Op.operands,Call.operands])) (by simpa using FE) (by simpa using hfit)
  have h5:a.eval (.const (.slice none 0 0))= .slice none 0 0:=rfl
  exact ⟨v',w',by simp [execOp,ho,resolve,invoke,builtin,h1,h5],(slice sz rows).st _ _ _ _ _ (Ext.less h4.m) (by simpa using h2),h4.below⟩
theorem TO.Mk {P:Program} {n:Fm} {E:Env} {M0:Av} {w0:World} {S:Nat→Prop} {rs:List BS} {ops:Array Oper} {r:List Oper} {Q:Exit→Act→World→Prop} (i:Nat) {T:TypeId} {b:Nat} (hi:rs[i]? =some (IL T b)) (k:∀s,TO P n ops r E (Hp M0 w0 S (rs.set i (Qp T b s))) Q):TO P n ops r E (Hp M0 w0 S rs) Q:=by
 rintro m hl a w ⟨M,h1,h2,h3,h4⟩
 have h4:Bl M0 w0 S rs M w:=h4
 obtain ⟨x,hx,hh⟩:=(h4.hold _ (List.mem_of_getElem? hi)).1
 exact k x m hl a w ⟨M,h1,h2,h3,h4.Dr hi rfl rfl hh⟩
theorem Af.iA {P:Program} {E:Env} {I:Ci} {o:Oper} {p:Pr} (s:Nat) {α:Type} {f:α→Pr} (hs:E.lookup s=some (Cp.ex f)) (hm:s∈looks o) (h:∀x,Af P I o ((s,f x)::E) p):Af P I o E p:=by
 intro M w a he hI
 obtain ⟨x,hx⟩:=he s _ hm hs
 refine h x M w a (fun t q ht hq=> ?_) hI
 simp only [List.lookup] at hq
 by_cases hts:t=s
 · subst hts;simp at hq;subst hq;exact hx
 · rw [show (t==s)=false by simpa using hts] at hq;exact he t q ht hq
end Cp
namespace Cp
open Go Go.RowKit Go.Great Go.ChangeShapes Go.WideShapes
def Oa {H:Type} (P:Program) (t:TypeId) (d:DataW H):Prop:=∀n∈d.weights P t,n≤reachBytes
theorem Ie {H:Type} {P:Program} {e:TypeId}:∀{l:List (DataW H)} {d:DataW H} {n:Nat},d∈l→n∈d.weights P e→n∈DataW.weightsAll P e l
 |[],_,_,h,_=>nomatch h
 |a::l,d,n,h,hn=>by
  unfold DataW.weightsAll
  rcases List.mem_cons.1 h with rfl|h
  · exact List.mem_append_left _ hn
  · exact List.mem_append_right _ (Ie h hn)
theorem Fq {H:Type} {P:Program}:∀{ts:List TypeId} {l:List (DataW H)} {i:Nat} {t:TypeId} {d:DataW H} {n:Nat},ts[i]? =some t→l[i]? =some d→n∈d.weights P t→n∈DataW.weightsEach P ts l
 |t::ts,a::l,0,_,_,n,h1,h2,hn=>by
  simp at h1 h2;subst h1;subst h2
  unfold DataW.weightsEach;exact List.mem_append_left _ hn
 |t::ts,a::l,i+1,_,_,n,h1,h2,hn=>by
  simp at h1 h2
  unfold DataW.weightsEach;exact List.mem_append_right _ (Fq h1 h2 hn)
 |[],_,_,_,_,_,h1,_,_=>by simp at h1
 |_::_,[],_,_,_,_,_,h2,_=>by simp at h2
def Ep (P:Program) (t:TypeId) {α:Type} (ok:α→Prop) (f:α→List Pr):Prop:=
 ∀(H:Type) (enc:TypeId×Value→H) (w:World) (fuel:Nat) (cs:List Value) (x:DataW H×List MemPlace),DataW.trod enc P w 0 (fun _=>true) true fuel t cs=some x→Oa P t x.1→∃a,ok a∧HL Yl w (f a) cs∧∀c∈cs,c.oneCell'=true
theorem Ht.w {P:Program} {t:TypeId} {α:Type} {ok:α→Prop} {f:α→List Pr} (h:Ht P t ok f):Ep P t ok f:=fun H enc w fuel cs x hx _=>h H enc w fuel cs x hx
theorem Ep.map {P:Program} {t:TypeId} {α β:Type} {ok:α→Prop} {f:α→List Pr} {ok':β→Prop} {f':β→List Pr} (h:Ep P t ok f) (g:α→β) (h1:∀a,ok a→ok' (g a)) (h2:∀a,f' (g a)=f a):Ep P t ok' f':=by
 intro H enc w fuel cs x hx hl
 obtain ⟨a,h3,h4,h5⟩:=h H enc w fuel cs x hx hl
 exact ⟨g a,h1 a h3,by rw [h2];exact h4,h5⟩
theorem LN {H:Type} {enc:TypeId×Value→H} {P:Program} {w:World} {e:TypeId} {α:Type} {ok:α→Prop} {f:α→List Pr} (he:Ep P e ok f) {sz:Nat} (hc:P.cellsOf e=sz) {a:Addr} {m:Nat}:
  ∀(len:Nat),(∀i,i<len→∃y,(w.cells? 0 (a.add (i*sz)) sz).bind (DataW.trod enc P w 0 (fun _=>true) true m e)=some y∧Oa P e y.1)→
   ∃l:List α,l.length=len∧(∀z∈l,ok z)∧∀(i:Nat) z,l[i]? =some z→(f z).length=sz∧Row Yl w a (i*sz) (f z)
 |0,_=>⟨[],rfl,by simp,by simp⟩
 |len+1,h=>by
  obtain ⟨l,h1,h2,h3⟩:=LN he hc len (fun i hi=>h i (by omega))
  obtain ⟨y,hy,hly⟩:=h len (by omega)
  obtain ⟨cs,hcs,hy⟩:=Option.bind_eq_some_iff.1 hy
  obtain ⟨z,hz,hl,h1c⟩:=he H enc w m cs y hy hly
  obtain ⟨_,hlen,Lb⟩:=World.cells?_some hcs
  refine ⟨l++[z],by simp [h1],?_,fun i u hu=> ?_⟩
  ·
   intro u hu
   rcases List.mem_append.1 hu with hu|hu
   · exact h2 u hu
   · rw [List.mem_singleton.1 hu];exact hz
  ·
   rcases Nat.lt_trichotomy i len with hi|hi|hi
   ·
    rw [List.getElem?_append_left (by omega)] at hu
    exact h3 i u hu
   ·
    subst hi
    rw [List.getElem?_append_right (by omega),h1] at hu
    simp at hu;subst hu
    have hfl:(f z).length=sz:=by rw [hl.len,hlen]
    refine ⟨hfl,fun j p hp=> ?_⟩
    obtain ⟨v,hv,HJ⟩:=hl.nth j p hp
    have hj:j<sz:=by
     rcases Nat.lt_or_ge j (f z).length with h'|h'
     · omega
     · rw [List.getElem?_eq_none h'] at hp;cases hp
    refine ⟨v,?_,fun hf=>hf,h1c v (List.mem_of_getElem? hv),HJ⟩
    rw [←hv,←Lb j hj]
    rw [add_add]
   · rw [List.getElem?_eq_none (by simp [h1];omega)] at hu;cases hu
theorem EP {P:Program} {t e:TypeId} {α:Type} {ok:α→Prop} {f:α→List Pr} {sz b:Nat} (ht:P.underlying t=some (.slice e)) (hc:P.cellsOf e=sz) (hb:P.bytesOf e=b) (he:Ep P e ok f):
  Ep P t (fun l:List α=>(∀z∈l,ok z)∧l.length≤maxLen∧l.length*b≤reachBytes) (fun l=>[slice sz (l.map f)]):=by
 intro H enc w fuel cs x hx Pc
 rcases DataW.trod_slice ht hx with ⟨rfl,_⟩|⟨a,len,cap,elems,rest,n,rfl,rfl,rfl,_,hl,hm,hel,Lb,_⟩
 · exact ⟨[],⟨by simp,by simp,by simp⟩,⟨⟨none,0,rfl,by simp,by simp,fun _=>rfl,by simp⟩,trivial⟩,by simp [Value.oneCell']⟩
 ·
  have hw:∀k,k∈(DataW.slice (elems.map (·.1)) (rest.map (·.1))).weights P t↔k=((elems.map (·.1)).length+(rest.map (·.1)).length)*P.bytesOf e∨k∈DataW.weightsAll P e (elems.map (·.1))++DataW.weightsAll P e (rest.map (·.1)):=by
   intro k
   unfold DataW.weights
   rw [ht];exact List.mem_cons
  have h0:=Pc _ ((hw _).2 (.inl rfl))
  simp only [List.length_map] at h0
  obtain ⟨l,h1,h2,h3⟩:=LN (H:=H) (enc:=enc) (w:=w) (a:=a) (m:=n) he hc len (fun i hi=>by
   have:=Lb i hi
   rw [hc] at this
   rw [this,List.getElem?_eq_getElem (by omega)]
   exact ⟨_,rfl,fun k hk=>Pc k ((hw k).2 (.inr (List.mem_append_left _ (Ie (List.mem_map.2 ⟨_,List.getElem_mem _,rfl⟩) hk))))⟩)
  refine ⟨l,⟨h2,by omega,?_⟩,⟨⟨some a,cap,by simp [h1],by simp;omega,hm,by simp,fun i row hr=> ?_⟩,trivial⟩,by simp [Value.oneCell']⟩
  ·
   refine Nat.le_trans (Nat.mul_le_mul_right b (?_:l.length≤elems.length+rest.length)) (hb ▸ h0)
   omega
  ·
   rw [List.getElem?_map] at hr
   cases hz:l[i]? with
   |none=>rw [hz] at hr;cases hr
   |some z=>
    rw [hz] at hr;simp at hr;subst hr
    obtain ⟨h4,h5⟩:=h3 i z hz
    exact ⟨h4,a,rfl,h5⟩
def L3 (P:Program) (o:Nat) (fs:List Field) {α:Type} (ok:α→Prop) (f:α→List Pr):Prop:=
 ∀(H:Type) (enc:TypeId×Value→H) (w:World) (n:Nat) (cs:List Value),(∀fl∈fs,∃y,DataW.trod (H:=H) enc P w 0 (fun _=>true) true n fl.type ((cs.drop fl.offset).take (P.cellsOf fl.type))=some y∧Oa P fl.type y.1)→
  cs.length=o+(fs.map fun fl=>P.cellsOf fl.type).sum→∃a,ok a∧HL Yl w (f a) (cs.drop o)∧∀c∈cs.drop o,c.oneCell'=true
theorem EI (P:Program) (o:Nat):L3 P o [] (fun _:Unit=>True) (fun _=>[]):=by
 intro H enc w n cs _ hl
 have:cs.drop o=[]:=List.drop_eq_nil_of_le (by simp at hl;omega)
 rw [this]
 exact ⟨(),trivial,trivial,by simp⟩
theorem At {P:Program} {o c:Nat} {fl:Field} {fs:List Field} {α β:Type} {ok:α→Prop} {f:α→List Pr} {ok':β→Prop} {f':β→List Pr} (ho:fl.offset=o) (hc:P.cellsOf fl.type=c)
  (h:Ep P fl.type ok f) (k:L3 P (o+c) fs ok' f'):L3 P o (fl::fs) (fun z:α×β=>ok z.1∧ok' z.2) (fun z=>f z.1++f' z.2):=by
 intro H enc w n cs hy hl
 obtain ⟨y,h0,hly⟩:=hy fl (List.mem_cons_self ..)
 rw [ho,hc] at h0
 obtain ⟨a,h1,h2,h3⟩:=h H enc w n _ y h0 hly
 obtain ⟨b,h4,h5,h6⟩:=k H enc w n cs (fun g hg=>hy g (List.mem_cons_of_mem _ hg)) (by rw [hl];simp [hc];omega)
 have e:cs.drop o=(cs.drop o).take c++cs.drop (o+c):=by rw [←List.drop_drop,List.take_append_drop]
 refine ⟨(a,b),⟨h1,h4⟩,by rw [e];exact h2.app h5,fun v hv=> ?_⟩
 rw [e] at hv
 rcases List.mem_append.1 hv with hv|hv
 · exact h3 v hv
 · exact h6 v hv
theorem Dd {P:Program} {t:TypeId} {fs:Array Field} {α:Type} {ok:α→Prop} {f:α→List Pr} (ht:P.underlying t=some (.struct fs)) (hc:P.cellsOf t=(fs.toList.map fun fl=>P.cellsOf fl.type).sum) (h:L3 P 0 fs.toList ok f):Ep P t ok f:=by
 intro H enc w fuel cs x hx Pc
 obtain ⟨xs,n,rfl,rfl,hl,hxs,Lb⟩:=DataW.trod_struct ht hx
 obtain ⟨a,h1,h2,h3⟩:=h H enc w n cs (fun fl hfl=>by
  obtain ⟨i,hi⟩:=List.mem_iff_getElem?.1 hfl
  have hi':fs[i]? =some fl:=by simpa using hi
  have:=Lb i fl hi'
  rw [this]
  have hlt:i<fs.size:=by
   rcases Nat.lt_or_ge i fs.size with h'|h'
   · exact h'
   · rw [Array.getElem?_eq_none h'] at hi';cases hi'
  have hx':xs[i]? =some xs[i]:=List.getElem?_eq_getElem (by omega)
  refine ⟨_,hx',fun k hk=>Pc k ?_⟩
  show k∈(DataW.agg (xs.map (·.1))).weights P t
  unfold DataW.weights
  rw [ht]
  exact Fq (i:=i) (by rw [List.getElem?_map,hi];rfl) (by rw [List.getElem?_map,hx'];rfl) hk) (by rw [hl,hc];simp)
 exact ⟨a,h1,by simpa using h2,by simpa using h3⟩
theorem Q9 {H:Type} {enc:TypeId×Value→H} {P:Program} {w:World} {t:TypeId} {α:Type} {ok:α→Prop} {p:α→Pr} (ho:Ep P t ok (fun a=>[p a])) {v:Value} {d:DataW H} {ps:List MemPlace} (h:DataW.Trod enc P w 0 (fun _=>true) true t v d ps) (hl:Oa P t d) (hv:v.cells= #[v]):
  ∃a,ok a∧(p a).h Yl w v:=by
 obtain ⟨fuel,hf⟩:=h
 obtain ⟨a,h1,h2,_⟩:=ho _ _ _ _ _ _ hf hl
 rw [hv] at h2
 exact ⟨a,h1,h2.1⟩
theorem Wt {H:Type} {enc:TypeId×Value→H} {P:Program} {w:World} {t:TypeId} {α:Type} {ok:α→Prop} {f:α→List Pr} (ho:Ep P t ok f) {v:Value} {d:DataW H} {ps:List MemPlace} (h:DataW.Trod enc P w 0 (fun _=>true) true t v d ps) (hl:Oa P t d) (hv:∃cs,v= .agg cs):
  ∃a,ok a∧(agg (f a)).h Yl w v:=by
 obtain ⟨fuel,hf⟩:=h
 obtain ⟨cs,rfl⟩:=hv
 obtain ⟨a,h1,h2,h3⟩:=ho _ _ _ _ _ _ hf hl
 exact ⟨a,h1,cs.toList,by simp,h3,h2⟩
theorem NL {H:Type} {P:Program} {ts:List TypeId} {ds gs:List (DataW H)} (hw:(DataW.weightsEach P ts (ds++gs)).all (· ≤reachBytes)=true) {i:Nat} {t:TypeId} {d:DataW H} (ht:ts[i]? =some t) (hd:ds[i]? =some d):Oa P t d:=fun k hk=>by
 have hlt:i<ds.length:=Bb hd
 have:=List.all_eq_true.1 hw k (Fq ht (by rw [List.getElem?_append_left hlt];exact hd) hk)
 simpa using this
end Cp
namespace Cp
open Go Go.RowKit Go.Great
section
variable {P:Program} {L:Lg P} {n:Fm} {fz:Nat} {E:Env} {M0:Av} {w0:World} {S:Nat→Prop} {rs:List BS}
end
end Cp
namespace Cp
open Go Go.RowKit
end Cp
namespace Cp
open Go Go.RowKit Go.Great
section
variable {P:Program} {L:Lg P} {n:Fm} {fz:Nat} {E:Env} {M0:Av} {w0:World} {S:Nat→Prop} {rs:List BS} {o:Oper} {g:Func} {M1:Av} {w1:World}
theorem Zm {d j:Nat} {T:TypeId} {x:Operand} {ps:List Pr} (hg:o.guard=none) (hd:o.dst=some d) (hn:d<n) (ho:o.op= .box T x) (hx:VL E x (Di ps)):
  E6 P M0 w0 S n j (SR.c Bw) ⟨d,HV T ps⟩ o E (Cp.ex fun b=>ptr b 0):=by
 refine ⟨hg,fun M w a rs H_ he hI hj=> ?_⟩
 obtain ⟨h0,h1⟩:=hx.ev (o:=o) he (by simp [ho,Op.operands])
 have hw:(a.eval x).cells.toList.toArray=(a.eval x).cells:=by simp
 have hrun:(execOp a.eval o).run P w= .ok (.value (.pointer (some ⟨w.heap.size,0,none⟩))) (w.alloc (.cells (a.eval x).cells.toList.toArray T)):=by simp [execOp,ho,Instr.box,newVar,newRow]
 rw [hrun]
 have hb:Below w.heap.size w (w.alloc (.cells (a.eval x).cells.toList.toArray T)):=(Below.refl _ _).alloc (Nat.le_refl _) _
 have h2:=Ext.below (M:=M) hb
 have D3:Ext M w (fun b o=>M b o∨b=w.heap.size) (w.alloc (.cells (a.eval x).cells.toList.toArray T)):=by
  refine ⟨h2.size,fun a v hc hm=>⟨fun hx=> ?_,(h2.keep a v hc hm).2⟩,fun b o ho hp hm=>⟨fun hx=> ?_,(h2.obj b o ho hp hm).2⟩⟩
  ·
   rcases hx with hx|hx
   · exact hm hx
   · have:=D6 hc;omega
  ·
   rcases hx with hx|hx
   · exact hm hx
   · subst hx;simp at ho
 have hs1:(w.alloc (.cells (a.eval x).cells.toList.toArray T)).heap.size=w.heap.size+1:=by simp
 have Lb:(SR.at_ (a.put o.dst (.pointer (some ⟨w.heap.size,0,none⟩))) ⟨d,HV T ps⟩)=AA true w.heap.size T ps:=by unfold SR.at_ Slot.val;dsimp only;rw [hd,B4 (by rw [H_];exact hn)];rfl
 refine ⟨fun b o=>M b o∨b=w.heap.size,⟨_,rfl⟩,D3,?_⟩
 rw [Lb]
 refine hI.replace hj D3 hb.os hb.tape hb.output (fun k hk _=>hb.block k hk) rfl (fun b o hm _=> .inl hm) (fun b o hx=> ?_) ?_ rfl (fun b hbk=> ?_)
 ·
  rcases hx with hx|hx
  · have:=hI.bd _ _ hx;omega
  · omega
 · refine ⟨fun o=> .inr rfl,(a.eval x).cells.toList,heap_alloc_new w _,h0.st D3,h1⟩
 ·
  have EH:some w.heap.size=some b:=hbk
  injection EH with e1
  subst e1
  exact ⟨by rw [hs1];omega,.inr (Nat.le_refl _)⟩
theorem Fin.mL {α:Type} {C:α→Prop} {post:α→List BS} {rs':List BS} (x:α) (hr:g.results= #[]) (hC:C x) (hp:rs'.Perm (post x++Bc M1 w1::rs)):
  Fin ⟨fz,[]⟩ E (Hp M0 w0 S rs') (bodyPost P g (LL M0 w0 S rs M1 w1 C (fun _=>FJ) post)) .normal:=by
 rintro a w ⟨M,_,hd,he,hi⟩
 have hi:Bl M0 w0 S rs' M w:=hi
 obtain ⟨h1,h2⟩:=ZW (Bl.perm hp hi)
 exact ⟨hd,_,results0 hr,_,M,x,rfl,hC,rfl,h1,h2⟩
end
section
variable {P:Program} {L:Lg P} {n:Fm} {fz:Nat} {E:Env} {M0:Av} {w0:World} {S:Nat→Prop} {rs:List BS}
theorem Tr.Zn {Q:Exit→Act→World→Prop} {c:Code} (e:TypeId) (sz s:Nat) {z:Nat} {rows:List (List Pr)} (hs:E.lookup s=some (full z rows)) (k:∀v,Tr L n ((s,Ay v (slice z rows))::E) (Hp M0 w0 S (BR e sz v::rs)) c Q):Tr L n E (Hp M0 w0 S rs) c Q:=by
 intro a w hst
 obtain ⟨M,h1,h2,he,h4⟩:=hst
 obtain ⟨h5,ad,hv⟩:=he s _ hs
 refine k (a.tmps.getD s undef) a w ⟨M,h1,h2,?_,Bl.Nw h4 (by rw [hv];cases ad<;>simp [BR,DW]) (by intro x m c hx hn;rw [hv] at hx;cases hx;exact absurd hn (Nat.lt_irrefl _))⟩
 intro t q' hq
 simp only [List.lookup] at hq
 by_cases ht:t=s
 · subst ht;cases Option.some.inj ((by simpa using hq):some (Ay (a.tmps.getD t undef) (slice z rows))=some q');exact ⟨rfl,h5⟩
 · rw [show (t==s)=false by simpa using ht] at hq;exact he t q' hq
end
end Cp
