/-
  Part 3 of the texts that prove this claim, merged.
-/
import Derived.Lib.Bytealg
import Derived.Test.YthommhphcagokaaGreatDoorRows
import Derived.RangeFuncFrom
import Derived.RangeFuncLeaves
import Derived.OrdersIn
import Derived.Test.YthommhphcagokaaGreatDoorPsFP2
set_option linter.all false
set_option maxRecDepth 40000
set_option maxHeartbeats 16000000
namespace Cp
open Go Go.RowKit Go.Great
variable{a:Act}{parts:Array (Nat×Operand)}{ops:Array Oper}{xs:Array Operand}{ts:Array TypeId}{M:Av}{new:Bool}{f:FuncId}{rows:List (List Pr)}{r:List Oper}{args ps qs:List Pr}{rs:List Ay}{zs:List Value}{cap d i id j k m ob wb:Nat}{o:Oper}{x:Operand}{p p3:Pr}{T:TypeId}{v:Value}{w w0:World}
section
variable{P:Program}{L:Lg P}{n:Fm}{fz:Nat}{E:Env}{M0:Av}{w0:World}{S:Nat->Prop}{rs:List Ay}{o:Oper}
def xR:Value->Option Nat
 | .slice (some a) _ (_+1)=>some a.block
 |_=>none
def An(e:TypeId)(sz:Nat)(rows:List (List Pr))(v:Value):Ay where
 blk:=xR v
 new:=true
 h M w:=(rows=[]/\∃A,v= .slice A 0 0)\/(∃(b cap:Nat) (spare:List Value),v= .slice (some ⟨b,0,none⟩) rows.length (cap+1)/\rows.length<=cap+1/\cap+1<=maxLen/\spare.length=(cap+1-rows.length)*sz/\(AE true b e (rows.flatten++spare.map is)).h M w)
 st M w M' w' he hk h:=by
  rcases h with h|⟨b,cap,spare,rfl,h1,h2,h3,h4⟩
  .exact .inl h
  .exact .inr ⟨b,cap,spare,rfl,h1,h2,h3,(AE true b e _).st _ _ _ _ he hk h4⟩
theorem A7{α:Type}{l:List α}{x:α}(h:l[j]? =some x):j<l.length:=by grind
theorem BD.blank{r:Ay}(h:BD M0 w0 S rs M w)(hj:rs[j]? =some r):BD M0 w0 S (rs.set j Bb) M w:=
 BD.perm (NC (A7 hj)) ((BD.perm (AM hj) h).Hg.JI (r:=Bb) rfl trivial)
theorem Rb(sz:Nat)(A:Option Addr)(M:Av)(w:World):(slice sz []).h M w (.slice A 0 0):=⟨A,0,rfl,Nat.le_refl _,Nat.zero_le _,fun _=>rfl,fun i row h=>by simp at h⟩
theorem TT(sz:Nat)(A:Option Addr)(M:Av)(w:World):(full sz []).h M w (.slice A 0 0):=⟨Rb sz A M w,A,rfl⟩
theorem BD.kX{sz:Nat}{e:TypeId}(h:BD M0 w0 S rs M w)(hj:rs[j]? =some (An e sz rows v))(hl:∀r∈rows,r.length=sz):
  ∃M',Ext M w M' w/\BD M0 w0 S (rs.set j Bb) M' w/\(slice sz rows).h M' w v:=by
 have hjl:=A7 hj;rcases(h.hold _ (List.mem_of_getElem? hj)).1 with⟨rfl,A,rfl⟩|⟨b,cap,spare,rfl,hnc,hcm,hsp,cJ⟩
 .exact⟨M,Ext.refl _ _,h.blank hj,Rb sz A M w⟩
 .
  have hC:=h.DF (r':=AE true b e (rows.flatten++spare.map is)) hj rfl rfl cJ;obtain⟨M',h1,h2,h3⟩:=BD.kN hC (List.getElem?_set_self hjl) hl hnc hcm (by rw[List.length_map];exact hsp);have h4:=h2.blank (j:=j) (by rw[List.set_set];exact List.getElem?_set_self hjl);rw[List.set_set,List.set_set]at h4;exact⟨M',h1,h4,h3⟩
theorem HL.set{vs:List Value}{q:Pr}(h:HL M w ps vs)(hk:ps[k]? =some p)(hq:∀u,p.h M w u->q.h M w u):HL M w (ps.set k q) vs:=by
 refine TN (by rw[h.length];simp) fun k' p' hk'=>?_;rw[List.getElem?_set]at hk'
 split at hk'
 .
  rename_i e1
  subst e1
  split at hk'
  .
   obtain⟨u,hu,jk⟩:=h.at_ k p hk;simp at hk';subst hk';exact⟨u,hu,hq u jk⟩
  .cases hk'
 .exact h.at_ k' p' hk'
theorem BD.II{sz b:Nat}{e:TypeId}(h:BD M0 w0 S rs M w)(hi:rs[i]? =some (AE new b T ps))(hj:rs[j]? =some (An e sz rows v))(hij:j≠i)(hk:ps[k]? =some (is v))(hl:∀r∈rows,r.length=sz):
  ∃M',Ext M w M' w/\BD M0 w0 S ((rs.set j Bb).set i (AE new b T (ps.set k (slice sz rows)))) M' w:=by
 obtain⟨M',h1,h2,h3⟩:=h.kX hj hl;have hi':(rs.set j Bb)[i]? =some (AE new b T ps):=by grind
 refine⟨M',h1,h2.DF hi' rfl rfl ?_⟩;obtain⟨g1,cs,g2,g3,g4⟩:=(h2.hold _ (List.mem_of_getElem? hi')).1;exact⟨g1,cs,g2,g3.set hk (fun u hu=>by rw[show u=v from hu];exact h3),g4⟩
theorem BM.LF{e:TypeId}{sz:Nat}{res:Pr}{R':Value->Ay}(hE:Entry P f)(h0:rows=[]->BM P f (full sz []::ps) res Bb R')(h1:∀(b cap:Nat) (sp:List Value),rows.length<=cap->cap<=maxLen->sp.length=(cap-rows.length)*sz->BM P f (Aj (.slice (some ⟨b,0,none⟩) rows.length cap) (lens rows.length)::ps) res (AE true b e (rows.flatten++sp.map is)) R'):
  BM P f (is v::ps) res (An e sz rows v) R':=by
 refine⟨hE,fun M0 w0 S rs M w vs hI hv=>?_⟩
 match vs,hv with
 |u0::vs1,O2=>
  obtain⟨LV,PZ⟩:=O2;obtain rfl:u0=v:=LV;rcases(hI.hold _ (List.mem_cons_self ..)).1 with⟨hnil,A,rfl⟩|⟨b,cap,spare,rfl,hnc,hcm,hsp,cJ⟩
  .exact(h0 hnil).2 M0 w0 S rs M w _ (hI.blank (j:=0) rfl) (show HL M w (_::_) (_::vs1)from⟨TT sz A M w,PZ⟩)
  .
   have hC:=hI.DF (i:=0) (r':=AE true b e (rows.flatten++spare.map is)) rfl rfl rfl cJ;exact(h1 b (cap+1) spare hnc hcm hsp).2 M0 w0 S rs M w _ hC (show HL M w (_::_) (_::vs1)from⟨⟨rfl,_,_,rfl⟩,PZ⟩)
theorem BM.Rc{e:TypeId}{sz:Nat}{res:Pr}[KM res](hl:∀r∈rows,r.length=sz)(h:Aq P f (slice sz rows::ps) res):
  BM P f (is v::ps) res (An e sz rows v) (fun _=>An e sz rows v):=by
 refine⟨h.1,fun M0 w0 S rs M w vs hI hv=>?_⟩
 match vs,hv with
 |u0::vs1,O2=>
  obtain⟨LV,PZ⟩:=O2;obtain rfl:u0=v:=LV;obtain⟨M',hx,QD,hs⟩:=BD.kX (j:=0) hI rfl hl;refine(h.2 M' w _ QD.bd (show HL M' w (_::_) (_::vs1)from⟨hs,PZ.st hx⟩)).mono ?_;rintro e' w' ⟨u,rfl,h2,h3⟩;exact⟨u,M,rfl,KM.free _ _ _ _ h2,Ext.below h3,(Hp M0 w0 S _).st _ _ _ h3 hI⟩
def part(sz:Nat)(v:Value)(k:Nat):Pr where
 h _ _ u:=∃a m c,v= .slice a m c/\k<=m/\u= .slice (if c=k then a else a.map fun x=>x.add (k*sz)) (m-k) (c-k)
 st _M _w _M' _w' _v _ h:=h
instance ACA (sz:Nat)(v:Value)(k:Nat):One (part sz v k):=⟨by rintro M w u ⟨a,m,c,h1,h2,rfl⟩;exact⟨rfl,rfl⟩⟩
theorem Y0{sz:Nat}{u:Value}(h:(slice sz rows).h M w v)(hu:(part sz v k).h M w u):(slice sz (rows.drop k)).h M w u:=by
 obtain⟨A,cap,rfl,hc,hm,hA,hr⟩:=h;obtain⟨a,m,c,hv,hk,rfl⟩:=hu
 injection hv with e1 e2 e3
 subst e1;subst e2;subst e3;refine⟨_,cap-k,by rw[List.length_drop],by rw[List.length_drop];omega,by omega,fun hn=>?_,fun i row hi=>?_⟩
 .
  split at hn
  .have:=hA hn;omega
  .
   cases A with
   |none=>have:=hA rfl;omega
   |some x=>cases hn
 .
  rw[List.getElem?_drop]at hi;obtain⟨h1,ad,rfl,h3⟩:=hr _ _ hi;have:=A7 hi;refine⟨h1,ad.add (k*sz),by rw[if_neg AA];rfl,fun j p hp=>?_⟩;obtain⟨q,h4,h5,h6,h7⟩:=h3 j p hp;have e:k*sz+(i*sz+j)=(k+i)*sz+j:=by rw[Nat.add_mul];omega
  exact⟨q,by rw[add_add,e];exact h4,by rw[Ga,K9,Nat.add_assoc,e];exact h5,h6,h7⟩
theorem BM.kN{e:TypeId}{sz:Nat}{R:Ay}(hl:∀r∈rows,r.length=sz)(h:BM P f args (lens m) R (fun v=>Ax e sz rows v)):BM P f args (slice sz rows) R (fun _=>Bb):=by
 refine⟨h.1,fun M0 w0 S rs M w vs hI hv=>(h.2 M0 w0 S rs M w vs hI hv).mono ?_⟩;rintro e' w' ⟨v,M',rfl,h2,h3,h4⟩;obtain⟨M2,j1,j2,j3⟩:=BD.rH (j:=0) h4 rfl hl;exact⟨v,M2,rfl,j3,h3.trans j1,j2.blank (j:=0) rfl⟩
theorem BM.ACB{e:TypeId}{sz:Nat}{R:Ay}(hl:∀r∈rows,r.length=sz)(h:BM P f args (lens m) R (fun v=>DQ e sz rows v)):BM P f args (slice sz rows) R (fun _=>Bb):=
 BM.kN hl (BM.MM h)
theorem BM.MN{e:TypeId}{sz:Nat}{res:Pr}{R:Ay}(h0:rows≠[])(h:BM P f ps res R (fun v=>DQ e sz rows v)):BM P f ps res R (fun v=>An e sz rows v):=by
 refine⟨h.1,fun M0 w0 S rs M w vs hI hv=>(h.2 M0 w0 S rs M w vs hI hv).mono ?_⟩;rintro e' w' ⟨v,M',rfl,h2,h3,h4⟩;refine⟨v,M',rfl,h2,h3,?_⟩;have hpos:=List.length_pos_iff.2 h0;obtain⟨b,cap,spare,rfl,hnc,hcm,hsp,cJ⟩:=(h4.hold _ (List.mem_cons_self ..)).1;cases cap with
 |zero=>omega
 |succ cap=>exact h4.DF (i:=0) rfl rfl rfl (.inr ⟨b,cap,spare,rfl,hnc,hcm,hsp,cJ⟩)
theorem BM.Rd{e:TypeId}{sz sz':Nat}(h:Aq P f ps (full sz' [])):BM P f ps (lens 0) Bb (fun v=>An e sz [] v):=by
 refine⟨h.1,fun M0 w0 S rs M w vs hI hv=>(h.2 M w vs hI.bd hv).mono ?_⟩;rintro e' w' ⟨v,rfl,⟨_,a,rfl⟩,h3⟩;refine⟨_,M,rfl,⟨_,_,rfl⟩,Ext.below h3,?_⟩;have QD:BD M0 w0 S (Bb::rs) M w':=(Hp M0 w0 S _).st _ _ _ h3 hI;exact QD.DF (i:=0) (r':=An e sz [] (.slice a 0 0)) rfl (by cases a<;>rfl) rfl (.inl ⟨rfl,a,rfl⟩)
theorem cM{t e:TypeId}{y:Operand}{k:IntKind}{l:Int}{sz:Nat}(ho:o.op= .slice t x (some y) none none)(ht:P.underlying t=some (.slice e))(hz:Aw P e=some sz)(hx:VL E x (is v))(hy:VL E y (is (.int k l)))(h0:0<=l)(hl:l<=rows.length):
  JU P M0 w0 S j (SR.c (An T sz rows v)) o E (part sz v l.toNat):=by
 intro M w a rs he hI hj;have h1:a.eval x=v:=hx.ev he Am;have h3:a.eval y= .int k l:=hy.ev he Am;have hj':rs[j]? =some (An T sz rows v):=hj;rcases(hI.hold _ (List.mem_of_getElem? hj')).1 with⟨rfl,A,hv⟩|⟨b,cap,spare,hv,hnc,hcm,hsp,cJ⟩
 .
  have Y1:l=0:=by simp at hl;omega
  subst Y1
  have hrun:(execOp a.eval o).run P w= .ok (.value (.slice A 0 0)) w:=by
   simp[execOp,ho,h1,h3,hv,Instr.sliceAt,Instr.slice,run_underlying ht,Instr.sliceBounds,Instr.sliceBound,asIntOf,Bz hz]
  rw[hrun];exact⟨⟨A,0,0,hv,Nat.le_refl _,by simp⟩,Below.refl _ _⟩
 .
  have hrun:(execOp a.eval o).run P w= .ok (.value (.slice (if cap+1=l.toNat then some ⟨b,0,none⟩else some ⟨b,l.toNat*sz,none⟩) (rows.length-l.toNat) (cap+1-l.toNat))) w:=by
   by_cases hne:cap+1=l.toNat<;>
   simp[execOp,ho,h1,h3,hv,Instr.sliceAt,Instr.slice,run_underlying ht,Instr.sliceBounds,Instr.sliceBound,asIntOf,h0,hl,Bz hz,hne,DE]
  rw[hrun];refine⟨⟨_,_,_,hv,by omega,?_⟩,Below.refl _ _⟩;simp[DE]
def elp(sz:Nat)(v:Value)(i o:Nat):Pr where
 h _ _ u:=∃a m c,v= .slice (some a) m c/\u= .pointer (some (a.add (i*sz+o)))
 st _M _w _M' _w' _v _ h:=h
instance AD7 (sz:Nat)(v:Value)(k o:Nat):One (elp sz v k o):=⟨by rintro M w u ⟨a,m,c,h1,rfl⟩;exact⟨rfl,rfl⟩⟩
theorem FH{t e:TypeId}{y:Operand}{k:IntKind}{l:Int}{sz:Nat}(ho:o.op= .indexAddr t x y)(ht:P.underlying t=some (.slice e))(hz:Aw P e=some sz)(hx:VL E x (is v))(hy:VL E y (is (.int k l)))(h0:0<=l)(hl:l<rows.length):
  JU P M0 w0 S j (SR.c (An T sz rows v)) o E (elp sz v l.toNat 0):=by
 intro M w a rs he hI hj;have h1:a.eval x=v:=hx.ev he Am;have h3:a.eval y= .int k l:=hy.ev he Am;have hj':rs[j]? =some (An T sz rows v):=hj;rcases(hI.hold _ (List.mem_of_getElem? hj')).1 with⟨rfl,A,hv⟩|⟨b,cap,spare,hv,hnc,hcm,hsp,cJ⟩
 .simp at hl;omega
 .
  have hrun:(execOp a.eval o).run P w= .ok (.value (.pointer (some ((⟨b,0,none⟩:Addr).add (l.toNat*sz))))) w:=by
   simp[execOp,ho,h1,h3,hv,Instr.indexAt,asIntOf,run_underlying ht,Bz hz,h0,hl]
  rw[hrun];exact⟨⟨_,_,_,hv,rfl⟩,Below.refl _ _⟩
theorem Y2{I:Cj}{t:TypeId}{f sz q off:Nat}(ho:o.op= .fieldAddr t x f)(hf:Ah P t f=some off)(hx:VL E x (elp sz v i q)):Af P I o E (elp sz v i (q+off)):=
 Af.same fun M w a he _=>by
  obtain⟨a0,m0,c0,hv,h1⟩:=hx.ev he Am;exact⟨.pointer (some ((a0.add (i*sz+q)).add off)),by simp[execOp,ho,h1,KH hf],a0,m0,c0,hv,by rw[add_add,Nat.add_assoc]⟩
theorem Fv{t:TypeId}{sz:Nat}{row:List Pr}(ho:o.op= .load t x)(ht:FG P t=true)(hz:Aw P t=some sz)(hx:VL E x (elp sz v i 0))(hl:∀r∈rows,r.length=sz)(hi:rows[i]? =some row):
  JU P M0 w0 S j (SR.c (An T sz rows v)) o E (agg row):=by
 intro M w a rs he hI hj;obtain⟨a0,m0,c0,jr,h1⟩:=hx.ev he Am;rw[Nat.add_zero]at h1;have hj':rs[j]? =some (An T sz rows v):=hj;rcases(hI.hold _ (List.mem_of_getElem? hj')).1 with⟨rfl,A,hv⟩|⟨b,cap,spare,hv,hnc,hcm,hsp,⟨_,cs,h4,h5,h6⟩⟩
 .simp at hi
 .
  rw[jr]at hv
  injection hv with e1 e2 e3
  injection e1 with e1
  subst e1;have FC:=A7 hi;have hrl:=hl row (List.mem_of_getElem? hi);have hfl:=Cw hl;have hle:(i+1)*sz<=rows.length*sz:=Nat.mul_le_mul_right sz FC;rw[Nat.add_mul]at hle
  have h7:HL M w row ((cs.drop (i*sz)).take sz):=by
   have h8:=(h5.drop (i*sz)).take sz
   have e4:((rows.flatten++spare.map is).drop (i*sz)).take sz=row:=by
    refine List.ext_getElem? fun j=>?_;rw[List.getElem?_take]
    split
    .
     rename_i hj
     rw[List.getElem?_drop,List.getElem?_append_left (by rw[hfl];omega),Jc hl hi hj]
    .grind
   rwa [e4]at h8
  have hl':((cs.drop (i*sz)).take sz).length=sz:=by rw[h7.length,hrl]
  have hrun:(loadCells ((⟨b,0,none⟩:Addr).add (i*sz)) sz).run P w= .ok ((cs.drop (i*sz)).take sz).toArray w:=by
   have:=run_loadCells_list (P:=P) w ((⟨b,0,none⟩:Addr).add (i*sz)) ((cs.drop (i*sz)).take sz) (fun k u hk=>by
    rw[add_add,DE];rw[List.getElem?_take]at hk
    split at hk
    .rw[List.getElem?_drop]at hk;simp[World.cell?,h4,hk]
    .cases hk)
   rwa [hl']at this
  have DV:(execOp a.eval o).run P w= .ok (.value (.agg ((cs.drop (i*sz)).take sz).toArray)) w:=by simp[execOp,ho,h1,Instr.loadAt,Instr.sureAddr,loadVar,FL ht,Bz hz,hrun]
  rw[DV];exact⟨⟨_,rfl,fun c hc=>h6 c (List.mem_of_mem_drop (List.mem_of_mem_take hc)),h7⟩,Below.refl _ _⟩
theorem Wv{sz:Nat}:∀{rows:List (List Pr)} {i:Nat} {row:List Pr} {o:Nat} {qs S:List Pr},(∀r∈rows,r.length=sz)->rows[i]? =some row->o+qs.length<=sz->
  (rows.flatten++S).take (i*sz+o)++qs++(rows.flatten++S).drop (i*sz+o+qs.length)=(rows.set i (row.take o++qs++row.drop (o+qs.length))).flatten++S
 |[],_,_,_,_,_,_,h,_=>by simp at h
 |a::l,0,row,o,qs,S,hl,h,ho=>by
  simp at h;subst h;have h1:=hl a Ai;rw[List.set_cons_zero,List.flatten_cons,List.flatten_cons,Nat.zero_mul,Nat.zero_add,List.append_assoc a,List.take_append_of_le_length AA,List.drop_append_of_le_length AA];simp
 |a::l,i+1,row,o,qs,S,hl,h,ho=>by
  have h1:=hl a Ai;have ih:=Wv (S:=S) (fun r hr=>hl r (List.mem_cons_of_mem _ hr)) (i:=i) (row:=row) (o:=o) (qs:=qs) Fc ho
  rw[List.set_cons_succ, List.flatten_cons, List.flatten_cons, List.append_assoc a, List.append_assoc a, ← ih, List.take_append, List.drop_append, List.take_of_length_le (by rw[h1, Nat.succ_mul]; omega), List.drop_of_length_le (by rw[h1, Nat.succ_mul]; omega),
   show(i+1)*sz+o-a.length=i*sz+o by rw[h1,Nat.succ_mul];omega,show(i+1)*sz+o+qs.length-a.length=i*sz+o+qs.length by rw[h1,Nat.succ_mul];omega]
  simp
theorem E3{t:TypeId}{y:Operand}{sz q:Nat}{rows':List (List Pr)}{row:List Pr}(hg:o.guard=none)(ho:o.op= .store t x y)(hx:VL E x (elp sz v i q))(hy:VL E y (D7 qs))(hz:Aw P t=some m)(hm:qs.length=m)(hl:∀r∈rows,r.length=sz)(hi:rows[i]? =some row)(hq:q+m<=sz)(hps:rows.set i (row.take q++qs++row.drop (q+m))=rows'):D8 P M0 w0 S n j (SR.c (An T sz rows v)) (SR.c (An T sz rows' v)) o E any:=by
 refine⟨hg,fun M w a rs hsz he hI hj=>?_⟩;obtain⟨a0,m0,c0,jr,h1⟩:=hx.ev he (show x∈o.op.operands.toList by simp[ho,Op.operands]);obtain⟨h2,h3⟩:=hy.ev he (show y∈o.op.operands.toList by simp[ho,Op.operands]);have hj':rs[j]? =some (An T sz rows v):=hj;have hjl:=A7 hj';rcases(hI.hold _ (List.mem_of_getElem? hj')).1 with⟨rfl,A,hv⟩|⟨b,cap,spare,hv,hnc,hcm,hsp,cJ⟩
 .simp at hi
 .
  subst hv
  injection jr with e1 e2 e3
  injection e1 with e1
  subst e1;have hC:=hI.DF (r':=AE true b T (rows.flatten++spare.map is)) hj' rfl rfl cJ;have hjC:(rs.set j (AE true b T (rows.flatten++spare.map is)))[j]? =some (AE true b T (rows.flatten++spare.map is)):=List.getElem?_set_self hjl;obtain⟨_,cs,h4,h5,h6⟩:=cJ;have pK:=h5.length;have h2l:=h2.length;have FC:=A7 hi;have hfl:=Cw hl;rw[List.length_append,hfl,List.length_map]at pK;have hle:(i+1)*sz<=rows.length*sz:=Nat.mul_le_mul_right sz FC;rw[Nat.succ_mul]at hle;have hcells:(a.eval y).cells.size=m:=by rw[←hm,←h2l];simp
  have hrun:(storeCells ((⟨b,0,none⟩:Addr).add (i*sz+q)) (a.eval y).cells.toList 0).run P w= .ok () (w.setRow b (cs.take (i*sz+q)++(a.eval y).cells.toList++cs.drop (i*sz+q+m)).toArray):=by
   have:=run_storeCells_at (P:=P) b (i*sz+q) T (a.eval y).cells.toList 0 cs.toArray w h4 Ci h3;rw[DE,Nat.zero_add]
   simpa[hcells]using this
  have DV:(execOp a.eval o).run P w= .ok .skip (w.setRow b (cs.take (i*sz+q)++(a.eval y).cells.toList++cs.drop (i*sz+q+m)).toArray):=by
   simp[execOp,ho,h1,Instr.storeAt,Instr.sureAddr,storeVar,Bz hz,hcells,hrun]
  rw[DV];have hfs:=Wv (S:=spare.map is) hl hi (o:=q) (qs:=qs) AA;rw[hm,hps]at hfs
  obtain⟨h7, h8⟩ := BD.write (qs := rows'.flatten ++ spare.map is) (cs := cs.take (i * sz + q) ++ (a.eval y).cells.toList ++ cs.drop (i * sz + q + m)) hC hjC (by rw[← hfs]; exact(((h5.take (i * sz + q)).app h2)).app (h5.drop (i * sz + q + m)))
   (fun c hc=>by
    simp only[List.mem_append]at hc;rcases hc with(hc|hc)|hc
    .grind
    .exact h3 c hc
    .exact h6 c (List.mem_of_mem_drop hc))
  rw[List.set_set]at h7;refine⟨M,trivial,h8,?_⟩;have hlen:rows'.length=rows.length:=by rw[←hps,List.length_set]
  have h9:=h7.DF (r':=An T sz rows' (.slice (some ⟨b,0,none⟩) rows.length (cap+1))) (List.getElem?_set_self hjl) rfl rfl (.inr ⟨b,cap,spare,by rw[hlen],by rw[hlen];exact hnc,hcm,by rw[hlen];exact hsp,(h7.hold _ (List.mem_of_getElem? (List.getElem?_set_self hjl))).1⟩);rw[List.set_set]at h9;exact h9
theorem NR{I:Cj}{t e:TypeId}{y z:Operand}{k k':IntKind}{l h:Int}{sz b:Nat}(ho:o.op= .slice t x (some y) (some z) none)(ht:P.underlying t=some (.slice e))(hz:Aw P e=some sz)(hx:VL E x (is (.slice (some ⟨b,0,none⟩) m cap)))(hy:VL E y (is (.int k l)))(hzv:VL E z (is (.int k' h)))(h0:0<=l)(hlh:l<h)(hl:h<=cap):
  Af P I o E (is (.slice (some ⟨b,l.toNat*sz,none⟩) (h.toNat-l.toNat) (cap-l.toNat))):=
 Af.same fun M w a he _=>by
  have h1:a.eval x=_:=hx.ev he Am;have h3:a.eval y=_:=hy.ev he Am;have h5:a.eval z=_:=hzv.ev he Am;have hne:¬cap=l.toNat:=by omega
  have h00:0<=h:=by omega
  have hle:l<=h:=by omega
  have m1:max h 0=h:=by omega
  have m2:¬h<l:=by omega
  refine⟨_,?_,rfl⟩;simp[execOp,ho,h1,h3,h5,Instr.sliceAt,Instr.slice,run_underlying ht,Instr.sliceBounds,Instr.sliceBound,asIntOf,h0,h00,hle,hl,m1,m2,Bz hz,hne,DE]
theorem KP{I:Cj}{t e:TypeId}{y z u:Operand}{k k' k2:IntKind}{l h c:Int}{sz b:Nat}(ho:o.op= .slice t x (some y) (some z) (some u))(ht:P.underlying t=some (.slice e))(hz:Aw P e=some sz)(hx:VL E x (is (.slice (some ⟨b,0,none⟩) m cap)))(hy:VL E y (is (.int k l)))(hzv:VL E z (is (.int k' h)))(hu:VL E u (is (.int k2 c)))(h0:0<=l)(hlh:l<=h)(hhc:h<=c)(hl:c<=cap):
  Af P I o E (lens (h.toNat-l.toNat)):=
 Af.same fun M w a he _=>by
  have h1:a.eval x=_:=hx.ev he Am;have h3:a.eval y=_:=hy.ev he Am;have h5:a.eval z=_:=hzv.ev he Am;have h7:a.eval u=_:=hu.ev he Am;have h00:0<=h:=by omega
  have h01:0<=c:=by omega
  have m1:max h 0=h:=by omega
  have m3:max l 0=l:=by omega
  have m4:max c 0=c:=by omega
  have m5:¬h<l:=by omega
  have m6:¬c<h:=by omega
  refine⟨.slice (if c.toNat=l.toNat then some ⟨b,0,none⟩else some ⟨b,l.toNat*sz,none⟩) (h.toNat-l.toNat) (c.toNat-l.toNat),?_,_,_,rfl⟩
  by_cases hne:c.toNat=l.toNat<;>
  simp[execOp,ho,h1,h3,h5,h7,Instr.sliceAt,Instr.slice,run_underlying ht,Instr.sliceBounds,Instr.sliceBound,asIntOf,h0,h00,h01,hlh,hhc,hl,m1,m3,m4,m5,m6,Bz hz,hne,DE]<;>(intro _;exfalso;omega)
theorem BD.vU:∀{l:List Ay} {M:Av} {w:World},BD M0 w0 S (l++rs) M w->BD M0 w0 S rs M w
 |[],_,_,h=>h
 |_::l,_,_,h=>BD.vU (l:=l) h.Hg
end
section
variable{P:Program}{L:Lg P}{E:Env}{I:Cj}{o:Oper}
theorem Y3 {fn : Func} {y : Operand} {a : List UInt8} {c : UInt8} (ho : o.op = .call { callee := .value (.func f), args := #[x, y], argTypes := ts }) (hf : P.funcs[f]? = some fn) (hname : (fn.name == "runtime.NumGoroutine") = false) (hb : fn.body.isNone = true) (hn : Extern.findNext fn = none) (hex : Extern.find fn = some Extern.BytealgIndexByte.indexByte) (hx : VL E x (str a)) (hy : VL E y (is (.int .u8 ((c.toNat : Nat) : Int)))) : Af P I o E (int (Lib.indexByte a c)) :=
 Af.same fun M w ac he _=>by
  have h1:ac.eval x=_:=hx.ev he CB;have h2:ac.eval y=_:=hy.ev he CB;have h3:ac.eval (.func f)= .func (.func f) #[] #[]:=rfl;refine⟨_,?_,rfl⟩;have hrun:(execOp ac.eval o).run P w=(callFunc f #[ac.eval x,ac.eval y]).run P w:=by simp[execOp,ho,resolve,Deferred.ofValue,invoke,h3]
  rw[hrun,h1,h2,run_callFunc_extern hf hname hb hn hex,Lib.run_indexByteString];simp
theorem kY{cx:Operand}{caps:List Pr}{res:Pr}(ho:o.op= .call { callee:= .value cx,args:=xs,argTypes:=ts })(hc:VL E cx (fn (.func f) caps))(hf:Aq P f (ps++caps) res)(hv:Fx E xs.toList ps):Af P I o E res:=by
 intro M w a he hI;have h1:=Fx.En (o:=o) he (xs:=xs.toList) (fun x hx=>by simp[ho,Op.operands,Call.operands];exact .inr F_) hv;obtain⟨cs,h2,h3⟩:=hc.ev he CB
 have hrun:(execOp a.eval o).run P w= .ok (.enter f ((xs.toList.map a.eval).toArray++cs.toArray)) w:=by
  simp[execOp,ho,resolve,Deferred.ofValue,h2,invoke,Cz hf.1,FM xs]
 rw[hrun];have h4:=hf.2 M w _ (I.bd _ _ hI) (h1.app h3);exact⟨Below.refl _ _,by simpa using h4⟩
section
variable{n:Fm}{fz:Nat}{M0:Av}{w0:World}{S:Nat->Prop}
theorem TW{t e:TypeId}{sz:Nat}{xs:List Operand}(hg:o.guard=none)(hd:o.dst=some d)(hn:d<n)(ho:o.op= .buildSlice t xs.length parts)(hp:parts.toList=(xs.zipIdx 0).map fun x=>(x.2,x.1))(ht:P.underlying t=some (.slice e))(hz:Aw P e=some sz)(Dw:BZ P e=some zs)(hzl:zs.length=sz)(hsz:0<sz)(hx:Sh E sz xs rows)(hsmall:xs.length*sz<=16777216)(AG7:0<xs.length):D8 P M0 w0 S n j (SR.c Bb) ⟨d,DQ e sz rows⟩ o E (lens rows.length):=by
 refine⟨hg,fun M w a rs Ms he hI hj=>?_⟩
 have wK:∀x∈xs,x∈o.op.operands.toList:=by
  intro x hx;simp only[ho,Op.operands,List.mem_map];obtain⟨i,hi,rfl⟩:=List.mem_iff_getElem.1 hx;exact⟨(i,xs[i]),by rw[hp];exact List.mem_map.2 ⟨(xs[i],i),by rw[List.mem_zipIdx_iff_getElem?];simp[hi],rfl⟩,rfl⟩
 obtain⟨h1,h2,h3⟩:=hx.ev he wK;unfold Aw at hz;unfold BZ at Dw;cases hi:P.info? e with
 |none=>rw[hi]at hz;cases hz
 |some i=>
  rw[hi]at hz Dw;simp only[Option.map_some,Option.some.injEq,Option.map_eq_some_iff]at hz Dw;obtain⟨z,WK,Dw⟩:=Dw;have Uv:z.cells.size=sz:=by rw[←hzl,←Dw];simp
  have hparts:(parts.map fun(i,x)=>(i,a.eval x)).toList=((xs.map a.eval).zipIdx 0).map fun x=>(x.2,x.1):=by
   rw[Array.toList_map,hp,List.map_map,List.zipIdx_map,List.map_map];rfl
  have ju := fill_whole (s := i.size) (by rw[hz]; exact hsz) (xs.map a.eval) ((Array.range (xs.length * i.size)).map (z.cells[· % z.cells.size]!)) (fun v hv => by
   obtain⟨x,hx,rfl⟩:=List.mem_map.1 hv
   rw[hz];exact h2 x hx) Ai
  have hpos:¬xs.length*i.size=0:=by rw[hz];exact Nat.ne_of_gt (Nat.mul_pos AA hsz)
  have hrun:=run_buildSlice (P:=P) w t e xs.length (parts.map fun(i,x)=>(i,a.eval x)) _ i z ht hi WK (by rw[hz];omega) hpos (by rw[hparts];exact ju);have DV:(execOp a.eval o).run P w= .ok (.value (.slice (some ⟨w.heap.size,0,none⟩) xs.length xs.length)) (w.alloc (.cells ((xs.map a.eval).flatMap fun v=>v.cells.toList).toArray e)):=by simp[execOp,ho,hrun]
  rw[DV]
  generalize hcs:(xs.map a.eval).flatMap (fun v=>v.cells.toList)=cs at h3 ⊢
  have hb:Below w.heap.size w (w.alloc (.cells cs.toArray e)):=(Below.refl _ _).alloc (Nat.le_refl _) _
  have hlen:rows.length<=maxLen:=by
   have:xs.length*1<=xs.length*sz:=Nat.mul_le_mul_left _ hsz;unfold maxLen;omega
  have h4:=Ext.below (M:=M) hb
  have EN:Ext M w (fun b o=>M b o\/b=w.heap.size) (w.alloc (.cells cs.toArray e)):=by
   refine⟨h4.size,fun a v hc hm=>⟨fun hx=>?_,(h4.keep a v hc hm).2⟩,fun b o ho hp hm=>⟨fun hx=>?_,(h4.obj b o ho hp hm).2⟩⟩
   .
    rcases hx with hx|hx
    .exact DL
    .exact El
   .
    rcases hx with hx|hx
    .exact DL
    .subst hx;simp at ho
  have hs1:(w.alloc (.cells cs.toArray e)).heap.size=w.heap.size+1:=by simp
  have hat:(SR.at_ (a.put o.dst (.slice (some ⟨w.heap.size,0,none⟩) xs.length xs.length)) ⟨d,DQ e sz rows⟩)=DQ e sz rows (.slice (some ⟨w.heap.size,0,none⟩) xs.length xs.length):=by unfold SR.at_ Slot.val;dsimp only;rw[hd,B6 HK]
  refine⟨fun b o=>M b o\/b=w.heap.size,⟨_,_,by rw[h1]⟩,EN,?_⟩;rw[hat];refine hI.replace hj EN hb.os hb.tape hb.output (fun k hk _=>hb.block k hk) rfl (fun b o hm _=> .inl hm) (fun b o hx=>?_) ?_ rfl (fun b hbk=>?_)
  .
   rcases hx with hx|hx
   .have:=hI.bd _ _ hx;omega
   .omega
  .
   refine⟨w.heap.size,rows.length,[],by rw[h1],Nat.le_refl _,hlen,by simp,fun o=> .inr rfl,cs,heap_alloc_new w _,?_,h3.2.1⟩
   simpa using(h3.st EN).hl hsz
  .
   have Ef:some w.heap.size=some b:=hbk
   injection Ef with e1
   subst e1;exact⟨by rw[hs1];omega,.inr (Nat.le_refl _)⟩
end
theorem rN(p:Pr)[One p]:Pr.le p (D7 [any]):=fun M w v h=>by
 obtain⟨h1,h2⟩:=AV p M w v h;refine⟨?_,h2⟩
 match v.cells.toList,h1 with
 |[_],_=>exact⟨trivial,trivial⟩
theorem rO{off:Nat}(h:ps[off]? =some any):ps.take off++[any]++ps.drop (off+1)=ps:=by
 have hl:=A7 h;rw[List.getElem?_eq_getElem hl]at h;simp only[Option.some.injEq]at h
 conv=>rhs;rw[←List.take_append_drop off ps,List.drop_eq_getElem_cons hl,h]
 simp
end
def allI(p:Nat->Bool)(n:Nat):Bool:=(List.range n).all p
theorem B0{p:Nat->Bool}{n:Nat}:allI p n=true↔∀j,j<n->p j=true:=by unfold allI;simp
theorem KQ{p:Nat->Bool}{n:Nat}(h:∀j,j<n->p j=true):allI p n=true:=B0.2 h
theorem EW{p:Nat->Bool}{n:Nat}(hk:k<n)(h:p k=false):allI p n=false:=by
 rw[Bool.eq_false_iff];intro h';rw[B0.1 h' k hk]at h;cases h
theorem Bx{p:Nat->Bool}(h:∀j,j<k->p j=true)(hk:p k=true):∀j,j<k+1->p j=true:=by
 intro j hj
 by_cases e:j=k
 .subst e;exact hk
 .exact h j AA
section
variable{P:Program}{L:Lg P}{n:Fm}{fz:Nat}{I:Cj}
def vV(P:Program)(I':Cj)(M:Av)(w:World)(p:Pr):Result Next->Prop
 | .ok (.value v) w'=>∃M',p.h M' w' v/\Ext M w M' w'/\I'.h M' w'
 | .ok .skip w'=>∃M',p.h M' w' undef/\Ext M w M' w'/\I'.h M' w'
 | .ok (.enter f args) w'=>Calls P f args w' fun e w''=>∃v M',e= .returned v/\p.h M' w'' v/\Ext M w M' w''/\I'.h M' w''
 |_=>False
def MO(P:Program)(n:Fm)(I I':Cj)(o:Oper)(E:Env)(p:Pr):Prop:=o.guard=none/\∀M w (a:Act),a.tmps.size=n.sz->C2 M w E o a->I.h M w->vV P I' M w p ((execOp a.eval o).run P w)
theorem fG{K:Act->World->Prop}{Q:Exit->Act->World->Prop}{I':Cj}(h:vV P I' M w p ((execOp a.eval o).run P w))(k:∀v w' M',p.h M' w' v->Ext M w M' w'->I'.h M' w'->K (a.put o.dst v) w'):o.wp P a w K Q:=by
 unfold Oper.wp
 generalize (execOp a.eval o).run P w=r at h
 cases r with
 |halt x w'=>exact h.elim
 |ok x w'=>
  cases x<;>first|exact h.elim|skip
  case value v=>obtain⟨M',h1,h2,h3⟩:=h;exact k _ _ _ h1 h2 h3
  case skip=>obtain⟨M',h1,h2,h3⟩:=h;exact k _ _ _ h1 h2 h3
  case enter f args=>
   refine h.mono ?_;rintro e w'' ⟨v,M',rfl,h1,h2,h3⟩;exact k _ _ _ h1 h2 h3
def AY(P:Program)(n:Fm)(I:Cj)(ops:Array Oper):Nat->List Oper->Env->(Cj->Env->Prop)->Prop
 |_,[],_,_=>False
 |0,o::r,E,K=>∃p I',MO P n I I' o E p/\(∀d,o.dst=some d->d<n)/\Ch P n I' ops r (upd o p E) (K I')
 |c+1,o::r,E,K=>∃p,ig P I ops o E p/\(∀d,o.dst=some d->d<n)/\AY P n I ops c r (upd o p E) K
theorem AY.op{E:Env}{K:Cj->Env->Prop}{c:Nat}(hg:o.guard=none)(hd:o.dst=some d)(hn:d<n)(h:Af P I o E p)(k:AY P n I ops c r ((d,p)::E) K):AY P n I ops (c+1) (o::r) E K:=
 ⟨p,by unfold ig;rw[hg];exact h,fun d' hd'=>by rw[hd]at hd';cases hd';exact hn,by unfold upd;rw[hd];exact k⟩
theorem AY.turn{E:Env}{K:Cj->Env->Prop}(I':Cj)(hd:o.dst=some d)(hn:d<n)(h:MO P n I I' o E p)(k:Ch P n I' ops r ((d,p)::E) (K I')):AY P n I ops 0 (o::r) E K:=
 ⟨p,I',h,fun d' hd'=>by rw[hd]at hd';cases hd';exact hn,by unfold upd;rw[hd];exact k⟩
def VJ(l:List Oper)(c:Nat):Bool:=
 let b:=Us l
 L4 l&&decide (c<l.length)&&(List.range l.length).all fun i=>i==c||(decide (i<c)&&(b.getD c 0).testBit i)||(decide (c<i)&&(b.getD i 0).testBit c)
theorem VK{l:List Oper}{c:Nat}(h:VJ l c=true):L4 l=true/\c<l.length/\(∀i,i<c->((Us l).getD c 0).testBit i=true)/\∀i,c<i->i<l.length->((Us l).getD i 0).testBit c=true:=by grind [VJ]
theorem Ww:∀(L:List (Oper×Pr)) (m:Nat) (E:Env) (b:Nat),b<=m->cur (fun i=>decide (i<b)) m L E=E:=by
 intro L
 induction L with
 |nil=>intros;rfl
 |cons x L ih=>intro m E b hm;obtain⟨o,p⟩:=x;unfold cur;rw[if_neg Ci];exact ih _ _ _ AA
theorem Wx{ops:Array Oper}{K:Cj->Env->Prop}:∀(c:Nat) (l:List Oper) (k:Nat) (E:Env),AY P n I ops c l E K->∃(L:List (Oper×Pr)) (I':Cj),L.map (·.1)=l/\
  (∀j o p,L[j]? =some (o,p)->(j≠c->ig P (if j<c then I else I') ops o (cur (fun i=>decide (i<k+j)) k L E) p)/\(j=c->MO P n I I' o (cur (fun i=>decide (i<k+j)) k L E) p)/\∀d,o.dst=some d->d<n)/\K I' (cur (fun _=>true) k L E)
 |_,[],_,_,h=>by unfold AY at h;exact h.elim
 |0,o::l,k,E,h=>by
  obtain⟨p,I',hg,hd,hr⟩:=h;obtain⟨L,h1,h2,h3⟩:=Up l (k+1) _ hr;refine⟨(o,p)::L,I',by simp[h1],fun j o' p' hj=>?_,by unfold cur;simpa using h3⟩;cases j with
  |zero=>
   simp only[List.getElem?_cons_zero,Option.some.injEq,Prod.mk.injEq]at hj;obtain⟨rfl,rfl⟩:=hj;have e0:decide (k<k+0)=false:=by simp
   refine⟨fun h=>absurd rfl h,fun _=>?_,hd⟩;unfold cur;simp only[e0,Bool.false_eq_true,↓reduceIte];rw[Ww L (k+1) E (k+0) AA];exact hg
  |succ j=>
   have:=h2 j o' p' F9;have e1:decide (k<k+1+j)=true:=by simp;omega
   rw[show k+(j+1)=k+1+j by omega];unfold cur;simp only[e1,↓reduceIte];exact⟨fun _=>by rw[if_neg (by omega:¬j+1<0)];exact this.1,fun h=>absurd h AA,this.2⟩
 |c+1,o::l,k,E,h=>by
  obtain⟨p,hg,hd,hr⟩:=h;obtain⟨L,I',h1,h2,h3⟩:=Wx c l (k+1) _ hr;refine⟨(o,p)::L,I',by simp[h1],fun j o' p' hj=>?_,by unfold cur;simpa using h3⟩;cases j with
  |zero=>
   simp only[List.getElem?_cons_zero,Option.some.injEq,Prod.mk.injEq]at hj;obtain⟨rfl,rfl⟩:=hj;have e0:decide (k<k+0)=false:=by simp
   refine⟨fun _=>?_,fun h=>absurd h AA,hd⟩;unfold cur;rw[if_pos (by omega:0<c+1)];simp only[e0,Bool.false_eq_true,↓reduceIte];rw[Ww L (k+1) E (k+0) AA];exact hg
  |succ j=>
   have:=h2 j o' p' F9;have e1:decide (k<k+1+j)=true:=by simp;omega
   rw[show k+(j+1)=k+1+j by omega];unfold cur;simp only[e1,↓reduceIte];refine⟨fun hne=>?_,fun he=>this.2.1 AA,this.2.2⟩;have h4:=this.1 AA
   by_cases hlt:j<c
   .rw[if_pos (by omega:j+1<c+1)];rwa [if_pos hlt]at h4
   .rw[if_neg (by omega:¬j+1<c+1)];rwa [if_neg hlt]at h4
structure DJ1(n:Fm)(I I':Cj)(c:Nat)(L:List (Oper×Pr))(E:Env)(listed:Array Bool)(a:Act)(w:World):Prop where
 size:listed.size=L.length
 down:∀(i k:Nat) o p,L[i]? =some (o,p)->listed.getD i false=true->BB o k=true->listed.getD k false=true
 st:∃M,a.tmps.size=n.sz/\a.defers=n.df/\Fo M w (cur (fun i=>listed.getD i false) 0 L E) a/\(if listed.getD c false then I' else I).h M w
theorem Tr.Du{Lo : Lg P}(hm : P.follows .mixedOrders = true)(c : Nat){l : List Oper}{E : Env}{Q : Exit -> Act -> World -> Prop}(hB0 : VJ l c = true)(h : AY P n I l.toArray c l E (fun I' E' => ∀ a w, St n E' I' a w -> Q .normal a w))(hc : calm l = true := by with_unfolding_all rfl) : Tr Lo n E I (.region id l.toArray true) Q := by
 intro a w hs;obtain⟨L,I',h1,h2,h3⟩:=Wx c l 0 E h;obtain⟨hB,ew,hA,hBc⟩:=VK hB0;have hlen:L.length=l.length:=by rw[←h1];simp
 have hL:∀(i:Nat) o,l.toArray[i]? =some o->∃p,L[i]? =some (o,p):=by
  intro i o ho;have:l[i]? =some o:=by simpa using ho
  rw[←h1,List.getElem?_map]at this;cases hx:L[i]? with
  |none=>rw[hx]at this;simp at this
  |some x=>rw[hx]at this;simp at this;exact⟨x.2,by rw[←this]⟩
 have hL':∀(i:Nat) o p,L[i]? =some (o,p)->l[i]? =some o:=by
  intro i o p hi;rw[←h1,List.getElem?_map,hi];rfl
 -- what the check says
 have YK:∀(i:Nat) o,l[i]? =some o->(∀e∈o.after,Region.binds .any e=true->e.on<i)/\
   ∀(k:Nat) q s,l[k]? =some q->k≠i->q.dst=some s->o.dst≠some s/\(s∈seen l.toArray o->(k<i/\BB o k=true)\/(i<k/\BB q i=true)):=by
  intro i o ho;unfold L4 at hB;rw[List.all_eq_true]at hB;have hb:=hB (o,i) (by rw[List.mem_zipIdx_iff_getElem?];exact ho);simp only[Bool.and_eq_true]at hb;refine⟨fun e he hbd=>?_,fun k q s hk hne hd=>?_⟩
  .
   have:=Array.all_eq_true_iff_forall_mem.1 hb.1 e he;rw[hbd]at this;simpa using this
  .
   have:=List.all_eq_true.1 hb.2 (q,k) (by rw[List.mem_zipIdx_iff_getElem?];exact hk);simp only[hd,Bool.or_eq_true,Bool.and_eq_true]at this;rcases this with h|h
   .exact absurd Fc hne
   .
    refine⟨by simpa using h.1,fun hs=>?_⟩;rcases h.2 with(h'|h')|h'
    .
     have hc:(seen l.toArray o).contains s=true:=by simpa using hs
     rw[hc]at h';cases h'
    .exact .inl ⟨by simpa using h'.1,h'.2⟩
    .exact .inr ⟨by simpa using h'.1,h'.2⟩
 refine Lo.draw hc hm ?_
 -- the induction
 have key:∀(fuel:Nat) (listed:Array Bool) (a:Act) (w:World),listed.toList.count false<=fuel->DJ1 n I I' c L E listed a w->JS P .any l.toArray Q fuel listed a w:=by
  intro fuel
  -- all are listed where nothing is ready
  have fin:∀(listed:Array Bool) (a:Act) (w:World),DJ1 n I I' c L E listed a w->(∀i,i<L.length->listed.getD i false=true)->Q .normal a w:=by
   intro listed a w hJ hall;obtain⟨M,hn,hdf,he,hI⟩:=hJ.st;rw[hall c (by rw[hlen];exact ew)]at hI;refine h3 a w ⟨M,hn,hdf,?_,hI⟩
   have:cur (fun i=>listed.getD i false) 0 L E=cur (fun _=>true) 0 L E:=by
    have:∀(L':List (Oper×Pr)) (k:Nat) (E:Env),k+L'.length<=L.length->cur (fun i=>listed.getD i false) k L' E=cur (fun _=>true) k L' E:=by
     intro L'
     induction L' with
     |nil=>intros;rfl
     |cons x L' ih=>
      intro k E hk;obtain⟨o,p⟩:=x;simp only[List.length_cons]at hk;unfold cur;rw[hall k AA,ih _ _ AA]
    exact this L 0 E AA
   rwa [this]at he
  have Iq:∀(listed:Array Bool) (a:Act) (w:World),DJ1 n I I' c L E listed a w->Region.ready .any l.toArray listed=[]->∀i,i<L.length->listed.getD i false=true:=by
   intro listed a w hJ hr i
   induction i using Nat.strongRecOn with
   |_ i ih=>
    intro hi;cases QB:listed.getD i false with
    |true=>rfl
    |false=>
     exfalso;have FC:i<l.length:=by omega
     have hmem:i∈Region.ready .any l.toArray listed:=by
      refine mem_ready.2 ⟨?_,l[i],by simp[FC],fun e he hb=>?_⟩
      .
       have:i<listed.size:=by rw[hJ.size];exact hi
       rw[Array.getD_eq_getD_getElem?,Array.getElem?_eq_getElem this]at QB ⊢
       simpa using QB
      .
       have:=(YK i l[i] (by simp[FC])).1 e he hb;exact ih e.on this AA
     rw[hr]at hmem;cases hmem
  induction fuel with
  |zero=>
   intro listed a w hc hJ
   have hall:∀i,i<L.length->listed.getD i false=true:=by
    intro i hi;have hsz:=hJ.size
    have h0:false∉listed.toList:=by
     have:listed.toList.count false=0:=by omega
     exact List.count_eq_zero.1 this
    cases QB:listed.getD i false with
    |true=>rfl
    |false=>
     exfalso;have:i<listed.size:=by omega
     rw[Array.getD_eq_getD_getElem?,Array.getElem?_eq_getElem this]at QB
     apply h0
     simp at QB;rw[←QB];exact Array.getElem_mem_toList this
   refine⟨?_,fin listed a w hJ hall⟩;cases hr:Region.ready .any l.toArray listed with
   |nil=>rfl
   |cons i r=>
    exfalso;have hi:i∈Region.ready .any l.toArray listed:=by rw[hr];simp
    obtain⟨hu,o,ho,_⟩:=mem_ready.1 hi;obtain⟨p,hp⟩:=hL i o ho;have FC:i<L.length:=by rcases Nat.lt_or_ge i L.length with h|h;exact h;rw[List.getElem?_eq_none h]at hp;cases hp
    have h5:=hall i FC;have:i<listed.size:=by rw[hJ.size];exact FC
    rw[Array.getD_eq_getD_getElem?,Array.getElem?_eq_getElem this]at hu h5;simp at hu h5;rw[hu]at h5;cases h5
  |succ fuel ih=>
   intro listed a w hc hJ;refine⟨fun hr=>fin listed a w hJ (Iq listed a w hJ hr),fun i hi=>?_⟩;obtain⟨hu,o,ho,hall⟩:=mem_ready.1 hi;obtain⟨p,hp⟩:=hL i o ho;have ho':l[i]? =some o:=hL' i o p hp;have FC:i<L.length:=by rcases Nat.lt_or_ge i L.length with h|h;exact h;rw[List.getElem?_eq_none h]at hp;cases hp
   have his:i<listed.size:=by rw[hJ.size];exact FC
   have LV:listed.getD i false=false:=by
    rw[Array.getD_eq_getD_getElem?,Array.getElem?_eq_getElem his]at hu ⊢;simpa using hu
   have hpre:∀k,BB o k=true->listed.getD k false=true:=by
    intro k hk;obtain⟨e,he,hb,rfl⟩:=OC.1 hk;exact hall e he hb
   obtain⟨hgp,hgt,hdn⟩:=h2 i o p hp;rw[Nat.zero_add]at hgp hgt;obtain⟨M,hn,hdf,he,hI⟩:=hJ.st
   -- what is looked at reads as in the wE order
   have hsame:∀s,s∈seen l.toArray o->(cur (fun j=>decide (j<i)) 0 L E).lookup s=(cur (fun j=>listed.getD j false) 0 L E).lookup s:=by
    intro s hs
    by_cases hw:∃k q r,L[k]? =some (q,r)/\k≠i/\q.dst=some s
    .
     obtain⟨k,q,r,hk,hki,hd⟩:=hw
     have F6:∀(j:Nat) o' p',L[j]? =some (o',p')->j≠k->o'.dst≠some s:=by
      intro j o' p' hj hjk;exact((YK j o' (hL' j o' p' hj)).2 k q s (hL' k q r hk) (Ne.symm hjk) hd).1
     rcases((YK i o ho').2 k q s (hL' k q r hk) hki hd).2 hs with⟨h5,h6⟩|⟨h5,h6⟩
     .exact aR
     .
      have hnk:listed.getD k false=false:=by
       cases hlk:listed.getD k false with
       |false=>rfl
       |true=>have:=hJ.down k i q r hk hlk h6;rw[LV]at this;cases this
      rw[CV L 0 E,CV L 0 E]
      .
       intro j o' p' hj hsel hd'
       by_cases hjk:j=k
       .subst hjk;rw[Nat.zero_add,hnk]at hsel;cases hsel
       .exact F6 j o' p' hj hjk hd'
      .
       intro j o' p' hj hsel hd'
       by_cases hjk:j=k
       .subst hjk;simp at hsel;omega
       .exact F6 j o' p' hj hjk hd'
    .
     rw[CV L 0 E,CV L 0 E]
     .
      intro j o' p' hj hsel hd'
      by_cases hji:j=i
      .subst hji;rw[Nat.zero_add,LV]at hsel;cases hsel
      .exact hw ⟨j,o',p',hj,hji,hd'⟩
     .
      intro j o' p' hj hsel hd'
      by_cases hji:j=i
      .subst hji;simp at hsel
      .exact hw ⟨j,o',p',hj,hji,hd'⟩
   have next:∀v w' M',p.h M' w' v->Ext M w M' w'->(if(listed.setIfInBounds i true).getD c false then I' else I).h M' w'->JS P .any l.toArray Q fuel (listed.setIfInBounds i true) (a.put o.dst v) w':=by
    intro v w' M' Yf hb hI2;refine ih _ _ _ ?_ ⟨by simpa using hJ.size,?_,M',by rw[CC];exact hn,by rw[put_defers];exact hdf,?_,hI2⟩
    .
     have h7:listed.toList[i]? =some false:=by
      rw[Array.getElem?_toList,Array.getElem?_eq_getElem his];rw[Array.getD_eq_getD_getElem?,Array.getElem?_eq_getElem his]at LV
      simpa using LV
     have h8:=count_set h7;rw[Array.toList_setIfInBounds];omega
    .
     intro j k o' p' hj WI hek
     have Io:∀m,(listed.setIfInBounds i true).getD m false=(if m=i then true else listed.getD m false):=by
      intro m;rw[Array.getD_eq_getD_getElem?,Array.getElem?_setIfInBounds]
      by_cases hm:i=m
      .subst hm;simp[his]
      .exact N9
     rw[Io]at WI ⊢
     by_cases hki:k=i
     .simp[hki]
     .
      rw[if_neg hki]
      by_cases hji:j=i
      .
       subst hji;rw[hp]at hj;cases hj;exact hpre k hek
      .
       rw[if_neg hji]at WI;exact hJ.down j k o' p' hj WI hek
    .
     -- the WV
     intro s q hq
     have Io:∀m,(listed.setIfInBounds i true).getD m false=(if m=i then true else listed.getD m false):=by
      intro m;rw[Array.getD_eq_getD_getElem?,Array.getElem?_setIfInBounds]
      by_cases hm:i=m
      .subst hm;simp[his]
      .exact N9
     by_cases hds:o.dst=some s
     .
      rw[Ek L 0 E i o p hp Ui hds
       (fun j o' p' hj hji=>((YK j o' (hL' j o' p' hj)).2 i o s ho' (Ne.symm hji) hds).1)]at hq
      cases hq;rw[hds,B6 Ul];exact Yf
     .
      have WW:(cur (fun j=>listed.getD j false) 0 L E).lookup s=some q:=by
       rw[←hq]
       by_cases hw:∃k q r,L[k]? =some (q,r)/\q.dst=some s/\listed.getD k false=true
       .
        obtain⟨k,q',r,hk,hd,hlk⟩:=hw
        have F6:∀(j:Nat) o' p',L[j]? =some (o',p')->j≠k->o'.dst≠some s:=by
         intro j o' p' hj hjk;exact((YK j o' (hL' j o' p' hj)).2 k q' s (hL' k q' r hk) (Ne.symm hjk) hd).1
        rw[Ek L 0 E k q' r hk (by simpa using hlk) hd F6,Ek L 0 E k q' r hk Ud hd F6]
       .
        rw[CV L 0 E,CV L 0 E]
        .
         intro j o' p' hj hsel hd';rw[Nat.zero_add,Io]at hsel
         by_cases hji:j=i
         .subst hji;rw[hp]at hj;cases hj;exact hds hd'
         .rw[if_neg hji]at hsel;exact hw ⟨j,o',p',hj,hd',hsel⟩
        .
         intro j o' p' hj hsel hd';rw[Nat.zero_add]at hsel;exact hw ⟨j,o',p',hj,hd',hsel⟩
      have hv:=he s q WW
      have:(a.put o.dst v).tmps.getD s undef=a.tmps.getD s undef:=by
       cases hd:o.dst with
       |none=>rfl
       |some d=>exact Ba (fun e=>hds (by rw[hd,e]))
      rw[this];exact q.st _ _ _ _ _ hb hv
   have vW:(listed.setIfInBounds i true).getD c false=(if c=i then true else listed.getD c false):=by
    rw[Array.getD_eq_getD_getElem?,Array.getElem?_setIfInBounds]
    by_cases hm:i=c
    .subst hm;simp[his]
    .exact N9
   have PC:∀(j:Nat) o',l[j]? =some o'->listed.getD j false=true->∀e∈o'.after,Region.binds .any e=true->listed.getD e.on false=true:=by
    intro j o' hj WI e he' hb;obtain⟨p',hp'⟩:=hL j o' F9;exact hJ.down j e.on o' p' hp' WI (OC.2 ⟨e,he',hb,rfl⟩)
   have Yn:C2 M w (cur (fun j=>decide (j<i)) 0 L E) o a:=fun s q hs hq=>by
    rw[hsame s (by unfold seen;simp[hs])]at hq;exact he s q hq
   unfold O6;rw[ho]
   by_cases hic:i=c
   .
    obtain⟨fH,hg⟩:=hgt hic
    dsimp only
    rw[if_pos (G4 fH)];have hlc:listed.getD c false=false:=by rw[←hic];exact LV
    rw[hlc]at hI;refine(fG (hg M w a hn Yn hI) fun v w' M' hv hx hI2=>next v w' M' hv hx ?_);rw[vW,if_pos hic.symm];exact hI2
   .
    have AFe:=hgp hic
    have hlc:listed.getD c false=decide (c<i):=by
     by_cases hlt:i<c
     .
      rw[decide_eq_false AA];cases hlc:listed.getD c false with
      |false=>rfl
      |true=>
       exfalso;obtain⟨oc,hoc⟩:∃oc,l[c]? =some oc:=⟨l[c]'ew,List.getElem?_eq_getElem ew⟩;have:=LA (fun j=>listed.getD j false=true) l PC c oc hoc (fun e he' hb=>PC c oc hoc hlc e he' hb) i (hA i hlt);rw[LV]at this;cases this
     .
      rw[decide_eq_true AA];exact LA (fun j=>listed.getD j false=true) l PC i o ho' (fun e he' hb=>hall e (by simpa using he') hb) c (hBc i AA AA)
    rw[hlc]at hI
    have hI3:(if i<c then I else I').h M w:=by
     by_cases hlt:i<c
     .rw[decide_eq_false AA]at hI;rw[if_pos hlt];exact hI
     .rw[decide_eq_true AA]at hI;rw[if_neg hlt];exact hI
    refine K_ AFe Yn (fun j want d q hgd hj hq=>?_) hI3 ?_
    .
     have hds:d∈seen l.toArray o:=by unfold seen;rw[hgd];exact List.mem_append.2 (.inr UX)
     rw[hsame d hds]at hq;exact he d q hq
    .
     intro v w' Yf hb;refine next v w' M Yf (Ext.below hb) ?_
     rw[vW,if_neg (Ne.symm hic),hlc];exact Cj.st _ _ _ _ hb hI
 refine key l.length _ a _ ?_ ⟨by simp[hlen],?_,?_⟩
 .simp[List.count_replicate]
 .
  intro i k o p hp hl;exfalso;rw[Array.getD_eq_getD_getElem?,Array.getElem?_replicate]at hl
  split at hl<;>simp at hl
 .
  obtain⟨M,hn,hdf,he,hI⟩:=hs;have hb:Below w.heap.size w { w with drawn:=w.drawn+1 }:=⟨rfl,rfl,rfl,Nat.le_refl _,fun _ _=>rfl⟩;refine⟨M,hn,hdf,?_,?_⟩
  rotate_left
  .
   have:(Array.replicate l.toArray.size false).getD c false=false:=by rw[Array.getD_eq_getD_getElem?,Array.getElem?_replicate];split<;>rfl
   rw[this];exact I.st _ _ _ hb hI
  intro s q hq;rw[CV L 0 E]at hq
  .exact Uf
  .
   intro j o p hj hsel;exfalso;rw[Array.getD_eq_getD_getElem?,Array.getElem?_replicate]at hsel
   split at hsel<;>simp at hsel
def BC(P:Program)(f:FuncId)(args:List Pr)(pre:List Ay)(res:Pr)(post:List Ay):Prop:=Hy (α:=Unit) P f args pre (fun _=>True) (fun _=>res) (fun _=>post)
section
variable{M0:Av}{w0:World}{S:Nat->Prop}{rs:List Ay}{E:Env}{o:Oper}{g:Func}{M1:Av}{w1:World}
theorem BC.of {c : Code} {pre post : List Ay} {res : Pr} (hf : P.funcs[f]? = some g) (hb : g.body = some c) (hname : (g.name == "runtime.NumGoroutine") = false) (hlen : ps.length ≤ g.ntmps) (h : ∀ M0 w0 S rs M1 w1, Tr (YJ P) g.ntmps (L5 0 ps) (Hp M0 w0 S (pre ++ Ao M1 w1 :: rs)) c (bodyPost P g (RZ M0 w0 S rs M1 w1 (fun _ : Unit => True) (fun _ => res) (fun _ => post)))) : BC P f ps pre res post :=
 Hy.of hf hb hname hlen h
theorem E_{pre post:List Ay}{res:Pr}(rest:List Ay)(hg:o.guard=none)(ho:o.op= .call { callee:= .value (.func f),args:=xs,argTypes:=ts })(hf:BC P f ps pre res post)(hv:Fx E xs.toList ps)(hp:rs.Perm (pre++rest)):MO P n (Hp M0 w0 S rs) (Hp M0 w0 S (post++rest)) o E res:=by
 refine⟨hg,fun M w a hsz he hI=>?_⟩;have hI:BD M0 w0 S rs M w:=hI;have h1:=Fx.En (o:=o) he (xs:=xs.toList) (fun x hx=>by simp[ho,Op.operands,Call.operands];exact .inr F_) hv
 have hrun:(execOp a.eval o).run P w= .ok (.enter f (xs.toList.map a.eval).toArray) w:=by
  simp[execOp,ho,resolve,Deferred.ofValue,Act.eval,invoke,Cz hf.1,FM xs]
 rw[hrun];refine(BD.PJ hf hp hI h1).mono ?_;rintro e w' ⟨v,M',x,rfl,hC,h2,h3,h4⟩;exact⟨v,M',rfl,h2,h3,h4⟩
theorem EA{cx:Operand}{pre post:List Ay}{res:Pr}(rest:List Ay)(hg:o.guard=none)(ho:o.op= .call { callee:= .value cx,args:=xs,argTypes:=ts })(hc:VL E cx (fn (.func f) []))(hf:BC P f ps pre res post)(hv:Fx E xs.toList ps)(hp:rs.Perm (pre++rest)):MO P n (Hp M0 w0 S rs) (Hp M0 w0 S (post++rest)) o E res:=by
 refine⟨hg,fun M w a hsz he hI=>?_⟩;have hI:BD M0 w0 S rs M w:=hI;have h1:=Fx.En (o:=o) he (xs:=xs.toList) (fun x hx=>by simp[ho,Op.operands,Call.operands];exact .inr F_) hv;have hcv:=hc.ev he CB
 have hrun:(execOp a.eval o).run P w= .ok (.enter f (xs.toList.map a.eval).toArray) w:=by
  obtain⟨cs,h2,hcs⟩:=hcv;cases cs with
  |nil=>simp[execOp,ho,resolve,Deferred.ofValue,h2,invoke,Cz hf.1,FM xs]
  |cons c cs=>exact hcs.elim
 rw[hrun];refine(BD.PJ hf hp hI h1).mono ?_;rintro e w' ⟨v,M',x,rfl,hC,h2,h3,h4⟩;exact⟨v,M',rfl,h2,h3,h4⟩
theorem TO.Df{Q:Exit->Act->World->Prop}{pre post:List Ay}{res:Pr}(rest:List Ay)(hg:o.guard=none)(hd:o.dst=some d)(hn:d<n)(ho:o.op= .call { callee:= .value (.func f),args:=xs,argTypes:=ts })(hf:BC P f ps pre res post)(hv:Fx E xs.toList ps)(hp:rs.Perm (pre++rest))(k:TO P n ops r ((d,res)::E) (Hp M0 w0 S (post++rest)) Q):TO P n ops (o::r) E (Hp M0 w0 S rs) Q:=
 TO.PJ rest hg hd hn ho hf hv hp fun _ _=>k
theorem Fin.Cl{rv:ResultVar}{q res:Pr}{post rs':List Ay}(hr:g.results= #[rv])(h:AL P E rs' rv q)(hl:Pr.le q res)(hp:rs'.Perm (post++Ao M1 w1::rs)):
  Fin ⟨fz,[]⟩ E (Hp M0 w0 S rs') (bodyPost P g (RZ M0 w0 S rs M1 w1 (fun _:Unit=>True) (fun _=>res) (fun _=>post))) .ret:=
 Fin.Ra () hr h trivial hl hp
theorem BM.pure{res:Pr}{R':Value->Ay}(h:BM P f args res Bb R'):Aq P f args res:=by
 refine⟨h.1,fun M w vs hb hv=>?_⟩;refine(h.2 M w Ju [] M w vs ((BD.begin hb).JI (r:=Bb) rfl trivial) hv).mono ?_;rintro e w' ⟨v,M',rfl,h2,h3,h4⟩;exact⟨v,rfl,res.st _ _ _ _ _ (Ext.less h4.m) h2,h4.below⟩
theorem GJ{t e:TypeId}{sz:Nat}(ho:o.op= .call { callee:= .builtin .len,args:= #[x],argTypes:= #[t] })(ht:P.underlying t=some (.slice e))(hx:VL E x (is v)):
  JU P M0 w0 S j (SR.c (An T sz rows v)) o E (int ((rows.length:Nat):Int)):=by
 intro M w a rs he hI hj;have h1:a.eval x=v:=hx.ev he CB;have hj':rs[j]? =some (An T sz rows v):=hj
 have hrun:∃A c,v= .slice A rows.length c:=by
  rcases(hI.hold _ (List.mem_of_getElem? hj')).1 with⟨rfl,A,hv⟩|⟨b,cap,spare,hv,_⟩
  .exact⟨_,_,hv⟩
  .exact⟨_,_,hv⟩
 obtain⟨A,c,hv⟩:=hrun
 have:(execOp a.eval o).run P w= .ok (.value (.int .i64 ((rows.length:Nat):Int))) w:=by
  simp[execOp,ho,resolve,invoke,builtin,Builtin.len_,h1,hv,run_underlying ht,goInt]
 rw[this];exact⟨rfl,Below.refl _ _⟩
end
end
section
variable{P:Program}{L:Lg P}{n:Fm}{fz:Nat}{E:Env}{M0:Av}{w0:World}{S:Nat->Prop}{rs:List Ay}{o:Oper}
def kZ(b off m:Nat):Pr where
 h _ _ u:=∃o c,u= .slice (some ⟨b,o,none⟩) m c/\(0<m->o=off)
 st _M _w _M' _w' _v _ h:=h
instance AAD (b off m:Nat):One (kZ b off m):=⟨by rintro M w u ⟨o,c,rfl,_⟩;exact⟨rfl,rfl⟩⟩
theorem Lp{I:Cj}{t e:TypeId}{y:Operand}{k:IntKind}{l:Int}{sz b:Nat}(ho:o.op= .slice t x (some y) none none)(ht:P.underlying t=some (.slice e))(hz:Aw P e=some sz)(hx:VL E x (is (.slice (some ⟨b,0,none⟩) m cap)))(hy:VL E y (is (.int k l)))(h0:0<=l)(hl:l<=m)(hc:m<=cap):
  Af P I o E (kZ b (l.toNat*sz) (m-l.toNat)):=
 Af.same fun M w a he _=>by
  have h1:a.eval x=_:=hx.ev he Am;have h3:a.eval y=_:=hy.ev he Am
  by_cases hne:cap=l.toNat
  .
   refine⟨.slice (some ⟨b,0,none⟩) (m-l.toNat) (cap-l.toNat),?_,0,_,rfl,fun h=>by omega⟩;simp[execOp,ho,h1,h3,Instr.sliceAt,Instr.slice,run_underlying ht,Instr.sliceBounds,Instr.sliceBound,asIntOf,h0,hl,Bz hz,hne]
  .
   refine⟨.slice (some ⟨b,l.toNat*sz,none⟩) (m-l.toNat) (cap-l.toNat),?_,_,_,rfl,fun _=>rfl⟩;simp[execOp,ho,h1,h3,Instr.sliceAt,Instr.slice,run_underlying ht,Instr.sliceBounds,Instr.sliceBound,asIntOf,h0,hl,Bz hz,hne,DE]
theorem Re{t e:TypeId}{y:Operand}{sz b off:Nat}{ps':List Pr}(hg:o.guard=none)(hd:o.dst=some d)(hn:d<n)(ho:o.op= .call { callee:= .builtin .append,args:= #[x,y],argTypes:= #[t,t] })(ht:P.underlying t=some (.slice e))(hz:Aw P e=some sz)(hx:VL E x (is (.slice (some ⟨b,0,none⟩) k cap)))(hy:VL E y (kZ b off m))(hroom:k+m<=cap)(hl:off+m*sz<=ps.length)(hl2:k*sz+m*sz<=ps.length)(hps:ps.take (k*sz)++(ps.drop off).take (m*sz)++ps.drop (k*sz+m*sz)=ps'):D8 P M0 w0 S n j (SR.c (AE new b e ps)) (SR.c (AE new b e ps')) o E (is (.slice (some ⟨b,0,none⟩) (k+m) cap)):=by
 refine⟨hg,fun M w a rs Ms he hI hj=>?_⟩;have h1:a.eval x=_:=hx.ev he CB;obtain⟨o2,c2,h2,ho2⟩:=hy.ev he CB;obtain⟨⟨_,cs,h4,h5,h6⟩,_⟩:=hI.hold _ (List.mem_of_getElem? hj);have pK:=h5.length;have RT:((cs.drop off).take (m*sz)).length=m*sz:=by rw[List.length_take,List.length_drop];omega
 unfold Aw at hz;cases hi:P.info? e with
 |none=>rw[hi]at hz;cases hz
 |some i=>
  rw[hi]at hz;simp only[Option.map_some,Option.some.injEq]at hz
  have hrun := run_append_room (P := P) (w := w) t o.type e i ht hi b k cap cs.toArray h4 ⟨b, o2, none⟩ m c2 ((cs.drop off).take (m * sz)) (by rw[hz]; exact RT) (fun q u hk => by
   rw[DE];rw[List.getElem?_take]at hk
   split at hk
   .
    rename_i hq
    have hm:0<m:=by rcases Nat.eq_zero_or_pos m with h|h;subst h;simp at hq;exact h
    have:=ho2 hm;subst this;rw[List.getElem?_drop]at hk;simp[World.cell?,h4,hk]
   .cases hk) (fun u hu=>h6 u (List.mem_of_mem_drop (List.mem_of_mem_take hu))) hroom (by rw[hz,RT];simp;omega)
  rw[hz,RT]at hrun
  obtain⟨h7, h8⟩ := BD.write (qs := ps') (cs := cs.take (k * sz) ++ (cs.drop off).take (m * sz) ++ cs.drop (k * sz + m * sz)) hI hj (by rw[← hps]; exact((h5.take _).app ((h5.drop off).take _)).app (h5.drop _))
   (fun c hc=>by
    simp only[List.mem_append]at hc;rcases hc with(hc|hc)|hc
    .exact Mx
    .exact h6 c (List.mem_of_mem_drop (List.mem_of_mem_take hc))
    .exact h6 c (List.mem_of_mem_drop hc))
  have DV:(execOp a.eval o).run P w= .ok (.value (.slice (some ⟨b,0,none⟩) (k+m) cap)) (w.setRow b (cs.take (k*sz)++(cs.drop off).take (m*sz)++cs.drop (k*sz+m*sz)).toArray):=by
   simp[execOp,ho,resolve,invoke,builtin,h1,h2,hrun]
  rw[DV];exact⟨M,rfl,h8,h7⟩
theorem KE{I:Cj}{t e:TypeId}{y:Operand}{sz sz1 sz2:Nat}(ho:o.op= .call { callee:= .builtin .append,args:= #[x,y],argTypes:= #[t,t] })(ht:P.underlying t=some (.slice e))(hz:Aw P e=some sz)(hx:VL E x (full sz1 []))(hy:VL E y (slice sz2 [])):Af P I o E (full sz []):=
 Af.same fun M w a he _=>by
  obtain⟨_,A,h1⟩:=hx.ev he CB;obtain⟨A',c',h2,_⟩:=hy.ev he CB;simp only[List.length_nil]at h1 h2;refine⟨.slice A 0 0,?_,TT sz A M w⟩;have hrun:=HA (P:=P) (ty:=o.type) (A:=A) (A':=A') (n:=0) (c:=0) (c':=c') ht hz (Nat.le_refl _) w;simp[execOp,ho,resolve,invoke,builtin,h1,h2,hrun]
end
theorem ACC{K:Nat}{r:List Pr}(h:K=1):(List.replicate K r).flatten=r:=by subst h;simp
section
variable{P:Program}{L:Lg P}{n:Fm}{fz:Nat}{E:Env}{M0:Av}{w0:World}{S:Nat->Prop}{rs:List Ay}{o:Oper}
theorem cN(j:Nat){R R':Ay}(hR:rs[j]? =some R)(h:D8 P M0 w0 S n j (SR.c R) (SR.c R') o E p):MO P n (Hp M0 w0 S rs) (Hp M0 w0 S (rs.set j R')) o E p:=by
 refine⟨h.1,fun M w a hsz he hI=>?_⟩;have:=h.2 M w a rs hsz he hI hR
 generalize (execOp a.eval o).run P w=r at this
 cases r with
 |halt x w'=>exact this.elim
 |ok x w'=>
  cases x<;>first|exact this.elim|exact this
end
theorem MP{β:Type}{f:β->List Pr}{sz:Nat}(hf:∀x,(f x).length=sz):∀(l:List β) (i:Nat),((l.map f).flatten).take (i*sz)=((l.take i).map f).flatten
 |[],i=>by simp
 |a::l,0=>by simp
 |a::l,i+1=>by
  rw[List.map_cons,List.flatten_cons,List.take_succ_cons,List.map_cons,List.flatten_cons,←MP hf l i,List.take_append,hf a,List.take_of_length_le (by rw[hf a,Nat.succ_mul];omega),Nat.succ_mul,Nat.add_sub_cancel]
theorem Hl{β:Type}{f:β->List Pr}{sz:Nat}(hf:∀x,(f x).length=sz):∀(l:List β) (i:Nat),((l.map f).flatten).drop (i*sz)=((l.drop i).map f).flatten
 |[],i=>by simp
 |a::l,0=>by simp
 |a::l,i+1=>by
  rw[List.map_cons,List.flatten_cons,List.drop_succ_cons,←Hl hf l i,List.drop_append,hf a,List.drop_of_length_le (by rw[hf a,Nat.succ_mul];omega),Nat.succ_mul,Nat.add_sub_cancel];rfl
theorem LG{β:Type}{f:β->List Pr}{sz:Nat}(hf:∀x,(f x).length=sz){l:List β}{x:β}:((l.map f).flatten).take (i*sz)++f x++((l.map f).flatten).drop (i*sz)=((l.take i++[x]++l.drop i).map f).flatten:=by grind [MP,Hl]
theorem TX{β:Type}{f:β->List Pr}{sz:Nat}(hf:∀x,(f x).length=sz){l:List β}:((l.map f).flatten).take (i*sz)++((l.map f).flatten).drop ((i+1)*sz)=((l.eraseIdx i).map f).flatten:=by grind [MP,Hl]
theorem Rf{A S X B:List Pr}{a z N o1 o2 o3 o4 o5 o6:Nat}(hA:A.length=N)(ha:a+z<=N)(hX:X.length=z)(hS:z<=S.length)(h1:o1=a+z)(h2:o2=a)(h3:o3=N-a)(h4:o4=a+z+(N-a))(h5:o5=a)(h6:o6=a+z)(hB:B=(A.take a++X++A.drop a)++S.drop z):
  ((A++S).take o1++((A++S).drop o2).take o3++(A++S).drop o4).take o5++X++((A++S).take o1++((A++S).drop o2).take o3++(A++S).drop o4).drop o6=B:=by
 rw[h1,h2,h3,h4,h5,h6,hB];have e1:(A++S).take (a+z)=A.take a++(A.drop a).take z:=by rw[List.take_append_of_le_length AA,List.take_add]
 have e2:((A++S).drop a).take (N-a)=A.drop a:=by
  rw[List.drop_append_of_le_length AA,List.take_append_of_le_length H7,List.take_of_length_le H7]
 have e3:(A++S).drop (a+z+(N-a))=S.drop z:=by
  rw[show a+z+(N-a)=A.length+z by omega,List.drop_append];simp
 have l1:(A.take a).length=a:=by rw[List.length_take];omega
 have l2:((A.drop a).take z).length=z:=by rw[List.length_take,List.length_drop];omega
 rw[e1,e2,e3]
 have t1:(A.take a++(A.drop a).take z++A.drop a++S.drop z).take a=A.take a:=by
  rw[List.append_assoc,List.append_assoc];exact List.take_left' l1
 have t2:(A.take a++(A.drop a).take z++A.drop a++S.drop z).drop (a+z)=A.drop a++S.drop z:=by
  rw[List.append_assoc];exact List.drop_left' (by rw[List.length_append];omega)
 rw[t1,t2];simp
theorem Rh{A S Z X B R:List Pr}{a z N o0 o1 o2 o3 o4:Nat}(hA:A.length=N)(ha:a<=N)(hX:X.length=z)(hZ:N+z-a<=Z.length)(h0:o0=a)(h1:o1=a)(h2:o2=a+z)(h3:o3=a+z)(h4:o4=a+z+(N-a))(hR:R=A.drop a)(hB:B=(A.take a++X++A.drop a)++Z.drop (N+z-a)):
  (((A++S).take o0++Z).take o1++X++((A++S).take o0++Z).drop o2).take o3++R++(((A++S).take o0++Z).take o1++X++((A++S).take o0++Z).drop o2).drop o4=B:=by
 rw[h0,h1,h2,h3,h4,hR,hB];have l1:(A.take a).length=a:=by rw[List.length_take];omega
 have e0:(A++S).take a=A.take a:=List.take_append_of_le_length AA;rw[e0];have e1:(A.take a++Z).take a=A.take a:=by rw[List.take_append_of_le_length AA,List.take_of_length_le AA]
 have e2:(A.take a++Z).drop (a+z)=Z.drop z:=by rw[List.drop_append,List.drop_of_length_le AA,List.nil_append,l1];congr 1;omega
 rw[e1,e2];have l2:(A.take a++X).length=a+z:=by rw[List.length_append];omega
 have e3:(A.take a++X++Z.drop z).take (a+z)=A.take a++X:=by rw[List.take_append_of_le_length AA,List.take_of_length_le AA]
 have e4:(A.take a++X++Z.drop z).drop (a+z+(N-a))=Z.drop (N+z-a):=by
  rw[List.drop_append,List.drop_of_length_le AA,List.nil_append,l2,List.drop_drop];congr 1;omega
 rw[e3,e4]
theorem TY{A S Z B:List Pr}{a z N o1 o2 o3 o4 o5 o6:Nat}(hA:A.length=N)(ha:a+z<=N)(h1:o1=a)(h2:o2=a+z)(h3:o3=N-(a+z))(h4:o4=N-z)(h5:o5=N-z)(h6:o6=N)(hB:B=(A.take a++A.drop (a+z))++(Z++S)):
  ((A++S).take o1++((A++S).drop o2).take o3++(A++S).drop o4).take o5++Z++((A++S).take o1++((A++S).drop o2).take o3++(A++S).drop o4).drop o6=B:=by
 rw[h1,h2,h3,h4,h5,h6,hB];have e1:(A++S).take a=A.take a:=by rw[List.take_append_of_le_length AA]
 have e2:((A++S).drop (a+z)).take (N-(a+z))=A.drop (a+z):=by
  rw[List.drop_append_of_le_length AA,List.take_append_of_le_length H7,List.take_of_length_le H7]
 rw[e1,e2];have l1:(A.take a++A.drop (a+z)).length=N-z:=by rw[List.length_append,List.length_take,List.length_drop];omega
 have t1:(A.take a++A.drop (a+z)++(A++S).drop (N-z)).take (N-z)=A.take a++A.drop (a+z):=List.take_left' l1
 have t2:(A.take a++A.drop (a+z)++(A++S).drop (N-z)).drop N=S:=by
  rw[List.drop_append,List.drop_of_length_le AA,List.nil_append,l1,List.drop_drop,show N-z+(N-(N-z))=A.length by omega,List.drop_left]
 rw[t1,t2];simp
section
variable{P:Program}{L:Lg P}{n:Fm}{fz:Nat}{E:Env}{M0:Av}{w0:World}{S:Nat->Prop}{rs:List Ay}
theorem St.II{sz b:Nat}{e:TypeId}(hi:rs[i]? =some (AE new b T ps))(hj:rs[j]? =some (An e sz rows v))(hij:j≠i)(hk:ps[k]? =some p)(hp:Pr.le p (is v))(hl:∀r∈rows,r.length=sz)(h:St n E (Hp M0 w0 S rs) a w):
  St n E (Hp M0 w0 S ((rs.set j Bb).set i (AE new b T (ps.set k (slice sz rows))))) a w:=by
 obtain⟨M,h1,h2,h3,h4⟩:=h;have h4:BD M0 w0 S rs M w:=h4;have hi':(rs.set j (An e sz rows v))[i]? =some (AE new b T ps):=by rw[List.getElem?_set_ne hij];exact hi
 obtain⟨M',g1,g2,g3⟩:=h4.kX hj hl;have gi:(rs.set j Bb)[i]? =some (AE new b T ps):=by rw[List.getElem?_set_ne hij];exact hi
 refine⟨M',h1,h2,fun s q hq=>q.st _ _ _ _ _ g1 (h3 s q hq),g2.DF gi rfl rfl ?_⟩;obtain⟨c1,cs,c2,c3,c4⟩:=(g2.hold _ (List.mem_of_getElem? gi)).1;exact⟨c1,cs,c2,c3.set hk (fun u hu=>by rw[show u=v from hp _ _ _ hu];exact g3),c4⟩
theorem Tr.II{Q:Exit->Act->World->Prop}{c:Code}(i j k:Nat){sz b:Nat}{e:TypeId}(hi:rs[i]? =some (AE new b T ps))(hj:rs[j]? =some (An e sz rows v))(hij:j≠i)(hk:ps[k]? =some p)(hp:Pr.le p (is v))(hl:∀r∈rows,r.length=sz)(kk:Tr L n E (Hp M0 w0 S ((rs.set j Bb).set i (AE new b T (ps.set k (slice sz rows))))) c Q):Tr L n E (Hp M0 w0 S rs) c Q:=Tr.conv (fun _ _ hs=>hs.II hi hj hij hk hp hl) kk
end
theorem rP{β:Type}{f:β->List Pr}{l:List β}{q:Nat}{x:β}(h:l[k]? =some x)(hq:(f x).take q++qs++(f x).drop (q+m)=f x):(l.map f).set k ((f x).take q++qs++(f x).drop (q+m))=l.map f:=by
 rw[hq];refine List.ext_getElem? fun i=>?_;rw[List.getElem?_set]
 by_cases hi:k=i
 .
  subst hi;rw[if_pos rfl,List.getElem?_map,h];have:=A7 h;rw[if_pos (by rw[List.length_map];exact this)];rfl
 .rw[if_neg hi]
theorem I6{β:Type}{f:β->List Pr}{l:List β}{q:Nat}{x:β}(h:l[k]? =some x)(hq:(f x).take q++qs++(f x).drop (q+m)=f x):(l.map f).set ((k:Nat):Int).toNat ((f x).take q++qs++(f x).drop (q+m))=l.map f:=by
 rw[Int.toNat_natCast];exact rP h hq
section
variable{P:Program}{L:Lg P}{n:Fm}{fz:Nat}{E:Env}{M0:Av}{w0:World}{S:Nat->Prop}{rs:List Ay}{o:Oper}{g:Func}{M1:Av}{w1:World}
theorem BC.gen{args':List Pr}{pre:List Ay}{res:Pr}[KM res](hfz:∀M0 w0 S rs M w,BD M0 w0 S (pre++rs) M w->∃M',Ext M w M' w/\BD M0 w0 S rs M' w/\∀vs,HL M w args vs->HL M' w args' vs)(h:Aq P f args' res):BC P f args pre res pre:=by
 refine⟨h.1,fun M0 w0 S rs M w vs hI hv=>?_⟩;obtain⟨M',hx,QD,ha⟩:=hfz M0 w0 S rs M w hI;refine(h.2 M' w vs QD.bd (ha vs hv)).mono ?_;rintro e' w' ⟨u,rfl,h2,h3⟩;exact⟨u,M,(),rfl,trivial,KM.free _ _ _ _ h2,Ext.below h3,(Hp M0 w0 S _).st _ _ _ h3 hI⟩
theorem Row.hd{ad:Addr}{q:Pr}(h:Row M w ad 0 (p::ps))(hq:∀u,p.h M w u->q.h M w u):Row M w ad 0 (q::ps):=by
 intro j r hr;cases j with
 |zero=>
  simp at hr;subst hr;obtain⟨u,h1,h2,h3,h4⟩:=h 0 p rfl;exact⟨u,h1,h2,h3,hq u h4⟩
 |succ j=>exact h (j+1) r (by simpa using hr)
theorem BC.look{WT OT e:TypeId}{pO ops rows:List Pr}{rws:List (List Pr)}{sz:Nat}{res:Pr}[KM res](hk:ops[k]? =some (is v))(hl:∀r∈rws,r.length=sz)(ho:ops.set k (slice sz rws)=rows)(h:Aq P f (ref (ref rows::pO)::ps) res):BC P f (ptr wb 0::ps) [AE true wb WT (ptr ob 0::pO),AE true ob OT ops,An e sz rws v] res [AE true wb WT (ptr ob 0::pO),AE true ob OT ops,An e sz rws v]:=by
 refine BC.gen (fun M0 w0 S rs M w hI=>?_) h;obtain⟨Ma,a1,a2⟩:=BD.II (i:=1) (j:=2) (k:=k) hI rfl rfl AB hk hl;rw[ho]at a2;have a3:BD M0 w0 S (AE true ob OT rows::AE true wb WT (ptr ob 0::pO)::Bb::rs) Ma w:=BD.perm (List.Perm.swap _ _ _) a2;obtain⟨Mb,b1,b2,b3⟩:=BD.U5 a3;obtain⟨Mc,c1,c2,c3⟩:=BD.U5 b1;refine⟨Mc,(a1.trans b2).trans c2,c1.Hg,fun vs hv=>?_⟩
 match vs,hv with
 |u0::vs1,O2=>
  obtain⟨LV,PZ⟩:=O2;refine⟨⟨⟨wb,0,none⟩,LV,c3.hd fun u hu=>⟨⟨ob,0,none⟩,hu,b3.st c2⟩⟩,PZ.st ((a1.trans b2).trans c2)⟩
theorem BC.kf{fg:FuncId}{WT e:TypeId}{pO:List Pr}{rws:List (List Pr)}{sz:Nat}{res:Pr}[KM res](hl:∀r∈rws,r.length=sz)(h:Aq P f [slice sz (rws.drop k),fn (.func fg) [ref [ref pO]]] res):BC P f [part sz v k,fn (.func fg) [ref [ptr wb 0]]] [AE true wb WT pO,An e sz rws v] res [AE true wb WT pO,An e sz rws v]:=by
 refine BC.gen (fun M0 w0 S rs M w hI=>?_) h;obtain⟨Ma,a1,a2,a3⟩:=BD.kX (j:=1) hI rfl hl;obtain⟨Mb,b1,b2,b3⟩:=BD.U5 (rs:=Bb::rs) a2;refine⟨Mb,a1.trans b2,b1.Hg,fun vs hv=>?_⟩
 match vs,hv with
 |[u0,u1],O2=>
  obtain⟨LV,hu1,_⟩:=O2;refine⟨Y0 ((slice sz rws).st _ _ _ _ _ b2 a3) ((part sz v k).st _ _ _ _ _ (a1.trans b2) LV),?_,trivial⟩;obtain⟨cs,rfl,hcs⟩:=hu1
  match cs,hcs with
  |[c0],hc1=>
   obtain⟨ad,rfl,hrow⟩:=hc1.1;exact⟨_,rfl,⟨ad,rfl,(hrow.st (a1.trans b2)).hd fun u hu=>⟨⟨wb,0,none⟩,hu,b3⟩⟩,trivial⟩
theorem Dx{I:Cj}{t e:TypeId}{y:Operand}{k:IntKind}{i:Int}{len:Nat}(ho:o.op= .index t x y)(ht:P.underlying t=some (.array len e))(he:EC P e=true)(hz:Aw P e=some 1)(hx:VL E x (agg ps))(hy:VL E y (is (.int k i)))(h0:0<=i)(hl:i<len)(hp:ps[i.toNat]? =some p):Af P I o E p:=
 Af.same fun M w ac hev _=>by
  obtain⟨cs,h1,ho1,h2⟩:=hx.ev hev Am;have h3:ac.eval y=_:=hy.ev hev Am;obtain⟨u,hu,jk⟩:=h2.at_ i.toNat p hp;refine⟨u,?_,jk⟩;simp[execOp,ho,h1,h3,Instr.index,asIntOf,run_underlying ht,h0,hl,Bz hz,Go.part,EZ he,hu]
theorem OQ{t:TypeId}{y:Operand}{q0:Tmp}{b off:Nat}{ps:Value->List Pr}(hg:o.guard=none)(hd:o.dst=none)(ho:o.op= .store t x y)(hx:VL E x (ptr b off))(hy:VL E y (D7 qs))(hz:Aw P t=some m)(hm:qs.length=m)(hl:∀v,off+m<=(ps v).length):D8 P M0 w0 S n j ⟨.one q0,fun v=>AE new b T (ps v)⟩ ⟨.one q0,fun v=>AE new b T ((ps v).take off++qs++(ps v).drop (off+m))⟩ o E any:=by
 refine⟨hg,fun M w a rs hsz he hI hj=>?_⟩;have hj':rs[j]? =some (SR.at_ a (SR.c (AE new b T (ps (a.tmps.getD q0 undef))))):=hj;obtain⟨h1,h2⟩:=BP (P:=P) (M0:=M0) (w0:=w0) (S:=S) (n:=n) (j:=j) (new:=new) (T:=T) (ps:=ps (a.tmps.getD q0 undef)) (b:=b) (off:=off) hg ho hx hy hz hm (hl _) rfl;have h3:=h2 M w a rs hsz he hI hj'
 revert h3
 generalize (execOp a.eval o).run P w=r
 have key:∀v,SR.at_ (a.put o.dst v) (SR.c (AE new b T ((ps (a.tmps.getD q0 undef)).take off++qs++(ps (a.tmps.getD q0 undef)).drop (off+m))))=SR.at_ (a.put o.dst v) ⟨.one q0,fun v=>AE new b T ((ps v).take off++qs++(ps v).drop (off+m))⟩:=fun v=>by rw[hd];rfl
 intro h3;cases r with
 |halt x w'=>exact h3
 |ok x w'=>
  cases x
  case value v=>obtain⟨M',g1,g2,g3⟩:=h3;exact⟨M',g1,g2,by rw[←key];exact g3⟩
  case skip=>obtain⟨M',g1,g2,g3⟩:=h3;exact⟨M',g1,g2,by rw[←key];exact g3⟩
  case enter f args=>
   refine Calls.mono h3 ?_;rintro e w'' ⟨v,M',g0,g1,g2,g3⟩;exact⟨v,M',g0,g1,g2,by rw[←key];exact g3⟩
  all_goals exact h3
theorem TO.re{Q:Exit->Act->World->Prop}{l:List Oper}{I:Cj}(s:Nat){q:Pr}(p:Pr)(hs:E.lookup s=some q)(hl:Pr.le q p)(k:TO P n ops l ((s,p)::E) I Q):TO P n ops l E I Q:=by
 intro m hm a w hst;refine k m hm a w ?_;obtain⟨M,h1,h2,he,h4⟩:=hst;refine⟨M,h1,h2,fun s' r hr=>?_,h4⟩;simp only[List.lookup]at hr
 split at hr
 .
  rename_i e1
  have:s'=s:=by simpa using e1
  subst this;simp only[Option.some.injEq]at hr;subst hr;exact hl _ _ _ (he _ _ hs)
 .exact he _ _ hr
theorem Fin.OR{Q:Exit->Act->World->Prop}{x:Exit}{r r':Ay}(k:Fin n E (Hp M0 w0 S (r'::r::rs)) Q x):Fin n E (Hp M0 w0 S (r::r'::rs)) Q x:=
 Fin.conv (fun _ _ ⟨M,h1,h2,h3,h4⟩=>⟨M,h1,h2,h3,BD.perm (List.Perm.swap _ _ _) h4⟩) k
def KR(P:Program)(f:FuncId)(args:List Pr)(res:Value->Pr)(post:Value->List Ay):Prop:=Hy (α:=Value) P f args [] (fun _=>True) res post
theorem KR.of {c : Code} {res : Value → Pr} {post : Value → List Ay} (hf : P.funcs[f]? = some g) (hb : g.body = some c) (hname : (g.name == "runtime.NumGoroutine") = false) (hlen : ps.length ≤ g.ntmps) (h : ∀ M0 w0 S rs M1 w1, Tr (YJ P) g.ntmps (L5 0 ps) (Hp M0 w0 S (Ao M1 w1 :: rs)) c (bodyPost P g (RZ M0 w0 S rs M1 w1 (fun _ : Value => True) res post))) : KR P f ps res post :=
 Hy.of hf hb hname hlen h
theorem Fin.fI{rv:ResultVar}{q:Pr}{res:Value->Pr}{post:Value->List Ay}{rs':List Ay}(v:Value)(dr:List Ay)(hr:g.results= #[rv])(h:AL P E rs' rv q)(hl:Pr.le q (res v))(hp:rs'.Perm (dr++(post v++Ao M1 w1::rs))):
  Fin ⟨fz,[]⟩ E (Hp M0 w0 S rs') (bodyPost P g (RZ M0 w0 S rs M1 w1 (fun _:Value=>True) res post)) .ret:=by
 rintro a w ⟨M,_,hd,he,hi⟩;have hi:BD M0 w0 S rs' M w:=hi;obtain⟨u,hu,hp'⟩:=h M w a he (fun q hq=>(hi.hold q hq).1);obtain⟨h1,h2⟩:=kW (BD.vU (BD.perm hp hi));exact⟨hd,u,results1 hr hu,_,M,v,rfl,trivial,hl _ _ _ hp',h1,h2⟩
theorem TO.Ri{Q:Exit->Act->World->Prop}{res:Value->Pr}{post:Value->List Ay}(hg:o.guard=none)(hd:o.dst=some d)(hn:d<n)(ho:o.op= .call { callee:= .value (.func f),args:=xs,argTypes:=ts })(hf:KR P f ps res post)(hv:Fx E xs.toList ps)(k:∀v,TO P n ops r ((d,res v)::E) (Hp M0 w0 S (post v++rs)) Q):TO P n ops (o::r) E (Hp M0 w0 S rs) Q:=
 TO.PJ rs hg hd hn ho hf hv (List.Perm.refl _) fun v _=>k v
end
section
variable{P:Program}{L:Lg P}{n:Fm}{fz:Nat}{E:Env}{I:Cj}{Q:Exit->Act->World->Prop}{ops:Array Oper}{o:Oper}{r:List Oper}{g j:Nat}{b want:Bool}
theorem TO.cases(g:Nat){b:Bool}{l:List Oper}(_hb:E.lookup g=some (bool b))(ht:b=true->TO P n ops l E I Q)(hf:b=false->TO P n ops l E I Q):TO P n ops l E I Q:=by
 cases b
 .exact hf rfl
 .exact ht rfl
theorem TO.ACD(hg:o.guard=some (j,want))(hj:(ops[j]?).bind (·.dst)=some g)(hb:E.lookup g=some (bool b))(OA:b=want)(h:∀(K:Act->World->Prop) M w (a:Act),a.tmps.size=n.sz->a.defers=n.df->Fo M w E a->I.h M w->
  (∀E' I' a' w',TO P n ops r E' I' Q->St n E' I' a' w'->K a' w')->o.wp P a w K Q):TO P n ops (o::r) E I Q:=by
 intro k hl a w hs;have h0:ops[k]? =some o:=by simpa using(hl 0).symm
 obtain⟨M,hn,hd,he,hI⟩:=hs;simp only[List.length_cons,List.range'_succ,wpS,h0];have hy:=JT (M:=M) (w:=w) (b:=some b) hj (he g _ hb);rw[IB hg hy,if_pos (by simp[OA])];exact(h _ M w a hn hd he hI fun E' I' a' w' hT hst=>hT (k+1) (fun j=>by have:=hl (j+1);simpa[Nat.add_assoc,Nat.add_comm 1 j]using this) a' w' hst)
theorem TO.WM(hg:o.guard=some (j,want))(hj:(ops[j]?).bind (·.dst)=some g)(hb:E.lookup g=some (bool b))(OA:b=want)(hd:o.dst=some d)(hn:d<n)(h:Af P I o E p)(k:TO P n ops r ((d,p)::E) I Q):TO P n ops (o::r) E I Q:=
 TO.ACD hg hj hb OA fun K M w a h1 h2 h3 h4 hK=>by
  refine He (h M w a (Cq h3) h4) fun v w' hv hb'=>hK _ _ _ _ k ⟨M,?_,?_,?_,I.st _ _ _ hb' h4⟩
  .rw[CC];exact h1
  .rw[put_defers];exact h2
  .
   have:=h3.put (o:=o) (p:=p) hb' hv (fun d' hd'=>by rw[hd]at hd';cases hd';rw[h1];exact hn);rw[show upd o p E=(d,p)::E by unfold upd;rw[hd]]at this;exact this
theorem TO.Y4(hg:o.guard=some (j,want))(hj:(ops[j]?).bind (·.dst)=some g)(hb:E.lookup g=some (bool b))(OA:b≠want)(hd:o.dst=some d)(hn:d<n)(kk:TO P n ops r ((d,is undef)::E) I Q):TO P n ops (o::r) E I Q:=by
 intro k hl a w hs;have h0:ops[k]? =some o:=by simpa using(hl 0).symm
 obtain⟨M,h1,h2,he,hI⟩:=hs;simp only[List.length_cons,List.range'_succ,wpS,h0];have hy:=JT (M:=M) (w:=w) (b:=some b) hj (he g _ hb);rw[IB hg hy,if_neg (by simp[OA])];refine kk (k+1) (fun j=>by have:=hl (j+1);simpa[Nat.add_assoc,Nat.add_comm 1 j]using this) _ w ⟨M,by rw[CC];exact h1,by rw[put_defers];exact h2,?_,hI⟩;have:=he.put (o:=o) (p:=is undef) (v:=undef) (Below.refl w.heap.size w) rfl (fun d' hd'=>by rw[hd]at hd';cases hd';rw[h1];exact hn);rw[show upd o (is undef) E=(d,is undef)::E by unfold upd;rw[hd]]at this;exact this
variable{M0:Av}{w0:World}{S:Nat->Prop}{rs:List Ay}
theorem TO.ACE(i:Nat){R:Ay}{R':Ay}(hg:o.guard=some (j,want))(hj:(ops[j]?).bind (·.dst)=some g)(hb:E.lookup g=some (bool b))(OA:b=want)(hR:rs[i]? =some R)(hd:o.dst=some d)(hn:d<n)(h:D8 P M0 w0 S n i (SR.c R) (SR.c R') { o with guard:=none } E p)(k:TO P n ops r ((d,p)::E) (Hp M0 w0 S (rs.set i R')) Q):TO P n ops (o::r) E (Hp M0 w0 S rs) Q:=
 TO.ACD hg hj hb OA fun K M w a hsz hdf he hI hK=>by
  have hw : ({ o with guard := none } : Oper).wp P a w K Q := LB (h.2 M w a rs hsz (Cq he) hI hR) fun v w' M' hv hx QD => hK _ _ _ _ k ⟨M', by rw[CC]; exact hsz, by rw[put_defers]; exact hdf, by
   intro s q hq;simp only[List.lookup]at hq
   by_cases hs:s=d
   .subst hs;simp at hq;subst hq;show p.h M' w' ((a.put o.dst v).tmps.getD s undef);rw[hd,B6 IZ];exact hv
   .rw[show(s==d)=false by simpa using hs]at hq;show q.h M' w' ((a.put o.dst v).tmps.getD s undef);rw[hd,Ba hs];exact q.st _ _ _ _ _ hx (he s q hq),QD⟩
  exact hw
end
section
variable{P:Program}{L:Lg P}{E:Env}{I:Cj}{o:Oper}
end
class T1(P:Program)(t:TypeId):Prop where
 h:EC P t=true
class TA(P:Program)(t:TypeId):Prop where
 h:FG P t=true
class TZ(P:Program)(t:TypeId)(m:outParam Nat):Prop where
 h:Aw P t=some m
class TF(P:Program)(s f:Nat)(k:outParam Nat):Prop where
 h:Ah P s f=some k
class TU(P:Program)(t:TypeId)(d:outParam TypeDesc):Prop where
 h:P.underlying t=some d
class TB(P:Program)(t:TypeId)(place:outParam (Nat->Option (Nat×Nat)))(zs:outParam (List Value)):Prop where
 h:∀ps,P.built t ps=Instr.fill place zs.toArray ps
 z:zs.all (·.oneCell')=true
class TV(P:Program)(t:TypeId)(zs:outParam (List Value)):Prop where
 h:BZ P t=some zs
 z:zs.all (·.oneCell')=true
class TM(P:Program):Prop where
 h:P.follows .mixedOrders=true
section
variable{P:Program}{L:Lg P}{n:Fm}{fz:Nat}{I:Cj}{ops:Array Oper}{o:Oper}{r:List Oper}{E:Env}{K:Env->Prop}{d g j:Nat}{b want:Bool}{p:Pr}{x y:Operand}{Q:Exit->Act->World->Prop}{t u:TypeId}
theorem AFf[i:T1 P t](ho:o.op= .load t x)(hx:DT E x=some (ref (p::ps))):Af P I o E p:=Q8 ho i.h (vl hx)
theorem AFg[i:TA P t][z:TZ P t m](ho:o.op= .load t x)(hx:DT E x=some (ref ps))(hq:ps.take m=qs)(hm:qs.length=m):Af P I o E (agg qs):=AO ho i.h z.h (vl hx) hq hm
theorem AFh{s:TypeId}{f:Nat}[i:TF P s f k](ho:o.op= .fieldAddr s x f)(hx:DT E x=some (ref ps))(hq:ps.drop k=qs):Af P I o E (ref qs):=M_ ho i.h (vl hx) hq
theorem AFi{s:TypeId}{f:Nat}[i:TF P s f k]{b off:Nat}(ho:o.op= .fieldAddr s x f)(hx:DT E x=some (ptr b off)):Af P I o E (ptr b (off+k)):=AG ho i.h (vl hx)
theorem AFj{e:TypeId}[i:TU P t (.slice e)]{sz:Nat}{β:Type}{f:β->List Pr}{l:List β}(ho:o.op= .call { callee:= .builtin .len,args:= #[x],argTypes:= #[t] })(hx:DT E x=some (slice sz (l.map f))):Af P I o E (int ((l.length:Nat):Int)):=Gu ho i.h (vl hx)
theorem AFk[i:TU P t .string]{a:List UInt8}(ho:o.op= .call { callee:= .builtin .len,args:= #[x],argTypes:= #[t] })(hx:DT E x=some (str a)):Af P I o E (int ((a.length:Nat):Int)):=rB ho i.h (vl hx)
theorem AFl[i:TU P t .bool]{b c:Bool}(ho:o.op= .binOp .eql t x y u)(hx:DT E x=some (bool b))(hy:DT E y=some (bool c)):Af P I o E (bool (b==c)):=wL ho i.h (vl hx) (vl hy)
theorem AFm{p:Pr}[One p](ho:o.op= .box t x)(hx:DT E x=some p):Af P I o E (ref [p]):=BE ho (VL.le (vl hx) (AV p))
theorem AFn(ho:o.op= .box t x)(hx:DT E x=some (agg ps)):Af P I o E (ref ps):=BE ho (VL.le (vl hx) (AJ ps))
class CP(p:Pr)(ps:outParam (List Pr)):Prop where
 h:Pr.le p (D7 ps)
instance AFo (ps:List Pr):CP (agg ps) ps:=⟨AJ ps⟩
instance (priority:=low) AFp (p:Pr)[One p]:CP p [p]:=⟨AV p⟩
class CQ(p:Pr)(ps:outParam (List Pr)):Prop where
 h:Pr.le p (D7 ps)
instance AFq (ps:List Pr):CQ (agg ps) ps:=⟨AJ ps⟩
instance AFr (k:IntKind)(n:Int):CQ (is (.int k n)) [is (.int k n)]:=⟨AV _⟩
instance AD8 (b:Bool):CQ (is (.bool b)) [is (.bool b)]:=⟨AV _⟩
instance AFs (s:ByteArray):CQ (is (.string s)) [is (.string s)]:=⟨AV _⟩
instance AFt (a:Option Addr):CQ (is (.pointer a)) [is (.pointer a)]:=⟨AV _⟩
instance ACF (sz:Nat)(rows:List (List Pr)):CQ (slice sz rows) [slice sz rows]:=⟨AV _⟩
instance AFu (ps:List Pr):CQ (ref ps) [ref ps]:=⟨AV _⟩
instance AG8 (f:Fn)(ps:List Pr):CQ (fn f ps) [fn f ps]:=⟨AV _⟩
theorem vf0:Yp E [] []:=trivial
theorem vf1{q:Pr}{row:List Pr}[c:CQ q row]{xs:List (Nat×Operand)}{rows:List (Nat×List Pr)}(hx:DT E x=some q)(h:Yp E xs rows):Yp E ((i,x)::xs) ((i,row)::rows):=⟨⟨rfl,VL.le (vl hx) c.h⟩,h⟩
theorem vr0{sz:Nat}:Sh E sz [] []:=trivial
theorem vr1{sz:Nat}{q:Pr}{row:List Pr}[c:CQ q row]{xs:List Operand}(hx:DT E x=some q)(hl:row.length=sz)(h:Sh E sz xs rows):Sh E sz (x::xs) (row::rows):=⟨⟨hl,VL.le (vl hx) c.h⟩,h⟩
theorem AFv{place:Nat->Option (Nat×Nat)}[i:TB P t place zs]{rows:List (Nat×List Pr)}(ho:o.op= .build t parts)(hx:Yp E parts.toList rows)(hq:TE place (zs.map is) rows=some qs):Af P I o E (agg qs):=Al ho i.h i.z hx hq
theorem AFw{e:TypeId}{sz:Nat}{xs:List Operand}[i:TU P t (.slice e)][z:TZ P e sz][v:TV P e zs](ho:o.op= .buildSlice t m parts)(hp:parts.toList.map Prod.snd=xs)(hm:(m==xs.length&&(parts.toList.map Prod.fst==List.range m)&&zs.length==sz&&Nat.blt 0 sz&&Nat.ble (m*sz) 16777216)=true)(hx:Sh E sz xs rows):Af P I o E (full sz rows):=by
 simp only[Bool.and_eq_true,beq_iff_eq,Nat.blt_eq,Nat.ble_eq]at hm;obtain⟨⟨⟨⟨h1,h2⟩,h3⟩,h4⟩,h5⟩:=hm;subst h1;refine AX ho ?_ i.h z.h v.h h3 h4 hx h5;refine List.ext_getElem (by rw[←hp];simp) fun k h6 h7=>?_;have h8:k<xs.length:=by simpa using h7
 simp only[List.getElem_map,List.getElem_zipIdx,Nat.zero_add];have e1:(parts.toList.map Prod.fst)[k]'(by simpa using h6)=k:=by grind
 have e2:(parts.toList.map Prod.snd)[k]'(by simpa using h6)=xs[k]:=by simp only[hp]
 simp only[List.getElem_map]at e1 e2;exact Prod.ext e1 e2
section
variable{M0:Av}{w0:World}{S:Nat->Prop}{b off:Nat}{T:TypeId}{new:Bool}{ps qs:List Pr}{m:Nat}{q:Pr}
theorem MQ[i:T1 P t](ho:o.op= .load t x)(hx:DT E x=some (ptr b off))(hp:ps[off]? =some p):JU P M0 w0 S j (SR.c (AE new b T ps)) o E p:=A9 ho i.h (vl hx) hp
theorem MR[i:TA P t][z:TZ P t m](ho:o.op= .load t x)(hx:DT E x=some (ptr b off))(hq:(ps.drop off).take m=qs)(hm:qs.length=m):JU P M0 w0 S j (SR.c (AE new b T ps)) o E (agg qs):=Di ho i.h z.h (vl hx) hq hm
theorem Wy{ps':List Pr}[z:TZ P t m][c:CP q qs](hg:o.guard=none)(ho:o.op= .store t x y)(hx:DT E x=some (ptr b off))(hy:DT E y=some q)(hm:qs.length=m:=by rfl)(hl:Nat.ble (off+m) ps.length=true:=by rfl)(hps:ps.take off++qs++ps.drop (off+m)=ps':=by rfl):D8 P M0 w0 S n j (SR.c (AE new b T ps)) (SR.c (AE new b T ps')) o E any:=BP hg ho (vl hx) (VL.le (vl hy) c.h) z.h hm (Nat.le_of_ble_eq_true hl) hps
variable{rs:List Ay}
theorem sf(i s:Nat)[z:TZ P t m][c:CP q qs](hg:o.guard=none/\o.dst=none/\o.op= .store t x y)(hx:DT E x=some (ptr b 0))(hy:DT E y=some q)(hi:rs[i]? =some (AE true b T ps))(hs:E.lookup s=some (ptr b 0))
  (k:TO P n ops r ((s,ref qs)::E) (Hp M0 w0 S ((rs.set i (AE true b T qs)).eraseIdx i)) Q) (hm:qs.length=m:=by rfl) (hl:ps.length=m:=by rfl):TO P n ops (o::r) E (Hp M0 w0 S rs) Q:=
 TO.Ac i hg.1 hg.2.1 hg.2.2 (vl hx) (VL.le (vl hy) c.h) hi z.h hm hl (TO.freeze (ps:=qs) i s (by
  have hlt:i<rs.length:=by rcases Nat.lt_or_ge i rs.length with h|h;exact h;rw[List.getElem?_eq_none h]at hi;cases hi
  rw[List.getElem?_set_self hlt]) hs k)
theorem sa(i:Nat)[z:TZ P t m][c:CP q qs](hg:o.guard=none/\o.dst=none/\o.op= .store t x y)(hx:DT E x=some (ptr b 0))(hy:DT E y=some q)(hi:rs[i]? =some (AE new b T ps))
  (k:TO P n ops r E (Hp M0 w0 S (rs.set i (AE new b T qs))) Q) (hm:qs.length=m:=by rfl) (hl:ps.length=m:=by rfl):TO P n ops (o::r) E (Hp M0 w0 S rs) Q:=TO.Ac i hg.1 hg.2.1 hg.2.2 (vl hx) (VL.le (vl hy) c.h) hi z.h hm hl k
end
def opk(o:Oper):Nat:=match o.op with
 | .move ..=>1
 | .assign ..=>1
 | .fieldAddr ..=>2
 | .load ..=>3
 | .binOp .add ..=>7
 | .binOp .sub ..=>8
 | .binOp ..=>4
 | .pick ..=>5
 | .nilCheck ..=>6
 | .call { callee:= .builtin .len,.. }=>9
 | .unOp ..=>10
 | .box ..=>11
 | .extract ..=>12
 | .makeFunc ..=>13
 | .build ..=>14
 | .buildSlice ..=>15
 | .store ..=>16
 |_=>0
def ACG(o:Oper):Bool:=o.guard.isNone
def grp(o:Oper):Nat:=if opk o=0 then 0 else if opk o<5 then 1 else if opk o<9 then 2 else if opk o<16 then 3 else 4
theorem AFx{m z:Int}(ho:o.op= .binOp .add t x y u)(hx:DT E x=some (int m))(hy:DT E y=some (int z))(hr: -9223372036854775808<=m+z/\m+z<=9223372036854775807):Af P I o E (int (m+z)):=Hf ho (vl hx) (vl hy) hr
theorem AFy{m z:Int}(ho:o.op= .binOp .sub t x y u)(hx:DT E x=some (int m))(hy:DT E y=some (int z))(hr: -9223372036854775808<=m-z/\m-z<=9223372036854775807):Af P I o E (int (m-z)):=Uq ho (vl hx) (vl hy) hr
theorem oF(h:Af P I o E p:=by first|exact AFh rfl rfl rfl|exact AFi rfl rfl):Af P I o E p:=h
theorem oL(h:Af P I o E p:=by first|exact AFf rfl rfl|exact AFg rfl rfl rfl rfl|exact Bi 0 rfl (MQ rfl rfl rfl)|exact Bi 0 rfl (MR rfl rfl rfl rfl)|exact Bi 1 rfl (MQ rfl rfl rfl)|exact Bi 1 rfl (MR rfl rfl rfl rfl)|exact Bi 2 rfl (MQ rfl rfl rfl)|exact Bi 2 rfl (MR rfl rfl rfl rfl)|exact Bi 3 rfl (MQ rfl rfl rfl)|exact Bi 3 rfl (MR rfl rfl rfl rfl)|exact Bi 4 rfl (MQ rfl rfl rfl)|exact Bi 4 rfl (MR rfl rfl rfl rfl)):Af P I o E p:=h
theorem oB(h:Af P I o E p:=by first|exact ki rfl rfl rfl rfl|exact xJ rfl (vl rfl) (vl rfl)|exact xL rfl (vl rfl) (vl rfl)|exact AFl rfl rfl rfl):Af P I o E p:=h
theorem oP(h:Af P I o E p:=by first|exact Uz rfl rfl (by first|rfl|assumption) rfl|exact SZ rfl rfl (by first|rfl|assumption) rfl|exact fF rfl (vl rfl) (vl rfl)|exact Yz rfl (vl rfl) (vl rfl)):Af P I o E p:=h
theorem oN(h:Af P I o E p:=by first|exact A8 rfl (vl rfl)|exact Pa rfl (vl rfl)|exact Q9 rfl (vl rfl)):Af P I o E p:=h
theorem oA(h:Af P I o E p:=by first|exact AFx rfl rfl rfl AA|exact ki rfl rfl rfl rfl):Af P I o E p:=h
theorem oS(h:Af P I o E p:=by first|exact AFy rfl rfl rfl AA|exact ki rfl rfl rfl rfl):Af P I o E p:=h
theorem oC(h:Af P I o E p:=by first|exact AFj rfl rfl|exact AFk rfl rfl):Af P I o E p:=h
theorem oU(h:Af P I o E p:=by first|exact KG rfl (vl rfl)):Af P I o E p:=h
theorem oO(h:Af P I o E p:=by first|exact AFn rfl rfl|exact AFm rfl rfl):Af P I o E p:=h
theorem oE(h:Af P I o E p:=by first|exact Yi rfl (vl rfl) rfl):Af P I o E p:=h
theorem oM(h:Af P I o E p:=by first|exact Fp rfl rfl):Af P I o E p:=h
theorem oD(h:Af P I o E p:=by first|exact AFv rfl (by repeat any_goals first|exact vf0|refine' vf1 rfl ?_) (by rfl)):Af P I o E p:=h
theorem oI(h:Af P I o E p:=by first|exact AFw rfl rfl (by rfl) (by repeat any_goals first|exact vr0|refine' vr1 rfl (by rfl) ?_)):Af P I o E p:=h
theorem Ta{res:Pr}(hf:Aq P f [] res)(ho:o.op= .call { callee:= .value (.func f),args:= #[],argTypes:=ts }):Af P I o E res:=Aa ho hf trivial
theorem BS{x0:Operand}{p0:Pr}{res:Pr}(hf:Aq P f [p0] res)(ho:o.op= .call { callee:= .value (.func f),args:= #[x0],argTypes:=ts })(h0:DT E x0=some p0):Af P I o E res:=Aa ho hf ⟨ke h0,trivial⟩
theorem CG{x0:Operand}{p0:Pr}{x1:Operand}{p1:Pr}{res:Pr}(hf:Aq P f [p0,p1] res)(ho:o.op= .call { callee:= .value (.func f),args:= #[x0,x1],argTypes:=ts })(h0:DT E x0=some p0)(h1:DT E x1=some p1):Af P I o E res:=Aa ho hf ⟨ke h0,ke h1,trivial⟩
theorem Wz{x0:Operand}{p0:Pr}{x1:Operand}{p1:Pr}{x2:Operand}{p2:Pr}{res:Pr}(hf:Aq P f [p0,p1,p2] res)(ho:o.op= .call { callee:= .value (.func f),args:= #[x0,x1,x2],argTypes:=ts })(h0:DT E x0=some p0)(h1:DT E x1=some p1)(h2:DT E x2=some p2):Af P I o E res:=Aa ho hf ⟨ke h0,ke h1,ke h2,trivial⟩
theorem kc4{x0:Operand}{p0:Pr}{x1:Operand}{p1:Pr}{x2:Operand}{p2:Pr}{x3:Operand}{res:Pr}(hf:Aq P f [p0,p1,p2,p3] res)(ho:o.op= .call { callee:= .value (.func f),args:= #[x0,x1,x2,x3],argTypes:=ts })(h0:DT E x0=some p0)(h1:DT E x1=some p1)(h2:DT E x2=some p2)(h3:DT E x3=some p3):Af P I o E res:=Aa ho hf ⟨ke h0,ke h1,ke h2,ke h3,trivial⟩
theorem kg{x0:Operand}{p0:Pr}{x1:Operand}{p1:Pr}{x2:Operand}{p2:Pr}{x3:Operand}{x4:Operand}{p4:Pr}{res:Pr}(hf:Aq P f [p0,p1,p2,p3,p4] res)(ho:o.op= .call { callee:= .value (.func f),args:= #[x0,x1,x2,x3,x4],argTypes:=ts })(h0:DT E x0=some p0)(h1:DT E x1=some p1)(h2:DT E x2=some p2)(h3:DT E x3=some p3)(h4:DT E x4=some p4):Af P I o E res:=Aa ho hf ⟨ke h0,ke h1,ke h2,ke h3,ke h4,trivial⟩
theorem cP(_:ACG o=true)(h:Ch P n I ops (o::r) E K):Ch P n I ops (o::r) E K:=h
theorem cG(_:ACG o=false)(h:Ch P n I ops (o::r) E K):Ch P n I ops (o::r) E K:=h
theorem cK(k:Nat)(_:opk o=k)(h:Ch P n I ops (o::r) E K):Ch P n I ops (o::r) E K:=h
theorem cS(k:Nat)(_:grp o=k)(h:Ch P n I ops (o::r) E K):Ch P n I ops (o::r) E K:=h
theorem tK(k:Nat)(_:opk o=k)(h:TO P n ops (o::r) E I Q):TO P n ops (o::r) E I Q:=h
theorem tG(k:Nat)(_:grp o=k)(h:TO P n ops (o::r) E I Q):TO P n ops (o::r) E I Q:=h
theorem Tr.rm[i:TM P]{l:List Oper}(hB:L4 l=true)(h:Ch P n I l.toArray l E (fun E'=>Fin n E' I Q .normal))(hc:calm l=true:=by with_unfolding_all rfl):Tr L n E I (.region id l.toArray true) Q:=Tr.AFC i.h hB h hc
theorem Tr.ct{c:Operand}{y z:Code}(hc:DT E c=some (bool true))(k:Tr L n E I y Q):Tr L n E I (.cond c y z) Q:=Tr.cond hc (fun _=>k) (fun h=>nomatch h)
theorem Tr.cf{c:Operand}{y z:Code}(hc:DT E c=some (bool false))(k:Tr L n E I z Q):Tr L n E I (.cond c y z) Q:=Tr.cond hc (fun h=>nomatch h) (fun _=>k)
structure kj(G:Prop):Prop where
 k:G
theorem Cx.mono{M0:Av}{w0:World}{S:Nat->Prop}:∀{l:List Oper} {E:Env} {rs:List SR} {K K':List X->Env->List SR->Prop},(∀L E rs,K L E rs->K' L E rs)->Cx P M0 w0 S n ops l E rs K->Cx P M0 w0 S n ops l E rs K'
 |[],_,_,_,_,h,k=>h _ _ _ k
 |_::_,_,_,_,_,h,⟨p,k,h1,h2,h3⟩=>⟨p,k,h1,h2,Cx.mono (fun _ _ _=>h _ _ _) h3⟩
theorem Cx.keys{M0:Av}{w0:World}{S:Nat->Prop}:∀{l:List Oper} {E:Env} {rs:List SR} {K:List X->Env->List SR->Prop},Cx P M0 w0 S n ops l E rs K->∃ks:List KN,Cx P M0 w0 S n ops l E rs (fun L E' rs'=>L.map (·.k.L7)=ks/\K L E' rs')
 |[],_,_,_,k=>⟨[],rfl,k⟩
 |_::_,_,_,_,⟨p,k,h1,h2,h3⟩=>by
  obtain⟨ks,h4⟩:=Cx.keys h3;exact⟨k.L7::ks,p,k,h1,h2,Cx.mono (fun L E rs h=>⟨by rw[List.map_cons,h.1],h.2⟩) h4⟩
theorem Tr.rx{Lo : Lg P}[i : TM P]{M0 : Av}{S : Nat -> Prop}{l : List Oper}{It : List Ay}(h : Cx P M0 w0 S n l.toArray l E (It.map SR.c) (fun L E' rs' => QC l (L.map (·.k.L7)) = true /\ BG n M0 w0 S E' rs' Q))(hc : calm l = true := by with_unfolding_all rfl) : Tr Lo n E (Hp M0 w0 S It) (.region id l.toArray true) Q := by
 obtain⟨ks,hk⟩:=Cx.keys h;obtain⟨L,h1,h2,h3⟩:=Ut l 0 E _ hk;exact Tr.Yl i.h ks (by rw[←h3.1];exact h3.2.1) (hk.mono fun _ _ _ h=>⟨h.1,h.2.2⟩) hc
theorem al1{r0:Ay}:Cu (SR.c r0::rs.map SR.c) (r0::rs):= .cons (Cu.map _)
theorem WN{r0:Ay}{r1:Ay}:Cu (SR.c r0::SR.c r1::rs.map SR.c) (r0::r1::rs):= .cons (.cons (Cu.map _))
theorem ko{r0:Ay}{r1:Ay}{r2:Ay}:Cu (SR.c r0::SR.c r1::SR.c r2::rs.map SR.c) (r0::r1::r2::rs):= .cons (.cons (.cons (Cu.map _)))
theorem N1{r0:Ay}{r1:Ay}{r2:Ay}{r3:Ay}:Cu (SR.c r0::SR.c r1::SR.c r2::SR.c r3::rs.map SR.c) (r0::r1::r2::r3::rs):= .cons (.cons (.cons (.cons (Cu.map _))))
theorem al5{r0:Ay}{r1:Ay}{r2:Ay}{r3:Ay}{r4:Ay}:Cu (SR.c r0::SR.c r1::SR.c r2::SR.c r3::SR.c r4::rs.map SR.c) (r0::r1::r2::r3::r4::rs):= .cons (.cons (.cons (.cons (.cons (Cu.map _)))))
theorem al6{r0:Ay}{r1:Ay}{r2:Ay}{r3:Ay}{r4:Ay}{r5:Ay}:Cu (SR.c r0::SR.c r1::SR.c r2::SR.c r3::SR.c r4::SR.c r5::rs.map SR.c) (r0::r1::r2::r3::r4::r5::rs):= .cons (.cons (.cons (.cons (.cons (.cons (Cu.map _))))))
theorem fo {g : Func} {c : Code} {res : Pr} (hf : P.funcs[f]? = some g) (hb : g.body = some c) (hname : ((g.name == "runtime.NumGoroutine") = false ∧ Nat.ble ps.length g.ntmps = true)) (h : ∀ M0 w0, Tr (YJ P) g.ntmps (L5 0 ps) (Bse M0 w0) c (bodyPost P g (Sd M0 w0 res))) : Aq P f ps res := Aq.of hf hb hname.1 (Nat.le_of_ble_eq_true hname.2) h
section
variable{M0:Av}{w0:World}{S:Nat->Prop}{rs:List SR}{KX:List X->Env->List SR->Prop}
theorem xId{l:List Oper}(h:Cx P M0 w0 S n ops l E rs KX):Cx P M0 w0 S n ops l E rs KX:=h
theorem xK(k:Nat)(_:opk o=k)(h:Cx P M0 w0 S n ops (o::r) E rs KX):Cx P M0 w0 S n ops (o::r) E rs KX:=h
theorem xG(k:Nat)(_:grp o=k)(h:Cx P M0 w0 S n ops (o::r) E rs KX):Cx P M0 w0 S n ops (o::r) E rs KX:=h
end
theorem cId{l:List Oper}(h:Ch P n I ops l E K):Ch P n I ops l E K:=h
theorem rId{c:Code}(h:Tr L n E I c Q):Tr L n E I c Q:=h
theorem fId{e:Exit}(h:Fin n E I Q e):Fin n E I Q e:=h
theorem tId{l:List Oper}(h:TO P n ops l E I Q):TO P n ops l E I Q:=h
theorem ac{G H:Prop}(k:G)(h:kj G->H:=by
 intro k
 repeat1' first
  |((with_reducible refine cId ?_);first
   |with_reducible refine Ch.nil ?_
   |(refine cP rfl ?_;first
    |(refine cS 1 rfl ?_;first
      |(refine cK 1 rfl ?_;refine cm rfl ?_)
      |(refine cK 2 rfl ?_;refine co rfl oF ?_)
      |(refine cK 3 rfl ?_;refine co rfl oL ?_)
      |(refine cK 4 rfl ?_;refine co rfl oB ?_))
    |(refine cS 2 rfl ?_;first
      |(refine cK 5 rfl ?_;refine co rfl oP ?_)
      |(refine cK 6 rfl ?_;refine co rfl oN ?_)
      |(refine cK 7 rfl ?_;refine co rfl oA ?_)
      |(refine cK 8 rfl ?_;refine co rfl oS ?_))
    |(refine cS 3 rfl ?_;first
      |(refine cK 9 rfl ?_;refine co rfl oC ?_)
      |(refine cK 10 rfl ?_;refine co rfl oU ?_)
      |(refine cK 11 rfl ?_;refine co rfl oO ?_)
      |(refine cK 12 rfl ?_;refine co rfl oE ?_)
      |(refine cK 13 rfl ?_;refine co rfl oM ?_)
      |(refine cK 14 rfl ?_;refine co rfl oD ?_)
      |(refine cK 15 rfl ?_;refine co rfl oI ?_)))
   |(refine cG rfl ?_;first
    |refine cu rfl ?_
    |refine cnt Cs rfl ?_
    |refine cnf Cs rfl ?_
    |(refine cS 1 rfl ?_;first
      |(refine cK 1 rfl ?_;refine JW Fb rfl ?_)
      |(refine cK 2 rfl ?_;refine cy Fb rfl oF ?_)
      |(refine cK 3 rfl ?_;refine cy Fb rfl oL ?_)
      |(refine cK 4 rfl ?_;refine cy Fb rfl oB ?_))
    |(refine cS 2 rfl ?_;first
      |(refine cK 5 rfl ?_;refine cy Fb rfl oP ?_)
      |(refine cK 6 rfl ?_;refine cy Fb rfl oN ?_)
      |(refine cK 7 rfl ?_;refine cy Fb rfl oA ?_)
      |(refine cK 8 rfl ?_;refine cy Fb rfl oS ?_))
    |(refine cS 3 rfl ?_;first
      |(refine cK 9 rfl ?_;refine cy Fb rfl oC ?_)
      |(refine cK 10 rfl ?_;refine cy Fb rfl oU ?_)
      |(refine cK 11 rfl ?_;refine cy Fb rfl oO ?_)
      |(refine cK 12 rfl ?_;refine cy Fb rfl oE ?_)
      |(refine cK 13 rfl ?_;refine cy Fb rfl oM ?_)
      |(refine cK 14 rfl ?_;refine cy Fb rfl oD ?_)
      |(refine cK 15 rfl ?_;refine cy Fb rfl oI ?_))
    |refine cnd rfl rfl ?_))
  |((with_reducible refine rId ?_);first
   |with_reducible refine Tr.seq ?_
   |with_reducible refine Tr.Bo ?_
   |refine Tr.rm BQ ?_
   |with_reducible refine Tr.skip ?_
   |with_reducible refine Tr.block ?_
   |with_reducible refine Tr.ret ?_
   |with_reducible refine Tr.exit ?_
   |refine Tr.ct rfl ?_
   |refine Tr.cf rfl ?_)
  |((with_reducible refine fId ?_);first
   |with_reducible refine Fin.AF ?_
   |with_reducible refine Fin.Ak ?_
   |with_reducible refine Fin.BF ?_
   |with_reducible refine Fin.B1 ?_
   |refine Fin.Q7 rfl ?_
   |with_reducible refine Fin.block ?_
   |refine Fin.WX rfl (CL.Eo _ _) rfl ?_)
 first|with_reducible refine Fin.go ?_|with_reducible refine cId ?_|with_reducible refine tId ?_|with_reducible refine rId ?_|refine Fin.go ?_|skip
 exact k.k):H:=h ⟨k⟩
theorem ao{G H:Prop}(k:G)(h:kj G->H:=by
 intro k
 repeat1' first
  |((with_reducible refine tId ?_);first
   |with_reducible refine TO.nil ?_
   |(refine tG 1 rfl ?_;first
     |(refine tK 1 rfl ?_;refine tm rfl ?_)
     |(refine tK 2 rfl ?_;refine tp rfl oF ?_)
     |(refine tK 3 rfl ?_;refine tp rfl oL ?_)
     |(refine tK 4 rfl ?_;refine tp rfl oB ?_))
   |(refine tG 2 rfl ?_;first
     |(refine tK 5 rfl ?_;refine tp rfl oP ?_)
     |(refine tK 6 rfl ?_;refine tp rfl oN ?_)
     |(refine tK 7 rfl ?_;refine tp rfl oA ?_)
     |(refine tK 8 rfl ?_;refine tp rfl oS ?_))
   |(refine tG 3 rfl ?_;first
     |(refine tK 9 rfl ?_;refine tp rfl oC ?_)
     |(refine tK 10 rfl ?_;refine tp rfl oU ?_)
     |(refine tK 12 rfl ?_;refine tp rfl oE ?_)
     |(refine tK 13 rfl ?_;refine tp rfl oM ?_)
     |(refine tK 14 rfl ?_;refine tp rfl oD ?_)
     |(refine tK 15 rfl ?_;refine tp rfl oI ?_)))
  |((with_reducible refine rId ?_);first
   |with_reducible refine Tr.seq ?_
   |with_reducible refine Tr.At ?_
   |with_reducible refine Tr.skip ?_
   |with_reducible refine Tr.block ?_
   |with_reducible refine Tr.ret ?_
   |with_reducible refine Tr.exit ?_)
  |((with_reducible refine fId ?_);first
   |with_reducible refine Fin.AF ?_
   |with_reducible refine Fin.Ak ?_
   |with_reducible refine Fin.BF ?_
   |with_reducible refine Fin.B1 ?_
   |refine Fin.Q7 rfl ?_
   |with_reducible refine Fin.block ?_)
 first|with_reducible refine Fin.go ?_|with_reducible refine cId ?_|with_reducible refine tId ?_|with_reducible refine rId ?_|refine Fin.go ?_|skip
 exact k.k):H:=h ⟨k⟩
theorem ap{G H:Prop}(k:G)(h:kj G->H:=by
 intro k
 repeat1' first
  |((with_reducible refine tId ?_);first
   |with_reducible refine TO.nil ?_
   |(refine tG 1 rfl ?_;first
     |(refine tK 1 rfl ?_;refine tm rfl ?_)
     |(refine tK 2 rfl ?_;refine tp rfl oF ?_)
     |(refine tK 3 rfl ?_;refine tp rfl oL ?_)
     |(refine tK 4 rfl ?_;refine tp rfl oB ?_))
   |(refine tG 2 rfl ?_;first
     |(refine tK 5 rfl ?_;refine tp rfl oP ?_)
     |(refine tK 6 rfl ?_;refine tp rfl oN ?_)
     |(refine tK 7 rfl ?_;refine tp rfl oA ?_)
     |(refine tK 8 rfl ?_;refine tp rfl oS ?_))
   |(refine tG 3 rfl ?_;first
     |(refine tK 9 rfl ?_;refine tp rfl oC ?_)
     |(refine tK 10 rfl ?_;refine tp rfl oU ?_)
     |(refine tK 12 rfl ?_;refine tp rfl oE ?_)
     |(refine tK 13 rfl ?_;refine tp rfl oM ?_)
     |(refine tK 14 rfl ?_;refine tp rfl oD ?_)
     |(refine tK 15 rfl ?_;refine tp rfl oI ?_))
   |(refine tK 16 rfl ?_;first
    |refine sa 0 ⟨rfl,rfl,rfl⟩ rfl rfl rfl ?_
    |refine TO.ED 0 rfl rfl (Wy rfl rfl rfl rfl) ?_
    |refine sa 1 ⟨rfl,rfl,rfl⟩ rfl rfl rfl ?_
    |refine TO.ED 1 rfl rfl (Wy rfl rfl rfl rfl) ?_
    |refine sa 2 ⟨rfl,rfl,rfl⟩ rfl rfl rfl ?_
    |refine TO.ED 2 rfl rfl (Wy rfl rfl rfl rfl) ?_
    |refine sa 3 ⟨rfl,rfl,rfl⟩ rfl rfl rfl ?_
    |refine TO.ED 3 rfl rfl (Wy rfl rfl rfl rfl) ?_))
  |((with_reducible refine rId ?_);first
   |with_reducible refine Tr.seq ?_
   |with_reducible refine Tr.At ?_
   |with_reducible refine Tr.skip ?_
   |with_reducible refine Tr.block ?_
   |with_reducible refine Tr.ret ?_
   |with_reducible refine Tr.exit ?_)
  |((with_reducible refine fId ?_);first
   |with_reducible refine Fin.AF ?_
   |with_reducible refine Fin.Ak ?_
   |with_reducible refine Fin.BF ?_
   |with_reducible refine Fin.B1 ?_
   |refine Fin.Q7 rfl ?_
   |with_reducible refine Fin.block ?_)
 first|with_reducible refine Fin.go ?_|with_reducible refine cId ?_|with_reducible refine tId ?_|with_reducible refine rId ?_|refine Fin.go ?_|skip
 exact k.k):H:=h ⟨k⟩
theorem ax{G H:Prop}(k:G)(h:kj G->H:=by
 intro k
 repeat ((with_reducible refine xId ?_);first
   |(refine xG 1 rfl ?_;first
     |(refine xK 1 rfl ?_;refine xm rfl ?_)
     |(refine xK 2 rfl ?_;refine xo rfl (fun _=>oF) ?_)
     |(refine xK 3 rfl ?_;refine xo rfl (fun _=>oL) ?_)
     |(refine xK 4 rfl ?_;refine xo rfl (fun _=>oB) ?_))
   |(refine xG 2 rfl ?_;first
     |(refine xK 5 rfl ?_;refine xo rfl (fun _=>oP) ?_)
     |(refine xK 6 rfl ?_;refine xo rfl (fun _=>oN) ?_)
     |(refine xK 7 rfl ?_;refine xo rfl (fun _=>oA) ?_)
     |(refine xK 8 rfl ?_;refine xo rfl (fun _=>oS) ?_))
   |(refine xG 3 rfl ?_;first
     |(refine xK 9 rfl ?_;refine xo rfl (fun _=>oC) ?_)
     |(refine xK 10 rfl ?_;refine xo rfl (fun _=>oU) ?_)
     |(refine xK 11 rfl ?_;refine xo rfl (fun _=>oO) ?_)
     |(refine xK 12 rfl ?_;refine xo rfl (fun _=>oE) ?_)
     |(refine xK 13 rfl ?_;refine xo rfl (fun _=>oM) ?_)
     |(refine xK 14 rfl ?_;refine xo rfl (fun _=>oD) ?_))
   |(refine xK 3 rfl ?_;first
    |refine Jv 0 rfl rfl (MQ rfl rfl rfl) ?_
    |refine Jv 0 rfl rfl (MR rfl rfl rfl rfl) ?_
    |refine Jv 1 rfl rfl (MQ rfl rfl rfl) ?_
    |refine Jv 1 rfl rfl (MR rfl rfl rfl rfl) ?_
    |refine Jv 2 rfl rfl (MQ rfl rfl rfl) ?_
    |refine Jv 2 rfl rfl (MR rfl rfl rfl rfl) ?_
    |refine Jv 3 rfl rfl (MQ rfl rfl rfl) ?_
    |refine Jv 3 rfl rfl (MR rfl rfl rfl rfl) ?_
    |refine Jv 4 rfl rfl (MQ rfl rfl rfl) ?_
    |refine Jv 4 rfl rfl (MR rfl rfl rfl rfl) ?_))
 exact k.k):H:=h ⟨k⟩
theorem ay{G H:Prop}(k:G)(h:kj G->H:=by
 intro k
 repeat ((with_reducible refine xId ?_);first
   |(refine xG 1 rfl ?_;first
     |(refine xK 1 rfl ?_;refine xm rfl ?_)
     |(refine xK 2 rfl ?_;refine xo rfl (fun _=>oF) ?_)
     |(refine xK 3 rfl ?_;refine xo rfl (fun _=>oL) ?_)
     |(refine xK 4 rfl ?_;refine xo rfl (fun _=>oB) ?_))
   |(refine xG 2 rfl ?_;first
     |(refine xK 5 rfl ?_;refine xo rfl (fun _=>oP) ?_)
     |(refine xK 6 rfl ?_;refine xo rfl (fun _=>oN) ?_)
     |(refine xK 7 rfl ?_;refine xo rfl (fun _=>oA) ?_)
     |(refine xK 8 rfl ?_;refine xo rfl (fun _=>oS) ?_))
   |(refine xG 3 rfl ?_;first
     |(refine xK 9 rfl ?_;refine xo rfl (fun _=>oC) ?_)
     |(refine xK 10 rfl ?_;refine xo rfl (fun _=>oU) ?_)
     |(refine xK 11 rfl ?_;refine xo rfl (fun _=>oO) ?_)
     |(refine xK 12 rfl ?_;refine xo rfl (fun _=>oE) ?_)
     |(refine xK 13 rfl ?_;refine xo rfl (fun _=>oM) ?_)
     |(refine xK 14 rfl ?_;refine xo rfl (fun _=>oD) ?_))
   |(refine xK 3 rfl ?_;first
    |refine Jv 0 rfl rfl (MQ rfl rfl rfl) ?_
    |refine Jv 0 rfl rfl (MR rfl rfl rfl rfl) ?_
    |refine Jv 1 rfl rfl (MQ rfl rfl rfl) ?_
    |refine Jv 1 rfl rfl (MR rfl rfl rfl rfl) ?_
    |refine Jv 2 rfl rfl (MQ rfl rfl rfl) ?_
    |refine Jv 2 rfl rfl (MR rfl rfl rfl rfl) ?_
    |refine Jv 3 rfl rfl (MQ rfl rfl rfl) ?_
    |refine Jv 3 rfl rfl (MR rfl rfl rfl rfl) ?_
    |refine Jv 4 rfl rfl (MQ rfl rfl rfl) ?_
    |refine Jv 4 rfl rfl (MR rfl rfl rfl rfl) ?_)
   |(refine xK 16 rfl ?_;first
    |refine Cx.ED 0 rfl rfl (Wy rfl rfl rfl rfl) ?_
    |refine Cx.ED 1 rfl rfl (Wy rfl rfl rfl rfl) ?_
    |refine Cx.ED 2 rfl rfl (Wy rfl rfl rfl rfl) ?_
    |refine Cx.ED 3 rfl rfl (Wy rfl rfl rfl rfl) ?_))
 exact k.k):H:=h ⟨k⟩
theorem Ch.cg{l:List Oper}{b v:Bool}{g j:Nat}{pt pf:Prop}[ht:Fy b true pt][hf:Fy b false pf](_:o.guard=some (j,v))(_:(ops[j]?.bind (·.dst))=some g)(hb:E.lookup g=some (bool b))(k:b=true->pt->Ch P n I ops (o::l) E K)(k':b=false->pf->Ch P n I ops (o::l) E K):Ch P n I ops (o::l) E K:=Ch.cases g hb (fun h=>k h (ht.HC h)) (fun h=>k' h (hf.HC h))
theorem a2{G H:Prop}(k:G)(h:kj G->H:=by
 intro k
 iterate 2 refine ac ?_
 exact k.k):H:=h ⟨k⟩
theorem a3{G H:Prop}(k:G)(h:kj G->H:=by
 intro k
 iterate 3 refine ac ?_
 exact k.k):H:=h ⟨k⟩
theorem an{G L H:Prop}(k:G)(l:L)(h:kj G->kj L->H:=by
 intro k l;refine ac ?_;refine Tr.cn rfl ?_ ?_;exact k.k
 exact l.k):H:=h ⟨k⟩ ⟨l⟩
theorem ag{G L H:Prop}(k:G)(l:L)(h:kj G->kj L->H:=by
 intro k l;refine ac ?_;refine Ch.cg rfl rfl rfl ?_ ?_;exact k.k
 exact l.k):H:=h ⟨k⟩ ⟨l⟩
theorem Lr{p:Pr}:Pr.le p p:=Pr.le_refl p
theorem Vo{p:Pr}[One p](h:DT E x=some p):VL E x (D7 [p]):=VL.le (vl h) (AV p)
theorem Va(h:DT E x=some (agg ps)):VL E x (D7 ps):=VL.le (vl h) (AJ ps)
theorem Nb{a b:Nat}(h:Nat.ble a b=true):a<=b:=Nat.le_of_ble_eq_true h
theorem Kf{z:Nat}{l:List (List Pr)}(h:DT E x=some (full z l)):VL E x (slice z l):=⟨_,h,A_ z l⟩
theorem Ka(h:DT E x=some (Aj v p)):VL E x (is v):=⟨_,h,Cy v p⟩
theorem Kb(h:DT E x=some (Aj v p)):VL E x p:=⟨_,h,A0 v p⟩
theorem Cf{p:Pr}[One p](h:DT E x=some p:=by exact rfl):VL E x (D7 [p]):=Vo h
theorem CM(h:DT E x=some (agg ps):=by exact rfl):VL E x (D7 ps):=Va h
theorem Ec{z:Nat}{l:List (List Pr)}(h:DT E x=some (full z l):=by exact rfl):VL E x (slice z l):=Kf h
theorem E4(h:DT E x=some (Aj v p):=by exact rfl):VL E x (is v):=Ka h
theorem Ij(h:DT E x=some (Aj v p):=by exact rfl):VL E x p:=Kb h
theorem Tl{M0:Av}{S:Nat->Prop}(hg:o.guard=none)(hd:o.dst=some d)(hn:Nat.blt d n=true)(ho:o.op= .alloc T)(hz:BZ P T=some zs)(h1':zs.all (·.oneCell')=true)(k:∀b,TO P n ops r ((d,is (.pointer (some ⟨b,0,none⟩)))::E) (Hp M0 w0 S (AE true b T (zs.map is)::rs)) Q):TO P n ops (o::r) E (Hp M0 w0 S rs) Q:=TO.alloc hg hd (Gd hn) ho hz h1' k
theorem FI{M0:Av}{S:Nat->Prop}{t e:TypeId}{sz bytes:Nat}{rows':List (List Pr)}{R:SR}(hg:o.guard=none)(hd:o.dst=some d)(hn:Nat.blt d n=true)(ho:o.op= .call { callee:= .builtin .append,args:= #[x,y],argTypes:= #[t,t] })(ht:P.underlying t=some (.slice e))(hz:Aw P e=some sz)(hby:CW P e=some bytes)(Dw:BZ P e=some zs)(hx:VL E x (slice sz rows))(hy:VL E y (slice sz rows'))(hR:∀M w (a:Act),C2 M w E o a->R.at_ a=Bc e sz (a.eval x)\/(R.at_ a=Bb/\D9 (a.eval x)=none))(hzl:zs.length=sz:=by rfl)(hsz:Nat.blt 0 sz=true:=by rfl)(GA:rows.length+rows'.length<=maxLen:=by simp only[List.length_map,List.length_append,List.length_cons,List.length_nil,List.length_replicate,List.length_take,List.length_drop,List.length_range];unfold maxLen;omega)(hfit:(rows.length+rows'.length)*bytes<=140737488355328:=by simp only[List.length_map,List.length_append,List.length_cons,List.length_nil,List.length_replicate,List.length_take,List.length_drop,List.length_range];omega):D8 P M0 w0 S n j R ⟨d,Bc e sz⟩ o E (slice sz (rows++rows')):=Bp hg hd (Gd hn) ho ht hz hby Dw hzl (Gd hsz) hx hy GA hfit hR
end
end Cp
namespace Go.Proofs.YthommhphcagokaaGreatDoor
open Go Cp
instance AD9:TM Tryz.prog:=⟨mixed⟩
instance AHR:TV Tryz.prog 3 [.int .i64 0]:=⟨z3,zo3⟩
instance AFz:T1 Tryz.prog 3:=⟨DP⟩
instance AG9:TZ Tryz.prog 3 1:=⟨C4⟩
instance AF0:T1 Tryz.prog 4:=⟨e9⟩
instance AG_:TZ Tryz.prog 4 1:=⟨sz4⟩
instance pP:TU Tryz.prog 4 .bool:=⟨Tryz.underlying4⟩
instance AHS:TV Tryz.prog 5 [.int .u8 0]:=⟨z5,zo5⟩
instance AF1:T1 Tryz.prog 5:=⟨qH⟩
instance AHA:TZ Tryz.prog 5 1:=⟨Fq⟩
instance AHT:TV Tryz.prog 9 [.string (ByteArray.mk #[])]:=⟨z9,zo9⟩
instance AF2:T1 Tryz.prog 9:=⟨OK⟩
instance AHB:TZ Tryz.prog 9 1:=⟨Lj⟩
instance pQ:TU Tryz.prog 9 .string:=⟨Tryz.underlying9⟩
instance AD_:T1 Tryz.prog 22:=⟨IF⟩
instance AF3:TZ Tryz.prog 22 1:=⟨HO⟩
instance kr:TU Tryz.prog 22 (.slice 3):=⟨Tryz.underlying22⟩
instance AEA:T1 Tryz.prog 28:=⟨bq⟩
instance ku:TU Tryz.prog 28 (.slice 73):=⟨Tryz.underlying28⟩
instance AEB:T1 Tryz.prog 29:=⟨bu⟩
instance k4:TU Tryz.prog 29 (.slice 82):=⟨Tryz.underlying29⟩
instance AEC:T1 Tryz.prog 30:=⟨j4⟩
instance k5:TU Tryz.prog 30 (.slice 85):=⟨Tryz.underlying30⟩
instance AF4:TB Tryz.prog 32 (fun i=>(#[(0,1),(1,1),(2,1)]:Array (Nat×Nat))[i]?) (List.replicate 3 (.slice none 0 0)):=⟨wQ,Iz⟩
instance AED:TA Tryz.prog 32:=⟨E0⟩
instance AF5:TZ Tryz.prog 32 3:=⟨Et⟩
instance ACH:TF Tryz.prog 32 0 0:=⟨KJ⟩
instance ACI:TF Tryz.prog 32 1 1:=⟨OL⟩
instance ACJ:TF Tryz.prog 32 2 2:=⟨MA⟩
instance AEE:T1 Tryz.prog 36:=⟨ABE⟩
instance AEF:TA Tryz.prog 38:=⟨Wm⟩
instance AF6:TZ Tryz.prog 38 1:=⟨j5⟩
instance ACK:TF Tryz.prog 38 0 0:=⟨wR⟩
instance AEG:T1 Tryz.prog 39:=⟨bw⟩
instance AF7:TZ Tryz.prog 39 1:=⟨e_⟩
instance AEH:T1 Tryz.prog 42:=⟨j6⟩
instance k6:TU Tryz.prog 42 (.slice 113):=⟨Tryz.underlying42⟩
instance AEI:T1 Tryz.prog 43:=⟨u7⟩
instance k7:TU Tryz.prog 43 (.slice 220):=⟨Tryz.underlying43⟩
instance AEJ:TA Tryz.prog 45:=⟨TG⟩
instance AF8:TZ Tryz.prog 45 3:=⟨U6⟩
instance ACL:TF Tryz.prog 45 0 0:=⟨j7⟩
instance ACN:TF Tryz.prog 45 1 1:=⟨j8⟩
instance ACO:TF Tryz.prog 45 2 2:=⟨j9⟩
instance AF9:TB Tryz.prog 47 (fun i=>(#[(0,1),(1,1)]:Array (Nat×Nat))[i]?) (List.replicate 2 (.int .i64 0)):=⟨Si,Hj⟩
instance AEK:TA Tryz.prog 47:=⟨C5⟩
instance AF_:TZ Tryz.prog 47 2:=⟨Cn⟩
instance k8:TU Tryz.prog 50 (.slice 3):=⟨Tryz.underlying50⟩
instance AGA:TB Tryz.prog 66 (fun i=>(#[(0,1),(1,1)]:Array (Nat×Nat))[i]?) [.slice none 0 0,.int .i64 0]:=⟨AFR,AFS⟩
instance ACP:TF Tryz.prog 66 0 0:=⟨wS⟩
instance ACQ:TF Tryz.prog 66 1 1:=⟨wT⟩
instance AEL:T1 Tryz.prog 67:=⟨ABI⟩
instance AGB:TZ Tryz.prog 67 1:=⟨ABH⟩
instance k9:TU Tryz.prog 67 (.slice 9):=⟨Tryz.underlying67⟩
instance AEM:T1 Tryz.prog 70:=⟨j_⟩
instance AEN:T1 Tryz.prog 71:=⟨u9⟩
instance AGC:TZ Tryz.prog 71 1:=⟨Sj⟩
instance k_:TU Tryz.prog 71 (.slice 78):=⟨Tryz.underlying71⟩
instance AGD:TB Tryz.prog 73 (fun i=>(#[(0,1),(1,1),(2,1),(3,1),(4,1),(5,1),(6,1),(7,1),(8,1)]:Array (Nat×Nat))[i]?) [.string (ByteArray.mk #[]),.int .i64 0,.int .i64 0,.slice none 0 0,.bool false,.slice none 0 0,.slice none 0 0,.slice none 0 0,.bool false]:=⟨fB,Dn⟩
instance AEO:TA Tryz.prog 73:=⟨Bw⟩
instance AGE:TZ Tryz.prog 73 9:=⟨Bj⟩
instance ACR:TF Tryz.prog 73 0 0:=⟨kC⟩
instance ACS:TF Tryz.prog 73 1 1:=⟨wU⟩
instance ACT:TF Tryz.prog 73 2 2:=⟨Yu⟩
instance ACU:TF Tryz.prog 73 3 3:=⟨GG⟩
instance ACV:TF Tryz.prog 73 4 4:=⟨wV⟩
instance ACW:TF Tryz.prog 73 5 5:=⟨Ge⟩
instance ACX:TF Tryz.prog 73 6 6:=⟨MB⟩
instance ACY:TF Tryz.prog 73 7 7:=⟨MC⟩
instance ACZ:TF Tryz.prog 73 8 8:=⟨wW⟩
instance AGF:TB Tryz.prog 75 (fun i=>(#[(0,1),(1,1)]:Array (Nat×Nat))[i]?) (List.replicate 2 (.int .i64 0)):=⟨kD,Cd⟩
instance AHC:TV Tryz.prog 75 (List.replicate 2 (.int .i64 0)):=⟨z75,Cd⟩
instance AEP:TA Tryz.prog 75:=⟨Be⟩
instance AGG:TZ Tryz.prog 75 2:=⟨CR⟩
instance ACa:TF Tryz.prog 75 0 0:=⟨wX⟩
instance ACb:TF Tryz.prog 75 1 1:=⟨wY⟩
instance AEQ:T1 Tryz.prog 76:=⟨ABM⟩
instance AGH:TZ Tryz.prog 76 1:=⟨ABL⟩
instance lA:TU Tryz.prog 76 (.slice 122):=⟨Tryz.underlying76⟩
instance AGI:TB Tryz.prog 78 (fun i=>(#[(0,2),(2,1),(3,1)]:Array (Nat×Nat))[i]?) [.int .i64 0,.int .i64 0,.int .i64 0,.slice none 0 0]:=⟨ABN,MD⟩
instance AHD:TV Tryz.prog 78 [.int .i64 0,.int .i64 0,.int .i64 0,.slice none 0 0]:=⟨NH,MD⟩
instance AER:TA Tryz.prog 78:=⟨G5⟩
instance AGJ:TZ Tryz.prog 78 4:=⟨B8⟩
instance ACc:TF Tryz.prog 78 0 0:=⟨wZ⟩
instance ACd:TF Tryz.prog 78 1 2:=⟨we⟩
instance ACe:TF Tryz.prog 78 2 3:=⟨kE⟩
instance AHE:TV Tryz.prog 82 (List.replicate 2 (.int .i64 0)):=⟨z82,fC⟩
instance AGK:TZ Tryz.prog 82 2:=⟨I0⟩
instance ACf:TF Tryz.prog 82 0 0:=⟨wh⟩
instance ACg:TF Tryz.prog 82 1 1:=⟨wj⟩
instance AES:T1 Tryz.prog 83:=⟨ABP⟩
instance lB:TU Tryz.prog 83 (.slice 127):=⟨Tryz.underlying83⟩
instance AGL:TB Tryz.prog 85 (fun i=>(#[(0,1),(1,1),(2,1),(3,1),(4,1)]:Array (Nat×Nat))[i]?) [.string (ByteArray.mk #[]),.int .i64 0,.int .i64 0,.slice none 0 0,.int .i64 0]:=⟨AFT,fD⟩
instance AHF:TV Tryz.prog 85 [.string (ByteArray.mk #[]),.int .i64 0,.int .i64 0,.slice none 0 0,.int .i64 0]:=⟨z85,fD⟩
instance AET:TA Tryz.prog 85:=⟨TH⟩
instance AGM:TZ Tryz.prog 85 5:=⟨I2⟩
instance ACh:TF Tryz.prog 85 0 0:=⟨wo⟩
instance ACi:TF Tryz.prog 85 1 1:=⟨wq⟩
instance ACj:TF Tryz.prog 85 2 2:=⟨wu⟩
instance ACk:TF Tryz.prog 85 3 3:=⟨U7⟩
instance ACl:TF Tryz.prog 85 4 4:=⟨wv⟩
instance AEU:T1 Tryz.prog 89:=⟨ABQ⟩
instance AEV:TB Tryz.prog 104 (fun i=>(#[(0,1),(1,1),(2,1)]:Array (Nat×Nat))[i]?) (List.replicate 3 (.slice none 0 0)):=⟨ABS,ABT⟩
instance ACm:TA Tryz.prog 104:=⟨wz⟩
instance AEW:TZ Tryz.prog 104 3:=⟨ABR⟩
instance AAE:TF Tryz.prog 104 1 1:=⟨U9⟩
instance ACn:T1 Tryz.prog 105:=⟨w4⟩
instance ACo:T1 Tryz.prog 106:=⟨w5⟩
instance AEX:TB Tryz.prog 108 (fun i=>(#[(0,1),(1,1)]:Array (Nat×Nat))[i]?) (List.replicate 2 (.slice none 0 0)):=⟨ABV,ABW⟩
instance ACp:TA Tryz.prog 108:=⟨w7⟩
instance AEY:TZ Tryz.prog 108 2:=⟨ABU⟩
instance AAF:TF Tryz.prog 108 0 0:=⟨qM⟩
instance AAG:TF Tryz.prog 108 1 1:=⟨qN⟩
instance AEZ:TB Tryz.prog 110 (fun i=>(#[(0,1),(1,1)]:Array (Nat×Nat))[i]?) [.slice none 0 0,.int .i64 0]:=⟨ABY,ABZ⟩
instance ACq:TA Tryz.prog 110:=⟨w8⟩
instance AEa:TZ Tryz.prog 110 2:=⟨ABX⟩
instance AEb:TB Tryz.prog 113 (fun i=>(#[(0,1),(1,1),(2,1),(3,1),(4,4)]:Array (Nat×Nat))[i]?) [.int .i64 0,.int .i64 0,.int .i64 0,.int .i64 0,.int .i64 0,.int .i64 0,.int .i64 0,.slice none 0 0]:=⟨NI,GS⟩
instance ACr:TA Tryz.prog 113:=⟨Ck⟩
instance AEc:TZ Tryz.prog 113 8:=⟨CD⟩
instance AAH:TF Tryz.prog 113 0 0:=⟨qO⟩
instance AAI:TF Tryz.prog 113 1 1:=⟨GH⟩
instance AAJ:TF Tryz.prog 113 2 2:=⟨JY⟩
instance AAK:TF Tryz.prog 113 3 3:=⟨JZ⟩
instance AAL:TF Tryz.prog 113 4 4:=⟨QG⟩
instance ACs:T1 Tryz.prog 115:=⟨kH⟩
instance AEd:TZ Tryz.prog 115 1:=⟨ABa⟩
instance AEe:TB Tryz.prog 120 (fun i=>(#[(0,1),(1,1)]:Array (Nat×Nat))[i]?) (List.replicate 2 (.int .i64 0)):=⟨ABd,ABe⟩
instance ACt:TA Tryz.prog 120:=⟨w9⟩
instance AEf:TZ Tryz.prog 120 2:=⟨ABc⟩
instance AAM:TF Tryz.prog 120 0 0:=⟨qP⟩
instance AAN:TF Tryz.prog 120 1 1:=⟨qQ⟩
instance AGN:TV Tryz.prog 122 [.int .i64 0,.string (ByteArray.mk #[]),.string (ByteArray.mk #[]),.int .i64 0,.int .i64 0,.int .i64 0,.int .i64 0,.int .i64 0,.int .i64 0,.int .i64 0,.bool false,.int .i64 0,.slice none 0 0,.int .i64 0,.int .i64 0]:=⟨Sl,NJ⟩
instance ACu:TA Tryz.prog 122:=⟨Ja⟩
instance AEg:TZ Tryz.prog 122 15:=⟨DD⟩
instance AAO:TF Tryz.prog 122 0 0:=⟨qR⟩
instance AAP:TF Tryz.prog 122 1 1:=⟨qS⟩
instance xS:TF Tryz.prog 122 10 12:=⟨Wn⟩
instance xT:TF Tryz.prog 122 11 13:=⟨kI⟩
instance AAQ:TF Tryz.prog 122 2 2:=⟨qT⟩
instance AAR:TF Tryz.prog 122 3 3:=⟨qU⟩
instance AAS:TF Tryz.prog 122 4 5:=⟨qV⟩
instance AAT:TF Tryz.prog 122 5 6:=⟨qW⟩
instance AAU:TF Tryz.prog 122 6 8:=⟨qX⟩
instance AAV:TF Tryz.prog 122 7 9:=⟨qY⟩
instance AAW:TF Tryz.prog 122 8 10:=⟨qZ⟩
instance AAX:TF Tryz.prog 122 9 11:=⟨qa⟩
instance iy:TU Tryz.prog 125 (.slice 75):=⟨Tryz.underlying125⟩
instance AEh:TB Tryz.prog 127 (fun i=>(#[(0,2),(2,1)]:Array (Nat×Nat))[i]?) (List.replicate 3 (.int .i64 0)):=⟨ABg,kK⟩
instance AGO:TV Tryz.prog 127 (List.replicate 3 (.int .i64 0)):=⟨z127,kK⟩
instance AEi:TZ Tryz.prog 127 3:=⟨HE⟩
instance AAY:TF Tryz.prog 127 0 0:=⟨qb⟩
instance AAZ:TF Tryz.prog 127 1 2:=⟨qc⟩
instance ACv:T1 Tryz.prog 140:=⟨xA⟩
instance ACw:T1 Tryz.prog 166:=⟨U_⟩
instance ACx:T1 Tryz.prog 170:=⟨KK⟩
instance ACy:T1 Tryz.prog 180:=⟨xB⟩
instance AEj:TZ Tryz.prog 180 1:=⟨ABi⟩
instance iz:TU Tryz.prog 180 (.slice 5):=⟨Tryz.underlying180⟩
instance AGP:TV Tryz.prog 220 (List.replicate 2 (.int .i64 0)):=⟨xC,kL⟩
instance ACz:TA Tryz.prog 220:=⟨VA⟩
instance AEk:TZ Tryz.prog 220 2:=⟨NK⟩
instance AAa:TF Tryz.prog 220 0 0:=⟨qg⟩
instance AAb:TF Tryz.prog 220 1 1:=⟨qh⟩
instance AC0:T1 Tryz.prog 239:=⟨Yv⟩
instance i6:TU Tryz.prog 239 (.slice 170):=⟨Tryz.underlying239⟩
instance AAc:TF Tryz.prog 241 0 0:=⟨qi⟩
instance AAd:TF Tryz.prog 241 1 1:=⟨cA⟩
instance AC1:T1 Tryz.prog 246:=⟨kM⟩
instance AEl:TZ Tryz.prog 246 1:=⟨ABj⟩
instance i7:TU Tryz.prog 246 (.slice 248):=⟨Tryz.underlying246⟩
instance AEm:TB Tryz.prog 248 (fun i=>(#[(0,1),(1,1),(2,1),(3,1)]:Array (Nat×Nat))[i]?) [.int .i64 0,.slice none 0 0,.bool false,.slice none 0 0]:=⟨PG,DW⟩
instance AGQ:TV Tryz.prog 248 [.int .i64 0,.slice none 0 0,.bool false,.slice none 0 0]:=⟨EE,DW⟩
instance AC2:TA Tryz.prog 248:=⟨Bn⟩
instance AEn:TZ Tryz.prog 248 4:=⟨BH⟩
instance AAe:TF Tryz.prog 248 0 0:=⟨VB⟩
instance AAf:TF Tryz.prog 248 1 1:=⟨ql⟩
instance AAg:TF Tryz.prog 248 2 2:=⟨VC⟩
instance AAh:TF Tryz.prog 248 3 3:=⟨cB⟩
instance AEo:TB Tryz.prog 260 (fun i=>(#[(0,1),(1,1),(2,2),(4,2),(6,2),(8,2),(10,1),(11,1)]:Array (Nat×Nat))[i]?) [.int .i64 0,.string (ByteArray.mk #[]),.int .i64 0,.int .i64 0,.int .i64 0,.int .i64 0,.int .i64 0,.int .i64 0,.int .i64 0,.int .i64 0,.int .i64 0,.int .i64 0]:=⟨TK,GU⟩
instance AC3:TA Tryz.prog 260:=⟨Fi⟩
instance AEp:TZ Tryz.prog 260 12:=⟨Dp⟩
instance AAi:TF Tryz.prog 260 3 4:=⟨qm⟩
instance AAj:TF Tryz.prog 260 6 10:=⟨qn⟩
instance AAk:TF Tryz.prog 260 7 11:=⟨qo⟩
instance AEq:TB Tryz.prog 300 (fun i=>(#[(0,1),(1,1)]:Array (Nat×Nat))[i]?) [.string (ByteArray.mk #[]),.int .i64 0]:=⟨ABk,vF⟩
instance AGR:TV Tryz.prog 300 [.string (ByteArray.mk #[]),.int .i64 0]:=⟨AFV,vF⟩
instance AEr:TZ Tryz.prog 300 2:=⟨vE⟩
instance AAl:TF Tryz.prog 300 1 1:=⟨qp⟩
instance i9:TU Tryz.prog 301 (.slice 300):=⟨Tryz.underlying301⟩
instance i_:TU Tryz.prog 320 (.slice 260):=⟨Tryz.underlying320⟩
instance AEs:TB Tryz.prog 326 (fun i=>(#[(0,1),(1,1),(2,1),(3,1),(4,1)]:Array (Nat×Nat))[i]?) [.string (ByteArray.mk #[]),.int .i64 0,.int .i64 0,.slice none 0 0,.slice none 0 0]:=⟨Ep,EM⟩
instance AEt:TZ Tryz.prog 326 5:=⟨TL⟩
instance AAm:TF Tryz.prog 326 1 1:=⟨qq⟩
instance AAn:TF Tryz.prog 326 2 2:=⟨qt⟩
instance AAo:TF Tryz.prog 326 3 3:=⟨qu⟩
instance AAp:TF Tryz.prog 326 4 4:=⟨qv⟩
instance AC4:T1 Tryz.prog 353:=⟨ME⟩
instance AC5:T1 Tryz.prog 354:=⟨MF⟩
instance AEu:TB Tryz.prog 356 (fun i=>(#[(0,1),(1,8),(9,8)]:Array (Nat×Nat))[i]?) [.pointer none,.int .i64 0,.int .i64 0,.int .i64 0,.int .i64 0,.int .i64 0,.int .i64 0,.int .i64 0,.slice none 0 0,.int .i64 0,.int .i64 0,.int .i64 0,.int .i64 0,.int .i64 0,.int .i64 0,.int .i64 0,.slice none 0 0]:=⟨ABl,ABm⟩
instance AAq:TF Tryz.prog 356 0 0:=⟨Jb⟩
instance AAr:TF Tryz.prog 356 1 1:=⟨EK⟩
instance AAs:TF Tryz.prog 356 2 9:=⟨qw⟩
instance AEv:TB Tryz.prog 358 (fun i=>some (i*1,1)) (List.replicate 13 (.nilFunc)):=⟨ABn,vH⟩
instance AEw:TZ Tryz.prog 358 13:=⟨vG⟩
instance AEx:TB Tryz.prog 361 (fun i=>(#[(0,9),(9,1),(10,1)]:Array (Nat×Nat))[i]?) [.string (ByteArray.mk #[]),.int .i64 0,.int .i64 0,.slice none 0 0,.bool false,.slice none 0 0,.slice none 0 0,.slice none 0 0,.bool false,.int .i64 0,.slice none 0 0]:=⟨ABp,vI⟩
instance AC6:TA Tryz.prog 361:=⟨xF⟩
instance AEy:TZ Tryz.prog 361 11:=⟨ABo⟩
instance AAt:TF Tryz.prog 361 0 0:=⟨qx⟩
instance AAu:TF Tryz.prog 361 1 9:=⟨qy⟩
instance AAv:TF Tryz.prog 361 2 10:=⟨qz⟩
instance AEz:TB Tryz.prog 365 (fun i=>some (i*5,5)) [.string (ByteArray.mk #[]),.int .i64 0,.int .i64 0,.slice none 0 0,.slice none 0 0,.string (ByteArray.mk #[]),.int .i64 0,.int .i64 0,.slice none 0 0,.slice none 0 0,.string (ByteArray.mk #[]),.int .i64 0,.int .i64 0,.slice none 0 0,.slice none 0 0,.string (ByteArray.mk #[]),.int .i64 0,.int .i64 0,.slice none 0 0,.slice none 0 0,.string (ByteArray.mk #[]),.int .i64 0,.int .i64 0,.slice none 0 0,.slice none 0 0,.string (ByteArray.mk #[]),.int .i64 0,.int .i64 0,.slice none 0 0,.slice none 0 0,.string (ByteArray.mk #[]),.int .i64 0,.int .i64 0,.slice none 0 0,.slice none 0 0,.string (ByteArray.mk #[]),.int .i64 0,.int .i64 0,.slice none 0 0,.slice none 0 0,.string (ByteArray.mk #[]),.int .i64 0,.int .i64 0,.slice none 0 0,.slice none 0 0,.string (ByteArray.mk #[]),.int .i64 0,.int .i64 0,.slice none 0 0,.slice none 0 0,.string (ByteArray.mk #[]),.int .i64 0,.int .i64 0,.slice none 0 0,.slice none 0 0,.string (ByteArray.mk #[]),.int .i64 0,.int .i64 0,.slice none 0 0,.slice none 0 0,.string (ByteArray.mk #[]),.int .i64 0,.int .i64 0,.slice none 0 0,.slice none 0 0,.string (ByteArray.mk #[]),.int .i64 0,.int .i64 0,.slice none 0 0,.slice none 0 0,.string (ByteArray.mk #[]),.int .i64 0,.int .i64 0,.slice none 0 0,.slice none 0 0,.string (ByteArray.mk #[]),.int .i64 0,.int .i64 0,.slice none 0 0,.slice none 0 0,.string (ByteArray.mk #[]),.int .i64 0,.int .i64 0,.slice none 0 0,.slice none 0 0,.string (ByteArray.mk #[]),.int .i64 0,.int .i64 0,.slice none 0 0,.slice none 0 0,.string (ByteArray.mk #[]),.int .i64 0,.int .i64 0,.slice none 0 0,.slice none 0 0,.string (ByteArray.mk #[]),.int .i64 0,.int .i64 0,.slice none 0 0,.slice none 0 0,.string (ByteArray.mk #[]),.int .i64 0,.int .i64 0,.slice none 0 0,.slice none 0 0,.string (ByteArray.mk #[]),.int .i64 0,.int .i64 0,.slice none 0 0,.slice none 0 0,.string (ByteArray.mk #[]),.int .i64 0,.int .i64 0,.slice none 0 0,.slice none 0 0]:=⟨ABq,vK⟩
instance AE0:TZ Tryz.prog 365 115:=⟨vJ⟩
instance AE1:TB Tryz.prog 367 (fun i=>some (i*1,1)) (List.replicate 2 (.int .i64 0)):=⟨ABr,vM⟩
instance AE2:TZ Tryz.prog 367 2:=⟨vL⟩
instance AE3:TB Tryz.prog 368 (fun i=>some (i*2,2)) (List.replicate 10 (.int .i64 0)):=⟨ABs,ABt⟩
instance AE4:TB Tryz.prog 406 (fun i=>some (i*1,1)) (List.replicate 2 (.int .i64 0)):=⟨ABu,ABv⟩
instance AE5:TB Tryz.prog 408 (fun i=>some (i*1,1)) (List.replicate 3 (.int .i64 0)):=⟨ABw,ABx⟩
end Go.Proofs.YthommhphcagokaaGreatDoor
namespace Go.Proofs.YthommhphcagokaaGreatDoor
open Go Go.RowKit Cp Go.Proofs.Tryz
variable{l:List Int}{k:Nat}
abbrev ints(l:List Int):Pr:=slice 1 (l.map fun n=>[int n])
def idx{β:Type}(p:β->Bool)(l:List β):Int:=match l.findIdx? p with|some i=>i|none=> -1
theorem Dv{β:Type}{p:β->Bool}{l:List β}{x:β}(hx:l[k]? =some x)(hp:p x=true)(h:∀j y,j<k->l[j]? =some y->p y=false):(k:Int)=idx p l:=by
 have:l.findIdx? p=some k:=by
  rw[List.findIdx?_eq_some_iff_getElem];have hk:k<l.length:=by rcases Nat.lt_or_ge k l.length with h|h;exact h;rw[List.getElem?_eq_none h]at hx;cases hx
  rw[List.getElem?_eq_getElem hk]at hx;simp only[Option.some.injEq]at hx;refine⟨hk,by rw[hx];exact hp,fun j hj=>?_⟩
  simpa using h j _ hj (List.getElem?_eq_getElem AA)
 unfold idx;rw[this]
theorem HZ{β:Type}{p:β->Bool}{l:List β}(h:∀j y,j<l.length->l[j]? =some y->p y=false):(-1:Int)=idx p l:=by
 have:l.findIdx? p=none:=by
  rw[List.findIdx?_eq_none_iff];intro x hx;obtain⟨j,hj,rfl⟩:=List.mem_iff_getElem.1 hx;exact h j _ hj (List.getElem?_eq_getElem hj)
 unfold idx;rw[this]
theorem M9{β:Type}(p:β->Bool)(l:List β):decide (idx p l≥0)=l.any p:=by
 unfold idx;cases h:l.findIdx? p with
 |none=>rw[List.findIdx?_eq_none_iff]at h;simp;intro x hx;simpa using h x hx
 |some i=>
  rw[List.findIdx?_eq_some_iff_getElem]at h;obtain⟨h1,h2,_⟩:=h;simp;exact⟨_,List.getElem_mem h1,h2⟩
theorem C3{β:Type}{p:β->Bool}{l:List β}{x:β}(hx:l[k]? =some x)(hp:p x=false)(h:∀j y,j<k->l[j]? =some y->p y=false):∀j y,j<k+1->l[j]? =some y->p y=false:=by
 intro j y hj hy
 by_cases hjk:j=k
 .subst hjk;rw[hx]at hy;cases hy;exact hp
 .exact h j y AA hy
theorem NS{p:Int->Bool}:Aq prog 160 [ints l,S7 prog (fun x:Int=>[int x]) (fun x=>bool (p x))] (int (idx p l)):=by
 refine fo func160 rfl ⟨rfl,rfl⟩ fun M0 w0=>(Tr.Dr 0 rfl fun Dq=>?_);refine a2 ?_;refine Tr.block (Tr.BV _ (kk [7,1,0] rfl) (fun k:Nat=>[(8,int ((k:Nat):Int))]) (fun k:Nat=>k<=(l).length/\(∀j y,j<k->l[j]? =some y->p y=false)) (fun k:Nat=>(l).length-k) 0 (⟨Nat.zero_le _,fun j y hj=>absurd hj AA⟩) kz ?_);rintro k ⟨BN,AW⟩;refine ac ?_;refine Tr.seq ?_;refine Tr.cn rfl ?_ ?_<;>intro h1 q1
 have Ae:k<(l).length:=AQ h1;obtain⟨x,Ad⟩:=at_ Ae
 .repeat' first|exact int_eq (Dv Ad Cs AW)|exact Fin.AP (k+1) ⟨⟨Ae,C3 Ad Cs AW⟩,by omega⟩ ⟨⟨_,rfl,AK k⟩,kz⟩|refine co rfl (AD rfl underlying22 C4 vq vq AA DZ) ?_|refine co rfl (FO rfl DP rfl) (co rfl (GC x rfl vq kz) ?_)|refine ac ?_|(refine Tr.cn rfl ?_ ?_<;>intro h q)
 have BA:k=(l).length:=by have:=AU h1;omega
 subst BA;refine a3 ?_
 .exact K2
theorem Jw{p:Int->Bool}:Aq prog 96 [ints l,S7 prog (fun x:Int=>[int x]) (fun x=>bool (p x))] (bool (l.any p)):=by
 refine fo func96 rfl ⟨rfl,rfl⟩ fun M0 w0=>?_;refine a2 ?_;refine co rfl (CG (NS) rfl rfl rfl) ?_;refine a2 ?_
 .exact P8
theorem Rj{v:Int}:Aq prog 232 [ints l,int v] (int (idx (fun x=>v==x) l)):=by
 refine fo func232 rfl ⟨rfl,rfl⟩ fun M0 w0=>(Tr.Dr 0 rfl fun Dq=>?_);refine a2 ?_;refine Tr.block (Tr.BV _ (kk [7,1,0] rfl) (fun k:Nat=>[(8,int ((k:Nat):Int))]) (fun k:Nat=>k<=(l).length/\(∀j y,j<k->l[j]? =some y->(v==y)=false)) (fun k:Nat=>(l).length-k) 0 (⟨Nat.zero_le _,fun j y hj=>absurd hj AA⟩) kz ?_);rintro k ⟨BN,AW⟩;refine ac ?_;refine Tr.seq ?_;refine Tr.cn rfl ?_ ?_<;>intro h1 q1
 have Ae:k<(l).length:=AQ h1;obtain⟨x,Ad⟩:=at_ Ae
 .repeat' first|exact int_eq (Dv (p:=fun x=>v==x) Ad Cs AW)|exact Fin.AP (k+1) ⟨⟨Ae,C3 (p:=fun x=>v==x) Ad Cs AW⟩,by omega⟩ ⟨⟨_,rfl,AK k⟩,kz⟩|refine co rfl (AD rfl underlying22 C4 vq vq AA DZ) ?_|refine ac ?_|(refine Tr.cn rfl ?_ ?_<;>intro h q)
 have BA:k=(l).length:=by have:=AU h1;omega
 subst BA;refine a3 ?_
 .exact K2
theorem E5{v:Int}:Aq prog 199 [ints l,int v] (bool (l.any fun x=>v==x)):=by
 refine fo func199 rfl ⟨rfl,rfl⟩ fun M0 w0=>?_;refine a2 ?_;refine co rfl (CG (Rj) rfl rfl rfl) ?_;refine a2 ?_
 .exact bool_eq (M9 _ l)
end Go.Proofs.YthommhphcagokaaGreatDoor
namespace Go.Proofs.YthommhphcagokaaGreatDoor
open Go Go.RowKit Cp Go.ChangeShapes Go.WideShapes Go.ChangeAt Go.Proofs.Tryz
theorem AGS:ownKnob Tryz.prog.godebug=none:=by kernel_rfl
theorem lC:laidOutB Tryz.prog=true:=by kernel_rfl
theorem u8_in{n:Int}(h:(Lit.int .u8 n).wf=true):0<=n/\n<256:=by
 simp only[Lit.wf,Bool.and_eq_true,decide_eq_true_eq]at h;have h1:IntKind.u8.min=0:=rfl;have h2:IntKind.u8.max=255:=rfl;omega
theorem i64_in{n:Int}(h:(Lit.int .i64 n).wf=true):Sb n:=by
 simp only[Lit.wf,Bool.and_eq_true,decide_eq_true_eq]at h;have h1:IntKind.i64.min= -9223372036854775808:=rfl;have h2:IntKind.i64.max=9223372036854775807:=rfl;unfold Sb;omega
theorem Y5{P:Program}{t e:TypeId}(ht:P.underlying t=some (.slice e))(he:P.underlying e=some (.int .i64))(hc:P.cellsOf e=1):NG P t (fun l:List Int=>l.length<=maxLen/\∀n∈l,Sb n) (fun l=>[ints l]):=
 (Wj ht hc (e7 he)).map id (fun _ h=>⟨h.2,fun n hn=>i64_in (h.1 n hn)⟩) (fun _=>rfl)
end Go.Proofs.YthommhphcagokaaGreatDoor
namespace Go.Proofs.YthommhphcagokaaGreatDoor
open Go Go.RowKit Cp Go.Proofs.Tryz
variable{I:Cj}{E:Env}{CI:Int}{l:List Int}{d k:Nat}{o:Oper}{w:World}
abbrev EP(b:Nat)(s:DS):Ay:=Wl 66 b s
theorem rQ(n:Int){k:Int}(hk:1<=k):(n.tmod k+k).tmod k=n % k:=by
 have h1: -k<n.tmod k:=by have:=Int.lt_tmod_of_pos n (b:=k) AA;omega
 rw[Int.tmod_eq_emod_of_nonneg AA,Int.tmod_def,show n-k*n.tdiv k+k=n+k*(1-n.tdiv k)by rw[Int.mul_sub];omega,Int.add_mul_emod_self_left]
theorem xU(n:Int){k:Int}(hk:1<=k): -k<n.tmod k/\n.tmod k<k:=by
 have h1:=Int.lt_tmod_of_pos n (b:=k) AA;have h2:=Int.tmod_lt_of_pos n (b:=k) AA;omega
theorem rR:Aq prog 5 [ints l] (bool (decide (l.length<=400))):=by
 refine fo func5 rfl ⟨rfl,rfl⟩ fun M0 w0=>?_;refine a3 ?_
 .exact Gq
theorem AC7{n k:Int}(hk:1<=k)(hk2:k<=1000000000):Aq prog 11 [int n,int k] (int (n % k)):=by
 refine fo func11 rfl ⟨rfl,rfl⟩ fun M0 w0=>?_;have hm:=xU n hk;have hp:=rQ n hk
 .repeat' first|(exfalso;omega)|(refine int_eq ?_;exact hp)|refine co rfl (L6 rfl vq vq AA) ?_|refine ac ?_|(refine Tr.cn rfl ?_ ?_<;>intro h q)
theorem DB{b:Nat}{s:DS}{n:Int}(hn:1<=n)(hn2:n<=1000000000):BM prog 9 [ptr b 0,int n] (int (s.val n)) (EP b s) (fun _=>EP b s.C1):=by
 refine BM.of func9 rfl rfl Ag fun M0 w0 S rs M1 w1=>?_;have hs:=s.h;have N2:=s.h2;refine ac ?_;refine an ?_ ?_<;>intro h1 q1
 refine ac ?_;refine Tr.ret (Fin.AF ?_);rw[DS.qG (s:=s) AA];refine Fin.HD [] rfl (AL.tmp rfl Lr) ?_ (fun _ _ _ _=>rfl)
 .refine int_eq ?_;exact(DS.qF AA n).symm
 have hlt:s.at_<s.l.length:=by omega
 obtain⟨x,hx⟩:=at_ hlt;refine ac ?_;refine ap ?_;refine wk [1,0] rfl ?_;refine ac ?_;refine co rfl (AD rfl underlying22 C4 vq vq AA (by rw[show((s.at_:Nat):Int)+1-1=((s.at_:Nat):Int)by omega];exact Ap hx)) ?_;refine ac ?_;refine co rfl (CG (AC7 AA AA) rfl rfl rfl) ?_;refine ac ?_;refine wk [4] rfl (Tr.ret ?_);rw[DS.wP hlt];refine Fin.HD [] rfl (AL.tmp rfl Lr) ?_ (fun _ _ _ _=>rfl)
 .refine int_eq ?_;exact(DS.wO hx n).symm
theorem cO{b:Nat}{s:DS}(hl:l≠[])(hl2:l.length<=1000000000):BM prog 25 [ptr b 0,ints l] (int (s.of l)) (EP b s) (fun _=>EP b s.C1):=by
 refine BM.of func25 rfl rfl Ag fun M0 w0 S rs M1 w1=>?_;have Y1:1<=(l.length:Int):=by have:=List.length_pos_iff.2 hl;omega
 have hv:=s.D_ Y1;obtain⟨x,hx⟩:=at_ (l:=l) (k:=(s.val l.length).toNat) AA;refine ac ?_;refine ap ?_;refine TO.LC 0 rfl rfl AB (Au rfl rfl AB rfl (DB AA AA) ⟨kq,kz⟩) (tp rfl (AD rfl underlying22 C4 vq vq AA (CS hx)) ?_);refine ap ?_;refine Tr.ret (Fin.HD [] rfl (AL.tmp rfl Lr) ?_ (fun _ _ _ _=>rfl))
 .refine int_eq ?_;unfold DS.of;rw[hx];rfl
theorem lD{b:Nat}{s:DS}{n:Int}(hn:1<=n)(hn2:n<=1000000000):BM prog 26 [ptr b 0,int n] (bool (s.val n==n-1)) (EP b s) (fun _=>EP b s.C1):=by
 refine BM.of func26 rfl rfl Ag fun M0 w0 S rs M1 w1=>?_;refine ac ?_;refine ap ?_;refine TO.LC 0 rfl rfl AB (Au rfl rfl AB rfl (DB AA AA) ⟨kq,kz⟩) ?_;refine ap ?_;refine Tr.ret (Fin.HD [] rfl (AL.tmp rfl Lr) ?_ (fun _ _ _ _=>rfl))
 .exact Lr
def rS(l:List Int)(hl:l.length<=1000000000)(v:Value):Ay:=match v with| .pointer (some a)=>Wl 66 a.block ⟨l,0,Nat.zero_le _,hl⟩|_=>Bb
theorem xV(hl:l.length<=1000000000):BM prog 7 [ints l] (ex fun b=>ptr b 0) (Bb) (rS l hl):=by
 refine BM.of func7 rfl rfl Ag fun M0 w0 S rs M1 w1=>?_;refine ac ?_;refine ap ?_;refine TO.Iu rfl rfl AB rfl CM (fun b1=>?_);refine ap ?_;refine Tr.ret (Fin.drop 1 ?_);refine Fin.HD [] rfl (AL.tmp rfl Lr) ?_ JL
 .exact Co b1 Lr
-- no type cipherplan/api.Fact here
-- no type cipherplan/api.AE6 here
-- no type cipherplan/AHG.place here
theorem vX{x0 y0:Int}{x1 y1:Int}:(Op.equalIn (d+2) 75 (.agg #[.int .i64 x0,.int .i64 x1]) (.agg #[.int .i64 y0,.int .i64 y1])).run Tryz.prog w= .ok (decide (x0=y0/\x1=y1)) w:=by
 have h:=eqS (w:=w) (d:=d+1) (xs:= #[.int .i64 x0,.int .i64 x1]) (ys:= #[.int .i64 y0,.int .i64 y1]) Tryz.underlying75 BQ (NM AB (Ft DP rfl) (Ft DP rfl) (NN (d:=d+0) Tryz.underlying3) (NM AB (Ft DP rfl) (Ft DP rfl) (NN (d:=d+0) Tryz.underlying3) (cE)));refine h.trans (congrArg (fun b=>Result.ok b w) ?_);rw[Bool.eq_iff_iff];simp[and_assoc]
theorem VM{u:TypeId}{x y:Operand}{x0 y0:Int}{x1 y1:Int}(ho:o.op= .binOp .eql 75 x y u)(hx:VL E x (agg [is (.int .i64 x0),is (.int .i64 x1)]))(hy:VL E y (agg [is (.int .i64 y0),is (.int .i64 y1)])):Af Tryz.prog I o E (bool (decide (x0=y0/\x1=y1))):=
 Wq [.int .i64 x0,.int .i64 x1] [.int .i64 y0,.int .i64 y1] ho hx hy BQ (fun w=>by rw[show Op.equal 75 _ _=Op.equalIn (9998+2) 75 _ _ from rfl];exact vX)
theorem VN{u:TypeId}{x y:Operand}{x0 y0:Int}{x1 y1:Int}(ho:o.op= .binOp .neq 75 x y u)(hx:VL E x (agg [is (.int .i64 x0),is (.int .i64 x1)]))(hy:VL E y (agg [is (.int .i64 y0),is (.int .i64 y1)])):Af Tryz.prog I o E (bool (!decide (x0=y0/\x1=y1))):=
 Wr [.int .i64 x0,.int .i64 x1] [.int .i64 y0,.int .i64 y1] ho hx hy BQ (fun w=>by rw[show Op.equal 75 _ _=Op.equalIn (9998+2) 75 _ _ from rfl];exact vX)
def Y6(a b:Int):Int:=if a<b then -1 else if b<a then 1 else 0
def orF(l:List Int):Int:=(l.find? fun x=>x !=0).getD 0
theorem rT{x:Int}(hx:l[k]? =some x)(h0:¬x=0)(h:∀j y,j<k->l[j]? =some y->(y !=0)=false):x=orF l:=by
 unfold orF
 have:l.find? (fun x=>x !=0)=some x:=by
  rw[List.find?_eq_some_iff_getElem];have hk:k<l.length:=by rcases Nat.lt_or_ge k l.length with h|h;exact h;rw[List.getElem?_eq_none h]at hx;cases hx
  rw[List.getElem?_eq_getElem hk]at hx;simp only[Option.some.injEq]at hx;refine⟨by simpa using h0,k,hk,hx,fun j hj=>?_⟩;have:=h j _ hj (List.getElem?_eq_getElem AA)
  simpa using this
 rw[this];rfl
theorem lE(h:∀j y,j<l.length->l[j]? =some y->(y !=0)=false):0=orF l:=by
 unfold orF
 have:l.find? (fun x=>x !=0)=none:=by
  rw[List.find?_eq_none];intro x hx;obtain⟨j,hj,rfl⟩:=List.mem_iff_getElem.1 hx;have:=h j _ hj (List.getElem?_eq_getElem hj)
  simpa using this
 rw[this];rfl
def okc(c:UInt8):Bool:=decide (33<=c.toNat/\c.toNat<=126)
def named(s:List UInt8):Bool:=s.all okc&&decide (1<=s.length/\s.length<=32)
theorem Jd{β:Type}{p:β->Bool}{l:List β}{x:β}(hx:l[k]? =some x)(hp:p x=false):l.all p=false:=by grind
theorem GK{β:Type}{p:β->Bool}{l:List β}(h:∀j y,j<l.length->l[j]? =some y->(!p y)=false):l.all p=true:=by
 rw[List.all_eq_true];intro y hy;obtain⟨j,hj⟩:=List.mem_iff_getElem?.1 hy;have:=h j y (by rcases Nat.lt_or_ge j l.length with h|h;exact h;rw[List.getElem?_eq_none h]at hj;cases hj) hj
 simpa using this
theorem lF{n:Int}  :Aq prog 249 [int n] (bool false):=by
 refine fo func249 rfl ⟨rfl,rfl⟩ fun M0 w0=>?_;refine a3 ?_
 .exact bool_eq Ai
theorem lG{a b:Int}  :Aq prog 203 [int a,int b] (int (Y6 a b)):=by
 refine fo func203 rfl ⟨rfl,rfl⟩ fun M0 w0=>?_
 .repeat' first|exact absurd h AB|(refine int_eq ?_;unfold Y6;(repeat split)<;>omega)|refine co rfl (BS (lF) rfl rfl) ?_|refine ac ?_|(refine Tr.cn rfl ?_ ?_<;>intro h q)
theorem AC8:Aq prog 202 [ints l] (int (orF l)):=by
 refine fo func202 rfl ⟨rfl,rfl⟩ fun M0 w0=>(Tr.Dr 0 rfl fun Dq=>?_);refine a3 ?_;refine Tr.block (Tr.BV _ (kk [7,6,3] rfl) (fun k:Nat=>[(8,int ((k:Nat):Int))]) (fun k:Nat=>k<=(l).length/\(∀j y,j<k->l[j]? =some y->(y !=0)=false)) (fun k:Nat=>(l).length-k) 0 (⟨Nat.zero_le _,fun j y hj=>absurd hj AA⟩) kz ?_);rintro k ⟨BN,AW⟩;refine ac ?_;refine Tr.seq ?_;refine Tr.cn rfl ?_ ?_<;>intro h1 q1
 have Ae:k<(l).length:=AQ h1;obtain⟨x,Ad⟩:=at_ Ae;refine ac ?_;refine Tr.seq (Tr.block (Tr.seq (Tr.Bo (co rfl (AD rfl underlying22 C4 vq vq AA DZ) ?_))))
 .repeat' first|exact int_eq (rT Ad Cs AW)|exact Fin.AP (k+1) ⟨⟨Ae,C3 (p:=fun y=>y !=0) Ad (by simpa using by assumption) AW⟩,by omega⟩ ⟨⟨_,rfl,AK k⟩,kz⟩|refine ac ?_|(refine Tr.cn rfl ?_ ?_<;>intro h q)
 have BA:k=(l).length:=by have:=AU h1;omega
 subst BA;refine a3 ?_
 .exact int_eq (lE AW)
theorem QJ{s:List UInt8}(hs:s.length<=maxLen):Aq prog 122 [str s] (bool (named s)):=by
 refine fo func122 rfl ⟨rfl,rfl⟩ fun M0 w0=>?_;refine a2 ?_;refine co rfl (KL rfl underlying9 underlying180 underlying5 vq Cs) ?_;refine ac ?_;refine Tr.block (Tr.Dr 6 rfl fun hl6=>(Tr.BV _ (kk [7,6,0] rfl) (fun k:Nat=>[(8,int ((k:Nat):Int))]) (fun k:Nat=>k<=(s).length/\(∀j y,j<k->s[j]? =some y->(!okc y)=false)) (fun k:Nat=>(s).length-k) 0 (⟨Nat.zero_le _,fun j y hj=>absurd hj AA⟩) kz ?_));rintro k ⟨BN,AW⟩;refine ac ?_;refine Tr.seq ?_;refine Tr.cn rfl ?_ ?_<;>intro h1 q1
 have Ae:k<(s).length:=AQ h1;obtain⟨c,Ad⟩:=at_ Ae;refine ac ?_;refine Tr.seq (Tr.block (Tr.seq (Tr.Bo (co rfl (AD rfl underlying180 Fq vq vq AA DZ) ?_))))
 .repeat' first|(refine bool_eq ?_;unfold named;rw[Jd (p:=okc) Ad P9];rfl)|(exact Fin.AP (k+1) ⟨⟨Ae,C3 (p:=fun c=> !okc c) Ad P9 AW⟩,by omega⟩ ⟨⟨_,rfl,AK k⟩,kz⟩)|refine ac ?_|(refine Tr.cn rfl ?_ ?_<;>intro h q)|(refine Ch.cg rfl rfl rfl ?_ ?_<;>intro h q)
 have BA:k=(s).length:=by have:=AU h1;omega
 subst BA
 .repeat' first|(refine bool_eq ?_;unfold named;rw[GK AW,Bool.true_and];rw[decide_eq_decide];omega)|(refine bool_eq ?_;unfold named;rw[GK AW,Bool.true_and];(symm;rw[decide_eq_false_iff_not];omega))|refine ac ?_|(refine Ch.cg rfl rfl rfl ?_ ?_<;>intro h q)
theorem HP{s:List UInt8}  :Aq prog 152 [str s] (bool (named s)):=by
 refine fo func152 rfl ⟨rfl,rfl⟩ fun M0 w0=>?_;refine ac ?_;refine ag ?_ ?_<;>intro h1 q1
 refine a3 ?_
 .exact bD
 refine an ?_ ?_<;>intro h2 q2
 refine a2 ?_
 .exact bD
 refine a2 ?_;refine Tr.block (Tr.BV _ (kk [0] rfl) (fun k:Nat=>[(3,int ((k:Nat):Int))]) (fun k:Nat=>k<=(s).length/\(∀j y,j<k->s[j]? =some y->(!okc y)=false)) (fun k:Nat=>(s).length-k) 0 (⟨Nat.zero_le _,fun j y hj=>absurd hj AA⟩) kz ?_);rintro k ⟨BN,AW⟩;refine an ?_ ?_<;>intro h3 q3
 have Ae:k<(s).length:=AQ h3;obtain⟨c,Ad⟩:=at_ Ae
 .repeat' first|(refine bool_eq ?_;unfold named;rw[Jd (p:=okc) Ad P9];rfl)|(exact Fin.AP (k+1) ⟨⟨Ae,C3 (p:=fun c=> !okc c) Ad P9 AW⟩,by omega⟩ ⟨⟨_,rfl,AK k⟩,kz⟩)|refine co rfl (QH rfl underlying9 vq vq AA (VE Cs)) ?_|refine cy h rfl (QH rfl underlying9 vq vq AA (VE Cs)) ?_|refine ac ?_|(refine Tr.cn rfl ?_ ?_<;>intro h q)|(refine Ch.cg rfl rfl rfl ?_ ?_<;>intro h q)
 have BA:k=(s).length:=by have:=AU h3;omega
 subst BA;refine a3 ?_
 .refine bool_eq ?_;unfold named;rw[GK AW,Bool.true_and];symm;rw[decide_eq_true_eq];omega
structure VO where
 name:List UInt8
 kind:Int
 way:Int
 sizes:List Int
 Gj:List Int
abbrev xW(r:VO):List Pr:=[str r.name,int r.kind,int r.way,ints r.sizes,ints r.Gj]
def GL:List VO:=[⟨[],0,0,[],[]⟩,⟨[109,100,53],1,0,[],[18]⟩,⟨[115,104,97,49],1,0,[],[60]⟩,⟨[115,104,97,50,53,54],1,0,[],[128]⟩,⟨[115,104,97,51,56,52],1,0,[],[192]⟩,⟨[114,115,97],2,1,[],[]⟩,⟨[100,115,97],2,1,[],[]⟩,⟨[101,99,100,115,97],2,2,[],[]⟩,⟨[101,100,50,53,53,49,57],2,0,[],[128]⟩,⟨[109,108,100,115,97],2,3,[44,65,87],[128,192,256]⟩,⟨[114,115,97,107,120],3,1,[],[]⟩,⟨[100,104,101],3,1,[],[]⟩,⟨[101,99,100,104,101],3,2,[],[]⟩,⟨[109,108,107,101,109],3,3,[512,768,1024],[128,192,256]⟩,⟨[114,99,52],4,3,[40,128],[40,60]⟩,⟨[100,101,115,51],4,3,[112,168],[80,112]⟩,⟨[97,101,115,99,98,99],4,3,[128,256],[128,256]⟩,⟨[97,101,115,103,99,109],4,3,[128,256],[128,256]⟩,⟨[99,104,97,99,104,97],4,0,[],[256]⟩,⟨[104,109,97,99,109,100,53],5,0,[],[64]⟩,⟨[104,109,97,99,115,104,97,49],5,0,[],[80]⟩,⟨[104,109,97,99,115,104,97,50,53,54],5,0,[],[128]⟩,⟨[97,101,97,100],5,0,[],[256]⟩]
def cQ:VO:=⟨[],0,0,[],[]⟩
def Dh(CI:Int):VO:=if 1<=CI/\CI<=22 then(GL[CI.toNat]?).getD cQ else cQ
theorem IJ(h:1<=CI/\CI<=22):GL[CI.toNat]? =some (Dh CI):=by
 have hl:CI.toNat<GL.length:=by show CI.toNat<23;omega
 unfold Dh;rw[if_pos h,List.getElem?_eq_getElem hl];rfl
theorem fJ(h:1<=CI/\CI<=22):Dh CI∈GL:=List.mem_of_getElem? (IJ h)
theorem Rk{β:Type}{f:β->List Pr}{sz:Nat}(hf:∀x,(f x).length=sz):∀{l:List β} {i:Nat} {x:β},l[i]? =some x->((l.flatMap f).drop (i*sz)).take sz=f x
 |[],_,_,h=>by simp at h
 |a::l,0,x,h=>by
  simp at h;subst h;rw[List.flatMap_cons,Nat.zero_mul,List.drop_zero,List.take_append_of_le_length (by rw[hf];exact Nat.le_refl _),List.take_of_length_le (by rw[hf];exact Nat.le_refl _)]
 |a::l,i+1,x,h=>by
  rw[List.flatMap_cons,Nat.succ_mul,Nat.add_comm,←List.drop_drop,List.drop_left' (hf a)];exact Rk hf Fc
theorem drop_cons{β:Type}{l:List β}{x:β}(h:l[k]? =some x):l.drop k=x::l.drop (k+1):=by
 have hk:k<l.length:=by rcases Nat.lt_or_ge k l.length with h'|h';exact h';rw[List.getElem?_eq_none h']at h;cases h
 rw[List.drop_eq_getElem_cons hk];rw[List.getElem?_eq_getElem hk]at h;simp at h;rw[h]
def mods:List (Int×Int):=[(1024,56),(2048,80),(3072,112),(7680,128),(15360,192)]
def xX:List (Int×Int)->Int->Int
 |[],_=>256
 |p::l,b=>if b<p.1 then p.2 else xX l b
def lH(b:Int):Int:=xX mods b
theorem xY   :Aq prog 271 [] (agg (GL.flatMap xW)):=by
 refine fo func271 rfl ⟨rfl,rfl⟩ fun M0 w0=>(Tr.seq (Tr.At ?_));refine Tl rfl rfl rfl rfl AFY vK (fun b1=>?_);refine ap ?_;refine ap ?_;refine tp rfl (Al (rows:=[(0,[_]),(1,[_]),(2,[_]),(3,[_]),(4,[_])]) rfl Ep EM ⟨⟨rfl,Cf⟩,⟨⟨rfl,Cf⟩,⟨⟨rfl,Cf⟩,⟨⟨rfl,⟨_,rfl,Pr.le_trans (AH 1) (AV _)⟩⟩,⟨⟨rfl,⟨_,rfl,Pr.le_trans (A_ _ _) (AV _)⟩⟩,trivial⟩⟩⟩⟩⟩ rfl) (tp rfl (oI) ?_);refine tp rfl (Al (rows:=[(0,[_]),(1,[_]),(2,[_]),(3,[_]),(4,[_])]) rfl Ep EM ⟨⟨rfl,Cf⟩,⟨⟨rfl,Cf⟩,⟨⟨rfl,Cf⟩,⟨⟨rfl,⟨_,rfl,Pr.le_trans (AH 1) (AV _)⟩⟩,⟨⟨rfl,⟨_,rfl,Pr.le_trans (A_ _ _) (AV _)⟩⟩,trivial⟩⟩⟩⟩⟩ rfl) (tp rfl (oI) ?_);refine tp rfl (Al (rows:=[(0,[_]),(1,[_]),(2,[_]),(3,[_]),(4,[_])]) rfl Ep EM ⟨⟨rfl,Cf⟩,⟨⟨rfl,Cf⟩,⟨⟨rfl,Cf⟩,⟨⟨rfl,⟨_,rfl,Pr.le_trans (AH 1) (AV _)⟩⟩,⟨⟨rfl,⟨_,rfl,Pr.le_trans (A_ _ _) (AV _)⟩⟩,trivial⟩⟩⟩⟩⟩ rfl) (tp rfl (oI) ?_);refine tp rfl (Al (rows:=[(0,[_]),(1,[_]),(2,[_]),(3,[_]),(4,[_])]) rfl Ep EM ⟨⟨rfl,Cf⟩,⟨⟨rfl,Cf⟩,⟨⟨rfl,Cf⟩,⟨⟨rfl,⟨_,rfl,Pr.le_trans (AH 1) (AV _)⟩⟩,⟨⟨rfl,⟨_,rfl,Pr.le_trans (A_ _ _) (AV _)⟩⟩,trivial⟩⟩⟩⟩⟩ rfl) (tp rfl (Al (rows:=[(0,[_]),(1,[_]),(2,[_]),(3,[_]),(4,[_])]) rfl Ep EM ⟨⟨rfl,Cf⟩,⟨⟨rfl,Cf⟩,⟨⟨rfl,Cf⟩,⟨⟨rfl,⟨_,rfl,Pr.le_trans (AH 1) (AV _)⟩⟩,⟨⟨rfl,⟨_,rfl,Pr.le_trans (AH 1) (AV _)⟩⟩,trivial⟩⟩⟩⟩⟩ rfl) (tp rfl (Al (rows:=[(0,[_]),(1,[_]),(2,[_]),(3,[_]),(4,[_])]) rfl Ep EM ⟨⟨rfl,Cf⟩,⟨⟨rfl,Cf⟩,⟨⟨rfl,Cf⟩,⟨⟨rfl,⟨_,rfl,Pr.le_trans (AH 1) (AV _)⟩⟩,⟨⟨rfl,⟨_,rfl,Pr.le_trans (AH 1) (AV _)⟩⟩,trivial⟩⟩⟩⟩⟩ rfl) (tp rfl (Al (rows:=[(0,[_]),(1,[_]),(2,[_]),(3,[_]),(4,[_])]) rfl Ep EM ⟨⟨rfl,Cf⟩,⟨⟨rfl,Cf⟩,⟨⟨rfl,Cf⟩,⟨⟨rfl,⟨_,rfl,Pr.le_trans (AH 1) (AV _)⟩⟩,⟨⟨rfl,⟨_,rfl,Pr.le_trans (AH 1) (AV _)⟩⟩,trivial⟩⟩⟩⟩⟩ rfl) (tp rfl (oI) ?_))));refine tp rfl (Al (rows:=[(0,[_]),(1,[_]),(2,[_]),(3,[_]),(4,[_])]) rfl Ep EM ⟨⟨rfl,Cf⟩,⟨⟨rfl,Cf⟩,⟨⟨rfl,Cf⟩,⟨⟨rfl,⟨_,rfl,Pr.le_trans (AH 1) (AV _)⟩⟩,⟨⟨rfl,⟨_,rfl,Pr.le_trans (A_ _ _) (AV _)⟩⟩,trivial⟩⟩⟩⟩⟩ rfl) ?_;refine ap ?_;refine tp rfl (Al (rows:=[(0,[_]),(1,[_]),(2,[_]),(3,[_]),(4,[_])]) rfl Ep EM ⟨⟨rfl,Cf⟩,⟨⟨rfl,Cf⟩,⟨⟨rfl,Cf⟩,⟨⟨rfl,⟨_,rfl,Pr.le_trans (A_ _ _) (AV _)⟩⟩,⟨⟨rfl,⟨_,rfl,Pr.le_trans (A_ _ _) (AV _)⟩⟩,trivial⟩⟩⟩⟩⟩ rfl) (tp rfl (Al (rows:=[(0,[_]),(1,[_]),(2,[_]),(3,[_]),(4,[_])]) rfl Ep EM ⟨⟨rfl,Cf⟩,⟨⟨rfl,Cf⟩,⟨⟨rfl,Cf⟩,⟨⟨rfl,⟨_,rfl,Pr.le_trans (AH 1) (AV _)⟩⟩,⟨⟨rfl,⟨_,rfl,Pr.le_trans (AH 1) (AV _)⟩⟩,trivial⟩⟩⟩⟩⟩ rfl) (tp rfl (Al (rows:=[(0,[_]),(1,[_]),(2,[_]),(3,[_]),(4,[_])]) rfl Ep EM ⟨⟨rfl,Cf⟩,⟨⟨rfl,Cf⟩,⟨⟨rfl,Cf⟩,⟨⟨rfl,⟨_,rfl,Pr.le_trans (AH 1) (AV _)⟩⟩,⟨⟨rfl,⟨_,rfl,Pr.le_trans (AH 1) (AV _)⟩⟩,trivial⟩⟩⟩⟩⟩ rfl) (tp rfl (Al (rows:=[(0,[_]),(1,[_]),(2,[_]),(3,[_]),(4,[_])]) rfl Ep EM ⟨⟨rfl,Cf⟩,⟨⟨rfl,Cf⟩,⟨⟨rfl,Cf⟩,⟨⟨rfl,⟨_,rfl,Pr.le_trans (AH 1) (AV _)⟩⟩,⟨⟨rfl,⟨_,rfl,Pr.le_trans (AH 1) (AV _)⟩⟩,trivial⟩⟩⟩⟩⟩ rfl) ?_)));refine ap ?_;refine tp rfl (Al (rows:=[(0,[_]),(1,[_]),(2,[_]),(3,[_]),(4,[_])]) rfl Ep EM ⟨⟨rfl,Cf⟩,⟨⟨rfl,Cf⟩,⟨⟨rfl,Cf⟩,⟨⟨rfl,⟨_,rfl,Pr.le_trans (A_ _ _) (AV _)⟩⟩,⟨⟨rfl,⟨_,rfl,Pr.le_trans (A_ _ _) (AV _)⟩⟩,trivial⟩⟩⟩⟩⟩ rfl) ?_;refine ap ?_;refine tp rfl (Al (rows:=[(0,[_]),(1,[_]),(2,[_]),(3,[_]),(4,[_])]) rfl Ep EM ⟨⟨rfl,Cf⟩,⟨⟨rfl,Cf⟩,⟨⟨rfl,Cf⟩,⟨⟨rfl,⟨_,rfl,Pr.le_trans (A_ _ _) (AV _)⟩⟩,⟨⟨rfl,⟨_,rfl,Pr.le_trans (A_ _ _) (AV _)⟩⟩,trivial⟩⟩⟩⟩⟩ rfl) ?_;refine ap ?_;refine tp rfl (Al (rows:=[(0,[_]),(1,[_]),(2,[_]),(3,[_]),(4,[_])]) rfl Ep EM ⟨⟨rfl,Cf⟩,⟨⟨rfl,Cf⟩,⟨⟨rfl,Cf⟩,⟨⟨rfl,⟨_,rfl,Pr.le_trans (A_ _ _) (AV _)⟩⟩,⟨⟨rfl,⟨_,rfl,Pr.le_trans (A_ _ _) (AV _)⟩⟩,trivial⟩⟩⟩⟩⟩ rfl) ?_;refine ap ?_;refine tp rfl (Al (rows:=[(0,[_]),(1,[_]),(2,[_]),(3,[_]),(4,[_])]) rfl Ep EM ⟨⟨rfl,Cf⟩,⟨⟨rfl,Cf⟩,⟨⟨rfl,Cf⟩,⟨⟨rfl,⟨_,rfl,Pr.le_trans (A_ _ _) (AV _)⟩⟩,⟨⟨rfl,⟨_,rfl,Pr.le_trans (A_ _ _) (AV _)⟩⟩,trivial⟩⟩⟩⟩⟩ rfl) ?_;refine ap ?_;refine tp rfl (Al (rows:=[(0,[_]),(1,[_]),(2,[_]),(3,[_]),(4,[_])]) rfl Ep EM ⟨⟨rfl,Cf⟩,⟨⟨rfl,Cf⟩,⟨⟨rfl,Cf⟩,⟨⟨rfl,⟨_,rfl,Pr.le_trans (A_ _ _) (AV _)⟩⟩,⟨⟨rfl,⟨_,rfl,Pr.le_trans (A_ _ _) (AV _)⟩⟩,trivial⟩⟩⟩⟩⟩ rfl) (tp rfl (oI) ?_);refine tp rfl (Al (rows:=[(0,[_]),(1,[_]),(2,[_]),(3,[_]),(4,[_])]) rfl Ep EM ⟨⟨rfl,Cf⟩,⟨⟨rfl,Cf⟩,⟨⟨rfl,Cf⟩,⟨⟨rfl,⟨_,rfl,Pr.le_trans (AH 1) (AV _)⟩⟩,⟨⟨rfl,⟨_,rfl,Pr.le_trans (A_ _ _) (AV _)⟩⟩,trivial⟩⟩⟩⟩⟩ rfl) (tp rfl (oI) ?_);refine tp rfl (Al (rows:=[(0,[_]),(1,[_]),(2,[_]),(3,[_]),(4,[_])]) rfl Ep EM ⟨⟨rfl,Cf⟩,⟨⟨rfl,Cf⟩,⟨⟨rfl,Cf⟩,⟨⟨rfl,⟨_,rfl,Pr.le_trans (AH 1) (AV _)⟩⟩,⟨⟨rfl,⟨_,rfl,Pr.le_trans (A_ _ _) (AV _)⟩⟩,trivial⟩⟩⟩⟩⟩ rfl) (tp rfl (oI) ?_);refine tp rfl (Al (rows:=[(0,[_]),(1,[_]),(2,[_]),(3,[_]),(4,[_])]) rfl Ep EM ⟨⟨rfl,Cf⟩,⟨⟨rfl,Cf⟩,⟨⟨rfl,Cf⟩,⟨⟨rfl,⟨_,rfl,Pr.le_trans (AH 1) (AV _)⟩⟩,⟨⟨rfl,⟨_,rfl,Pr.le_trans (A_ _ _) (AV _)⟩⟩,trivial⟩⟩⟩⟩⟩ rfl) (tp rfl (oI) ?_);refine tp rfl (Al (rows:=[(0,[_]),(1,[_]),(2,[_]),(3,[_]),(4,[_])]) rfl Ep EM ⟨⟨rfl,Cf⟩,⟨⟨rfl,Cf⟩,⟨⟨rfl,Cf⟩,⟨⟨rfl,⟨_,rfl,Pr.le_trans (AH 1) (AV _)⟩⟩,⟨⟨rfl,⟨_,rfl,Pr.le_trans (A_ _ _) (AV _)⟩⟩,trivial⟩⟩⟩⟩⟩ rfl) (tp rfl (oI) ?_);refine tp rfl (Al (rows:=[(0,[_]),(1,[_]),(2,[_]),(3,[_]),(4,[_])]) rfl Ep EM ⟨⟨rfl,Cf⟩,⟨⟨rfl,Cf⟩,⟨⟨rfl,Cf⟩,⟨⟨rfl,⟨_,rfl,Pr.le_trans (AH 1) (AV _)⟩⟩,⟨⟨rfl,⟨_,rfl,Pr.le_trans (A_ _ _) (AV _)⟩⟩,trivial⟩⟩⟩⟩⟩ rfl) ?_;refine ap ?_;refine wk [0] rfl (Tr.ret (Fin.B4 rfl (AL.cell 0 rfl rfl xH vJ rfl Lr) ?_))
 .exact Az ⟨Lr,Lr,Lr,AH 1,AH 1,Lr,Lr,Lr,Lr,Lr,Lr,Lr,Lr,Lr,Lr,Lr,Lr,Lr,Lr,Lr,Lr,Lr,Lr,Lr,Lr,Lr,Lr,Lr,Lr,Lr,Lr,Lr,Lr,Lr,Lr,Lr,Lr,Lr,Lr,Lr,Lr,Lr,Lr,Lr,Lr,Lr,Lr,Lr,Lr,Lr,Lr,Lr,Lr,Lr,Lr,Lr,Lr,Lr,Lr,Lr,Lr,Lr,Lr,Lr,Lr,Lr,Lr,Lr,Lr,Lr,Lr,Lr,Lr,Lr,Lr,Lr,Lr,Lr,Lr,Lr,Lr,Lr,Lr,Lr,Lr,Lr,Lr,Lr,Lr,Lr,Lr,Lr,Lr,Lr,Lr,Lr,Lr,Lr,Lr,Lr,Lr,Lr,Lr,Lr,Lr,Lr,Lr,Lr,Lr,Lr,Lr,Lr,Lr,Lr,Lr,trivial⟩
theorem AC9:Aq prog 230 [int CI] (EB [agg (xW (Dh CI)),bool (decide (1<=CI/\CI<=22))]):=by
 refine fo func230 rfl ⟨rfl,rfl⟩ fun M0 w0=>(Tr.seq (Tr.At ?_));refine Tl rfl rfl rfl rfl xD EM (fun b1=>?_);refine ap ?_;refine ag ?_ ?_<;>intro h1 q1
 refine ac ?_;refine Tr.cond rfl (fun _=>?_) (fun h=>nomatch h);refine Tr.seq (Tr.At (tp rfl (Al (rows:=[]) rfl Ep EM trivial rfl) (TO.Ac 0 rfl rfl rfl vq CM rfl TL rfl rfl (tm rfl (TO.nil (Fin.go (Tr.ret (Fin.AF (Fin.Bf rfl (AL.cell 0 rfl rfl VD TL rfl Lr) (AL.tmp rfl Lr) ?_)))))))))
 .exact jU
 refine an ?_ ?_<;>intro h2 q2
 refine ap ?_;refine Tr.ret (Fin.AF (Fin.Bf rfl (AL.cell 0 rfl rfl VD TL rfl Lr) (AL.tmp rfl Lr) ?_))
 .exact jU
 have hin:1<=CI/\CI<=22:=by omega
 refine ac ?_;refine Tr.seq (Tr.At (tp rfl (Ta (xY) rfl) (tm rfl (tp rfl (Wp rfl underlying365 VD TL vq vq AA AA (Rk (f:=xW) (fun _=>rfl) (IJ hin))) ?_))));refine ap ?_;refine Tr.ret (Fin.Bf rfl (AL.cell 0 rfl rfl VD TL rfl Lr) (AL.tmp rfl Lr) ?_)
 .exact BU ⟨Lr,bool_eq (by symm;rw[decide_eq_true_eq];exact hin),trivial⟩
theorem Y7:Aq prog 200 [int CI] (int (Dh CI).kind):=by
 refine fo func200 rfl ⟨rfl,rfl⟩ fun M0 w0=>?_;refine ac ?_;refine ao ?_;refine tp rfl (BS (AC9) rfl rfl) ?_;refine ao ?_;refine Tl rfl rfl rfl rfl xD EM (fun b1=>?_);refine sf 0 3 ⟨rfl,rfl,rfl⟩ rfl rfl rfl rfl ?_;refine ao ?_;refine a2 ?_
 .exact Lr
theorem fK{b:Int}  :Aq prog 231 [int b] (int (lH b)):=by
 refine fo func231 rfl ⟨rfl,rfl⟩ fun M0 w0=>?_;have hml:mods.length=5:=rfl;refine a2 ?_;refine Tr.block (Tr.re 10 rfl (Pr.le_of_eq (show _=agg (mods.flatMap fun p=>[int p.1,int p.2])from rfl)) (Tr.BV _ (kk [10,0] rfl) (fun k:Nat=>[(11,int ((k:Nat):Int))]) (fun k:Nat=>k<=(mods).length/\(lH b=xX (mods.drop k) b)) (fun k:Nat=>(mods).length-k) 0 (⟨Nat.zero_le _,rfl⟩) kz ?_));rintro k ⟨BN,AW⟩;refine ac ?_;refine Tr.seq ?_;refine Tr.cn rfl ?_ ?_<;>intro h1 q1
 have Ae:k<(mods).length:=AQ h1;obtain⟨p,Ad⟩:=at_ Ae;have hL:k<5:=Ae;have hdr:=drop_cons Ad;refine ac ?_;refine Tr.seq (Tr.block (Tr.seq (Tr.At (tp rfl (Wp rfl underlying368 xI vL vq vq AA AA (Rk (f:=fun p:Int×Int=>[int p.1,int p.2]) (fun _=>rfl) Ad)) ?_))));refine Tl rfl rfl rfl rfl AFZ vM (fun b1=>?_);refine sf 0 4 ⟨rfl,rfl,rfl⟩ rfl rfl rfl rfl ?_;refine ao ?_;refine ac ?_;refine co rfl (PF rfl underlying367 C4 vq vq AA AA rfl) (co rfl (RH rfl DP vq rfl) ?_);refine an ?_ ?_<;>intro h2 q2
 refine Tr.seq (Tr.Bo (co rfl (PF rfl underlying367 C4 vq vq AA AA rfl) (co rfl (RH rfl DP vq rfl) ?_)));refine ac ?_;refine wk [2] rfl ?_;refine ac ?_
 .refine int_eq ?_;rw[AW,hdr];exact(if_pos AA).symm
 refine a2 ?_;exact Fin.AP (k+1) ⟨⟨Ae,(by rw[AW,hdr];exact if_neg AA)⟩,by omega⟩ ⟨⟨_,rfl,AK k⟩,kz⟩;have BA:k=(mods).length:=by have:=AU h1;omega
 subst BA;refine a3 ?_
 .refine int_eq ?_;rw[AW,List.drop_length];rfl
def S3:List Int:=[160,224,256,384,521]
def CJ(CI bits:Int):Int:=
 if 1 <= CI /\ CI <= 22 then
  if(Dh CI).way=0 then(if bits=0 then((Dh CI).Gj[0]?).getD 0 else 0)
  else if(Dh CI).way=1 then(if 512<=bits/\bits<=16384 then lH bits else 0)
  else if(Dh CI).way=2 then(if(S3.any fun x=>bits==x)=true then bits.tdiv 2 else 0)
  else if(Dh CI).way=3 then(if 0<=idx (fun x=>bits==x) (Dh CI).sizes then((Dh CI).Gj[(idx (fun x=>bits==x) (Dh CI).sizes).toNat]?).getD 0 else 0)
  else 0
 else 0
theorem Y8(h:1<=CI/\CI<=22):Dh CI∈GL.tail:=by
 have h1:=IJ h;refine List.mem_of_getElem? (i:=CI.toNat-1) ?_;rw[List.getElem?_tail,show CI.toNat-1+1=CI.toNat by omega];exact h1
theorem xZ:∀r∈GL.tail,(r.way=0->1<=r.Gj.length)/\(r.way=3->r.sizes.length<=r.Gj.length):=by decide
theorem xd{β:Type}(p:β->Bool)(l:List β):idx p l<l.length:=by
 unfold idx;cases h:l.findIdx? p with
 |none=>simp;omega
 |some i=>rw[List.findIdx?_eq_some_iff_getElem]at h;obtain⟨h1,_⟩:=h;simp;omega
theorem Y9{bits:Int}:Aq prog 174 [agg [int CI,int bits]] (int (CJ CI bits)):=by
 refine fo func174 rfl ⟨rfl,rfl⟩ fun M0 w0=>?_;refine ac ?_;refine ao ?_;refine tp rfl (BS (AC9) rfl rfl) ?_;refine ao ?_;refine Tl rfl rfl rfl rfl xD EM (fun b1=>?_);refine sf 0 3 ⟨rfl,rfl,rfl⟩ rfl rfl rfl rfl ?_;refine ao ?_;refine ac ?_;refine wk [13,3,1] rfl ?_;refine Tr.cn rfl ?_ ?_<;>intro h1 q1
 refine a2 ?_
 .refine int_eq ?_;unfold CJ;rw[if_neg (by intro hh;simp[hh]at h1)]
 have hin:1<=CI/\CI<=22:=by simpa using h1
 obtain⟨hc0,hc3⟩:=xZ _ (Y8 hin);refine a2 ?_;refine an ?_ ?_<;>intro h2 q2
 refine an ?_ ?_<;>intro h3 q3
 obtain⟨z,hz⟩:=at_ (l:=(Dh CI).Gj) (k:=0) (hc0 AA);refine ac ?_;refine co rfl (AD rfl underlying22 C4 vq vq AA (Ap (k:=0) hz)) ?_;refine ac ?_;refine wk [2] rfl ?_;refine ac ?_
 .refine int_eq ?_;unfold CJ;rw[if_pos hin,if_pos AA,if_pos AA,hz];rfl
 refine a3 ?_
 .refine int_eq ?_;unfold CJ;rw[if_pos hin,if_pos AA,if_neg AA]
 refine an ?_ ?_<;>intro h4 q4
 .repeat' first|(refine int_eq ?_;unfold CJ;rw[if_pos hin,if_neg AA,if_pos AA,if_pos AA])|(refine int_eq ?_;unfold CJ;rw[if_pos hin,if_neg AA,if_pos AA,if_neg AA])|refine co rfl (BS (fK) rfl rfl) ?_|refine ac ?_|(refine Tr.cn rfl ?_ ?_<;>intro h q)|(refine Ch.cg rfl rfl rfl ?_ ?_<;>intro h q)
 refine an ?_ ?_<;>intro h7 q7
 refine ac ?_;refine co rfl (Aa rfl (E5 (l:=S3)) ⟨Ec,kz⟩) ?_;refine ac ?_;refine wk [43,1] rfl ?_;refine Tr.cn rfl ?_ ?_<;>intro h8 q8
 have hb:bits=160\/bits=224\/bits=256\/bits=384\/bits=521:=by simpa[S3]using h8
 refine ac ?_;refine co rfl (N7 rfl vq vq AA) ?_;refine a2 ?_
 .refine int_eq ?_;unfold CJ;rw[if_pos hin,if_neg AA,if_neg AA,if_pos AA,if_pos Cs];rcases hb with h|h|h|h|h<;>rw[h]<;>rfl
 refine a3 ?_
 .refine int_eq ?_;unfold CJ;rw[if_pos hin,if_neg AA,if_neg AA,if_pos AA,if_neg (EH Cs)]
 refine an ?_ ?_<;>intro h9 q9
 refine ac ?_;refine co rfl (CG (Rj) rfl rfl rfl) ?_;refine ac ?_;refine wk [5,3] rfl ?_;refine an ?_ ?_<;>intro h10 NT
 have hlt:=xd (fun x=>bits==x) (Dh CI).sizes;obtain⟨z,hz⟩:=at_ (l:=(Dh CI).Gj) (k:=(idx (fun x=>bits==x) (Dh CI).sizes).toNat) (by have:=hc3 AA;omega);refine ac ?_;refine co rfl (AD rfl underlying22 C4 vq vq AA (CS hz)) ?_;refine a2 ?_
 .refine int_eq ?_;unfold CJ;rw[if_pos hin,if_neg AA,if_neg AA,if_neg AA,if_pos AA,if_pos Cs,hz];rfl
 refine a3 ?_
 .refine int_eq ?_;unfold CJ;rw[if_pos hin,if_neg AA,if_neg AA,if_neg AA,if_pos AA,if_neg AA]
 refine a2 ?_;refine wk [2] rfl ?_;refine ac ?_
 .refine int_eq ?_;unfold CJ;rw[if_pos hin,if_neg AA,if_neg AA,if_neg AA,if_neg AA]
theorem VP{bits:Int}:Aq prog 121 [agg [int CI,int bits]] (bool (decide (CJ CI bits>0))):=by
 refine fo func121 rfl ⟨rfl,rfl⟩ fun M0 w0=>?_;refine a2 ?_;refine co rfl (BS (Y9) rfl rfl) ?_;refine a2 ?_
 .exact Lr
def KS(b:Int)(l m:List Int):Int:=if 0<=idx (fun x=>b==x) l then(m[(idx (fun x=>b==x) l).toNat]?).getD 0 else 0
theorem fL{b:Int}{m:List Int}{x z:Int}(hx:l[k]? =some x)(he:x=b)(hz:m[k]? =some z)(h:∀j y,j<k->l[j]? =some y->(b==y)=false):z=KS b l m:=by
 have:=Dv (p:=fun x=>b==x) hx (by simp[he]) h;unfold KS;rw[←this,if_pos AA,Int.toNat_natCast,hz];rfl
theorem Y_{b:Int}{m:List Int}(h:∀j y,j<l.length->l[j]? =some y->(b==y)=false):0=KS b l m:=by grind [HZ,KS]
def HI(CI:Int):Int:=if CI=1 then 18 else if CI=2 then 60 else if CI=3\/CI=8\/CI=21 then 128 else if CI=4 then 192 else if CI=18\/CI=22 then 256 else if CI=19 then 64 else if CI=20 then 80 else 0
def O3(b:Int):Int:=if b<512\/b>16384 then 0 else if b<1024 then 56 else if b<2048 then 80 else if b<3072 then 112 else if b<7680 then 128 else if b<15360 then 192 else 256
theorem lI(b:Int):O3 b=if 512<=b/\b<=16384 then lH b else 0:=by
 have h1:lH b=if b<1024 then 56 else if b<2048 then 80 else if b<3072 then 112 else if b<7680 then 128 else if b<15360 then 192 else 256:=rfl
 rw[h1];unfold O3
 by_cases h:512<=b/\b<=16384
 .rw[if_pos h,if_neg AA]
 .rw[if_neg h,if_pos AA]
theorem Je{b:Int}{m:List Int}(hl:l.length<=m.length):Aq prog 253 [int b,ints l,ints m] (int (KS b l m)):=by
 refine fo func253 rfl ⟨rfl,rfl⟩ fun M0 w0=>(Tr.Dr 1 rfl fun Tc=>?_);refine a2 ?_;refine Tr.block (Tr.BV _ (kk [2,1,0] rfl) (fun k:Nat=>[(7,int ((k:Nat):Int))]) (fun k:Nat=>k<=(l).length/\(∀j y,j<k->l[j]? =some y->(b==y)=false)) (fun k:Nat=>(l).length-k) 0 (⟨Nat.zero_le _,fun j y hj=>absurd hj AA⟩) kz ?_);rintro k ⟨BN,AW⟩;refine an ?_ ?_<;>intro h1 q1
 have Ae:k<(l).length:=AQ h1;obtain⟨x,Ad⟩:=at_ Ae;obtain⟨z,hz⟩:=at_ (l:=m) (k:=k) AA
 .repeat' first|exact int_eq (fL Ad Cs hz AW)|(exact Fin.AP (k+1) ⟨⟨Ae,C3 (p:=fun x=>b==x) Ad Ci AW⟩,by omega⟩ ⟨⟨_,rfl,AK k⟩,kz⟩)|refine co rfl (AD rfl underlying22 C4 vq vq AA DZ) ?_|refine ac ?_|(refine Tr.cn rfl ?_ ?_<;>intro h q)
 have BA:k=(l).length:=by have:=AU h1;omega
 subst BA;refine a3 ?_
 .exact int_eq (Y_ AW)
theorem lJ:Aq prog 254 [int CI] (int (HI CI)):=by
 refine fo func254 rfl ⟨rfl,rfl⟩ fun M0 w0=>?_;refine a2 ?_;refine an ?_ ?_<;>intro h1 q1
 refine a2 ?_
 .refine int_eq ?_;unfold HI;(repeat (rw[if_pos AA]))
 refine an ?_ ?_<;>intro h2 q2
 refine a2 ?_
 .exact N8
 refine an ?_ ?_<;>intro h3 q3
 refine ac ?_;refine Tr.cond rfl (fun _=>?_) (fun h=>nomatch h3.symm.trans h);refine a2 ?_
 .exact N8
 refine an ?_ ?_<;>intro h4 q4
 refine ac ?_;refine Tr.cond rfl (fun _=>?_) (fun h=>nomatch h4.symm.trans h);refine a2 ?_
 .exact N8
 refine an ?_ ?_<;>intro h5 q5
 refine a2 ?_
 .exact N8
 refine ac ?_;refine wk [12,3] rfl ?_;refine Tr.cn rfl ?_ ?_<;>intro h6 q6
 refine a2 ?_
 .exact N8
 refine an ?_ ?_<;>intro h7 q7
 refine ac ?_;refine Tr.cond rfl (fun _=>?_) (fun h=>nomatch h7.symm.trans h);refine a2 ?_
 .exact N8
 .repeat' first|(refine int_eq ?_;unfold HI;(repeat (first|rw[if_pos AA]|rw[if_neg AA])))|(refine int_eq ?_;unfold HI;(repeat (rw[if_neg AA])))|refine ac ?_|(refine Tr.cn rfl ?_ ?_<;>intro h q)
theorem Jf{b:Int}  :Aq prog 252 [int b] (int (O3 b)):=by
 refine fo func252 rfl ⟨rfl,rfl⟩ fun M0 w0=>?_;refine ac ?_;refine ac ?_;refine Ch.cs 6 rfl ?_ ?_<;>intro h1 q1
 refine ac ?_;refine ac ?_;refine ac ?_
 .refine int_eq ?_;unfold O3;(repeat (rw[if_pos AA]))
 refine ac ?_;refine Tr.cn rfl ?_ ?_<;>intro h2 q2
 refine ac ?_;refine ac ?_
 .refine int_eq ?_;unfold O3;(repeat (rw[if_pos AA]))
 refine ac ?_;refine Tr.cn rfl ?_ ?_<;>intro h3 q3
 refine ac ?_;refine ac ?_
 .exact Q0
 refine ac ?_;refine wk [13,0] rfl ?_;refine Tr.cn rfl ?_ ?_<;>intro h4 q4
 refine ac ?_;refine ac ?_
 .exact Q0
 refine ac ?_;refine Tr.cn rfl ?_ ?_<;>intro h5 q5
 refine ac ?_;refine ac ?_
 .exact Q0
 refine ac ?_;refine Tr.cn rfl ?_ ?_<;>intro h6 q6
 refine ac ?_;refine ac ?_
 .exact Q0
 refine ac ?_;refine Tr.cn rfl ?_ ?_<;>intro h7 q7
 refine ac ?_;refine ac ?_
 .exact Q0
 refine ac ?_;refine ac ?_;refine ac ?_
 .refine int_eq ?_;unfold O3;(repeat (rw[if_neg AA]))
theorem rU(b c:Int):KS b [0] [c]=if b=0 then c else 0:=by grind [KS,idx]
theorem Uc{b:Int}(h:CI=5\/CI=6\/CI=10\/CI=11):O3 b=CJ CI b:=by
 rw[lI];rcases h with rfl|rfl|rfl|rfl<;>rfl
theorem So{b:Int}(h:¬(CI=5\/CI=6\/CI=7\/CI=9\/CI=10\/CI=11\/CI=12\/CI=13\/CI=14\/CI=15\/CI=16\/CI=17)):KS b [0] [HI CI]=CJ CI b:=by
 rw[rU]
 by_cases hin:1<=CI/\CI<=22
 .
  have ha:CI=1\/CI=2\/CI=3\/CI=4\/CI=8\/CI=18\/CI=19\/CI=20\/CI=21\/CI=22:=by omega
  rcases ha with rfl|rfl|rfl|rfl|rfl|rfl|rfl|rfl|rfl|rfl<;>rfl
 .
  have h1:HI CI=0:=by unfold HI;(repeat (first|rw[if_pos AA]|rw[if_neg AA]))
  unfold CJ;rw[h1,if_neg hin];split<;>rfl
theorem Mp{b:Int}(h:CI=7\/CI=12):CJ CI b=if(S3.any fun x=>b==x)=true then b.tdiv 2 else 0:=by
 rcases h with rfl|rfl<;>rfl
theorem W0{bits:Int}:Aq prog 207 [agg [int CI,int bits]] (int (CJ CI bits)):=by
 refine fo func207 rfl ⟨rfl,rfl⟩ fun M0 w0=>?_
 iterate 4 refine ac ?_
 refine Tr.cn rfl ?_ ?_<;>intro h1 q1
 refine ac ?_;refine Tr.cond rfl (fun _=>?_) (fun h=>nomatch h1.symm.trans h);refine ac ?_;refine co rfl (BS (Jf) rfl rfl) ?_;refine a2 ?_
 .exact Py
 refine an ?_ ?_<;>intro h2 q2
 refine ac ?_;refine Tr.cond rfl (fun _=>?_) (fun h=>nomatch h2.symm.trans h);refine ac ?_;refine co rfl (BS (Jf) rfl rfl) ?_;refine ac ?_;refine wk [2] rfl ?_;refine ac ?_
 .exact Py
 refine an ?_ ?_<;>intro h3 q3
 refine ac ?_;refine Tr.cond rfl (fun _=>?_) (fun h=>nomatch h3.symm.trans h);refine ac ?_;refine co rfl (BS (Jf) rfl rfl) ?_;refine ac ?_;refine wk [2] rfl ?_;refine ac ?_
 .exact Py
 refine ac ?_;refine wk [8,7,3,1] rfl ?_;refine Tr.cn rfl ?_ ?_<;>intro h4 q4
 refine ac ?_;refine co rfl (BS (Jf) rfl rfl) ?_;refine a2 ?_
 .exact Py
 refine an ?_ ?_<;>intro h5 q5
 refine ac ?_;refine Tr.cond rfl (fun _=>?_) (fun h=>nomatch h5.symm.trans h)
 .exact jI
 refine an ?_ ?_<;>intro h11 Rl
 .exact jI
 refine an ?_ ?_<;>intro PK pR
 refine ac ?_;refine co rfl (Aa rfl (Je (l:=[44,65,87]) (m:=[128,192,256]) Ai) ⟨kq,Ec,Ec,trivial⟩) ?_;refine ac ?_;refine wk [2] rfl ?_;refine ac ?_
 .refine int_eq ?_;have ha:CI=9:=AA;rcases ha with rfl<;>rfl
 refine an ?_ ?_<;>intro Sa q18
 refine ac ?_;refine co rfl (Aa rfl (Je (l:=[512,768,1024]) (m:=[128,192,256]) Ai) ⟨kq,Ec,Ec,trivial⟩) ?_;refine ac ?_;refine wk [2] rfl ?_;refine ac ?_
 .refine int_eq ?_;have ha:CI=13:=AA;rcases ha with rfl<;>rfl
 refine ac ?_;refine wk [50,7,3,1] rfl ?_;refine Tr.cn rfl ?_ ?_<;>intro jA q19
 refine ac ?_;refine co rfl (Aa rfl (Je (l:=[40,128]) (m:=[40,60]) Ai) ⟨kq,Ec,Ec,trivial⟩) ?_;refine a2 ?_
 .refine int_eq ?_;have ha:CI=14:=AA;rcases ha with rfl<;>rfl
 refine an ?_ ?_<;>intro Pf q20
 refine ac ?_;refine co rfl (Aa rfl (Je (l:=[112,168]) (m:=[80,112]) Ai) ⟨kq,Ec,Ec,trivial⟩) ?_;refine a2 ?_
 .refine int_eq ?_;have ha:CI=15:=AA;rcases ha with rfl<;>rfl
 refine an ?_ ?_<;>intro cR q21
 refine ac ?_;refine Tr.cond rfl (fun _=>?_) (fun h=>nomatch cR.symm.trans h);refine ac ?_;refine co rfl (Aa rfl (Je (l:=[128,256]) (m:=[128,256]) Ai) ⟨kq,Ec,Ec,trivial⟩) ?_;refine a2 ?_
 .refine int_eq ?_;have ha:CI=16\/CI=17:=AA;rcases ha with rfl|rfl<;>rfl
 .repeat' first|(refine int_eq ?_;have ha:CI=16\/CI=17:=AA;rcases ha with rfl|rfl<;>rfl)|(refine int_eq ?_;exact So AA)|refine co rfl (Aa rfl (Je (l:=[128,256]) (m:=[128,256]) Ai) ⟨kq,Ec,Ec,trivial⟩) ?_|refine co rfl (BS (lJ) rfl rfl) (co rfl (AX (xs:=[.tmp 73]) (rows:=[[_]]) rfl rfl underlying22 C4 z3 rfl AB ⟨⟨Ab,Cf⟩,trivial⟩ AB) ?_)|refine co rfl (Aa rfl (Je (l:=[0]) (m:=[HI CI]) Ai) ⟨kq,Ec,Ec,trivial⟩) ?_|refine ac ?_|(refine Tr.cn rfl ?_ ?_<;>intro h q)
theorem NU{bits:Int}:Aq prog 154 [agg [int CI,int bits]] (bool (decide (CJ CI bits>0))):=by
 refine fo func154 rfl ⟨rfl,rfl⟩ fun M0 w0=>?_;refine a2 ?_;refine co rfl (BS (W0) rfl rfl) ?_;refine a2 ?_
 .exact Lr
def xe:List (List UInt8×Int):=GL.map fun r=>(r.name,r.kind)
theorem rV(h:1<=CI/\CI<=22):xe[CI.toNat]? =some ((Dh CI).name,(Dh CI).kind):=by
 unfold xe;rw[List.getElem?_map,IJ h];rfl
theorem rW   :Aq prog 208 [] (slice 2 (xe.map fun r=>[str r.1,int r.2])):=by
 refine fo func208 rfl ⟨rfl,rfl⟩ fun M0 w0=>?_;refine a2 ?_;refine wk [0] rfl ?_;refine ac ?_
 .exact A_ _ _
theorem QK:Aq prog 155 [int CI] (int (Dh CI).kind):=by
 refine fo func155 rfl ⟨rfl,rfl⟩ fun M0 w0=>?_;refine ac ?_;refine ag ?_ ?_<;>intro h1 q1
 refine a3 ?_
 .refine int_eq ?_;unfold Dh;rw[if_neg AA];rfl
 refine an ?_ ?_<;>intro h2 q2
 refine a2 ?_
 .refine int_eq ?_;unfold Dh;rw[if_neg AA];rfl
 have hin:1<=CI/\CI<=22:=by omega
 refine ac ?_;refine Tr.seq (Tr.Bo (co rfl (Ta (rW) rfl) (cm rfl (co rfl (AD rfl underlying301 vE vq vq AA (CS (f:=fun r:List UInt8×Int=>[str r.1,int r.2]) (rV hin))) ?_))));refine a2 ?_
 .exact Lr
theorem KT{bits:Int}:Aq prog 153 [agg [int CI,int bits]] (bool (decide (CJ CI bits>0)&&(Dh CI).kind==2)):=by
 refine fo func153 rfl ⟨rfl,rfl⟩ fun M0 w0=>?_;refine ac ?_;refine ac ?_;refine co rfl (BS (NU) rfl rfl) (cm rfl ?_);refine Ch.cs 5 rfl ?_ ?_<;>intro h1 q1
 refine ac ?_;refine cy h1 rfl (BS (QK) rfl rfl) ?_;refine ac ?_;refine ac ?_
 .exact F7
 refine ac ?_;refine ac ?_
 .exact Gq
end Go.Proofs.YthommhphcagokaaGreatDoor
namespace Cp
open Go Go.RowKit
variable{ops:Array Oper}{M:Av}{rows:List (List Pr)}{r:List Oper}{rs:List Ay}{zs:List Value}{o:Oper}{p:Pr}{P:Program}{T:TypeId}{v:Value}{w w0:World}
theorem LH{E:Env}{I:Cj}{t e:TypeId}{y:Operand}{sz bytes:Nat}(ho:o.op= .call { callee:= .builtin .append,args:= #[.const (.slice none 0 0),y],argTypes:= #[t,t] })(ht:P.underlying t=some (.slice e))(hz:Aw P e=some sz)(hby:CW P e=some bytes)(Dw:BZ P e=some zs)(hzl:zs.length=sz)(hsz:0<sz)(hy:VL E y (slice sz rows))(GA:rows.length<=maxLen)(hfit:rows.length*bytes<=140737488355328):Af P I o E (slice sz rows):=
 Af.val fun M w a he hI=>by
  have h0:=(BD.begin (I.bd _ _ hI)).JI (r:=Bb) rfl trivial;obtain⟨v',w',M',h1,h2,h3,h4⟩:=RE (ty:=o.type) (j:=0) (v:= .slice none 0 0) (rows:=[]) ht hz hby Dw hzl hsz h0 rfl (.inr ⟨rfl,rfl⟩) (AH sz M w _ rfl) (hy.ev he CB) (by simpa using GA) (by simpa using hfit);have h5:a.eval (.const (.slice none 0 0))= .slice none 0 0:=rfl;exact⟨v',w',by simp[execOp,ho,resolve,invoke,builtin,h1,h5],(slice sz rows).st _ _ _ _ _ (Ext.less h4.m) M8,h4.below⟩
theorem lK{sz:Nat}(h:(full sz rows).h M w v):D9 v=none:=by
 obtain⟨_,a,rfl⟩:=h;cases a with
 |none=>rfl
 |some a=>show(if _ then _ else _)=_;rw[if_neg AA]
theorem cT{E:Env}{I:Cj}{t e:TypeId}{x y:Operand}{sz bytes:Nat}{cU:List (List Pr)}(ho:o.op= .call { callee:= .builtin .append,args:= #[x,y],argTypes:= #[t,t] })(ht:P.underlying t=some (.slice e))(hz:Aw P e=some sz)(hby:CW P e=some bytes)(Dw:BZ P e=some zs)(hzl:zs.length=sz)(hsz:0<sz)(hx:VL E x (full sz cU))(hy:VL E y (slice sz rows))(GA:cU.length+rows.length<=maxLen)(hfit:(cU.length+rows.length)*bytes<=140737488355328):Af P I o E (slice sz (cU++rows)):=
 Af.val fun M w a he hI=>by
  have h0:=(BD.begin (I.bd _ _ hI)).JI (r:=Bb) rfl trivial;have hv:=hx.ev he CB;obtain⟨v',w',M',h1,h2,h3,h4⟩:=RE (ty:=o.type) (j:=0) ht hz hby Dw hzl hsz h0 rfl (.inr ⟨rfl,lK hv⟩) hv.1 (hy.ev he CB) GA hfit;exact⟨v',w',by simp[execOp,ho,resolve,invoke,builtin,h1],(slice sz _).st _ _ _ _ _ (Ext.less h4.m) h2,h4.below⟩
theorem TO.bp{n:Fm}{E:Env}{M0:Av}{S:Nat->Prop}{Q:Exit->Act->World->Prop}(i:Nat){b:Nat}(hi:rs[i]? =some (L9 T b))(k:∀s,TO P n ops r E (Hp M0 w0 S (rs.set i (Wl T b s))) Q):TO P n ops r E (Hp M0 w0 S rs) Q:=by
 rintro m hl a w ⟨M,h1,h2,h3,h4⟩;have h4:BD M0 w0 S rs M w:=h4;obtain⟨x,hx,hh⟩:=(h4.hold _ (List.mem_of_getElem? hi)).1;exact k x m hl a w ⟨M,h1,h2,h3,h4.DF hi rfl rfl hh⟩
theorem Af.iq{E:Env}{I:Cj}(s:Nat){α:Type}{f:α->Pr}(hs:E.lookup s=some (Cp.ex f))(hm:s∈looks o)(h:∀x,Af P I o ((s,f x)::E) p):Af P I o E p:=by
 intro M w a he hI;obtain⟨x,hx⟩:=he s _ hm hs;refine h x M w a (fun t q ht hq=>?_) hI;simp only[List.lookup]at hq
 by_cases hts:t=s
 .subst hts;simp at hq;subst hq;exact hx
 .rw[show(t==s)=false by simpa using hts]at hq;exact he t q ht hq
end Cp
namespace Cp
open Go Go.RowKit Go.Great
variable{M:Av}{rows:List (List Pr)}{i j:Nat}{v:Value}{w:World}
section
variable{P:Program}{L:Lg P}{n:Fm}{fz:Nat}{E:Env}{M0:Av}{w0:World}{S:Nat->Prop}{rs:List Ay}
theorem BD.lM{r r':Ay}(h:BD M0 w0 S rs M w)(hi:rs[i]? =some r)(hb:∀b,r'.blk=some b->r.blk=some b)(hn:r'.new=r.new)(hh:r'.h M w):BD M0 w0 S (rs.set i r') M w:=by
 have FC:i<rs.length:=by rcases Nat.lt_or_ge i rs.length with h|h;exact h;rw[List.getElem?_eq_none h]at hi;cases hi
 have h1:=BD.perm (AM hi) h;refine BD.perm (NC FC) ⟨h1.m0,h1.m,h1.os,h1.tape,h1.output,h1.size,h1.block,h1.bd,fun q hq=>?_,?_⟩
 .
  rcases List.mem_cons.1 hq with rfl|hq
  .exact⟨hh,fun b hbk=>by rw[hn];exact(h1.hold r Ai).2 b (hb b hbk)⟩
  .exact h1.hold q (by simp[hq])
 .
  obtain⟨h2,h3⟩:=List.pairwise_cons.1 h1.nd;exact List.Pairwise.cons (fun q hq b hbk=>h2 q hq b (hb b hbk)) h3
theorem BD.Td{e:TypeId}{sz:Nat}(h:BD M0 w0 S rs M w)(hj:rs[j]? =some (Ax e sz rows v)):BD M0 w0 S (rs.set j (An e sz rows v)) M w:=by
 rcases(h.hold _ (List.mem_of_getElem? hj)).1 with⟨h1,h2⟩|⟨b,cap,sp,h1,h2,h3,h4,h5⟩
 .
  subst h2;exact h.lM hj (fun b hb=>by cases hb) rfl (.inl ⟨h1,_,rfl⟩)
 .
  subst h1;cases cap with
  |zero=>
   have hr:rows=[]:=List.eq_nil_of_length_eq_zero AA;subst hr;exact h.lM hj (fun b hb=>by cases hb) rfl (.inl ⟨rfl,_,rfl⟩)
  |succ c=>exact h.lM hj (fun b hb=>hb) rfl (.inr ⟨b,c,sp,rfl,h2,h3,h4,h5⟩)
theorem Fin.Td{Q:Exit->Act->World->Prop}{x:Exit}{e:TypeId}{sz:Nat}(j:Nat)(hj:rs[j]? =some (Ax e sz rows v))(k:Fin n E (Hp M0 w0 S (rs.set j (An e sz rows v))) Q x):Fin n E (Hp M0 w0 S rs) Q x:=
 Fin.conv (fun a w hs=>by
  obtain⟨M,h1,h2,h3,h4⟩:=hs;have h4:BD M0 w0 S rs M w:=h4
  exact⟨M,h1,h2,h3,h4.Td hj⟩) k
theorem Tr.Td{Q:Exit->Act->World->Prop}{c:Code}{e:TypeId}{sz:Nat}(j:Nat)(hj:rs[j]? =some (Ax e sz rows v))(k:Tr L n E (Hp M0 w0 S (rs.set j (An e sz rows v))) c Q):Tr L n E (Hp M0 w0 S rs) c Q:=
 Tr.conv (fun _ _ ⟨M,h1,h2,h3,h4⟩=>⟨M,h1,h2,h3,BD.Td h4 hj⟩) k
end
end Cp
namespace Cp
open Go Go.RowKit
variable{M:Av}{ps:List Pr}{w:World}
theorem rX{β:Type}{f:β->Pr}{ad:Addr}{n:Nat}(h:Row M w ad n (ps++[Cp.ex f])):∃x,Row M w ad n (ps++[f x]):=by
 obtain⟨u,h1,h2,h3,x,h4⟩:=h ps.length (Cp.ex f) Ai;refine⟨x,fun j p hp=>?_⟩;rcases Nat.lt_trichotomy j ps.length with hj|hj|hj
 .exact bN
 .grind
 .grind
theorem fM{φ:Prop}{q:Pr}{ad:Addr}{n:Nat}(h:Row M w ad n (ps++[fact φ q])):φ/\Row M w ad n (ps++[q]):=by
 obtain⟨u,h1,h2,h3,hφ,h4⟩:=h ps.length (fact φ q) Ai;refine⟨hφ,fun j p hp=>?_⟩;rcases Nat.lt_trichotomy j ps.length with hj|hj|hj
 .exact bN
 .grind
 .grind
theorem ZA{α β:Type}{f:α->List Pr}{g:β->List Pr}{φ:α->β->Prop}{sz:Nat}(h:∀a M w ad n,Row M w ad n (f a)->∃b,φ a b/\Row M w ad n (g b))(hf:∀a,(f a).length=sz)(hg:∀b,(g b).length=sz)(ms:List α):
  Pr.le (slice sz (ms.map f)) (Cp.ex fun l:List β=>fact (l.length=ms.length/\∀(i:Nat) a b,ms[i]? =some a->l[i]? =some b->φ a b) (slice sz (l.map g))):=by
 rintro M w v ⟨a,cap,hv,h1,h2,h3,h5⟩
 have hk:∀k,k<=ms.length->∃l:List β,l.length=k/\(∀(i:Nat) a b,ms[i]? =some a->l[i]? =some b->φ a b)/\∀(i:Nat) b,l[i]? =some b->∃ad,a=some ad/\Row M w ad (i*sz) (g b):=by
  intro k
  induction k with
  |zero=>intro _;exact⟨[],rfl,by simp,by simp⟩
  |succ k ih=>
   intro hk;obtain⟨l,hl,hp,hr⟩:=ih AA;obtain⟨x,hx⟩:∃x,ms[k]? =some x:=⟨ms[k],List.getElem?_eq_getElem AA⟩;obtain⟨_,ad,had,hrow⟩:=h5 k (f x) Mv;obtain⟨b,N0,bU⟩:=h x M w ad (k*sz) hrow;refine⟨l++[b],by simp[hl],fun i y c hy hc=>?_,fun i c hc=>?_⟩
   .grind
   .grind
 obtain⟨l,hl,hp,hr⟩:=hk ms.length (Nat.le_refl _);rw[List.length_map]at hv h1;refine⟨l,⟨hl,hp⟩,a,cap,by rw[List.length_map,hl];exact hv,by rw[List.length_map,hl];exact h1,h2,h3,fun i row hrow=>?_⟩;rw[List.getElem?_map]at hrow;cases hb:l[i]? with
 |none=>rw[hb]at hrow;cases hrow
 |some b=>
  rw[hb]at hrow;simp at hrow;subst hrow;exact⟨hg b,hr i b hb⟩
end Cp
namespace Cp
open Go Go.RowKit Go.Great
section
variable{P:Program}{L:Lg P}{n:Fm}{fz:Nat}{E:Env}{M0:Av}{w0:World}{S:Nat->Prop}{rs:List Ay}{o:Oper}{g:Func}{M1:Av}{w1:World}
theorem rY{d j:Nat}{T:TypeId}{x:Operand}{ps:List Pr}(hg:o.guard=none)(hd:o.dst=some d)(hn:d<n)(ho:o.op= .box T x)(hx:VL E x (D7 ps)):
  D8 P M0 w0 S n j (SR.c Bb) ⟨d,Gg T ps⟩ o E (Cp.ex fun b=>ptr b 0):=by
 refine⟨hg,fun M w a rs Ms he hI hj=>?_⟩;obtain⟨h0,h1⟩:=hx.ev (o:=o) he Am;have hw:(a.eval x).cells.toList.toArray=(a.eval x).cells:=by simp
 have hrun:(execOp a.eval o).run P w= .ok (.value (.pointer (some ⟨w.heap.size,0,none⟩))) (w.alloc (.cells (a.eval x).cells.toList.toArray T)):=by simp[execOp,ho,Instr.box,newVar,newRow]
 rw[hrun];have hb:Below w.heap.size w (w.alloc (.cells (a.eval x).cells.toList.toArray T)):=(Below.refl _ _).alloc (Nat.le_refl _) _;have h2:=Ext.below (M:=M) hb
 have EN:Ext M w (fun b o=>M b o\/b=w.heap.size) (w.alloc (.cells (a.eval x).cells.toList.toArray T)):=by
  refine⟨h2.size,fun a v hc hm=>⟨fun hx=>?_,(h2.keep a v hc hm).2⟩,fun b o ho hp hm=>⟨fun hx=>?_,(h2.obj b o ho hp hm).2⟩⟩
  .
   rcases hx with hx|hx
   .exact DL
   .exact El
  .grind
 have hs1:(w.alloc (.cells (a.eval x).cells.toList.toArray T)).heap.size=w.heap.size+1:=by simp
 have hat:(SR.at_ (a.put o.dst (.pointer (some ⟨w.heap.size,0,none⟩))) ⟨d,Gg T ps⟩)=AE true w.heap.size T ps:=by unfold SR.at_ Slot.val;dsimp only;rw[hd,B6 HK];rfl
 refine⟨fun b o=>M b o\/b=w.heap.size,⟨_,rfl⟩,EN,?_⟩;rw[hat];refine hI.replace hj EN hb.os hb.tape hb.output (fun k hk _=>hb.block k hk) rfl (fun b o hm _=> .inl hm) (fun b o hx=>?_) ?_ rfl (fun b hbk=>?_)
 .
  rcases hx with hx|hx
  .have:=hI.bd _ _ hx;omega
  .omega
 .refine⟨fun o=> .inr rfl,(a.eval x).cells.toList,heap_alloc_new w _,h0.st EN,h1⟩
 .
  have Ef:some w.heap.size=some b:=hbk
  injection Ef with e1
  subst e1;exact⟨by rw[hs1];omega,.inr (Nat.le_refl _)⟩
end
section
variable{P:Program}{L:Lg P}{n:Fm}{fz:Nat}{E:Env}{M0:Av}{w0:World}{S:Nat->Prop}{rs:List Ay}
end
end Cp
namespace Cp
open Go Go.RowKit
abbrev D3(ρ:Option Nat):Fence:={ Fence.wide with round:=ρ }
section
variable{P:Program}{ρ:Option Nat}
def Lq(o:Oper):Bool:=match o.op with
 | .defer _=>false
 |_=>true
theorem cV{o:Oper}{a:Act}{w:World}{K K':Act->World->Prop}{Q:Exit->Act->World->Prop}(hc:Lq o=true)(hK:∀a w,K a w->K' a w)(h:o.wp P a w K Q):o.wpIn (D3 ρ) 0 P a w K' Q:=by
 refine⟨fun _ _=>trivial,?_⟩;rw[Oper.semAt_eq _ _ _ (fun c hh=>by unfold Lq at hc;rw[hh]at hc;cases hc)];unfold Oper.wp at h
 generalize (execOp a.eval o).run P w=r at h ⊢
 cases r with
 |halt x w'=>cases x<;>first|exact h|exact h.elim
 |ok x w'=>
  cases x<;>first|exact h.elim|skip
  case value v=>exact hK _ _ h
  case skip=>exact hK _ _ h
  case defer d=>exact hK _ _ h
  case enter f args=>exact⟨fun hh=>(by cases hh),callsIn_wide.2 (h.mono fun e w'' hr=>by cases e<;>first|exact hK _ _ hr|exact hr)⟩
  case row row args=>
   refine⟨fun hh=>(by cases hh),fun c cs _=>?_⟩;obtain⟨v,w2,h1,h2⟩:=h c cs;exact⟨v,w2,hK _ _ h1,stepsIn_wide.2 h2⟩
theorem lN{ops:Array Oper}{Q:Exit->Act->World->Prop}(hc:∀(i:Nat) o,ops[i]? =some o->Lq o=true):∀(l:List Nat) (a:Act) (w:World),wpS P ops Q l a w->wpOpsIn (D3 ρ) 0 P ops Q l a w
 |[],_,_,h=>h
 |i::l,a,w,h=>by
  have ih:=lN (Q:=Q) hc l;unfold wpS at h;unfold wpOpsIn;cases ho:ops[i]? with
  |none=>rw[ho]at h;exact ih a w h
  |some o=>
   rw[ho]at h
   dsimp only at h ⊢
   split
   next hw=>rw[if_pos hw]at h;exact cV (hc i o ho) ih h
   next hw=>rw[if_neg hw]at h;exact⟨fun _ _=>trivial,ih _ _ h⟩
theorem xg{ops:Array Oper}{Q:Exit->Act->World->Prop}(hc:∀(i:Nat) o,ops[i]? =some o->Lq o=true){i:Nat}{K K':Act->World->Prop}{a:Act}{w:World}(hK:∀a w,K a w->K' a w)(h:O6 P ops Q i K a w):wpOpIn (D3 ρ) 0 P ops Q i K' a w:=by
 unfold O6 at h;unfold wpOpIn;cases ho:ops[i]? with
 |none=>rw[ho]at h;exact hK _ _ h
 |some o=>
  rw[ho]at h
  dsimp only at h ⊢
  split
  next hw=>rw[if_pos hw]at h;exact cV (hc i o ho) hK h
  next hw=>rw[if_neg hw]at h;exact⟨fun _ _=>trivial,hK _ _ h⟩
theorem lO{ops:Array Oper}{md:Region.Mode}{Q:Exit->Act->World->Prop}(hc:∀(i:Nat) o,ops[i]? =some o->Lq o=true):∀(fuel:Nat) (listed:Array Bool) (a:Act) (w:World),JS P md ops Q fuel listed a w->wpAnyIn (D3 ρ) 0 P md ops Q fuel listed a w
 |0,_,_,_,h=>h
 |fuel+1,_,_,_,h=>⟨h.1,fun i hi=>xg hc (lO hc fuel _) (h.2 i hi)⟩
theorem rZ{l:List Oper}(hc:calm l=true):∀(i:Nat) o,l.toArray[i]? =some o->Lq o=true:=fun i o ho=>by
 have hm:o∈l:=List.mem_of_getElem? (by simpa using ho);have:=List.all_eq_true.1 hc o hm;unfold Lq;revert this;cases o.op<;>simp
theorem rj{c:Code}{Q:Exit->Act->World->Prop}{α:Type}(μ:α->Nat)(R:α->Act->World->Prop)(round:∀x a w,R x a w->c.wpIn (D3 ρ) 0 P (Exit.then (fun a' w'=>∃y,μ y<μ x/\R y a' w') Q) a w)(x:α)(a:Act)(w:World)(hx:R x a w):(Code.loop c).wpIn (D3 ρ) 0 P Q a w:=by
 intro b k cs hro hb hr
 have key:∀m x a w,μ x=m->R x a w->∃e a' w',Q e a' w'/\ArrivesIn (Machine.fenced P (D3 ρ)) P (lone (b.atR a (.code c:: .inLoop c::k)) cs w) b k cs e a' w':=by
  intro m
  induction m using Nat.strongRecOn with
  |_ m ih=>
   intro x a w hm hx;obtain⟨e,a₁,w₁,hq,Ip⟩:=round x a w hx b (.inLoop c::k) cs hro hb hr;cases e with
   |normal=>
    obtain⟨y,hlt,hy⟩:=hq;obtain⟨e₂,a₂,w₂,jh,Un⟩:=ih (μ y) (hm ▸ hlt) y a₁ w₁ rfl hy;exact⟨e₂,a₂,w₂,jh,.of_steps (StepsIn.trans Ip (.one (fenced_calm hb hr rfl) stepR_inLoop)) Un⟩
   |exit id=>exact⟨_,a₁,w₁,hq,.pass (x:= .inLoop c) rfl (fun _ _=> .inl Ai) Ip⟩
   |goto l=>exact⟨_,a₁,w₁,hq,.pass (x:= .inLoop c) rfl (fun _ _=> .inl Ai) Ip⟩
   |ret=>exact⟨_,a₁,w₁,hq,.pass (x:= .inLoop c) rfl (fun _ _=> .inl Ai) Ip⟩
   |panic ch=>exact⟨_,a₁,w₁,hq,.pass (x:= .inLoop c) rfl (fun _ _=> .inl Ai) Ip⟩
   |outgrown=>exact⟨_,a₁,w₁,hq,.pass (x:= .inLoop c) rfl (fun _ _=> .inl Ai) Ip⟩
 obtain⟨e,a',w',hq,Ip⟩:=key _ x a w rfl hx;exact⟨e,a',w',hq,.of_steps (.one (fenced_calm hb hr rfl) stepR_loop) Ip⟩
@[reducible] def jB(P:Program)(ρ:Option Nat):Lg P where
 wp c Q a w:=c.wpIn (D3 ρ) 0 P Q a w
 mono hq h:=wpIn_mono h hq
 skip h:=wpIn_skip h
 ret h:=wpIn_ret h
 exit h:=wpIn_exit h
 seq h:=wpIn_seq h
 block h:=wpIn_block h
 cond hc ht hf:=wpIn_cond_split hc ht hf
 loop:=rj
 region {id l Q a w} hc h:=wpIn_region (lN (fun i o ho=>by
  have hm:o∈l:=List.mem_of_getElem? (by simpa using ho);have:=List.all_eq_true.1 hc o hm
  unfold Lq;revert this;cases o.op<;>simp) _ _ _ (by simpa[List.range_eq_range']using h))
 draw hc hm h:=wpIn_region_any hm (lO (rZ hc) _ _ _ _ h)
end
end Cp
namespace Cp
open Go Go.RowKit Go.Great
section
variable{P:Program}{L:Lg P}{n:Fm}{fz:Nat}{E:Env}{M0:Av}{w0:World}{S:Nat->Prop}{rs:List Ay}{o:Oper}
end
end Cp
namespace Cp
open Go Go.RowKit
variable{a:Act}{M:Av}{new:Bool}{rows:List (List Pr)}{ps:List Pr}{zs:List Value}{o:Oper}{p:Pr}{P:Program}{v:Value}{w:World}
theorem C2.iq{E:Env}(s:Nat){α:Type}{f:α->Pr}(hs:E.lookup s=some (Cp.ex f))(hm:s∈looks o)(he:C2 M w E o a):∃x,C2 M w ((s,f x)::E) o a:=by
 obtain⟨x,hx⟩:=he s _ hm hs;refine⟨x,fun t q ht hq=>?_⟩;simp only[List.lookup]at hq
 by_cases hts:t=s
 .grind
 .rw[show(t==s)=false by simpa using hts]at hq;exact he t q ht hq
section
variable{P:Program}{M0:Av}{w0:World}{S:Nat->Prop}{n:Fm}{j:Nat}{R R':SR}{E:Env}{o:Oper}
theorem D8.iq(s:Nat){α:Type}{f:α->Pr}(hg:o.guard=none)(hs:E.lookup s=some (Cp.ex f))(hm:s∈looks o)(h:∀x,D8 P M0 w0 S n j R R' o ((s,f x)::E) p):D8 P M0 w0 S n j R R' o E p:=
 ⟨hg,fun M w a rs hsz he hI hj=>by obtain⟨x,hx⟩:=he.iq s hs hm;exact(h x).2 M w a rs hsz hx hI hj⟩
theorem D8.le{q:Pr}(h:D8 P M0 w0 S n j R R' o E p)(hl:Pr.le p q):D8 P M0 w0 S n j R R' o E q:=by
 refine⟨h.1,fun M w a rs hsz he hI hj=>?_⟩;have this:=h.2 M w a rs hsz he hI hj
 generalize (execOp a.eval o).run P w=r at this ⊢
 unfold Ew at this
 split at this
 .obtain⟨M',h1,h2,h3⟩:=this;exact⟨M',hl _ _ _ h1,h2,h3⟩
 .obtain⟨M',h1,h2,h3⟩:=this;exact⟨M',hl _ _ _ h1,h2,h3⟩
 .exact Calls.mono this fun _ _ ⟨v,M',h0,h1,h2,h3⟩=>⟨v,M',h0,hl _ _ _ h1,h2,h3⟩
 .exact this.elim
end
theorem lP{z:Array Value}{n:Nat}{u:Value}(h0:0<z.size)(h:u∈(madeCells z n).toList):u∈z.toList:=by
 simp only[madeCells,Array.toList_map,List.mem_map]at h;obtain⟨k,_,rfl⟩:=h;have hk:k % z.size<z.size:=Nat.mod_lt _ h0;rw[getElem!_pos z _ hk];exact Array.getElem_mem_toList hk
theorem rq{z:Array Value}{m sz i j:Nat}{u:Value}(hz:z.size=sz)(hi:i<m)(hu:z.toList[j]? =some u):(madeCells z (m*sz)).toList[i*sz+j]? =some u:=by
 have hjl:j<sz:=by grind
 have hlt:i*sz+j<m*sz:=by
  have:(i+1)*sz<=m*sz:=Nat.mul_le_mul_right sz hi;rw[Nat.add_mul]at this;omega
 have hmod:(i*sz+j) % sz=j:=by rw[Nat.mul_comm,Nat.mul_add_mod,Nat.mod_eq_of_lt hjl]
 have hjz:j<z.size:=by omega
 rw[Array.getElem?_toList]at hu ⊢;rw[Array.getElem?_eq_getElem hjz]at hu;simp only[madeCells];rw[Array.getElem?_map,Array.getElem?_range,if_pos hlt,Option.map_some,hz,hmod,getElem!_pos z _ hjz,hu]
theorem KU{I:Cj}{E:Env}{t e:TypeId}{x y:Operand}{sz by_ m:Nat}(ho:o.op= .makeSlice t x y)(ht:P.underlying t=some (.slice e))(hz:Aw P e=some sz)(hby:CW P e=some by_)(Dw:BZ P e=some zs)(hzl:zs.length=sz)(hsz:0<sz)(h1:zs.all (·.oneCell')=true)(hx:VL E x (int ((m:Nat):Int)))(hy:VL E y (int ((m:Nat):Int)))(hm:m<=maxLen)(hb:by_*m<=281474976710656):Af P I o E (full sz (List.replicate m (zs.map is))):=
 Af.val fun M w a he hI=>by
  have hx1:a.eval x= .int .i64 m:=hx.ev he Am;have hy1:a.eval y= .int .i64 m:=hy.ev he Am;unfold Aw at hz;unfold CW at hby;unfold BZ at Dw;cases hi:P.info? e with
  |none=>rw[hi]at hz;cases hz
  |some i=>
   rw[hi]at hz hby Dw;simp only[Option.map_some,Option.some.injEq,Option.map_eq_some_iff]at hz hby Dw;obtain⟨z,WK,Dw⟩:=Dw;have Uv:z.cells.size=sz:=by rw[←hzl,←Dw];simp
   have hrun:=run_make (P:=P) w t e i z ht hi WK .i64 .i64 (m:Int) (m:Int) AA (Int.le_refl _) (by rw[hby];have h0:((by_*m:Nat):Int)<=281474976710656:=Int.ofNat_le.2 hb;rw[←Int.natCast_mul];exact h0) (by unfold maxLen at hm;omega);rw[hz]at hrun;simp only[Int.toNat_natCast]at hrun;have hbe:Below w.heap.size w (w.alloc (.cells (madeCells z.cells (m*sz)) e)):=(Below.refl _ _).alloc (Nat.le_refl _) _;have hrl:(List.replicate m (zs.map is)).length=m:=List.length_replicate
   have hfl:Flat M w sz (List.replicate m (zs.map is)) (madeCells z.cells (m*sz)).toList:=by
    refine⟨by rw[hrl];simp[size_madeCells],fun u hu=>List.all_eq_true.1 h1 _ (by rw[←Dw];exact lP AA hu),fun k row hr=>?_⟩;have hk:k<m:=by have:=A7 hr;omega
    obtain rfl:row=zs.map is:=List.eq_of_mem_replicate (List.mem_of_getElem? hr);refine⟨by simp[hzl],fun j p hp=>?_⟩;rw[List.getElem?_map,Option.map_eq_some_iff]at hp;obtain⟨u,hu,rfl⟩:=hp;exact⟨u,rq Uv hk (by rw[Dw];exact hu),rfl⟩
   refine⟨.slice (some ⟨w.heap.size,0,none⟩) m m,w.alloc (.cells (madeCells z.cells (m*sz)) e),by simp[execOp,ho,hx1,hy1,hrun],?_,hbe⟩;have jC:=FN (hfl.st (Ext.below hbe)) (c:=m) (Nat.le_of_eq hrl) hm (g:=w.heap.size) (fun k u hk=>⟨by rw[Q_];simpa using hk,fun hx=>by have:=I.bd _ _ hI _ _ hx;omega⟩);rw[hrl]at jC;exact⟨jC,_,by rw[hrl]⟩
section
variable{P:Program}{L:Lg P}{n:Fm}{E:Env}{M0:Av}{w0:World}{S:Nat->Prop}{rs:List Ay}
theorem Fin.II{Q:Exit->Act->World->Prop}{x:Exit}(i j k:Nat){sz b:Nat}{T e:TypeId}(hi:rs[i]? =some (AE new b T ps))(hj:rs[j]? =some (An e sz rows v))(hij:j≠i)(hk:ps[k]? =some p)(hp:Pr.le p (is v))(hl:∀r∈rows,r.length=sz)(kk:Fin n E (Hp M0 w0 S ((rs.set j Bb).set i (AE new b T (ps.set k (slice sz rows))))) Q x):Fin n E (Hp M0 w0 S rs) Q x:=Fin.conv (fun _ _ hs=>hs.II hi hj hij hk hp hl) kk
end
section
variable{P:Program}{M0:Av}{w0:World}{S:Nat->Prop}{rs:List Ay}
def BK(b:Nat)(x:Obj):Ay where
 blk:=some b
 new:=true
 h M w:=(∀o,M b o)/\w.heap[b]? =some x
 st M w M' w' _ hk h:=by
  obtain⟨h1,h2⟩:=hk b rfl;exact⟨fun o=>h2 o (h.1 o),h1.trans h.2⟩
theorem BD.lQ(h:BD M0 w0 S rs M w)(x:Obj):
  BD M0 w0 S (BK w.heap.size x::rs) (fun b o=>M b o\/b=w.heap.size) (w.alloc x)/\Ext M w (fun b o=>M b o\/b=w.heap.size) (w.alloc x):=by
 have hb:Below w.heap.size w (w.alloc x):=(Below.refl _ _).alloc (Nat.le_refl _) _;have hsz:(w.alloc x).heap.size=w.heap.size+1:=by simp
 have he:Ext M w (fun b o=>M b o\/b=w.heap.size) (w.alloc x):=by
  have h2:=Ext.below (M:=M) hb;refine⟨h2.size,fun a v hc hm=>⟨fun hx=>?_,(h2.keep a v hc hm).2⟩,fun b o ho hp hm=>⟨fun hx=>?_,(h2.obj b o ho hp hm).2⟩⟩
  .
   rcases hx with hx|hx
   .exact DL
   .exact El
  .
   rcases hx with hx|hx
   .exact DL
   .subst hx;simp at ho
 have hI:=(Hp M0 w0 S rs).st _ _ _ hb h;refine⟨⟨hI.m0,fun b o hm=> .inl (hI.m b o hm),hI.os,hI.tape,hI.output,hI.size,hI.block,fun b o hm=>?_,fun r hr=>?_,?_⟩,he⟩
 .
  rcases hm with hm|hm
  .exact hI.bd b o hm
  .omega
 .
  rcases List.mem_cons.1 hr with rfl|hr
  .
   refine⟨⟨fun o=> .inr rfl,heap_alloc_new w _⟩,fun b hbk=>?_⟩;simp only[BK,Option.some.injEq]at hbk;subst hbk;exact⟨by omega,by simp[BK];exact h.size⟩
  .
   obtain⟨h3,h4⟩:=h.hold r hr;exact⟨r.st _ _ _ _ he (fun b hbk=>⟨hb.block b (h4 b hbk).1,fun _ x=> .inl x⟩) h3,fun b hbk=>⟨by have:=(h4 b hbk).1;omega,(h4 b hbk).2⟩⟩
 .
  refine List.pairwise_cons.2 ⟨fun r hr b N0 bU=>?_,hI.nd⟩;simp only[BK,Option.some.injEq]at N0;subst N0;have:=((h.hold r hr).2 _ bU).1;omega
theorem BD.putObj{j b:Nat}{x:Obj}(y:Obj)(h:BD M0 w0 S rs M w)(hj:rs[j]? =some (BK b x)):BD M0 w0 S (rs.set j (BK b y)) M (w.putObj b y)/\Ext M w M (w.putObj b y):=by
 obtain⟨⟨hM,hx⟩,hbk⟩:=h.hold _ (List.mem_of_getElem? hj);have hlt:b<w.heap.size:=(hbk b rfl).1;have hsz:(w.putObj b y).heap.size=w.heap.size:=by simp[World.putObj]
 have he:Ext M w M (w.putObj b y):=by
  refine⟨by omega,fun a v hc hm=>⟨hm,?_⟩,fun k o ho _ hm=>⟨hm,?_⟩⟩
  .
   have hne:a.block≠b:=fun e=>hm (e ▸ hM _);rw[World.cell?_of_block (w:=w) (World.putObj_heap_other hne)];exact hc
  .
   have hne:k≠b:=fun e=>hm (e ▸ hM _);exact(World.putObj_heap_other hne).trans ho
 refine⟨h.replace hj he rfl rfl rfl (fun k _ hne=>World.putObj_heap_other (fun e=>hne (by rw[e];rfl))) rfl (fun _ _ hm _=>hm) (fun b' o hm=>by have:=h.bd b' o hm;omega) ⟨hM,World.putObj_heap_same hlt⟩ rfl (fun b' hb'=>⟨?_,.inl hb'⟩),he⟩;simp only[BK,Option.some.injEq]at hb';subst hb';omega
end
end Cp
