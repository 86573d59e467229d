/-
  IdentityMade: whatever the input, the law of this name returns true and its arguments read as before. No conditions.
-/
import Derived.Test.YtgilhkjlfongoaaGreatIdMadeP5
set_option linter.all false
set_option maxRecDepth 40000
set_option maxHeartbeats 16000000
namespace Cp
open Go Go.RowKit Go.Great
structure MN (P:Program) (T kt et:TypeId) {κ:Type} [DecidableEq κ] (enc:κ→Value) (z0:Value):Prop where
 O7:P.underlying T=some (.map kt et)
 zero:∀w,(zeroValue et).run P w= .ok z0 w
 eq:∀a b w,(Op.equal kt (enc a) (enc b)).run P w= .ok (decide (a=b)) w
 RL:∀e a w,(Instr.checkKey e 10000 kt (enc a)).run P w= .ok () w
 Sw:∃d,P.underlying kt=some d∧((∀a b,Instr.sameNow d (enc a) (enc b)=none)∨∀a b,Instr.sameNow d (enc a) (enc b)=some (decide (a=b)))
 bits:∀a,Instr.sameBits 10000 (enc a) (enc a)=true
section
variable {P:Program} {L:Lg P} {n:Fm} {z0:Value} {fz:Nat} {E:Env} {M0:Av} {w0:World} {S:Nat→Prop} {rs:List Ao} {o:Oper} {κ:Type} [DecidableEq κ] {enc:κ→Value}
abbrev Cb (enc:κ→Value) (es:List (κ×Value)):List (Value×Value):=es.map fun p=>(enc p.1,p.2)
def D6 (enc:κ→Value) (b:Nat) (es:List (κ×Value)):Ao where
 Ee:=some b
 new:=true
 h M w:=(∀o,M b o)∧w.heap[b]? =some (.map (Ed (Cb enc es)) es.length)
 st M w M' w' he hk h:=by
  obtain ⟨h1,h2⟩:=hk b rfl
  exact ⟨fun o=>h2 o (h.1 o),h1.trans h.2⟩
def MO (es:List (κ×Value)) (k:κ):Option Value:=(es.find? fun p=>decide (k=p.1)).map (·.2)
def HY (es:List (κ×Value)) (k:κ) (v:Value):List (κ×Value):=match es.findIdx? fun p=>decide (k=p.1) with|some i=>es.set i (k,v)|none=>es++[(k,v)]
theorem IU {T kt et:TypeId} (hT:MN P T kt et enc z0) (k:κ) (w:World):∀(es:List (κ×Value)) (i c:Nat),
  (Instr.findAsking kt (enc k) ((es.zipIdx c).map fun p=>({ key:=enc p.1.1,val:=p.1.2,born:=p.2 }:MapEntry)) i).run P w= .ok ((es.findIdx? fun p=>decide (k=p.1)).bind fun j=>(es[j]?).map fun p=>(i+j,p.2)) w
 |[],i,c=>by simp [Instr.findAsking]
 |p::es,i,c=>by
  rw [List.zipIdx_cons,List.map_cons,Instr.findAsking,Sem.run_bind,hT.eq,Result.andThen_ok]
  by_cases h:k=p.1
  · simp [h,List.findIdx?_cons]
  ·
   rw [if_neg (by simpa using h),IU hT k w es (i+1) (c+1),List.findIdx?_cons]
   simp only [h,decide_false,Bool.false_eq_true,if_false]
   congr 1
   cases hf:es.findIdx? fun p=>decide (k=p.1) with
   |none=>simp
   |some j=>simp [Nat.add_assoc,Nat.add_comm 1 j]
theorem MP {d:TypeDesc} (hn:∀a b:κ,Instr.sameNow d (enc a) (enc b)=some (decide (a=b))) (k:κ):∀(es:List (κ×Value)) (i c:Nat),
  Instr.findNow d (enc k) ((es.zipIdx c).map fun p=>({ key:=enc p.1.1,val:=p.1.2,born:=p.2 }:MapEntry)) i=some ((es.findIdx? fun p=>decide (k=p.1)).bind fun j=>(es[j]?).map fun p=>(i+j,p.2))
 |[],i,c=>by simp [Instr.findNow]
 |p::es,i,c=>by
  rw [List.zipIdx_cons,List.map_cons,Instr.findNow,hn]
  by_cases h:k=p.1
  · simp [h,List.findIdx?_cons]
  ·
   simp only [h,decide_false]
   rw [MP hn k es (i+1) (c+1),List.findIdx?_cons]
   simp only [h,decide_false,Bool.false_eq_true,if_false]
   congr 1
   cases hf:es.findIdx? fun p=>decide (k=p.1) with
   |none=>simp
   |some j=>simp [Nat.add_assoc,Nat.add_comm 1 j]
theorem MQ {T kt et:TypeId} (hT:MN P T kt et enc z0) (k:κ) (w:World) (es:List (κ×Value)):
  (Instr.findKey kt (enc k) (Ed (Cb enc es)).toList).run P w= .ok ((es.findIdx? fun p=>decide (k=p.1)).bind fun j=>(es[j]?).map fun p=>(j,p.2)) w:=by
 obtain ⟨d,hd,hn⟩:=hT.Sw
 have hl:(Ed (Cb enc es)).toList=(es.zipIdx 0).map fun p=>({ key:=enc p.1.1,val:=p.1.2,born:=p.2 }:MapEntry):=by
  simp [Ed,Cb,List.zipIdx_map]
 rw [hl]
 unfold Instr.findKey
 rw [Sem.run_bind,run_underlying hd,Result.andThen_ok]
 rcases hn with hn|hn
 rotate_left
 · rw [MP hn k es 0 0];simp
 cases es with
 |nil=>simp [Instr.findNow]
 |cons p es=>
  have h1:Instr.findNow d (enc k) (((p::es).zipIdx 0).map fun p=>({ key:=enc p.1.1,val:=p.1.2,born:=p.2 }:MapEntry)) 0=none:=by
   rw [List.zipIdx_cons,List.map_cons,Instr.findNow,hn]
  rw [h1]
  have:=IU hT k w (p::es) 0 0
  simpa using this
variable {Q:Exit→Act→World→Prop} {ops:Array Oper} {r:List Oper}
omit [DecidableEq κ] in
theorem TO.ZE {d:Nat} {T:TypeId} (enc:κ→Value) (hg:o.guard=none) (hd:o.dst=some d) (hn:d<n) (ho:o.op= .makeMap T none)
  (k:∀b,TO P n ops r ((d,is (.map (some b)))::E) (Hp M0 w0 S (D6 enc b []::rs)) Q):TO P n ops (o::r) E (Hp M0 w0 S rs) Q:=
 TO.MV hg fun K M w a hsz hdf he hI hK=>by
  refine TO.val (v:= .map (some w.heap.size)) (w':=w.alloc (.map #[] 0)) ?_ ?_
  · simp [execOp,ho,Instr.makeMap]
  ·
   obtain ⟨h2,h3⟩:=Am.VN (obj:= .map #[] 0) (r:=D6 enc w.heap.size []) hI rfl rfl ⟨fun _=> .inr rfl,by rw [heap_alloc_new];rfl⟩
   refine hK _ _ _ _ (k w.heap.size) ⟨_,by rw [BN];exact hsz,by rw [put_defers];exact hdf,?_,h2⟩
   intro s p hp
   simp only [List.lookup] at hp
   by_cases hs:s=d
   · subst hs;simp at hp;subst hp;rw [hd,A_ (by rw [hsz];exact hn)];rfl
   ·
    rw [show (s==d)=false by simpa using hs] at hp
    rw [hd,BD hs]
    exact p.st _ _ _ _ _ h3 (he s p hp)
theorem OY {T kt et:TypeId} {x y:Operand} {b j:Nat} {es:List (κ×Value)} (k:κ) {q:Pr} (hT:MN P T kt et enc z0) (ho:o.op= .lookup T x y false) (hx:VL E x (is (.map (some b)))) (hy:VL E y q) (hk:∀M w v,q.h M w v→v=enc k):
  F5 P M0 w0 S j (SR.c (D6 enc b es)) o E (is ((MO es k).getD z0)):=by
 intro M w a rs he hI hj
 have h1:a.eval x=_:=hx.ev he (by simp [ho,Op.operands])
 have h2:a.eval y=enc k:=hk _ _ _ (hy.ev he (by simp [ho,Op.operands]))
 have hj':rs[j]? =some (D6 enc b es):=hj
 obtain ⟨_,hh⟩:=(hI.hold _ (List.mem_of_getElem? hj')).1
 have hrun:(execOp a.eval o).run P w= .ok (.value ((MO es k).getD z0)) w:=by
  have hf:=MQ hT k w es
  have hg:=D9 (fun p:κ×Value=>decide (k=p.1)) es
  unfold MO
  cases HC:es.findIdx? fun p=>decide (k=p.1) with
  |none=>
   rw [HC] at hf hg
   rw [←hg]
   simp only [Option.bind_none] at hf
   simp [execOp,ho,h1,h2,Instr.lookup,run_underlying hT.O7,MapKept.run_getObj_map hh,hT.RL,hf,hT.zero,Result.andThen]
  |some i=>
   rw [HC] at hf hg
   rw [←hg]
   have CS:i<es.length:=by rw [List.findIdx?_eq_some_iff_getElem] at HC;exact HC.1
   simp only [Option.bind_some,List.getElem?_eq_getElem CS,Option.map_some] at hf ⊢
   simp [execOp,ho,h1,h2,Instr.lookup,run_underlying hT.O7,MapKept.run_getObj_map hh,hT.RL,hf,Result.andThen]
 rw [hrun]
 exact ⟨rfl,Below.refl _ _⟩
theorem R4 {es:List (κ×Value)} {k:κ} {v:Value} (h:(es.findIdx? fun p=>decide (k=p.1))=none):HY es k v=es++[(k,v)]:=by unfold HY;rw [h]
theorem R5 {es:List (κ×Value)} {k:κ} {v:Value} {i:Nat} (h:(es.findIdx? fun p=>decide (k=p.1))=some i):HY es k v=es.set i (k,v):=by unfold HY;rw [h]
theorem P5 {T kt et:TypeId} {x y:Operand} {s:Tmp} {b j:Nat} {es:List (κ×Value)} {p:Pr} (k:κ) {q:Pr} (hT:MN P T kt et enc z0) (hg:o.guard=none) (hd:o.dst=none) (ho:o.op= .mapUpdate T x y (.tmp s)) (hx:VL E x (is (.map (some b)))) (hy:VL E y q) (hk:∀M w v,q.h M w v→v=enc k) (_hz:E.lookup s=some p):
  DH P M0 w0 S n j (SR.c (D6 enc b es)) ⟨s,fun v=>D6 enc b (HY es k v)⟩ o E any:=by
 refine ⟨hg,fun M w a rs hsz he hI hj=> ?_⟩
 have h1:a.eval x=_:=hx.ev he (by simp [ho,Op.operands])
 have h2:a.eval y=enc k:=hk _ _ _ (hy.ev he (by simp [ho,Op.operands]))
 generalize hv:a.eval (.tmp s)=v
 have hj':rs[j]? =some (D6 enc b es):=hj
 obtain ⟨⟨hM,hh⟩,SB⟩:=hI.hold _ (List.mem_of_getElem? hj')
 have hlt:=(SB b rfl).1
 have hf:=MQ hT k w es
 have hrun:(execOp a.eval o).run P w= .ok .skip (F9 w b (.map (Ed (Cb enc (HY es k v))) (HY es k v).length)):=by
  cases HC:es.findIdx? fun p=>decide (k=p.1) with
  |none=>
   rw [HC] at hf
   simp only [Option.bind_none] at hf
   rw [R4 HC]
   have hp:Ed (Cb enc (es++[(k,v)]))=(Ed (Cb enc es)).push { key:=enc k,val:=v,born:=es.length }:=by
    have:=Ng (Cb enc es) (enc k) (v)
    rw [List.length_map] at this
    rw [this];simp [Cb]
   rw [hp]
   simp [execOp,ho,h1,h2,hv,Instr.mapUpdate,run_underlying hT.O7,MapKept.run_getObj_map hh,hT.RL,hf,MapKept.run_setObj_map _ hh,Result.andThen,F9]
  |some i=>
   have CS:i<es.length:=by rw [List.findIdx?_eq_some_iff_getElem] at HC;exact HC.1
   have fy:(es[i]).1=k:=by
    rw [List.findIdx?_eq_some_iff_getElem] at HC
    obtain ⟨_,h4,_⟩:=HC
    simpa using (of_decide_eq_true h4).symm
   rw [HC] at hf
   simp only [Option.bind_some,List.getElem?_eq_getElem CS,Option.map_some] at hf
   rw [R5 HC]
   have hp:Ed (Cb enc (es.set i (k,v)))=(Ed (Cb enc es)).modify i fun e=>{ e with key:=enc k,val:=v }:=by
    rw [Qb (by simpa using CS)];simp [Cb]
   have hold:((Ed (Cb enc es))[i]?).map (·.key)=some (enc k):=by
    rw [ER];simp [Cb,List.getElem?_eq_getElem CS,fy]
   rw [hp,List.length_set]
   simp [execOp,ho,h1,h2,hv,Instr.mapUpdate,run_underlying hT.O7,MapKept.run_getObj_map hh,hT.RL,hf,hold,Instr.keyThatStays,hT.bits,MapKept.run_setObj_map _ hh,Result.andThen,F9]
 rw [hrun]
 obtain ⟨h5,h6⟩:=Am.VO (obj:= .map (Ed (Cb enc (HY es k v))) (HY es k v).length) (r':=D6 enc b (HY es k v)) hI hj' rfl rfl rfl rfl hM ⟨hM,Jo hlt⟩
 refine ⟨M,trivial,h6,?_⟩
 have hput:SR.at_ (a.put o.dst undef) ⟨s,fun v=>D6 enc b (HY es k v)⟩=D6 enc b (HY es k v):=by rw [hd,←hv];rfl
 rw [hput];exact h5
theorem TO.ZF {d j b:Nat} {T kt et:TypeId} {x:Operand} {es:List (κ×Value)} (hT:MN P T kt et enc z0) (hg:o.guard=none) (hd:o.dst=some d) (hn:d<n) (ho:o.op= .range T x) (hx:VL E x (is (.map (some b)))) (hj:rs[j]? =some (D6 enc b es))
  (k:∀it,TO P n ops r ((d,ptr it 0)::E) (Hp M0 w0 S (FM it b es.length []::rs)) Q):TO P n ops (o::r) E (Hp M0 w0 S rs) Q:=
 TO.MV hg fun K M w a hsz hdf he hI hK=>by
  have h1:a.eval x=_:=hx.ev (o:=o) (BX he) (by simp [ho,Op.operands])
  obtain ⟨_,hh⟩:=(Am.hold hI _ (List.mem_of_getElem? hj)).1
  refine TO.val (v:= .pointer (some ⟨w.heap.size,0,none⟩)) (w':=w.alloc (.mapIter (some b) es.length #[] es.length)) ?_ ?_
  · simp [execOp,ho,h1,run_range_map w T kt et b _ _ hT.O7 hh]
  ·
   obtain ⟨h2,h3⟩:=Am.VN (obj:= .mapIter (some b) es.length #[] es.length) (r:=FM w.heap.size b es.length []) hI rfl rfl ⟨fun _=> .inr rfl,by rw [heap_alloc_new]⟩
   refine hK _ _ _ _ (k w.heap.size) ⟨_,by rw [BN];exact hsz,by rw [put_defers];exact hdf,?_,h2⟩
   intro s p hp
   simp only [List.lookup] at hp
   by_cases hs:s=d
   · subst hs;simp at hp;subst hp;rw [hd,A_ (by rw [hsz];exact hn)];rfl
   ·
    rw [show (s==d)=false by simpa using hs] at hp
    rw [hd,BD hs]
    exact p.st _ _ _ _ _ h3 (he s p hp)
omit [DecidableEq κ] in
theorem TO.dK {d i j it b:Nat} {x:Operand} {es:List (κ×Value)} {seen:List Nat} (hg:o.guard=none) (hd:o.dst=some d) (hn:d<n) (ho:o.op= .next x false) (hx:VL E x (ptr it 0)) (hi:rs[i]? =some (FM it b es.length seen)) (hj:rs[j]? =some (D6 enc b es))
  (k1:(∀q,q<es.length→q∈seen)→TO P n ops r ((d,FZ [bool false])::E) (Hp M0 w0 S rs) Q)
  (k2:∀q p,es[q]? =some p→q∉seen→TO P n ops r ((d,FZ [bool true,is (enc p.1),is p.2])::E) (Hp M0 w0 S (rs.set i (FM it b es.length (seen++[q])))) Q):TO P n ops (o::r) E (Hp M0 w0 S rs) Q:=
 TO.MV hg fun K M w a hsz hdf he hI hK=>by
  have h1:a.eval x= .pointer (some ⟨it,0,none⟩):=hx.ev (o:=o) (BX he) (by simp [ho,Op.operands])
  obtain ⟨⟨aY,hit⟩,gB⟩:=Am.hold hI _ (List.mem_of_getElem? hi)
  obtain ⟨_,hh⟩:=(Am.hold hI _ (List.mem_of_getElem? hj)).1
  have hlt:=(gB it rfl).1
  rcases Hu (P:=P) o.type (es:=Cb enc es) (by simp [Cb]) hit hh with ⟨h2,h3⟩|⟨q,p,h2,h3,w1,h4,h5⟩
  ·
   refine TO.val (v:= .tuple #[.bool false]) (w':=w) ?_ ?_
   · simp [execOp,ho,h1,h3]
   ·
    refine hK _ _ _ _ (k1 h2) ⟨M,by rw [BN];exact hsz,by rw [put_defers];exact hdf,?_,hI⟩
    intro s p hp
    simp only [List.lookup] at hp
    by_cases hs:s=d
    · subst hs;simp at hp;subst hp;rw [hd,A_ (by rw [hsz];exact hn)];exact ⟨_,rfl,rfl,trivial⟩
    ·
     rw [show (s==d)=false by simpa using hs] at hp
     rw [hd,BD hs];exact he s p hp
  ·
   have gC:∃p',es[q]? =some p'∧p=(enc p'.1,p'.2):=by
    simp only [Cb,List.getElem?_map] at h2
    cases h:es[q]? with
    |none=>rw [h] at h2;cases h2
    |some p'=>rw [h] at h2;simp at h2;exact ⟨p',rfl,h2.symm⟩
   obtain ⟨p',Le,rfl⟩:=gC
   refine TO.val (v:= .tuple #[.bool true,enc p'.1,p'.2]) (w':=F9 w1 it (.mapIter (some b) es.length (seen++[q]).toArray es.length)) ?_ ?_
   · simp [execOp,ho,h1,h5]
   ·
    have O8:Below w.heap.size w w1:=by
     rcases h4 with rfl|rfl
     · exact Below.refl _ _
     · exact (Below.refl _ _).drew
    have gD:=(Hp M0 w0 S rs).st _ _ _ O8 hI
    obtain ⟨h6,h7⟩:=Am.VO (obj:= .mapIter (some b) es.length (seen++[q]).toArray es.length) (r':=FM it b es.length (seen++[q])) gD hi rfl rfl rfl rfl aY ⟨aY,Jo (Nat.lt_of_lt_of_le hlt O8.size)⟩
    refine hK _ _ _ _ (k2 q p' Le h3) ⟨M,by rw [BN];exact hsz,by rw [put_defers];exact hdf,?_,h6⟩
    intro s p hp
    simp only [List.lookup] at hp
    by_cases hs:s=d
    · subst hs;simp at hp;subst hp;rw [hd,A_ (by rw [hsz];exact hn)];exact ⟨_,rfl,rfl,rfl,rfl,trivial⟩
    ·
     rw [show (s==d)=false by simpa using hs] at hp
     rw [hd,BD hs]
     exact p.st _ _ _ _ _ ((Ext.below O8).trans h7) (he s p hp)
omit [DecidableEq κ] in
theorem TO.ZG {pk:Pr} {d i j it b q:Nat} {x:Operand} {es:List (κ×Value)} {seen:List Nat} {p:κ×Value} (hg:o.guard=none) (hd:o.dst=some d) (hn:d<n) (ho:o.op= .entry x) (hx:VL E x (ptr it 0)) (hi:rs[i]? =some (FM it b es.length (seen++[q]))) (hj:rs[j]? =some (D6 enc b es)) (hq:es[q]? =some p)
  (hpk:Pr.le (is (enc p.1)) pk)
  (k:TO P n ops r ((d,FZ [pk,is p.2])::E) (Hp M0 w0 S rs) Q):TO P n ops (o::r) E (Hp M0 w0 S rs) Q:=
 TO.MV hg fun K M w a hsz hdf he hI hK=>by
  have h1:a.eval x= .pointer (some ⟨it,0,none⟩):=hx.ev (o:=o) (BX he) (by simp [ho,Op.operands])
  obtain ⟨⟨_,hit⟩,_⟩:=Am.hold hI _ (List.mem_of_getElem? hi)
  obtain ⟨_,hh⟩:=(Am.hold hI _ (List.mem_of_getElem? hj)).1
  have Se:(Ed (Cb enc es))[q]? =some { key:=enc p.1,val:=p.2,born:=q }:=by rw [ER];simp [Cb,hq]
  have hnd:((Ed (Cb enc es)).toList.map (·.born)).Nodup:=by
   have:(Ed (Cb enc es)).toList.map (·.born)=List.range (Cb enc es).length:=by
    apply List.ext_getElem?
    intro k
    rw [List.getElem?_map,Array.getElem?_toList,ER]
    by_cases hk:k<(Cb enc es).length
    · rw [List.getElem?_range hk,List.getElem?_eq_getElem hk];rfl
    · rw [List.getElem?_eq_none (Nat.le_of_not_lt hk),List.getElem?_eq_none (by simp at hk ⊢;omega)];rfl
   rw [this];exact List.nodup_range
  have hfind:(Ed (Cb enc es)).find? (fun e=>e.born==q)=some { key:=enc p.1,val:=p.2,born:=q }:=by
   rw [←Array.find?_toList]
   exact find_born { key:=enc p.1,val:=p.2,born:=q } _ hnd (List.mem_iff_getElem?.2 ⟨q,by rw [Array.getElem?_toList];exact Se⟩)
  refine TO.val (v:= .tuple #[enc p.1,p.2]) (w':=w) ?_ ?_
  ·
   have:(Instr.entry (.pointer (some ⟨it,0,none⟩))).run P w= .ok (.tuple #[enc p.1,p.2]) w:=by
    have hb:(seen++[q]).toArray.back? =some q:=by simp
    simp only [Instr.entry,getObj,Sem.run_bind,Sem.run,hit,hh,Result.andThen,hb,bne_self_eq_false,Bool.false_eq_true,if_false,hfind]
    rfl
   simp [execOp,ho,h1,this]
  ·
   refine hK _ _ _ _ k ⟨M,by rw [BN];exact hsz,by rw [put_defers];exact hdf,?_,hI⟩
   intro s p hp
   simp only [List.lookup] at hp
   by_cases hs:s=d
   · subst hs;simp at hp;subst hp;rw [hd,A_ (by rw [hsz];exact hn)];exact ⟨_,rfl,hpk _ _ _ rfl,rfl,trivial⟩
   ·
    rw [show (s==d)=false by simpa using hs] at hp
    rw [hd,BD hs];exact he s p hp
end
section
variable {P:Program} {L:Lg P} {n:Fm} {E:Env} {M0:Av} {w0:World} {S:Nat→Prop} {rs:List Ao} {ε:Type} {res:ε→List Ao} {Q:Exit→Act→World→Prop} {c:Code} {X:List ε} {f:ε→Value} {g:ε→Pr}
theorem A5.ZH {g:FuncId} {v:Value} {e:TypeId} {sz:Nat} {rows:List (List Pr)} {args:List Pr} {r:Pr} {R':Value→Ao} (h:A5 P g (Aq v (lens rows.length)::args) r (Al e sz rows v) R'):A5 P g (is v::args) r (Al e sz rows v) R':=by
 refine ⟨h.1,fun M0 w0 S rs M w vs hI hv=>h.2 M0 w0 S rs M w vs hI ?_⟩
 match vs,hv with
 |a::vs,⟨h1,h2⟩=>
  refine ⟨⟨h1,?_⟩,h2⟩
  obtain rfl:a=v:=h1
  rcases (hI.hold _ (List.mem_cons_self ..)).1 with ⟨h3,h4⟩|⟨b,cap,sp,h3,_⟩
  · subst h3;exact ⟨_,_,h4⟩
  · exact ⟨_,_,h3⟩
theorem Tr.ZI (Bf:List Ao) {X1:List ε} {y:ε} (Lt:rs=Bf++GA res X) (h1:X1=X∨X1=X++[y]) (h0:∀r∈res y,r.Ee=none∧∀M w,r.h M w) (k:Tr L n E (Hp M0 w0 S (Bf++GA res X1)) c Q):Tr L n E (Hp M0 w0 S rs) c Q:=by
 rcases h1 with rfl|rfl
 · subst Lt;exact k
 · exact Tr.conv (fun _ _ hs=>hs.Mt Bf y Lt h0) k
def P6 (f:ε→Value) (g:ε→Pr) (X:List ε):Ao:=⟨none,true,fun M w=>∀x∈X,(g x).h M w (f x),fun _ _ _ _ he _ h x hx=>(g x).st _ _ _ _ _ he (h x hx)⟩
theorem Tr.Wl (f:ε→Value) (g:ε→Pr) (Bf:List Ao) (Lt:rs=Bf++GA res X) (h1:∀x rs M w,Am M0 w0 S (res x++rs) M w→∃M',Ext M w M' w∧Am M0 w0 S rs M' w∧(g x).h M' w (f x))
  (k:Tr L n E (Hp M0 w0 S (P6 f g X::Bf)) c Q):Tr L n E (Hp M0 w0 S rs) c Q:=by
 subst Lt
 intro a w hs
 obtain ⟨M,k1,k2,k3,k4⟩:=hs
 have k4:Am M0 w0 S (Bf++GA res X) M w:=k4
 obtain ⟨M1,g1,g2,g3⟩:=Am.Kv (Φ:=fun x M w=>(g x).h M w (f x)) (fun x M M' he h=>(g x).st _ _ _ _ _ he h) (fun x rs M=>h1 x rs M w) X _ M k4
 exact k a w ⟨M1,k1,k2,fun s q hq=>q.st _ _ _ _ _ g1 (k3 s q hq),Am.Ja g2 rfl g3⟩
theorem Tr.jC (j s:Nat) {x:ε} {p:Pr} (hj:rs[j]? =some (P6 f g X)) (hx:x∈X) (hs:E.lookup s=some p) (hp:Pr.le p (is (f x))) (k:Tr L n ((s,g x)::E) (Hp M0 w0 S rs) c Q):Tr L n E (Hp M0 w0 S rs) c Q:=by
 intro a w ha
 obtain ⟨M,k1,k2,k3,k4⟩:=ha
 have k4:Am M0 w0 S rs M w:=k4
 refine k a w ⟨M,k1,k2,fun t q hq=> ?_,k4⟩
 simp only [List.lookup] at hq
 split at hq
 ·
  rename_i e1
  have:t=s:=by simpa using e1
  subst this
  simp only [Option.some.injEq] at hq
  subst hq
  have h2:_=f x:=hp _ _ _ (k3 t p hs)
  rw [h2]
  exact (k4.hold _ (List.mem_of_getElem? hj)).1 x hx
 · exact k3 t q hq
end
end Cp
namespace Go.Proofs.YtgilhkjlfongoaaGreat
open Go Go.RowKit Cp Go.Proofs.Tryz
theorem dL {d:Nat} {w:World} {x0 y0:Int} {x1 y1:Int}:(Op.equalIn (d+2) 92 (.agg #[.int .i64 x0,.int .i64 x1]) (.agg #[.int .i64 y0,.int .i64 y1])).run Tryz.prog w= .ok (decide (x0=y0∧x1=y1)) w:=by
 have h:=jY (w:=w) (d:=d+1) (xs:= #[.int .i64 x0,.int .i64 x1]) (ys:= #[.int .i64 y0,.int .i64 y1]) Tryz.underlying92 (by kernel_rfl) (Hr (by decide) (Ce Cr rfl) (Ce Cr rfl) (Hs (d:=d+0) Tryz.underlying3) (Hr (by decide) (Ce Cr rfl) (Ce Cr rfl) (Hs (d:=d+0) Tryz.underlying3) (QZ)))
 refine h.trans (congrArg (fun b=>Result.ok b w) ?_)
 rw [Bool.eq_iff_iff];simp [and_assoc]
abbrev R6 (p:Int×Int):Value:= .agg #[.int .i64 p.1,.int .i64 p.2]
theorem Wm (p:Int×Int):Pr.le (is (R6 p)) (agg [int p.1,int p.2]):=by
 rintro M w v rfl
 exact ⟨[.int .i64 p.1,.int .i64 p.2],rfl,(fun c hc=>by simp at hc;rcases hc with rfl|rfl<;>rfl),rfl,rfl,trivial⟩
theorem I9:MN Tryz.prog 90 92 53 R6 (.slice none 0 0) where
 O7:=Tryz.underlying90
 zero:=fun w=>by kernel_rfl
 eq:=fun a b w=>by
  rw [show Op.equal 92 _ _=Op.equalIn (9998+2) 92 _ _ from rfl]
  refine (dL (x0:=a.1) (x1:=a.2) (y0:=b.1) (y1:=b.2)).trans (congrArg (fun b=>Result.ok b w) ?_)
  rw [decide_eq_decide]
  cases a;cases b;simp
 RL:=fun e a w=>by
  show (Instr.checkKey e (9999+1) 92 (.agg _)).run _ w=_
  exact gE Tryz.underlying92 (⟨⟨_,fun w=>Ce Cr rfl,Mn Tryz.underlying3⟩,⟨⟨_,fun w=>Ce Cr rfl,Mn Tryz.underlying3⟩,trivial⟩⟩) w
 Sw:=⟨_,Tryz.underlying92,.inl fun a b=>rfl⟩
 bits:=fun a=>by
  show Instr.sameBits (9999+1) (.agg _) (.agg _)=true
  simp [Instr.sameBits]
structure Jh where
 c:Az
 v:Value
abbrev Og (x:Jh):(Int×Int)×Value:=((x.c.Bv,x.c.day),x.v)
abbrev Ue (x:Jh):List Ao:=[Al 9 1 (x.c.A7.map fun t=>[str t]) x.v]
theorem XY {X:List Jh} {key:Int×Int} {z:Value}:(Cp.MO (X.map Og) key).getD z=((X.find? fun x=>decide (key=(x.c.Bv,x.c.day))).map (·.v)).getD z:=by
 unfold Cp.MO
 rw [List.find?_map,Option.map_map]
 rfl
theorem dM {X:List Jh} {key:Int×Int} {v:Value}:Cp.HY (X.map Og) key v=match X.findIdx? fun x=>decide (key=(x.c.Bv,x.c.day)) with|some i=>(X.map Og).set i (key,v)|none=>X.map Og++[(key,v)]:=by
 unfold Cp.HY
 rw [List.findIdx?_map]
 rfl
theorem MR {f:AO} {x:Az}:Ea f x=decide (((f.machine,f.day):Int×Int)=(x.Bv,x.day)):=by
 unfold Ea
 rw [decide_eq_decide,Prod.mk.injEq]
 constructor<;>rintro ⟨h1,h2⟩<;>exact ⟨h1.symm,h2.symm⟩
theorem Q9 {S:List Az} {f:AO} {i:Nat} {x:Az} (hk:WV S) (hx:S[i]? =some x) (hs:Ea f x=true):S.set i (LJ x f)=S.map (FA f):=by
 have CS:=Bh hx
 have Zh:S[i]=x:=by rw [List.getElem?_eq_getElem CS] at hx;exact Option.some.inj hx
 refine List.ext_getElem (by simp) fun j h1 h2=> ?_
 rw [List.getElem_set,List.getElem_map]
 split
 ·
  rename_i hij
  subst hij
  rw [Zh];unfold FA;rw [if_pos hs]
 ·
  rename_i hij
  have hjl:j<S.length:=by simpa using h2
  have hno:¬Ea f S[j]=true:=by
   intro hj
   unfold Ea at hj hs
   rw [decide_eq_true_eq] at hj hs
   have hp:=List.pairwise_iff_getElem.1 hk
   have hz:B3 S[i] S[j]=0:=EZ.2 (by rw [Zh];omega)
   rcases Nat.lt_or_gt_of_ne hij with h3|h3
   · exact hp i j CS hjl h3 hz
   · exact hp j i hjl CS h3 (by have:=Ct.swap S[i] S[j];omega)
  unfold FA;rw [if_neg hno]
theorem Uf {X:List Jh} {S:List Az} {f:AO} (hX:X.map (·.c)=S) (hk:WV S):∃(X1:List Jh) (i:Nat) (x:Jh),(X1=X∨X1=X++[⟨Dl f,.slice none 0 0⟩])∧X1[i]? =some x∧(Cp.MO (X.map Og) (f.machine,f.day)).getD (.slice none 0 0)=x.v∧(∀v,Cp.HY (X.map Og) (f.machine,f.day) v=(X1.set i ⟨LJ x.c f,v⟩).map Og)∧(∀v,(X1.set i ⟨LJ x.c f,v⟩).map (·.c)=(HX S f).map (FA f))∧x.c∈HX S f:=by
 cases hf:X.findIdx? fun x=>decide (((f.machine,f.day):Int×Int)=(x.c.Bv,x.c.day)) with
 |some i=>
  have eD:=hf
  rw [List.findIdx?_eq_some_iff_getElem] at eD
  obtain ⟨CS,hp,_⟩:=eD
  have hs:Ea f (X[i]).c=true:=by rw [MR];exact hp
  have hkey:((f.machine,f.day):Int×Int)=((X[i]).c.Bv,(X[i]).c.day):=of_decide_eq_true hp
  have jD:S[i]? =some (X[i]).c:=by rw [←hX,List.getElem?_map,List.getElem?_eq_getElem CS];rfl
  have hin:GD f S=true:=by
   unfold GD;rw [List.any_eq_true]
   exact ⟨_,List.mem_of_getElem? jD,hs⟩
  have hput:HX S f=S:=by unfold HX;rw [if_pos hin]
  refine ⟨X,i,X[i],.inl rfl,List.getElem?_eq_getElem CS,?_,fun v=> ?_,fun v=> ?_,?_⟩
  · rw [XY,←Cp.D9,hf,Option.bind_some,List.getElem?_eq_getElem CS];rfl
  ·
   rw [dM,hf,List.map_set]
   show (X.map Og).set i (_,v)=(X.map Og).set i _
   rw [hkey]
  ·
   rw [hput,List.map_set,hX]
   exact Q9 hk jD hs
  · rw [hput];exact List.mem_of_getElem? jD
 |none=>
  have hno:∀x∈X,¬((f.machine,f.day):Int×Int)=(x.c.Bv,x.c.day):=by
   rw [List.findIdx?_eq_none_iff] at hf
   intro x hx
   exact of_decide_eq_false (hf x hx)
  have hin:GD f S=false:=by
   unfold GD;rw [List.any_eq_false]
   intro y hy
   rw [←hX,List.mem_map] at hy
   obtain ⟨x,hx,rfl⟩:=hy
   rw [MR,decide_eq_true_eq];exact hno x hx
  have hput:HX S f=S++[Dl f]:=by unfold HX;rw [hin];rfl
  have Se:(X++[(⟨Dl f,.slice none 0 0⟩:Jh)])[X.length]? =some ⟨Dl f,.slice none 0 0⟩:=by simp
  refine ⟨_,X.length,⟨Dl f,.slice none 0 0⟩,.inr rfl,Se,?_,fun v=> ?_,fun v=> ?_,?_⟩
  · rw [XY,←Cp.D9,hf];rfl
  · rw [dM,hf,List.set_append_right _ _ (Nat.le_refl _),Nat.sub_self,List.map_append];rfl
  ·
   rw [hput,List.set_append_right _ _ (Nat.le_refl _),Nat.sub_self,List.map_append,List.map_append,hX]
   congr 1
   ·
    refine (List.map_id' S).symm.trans (List.map_congr_left fun y hy=> ?_)
    unfold FA
    rw [if_neg]
    unfold GD at hin;rw [List.any_eq_false] at hin
    exact hin y hy
   ·
    show [LJ (Dl f) f]=[FA f (Dl f)]
    unfold FA;rw [if_pos (by unfold Ea;simp)]
  · rw [hput];simp
theorem Wn {S:List Az} {f:AO} {n:Nat} (h1:ED n S) (h2:∀x∈S,GC Lib.compareBytes x.A7) {x:Az} (hx:x∈HX S f):GC Lib.compareBytes x.A7∧x.A7.length≤n:=by
 unfold HX at hx;split at hx
 · exact ⟨h2 x hx,h1 x hx⟩
 ·
  rcases List.mem_append.1 hx with hx|hx
  · exact ⟨h2 x hx,h1 x hx⟩
  · rw [List.mem_singleton] at hx;subst hx;exact ⟨List.Pairwise.nil,Nat.zero_le _⟩
theorem Ug (f:AO):∀r∈Ue ⟨Dl f,.slice none 0 0⟩,r.Ee=none∧∀M w,r.h M w:=by
 intro r hr
 rw [List.mem_singleton] at hr
 subst hr
 exact ⟨rfl,fun _ _=> .inl ⟨rfl,rfl⟩⟩
theorem Uh {M0:Av} {w0:World} {S:Nat→Prop} (x:Jh) (rs:List Ao) (M:Av) (w:World) (h:Am M0 w0 S (Ue x++rs) M w):∃M',Ext M w M' w∧Am M0 w0 S rs M' w∧(strs x.c.A7).h M' w x.v:=by
 obtain ⟨M1,h1,h2,h3⟩:=Am.RP (j:=0) h rfl (Aj fun _=>rfl)
 exact ⟨M1,h1,h2.G9,h3⟩
def P7 (X:List Jh) (seen:List Nat):List Az:=seen.filterMap fun q=>(X[q]?).bind fun x=>if DG x.c then some x.c else none
theorem OZ (X:List Jh) (seen:List Nat):(P7 X seen).length≤seen.length:=List.length_filterMap_le _ _
theorem R7 (X:List Jh) (seen:List Nat) (q:Nat):P7 X (seen++[q])=P7 X seen++((X[q]?).bind fun x=>if DG x.c then some x.c else none).toList:=by
 unfold P7;rw [List.filterMap_append,PW]
theorem JW:∀X:List Jh,(X.map (·.c)).filter DG=X.filterMap fun x=>if DG x.c then some x.c else none
 |[]=>rfl
 |x::X=>by
  have ih:=JW X
  rw [List.map_cons,List.filterMap_cons]
  cases h:DG x.c with
  |true=>rw [List.filter_cons_of_pos h,ih];rfl
  |false=>rw [List.filter_cons_of_neg (by rw [h];decide),ih];rfl
theorem Ui {S:List Az} {f:AO} (h:¬f.machine=0):FW S f=(HX S f).map (FA f):=if_neg h
theorem Wo {S:List Az} {f:AO} (h:f.machine=0):FW S f=S:=if_pos h
theorem ZJ {l:List (List UInt8)} {x:List UInt8} {v:Value} (hs:GC Lib.compareBytes l) (hl:l.length≤1000000):A5 Tryz.prog 49 [is v,str x] (lens (Ej l x).length) (Al 9 1 (l.map fun t=>[str t]) v) (fun v=>Al 9 1 ((Ej l x).map fun t=>[str t]) v):=A5.ZH (by rw [List.length_map];exact Tx hs hl)
theorem R8 {X:List Jh} {seen:List Nat} (hn:seen.Nodup) (hlt:∀q∈seen,q<X.length) (hall:∀q,q<X.length→q∈seen):(P7 X seen).Perm ((X.map (·.c)).filter DG):=by
 have e:=JW X
 rw [e,←PX]
 exact (Ro hn hlt hall).filterMap _
theorem Uj {x:Az} (h:1<x.A7.length):(if DG x then some x else none:Option Az)=some x:=if_pos (decide_eq_true h)
theorem Wp {x:Az} (h:¬1<x.A7.length):(if DG x then some x else none:Option Az)=none:=if_neg (by rw [decide_eq_true_eq];exact h)
theorem P8 {a b:Az}  :Be prog 57 [agg (AG a),agg (AG b)] (int (B3 a b)):=by
 refine fo func57 rfl ⟨rfl,rfl⟩ fun M0 w0=> ?_
 refine a2 ?_
 refine co rfl (F3 (Iu) rfl rfl rfl) ?_
 refine ac ?_
 refine co rfl (F3 (Iu) rfl rfl rfl) (co rfl (AH (xs:=[.tmp 9,.tmp 14]) (rows:=[[_],[_]]) rfl rfl underlying22 B7 z3 rfl (by decide) ⟨⟨(by exact rfl),(Vo rfl)⟩,⟨⟨(by exact rfl),(Vo rfl)⟩,trivial⟩⟩ (by decide)) ?_)
 refine co rfl (Ai rfl (XJ (l:=[An a.Bv b.Bv,An a.day b.day])) ⟨(Kf rfl),trivial⟩) ?_
 refine ac ?_
 refine Cg 4 rfl ?_
 refine ac ?_
 · exact int_eq (Gq _)
theorem P9:Entry Tryz.prog 57:=⟨_,Tryz.func57,rfl,rfl⟩
theorem R9 {l:List AO} (hf:∀f∈l,f.fits) (hl:l.length<50):Be prog 14 [BC l] (FZ [UH (OU l).1,int (OU l).2]):=by
 refine fo func14 rfl ⟨rfl,rfl⟩ fun M0 w0=>(Tr.Db 0 rfl fun DD=> ?_)
 haveI:=Classical.propDecidable (B_ l)
 refine a2 ?_
 refine co rfl (Eh (Ly (by assumption)) rfl rfl) ?_
 refine an ?_ ?_<;>intro h1 q1
 have hN:¬B_ l:=by simpa using h1
 refine ac ?_
 refine Tr.ret (Fin.AJ (Fin.EJ rfl (Bq.D3 _ _) rfl ?_ rfl ?_))
 · rw [IQ hN];exact AX 3
 · rw [IQ hN];exact Lr
 have hN:B_ l:=by simpa using h1
 refine ac ?_
 refine Tr.seq (Tr.Cq ?_)
 refine TO.ZE R6 rfl rfl (by decide) rfl (fun b1=> ?_)
 refine ao ?_
 refine ac ?_
 refine Tr.block (Tr.Ca [(4,_),(15,_),(16,_)] ⟨ke rfl,ke rfl,ke rfl,trivial⟩ (fun (k:Nat) (X:List Jh)=>[(17,int ((k:Nat):Int))]) (fun (k:Nat) (X:List Jh)=>Hp M0 w0 J9 (D6 R6 b1 (X.map Og)::GA Ue X)) (fun (k:Nat) (X:List Jh)=>k≤l.length∧X.map (·.c)=(l.take k).foldl FW []) (fun (k:Nat) (X:List Jh)=>l.length-k) (0) ([])  (⟨Nat.zero_le _,rfl⟩) ⟨ke rfl,trivial⟩ (fun _ _ h=>h) ?_)
 rintro k X  ⟨GJ,hX⟩
 refine ac ?_
 refine Tr.seq ?_
 refine Tr.cn rfl ?_ ?_<;>intro h2 q2
 have Au:k<l.length:=Af h2
 obtain ⟨f,Ae⟩:=at_ Au
 refine ac ?_
 refine Tr.seq (Tr.block (Tr.seq (Tr.Cq (tp rfl (AB rfl underlying31 AY (vl rfl) (vl rfl) (by omega) (by exact AZ (by assumption))) ?_))))
 refine tp rfl (Ap rfl BI AY (vl rfl) rfl rfl) ?_
 refine Tl rfl rfl rfl rfl Di Hq (fun b2=> ?_)
 refine sf 0 6 ⟨rfl,rfl,rfl⟩ rfl rfl rfl rfl ?_
 refine ao ?_
 refine ao ?_
 refine Tl rfl rfl rfl rfl jX X6 (fun b3=> ?_)
 refine sf 0 7 ⟨rfl,rfl,rfl⟩ rfl rfl rfl rfl ?_
 refine ao ?_
 refine FK 4 6 7 15 16 17 rfl ?_
 refine an ?_ ?_<;>intro h3 q3
 have hst:=Dm FW [] Ae
 rw [Ui (by omega)] at hst
 obtain ⟨X1,i,x,nC,hx,hlk,jE,jF,fI⟩:=Uf (f:=f) hX (Rz _)
 obtain ⟨nD,hxl⟩:=Wn (GZ (l:=l) k).1 (MM _ _ (by simp)) fI
 have c_:i<X1.length:=Bh hx
 refine Tr.ZI (res:=Ue) [_] rfl nC (Ug f) ?_
 refine Tr.focus [_] hx rfl (Tr.rx ?_)
 refine ay ?_
 refine DI 1 rfl rfl (OY ((f.machine,f.day)) I9 rfl (vl rfl) (vl rfl) (fun _ _ _ h=>Mm h)) ?_
 refine ay ?_
 refine Cx.ef 0 rfl rfl (by decide) (Ep rfl rfl (by decide) rfl (ZJ (l:=x.c.A7) (x:=f.host) nD (by omega)) ⟨⟨_,rfl,Pr.le_of_eq (by rw [hlk])⟩,ke rfl,trivial⟩) ?_
 refine Cx.DP 1 rfl rfl (P5 ((f.machine,f.day)) I9 rfl rfl rfl (vl rfl) (vl rfl) (fun _ _ _ h=>Mm h) rfl) ?_
 refine Cx.nil ⟨by kernel_rfl,?_⟩
 refine BJ.W7 0 1 36 rfl rfl (by decide) rfl (fun v1=> ?_)
 refine BJ.done Oe ?_
 refine ac ?_
 refine FB 4 15 16 17 rfl ?_
 refine ac ?_
 refine Fin.Jr (res:=Ue) [_] (⟨LJ x.c f,v1⟩:Jh) c_ rfl ?_
 exact Fin.Bw (k+1) (X1.set i ⟨LJ x.c f,v1⟩)  (⟨⟨by omega,by rw [hst];exact jF _⟩,by omega⟩) ⟨⟨_,rfl,AM k⟩,ke rfl,ke rfl,ke rfl,trivial⟩ (fun _ _ h=>by rw [←jE];exact h)
 have hst:=Dm FW [] Ae
 rw [Wo (by omega)] at hst
 refine a2 ?_
 exact Fin.Bw (k+1) (X)  (⟨⟨by omega,by rw [hst];exact hX⟩,by omega⟩) ⟨⟨_,rfl,AM k⟩,ke rfl,ke rfl,ke rfl,trivial⟩ (fun _ _ h=>h)
 obtain rfl:k=l.length:=(by have:=Ag h2;omega)
 rw [List.take_length] at hX
 have eu:(X.map Og).length<50:=by have h8:=congrArg List.length hX;have h9:=ML l [];rw [List.length_map] at h8 ⊢;rw [List.length_nil] at h9;omega
 refine a2 ?_
 refine Tr.seq (Tr.seq (Tr.Wl (fun x:Jh=>x.v) (fun x:Jh=>strs x.c.A7) [_] rfl Uh ?_))
 refine ao ?_
 refine TO.ZF I9 rfl rfl (by decide) rfl (vl rfl) (show _=some (D6 R6 _ _) from rfl:_[1]? =_) (fun b4=> ?_)
 refine ao ?_
 refine Tr.block (Tr.Mo 57 3 (Tr.NY [(39,_)] ⟨ke rfl,trivial⟩ (fun (seen:List Nat) v=>[(8,Aq v (lens ((P7 X seen).map AG).length))]) (fun (seen:List Nat) v=>Hp M0 w0 J9 ([Al 57 3 ((P7 X seen).map AG) v,FM b4 b1 (X.map Og).length seen,P6 (fun x:Jh=>x.v) (fun x:Jh=>strs x.c.A7) X,D6 R6 b1 (X.map Og)])) (fun (seen:List Nat)=>seen.Nodup∧∀q∈seen,q<(X.map Og).length) (fun (seen:List Nat)=>(X.map Og).length-seen.length) ([]) (.slice none 0 0) (⟨List.nodup_nil,fun q hq=>by cases hq⟩) ⟨⟨_,rfl,Hx (by rfl)⟩,trivial⟩ (fun _ _ h=>h) ?_))
 rintro seen v ⟨hnd,hlt⟩
 refine Tr.seq (Tr.Cq ?_)
 refine TO.dK (i:=1) (j:=3) rfl rfl (by decide) rfl (vl rfl) rfl rfl (fun dN=> ?_) (fun q1 p1 hq1 hn1=> ?_)
 refine ao ?_
 refine ac ?_
 refine ao ?_
 refine TO.DZ 0 rfl rfl (by decide) (Ab rfl rfl (by decide) rfl (Ua (c:=fun p=>B3 p.1 p.2) Ct.mG (Nat.lt_of_le_of_lt (Nat.le_trans (OZ ..) (Iv hnd hlt)) eu)) ⟨(Ka rfl),⟨_,rfl,BW P9 (fun _=>P8)⟩,trivial⟩) ?_
 refine TO.S7 0 8 rfl rfl (fun _=>rfl) (fun t1 F_=> ?_)
 have Y6:=F_.len
 have hsp:=PV Ct F_
 have hst:t1=UI l:=Pz (hsp.1.trans (by rw [←hX];exact R8 hnd (by simpa using hlt) (by simpa using dN))) hsp.2
 refine ao ?_
 refine ac ?_
 refine Tr.ret (Fin.EJ rfl (Bq.D3 _ _) rfl ?_ rfl ?_)
 · rw [J2 hN];exact Pr.le_trans (BP _ _) (Pr.le_of_eq (by rw [hst]))
 · rw [J2 hN];exact Lr
 refine ao ?_
 refine ac ?_
 refine Tr.block (Tr.seq (Tr.Cq ?_))
 refine TO.ZG (i:=1) (j:=3) rfl rfl (by decide) rfl (vl rfl) rfl rfl hq1 (Wm _) ?_
 refine ao ?_
 refine Tl rfl rfl rfl rfl jX X6 (fun b5=> ?_)
 refine sf 0 9 ⟨rfl,rfl,rfl⟩ rfl rfl rfl rfl ?_
 refine ao ?_
 refine Tr.seq ?_
 obtain ⟨x,e8,rfl⟩:∃x,X[q1]? =some x∧Og x=p1:=by rw [List.getElem?_map,Option.map_eq_some_iff] at hq1;exact hq1
 have hof:=R7 X seen q1
 rw [e8] at hof
 have jf:=Nat.le_trans (OZ X seen) (Iv hnd hlt)
 refine Tr.jC 2 10 rfl (List.mem_of_getElem? e8) rfl (Lr) ?_
 refine ac ?_
 refine HJ 8 9 10 39 47 rfl ?_
 refine Tr.cn rfl ?_ ?_<;>intro h4 q4
 refine ao ?_
 refine TO.On 0 rfl rfl (by decide) (Gj rfl rfl (by decide) rfl underlying39 AQ KV NN rfl (by decide) (by decide) (vl rfl) (Kf rfl) (Aj fun _=>rfl) (Nat.zero_lt_succ _) (by simp only [List.length_map,List.length_cons,List.length_nil];unfold maxLen;omega) (by simp only [List.length_map,List.length_cons,List.length_nil];omega)) (fun v2=> ?_)
 refine ao ?_
 rw [show ((some x).bind fun x:Jh=>if DG x.c then some x.c else none)=_ from Uj (by omega)] at hof
 exact Fin.Fe (seen++[q1]) v2 (L4 hnd hlt hn1 (by rw [List.length_map];exact CD e8)) ⟨⟨_,rfl,Gm (by rw [hof,List.map_append,List.length_append];rfl)⟩,ke rfl,trivial⟩ (fun _ _ h=>Nr (by rw [hof,List.map_append];rfl) h)
 refine Tr.skip (Fin.block ?_)
 rw [show ((some x).bind fun x:Jh=>if DG x.c then some x.c else none)=_ from Wp (by omega)] at hof
 exact Fin.Fe (seen++[q1]) v (L4 hnd hlt hn1 (by rw [List.length_map];exact CD e8)) ⟨⟨_,rfl,Gm (by rw [hof,List.map_append,List.length_append];rfl)⟩,ke rfl,trivial⟩ (fun _ _ h=>Nr (by rw [hof,List.map_append];simp) h)
end Go.Proofs.YtgilhkjlfongoaaGreat
namespace Cp
open Go Go.RowKit Go.Great
section
variable {P:Program} {L:Lg P} {n:Fm} {E:Env} {M0:Av} {w0:World} {S:Nat→Prop} {rs:List Ao} {o:Oper} {Q:Exit→Act→World→Prop} {c:Code}
theorem C3 {α:Type} {f:α→List Pr} {l:List α} {j:Nat} {x:α} (h:l[j]? =some x):(l.map f)[((j:Nat):Int).toNat]? =some (f x):=by rw [Int.toNat_natCast,List.getElem?_map,h];rfl
theorem Dn {t:TypeId} {x:Operand} {sz j i q:Nat} {T:TypeId} {rows:List (List Pr)} {row:List Pr} {p:Pr} {v:Value} (ho:o.op= .load t x) (ht:FE P t=true) (hx:VL E x (YO sz v i q)) (hl:∀r∈rows,r.length=sz) (hi:rows[i]? =some row) (hp:row[q]? =some p):
  F5 P M0 w0 S j (SR.c (A3 T sz rows v)) o E p:=by
 intro M w a rs he hI hj
 obtain ⟨a0,m0,c0,SY,h1⟩:=hx.ev he (by simp [ho,Op.operands])
 have hj':rs[j]? =some (A3 T sz rows v):=hj
 rcases (hI.hold _ (List.mem_of_getElem? hj')).1 with ⟨rfl,A,hv⟩|⟨b,cap,spare,hv,hnc,hcm,hsp,⟨_,cs,h4,h5,h6⟩⟩
 · simp at hi
 ·
  rw [SY] at hv
  injection hv with e1 e2 e3
  injection e1 with e1
  subst e1
  have hrl:=hl row (List.mem_of_getElem? hi)
  have hq:q<sz:=by rw [←hrl];exact CD hp
  have h7:(rows.flatten++spare.map is)[i*sz+q]? =some p:=by
   have CS:=CD hi
   have hle:(i+1)*sz≤rows.length*sz:=Nat.mul_le_mul_right sz CS
   rw [Nat.succ_mul] at hle
   rw [List.getElem?_append_left (by rw [Bu hl];omega),Ff hl hi hq];exact hp
  obtain ⟨u,hu,hh⟩:=h5.at_ _ _ h7
  have hc:w.cell? ((⟨b,0,none⟩:Addr).add (i*sz+q))=some u:=by rw [CH];simp [World.cell?,h4,hu]
  have hrun:(execOp a.eval o).run P w= .ok (.value u) w:=by simp [execOp,ho,h1,Instr.loadAt,Instr.sureAddr,loadVar,Dq ht,hc]
  rw [hrun]
  exact ⟨hh,Below.refl _ _⟩
theorem Tr.Fz {e:TypeId} {sz:Nat} {rows:List (List Pr)} {v:Value} {p:Pr} (j s:Nat) (hj:rs[j]? =some (A3 e sz rows v)) (hl:∀r∈rows,r.length=sz) (hs:E.lookup s=some p) (hp:Pr.le p (is v)) (k:Tr L n ((s,slice sz rows)::E) (Hp M0 w0 S (rs.set j BT)) c Q):Tr L n E (Hp M0 w0 S rs) c Q:=by
 intro a w ha
 obtain ⟨M,k1,k2,k3,k4⟩:=ha
 have k4:Am M0 w0 S rs M w:=k4
 obtain ⟨M1,h1,h2,h3⟩:=k4.YN hj hl
 refine k a w ⟨M1,k1,k2,fun t q hq=> ?_,h2⟩
 simp only [List.lookup] at hq
 split at hq
 ·
  rename_i e1
  have:t=s:=by simpa using e1
  subst this
  simp only [Option.some.injEq] at hq
  subst hq
  have h4:_=v:=hp _ _ _ (k3 t p hs)
  rw [h4];exact h3
 · exact q.st _ _ _ _ _ h1 (k3 t q hq)
theorem Tr.R_ {e:TypeId} {sz:Nat} {rows:List (List Pr)} {v:Value} (j:Nat) (AV:List (List Pr)) (hj:rs[j]? =some (A3 e sz rows v)) (h:rows=AV) (k:Tr L n E (Hp M0 w0 S (rs.set j (A3 e sz AV v))) c Q):Tr L n E (Hp M0 w0 S rs) c Q:=by
 subst h
 have e1:rs.set j (A3 e sz rows v)=rs:=by
  apply List.ext_getElem?
  intro i
  rw [List.getElem?_set]
  split
  · rename_i hij;subst hij;first|exact hj.symm|(rw [if_pos (CD hj)];exact hj.symm)
  · rfl
 rwa [e1] at k
theorem Fin.R_ {x:Exit} {e:TypeId} {sz:Nat} {rows:List (List Pr)} {v:Value} (j:Nat) (AV:List (List Pr)) (hj:rs[j]? =some (A3 e sz rows v)) (h:rows=AV) (k:Fin n E (Hp M0 w0 S (rs.set j (A3 e sz AV v))) Q x):Fin n E (Hp M0 w0 S rs) Q x:=by
 subst h
 have e1:rs.set j (A3 e sz rows v)=rs:=by
  apply List.ext_getElem?
  intro i
  rw [List.getElem?_set]
  split
  · rename_i hij;subst hij;first|exact hj.symm|(rw [if_pos (CD hj)];exact hj.symm)
  · rfl
 rwa [e1] at k
theorem Q_ {M:Av} {w:World} {t ty e:TypeId} {sz bytes:Nat} {zs:List Value} {rows AV:List (List Pr)} {v u:Value} {j:Nat} (ht:P.underlying t=some (.slice e)) (hz:Ax P e=some sz) (hby:Bx P e=some bytes) (C1:Bb P e=some zs) (hzl:zs.length=sz) (hone:zs.all (·.oneCell')=true) (hsz:0<sz)
  (h:Am M0 w0 S rs M w) (hj:rs[j]? =some (A3 e sz rows v)) (hl:∀r∈rows,r.length=sz) (hu:(slice sz AV).h M w u) (CY:rows.length+AV.length≤maxLen) (hfit:(rows.length+AV.length)*bytes≤140737488355328):
  ∃v' w' M',(Builtin.append_ #[t,t] ty #[v,u]).run P w= .ok v' w'∧(lens (rows.length+AV.length)).h M' w' v'∧Ext M w M' w'∧Am M0 w0 S (rs.set j (A3 e sz (rows++AV) v')) M' w':=by
 have hjl:=CD hj
 rcases Nat.eq_zero_or_pos AV.length with h0|h0
 ·
  have dc:AV=[]:=List.eq_nil_of_length_eq_zero h0
  subst dc
  obtain ⟨A',c',hu,_⟩:=hu
  have hv:∃A c,v= .slice A rows.length c∧rows.length≤c:=by
   rcases (h.hold _ (List.mem_of_getElem? hj)).1 with ⟨rfl,A,rfl⟩|⟨b,cap,sp,rfl,h2,_⟩
   · exact ⟨A,0,rfl,Nat.le_refl _⟩
   · exact ⟨_,_,rfl,h2⟩
  obtain ⟨A,c,FX,F7⟩:=hv
  have hrun:=F1 (P:=P) (ty:=ty) (A:=A) (A':=A') (n:=rows.length) (c:=c) (c':=c') ht hz F7 w
  refine ⟨v,w,M,by rw [hu,FX];exact hrun,⟨A,c,by rw [FX];rfl⟩,Ext.refl _ _,?_⟩
  rw [List.append_nil]
  have nE:rs.set j (A3 e sz rows v)=rs:=by
   apply List.ext_getElem?
   intro i
   rw [List.getElem?_set]
   split
   · rename_i hij;subst hij;first|exact hj.symm|(rw [if_pos hjl];exact hj.symm)
   · rfl
  rw [nE];exact h
 ·
  rcases (h.hold _ (List.mem_of_getElem? hj)).1 with ⟨rfl,A,rfl⟩|⟨b,cap,sp,rfl,h2,h3,h4,h5⟩
  ·
   have h1:=h.blank hj
   obtain ⟨v',w',M',hrun,g1,g2,g3⟩:=Ni A (ty:=ty) ht hz hby C1 hzl hone hsz h1 (List.getElem?_set_self hjl) hu h0 (by simpa using CY) (by simpa using hfit)
   rw [List.set_set] at g3
   have g4:=g3.Bt (r':=Al e sz ([]++AV) v') (List.getElem?_set_self hjl) rfl rfl (.inr (g3.hold _ (List.mem_of_getElem? (List.getElem?_set_self hjl))).1)
   rw [List.set_set] at g4
   have g5:=Am.JU g4 (List.getElem?_set_self hjl)
   rw [List.set_set] at g5
   exact ⟨v',w',M',hrun,by simpa using g1,g2,g5⟩
  ·
   have h6:=h.OX (r':=Al e sz rows (.slice (some ⟨b,0,none⟩) rows.length (cap+1))) hj (fun b hb=>hb) rfl (.inr ⟨b,cap+1,sp,rfl,h2,h3,h4,h5⟩)
   obtain ⟨v',w',M',hrun,g1,g2,g3⟩:=Qc (ty:=ty) ht hz hby C1 hzl hone hsz h6 (List.getElem?_set_self hjl) hl hu h0 CY hfit
   rw [List.set_set] at g3
   have g5:=Am.JU g3 (List.getElem?_set_self hjl)
   rw [List.set_set] at g5
   exact ⟨v',w',M',hrun,g1,g2,g5⟩
theorem DA {t e:TypeId} {x y:Operand} {sz' sz bytes d:Nat} {zs:List Value} {rows:List (List Pr)} {j:Nat} (hg:o.guard=none) (hd:o.dst=some d) (hn:d<n) (ho:o.op= .call { callee:= .builtin .append,args:= #[x,y],argTypes:= #[t,t] })
  (ht:P.underlying t=some (.slice e)) (hz:Ax P e=some sz) (hby:Bx P e=some bytes) (C1:Bb P e=some zs) (hzl:zs.length=sz) (hone:zs.all (·.oneCell')=true) (hsz:0<sz)
  (hx:VL E x (full sz' [])) (hy:VL E y (slice sz rows)) (CY:rows.length≤maxLen) (hfit:rows.length*bytes≤140737488355328):DH P M0 w0 S n j (SR.c BT) ⟨d,A3 e sz rows⟩ o E (lens rows.length):=by
 refine ⟨hg,fun M w a rs Hh he hI hj=> ?_⟩
 have h2:=hy.ev he (by simp [ho,Op.operands,Call.operands])
 obtain ⟨_,A,h1⟩:=hx.ev he (by simp [ho,Op.operands,Call.operands])
 simp only [List.length_nil] at h1
 have hj':rs[j]? =some BT:=hj
 have hjl:=CD hj'
 have h3:=hI.OX (r':=A3 e sz [] (.slice A 0 0)) hj' (fun b hb=>by cases A<;>cases hb) rfl (.inl ⟨rfl,A,rfl⟩)
 obtain ⟨v',w',M',hrun,g1,g2,g3⟩:=Q_ (ty:=o.type) ht hz hby C1 hzl hone hsz h3 (List.getElem?_set_self hjl) (fun r hr=>by cases hr) h2 (by simpa using CY) (by simpa using hfit)
 rw [List.set_set] at g3
 have CZ:(execOp a.eval o).run P w= .ok (.value v') w':=by simp [execOp,ho,resolve,invoke,builtin,h1,hrun]
 rw [CZ]
 refine ⟨M',by simpa using g1,g2,?_⟩
 have:(SR.at_ (a.put o.dst v') ⟨d,A3 e sz rows⟩)=A3 e sz rows v':=by unfold SR.at_ Slot.val;dsimp only;rw [hd,A_ (by rw [Hh];exact hn)]
 rw [this];exact g3
theorem Bk {t e:TypeId} {s:Tmp} {y:Operand} {sz bytes d:Nat} {zs:List Value} {rows AV:List (List Pr)} {j:Nat} (hg:o.guard=none) (hd:o.dst=some d) (hn:d<n) (ho:o.op= .call { callee:= .builtin .append,args:= #[.tmp s,y],argTypes:= #[t,t] })
  (ht:P.underlying t=some (.slice e)) (hz:Ax P e=some sz) (hby:Bx P e=some bytes) (C1:Bb P e=some zs) (hzl:zs.length=sz) (hone:zs.all (·.oneCell')=true) (hsz:0<sz)
  (hy:VL E y (slice sz AV)) (hl:∀r∈rows,r.length=sz) (CY:rows.length+AV.length≤maxLen) (hfit:(rows.length+AV.length)*bytes≤140737488355328):DH P M0 w0 S n j ⟨s,A3 e sz rows⟩ ⟨d,A3 e sz (rows++AV)⟩ o E (lens (rows.length+AV.length)):=by
 refine ⟨hg,fun M w a rs Hh he hI hj=> ?_⟩
 have h2:=hy.ev he (by simp [ho,Op.operands,Call.operands])
 have hj':rs[j]? =some (A3 e sz rows (a.eval (.tmp s))):=hj
 obtain ⟨v',w',M',hrun,g1,g2,g3⟩:=Q_ (ty:=o.type) ht hz hby C1 hzl hone hsz hI hj' hl h2 CY hfit
 have CZ:(execOp a.eval o).run P w= .ok (.value v') w':=by simp [execOp,ho,resolve,invoke,builtin,hrun]
 rw [CZ]
 refine ⟨M',g1,g2,?_⟩
 have:(SR.at_ (a.put o.dst v') ⟨d,A3 e sz (rows++AV)⟩)=A3 e sz (rows++AV) v':=by unfold SR.at_ Slot.val;dsimp only;rw [hd,A_ (by rw [Hh];exact hn)]
 rw [this];exact g3
end
end Cp
namespace Go.Proofs.YtgilhkjlfongoaaGreat
open Go Go.RowKit Cp Go.Proofs.Tryz
theorem LO (f:AO):Pr.le (full 3 [[int f.machine,int f.day,is (.slice none 0 0)]]) (slice 3 [AG (Dl f)]):=
 Pr.le_trans (BO _ _) (NW ⟨⟨Pr.le_refl _,Pr.le_refl _,AX 1,trivial⟩,trivial⟩)
theorem Uk {S:List Az} {f:AO} (h:¬f.machine=0):B4 S f=(Eb S f).map (FA f):=if_neg h
theorem Wq {S:List Az} {f:AO} (h:f.machine=0):B4 S f=S:=if_pos h
theorem Wr {S:List Az} (h:Cu S):WV S:=h.imp fun h0=>by omega
theorem Oa {S:List Az} {f:AO} {j:Nat} {y:Az} (hy:S[j]? =some y) (hs:Ea f y=true):Eb S f=S:=by
 unfold Eb
 rw [if_pos]
 unfold GD;rw [List.any_eq_true]
 exact ⟨y,List.mem_of_getElem? hy,hs⟩
theorem LP {S:List Az} {f:AO} {j:Nat} (hS:Cu S) (hj:j≤S.length) (hlt:∀(i:Nat) y,i<j→S[i]? =some y→B3 y (Dl f)<0) (hge:∀y,S[j]? =some y→¬B3 y (Dl f)<0) (hno:∀y,S[j]? =some y→¬B3 y (Dl f)=0):Eb S f=S.take j++[Dl f]++S.drop j:=by
 have hin:GD f S=false:=by
  unfold GD;rw [List.any_eq_false]
  intro y hy hk
  have h0:B3 y (Dl f)=0:=EZ.2 (of_decide_eq_true hk)
  obtain ⟨i,hi,rfl⟩:=List.mem_iff_getElem.1 hy
  rcases Nat.lt_trichotomy i j with h1|h1|h1
  · have:=hlt i _ h1 (List.getElem?_eq_getElem hi);omega
  · subst h1;exact hno _ (List.getElem?_eq_getElem hi) h0
  ·
   have hjl:j<S.length:=by omega
   have h2:=List.pairwise_iff_getElem.1 hS j i hjl hi h1
   have h3:=Ct.j9 S[j] S[i] (Dl f) h0
   exact hge _ (List.getElem?_eq_getElem hjl) (by omega)
 unfold Eb
 rw [hin,if_neg (by decide),Gv hj hlt hge,if_neg]
 · simp
 ·
  cases hy:S[j]? with
  |none=>simp
  |some y=>simpa using hno y hy
theorem NK {S:List Az} {f:AO} {j:Nat} (hj:j≤S.length) (h:Eb S f=S.take j++[Dl f]++S.drop j):(Eb S f)[j]? =some (Dl f)∧Ea f (Dl f)=true:=by
 refine ⟨?_,by unfold Ea;simp⟩
 rw [h,List.append_assoc,List.getElem?_append_right (by rw [List.length_take];omega),List.length_take,Nat.min_eq_left hj,Nat.sub_self];rfl
theorem Ws {l:List AO} {k:Nat} {f:AO} {y:Az} (h:y∈Eb ((l.take k).foldl B4 []) f):y.A7.length≤k:=by
 have hS:=(GZ (l:=l) k).2
 unfold Eb at h
 cases hk:GD f ((l.take k).foldl B4 []) with
 |true=>rw [hk,if_pos rfl] at h;exact hS y h
 |false=>
  rw [hk,if_neg (by decide)] at h
  have h:=(Ec (J1 hk)).mem_iff.1 h
  rcases List.mem_append.1 h with h|h
  · exact hS y h
  · rw [List.mem_singleton] at h;subst h;exact Nat.zero_le _
theorem J3 {l:List Az} {k:Nat}:∀r∈(l.map AG).take k,r.length=3:=fun r hr=>Aj (f:=AG) (fun _=>rfl) r (List.mem_of_mem_take hr)
theorem LQ {l:List Az} {k:Nat} {y:Az}:∀r∈(l.map AG).take k++[AG y],r.length=3:=fun r hr=>by
 rcases List.mem_append.1 hr with h9|h9
 · exact J3 r h9
 · rw [List.mem_singleton] at h9;subst h9;rfl
theorem Wt {l:List Az} {j:Nat} {y:Az} {h:List (List UInt8)}:(l.map AG).set ((j:Nat):Int).toNat ((AG y).take 2++[strs h]++(AG y).drop (2+1))=(l.set j ⟨y.Bv,y.day,h⟩).map AG:=by
 rw [Int.toNat_natCast,List.map_set];rfl
theorem Ul {l:List Az} {k:Nat} {y:Az} (hy:l[k]? =some y) (h:1<y.A7.length):(l.take (k+1)).filter DG=(l.take k).filter DG++[y]:=by
 rw [List.take_add_one,hy,List.filter_append]
 congr 1
 exact List.filter_cons_of_pos (decide_eq_true h)
theorem Wu {l:List Az} {k:Nat} {y:Az} (hy:l[k]? =some y) (h:¬1<y.A7.length):(l.take (k+1)).filter DG=(l.take k).filter DG:=by
 rw [List.take_add_one,hy,List.filter_append]
 show _++[y].filter DG=_
 rw [List.filter_cons_of_neg (by rw [decide_eq_true_eq];exact h)]
 exact List.append_nil _
theorem Ob {l:List AO} (Jx:l.length≤400):Be prog 15 [BC l] (FZ [UH (OU l).1,int (OU l).2]):=by
 refine fo func15 rfl ⟨rfl,rfl⟩ fun M0 w0=>(Tr.Db 0 rfl fun DD=> ?_)
 haveI:=Classical.propDecidable (B_ l)
 refine a2 ?_
 refine co rfl (Eh (JR) rfl rfl) ?_
 refine an ?_ ?_<;>intro h1 q1
 have hN:¬B_ l:=by simpa using h1
 refine ac ?_
 refine Tr.ret (Fin.AJ (Fin.EJ rfl (Bq.D3 _ _) rfl ?_ rfl ?_))
 · rw [IQ hN];exact AX 3
 · rw [IQ hN];exact Lr
 have hN:B_ l:=by simpa using h1
 refine a3 ?_
 refine Tr.block (Tr.Mo 57 3 (Tr.JU 0 rfl (Tr.Ca [(0,_)] ⟨ke rfl,trivial⟩ (fun (k:Nat) (v:Value)=>[(5,int ((k:Nat):Int)),(4,is v)]) (fun (k:Nat) (v:Value)=>Hp M0 w0 J9 ([A3 57 3 (((l.take k).foldl B4 []).map AG) v])) (fun (k:Nat) (v:Value)=>k≤l.length) (fun (k:Nat) (v:Value)=>l.length-k) (0) ((.slice none 0 0))  (Nat.zero_le _) ⟨ke rfl,ke rfl,trivial⟩ (fun _ _ h=>h) ?_)))
 rintro k v  GJ
 refine an ?_ ?_<;>intro h2 q2
 have Au:k<l.length:=Af h2
 obtain ⟨f,Ae⟩:=at_ Au
 have hS:=EC (l.take k) [] .nil
 have nF:=I8 (l.take k) []
 rw [List.length_nil,List.length_take] at nF
 have hml:(((l.take k).foldl B4 []).map AG).length=((l.take k).foldl B4 []).length:=List.length_map ..
 refine a2 ?_
 refine co rfl (AB rfl underlying31 AY (vl rfl) (vl rfl) (by omega) (AZ Ae)) ?_
 refine an ?_ ?_<;>intro h3 q3
 have hst:=Dm B4 [] Ae
 rw [Wq (by omega)] at hst
 refine a2 ?_
 exact Fin.Bw (k+1) (v)  (⟨by omega,by omega⟩) ⟨⟨_,rfl,AM k⟩,ke rfl,ke rfl,trivial⟩ (fun _ _ h=>by rw [hst];exact h)
 have hmn:¬f.machine=0:=q3
 refine a2 ?_
 refine FB 0 4 5 6 rfl (Tr.Mr [(0,_),(4,_),(5,_)] ⟨ke rfl,ke rfl,ke rfl,trivial⟩ (fun (j:Nat)=>[(6,int ((j:Nat):Int))]) (fun (j:Nat)=>Hp M0 w0 J9 ([A3 57 3 (((l.take k).foldl B4 []).map AG) v])) (fun (j:Nat)=>j≤((l.take k).foldl B4 []).length∧(∀(i:Nat) y,i<j→((l.take k).foldl B4 [])[i]? =some y→B3 y (Dl f)<0)∧(∀y,((l.take k).foldl B4 [])[j]? =some y→¬B3 y (Dl f)<0)) ?_ ?_)
 refine Tr.block (Tr.BV [(0,_),(4,_),(5,_)] (RI rfl) (fun i:Nat=>[(6,int ((i:Nat):Int))]) (fun i:Nat=>i≤((l.take k).foldl B4 []).length∧∀(q:Nat) y,q<i→((l.take k).foldl B4 [])[q]? =some y→B3 y (Dl f)<0) (fun i:Nat=>((l.take k).foldl B4 []).length-i) 0 (⟨Nat.zero_le _,fun q y h=>absurd h (Nat.not_lt_zero _)⟩) ⟨ke rfl,trivial⟩ ?_)
 rintro i ⟨CS,Um⟩
 refine ac ?_
 refine co rfl (Ay 0 rfl (Gp rfl underlying39 (vl rfl))) ?_
 refine ag ?_ ?_<;>intro h4 q4
 obtain ⟨y,hy⟩:=at_ (l:=((l.take k).foldl B4 [])) (k:=i) (by omega)
 refine ac ?_
 refine cy h4 rfl (Ay 0 rfl (C8 rfl underlying39 AQ (vl rfl) (vl rfl) (by omega) (by rw [List.length_map];omega))) ?_
 refine cy h4 rfl (Cl rfl Mj (vl rfl)) (cy h4 rfl (Ay 0 rfl (Dn rfl Cr (vl rfl) (Aj fun _=>rfl) (C3 hy) rfl)) ?_)
 refine ac ?_
 refine cy h4 rfl (AB rfl underlying31 AY (vl rfl) (vl rfl) (by omega) (AZ Ae)) ?_
 refine ag ?_ ?_<;>intro h5 q5
 refine ac ?_
 refine HJ 0 4 5 6 66 rfl ?_
 refine a2 ?_
 exact Fin.AF (i+1) ⟨⟨by omega,fun q w h1 h2=>by rcases Nat.lt_or_eq_of_le (show q≤i by omega) with h3|h3;exact Um q w h3 h2;(subst h3;rw [hy] at h2;cases h2;rw [IM];show y.Bv<f.machine∨y.Bv=f.machine∧y.day<f.day;omega)⟩,by omega⟩ ⟨⟨_,rfl,AM i⟩,ke rfl,ke rfl,ke rfl,trivial⟩
 refine ac ?_
 refine cy h5 rfl (Ay 0 rfl (C8 rfl underlying39 AQ (vl rfl) (vl rfl) (by omega) (by rw [List.length_map];omega))) ?_
 refine cy h5 rfl (Cl rfl Mj (vl rfl)) (cy h5 rfl (Ay 0 rfl (Dn rfl Cr (vl rfl) (Aj fun _=>rfl) (C3 hy) rfl)) ?_)
 refine ac ?_
 refine cy h5 rfl (AB rfl underlying31 AY (vl rfl) (vl rfl) (by omega) (AZ Ae)) ?_
 refine ag ?_ ?_<;>intro h6 q6
 refine ac ?_
 refine cy h6 rfl (Ay 0 rfl (C8 rfl underlying39 AQ (vl rfl) (vl rfl) (by omega) (by rw [List.length_map];omega))) ?_
 refine cy h6 rfl (Cl rfl O2 (vl rfl)) (cy h6 rfl (Ay 0 rfl (Dn rfl Cr (vl rfl) (Aj fun _=>rfl) (C3 hy) rfl)) ?_)
 refine ac ?_
 refine cy h6 rfl (AB rfl underlying31 AY (vl rfl) (vl rfl) (by omega) (AZ Ae)) ?_
 refine ac ?_
 refine HJ 0 4 5 6 66 rfl ?_
 refine Tr.cn rfl ?_ ?_<;>intro h7 q7
 have:=h7
 refine a2 ?_
 exact Fin.AF (i+1) ⟨⟨by omega,fun q w h1 h2=>by rcases Nat.lt_or_eq_of_le (show q≤i by omega) with h3|h3;exact Um q w h3 h2;(subst h3;rw [hy] at h2;cases h2;rw [IM];show y.Bv<f.machine∨y.Bv=f.machine∧y.day<f.day;omega)⟩,by omega⟩ ⟨⟨_,rfl,AM i⟩,ke rfl,ke rfl,ke rfl,trivial⟩
 have:=h7
 refine Tr.exit (Fin.AK (Fin.AK (Fin.Aa ?_)))
 exact Fin.Ds (i)  (⟨by omega,Um,fun z hz=>by rw [hy] at hz;cases hz;rw [IM];show ¬(y.Bv<f.machine∨y.Bv=f.machine∧y.day<f.day);omega⟩) ⟨ke rfl,ke rfl,ke rfl,ke rfl,trivial⟩ (fun _ _ h=>h)
 refine ac ?_
 refine HJ 0 4 5 6 66 rfl (Tr.cond rfl (fun h=>nomatch h) (fun _=> ?_))
 refine Tr.exit (Fin.AK (Fin.AK (Fin.Aa ?_)))
 exact Fin.Ds (i)  (⟨by omega,Um,fun z hz=>by rw [hy] at hz;cases hz;rw [IM];show ¬(y.Bv<f.machine∨y.Bv=f.machine∧y.day<f.day);omega⟩) ⟨ke rfl,ke rfl,ke rfl,ke rfl,trivial⟩ (fun _ _ h=>h)
 refine ac ?_
 refine HJ 0 4 5 6 66 rfl (Tr.cond rfl (fun h=>nomatch h) (fun _=> ?_))
 refine Tr.exit (Fin.AK (Fin.AK (Fin.Aa ?_)))
 exact Fin.Ds (i)  (⟨by omega,Um,fun z hz=>by rw [List.getElem?_eq_none (by omega)] at hz;cases hz⟩) ⟨ke rfl,ke rfl,ke rfl,ke rfl,trivial⟩ (fun _ _ h=>h)
 rintro j  ⟨hjl,hlt,hge⟩
 refine Tr.Mr [(0,_),(5,_),(6,_)] ⟨ke rfl,ke rfl,ke rfl,trivial⟩ (fun (v2:Value)=>[(4,is v2)]) (fun (v2:Value)=>Hp M0 w0 J9 ([A3 57 3 ((Eb ((l.take k).foldl B4 []) f).map AG) v2])) (fun (v2:Value)=>∃y,(Eb ((l.take k).foldl B4 []) f)[j]? =some y∧Ea f y=true) ?_ ?_
 refine ac ?_
 refine co rfl (Ay 0 rfl (Gp rfl underlying39 (vl rfl))) ?_
 refine ag ?_ ?_<;>intro h8 q8
 refine ac ?_
 refine HJ 0 4 5 6 98 rfl (Tr.cond rfl (fun _=> ?_) (fun h=>nomatch h))
 have hno:∀z,((l.take k).foldl B4 [])[j]? =some z→¬B3 z (Dl f)=0:=fun z hz=>by rw [List.getElem?_eq_none (by omega)] at hz;cases hz
 have hput:=LP hS hjl hlt hge hno
 have hpa:=NK hjl hput
 refine Tr.Fz 0 4 rfl (Aj fun _=>rfl) rfl (Lr) (Tr.rx (xo rfl (fun _=>AH (xs:=[]) (rows:=[]) rfl rfl underlying39 AQ NN rfl (by decide) trivial (by decide)) ?_))
 refine ax ?_
 refine xo rfl (fun _=>BM rfl underlying39 AQ (vl rfl) (vl rfl) (by omega) (by rw [List.length_map];omega)) ?_
 refine Cx.ef 0 rfl rfl (by decide) (DA rfl rfl (by decide) rfl underlying39 AQ KV NN rfl (by decide) (by decide) (vl rfl) (vl rfl) (by rw [List.length_take,List.length_map];unfold maxLen;omega) (by rw [List.length_take,List.length_map];omega)) ?_
 refine ax ?_
 refine xo rfl (fun _=>AB rfl underlying31 AY (vl rfl) (vl rfl) (by omega) (AZ Ae)) ?_
 refine ax ?_
 refine xo rfl (fun _=>AB rfl underlying31 AY (vl rfl) (vl rfl) (by omega) (AZ Ae)) ?_
 refine ax ?_
 refine xo rfl (fun _=>AH (xs:=[.tmp 114]) (rows:=[_]) rfl rfl underlying39 AQ NN rfl (by decide) ⟨⟨(by exact rfl),(Va rfl)⟩,trivial⟩ (by decide)) ?_
 refine Cx.ef 0 rfl rfl (by decide) (Bk rfl rfl (by decide) rfl underlying39 AQ KV NN rfl (by decide) (by decide) ⟨_,rfl,LO f⟩ J3 (by simp only [List.length_take,List.length_map,List.length_cons,List.length_nil];unfold maxLen;omega) (by simp only [List.length_take,List.length_map,List.length_cons,List.length_nil];omega)) ?_
 refine ax ?_
 refine xo rfl (fun _=>At rfl underlying39 AQ (vl rfl) (vl rfl) (by omega) (by rw [List.length_map];omega)) ?_
 refine Cx.ef 0 rfl rfl (by decide) (Bk rfl rfl (by decide) rfl underlying39 AQ KV NN rfl (by decide) (by decide) (vl rfl) LQ (by simp only [List.length_append,List.length_take,List.length_drop,List.length_map,List.length_cons,List.length_nil];unfold maxLen;omega) (by simp only [List.length_append,List.length_take,List.length_drop,List.length_map,List.length_cons,List.length_nil];omega)) ?_
 refine Cx.ef 0 rfl rfl (by decide) (B6 rfl rfl (by decide) rfl (vl rfl)) ?_
 refine Cx.nil ⟨by kernel_rfl,?_⟩
 refine BJ.open_ 0 4 rfl rfl (fun v1=> ?_)
 refine BJ.done eI ?_
 refine Fin.R_ 0 ((Eb ((l.take k).foldl B4 []) f).map AG) rfl (by rw [hput,Int.toNat_natCast,List.map_append,List.map_append,List.map_take,List.map_drop];rfl) ?_
 exact Fin.Ds (_)  (⟨_,hpa⟩) ⟨⟨_,rfl,fun _ _ _ h=>h.1⟩,ke rfl,ke rfl,ke rfl,trivial⟩ (fun _ _ h=>h)
 obtain ⟨y,hy⟩:=at_ (l:=((l.take k).foldl B4 [])) (k:=j) (by omega)
 refine ac ?_
 refine cy h8 rfl (Ay 0 rfl (C8 rfl underlying39 AQ (vl rfl) (vl rfl) (by omega) (by rw [List.length_map];omega))) ?_
 refine cy h8 rfl (Cl rfl Mj (vl rfl)) (cy h8 rfl (Ay 0 rfl (Dn rfl Cr (vl rfl) (Aj fun _=>rfl) (C3 hy) rfl)) ?_)
 refine ac ?_
 refine cy h8 rfl (AB rfl underlying31 AY (vl rfl) (vl rfl) (by omega) (AZ Ae)) ?_
 refine ag ?_ ?_<;>intro h9 q9
 refine ac ?_
 refine HJ 0 4 5 6 98 rfl (Tr.cond rfl (fun _=> ?_) (fun h=>nomatch h))
 have hno:∀z,((l.take k).foldl B4 [])[j]? =some z→¬B3 z (Dl f)=0:=fun z hz=>by rw [hy] at hz;cases hz;rw [EZ];show ¬(y.Bv=f.machine∧y.day=f.day);omega
 have hput:=LP hS hjl hlt hge hno
 have hpa:=NK hjl hput
 refine Tr.Fz 0 4 rfl (Aj fun _=>rfl) rfl (Lr) (Tr.rx (xo rfl (fun _=>AH (xs:=[]) (rows:=[]) rfl rfl underlying39 AQ NN rfl (by decide) trivial (by decide)) ?_))
 refine ax ?_
 refine xo rfl (fun _=>BM rfl underlying39 AQ (vl rfl) (vl rfl) (by omega) (by rw [List.length_map];omega)) ?_
 refine Cx.ef 0 rfl rfl (by decide) (DA rfl rfl (by decide) rfl underlying39 AQ KV NN rfl (by decide) (by decide) (vl rfl) (vl rfl) (by rw [List.length_take,List.length_map];unfold maxLen;omega) (by rw [List.length_take,List.length_map];omega)) ?_
 refine ax ?_
 refine xo rfl (fun _=>AB rfl underlying31 AY (vl rfl) (vl rfl) (by omega) (AZ Ae)) ?_
 refine ax ?_
 refine xo rfl (fun _=>AB rfl underlying31 AY (vl rfl) (vl rfl) (by omega) (AZ Ae)) ?_
 refine ax ?_
 refine xo rfl (fun _=>AH (xs:=[.tmp 114]) (rows:=[_]) rfl rfl underlying39 AQ NN rfl (by decide) ⟨⟨(by exact rfl),(Va rfl)⟩,trivial⟩ (by decide)) ?_
 refine Cx.ef 0 rfl rfl (by decide) (Bk rfl rfl (by decide) rfl underlying39 AQ KV NN rfl (by decide) (by decide) ⟨_,rfl,LO f⟩ J3 (by simp only [List.length_take,List.length_map,List.length_cons,List.length_nil];unfold maxLen;omega) (by simp only [List.length_take,List.length_map,List.length_cons,List.length_nil];omega)) ?_
 refine ax ?_
 refine xo rfl (fun _=>At rfl underlying39 AQ (vl rfl) (vl rfl) (by omega) (by rw [List.length_map];omega)) ?_
 refine Cx.ef 0 rfl rfl (by decide) (Bk rfl rfl (by decide) rfl underlying39 AQ KV NN rfl (by decide) (by decide) (vl rfl) LQ (by simp only [List.length_append,List.length_take,List.length_drop,List.length_map,List.length_cons,List.length_nil];unfold maxLen;omega) (by simp only [List.length_append,List.length_take,List.length_drop,List.length_map,List.length_cons,List.length_nil];omega)) ?_
 refine Cx.ef 0 rfl rfl (by decide) (B6 rfl rfl (by decide) rfl (vl rfl)) ?_
 refine Cx.nil ⟨by kernel_rfl,?_⟩
 refine BJ.open_ 0 4 rfl rfl (fun v2=> ?_)
 refine BJ.done eI ?_
 refine Fin.R_ 0 ((Eb ((l.take k).foldl B4 []) f).map AG) rfl (by rw [hput,Int.toNat_natCast,List.map_append,List.map_append,List.map_take,List.map_drop];rfl) ?_
 exact Fin.Ds (_)  (⟨_,hpa⟩) ⟨⟨_,rfl,fun _ _ _ h=>h.1⟩,ke rfl,ke rfl,ke rfl,trivial⟩ (fun _ _ h=>h)
 refine ac ?_
 refine cy h9 rfl (Ay 0 rfl (C8 rfl underlying39 AQ (vl rfl) (vl rfl) (by omega) (by rw [List.length_map];omega))) ?_
 refine cy h9 rfl (Cl rfl O2 (vl rfl)) (cy h9 rfl (Ay 0 rfl (Dn rfl Cr (vl rfl) (Aj fun _=>rfl) (C3 hy) rfl)) ?_)
 refine ac ?_
 refine cy h9 rfl (AB rfl underlying31 AY (vl rfl) (vl rfl) (by omega) (AZ Ae)) ?_
 refine ac ?_
 refine HJ 0 4 5 6 98 rfl ?_
 refine Tr.cn rfl ?_ ?_<;>intro h10 XK
 have hno:∀z,((l.take k).foldl B4 [])[j]? =some z→¬B3 z (Dl f)=0:=fun z hz=>by rw [hy] at hz;cases hz;rw [EZ];show ¬(y.Bv=f.machine∧y.day=f.day);omega
 have hput:=LP hS hjl hlt hge hno
 have hpa:=NK hjl hput
 refine Tr.Fz 0 4 rfl (Aj fun _=>rfl) rfl (Lr) (Tr.rx (xo rfl (fun _=>AH (xs:=[]) (rows:=[]) rfl rfl underlying39 AQ NN rfl (by decide) trivial (by decide)) ?_))
 refine ax ?_
 refine xo rfl (fun _=>BM rfl underlying39 AQ (vl rfl) (vl rfl) (by omega) (by rw [List.length_map];omega)) ?_
 refine Cx.ef 0 rfl rfl (by decide) (DA rfl rfl (by decide) rfl underlying39 AQ KV NN rfl (by decide) (by decide) (vl rfl) (vl rfl) (by rw [List.length_take,List.length_map];unfold maxLen;omega) (by rw [List.length_take,List.length_map];omega)) ?_
 refine ax ?_
 refine xo rfl (fun _=>AB rfl underlying31 AY (vl rfl) (vl rfl) (by omega) (AZ Ae)) ?_
 refine ax ?_
 refine xo rfl (fun _=>AB rfl underlying31 AY (vl rfl) (vl rfl) (by omega) (AZ Ae)) ?_
 refine ax ?_
 refine xo rfl (fun _=>AH (xs:=[.tmp 114]) (rows:=[_]) rfl rfl underlying39 AQ NN rfl (by decide) ⟨⟨(by exact rfl),(Va rfl)⟩,trivial⟩ (by decide)) ?_
 refine Cx.ef 0 rfl rfl (by decide) (Bk rfl rfl (by decide) rfl underlying39 AQ KV NN rfl (by decide) (by decide) ⟨_,rfl,LO f⟩ J3 (by simp only [List.length_take,List.length_map,List.length_cons,List.length_nil];unfold maxLen;omega) (by simp only [List.length_take,List.length_map,List.length_cons,List.length_nil];omega)) ?_
 refine ax ?_
 refine xo rfl (fun _=>At rfl underlying39 AQ (vl rfl) (vl rfl) (by omega) (by rw [List.length_map];omega)) ?_
 refine Cx.ef 0 rfl rfl (by decide) (Bk rfl rfl (by decide) rfl underlying39 AQ KV NN rfl (by decide) (by decide) (vl rfl) LQ (by simp only [List.length_append,List.length_take,List.length_drop,List.length_map,List.length_cons,List.length_nil];unfold maxLen;omega) (by simp only [List.length_append,List.length_take,List.length_drop,List.length_map,List.length_cons,List.length_nil];omega)) ?_
 refine Cx.ef 0 rfl rfl (by decide) (B6 rfl rfl (by decide) rfl (vl rfl)) ?_
 refine Cx.nil ⟨by kernel_rfl,?_⟩
 refine BJ.open_ 0 4 rfl rfl (fun v3=> ?_)
 refine BJ.done eI ?_
 refine Fin.R_ 0 ((Eb ((l.take k).foldl B4 []) f).map AG) rfl (by rw [hput,Int.toNat_natCast,List.map_append,List.map_append,List.map_take,List.map_drop];rfl) ?_
 exact Fin.Ds (_)  (⟨_,hpa⟩) ⟨⟨_,rfl,fun _ _ _ h=>h.1⟩,ke rfl,ke rfl,ke rfl,trivial⟩ (fun _ _ h=>h)
 refine Tr.skip ?_
 have hpa:(Eb ((l.take k).foldl B4 []) f)[j]? =some y∧Ea f y=true:=⟨by rw [Oa hy (decide_eq_true ⟨by omega,by omega⟩)];exact hy,decide_eq_true ⟨by omega,by omega⟩⟩
 refine Fin.R_ 0 ((Eb ((l.take k).foldl B4 []) f).map AG) rfl (by rw [Oa hy hpa.2]) (Fin.Ds (_)  (⟨_,hpa⟩) ⟨ke rfl,ke rfl,ke rfl,ke rfl,trivial⟩ (fun _ _ h=>h))
 rintro v2  ⟨y,hy,hys⟩
 have hjp:=Bh hy
 refine Tr.rx ?_
 refine ax ?_
 refine DI 0 rfl rfl (C8 rfl underlying39 AQ (vl rfl) (vl rfl) (by omega) (by rw [List.length_map];omega)) ?_
 refine xo rfl (fun _=>Cl rfl O3 (vl rfl)) (DI 0 rfl rfl (Dn rfl QX (vl rfl) (Aj fun _=>rfl) (C3 hy) rfl) ?_)
 refine ax ?_
 refine xo rfl (fun _=>AB rfl underlying31 AY (vl rfl) (vl rfl) (by omega) (AZ Ae)) ?_
 refine ax ?_
 refine xo rfl (fun _=>F3 (MB (l:=y.A7) (by have:=Ws (List.mem_of_getElem? hy);omega)) rfl rfl rfl) ?_
 refine DI 0 rfl rfl (C8 rfl underlying39 AQ (vl rfl) (vl rfl) (by omega) (by rw [List.length_map];omega)) ?_
 refine xo rfl (fun _=>Cl rfl O3 (vl rfl)) (Cx.DP 0 rfl rfl (Fk rfl rfl (vl rfl) (Vo rfl) X0 rfl (Aj fun _=>rfl) (C3 hy) (by decide) Wt) ?_)
 refine Cx.nil ⟨by kernel_rfl,?_⟩
 refine BJ.done eI ?_
 refine ac ?_
 refine Ur 0 4 5 rfl ?_
 refine ac ?_
 refine Fin.R_ 0 (((l.take (k+1)).foldl B4 []).map AG) rfl (by rw [Dm B4 [] Ae,Uk (by omega),←Q9 (Wr (JT hS)) hy hys]) (Fin.Bw (k+1) (v2)  (⟨by omega,by omega⟩) ⟨⟨_,rfl,AM k⟩,ke rfl,ke rfl,trivial⟩ (fun _ _ h=>h))
 obtain rfl:k=l.length:=(by have:=Ag h2;omega)
 rw [List.take_length]
 have hfl:=I8 l []
 rw [List.length_nil] at hfl
 refine ac ?_
 refine Tr.seq (Tr.Fz 0 4 rfl (Aj fun _=>rfl) rfl (Lr) ?_)
 refine a2 ?_
 refine Tr.block (Tr.Ih 57 3 (Tr.Oq [(4,_)] ⟨ke rfl,trivial⟩ (fun i v9=>[(8,int ((i:Nat):Int)),(7,Aq v9 (UH (((l.foldl B4 []).take i).filter DG)))]) (fun i v9=>Hp M0 w0 J9 ([BR 57 3 v9,BT])) (fun i:Nat=>i≤((l.foldl B4 [])).length) (fun i:Nat=>((l.foldl B4 [])).length-i) 0 (.slice none 0 0) (Nat.zero_le _) ⟨ke rfl,⟨_,rfl,Gh rfl⟩,trivial⟩ (fun _ _ h=>h) ?_))
 rintro i v9 Ts
 refine an ?_ ?_<;>intro h11 Zd
 have IJ:i<((l.foldl B4 [])).length:=Af h11
 obtain ⟨y,Ek⟩:=at_ IJ
 have nG:=Nat.le_trans (List.length_filter_le DG ((l.foldl B4 []).take i)) (List.length_take_le _ _)
 refine a2 ?_
 refine co rfl (AB rfl underlying39 AQ (vl rfl) (vl rfl) (by omega) (AZ Ek)) ?_
 refine ac ?_
 refine FB 4 7 8 148 rfl ?_
 refine Tr.cn rfl ?_ ?_<;>intro h12 YY
 refine ao ?_
 refine tp rfl (AB rfl underlying39 AQ (vl rfl) (vl rfl) (by omega) (AZ Ek)) ?_
 refine ao ?_
 refine TO.On 0 rfl rfl (by decide) (Vb rfl rfl rfl rfl underlying39 AQ KV NN (Kb rfl) (Kf rfl) (Gg (by exact List.Mem.head _) (Ka rfl))) (fun v4=> ?_)
 refine ao ?_
 refine ac ?_
 exact Fin.Lm (i+1) v4 (⟨IJ,by omega⟩) ⟨⟨_,rfl,AM i⟩,⟨_,rfl,E4 (by rw [Ul Ek (by omega),List.map_append];rfl)⟩,ke rfl,trivial⟩ (fun _ _ h=>h)
 refine a2 ?_
 exact Fin.Lm (i+1) v9 (⟨IJ,by omega⟩) ⟨⟨_,rfl,AM i⟩,⟨_,rfl,E4 (by rw [Wu Ek (by omega)])⟩,ke rfl,trivial⟩ (fun _ _ h=>h)
 have Pm:i=((l.foldl B4 [])).length:=by have:=Ag h11;omega
 subst Pm
 rw [List.take_length]
 refine a2 ?_
 refine Tr.ret (Fin.EJ rfl (Bq.D3 _ _) rfl ?_ rfl ?_)
 · rw [J2 hN];exact BP _ _
 · rw [J2 hN];exact Lr
theorem Un {a b:Az}:a=b↔(a.Bv=b.Bv∧a.day=b.day∧a.A7=b.A7):=by
 cases a;cases b;simp
theorem Ji {a b:List Az}  :Be prog 22 [UH a,UH b] (bool (decide (a=b))):=by
 refine fo func22 rfl ⟨rfl,rfl⟩ fun M0 w0=>(Tr.Db 0 rfl fun DD=>(Tr.Db 1 rfl fun N2=> ?_))
 refine ac ?_
 refine an ?_ ?_<;>intro h1 q1
 have hne:¬a.length=b.length:=by simp_all;omega
 refine a2 ?_
 · refine bool_eq ?_;symm;rw [decide_eq_false_iff_not];rintro rfl;exact hne rfl
 have Jx:a.length=b.length:=by simp_all;omega
 refine a2 ?_
 refine Tr.block (Tr.BV [(0,_),(1,_)] (Ow rfl) (fun k:Nat=>[(5,int ((k:Nat):Int))]) (fun k:Nat=>k≤(a).length∧(a.take k=b.take k)) (fun k:Nat=>(a).length-k) 0 (⟨Nat.zero_le _,rfl⟩) ⟨ke rfl,trivial⟩ ?_)
 rintro k ⟨CN,Ac⟩
 refine an ?_ ?_<;>intro h2 q2
 have Au:k<(a).length:=Af h2
 obtain ⟨x,Ae⟩:=at_ Au
 obtain ⟨y,hy⟩:=at_ (l:=b) (k:=k) (by omega)
 · repeat' first|(refine bool_eq ?_;symm;rw [decide_eq_false_iff_not];refine Qv Ae hy ?_;rw [Un];intro hc;simp_all)|(exact Fin.AF (k+1) ⟨⟨Au,Qu Ae hy Ac (by rw [Un];simp_all)⟩,by omega⟩ ⟨⟨_,rfl,AM k⟩,ke rfl,ke rfl,trivial⟩)|refine co rfl (AB rfl underlying39 AQ (vl rfl) (vl rfl) (by omega) (AZ Ae)) ?_|refine co rfl (AB rfl underlying39 AQ (vl rfl) (vl rfl) (by omega) (AZ hy)) ?_|refine cy h rfl (AB rfl underlying39 AQ (vl rfl) (vl rfl) (by omega) (AZ Ae)) ?_|refine cy h rfl (AB rfl underlying39 AQ (vl rfl) (vl rfl) (by omega) (AZ hy)) ?_|refine cy h rfl (F3 (JS) rfl rfl rfl) ?_|refine cy h rfl (AB rfl underlying39 AQ (vl rfl) (vl rfl) (by omega) (by exact AZ (by assumption))) ?_|refine ac ?_|(refine Tr.cn rfl ?_ ?_<;>intro h q)|(refine Ch.cg rfl rfl rfl ?_ ?_<;>intro h q)
 have Bn:k=(a).length:=by have:=Ag h2;omega
 subst Bn
 refine a3 ?_
 · refine bool_eq ?_;symm;rw [decide_eq_true_eq];exact Qw Jx Ac
theorem LR {α:Type} {f:α→List Pr} {l:List α} {k:Nat} {x:α} (h0:0<k) (h:l[k-1]? =some x):(l.map f)[(((k:Nat):Int)-1).toNat]? =some (f x):=by
 rw [show (((k:Nat):Int)-1).toNat=k-1 by omega,List.getElem?_map,h];rfl
theorem IV {l:List AO} {k:Nat}:∀r∈(l.map BA).take k,r.length=11:=fun r hr=>Aj (f:=BA) (fun _=>rfl) r (List.mem_of_mem_take hr)
theorem IW {l:List AO} {k:Nat} {y:AO}:∀r∈(l.map BA).take k++[BA y],r.length=11:=fun r hr=>by
 rcases List.mem_append.1 hr with h9|h9
 · exact IV r h9
 · rw [List.mem_singleton] at h9;subst h9;rfl
theorem ZK {l:List AO} {f:AO} {v:Value} (hl:l.length≤1000):H8 (α:=Value) prog 88 [is v,agg (BA f)] [A3 26 11 ((l).map BA) v] (fun _=>True) (fun x:Value=>is x) (fun x=>[A3 26 11 ((Ci l f).map BA) x]):=by
 refine H8.of func88 rfl rfl (by exact Nb rfl) fun M0 w0 S rs M1 w1=> ?_
 have hml:(l.map BA).length=l.length:=List.length_map ..
 refine Tr.seq (Tr.A0 (co rfl (KA rfl (Va rfl)) (cm rfl (Ch.nil (Fin.go (Tr.seq (Tr.A0 (cm rfl (co rfl (Ay 0 rfl (Gp rfl underlying31 (vl rfl))) (cm rfl (Ch.nil (Fin.go (Tr.seq (Tr.block ?_))))))))))))))
 refine Tr.BV [(0,_),(3,_)] (Ow rfl) (fun k:Nat=>[(5,int ((k:Nat):Int))]) (fun k:Nat=>k≤l.length∧∀(j:Nat) y,k≤j→l[j]? =some y→0<DT y f) (fun k:Nat=>k) l.length (⟨Nat.le_refl _,fun j y h1 h2=>by rw [List.getElem?_eq_none h1] at h2;cases h2⟩) ⟨⟨_,rfl,int_eq (by rw [hml])⟩,trivial⟩ ?_
 rintro k ⟨hk,hgt⟩
 refine Tr.seq (Tr.seq (Tr.J8 mixed (by kernel_rfl) (cm rfl (co rfl (ki rfl rfl rfl rfl) (cm rfl ?_)))))
 refine Ch.cs 10 rfl ?_ ?_<;>intro h1 q1
 obtain ⟨x,hx⟩:=at_ (l:=l) (k:=k-1) (by omega)
 refine Dh h1 rfl (Dh h1 rfl ?_)
 refine cy h1 rfl (GG rfl (vl rfl) (vl rfl) ?hin) ?_;case hin=>unfold Em;omega
 refine cy h1 rfl (Ay 0 rfl (C8 rfl underlying31 AY (vl rfl) (vl rfl) (by omega) (by rw [List.length_map];omega))) ?_
 refine cy h1 rfl (Ay 0 rfl (FP rfl BI AY (vl rfl) (Aj fun _=>rfl) (LR (by omega) hx))) (cy h1 rfl (Ap rfl BI AY (vl rfl) rfl rfl) (cy h1 rfl (Ai rfl (C9) ⟨ke rfl,ke rfl,trivial⟩) (cy h1 rfl (ki rfl rfl rfl rfl) (co rfl (NM rfl rfl h1 rfl) (Ch.nil (Fin.go (FB 0 3 5 19 rfl ?_)))))))
 refine Tr.cn rfl ?_ ?_<;>intro h2 q2
 have:=h2
 refine Tr.skip (Fin.go (Tr.block (Tr.A0 (cm rfl (fP rfl rfl rfl rfl (by omega) (cm rfl (Ch.nil (Fin.block ?_))))))))
 exact Fin.AF (k-1) ⟨⟨by omega,fun j y h1 h2=>by rcases Nat.eq_or_lt_of_le h1 with h3|h3;(subst h3;rw [hx] at h2;cases h2;omega);exact hgt j y (by omega) h2⟩,by omega⟩ ⟨⟨_,rfl,int_eq (by omega)⟩,ke rfl,ke rfl,trivial⟩
 have:=h2
 refine Tr.exit (Fin.AK (Fin.AK (Fin.Aa (Fin.go (Tr.seq (Tr.seq (Tr.J8 mixed (by kernel_rfl) (cm rfl (co rfl (ki rfl rfl rfl rfl) (cm rfl ?_))))))))))
 refine Ch.cs 24 rfl ?_ ?_<;>intro h3 q3
 obtain ⟨x2,hx2⟩:=at_ (l:=l) (k:=k-1) (by omega)
 refine Dh h3 rfl (Dh h3 rfl ?_)
 refine cy h3 rfl (GG rfl (vl rfl) (vl rfl) ?hin) ?_;case hin=>unfold Em;omega
 refine cy h3 rfl (Ay 0 rfl (C8 rfl underlying31 AY (vl rfl) (vl rfl) (by omega) (by rw [List.length_map];omega))) ?_
 refine cy h3 rfl (Ay 0 rfl (FP rfl BI AY (vl rfl) (Aj fun _=>rfl) (LR (by omega) hx2))) (cy h3 rfl (Ap rfl BI AY (vl rfl) rfl rfl) (cy h3 rfl (Ai rfl (C9) ⟨ke rfl,ke rfl,trivial⟩) (cy h3 rfl (ki rfl rfl rfl rfl) (co rfl (NM rfl rfl h3 rfl) (Ch.nil (Fin.go (FB 0 3 5 33 rfl ?_)))))))
 refine Tr.cn rfl ?_ ?_<;>intro h4 q4
 refine Tr.seq (Tr.A0 (cm rfl (cm rfl (Ch.nil (Fin.go (Tr.ret (Fin.AJ (Fin.R_ 0 ((Ci l f).map BA) rfl (by rw [L1 (Lz hk hgt (.inr ⟨x,hx,by omega⟩)) (by omega) hx2 (by assumption)]) (Fin.Kw (_) rfl (Bc.tmp rfl (Lr)) trivial ?_ (List.Perm.refl _))))))))))
 · exact Lr
 refine Tr.skip (Fin.go (Tr.seq (Tr.Fz 0 0 rfl (Aj fun _=>rfl) rfl (Lr) (Tr.EL mixed [none,none,none,none,some (0,0,true,39),none,none,some (39,0,true,42),none,none,none,some (42,0,true,46),some (46,0,true,4)] (by kernel_rfl) (xo rfl (fun _=>AH (xs:=[]) (rows:=[]) rfl rfl underlying31 AY Di rfl (by decide) trivial (by decide)) (xm rfl (xm rfl ?_)))))))
 refine xo rfl (fun _=>BM rfl underlying31 AY (vl rfl) (vl rfl) (by omega) (by rw [List.length_map];omega)) ?_
 refine Cx.ef 0 rfl rfl (by decide) (DA rfl rfl (by decide) rfl underlying31 AY Dz Di rfl (by decide) (by decide) (vl rfl) (vl rfl) (by simp only [List.length_append,List.length_take,List.length_drop,List.length_map,List.length_cons,List.length_nil];unfold maxLen;omega) (by simp only [List.length_append,List.length_take,List.length_drop,List.length_map,List.length_cons,List.length_nil];omega)) ?_
 refine xo rfl (fun _=>Ap rfl BI AY (vl rfl) rfl rfl) (xo rfl (fun _=>AH (xs:=[.tmp 40]) (rows:=[_]) rfl rfl underlying31 AY Di rfl (by decide) ⟨⟨(by exact rfl),(Va rfl)⟩,trivial⟩ (by decide)) ?_)
 refine Cx.ef 0 rfl rfl (by decide) (Bk rfl rfl (by decide) rfl underlying31 AY Dz Di rfl (by decide) (by decide) (Kf rfl) IV (by simp only [List.length_append,List.length_take,List.length_drop,List.length_map,List.length_cons,List.length_nil];unfold maxLen;omega) (by simp only [List.length_append,List.length_take,List.length_drop,List.length_map,List.length_cons,List.length_nil];omega)) ?_
 refine xm rfl (xm rfl ?_)
 refine xo rfl (fun _=>At rfl underlying31 AY (vl rfl) (vl rfl) (by omega) (by rw [List.length_map];omega)) ?_
 refine Cx.ef 0 rfl rfl (by decide) (Bk rfl rfl (by decide) rfl underlying31 AY Dz Di rfl (by decide) (by decide) (vl rfl) IW (by simp only [List.length_append,List.length_take,List.length_drop,List.length_map,List.length_cons,List.length_nil];unfold maxLen;omega) (by simp only [List.length_append,List.length_take,List.length_drop,List.length_map,List.length_cons,List.length_nil];omega)) ?_
 refine Cx.ef 0 rfl rfl (by decide) (B6 rfl rfl (by decide) rfl (vl rfl)) ?_
 refine Cx.nil ⟨rfl,?_⟩
 refine BJ.open_ 0 4 rfl rfl (fun v1=> ?_)
 refine BJ.done (BS.cons (BS.cons (BS.map _))) (Fin.go (Cg 4 rfl (Tr.ret ?_)))
 refine Fin.R_ 0 ((Ci l f).map BA) rfl (by rw [IA (Lz hk hgt (.inr ⟨x,hx,by omega⟩)) (.inr ⟨x2,hx2,by assumption⟩),Int.toNat_natCast,List.map_append,List.map_append,List.map_take,List.map_drop];rfl) ?_
 refine Fin.Kw (_) rfl (Bc.tmp rfl (Lr)) trivial ?_ (List.Perm.refl _)
 · exact DO _ _
 iterate 8 refine cnt h3 rfl ?_
 refine co rfl (KP rfl rfl h3 rfl) (Ch.nil (Fin.go (FB 0 3 5 33 rfl (Tr.cond rfl (fun h=>nomatch h) (fun _=> ?_)))))
 refine Tr.skip (Fin.go (Tr.seq (Tr.Fz 0 0 rfl (Aj fun _=>rfl) rfl (Lr) (Tr.EL mixed [none,none,none,none,some (0,0,true,39),none,none,some (39,0,true,42),none,none,none,some (42,0,true,46),some (46,0,true,4)] (by kernel_rfl) (xo rfl (fun _=>AH (xs:=[]) (rows:=[]) rfl rfl underlying31 AY Di rfl (by decide) trivial (by decide)) (xm rfl (xm rfl ?_)))))))
 refine xo rfl (fun _=>BM rfl underlying31 AY (vl rfl) (vl rfl) (by omega) (by rw [List.length_map];omega)) ?_
 refine Cx.ef 0 rfl rfl (by decide) (DA rfl rfl (by decide) rfl underlying31 AY Dz Di rfl (by decide) (by decide) (vl rfl) (vl rfl) (by simp only [List.length_append,List.length_take,List.length_drop,List.length_map,List.length_cons,List.length_nil];unfold maxLen;omega) (by simp only [List.length_append,List.length_take,List.length_drop,List.length_map,List.length_cons,List.length_nil];omega)) ?_
 refine xo rfl (fun _=>Ap rfl BI AY (vl rfl) rfl rfl) (xo rfl (fun _=>AH (xs:=[.tmp 40]) (rows:=[_]) rfl rfl underlying31 AY Di rfl (by decide) ⟨⟨(by exact rfl),(Va rfl)⟩,trivial⟩ (by decide)) ?_)
 refine Cx.ef 0 rfl rfl (by decide) (Bk rfl rfl (by decide) rfl underlying31 AY Dz Di rfl (by decide) (by decide) (Kf rfl) IV (by simp only [List.length_append,List.length_take,List.length_drop,List.length_map,List.length_cons,List.length_nil];unfold maxLen;omega) (by simp only [List.length_append,List.length_take,List.length_drop,List.length_map,List.length_cons,List.length_nil];omega)) ?_
 refine xm rfl (xm rfl ?_)
 refine xo rfl (fun _=>At rfl underlying31 AY (vl rfl) (vl rfl) (by omega) (by rw [List.length_map];omega)) ?_
 refine Cx.ef 0 rfl rfl (by decide) (Bk rfl rfl (by decide) rfl underlying31 AY Dz Di rfl (by decide) (by decide) (vl rfl) IW (by simp only [List.length_append,List.length_take,List.length_drop,List.length_map,List.length_cons,List.length_nil];unfold maxLen;omega) (by simp only [List.length_append,List.length_take,List.length_drop,List.length_map,List.length_cons,List.length_nil];omega)) ?_
 refine Cx.ef 0 rfl rfl (by decide) (B6 rfl rfl (by decide) rfl (vl rfl)) ?_
 refine Cx.nil ⟨rfl,?_⟩
 refine BJ.open_ 0 4 rfl rfl (fun v2=> ?_)
 refine BJ.done (BS.cons (BS.cons (BS.map _))) (Fin.go (Cg 4 rfl (Tr.ret ?_)))
 refine Fin.R_ 0 ((Ci l f).map BA) rfl (by exfalso;omega) ?_
 refine Fin.Kw (_) rfl (Bc.tmp rfl (Lr)) trivial ?_ (List.Perm.refl _)
 · exact DO _ _
 iterate 8 refine cnt h1 rfl ?_
 refine co rfl (KP rfl rfl h1 rfl) (Ch.nil (Fin.go (FB 0 3 5 19 rfl (Tr.cond rfl (fun h=>nomatch h) (fun _=> ?_)))))
 refine Tr.exit (Fin.AK (Fin.AK (Fin.Aa (Fin.go (Tr.seq (Tr.seq (Tr.J8 mixed (by kernel_rfl) (cm rfl (co rfl (ki rfl rfl rfl rfl) (cm rfl ?_))))))))))
 refine Ch.cs 24 rfl ?_ ?_<;>intro h5 q5
 obtain ⟨x2,hx2⟩:=at_ (l:=l) (k:=k-1) (by omega)
 refine Dh h5 rfl (Dh h5 rfl ?_)
 refine cy h5 rfl (GG rfl (vl rfl) (vl rfl) ?hin) ?_;case hin=>unfold Em;omega
 refine cy h5 rfl (Ay 0 rfl (C8 rfl underlying31 AY (vl rfl) (vl rfl) (by omega) (by rw [List.length_map];omega))) ?_
 refine cy h5 rfl (Ay 0 rfl (FP rfl BI AY (vl rfl) (Aj fun _=>rfl) (LR (by omega) hx2))) (cy h5 rfl (Ap rfl BI AY (vl rfl) rfl rfl) (cy h5 rfl (Ai rfl (C9) ⟨ke rfl,ke rfl,trivial⟩) (cy h5 rfl (ki rfl rfl rfl rfl) (co rfl (NM rfl rfl h5 rfl) (Ch.nil (Fin.go (FB 0 3 5 33 rfl ?_)))))))
 refine Tr.cn rfl ?_ ?_<;>intro h6 q6
 refine Tr.seq (Tr.A0 (cm rfl (cm rfl (Ch.nil (Fin.go (Tr.ret (Fin.AJ ?_)))))))
 refine Fin.R_ 0 ((Ci l f).map BA) rfl (by exfalso;omega) ?_
 refine Fin.Kw (_) rfl (Bc.tmp rfl (Lr)) trivial ?_ (List.Perm.refl _)
 · exact Lr
 refine Tr.skip (Fin.go (Tr.seq (Tr.Fz 0 0 rfl (Aj fun _=>rfl) rfl (Lr) (Tr.EL mixed [none,none,none,none,some (0,0,true,39),none,none,some (39,0,true,42),none,none,none,some (42,0,true,46),some (46,0,true,4)] (by kernel_rfl) (xo rfl (fun _=>AH (xs:=[]) (rows:=[]) rfl rfl underlying31 AY Di rfl (by decide) trivial (by decide)) (xm rfl (xm rfl ?_)))))))
 refine xo rfl (fun _=>BM rfl underlying31 AY (vl rfl) (vl rfl) (by omega) (by rw [List.length_map];omega)) ?_
 refine Cx.ef 0 rfl rfl (by decide) (DA rfl rfl (by decide) rfl underlying31 AY Dz Di rfl (by decide) (by decide) (vl rfl) (vl rfl) (by simp only [List.length_append,List.length_take,List.length_drop,List.length_map,List.length_cons,List.length_nil];unfold maxLen;omega) (by simp only [List.length_append,List.length_take,List.length_drop,List.length_map,List.length_cons,List.length_nil];omega)) ?_
 refine xo rfl (fun _=>Ap rfl BI AY (vl rfl) rfl rfl) (xo rfl (fun _=>AH (xs:=[.tmp 40]) (rows:=[_]) rfl rfl underlying31 AY Di rfl (by decide) ⟨⟨(by exact rfl),(Va rfl)⟩,trivial⟩ (by decide)) ?_)
 refine Cx.ef 0 rfl rfl (by decide) (Bk rfl rfl (by decide) rfl underlying31 AY Dz Di rfl (by decide) (by decide) (Kf rfl) IV (by simp only [List.length_append,List.length_take,List.length_drop,List.length_map,List.length_cons,List.length_nil];unfold maxLen;omega) (by simp only [List.length_append,List.length_take,List.length_drop,List.length_map,List.length_cons,List.length_nil];omega)) ?_
 refine xm rfl (xm rfl ?_)
 refine xo rfl (fun _=>At rfl underlying31 AY (vl rfl) (vl rfl) (by omega) (by rw [List.length_map];omega)) ?_
 refine Cx.ef 0 rfl rfl (by decide) (Bk rfl rfl (by decide) rfl underlying31 AY Dz Di rfl (by decide) (by decide) (vl rfl) IW (by simp only [List.length_append,List.length_take,List.length_drop,List.length_map,List.length_cons,List.length_nil];unfold maxLen;omega) (by simp only [List.length_append,List.length_take,List.length_drop,List.length_map,List.length_cons,List.length_nil];omega)) ?_
 refine Cx.ef 0 rfl rfl (by decide) (B6 rfl rfl (by decide) rfl (vl rfl)) ?_
 refine Cx.nil ⟨rfl,?_⟩
 refine BJ.open_ 0 4 rfl rfl (fun v3=> ?_)
 refine BJ.done (BS.cons (BS.cons (BS.map _))) (Fin.go (Cg 4 rfl (Tr.ret ?_)))
 refine Fin.R_ 0 ((Ci l f).map BA) rfl (by exfalso;omega) ?_
 refine Fin.Kw (_) rfl (Bc.tmp rfl (Lr)) trivial ?_ (List.Perm.refl _)
 · exact DO _ _
 iterate 8 refine cnt h5 rfl ?_
 refine co rfl (KP rfl rfl h5 rfl) (Ch.nil (Fin.go (FB 0 3 5 33 rfl (Tr.cond rfl (fun h=>nomatch h) (fun _=> ?_)))))
 refine Tr.skip (Fin.go (Tr.seq (Tr.Fz 0 0 rfl (Aj fun _=>rfl) rfl (Lr) (Tr.EL mixed [none,none,none,none,some (0,0,true,39),none,none,some (39,0,true,42),none,none,none,some (42,0,true,46),some (46,0,true,4)] (by kernel_rfl) (xo rfl (fun _=>AH (xs:=[]) (rows:=[]) rfl rfl underlying31 AY Di rfl (by decide) trivial (by decide)) (xm rfl (xm rfl ?_)))))))
 refine xo rfl (fun _=>BM rfl underlying31 AY (vl rfl) (vl rfl) (by omega) (by rw [List.length_map];omega)) ?_
 refine Cx.ef 0 rfl rfl (by decide) (DA rfl rfl (by decide) rfl underlying31 AY Dz Di rfl (by decide) (by decide) (vl rfl) (vl rfl) (by simp only [List.length_append,List.length_take,List.length_drop,List.length_map,List.length_cons,List.length_nil];unfold maxLen;omega) (by simp only [List.length_append,List.length_take,List.length_drop,List.length_map,List.length_cons,List.length_nil];omega)) ?_
 refine xo rfl (fun _=>Ap rfl BI AY (vl rfl) rfl rfl) (xo rfl (fun _=>AH (xs:=[.tmp 40]) (rows:=[_]) rfl rfl underlying31 AY Di rfl (by decide) ⟨⟨(by exact rfl),(Va rfl)⟩,trivial⟩ (by decide)) ?_)
 refine Cx.ef 0 rfl rfl (by decide) (Bk rfl rfl (by decide) rfl underlying31 AY Dz Di rfl (by decide) (by decide) (Kf rfl) IV (by simp only [List.length_append,List.length_take,List.length_drop,List.length_map,List.length_cons,List.length_nil];unfold maxLen;omega) (by simp only [List.length_append,List.length_take,List.length_drop,List.length_map,List.length_cons,List.length_nil];omega)) ?_
 refine xm rfl (xm rfl ?_)
 refine xo rfl (fun _=>At rfl underlying31 AY (vl rfl) (vl rfl) (by omega) (by rw [List.length_map];omega)) ?_
 refine Cx.ef 0 rfl rfl (by decide) (Bk rfl rfl (by decide) rfl underlying31 AY Dz Di rfl (by decide) (by decide) (vl rfl) IW (by simp only [List.length_append,List.length_take,List.length_drop,List.length_map,List.length_cons,List.length_nil];unfold maxLen;omega) (by simp only [List.length_append,List.length_take,List.length_drop,List.length_map,List.length_cons,List.length_nil];omega)) ?_
 refine Cx.ef 0 rfl rfl (by decide) (B6 rfl rfl (by decide) rfl (vl rfl)) ?_
 refine Cx.nil ⟨rfl,?_⟩
 refine BJ.open_ 0 4 rfl rfl (fun v4=> ?_)
 refine BJ.done (BS.cons (BS.cons (BS.map _))) (Fin.go (Cg 4 rfl (Tr.ret ?_)))
 refine Fin.R_ 0 ((Ci l f).map BA) rfl (by rw [IA (Lz hk hgt (.inl (by omega))) (.inl (by omega)),Int.toNat_natCast,List.map_append,List.map_append,List.map_take,List.map_drop];rfl) ?_
 refine Fin.Kw (_) rfl (Bc.tmp rfl (Lr)) trivial ?_ (List.Perm.refl _)
 · exact DO _ _
theorem P_ {l:List AO} (hc:∀f∈l,BB f=true) (hl:l.length≤400):H8 (α:=Value) prog 45 [BC l] [] (fun _=>True) (fun x:Value=>FZ [is x,int 0]) (fun x=>[A3 26 11 ((l.foldl Ci []).map BA) x]):=by
 refine H8.of func45 rfl rfl (by exact Nb rfl) fun M0 w0 S rs M1 w1=>(Tr.Db 0 rfl fun DD=> ?_)
 refine a2 ?_
 refine Tr.block (Tr.BV [(0,_)] ⟨ke rfl,trivial⟩ (fun k:Nat=>[(4,int ((k:Nat):Int))]) (fun k:Nat=>k≤(l).length) (fun k:Nat=>(l).length-k) 0 (Nat.zero_le _) ⟨ke rfl,trivial⟩ ?_)
 rintro k CN
 refine an ?_ ?_<;>intro h1 q1
 have Au:k<(l).length:=Af h1
 obtain ⟨x,Ae⟩:=at_ Au
 · repeat' first|exact absurd (if_pos (hc x (List.mem_of_getElem? Ae))) q|exact Fin.AF (k+1) ⟨Au,by omega⟩ ⟨⟨_,rfl,AM k⟩,ke rfl,trivial⟩|refine co rfl (AB rfl underlying31 AY (vl rfl) (vl rfl) (by omega) (by exact AZ (by assumption))) ?_|refine co rfl (Ap rfl BI AY (vl rfl) rfl rfl) (co rfl (Eh (Fq) rfl rfl) ?_)|refine ac ?_|(refine Tr.cn rfl ?_ ?_<;>intro h q)
 have Bn:k=(l).length:=by have:=Ag h1;omega
 subst Bn
 refine a3 ?_
 refine Tr.block (Tr.Mo 26 11 (Tr.JU 0 rfl (Tr.Ca [(0,_)] ⟨ke rfl,trivial⟩ (fun (m:Nat) (v:Value)=>[(7,int ((m:Nat):Int)),(6,is v)]) (fun (m:Nat) (v:Value)=>Hp M0 w0 S (A3 26 11 (((l.take m).foldl Ci []).map BA) v::Ak M1 w1::rs)) (fun (m:Nat) (v:Value)=>m≤l.length) (fun (m:Nat) (v:Value)=>l.length-m) (0) ((.slice none 0 0))  (Nat.zero_le _) ⟨ke rfl,ke rfl,trivial⟩ (fun _ _ h=>h) ?_)))
 rintro m v  hml
 refine an ?_ ?_<;>intro h3 q3
 have Vk:m<l.length:=Af h3
 obtain ⟨y,Tc⟩:=at_ Vk
 refine ac ?_
 refine ap ?_
 refine tp rfl (AB rfl underlying31 AY (vl rfl) (vl rfl) (by omega) (by exact AZ (by assumption))) ?_
 refine tp rfl (Ap rfl BI AY (vl rfl) rfl rfl) ?_
 refine TO.Nw _ rfl rfl (by decide) rfl (ZK (l:=(l.take m).foldl Ci []) (f:=y) (v:=v) (by have:=Gt l m;omega)) ⟨ke rfl,ke rfl,trivial⟩ ((DQ (j:=0) rfl).trans (List.Perm.cons _ (List.Perm.refl _))) (fun x1 _=> ?_)
 refine ap ?_
 · repeat' first|(exfalso;rw [List.length_map,Gs Tc] at q;have:=Gt l (m+1);omega)|(exact Fin.Bw (m+1) (x1)  (⟨by omega,by omega⟩) ⟨⟨_,rfl,AM m⟩,ke rfl,ke rfl,trivial⟩ (fun _ _ h=>by rw [←Gs Tc];exact h))|refine co rfl (Ay 0 rfl (Gp rfl underlying31 (vl rfl))) ?_|refine ac ?_|(refine Tr.cn rfl ?_ ?_<;>intro h q)
 obtain rfl:m=l.length:=(by have:=Ag h3;omega)
 rw [List.take_length]
 refine a2 ?_
 refine Tr.ret (Fin.bC (_) rfl (Bc.tmp rfl (Lr)) (Bc.tmp rfl (Lr)) trivial ?_ (List.Perm.refl _))
 · exact Lr
theorem Oc {b:Nat} {s:DS} {m:Nat} (hm:m≤100):H8 (α:=List AO×Value) prog 9 [ptr b 0,int ((m:Nat):Int)] [HF b s] (fun _=>True) (fun x:List AO×Value=>fact (Te x.1 m) (is x.2)) (fun x=>[A3 26 11 ((x.1).map BA) x.2,HK 80 b]):=by
 refine H8.of func9 rfl rfl (by exact Nb rfl) fun M0 w0 S rs M1 w1=>(Tr.seq (Tr.A0 (cm rfl (Ch.nil (Fin.go (Tr.seq (Tr.A0 (cm rfl (Ch.nil (Fin.go (Tr.seq (Tr.seq (Tr.Cq ?_)))))))))))))
 refine tm rfl (tm rfl ?_)
 refine tp rfl (B9 rfl (vl rfl) (vl rfl) ?hin) ?_;case hin=>unfold Em;omega
 refine TO.DZ 0 rfl rfl (by decide) (Ab rfl rfl (by decide) rfl (CF (by omega) (by omega)) ⟨ke rfl,ke rfl,trivial⟩) (tm rfl (TO.nil (Fin.go (Tr.block ?_))))
 have hv:=s.C7 (n:=(m:Int)+1) (by omega)
 refine Tr.Ih 26 11 ?_
 refine Tr.Sk [(0,_)] ⟨ke rfl,trivial⟩ (fun (l:List AO) (k:Int) (s2:DS) u=>[(6,int k),(5,Aq u (BC l))]) (fun (l:List AO) (k:Int) (s2:DS) u=>Hp M0 w0 S (BR 26 11 u::HF b s2::Ak M1 w1::rs)) (fun (l:List AO) (k:Int) (s2:DS)=>0≤k∧l.length+k≤m∧∀f∈l,Qq f) (fun (l:List AO) (k:Int) (s2:DS)=>k.toNat) ([]) (_) (_) (.slice none 0 0) (⟨by omega,by simp;omega,by simp⟩) ⟨ke rfl,⟨_,rfl,Gh (by simp)⟩,trivial⟩ (fun _ _ h=>h) ?_
 rintro l k s2 u ⟨hk,hkm,hl⟩
 refine Tr.seq (Tr.seq (Tr.A0 (cm rfl (co rfl (ki rfl rfl rfl rfl) (Ch.nil (Fin.go ?_))))))
 refine Tr.cn rfl ?_ ?_<;>intro h1 q1
 have iP:k>0:=of_decide_eq_true h1
 refine Tr.skip (Fin.go (Tr.seq (Tr.block (Tr.Cq (tm rfl (tm rfl (TO.DZ 1 rfl rfl (by decide) (Ab rfl rfl (by decide) rfl (L2) ⟨ke rfl,trivial⟩) ?_)))))))
 refine TO.ex 19 rfl (fun z1=>TO.fact 19 rfl fun LW=> ?_)
 refine tp rfl (AH (xs:=[.tmp 19]) (rows:=[_]) rfl rfl underlying31 AY Di rfl (by decide) ⟨⟨(by exact rfl),(Va rfl)⟩,trivial⟩ (by decide)) ?_
 refine TO.On 0 rfl rfl (by decide) (Vb rfl rfl rfl rfl underlying31 AY Dz Di (Kb rfl) (Kf rfl) (Gg (by exact List.Mem.head _) (Ka rfl))) (fun v1=> ?_)
 refine tm rfl (TO.nil (Fin.Na 1 rfl (fun s1=> ?_)))
 refine Fin.block (Fin.go (Tr.A0 (cm rfl (fP rfl rfl rfl rfl (by omega) (cm rfl (Ch.nil ?_))))))
 exact Fin.VA (l++[z1]) (k-1) (_) v1 (⟨⟨by omega,by simp;omega,Rm hl LW⟩,by omega⟩) ⟨ke rfl,⟨_,rfl,E4 (by rw [List.map_append];rfl)⟩,ke rfl,trivial⟩ (fun _ _ h=>h)
 have iP:¬k>0:=of_decide_eq_false h1
 refine Tr.exit (Fin.AK (Fin.AK (Fin.Aa (Fin.go (Tr.seq (Tr.Cq (tm rfl ?_)))))))
 refine TO.Nw _ rfl rfl (by decide) rfl (P_ (l:=l) (fun f hf=>(hl f hf).check) (by omega)) ⟨(Kb rfl),trivial⟩ (List.Perm.refl _) (fun x2 _=> ?_)
 refine tm rfl (tp rfl (A2 rfl (vl rfl) rfl) (tp rfl (A2 rfl (vl rfl) rfl) (tm rfl (tm rfl (TO.nil (Fin.go (Tr.seq (Tr.A0 (cm rfl (cm rfl (Ch.nil (Fin.go (Cg 4 rfl (Tr.ret ?_))))))))))))))
 refine Fin.EM 2 _ rfl rfl (Fin.drop 1 (Fin.Kw ((l.foldl Ci [],x2)) rfl (Bc.tmp rfl (Lr)) trivial ?_ (List.Perm.refl _)))
 · exact A8 (Rn hl (by omega)) (Lr)
end Go.Proofs.YtgilhkjlfongoaaGreat
namespace Go.Proofs.YtgilhkjlfongoaaGreat
open Go Go.RowKit Cp Go.ChangeShapes Go.WideShapes Go.ChangeAt Go.Proofs.Tryz
theorem Uo {l:List AO} {j:Nat} {y z:AO}:(l.map BA).set ((j:Nat):Int).toNat ((BA y).take 0++BA z++(BA y).drop (0+11))=(l.set j z).map BA:=by
 rw [Int.toNat_natCast,List.map_set];rfl
abbrev QA (f:AO):AO:=⟨f.src,f.host,f.machine,f.day,0,f.kind,f.CV,f.BL,f.bits,f.num,f.text⟩
theorem Wv {l:List AO} {j:Nat} {y:AO}:(l.map BA).set ((j:Nat):Int).toNat ((BA y).take 4++[int 0]++(BA y).drop (4+1))=(l.set j (QA y)).map BA:=by
 rw [Int.toNat_natCast,List.map_set];rfl
theorem LS {l:List AO} {j:Nat} {y:AO} (h:∀f∈l,f.fits) (hy:y.fits):∀f∈l.set j y,f.fits:=fun f hf=>by
 rcases List.mem_or_eq_of_mem_set hf with h1|h1
 · exact h f h1
 · rw [h1];exact hy
theorem Up {l m:List AO} (h:m.length=l.length) (hl:l.length≤20):m.length≤20:=by omega
theorem LU {t:List Int} {AE:Int} {raw:AO} (jG:raw.fits):Be prog 3 [ints t,int AE,agg (BA raw)] (bool true):=by
 refine Be.of func3 rfl rfl (by exact Nb rfl) fun M0 w0=> ?_
 refine Tr.seq (Tr.A0 (co rfl (KA rfl (Va rfl)) (cm rfl (Ch.nil (Fin.go (Tr.seq (Tr.seq (Tr.A0 (cm rfl (co rfl (Ai rfl (Vq) ⟨ke rfl,trivial⟩) (co rfl (E0 rfl (vl rfl)) (Ch.nil (Fin.go ?_)))))))))))))
 refine Tr.cn rfl ?_ ?_<;>intro h1 q1
 refine Tr.seq (Tr.A0 (co rfl (Ai rfl (MI) trivial) (cm rfl (Ch.nil (Fin.go (Tr.ret (Fin.AJ (Fin.EI rfl (Bq.D3 _ _) rfl ?_))))))))
 · exact Lr
 have ht4:t.length≤400:=by simpa using h1
 have nH:t.length≤1000000000:=by omega
 refine Tr.skip (Fin.go (Tr.seq (Tr.Cq (tm rfl (TO.pad ?_)))))
 refine TO.On 0 rfl rfl (by decide) (Ep rfl rfl (by decide) rfl (Yi (l:=t) nH) ⟨ke rfl,trivial⟩) (fun v1=> ?_)
 refine TO.Xq 35 0 _ rfl rfl (fun _=>rfl) (fun b1=> ?_)
 refine tm rfl (TO.nil (Fin.go (Tr.seq (Tr.Cq (tm rfl ?_)))))
 refine TO.Nw _ rfl rfl (by decide) rfl (Oc (m:=20) (by omega)) ⟨ke rfl,ke rfl,trivial⟩ ((DQ (j:=0) rfl).trans (List.Perm.cons _ (List.Perm.refl _))) (fun x2 _=> ?_)
 obtain ⟨z,zv⟩:=x2
 refine TO.fact 37 rfl fun hz=> ?_
 have hzl:=hz.len
 refine tm rfl (TO.nil (Fin.Na 1 rfl (fun s1=> ?_)))
 refine Fin.go (Tr.seq (Tr.R_ 0 (z.map BA) rfl rfl (Tr.Cq (tm rfl (TO.DZ 1 rfl rfl (by decide) (Ab rfl rfl (by decide) rfl (CF (by omega) (by omega)) ⟨ke rfl,ke rfl,trivial⟩) (tm rfl (TO.DZ 1 rfl rfl (by decide) (Ab rfl rfl (by decide) rfl (L2) ⟨ke rfl,trivial⟩) ?_)))))))
 refine TO.ex 41 rfl (fun z1=>TO.fact 41 rfl fun LW=> ?_)
 refine Tl rfl rfl rfl rfl Di Hq (fun b2=> ?_)
 refine tm rfl (TO.DB 0 rfl rfl rfl (vl rfl) (Va rfl) rfl AY rfl rfl (TO.nil (Fin.Na 2 rfl (fun s2=> ?_))))
 refine Fin.go (FK 1 5 7 8 9 10 rfl (Tr.VV [(7,_),(8,_),(10,_)] ⟨ke rfl,ke rfl,ke rfl,trivial⟩ (fun (gg:Int) (ff:AO) (xs:List AO) (s9:DS)=>[(9,int gg)]) (fun (gg:Int) (ff:AO) (xs:List AO) (s9:DS)=>Hp M0 w0 J9 ([AA true b2 26 (BA ff),A3 26 11 ((xs).map BA) zv,HF b1 s9])) (fun (gg:Int) (ff:AO) (xs:List AO) (s9:DS)=>xs.length≤20∧(∀f∈xs,f.fits)∧ff.fits) ?_ ?_))
 refine Tr.seq (Tr.Cq (tm rfl (TO.DZ 2 rfl rfl (by decide) (Ab rfl rfl (by decide) rfl (CF (by omega) (by omega)) ⟨ke rfl,ke rfl,trivial⟩) (TO.nil (Fin.go (Tr.block (Tr.seq (Tr.A0 (co rfl (ki rfl rfl rfl rfl) (cm rfl (Ch.nil (Fin.go ?_))))))))))))
 refine Tr.cn rfl ?_ ?_<;>intro h2 q2
 refine Tr.A0 (cm rfl (cm rfl (Ch.nil (Fin.block (Fin.C2 (_) (z1) (z) (_)  (⟨hzl,hz.fits,LW.fits⟩) ⟨ke rfl,ke rfl,ke rfl,ke rfl,trivial⟩ (fun _ _ h=>h))))))
 refine Tr.seq (Tr.A0 (co rfl (ki rfl rfl rfl rfl) (cm rfl (Ch.nil (Fin.go ?_)))))
 refine Tr.cn rfl ?_ ?_<;>intro h3 q3
 refine Tr.Cq (tp rfl (Ap rfl BI AY (vl rfl) rfl rfl) (TO.DB 0 rfl rfl rfl (vl rfl) (Va rfl) rfl AY rfl rfl (TO.nil (Fin.block (Fin.C2 (_) (raw) (z) (_)  (⟨hzl,hz.fits,jG⟩) ⟨ke rfl,ke rfl,ke rfl,ke rfl,trivial⟩ (fun _ _ h=>h))))))
 refine Tr.seq (Tr.A0 (co rfl (ki rfl rfl rfl rfl) (cm rfl (Ch.nil (Fin.go (FK 7 8 9 10 43 50 rfl ?_))))))
 refine Tr.cn rfl ?_ ?_<;>intro h4 q4
 refine Tr.seq (Tr.A0 (cm rfl (co rfl (Ay 1 rfl (Gp rfl underlying31 (vl rfl))) (co rfl (ki rfl rfl rfl rfl) (Ch.nil (Fin.go ?_))))))
 refine Tr.cn rfl ?_ ?_<;>intro h5 q5
 have QH:1<z.length:=by have:=q5;rw [List.length_map] at this;omega
 obtain ⟨a0,h0⟩:=at_ (l:=z) (k:=0) (by omega)
 obtain ⟨a1,h1⟩:=at_ (l:=z) (k:=1) QH
 have nI:(z.set 0 a1)[1]? =some a1:=by rw [List.getElem?_set,if_neg (by decide)];exact h1
 have Of:(z.set 0 a1).length=z.length:=List.length_set ..
 refine Tr.EL mixed [none,none,none,some (0,1,false,0),some (0,1,false,0),none,some (0,1,false,0),some (0,1,false,0),some (0,1,false,0),some (0,1,true,0),some (0,1,false,0),some (0,1,true,0)] (by kernel_rfl) (xm rfl (xm rfl (xm rfl ?_)))
 refine DI 1 rfl rfl (C8 rfl underlying31 AY (vl rfl) (vl rfl) (by omega) (by rw [List.length_map];omega)) ?_
 refine DI 1 rfl rfl (FP rfl BI AY (vl rfl) (Aj fun _=>rfl) (C3 (j:=1) h1)) ?_
 refine xm rfl ?_
 refine DI 1 rfl rfl (C8 rfl underlying31 AY (vl rfl) (vl rfl) (by omega) (by rw [List.length_map];omega)) ?_
 refine DI 1 rfl rfl (FP rfl BI AY (vl rfl) (Aj fun _=>rfl) (C3 (j:=0) h0)) ?_
 refine DI 1 rfl rfl (C8 rfl underlying31 AY (vl rfl) (vl rfl) (by omega) (by rw [List.length_map];omega)) ?_
 refine Cx.DP 1 rfl rfl (Fk rfl rfl (vl rfl) (Va rfl) AY rfl (Aj fun _=>rfl) (C3 (j:=0) h0) (by decide) (Uo (j:=0))) ?_
 refine DI 1 rfl rfl (C8 rfl underlying31 AY (vl rfl) (vl rfl) (by omega) (by rw [List.length_map];omega)) ?_
 refine Cx.DP 1 rfl rfl (Fk rfl rfl (vl rfl) (Va rfl) AY rfl (Aj fun _=>rfl) (C3 (j:=1) nI) (by decide) (Uo (j:=1))) ?_
 refine Cx.nil ⟨rfl,?_⟩
 refine BJ.done (BS.cons (BS.cons (BS.cons (BS.map _)))) (Fin.block (Fin.C2 (_) (z1) (((z.set 0 a1).set 1 a0)) (_)  (⟨Up (l:=z) (by simp) hzl,LS (LS hz.fits (hz.fits a1 (List.mem_of_getElem? h1))) (hz.fits a0 (List.mem_of_getElem? h0)),LW.fits⟩) ⟨ke rfl,ke rfl,ke rfl,ke rfl,trivial⟩ (fun _ _ h=>h)))
 refine Tr.skip (Fin.block (Fin.C2 (_) (z1) (z) (_)  (⟨hzl,hz.fits,LW.fits⟩) ⟨ke rfl,ke rfl,ke rfl,ke rfl,trivial⟩ (fun _ _ h=>h)))
 refine Tr.seq (Tr.A0 (co rfl (ki rfl rfl rfl rfl) (cm rfl (Ch.nil (Fin.go ?_)))))
 refine Tr.cn rfl ?_ ?_<;>intro h6 q6
 refine Tr.seq (Tr.A0 (cm rfl (co rfl (Ay 1 rfl (Gp rfl underlying31 (vl rfl))) (co rfl (ki rfl rfl rfl rfl) (Ch.nil (Fin.go ?_))))))
 refine Tr.cn rfl ?_ ?_<;>intro h7 q7
 have QH:0<z.length:=by have:=q7;rw [List.length_map] at this;omega
 obtain ⟨a0,h0⟩:=at_ (l:=z) (k:=0) QH
 refine Tr.Cq (tm rfl ?_)
 refine tp rfl (Ay 1 rfl (C8 rfl underlying31 AY (vl rfl) (vl rfl) (by omega) (by rw [List.length_map];omega))) ?_
 refine tp rfl (Cl rfl Sq (vl rfl)) ?_
 refine TO.DP 1 rfl rfl (Fk rfl rfl (vl rfl) (Vo rfl) B7 rfl (Aj fun _=>rfl) (C3 (j:=0) h0) (by decide) (Wv (j:=0))) ?_
 refine TO.nil (Fin.block (Fin.C2 (_) (z1) ((z.set 0 (QA a0))) (_)  (⟨Up (l:=z) (by simp) hzl,LS hz.fits (show (QA a0).fits from ⟨(hz.fits a0 (List.mem_of_getElem? h0)).host,(hz.fits a0 (List.mem_of_getElem? h0)).CV,(hz.fits a0 (List.mem_of_getElem? h0)).text⟩),LW.fits⟩) ⟨ke rfl,ke rfl,ke rfl,ke rfl,trivial⟩ (fun _ _ h=>h)))
 refine Tr.skip (Fin.block (Fin.C2 (_) (z1) (z) (_)  (⟨hzl,hz.fits,LW.fits⟩) ⟨ke rfl,ke rfl,ke rfl,ke rfl,trivial⟩ (fun _ _ h=>h)))
 refine Tr.skip (Fin.block (Fin.C2 (_) (z1) (z) (_)  (⟨hzl,hz.fits,LW.fits⟩) ⟨ke rfl,ke rfl,ke rfl,ke rfl,trivial⟩ (fun _ _ h=>h)))
 rintro gg ff xs s9  ⟨hxl,e9,e7⟩
 refine Tr.seq (Tr.Fz 1 8 rfl (Aj fun _=>rfl) rfl (Lr) (Tr.A0 (cm rfl (cm rfl ?_))))
 refine co rfl (Ai rfl (Dy (l:=xs) (AE:=gg) e9) ⟨ke rfl,ke rfl,trivial⟩) ?_
 refine cm rfl (co rfl (A2 rfl (vl rfl) rfl) (co rfl (A2 rfl (vl rfl) rfl) (cm rfl (cm rfl (Ch.nil (Fin.go (Tr.drop 1 (Tr.seq (Tr.A0 (cm rfl (cm rfl ?_)))))))))))
 refine co rfl (Ai rfl (E9 (l:=xs) (AE:=gg)) ⟨ke rfl,ke rfl,trivial⟩) ?_
 refine cm rfl (co rfl (A2 rfl (vl rfl) rfl) (co rfl (A2 rfl (vl rfl) rfl) (cm rfl (cm rfl (Ch.nil (Fin.go (LZ 7 8 9 10 11 12 13 14 rfl (Tr.seq (Tr.A0 (cm rfl ?_))))))))))
 refine co rfl (Ai rfl (R9 (l:=xs) e9 (by omega)) ⟨ke rfl,trivial⟩) ?_
 refine cm rfl (co rfl (A2 rfl (vl rfl) rfl) (co rfl (A2 rfl (vl rfl) rfl) (cm rfl (cm rfl (Ch.nil (Fin.go (FL 7 8 9 10 11 12 13 14 15 16 rfl (Tr.seq (Tr.A0 (cm rfl ?_))))))))))
 refine co rfl (Ai rfl (Ob (l:=xs) (by omega)) ⟨ke rfl,trivial⟩) ?_
 refine cm rfl (co rfl (A2 rfl (vl rfl) rfl) (co rfl (A2 rfl (vl rfl) rfl) (cm rfl (cm rfl (Ch.nil (Fin.go (Z3 7 8 9 10 11 12 13 14 15 16 17 18 rfl (Tr.seq (Tr.Cq (tm rfl (tp rfl (AH (xs:=[.const (.string ⟨[97].toArray⟩),.const (.string ⟨[98].toArray⟩),.const (.string ⟨[122].toArray⟩)]) (rows:=[[_],[_],[_]]) rfl rfl underlying53 Da z9 rfl (by decide) ⟨⟨(by exact rfl),(Vo rfl)⟩,⟨⟨(by exact rfl),(Vo rfl)⟩,⟨⟨(by exact rfl),(Vo rfl)⟩,trivial⟩⟩⟩ (by decide)) ?_)))))))))))
 refine TO.DZ 1 rfl rfl (by decide) (Ab rfl rfl (by decide) rfl (Ju (l:=[[97],[98],[122]]) (by simp) (by simp)) ⟨ke rfl,(Kf rfl),trivial⟩) ?_
 refine tm rfl (TO.DZ 1 rfl rfl (by decide) (Ab rfl rfl (by decide) rfl (CF (by omega) (by omega)) ⟨ke rfl,ke rfl,trivial⟩) (tm rfl (tm rfl (TO.nil (Fin.go (fQ 8 9 10 11 12 13 14 15 16 17 18 19 20 rfl (Tr.seq (Tr.A0 ?_))))))))
 iterate 4 refine cm rfl ?_
 refine co rfl (Ai rfl (UE (l:=xs) (AE:=gg) e9) ⟨ke rfl,ke rfl,ke rfl,ke rfl,trivial⟩) ?_
 refine cm rfl (co rfl (A2 rfl (vl rfl) rfl) (co rfl (A2 rfl (vl rfl) rfl) (cm rfl (cm rfl (Ch.nil (Fin.go (Z4 8 9 10 11 12 13 14 15 16 17 18 19 20 21 22 rfl (Tr.seq (Tr.A0 ?_)))))))))
 iterate 4 refine cm rfl ?_
 refine co rfl (Ai rfl (Px (l:=xs) (AE:=gg)) ⟨ke rfl,ke rfl,ke rfl,ke rfl,trivial⟩) ?_
 refine cm rfl (co rfl (A2 rfl (vl rfl) rfl) (co rfl (A2 rfl (vl rfl) rfl) (cm rfl (cm rfl (Ch.nil (Fin.go (Z4 8 9 10 11 12 13 14 15 16 17 18 21 22 23 24 rfl (Tr.seq (Tr.A0 (cm rfl (cm rfl (co rfl (Ay 0 rfl (AW rfl BI AY (vl rfl) rfl rfl)) (co rfl (Ai rfl (Pw (l:=xs) (AE:=gg) (f:=ff) e9 e7) ⟨ke rfl,ke rfl,ke rfl,trivial⟩) ?_)))))))))))))
 refine cm rfl (co rfl (A2 rfl (vl rfl) rfl) (co rfl (A2 rfl (vl rfl) rfl) (cm rfl (cm rfl (Ch.nil (Fin.go (Z9 8 9 10 11 12 13 14 15 16 17 18 21 22 23 24 25 26 rfl (Tr.seq (Tr.A0 (cm rfl (cm rfl (co rfl (Ay 0 rfl (AW rfl BI AY (vl rfl) rfl rfl)) (co rfl (Ai rfl (NJ (l:=xs) (AE:=gg) (f:=ff) e7) ⟨ke rfl,ke rfl,ke rfl,trivial⟩) ?_)))))))))))))
 refine cm rfl (co rfl (A2 rfl (vl rfl) rfl) (co rfl (A2 rfl (vl rfl) rfl) (cm rfl (cm rfl (Ch.nil (Fin.go (Tr.drop 0 (Z9 8 11 12 13 14 15 16 17 18 21 22 23 24 25 26 27 28 rfl (Tr.seq (Tr.seq (Tr.A0 (cm rfl (cm rfl ?_)))))))))))))
 refine co rfl (ki rfl rfl rfl rfl) (cm rfl ?_)
 refine Ch.cs 133 rfl ?_ ?_<;>intro h8 q8
 exfalso;simp at h8
 refine Dh h8 rfl (Dh h8 rfl (cy h8 rfl (ki rfl rfl rfl rfl) (co rfl (KP rfl rfl h8 rfl) (cm rfl ?_))))
 refine Ch.cs 138 rfl ?_ ?_<;>intro h9 q9
 exfalso;simp at h9
 refine Dh h9 rfl (Dh h9 rfl (cy h9 rfl (ki rfl rfl rfl rfl) (co rfl (KP rfl rfl h9 rfl) (cm rfl ?_))))
 refine Ch.cs 143 rfl ?_ ?_<;>intro h10 XK
 exfalso;simp at h10
 refine Dh h10 rfl (Dh h10 rfl (cy h10 rfl (ki rfl rfl rfl rfl) (co rfl (KP rfl rfl h10 rfl) (cm rfl ?_))))
 refine Ch.cs 148 rfl ?_ ?_<;>intro h11 Zd
 exfalso;simp at h11
 refine Dh h11 rfl (Dh h11 rfl (cy h11 rfl (Ai rfl (Rr) ⟨ke rfl,ke rfl,trivial⟩) (cy h11 rfl (E0 rfl (vl rfl)) (co rfl (KP rfl rfl h11 rfl) (cm rfl ?_)))))
 refine Ch.cs 154 rfl ?_ ?_<;>intro h12 YY
 exfalso;simp at h12
 refine Dh h12 rfl (Dh h12 rfl (cy h12 rfl (Ai rfl (Ji) ⟨ke rfl,ke rfl,trivial⟩) (cy h12 rfl (E0 rfl (vl rfl)) (co rfl (KP rfl rfl h12 rfl) (cm rfl ?_)))))
 refine Ch.cs 160 rfl ?_ ?_<;>intro Od cB
 exfalso;simp at Od
 refine Dh Od rfl (Dh Od rfl (cy Od rfl (Ai rfl (HV) ⟨ke rfl,ke rfl,trivial⟩) (cy Od rfl (E0 rfl (vl rfl)) (co rfl (KP rfl rfl Od rfl) (cm rfl ?_)))))
 refine Ch.cs 166 rfl ?_ ?_<;>intro Vh iI
 exfalso;simp at Vh
 refine Dh Vh rfl (Dh Vh rfl (cy Vh rfl (Ai rfl (HV) ⟨ke rfl,ke rfl,trivial⟩) (cy Vh rfl (E0 rfl (vl rfl)) (co rfl (KP rfl rfl Vh rfl) (Ch.nil (Fin.go (Ur 8 13 171 rfl ?_)))))))
 refine Tr.cn rfl ?_ ?_<;>intro iJ j4
 exfalso;simp at iJ
 refine Tr.skip (Fin.go (Tr.seq (Tr.seq (Tr.A0 (cm rfl (Ch.nil (Fin.go (Tr.block (Tr.BV [(8,_),(13,_)] (Ow rfl) (fun c:Int=>[(29,int c)]) (fun c:Int=> -1≤c) (fun c:Int=>(xs.length+1-c).toNat) (-1) (Int.le_refl _) ⟨ke rfl,trivial⟩ ?_)))))))))
 rintro c lA
 refine Tr.seq (Tr.seq (Tr.A0 (cm rfl (cm rfl (co rfl (Co rfl underlying31 (vl rfl)) (co rfl (ki rfl rfl rfl rfl) (Ch.nil (Fin.go ?_))))))))
 refine Tr.cn rfl ?_ ?_<;>intro h16 j5
 have lB:c≤xs.length:=of_decide_eq_true h16
 refine Tr.skip (Fin.go (Tr.seq (Tr.block (Tr.seq (Tr.A0 (cm rfl (cm rfl ?_)))))))
 refine co rfl (Ai rfl (XM (l:=(Bg xs gg).1)) ⟨ke rfl,ke rfl,trivial⟩) ?_
 refine cm rfl (cm rfl ?_)
 refine co rfl (Ai rfl (V3 (l:=(Bg xs gg).1)) ⟨ke rfl,ke rfl,trivial⟩) ?_
 refine co rfl (ki rfl rfl rfl rfl) (Ch.nil (Fin.go (FB 8 13 29 184 rfl ?_)))
 refine Tr.cn rfl ?_ ?_<;>intro cA iG
 exfalso;simp at cA
 refine Tr.skip (Fin.block (Fin.go (Tr.A0 (cm rfl (SD rfl rfl rfl rfl (by omega) (cm rfl (Ch.nil (Fin.AF (c+1) ⟨by omega,by omega⟩ (RI rfl)))))))))
 have:=h16
 refine Tr.exit (Fin.AK (Fin.AK (Fin.Aa (Fin.go (Tr.seq (Tr.A0 (co rfl (Ai rfl (MI) trivial) (cm rfl (Ch.nil (Fin.go (Tr.ret (Fin.EI rfl (Bq.D3 _ _) rfl ?_))))))))))))
 · exact Lr
theorem QB:Et Tryz.prog 26 (fun f:AO=>f.fits) BA:=
 (Hl Tryz.underlying26 (by kernel_rfl) (Bl (c:=1) rfl (by kernel_rfl) (Cc Tryz.underlying3) (Bl (c:=1) rfl (by kernel_rfl) (Fc Tryz.underlying9) (Bl (c:=1) rfl (by kernel_rfl) (Cc Tryz.underlying3) (Bl (c:=1) rfl (by kernel_rfl) (Cc Tryz.underlying3) (Bl (c:=1) rfl (by kernel_rfl) (Cc Tryz.underlying3) (Bl (c:=1) rfl (by kernel_rfl) (Cc Tryz.underlying3) (Bl (c:=1) rfl (by kernel_rfl) (Fc Tryz.underlying9) (Bl (c:=2) rfl (by kernel_rfl) (Hl Tryz.underlying24 (by kernel_rfl) (Bl (c:=1) rfl (by kernel_rfl) (Cc Tryz.underlying3) (Bl (c:=1) rfl (by kernel_rfl) (Cc Tryz.underlying3) (KR _ _)))) (Bl (c:=1) rfl (by kernel_rfl) (Cc Tryz.underlying3) (Bl (c:=1) rfl (by kernel_rfl) (Fc Tryz.underlying9) (KR _ _)))))))))))).map (fun z=>(⟨z.1,z.2.1.data.toList,z.2.2.1,z.2.2.2.1,z.2.2.2.2.1,z.2.2.2.2.2.1,z.2.2.2.2.2.2.1.data.toList,z.2.2.2.2.2.2.2.1.1,z.2.2.2.2.2.2.2.1.2.1,z.2.2.2.2.2.2.2.2.1,z.2.2.2.2.2.2.2.2.2.1.data.toList⟩:AO)) (fun z h=>⟨h.2.1,h.2.2.2.2.2.2.1,h.2.2.2.2.2.2.2.2.2.1⟩) (fun _=>rfl)
theorem G4 (os:Os) (started:os.Started) (H:Type) (enc:TypeId×Value→H):
  ReturnsInHanded {} Tryz.checked os 3 .any (Rows.identityMadeSpec.pre6 enc Tryz.prog Tryz.f3 Rows.identityMadeRow.domain false) (Rows.identityMadeSpec.post enc Tryz.prog Tryz.f3 false true false false):=by
 refine returnsInHanded_of_change (C := Tryz.checked) iZ started (by kernel_rfl) Tryz.func3
  (ChangeSpec.witness6 (enc:=enc) (C:=Tryz.checked) false ⟨#[],#[.slice none 0 0,.int .i64 0,.agg #[.int .i64 0,.string (ByteArray.mk #[]),.int .i64 0,.int .i64 0,.int .i64 0,.int .i64 0,.string (ByteArray.mk #[]),.int .i64 0,.int .i64 0,.int .i64 0,.string (ByteArray.mk #[])]],[]⟩ 8 (by kernel_rfl) (by kernel_rfl) (by kernel_rfl) (by kernel_rfl)) ?_
 intro W base args ds gs before dO hW nJ _
 have hval:∀(j:Nat) t v,Tryz.f3.params[j]? =some t→args[j]? =some v→Value.okWide Tryz.prog W .any base t v:=dO
 have nK:=hW
 obtain ⟨p,q,nL,hV,hpq,hfz,hnd⟩:=hW
 have hA:DataW.TrodAll enc Tryz.prog W 0 (fun _=>true) true Tryz.f3.params.toList args.toList ds p:=nL
 have SX:=hA
 rw [Tryz.params3] at hA hval
 obtain ⟨v0,v1,v2,d0,d1,d2,p0,p1,p2,rfl,rfl,hp,h0,h1,h2⟩:=trodAll_three hA
 obtain ⟨rfl,rfl⟩:=trodVars_none hV
 obtain ⟨a0,dc,e0⟩:=QT (Pq Tryz.underlying22 Tryz.underlying3 (by kernel_rfl)) h0 (by obtain ⟨_,_,_,rfl⟩:=okWide_slice Tryz.underlying22 (hval 0 22 v0 rfl rfl);rfl)
 obtain ⟨a1,hr1,e1⟩:=QT (Cc Tryz.underlying3) h1 (by obtain ⟨_,rfl⟩:=okWide_int Tryz.underlying3 (hval 1 3 v1 rfl rfl);rfl)
 obtain ⟨a2,dg,e2⟩:=U_ (QB) h2 (by obtain ⟨cs,rfl,_⟩:=okWide_struct Tryz.underlying26 (hval 2 26 v2 rfl rfl);exact ⟨_,rfl⟩)
 refine ((LU dg).2 Xm W [v0,v1,v2] (Xn W) ⟨e0,e1,e2,trivial⟩).mono fun e W' ⟨v,he,hv,hb⟩=> ?_
 subst he
 obtain rfl:v= .bool true:=hv
 exact ⟨_,rfl,Sf T9 (by kernel_rfl) rfl Tryz.underlying4 rfl SX (by rw [hpq];simp) nK rfl hb⟩
theorem G5:(Rows.identityMadeRow.inPlace==Tryz.pinned.checked.prog.inPlace 3)=true:=by kernel_rfl
theorem G6:(Rows.identityMadeRow.unfollowed==Tryz.pinned.checked.prog.unfollowed 3)=true:=by kernel_rfl
theorem G7:(Rows.identityMadeRow.recurses==Tryz.pinned.checked.prog.recurses 3)=true:=by kernel_rfl
theorem G8:(Rows.identityMadeRow.named==Tryz.pinned.checked.prog.varsNamed 3)=true:=by kernel_rfl
theorem HZ:joinedFacts Tryz.pinned.checked.prog 3 Tryz.f3 Rows.identityMadeSpec Rows.identityMadeRow=true:=by
 unfold joinedFacts
 rw [G5,G6,G7,G8]
 kernel_rfl
theorem identityMade_holds:Rows.IdentityMadeSaid:=
 OpenClaim.holds_of_wide 3 Tryz.f3 rfl rfl rfl rfl rfl rfl rfl ⟨rfl, rfl, rfl, rfl, rfl⟩ rfl rfl rfl rfl rfl (by kernel_rfl) Tryz.func3 HZ
  (of_decide_eq_true (by kernel_rfl)) (by unfold Func.isWrapper;first|(rw [if_pos (by decide+kernel)];kernel_rfl)|(rw [if_neg (by decide+kernel)];exact ⟨rfl,rfl⟩))
  (fun os started H enc _=>G4 os started H enc)
end Go.Proofs.YtgilhkjlfongoaaGreat
