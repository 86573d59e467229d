/-
  Part 4 of the texts that prove this claim, merged.
-/
import Derived.Test.YthommhphcagokaaGreatDoorPsFP3
set_option linter.all false
set_option maxRecDepth 40000
set_option maxHeartbeats 16000000
namespace Cp
open Go Go.RowKit
def KV(P:Program)(gf:Nat)(lb:Array Value){α:Type}(enc:α->Value)(xs:List α)(own:List α->List Ay):Prop:=
 ∀M0 w0 S (l:Nat) (β:Type) (R Rx:List α->β->List Ay),
  (∀pre x d M w,(pre++[x])<+:xs->BD M0 w0 S (own (pre++[x])++R pre d) M w->YieldAt (D3 none) 0 P l #[enc x] w fun e w'=>∃M' d',Ext M w M' w'/\
   ((e= .returned (.bool true)/\BD M0 w0 S (own (pre++[x])++R (pre++[x]) d') M' w')\/(e= .returned (.bool false)/\BD M0 w0 S (own (pre++[x])++Rx (pre++[x]) d') M' w')))->
  ∀d M w,BD M0 w0 S (own []++R [] d) M w->CallsIn (D3 none) 0 P gf (#[.func (.yield l) #[] #[]]++lb) w fun e w'=>(∃v,e= .returned v)/\∃M' d',Ext M w M' w'/\
   (BD M0 w0 S (own xs++R xs d') M' w'\/∃pre,pre<+:xs/\BD M0 w0 S (own pre++Rx pre d') M' w')
def LI(M0:Av)(w0:World)(S:Nat->Prop){β:Type}(rs:β->List Ay)(rx:Code->β->List Ay):Exit->Act->World->Prop
 | .normal,_,w=>∃d M,BD M0 w0 S (rs d) M w
 | .ret,_,w=>∃d M,BD M0 w0 S (rx .ret d) M w
 | .exit id,_,w=>∃d M,BD M0 w0 S (rx (.exit id) d) M w
 | .goto t,_,w=>∃d M,BD M0 w0 S (rx (.goto t) d) M w
 | .panic _,_,_=>False
 | .outgrown,_,_=>False
section
variable{P:Program}{M0:Av}{w0:World}{S:Nat->Prop}{rs:List Ay}
theorem Tr.range{Q:Exit->Act->World->Prop}{n:Fm}{E:Env}{α β:Type}{p gf:Nat}{g:Operand}{lb:Array Value}{enc:α->Value}{xs:List α}{own:List α->List Ay}{assign body:Code}(E':α->Env)(R:List α->β->List Ay)(Rx:Code->List α->β->List Ay)(d0:β)
  (hIt:KV P gf lb enc xs own) (eg:∀args w,(callFunc gf args).run P w= .ok (.enter gf args) w) (hg:VL E g (is (.func (.func gf) #[] lb))) (hrs:rs.Perm (own []++R [] d0))
  (hassign:∀l D rec M1 w1 pre x d,(pre++[x])<+:xs->∀a,a.tmps.size=n.sz->Fo M1 w1 E a->∀M w,BD M0 w0 S (own (pre++[x])++(BK l rec::BK D (.deferred (some []))::Ao M1 w1::R pre d)) M w->
   assign.wpIn (D3 (some l)) 0 P (Exit.then (St ⟨n.sz,[]⟩ (E' x) (Hp M0 w0 S (own (pre++[x])++(BK l rec::BK D (.deferred (some []))::Ao M1 w1::R pre d)))) (fun _ _ _=>False)) { tmps:=a.tmps.setIfInBounds p (enc x),defers:=[] } w)
  (hbody : ∀ l D rec M1 w1 pre x d, (pre ++ [x]) <+: xs -> Tr (jB P (some l)) ⟨n.sz, []⟩ (E' x) (Hp M0 w0 S (own (pre ++ [x]) ++ (BK l rec :: BK D (.deferred (some [])) :: Ao M1 w1 :: R pre d))) body
   (LI M0 w0 S (fun d=>own (pre++[x])++(BK l rec::BK D (.deferred (some []))::Ao M1 w1::R (pre++[x]) d)) (fun c d=>own (pre++[x])++(BK l rec::BK D (.deferred (some []))::Ao M1 w1::Rx c (pre++[x]) d))))
  (hdone:∀l D rec M1 w1 d,Fin ⟨n.sz,{ target:= .collected D,args:= #[] }::n.df⟩ E (Hp M0 w0 S (own xs++(BK l rec::BK D (.deferred (some []))::Ao M1 w1::R xs d))) Q .normal)
  (hstop:∀l D rec M1 w1 c pre d,pre<+:xs->Tr (jB P none) ⟨n.sz,{ target:= .collected D,args:= #[] }::n.df⟩ E (Hp M0 w0 S (own pre++(BK l rec::BK D (.deferred (some []))::Ao M1 w1::Rx c pre d))) c Q):
  Tr (jB P none) n E (Hp M0 w0 S rs) (.rangeFunc g #[p] assign body) Q:=by
 intro a w ⟨M,hsz,hdf,hE,hI⟩;have hI:BD M0 w0 S rs M w:=hI;refine wpIn_rangeFunc ?_;intro fn hfn;obtain⟨rec,ZB⟩:∃rec:LoopState->Option Code->Loop,rec=fun st pe=>{ state:=st,pending:=pe,fn,tmps:=a.tmps,params:= #[p],assign,body,defers:=w.heap.size }:=⟨_,rfl⟩
 -- what is held ahead of the call
 have hI2:=BD.perm hrs hI;obtain⟨hI3,e3⟩:=hI2.lQ (.deferred (some []));obtain⟨hI4,e4⟩:=hI3.lQ (.loop (rec .ready none));obtain⟨W1,hW1⟩:∃W1,(w.alloc (.deferred (some []))).alloc (.loop (rec .ready none))=W1:=⟨_,rfl⟩;have hs1:(w.alloc (.deferred (some []))).heap.size=w.heap.size+1:=by simp
 rw[hW1,hs1]at hI4 e4;obtain⟨M1,hM1⟩:∃M1:Av,M1=(fun b o=>(M b o\/b=w.heap.size)\/b=w.heap.size+1):=⟨_,rfl⟩;rw[←hM1]at hI4 e4;have e1:Ext M w M1 W1:=e3.trans e4;obtain⟨l,hl⟩:∃l,l=w.heap.size+1:=⟨_,rfl⟩;obtain⟨D,hD⟩:∃D,D=w.heap.size:=⟨_,rfl⟩;rw[←hl]at hI4;rw[←hD]at hI4;have hE1:Fo M1 W1 E a:=fun s q hq=>q.st _ _ _ _ _ e1 (hE s q hq)
 have hI5:BD M0 w0 S (own []++(BK l (.loop (rec .ready none))::BK D (.deferred (some []))::Ao M1 W1::R [] d0)) M1 W1:=by
  refine BD.perm ?_ (BD.JI hI4 (r:=Ao M1 W1) rfl (Ext.refl _ _));refine List.Perm.trans (l₂:=(BK l (.loop (rec .ready none))::BK D (.deferred (some []))::Ao M1 W1::R [] d0)++own []) ?_ List.perm_append_comm;refine(List.Perm.swap _ _ _).trans (List.Perm.cons _ ((List.Perm.swap _ _ _).trans (List.Perm.cons _ (List.Perm.cons _ List.perm_append_comm))))
 have ix:∀(os:List Ay) (r:Ay) (tl:List Ay),(os++r::tl)[os.length]? =some r:=fun os r tl=>by simp
 have sx:∀(os:List Ay) (r r':Ay) (tl:List Ay),(os++r::tl).set os.length r'=os++r'::tl:=fun os r r' tl=>by simp
 have ix2:∀(os:List Ay) (r1 r2 r:Ay) (tl:List Ay),(os++r1::r2::r::tl)[os.length+2]? =some r:=fun os r1 r2 r tl=>by grind
 have sx2:∀(os:List Ay) (r1 r2 r r':Ay) (tl:List Ay),(os++r1::r2::r::tl).set (os.length+2) r'=os++r1::r2::r'::tl:=fun os r1 r2 r r' tl=>by
  rw[List.set_append_right _ _ AA];simp
 have AGT:=hdone;have AGU:=hstop;refine⟨l,[{ target:= .collected D,args:= #[] }],W1,{ target:= .fn (.func gf) lb,args:= #[.func (.yield l) #[] #[]] },W1,gf,#[.func (.yield l) #[] #[]]++lb,W1,?_,?_,fun _ _=>trivial,?_,fun h=>(by cases h),?_⟩
 .rw[hl,hD,←hW1,ZB];exact run_enterLoop_outer _ _ _ _ _
 .
  have hv:a.eval g= .func (.func gf) #[] lb:=by
   obtain⟨q,h1,h2⟩:=hg;exact h2 _ _ _ (DT.eval hE h1)
  simp only[resolve,hv];simp[go_sem]
 .simp[invoke,go_sem,eg]
 .
  refine(hIt M0 w0 S l (Code × β) (fun pre cd => BK l (.loop (rec .ready none)) :: BK D (.deferred (some [])) :: Ao M1 W1 :: R pre cd.2)
   (fun pre cd=>BK l (.loop (rec .done (some cd.1)))::BK D (.deferred (some []))::Ao M1 W1::Rx cd.1 pre cd.2) ?_ (.skip,d0) M1 W1 hI5).mono ?_
  .
   rintro pre x ⟨c0,d⟩ M2 W2 hpre hI;have hl2:W2.heap[l]? =some (.loop (rec .ready none)):=(hI.hold (BK l (.loop (rec .ready none))) Ai).1.2;have hx2:Ext M1 W1 M2 W2:=(hI.hold (Ao M1 W1) Ai).1;have hy:=run_yield (P:=P) (args:= #[enc x]) hl2 (by rw[ZB];rfl)
   have QD:BD M0 w0 S (own (pre++[x])++(BK l (.loop (rec .ready none))::BK D (.deferred (some []))::Ao M2 W2::R pre d)) M2 W2:=by
    have:=hI.DF (r':=Ao M2 W2) (ix2 _ _ _ _ _) rfl rfl (Ext.refl _ _)
    rwa [sx2]at this
   have hy2:(Instr.yield l #[enc x]).run P W2= .ok (.round l fn (a.tmps.setIfInBounds p (enc x)) assign body) W2:=by
    rw[hy,ZB];simp
   have ha:=hassign l D _ M2 W2 pre x d hpre a hsz (fun s q hq=>q.st _ _ _ _ _ hx2 (hE1 s q hq)) M2 W2 QD;refine⟨fn,_,assign,body,hy2,roundIn_of_wpIn (F:=D3 none) trivial (wpIn_mono (F:=(D3 none).inRound l) ha ?_)⟩;intro e a3 W3 hq;cases e with
   |normal=>
    obtain⟨M3,YM,hd3,hE3,hI3⟩:=hq;have hI3:BD M0 w0 S (own (pre++[x])++(BK l (.loop (rec .ready none))::BK D (.deferred (some []))::Ao M2 W2::R pre d)) M3 W3:=hI3;have hl3:W3.heap[l]? =some (.loop (rec .ready none)):=(hI3.hold (BK l (.loop (rec .ready none))) Ai).1.2;obtain⟨hI4,e4⟩:=hI3.putObj (.loop { rec .ready none with state:= .busy }) (ix _ _ _);rw[sx]at hI4;refine⟨_,run_beginRound hl3 (by rw[ZB]),?_⟩;refine wpIn_mono (F:=(D3 none).inRound l) (hbody l D _ M2 W2 pre x d hpre a3 _ ⟨M3,YM,hd3,fun s q hq=>q.st _ _ _ _ _ e4 (hE3 s q hq),hI4⟩) ?_
    have fin:∀(jump:Option Code) (tl:List Ay) (W5:World) (M5:Av),BD M0 w0 S (own (pre++[x])++(BK l (.loop { rec .ready none with state:= .busy })::BK D (.deferred (some []))::Ao M2 W2::tl)) M5 W5->
      ∃w6,(Instr.endRound l jump).run P W5= .ok (.bool jump.isNone) w6/\Ext M2 W2 M5 w6/\BD M0 w0 S (own (pre++[x])++(BK l (.loop (rec (if jump.isNone then .ready else .done) jump))::BK D (.deferred (some []))::Ao M1 W1::tl)) M5 w6:=by
     intro jump tl W5 M5 h5;have hl5:W5.heap[l]? =some (.loop { rec .ready none with state:= .busy }):=(h5.hold (BK l (.loop { rec .ready none with state:= .busy })) Ai).1.2;have hx5:Ext M2 W2 M5 W5:=(h5.hold (Ao M2 W2) Ai).1;obtain⟨h6,e6⟩:=h5.putObj (.loop { rec .ready none with state:=if jump.isNone then .ready else .done,pending:=jump }) (ix _ _ _);rw[sx]at h6;have h7:=h6.DF (r':=Ao M1 W1) (ix2 _ _ _ _ _) rfl rfl (hx2.trans (hx5.trans e6));rw[sx2]at h7;refine⟨_,run_endRound jump hl5,hx5.trans e6,?_⟩;rw[ZB]at h7 ⊢;exact h7
    intro e5 a5 W5 hp;cases e5 with
    |normal=>
     obtain⟨d5,M5,h5⟩:=hp;obtain⟨w6,g1,g2,g3⟩:=fin none _ _ _ h5;exact⟨_,_,g1,M5,(.skip,d5),g2,.inl ⟨rfl,g3⟩⟩
    |ret=>
     obtain⟨d5,M5,h5⟩:=hp;obtain⟨w6,g1,g2,g3⟩:=fin (some .ret) _ _ _ h5;exact⟨_,_,g1,M5,(.ret,d5),g2,.inr ⟨rfl,g3⟩⟩
    |exit id=>
     obtain⟨d5,M5,h5⟩:=hp;obtain⟨w6,g1,g2,g3⟩:=fin (some (.exit id)) _ _ _ h5;exact⟨_,_,g1,M5,(.exit id,d5),g2,.inr ⟨rfl,g3⟩⟩
    |goto t=>
     obtain⟨d5,M5,h5⟩:=hp;obtain⟨w6,g1,g2,g3⟩:=fin (some (.goto t)) _ _ _ h5;exact⟨_,_,g1,M5,(.goto t,d5),g2,.inr ⟨rfl,g3⟩⟩
    |panic ch=>exact hp.elim
    |outgrown=>exact hp.elim
   |exit id=>exact hq.elim
   |goto t=>exact hq.elim
   |ret=>exact hq.elim
   |panic ch=>exact hq.elim
   |outgrown=>exact hq.elim
  .
   rintro e W2 ⟨⟨v,rfl⟩,M2,⟨c2,d2⟩,hx2,h2⟩
   have hend:∀(os tl:List Ay) (st:LoopState) (pe:Option Code),st≠ .busy->BD M0 w0 S (os++(BK l (.loop (rec st pe))::BK D (.deferred (some []))::Ao M1 W1::tl)) M2 W2->
     ∃w6,(Instr.endLoop l).run P W2= .ok pe w6/\Ext M2 W2 M2 w6/\BD M0 w0 S (os++(BK l (.loop { rec st pe with state:= .exhausted })::BK D (.deferred (some []))::Ao M1 W1::tl)) M2 w6:=by
    intro os tl st pe hst h5;have hl5:W2.heap[l]? =some (.loop (rec st pe)):=(h5.hold (BK l (.loop (rec st pe))) Ai).1.2;obtain⟨h6,e6⟩:=h5.putObj (.loop { rec st pe with state:= .exhausted }) (ix _ _ _);rw[sx]at h6;have:=run_endLoop (P:=P) hl5 (by rw[ZB];exact hst);refine⟨_,?_,e6,h6⟩;rw[this,ZB]
   rcases h2 with h2|⟨pre,hpre,h2⟩
   .
    obtain⟨w6,g1,g2,g3⟩:=hend _ _ _ _ Ai h2;exact⟨none,w6,g1,hdone l D _ M1 W1 d2 _ _ ⟨M2,hsz,by show _::a.defers=_;rw[hdf],fun s q hq=>q.st _ _ _ _ _ g2 (q.st _ _ _ _ _ hx2 (hE1 s q hq)),g3⟩⟩
   .
    obtain⟨w6,g1,g2,g3⟩:=hend _ _ _ _ Ai h2;exact⟨some c2,w6,g1,hstop l D _ M1 W1 c2 pre d2 hpre _ _ ⟨M2,hsz,by show _::a.defers=_;rw[hdf],fun s q hq=>q.st _ _ _ _ _ g2 (q.st _ _ _ _ _ hx2 (hE1 s q hq)),g3⟩⟩
end
section
variable{P:Program}{M0:Av}{w0:World}{S:Nat->Prop}{rs:List Ay}
theorem Tr.toR{n:Fm}{E:Env}{I:Cj}{c:Code}{Q:Exit->Act->World->Prop}(h:Tr (YJ P) n E I c Q):Tr (jB P none) n E I c Q:=fun a w hs=>wpIn_wide.2 (h a w hs)
theorem Tr.ofR{n:Fm}{E:Env}{I:Cj}{c:Code}{Q:Exit->Act->World->Prop}(h:Tr (jB P none) n E I c Q):Tr (YJ P) n E I c Q:=fun a w hs=>wpIn_wide.1 (h a w hs)
theorem Tr.lR{Q:Exit->Act->World->Prop}{n:Fm}{E:Env}{α β:Type}{p gf:Nat}{g:Operand}{lb:Array Value}{enc:α->Value}{xs:List α}{own:List α->List Ay}{assign body:Code}(E':α->Env)(R:List α->β->List Ay)(Rx:Code->List α->β->List Ay)(d0:β)
  (hIt:KV P gf lb enc xs own) (eg:∀args w,(callFunc gf args).run P w= .ok (.enter gf args) w) (hg:VL E g (is (.func (.func gf) #[] lb))) (hrs:rs.Perm (own []++R [] d0))
  (hassign:∀l D rec M1 w1 pre x d,(pre++[x])<+:xs->∀a,a.tmps.size=n.sz->Fo M1 w1 E a->∀M w,BD M0 w0 S (own (pre++[x])++(BK l rec::BK D (.deferred (some []))::Ao M1 w1::R pre d)) M w->
   assign.wpIn (D3 (some l)) 0 P (Exit.then (St ⟨n.sz,[]⟩ (E' x) (Hp M0 w0 S (own (pre++[x])++(BK l rec::BK D (.deferred (some []))::Ao M1 w1::R pre d)))) (fun _ _ _=>False)) { tmps:=a.tmps.setIfInBounds p (enc x),defers:=[] } w)
  (hbody : ∀ l D rec M1 w1 pre x d, (pre ++ [x]) <+: xs -> Tr (jB P (some l)) ⟨n.sz, []⟩ (E' x) (Hp M0 w0 S (own (pre ++ [x]) ++ (BK l rec :: BK D (.deferred (some [])) :: Ao M1 w1 :: R pre d))) body
   (LI M0 w0 S (fun d=>own (pre++[x])++(BK l rec::BK D (.deferred (some []))::Ao M1 w1::R (pre++[x]) d)) (fun c d=>own (pre++[x])++(BK l rec::BK D (.deferred (some []))::Ao M1 w1::Rx c (pre++[x]) d))))
  (hdone:∀l D rec M1 w1 d,Fin ⟨n.sz,{ target:= .collected D,args:= #[] }::n.df⟩ E (Hp M0 w0 S (own xs++(BK l rec::BK D (.deferred (some []))::Ao M1 w1::R xs d))) Q .normal)
  (hstop:∀l D rec M1 w1 c pre d,pre<+:xs->Tr (YJ P) ⟨n.sz,{ target:= .collected D,args:= #[] }::n.df⟩ E (Hp M0 w0 S (own pre++(BK l rec::BK D (.deferred (some []))::Ao M1 w1::Rx c pre d))) c Q):
  Tr (YJ P) n E (Hp M0 w0 S rs) (.rangeFunc g #[p] assign body) Q:=
 Tr.ofR (Tr.range E' R Rx d0 hIt eg hg hrs hassign hbody hdone fun l D rec M1 w1 c pre d hp=>(hstop l D rec M1 w1 c pre d hp).toR)
end
section
variable{P:Program}
theorem lS{o:Oper}{x y:Operand}{ts:Array TypeId}{l:Nat}{v:Value}{a:Act}{w:World}{R:Ending->World->Prop}{K:Act->World->Prop}{Q:Exit->Act->World->Prop}(ho:o.op= .call { callee:= .value x,args:= #[y],argTypes:=ts })
  (hx:a.eval x= .func (.yield l) #[] #[]) (hy:a.eval y=v) (h:YieldAt (D3 none) 0 P l #[v] w R) (k:∀e w',R e w'->∃u,e= .returned u/\K (a.put o.dst u) w'):o.wpIn (D3 none) 0 P a w K Q:=by
 obtain⟨fn,tmps,assign,body,hr,xh⟩:=h;refine⟨fun _ _=>trivial,?_⟩;rw[Oper.semAt_eq _ _ _ (fun c hh=>by rw[ho]at hh;cases hh)]
 have hrun:(execOp a.eval o).run P w= .ok (.round l fn tmps assign body) w:=by
  have hd:(resolve a.eval { callee:= .value x,args:= #[y],argTypes:=ts } o.type).run P w= .ok { target:= .fn (.yield l) #[],args:= #[v] } w:=by simp[resolve,Deferred.ofValue,hx,hy]
  have hi:invoke (.fn (.yield l) #[]) #[v]=Instr.yield l #[v]:=rfl;simp only[execOp,ho];rw[Sem.run_bind,hd];simp only[Result.andThen];rw[hi];exact hr
 rw[hrun];refine⟨fun hh=>(by cases hh),RoundIn.mono xh fun e w' he=>?_⟩;obtain⟨u,rfl,hk⟩:=k e w' he;exact hk
end
end Cp
namespace Cp
open Go Go.RowKit Go.Great
variable{a:Act}{ts:Array TypeId}{M:Av}{f:FuncId}{args ps:List Pr}{rs:List Ay}{d i j m:Nat}{x:Operand}{p:Pr}{T:TypeId}{v:Value}{w:World}
abbrev mark(D:Nat):Deferred:={ target:= .collected D,args:= #[] }
abbrev Rm(D:Nat):Ay:=BK D (.deferred (some []))
abbrev Jx(P:Program)(g:Func)(R:Ending->World->Prop):Exit->Act->World->Prop:=bodyPostM (D3 none) 0 P g R
section
variable{P:Program}{fz:Nat}{E:Env}{M0:Av}{w0:World}{S:Nat->Prop}{rs:List Ay}{g:Func}{R:Ending->World->Prop}{ds:List Deferred}{n:Fm}{c:Code}
theorem Fin.Rn{D:Nat}(k:Fin ⟨fz,ds⟩ E (Hp M0 w0 S rs) (Jx P g R) .ret):Fin ⟨fz,mark D::ds⟩ E (Hp M0 w0 S (Rm D::rs)) (Jx P g R) .ret:=by
 rintro a w ⟨M,h1,h2,h3,h4⟩;have h4:BD M0 w0 S (Rm D::rs) M w:=h4;have hD:w.heap[D]? =some (.deferred (some [])):=(h4.hold _ (List.mem_cons_self ..)).1.2;obtain⟨h5,h6⟩:=h4.putObj (j:=0) (.deferred none) rfl;have h7:=k { a with defers:=ds } (w.putObj D (.deferred none)) ⟨M,h1,rfl,fun s q hq=>q.st _ _ _ _ _ h6 (h3 s q hq),BD.Hg h5⟩;have h2:a.defers=mark D::ds:=h2;show LeavesInM _ _ _ _ _ _ a.defers _ _;rw[h2];exact⟨(fun h=>by cases h),.inl ⟨D,_,rfl,run_takeDeferred hD,h7⟩⟩
theorem Fin.Ro(k:Fin ⟨fz,[]⟩ E (Hp M0 w0 S rs) (bodyPost P g R) .ret):Fin ⟨fz,[]⟩ E (Hp M0 w0 S rs) (Jx P g R) .ret:=by
 rintro a w h;obtain⟨h1,v,h2,h3⟩:=k a w h;show LeavesInM _ _ _ _ _ _ a.defers _ _;rw[h1];exact⟨v,h2,h3⟩
theorem Fin.cW:∀{Ds:List Nat} {rs:List Ay},Fin ⟨fz,[]⟩ E (Hp M0 w0 S rs) (bodyPost P g R) .ret->Fin ⟨fz,Ds.map mark⟩ E (Hp M0 w0 S (Ds.map Rm++rs)) (Jx P g R) .ret
 |[],_,k=>Fin.Ro k
 |_::_,_,k=>Fin.Rn (Fin.cW k)
theorem Fin.xj{rs:List Ay}(k:Fin n E (Hp M0 w0 S rs) (Jx P g R) .ret):Fin n E (Hp M0 w0 S rs) (Jx P g R) .normal:=k
theorem PL{args:Array Value}(hf:P.funcs[f]? =some g)(hb:g.body=some c)(h:c.wp P (Jx P g R) { tmps:=args++Array.replicate (g.ntmps-args.size) undef,defers:=[] } w):Calls P f args w R:=
 callsIn_wide.1 (callsIn_of_wp_marks (F:=D3 none) (n:=0) hf hb trivial (wpIn_wide.2 h))
variable{α:Type}{pre:List Ay}{C:α->Prop}{res:α->Pr}{post:α->List Ay}{M1:Av}{w1:World}
theorem Hy.ofM (hf : P.funcs[f]? = some g) (hb : g.body = some c) (hname : (g.name == "runtime.NumGoroutine") = false) (hlen : ps.length ≤ g.ntmps) (h : ∀ M0 w0 S rs M1 w1, Tr (YJ P) g.ntmps (L5 0 ps) (Hp M0 w0 S (pre ++ Ao M1 w1 :: rs)) c (Jx P g (RZ M0 w0 S rs M1 w1 C res post))) : Hy P f ps pre C res post := by
 refine⟨⟨g,hf,hname,by rw[hb];rfl⟩,fun M0 w0 S rs M w vs hI hv=>?_⟩;refine PL hf hb (h M0 w0 S rs M w _ _ ⟨M,?_,rfl,Gb hv,?_⟩)
 .
  have:=hv.length;simp[this];omega
 .exact UT
end
structure W4(P:Program)(T kt et:TypeId){κ:Type}[DecidableEq κ](enc:κ->Value)(z0:Value):Prop where
 und:P.underlying T=some (.map kt et)
 zero:∀w,(zeroValue et).run P w= .ok z0 w
 eq:∀a b w,(Op.equal kt (enc a) (enc b)).run P w= .ok (decide (a=b)) w
 chk:∀e a w,(Instr.checkKey e 10000 kt (enc a)).run P w= .ok () w
 xM:∃d,P.underlying kt=some d/\((∀a b,Instr.sameNow d (enc a) (enc b)=none)\/∀a b,Instr.sameNow d (enc a) (enc b)=some (decide (a=b)))
 bits:∀a,Instr.sameBits 10000 (enc a) (enc a)=true
section
variable{P:Program}{L:Lg P}{n:Fm}{z0:Value}{fz:Nat}{E:Env}{M0:Av}{w0:World}{S:Nat->Prop}{rs:List Ay}{o:Oper}{κ:Type}[DecidableEq κ]{enc:κ->Value}
abbrev ER(enc:κ->Value)(es:List (κ×Value)):List (Value×Value):=es.map fun p=>(enc p.1,p.2)
def HF(enc:κ->Value)(b:Nat)(es:List (κ×Value)):Ay where
 blk:=some b
 new:=true
 h M w:=(∀o,M b o)/\w.heap[b]? =some (.map (Lm (ER enc es)) es.length)
 st M w M' w' he hk h:=by
  obtain⟨h1,h2⟩:=hk b rfl;exact⟨fun o=>h2 o (h.1 o),h1.trans h.2⟩
def W6(es:List (κ×Value))(k:κ):Option Value:=(es.find? fun p=>decide (k=p.1)).map (·.2)
def MS(es:List (κ×Value))(k:κ)(v:Value):List (κ×Value):=match es.findIdx? fun p=>decide (k=p.1)with|some i=>es.set i (k,v)|none=>es++[(k,v)]
theorem NV{T kt et:TypeId}(hT:W4 P T kt et enc z0)(k:κ)(w:World):∀(es:List (κ×Value)) (i c:Nat),
  (Instr.findAsking kt (enc k) ((es.zipIdx c).map fun p=>({ key:=enc p.1.1,val:=p.1.2,born:=p.2 }:MapEntry)) i).run P w= .ok ((es.findIdx? fun p=>decide (k=p.1)).bind fun j=>(es[j]?).map fun p=>(i+j,p.2)) w
 |[],i,c=>by simp[Instr.findAsking]
 |p::es,i,c=>by
  rw[List.zipIdx_cons,List.map_cons,Instr.findAsking,Sem.run_bind,hT.eq,Result.andThen_ok]
  by_cases h:k=p.1
  .simp[h,List.findIdx?_cons]
  .
   rw[if_neg Fc,NV hT k w es (i+1) (c+1),List.findIdx?_cons];simp only[h,decide_false,Bool.false_eq_true,if_false]
   congr 1
   cases hf:es.findIdx? fun p=>decide (k=p.1)with
   |none=>simp
   |some j=>simp[Nat.add_assoc,Nat.add_comm 1 j]
theorem Te{d:TypeDesc}(hn:∀a b:κ,Instr.sameNow d (enc a) (enc b)=some (decide (a=b)))(k:κ):∀(es:List (κ×Value)) (i c:Nat),
  Instr.findNow d (enc k) ((es.zipIdx c).map fun p=>({ key:=enc p.1.1,val:=p.1.2,born:=p.2 }:MapEntry)) i=some ((es.findIdx? fun p=>decide (k=p.1)).bind fun j=>(es[j]?).map fun p=>(i+j,p.2))
 |[],i,c=>by simp[Instr.findNow]
 |p::es,i,c=>by
  rw[List.zipIdx_cons,List.map_cons,Instr.findNow,hn]
  by_cases h:k=p.1
  .simp[h,List.findIdx?_cons]
  .
   simp only[h,decide_false];rw[Te hn k es (i+1) (c+1),List.findIdx?_cons];simp only[h,decide_false,Bool.false_eq_true,if_false]
   congr 1
   cases hf:es.findIdx? fun p=>decide (k=p.1)with
   |none=>simp
   |some j=>simp[Nat.add_assoc,Nat.add_comm 1 j]
theorem Tf{kt et:TypeId}(hT:W4 P T kt et enc z0)(k:κ)(w:World)(es:List (κ×Value)):
  (Instr.findKey kt (enc k) (Lm (ER enc es)).toList).run P w= .ok ((es.findIdx? fun p=>decide (k=p.1)).bind fun j=>(es[j]?).map fun p=>(j,p.2)) w:=by
 obtain⟨d,hd,hn⟩:=hT.xM
 have hl:(Lm (ER enc es)).toList=(es.zipIdx 0).map fun p=>({ key:=enc p.1.1,val:=p.1.2,born:=p.2 }:MapEntry):=by
  simp[Lm,ER,List.zipIdx_map]
 rw[hl];unfold Instr.findKey;rw[Sem.run_bind,run_underlying hd,Result.andThen_ok];rcases hn with hn|hn
 rotate_left
 .rw[Te hn k es 0 0];simp
 cases es with
 |nil=>simp[Instr.findNow]
 |cons p es=>
  have h1:Instr.findNow d (enc k) (((p::es).zipIdx 0).map fun p=>({ key:=enc p.1.1,val:=p.1.2,born:=p.2 }:MapEntry)) 0=none:=by
   rw[List.zipIdx_cons,List.map_cons,Instr.findNow,hn]
  rw[h1];have:=NV hT k w (p::es) 0 0
  simpa using this
variable{Q:Exit->Act->World->Prop}{ops:Array Oper}{r:List Oper}
omit [DecidableEq κ] in
theorem TO.xl(enc:κ->Value)(hg:o.guard=none)(hd:o.dst=some d)(hn:d<n)(ho:o.op= .makeMap T none)(k:∀b,TO P n ops r ((d,is (.map (some b)))::E) (Hp M0 w0 S (HF enc b []::rs)) Q):TO P n ops (o::r) E (Hp M0 w0 S rs) Q:=
 TO.bT hg fun K M w a hsz hdf he hI hK=>by
  refine TO.val (v:= .map (some w.heap.size)) (w':=w.alloc (.map #[] 0)) ?_ ?_
  .simp[execOp,ho,Instr.makeMap]
  .
   obtain⟨h2,h3⟩:=BD.AB0 (obj:= .map #[] 0) (r:=HF enc w.heap.size []) hI rfl rfl ⟨fun _=> .inr rfl,by rw[heap_alloc_new];rfl⟩;refine hK _ _ _ _ (k w.heap.size) ⟨_,by rw[CC];exact hsz,by rw[put_defers];exact hdf,?_,h2⟩;intro s p hp;simp only[List.lookup]at hp
   by_cases hs:s=d
   .exact UR
   .
    rw[show(s==d)=false by simpa using hs]at hp;rw[hd,Ba hs];exact p.st _ _ _ _ _ h3 (he s p hp)
theorem W7{kt et:TypeId}{y:Operand}{b:Nat}{es:List (κ×Value)}(k:κ){q:Pr}(hT:W4 P T kt et enc z0)(ho:o.op= .lookup T x y false)(hx:VL E x (is (.map (some b))))(hy:VL E y q)(hk:∀M w v,q.h M w v->v=enc k):
  JU P M0 w0 S j (SR.c (HF enc b es)) o E (is ((W6 es k).getD z0)):=by
 intro M w a rs he hI hj;have h1:a.eval x=_:=hx.ev he Am;have h2:a.eval y=enc k:=hk _ _ _ (hy.ev he Am);have hj':rs[j]? =some (HF enc b es):=hj;obtain⟨_,hh⟩:=(hI.hold _ (List.mem_of_getElem? hj')).1
 have hrun:(execOp a.eval o).run P w= .ok (.value ((W6 es k).getD z0)) w:=by
  have hf:=Tf hT k w es;have hg:=cI (fun p:κ×Value=>decide (k=p.1)) es;unfold W6;cases OS:es.findIdx? fun p=>decide (k=p.1)with
  |none=>
   rw[OS]at hf hg;rw[←hg];simp only[Option.bind_none]at hf;simp[execOp,ho,h1,h2,Instr.lookup,run_underlying hT.und,MapKept.run_getObj_map hh,hT.chk,hf,hT.zero,Result.andThen]
  |some i=>
   rw[OS]at hf hg;rw[←hg];have FC:i<es.length:=by rw[List.findIdx?_eq_some_iff_getElem]at OS;exact OS.1
   simp only[Option.bind_some,List.getElem?_eq_getElem FC,Option.map_some]at hf ⊢;simp[execOp,ho,h1,h2,Instr.lookup,run_underlying hT.und,MapKept.run_getObj_map hh,hT.chk,hf,Result.andThen]
 rw[hrun];exact⟨rfl,Below.refl _ _⟩
theorem fN{es:List (κ×Value)}{k:κ}(h:(es.findIdx? fun p=>decide (k=p.1))=none):MS es k v=es++[(k,v)]:=by unfold MS;rw[h]
theorem fO{es:List (κ×Value)}{k:κ}(h:(es.findIdx? fun p=>decide (k=p.1))=some i):MS es k v=es.set i (k,v):=by unfold MS;rw[h]
end
section
variable{P:Program}{L:Lg P}{n:Fm}{E:Env}{M0:Av}{w0:World}{S:Nat->Prop}{rs:List Ay}{ε:Type}{res:ε->List Ay}{Q:Exit->Act->World->Prop}{c:Code}{X:List ε}{f:ε->Value}{g:ε->Pr}
end
section
variable{P:Program}{L:Lg P}{n:Fm}{E:Env}{M0:Av}{w0:World}{S:Nat->Prop}{rs:List Ay}{o:Oper}{Q:Exit->Act->World->Prop}{c:Code}
end
section
variable{P:Program}{L:Lg P}{n:Fm}{E:Env}{M0:Av}{w0:World}{S:Nat->Prop}{rs:List Ay}{o:Oper}{Q:Exit->Act->World->Prop}{c:Code}{r:List Oper}{ops:Array Oper}
def UpR(r:Ay):Prop:=∀M M2 w,(∀b o,M b o->M2 b o)->r.h M w->r.h M2 w
def AC_(ps:List Pr):Prop:=∀p∈ps,KM p
theorem HL.free{cs:List Value}{M2:Av}(hf:AC_ ps)(h:HL M w ps cs):HL M2 w ps cs:=
 TN h.length fun k p hk=>by
  obtain⟨u,hu,jk⟩:=h.at_ k p hk;exact⟨u,hu,(hf p (List.mem_of_getElem? hk)).free _ _ _ _ jk⟩
theorem TO.perm{rs':List Ay}(hp:rs.Perm rs')(k:TO P n ops r E (Hp M0 w0 S rs') Q):TO P n ops r E (Hp M0 w0 S rs) Q:=TO.conv (fun _ _ hs=>hs.perm hp) k
end
section
variable{P:Program}{L:Lg P}{n:Fm}{E:Env}{M0:Av}{w0:World}{S:Nat->Prop}{rs:List Ay}{o:Oper}{Q:Exit->Act->World->Prop}{c:Code}{r:List Oper}{ops:Array Oper}
instance ADA:KM any:=⟨fun _ _ _ _ _=>trivial⟩
instance xp (v:Value)(p:Pr)[h9:KM p]:KM (Aj v p):=⟨fun _ _ _ _ h=>⟨h.1,h9.free _ _ _ _ h.2⟩⟩
def vY(w:World)(q:Ay):Ay:=⟨q.blk,q.new,fun _ w'=>∀b,q.blk=some b->w'.heap[b]? =w.heap[b]?,fun _ _ _ _ _ hk h b hb=>(hk b hb).1.trans (h b hb)⟩
theorem lT{us bs:List Ay}(h:us.map (·.blk)=bs.map (·.blk))(k:us.Pairwise fun r r':Ay=>∀b,r.blk=some b->r'.blk≠some b):bs.Pairwise fun r r':Ay=>∀b,r.blk=some b->r'.blk≠some b:=by
 have e1:∀l:List Ay,(l.Pairwise fun r r':Ay=>∀b,r.blk=some b->r'.blk≠some b)↔(l.map (·.blk)).Pairwise fun p q:Option Nat=>∀b,p=some b->q≠some b:=fun l=>by rw[List.pairwise_map]
 rw[e1]at k ⊢;rw[←h];exact k
theorem BD.AHU{α:Type}{C:α->Prop}{post lU:α->List Ay}{res res2:α->Pr}{vs:List Value}(hf:Hy P f ps [] C res post)(hI:BD M0 w0 S rs M w)(hn:rs.all (·.new)=true)(hpost:∀x M0 w0 S rs M w,BD M0 w0 S (post x++rs) M w->BD M0 w0 S (lU x++rs) M w)(AGV:∀x,∀q∈lU x,UpR q)(hres:∀x M M2 w u,(res x).h M w u->(res2 x).h M2 w u)(hv:∀M1,Ext M w M1 w->(∀b o,M1 b o->∀q∈rs,q.blk≠some b)->HL M1 w ps vs):
  Calls P f vs.toArray w fun e' w'=>∃u M' x,e'= .returned u/\C x/\(res2 x).h M' w' u/\Ext M w M' w'/\BD M0 w0 S (lU x++rs) M' w':=by
 have hb:∀q∈rs,∀b,q.blk=some b->b<w.heap.size/\w0.heap.size<=b:=fun q hq b hb=>by
  obtain⟨h1,h2⟩:=(hI.hold q hq).2 b hb;rw[if_pos (List.all_eq_true.1 hn q hq)]at h2;exact⟨h1,h2⟩
 have he:Ext M w (fun b o=>M b o/\∀q∈rs,q.blk≠some b) w:=Ext.less fun _ _ h=>h.1
 have hI1:BD M0 w0 S (rs.map (vY w)) (fun b o=>M b o/\∀q∈rs,q.blk≠some b) w:=by
  refine⟨hI.m0,fun b o hm=>⟨hI.m b o hm,fun q hq e1=>by have h1:=hI.m0 b o hm;have h2:=(hb q hq b e1).2;omega⟩,hI.os,hI.tape,hI.output,hI.size,hI.block,fun b o hm=>hI.bd b o hm.1,fun q hq=>?_,?_⟩
  .
   rw[List.mem_map]at hq;obtain⟨q,hq,rfl⟩:=hq;exact⟨fun _ _=>rfl,(hI.hold q hq).2⟩
  .exact lT (by rw[List.map_map];rfl) hI.nd
 refine(hf.2 M0 w0 S (rs.map (vY w)) _ w vs hI1 (hv _ he fun _ _ h=>h.2)).mono ?_;rintro e' w' ⟨u,M',x,rfl,hC,h2,h3,h4⟩;have h5:=hpost x _ _ _ _ _ _ h4;have AGW:∀q∈rs,∀b,q.blk=some b->w'.heap[b]? =w.heap[b]? :=fun q hq=>(h5.hold _ (List.mem_append_right _ (List.mem_map_of_mem hq))).1
 have hE:Ext M w (fun b o=>M' b o\/(M b o/\∃q∈rs,q.blk=some b)) w':=⟨h3.size,fun a q hc hm=>by
  obtain⟨k1,k2⟩:=h3.keep a q hc (fun h=>hm h.1);exact⟨fun h=>h.elim k1 fun h=>hm h.1,k2⟩,fun b x ho hp hm=>by
  obtain⟨k1,k2⟩:=h3.obj b x ho hp (fun h=>hm h.1)
  exact⟨fun h=>h.elim k1 fun h=>hm h.1,k2⟩⟩
 refine⟨u,_,x,rfl,hC,hres x _ _ _ _ h2,hE,⟨h5.m0,fun b o hm=> .inl (h5.m b o hm),h5.os,h5.tape,h5.output,h5.size,h5.block,fun b o hm=>?_,fun q hq=>?_,?_⟩⟩
 .
  rcases hm with hm|⟨hm,_⟩
  .exact h5.bd b o hm
  .grind
 .
  rcases List.mem_append.1 hq with hq|hq
  .
   obtain⟨k1,k2⟩:=h5.hold q (List.mem_append_left _ hq);exact⟨AGV x q hq _ _ _ (fun _ _ h=> .inl h) k1,k2⟩
  .
   refine⟨q.st _ _ _ _ hE (fun b hb=>⟨AGW q hq b hb,fun o hm=> .inr ⟨hm,q,hq,hb⟩⟩) (hI.hold q hq).1,fun b hb=>?_⟩;obtain⟨k1,k2⟩:=(hI.hold q hq).2 b hb;exact⟨Nat.lt_of_lt_of_le k1 h3.size,k2⟩
 .exact lT (by rw[List.map_append,List.map_append,List.map_map];rfl) h5.nd
theorem Jg{β:Type}{f g:β->List Pr}(h:∀x,Hh (f x) (g x))(qs:List Pr):∀l:List β,Hh ((l.map f).flatten++qs) ((l.map g).flatten++qs)
 |[]=>Hh.rfl' qs
 |x::l=>by
  rw[List.map_cons,List.map_cons,List.flatten_cons,List.flatten_cons,List.append_assoc,List.append_assoc];exact cX (h x) (Jg h qs l)
where cX:∀{us bs cs ds:List Pr},Hh us bs->Hh cs ds->Hh (us++cs) (bs++ds)
 |[],[],_,_,_,h=>h
 |_::_,_::_,_,_,⟨h1,h2⟩,h=>⟨h1,cX h2 h⟩
 |[],_::_,_,_,h,_=>h.elim
 |_::_,[],_,_,h,_=>h.elim
end
section
variable{P:Program}{I:Cj}{E:Env}{o:Oper}
abbrev u32(b:BitVec 32):Pr:=is (.int .u32 (b.toNat:Int))
theorem cY(n:Int):IntKind.u32.wrap n=n % 4294967296:=by simp[IntKind.wrap,IntKind.signed,IntKind.bits]
theorem QL(b:BitVec 32):IntKind.u32.wrap (b.toNat:Int)=(b.toNat:Int):=by rw[cY];have:=b.isLt;omega
theorem xq(b:BitVec 32)(i:Nat):IntKind.u32.wrap ((b.toNat:Int)*2 ^ (min i 32))=((b<<<i).toNat:Int):=by
 rw[cY,BitVec.toNat_shiftLeft,Nat.shiftLeft_eq];have e1:((b.toNat:Int)*2 ^ (min i 32))=((b.toNat*2 ^ (min i 32):Nat):Int):=by rw[Int.natCast_mul,Int.natCast_pow];rfl
 rw[e1];rcases Nat.le_total i 32 with h|h
 .rw[Nat.min_eq_left h];generalize b.toNat*2 ^ i=n;show((n:Int) % 4294967296)=((n % 4294967296:Nat):Int);omega
 .
  rw[Nat.min_eq_right h];obtain⟨k,rfl⟩:=Nat.exists_eq_add_of_le h;have h1:b.toNat*2 ^ 32 % 4294967296=0:=by rw[show(4294967296:Nat)=2 ^ 32 from rfl];exact Nat.mul_mod_left _ _
  have h2:b.toNat*2 ^ (32+k) % 2 ^ 32=0:=by rw[Nat.pow_add,←Nat.mul_assoc,Nat.mul_right_comm];exact Nat.mul_mod_left _ _
  rw[h2];generalize b.toNat*2 ^ 32=n at h1 ⊢;omega
theorem lV(b:BitVec 32)(i:Nat):(b.toNat:Int).fdiv (2 ^ (min i 32))=((b>>>i).toNat:Int):=by
 rw[BitVec.toNat_ushiftRight,Nat.shiftRight_eq_div_pow];have e1:(2:Int) ^ (min i 32)=((2 ^ (min i 32):Nat):Int):=by rw[Int.natCast_pow];rfl
 rw[e1,Int.fdiv_eq_ediv_of_nonneg _ (by exact Int.natCast_nonneg _)];rcases Nat.le_total i 32 with h|h
 .rw[Nat.min_eq_left h];norm_cast
 .
  rw[Nat.min_eq_right h];have h3:=b.isLt;have h1:b.toNat/2 ^ 32=0:=Nat.div_eq_of_lt h3;have h2:b.toNat/2 ^ i=0:=Nat.div_eq_of_lt (Nat.lt_of_lt_of_le h3 (Nat.pow_le_pow_right AA h));rw[h2,←h1];norm_cast
theorem NW{t u:TypeId}{y:Operand}{b:BitVec 32}{i:Int}(ho:o.op= .binOp .shl t x y u)(hx:VL E x (u32 b))(hy:VL E y (int i))(hi:0<=i):Af P I o E (u32 (b<<<i.toNat)):=
 Af.same fun M w a he _=>by
  have h1:a.eval x= .int .u32 b.toNat:=hx.ev he Am;have h2:a.eval y= .int .i64 i:=hy.ev he Am;refine⟨.int .u32 ((b<<<i.toNat).toNat:Int),?_,rfl⟩;rw[←xq];simp[execOp,ho,h1,h2,eqGuard,binOp,Op.shift,show ¬i<0 by omega,IntKind.bits]
theorem lW{t u:TypeId}{y:Operand}{b:BitVec 32}{i:Int}(ho:o.op= .binOp .shr t x y u)(hx:VL E x (u32 b))(hy:VL E y (int i))(hi:0<=i):Af P I o E (u32 (b>>>i.toNat)):=
 Af.same fun M w a he _=>by
  have h1:a.eval x= .int .u32 b.toNat:=hx.ev he Am;have h2:a.eval y= .int .i64 i:=hy.ev he Am;refine⟨.int .u32 ((b>>>i.toNat).toNat:Int),?_,rfl⟩;rw[←lV];simp[execOp,ho,h1,h2,eqGuard,binOp,Op.shift,show ¬i<0 by omega,IntKind.bits]
theorem W8(b:BitVec 32):BitVec.ofInt 32 (b.toNat:Int)=b:=by grind
theorem Rp{t u:TypeId}{y:Operand}{b c:BitVec 32}{op:BinOp}{f:BitVec 32->BitVec 32->BitVec 32}(ho:o.op= .binOp op t x y u)(hx:VL E x (u32 b))(hy:VL E y (u32 c))(hf:(op= .and/\f=fun b c=>b&&&c)\/(op= .or/\f=fun b c=>b|||c)\/(op= .andNot/\f=fun b c=>b&&&~~~c)\/(op= .xor/\f=fun b c=>b ^^^ c)):Af P I o E (u32 (f b c)):=
 Af.same fun M w a he _=>by
  have h1:a.eval x= .int .u32 b.toNat:=hx.ev he Am;have h2:a.eval y= .int .u32 c.toNat:=hy.ev he Am;refine⟨.int .u32 ((f b c).toNat:Int),?_,rfl⟩;have e1:=W8 b;have e2:=W8 c;rcases hf with⟨rfl,rfl⟩|⟨rfl,rfl⟩|⟨rfl,rfl⟩|⟨rfl,rfl⟩
  .have e3:=QL (b&&&c);simp[execOp,ho,h1,h2,eqGuard,binOp,Op.intBits,IntKind.bits,e1,e2]at e3 ⊢;exact e3
  .have e3:=QL (b|||c);simp[execOp,ho,h1,h2,eqGuard,binOp,Op.intBits,IntKind.bits,e1,e2]at e3 ⊢;exact e3
  .have e3:=QL (b&&&~~~c);simp[execOp,ho,h1,h2,eqGuard,binOp,Op.intBits,IntKind.bits,e1,e2];exact e3.trans Ai
  .have e3:=QL (b ^^^ c);simp[execOp,ho,h1,h2,eqGuard,binOp,Op.intBits,IntKind.bits,e1,e2]at e3 ⊢;exact e3
theorem W9{t u:TypeId}{y:Operand}{b c:BitVec 32}(ho:o.op= .binOp .and t x y u)(hx:VL E x (u32 b))(hy:VL E y (u32 c)):Af P I o E (u32 (b&&&c)):=Rp ho hx hy (.inl ⟨rfl,rfl⟩)
theorem QM{t u:TypeId}{y:Operand}{b c:BitVec 32}(ho:o.op= .binOp .or t x y u)(hx:VL E x (u32 b))(hy:VL E y (u32 c)):Af P I o E (u32 (b|||c)):=Rp ho hx hy (.inr (.inl ⟨rfl,rfl⟩))
theorem PM{t u:TypeId}{y:Operand}{b c:BitVec 32}(ho:o.op= .binOp .andNot t x y u)(hx:VL E x (u32 b))(hy:VL E y (u32 c)):Af P I o E (u32 (b&&&~~~c)):=Rp (f:=fun b c=>b&&&~~~c) ho hx hy (.inr (.inr (.inl ⟨rfl,rfl⟩)))
theorem WS:Pr.le (is (.int .u32 0)) (u32 0#32):=fun _ _ _ h=>h
theorem cZ(b:BitVec 32):(((b.toNat:Int)==0)=(b==0#32)):=by
 rw[Bool.eq_iff_iff,beq_iff_eq,beq_iff_eq];constructor
 .intro h;apply BitVec.eq_of_toNat_eq;simp;omega
 .rintro rfl;rfl
theorem xu(b:BitVec 32)(i:Nat):((((b>>>i)&&&1#32).toNat:Int)==1)=b.getLsbD i:=by
 rw[Bool.eq_iff_iff,beq_iff_eq]
 have h1:((b>>>i)&&&1#32).toNat=(b.toNat>>>i) % 2:=by
  rw[BitVec.toNat_and,BitVec.toNat_ushiftRight];exact Nat.and_one_is_mod _
 rw[h1];unfold BitVec.getLsbD;rw[Nat.testBit,Nat.and_comm,Nat.and_one_is_mod];constructor
 .
  intro h;have:(b.toNat>>>i) % 2=1:=by omega
  rw[this];rfl
 .
  intro h;rcases Nat.mod_two_eq_zero_or_one (b.toNat>>>i)with h2|h2
  .rw[h2]at h;cases h
  .omega
end
def ZC(g:Nat)(iw:List Nat):Ay where
 blk:=none
 new:=true
 h M w:=∀(j:Nat) (x:Nat),iw[j]? =some x->w.cell? ⟨g,j,none⟩=some (.int .u8 (x:Int))/\¬M g j
 st M w M' w' he _ h:=fun j x hx=>by
  obtain⟨h1,h2⟩:=h j x hx;obtain⟨h3,h4⟩:=he.keep ⟨g,j,none⟩ _ h1 h2;exact⟨h4,h3⟩
def Cm(p:Prop):Ay:=⟨none,true,fun _ _=>p,fun _ _ _ _ _ _ h=>h⟩
section
variable{P:Program}{L:Lg P}{n:Fm}{E:Env}{M0:Av}{w0:World}{S:Nat->Prop}{rs:List Ay}{o:Oper}{r:List Oper}{ops:Array Oper}{Q:Exit->Act->World->Prop}{c:Code}
theorem Tr.prop{p:Prop}(j:Nat)(hj:rs[j]? =some (Cm p))(k:p->Tr L n E (Hp M0 w0 S rs) c Q):Tr L n E (Hp M0 w0 S rs) c Q:=fun a w hs=>by
 obtain⟨M,h1,h2,h3,h4⟩:=hs;have h4:BD M0 w0 S rs M w:=h4;exact k (h4.hold _ (List.mem_of_getElem? hj)).1 a w ⟨M,h1,h2,h3,h4⟩
theorem Fin.cj{e:Exit}{p:Prop}(hp:p)(k:Fin n E (Hp M0 w0 S (Cm p::rs)) Q e):Fin n E (Hp M0 w0 S rs) Q e:=fun a w hs=>by
 obtain⟨M,h1,h2,h3,h4⟩:=hs;have h4:BD M0 w0 S rs M w:=h4;exact k a w ⟨M,h1,h2,h3,BD.JI h4 (r:=Cm p) rfl hp⟩
theorem Tr.cj{p:Prop}(hp:p)(k:Tr L n E (Hp M0 w0 S (Cm p::rs)) c Q):Tr L n E (Hp M0 w0 S rs) c Q:=fun a w hs=>by
 obtain⟨M,h1,h2,h3,h4⟩:=hs;have h4:BD M0 w0 S rs M w:=h4;exact k a w ⟨M,h1,h2,h3,BD.JI h4 (r:=Cm p) rfl hp⟩
theorem xw{t:TypeId}{g:Nat}{iw:List Nat}{y:Nat}(ho:o.op= .load t x)(ht:EC P t=true)(hx:VL E x (is (.pointer (some ⟨g,i,none⟩))))(hy:iw[i]? =some y):JU P M0 w0 S j (SR.c (ZC g iw)) o E (is (.int .u8 (y:Int))):=by
 intro M w a rs he hI hj;have h0:a.eval x= .pointer (some ⟨g,i,none⟩):=hx.ev he Am;have hj':rs[j]? =some (ZC g iw):=hj;obtain⟨h1,_⟩:=(hI.hold _ (List.mem_of_getElem? hj')).1 i y hy;have hrun:(execOp a.eval o).run P w= .ok (.value (.int .u8 (y:Int))) w:=by simp[execOp,ho,h0,Instr.loadAt,Instr.sureAddr,loadVar,EZ ht,h1]
 rw[hrun];exact⟨rfl,Below.refl _ _⟩
end
section
variable{P:Program}
theorem KV.of{gf:Nat}{lb:Array Value}{α:Type}{enc:α->Value}{xs:List α}{own:List α->List Ay}{g:Func}{c:Code}(hf:P.funcs[gf]? =some g)(hb:g.body=some c)(hlen:ps.length+1<=g.ntmps)(hps:∀M w,HL M w ps lb.toList)(h:∀(M0:Av) (w0:World) (S:Nat->Prop) (l:Nat) (β:Type) (R Rx:List α->β->List Ay) (M1:Av) (w1:World),
   (∀pre x d M w,(pre++[x])<+:xs->BD M0 w0 S (own (pre++[x])++R pre d) M w->YieldAt (D3 none) 0 P l #[enc x] w fun e w'=>∃M' d',Ext M w M' w'/\
    ((e= .returned (.bool true)/\BD M0 w0 S (own (pre++[x])++R (pre++[x]) d') M' w')\/(e= .returned (.bool false)/\BD M0 w0 S (own (pre++[x])++Rx (pre++[x]) d') M' w')))->
   ∀ d, Tr (jB P none) g.ntmps (L5 0 (is (.func (.yield l) #[] #[]) :: ps)) (Hp M0 w0 S (own [] ++ Ao M1 w1 :: R [] d)) c
    (Jx P g fun e w'=>(∃v,e= .returned v)/\∃M' d',Ext M1 w1 M' w'/\(BD M0 w0 S (own xs++R xs d') M' w'\/∃pre,pre<+:xs/\BD M0 w0 S (own pre++Rx pre d') M' w'))):KV P gf lb enc xs own:=by
 intro M0 w0 S l β R Rx hy d M w hI;refine callsIn_of_wp_marks (F:=D3 none) (n:=0) hf hb trivial (h M0 w0 S l β R Rx M w hy d _ _ ⟨M,?_,rfl,?_,?_⟩)
 .
  have:=(hps M w).length;simp at this ⊢;omega
 .
  have h2:HL M w (is (.func (.yield l) #[] #[])::ps) ((.func (.yield l) #[] #[])::lb.toList):=⟨rfl,hps M w⟩;have h3:=Gb (m:=g.ntmps-(#[Value.func (.yield l) #[] #[]]++lb:Array Value).size) h2;have e1:(Value.func (.yield l) #[] #[]::lb.toList).toArray= #[Value.func (.yield l) #[] #[]]++lb:=by apply Array.ext';simp
  rw[e1]at h3;exact h3
 .exact UT
end
section
variable{P:Program}{I:Cj}{E:Env}{o:Oper}
theorem xx{t u:TypeId}{y:Operand}{b:BitVec 32}(ho:o.op= .binOp .eql t x y u)(hx:VL E x (u32 b))(hy:VL E y (is (.int .u32 0))):Af P I o E (bool (b==0#32)):=
 Af.same fun M w a he _=>by
  have h1:a.eval x= .int .u32 b.toNat:=hx.ev he Am;have h2:a.eval y= .int .u32 0:=hy.ev he Am;refine⟨.bool (b==0#32),?_,rfl⟩;rw[←cZ];simp[execOp,ho,h1,h2,eqGuard,binOp,Op.intCmp]
theorem lX{t u:TypeId}{y:Operand}{b:BitVec 32}(ho:o.op= .binOp .neq t x y u)(hx:VL E x (u32 b))(hy:VL E y (is (.int .u32 0))):Af P I o E (bool (!(b==0#32))):=
 Af.same fun M w a he _=>by
  have h1:a.eval x= .int .u32 b.toNat:=hx.ev he Am;have h2:a.eval y= .int .u32 0:=hy.ev he Am;refine⟨.bool (!(b==0#32)),?_,rfl⟩;rw[←cZ];simp[execOp,ho,h1,h2,eqGuard,binOp,Op.intCmp];rw[Bool.eq_iff_iff];simp
theorem xy{t u:TypeId}{y:Operand}{b:BitVec 32}(ho:o.op= .binOp .eql t x y u)(hx:VL E x (u32 ((b>>>i)&&&1#32)))(hy:VL E y (is (.int .u32 1))):Af P I o E (bool (b.getLsbD i)):=
 Af.same fun M w a he _=>by
  have h1:a.eval x= .int .u32 ((b>>>i)&&&1#32).toNat:=hx.ev he Am;have h2:a.eval y= .int .u32 1:=hy.ev he Am;refine⟨.bool (b.getLsbD i),?_,rfl⟩;rw[←xu];simp[execOp,ho,h1,h2,eqGuard,binOp,Op.intCmp]
theorem lY{t:TypeId}{b:BitVec 32}(ho:o.op= .unOp .neg t x)(hx:VL E x (u32 b)):Af P I o E (u32 (-b)):=
 Af.same fun M w a he _=>by
  have h1:a.eval x= .int .u32 b.toNat:=hx.ev he Am;refine⟨.int .u32 ((-b).toNat:Int),?_,rfl⟩
  have e1:IntKind.u32.wrap (0-(b.toNat:Int))=((-b).toNat:Int):=by
   rw[cY,BitVec.toNat_neg];have:=b.isLt;omega
  rw[←e1];simp[execOp,ho,h1,Op.unary,Op.intArith]
theorem lZ{t u:TypeId}{y:Operand}{b c:BitVec 32}(ho:o.op= .binOp .mul t x y u)(hx:VL E x (u32 b))(hy:VL E y (u32 c)):Af P I o E (u32 (b*c)):=
 Af.same fun M w a he _=>by
  have h1:a.eval x= .int .u32 b.toNat:=hx.ev he Am;have h2:a.eval y= .int .u32 c.toNat:=hy.ev he Am;refine⟨.int .u32 ((b*c).toNat:Int),?_,rfl⟩
  have e1:IntKind.u32.wrap ((b.toNat:Int)*(c.toNat:Int))=((b*c).toNat:Int):=by
   rw[cY,BitVec.toNat_mul];have e2:(b.toNat:Int)*(c.toNat:Int)=((b.toNat*c.toNat:Nat):Int):=by rw[Int.natCast_mul]
   rw[e2]
   generalize b.toNat*c.toNat=n
   show((n:Int) % 4294967296)=((n % 4294967296:Nat):Int);omega
  rw[←e1];simp[execOp,ho,h1,h2,eqGuard,binOp,Op.intArith]
theorem ru{t u:TypeId}{y:Operand}{b:BitVec 32}{k:IntKind}{i:Int}(ho:o.op= .binOp .shr t x y u)(hx:VL E x (u32 b))(hy:VL E y (is (.int k i)))(hi:0<=i):Af P I o E (u32 (b>>>i.toNat)):=
 Af.same fun M w a he _=>by
  have h1:a.eval x= .int .u32 b.toNat:=hx.ev he Am;have h2:a.eval y= .int k i:=hy.ev he Am;refine⟨.int .u32 ((b>>>i.toNat).toNat:Int),?_,rfl⟩;rw[←lV];simp[execOp,ho,h1,h2,eqGuard,binOp,Op.shift,show ¬i<0 by omega,IntKind.bits]
theorem ZD{t e:TypeId}{y:Operand}{k:IntKind}{i:Int}{g len:Nat}(ho:o.op= .indexAddr t x y)(ht:P.underlying t=some (.array len e))(hz:Aw P e=some 1)(hx:VL E x (is (.pointer (some ⟨g,0,none⟩))))(hy:VL E y (is (.int k i)))(h0:0<=i)(h1:i<len):
  Af P I o E (is (.pointer (some ⟨g,i.toNat,none⟩))):=
 Af.same fun M w a he _=>by
  have h2:a.eval x= .pointer (some ⟨g,0,none⟩):=hx.ev he Am;have h3:a.eval y= .int k i:=hy.ev he Am;refine⟨.pointer (some ⟨g,i.toNat,none⟩),?_,rfl⟩;simp[execOp,ho,h2,h3,Instr.indexAt,asIntOf,run_underlying ht,Bz hz,h0,h1,Instr.sureAddr,Addr.add];intro;omega
end
section
variable{P:Program}{Q:Exit->Act->World->Prop}{K:Act->World->Prop}{a:Act}{w:World}{o:Oper}{ops:Array Oper}
theorem Jh{rest:List Nat}(ho:ops[i]? =some o)(hg:o.guard=none)(h:o.wpIn (D3 none) 0 P a w (wpOpsIn (D3 none) 0 P ops Q rest) Q):wpOpsIn (D3 none) 0 P ops Q (i::rest) a w:=by
 unfold wpOpsIn;rw[ho];dsimp only;rw[if_pos (by simp[Region.wanted,hg])];exact h
theorem ck(ho:o.op= .move x)(k:K (a.put o.dst (a.eval x)) w):o.wpIn (D3 none) 0 P a w K Q:=
 cV (by unfold Lq;rw[ho]) (fun _ _ h=>h) (by unfold Oper.wp;simp[execOp,ho];exact k)
theorem xz{t:TypeId}{b:Bool}(ho:o.op= .unOp .not t x)(hx:a.eval x= .bool b)(k:K (a.put o.dst (.bool (!b))) w):o.wpIn (D3 none) 0 P a w K Q:=
 cV (by unfold Lq;rw[ho]) (fun _ _ h=>h) (by unfold Oper.wp;simp[execOp,ho,hx,Op.unary];exact k)
theorem Tr.ld{n:Fm}{E:Env}{M0 M1:Av}{w0 w1:World}{S:Nat->Prop}{id t0 t3 d0 d1 d2 d3:Nat}{o0 o1 o2 o3:Oper}{ty:TypeId}{α β:Type}{l:Nat}{enc:α->Value}{xs:List α}{own:List α->List Ay}{R Rx:List α->β->List Ay}{pre:List α}{x:α}{d:β}(hy:∀pre x d M w,(pre++[x])<+:xs->BD M0 w0 S (own (pre++[x])++R pre d) M w->YieldAt (D3 none) 0 P l #[enc x] w fun e w'=>∃M' d',Ext M w M' w'/\
    ((e= .returned (.bool true)/\BD M0 w0 S (own (pre++[x])++R (pre++[x]) d') M' w')\/(e= .returned (.bool false)/\BD M0 w0 S (own (pre++[x])++Rx (pre++[x]) d') M' w'))) (hpre:(pre++[x])<+:xs) (g0:o0.guard=none) (g1:o1.guard=none) (g2:o2.guard=none) (g3:o3.guard=none) (p0:o0.op= .move (.tmp t0)) (p1:o1.op= .move (.tmp t3)) (p2:o2.op= .call { callee:= .value (.tmp d0),args:= #[.tmp d1],argTypes:=ts }) (p3:o3.op= .unOp .not ty (.tmp d2)) (e0:o0.dst=some d0) (e1:o1.dst=some d1) (e2:o2.dst=some d2) (e3:o3.dst=some d3) (n0:d0<n) (n1:d1<n) (n2:d2<n) (n3:d3<n) (ne:d0≠d1/\t3≠d0) (h0:E.lookup t0=some (is (.func (.yield l) #[] #[]))) (h3:E.lookup t3=some (is (enc x))) (f0:E.lookup d0=none) (f1:E.lookup d1=none) (f2:E.lookup d2=none) (kT:∀d',Fin n ((d3,bool false)::E) (Hp M0 w0 S (own (pre++[x])++Ao M1 w1::R (pre++[x]) d')) Q .normal) (kF:∀d',Fin n ((d3,bool true)::E) (Hp M0 w0 S (own (pre++[x])++Ao M1 w1::Rx (pre++[x]) d')) Q .normal):
  Tr (jB P none) n E (Hp M0 w0 S (own (pre++[x])++Ao M1 w1::R pre d)) (.region id #[o0,o1,o2,o3] false) Q:=by
 rintro a w ⟨M,hsz,hdf,hE,hI⟩;have hI:BD M0 w0 S (own (pre++[x])++Ao M1 w1::R pre d) M w:=hI;obtain⟨hx,hI2⟩:=kW hI;have jr:a.tmps.getD t0 undef= .func (.yield l) #[] #[]:=hE _ _ h0;have hv3:a.tmps.getD t3 undef=enc x:=hE _ _ h3
 have fin:∀(b:Bool) (tl:List Ay) (w':World) (M':Av),Ext M w M' w'->BD M0 w0 S (own (pre++[x])++tl) M' w'->
   St n ((d3,bool (!b))::E) (Hp M0 w0 S (own (pre++[x])++Ao M1 w1::tl)) ((((a.put (some d0) (.func (.yield l) #[] #[])).put (some d1) (enc x)).put (some d2) (.bool b)).put (some d3) (.bool (!b))) w':=by
  intro b tl w' M' he hh;refine⟨M',by simp only[CC];exact hsz,by simp only[put_defers];exact hdf,fun s q hq=>?_,BD.perm List.perm_middle.symm (BD.JI hh (r:=Ao M1 w1) rfl (hx.trans he))⟩;simp only[List.lookup]at hq
  by_cases hs:s=d3
  .subst hs;simp at hq;subst hq;rw[B6 (by simp only[CC];rw[hsz];exact n3)];rfl
  .
   rw[show(s==d3)=false by simpa using hs]at hq;have N2:s≠d2:=fun e=>by rw[e,f2]at hq;cases hq
   have hs1:s≠d1:=fun e=>by rw[e,f1]at hq;cases hq
   have hs0:s≠d0:=fun e=>by rw[e,f0]at hq;cases hq
   rw[Ba hs,Ba N2,Ba hs1,Ba hs0];exact q.st _ _ _ _ _ he (hE s q hq)
 refine wpIn_region ?_;show wpOpsIn (D3 none) 0 P _ Q [0,1,2,3] a w;refine Jh (o:=o0) rfl g0 (ck p0 ?_);refine Jh (o:=o1) rfl g1 (ck p1 ?_);rw[e0,e1];have k0:a.eval (.tmp t0)= .func (.yield l) #[] #[]:=jr
 have k3:(a.put (some d0) (a.eval (.tmp t0))).eval (.tmp t3)=enc x:=by
  show(a.put (some d0) _).tmps.getD t3 undef=_;rw[Ba ne.2];exact hv3
 rw[k3,k0];refine Jh (o:=o2) rfl g2 (lS (v:=enc x) p2 ?_ ?_ (hy pre x d M w hpre hI2) ?_)
 .
  show(Act.put _ _ _).tmps.getD d0 undef=_;rw[Ba ne.1,B6 (by rw[hsz];exact n0)]
 .
  show(Act.put _ _ _).tmps.getD d1 undef=_;rw[B6 (by rw[CC,hsz];exact n1)]
 .
  rintro e w' ⟨M',d',he,hh⟩
  have hnot:∀(b:Bool) (tl:List Ay),BD M0 w0 S (own (pre++[x])++tl) M' w'->Fin n ((d3,bool (!b))::E) (Hp M0 w0 S (own (pre++[x])++Ao M1 w1::tl)) Q .normal->wpOpsIn (D3 none) 0 P #[o0,o1,o2,o3] Q [3] (((a.put (some d0) (.func (.yield l) #[] #[])).put (some d1) (enc x)).put o2.dst (.bool b)) w':=by
   intro b tl hh k;rw[e2];refine Jh (o:=o3) rfl g3 (xz (b:=b) p3 ?_ ?_)
   .
    show(Act.put _ _ _).tmps.getD d2 undef=_;rw[B6 (by simp only[CC];rw[hsz];exact n2)]
   .
    rw[e3];exact k _ _ (fin b tl w' M' he hh)
  rcases hh with⟨rfl,hh⟩|⟨rfl,hh⟩
  .grind
  .grind
theorem ry{I:Cj}{E:Env}{f:Fn}{u:Value}(ho:o.op= .makeFunc f #[] #[x])(hx:VL E x (is u)):Af P I o E (is (.func f #[] #[u])):=
 Af.same fun M w a he _=>by
  have h1:a.eval x=u:=hx.ev he Am;exact⟨.func f #[] #[u],by simp[execOp,ho,Instr.makeFunc,h1],rfl⟩
end
section
variable{P:Program}{L:Lg P}{n:Fm}{fz:Nat}{E:Env}{M0:Av}{w0:World}{S:Nat->Prop}{o:Oper}
def MT(p:Pr)(v:Value):Ay:=⟨none,true,fun M w=>p.h M w v,fun M w M' w' he _ h=>p.st M w M' w' v he h⟩
def vZ(e:TypeId)(zs:List Value)(v:Value):Ay:=match v with| .slice (some a) _ _=>AE true a.block e (zs.map is)|_=>Bb
def lp(R:Value->Value->Value->Ay)(u:Value):Ay:=match u with| .tuple t=>R (t.getD 1 undef) (t.getD 2 undef) (t.getD 0 undef)|_=>Bb
def lq(R:Value->Value->Ay)(u:Value):Ay:=match u with| .tuple t=>R (t.getD 1 undef) (t.getD 0 undef)|_=>Bb
theorem ZE{s t:Nat}{R:Value->Value->Value->Ay}:SR.at_ a ⟨.three d s t,lp R⟩=R (a.tmps.getD s undef) (a.tmps.getD t undef) (a.tmps.getD d undef):=rfl
theorem cq{s:Nat}{R:Value->Value->Ay}:SR.at_ a ⟨.two d s,lq R⟩=R (a.tmps.getD s undef) (a.tmps.getD d undef):=rfl
theorem Ew.conv{q:Pr}{R1 R2:SR}{r:Result Next}(hq:Pr.le p q)(hR:∀v,R1.at_ (a.put o.dst v)=R2.at_ (a.put o.dst v))(h:Ew P M0 w0 S o a M w p j R1 rs r):Ew P M0 w0 S o a M w q j R2 rs r:=by
 cases r with
 |halt x w'=>exact h
 |ok x w'=>
  cases x
  case value v=>obtain⟨M',g1,g2,g3⟩:=h;exact⟨M',hq _ _ _ g1,g2,by rw[←hR];exact g3⟩
  case skip=>obtain⟨M',g1,g2,g3⟩:=h;exact⟨M',hq _ _ _ g1,g2,by rw[←hR];exact g3⟩
  case enter f args=>
   refine Calls.mono h ?_;rintro e w'' ⟨v,M',g0,g1,g2,g3⟩;exact⟨v,M',g0,hq _ _ _ g1,g2,by rw[←hR];exact g3⟩
  all_goals exact h
theorem Rr(h:C2 M w E o a)(s:Nat){p0:Pr}(eu:p0.h M w (a.tmps.getD s undef)):C2 M w ((s,Aj (a.tmps.getD s undef) p0)::E) o a:=fun c p hc hp=>by
 simp only[List.lookup]at hp
 by_cases hcs:c=s
 .subst hcs;simp only[beq_self_eq_true,Option.some.injEq]at hp;subst hp;exact⟨rfl,eu⟩
 .rw[show(c==s)=false by simpa using hcs]at hp;exact h c p hc hp
theorem x5{s t:Nat}{R:SR}{p1 p2 q:Pr}{p:Value->Value->Pr}{R':Value->Value->Value->Ay}(hd:o.dst=some d)(hs:d≠s)(ht:d≠t)(hq:∀v1 v2,Pr.le (p v1 v2) q)(hg:o.guard=none)(h1:E.lookup s=some p1)(h2:E.lookup t=some p2)(hls:s∈looks o)(hlt:t∈looks o)(h:∀v1 v2,D8 P M0 w0 S n j R ⟨d,R' v1 v2⟩ o ((s,Aj v1 p1)::(t,Aj v2 p2)::E) (p v1 v2)):D8 P M0 w0 S n j R ⟨.three d s t,lp R'⟩ o E q:=by
 refine⟨hg,fun M w a rs hsz he hI hj=>?_⟩;refine Ew.conv (hq _ _) (fun v=>?_) ((h (a.tmps.getD s undef) (a.tmps.getD t undef)).2 M w a rs hsz (Rr (Rr he t (he t p2 hlt h2)) s (he s p1 hls h1)) hI hj);rw[ZE,hd,Ba (Ne.symm hs),Ba (Ne.symm ht)];rfl
theorem x6(hg:o.guard=none)(hd:o.dst=some d)(hn:d<n)(h:∀I,Af P I o E p):D8 P M0 w0 S n j (SR.c Bb) ⟨d,MT p⟩ o E p:=by
 refine⟨hg,fun M w a rs hsz he hI hj=>?_⟩;have hj':rs[j]? =some Bb:=hj;have hat:∀v,SR.at_ (a.put o.dst v) ⟨d,MT p⟩=MT p v:=fun v=>by show MT p ((a.put o.dst v).tmps.getD d undef)=_;rw[hd,B6 IZ]
 have cr:=h (Hp M0 w0 S rs) M w a he hI
 revert cr
 generalize (execOp a.eval o).run P w=r
 intro cr
 have key:∀v w',p.h M w' v->Below w.heap.size w w'->∃M',p.h M' w' v/\Ext M w M' w'/\BD M0 w0 S (rs.set j (SR.at_ (a.put o.dst v) ⟨d,MT p⟩)) M' w':=fun v w' hv hb=>by
  refine⟨M,hv,Ext.below hb,?_⟩;rw[hat];exact BD.DF ((Hp M0 w0 S rs).st _ _ _ hb hI) hj' rfl rfl hv
 cases r with
 |halt x w'=>exact cr
 |ok x w'=>
  cases x
  case value v=>exact key v w' cr.1 cr.2
  case skip=>exact key undef w' cr.1 cr.2
  case enter f args=>
   obtain⟨hb,hc⟩:=cr;refine Calls.mono hc ?_;rintro e w'' ⟨v,g0,g1,g2⟩;obtain⟨M',k1,k2,k3⟩:=key v w'' g1 (O5 hb g2);exact⟨v,M',g0,k1,k2,k3⟩
  all_goals exact cr
theorem lu{t e:TypeId}{y:Operand}{by_:Nat}{z:Value}(hg:o.guard=none)(hd:o.dst=some d)(hn:d<n)(ho:o.op= .makeSlice t x y)(ht:P.underlying t=some (.slice e))(hs:Aw P e=some 1)(hby:CW P e=some by_)(hz:BZ P e=some [z])(h1:z.oneCell'=true)(hx:VL E x (int ((m:Nat):Int)))(hy:VL E y (int ((m:Nat):Int)))(hm:m<=maxLen)(hb:by_*m<=281474976710656):D8 P M0 w0 S n j (SR.c Bb) ⟨d,vZ e (List.replicate m z)⟩ o E (Cp.ex fun b=>is (U4 m b)):=by
 refine⟨hg,fun M w a rs Ms he hI hj=>?_⟩;have hx1:a.eval x= .int .i64 m:=hx.ev he Am;have hy1:a.eval y= .int .i64 m:=hy.ev he Am
 have hi:∃i,P.info? e=some i/\i.size=1/\i.bytes=by_/\∃z',i.zero=some z'/\z'.cells= #[z]:=by
  unfold Aw at hs;unfold CW at hby;unfold BZ at hz;cases hi:P.info? e with
  |none=>rw[hi]at hs;cases hs
  |some i=>
   rw[hi]at hs hby hz;simp at hs hby hz;obtain⟨z',h2,h3⟩:=hz;exact⟨i,rfl,hs,hby,z',h2,by rw[←Array.toList_inj,h3]⟩
 obtain⟨i,hi,hi1,hi2,z',JG,Wd⟩:=hi
 have hmk:madeCells z'.cells m=(List.replicate m z).toArray:=by
  rw[Wd]
  apply Array.ext
  .simp[madeCells]
  .
   intro j h1 h2;simp[madeCells,Nat.mod_one]
 have hrun:=run_make (P:=P) w t e i z' ht hi JG .i64 .i64 (m:Int) (m:Int) AA (Int.le_refl _) (by rw[hi2];have h0:((by_*m:Nat):Int)<=281474976710656:=Int.ofNat_le.2 hb;rw[←Int.natCast_mul];exact h0) (by unfold maxLen at hm;omega);rw[hi1]at hrun;simp only[Int.toNat_natCast,Nat.mul_one]at hrun;rw[hmk]at hrun;have DV:(execOp a.eval o).run P w= .ok (.value (U4 m w.heap.size)) (w.alloc (.cells (List.replicate m z).toArray e)):=by simp[execOp,ho,hx1,hy1,hrun]
 rw[DV];have hb:Below w.heap.size w (w.alloc (.cells (List.replicate m z).toArray e)):=(Below.refl _ _).alloc (Nat.le_refl _) _;have h2:=Ext.below (M:=M) hb
 have EN:Ext M w (fun b o=>M b o\/b=w.heap.size) (w.alloc (.cells (List.replicate m z).toArray e)):=by
  refine⟨h2.size,fun a v hc hm=>⟨fun hx=>?_,(h2.keep a v hc hm).2⟩,fun b o ho hp hm=>⟨fun hx=>?_,(h2.obj b o ho hp hm).2⟩⟩
  .
   rcases hx with hx|hx
   .exact DL
   .exact El
  .grind
 have hs1:(w.alloc (.cells (List.replicate m z).toArray e)).heap.size=w.heap.size+1:=by simp
 have hat:(SR.at_ (a.put o.dst (U4 m w.heap.size)) ⟨d,vZ e (List.replicate m z)⟩)=AE true w.heap.size e ((List.replicate m z).map is):=by unfold SR.at_ Slot.val;dsimp only;rw[hd,B6 HK];rfl
 refine⟨fun b o=>M b o\/b=w.heap.size,⟨_,rfl⟩,EN,?_⟩;rw[hat];refine hI.replace hj EN hb.os hb.tape hb.output (fun k hk _=>hb.block k hk) rfl (fun b o hm _=> .inl hm) (fun b o hx=>?_) ?_ rfl (fun b hbk=>?_)
 .
  rcases hx with hx|hx
  .have:=hI.bd _ _ hx;omega
  .omega
 .exact⟨fun o=> .inr rfl,List.replicate m z,heap_alloc_new w _,NB _ _ _,fun c hc=>by rw[List.eq_of_mem_replicate hc];exact h1⟩
 .
  have Ef:some w.heap.size=some b:=hbk
  injection Ef with e1
  subst e1;exact⟨by rw[hs1];omega,.inr (Nat.le_refl _)⟩
theorem fP{s:Nat}{op:Op}(h:(Operand.tmp s)∈op.operands.toList)(ho:o.op=op):s∈looks o:=List.mem_filterMap.2 ⟨_,by rw[ho];exact h,rfl⟩
theorem rz{s x y:Nat}{ps:Value->Value->List Pr}(hg:o.guard=none)(hd:o.dst=some d)(hn:d<n)(ho:o.op= .box T (.tmp s))(hx:d≠x)(hy:d≠y):
  D8 P M0 w0 S n j ⟨.three s x y,lp fun v1 v2=>MT (agg (ps v1 v2))⟩ ⟨.three d x y,lp fun v1 v2=>Gg T (ps v1 v2)⟩ o E (Cp.ex fun b=>ptr b 0):=by
 refine⟨hg,fun M w a rs hsz he hI hj=>?_⟩;have hj':rs[j]? =some (MT (agg (ps (a.tmps.getD x undef) (a.tmps.getD y undef))) (a.tmps.getD s undef)):=hj;have hjl:j<rs.length:=by grind
 have hr:=(hI.hold _ (List.mem_of_getElem? hj')).1;have hI2:BD M0 w0 S (rs.set j Bb) M w:=BD.DF hI hj' rfl rfl trivial
 have he2:C2 M w ((s,agg (ps (a.tmps.getD x undef) (a.tmps.getD y undef)))::E) o a:=fun c p hc hp=>by
  simp only[List.lookup]at hp
  by_cases hcs:c=s
  .subst hcs;simp only[beq_self_eq_true,Option.some.injEq]at hp;subst hp;exact hr
  .rw[show(c==s)=false by simpa using hcs]at hp;exact he c p hc hp
 have h:=(rY (P:=P) (M0:=M0) (w0:=w0) (S:=S) (n:=n) (j:=j) (T:=T) (ps:=ps (a.tmps.getD x undef) (a.tmps.getD y undef)) (E:=(s,agg (ps (a.tmps.getD x undef) (a.tmps.getD y undef)))::E) hg hd hn ho (VL.le ⟨_,List.lookup_cons_self,Pr.le_refl _⟩ (AJ _))).2 M w a _ hsz he2 hI2 (by rw[List.getElem?_set_self hjl];rfl)
 have h2:Ew P M0 w0 S o a M w (Cp.ex fun b=>ptr b 0) j ⟨d,Gg T (ps (a.tmps.getD x undef) (a.tmps.getD y undef))⟩ rs ((execOp a.eval o).run P w):=by
  revert h
  generalize (execOp a.eval o).run P w=r
  intro h;cases r with
  |halt x w'=>exact h
  |ok x w'=>
   cases x
   case value v=>simpa only[Ew,List.set_set]using h
   case skip=>simpa only[Ew,List.set_set]using h
   case enter f args=>simpa only[Ew,List.set_set]using h
   all_goals exact h
 refine Ew.conv (Pr.le_refl _) (fun v=>?_) h2;rw[ZE,hd,Ba (Ne.symm hx),Ba (Ne.symm hy)];rfl
theorem fQ{t:TypeId}{s y:Tmp}[One p](hg:o.guard=none)(hd:o.dst=none)(ho:o.op= .store t (.tmp s) (.tmp y))(hsy:s≠y)(hx:E.lookup s=some (Cp.ex fun b=>ptr b 0))(hy:E.lookup y=some p)(hz:Aw P t=some 1)(hl:ps.length=1):D8 P M0 w0 S n j ⟨s,Gg T ps⟩ ⟨.two s y,lq fun v=>Gg T [Aj v p]⟩ o E any:=by
 refine⟨hg,fun M w a rs hsz he hI hj=>?_⟩;have hyl:y∈looks o:=fP (op:= .store t (.tmp s) (.tmp y)) (by simp[Op.operands]) ho
 have he2:C2 M w ((y,Aj (a.tmps.getD y undef) p)::E) o a:=fun c q hc hq=>by
  simp only[List.lookup]at hq
  by_cases hcs:c=y
  .subst hcs;simp only[beq_self_eq_true,Option.some.injEq]at hq;subst hq;exact⟨rfl,he _ p hyl hy⟩
  .rw[show(c==y)=false by simpa using hcs]at hq;exact he c q hc hq
 have h:=(Gi (P:=P) (M0:=M0) (w0:=w0) (S:=S) (n:=n) (j:=j) (T:=T) (ps:=ps) (qs:=[Aj (a.tmps.getD y undef) p]) (E:=(y,Aj (a.tmps.getD y undef) p)::E) hg hd ho (by simp only[List.lookup];rw[show(s==y)=false by simpa using hsy];exact hx) (VL.le ⟨_,List.lookup_cons_self,Pr.le_refl _⟩ (AV _)) hz rfl hl).2 M w a rs hsz he2 hI hj;refine Ew.conv (Pr.le_refl _) (fun v=>?_) h;rw[cq,hd];rfl
theorem BG.pin{Q:Exit->Act->World->Prop}{rs:List SR}(s:Nat)(hs:E.lookup s=some p)(k:∀v,BG n M0 w0 S ((s,Aj v p)::E) rs Q):BG n M0 w0 S E rs Q:=by
 rintro a w ⟨M,g1,g2,g3,g4⟩;refine k (a.tmps.getD s undef) a w ⟨M,g1,g2,fun c z hz=>?_,g4⟩;simp only[List.lookup]at hz
 by_cases hcs:c=s
 .exact ak
 .rw[show(c==s)=false by simpa using hcs]at hz;exact g3 c z hz
theorem BG.fix{Q:Exit->Act->World->Prop}{rs:List SR}(j:Nat){R:SR}(r:Ay)(hR:rs[j]? =some R)(hs:∀a:Act,(∃M w,Fo M w E a)->R.at_ a=r)(k:BG n M0 w0 S E (rs.set j (SR.c r)) Q):BG n M0 w0 S E rs Q:=by
 rintro a w ⟨M,g1,g2,g3,g4⟩;refine k a w ⟨M,g1,g2,g3,?_⟩;have e:=hs a ⟨M,w,g3⟩
 have e3:(rs.set j (SR.c r)).map (·.at_ a)=rs.map (·.at_ a):=by
  apply List.ext_getElem?
  intro m;rw[List.getElem?_map,List.getElem?_map,List.getElem?_set]
  by_cases pL:j=m
  .
   subst pL;have hjl:j<rs.length:=by grind
   rw[if_pos rfl,if_pos hjl,hR];show some ((SR.c r).at_ a)=some (R.at_ a);rw[e];rfl
  .rw[if_neg pL]
 rw[e3];exact g4
theorem ZF{s:Nat}(h:Fo M w E a)(hs:E.lookup s=some (Aj v p)):a.tmps.getD s undef=v:=(h s _ hs).1
theorem BG.ADB{Q:Exit->Act->World->Prop}{rs:List SR}(j s:Nat){f:Value->Ay}(hR:rs[j]? =some ⟨s,f⟩)(hs:E.lookup s=some (Aj v p))(k:BG n M0 w0 S E (rs.set j (SR.c (f v))) Q):BG n M0 w0 S E rs Q:=
 BG.fix j _ hR (fun a ⟨_,_,h⟩=>by show f (a.tmps.getD s undef)=_;rw[ZF h hs]) k
theorem BG.AGX{Q:Exit->Act->World->Prop}{rs:List SR}(j d s:Nat){f:Value->Value->Ay}{u:Value}{q:Pr}(hR:rs[j]? =some ⟨.two d s,lq f⟩)(hd:E.lookup d=some (Aj u p))(hs:E.lookup s=some (Aj v q))(k:BG n M0 w0 S E (rs.set j (SR.c (f v u))) Q):BG n M0 w0 S E rs Q:=by grind [BG.fix,cq,ZF]
theorem BG.AGY{Q:Exit->Act->World->Prop}{rs:List SR}(j d s t:Nat){f:Value->Value->Value->Ay}{u v1 v2:Value}{q1 q2:Pr}(hR:rs[j]? =some ⟨.three d s t,lp f⟩)(hd:E.lookup d=some (Aj u p))(hs:E.lookup s=some (Aj v1 q1))(ht:E.lookup t=some (Aj v2 q2))(k:BG n M0 w0 S E (rs.set j (SR.c (f v1 v2 u))) Q):BG n M0 w0 S E rs Q:=by grind [BG.fix,ZE,ZF]
end
section
variable{P:Program}{L:Lg P}{n:Fm}{fz:Nat}{E:Env}{I:Cj}{M0:Av}{w0:World}{S:Nat->Prop}{rs:List Ay}{Q:Exit->Act->World->Prop}{c:Code}
theorem Fin.shape{e:Exit}(s:Nat)(form:Nat->Value)(hs:E.lookup s=some (Aj v (Cp.ex fun b=>is (form b))))(k:∀b,v=form b->Fin n ((s,is (form b))::E) (Hp M0 w0 S rs) Q e):Fin n E (Hp M0 w0 S rs) Q e:=by
 intro a w hst;obtain⟨M,h1,h2,he,h4⟩:=hst;obtain⟨h5,b,h6⟩:=he s _ hs;have hv:v=form b:=by rw[←h5];exact h6
 refine k b hv a w ⟨M,h1,h2,fun c z hz=>?_,h4⟩;simp only[List.lookup]at hz
 by_cases hcs:c=s
 .grind
 .rw[show(c==s)=false by simpa using hcs]at hz;exact he c z hz
theorem Fin.KW{e:Exit}(j:Nat){r:Ay}(r':Ay)(hi:rs[j]? =some r)(h:r=r')(k:Fin n E (Hp M0 w0 S (rs.set j r')) Q e):Fin n E (Hp M0 w0 S rs) Q e:=by
 subst h;have hjl:j<rs.length:=by grind
 have e1:rs.set j r=rs:=by
  apply List.ext_getElem?
  intro m;rw[List.getElem?_set]
  by_cases pL:j=m
  .grind
  .rw[if_neg pL]
 rw[e1]at k;exact k
theorem Tr.ADC{α:Type}(ni:α->Fm)(Ei:α->Env)(Ii:α->Cj)(C:α->Prop)(μ:α->Nat)(x0:α)(hn:ni x0=n)(h0:C x0)(hs:C6 E (Ei x0))(hI:∀M w,I.h M w->(Ii x0).h M w)
  (k:∀x,C x->Tr L (ni x) (Ei x) (Ii x) c (Exit.then (fun a w=>∃y,(C y/\μ y<μ x)/\St (ni y) (Ei y) (Ii y) a w) Q)):Tr L n E I (.loop c) Q:=by
 intro a w hst;refine L.loop μ (fun x a w=>C x/\St (ni x) (Ei x) (Ii x) a w) (fun x a w ⟨hc,h⟩=>?_) x0 a w ⟨h0,?_⟩
 .
  refine L.mono ?_ (k x hc a w h);intro e a w hq;cases e with
  |normal=>obtain⟨y,⟨h1,h2⟩,h3⟩:=hq;exact⟨y,h2,h1,h3⟩
  |_=>exact hq
 .rw[hn];exact hst.sub hs hI
theorem Fin.Rs{e:Exit}{rs':List Ay}(hp:rs.Perm rs')(k:Fin n E (Hp M0 w0 S rs') Q e):Fin n E (Hp M0 w0 S rs) Q e:=fun a w ⟨M,h1,h2,h3,h4⟩=>k a w ⟨M,h1,h2,h3,BD.perm hp h4⟩
theorem BM.ofM {g : Func} {res : Pr} {R : Ay} {R' : Value → Ay} (hf : P.funcs[f]? = some g) (hb : g.body = some c) (hname : (g.name == "runtime.NumGoroutine") = false) (hlen : ps.length ≤ g.ntmps) (h : ∀ M0 w0 S rs M1 w1, Tr (YJ P) g.ntmps (L5 0 ps) (Hp M0 w0 S (R :: Ao M1 w1 :: rs)) c (Jx P g (RI M0 w0 S rs M1 w1 res R'))) : BM P f ps res R R' := by
 refine⟨⟨g,hf,hname,by rw[hb];rfl⟩,fun M0 w0 S rs M w vs hI hv=>?_⟩;refine PL hf hb (h M0 w0 S rs M w _ _ ⟨M,?_,rfl,Gb hv,?_⟩)
 .
  have:=hv.length;simp[this];omega
 .exact US
end
section
variable{P:Program}{L:Lg P}{n:Fm}{fz:Nat}{E:Env}{I:Cj}{M0:Av}{w0:World}{S:Nat->Prop}{rs:List Ay}{Q:Exit->Act->World->Prop}{c:Code}
abbrev I7(l D:Nat)(rec:Obj)(M1:Av)(w1:World)(rs:List Ay):List Ay:=BK l rec::BK D (.deferred (some []))::Ao M1 w1::rs
theorem Tr.l5{α:Type}{p gf:Nat}{g:Operand}{lb:Array Value}{enc:α->Value}{xs:List α}{own:List α->List Ay}{assign body:Code}(q:Nat)(K:Env)(hK:C6 E K)(R:List α->List Ay)
  (hIt:KV P gf lb enc xs own) (eg:Entry P gf) (hg:VL E g (is (.func (.func gf) #[] lb))) (hrs:rs.Perm (own []++R [])) (hp:K.lookup p=none) (hpn:p<n.sz)
  (hassign:∀l D rec M1 w1 pre x,(pre++[x])<+:xs->Tr (jB P (some l)) ⟨n.sz,[]⟩ ((p,is (enc x))::K) (Hp M0 w0 S (own (pre++[x])++I7 l D rec M1 w1 (R pre))) assign (Exit.then (St ⟨n.sz,[]⟩ ((q,is (enc x))::K) (Hp M0 w0 S (own (pre++[x])++I7 l D rec M1 w1 (R pre)))) (fun _ _ _=>False)))
  (hbody : ∀ l D rec M1 w1 pre x, (pre ++ [x]) <+: xs -> Tr (jB P (some l)) ⟨n.sz, []⟩ ((q, is (enc x)) :: K) (Hp M0 w0 S (own (pre ++ [x]) ++ I7 l D rec M1 w1 (R pre))) body
   (LI M0 w0 S (fun _:Unit=>own (pre++[x])++I7 l D rec M1 w1 (R (pre++[x]))) (fun _ _=>own (pre++[x])++I7 l D rec M1 w1 [Cm False])))
  (hdone:∀l D rec M1 w1,Fin ⟨n.sz,mark D::n.df⟩ E (Hp M0 w0 S (own xs++I7 l D rec M1 w1 (R xs))) Q .normal):
  Tr (YJ P) n E (Hp M0 w0 S rs) (.rangeFunc g #[p] assign body) Q:=by
 refine Tr.lR (fun x=>(q,is (enc x))::K) (fun pre (_:Unit)=>R pre) (fun _ _ _=>[Cm False]) () hIt (fun args w=>Cz eg args w) hg hrs ?_ ?_ (fun l D rec M1 w1 _=>hdone l D rec M1 w1) ?_
 .
  intro l D rec M1 w1 pre x d hpre a hsz hE M w hI;have hx:Ext M1 w1 M w:=(hI.hold (Ao M1 w1) Ai).1;refine hassign l D rec M1 w1 pre x hpre _ w ⟨M,by simpa using hsz,rfl,fun s z hq=>?_,hI⟩;simp only[List.lookup]at hq
  by_cases hs:s=p
  .
   subst hs;simp only[beq_self_eq_true,Option.some.injEq]at hq;subst hq;show(a.tmps.setIfInBounds s (enc x)).getD s undef=enc x;simp[Array.getD_eq_getD_getElem?,hsz,hpn]
  .
   rw[show(s==p)=false by simpa using hs]at hq;obtain⟨z',JG,Wd⟩:=hK.spec s z hq;have h2:=z.st _ _ _ _ _ hx (Wd _ _ _ (hE s z' JG));show z.h M w ((a.tmps.setIfInBounds p (enc x)).getD s undef)
   have e1:(a.tmps.setIfInBounds p (enc x)).getD s undef=a.tmps.getD s undef:=by
    simp only[Array.getD_eq_getD_getElem?];rw[Array.getElem?_setIfInBounds_ne (fun e=>hs e.symm)]
   rw[e1];exact h2
 .
  intro l D rec M1 w1 pre x d hpre;exact hbody l D rec M1 w1 pre x hpre
 .
  intro l D rec M1 w1 c pre d hpre a w ⟨M,_,_,_,h⟩;have h:BD M0 w0 S (own pre++I7 l D rec M1 w1 [Cm False]) M w:=h;exact((h.hold (Cm False) Ai).1).elim
theorem Fin.st{E1:Env}{Q':Exit->Act->World->Prop}(hs:C6 E E1):Fin n E I (Exit.then (St n E1 I) Q') .normal:=fun _ _ h=>h.sub hs (fun _ _ h=>h)
theorem Fin.rnd{β:Type}{rr:β->List Ay}{rx:Code->β->List Ay}(d:β)(hp:rs.Perm (rr d)):Fin n E (Hp M0 w0 S rs) (LI M0 w0 S rr rx) .normal:=fun _ _ ⟨M,_,_,_,h⟩=>⟨d,M,BD.perm hp h⟩
theorem Tr.x7{α β:Type}(K:Env)(hK:C6 E K)(ni:α->β->Fm)(Ei:α->β->Env)(Ii:α->β->Cj)(C:α->β->Prop)(μ:α->β->Nat)(x0:α)(y0:β)(hn:ni x0 y0=n)(h0:C x0 y0)(hs:C6 E (Ei x0 y0))(hI:∀M w,I.h M w->(Ii x0 y0).h M w)
  (k:∀x y,C x y->Tr L (ni x y) (Ei x y++K) (Ii x y) c (Exit.then (fun a w=>∃x' y',(C x' y'/\μ x' y'<μ x y)/\St (ni x' y') (Ei x' y'++K) (Ii x' y') a w) Q)):Tr L n E I (.loop c) Q:=
 Tr.ADC (fun p : α × β => ni p.1 p.2) (fun p => Ei p.1 p.2 ++ K) (fun p => Ii p.1 p.2) (fun p => C p.1 p.2) (fun p => μ p.1 p.2) (x0, y0) hn h0 (NA hs hK) hI
  fun⟨x,y⟩ hC a w hst=>L.mono (fun e a w hq=>by
   cases e with
   |normal=>obtain⟨x',y',h1,h2⟩:=hq;exact⟨(x',y'),h1,h2⟩
   |_=>exact hq) (k x y hC a w hst)
theorem Fin.ADD{α β:Type}{ni:α->β->Fm}{E1:α->β->Env}{I1:α->β->Cj}{C:α->β->Prop}(i:α)(j:β)(hn:ni i j=n)(hC:C i j)(hs:C6 E (E1 i j))(hI:∀M w,I.h M w->(I1 i j).h M w):Fin n E I (Exit.then (fun a w=>∃x y,C x y/\St (ni x y) (E1 x y) (I1 x y) a w) Q) .normal:=
 fun _ _ hst=>⟨i,j,hC,by rw[hn];exact hst.sub hs hI⟩
end
section
variable{P:Program}{fz:Nat}{E:Env}{M0 M1:Av}{w0 w1:World}{S:Nat->Prop}{g:Func}{α β:Type}{xs:List α}{own:List α->List Ay}{R Rx:List α->β->List Ay}
theorem Fin.ADE{d:β}(hr:g.results= #[]):Fin ⟨fz,[]⟩ E (Hp M0 w0 S (own xs++Ao M1 w1::R xs d)) (Jx P g fun e w'=>(∃v,e= .returned v)/\∃M' d',Ext M1 w1 M' w'/\(BD M0 w0 S (own xs++R xs d') M' w'\/∃pre,pre<+:xs/\BD M0 w0 S (own pre++Rx pre d') M' w')) .normal:=by
 refine Fin.xj (Fin.Ro ?_);rintro a w ⟨M,_,hd,he,hi⟩;obtain⟨h1,h2⟩:=kW hi;exact⟨hd,_,results0 hr,⟨_,rfl⟩,M,d,h1,.inl h2⟩
theorem Fin.x8{d:β}{pre:List α}(hr:g.results= #[])(hp:pre<+:xs):Fin ⟨fz,[]⟩ E (Hp M0 w0 S (own pre++Ao M1 w1::Rx pre d)) (Jx P g fun e w'=>(∃v,e= .returned v)/\∃M' d',Ext M1 w1 M' w'/\(BD M0 w0 S (own xs++R xs d') M' w'\/∃pre,pre<+:xs/\BD M0 w0 S (own pre++Rx pre d') M' w')) .ret:=by
 refine Fin.Ro ?_;rintro a w ⟨M,_,hd,he,hi⟩;obtain⟨h1,h2⟩:=kW hi;exact⟨hd,_,results0 hr,⟨_,rfl⟩,M,d,h1,.inr ⟨pre,hp,h2⟩⟩
theorem BM.x9{form:Nat->Value}{r':Value->Ay}(h:Hy P f args [] (fun _=>True) (fun b=>is (form b)) (fun b=>[r' (form b)])):BM P f args (Cp.ex fun b=>is (form b)) Bb r':=by
 refine⟨h.1,fun M0 w0 S rs M w vs hI hv=>(h.2 M0 w0 S rs M w vs (BD.Hg hI) hv).mono ?_⟩;rintro e w' ⟨v,M',b,rfl,_,h1,h2,h3⟩;obtain rfl:v=form b:=h1;exact⟨_,M',rfl,⟨b,rfl⟩,h2,h3⟩
end
section
variable{P:Program}{L:Lg P}{n:Fm}{fz:Nat}{E:Env}{M0:Av}{w0:World}{S:Nat->Prop}{o:Oper}
end
section
variable{P:Program}{L:Lg P}{n:Fm}{fz:Nat}{E:Env}{M0:Av}{w0:World}{S:Nat->Prop}{rs:List Ay}{Q:Exit->Act->World->Prop}
end
section
variable{P:Program}
theorem BM.r6{res:Pr}{r:Ay}(h:BM P f args res r (fun _=>r))(hb:r.blk=none)(W:World)(vs:List Value)(hr:r.h pM W)(hv:HL pM W args vs):
  Calls P f vs.toArray W fun e w'=>∃v,e= .returned v/\res.h pM w' v/\Below W.heap.size W w':=by
 refine(h.2 pM W Ju [] pM W vs ((BD.begin (wN W)).JI (r:=r) hb hr) hv).mono ?_;rintro e w' ⟨v,M',rfl,h2,h3,h4⟩;exact⟨v,rfl,res.st _ _ _ _ _ (Ext.less h4.m) h2,h4.below⟩
end
section
variable{P:Program}{n:Fm}{E:Env}{M0:Av}{w0:World}{S:Nat->Prop}{rs:List Ay}{Q:Exit->Act->World->Prop}{p0 p1:Pr}{R:Value->Ay}
end
section
variable{P:Program}{L:Lg P}{n:Fm}{E:Env}{M0:Av}{w0:World}{S:Nat->Prop}{rs:List Ay}{Q:Exit->Act->World->Prop}{c:Code}
variable{ε:Type}
end
theorem vc(h:i<=m)(hm:m<=40):1<=2 ^ i/\2 ^ i<=2 ^ m/\2 ^ m<=1099511627776:=
 ⟨Nat.one_le_two_pow,Nat.pow_le_pow_right AA h,Nat.le_trans (Nat.pow_le_pow_right (n:=2) AA hm) AB⟩
section
variable{P:Program}{I:Cj}{o:Oper}{E:Env}
theorem r7{t u:TypeId}{y:Operand}{i:Int}(ho:o.op= .binOp .shl t x y u)(hx:VL E x (int 1))(hy:VL E y (int i))(h0:0<=i)(h40:i<=40):Af P I o E (int ((2 ^ i.toNat:Nat):Int)):=
 Af.same fun M w a he _=>by
  have h1:a.eval x= .int .i64 1:=hx.ev he Am;have h2:a.eval y= .int .i64 i:=hy.ev he Am;have hn:¬i<0:=by omega
  have hmin:min i.toNat 64=i.toNat:=by omega
  have e:((2 ^ i.toNat:Nat):Int)=(2:Int) ^ i.toNat:=Int.natCast_pow 2 i.toNat;obtain⟨hp1,hp2,hp3⟩:=vc (i:=i.toNat) (m:=i.toNat) (Nat.le_refl _) AA;have hw:IntKind.i64.wrap (2 ^ i.toNat)=2 ^ i.toNat:=by rw[←e];exact Gt H8
  refine⟨.int .i64 (IntKind.i64.wrap (1*2 ^ (min i.toNat IntKind.i64.bits))),?_,?_⟩
  .
   simp only[execOp,ho,h1,h2];simp[eqGuard,binOp,Op.shift,hn]
   try rw[show min i.toNat IntKind.i64.bits=i.toNat from hmin]
  .
   show Value.int _ _=Value.int _ _;rw[show min i.toNat IntKind.i64.bits=i.toNat from hmin,Int.one_mul,hw,e]
theorem yA{t u:TypeId}{y:Operand}{a b:Nat}(ho:o.op= .binOp .or t x y u)(hx:VL E x (int (a:Int)))(hy:VL E y (int (b:Int)))(ha:a<2 ^ m)(hb:b<2 ^ m)(hm:m<=40):Af P I o E (int ((a|||b:Nat):Int)):=
 Af.same fun M w c he _=>by
  have h1:c.eval x= .int .i64 a:=hx.ev he Am;have h2:c.eval y= .int .i64 b:=hy.ev he Am;obtain⟨_,_,hp3⟩:=vc (i:=m) (m:=m) (Nat.le_refl _) hm;have hab:a|||b<2 ^ m:=Nat.or_lt_two_pow ha hb
  have ea:(BitVec.ofInt 64 (a:Int)).toNat=a:=by rw[BitVec.toNat_ofInt];omega
  have eb:(BitVec.ofInt 64 (b:Int)).toNat=b:=by rw[BitVec.toNat_ofInt];omega
  have er:(BitVec.ofInt 64 (a:Int)|||BitVec.ofInt 64 (b:Int)).toNat=a|||b:=by rw[BitVec.toNat_or,ea,eb]
  refine⟨_,by simp[execOp,ho,h1,h2,eqGuard,binOp,Op.intBits];rfl,?_⟩;show Value.int _ _=Value.int _ _
  congr 1
  show IntKind.i64.wrap (((BitVec.ofInt 64 (a:Int)|||BitVec.ofInt 64 (b:Int)).toNat:Nat):Int)=_;rw[er];exact Gt H8
end
section
variable{P:Program}{fz:Nat}{E:Env}{M0:Av}{w0:World}{rs:List Ay}{g:Func}
end
section
variable{P:Program}{L:Lg P}{n:Fm}{E:Env}{M0:Av}{w0:World}{S:Nat->Prop}{rs:List Ay}{o:Oper}{β:Type}{f:β->List Pr}{φ:β->Prop}
theorem Ew.wk{R1 R2:SR}{rs:List Ay}{r:Result Next}(hjl:j<rs.length)(hd:o.dst=none)(hb:(R2.at_ a).blk=(R1.at_ a).blk)(hn:(R2.at_ a).new=(R1.at_ a).new)(hh:∀M w,(R1.at_ a).h M w->(R2.at_ a).h M w)(h:Ew P M0 w0 S o a M w p j R1 rs r):Ew P M0 w0 S o a M w p j R2 rs r:=by
 have key:∀v M' w',BD M0 w0 S (rs.set j (R1.at_ (a.put o.dst v))) M' w'->BD M0 w0 S (rs.set j (R2.at_ (a.put o.dst v))) M' w':=by
  intro v M' w' hI;rw[hd]at hI ⊢;have hI:BD M0 w0 S (rs.set j (R1.at_ a)) M' w':=hI;have h1:(rs.set j (R1.at_ a))[j]? =some (R1.at_ a):=by rw[List.getElem?_set_self hjl]
  have:=hI.DF (r':=R2.at_ a) h1 hb hn (hh _ _ (hI.hold _ (List.mem_of_getElem? h1)).1);rw[List.set_set]at this;exact this
 cases r with
 |halt x w'=>exact h
 |ok x w'=>
  cases x
  case value v=>obtain⟨M',g1,g2,g3⟩:=h;exact⟨M',g1,g2,key _ _ _ g3⟩
  case skip=>obtain⟨M',g1,g2,g3⟩:=h;exact⟨M',g1,g2,key _ _ _ g3⟩
  case enter f args=>
   refine Calls.mono h ?_;rintro e w'' ⟨v,M',g0,g1,g2,g3⟩;exact⟨v,M',g0,g1,g2,key _ _ _ g3⟩
  all_goals exact h
end
end Cp
namespace Go.Proofs.YthommhphcagokaaGreatDoor
open Go Go.RowKit Cp Go.Proofs.Tryz
structure EF where
 Ho:Int
 Gk:List UInt8
 FA:List UInt8
 OU:Int
 I8:Int
 Bm:Int
 OV:Int
 Ls:Int
 from_:Int
 DC:Int
 auth:Bool
 path:Int
 names:List (List UInt8)
 LY:Int
 l6:Int
abbrev ZG(l:List (List UInt8)):Pr:=slice 1 (l.map fun t=>[str t])
abbrev C9(c:EF):List Pr:=[int c.Ho,str c.Gk,str c.FA,int c.OU,int c.I8,int c.Bm,int c.OV,int c.Ls,int c.from_,int c.DC,bool c.auth,int c.path,ZG c.names,int c.LY,int c.l6]
abbrev G6(l:List EF):Pr:=slice 15 (l.map C9)
structure EF.fits(c:EF):Prop where
 Gk:c.Gk.length<=maxLen
 FA:c.FA.length<=maxLen
 names:∀s∈c.names,s.length<=maxLen
def G3(n:Int):Bool:=decide (0<=n)&&decide (n<=2147483648)
def fR(n:Int):Bool:=decide (0<=n)&&decide (n<4294967296)
def FR(o:List UInt8)(c:UInt8):Bool:=decide (97<=c.toNat/\c.toNat<=122)||decide (65<=c.toNat/\c.toNat<=90)||decide (48<=c.toNat/\c.toNat<=57)||decide (0<=Lib.indexByte o c)
def KF(s:List UInt8):Bool:=s.all (FR [45,95,46])&&decide (1<=s.length/\s.length<=32)
def nameAt(l:List (List UInt8))(i:Nat):Bool:=named (l[i]?.getD [])&&(decide (i=0)||decide (Lib.compareBytes (l[i-1]?.getD []) (l[i]?.getD [])= -1))
def E6(l:List (List UInt8)):Bool:=allI (nameAt l) l.length&&decide (l.length<=8)
def IQ(CI bits kind:Int):Bool:=decide (CJ CI bits>0)&&(Dh CI).kind==kind
def CE(c:EF):Bool:=
 (decide (0<=c.Ho)&&decide (c.Ho<=1099511627776)&&named c.Gk&&named c.FA&&E6 c.names)&&
 (IQ c.OU c.I8 2&&G3 c.Bm&&IQ c.OV c.Ls 1&&G3 c.LY&&fR c.l6)&&
 (decide (0<=c.from_)&&decide (c.from_<=c.DC)&&decide (c.DC<=40000))&&(decide (0<=c.path)&&decide (c.path<=8)&&(c.auth||c.path==0))
def Rt(CI bits id:Int)(l:List EF):Bool:=IQ CI bits 2&&G3 id&&decide (l.length<=8)&&l.all CE&&match l with|[]=>true|c::_=>decide (c.OU=CI/\c.I8=bits)&&c.Bm==id
structure E9 where
 CI:Int
 bits:Int
 Bm:Int
 chain:List EF
abbrev BT(x:E9):List Pr:=[int x.CI,int x.bits,int x.Bm,G6 x.chain]
abbrev G7(l:List E9):Pr:=slice 4 (l.map BT)
def E9.fits(x:E9):Prop:=∀c∈x.chain,c.fits
structure DY where
 name:List UInt8
 least:Int
 most:Int
 AR:List Int
 own:Bool
 ids:List E9
 anchors:List Int
 hashes:List Int
 HQ:Bool
variable{e:DY}{f:FuncId}{CI:Int}{l:List Int}{args ps:List Pr}{sp:List Value}{cap i j k ob wb:Nat}{p p3 p5 p6 p7:Pr}{P:Program}{v:Value}
abbrev As(e:DY):List Pr:=[str e.name,int e.least,int e.most,ints e.AR,bool e.own,G7 e.ids,ints e.anchors,ints e.hashes,bool e.HQ]
structure DY.fits(e:DY):Prop where
 name:e.name.length<=maxLen
 ids:∀x∈e.ids,x.fits
def GV(l:List Int)(i:Nat):Bool:=decide (i=0)||decide (l[i-1]?.getD 0<l[i]?.getD 0)
def VQ(l:List Int):Bool:=allI (GV l) l.length
def Em(l:List Int)(i:Nat):Bool:=decide (1<=l[i]?.getD 0/\l[i]?.getD 0<=16)&& !((l.take i).any fun x=>l[i]?.getD 0==x)
def Gy(l:List Int):Bool:=allI (Em l) l.length
def KY(n:Int):Bool:=(Dh n).kind==1
def fS(x:E9):Bool:=Rt x.CI x.bits x.Bm x.chain
def B5(e:DY):Bool:=
 (KF e.name&&decide (1<=e.least)&&decide (e.least<=e.most)&&decide (e.most<=4)&&Gy e.AR)&&
 (decide (e.ids.length<=4)&&decide (e.anchors.length<=16)&&VQ e.anchors&&VQ e.hashes)&&e.ids.all fS&&e.anchors.all G3&&e.hashes.all KY
theorem cv{β:Type}(p:β->Bool)(l:List β):(l.any fun x=> !p x)= !l.all p:=by
 induction l with
 |nil=>rfl
 |cons a l ih=>rw[List.any_cons,List.all_cons,ih];cases p a<;>rfl
theorem getD_at{β:Type}{l:List β}{x d:β}(h:l[k]? =some x):l[k]?.getD d=x:=by rw[h];rfl
theorem yB{s:List UInt8}{c:UInt8}  :Aq prog 295 [str s,is (.int .u8 ((c.toNat:Nat):Int))] (int (Lib.indexByte s c)):=by
 refine fo func295 rfl ⟨rfl,rfl⟩ fun M0 w0=>?_;refine a2 ?_;refine co rfl (Y3 rfl func342 BQ BQ BQ BQ vq vq) ?_;refine a2 ?_
 .exact Lr
theorem WQ{s:List UInt8}{c:UInt8}  :Aq prog 246 [str s,is (.int .u8 ((c.toNat:Nat):Int))] (int (Lib.indexByte s c)):=by
 refine fo func246 rfl ⟨rfl,rfl⟩ fun M0 w0=>?_;refine a2 ?_;refine co rfl (CG (yB) rfl rfl rfl) ?_;refine a2 ?_
 .exact Lr
theorem l7{o:List UInt8}{c:UInt8}  :Aq prog 197 [is (.int .u8 ((c.toNat:Nat):Int)),str o] (bool (FR o c)):=by
 refine fo func197 rfl ⟨rfl,rfl⟩ fun M0 w0=>?_;refine ac ?_;refine ag ?_ ?_<;>intro h1 q1
 refine ag ?_ ?_<;>intro h2 q2
 refine ac ?_;refine wk [4] rfl ?_;refine ac ?_
 .exact L2
 refine ag ?_ ?_<;>intro h3 q3
 refine ag ?_ ?_<;>intro h4 q4
 refine ac ?_;refine wk [4] rfl ?_;refine ac ?_
 .exact L2
 refine ag ?_ ?_<;>intro h5 q5
 .exact UI
 refine ac ?_;refine cy rfl rfl (CG (WQ) rfl rfl rfl) ?_;refine ac ?_;refine wk [4] rfl ?_;refine ac ?_
 .exact L2
 refine ag ?_ ?_<;>intro h7 q7
 .exact UI
 refine ac ?_;refine cy rfl rfl (CG (WQ) rfl rfl rfl) ?_;refine ac ?_;refine wk [4] rfl ?_;refine ac ?_
 .exact L2
 refine ag ?_ ?_<;>intro h9 q9
 refine ag ?_ ?_<;>intro h10 NT
 refine ac ?_;refine wk [4] rfl ?_;refine ac ?_
 .exact L2
 refine ag ?_ ?_<;>intro h11 Rl
 .exact UI
 refine ac ?_;refine cy rfl rfl (CG (WQ) rfl rfl rfl) ?_;refine ac ?_;refine wk [4] rfl ?_;refine ac ?_
 .exact L2
 refine ag ?_ ?_<;>intro LX YN
 .exact UI
 refine ac ?_;refine cy rfl rfl (CG (WQ) rfl rfl rfl) ?_;refine ac ?_;refine wk [4] rfl ?_;refine ac ?_
 .exact L2
theorem yC{s:List UInt8}(hs:s.length<=maxLen):Aq prog 139 [str s] (bool (KF s)):=by
 refine fo func139 rfl ⟨rfl,rfl⟩ fun M0 w0=>?_;refine a2 ?_;refine co rfl (KL rfl underlying9 underlying180 underlying5 vq Cs) ?_;refine ac ?_;refine Tr.block (Tr.Dr 6 rfl fun hl6=>(Tr.BV _ (kk [7,6,0] rfl) (fun k:Nat=>[(8,int ((k:Nat):Int))]) (fun k:Nat=>k<=(s).length/\(∀j y,j<k->s[j]? =some y->(!FR [45,95,46] y)=false)) (fun k:Nat=>(s).length-k) 0 (⟨Nat.zero_le _,fun j y hj=>absurd hj AA⟩) kz ?_));rintro k ⟨BN,AW⟩;refine ac ?_;refine Tr.seq ?_;refine Tr.cn rfl ?_ ?_<;>intro h1 q1
 have Ae:k<(s).length:=AQ h1;obtain⟨c,Ad⟩:=at_ Ae;refine ac ?_;refine Tr.seq (Tr.block (Tr.seq (Tr.Bo (co rfl (AD rfl underlying180 Fq vq vq AA DZ) ?_))))
 .repeat' first|(refine bool_eq ?_;unfold KF;rw[Jd (p:=FR [45,95,46]) Ad CU];rfl)|exact Fin.AP (k+1) ⟨⟨Ae,C3 (p:=fun c=> !FR [45,95,46] c) Ad CU AW⟩,by omega⟩ ⟨⟨_,rfl,AK k⟩,kz⟩|refine co rfl (CG (l7) rfl rfl rfl) ?_|refine ac ?_|(refine Tr.cn rfl ?_ ?_<;>intro h q)
 have BA:k=(s).length:=by have:=AU h1;omega
 subst BA
 .repeat' first|(refine bool_eq ?_;unfold KF;rw[GK AW,Bool.true_and];rw[decide_eq_decide];omega)|(refine bool_eq ?_;unfold KF;rw[GK AW,Bool.true_and];symm;rw[decide_eq_false_iff_not];omega)|refine ac ?_|(refine Ch.cg rfl rfl rfl ?_ ?_<;>intro h q)
theorem ZH{n:Int}  :Aq prog 123 [int n] (bool (G3 n)):=by
 refine fo func123 rfl ⟨rfl,rfl⟩ fun M0 w0=>?_;refine ac ?_;refine ac ?_;refine Ch.cs 5 rfl ?_ ?_<;>intro h1 q1
 refine ac ?_;refine ac ?_
 .refine bool_eq ?_;unfold G3;simp_all
 refine ac ?_;refine ac ?_
 .refine bool_eq ?_;unfold G3;simp_all;omega
theorem yD:Entry Tryz.prog 123:=⟨_,Tryz.func123,rfl,rfl⟩
theorem yE{n:Int}  :Aq prog 299 [int n] (bool (fR n)):=by
 refine fo func299 rfl ⟨rfl,rfl⟩ fun M0 w0=>?_;refine ac ?_;refine ac ?_;refine Ch.cs 5 rfl ?_ ?_<;>intro h1 q1
 refine ac ?_;refine ac ?_
 .refine bool_eq ?_;unfold fR;simp_all
 refine ac ?_;refine ac ?_
 .refine bool_eq ?_;unfold fR;simp_all;omega
theorem ve{bits kind:Int}:Aq prog 298 [agg [int CI,int bits],int kind] (bool (IQ CI bits kind)):=by
 refine fo func298 rfl ⟨rfl,rfl⟩ fun M0 w0=>?_;refine ac ?_;refine ac ?_;refine co rfl (BS (VP) rfl rfl) (cm rfl ?_);refine Ch.cs 7 rfl ?_ ?_<;>intro h1 q1
 refine ac ?_;refine cy h1 rfl (BS (Y7) rfl rfl) ?_;refine ac ?_;refine ac ?_
 .refine bool_eq ?_;unfold IQ;simp_all
 refine ac ?_;refine ac ?_
 .refine bool_eq ?_;unfold IQ;simp_all;omega
theorem l9{l:List (List UInt8)}(hf:∀s∈l,s.length<=maxLen):Aq prog 297 [ZG l] (bool (E6 l)):=by
 refine fo func297 rfl ⟨rfl,rfl⟩ fun M0 w0=>(Tr.Dr 0 rfl fun Dq=>?_);refine a2 ?_;refine Tr.block (Tr.BV _ (kk [6,5,0] rfl) (fun k:Nat=>[(7,int ((k:Nat):Int))]) (fun k:Nat=>k<=(l).length/\(∀j,j<k->nameAt l j=true)) (fun k:Nat=>(l).length-k) 0 (⟨Nat.zero_le _,fun j hj=>absurd hj AA⟩) kz ?_);rintro k ⟨BN,AW⟩;refine ac ?_;refine Tr.seq ?_;refine Tr.cn rfl ?_ ?_<;>intro h1 q1
 have Ae:k<(l).length:=AQ h1;obtain⟨s,Ad⟩:=at_ Ae;have hsf:=hf s (List.mem_of_getElem? Ad);have hg:=getD_at (d:=[]) Ad;refine a2 ?_;refine co rfl (AD rfl underlying67 Lj vq vq AA (Ap Ad)) ?_;refine a2 ?_;refine co rfl (BS (QJ hsf) rfl rfl) ?_;refine ag ?_ ?_<;>intro h2 q2
 refine ac ?_;refine wk [27,7,6,5,0] rfl ?_;refine a2 ?_
 .refine bool_eq ?_;unfold E6;rw[EW (p:=nameAt l) (k:=k) AA (by unfold nameAt;rw[hg];simp_all)];rfl
 refine ag ?_ ?_<;>intro h3 q3
 have hk0:0<k:=by simpa using h3
 obtain⟨y,hy⟩:=at_ (l:=l) (k:=k-1) AA;have Le:=getD_at (d:=[]) hy
 .repeat' first|(refine bool_eq ?_;unfold E6;rw[EW (p:=nameAt l) (k:=k) AA (by unfold nameAt;rw[hg,Le];simp_all;omega)];rfl)|(exact Fin.AP (k+1) ⟨⟨Ae,Bx AW (by unfold nameAt;rw[hg,Le];simp_all)⟩,by omega⟩ ⟨⟨_,rfl,AK k⟩,kz⟩)|(refine cy h3 rfl (AD rfl underlying67 Lj vq vq AA F2) ?_)|refine cy h3 rfl (MH rfl vq vq) ?_|refine ac ?_|(refine Tr.cn rfl ?_ ?_<;>intro h q)
 refine ac ?_;refine wk [27,7,6,5,0] rfl ?_;refine a2 ?_;exact Fin.AP (k+1) ⟨⟨Ae,Bx AW (by unfold nameAt;rw[hg];simp_all)⟩,by omega⟩ ⟨⟨_,rfl,AK k⟩,kz⟩;have BA:k=(l).length:=by have:=AU h1;omega
 subst BA;refine a3 ?_
 .refine bool_eq ?_;unfold E6;rw[KQ AW,Bool.true_and];simp;omega
theorem W_{c:EF}(hc:c.fits):Aq prog 248 [agg (C9 c)] (bool (CE c)):=by
 refine fo func248 rfl ⟨rfl,rfl⟩ fun M0 w0=>?_
 .repeat' first|(refine bool_eq ?_;unfold CE;simp_all;omega)|(refine bool_eq ?_;unfold CE;simp_all)|refine cy h rfl (BS (QJ hc.Gk) rfl rfl) ?_|refine cy h rfl (BS (QJ hc.FA) rfl rfl) ?_|refine cy h rfl (BS (l9 hc.names) rfl rfl) ?_|refine co rfl (CG (ve) rfl rfl rfl) ?_|refine cy h rfl (CG (ve) rfl rfl rfl) ?_|refine cy h rfl (BS (yE) rfl rfl) ?_|refine cy h rfl (BS (ZH) rfl rfl) ?_|refine ac ?_|(refine Tr.cn rfl ?_ ?_<;>intro h q)|(refine Ch.cg rfl rfl rfl ?_ ?_<;>intro h q)
theorem XA{c:EF}(hc:c.fits):Aq prog 201 [agg (C9 c)] (int (if CE c then 0 else 9)):=by
 refine fo func201 rfl ⟨rfl,rfl⟩ fun M0 w0=>?_
 .repeat' first|(refine int_eq ?_;simp_all)|refine co rfl (BS (W_ Cs) rfl rfl) ?_|refine ac ?_|(refine Tr.cn rfl ?_ ?_<;>intro h q)
abbrev DG:List Pr:=[any,any,any,any,any,any,any,any,any,any,any,any]
abbrev Dc:List (List Pr):=[DG,DG,DG,DG,DG,DG,DG,DG,DG,DG,DG,DG,DG,DG,DG,DG]
theorem yF{q:List Pr}{o:Nat}(hk:k<16)(ho:o=k*12):(Dc.flatten++q)[o]? =some any:=by
 subst ho
 have h:Dc[k]? =some DG:=by
  have hk':k<Dc.length:=hk;rw[List.getElem?_eq_getElem hk'];have:∀r∈Dc,r=DG:=by intro r hr;simp at hr;exact hr
  rw[this _ (List.getElem_mem hk')]
 have hl:∀r∈Dc,r.length=12:=by intro r hr;simp at hr;rw[hr];rfl
 rw[List.getElem?_append_left (by rw[Cw hl];show k*12<16*12;omega)];exact Jc (j:=0) hl h AA
theorem XB(hk:k<16):Dc[k]? =some DG:=by
 have hk':k<Dc.length:=hk;rw[List.getElem?_eq_getElem hk'];have:∀r∈Dc,r=DG:=by intro r hr;simp at hr;exact hr
 rw[this _ (List.getElem_mem hk')]
theorem cw:∀r∈Dc,r.length=12:=by intro r hr;simp at hr;rw[hr];rfl
theorem fT(h:DG[i]? =some p):p=any:=by have:=List.mem_of_getElem? h;simp at this;exact this
theorem Da(h:ps.length=12):Pr.le (agg ps) (agg DG):=fun M w v ⟨cs,h1,h2,h3⟩=>⟨cs,h1,h2,HL.uz (by rw[h3.length,h];rfl) fun i p v hp _=>by rw[fT hp];trivial⟩
def l_(CI bits id:Int)(l:List EF):Bool:=match l with|[]=>true|c::_=>decide (c.OU=CI/\c.I8=bits)&&c.Bm==id
theorem Tg{bits id:Int}{l:List EF}(h:l.length=0):l_ CI bits id l=true:=by rw[List.eq_nil_of_length_eq_zero h];rfl
theorem NX{bits id:Int}{l:List EF}{c:EF}(h:l[0]? =some c):l_ CI bits id l=(decide (c.OU=CI/\c.I8=bits)&&c.Bm==id):=by
 cases l with
 |nil=>simp at h
 |cons a l=>simp at h;subst h;rfl
theorem DK(CI bits id:Int)(l:List EF):Rt CI bits id l=(IQ CI bits 2&&G3 id&&decide (l.length<=8)&&l.all CE&&l_ CI bits id l):=rfl
theorem Er{a b:Int}  :Aq prog 296 [int a,int b] (agg [int a,int b]):=by
 refine fo func296 rfl ⟨rfl,rfl⟩ fun M0 w0=>(Tr.seq (Tr.At ?_));refine Tl rfl rfl rfl rfl z75 Cd (fun b1=>?_);refine ap ?_;refine ap ?_;refine Tr.ret (Fin.B4 rfl (AL.cell 0 rfl rfl Be CR rfl Lr) ?_)
 .exact Lr
theorem mA   :Aq prog 247 [] (slice 12 Dc):=by
 refine fo func247 rfl ⟨rfl,rfl⟩ fun M0 w0=>?_;refine ac ?_;refine Tr.seq (Tr.At ?_)
 iterate 4 refine tp rfl (CG (Er) rfl rfl rfl) ?_
 refine tp rfl (Al (rows:=[]) rfl kD Cd trivial rfl) ?_;refine Tl rfl rfl rfl rfl z75 Cd (fun b1=>?_);refine Tl rfl rfl rfl rfl z75 Cd (fun b2=>?_);refine Tl rfl rfl rfl rfl z75 Cd (fun b3=>?_);refine Tl rfl rfl rfl rfl z75 Cd (fun b4=>?_);refine Tl rfl rfl rfl rfl z75 Cd (fun b5=>?_);refine sf 4 1 ⟨rfl,rfl,rfl⟩ rfl rfl rfl rfl ?_;refine sf 3 2 ⟨rfl,rfl,rfl⟩ rfl rfl rfl rfl ?_;refine sf 2 3 ⟨rfl,rfl,rfl⟩ rfl rfl rfl rfl ?_;refine sf 1 4 ⟨rfl,rfl,rfl⟩ rfl rfl rfl rfl ?_;refine sf 0 5 ⟨rfl,rfl,rfl⟩ rfl rfl rfl rfl ?_;refine TO.nil (Fin.go (wk [5,4,3,2,1] rfl (Tr.seq (Tr.At ?_))))
 iterate 5 refine tp rfl (CG (Er) rfl rfl rfl) ?_
 refine Tl rfl rfl rfl rfl z75 Cd (fun b6=>?_);refine Tl rfl rfl rfl rfl z75 Cd (fun b7=>?_);refine Tl rfl rfl rfl rfl z75 Cd (fun b8=>?_);refine Tl rfl rfl rfl rfl z75 Cd (fun b9=>?_);refine Tl rfl rfl rfl rfl z75 Cd (fun b10=>?_);refine sf 4 6 ⟨rfl,rfl,rfl⟩ rfl rfl rfl rfl ?_;refine sf 3 7 ⟨rfl,rfl,rfl⟩ rfl rfl rfl rfl ?_;refine sf 2 8 ⟨rfl,rfl,rfl⟩ rfl rfl rfl rfl ?_;refine sf 1 9 ⟨rfl,rfl,rfl⟩ rfl rfl rfl rfl ?_;refine sf 0 10 ⟨rfl,rfl,rfl⟩ rfl rfl rfl rfl ?_;refine TO.nil (Fin.go (wk [10,9,8,7,6,5,4,3,2,1] rfl (Tr.seq (Tr.At ?_))))
 iterate 4 refine tp rfl (CG (Er) rfl rfl rfl) ?_
 refine Tl rfl rfl rfl rfl z75 Cd (fun b11=>?_);refine Tl rfl rfl rfl rfl z75 Cd (fun b12=>?_);refine Tl rfl rfl rfl rfl z75 Cd (fun b13=>?_);refine Tl rfl rfl rfl rfl z75 Cd (fun b14=>?_);refine sf 3 11 ⟨rfl,rfl,rfl⟩ rfl rfl rfl rfl ?_;refine sf 2 12 ⟨rfl,rfl,rfl⟩ rfl rfl rfl rfl ?_;refine sf 1 13 ⟨rfl,rfl,rfl⟩ rfl rfl rfl rfl ?_;refine sf 0 14 ⟨rfl,rfl,rfl⟩ rfl rfl rfl rfl ?_;refine TO.nil (Fin.go (wk [14,13,12,11,10,9,8,7,6,5,4,3,2,1] rfl (Tr.seq (Tr.pad (Tr.rx (xo rfl (fun _=>AO rfl Be CR vq rfl rfl) (xo rfl (fun _=>AO rfl Be CR vq rfl rfl) (xo rfl (fun _=>CG (Er) rfl rfl rfl) (xo rfl (fun _=>AO rfl Be CR vq rfl rfl) (xo rfl (fun _=>oD) (xo rfl (fun _=>AO rfl Be CR vq rfl rfl) (xo rfl (fun _=>AO rfl Be CR vq rfl rfl) (xo rfl (fun _=>CG (Er) rfl rfl rfl) ?_)))))))))))));refine xo rfl (fun _=>AO rfl Be CR vq rfl rfl) (xo rfl (fun _=>oD) ?_)
 iterate 4 refine xo rfl (fun _=>AO rfl Be CR vq rfl rfl) ?_
 refine xo rfl (fun _=>oD) (xo rfl (fun _=>CG (Er) rfl rfl rfl) (xo rfl (fun _=>AO rfl Be CR vq rfl rfl) (xo rfl (fun _=>AO rfl Be CR vq rfl rfl) (xo rfl (fun _=>AO rfl Be CR vq rfl rfl) (xo rfl (fun _=>oD) (xo rfl (fun _=>CG (Er) rfl rfl rfl) (xo rfl (fun _=>AO rfl Be CR vq rfl rfl) (xo rfl (fun _=>AO rfl Be CR vq rfl rfl) (xo rfl (fun _=>AO rfl Be CR vq rfl rfl) (xo rfl (fun _=>oD) ?_))))))))))
 iterate 4 refine xo rfl (fun _=>AO rfl Be CR vq rfl rfl) ?_
 refine xo rfl (fun _=>oD) (xo rfl (fun _=>CG (Er) rfl rfl rfl) (xo rfl (fun _=>AO rfl Be CR vq rfl rfl) (xo rfl (fun _=>AO rfl Be CR vq rfl rfl) (xo rfl (fun _=>AO rfl Be CR vq rfl rfl) (xo rfl (fun _=>oD) ?_)))))
 iterate 4 refine xo rfl (fun _=>AO rfl Be CR vq rfl rfl) ?_
 refine xo rfl (fun _=>oD) (xo rfl (fun _=>AO rfl Be CR vq rfl rfl) (xo rfl (fun _=>AO rfl Be CR vq rfl rfl) (xo rfl (fun _=>CG (Er) rfl rfl rfl) (xo rfl (fun _=>CG (Er) rfl rfl rfl) (xo rfl (fun _=>oD) ?_)))))
 iterate 4 refine xo rfl (fun _=>AO rfl Be CR vq rfl rfl) ?_
 refine xo rfl (fun _=>oD) (xo rfl (fun _=>CG (Er) rfl rfl rfl) (xo rfl (fun _=>AO rfl Be CR vq rfl rfl) (xo rfl (fun _=>AO rfl Be CR vq rfl rfl) (xo rfl (fun _=>AO rfl Be CR vq rfl rfl) (xo rfl (fun _=>oD) ?_)))))
 iterate 4 refine xo rfl (fun _=>AO rfl Be CR vq rfl rfl) ?_
 refine xo rfl (fun _=>oD) ?_
 iterate 4 refine xo rfl (fun _=>AO rfl Be CR vq rfl rfl) ?_
 refine xo rfl (fun _=>oD) ?_
 iterate 4 refine xo rfl (fun _=>AO rfl Be CR vq rfl rfl) ?_
 refine xo rfl (fun _=>oD) ?_
 iterate 4 refine xo rfl (fun _=>AO rfl Be CR vq rfl rfl) ?_
 refine xo rfl (fun _=>oD) (xo rfl (fun _=>CG (Er) rfl rfl rfl) (xo rfl (fun _=>AO rfl Be CR vq rfl rfl) (xo rfl (fun _=>AO rfl Be CR vq rfl rfl) (xo rfl (fun _=>AO rfl Be CR vq rfl rfl) (xo rfl (fun _=>oD) (Cx.ef 0 rfl rfl AB (TW (xs:=[.tmp 35,.tmp 40,.tmp 45,.tmp 50,.tmp 55,.tmp 60,.tmp 65,.tmp 70,.tmp 75,.tmp 80,.tmp 85,.tmp 90,.tmp 95,.tmp 100,.tmp 105,.tmp 110]) (rows:=Dc) rfl rfl AB rfl rfl underlying320 Dp LW rfl AB ⟨⟨Ab,VL.le vq (Pr.le_trans (Da rfl) (AJ _))⟩,⟨⟨Ab,VL.le vq (Pr.le_trans (Da rfl) (AJ _))⟩,⟨⟨Ab,VL.le vq (Pr.le_trans (Da rfl) (AJ _))⟩,⟨⟨Ab,VL.le vq (Pr.le_trans (Da rfl) (AJ _))⟩,⟨⟨Ab,VL.le vq (Pr.le_trans (Da rfl) (AJ _))⟩,⟨⟨Ab,VL.le vq (Pr.le_trans (Da rfl) (AJ _))⟩,⟨⟨Ab,VL.le vq (Pr.le_trans (Da rfl) (AJ _))⟩,⟨⟨Ab,VL.le vq (Pr.le_trans (Da rfl) (AJ _))⟩,⟨⟨Ab,VL.le vq (Pr.le_trans (Da rfl) (AJ _))⟩,⟨⟨Ab,VL.le vq (Pr.le_trans (Da rfl) (AJ _))⟩,⟨⟨Ab,VL.le vq (Pr.le_trans (Da rfl) (AJ _))⟩,⟨⟨Ab,VL.le vq (Pr.le_trans (Da rfl) (AJ _))⟩,⟨⟨Ab,VL.le vq (Pr.le_trans (Da rfl) (AJ _))⟩,⟨⟨Ab,VL.le vq (Pr.le_trans (Da rfl) (AJ _))⟩,⟨⟨Ab,VL.le vq (Pr.le_trans (Da rfl) (AJ _))⟩,⟨⟨Ab,VL.le vq (Pr.le_trans (Da rfl) (AJ _))⟩,trivial⟩⟩⟩⟩⟩⟩⟩⟩⟩⟩⟩⟩⟩⟩⟩⟩ AB AB) ?_))))));refine Cx.ef 0 rfl rfl AB (ND rfl rfl AB rfl vq) ?_;refine Cx.nil ⟨by kernel_rfl,?_⟩;refine BG.open_ 0 15 rfl rfl (fun v1=>?_);refine BG.done al1 (Fin.go (wk [15] rfl (Tr.seq (Tr.seq (Tr.NL 0 rfl fun b15 ADF ADG yG yH yI yJ=>?_)))));subst yG;refine ac ?_;refine co rfl (ET rfl underlying320 E4) ?_;refine ac ?_;refine Tr.block (Tr.BV _ (kk [113,15] rfl) (fun k:Nat=>[(114,int ((k:Nat):Int))]) (fun k:Nat=>k<=(Dc.length)) (fun k:Nat=>(Dc.length)-k) 0 (Nat.zero_le _) kz ?_);rintro k BN;refine ac ?_;refine Tr.seq ?_;refine Tr.cn rfl ?_ ?_<;>intro h1 q1
 have Ae:k<(Dc.length):=AQ h1;have yK:k<16:=Ae;refine a2 ?_;refine Tr.At (tm rfl (tm rfl (tm rfl ?_)));refine tp rfl (Hf rfl vq vq ?hin) ?_;case hin=>unfold Sb;omega
 refine tp rfl (CX rfl underlying320 Dp E4 vq AA AA) (tp rfl (AG rfl cC vq) ?_);refine TO.ED 0 rfl rfl (BP rfl rfl vq (VL.le vq (rN _)) C4 rfl (by rw[List.length_append,Cw cw];show _<=16*12+_;omega) (rO (yF yK AA))) ?_;refine TO.nil ?_;refine a2 ?_;exact Fin.AP (k+1) ⟨Ae,by omega⟩ ⟨⟨_,rfl,AK k⟩,kz⟩;have BA:k=(Dc.length):=by have:=AU h1;omega
 subst BA;refine ac ?_;refine Tr.seq ?_;refine Tr.Sm (sz:=12) Dc 0 15 rfl rfl (Cy _ _) cw yH yI (by rw[List.length_map];exact yJ) ?_;refine a2 ?_
 .exact HM
theorem r8{code:Int}  :Aq prog 198 [int code] (EB [agg DG,int (if 1<=code/\code<=16 then 0 else 8)]):=by
 refine fo func198 rfl ⟨rfl,rfl⟩ fun M0 w0=>?_;have hL:Dc.length=16:=rfl;refine Tr.seq (Tr.At ?_);refine Tl rfl rfl rfl rfl LW GU (fun b1=>?_);refine ap ?_;refine Tr.seq (Tr.Bo (co rfl (Ta (mA) rfl) ?_));refine ac ?_;refine ag ?_ ?_<;>intro h1 q1
 refine ac ?_;refine Tr.cond rfl (fun _=>?_) (fun h=>nomatch h);refine Tr.seq (Tr.At (tp rfl (Al (rows:=[]) rfl TK GU trivial rfl) (TO.Ac 0 rfl rfl rfl vq CM rfl Dp rfl rfl (tm rfl (TO.nil (Fin.go (wk [3,2] rfl (Tr.ret (Fin.AF (Fin.Bf rfl (AL.cell 0 rfl rfl Fi Dp rfl Lr) (AL.tmp rfl Lr) ?_))))))))))
 .exact bI
 refine ac ?_;refine cy h1 rfl (BJ rfl underlying320 vq) ?_;refine an ?_ ?_<;>intro h2 q2
 refine ap ?_;refine wk [3,2] rfl (Tr.ret (Fin.AF (Fin.Bf rfl (AL.cell 0 rfl rfl Fi Dp rfl Lr) (AL.tmp rfl Lr) ?_)))
 .exact bM
 have hin:1<=code/\code<=16:=by omega
 refine ac ?_;refine ap ?_;refine tp rfl (AD rfl underlying320 Dp vq vq AA (XB AA)) ?_;refine ap ?_;refine wk [3,2] rfl (Tr.ret (Fin.Bf rfl (AL.cell 0 rfl rfl Fi Dp rfl Lr) (AL.tmp rfl Lr) ?_))
 .exact BU ⟨Lr,int_eq (by rw[if_pos hin]),trivial⟩
theorem r9{bits id:Int}{l:List EF}(hf:∀c∈l,c.fits):Aq prog 142 [agg [int CI,int bits],int id,G6 l] (bool (Rt CI bits id l)):=by
 refine fo func142 rfl ⟨rfl,rfl⟩ fun M0 w0=>(Tr.Dr 2 rfl fun mB=>?_);refine a2 ?_;refine co rfl (BS (VP) rfl rfl) ?_;refine ag ?_ ?_<;>intro h1 q1
 refine ac ?_;refine wk [27,3,2,1] rfl ?_;refine a2 ?_
 .refine bool_eq ?_;rw[DK];unfold IQ;simp_all;omega
 refine ac ?_;refine cy h1 rfl (BS (Y7) rfl rfl) ?_;refine ag ?_ ?_<;>intro h2 q2
 refine ac ?_;refine wk [27,3,2,1] rfl ?_;refine a2 ?_
 .refine bool_eq ?_;rw[DK];unfold IQ;simp_all
 refine JW h2 rfl (cy h2 rfl (BS (ZH) rfl rfl) ?_);refine ag ?_ ?_<;>intro h3 q3
 refine ac ?_;refine wk [27,3,2,1] rfl ?_;refine a2 ?_
 .refine bool_eq ?_;rw[DK];unfold IQ;simp_all
 refine ac ?_;refine wk [27,3,2,1] rfl ?_;refine Tr.cn rfl ?_ ?_<;>intro h4 q4
 refine a2 ?_
 .refine bool_eq ?_;rw[DK];unfold IQ;simp_all;omega
 refine a2 ?_;refine Tr.block (Tr.BV _ (kk [29,28,3,2,1] rfl) (fun k:Nat=>[(30,int ((k:Nat):Int))]) (fun k:Nat=>k<=(l).length/\(∀j y,j<k->l[j]? =some y->(!CE y)=false)) (fun k:Nat=>(l).length-k) 0 (⟨Nat.zero_le _,fun j y hj=>absurd hj AA⟩) kz ?_);rintro k ⟨BN,AW⟩;refine ac ?_;refine Tr.seq ?_;refine Tr.cn rfl ?_ ?_<;>intro h5 q5
 have Ae:k<(l).length:=AQ h5;obtain⟨c,Ad⟩:=at_ Ae;have hcf:=hf c (List.mem_of_getElem? Ad);refine ac ?_;refine Tr.seq (Tr.block (Tr.seq (Tr.At (tp rfl (AD rfl underlying76 DD vq vq AA DZ) ?_))));refine tp rfl (AO rfl Ja DD vq rfl rfl) ?_;refine Tl rfl rfl rfl rfl Sl NJ (fun b1=>?_);refine sf 0 8 ⟨rfl,rfl,rfl⟩ rfl rfl rfl rfl ?_;refine ao ?_
 .repeat' first|(refine bool_eq ?_;rw[DK];unfold IQ;rw[Jd (p:=CE) Ad CU];simp)|exact Fin.AP (k+1) ⟨⟨Ae,C3 (p:=fun c=> !CE c) Ad CU AW⟩,by omega⟩ ⟨⟨_,rfl,AK k⟩,kz⟩|refine co rfl (BS (XA hcf) rfl rfl) ?_|refine ac ?_|(refine Tr.cn rfl ?_ ?_<;>intro h q)
 have BA:k=(l).length:=by have:=AU h5;omega
 subst BA;have hall:=GK AW;refine ac ?_;refine ag ?_ ?_<;>intro h7 q7
 refine ac ?_;refine wk [6] rfl ?_;refine ac ?_
 .refine bool_eq ?_;rw[DK];unfold IQ;rw[hall,Tg CU];simp_all
 obtain⟨c0,hc0⟩:=at_ (l:=l) (k:=0) (by have:=h7;simp at this;exact List.length_pos_iff.2 this);refine JW h7 rfl ?_;refine cy h7 rfl (AD rfl underlying76 DD vq vq AA (Ap (k:=0) hc0)) ?_;refine ac ?_;refine cy h7 rfl (VM rfl vq vq) (JW h7 rfl ?_);refine Ch.cs 48 rfl ?_ ?_<;>intro h8 q8
 refine JW h8 rfl ?_;refine cy h8 rfl (AD rfl underlying76 DD vq vq AA (Ap (k:=0) hc0)) ?_;refine ac ?_;refine wk [6] rfl ?_;refine ac ?_
 .refine bool_eq ?_;rw[DK];unfold IQ;rw[hall,NX hc0];clear hall AW hf hc0;simp_all;omega
 refine ac ?_;refine wk [6] rfl ?_;refine ac ?_
 .refine bool_eq ?_;rw[DK];unfold IQ;rw[hall,NX hc0];clear hall AW hf hc0;simp_all
theorem Th:Aq prog 141 [ints l] (bool (VQ l)):=by
 refine fo func141 rfl ⟨rfl,rfl⟩ fun M0 w0=>(Tr.Dr 0 rfl fun Dq=>?_);refine a2 ?_;refine Tr.block (Tr.BV _ (kk [5,0] rfl) (fun k:Nat=>[(6,int ((k:Nat):Int))]) (fun k:Nat=>k<=(l).length/\(∀j,j<k->GV l j=true)) (fun k:Nat=>(l).length-k) 0 (⟨Nat.zero_le _,fun j hj=>absurd hj AA⟩) kz ?_);rintro k ⟨BN,AW⟩;refine ac ?_;refine Tr.seq ?_;refine Tr.cn rfl ?_ ?_<;>intro h1 q1
 have Ae:k<(l).length:=AQ h1;obtain⟨x,Ad⟩:=at_ Ae;have hg:=getD_at (d:=(0:Int)) Ad;refine a2 ?_;refine ag ?_ ?_<;>intro h2 q2
 have hk0:0<k:=by simpa using h2
 obtain⟨y,hy⟩:=at_ (l:=l) (k:=k-1) AA;have Le:=getD_at (d:=(0:Int)) hy
 .repeat' first|(refine bool_eq ?_;unfold VQ;exact(EW (p:=GV l) (k:=k) AA (by unfold GV;rw[hg,Le];simp_all;omega)).symm)|(exact Fin.AP (k+1) ⟨⟨Ae,Bx AW (by unfold GV;rw[hg,Le];simp_all)⟩,by omega⟩ ⟨⟨_,rfl,AK k⟩,kz⟩)|(refine cy h2 rfl (AD rfl underlying22 C4 vq vq AA F2) ?_)|refine cy h2 rfl (AD rfl underlying22 C4 vq vq AA (Ap Ad)) ?_|refine ac ?_|(refine Tr.cn rfl ?_ ?_<;>intro h q)
 refine ac ?_;refine wk [22,6,5,0] rfl ?_;refine a2 ?_;exact Fin.AP (k+1) ⟨⟨Ae,Bx AW (by unfold GV;rw[hg];simp_all)⟩,by omega⟩ ⟨⟨_,rfl,AK k⟩,kz⟩;have BA:k=(l).length:=by have:=AU h1;omega
 subst BA;refine a3 ?_
 .refine bool_eq ?_;unfold VQ;exact(KQ AW).symm
theorem yL{n:Int}  :Aq prog 145 [int n] (bool (KY n)):=by
 refine fo func145 rfl ⟨rfl,rfl⟩ fun M0 w0=>?_;refine a2 ?_;refine co rfl (BS (Y7) rfl rfl) ?_;refine a2 ?_
 .exact Lr
theorem e_hash:Entry Tryz.prog 145:=⟨_,Tryz.func145,rfl,rfl⟩
theorem mC:Aq prog 140 [ints l] (bool (Gy l)):=by
 refine fo func140 rfl ⟨rfl,rfl⟩ fun M0 w0=>(Tr.Dr 0 rfl fun Dq=>?_);refine a2 ?_;refine Tr.block (Tr.BV _ (kk [8,7,0] rfl) (fun k:Nat=>[(9,int ((k:Nat):Int))]) (fun k:Nat=>k<=(l).length/\(∀j,j<k->Em l j=true)) (fun k:Nat=>(l).length-k) 0 (⟨Nat.zero_le _,fun j hj=>absurd hj AA⟩) kz ?_);rintro k ⟨BN,AW⟩;refine ac ?_;refine Tr.seq ?_;refine Tr.cn rfl ?_ ?_<;>intro h1 q1
 have Ae:k<(l).length:=AQ h1;obtain⟨x,Ad⟩:=at_ Ae;have hg:=getD_at (d:=(0:Int)) Ad;refine a2 ?_;refine co rfl (AD rfl underlying22 C4 vq vq AA DZ) ?_;refine ac ?_;refine ao ?_;refine tp rfl (BS (r8) rfl rfl) ?_;refine ao ?_;refine Tl rfl rfl rfl rfl LW GU (fun b1=>?_);refine sf 0 5 ⟨rfl,rfl,rfl⟩ rfl rfl rfl rfl ?_;refine ao ?_;refine wk [9,8,7,6,4,3,0] rfl ?_;refine ag ?_ ?_<;>intro h2 q2
 have yM:¬(1<=x/\x<=16):=by intro hh;rw[if_pos hh]at h2;exact absurd h2 AB
 refine ac ?_;refine wk [27,9,8,7,0] rfl ?_;refine a2 ?_
 .refine bool_eq ?_;unfold Gy;exact(EW (p:=Em l) (k:=k) AA (by unfold Em;rw[hg];rw[decide_eq_false yM];rfl)).symm
 have hin:1<=x/\x<=16:=by refine Decidable.byContradiction fun hh=>?_;rw[if_neg hh]at h2;exact absurd h2 AB
 refine ac ?_;refine cy h2 rfl (E2 rfl underlying22 C4 vq vq AA Ci) ?_;refine JW h2 rfl ?_
 .repeat' first|(refine bool_eq ?_;unfold Gy;exact(EW (p:=Em l) (k:=k) AA Ua).symm)|(exact Fin.AP (k+1) ⟨⟨Ae,Bx AW Ua⟩,by omega⟩ ⟨⟨_,rfl,AK k⟩,kz⟩)|refine cy h2 rfl (Aa rfl (E5 (l:=l.take k) (v:=x)) ⟨⟨_,rfl,Pr.le_of_eq (by rw[←List.map_take,Int.toNat_natCast])⟩,kz⟩) ?_|refine ac ?_|(refine Tr.cn rfl ?_ ?_<;>intro h q)
 have BA:k=(l).length:=by have:=AU h1;omega
 subst BA;refine a3 ?_
 .refine bool_eq ?_;unfold Gy;exact(KQ AW).symm
theorem yN{p:Int->Bool}{n:Int}  :Aq prog 144 [int n,ref [S7 prog (fun x:Int=>[int x]) (fun x=>bool (p x))]] (bool (!p n)):=by
 refine fo func144 rfl ⟨rfl,rfl⟩ fun M0 w0=>?_;refine a2 ?_;refine co rfl (GC n rfl vq kz) ?_;refine a2 ?_
 .exact Lr
theorem yO:Entry Tryz.prog 144:=⟨_,Tryz.func144,rfl,rfl⟩
theorem ADH{p:Int->Bool}  :Aq prog 143 [S7 prog (fun x:Int=>[int x]) (fun x=>bool (p x))] (S7 prog (fun x:Int=>[int x]) (fun x=>bool (!p x))):=by
 refine fo func143 rfl ⟨rfl,rfl⟩ fun M0 w0=>?_;refine a3 ?_
 .exact DM yO (fun x=>yN (p:=p) (n:=x))
theorem ADI:Entry Tryz.prog 143:=⟨_,Tryz.func143,rfl,rfl⟩
theorem Dj(hf:e.fits):Aq prog 72 [agg (As e)] (int (if B5 e then 0 else 19)):=by
 refine fo func72 rfl ⟨rfl,rfl⟩ fun M0 w0=>?_;refine a2 ?_;refine co rfl (BS (yC hf.name) rfl rfl) ?_;refine ag ?_ ?_<;>intro h1 q1
 refine ac ?_;refine wk [32,1] rfl ?_;refine a2 ?_
 .exact P5
 refine ag ?_ ?_<;>intro h2 q2
 refine ac ?_;refine wk [32,1] rfl ?_;refine a2 ?_
 .exact Mt
 refine ag ?_ ?_<;>intro h3 q3
 refine ac ?_;refine wk [32,1] rfl ?_;refine a2 ?_
 .exact Mt
 refine ag ?_ ?_<;>intro h4 q4
 refine ac ?_;refine wk [32,1] rfl ?_;refine a2 ?_
 .exact Mt
 refine ac ?_;refine cy h4 rfl (BS (mC) rfl rfl) ?_;refine ac ?_;refine wk [32,1] rfl ?_;refine Tr.cn rfl ?_ ?_<;>intro h5 q5
 refine a2 ?_
 .exact P5
 refine ac ?_;refine ag ?_ ?_<;>intro h6 q6
 refine ac ?_;refine wk [54,1] rfl ?_;refine a2 ?_
 .exact Mt
 refine ag ?_ ?_<;>intro h7 q7
 refine ac ?_;refine wk [54,1] rfl ?_;refine a2 ?_
 .exact Mt
 refine ac ?_;refine cy h7 rfl (BS (Th) rfl rfl) ?_;refine ag ?_ ?_<;>intro h8 q8
 refine ac ?_;refine wk [54,1] rfl ?_;refine a2 ?_
 .exact P5
 refine ac ?_;refine cy h8 rfl (BS (Th) rfl rfl) ?_;refine ac ?_;refine wk [54,1] rfl ?_;refine Tr.cn rfl ?_ ?_<;>intro h9 q9
 refine a2 ?_
 .exact P5
 refine a2 ?_;refine Tr.block (Tr.BV _ (kk [57,56,1] rfl) (fun k:Nat=>[(58,int ((k:Nat):Int))]) (fun k:Nat=>k<=(e.ids).length/\(∀j y,j<k->e.ids[j]? =some y->(!fS y)=false)) (fun k:Nat=>(e.ids).length-k) 0 (⟨Nat.zero_le _,fun j y hj=>absurd hj AA⟩) kz ?_);rintro k ⟨BN,AW⟩;refine ac ?_;refine Tr.seq ?_;refine Tr.cn rfl ?_ ?_<;>intro h10 NT
 have Ae:k<(e.ids).length:=AQ h10;obtain⟨x,Ad⟩:=at_ Ae;have hxf:=hf.ids x (List.mem_of_getElem? Ad);refine ac ?_;refine Tr.seq (Tr.block (Tr.seq (Tr.At (tp rfl (AD rfl underlying71 B8 vq vq AA DZ) ?_))));refine tp rfl (AO rfl G5 B8 vq rfl rfl) ?_;refine Tl rfl rfl rfl rfl NH MD (fun b1=>?_);refine sf 0 4 ⟨rfl,rfl,rfl⟩ rfl rfl rfl rfl ?_;refine ao ?_
 .repeat' first|(refine int_eq ?_;unfold B5;rw[Jd (p:=fS) Ad (by unfold fS;simp_all)];simp)|(exact Fin.AP (k+1) ⟨⟨Ae,C3 (p:=fun c=> !fS c) Ad (by unfold fS;simp_all) AW⟩,by omega⟩ ⟨⟨_,rfl,AK k⟩,kz⟩)|refine co rfl (Wz (r9 hxf) rfl rfl rfl rfl) ?_|refine ac ?_|(refine Tr.cn rfl ?_ ?_<;>intro h q)
 have BA:k=(e.ids).length:=by have:=AU h10;omega
 subst BA;have hall:=GK AW;refine a2 ?_;refine Tr.seq (Tr.seq (Tr.re 5 rfl (DM (dom:=fun p:Int->Bool=>[S7 prog (fun x:Int=>[int x]) (fun x=>bool (p x))]) (res:=fun p=>S7 prog (fun x:Int=>[int x]) (fun x=>bool (!p x))) ADI (fun p=>ADH (p:=p))) ?_));refine ac ?_;refine co rfl (GC G3 rfl (vl rfl) ⟨⟨_,rfl,DM (dom:=fun n:Int=>[int n]) (res:=fun n=>bool (G3 n)) yD (fun n=>ZH (n:=n))⟩,trivial⟩) ?_;refine co rfl (CG (Jw (l:=e.anchors) (p:=fun n=> !G3 n)) rfl rfl rfl) ?_;refine cm rfl ?_
 .repeat' first|(refine int_eq ?_;unfold B5;rw[if_neg];intro hh;simp only[Bool.and_eq_true]at hh;have g1:=hh.1.2;have g2:=hh.2;clear hh AW hf hall;simp only[cv,g1,g2,Bool.not_true,Bool.false_eq_true]at*)|(refine int_eq ?_;unfold B5;simp_all;omega)|refine cy h rfl (GC KY rfl (vl rfl) ⟨⟨_,rfl,DM (dom:=fun n:Int=>[int n]) (res:=fun n=>bool (KY n)) e_hash (fun n=>yL (n:=n))⟩,trivial⟩) ?_|refine cy h rfl (CG (Jw (l:=e.hashes) (p:=fun n=> !KY n)) rfl rfl rfl) ?_|refine ac ?_|(refine Tr.cn rfl ?_ ?_<;>intro h q)|(refine Ch.cg rfl rfl rfl ?_ ?_<;>intro h q)
theorem NY{β γ:Type}{f:β->γ}{l:List β}(h:l≠[]):0<(l.map f).length:=by rw[List.length_map];exact List.length_pos_iff.2 h
theorem Ti{l:List (Int)}(h0:l≠[])(hl:l.length<=1000000):BM prog 178 [slice 1 (l.map (fun n:Int=>[int n]))] (lens (l.map (fun n:Int=>[int n])).length) (Bb) (fun v=>DQ 3 1 (l.map (fun n:Int=>[int n])) v):=by
 refine BM.of func178 rfl rfl Ag fun M0 w0 S rs M1 w1=>?_;have hpos:=NY (f:=(fun n:Int=>[int n])) h0;refine a2 ?_;refine co rfl (Ex rfl underlying22 vq) ?_;refine ac ?_;refine Tr.ex 4 rfl (fun z1=>Tr.fact 4 rfl fun JG=>?_);refine Tr.cn rfl ?_ ?_<;>intro h1 q1
 exfalso;have:=JG h1;simp_all;refine ac ?_;refine ap ?_;refine TO.pad ?_;refine TO.EV 0 rfl rfl AB (Gf rfl rfl AB rfl underlying22 C4 RO z3 rfl AB AB vq vq hpos Pw Cg) (fun v1=>?_);refine ap ?_;refine Tr.ret (Fin.drop 1 ?_);refine Fin.Ey rfl rfl ?_ K1
 .exact HM
theorem Tj   :Aq prog 178 [slice 1 []] (full 1 []):=by
 refine fo func178 rfl ⟨rfl,rfl⟩ fun M0 w0=>?_;refine a2 ?_;refine co rfl (Ex rfl underlying22 vq) ?_;refine ac ?_;refine Tr.ex 4 rfl (fun z1=>Tr.fact 4 rfl fun JG=>?_)
 .exact jX
theorem Dy{l:List (Int)}(hl:l.length<=1000000):Aq Tryz.prog 178 [slice 1 (l.map (fun n:Int=>[int n]))] (slice 1 (l.map (fun n:Int=>[int n]))):=by
 by_cases h0:l=[]
 .subst h0;exact Aq.le Tj (fun _ _ _ h=>h) (A_ _ _)
 .exact(BM.ACB (rows:=(l.map (fun n:Int=>[int n]))) (Ar fun _=>rfl) (Ti h0 hl)).pure
theorem OW{l:List (Int)}(hl:l.length<=1000000):BM Tryz.prog 178 [slice 1 (l.map (fun n:Int=>[int n]))] (lens l.length) Bb (fun v=>An 3 1 (l.map (fun n:Int=>[int n])) v):=by
 by_cases h0:l=[]
 .subst h0;exact BM.Rd Tj
 .
  have:=BM.MN Ug (Ti h0 hl)
  rwa [List.length_map]at this
theorem fU{l:List (E9)}(h0:l≠[])(hl:l.length<=1000000):BM prog 221 [slice 4 (l.map BT)] (lens (l.map BT).length) (Bb) (fun v=>DQ 78 4 (l.map BT) v):=by
 refine BM.of func221 rfl rfl Ag fun M0 w0 S rs M1 w1=>?_;have hpos:=NY (f:=BT) h0;refine a2 ?_;refine co rfl (Ex rfl underlying71 vq) ?_;refine ac ?_;refine Tr.ex 4 rfl (fun z1=>Tr.fact 4 rfl fun JG=>?_);refine Tr.cn rfl ?_ ?_<;>intro h1 q1
 exfalso;have:=JG h1;simp_all;refine ac ?_;refine ap ?_;refine TO.pad ?_;refine TO.EV 0 rfl rfl AB (Gf rfl rfl AB rfl underlying71 B8 Sk NH rfl AB AB vq vq hpos Pw Cg) (fun v1=>?_);refine ap ?_;refine Tr.ret (Fin.drop 1 ?_);refine Fin.Ey rfl rfl ?_ K1
 .exact HM
theorem fV   :Aq prog 221 [slice 4 []] (full 4 []):=by
 refine fo func221 rfl ⟨rfl,rfl⟩ fun M0 w0=>?_;refine a2 ?_;refine co rfl (Ex rfl underlying71 vq) ?_;refine ac ?_;refine Tr.ex 4 rfl (fun z1=>Tr.fact 4 rfl fun JG=>?_)
 .repeat' first|exact FK 4|exact Lr|refine co rfl (KE rfl underlying71 B8 vq vq) ?_|refine ac ?_|(refine Tr.cn rfl ?_ ?_<;>intro h q)
theorem I9{l:List (E9)}(hl:l.length<=1000000):BM Tryz.prog 221 [slice 4 (l.map BT)] (lens l.length) Bb (fun v=>An 78 4 (l.map BT) v):=by
 by_cases h0:l=[]
 .subst h0;exact BM.Rd fV
 .
  have:=BM.MN Ug (fU h0 hl)
  rwa [List.length_map]at this
theorem fW{l:List (EF)}(h0:l≠[])(hl:l.length<=925904528640):BM prog 260 [slice 15 (l.map C9)] (lens (l.map C9).length) (Bb) (fun v=>DQ 122 15 (l.map C9) v):=by
 refine BM.of func260 rfl rfl Ag fun M0 w0 S rs M1 w1=>?_;have hpos:=NY (f:=C9) h0;refine a2 ?_;refine co rfl (Ex rfl underlying76 vq) ?_;refine ac ?_;refine Tr.ex 4 rfl (fun z1=>Tr.fact 4 rfl fun JG=>?_);refine Tr.cn rfl ?_ ?_<;>intro h1 q1
 exfalso;have:=JG h1;simp_all;refine ac ?_;refine ap ?_;refine TO.pad ?_;refine TO.EV 0 rfl rfl AB (Gf rfl rfl AB rfl underlying76 DD u_ Sl rfl AB AB vq vq hpos Pw Cg) (fun v1=>?_);refine ap ?_;refine Tr.ret (Fin.drop 1 ?_);refine Fin.Ey rfl rfl ?_ K1
 .exact HM
theorem fX   :Aq prog 260 [slice 15 []] (full 15 []):=by
 refine fo func260 rfl ⟨rfl,rfl⟩ fun M0 w0=>?_;refine a2 ?_;refine co rfl (Ex rfl underlying76 vq) ?_;refine ac ?_;refine Tr.ex 4 rfl (fun z1=>Tr.fact 4 rfl fun JG=>?_)
 .repeat' first|exact FK 15|exact Lr|refine co rfl (KE rfl underlying76 DD vq vq) ?_|refine ac ?_|(refine Tr.cn rfl ?_ ?_<;>intro h q)
theorem fY{l:List (EF)}(hl:l.length<=925904528640):BM Tryz.prog 260 [slice 15 (l.map C9)] (lens l.length) Bb (fun v=>An 122 15 (l.map C9) v):=by
 by_cases h0:l=[]
 .subst h0;exact BM.Rd fX
 .
  have:=BM.MN Ug (fW h0 hl)
  rwa [List.length_map]at this
theorem fZ{l:List (List UInt8)}(h0:l≠[])(hl:l.length<=8796093022208):BM prog 261 [slice 1 (l.map (fun t:List UInt8=>[str t]))] (lens (l.map (fun t:List UInt8=>[str t])).length) (Bb) (fun v=>DQ 9 1 (l.map (fun t:List UInt8=>[str t])) v):=by
 refine BM.of func261 rfl rfl Ag fun M0 w0 S rs M1 w1=>?_;have hpos:=NY (f:=(fun t:List UInt8=>[str t])) h0;refine a2 ?_;refine co rfl (Ex rfl underlying67 vq) ?_;refine ac ?_;refine Tr.ex 4 rfl (fun z1=>Tr.fact 4 rfl fun JG=>?_);refine Tr.cn rfl ?_ ?_<;>intro h1 q1
 exfalso;have:=JG h1;simp_all;refine ac ?_;refine ap ?_;refine TO.pad ?_;refine TO.EV 0 rfl rfl AB (Gf rfl rfl AB rfl underlying67 Lj by9 z9 rfl AB AB vq vq hpos Pw Cg) (fun v1=>?_);refine ap ?_;refine Tr.ret (Fin.drop 1 ?_);refine Fin.Ey rfl rfl ?_ K1
 .exact HM
theorem fc   :Aq prog 261 [slice 1 []] (full 1 []):=by
 refine fo func261 rfl ⟨rfl,rfl⟩ fun M0 w0=>?_;refine a2 ?_;refine co rfl (Ex rfl underlying67 vq) ?_;refine ac ?_;refine Tr.ex 4 rfl (fun z1=>Tr.fact 4 rfl fun JG=>?_)
 .repeat' first|exact FK 1|exact Lr|refine co rfl (KE rfl underlying67 Lj vq vq) ?_|refine ac ?_|(refine Tr.cn rfl ?_ ?_<;>intro h q)
theorem ff{l:List (List UInt8)}(hl:l.length<=8796093022208):Aq Tryz.prog 261 [slice 1 (l.map (fun t:List UInt8=>[str t]))] (slice 1 (l.map (fun t:List UInt8=>[str t]))):=by
 by_cases h0:l=[]
 .subst h0;exact Aq.le fc (fun _ _ _ h=>h) (A_ _ _)
 .exact(BM.ACB (rows:=(l.map (fun t:List UInt8=>[str t]))) (Ar fun _=>rfl) (fZ h0 hl)).pure
theorem ZI{l:List E9}{p:E9->Bool}  :Aq prog 324 [G7 l,S7 prog (fun x:E9=>[agg (BT x)]) (fun x=>bool (p x))] (int (idx p l)):=by
 refine fo func324 rfl ⟨rfl,rfl⟩ fun M0 w0=>(Tr.Dr 0 rfl fun Dq=>?_);refine a2 ?_;refine Tr.block (Tr.BV _ (kk [7,1,0] rfl) (fun k:Nat=>[(8,int ((k:Nat):Int))]) (fun k:Nat=>k<=(l).length/\(∀j y,j<k->l[j]? =some y->p y=false)) (fun k:Nat=>(l).length-k) 0 (⟨Nat.zero_le _,fun j y hj=>absurd hj AA⟩) kz ?_);rintro k ⟨BN,AW⟩;refine ac ?_;refine Tr.seq ?_;refine Tr.cn rfl ?_ ?_<;>intro h1 q1
 have Ae:k<(l).length:=AQ h1;obtain⟨x,Ad⟩:=at_ Ae
 .repeat' first|exact int_eq (Dv Ad Cs AW)|exact Fin.AP (k+1) ⟨⟨Ae,C3 Ad Cs AW⟩,by omega⟩ ⟨⟨_,rfl,AK k⟩,kz⟩|refine co rfl (AD rfl underlying71 B8 vq vq AA DZ) ?_|refine co rfl (AO rfl G5 B8 vq rfl rfl) (co rfl (GC x rfl vq kz) ?_)|refine ac ?_|(refine Tr.cn rfl ?_ ?_<;>intro h q)
 have BA:k=(l).length:=by have:=AU h1;omega
 subst BA;refine a3 ?_
 .exact K2
theorem yP{l:List E9}{p:E9->Bool}  :Aq prog 359 [G7 l,S7 prog (fun x:E9=>[agg (BT x)]) (fun x=>bool (p x))] (bool (l.any p)):=by
 refine fo func359 rfl ⟨rfl,rfl⟩ fun M0 w0=>?_;refine a2 ?_;refine co rfl (CG (ZI) rfl rfl rfl) ?_;refine a2 ?_
 .exact P8
theorem r_{l:List (Int)}{b0:Nat}(hi:i<l.length)(hl:l.length<=1000000)(hc:l.length<=cap)(hm:cap<=maxLen)(hq:sp.length=(cap-l.length)*1):BM prog 355 [Aj (.slice (some ⟨b0,0,none⟩) l.length cap) (lens l.length),int ((i:Nat):Int),int (((i:Nat):Int)+1)] (lens (l.length-1)) (AE true b0 3 ((l.map (fun n:Int=>[int n])).flatten++sp.map is)) (fun v=>Ax 3 1 ((l.eraseIdx i).map (fun n:Int=>[int n])) v):=by
 refine BM.of func355 rfl rfl Ag fun M0 w0 S rs M1 w1=>?_;have aI:((l.map (fun n:Int=>[int n])).flatten).length=l.length*1:=by rw[Cw (sz:=1) (Ar fun _=>rfl),List.length_map]
 have e1:(((i:Nat):Int)+(1:Int)).toNat=i+1:=by omega
 have e2:((i:Nat):Int).toNat=i:=by omega
 refine a2 ?_;refine co rfl (ET rfl underlying22 E4) (co rfl (KP rfl underlying22 C4 E4 vq vq vq AA AA AA AA) ?_);refine ac ?_;refine an ?_ ?_<;>intro h1 q1
 exfalso;have:=q1;omega;refine a2 ?_;refine co rfl (ET rfl underlying22 E4) ?_;refine ac ?_;refine Tr.seq (Tr.Du mixed 6 BQ (AY.op rfl rfl AB (BX rfl vq) (AY.op rfl rfl AB (BX rfl vq) (AY.op rfl rfl AB (Fu rfl underlying22 C4 E4 vq AA AA AA AA) (AY.op rfl rfl AB (BX rfl vq) (AY.op rfl rfl AB (BX rfl vq) (AY.op rfl rfl AB (Lp rfl underlying22 C4 E4 vq AA AA AA) ?_)))))));refine AY.turn _ rfl AB (cN 0 rfl (Re rfl rfl AB rfl underlying22 C4 vq vq AA Pz Pz rfl)) ?_;refine ac ?_;refine wk [7,0] rfl ?_;refine ap ?_;refine tp rfl (ET rfl underlying22 vq) (tm rfl (tp rfl (NR rfl underlying22 C4 vq vq vq AA AA AA) ?_));refine TO.ED 0 rfl rfl (Ws rfl rfl underlying22 C4 z3 rfl AB AB vq AA aa rfl) ?_;refine ap ?_;refine ac ?_;refine Tr.ret ?_;refine Fin.OO (sz:=1) 0 rfl (rows:=((l.eraseIdx i).map (fun n:Int=>[int n]))) (sp:=[.int .i64 0]++sp) (m:=i+(l.length-(i+1))) ((TY (N:=l.length*1) (a:=i*1) (z:=1) (S:=sp.map is) aI AA AA AA AA AA AA AA (B:=_) rfl).trans (by rw[List.map_append,←TX (f:=(fun n:Int=>[int n])) (sz:=1) (fun _=>rfl),Nat.succ_mul,ACC]<;>omega)) bO AA hm bA ?_;refine Fin.Ey rfl rfl ?_ JL
 .exact Px
theorem sA:Entry Tryz.prog 355:=⟨_,Tryz.func355,rfl,rfl⟩
theorem sB{l:List (E9)}{b0:Nat}(hi:i<l.length)(hl:l.length<=1000000)(hc:l.length<=cap)(hm:cap<=maxLen)(hq:sp.length=(cap-l.length)*4):BM prog 361 [Aj (.slice (some ⟨b0,0,none⟩) l.length cap) (lens l.length),int ((i:Nat):Int),int (((i:Nat):Int)+1)] (lens (l.length-1)) (AE true b0 78 ((l.map BT).flatten++sp.map is)) (fun v=>Ax 78 4 ((l.eraseIdx i).map BT) v):=by
 refine BM.of func361 rfl rfl Ag fun M0 w0 S rs M1 w1=>?_;have aI:((l.map BT).flatten).length=l.length*4:=by rw[Cw (sz:=4) (Ar fun _=>rfl),List.length_map]
 have e1:(((i:Nat):Int)+(1:Int)).toNat=i+1:=by omega
 have e2:((i:Nat):Int).toNat=i:=by omega
 refine a2 ?_;refine co rfl (ET rfl underlying71 E4) (co rfl (KP rfl underlying71 B8 E4 vq vq vq AA AA AA AA) ?_);refine ac ?_;refine an ?_ ?_<;>intro h1 q1
 exfalso;have:=q1;omega;refine a2 ?_;refine co rfl (ET rfl underlying71 E4) ?_;refine ac ?_;refine Tr.seq (Tr.Du mixed 6 BQ (AY.op rfl rfl AB (BX rfl vq) (AY.op rfl rfl AB (BX rfl vq) (AY.op rfl rfl AB (Fu rfl underlying71 B8 E4 vq AA AA AA AA) (AY.op rfl rfl AB (BX rfl vq) (AY.op rfl rfl AB (BX rfl vq) (AY.op rfl rfl AB (Lp rfl underlying71 B8 E4 vq AA AA AA) ?_)))))));refine AY.turn _ rfl AB (cN 0 rfl (Re rfl rfl AB rfl underlying71 B8 vq vq AA Pz Pz rfl)) ?_;refine ac ?_;refine wk [7,0] rfl ?_;refine ap ?_;refine tp rfl (ET rfl underlying71 vq) (tm rfl (tp rfl (NR rfl underlying71 B8 vq vq vq AA AA AA) ?_));refine TO.ED 0 rfl rfl (Ws rfl rfl underlying71 B8 NH rfl AB AB vq AA aa rfl) ?_;refine ap ?_;refine ac ?_;refine Tr.ret ?_;refine Fin.OO (sz:=4) 0 rfl (rows:=((l.eraseIdx i).map BT)) (sp:=[.int .i64 0,.int .i64 0,.int .i64 0,.slice none 0 0]++sp) (m:=i+(l.length-(i+1))) ((TY (N:=l.length*4) (a:=i*4) (z:=4) (S:=sp.map is) aI AA AA AA AA AA AA AA (B:=_) rfl).trans (by rw[List.map_append,←TX (f:=BT) (sz:=4) (fun _=>rfl),Nat.succ_mul,ACC]<;>omega)) bO AA hm bA ?_;refine Fin.Ey rfl rfl ?_ JL
 .exact Px
theorem sC:Entry Tryz.prog 361:=⟨_,Tryz.func361,rfl,rfl⟩
theorem sD{l:List (Int)}{x:Int}{b0:Nat}(hi:i<=l.length)(hl:l.length<=1000000)(hc:l.length<=cap)(hm:cap<=maxLen)(hq:sp.length=(cap-l.length)*1):BM prog 380 [Aj (.slice (some ⟨b0,0,none⟩) l.length cap) (lens l.length),int ((i:Nat):Int),slice 1 [[int x]]] (lens (l.length+1)) (AE true b0 3 ((l.map (fun n:Int=>[int n])).flatten++sp.map is)) (fun v=>Ax 3 1 ((l.take i++[x]++l.drop i).map (fun n:Int=>[int n])) v):=by
 refine BM.of func380 rfl rfl Ag fun M0 w0 S rs M1 w1=>?_;have PZ:([[int x]]:List (List Pr)).flatten.length=1:=rfl;have O2:([[int x]]:List (List Pr)).length=1:=rfl;have aI:((l.map (fun n:Int=>[int n])).flatten).length=l.length*1:=by rw[Cw (sz:=1) (Ar fun _=>rfl),List.length_map]
 have e1:(((i:Nat):Int)+(1:Int)).toNat=i+1:=by omega
 have e2:((i:Nat):Int).toNat=i:=by omega
 refine a2 ?_;refine co rfl (NQ rfl underlying22 C4 E4 vq AA AA AA) ?_;refine a2 ?_;refine co rfl (BJ rfl underlying22 vq) ?_;refine ac ?_;refine an ?_ ?_<;>intro h1 q1
 simp at h1;refine a2 ?_;refine co rfl (ET rfl underlying22 E4) ?_;refine a2 ?_;refine wk [22,8,7,2,1,0] rfl ?_;refine Tr.cn rfl ?_ ?_<;>intro h2 q2
 refine Tr.seq (Tr.ML (sz:=1) 0 rfl (rows:=l.map (fun n:Int=>[int n])) (sp:=sp) rfl Ai hc hm hq ?_);refine ap ?_;refine TO.EV 0 rfl rfl AB (DN rfl rfl AB rfl underlying22 C4 RO z3 rfl AB AB (vl rfl) (vl rfl) (Ar fun _=>rfl) (Nat.zero_lt_succ _) J9 J_) (fun v1=>?_);refine ap ?_;refine Tr.ret (Fin.AF ?_);refine Fin.Ey rfl rfl ?_ aK
 .exact Pr.le_trans (A0 _ _) (Pr.le_of_eq Ai)
 refine a2 ?_;refine co rfl (cL rfl underlying22 E4) ?_;refine an ?_ ?_<;>intro h3 q3
 refine ap ?_;refine tp rfl (Fu rfl underlying22 C4 E4 vq AA AA AA AA) ?_;refine ap ?_;refine TO.pad ?_;refine TO.vT 0 1 rfl rfl rfl rfl AB rfl underlying22 underlying3 C4 RO z3 rfl AB AB vq vq (i:=i) (k:=l.length+1-i) AA GR AA AA HJ AA (fun b1 yQ sp1 hg1 hm1 hs1=>?_);refine ap ?_;refine wk [9,7,2,1,0] rfl (Tr.seq ?_);have hsz:sp1.length=(yQ-i)*1:=by have:=hs1;rw[List.length_take,List.length_append,aI]at this;omega
 refine Tr.Sm (sz:=1) (l.map (fun n:Int=>[int n])) 1 0 rfl rfl (Pr.le_trans (Cy _ _) (Pr.le_of_eq Ai)) (Ar fun _=>rfl) (by rw[List.length_map];exact hc) hm (by rw[List.length_map,List.length_map];omega) ?_;refine ap ?_;refine tp rfl (CY rfl underlying22 C4 vq vq AA AA AA) (tm rfl ?_);refine TO.LC 0 rfl rfl AB (I5 rfl rfl rfl underlying22 C4 AB vq vq AA AA GR rfl) ?_;refine ap ?_;refine Tr.seq (Tr.rx ?_);refine ay ?_;refine xo rfl (fun _=>CY rfl underlying22 C4 vq vq AA AA AA) ?_;refine ay ?_;refine xo rfl (fun _=>Db rfl underlying22 C4 Ij vq AA Ci) ?_;refine Cx.ef 0 rfl rfl AB (I5 rfl rfl rfl underlying22 C4 AB vq vq GR GR GR rfl) ?_;refine Cx.nil ⟨by kernel_rfl,?_⟩;refine BG.done ko (Fin.go (wk [9] rfl ?_));refine ac ?_;refine Tr.ret (Fin.AF ?_);refine Fin.OO (sz:=1) 0 rfl (rows:=((l.take i++[x]++l.drop i).map (fun n:Int=>[int n]))) (sp:=sp1.drop ((l.length+1-i)*1)) (m:=i+(l.length+1-i)) (Rh (a:=i*1) (z:=1) (Z:=sp1.map is) (N:=l.length*1) aI AA rfl Cg AA AA AA AA (by rw[List.length_drop,List.length_map];omega) (by rw[←List.map_drop,Hl (f:=(fun n:Int=>[int n])) (sz:=1) (fun _=>rfl),e2]) (by rw[List.map_drop,show(l.length+1-i)*1=l.length*1+1-i*1 by omega,←LG (f:=(fun n:Int=>[int n])) (sz:=1) (l:=l) (i:=i) (x:=x) (fun _=>rfl)];rfl)) UL AA hm1 H7 ?_;refine Fin.drop 1 ?_;refine Fin.Ey rfl rfl ?_ JL
 .exact Px
 refine a2 ?_;refine co rfl (NP rfl underlying22 C4 E4 vq AA AA AA) ?_;refine ac ?_;refine wk [8,7,2,1,0] rfl ?_;refine ap ?_;refine tp rfl (CY rfl underlying22 C4 vq vq AA AA AA) ?_;refine TO.rd 0 rfl rfl rfl AB (PI (tR:=4) rfl func278 BQ BQ BQ BQ underlying22 C4 AB vq My vq GR) ?_;refine ap ?_;refine Tr.cn rfl ?_ ?_<;>intro h4 q4
 refine Tr.seq (Tr.rx ?_);refine ay ?_;refine xo rfl (fun _=>CY rfl underlying22 C4 vq vq AA AA AA) ?_;refine ay ?_;refine xo rfl (fun _=>CY rfl underlying22 C4 vq vq AA AA AA) ?_;refine Cx.ef 0 rfl rfl AB (Wu (m:=l.length-i) rfl rfl rfl underlying22 C4 vq vq (by show _=min _ _;omega) GR GR rfl) ?_;refine Cx.nil ⟨by kernel_rfl,?_⟩;refine BG.done WN (Fin.go (wk [2,1,0] rfl ?_));refine ap ?_;refine tp rfl (CY rfl underlying22 C4 vq vq AA AA AA) (tm rfl ?_);refine TO.LC 0 rfl rfl AB (I5 rfl rfl rfl underlying22 C4 AB vq vq AA AA GR rfl) ?_;refine ap ?_;refine ac ?_;refine Tr.ret (Fin.AF ?_);refine Fin.OO (sz:=1) 0 rfl (rows:=((l.take i++[x]++l.drop i).map (fun n:Int=>[int n]))) (sp:=sp.drop 1) (m:=l.length+1) (Rf (a:=i*1) (z:=1) (S:=sp.map is) (N:=l.length*1) aI AA rfl Cg AA AA AA AA AA AA (by rw[List.map_drop,←LG (f:=(fun n:Int=>[int n])) (sz:=1) (l:=l) (i:=i) (x:=x) (fun _=>rfl)];rfl)) UL AA hm H7 ?_;refine Fin.Ey rfl rfl ?_ JL
 .rintro _ _ _ rfl;exact⟨_,_,by rfl⟩
 exact absurd h4 AB
theorem sE:Entry Tryz.prog 380:=⟨_,Tryz.func380,rfl,rfl⟩
theorem sF{x:Int}  :BM prog 380 [full 1 [],int ((0:Nat):Int),slice 1 [[int x]]] (lens 1) (Bb) (fun v=>DQ 3 1 [[int x]] v):=by
 refine BM.of func380 rfl rfl Ag fun M0 w0 S rs M1 w1=>?_;have O2:([[int x]]:List (List Pr)).length=1:=rfl;refine a2 ?_;refine co rfl (Db rfl underlying22 C4 Ec vq AA AA) ?_;refine a2 ?_;refine co rfl (BJ rfl underlying22 vq) ?_;refine ac ?_;refine an ?_ ?_<;>intro h1 q1
 simp at h1;refine a2 ?_;refine co rfl (BJ rfl underlying22 Ec) ?_;refine a2 ?_;refine wk [22,8,7,2,1,0] rfl ?_;refine Tr.cn rfl ?_ ?_<;>intro h2 q2
 refine ap ?_;refine TO.pad ?_;refine TO.EV 0 rfl rfl AB (Gf rfl rfl AB rfl underlying22 C4 RO z3 rfl AB AB vq vq Ai (by simp;unfold maxLen;omega) Ai) (fun v1=>?_);refine ap ?_;refine Tr.ret (Fin.AF (Fin.drop 1 ?_));refine Fin.Ey rfl rfl ?_ K1
 .exact Pr.le_trans (A0 _ _) Lr
 exact absurd h2 AB
theorem VR{l:List (Int)}{x:Int}(hi:i<=l.length)(hl:l.length<=1000000):BM Tryz.prog 380 [is v,int ((i:Nat):Int),slice 1 [[int x]]] (slice 1 ((l.take i++[x]++l.drop i).map (fun n:Int=>[int n]))) (An 3 1 (l.map (fun n:Int=>[int n])) v) (fun _=>Bb):=by
 refine BM.kN (e:=3) (m:=l.length+1) (Ar fun _=>rfl) (BM.LF sE (fun h0=>?_) (fun b cap sp hc hm hq=>?_))
 .
  have Y1:l=[]:=by simpa using h0
  subst Y1;have hi0:i=0:=by simpa using hi
  subst hi0;exact BM.MM sF
 .
  rw[List.length_map]at hc hq ⊢;exact sD hi hl hc hm AA
theorem VS{l:List (Int)}(hi:i<l.length)(hl:l.length<=1000000):BM Tryz.prog 355 [is v,int ((i:Nat):Int),int (((i:Nat):Int)+1)] (slice 1 ((l.eraseIdx i).map (fun n:Int=>[int n]))) (An 3 1 (l.map (fun n:Int=>[int n])) v) (fun _=>Bb):=by
 refine BM.kN (e:=3) (m:=l.length-1) (Ar fun _=>rfl) (BM.LF sA (fun h0=>?_) (fun b cap sp hc hm hq=>?_))
 .
  have Y1:l=[]:=by simpa using h0
  subst Y1;simp at hi
 .
  rw[List.length_map]at hc hq ⊢;exact r_ hi hl hc hm AA
theorem sG{l:List (E9)}{x:E9}{b0:Nat}(hi:i<=l.length)(hl:l.length<=1000000)(hc:l.length<=cap)(hm:cap<=maxLen)(hq:sp.length=(cap-l.length)*4):BM prog 382 [Aj (.slice (some ⟨b0,0,none⟩) l.length cap) (lens l.length),int ((i:Nat):Int),slice 4 [BT x]] (lens (l.length+1)) (AE true b0 78 ((l.map BT).flatten++sp.map is)) (fun v=>Ax 78 4 ((l.take i++[x]++l.drop i).map BT) v):=by
 refine BM.of func382 rfl rfl Ag fun M0 w0 S rs M1 w1=>?_;have PZ:([BT x]:List (List Pr)).flatten.length=4:=rfl;have O2:([BT x]:List (List Pr)).length=1:=rfl;have aI:((l.map BT).flatten).length=l.length*4:=by rw[Cw (sz:=4) (Ar fun _=>rfl),List.length_map]
 have e1:(((i:Nat):Int)+(1:Int)).toNat=i+1:=by omega
 have e2:((i:Nat):Int).toNat=i:=by omega
 refine a2 ?_;refine co rfl (NQ rfl underlying71 B8 E4 vq AA AA AA) ?_;refine a2 ?_;refine co rfl (BJ rfl underlying71 vq) ?_;refine ac ?_;refine an ?_ ?_<;>intro h1 q1
 simp at h1;refine a2 ?_;refine co rfl (ET rfl underlying71 E4) ?_;refine a2 ?_;refine wk [22,8,7,2,1,0] rfl ?_;refine Tr.cn rfl ?_ ?_<;>intro h2 q2
 refine Tr.seq (Tr.ML (sz:=4) 0 rfl (rows:=l.map BT) (sp:=sp) rfl Ai hc hm hq ?_);refine ap ?_;refine TO.EV 0 rfl rfl AB (DN rfl rfl AB rfl underlying71 B8 Sk NH rfl AB AB (vl rfl) (vl rfl) (Ar fun _=>rfl) (Nat.zero_lt_succ _) J9 J_) (fun v1=>?_);refine ap ?_;refine Tr.ret (Fin.AF ?_);refine Fin.Ey rfl rfl ?_ aK
 .exact Pr.le_trans (A0 _ _) (Pr.le_of_eq Ai)
 refine a2 ?_;refine co rfl (cL rfl underlying71 E4) ?_;refine an ?_ ?_<;>intro h3 q3
 refine ap ?_;refine tp rfl (Fu rfl underlying71 B8 E4 vq AA AA AA AA) ?_;refine ap ?_;refine TO.pad ?_;refine TO.vT 0 1 rfl rfl rfl rfl AB rfl underlying71 underlying3 B8 Sk NH rfl AB AB vq vq (i:=i) (k:=l.length+1-i) AA GR AA AA HJ AA (fun b1 yQ sp1 hg1 hm1 hs1=>?_);refine ap ?_;refine wk [9,7,2,1,0] rfl (Tr.seq ?_);have hsz:sp1.length=(yQ-i)*4:=by have:=hs1;rw[List.length_take,List.length_append,aI]at this;omega
 refine Tr.Sm (sz:=4) (l.map BT) 1 0 rfl rfl (Pr.le_trans (Cy _ _) (Pr.le_of_eq Ai)) (Ar fun _=>rfl) (by rw[List.length_map];exact hc) hm (by rw[List.length_map,List.length_map];omega) ?_;refine ap ?_;refine tp rfl (CY rfl underlying71 B8 vq vq AA AA AA) (tm rfl ?_);refine TO.LC 0 rfl rfl AB (I5 rfl rfl rfl underlying71 B8 AB vq vq AA AA GR rfl) ?_;refine ap ?_;refine Tr.seq (Tr.rx ?_);refine ay ?_;refine xo rfl (fun _=>CY rfl underlying71 B8 vq vq AA AA AA) ?_;refine ay ?_;refine xo rfl (fun _=>Db rfl underlying71 B8 Ij vq AA Ci) ?_;refine Cx.ef 0 rfl rfl AB (I5 rfl rfl rfl underlying71 B8 AB vq vq GR GR GR rfl) ?_;refine Cx.nil ⟨by kernel_rfl,?_⟩;refine BG.done ko (Fin.go (wk [9] rfl ?_));refine ac ?_;refine Tr.ret (Fin.AF ?_);refine Fin.OO (sz:=4) 0 rfl (rows:=((l.take i++[x]++l.drop i).map BT)) (sp:=sp1.drop ((l.length+1-i)*4)) (m:=i+(l.length+1-i)) (Rh (a:=i*4) (z:=4) (Z:=sp1.map is) (N:=l.length*4) aI AA rfl Cg AA AA AA AA (by rw[List.length_drop,List.length_map];omega) (by rw[←List.map_drop,Hl (f:=BT) (sz:=4) (fun _=>rfl),e2]) (by rw[List.map_drop,show(l.length+1-i)*4=l.length*4+4-i*4 by omega,←LG (f:=BT) (sz:=4) (l:=l) (i:=i) (x:=x) (fun _=>rfl)];rfl)) UL AA hm1 H7 ?_;refine Fin.drop 1 ?_;refine Fin.Ey rfl rfl ?_ JL
 .exact Px
 refine a2 ?_;refine co rfl (NP rfl underlying71 B8 E4 vq AA AA AA) ?_;refine ac ?_;refine wk [8,7,2,1,0] rfl ?_;refine ap ?_;refine tp rfl (CY rfl underlying71 B8 vq vq AA AA AA) ?_;refine TO.rd 0 rfl rfl rfl AB (PI (tR:=4) rfl func395 BQ BQ BQ BQ underlying71 B8 AB vq My vq GR) ?_;refine ap ?_;refine Tr.cn rfl ?_ ?_<;>intro h4 q4
 refine Tr.seq (Tr.rx ?_);refine ay ?_;refine xo rfl (fun _=>CY rfl underlying71 B8 vq vq AA AA AA) ?_;refine ay ?_;refine xo rfl (fun _=>CY rfl underlying71 B8 vq vq AA AA AA) ?_;refine Cx.ef 0 rfl rfl AB (Wu (m:=l.length-i) rfl rfl rfl underlying71 B8 vq vq (by show _=min _ _;omega) GR GR rfl) ?_;refine Cx.nil ⟨by kernel_rfl,?_⟩;refine BG.done WN (Fin.go (wk [2,1,0] rfl ?_));refine ap ?_;refine tp rfl (CY rfl underlying71 B8 vq vq AA AA AA) (tm rfl ?_);refine TO.LC 0 rfl rfl AB (I5 rfl rfl rfl underlying71 B8 AB vq vq AA AA GR rfl) ?_;refine ap ?_;refine ac ?_;refine Tr.ret (Fin.AF ?_);refine Fin.OO (sz:=4) 0 rfl (rows:=((l.take i++[x]++l.drop i).map BT)) (sp:=sp.drop 4) (m:=l.length+1) (Rf (a:=i*4) (z:=4) (S:=sp.map is) (N:=l.length*4) aI AA rfl Cg AA AA AA AA AA AA (by rw[List.map_drop,←LG (f:=BT) (sz:=4) (l:=l) (i:=i) (x:=x) (fun _=>rfl)];rfl)) UL AA hm H7 ?_;refine Fin.Ey rfl rfl ?_ JL
 .rintro _ _ _ rfl;exact⟨_,_,by rfl⟩
 exact absurd h4 AB
theorem sH:Entry Tryz.prog 382:=⟨_,Tryz.func382,rfl,rfl⟩
theorem sI{x:E9}  :BM prog 382 [full 4 [],int ((0:Nat):Int),slice 4 [BT x]] (lens 1) (Bb) (fun v=>DQ 78 4 [BT x] v):=by
 refine BM.of func382 rfl rfl Ag fun M0 w0 S rs M1 w1=>?_;have O2:([BT x]:List (List Pr)).length=1:=rfl;refine a2 ?_;refine co rfl (Db rfl underlying71 B8 Ec vq AA AA) ?_;refine a2 ?_;refine co rfl (BJ rfl underlying71 vq) ?_;refine ac ?_;refine an ?_ ?_<;>intro h1 q1
 simp at h1;refine a2 ?_;refine co rfl (BJ rfl underlying71 Ec) ?_;refine a2 ?_;refine wk [22,8,7,2,1,0] rfl ?_;refine Tr.cn rfl ?_ ?_<;>intro h2 q2
 refine ap ?_;refine TO.pad ?_;refine TO.EV 0 rfl rfl AB (Gf rfl rfl AB rfl underlying71 B8 Sk NH rfl AB AB vq vq Ai (by simp;unfold maxLen;omega) Ai) (fun v1=>?_);refine ap ?_;refine Tr.ret (Fin.AF (Fin.drop 1 ?_));refine Fin.Ey rfl rfl ?_ K1
 .exact Pr.le_trans (A0 _ _) Lr
 exact absurd h2 AB
theorem sJ{l:List (E9)}{x:E9}(hi:i<=l.length)(hl:l.length<=1000000):BM Tryz.prog 382 [is v,int ((i:Nat):Int),slice 4 [BT x]] (slice 4 ((l.take i++[x]++l.drop i).map BT)) (An 78 4 (l.map BT) v) (fun _=>Bb):=by
 refine BM.kN (e:=78) (m:=l.length+1) (Ar fun _=>rfl) (BM.LF sH (fun h0=>?_) (fun b cap sp hc hm hq=>?_))
 .
  have Y1:l=[]:=by simpa using h0
  subst Y1;have hi0:i=0:=by simpa using hi
  subst hi0;exact BM.MM sI
 .
  rw[List.length_map]at hc hq ⊢;exact sG hi hl hc hm AA
theorem sK{l:List (E9)}(hi:i<l.length)(hl:l.length<=1000000):BM Tryz.prog 361 [is v,int ((i:Nat):Int),int (((i:Nat):Int)+1)] (slice 4 ((l.eraseIdx i).map BT)) (An 78 4 (l.map BT) v) (fun _=>Bb):=by
 refine BM.kN (e:=78) (m:=l.length-1) (Ar fun _=>rfl) (BM.LF sC (fun h0=>?_) (fun b cap sp hc hm hq=>?_))
 .
  have Y1:l=[]:=by simpa using h0
  subst Y1;simp at hi
 .
  rw[List.length_map]at hc hq ⊢;exact sB hi hl hc hm AA
theorem cz{x:Int}:BM Tryz.prog 232 [is v,int x] (int (idx (fun y=>x==y) l)) (An 3 1 (l.map fun n=>[int n]) v) (fun _=>An 3 1 (l.map fun n=>[int n]) v):=BM.Rc (Ar fun _=>rfl) Rj
theorem VT{x:Int}:BM Tryz.prog 199 [is v,int x] (bool (l.any fun y=>x==y)) (An 3 1 (l.map fun n=>[int n]) v) (fun _=>An 3 1 (l.map fun n=>[int n]) v):=BM.Rc (Ar fun _=>rfl) E5
structure E9.small(x:E9):Prop where
 chain:x.chain.length<=925904528640
 names:∀c∈x.chain,c.names.length<=8796093022208
theorem GM{x:E9}(hx:x.small):Aq prog 222 [agg (BT x)] (agg (BT x)):=by
 refine fo func222 rfl ⟨rfl,rfl⟩ fun M0 w0=>?_;have hch:=hx.chain;refine Tr.seq (Tr.At ?_);refine TO.Iu rfl rfl AB rfl CM (fun b1=>?_);refine Tl rfl rfl rfl rfl NH MD (fun b2=>?_);refine ao ?_;refine ao ?_;refine TO.pad ?_;refine TO.EV 0 rfl rfl AB (EI rfl rfl AB rfl (fY (l:=x.chain) AA) kz) (fun v1=>?_);refine tp rfl (AG rfl kE vq) (TO.ED 2 rfl rfl (BP rfl rfl vq Cf ABL rfl Ag rfl) ?_);refine ao ?_;refine ac ?_;refine co rfl (Bi 0 rfl (GJ rfl underlying76 E4)) ?_;refine ac ?_;refine Tr.block (Tr.re 11 rfl (int_eq JM) (Tr.BV _ (kk [11,10,2,1] rfl) (fun k:Nat=>[(12,int ((k:Nat):Int))]) (fun k:Nat=>k<=(x.chain).length) (fun k:Nat=>(x.chain).length-k) 0 (Nat.zero_le _) kz ?_));rintro k BN;refine ac ?_;refine Tr.seq ?_;refine Tr.cn rfl ?_ ?_<;>intro h1 q1
 have Ae:k<(x.chain).length:=AQ h1;obtain⟨c,Ad⟩:=at_ Ae;have hcn:=hx.names c (List.mem_of_getElem? Ad);refine ac ?_;refine ao ?_;refine tp rfl (Bi 0 rfl (FH rfl underlying76 DD E4 vq AA Cg)) ?_;refine tp rfl (Bi 0 rfl (Fv rfl Ja DD vq (Ar fun _=>rfl) G_)) ?_;refine Tl rfl rfl rfl rfl Sl NJ (fun b3=>?_);refine tm rfl ?_;refine sf 0 4 ⟨rfl,rfl,rfl⟩ rfl rfl rfl rfl ?_;refine ao ?_;refine Tr.rx ?_;refine ax ?_;refine xo rfl (fun _=>BS (ff hcn) rfl rfl) ?_;refine Jv 0 rfl rfl (FH rfl underlying76 DD E4 vq AA Cg) ?_;refine xo rfl (fun _=>Y2 rfl Wn vq) ?_;refine Cx.ED 0 rfl rfl (E3 rfl rfl vq Cf ABH rfl (Ar fun _=>rfl) G_ AB (I6 (f:=C9) Ad rfl)) ?_;refine Cx.nil ⟨by kernel_rfl,?_⟩;refine BG.done ko ?_;refine ac ?_;refine wk [12,11,10,2,1] rfl ?_;refine ac ?_;exact Fin.AP (k+1) ⟨Ae,by omega⟩ ⟨⟨_,rfl,AK k⟩,kz⟩;have BA:k=(x.chain).length:=by have:=AU h1;omega
 subst BA;refine ac ?_;refine Tr.seq (Tr.II 2 0 3 rfl rfl AB rfl (Cy _ _) (Ar fun _=>rfl) ?_);refine ao ?_;refine TO.Ac 1 rfl rfl rfl vq CM rfl B8 rfl rfl ?_;refine ao ?_;refine Tr.drop 0 (Tr.drop 1 (Tr.ret (Fin.B4 rfl (AL.cell 0 rfl rfl G5 B8 rfl Lr) ?_)))
 .exact Lr
structure Bl where
 AZ:Int
 kind:Int
 number:Int
 at_:Int
 CO:E9
abbrev B7(c:Bl):List Pr:=[int c.AZ,int c.kind,int c.number,int c.at_,int c.CO.CI,int c.CO.bits,int c.CO.Bm,G6 c.CO.chain]
abbrev Ru(c b:Bl):List Pr:=[int c.AZ,int c.kind,int c.number,int c.at_,int c.CO.CI,int c.CO.bits,int c.CO.Bm,G6 c.CO.chain,int b.AZ,int b.kind,int b.number,int b.at_,int b.CO.CI,int b.CO.bits,int b.CO.Bm,G6 b.CO.chain]
abbrev mD(e:DY)(p3 p5 p6 p7:Pr):List Pr:=[str e.name,int e.least,int e.most,p3,bool e.own,p5,p6,p7,bool e.HQ]
abbrev Bk(wb ob:Nat)(c b:Bl):Ay:=AE true wb 356 (ptr ob 0::Ru c b)
abbrev Br(ob:Nat)(e:DY)(p3 p5 p6 p7:Pr):Ay:=AE true ob 73 (mD e p3 p5 p6 p7)
def BI(key:Int)(l:List E9):Int:=idx (fun x=>x.Bm==key) l
theorem Ji{β:Type}{p:β->Bool}{l:List β}(h:0<=idx p l):∃x,l[(idx p l).toNat]? =some x/\p x=true/\(idx p l).toNat<l.length:=by
 unfold idx at*;cases hf:l.findIdx? p with
 |none=>rw[hf]at h;simp at h
 |some i=>
  rw[List.findIdx?_eq_some_iff_getElem]at hf;obtain⟨h1,h2,_⟩:=hf;refine⟨l[i],?_,h2,by simpa using h1⟩;simp
theorem yR{key:Int}{x:E9}  :Aq prog 381 [agg (BT x),ref [int key]] (bool (x.Bm==key)):=by
 refine fo func381 rfl ⟨rfl,rfl⟩ fun M0 w0=>?_;refine a3 ?_
 .exact Lr
theorem yS:Entry Tryz.prog 381:=⟨_,Tryz.func381,rfl,rfl⟩
theorem yT{key:Int}{pO:List Pr}:Aq prog 357 [ref (ref (As e)::pO),int key] (int (BI key e.ids)):=by
 refine fo func357 rfl ⟨rfl,rfl⟩ fun M0 w0=>?_;refine a2 ?_;refine co rfl (Aa rfl (ZI (l:=e.ids) (p:=fun x=>x.Bm==key)) ⟨kq,⟨_,rfl,DM (dom:=fun x:E9=>[agg (BT x)]) (res:=fun x=>bool (x.Bm==key)) yS (fun x=>yR (key:=key) (x:=x))⟩,trivial⟩) ?_;refine a2 ?_
 .exact Lr
theorem sL{c b:Bl}{x:E9}{q:Pr}  :Aq prog 360 [agg (BT x),ref [ref (q::Ru c b)]] (bool (x.Bm==c.number)):=by
 refine fo func360 rfl ⟨rfl,rfl⟩ fun M0 w0=>?_;refine a3 ?_
 .exact Lr
theorem sM:Entry Tryz.prog 360:=⟨_,Tryz.func360,rfl,rfl⟩
theorem Tk{c b:Bl}{key:Int}(h3:p3=ints e.AR)(h6:p6=ints e.anchors)(h7:p7=ints e.hashes):BC Tryz.prog 357 [ptr wb 0,int key] [Bk wb ob c b,Br ob e p3 (is v) p6 p7,An 78 4 (e.ids.map BT) v] (int (BI key e.ids)) [Bk wb ob c b,Br ob e p3 (is v) p6 p7,An 78 4 (e.ids.map BT) v]:=by
 subst h3;subst h6;subst h7;exact BC.look (k:=5) (rows:=As e) (sz:=4) rfl (Ar fun _=>rfl) rfl yT
theorem c_{l:List E9}{c b:Bl}:BC prog 359 [Cp.part 4 v k,fn (.func 360) [ref [ptr wb 0]]] [Bk wb ob c b,An 78 4 (l.map BT) v] (bool ((l.drop k).any fun x=>x.Bm==c.number)) [Bk wb ob c b,An 78 4 (l.map BT) v]:=by
 refine BC.kf (Ar fun _=>rfl) ?_;refine Aq.le (yP (l:=l.drop k) (p:=fun x=>x.Bm==c.number)) ?_ Lr;intro M w vs hv
 match vs,hv with
 |[u0,u1],O2=>
  exact⟨by have:=O2.1;rw[←List.map_drop]at this;exact this,DM (dom:=fun x:E9=>[agg (BT x)]) (res:=fun x=>bool (x.Bm==c.number)) sM (fun x=>sL (c:=c) (b:=b) (x:=x)) _ _ _ O2.2.1,trivial⟩
theorem VU{c b:Bl}(h:(idx (fun y=>c.number==y) e.AR)<0):BC prog 313 [ptr wb 0] [Bk wb ob c b,Br ob e (is v) p5 p6 p7,An 3 1 (e.AR.map fun n=>[int n]) v] (int 41) []:=by
 refine BC.of func313 rfl rfl Ag fun M0 w0 S rs M1 w1=>?_;refine ac ?_;refine Tr.seq (Tr.rx ?_);refine ay ?_;refine Cx.ef 2 rfl rfl AB (Au rfl rfl AB rfl (cz) ⟨kq,kz⟩) (xm rfl ?_);refine Cx.nil ⟨by kernel_rfl,?_⟩;refine BG.done N1 (Fin.go (wk [3,0] rfl ?_));refine an ?_ ?_<;>intro h1 q1
 refine ac ?_;refine Tr.ret (Fin.AF (Fin.drop 0 (Fin.drop 0 (Fin.drop 0 (Fin.Cl rfl (AL.tmp rfl Lr) ?_ (List.Perm.refl _))))))
 .exact Lr
 exfalso;have:=q1;omega
theorem VV{c b:Bl}(h:0<=(idx (fun y=>c.number==y) e.AR))(hs:e.AR.length<=1000000):BC prog 313 [ptr wb 0] [Bk wb ob c b,Br ob e (is v) p5 p6 p7,An 3 1 (e.AR.map fun n=>[int n]) v] (int 0) [Bk wb ob c ⟨b.AZ,1,c.number,(idx (fun y=>c.number==y) e.AR),b.CO⟩,Br ob e (ints (e.AR.eraseIdx (idx (fun y=>c.number==y) e.AR).toNat)) p5 p6 p7]:=by
 refine BC.of func313 rfl rfl Ag fun M0 w0 S rs M1 w1=>?_;obtain⟨x_,hx_,_,ADJ⟩:=Ji h;refine ac ?_;refine Tr.seq (Tr.rx ?_);refine ay ?_;refine Cx.ef 2 rfl rfl AB (Au rfl rfl AB rfl (cz) ⟨kq,kz⟩) (xm rfl ?_);refine Cx.nil ⟨by kernel_rfl,?_⟩;refine BG.done N1 (Fin.go (wk [3,0] rfl ?_));refine an ?_ ?_<;>intro h1 q1
 exfalso;have:=q1;omega;refine ac ?_;refine Tr.seq (Tr.rx ?_);refine ay ?_;refine Cx.ef 2 rfl rfl AB (Au rfl rfl AB rfl (VS (l:=e.AR) (i:=(idx (fun y=>c.number==y) e.AR).toNat) AA hs) ⟨kq,⟨_,rfl,int_eq AA⟩,⟨_,rfl,int_eq AA⟩,trivial⟩) ?_;refine ay ?_;refine Cx.nil ⟨by kernel_rfl,?_⟩;refine BG.done N1 (Fin.go (wk [3,0] rfl ?_));refine ap ?_;refine Tr.weak [] trivial ?_;refine ac ?_;refine Tr.ret (Fin.drop 2 (Fin.Cl rfl (AL.tmp rfl Lr) ?_ (List.Perm.refl _)))
 .exact Lr
theorem fm{x:E9}{at_:Int}(hr:¬(0<=at_/\at_<=(e.ids.length:Nat))):BC prog 358 [ptr ob 5,int at_,agg (BT x)] [Br ob e p3 (is v) p6 p7,An 78 4 (e.ids.map BT) v] (int 2) []:=by
 refine BC.of func358 rfl rfl Ag fun M0 w0 S rs M1 w1=>(Tr.seq ?_);have hml:(e.ids.map BT).length=e.ids.length:=List.length_map _;refine ac ?_;refine ag ?_ ?_<;>intro h1 q1
 have hq9:=q1;refine a2 ?_;refine Tr.ret (Fin.AF (Fin.drop 0 (Fin.drop 0 (Fin.Cl rfl (AL.tmp rfl Lr) ?_ (List.Perm.refl _)))))
 .exact Lr
 refine ac ?_;refine cy h1 rfl (Bi 1 rfl (GJ rfl underlying71 vq)) ?_;refine an ?_ ?_<;>intro h2 q2
 refine ac ?_;refine Tr.ret (Fin.AF (Fin.drop 0 (Fin.drop 0 (Fin.Cl rfl (AL.tmp rfl Lr) ?_ (List.Perm.refl _)))))
 .exact Lr
 exfalso;simp_all
theorem XC{x:E9}{at_:Int}(hr:0<=at_/\at_<=(e.ids.length:Nat))(hl:e.ids.length<=1000000):BC prog 358 [ptr ob 5,int at_,agg (BT x)] [Br ob e p3 (is v) p6 p7,An 78 4 (e.ids.map BT) v] (int 0) [Br ob e p3 (G7 (e.ids.take at_.toNat++[x]++e.ids.drop at_.toNat)) p6 p7]:=by
 refine BC.of func358 rfl rfl Ag fun M0 w0 S rs M1 w1=>(Tr.seq ?_);have hml:(e.ids.map BT).length=e.ids.length:=List.length_map _;refine ac ?_;refine ag ?_ ?_<;>intro h1 q1
 exfalso;have:=q1;omega;refine ac ?_;refine cy h1 rfl (Bi 1 rfl (GJ rfl underlying71 vq)) ?_;refine an ?_ ?_<;>intro h2 q2
 exfalso;simp_all;omega;refine ac ?_;refine Tr.seq (Tr.rx ?_);refine ay ?_;refine xo rfl (fun _=>AX (xs:=[.tmp 22]) (rows:=[_]) rfl rfl underlying71 B8 NH rfl AB ⟨⟨Ab,(Va rfl)⟩,trivial⟩ AB) ?_;refine Cx.ef 1 rfl rfl AB (Au rfl rfl AB rfl (sJ (l:=e.ids) (x:=x) (i:=at_.toNat) AA hl) ⟨kq,⟨_,rfl,int_eq AA⟩,Ec,trivial⟩) ?_;refine ay ?_;refine Cx.nil ⟨by kernel_rfl,?_⟩;refine BG.done ko (Fin.go (Tr.weak [] trivial ?_));refine ac ?_;refine Tr.ret (Fin.drop 1 (Fin.Cl rfl (AL.tmp rfl Lr) ?_ (List.Perm.refl _)))
 .exact Lr
theorem BC.perm{pre post post':List Ay}{res:Pr}(h:BC P f args pre res post)(hp:post.Perm post'):BC P f args pre res post':=
 ⟨h.1,fun M0 w0 S rs M w vs hI hv=>(h.2 M0 w0 S rs M w vs hI hv).mono fun _e _w' ⟨v,M',x,h1,h2,h3,h4,h5⟩=>⟨v,M',x,h1,h2,h3,h4,BD.perm (hp.append_right rs) h5⟩⟩
theorem fq{c b:Bl}(hx:c.CO.small)(hr:¬(0<=c.at_/\c.at_<=(e.ids.length:Nat))):BC prog 316 [ptr wb 0] [Bk wb ob c b,Br ob e (ints e.AR) (is v) (ints e.anchors) (ints e.hashes),An 78 4 (e.ids.map BT) v] (int 2) []:=by
 refine BC.of func316 rfl rfl Ag fun M0 w0 S rs M1 w1=>?_;refine ac ?_;refine ap ?_;refine TO.Df _ rfl rfl AB rfl (Tk (e:=e) (c:=c) (b:=b) (key:=c.CO.Bm) rfl rfl rfl) ⟨kq,kz⟩ ((AM (j:=0) rfl).trans (List.Perm.cons _ ((AM (j:=0) rfl).trans (List.Perm.cons _ ((AM (j:=0) rfl).trans (List.Perm.cons _ (List.Perm.refl _))))))) ?_;refine ap ?_;refine Tr.seq (Tr.seq (Tr.Du mixed 17 BQ (AY.op rfl rfl AB (BX rfl vq) (AY.op rfl rfl AB (A8 rfl vq) (AY.op rfl rfl AB (AG rfl Jb vq) (AY.op rfl rfl AB (Bi 0 rfl (A9 rfl MF vq rfl)) (AY.op rfl rfl AB (A8 rfl vq) (AY.op rfl rfl AB (AG rfl Ge vq) (AY.op rfl rfl AB (BX rfl vq) (AY.op rfl rfl AB (A8 rfl vq) (AY.op rfl rfl AB (AG rfl EK vq) (AY.op rfl rfl AB (AG rfl JZ vq) (AY.op rfl rfl AB (Bi 0 rfl (A9 rfl DP vq rfl)) ?_)))))))))))));refine AY.op rfl rfl AB (BX rfl vq) (AY.op rfl rfl AB (A8 rfl vq) (AY.op rfl rfl AB (AG rfl EK vq) (AY.op rfl rfl AB (AG rfl QG vq) (AY.op rfl rfl AB (Bi 0 rfl (Di rfl G5 B8 vq rfl rfl)) ?_))));refine AY.op rfl rfl AB (BS (GM (x:=c.CO) hx) rfl rfl) ?_;refine AY.turn _ rfl AB (E_ _ rfl rfl (fm (e:=e) (x:=c.CO) (at_:=c.at_) hr) ⟨kq,kz⟩ ((AM (j:=1) rfl).trans (List.Perm.cons _ ((AM (j:=1) rfl).trans (List.Perm.cons _ (List.Perm.refl _)))))) ?_;refine ac ?_;refine wk [4,3,0] rfl ?_;refine an ?_ ?_<;>intro h1 q1
 refine ac ?_;refine Tr.ret (Fin.AF (Fin.drop 0 (Fin.Cl rfl (AL.tmp rfl Lr) ?_ (List.Perm.refl _))))
 .exact Lr
 exact absurd h1 AB
theorem fu{c b:Bl}(hx:c.CO.small)(hr:0<=c.at_/\c.at_<=(e.ids.length:Nat))(hl:e.ids.length<=1000000)(h:0<=BI c.CO.Bm e.ids):BC prog 316 [ptr wb 0] [Bk wb ob c b,Br ob e (ints e.AR) (is v) (ints e.anchors) (ints e.hashes),An 78 4 (e.ids.map BT) v] (int 41) []:=by
 refine BC.of func316 rfl rfl Ag fun M0 w0 S rs M1 w1=>?_;refine ac ?_;refine ap ?_;refine TO.Df _ rfl rfl AB rfl (Tk (e:=e) (c:=c) (b:=b) (key:=c.CO.Bm) rfl rfl rfl) ⟨kq,kz⟩ ((AM (j:=0) rfl).trans (List.Perm.cons _ ((AM (j:=0) rfl).trans (List.Perm.cons _ ((AM (j:=0) rfl).trans (List.Perm.cons _ (List.Perm.refl _))))))) ?_;refine ap ?_;refine Tr.seq (Tr.seq (Tr.Du mixed 17 BQ (AY.op rfl rfl AB (BX rfl vq) (AY.op rfl rfl AB (A8 rfl vq) (AY.op rfl rfl AB (AG rfl Jb vq) (AY.op rfl rfl AB (Bi 0 rfl (A9 rfl MF vq rfl)) (AY.op rfl rfl AB (A8 rfl vq) (AY.op rfl rfl AB (AG rfl Ge vq) (AY.op rfl rfl AB (BX rfl vq) (AY.op rfl rfl AB (A8 rfl vq) (AY.op rfl rfl AB (AG rfl EK vq) (AY.op rfl rfl AB (AG rfl JZ vq) (AY.op rfl rfl AB (Bi 0 rfl (A9 rfl DP vq rfl)) ?_)))))))))))));refine AY.op rfl rfl AB (BX rfl vq) (AY.op rfl rfl AB (A8 rfl vq) (AY.op rfl rfl AB (AG rfl EK vq) (AY.op rfl rfl AB (AG rfl QG vq) (AY.op rfl rfl AB (Bi 0 rfl (Di rfl G5 B8 vq rfl rfl)) ?_))));refine AY.op rfl rfl AB (BS (GM (x:=c.CO) hx) rfl rfl) ?_;refine AY.turn _ rfl AB (E_ _ rfl rfl (XC (e:=e) (x:=c.CO) (at_:=c.at_) hr hl) ⟨kq,kz⟩ ((AM (j:=1) rfl).trans (List.Perm.cons _ ((AM (j:=1) rfl).trans (List.Perm.cons _ (List.Perm.refl _)))))) ?_;refine ac ?_;refine wk [4,3,0] rfl ?_;refine an ?_ ?_<;>intro h1 q1
 exact absurd h1 AB;refine ac ?_;refine an ?_ ?_<;>intro h2 q2
 refine ac ?_;refine Tr.ret (Fin.AF (Fin.drop 0 (Fin.drop 0 (Fin.Cl rfl (AL.tmp rfl Lr) ?_ (List.Perm.refl _)))))
 .exact Lr
 exfalso;have:=q2;omega
theorem fy{c b:Bl}(hx:c.CO.small)(hr:0<=c.at_/\c.at_<=(e.ids.length:Nat))(hl:e.ids.length<=1000000)(h:BI c.CO.Bm e.ids<0):BC prog 316 [ptr wb 0] [Bk wb ob c b,Br ob e (ints e.AR) (is v) (ints e.anchors) (ints e.hashes),An 78 4 (e.ids.map BT) v] (int 0) [Br ob e (ints e.AR) (G7 (e.ids.take c.at_.toNat++[c.CO]++e.ids.drop c.at_.toNat)) (ints e.anchors) (ints e.hashes),Bk wb ob c ⟨b.AZ,6,c.CO.Bm,b.at_,b.CO⟩]:=by
 refine BC.of func316 rfl rfl Ag fun M0 w0 S rs M1 w1=>?_;refine ac ?_;refine ap ?_;refine TO.Df _ rfl rfl AB rfl (Tk (e:=e) (c:=c) (b:=b) (key:=c.CO.Bm) rfl rfl rfl) ⟨kq,kz⟩ ((AM (j:=0) rfl).trans (List.Perm.cons _ ((AM (j:=0) rfl).trans (List.Perm.cons _ ((AM (j:=0) rfl).trans (List.Perm.cons _ (List.Perm.refl _))))))) ?_;refine ap ?_;refine Tr.seq (Tr.seq (Tr.Du mixed 17 BQ (AY.op rfl rfl AB (BX rfl vq) (AY.op rfl rfl AB (A8 rfl vq) (AY.op rfl rfl AB (AG rfl Jb vq) (AY.op rfl rfl AB (Bi 0 rfl (A9 rfl MF vq rfl)) (AY.op rfl rfl AB (A8 rfl vq) (AY.op rfl rfl AB (AG rfl Ge vq) (AY.op rfl rfl AB (BX rfl vq) (AY.op rfl rfl AB (A8 rfl vq) (AY.op rfl rfl AB (AG rfl EK vq) (AY.op rfl rfl AB (AG rfl JZ vq) (AY.op rfl rfl AB (Bi 0 rfl (A9 rfl DP vq rfl)) ?_)))))))))))));refine AY.op rfl rfl AB (BX rfl vq) (AY.op rfl rfl AB (A8 rfl vq) (AY.op rfl rfl AB (AG rfl EK vq) (AY.op rfl rfl AB (AG rfl QG vq) (AY.op rfl rfl AB (Bi 0 rfl (Di rfl G5 B8 vq rfl rfl)) ?_))));refine AY.op rfl rfl AB (BS (GM (x:=c.CO) hx) rfl rfl) ?_;refine AY.turn _ rfl AB (E_ _ rfl rfl (XC (e:=e) (x:=c.CO) (at_:=c.at_) hr hl) ⟨kq,kz⟩ ((AM (j:=1) rfl).trans (List.Perm.cons _ ((AM (j:=1) rfl).trans (List.Perm.cons _ (List.Perm.refl _)))))) ?_;refine ac ?_;refine wk [4,3,0] rfl ?_;refine an ?_ ?_<;>intro h1 q1
 exact absurd h1 AB;refine ac ?_;refine an ?_ ?_<;>intro h2 q2
 exfalso;have:=q2;omega;refine ac ?_;refine ap ?_;refine Tr.weak [] trivial ?_;refine ac ?_;refine Tr.ret (Fin.Cl rfl (AL.tmp rfl Lr) ?_ (List.Perm.refl _))
 .exact Lr
theorem ZJ{c b:Bl}{x:E9}(h:BI c.number e.ids<0):BC prog 317 [ptr wb 0] [Bk wb ob c b,Br ob e (ints e.AR) (is v) (ints e.anchors) (ints e.hashes),An 78 4 (e.ids.map BT) v] (int 41) []:=by
 refine BC.of func317 rfl rfl Ag fun M0 w0 S rs M1 w1=>?_;refine ac ?_;refine Tr.seq (Tr.Du mixed 6 BQ (AY.op rfl rfl AB (FO rfl ME rfl) (AY.op rfl rfl AB (FO rfl ME rfl) (AY.op rfl rfl AB (A8 rfl vq) (AY.op rfl rfl AB (AG rfl EK vq) (AY.op rfl rfl AB (AG rfl JY vq) (AY.op rfl rfl AB (Bi 0 rfl (A9 rfl DP vq rfl)) ?_)))))));refine AY.turn _ rfl AB (E_ _ rfl rfl (Tk (e:=e) (c:=c) (b:=b) (key:=c.number) rfl rfl rfl) ⟨kq,kz⟩ ((AM (j:=0) rfl).trans (List.Perm.cons _ ((AM (j:=0) rfl).trans (List.Perm.cons _ ((AM (j:=0) rfl).trans (List.Perm.cons _ (List.Perm.refl _)))))))) ?_;refine ac ?_;refine an ?_ ?_<;>intro h1 q1
 refine ac ?_;refine Tr.ret (Fin.AF (Fin.drop 0 (Fin.drop 0 (Fin.drop 0 (Fin.Cl rfl (AL.tmp rfl Lr) ?_ (List.Perm.refl _))))))
 .exact Lr
 exfalso;have:=q1;omega
theorem ZK{c b:Bl}{x:E9}(h:0<=BI c.number e.ids)(hx:e.ids[(BI c.number e.ids).toNat]? =some x)(ht:((e.ids.drop (BI c.number e.ids+1).toNat).any fun x=>x.Bm==c.number)=true)(hl:e.ids.length<=1000000):BC prog 317 [ptr wb 0] [Bk wb ob c b,Br ob e (ints e.AR) (is v) (ints e.anchors) (ints e.hashes),An 78 4 (e.ids.map BT) v] (int 5) []:=by
 refine BC.of func317 rfl rfl Ag fun M0 w0 S rs M1 w1=>?_;have hlt:=A7 hx;refine ac ?_;refine Tr.seq (Tr.Du mixed 6 BQ (AY.op rfl rfl AB (FO rfl ME rfl) (AY.op rfl rfl AB (FO rfl ME rfl) (AY.op rfl rfl AB (A8 rfl vq) (AY.op rfl rfl AB (AG rfl EK vq) (AY.op rfl rfl AB (AG rfl JY vq) (AY.op rfl rfl AB (Bi 0 rfl (A9 rfl DP vq rfl)) ?_)))))));refine AY.turn _ rfl AB (E_ _ rfl rfl (Tk (e:=e) (c:=c) (b:=b) (key:=c.number) rfl rfl rfl) ⟨kq,kz⟩ ((AM (j:=0) rfl).trans (List.Perm.cons _ ((AM (j:=0) rfl).trans (List.Perm.cons _ ((AM (j:=0) rfl).trans (List.Perm.cons _ (List.Perm.refl _)))))))) ?_;refine ac ?_;refine an ?_ ?_<;>intro h1 q1
 exfalso;have:=q1;omega;refine ac ?_;refine ap ?_;refine tp rfl (Bi 2 rfl (cM rfl underlying71 B8 vq vq AA Cg)) ?_;refine tp rfl (Fp rfl rfl) ?_;refine TO.Df _ rfl rfl AB rfl (c_ (l:=e.ids) (c:=c) (b:=b) (k:=(BI c.number e.ids+1).toNat)) ⟨kq,kz⟩ ((AM (j:=0) rfl).trans (List.Perm.cons _ ((AM (j:=1) rfl).trans (List.Perm.cons _ (List.Perm.refl _))))) ?_;refine ap ?_;refine wk [24,3,1] rfl ?_;refine Tr.cn rfl ?_ ?_<;>intro h2 q2
 refine ac ?_;refine Tr.ret (Fin.AF (Fin.drop 0 (Fin.drop 0 (Fin.drop 0 (Fin.Cl rfl (AL.tmp rfl Lr) ?_ (List.Perm.refl _))))))
 .exact Lr
 rw[ht]at h2;exact absurd h2 AB
theorem ZL{c b:Bl}{x:E9}(h:0<=BI c.number e.ids)(hx:e.ids[(BI c.number e.ids).toNat]? =some x)(ht:((e.ids.drop (BI c.number e.ids+1).toNat).any fun x=>x.Bm==c.number)=false)(hl:e.ids.length<=1000000):BC prog 317 [ptr wb 0] [Bk wb ob c b,Br ob e (ints e.AR) (is v) (ints e.anchors) (ints e.hashes),An 78 4 (e.ids.map BT) v] (int 0) [Bk wb ob c ⟨b.AZ,5,b.number,BI c.number e.ids,x⟩,Br ob e (ints e.AR) (G7 (e.ids.eraseIdx (BI c.number e.ids).toNat)) (ints e.anchors) (ints e.hashes)]:=by
 refine BC.of func317 rfl rfl Ag fun M0 w0 S rs M1 w1=>?_;have hlt:=A7 hx;refine ac ?_;refine Tr.seq (Tr.Du mixed 6 BQ (AY.op rfl rfl AB (FO rfl ME rfl) (AY.op rfl rfl AB (FO rfl ME rfl) (AY.op rfl rfl AB (A8 rfl vq) (AY.op rfl rfl AB (AG rfl EK vq) (AY.op rfl rfl AB (AG rfl JY vq) (AY.op rfl rfl AB (Bi 0 rfl (A9 rfl DP vq rfl)) ?_)))))));refine AY.turn _ rfl AB (E_ _ rfl rfl (Tk (e:=e) (c:=c) (b:=b) (key:=c.number) rfl rfl rfl) ⟨kq,kz⟩ ((AM (j:=0) rfl).trans (List.Perm.cons _ ((AM (j:=0) rfl).trans (List.Perm.cons _ ((AM (j:=0) rfl).trans (List.Perm.cons _ (List.Perm.refl _)))))))) ?_;refine ac ?_;refine an ?_ ?_<;>intro h1 q1
 exfalso;have:=q1;omega;refine ac ?_;refine ap ?_;refine tp rfl (Bi 2 rfl (cM rfl underlying71 B8 vq vq AA Cg)) ?_;refine tp rfl (Fp rfl rfl) ?_;refine TO.Df _ rfl rfl AB rfl (c_ (l:=e.ids) (c:=c) (b:=b) (k:=(BI c.number e.ids+1).toNat)) ⟨kq,kz⟩ ((AM (j:=0) rfl).trans (List.Perm.cons _ ((AM (j:=1) rfl).trans (List.Perm.cons _ (List.Perm.refl _))))) ?_;refine ap ?_;refine wk [24,3,1] rfl ?_;refine Tr.cn rfl ?_ ?_<;>intro h2 q2
 rw[ht]at h2;exact absurd h2 AB;refine ac ?_;refine Tr.seq (Tr.rx ?_);refine ay ?_;refine Jv 1 rfl rfl (FH rfl underlying71 B8 vq vq AA Cg) ?_;refine Jv 1 rfl rfl (Fv rfl G5 B8 vq (Ar fun _=>rfl) Mv) ?_;refine ay ?_;refine Cx.nil ⟨by kernel_rfl,?_⟩;refine BG.done N1 (Fin.go (wk [3,1] rfl (Tr.seq (Tr.rx ?_))));refine ay ?_;refine Cx.ef 1 rfl rfl AB (Au rfl rfl AB rfl (sK (l:=e.ids) (i:=(BI c.number e.ids).toNat) hlt hl) ⟨kq,⟨_,rfl,int_eq AA⟩,⟨_,rfl,int_eq AA⟩,trivial⟩) ?_;refine ay ?_;refine Cx.nil ⟨by kernel_rfl,?_⟩;refine BG.done N1 (Fin.go (Tr.weak [] trivial ?_));refine ac ?_;refine Tr.ret (Fin.drop 1 (Fin.Cl rfl (AL.tmp rfl Lr) ?_ (List.Perm.refl _)))
 .exact Lr
def FJ:List Pr:=[is .nilFunc,fn (.func 312) [],fn (.func 313) [],fn (.func 314) [],fn (.func 315) [],fn (.func 316) [],fn (.func 317) [],fn (.func 318) [],fn (.func 319) [],fn (.func 320) [],fn (.func 321) [],fn (.func 322) [],fn (.func 323) []]
def Tm(x:E9):Bool:=decide (x.CI=0/\x.bits=0)&&x.Bm==0&&(((x.chain.length:Nat):Int)==0)
def KB(c:Bl):Bool:=if c.kind=1 then Tm c.CO else if c.kind=5 then c.number==0 else c.at_==0&&Tm c.CO
structure DY.small(e:DY):Prop where
 AR:e.AR.length<=1000000
 anchors:e.anchors.length<=1000000
 hashes:e.hashes.length<=1000000
 SY:e.ids.length<=1000000
 ids:∀x∈e.ids,x.small
theorem NZ{c:Bl}(hx:c.CO.small):Aq prog 179 [agg (B7 c)] (agg (B7 c)):=by
 refine fo func179 rfl ⟨rfl,rfl⟩ fun M0 w0=>(Tr.seq (Tr.At ?_));refine TO.Iu rfl rfl AB rfl CM (fun b1=>?_);refine Tl rfl rfl rfl rfl I3 GS (fun b2=>?_);refine ap ?_;refine ap ?_;refine tp rfl (BS (GM (x:=c.CO) hx) rfl rfl) ?_;refine ap ?_;refine ap ?_;refine Tr.drop 1 (Tr.ret (Fin.B4 rfl (AL.cell 0 rfl rfl Ck CD rfl Lr) ?_))
 .exact Lr
theorem mE{x:E9}  :Aq prog 311 [agg (BT x)] (bool (Tm x)):=by
 refine fo func311 rfl ⟨rfl,rfl⟩ fun M0 w0=>?_
 .repeat' first|(refine bool_eq ?_;unfold Tm;simp_all)|refine co rfl (VM rfl vq vq) (cm rfl ?_)|refine ac ?_|(refine Ch.cg rfl rfl rfl ?_ ?_<;>intro h q)
theorem OX{c:Bl}  :Aq prog 262 [agg (B7 c)] (bool (KB c)):=by
 refine fo func262 rfl ⟨rfl,rfl⟩ fun M0 w0=>?_
 .repeat' first|(refine bool_eq ?_;unfold KB;simp_all)|refine co rfl (BS (mE (x:=c.CO)) rfl rfl) ?_|refine cy h rfl (BS (mE (x:=c.CO)) rfl rfl) ?_|refine ac ?_|(refine Tr.cn rfl ?_ ?_<;>intro h q)|(refine Ch.cg rfl rfl rfl ?_ ?_<;>intro h q)
theorem Gz   :Aq prog 263 [] (agg FJ):=by
 refine fo func263 rfl ⟨rfl,rfl⟩ fun M0 w0=>(Tr.seq (Tr.At ?_));refine Tl rfl rfl rfl rfl AFW vH (fun b1=>?_);refine ap ?_;refine ap ?_;refine Tr.ret (Fin.B4 rfl (AL.cell 0 rfl rfl xE vG rfl Lr) ?_)
 .exact Lr
theorem mF(Cb:e.small):KR prog 162 [agg (As e)] (fun x=>agg (mD e (ints e.AR) (is x) (ints e.anchors) (ints e.hashes))) (fun x=>[An 78 4 (e.ids.map BT) x]):=by
 refine KR.of func162 rfl rfl Ag fun M0 w0 S rs M1 w1=>?_;have hs1:=Cb.AR;have N2:=Cb.anchors;have YM:=Cb.hashes;have jD:=Cb.SY;refine Tr.seq (Tr.At ?_);refine TO.Iu rfl rfl AB rfl CM (fun b1=>?_);refine Tl rfl rfl rfl rfl HU Dn (fun b2=>?_);refine ao ?_;refine Tr.seq (Tr.pad (Tr.rx ?_));refine ax ?_;refine xo rfl (fun _=>BS (Dy (l:=e.AR) hs1) rfl rfl) ?_;refine ax ?_;refine xo rfl (fun _=>BS (Dy (l:=e.anchors) N2) rfl rfl) ?_;refine ax ?_;refine xo rfl (fun _=>BS (Dy (l:=e.hashes) YM) rfl rfl) ?_;refine ax ?_;refine Cx.ef 0 rfl rfl AB (EI rfl rfl AB rfl (I9 (l:=e.ids) jD) kz) ?_;refine xo rfl (fun _=>AG rfl GG vq) (Cx.ED 2 rfl rfl (BP rfl rfl vq Cf HO rfl Ag rfl) (xo rfl (fun _=>AG rfl MB vq) (Cx.ED 2 rfl rfl (BP rfl rfl vq Cf HO rfl Ag rfl) (xo rfl (fun _=>AG rfl MC vq) (Cx.ED 2 rfl rfl (BP rfl rfl vq Cf HO rfl Ag rfl) (xo rfl (fun _=>AG rfl Ge vq) (Cx.ED 2 rfl rfl (EL rfl rfl rfl vq rfl Sj Ag) ?_)))))));refine Cx.nil ⟨by kernel_rfl,?_⟩;refine BG.RN 0 2 16 rfl rfl AB rfl (fun v1=>?_);refine BG.done N1 (Fin.go (wk [2,1] rfl ?_));refine ac ?_;refine co rfl (Bi 0 rfl (GJ rfl underlying71 E4)) ?_;refine ac ?_;refine Tr.block (Tr.re 23 rfl (int_eq JM) (Tr.BV _ (kk [23,22,2,1] rfl) (fun k:Nat=>[(24,int ((k:Nat):Int))]) (fun k:Nat=>k<=(e.ids).length) (fun k:Nat=>(e.ids).length-k) 0 (Nat.zero_le _) kz ?_));rintro k BN;refine ac ?_;refine Tr.seq ?_;refine Tr.cn rfl ?_ ?_<;>intro h1 q1
 have Ae:k<(e.ids).length:=AQ h1;obtain⟨x,Ad⟩:=at_ Ae;have hxs:=Cb.ids x (List.mem_of_getElem? Ad);refine ac ?_;refine ao ?_;refine tp rfl (Bi 0 rfl (FH rfl underlying71 B8 E4 vq AA Cg)) ?_;refine tp rfl (Bi 0 rfl (Fv rfl G5 B8 vq (Ar fun _=>rfl) G_)) ?_;refine Tl rfl rfl rfl rfl NH MD (fun b3=>?_);refine tm rfl ?_;refine sf 0 4 ⟨rfl,rfl,rfl⟩ rfl rfl rfl rfl ?_;refine ao ?_;refine Tr.rx ?_;refine ax ?_;refine xo rfl (fun _=>BS (GM hxs) rfl rfl) ?_;refine Jv 0 rfl rfl (FH rfl underlying71 B8 E4 vq AA Cg) ?_;refine Cx.ED 0 rfl rfl (E3 rfl rfl vq CM B8 rfl (Ar fun _=>rfl) G_ AB (I6 (f:=BT) (q:=0) (m:=4) Ad rfl)) ?_;refine Cx.nil ⟨by kernel_rfl,?_⟩;refine BG.done N1 ?_;refine ac ?_;refine wk [24,23,22,2,1] rfl ?_;refine ac ?_;exact Fin.AP (k+1) ⟨Ae,by omega⟩ ⟨⟨_,rfl,AK k⟩,kz⟩;have BA:k=(e.ids).length:=by have:=AU h1;omega
 subst BA;refine ac ?_;refine ao ?_;refine TO.Ac 1 rfl rfl rfl vq CM rfl Bj rfl rfl ?_;refine ao ?_;refine Tr.drop 2 (Tr.ret (Fin.OR (Fin.fI v1 [_] rfl (AL.cell 0 rfl rfl Bw Bj rfl Lr) ?_ (List.Perm.refl _))))
 .exact Az ⟨Lr,Lr,Lr,Lr,Lr,Cy _ _,Lr,Lr,Lr,trivial⟩
theorem mG(Cb:e.small):KR prog 162 [agg (As e)] (fun x=>agg (mD e (is x) (G7 e.ids) (ints e.anchors) (ints e.hashes))) (fun x=>[An 3 1 (e.AR.map fun n=>[int n]) x]):=by
 refine KR.of func162 rfl rfl Ag fun M0 w0 S rs M1 w1=>?_;have hs1:=Cb.AR;have N2:=Cb.anchors;have YM:=Cb.hashes;have jD:=Cb.SY;refine Tr.seq (Tr.At ?_);refine TO.Iu rfl rfl AB rfl CM (fun b1=>?_);refine Tl rfl rfl rfl rfl HU Dn (fun b2=>?_);refine ao ?_;refine Tr.seq (Tr.pad (Tr.pad (Tr.rx ?_)));refine ax ?_;refine Cx.ef 0 rfl rfl AB (EI rfl rfl AB rfl (OW (l:=e.AR) hs1) kz) ?_;refine ax ?_;refine xo rfl (fun _=>BS (Dy (l:=e.anchors) N2) rfl rfl) ?_;refine ax ?_;refine xo rfl (fun _=>BS (Dy (l:=e.hashes) YM) rfl rfl) ?_;refine ax ?_;refine Cx.ef 1 rfl rfl AB (EI rfl rfl AB rfl (I9 (l:=e.ids) jD) kz) ?_;refine xo rfl (fun _=>AG rfl GG vq) (Cx.ED 3 rfl rfl (EL rfl rfl rfl vq rfl HO Ag) (xo rfl (fun _=>AG rfl MB vq) (Cx.ED 3 rfl rfl (OQ rfl rfl rfl vq Cf HO rfl (fun _=>by exact Nat.le_of_ble_eq_true rfl)) (xo rfl (fun _=>AG rfl MC vq) (Cx.ED 3 rfl rfl (OQ rfl rfl rfl vq Cf HO rfl (fun _=>by exact Nat.le_of_ble_eq_true rfl)) (xo rfl (fun _=>AG rfl Ge vq) (Cx.ED 3 rfl rfl (OP rfl rfl rfl vq rfl Sj (fun _=>by exact Nat.le_of_ble_eq_true rfl)) ?_)))))));refine Cx.nil ⟨by kernel_rfl,?_⟩;refine BG.kU 0 1 3 7 16 rfl rfl rfl AB AB AB AB rfl rfl (fun v1 v2=>?_);refine BG.done al5 (Fin.go (wk [2,1] rfl ?_));refine ac ?_;refine co rfl (Bi 1 rfl (GJ rfl underlying71 E4)) ?_;refine ac ?_;refine Tr.block (Tr.re 23 rfl (int_eq JM) (Tr.BV _ (kk [23,22,2,1] rfl) (fun k:Nat=>[(24,int ((k:Nat):Int))]) (fun k:Nat=>k<=(e.ids).length) (fun k:Nat=>(e.ids).length-k) 0 (Nat.zero_le _) kz ?_));rintro k BN;refine ac ?_;refine Tr.seq ?_;refine Tr.cn rfl ?_ ?_<;>intro h1 q1
 have Ae:k<(e.ids).length:=AQ h1;obtain⟨x,Ad⟩:=at_ Ae;have hxs:=Cb.ids x (List.mem_of_getElem? Ad);refine ac ?_;refine ao ?_;refine tp rfl (Bi 1 rfl (FH rfl underlying71 B8 E4 vq AA Cg)) ?_;refine tp rfl (Bi 1 rfl (Fv rfl G5 B8 vq (Ar fun _=>rfl) G_)) ?_;refine Tl rfl rfl rfl rfl NH MD (fun b3=>?_);refine tm rfl ?_;refine sf 0 4 ⟨rfl,rfl,rfl⟩ rfl rfl rfl rfl ?_;refine ao ?_;refine Tr.rx ?_;refine ax ?_;refine xo rfl (fun _=>BS (GM hxs) rfl rfl) ?_;refine Jv 1 rfl rfl (FH rfl underlying71 B8 E4 vq AA Cg) ?_;refine Cx.ED 1 rfl rfl (E3 rfl rfl vq CM B8 rfl (Ar fun _=>rfl) G_ AB (I6 (f:=BT) (q:=0) (m:=4) Ad rfl)) ?_;refine Cx.nil ⟨by kernel_rfl,?_⟩;refine BG.done al5 ?_;refine ac ?_;refine wk [24,23,22,2,1] rfl ?_;refine ac ?_;exact Fin.AP (k+1) ⟨Ae,by omega⟩ ⟨⟨_,rfl,AK k⟩,kz⟩;have BA:k=(e.ids).length:=by have:=AU h1;omega
 subst BA;refine ac ?_;refine Tr.seq (Tr.II 3 1 5 rfl rfl AB rfl (Cy _ _) (Ar fun _=>rfl) ?_);refine ao ?_;refine TO.Ac 2 rfl rfl rfl vq CM rfl Bj rfl rfl ?_;refine ao ?_;refine Tr.drop 1 (Tr.drop 2 (Tr.ret (Fin.OR (Fin.fI v1 [_] rfl (AL.cell 0 rfl rfl Bw Bj rfl Lr) ?_ (List.Perm.refl _)))))
 .exact Az ⟨Lr,Lr,Lr,Cy _ _,Lr,Lr,Lr,Lr,Lr,trivial⟩
def BO:DY:=⟨[],0,0,[],false,[],[],[],false⟩
def Bg:E9:=⟨0,0,0,[]⟩
def Bh:Bl:=⟨0,0,0,0,Bg⟩
abbrev CH(c:Bl):Bl:=⟨c.AZ,0,0,0,Bg⟩
abbrev HR(l:List Int):Prop:=l.Pairwise (· < ·)
def Dl(l:List Int)(x:Int):Nat:=(l.takeWhile fun y=>decide (y<x)).length
theorem QN(l:List Int)(x:Int):Dl l x<=l.length:=by
 unfold Dl;have h:=List.takeWhile_append_dropWhile (p:=fun y=>decide (y<x)) (l:=l);have:=congrArg List.length h;rw[List.length_append]at this;omega
theorem QO{x:Int}:∀{l:List Int} {k:Nat},k<=l.length->(∀(j:Nat) y,j<k->l[j]? =some y->y<x)->(∀y,l[k]? =some y->¬y<x)->Dl l x=k
  | [], k, hk, _, _ => by have : k = 0 := by simpa using hk
                          subst this;rfl
  |y::r,0,_,_,h2=>by unfold Dl;rw[List.takeWhile_cons_of_neg (by simpa using h2 y rfl)];rfl
  |y::r,k+1,hk,h1,h2=>by
    have ih:=QO (l:=r) (k:=k) (by simpa using hk) (fun j z hj hz=>h1 (j+1) z AA K7) (fun z hz=>h2 z K7);unfold Dl at ih ⊢;rw[List.takeWhile_cons_of_pos (by simpa using h1 0 y AA rfl),List.length_cons,ih]
theorem VW{x:Int}:∀{l:List Int} {j:Nat} {y:Int},j<Dl l x->l[j]? =some y->y<x
 |[],j,y,h,_=>by unfold Dl at h;simp at h
 |z::r,j,y,h,hy=>by
  by_cases hz:z<x
  .
   cases j with
   |zero=>simp at hy;subst hy;exact hz
   |succ j=>
    refine VW (l:=r) (j:=j) ?_ (by simpa using hy);unfold Dl at h ⊢;rw[List.takeWhile_cons_of_pos K7,List.length_cons]at h;omega
  .unfold Dl at h;rw[List.takeWhile_cons_of_neg K7]at h;simp at h
theorem dA{x:Int}:∀{l:List Int} {y:Int},l[Dl l x]? =some y->¬y<x
 |[],y,h=>by simp at h
 |z::r,y,h=>by
  by_cases hz:z<x
  .
   unfold Dl at h;rw[List.takeWhile_cons_of_pos K7,List.length_cons,List.getElem?_cons_succ]at h;exact dA (l:=r) h
  .unfold Dl at h;rw[List.takeWhile_cons_of_neg K7]at h;simp at h;subst h;exact hz
abbrev DI(l:List Int)(x:Int):Bool:=(l[Dl l x]?).any (fun y=>decide (y=x))
abbrev OY(l:List Int)(x:Int):List Int:=l.take (Dl l x)++[x]++l.drop (Dl l x)
theorem VX(hs:HR l){y z:Int}(hjk:j<k)(hy:l[j]? =some y)(hz:l[k]? =some z):y<z:=by
 have h1:=A7 hy;have h2:=A7 hz;have:=List.pairwise_iff_getElem.1 hs j k h1 h2 hjk;rw[List.getElem?_eq_getElem h1]at hy;rw[List.getElem?_eq_getElem h2]at hz;cases hy;cases hz;exact this
theorem yU{x:Int}(hs:HR l){h:Nat}{y:Int}(hy:l[h]? =some y)(hyx:y<x):∀(k:Nat) z,k<h+1->l[k]? =some z->z<x:=by
 intro k z hk hz;rcases Nat.lt_or_eq_of_le (Nat.le_of_lt_succ hk)with h1|h1
 .have:=VX hs h1 hz hy;omega
 .subst h1;rw[hy]at hz;cases hz;exact hyx
theorem yV{x:Int}(hs:HR l){h:Nat}{y:Int}(hy:l[h]? =some y)(hyx:¬y<x):∀(k:Nat) z,h<=k->l[k]? =some z->¬z<x:=by
 intro k z hk hz hzx;rcases Nat.lt_or_eq_of_le hk with h1|h1
 .have:=VX hs h1 hy hz;omega
 .subst h1;rw[hy]at hz;cases hz;exact hyx hzx
theorem mH{x:Int}(hp:Dl l x=i)(hi:l.length<=i):DI l x=false:=by
 unfold DI;rw[hp,List.getElem?_eq_none hi];rfl
theorem dB{x:Int}{y:Int}(hp:Dl l x=i)(hy:l[i]? =some y):DI l x=decide (y=x):=by
 unfold DI;rw[hp,hy];rfl
theorem FX(h:VQ l=true):HR l:=by
 unfold VQ at h;rw[B0]at h
 have h1:∀(d i:Nat) y z,l[i]? =some y->l[i+d+1]? =some z->y<z:=by
  intro d
  induction d with
  |zero=>
   intro i y z hy hz;have:=h (i+1) (A7 hz);unfold GV at this;rw[getD_at (show l[i+1]? =some z from hz),getD_at (show l[i+1-1]? =some y from hy)]at this
   simpa using this
  |succ d ih=>
   intro i y z hy hz;obtain⟨m,hm⟩:=at_ (l:=l) (k:=i+d+1) (by have:=A7 hz;omega);have a1:=ih i y m hy hm;have:=h (i+(d+1)+1) (A7 hz);unfold GV at this;rw[getD_at hz,getD_at (show l[i+(d+1)+1-1]? =some m from hm)]at this;have:m<z:=by simpa using this
   omega
 refine List.pairwise_iff_getElem.2 fun i j hi hj hij=>?_;refine h1 (j-i-1) i _ _ (List.getElem?_eq_getElem hi) ?_;rw[show i+(j-i-1)+1=j by omega];exact List.getElem?_eq_getElem hj
theorem mI{a:Int}  :Aq prog 249 [int a] (bool false):=by
 refine fo func249 rfl ⟨rfl,rfl⟩ fun M0 w0=>?_;refine a3 ?_
 .exact F7
theorem f_{a:Int}  :Aq prog 277 [int a] (bool false):=by
 refine fo func277 rfl ⟨rfl,rfl⟩ fun M0 w0=>?_;refine a3 ?_
 .exact F7
theorem sN{a b:Int}  :Aq prog 276 [int a,int b] (bool (decide (a<b))):=by
 refine fo func276 rfl ⟨rfl,rfl⟩ fun M0 w0=>?_
 .repeat' first|exact absurd h AB|exact Lr|refine co rfl (BS (mI) rfl rfl) (cm rfl ?_)|refine ac ?_|(refine Ch.cg rfl rfl rfl ?_ ?_<;>intro h q)
theorem ADK{x:Int}(hs:HR l)(hl:l.length<=1000000):Aq prog 383 [ints l,int x] (EB [int ((Dl l x:Nat):Int),bool (DI l x)]):=by
 refine fo func383 rfl ⟨rfl,rfl⟩ fun M0 w0=>(Tr.Dr 0 rfl fun Dq=>?_);refine a3 ?_;refine Tr.seq (Tr.block ?_);refine Tr.GF _ (kk [6,1,0] rfl) (fun(i:Nat) (j:Nat)=>[(7,int ((i:Nat):Int)),(8,int ((j:Nat):Int))]) (fun(i:Nat) (j:Nat)=>Hp M0 w0 Ju ([])) (fun(i:Nat) (j:Nat)=>i<=j/\j<=l.length/\(∀(k:Nat) y,k<i->l[k]? =some y->y<x)/\(∀(k:Nat) y,j<=k->l[k]? =some y->¬y<x)) (fun(i:Nat) (j:Nat)=>j-i) (0) (l.length)  (⟨Nat.zero_le _,Nat.le_refl _,fun k y h=>absurd h (Nat.not_lt_zero _),fun k y h1 h2=>by rw[List.getElem?_eq_none h1]at h2;cases h2⟩) ⟨kq,kz⟩ (fun _ _ h=>h) ?_;rintro i j  ⟨hi1,hi2,hi3,hi4⟩;refine an ?_ ?_<;>intro h1 q1
 have hij:i<j:=by have:=of_decide_eq_true h1;omega
 obtain⟨y,hyn⟩:=at_ (l:=l) (k:=(i+j)/2) AA;have hy:l[((((i:Nat):Int)+((j:Nat):Int))/2).toNat]? =some y:=by rw[show((((i:Nat):Int)+((j:Nat):Int))/2).toNat=(i+j)/2 by omega];exact hyn
 refine a2 ?_;refine co rfl (kS rfl underlying3 underlying331 vq AA AA) (co rfl (rL rfl vq vq AA) ?_);refine co rfl (Wg rfl underlying331 underlying3 vq H8) ?_;refine ac ?_;refine wk [9,8,7,6,1,0] rfl ?_;refine ac ?_;refine co rfl (AD rfl underlying22 C4 vq vq AA (CS (f:=fun n:Int=>[int n]) hy)) ?_;refine ac ?_;refine co rfl (CG (sN) rfl rfl rfl) ?_;refine an ?_ ?_<;>intro h2 q2
 have hlt:=of_decide_eq_true h2;refine ac ?_;exact Fin.Gw ((i+j)/2+1) (j)  (⟨⟨by omega,by omega,yU hs hyn hlt,hi4⟩,by omega⟩) ⟨⟨_,rfl,int_eq AA⟩,⟨_,rfl,int_eq AA⟩,kz⟩ (fun _ _ h=>h);have hlt:=of_decide_eq_false h2;refine ac ?_;exact Fin.Gw (i) ((i+j)/2)  (⟨⟨by omega,by omega,hi3,yV hs hyn hlt⟩,by omega⟩) ⟨⟨_,rfl,int_eq AA⟩,⟨_,rfl,int_eq AA⟩,kz⟩ (fun _ _ h=>h);obtain rfl:i=j:=(by have:=of_decide_eq_false h1;omega);have hp:Dl l x=i:=QO AA hi3 (fun y hy=>hi4 i y AA hy);refine ac ?_;refine ag ?_ ?_<;>intro h3 q3
 obtain⟨y,hyi⟩:=at_ (l:=l) (k:=i) (by have:=q3;simp at this;omega);refine ac ?_;refine cy h3 rfl (AD rfl underlying22 C4 vq vq AA (CS (f:=fun n:Int=>[int n]) (by rw[Int.toNat_natCast];exact hyi))) ?_;refine ag ?_ ?_<;>intro h4 q4
 refine ac ?_;refine wk [5,4] rfl (Tr.ret (Fin.C_ rfl (CL.Eo _ _) rfl ?_ rfl ?_))
 .exact int_eq (by rw[hp])
 .refine bool_eq ?_;rw[dB hp hyi];symm;rw[decide_eq_true_eq];simp_all
 refine ac ?_;refine cy h4 rfl (AD rfl underlying22 C4 vq vq AA (CS (f:=fun n:Int=>[int n]) (by rw[Int.toNat_natCast];exact hyi))) ?_;refine cy h4 rfl (FO rfl DP rfl) (cy h4 rfl (BS (f_) rfl rfl) (JW h4 rfl ?_));refine Ch.cs 48 rfl ?_ ?_<;>intro h5 q5
 exact absurd h5 AB;refine ac ?_;refine wk [5,4] rfl (Tr.ret (Fin.C_ rfl (CL.Eo _ _) rfl ?_ rfl ?_))
 .exact int_eq (by rw[hp])
 .refine bool_eq ?_;rw[dB hp hyi];symm;rw[decide_eq_false_iff_not];simp_all
 refine ac ?_;refine wk [5,4] rfl (Tr.ret (Fin.C_ rfl (CL.Eo _ _) rfl ?_ rfl ?_))
 .exact int_eq (by rw[hp])
 .refine bool_eq ?_;rw[mH hp AA]
theorem KZ{x:Int}(hs:HR l)(hl:l.length<=1000000):BM Tryz.prog 383 [is v,int x] (EB [int ((Dl l x:Nat):Int),bool (DI l x)]) (An 3 1 (l.map fun n=>[int n]) v) (fun _=>An 3 1 (l.map fun n=>[int n]) v):=BM.Rc (Ar fun _=>rfl) (ADK hs hl)
end Go.Proofs.YthommhphcagokaaGreatDoor
