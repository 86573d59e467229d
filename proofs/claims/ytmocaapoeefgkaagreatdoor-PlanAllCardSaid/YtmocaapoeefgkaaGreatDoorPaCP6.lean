/-
  Part 6 of the texts that prove this claim, merged.
-/
import Derived.Test.YtmocaapoeefgkaaGreatDoorPaCP5
set_option linter.all false
set_option maxRecDepth 40000
set_option maxHeartbeats 16000000
namespace Cp
open Go Go.RowKit Go.Great
section
variable {P:Program} {L:Lg P} {n:Fm} {fz:Nat} {E:Env} {M0:Av} {w0:World} {S:Nat→Prop} {o:Oper}
def ju (T:TypeId) (u v:Value):An:=match v with| .pointer (some a)=>AE true a.block T (u.cells.toList.map is)|_=>Bb
theorem Z5 {j d s:Nat} {R:SR} {p1 q:Pr} {p:Value→Pr} {R':Value→Value→An} (hd:o.dst=some d) (hs:d≠s) (hq:∀v,Pr.le (p v) q) (hg:o.guard=none) (h1:E.lookup s=some p1) (hls:s∈looks o) (h:∀v,Di P M0 w0 S n j R ⟨d,R' v⟩ o ((s,Ae v p1)::E) (p v)):Di P M0 w0 S n j R ⟨.two d s,VT R'⟩ o E q:=by
 refine ⟨hg,fun M w a rs hsz he hI hj=> ?_⟩
 refine D_.conv (hq _) (fun v=> ?_) ((h (a.tmps.getD s undef)).2 M w a rs hsz (Im he s (he s p1 hls h1)) hI hj)
 rw [Ol,hd,BN (Ne.symm hs)];rfl
theorem R7 {t:TypeId} {s y:Tmp} {j m:Nat} {T:TypeId} {ps qs:List Pr} {p:Pr} (hg:o.guard=none) (hd:o.dst=none) (ho:o.op= .store t (.tmp s) (.tmp y)) (hsy:s≠y) (hx:E.lookup s=some (Cp.ex fun b=>ptr b 0)) (hy:E.lookup y=some p) (hp:Pr.le p (Co qs))
  (hz:Au P t=some m) (hm:qs.length=m) (hl:ps.length=m):Di P M0 w0 S n j ⟨s,FN T ps⟩ ⟨.two s y,VT fun u v=>ju T u v⟩ o E any:=by
 refine ⟨hg,fun M w a rs hsz he hI hj=> ?_⟩
 have hyl:y∈looks o:=R6 (op:= .store t (.tmp s) (.tmp y)) (by simp [Op.operands]) ho
 have hpy:=hp _ _ _ (he y p hyl hy)
 have hle:Pr.le (Ae (a.tmps.getD y undef) (Co qs)) (Co ((a.tmps.getD y undef).cells.toList.map is)):=fun M w v h=>by
  obtain ⟨rfl,h2⟩:=h
  obtain ⟨g1,g2⟩:=h2
  exact ⟨Kh _ _ _,g2⟩
 have h:=(Hs (P:=P) (M0:=M0) (w0:=w0) (S:=S) (n:=n) (j:=j) (T:=T) (ps:=ps) (qs:=(a.tmps.getD y undef).cells.toList.map is) (E:=(y,Ae (a.tmps.getD y undef) (Co qs))::E) hg hd ho Yp ⟨_,List.lookup_cons_self,hle⟩ hz (by have:=hpy.1.length;rw [List.length_map];omega) hl).2 M w a rs hsz (Im he y hpy) hI hj
 refine D_.conv (Pr.le_refl _) (fun v=> ?_) h
 rw [Ol,hd];rfl
end
section
variable {P:Program} {L:Lg P} {n:Fm} {fz:Nat} {E:Env} {M0:Av} {w0:World} {S:Nat→Prop} {rs:List An} {Q:Exit→Act→World→Prop}
theorem VU {M:Av} {w:World}:∀{zs cs:List Value},HL M w (zs.map is) cs→cs=zs
 |[],[],_=>rfl
 |[],_::_,h=>h.elim
 |_::_,[],h=>h.elim
 |z::zs,c::cs,h=>by
  obtain ⟨h1,h2⟩:=h
  rw [VU h2,show c=z from h1]
theorem Fin.VV {e:Exit} {T:TypeId} {u:Value} {b:Nat} {ps:List Pr} (i j:Nat) (hi:rs[i]? =some (Jp (agg ps) u)) (hj:rs[j]? =some (ju T u (.pointer (some ⟨b,0,none⟩)))) (k:Fin n E (Hp M0 w0 S (rs.set j (AE true b T ps))) Q e):Fin n E (Hp M0 w0 S rs) Q e:=by
 rintro a w ⟨M,h1,h2,h3,h4⟩
 have h4:At M0 w0 S rs M w:=h4
 refine k a w ⟨M,h1,h2,h3,At.CD h4 hj rfl rfl ?_⟩
 obtain ⟨cs,rfl,_,hcs⟩:=(h4.hold _ (List.mem_of_getElem? hi)).1
 obtain ⟨g0,cs',g1,g2,g3⟩:=(h4.hold _ (List.mem_of_getElem? hj)).1
 have e1:cs'=cs:=by
  have:=VU g2
  rw [this];show cs.toArray.toList=cs;simp
 subst e1
 exact ⟨g0,cs',g1,hcs,g3⟩
end
section
variable {P:Program}
theorem BR.qN {f:FuncId} {args:List Pr} {res:Pr} {r:An} (h:BR P f args res r (fun _=>r)) (hb:r.blk=none) (W:World) (vs:List Value) (hr:r.h gA W) (hv:HL gA W args vs):
  Calls P f vs.toArray W fun e w'=>∃v,e= .returned v∧res.h gA w' v∧Below W.heap.size W w':=by
 refine (h.2 gA W II [] gA W vs ((At.begin (tM W)).I8 (r:=r) hb hr) hv).mono ?_
 rintro e w' ⟨v,M',rfl,h2,h3,h4⟩
 exact ⟨v,rfl,res.st _ _ _ _ _ (Ext.less h4.m) h2,h4.below⟩
end
section
variable {P:Program} {n:Fm} {E:Env} {M0:Av} {w0:World} {S:Nat→Prop} {rs:List An} {Q:Exit→Act→World→Prop} {p0 p1:Pr} {R:Value→An}
end
section
variable {P:Program} {L:Lg P} {n:Fm} {E:Env} {M0:Av} {w0:World} {S:Nat→Prop} {rs:List An} {Q:Exit→Act→World→Prop} {c:Code}
variable {ε:Type}
theorem Z6 {f:ε→An}:∀{X:List ε} {k:Nat} {x:ε},X[k]? =some x→(Gw (fun x=>[f x]) X)[k]? =some (f x)
 |[],_,_,h=>by simp at h
 |a::X,0,x,h=>by simp at h;subst h;rfl
 |a::X,k+1,x,h=>by
  show (Gw (fun x=>[f x]) X)[k]? =_
  exact Z6 DM
theorem Fin.fold {x:Exit} {res:ε→List An} (CZ:List An) {es:List ε} (y:ε) (OC:rs=res y++(CZ++Gw res es)) (k:Fin n E (Hp M0 w0 S (CZ++Gw res (es++[y]))) Q x):Fin n E (Hp M0 w0 S rs) Q x:=
 Fin.MK (by
  subst OC
  rw [U0,←List.append_assoc CZ]
  exact List.perm_append_comm) k
theorem Tr.qO {f:ε→Value} {g:ε→Pr} {X:List ε} {p:Pr} (j s:Nat) (hj:rs[j]? =some (je f g X)) (hs:E.lookup s=some p) (hp:Pr.le p (slice 1 (X.map fun x=>[is (f x)]))) (k:Tr L n ((s,slice 1 (X.map fun x=>[g x]))::E) (Hp M0 w0 S rs) c Q):Tr L n E (Hp M0 w0 S rs) c Q:=by
 intro a w ha
 obtain ⟨M,k1,k2,k3,k4⟩:=ha
 have k4:At M0 w0 S rs M w:=k4
 refine k a w ⟨M,k1,k2,fun t q hq=> ?_,k4⟩
 simp only [List.lookup] at hq
 split at hq
 ·
  rename_i e1
  have:t=s:=by simpa using e1
  subst this
  simp only [Option.some.injEq] at hq
  subst hq
  obtain ⟨ad,cap,h1,h2,h3,h4,h5⟩:=hp _ _ _ (k3 t p hs)
  have hall:=(k4.hold _ (List.mem_of_getElem? hj)).1
  refine ⟨ad,cap,by rw [h1];simp,by simpa using h2,h3,h4,fun i row hr=> ?_⟩
  rw [List.getElem?_map] at hr
  cases hx:X[i]? with
  |none=>rw [hx] at hr;cases hr
  |some x=>
   rw [hx] at hr
   simp only [Option.map_some,Option.some.injEq] at hr
   subst hr
   obtain ⟨_,ad2,h6,h7⟩:=h5 i [is (f x)] (by rw [List.getElem?_map,hx];rfl)
   refine ⟨rfl,ad2,h6,fun q r hr=> ?_⟩
   cases q with
   |zero=>
    simp only [List.getElem?_cons_zero,Option.some.injEq] at hr
    subst hr
    obtain ⟨u,h8,h9,h10,h11⟩:=h7 0 _ rfl
    have hu:u=f x:=h11
    exact ⟨u,h8,h9,h10,by rw [hu];exact hall x (List.mem_of_getElem? hx)⟩
   |succ q=>simp at hr
 · exact k3 t q hq
abbrev Gs (e:TypeId) (x:Nat×List Bool):List An:=[AE true x.1 e (x.2.map fun b=>bool b)]
theorem jv {n:Nat}:(List.replicate n (Value.bool false)).map is=(List.replicate n false).map fun b=>bool b:=by rw [List.map_replicate,List.map_replicate]
theorem Tr.qP {e:TypeId} {m:Nat} {X:List (Nat×List Bool)} {p:Pr} (CZ:List An) (s:Nat) (OC:rs=CZ++Gw (Gs e) X) (hm:m≤maxLen) (hX:∀x∈X,x.2.length=m) (hs:E.lookup s=some p) (hp:Pr.le p (slice 1 (X.map fun x=>[is (J8 m x.1)])))
  (k:Tr L n ((s,slice 1 (X.map fun x=>[slice 1 (x.2.map fun b=>[bool b])]))::E) (Hp M0 w0 S (je (fun x:Nat×List Bool=>J8 m x.1) (fun x=>slice 1 (x.2.map fun b=>[bool b])) X::CZ)) c Q):Tr L n E (Hp M0 w0 S rs) c Q:=by
 subst OC
 intro a w hst
 obtain ⟨M,k1,k2,k3,k4⟩:=hst
 have k4:At M0 w0 S (CZ++Gw (Gs e) X) M w:=k4
 obtain ⟨M1,g1,g2,g3⟩:=At.Te (w:=w) (Φ:=fun (x:Nat×List Bool) M w=>Row M w ⟨x.1,0,none⟩ 0 (x.2.map fun b=>bool b)) (fun x M M' he h=>Row.st he h) (fun x rs M h=>by
  obtain ⟨M',h1,h2,h3⟩:=At.OZ h
  exact ⟨M',h2,h1,h3⟩) X _ M k4
 refine Tr.qO (f:=fun x:Nat×List Bool=>J8 m x.1) (g:=fun x=>slice 1 (x.2.map fun b=>[bool b])) (X:=X) 0 s rfl hs hp k a w ⟨M1,k1,k2,fun t q hq=>q.st _ _ _ _ _ g1 (k3 t q hq),At.I8 g2 rfl fun x hx=> ?_⟩
 have hl:=hX x hx
 refine ⟨some ⟨x.1,0,none⟩,m,by rw [List.length_map,hl],by rw [List.length_map,hl];exact Nat.le_refl _,hm,(fun h=>nomatch h),fun i row hr=> ?_⟩
 rw [List.getElem?_map] at hr
 cases hb:x.2[i]? with
 |none=>rw [hb] at hr;cases hr
 |some b=>
  rw [hb] at hr
  simp only [Option.map_some,Option.some.injEq] at hr
  subst hr
  refine ⟨rfl,_,rfl,fun q r hq=> ?_⟩
  cases q with
  |zero=>
   simp only [List.getElem?_cons_zero,Option.some.injEq] at hq
   subst hq
   have:=g3 x hx i (bool b) (by rw [List.getElem?_map,hb];rfl)
   simpa using this
  |succ q=>simp at hq
end
section
variable {P:Program} {I:CS} {o:Oper} {E:Env}
end
section
variable {P:Program} {fz:Nat} {E:Env} {M0:Av} {w0:World} {rs:List An} {g:Func}
end
section
variable {P:Program} {L:Lg P} {n:Fm} {E:Env} {M0:Av} {w0:World} {S:Nat→Prop} {rs:List An} {o:Oper} {β:Type} {f:β→List Pr} {φ:β→Prop}
theorem D_.wk {a:Act} {M:Av} {w:World} {p:Pr} {j:Nat} {R1 R2:SR} {rs:List An} {r:Result Next} (hjl:j<rs.length) (hd:o.dst=none) (hb:(R2.at_ a).blk=(R1.at_ a).blk) (hn:(R2.at_ a).new=(R1.at_ a).new) (hh:∀M w,(R1.at_ a).h M w→(R2.at_ a).h M w) (h:D_ P M0 w0 S o a M w p j R1 rs r):D_ P M0 w0 S o a M w p j R2 rs r:=by
 have key:∀v M' w',At M0 w0 S (rs.set j (R1.at_ (a.put o.dst v))) M' w'→At M0 w0 S (rs.set j (R2.at_ (a.put o.dst v))) M' w':=by
  intro v M' w' hI
  rw [hd] at hI ⊢
  have hI:At M0 w0 S (rs.set j (R1.at_ a)) M' w':=hI
  have h1:(rs.set j (R1.at_ a))[j]? =some (R1.at_ a):=by rw [List.getElem?_set_self hjl]
  have:=hI.CD (r':=R2.at_ a) h1 hb hn (hh _ _ (hI.hold _ (List.mem_of_getElem? h1)).1)
  rw [List.set_set] at this
  exact this
 cases r with
 |halt x w'=>exact h
 |ok x w'=>
  cases x
  case value v=>obtain ⟨M',g1,g2,g3⟩:=h;exact ⟨M',g1,g2,key _ _ _ g3⟩
  case skip=>obtain ⟨M',g1,g2,g3⟩:=h;exact ⟨M',g1,g2,key _ _ _ g3⟩
  case enter f args=>
   refine Calls.mono h ?_
   rintro e w'' ⟨v,M',g0,g1,g2,g3⟩
   exact ⟨v,M',g0,g1,g2,key _ _ _ g3⟩
  all_goals exact h
end
section
variable {P:Program} {L:Lg P} {n:Fm} {fz:Nat} {E:Env} {I:CS} {M0:Av} {w0:World} {S:Nat→Prop} {rs:List An} {Q:Exit→Act→World→Prop} {c:Code}
theorem Tr.jw {α β:Type} {p gf:Nat} {g:Operand} {lb:Array Value} {enc:α→Value} {xs:List α} {own:List α→List An} {assign body:Code} (q:Nat) (K:Env) (hK:CE E K) (R RX:List α→β→List An) (d0:β)
  (hIt:MJ P gf lb enc xs own) (eg:Entry P gf) (hg:VL E g (is (.func (.func gf) #[] lb))) (OC:rs.Perm (own []++R [] d0)) (hp:K.lookup p=none) (hpn:p<n.sz)
  (hassign:∀l D rec M1 w1 pre x d,(pre++[x])<+:xs→Tr (Zy P (some l)) ⟨n.sz,[]⟩ ((p,is (enc x))::K) (Hp M0 w0 S (own (pre++[x])++Fj l D rec M1 w1 (R pre d))) assign (Exit.then (St ⟨n.sz,[]⟩ ((q,is (enc x))::K) (Hp M0 w0 S (own (pre++[x])++Fj l D rec M1 w1 (R pre d)))) (fun _ _ _=>False)))
  (hbody : ∀ l D rec M1 w1 pre x d, (pre ++ [x]) <+: xs → Tr (Zy P (some l)) ⟨n.sz, []⟩ ((q, is (enc x)) :: K) (Hp M0 w0 S (own (pre ++ [x]) ++ Fj l D rec M1 w1 (R pre d))) body
   (Ik M0 w0 S (fun d:β=>own (pre++[x])++Fj l D rec M1 w1 (R (pre++[x]) d)) (fun c d=>own (pre++[x])++Fj l D rec M1 w1 (B0 (c= .ret)::RX (pre++[x]) d))))
  (hdone:∀l D rec M1 w1 d,Fin ⟨n.sz,mark D::n.df⟩ E (Hp M0 w0 S (own xs++Fj l D rec M1 w1 (R xs d))) Q .normal)
  (hstop:∀l D rec M1 w1 pre d,pre<+:xs→Fin ⟨n.sz,mark D::n.df⟩ E (Hp M0 w0 S (own pre++Fj l D rec M1 w1 (RX pre d))) Q .ret):
  Tr (V_ P) n E (Hp M0 w0 S rs) (.rangeFunc g #[p] assign body) Q:=by
 refine Tr.jZ (fun x=>(q,is (enc x))::K) R (fun c pre d=>B0 (c= .ret)::RX pre d) d0 hIt (fun args w=>Cz eg args w) hg OC ?_ ?_ hdone ?_
 ·
  intro l D rec M1 w1 pre x d hpre a hsz hE M w hI
  have hx:Ext M1 w1 M w:=(hI.hold (Ak M1 w1) AO).1
  refine hassign l D rec M1 w1 pre x d hpre _ w ⟨M,by simpa using hsz,rfl,fun s z hq=> ?_,hI⟩
  simp only [List.lookup] at hq
  by_cases hs:s=p
  ·
   subst hs
   simp only [beq_self_eq_true,Option.some.injEq] at hq
   subst hq
   show (a.tmps.setIfInBounds s (enc x)).getD s undef=enc x
   simp [Array.getD_eq_getD_getElem?,hsz,hpn]
  ·
   rw [show (s==p)=false by simpa using hs] at hq
   obtain ⟨z',G8,S2⟩:=hK.spec s z hq
   have h2:=z.st _ _ _ _ _ hx (S2 _ _ _ (hE s z' G8))
   show z.h M w ((a.tmps.setIfInBounds p (enc x)).getD s undef)
   have e1:(a.tmps.setIfInBounds p (enc x)).getD s undef=a.tmps.getD s undef:=by
    simp only [Array.getD_eq_getD_getElem?]
    rw [Array.getElem?_setIfInBounds_ne (fun e=>hs e.symm)]
   rw [e1];exact h2
 ·
  intro l D rec M1 w1 pre x d hpre
  exact hbody l D rec M1 w1 pre x d hpre
 ·
  intro l D rec M1 w1 c pre d hpre a w ⟨M,h1,h2,h3,h⟩
  have h:At M0 w0 S (own pre++Fj l D rec M1 w1 (B0 (c= .ret)::RX pre d)) M w:=h
  have hc:c= .ret:=(h.hold (B0 (c= .ret)) AO).1
  subst hc
  have h5:At M0 w0 S (B0 (Code.ret= .ret)::(own pre++Fj l D rec M1 w1 (RX pre d))) M w:=by
   refine At.perm ?_ h
   have:=List.perm_middle (a:=B0 (Code.ret= .ret)) (l₁:=own pre++[BB l rec,BB D (.deferred (some [])),Ak M1 w1]) (l₂:=RX pre d)
   simpa [Fj] using this
  exact Tr.ret (hstop l D rec M1 w1 pre d hpre) a w ⟨M,h1,h2,h3,At.Iv h5⟩
theorem Tr.jd {α β:Type} {p gf:Nat} {g:Operand} {lb:Array Value} {enc:α→Value} {xs:List α} {own:List α→List An} {assign body:Code} (q:Nat) (K:Env) (hK:CE E K) (R:List α→β→List An) (d0:β)
  (hIt:MJ P gf lb enc xs own) (eg:Entry P gf) (hg:VL E g (is (.func (.func gf) #[] lb))) (OC:rs.Perm (own []++R [] d0)) (hp:K.lookup p=none) (hpn:p<n.sz)
  (hassign:∀l D rec M1 w1 pre x d,(pre++[x])<+:xs→Tr (Zy P (some l)) ⟨n.sz,[]⟩ ((p,is (enc x))::K) (Hp M0 w0 S (own (pre++[x])++Fj l D rec M1 w1 (R pre d))) assign (Exit.then (St ⟨n.sz,[]⟩ ((q,is (enc x))::K) (Hp M0 w0 S (own (pre++[x])++Fj l D rec M1 w1 (R pre d)))) (fun _ _ _=>False)))
  (hbody : ∀ l D rec M1 w1 pre x d, (pre ++ [x]) <+: xs → Tr (Zy P (some l)) ⟨n.sz, []⟩ ((q, is (enc x)) :: K) (Hp M0 w0 S (own (pre ++ [x]) ++ Fj l D rec M1 w1 (R pre d))) body
   (Ik M0 w0 S (fun d:β=>own (pre++[x])++Fj l D rec M1 w1 (R (pre++[x]) d)) (fun c _=>own (pre++[x])++Fj l D rec M1 w1 [B0 (c= .ret),B0 False])))
  (hdone:∀l D rec M1 w1 d,Fin ⟨n.sz,mark D::n.df⟩ E (Hp M0 w0 S (own xs++Fj l D rec M1 w1 (R xs d))) Q .normal):
  Tr (V_ P) n E (Hp M0 w0 S rs) (.rangeFunc g #[p] assign body) Q:=
 Tr.jw q K hK R (fun _ _=>[B0 False]) d0 hIt eg hg OC hp hpn hassign hbody hdone fun l D rec M1 w1 pre d _ a w ⟨M,_,_,_,h⟩=>by
  have h:At M0 w0 S (own pre++Fj l D rec M1 w1 [B0 False]) M w:=h
  exact ((h.hold (B0 False) AO).1).elim
theorem Fin.vM {β:Type} {rr:β→List An} {os:List An} {tl:β→List An} {l D:Nat} {rec:Obj} {M1:Av} {w1:World} (d:β) (hp:rs.Perm (os++Fj l D rec M1 w1 (tl d))):Fin n E (Hp M0 w0 S rs) (Ik M0 w0 S rr (fun c d=>os++Fj l D rec M1 w1 (B0 (c= .ret)::tl d))) .ret:=by
 rintro a w ⟨M,_,_,_,h⟩
 have h:At M0 w0 S rs M w:=h
 refine ⟨d,M,At.perm ?_ (At.I8 (At.perm hp h) (r:=B0 (Code.ret= .ret)) rfl rfl)⟩
 have:=(List.perm_middle (a:=B0 (Code.ret= .ret)) (l₁:=os++[BB l rec,BB D (.deferred (some [])),Ak M1 w1]) (l₂:=tl d)).symm
 simpa [Fj] using this
theorem Fin.prop {e:Exit} {p:Prop} (j:Nat) (hj:rs[j]? =some (B0 p)) (k:p→Fin n E (Hp M0 w0 S rs) Q e):Fin n E (Hp M0 w0 S rs) Q e:=fun a w hs=>by
 obtain ⟨M,h1,h2,h3,h4⟩:=hs
 have h4:At M0 w0 S rs M w:=h4
 exact k (h4.hold _ (List.mem_of_getElem? hj)).1 a w ⟨M,h1,h2,h3,h4⟩
theorem Fin.jx {e:Exit} {p q:Prop} (j:Nat) (hj:rs[j]? =some (B0 p)) (h:p→q) (k:Fin n E (Hp M0 w0 S (rs.set j (B0 q))) Q e):Fin n E (Hp M0 w0 S rs) Q e:=fun a w hs=>by
 obtain ⟨M,h1,h2,h3,h4⟩:=hs
 have h4:At M0 w0 S rs M w:=h4
 exact k a w ⟨M,h1,h2,h3,h4.CD hj rfl rfl (h (h4.hold _ (List.mem_of_getElem? hj)).1)⟩
theorem A7.sS (i:Nat) {c:Tmp} {t T:TypeId} {b:Nat} {new:Bool} {q p:Pr} (h:E.lookup c=some (ptr b 0)) (hi:rs[i]? =some (AE new b T [q])) (ht:ES P t=true) (hl:Pr.le q p):A7 P E rs (.cell c t) p:=by
 intro M w a he hr
 obtain ⟨_,cs,h4,h5,_⟩:=hr _ (List.mem_of_getElem? hi)
 obtain ⟨v,hv,hh⟩:=h5.at_ 0 q rfl
 have hc:w.cell? ⟨b,0,none⟩=some v:=by simp [World.cell?,h4,hv]
 have h1:(loadVar t ⟨b,0,none⟩).run P w= .ok v w:=by simp [loadVar,D8 ht,hc]
 refine ⟨v,?_,hl _ _ _ hh⟩
 have hc2:a.tmps.getD c undef= .pointer (some ⟨b,0,none⟩):=he _ _ h
 unfold Ni
 simp only [hc2,asAddr]
 simpa [Sem.run_bind] using h1
theorem Tr.jy {T:TypeId} {sz:Nat} {rows:List (List Pr)} {v:Value} (j:Nat) (hj:rs[j]? =some (BM T sz rows v)) (k0:rows=[]→v= .slice none 0 0→Tr L n E (Hp M0 w0 S (rs.set j Bb)) c Q) (k1:Tr L n E (Hp M0 w0 S (rs.set j (DE T sz rows v))) c Q):Tr L n E (Hp M0 w0 S rs) c Q:=fun a w hs=>by
 obtain ⟨M,h1,h2,h3,h4⟩:=hs
 have h4:At M0 w0 S rs M w:=h4
 rcases (h4.hold _ (List.mem_of_getElem? hj)).1 with ⟨e1,e2⟩|hm
 · exact k0 e1 e2 a w ⟨M,h1,h2,h3,h4.CD (r':=Bb) hj (by rw [e2];rfl) rfl trivial⟩
 · exact k1 a w ⟨M,h1,h2,h3,h4.CD (r':=DE T sz rows v) hj rfl rfl hm⟩
theorem Fin.IY {e:Exit} (T:TypeId) (sz:Nat) (k:Fin n E (Hp M0 w0 S (BM T sz [] (.slice none 0 0)::rs)) Q e):Fin n E (Hp M0 w0 S rs) Q e:=fun a w hs=>by
 obtain ⟨M,h1,h2,h3,h4⟩:=hs
 have h4:At M0 w0 S rs M w:=h4
 exact k a w ⟨M,h1,h2,h3,At.I8 h4 (r:=BM T sz [] (.slice none 0 0)) rfl (.inl ⟨rfl,rfl⟩)⟩
end
section
variable {P:Program}
theorem Tg.frz {f:FuncId} {args:List Pr} {p0 p1:Pr} {e:TypeId} {sz:Nat} {rows:List (List Pr)} (hl:∀r∈rows,r.length=sz) (h:Tg P f args (fun x=>agg [p0,p1,is x]) (fun x=>[Bc e sz rows x])):BD P f args (agg [p0,p1,slice sz rows]):=by
 refine ⟨h.1,fun M w vs hb hv=> ?_⟩
 refine (h.2 M w II [] M w vs (At.begin hb) hv).mono ?_
 rintro e' w' ⟨v,M',x,rfl,_,h1,h2,h3⟩
 obtain ⟨M2,j1,j2,j3⟩:=At.uM (j:=0) h3 rfl hl
 obtain ⟨cs,hc,g1,g2⟩:=(agg [p0,p1,is x]).st _ _ _ _ _ j1 h1
 refine ⟨v,rfl,?_,j2.below⟩
 exact (agg [p0,p1,slice sz rows]).st _ _ _ _ _ (Ext.less j2.m) ⟨cs,hc,g1,HL.set (k:=2) g2 rfl fun u hu=>by rw [show u=x from hu];exact j3⟩
theorem E2.W7 {f:FuncId} {args:List Pr} {k:Pr} {e:TypeId} {sz m:Nat} {rows:List (List Pr)} {R:An} (hl:∀r∈rows,r.length=sz) (h:E2 (α:=Value) P f args [R] (fun _=>True) (fun v=>F8 [Ae v (lens m),k]) (fun v=>[R,BM e sz rows v])):BR P f args (F8 [slice sz rows,k]) R (fun _=>R):=by
 refine ⟨h.1,fun M0 w0 S rs M w vs hI hv=>(h.2 M0 w0 S rs M w vs hI hv).mono ?_⟩
 rintro e' w' ⟨v,M',x,rfl,_,h1,h2,h3⟩
 have h3:At M0 w0 S (R::BM e sz rows x::rs) M' w':=h3
 obtain ⟨M2,j1,j2,j3⟩:=At.W7 (j:=1) h3 rfl hl
 obtain ⟨cs,hc,g2⟩:=(F8 [Ae x (lens m),k]).st _ _ _ _ _ j1 h1
 exact ⟨v,M2,rfl,⟨cs,hc,HL.set (k:=0) g2 rfl fun u hu=>by rw [show u=x from hu.1];exact j3⟩,h2.trans j1,(At.perm (List.Perm.swap _ _ _) j2).Iv⟩
variable {n:Fm} {E:Env} {M0:Av} {w0:World} {S:Nat→Prop} {o:Oper}
end
section
variable {P:Program} {n:Fm} {E:Env} {M0:Av} {w0:World} {S:Nat→Prop} {o:Oper}
theorem jz {f:FuncId} {xs:Array Operand} {ts:Array TypeId} {ps:List Pr} {res:Pr} {j:Nat} {R:An} (hb:R.blk=none) (ho:o.op= .call { callee:= .value (.func f),args:=xs,argTypes:=ts }) (hf:BR P f ps res R (fun _=>R)) (hv:Gi E xs.toList ps):JP P M0 w0 S j (SR.c R) o E res:=by
 intro M w a rs he hI hj
 have h1:=Gi.FG (o:=o) he (xs:=xs.toList) (fun x hx=>by simp [ho,Op.operands,Call.operands];exact .inr Gf) hv
 have hrun:(execOp a.eval o).run P w= .ok (.enter f (xs.toList.map a.eval).toArray) w:=by
  simp [execOp,ho,resolve,Deferred.ofValue,Act.eval,invoke,Cz hf.1,Fy xs]
 rw [hrun]
 have hj':rs[j]? =some R:=hj
 refine ⟨Below.refl _ _,(hf.2 M w II [] M w _ ((At.begin hI.bd).I8 (r:=R) hb (hI.hold _ (List.mem_of_getElem? hj')).1) h1).mono ?_⟩
 rintro e w' ⟨v,M',rfl,h2,h3,h4⟩
 exact ⟨v,rfl,res.st _ _ _ _ _ (Ext.less h4.m) h2,h4.below⟩
def ADs (u:Value):Value:=match u with| .tuple t=>t.getD 0 undef|_=>undef
def sU (T R:An):An:=⟨R.blk,R.new,fun M w=>(T.blk=none∧T.h M w)∧R.h M w,fun M w M' w' he hk h=>⟨⟨h.1.1,T.st M w M' w' he (fun b hb=>by rw [h.1.1] at hb;cases hb) h.1.2⟩,R.st M w M' w' he hk h.2⟩⟩
theorem E2.both {f:FuncId} {args:List Pr} {T:An} (hT:T.blk=none) {p k:Pr} {R:Value→An} (h:E2 (α:=Value) P f args [T] (fun _=>True) (fun x=>F8 [Ae x p,k]) (fun x=>[T,R x])):BR P f args (F8 [p,k]) T (fun u=>sU T (R (ADs u))):=by
 refine ⟨h.1,fun M0 w0 S rs M w vs hI hv=>(h.2 M0 w0 S rs M w vs hI hv).mono ?_⟩
 rintro e' w' ⟨u,M',x,rfl,_,h1,h2,h3⟩
 have h3:At M0 w0 S (T::R x::rs) M' w':=h3
 obtain ⟨cs,rfl,g2⟩:=h1
 match cs,g2 with
 |[a,b],⟨⟨e1,g3⟩,g4,_⟩=>
  have e1:a=x:=e1
  subst e1
  have hh:=(h3.hold T (List.mem_cons_self ..)).1
  have h4:=(At.perm (List.Perm.swap _ _ _) h3).CD (i:=0) (r':=sU T (R a)) rfl rfl rfl ⟨⟨hT,hh⟩,(h3.hold (R a) (List.mem_cons_of_mem _ (List.mem_cons_self ..))).1⟩
  exact ⟨_,M',rfl,⟨[a,b],rfl,g3,g4,trivial⟩,h2,(At.perm (List.Perm.swap _ _ _) h4).Iv⟩
end
section
variable {P:Program} {n:Fm} {E:Env} {M0:Av} {w0:World} {S:Nat→Prop} {rs:List An}
theorem Fin.vN {Q:Exit→Act→World→Prop} {x:Exit} {b cap sz:Nat} {e:TypeId} {rows:List (List Pr)} {sp:List Value} (j:Nat) (hj:rs[j]? =some (AE true b e (rows.flatten++sp.map is))) (hc:rows.length≤cap) (hm:cap≤maxLen) (hq:sp.length=(cap-rows.length)*sz)
  (k:Fin n E (Hp M0 w0 S (rs.set j (BM e sz rows (.slice (some ⟨b,0,none⟩) rows.length cap)))) Q x):Fin n E (Hp M0 w0 S rs) Q x:=
 Fin.conv (fun a w hs=>by
  obtain ⟨M,h1,h2,h3,h4⟩:=hs
  have h4:At M0 w0 S rs M w:=h4
  exact ⟨M,h1,h2,h3,h4.CD hj rfl rfl (.inr ⟨b,cap,sp,rfl,hc,hm,hq,(h4.hold _ (List.mem_of_getElem? hj)).1⟩)⟩) k
end
section
variable {P:Program} {g:Func} {fz:Nat} {E:Env} {M0 M1:Av} {w0 w1:World} {S:Nat→Prop} {rs:List An}
theorem Fin.AAa {α:Type} {C:α→Prop} {rv:ResultVar} {q:Pr} {res:α→Pr} {post:α→List An} {rs':List An} (x:α) (dr:List An) (hr:g.results= #[rv]) (h:A7 P E rs' rv q) (hc:C x) (hl:Pr.le q (res x)) (hp:rs'.Perm (dr++(post x++Ak M1 w1::rs))):
  Fin ⟨fz,[]⟩ E (Hp M0 w0 S rs') (bodyPost P g (Ns M0 w0 S rs M1 w1 C res post)) .ret:=by
 rintro a w ⟨M,_,hd,he,hi⟩
 have hi:At M0 w0 S rs' M w:=hi
 obtain ⟨u,hu,hp'⟩:=h M w a he (fun q hq=>(hi.hold q hq).1)
 obtain ⟨h1,h2⟩:=Ht (At.gj (At.perm hp hi))
 exact ⟨hd,u,results1 hr hu,_,M,x,rfl,hc,hl _ _ _ hp',h1,h2⟩
end
end Cp
namespace Go.Proofs.YtmocaapoeefgkaaGreatDoor
open Go Go.RowKit Cp Go.Proofs.Tryz
abbrev ADt (n:Nat) (v:Value):Pr:=ex fun c:Aq=>fact (Zw c n) (agg [F0 c.BG,Ae v (ints c.D5),ints c.room])
theorem VW {b:Nat} {s:DS} {n:Nat} (hn:n≤1000):E2 (α:=Value) prog 47 [ptr b 0,int ((n:Nat):Int)] [CG b s] (fun _=>True) (fun v:Value=>ADt n v) (fun v=>[As 3 1 v,FK 104 b]):=by
 refine E2.of func47 rfl rfl Al fun M0 w0 S rs M1 w1=>(Tr.seq (Tr.A0 ?_))
 refine Tl rfl rfl rfl rfl z77 nG (fun b1=> ?_)
 refine ap ?_
 refine ap ?_
 refine TO.EV 1 rfl rfl AB (AU rfl rfl AB rfl (Kq (l:=[24,2,1]) AO AO) ⟨ke rfl,(Kf rfl),trivial⟩) ?_
 refine ap ?_
 refine TO.EV 1 rfl rfl AB (AU rfl rfl AB rfl (Kq (l:=[24,3]) AO AO) ⟨ke rfl,(Kf rfl),trivial⟩) ?_
 refine tp rfl (AQ (xs:=[.tmp 12,.tmp 15]) (rows:=[[_],[_]]) rfl rfl underlying22 Bg z3 rfl AB ⟨⟨Ab,(Vo rfl)⟩,⟨⟨Ab,(Vo rfl)⟩,trivial⟩⟩ AB) ?_
 refine tp rfl (Ar (rows:=[(2,[_])]) rfl ACd nG ⟨⟨rfl,⟨_,rfl,Pr.le_trans (BA _ _) (AP _)⟩⟩,trivial⟩ rfl) ?_
 refine Tl rfl rfl rfl rfl z77 nG (fun b2=> ?_)
 refine ap ?_
 refine ac ?_
 refine Tr.block (Tr.HQ 0 [is (.slice none 0 0),Ae (.slice none 0 0) (ints []),ints [s.of [24,2,1],s.BV.of [24,3]]] rfl ⟨Lr,Bu rfl,Lr,trivial⟩ (Tr.CB 3 1 (Tr.Hq [(0,_),(1,_),(4,_),(5,_)] ⟨ke rfl,ke rfl,ke rfl,ke rfl,trivial⟩ (fun (l:List Int) (s':DS) u=>[(6,int ((l.length:Nat):Int))]) (fun (l:List Int) (s':DS) u=>Hp M0 w0 S (As 3 1 u::AE true b2 77 [is (.slice none 0 0),Ae u (ints l),ints [s.of [24,2,1],s.BV.of [24,3]]]::AE true b1 77 [is (.slice none 0 0),is (.slice none 0 0),is (.slice none 0 0)]::CG b s'::Ak M1 w1::rs)) (fun (l:List Int) (s':DS)=>l.length≤n∧∀t∈l,0≤t∧t<2) (fun (l:List Int) (s':DS)=>n-l.length) ([]) (_) (.slice none 0 0) (⟨by simp,by simp⟩) ⟨ke rfl,trivial⟩ (fun _ _ h=>h) ?_)))
 rintro l s' u ⟨hl,hlt⟩
 refine an ?_ ?_<;>intro h1 q1
 have:=h1
 refine ac ?_
 refine Tr.seq (Tr.block (Tr.pad (Tr.rx ?_)))
 refine ax ?_
 refine Cx.ef 4 rfl rfl AB (AU rfl rfl AB rfl (A8 AA AA) ⟨ke rfl,ke rfl,trivial⟩) (xo rfl (fun _=>AQ (xs:=[.tmp 26]) (rows:=[[_]]) rfl rfl underlying22 Bg z3 rfl AB ⟨⟨Ab,(Vo rfl)⟩,trivial⟩ AB) ?_)
 refine Cx.ef 1 rfl rfl AB (CN rfl rfl rfl rfl underlying22 Bg J_ z3 (Kb rfl) (Kf rfl) (BQ BI (Ka rfl))) ?_
 refine xo rfl (fun _=>AY rfl TJ (vl rfl)) (Cx.Ee 2 rfl rfl (Ga rfl rfl rfl (vl rfl) rfl Mx Al) ?_)
 refine Cx.nil ⟨by kernel_rfl,?_⟩
 refine BW.Rc 1 2 28 rfl rfl AB rfl (fun v1=> ?_)
 refine BW.done al6 ?_
 refine ac ?_
 refine Tr.drop 0 (Na 0 1 4 5 6 rfl ?_)
 refine ac ?_
 refine Fin.HQ 1 [is (.slice none 0 0),Ae v1 (ints (l++[s'.val 2])),ints [s.of [24,2,1],s.BV.of [24,3]]] rfl ⟨Lr,BU (Xg _ _),Lr,trivial⟩ ?_
 exact Fin.CI (l++[s'.val 2]) (_) v1 (⟨⟨by simp;omega,QN hlt (s'.Bi AA)⟩,by simp;omega⟩) ⟨⟨_,rfl,int_eq AO⟩,ke rfl,ke rfl,ke rfl,ke rfl,trivial⟩ (fun _ _ h=>h)
 have:=h1
 refine ac ?_
 refine ap ?_
 refine TO.EV 3 rfl rfl AB (AU rfl rfl AB rfl (A8 AA AA) ⟨ke rfl,ke rfl,trivial⟩) ?_
 refine ap ?_
 refine Tr.seq (Tr.seq ?_)
 have RW:=s'.BV.Bi (n:=4) AA
 refine ap ?_
 refine TO.EV 3 rfl rfl AB (AU rfl rfl AB rfl (A8 AA AA) ⟨ke rfl,ke rfl,trivial⟩) ?_
 refine ap ?_
 refine Na 0 4 5 7 8 rfl (Tr.block ?_)
 have WD:=s'.Bi (n:=4) AA
 refine Tr.HQ 1 [Ae (.slice none 0 0) (F0 []),Ae u (ints l),ints [s.of [24,2,1],s.BV.of [24,3]]] rfl ⟨Bu rfl,Lr,Lr,trivial⟩ (Tr.CB 141 3 ?_)
 refine Tr.Ul [(0,_),(4,_),(5,_)] ⟨ke rfl,ke rfl,ke rfl,trivial⟩ (fun (ws:List FC) (fr:Int) (i:Int) (s2:DS) u2=>[(7,int fr),(8,int i)]) (fun (ws:List FC) (fr:Int) (i:Int) (s2:DS) u2=>Hp M0 w0 S (As 141 3 u2::As 3 1 u::AE true b2 77 [Ae u2 (F0 ws),Ae u (ints l),ints [s.of [24,2,1],s.BV.of [24,3]]]::AE true b1 77 [is (.slice none 0 0),is (.slice none 0 0),is (.slice none 0 0)]::CG b s2::Ak M1 w1::rs)) (fun (ws:List FC) (fr:Int) (i:Int) (s2:DS)=>0≤i∧(2≤i+ws.length∧i+ws.length≤5)∧0≤fr∧fr≤3+35*ws.length∧OG ws∧(∀w∈ws,Tw w)∧∀w∈ws,w.hi≤fr) (fun (ws:List FC) (fr:Int) (i:Int) (s2:DS)=>i.toNat) ([]) (s'.val 4) (2+s'.BV.val 4) (_) (.slice none 0 0) (⟨by omega,by simp;omega,by omega,by simp;omega,by intro j a b h;simp at h,by simp,by simp⟩) ⟨ke rfl,ke rfl,trivial⟩ (fun _ _ h=>h) ?_
 rintro ws fr i s2 u2 ⟨hi,hiw,ADu,AE1,AAb,sV,hfr⟩
 have hof:s2.of [30,5,1]=30∨s2.of [30,5,1]=5∨s2.of [30,5,1]=1:=by have:=s2.K4 (l:=[30,5,1]) AO;simpa using this
 have hv3:=s2.BV.BV.Bi (n:=5) AA
 refine an ?_ ?_<;>intro h2 q2
 have hi0:i>0:=of_decide_eq_true h2
 refine ac ?_
 refine ap ?_
 refine TO.EV 4 rfl rfl AB (AU rfl rfl AB rfl (Kq (l:=[30,5,1]) AO AO) ⟨ke rfl,(Kf rfl),trivial⟩) ?_
 refine ap ?_
 refine eE 0 4 5 7 8 9 rfl (Tr.seq ?_)
 have hv5:=s2.BV.Bi (n:=5) AA
 obtain ⟨tl,htl⟩:=at_ (l:=Jn) (k:=(s2.BV.val 5).toNat) (by have:Jn.length=5:=rfl;omega)
 have AAc:=VP (List.mem_of_getElem? htl)
 refine Tr.pad (Tr.rx ?_)
 refine ax ?_
 refine xo rfl (fun _=>oI) ?_
 refine xo rfl (fun _=>oI) ?_
 refine xo rfl (fun _=>oI) ?_
 refine xo rfl (fun _=>oI) ?_
 refine xo rfl (fun _=>AQ (xs:=[.tmp 50,.tmp 51,.tmp 52,.tmp 53,.const (.slice none 0 0)]) (rows:=[[_],[_],[_],[_],[_]]) rfl rfl underlying128 Mx z22 rfl AB ⟨⟨Ab,⟨_,rfl,Pr.le_trans (BA _ _) (AP _)⟩⟩,⟨⟨Ab,⟨_,rfl,Pr.le_trans (BA _ _) (AP _)⟩⟩,⟨⟨Ab,⟨_,rfl,Pr.le_trans (BA _ _) (AP _)⟩⟩,⟨⟨Ab,⟨_,rfl,Pr.le_trans (BA _ _) (AP _)⟩⟩,⟨⟨Ab,⟨_,rfl,Pr.le_trans (Ai 1) (AP _)⟩⟩,trivial⟩⟩⟩⟩⟩ AB) ?_
 refine xm rfl (Cx.ef 5 rfl rfl AB (AU rfl rfl AB rfl (A8 AA AA) ⟨ke rfl,ke rfl,trivial⟩) (xo rfl (fun _=>AD rfl underlying128 Mx (Kf rfl) (vl rfl) AA (Bt (l:=Jn) (f:=fun l=>[ints l]) htl)) ?_))
 refine ax ?_
 refine xo rfl (fun _=>AQ (xs:=[.tmp 59]) (rows:=[_]) rfl rfl underlying75 EW z141 rfl AB ⟨⟨Ab,(Va rfl)⟩,trivial⟩ AB) ?_
 refine Cx.ef 1 rfl rfl AB (CN rfl rfl rfl rfl underlying75 EW yH z141 (Kb rfl) (Kf rfl) (BQ BI (Ka rfl))) ?_
 refine xo rfl (fun _=>AY rfl gL (vl rfl)) (Cx.Ee 3 rfl rfl (Ga rfl rfl rfl (vl rfl) rfl ACc Al) ?_)
 refine Cx.nil ⟨by kernel_rfl,?_⟩
 refine BW.Rc 1 3 61 rfl rfl AB rfl (fun v2=> ?_)
 refine BW.done al7 (Fin.go (Tr.drop 0 (Na 0 4 5 8 9 rfl ?_)))
 refine ap ?_
 refine TO.EV 4 rfl rfl AB (AU rfl rfl AB rfl (A8 AA AA) ⟨ke rfl,ke rfl,trivial⟩) ?_
 refine ap ?_
 refine ac ?_
 refine Fin.HQ 2 [Ae v2 (F0 (ws++[FC.mk fr (fr+1+s2.of [30,5,1]) tl])),Ae u (ints l),ints [s.of [24,2,1],s.BV.of [24,3]]] rfl ⟨BU (cY _ _ _ _),Lr,Lr,trivial⟩ ?_
 exact Fin.ZQ (ws++[FC.mk fr (fr+1+s2.of [30,5,1]) tl]) (fr+1+s2.of [30,5,1]+s2.BV.BV.val 5) (i-1) (_) v2 (⟨⟨by omega,by simp;omega,by omega,by simp;omega,cX AAb hfr,QN sV ⟨ADu,by show fr<fr+1+_;omega,by show fr+1+_<200;omega,AAc.1,AAc.2⟩,QN (fun w hw=>by have:=hfr w hw;omega) (by show fr+1+_≤_;omega)⟩,by omega⟩) ⟨ke rfl,ke rfl,ke rfl,ke rfl,ke rfl,trivial⟩ (fun _ _ h=>h)
 have hi0:¬i>0:=of_decide_eq_false h2
 refine ac ?_
 refine ap ?_
 refine Tr.ret (Fin.B4 4 _ rfl rfl (Fin.drop 0 (Fin.drop 1 (Fin.AAa (_) [_] rfl (A7.cell 1 rfl rfl Gn KQ rfl (Lr)) trivial ?_ ((Cl (j:=1) rfl).trans (List.Perm.cons _ ((Cl (j:=0) rfl).trans (List.Perm.cons _ ((Cl (j:=0) rfl).trans (List.Perm.cons _ (List.Perm.refl _)))))))))))
 · exact DA ⟨ws,l,[s.of [24,2,1],s.BV.of [24,3]]⟩ (CO (by have mU:l.length=n:=AA;rw [←mU];exact qG AA AA AAb sV hlt rfl (by have h1:=s.K4 (l:=[24,2,1]) AO;have h2:=s.BV.K4 (l:=[24,3]) AO;intro r hr;simp at h1 h2 hr;omega)) (Bv ⟨A_ _ _,Lr,Lr,trivial⟩))
noncomputable def Aq.Ca (c:Aq) (AR days others:List Int):Int:=
 if c.own≠0 then c.own else if AR.length≠days.length then 1 else if 24<AR.length then 3
 else if (AR++others).any (fun n=> !c.has n) then 2 else if (AR.zip days).all (fun p=>c.may p.1 p.2) then 0 else 47
def Aq.cell (c:Aq) (p:Int×Int):Nat:=(c.at p.2).toNat*8+p.1.toNat
def Aq.cnt (c:Aq) (l:List (Int×Int)) (k:Nat):Nat:=l.countP fun p=>c.cell p==k
def Aq.j0 (c:Aq) (l:List (Int×Int)):List Int:=(List.range 256).map fun k=>(c.cnt l k:Int)
def F1 (c:Aq) (l:List (Int×Int)):List Pr:=(c.j0 l).map fun z=>int z
noncomputable def VX (c:Aq) (AR days others:List Int):Pr:=if c.Ca AR days others=0 then ref (F1 c (AR.zip days)) else is (.pointer none)
theorem Hx {c:Aq} {AR days others:List Int} {e:Int} (h:c.Ca AR days others=e) (he:e≠0):Pr.le (is (.pointer none)) (VX c AR days others):=by
 unfold VX;rw [if_neg G1];exact Pr.le_refl _
theorem VY {c:Aq} {AR days others:List Int} (h:c.Ca AR days others=0):VX c AR days others=ref (F1 c (AR.zip days)):=by
 unfold VX;rw [if_pos h]
theorem Dv (c:Aq) (l:List (Int×Int)):(F1 c l).length=256:=by simp [F1,Aq.j0]
theorem Hy (c:Aq) (l:List (Int×Int)) {k:Nat} (hk:k<256):(F1 c l)[k]? =some (int (c.cnt l k)):=by
 simp [F1,Aq.j0,List.getElem?_range hk]
theorem cj (c:Aq) (l:List (Int×Int)) {a x:Int} (h1:0≤a∧a<32) (h2:0≤x∧x<8):(F1 c l)[0+a.toNat*8+x.toNat*1]? =some (int (c.cnt l (a.toNat*8+x.toNat))):=by
 rw [show 0+a.toNat*8+x.toNat*1=a.toNat*8+x.toNat by omega]
 exact Hy c l AA
theorem Xn (c:Aq):F1 c []=(List.replicate 256 (Value.int .i64 0)).map is:=by
 apply List.ext_getElem?
 intro k
 by_cases hk:k<256
 · rw [Hy c [] hk,List.getElem?_map,List.getElem?_replicate,if_pos hk];rfl
 · rw [List.getElem?_eq_none Su,List.getElem?_eq_none (by rw [List.length_map,List.length_replicate];omega)]
theorem Xo (c:Aq) (l:List (Int×Int)) {x d:Int} (h1:0≤c.at d∧c.at d<32) (h2:0≤x∧x<8):
  (F1 c l).take (0+(c.at d).toNat*8+x.toNat*1)++[int ((c.cnt l ((c.at d).toNat*8+x.toNat):Int)+1)]++(F1 c l).drop (0+(c.at d).toNat*8+x.toNat*1+1)=F1 c (l++[(x,d)]):=by
 generalize hm:(c.at d).toNat*8+x.toNat=m
 rw [show 0+(c.at d).toNat*8+x.toNat*1=m by omega]
 have hm2:m<256:=by omega
 have hcell:c.cell (x,d)=m:=hm
 have vO:∀k,c.cnt (l++[(x,d)]) k=c.cnt l k+if m=k then 1 else 0:=by
  intro k
  unfold Aq.cnt
  rw [List.countP_append,List.countP_cons,List.countP_nil,hcell]
  simp
 apply List.ext_getElem?
 intro k
 by_cases hk:k<256
 ·
  rw [Hy c _ hk,vO]
  rcases Nat.lt_trichotomy k m with h|h|h
  · rw [List.append_assoc,List.getElem?_append_left (by rw [List.length_take,Dv];omega),List.getElem?_take,if_pos h,Hy c l hk,if_neg AA];rfl
  ·
   subst h
   rw [List.append_assoc,List.getElem?_append_right (by rw [List.length_take,Dv];omega),List.length_take,Dv,Nat.min_eq_left AA,Nat.sub_self]
   simp
  ·
   rw [List.getElem?_append_right (by rw [List.length_append,List.length_take,Dv];simp;omega),List.length_append,List.length_take,Dv,List.getElem?_drop,Nat.min_eq_left AA]
   simp only [List.length_cons,List.length_nil]
   rw [show m+1+(k-(m+(0+1)))=k by omega,Hy c l hk,if_neg AA];rfl
 · rw [List.getElem?_eq_none (by simp [Dv];omega),List.getElem?_eq_none Su]
theorem j4 (c:Aq) (l:List (Int×Int)) (k:Nat):c.cnt l k≤l.length:=List.countP_le_length
theorem ML {a b:List Int} {k:Nat} {x y:Int} (hx:a[k]? =some x) (hy:b[k]? =some y):(a.zip b).take (k+1)=(a.zip b).take k++[(x,y)]:=by
 have hz:(a.zip b)[k]? =some (x,y):=by rw [List.getElem?_zip_eq_some];exact ⟨hx,hy⟩
 rw [List.take_add_one,hz];rfl
theorem Xp {c:Aq} {n d:Int} (h:c.may n d=true):0≤c.at d:=by
 have h2:=Jm (Cm d) c.BG
 unfold Aq.may Aq.Nz at h
 unfold Aq.at
 rcases Int.lt_or_le (idx (Cm d) c.BG) 0 with h3|h3
 ·
  rw [if_neg AA] at h2
  rw [h2] at h;cases h
 · exact h3
theorem Hz {c:Aq} (h:c.own=0):c.BG.length≤32∧c.room.length≤8:=by
 unfold Aq.own Aq.check at h
 split at h
 · omega
 · omega
theorem Ty {c:Aq} {n:Int} (h:c.own=0) (hn:c.has n=true):0≤n∧n<8:=by
 have:=(Hz h).2
 unfold Aq.has at hn
 simp at hn
 omega
theorem AAd {c:Aq} {d:Int} (h:c.own=0):c.at d<32:=by
 have:=(Hz h).1
 have:=(NB (Cm d) c.BG).2
 unfold Aq.at
 omega
theorem Xq {c:Aq} {a b:List Int} {k:Nat} {n d:Int} (hx:a[k]? =some n) (hd:b[k]? =some d) (h:(!c.may n d)=true):¬(a.zip b).all (fun p=>c.may p.1 p.2)=true:=by
 intro h2
 rw [List.all_eq_true] at h2
 have hz:(a.zip b)[k]? =some (n,d):=by rw [List.getElem?_zip_eq_some];exact ⟨hx,hd⟩
 have:=h2 _ (List.mem_of_getElem? hz)
 simp [this] at h
theorem Tz {c:Aq} {a b:List Int} (h:((a.zip b).take a.length).all (fun p=>c.may p.1 p.2)=true) (hl:a.length=b.length):(a.zip b).all (fun p=>c.may p.1 p.2)=true:=by
 rwa [List.take_of_length_le B1] at h
theorem j5 {c:Aq} {l:List Int} {n:Int} (h:l.any (fun n=> !c.has n)=false) (hn:n∈l):c.has n=true:=by
 rw [List.any_eq_false] at h
 simpa using h n hn
theorem Z7 {c:Aq} {n:Int}  :BD prog 244 [int n,ref [F0 c.BG,ints c.D5,ints c.room]] (bool (!c.has n)):=by
 refine fo func244 rfl ⟨rfl,rfl⟩ fun M0 w0=> ?_
 refine a2 ?_
 refine co rfl (C4 (jU) rfl rfl rfl) ?_
 refine a2 ?_
 · exact Lr
theorem vP {c:Aq} {AR days others:List Int} (ho:others.length≤1000000000):BD prog 204 [GA c,ints AR,ints days,ints others] (F8 [VX c AR days others,int (c.Ca AR days others)]):=by
 refine fo func204 rfl ⟨rfl,rfl⟩ fun M0 w0=> ?_
 refine a2 ?_
 refine co rfl (C8 (AAR) rfl rfl) ?_
 refine ac ?_
 refine an ?_ ?_<;>intro h1 q1
 refine ac ?_
 refine Tr.ret (Fin.AG (Fin.DO rfl (Bm.Dw _ _) rfl ?_ rfl ?_))
 · exact Hx (by unfold Aq.Ca;rw [if_pos q1]) q1
 · refine int_eq ?_;unfold Aq.Ca;rw [if_pos q1]
 refine a2 ?_
 refine Na 1 2 3 4 19 rfl ?_
 refine Tr.cn rfl ?_ ?_<;>intro h2 q2
 refine ac ?_
 refine Tr.ret (Fin.Ag (Fin.AG (Fin.DO rfl (Bm.Dw _ _) rfl ?_ rfl ?_)))
 · exact Hx (by unfold Aq.Ca;rw [if_neg (not_not_intro q1),if_pos AA]) AB
 · refine int_eq ?_;unfold Aq.Ca;rw [if_neg (not_not_intro q1),if_pos AA]
 refine an ?_ ?_<;>intro h3 q3
 refine ac ?_
 refine Tr.ret (Fin.Ag (Fin.AG (Fin.DO rfl (Bm.Dw _ _) rfl ?_ rfl ?_)))
 · exact Hx (by unfold Aq.Ca;rw [if_neg (not_not_intro q1),if_neg AA,if_pos AA]) AB
 · refine int_eq ?_;unfold Aq.Ca;rw [if_neg (not_not_intro q1),if_neg AA,if_pos AA]
 refine ap ?_
 refine TO.pad ?_
 refine TO.Ef 0 rfl rfl AB (HA rfl rfl AB rfl (iE AA) ⟨ke rfl,trivial⟩) (fun v1=> ?_)
 refine tm rfl ?_
 refine TO.Ef 0 rfl rfl AB (CN rfl rfl rfl rfl underlying22 Bg J_ z3 (Kb rfl) (vl rfl) (BQ BI (Ka rfl))) (fun v2=> ?_)
 refine tp rfl (NV rfl rfl) ?_
 refine tp rfl (AZ rfl (DT (l:=AR++others) (p:=fun n=> !c.has n)) ⟨⟨_,rfl,Pr.le_trans (A_ _ _) (Pr.le_of_eq (by rw [←List.map_append]))⟩,⟨_,rfl,B9 (Z7 (c:=c) (n:=0)).1 (fun x=>Z7 (c:=c) (n:=x))⟩,trivial⟩) ?_
 refine ap ?_
 refine Tr.drop 0 (PZ 1 2 4 29 rfl ?_)
 refine Tr.cn rfl ?_ ?_<;>intro h4 q4
 refine ac ?_
 refine Tr.ret (Fin.Ag (Fin.AG (Fin.DO rfl (Bm.Dw _ _) rfl ?_ rfl ?_)))
 · exact Hx (by unfold Aq.Ca;rw [if_neg (not_not_intro q1),if_neg AA,if_neg AA,if_pos BC]) AB
 · refine int_eq ?_;unfold Aq.Ca;rw [if_neg (not_not_intro q1),if_neg AA,if_neg AA,if_pos BC]
 refine ac ?_
 refine ap ?_
 refine TO.S6 rfl rfl AB rfl (Va rfl) (fun b1=> ?_)
 refine ap ?_
 refine ac ?_
 refine Tr.block ?_
 refine Tr.Kg [(2,_),(4,_),(11,_),(38,_),(39,_)] ⟨ke rfl,ke rfl,ke rfl,ke rfl,ke rfl,trivial⟩ (fun k:Nat=>[(40,int ((k:Nat):Int))]) (fun k:Nat=>Hp M0 w0 II ([AE true b1 300 (F1 c ((AR.zip days).take k))])) (fun k:Nat=>k≤(AR).length∧(((AR.zip days).take k).all (fun p=>c.may p.1 p.2)=true)) (fun k:Nat=>(AR).length-k) 0 (⟨Nat.zero_le _,by simp⟩) ⟨ke rfl,trivial⟩ ((by rw [List.take_zero,Xn];exact fun _ _ h=>h)) ?_
 rintro k ⟨BK,AL⟩
 refine ac ?_
 refine Tr.seq ?_
 refine Tr.cn rfl ?_ ?_<;>intro h5 q5
 have Aa:k<(AR).length:=AH h5
 obtain ⟨n,AX⟩:=at_ Aa
 obtain ⟨d,hd⟩:=at_ (l:=days) (k:=k) AA
 refine a2 ?_
 refine co rfl (AD rfl underlying22 Bg (vl rfl) (vl rfl) AA Bl) ?_
 refine a2 ?_
 refine co rfl (AD rfl underlying22 Bg (vl rfl) (vl rfl) AA Bl) ?_
 refine co rfl (GI rfl CX rfl) (co rfl (XC (AAQ) rfl rfl rfl rfl) ?_)
 refine ac ?_
 refine wk9 2 4 11 12 13 38 39 40 52 rfl ?_
 refine Tr.cn rfl ?_ ?_<;>intro h6 q6
 refine ac ?_
 refine Tr.drop 0 (Tr.ret (Fin.AG (Fin.Ag (Fin.AG (Fin.AG (Fin.Ag (Fin.AG (Fin.DO rfl (Bm.Dw _ _) rfl ?_ rfl ?_))))))))
 · exact Hx (by unfold Aq.Ca;rw [if_neg (not_not_intro q1),if_neg AA,if_neg AA,if_neg (Aw BC),if_neg (Xq AX hd BC)]) AB
 · refine int_eq ?_;unfold Aq.Ca;rw [if_neg (not_not_intro q1),if_neg AA,if_neg AA,if_neg (Aw BC),if_neg (Xq AX hd BC)]
 have hmay:c.may n d=true:=by simpa using h6
 have hown:c.own=0:=by assumption
 have hat:=And.intro (Xp hmay) (AAd (d:=d) hown)
 have hn8:0≤n∧n<8:=Ty hown (j5 BC (List.mem_append_left _ (List.mem_of_getElem? AX)))
 have vO:c.cnt ((AR.zip days).take k) ((c.at d).toNat*8+n.toNat)≤24:=Nat.le_trans (j4 _ _ _) B1
 refine ac ?_
 refine Tr.rx ?_
 refine ay ?_
 refine xo rfl (fun _=>AD rfl underlying22 Bg (vl rfl) (vl rfl) AA Bl) ?_
 refine xo rfl (fun _=>GI rfl CX rfl) (xo rfl (fun _=>C4 (AAP) rfl rfl rfl) ?_)
 refine ay ?_
 refine xo rfl (fun _=>GV rfl underlying300 ZW (vl rfl) (vl rfl) AA AA) (xo rfl (fun _=>GV rfl underlying208 Bg (vl rfl) (vl rfl) AA AA) (HO 0 rfl rfl (Ay rfl CX (vl rfl) (cj c _ hat hn8)) ?_))
 refine ay ?_
 refine xo rfl (fun _=>GV rfl underlying300 ZW (vl rfl) (vl rfl) AA AA) (xo rfl (fun _=>GV rfl underlying208 Bg (vl rfl) (vl rfl) AA AA) ?_)
 refine Cx.Ee 0 rfl rfl (A9 rfl rfl (vl rfl) (Vo rfl) Bg rfl Su (Xo c _ hat hn8)) ?_
 refine Cx.nil ⟨by kernel_rfl,?_⟩
 refine BW.done al1 ?_
 refine ac ?_
 refine eE 2 4 11 38 39 40 rfl ?_
 refine ac ?_
 exact Fin.fam (k+1) ⟨⟨Aa,(by rw [ML AX hd,List.all_append,AL];simp;assumption)⟩,by omega⟩ ⟨⟨_,rfl,AF k⟩,ke rfl,ke rfl,ke rfl,ke rfl,ke rfl,trivial⟩ ((by rw [ML AX hd];exact fun _ _ h=>h))
 have Az:k=(AR).length:=by have:=AJ h5;omega
 subst Az
 refine a2 ?_
 refine Tr.ret (Fin.freeze 0 8 rfl rfl (Fin.DO rfl (Bm.Dw _ _) rfl ?_ rfl ?_))
 · rw [VY (by unfold Aq.Ca;rw [if_neg (not_not_intro q1),if_neg AA,if_neg AA,if_neg (Aw BC),if_pos (Tz AL AA)])];exact Pr.le_of_eq (by rw [List.take_of_length_le B1])
 · refine int_eq ?_;unfold Aq.Ca;rw [if_neg (not_not_intro q1),if_neg AA,if_neg AA,if_neg (Aw BC),if_pos (Tz AL AA)]
def Aq.over (c:Aq) (l:List (Int×Int)):Prop:=∃(i n:Nat) (r:Int),i<c.BG.length∧c.room[n]? =some r∧r<(c.cnt l (i*8+n):Int)
open Classical in
noncomputable def Aq.Bx (c:Aq) (AR days others:List Int):Int:=
 if c.Ca AR days others≠0 then c.Ca AR days others else if c.over (AR.zip days) then 48 else 0
noncomputable def QT (c:Aq) (AR days others:List Int):Pr:=if c.Bx AR days others=0 then ref (F1 c (AR.zip days)) else is (.pointer none)
noncomputable instance xL (c:Aq) (AR days others:List Int):One (QT c AR days others):=by
 unfold QT;split
 · exact ZF _
 · exact ZE _
theorem R8 {c:Aq} {AR days others:List Int} {e:Int} (h:c.Bx AR days others=e) (he:e≠0):Pr.le (is (.pointer none)) (QT c AR days others):=by
 unfold QT;rw [if_neg G1];exact Pr.le_refl _
theorem VZ {c:Aq} {AR days others:List Int} (h:c.Bx AR days others=0):QT c AR days others=ref (F1 c (AR.zip days)):=by
 unfold QT;rw [if_pos h]
theorem EY {c:Aq} {AR days others:List Int} (h:c.Ca AR days others=0):c.own=0:=by
 unfold Aq.Ca at h
 by_cases h':c.own=0
 · exact h'
 · rw [if_pos h'] at h;exact absurd h h'
theorem MM {c:Aq} {AR days others:List Int} (h:c.Ca AR days others=0):∀n∈AR++others,c.has n=true:=by
 have ho:=EY h
 unfold Aq.Ca at h
 rw [if_neg (not_not_intro ho)] at h
 split at h
 · cases h
 ·
  split at h
  · cases h
  ·
   split at h
   · cases h
   ·
    rename_i h1
    intro n hn
    exact j5 GS hn
theorem EZ {c:Aq} {AR days others:List Int} (h:c.Bx AR days others=0):c.Ca AR days others=0:=by
 unfold Aq.Bx at h
 by_cases h':c.Ca AR days others=0
 · exact h'
 · rw [if_pos h'] at h;exact absurd h h'
theorem Vb (c:Aq) (l:List (Int×Int)) {i m:Nat} (h1:i<32) (h2:m<8):(((F1 c l).drop (((i:Nat):Int).toNat*8)).drop (((m:Nat):Int).toNat*1))[0]? =some (int (c.cnt l (i*8+m))):=by
 rw [List.drop_drop,List.getElem?_drop,Int.toNat_natCast,Int.toNat_natCast,show i*8+m*1+0=i*8+m by omega]
 exact Hy c l AA
theorem ck (c:Aq) (l:List (Int×Int)) {i:Nat} {m:Int} (h1:i<32) (h2:0≤m∧m<8):(((F1 c l).drop (((i:Nat):Int).toNat*8)).drop (m.toNat*1))[0]? =some (int (c.cnt l (i*8+m.toNat))):=by
 have:=Vb c l (i:=i) (m:=m.toNat) h1 AA
 rwa [Int.toNat_natCast m.toNat] at this
theorem QU {c:Aq} {l:List (Int×Int)} {i:Nat} (h0:∀i' n r,i'<i→c.room[n]? =some r→(c.cnt l (i'*8+n):Int)≤r) (h1:∀n r,n<c.room.length→c.room[n]? =some r→(c.cnt l (i*8+n):Int)≤r):∀i' n r,i'<i+1→c.room[n]? =some r→(c.cnt l (i'*8+n):Int)≤r:=by
 intro i' n r hi hr
 by_cases hii:i'=i
 ·
  subst hii
  refine h1 n r ?_ hr
  rcases Nat.lt_or_ge n c.room.length with h|h
  · exact h
  · rw [List.getElem?_eq_none h] at hr;cases hr
 · exact h0 i' n r AA hr
theorem QV {c:Aq} {l:List (Int×Int)} {i m:Nat} {r:Int} (h0:∀n r,n<m→c.room[n]? =some r→(c.cnt l (i*8+n):Int)≤r) (hx:c.room[m]? =some r) (hle:(c.cnt l (i*8+m):Int)≤r):∀n r,n<m+1→c.room[n]? =some r→(c.cnt l (i*8+n):Int)≤r:=by
 intro n r' hn hr
 by_cases hnm:n=m
 · subst hnm;rw [hx] at hr;cases hr;exact hle
 · exact h0 n r' AA hr
def Aq.LO (c:Aq) (n:Int):Int:=(c.room[n.toNat]?).getD 0
theorem MN {c:Aq} {n:Int} (h:c.has n=true):0≤n∧c.room[n.toNat]? =some (c.LO n):=by
 unfold Aq.has at h
 simp at h
 refine ⟨h.1,?_⟩
 have:n.toNat<c.room.length:=by omega
 unfold Aq.LO
 rw [List.getElem?_eq_getElem this];rfl
def Aq.free (c:Aq) (l:List (Int×Int)) (n:Int) (i:Nat):Bool:=decide ((c.cnt l (i*8+n.toNat):Int)<c.LO n)
noncomputable def Aq.early (c:Aq) (AR days:List Int) (n from_:Int):Option Int:=if c.Bx AR days [n]=0 then c.next n from_ (c.free (AR.zip days) n) else none
theorem j6 {c:Aq} {AR days others:List Int} (ho:others.length≤1000000000):BD prog 156 [GA c,ints AR,ints days,ints others] (F8 [QT c AR days others,int (c.Bx AR days others)]):=by
 refine fo func156 rfl ⟨rfl,rfl⟩ fun M0 w0=>(Tr.D9 0 0 rfl rfl fun EK=>(Tr.D9 0 2 rfl rfl fun KE=> ?_))
 refine a2 ?_
 refine co rfl (kc4 (vP BC) rfl rfl rfl rfl rfl) ?_
 refine a2 ?_
 refine wk [24,11,10,4] rfl ?_
 refine Tr.cn rfl ?_ ?_<;>intro h1 q1
 refine ac ?_
 refine Tr.ret (Fin.AG (Fin.DO rfl (Bm.Dw _ _) rfl ?_ rfl ?_))
 · exact R8 (by unfold Aq.Bx;rw [if_pos q1]) q1
 · refine int_eq ?_;unfold Aq.Bx;rw [if_pos q1]
 have hf:c.Ca AR days others=0:=q1
 have hown:=EY hf
 have hw:=Hz hown
 refine Tr.re 10 rfl (Pr.le_of_eq (VY hf)) ?_
 refine a2 ?_
 refine Tr.block (Tr.Ax _ (kk [28,10,4] rfl) (fun i:Nat=>[(29,int ((i:Nat):Int))]) (fun i:Nat=>i≤(c.BG).length∧(∀i' n r,i'<i→c.room[n]? =some r→(c.cnt (AR.zip days) (i'*8+n):Int)≤r)) (fun i:Nat=>(c.BG).length-i) 0 (⟨Nat.zero_le _,fun i' n r hi=>absurd hi AA⟩) kz ?_)
 rintro i ⟨QH,DC⟩
 refine ac ?_
 refine Tr.seq ?_
 refine Tr.cn rfl ?_ ?_<;>intro h2 q2
 have Fi:i<(c.BG).length:=AH h2
 obtain ⟨w,HJ⟩:=at_ Fi
 refine a3 ?_
 refine Tr.block (Tr.Ax _ (kk [34,33,29,28,12,10,4] rfl) (fun m:Nat=>[(35,int ((m:Nat):Int))]) (fun m:Nat=>m≤(c.room).length∧(∀n r,n<m→c.room[n]? =some r→(c.cnt (AR.zip days) (i*8+n):Int)≤r)) (fun m:Nat=>(c.room).length-m) 0 (⟨Nat.zero_le _,fun n r hn=>absurd hn AA⟩) kz ?_)
 rintro m ⟨Nx,Em⟩
 refine ac ?_
 refine Tr.seq ?_
 refine Tr.cn rfl ?_ ?_<;>intro h3 q3
 have FA:m<(c.room).length:=AH h3
 obtain ⟨r,EC⟩:=at_ FA
 refine a2 ?_
 refine co rfl (AD rfl underlying22 Bg vq vq AA Bl) ?_
 refine ac ?_
 refine wk [35,34,33,29,28,14,13,12,10,4] rfl ?_
 refine ac ?_
 refine co rfl (E6 rfl underlying300 ZW vq vq AA AA rfl) (co rfl (E6 rfl underlying208 Bg vq vq AA AA rfl) (co rfl (IK rfl CX vq (Vb c _ AA AA)) ?_))
 refine ac ?_
 refine wk [48,35,34,33,29,28,12,10,4] rfl ?_
 refine Tr.cn rfl ?_ ?_<;>intro h4 q4
 refine ac ?_
 refine Tr.ret (Fin.Ag (Fin.AG (Fin.AG (Fin.Ag (Fin.Ag (Fin.AG (Fin.AG (Fin.Ag (Fin.AG (Fin.DO rfl (Bm.Dw _ _) rfl ?_ rfl ?_))))))))))
 · exact R8 (by unfold Aq.Bx;rw [if_neg (not_not_intro hf),if_pos ⟨i,m,r,Fi,EC,by assumption⟩]) AB
 · refine int_eq ?_;unfold Aq.Bx;rw [if_neg (not_not_intro hf),if_pos ⟨i,m,r,Fi,EC,by assumption⟩]
 refine a2 ?_
 exact Fin.AM (m+1) ⟨⟨FA,(QV Em EC BC)⟩,by omega⟩ ⟨⟨_,rfl,AF m⟩,kz⟩
 have LK:m=(c.room).length:=by have:=AJ h3;omega
 subst LK
 refine a2 ?_
 exact Fin.AM (i+1) ⟨⟨Fi,(QU DC Em)⟩,by omega⟩ ⟨⟨_,rfl,AF i⟩,kz⟩
 have KS:i=(c.BG).length:=by have:=AJ h2;omega
 subst KS
 refine a2 ?_
 refine Tr.ret (Fin.DO rfl (Bm.Dw _ _) rfl ?_ rfl ?_)
 · rw [VZ (by unfold Aq.Bx;rw [if_neg (not_not_intro hf),if_neg Y4])];exact Lr
 · refine int_eq ?_;unfold Aq.Bx;rw [if_neg (not_not_intro hf),if_neg Y4]
theorem vQ {c:Aq} {AR days:List Int}  :BD prog 108 [GA c,ints AR,ints days] (int (c.Bx AR days [])):=by
 refine fo func108 rfl ⟨rfl,rfl⟩ fun M0 w0=> ?_
 refine a2 ?_
 refine co rfl (AZ rfl (j6 (others:=[]) AO) ⟨kq,kq,kq,⟨_,rfl,Ai _⟩,trivial⟩) ?_
 refine a3 ?_
 · exact Lr
theorem qQ {c:Aq} {l:List (Int×Int)} {n:Int} {i:Fin c.BG.length} (hown:c.own=0) (hn:c.has n=true):BD prog 158 [int ((i.1:Nat):Int),ref [ref (F1 c l)],ref [int n],ref [F0 c.BG,ints c.D5,ints c.room]] (bool (c.free l n i.1)):=by
 refine fo func158 rfl ⟨rfl,rfl⟩ fun M0 w0=> ?_
 have hw:=Hz hown
 obtain ⟨hn0,hr⟩:=MN hn
 have hn8:=Ty hown hn
 have hi:=i.2
 refine a2 ?_
 refine co rfl (E6 rfl underlying300 ZW vq vq AA AA rfl) (co rfl (E6 rfl underlying208 Bg vq vq AA AA rfl) (co rfl (IK rfl CX vq (ck c l AA hn8)) ?_))
 refine ac ?_
 refine co rfl (AD rfl underlying22 Bg vq vq AA (Bt hr)) ?_
 refine ac ?_
 refine wk [5] rfl ?_
 refine ac ?_
 · exact Lr
theorem qR:Entry Tryz.prog 158:=⟨_,Tryz.func158,rfl,rfl⟩
theorem Xr {c:Aq} {AR days:List Int} {n from_:Int}  :BD prog 101 [GA c,ints AR,ints days,int n,int from_] (F8 [int ((c.early AR days n from_).getD 0),bool (c.early AR days n from_).isSome,int (c.Bx AR days [n])]):=by
 refine fo func101 rfl ⟨rfl,rfl⟩ fun M0 w0=> ?_
 refine ac ?_
 refine ao ?_
 refine tp rfl (AZ rfl (j6 (others:=[n]) AO) ⟨kq,kq,kq,Gx,trivial⟩) ?_
 refine ao ?_
 refine Tl rfl rfl rfl rfl ACf yR (fun b1=> ?_)
 refine sf 0 13 ⟨rfl,rfl,rfl⟩ rfl rfl rfl rfl ?_
 refine ao ?_
 refine wk [14,13,8,5,4] rfl ?_
 refine an ?_ ?_<;>intro h1 q1
 refine ac ?_
 refine Tr.ret (Fin.AG (Fin.Q7 rfl (Bm.Dw _ _) rfl ?_ rfl ?_ rfl ?_))
 · refine int_eq ?_;unfold Aq.early;rw [if_neg q1];rfl
 · refine bool_eq ?_;unfold Aq.early;rw [if_neg q1];rfl
 · exact Lr
 have hf:c.Bx AR days [n]=0:=q1
 have hown:=EY (EZ hf)
 have hn:=MM (EZ hf) n AO
 refine Tr.re 13 rfl (Pr.le_of_eq (by rw [VZ hf])) ?_
 refine a2 ?_
 refine co rfl (AZ rfl (u7 (room:=c.free (AR.zip days) n)) ⟨kq,kq,kq,⟨_,rfl,B9 qR (fun i=>qQ (i:=i) hown hn)⟩,trivial⟩) ?_
 refine ac ?_
 refine wk [16,15] rfl ?_
 refine ac ?_
 refine Tr.ret (Fin.Q7 rfl (Bm.Dw _ _) rfl ?_ rfl ?_ rfl ?_)
 · unfold Aq.early;rw [if_pos hf];exact Lr
 · unfold Aq.early;rw [if_pos hf];exact Lr
 · refine int_eq ?_;exact hf.symm
theorem LP {c:Aq} {n:Int} (h:c.check n=0):(c.BG.length≤32∧c.room.length≤8)∧c.room.any FP=false∧c.BG.any GC=false∧OG c.BG∧(∀w∈c.BG,KT w.AR)∧c.BG.any (fun w=>w.AR.any fun n=> !c.has n)=false:=by
 unfold Aq.check at h
 split at h
 · cases h
 ·
  split at h
  · cases h
  ·
   split at h
   · cases h
   ·
    split at h
    · cases h
    ·
     split at h
     · cases h
     ·
      rename_i h1 h2 h3 h4 h5
      rw [Classical.not_not] at h4
      exact ⟨by omega,by simpa using h2,by simpa using h3,h4.1,h4.2,by simpa using h5⟩
theorem H6 {c:Aq} (h:c.own=0):OG c.BG∧∀w∈c.BG,0≤w.lo∧w.lo<w.hi:=by
 obtain ⟨_,_,h3,h4,_⟩:=LP h
 refine ⟨h4,fun w hw=> ?_⟩
 rw [List.any_eq_false] at h3
 have:=h3 w hw
 simp [GC] at this
 omega
abbrev R9 (l:List FC):Prop:=l.Pairwise fun a b=>a.hi≤b.lo
theorem H7:∀{l:List FC},OG l→(∀w∈l,0≤w.lo∧w.lo<w.hi)→R9 l
 |[],_,_=>List.Pairwise.nil
 |[a],_,_=>by simp [R9]
 |a::b::l,h,hw=>by
  have ih:R9 (b::l):=H7 (fun j x y hx hy=>h (j+1) x y Gf (by simpa using hy)) (fun w hm=>hw w (List.mem_cons_of_mem _ hm))
  refine List.Pairwise.cons (fun w hm=> ?_) ih
  have h0:=h 0 a b rfl rfl
  rcases List.mem_cons.1 hm with rfl|hm
  · exact h0
  ·
   have h1:=(List.pairwise_cons.1 ih).1 w hm
   have:=hw b AO
   omega
theorem QW {k:Int} {w:FC} (h:Cm k w=true):w.lo≤k∧k<w.hi:=by unfold Cm at h;simpa using h
theorem sW {k:Int} {w:FC} (h:w.lo≤k∧k<w.hi):Cm k w=true:=by unfold Cm;simpa using h
theorem T0 {k:Int}:∀{l:List FC} {w:FC},R9 l→w∈l→Cm k w=true→l.find? (Cm k)=some w
 |a::l,w,hp,hm,hin=>by
  rcases List.mem_cons.1 hm with rfl|hm
  · exact List.find?_cons_of_pos hin
  ·
   have h1:=(List.pairwise_cons.1 hp).1 w hm
   have h2:=QW hin
   rw [List.find?_cons_of_neg (by intro h;have:=QW h;omega)]
   exact T0 (List.pairwise_cons.1 hp).2 hm hin
theorem qS {c:Aq} {t k:Int} (h:c.own=0):c.may t k=true↔∃w∈c.BG,Cm k w=true∧w.AR.any (fun x=>t==x)=true:=by
 obtain ⟨h1,h2⟩:=H6 h
 unfold Aq.may Aq.Nz
 constructor
 ·
  intro hm
  cases hf:c.BG.find? (Cm k) with
  |none=>rw [hf] at hm;cases hm
  |some w=>rw [hf] at hm;exact ⟨w,List.mem_of_find?_eq_some hf,List.find?_some hf,hm⟩
 ·
  rintro ⟨w,hw,hin,ht⟩
  rw [T0 (H7 h1 h2) hw hin];exact ht
theorem Io {β:Type} {p:β→Bool} {l:List β} {k:Nat} {x:β} (hx:l[k]? =some x) (hp:p x=true):l.any p=true:=List.any_eq_true.2 ⟨x,List.mem_of_getElem? hx,hp⟩
theorem CC {β:Type} {p:β→Bool} {l:List β} (h:∀j y,j<l.length→l[j]? =some y→p y=false):l.any p=false:=by
 rw [List.any_eq_false]
 intro y hy
 obtain ⟨j,hj⟩:=List.mem_iff_getElem?.1 hy
 have:=h j y fK hj
 simp [this]
abbrev QX {β:Type} (p:β→Bool) (l:List β) (k:Nat):Prop:=∀j y,j<k→l[j]? =some y→p y=false
theorem Jq {β:Type} (p:β→Bool) (l:List β):QX p l 0:=fun j y hj=>absurd hj AA
theorem Jr {β:Type} {p:β→Bool} {l:List β} {k:Nat} {x:β} (hx:l[k]? =some x) (hp:p x=false) (h:QX p l k):QX p l (k+1):=CJ hx hp h
abbrev j7 (c:Aq):FC→Bool:=fun w=>w.AR.any fun n=> !c.has n
theorem Js {c:Aq} {m:Int}  :BD prog 102 [GA c,int m] (int (c.check m)):=by
 refine fo func102 rfl ⟨rfl,rfl⟩ fun M0 w0=>(Tr.D9 0 0 rfl rfl fun EK=>(Tr.D9 0 1 rfl rfl fun Ij=>(Tr.D9 0 2 rfl rfl fun KE=> ?_)))
 refine ac ?_
 refine ag ?_ ?_<;>intro h1 q1
 refine a3 ?_
 · exact Sd
 refine an ?_ ?_<;>intro h2 q2
 refine a2 ?_
 · exact Sd
 refine a2 ?_
 refine wk [31,30,29,2,1] rfl (Tr.block (Tr.Ax _ (kk [30,29,2,1] rfl) (fun a:Nat=>[(31,int ((a:Nat):Int))]) (fun a:Nat=>a≤(c.room).length∧(QX FP c.room a)) (fun a:Nat=>(c.room).length-a) 0 (⟨Nat.zero_le _,Jq _ _⟩) kz ?_))
 rintro a ⟨AAe,GD⟩
 refine ac ?_
 refine Tr.seq ?_
 refine Tr.cn rfl ?_ ?_<;>intro h3 q3
 have j8:a<(c.room).length:=AH h3
 obtain ⟨r,j9⟩:=at_ j8
 refine ac ?_
 refine Tr.seq (Tr.block (Tr.seq (Tr.Ah (co rfl (AD rfl underlying22 Bg vq vq AA Bl) ?_))))
 · repeat' first|(refine int_eq ?_;unfold Aq.check;rw [if_neg AA,if_pos (Io j9 (by simp [FP];omega))])|(exact Fin.AM (a+1) ⟨⟨j8,Jr j9 (by simp [FP];omega) GD⟩,by omega⟩ ⟨⟨_,rfl,AF a⟩,kz⟩)|refine ac ?_|(refine Tr.cn rfl ?_ ?_<;>intro h q)|(refine Ch.cg rfl rfl rfl ?_ ?_<;>intro h q)
 have vR:a=(c.room).length:=by have:=AJ h3;omega
 subst vR
 refine a2 ?_
 refine Tr.block (Tr.Ax _ (kk [44,43,2,1] rfl) (fun b:Nat=>[(45,int ((b:Nat):Int))]) (fun b:Nat=>b≤(c.BG).length∧(QX GC c.BG b)) (fun b:Nat=>(c.BG).length-b) 0 (⟨Nat.zero_le _,Jq _ _⟩) kz ?_)
 rintro b ⟨AEc,LQ⟩
 refine ac ?_
 refine Tr.seq ?_
 refine Tr.cn rfl ?_ ?_<;>intro h6 q6
 have AAf:b<(c.BG).length:=AH h6
 obtain ⟨w,AAg⟩:=at_ AAf
 refine ac ?_
 refine Tr.seq (Tr.block (Tr.seq (Tr.A0 (tp rfl (AD rfl underlying75 EW vq vq AA Bl) ?_))))
 refine tp rfl (AK rfl JT EW vq rfl rfl) ?_
 refine Tl rfl rfl rfl rfl z141 Nk (fun b1=> ?_)
 refine sf 0 8 ⟨rfl,rfl,rfl⟩ rfl rfl rfl rfl ?_
 refine ao ?_
 · repeat' first|(refine int_eq ?_;unfold Aq.check;rw [if_neg AA,if_neg (Aw (CC GD)),if_pos (Io AAg (by simp [GC];omega))])|(exact Fin.AM (b+1) ⟨⟨AAf,Jr AAg (by simp [GC];omega) LQ⟩,by omega⟩ ⟨⟨_,rfl,AF b⟩,kz⟩)|refine ac ?_|(refine Tr.cn rfl ?_ ?_<;>intro h q)|(refine Ch.cg rfl rfl rfl ?_ ?_<;>intro h q)
 have ADv:b=(c.BG).length:=by have:=AJ h6;omega
 subst ADv
 refine a2 ?_
 refine Tr.block (Tr.Ax _ (kk [71,70,2,1] rfl) (fun k:Nat=>[(72,int ((k:Nat):Int))]) (fun k:Nat=>k≤(c.BG).length∧((∀(j:Nat) a b,j+1<k→c.BG[j]? =some a→c.BG[j+1]? =some b→a.hi≤b.lo)∧∀(j:Nat) a,j<k→c.BG[j]? =some a→KT a.AR)) (fun k:Nat=>(c.BG).length-k) 0 (⟨Nat.zero_le _,⟨fun j a b hj=>absurd hj AA,fun j a hj=>absurd hj AA⟩⟩) kz ?_)
 rintro k ⟨BK,AL⟩
 refine ac ?_
 refine Tr.seq ?_
 refine Tr.cn rfl ?_ ?_<;>intro h10 Q2
 have Aa:k<(c.BG).length:=AH h10
 obtain ⟨x,AX⟩:=at_ Aa
 refine ac ?_
 refine ao ?_
 refine tp rfl (AD rfl underlying75 EW vq vq AA Bl) ?_
 refine tp rfl (AK rfl JT EW vq rfl rfl) ?_
 refine Tl rfl rfl rfl rfl z141 Nk (fun b2=> ?_)
 refine tm rfl ?_
 refine sf 0 10 ⟨rfl,rfl,rfl⟩ rfl rfl rfl rfl ?_
 refine ao ?_
 refine wk [72,71,70,10,9,2,1] rfl (Tr.Wk [1,2,10,70,71,72] [] (∀y,0<k→c.BG[k-1]? =some y→y.hi≤x.lo) ?_ (fun jV=> ?_))
 refine ag ?_ ?_<;>intro h12 Ze
 obtain ⟨pw,hpw⟩:=at_ (l:=c.BG) (k:=k-1) AA
 refine ac ?_
 refine cy h12 rfl (AD rfl underlying75 EW vq vq AA (JO AA hpw)) ?_
 refine ac ?_
 refine wk [92,72,71,70,10,2,1] rfl ?_
 refine Tr.cn rfl ?_ ?_<;>intro L4 XK
 refine a2 ?_
 · refine int_eq ?_;unfold Aq.check;rw [if_neg AA,if_neg (Aw (CC GD)),if_neg (Aw (CC LQ)),if_pos (VN AA AX hpw BC)]
 refine Tr.skip ?_
 exact Fin.AM () (by intro y' hk' hy';rw [hpw] at hy';cases hy';omega) (kk6 rfl)
 refine ac ?_
 refine wk [92,72,71,70,10,2,1] rfl (Tr.cond rfl (fun h=>nomatch h) (fun _=> ?_))
 refine Tr.skip ?_
 exact Fin.AM () Sv (kk6 rfl)
 refine ac ?_
 refine Tr.block (Tr.Ax _ (kk [72,71,70,10,2,1] rfl) (fun i:Nat=>[(11,int ((i:Nat):Int))]) (fun i:Nat=>1≤i∧i≤max 1 x.AR.length∧∀(j:Nat) a b,j+1<i→x.AR[j]? =some a→x.AR[j+1]? =some b→a<b) (fun i:Nat=>x.AR.length-i) 1 (⟨by omega,by omega,fun j a b hj=>absurd hj AA⟩) kz ?_)
 rintro i ⟨hi1,hi2,DC⟩
 refine an ?_ ?_<;>intro J9 iZ
 have Fi:i<x.AR.length:=AH J9
 obtain ⟨t,ht⟩:=at_ Fi
 obtain ⟨u,hu⟩:=at_ (l:=x.AR) (k:=i-1) AA
 refine Tr.CM 95 rfl fun hlt=> ?_
 · repeat' first|(refine int_eq ?_;unfold Aq.check;rw [if_neg AA,if_neg (Aw (CC GD)),if_neg (Aw (CC LQ)),if_pos (VO AX AA ht hu AA)])|(exact Fin.AM (i+1) ⟨⟨by omega,by omega,NC ht Y7 DC⟩,by omega⟩ ⟨⟨_,rfl,AF i⟩,kz⟩)|refine co rfl (AD rfl underlying22 Bg vq vq AA (JO AA hu)) ?_|refine co rfl (AD rfl underlying22 Bg vq vq AA Bl) ?_|refine ac ?_|(refine Tr.cn rfl ?_ ?_<;>intro h q)
 have hge:x.AR.length≤i:=AJ J9
 have hall:∀(j:Nat) a b,j+1<x.AR.length→x.AR[j]? =some a→x.AR[j+1]? =some b→a<b:=fun j a b hj=>DC j a b AA
 refine a2 ?_
 exact Fin.AM (k+1) ⟨⟨Aa,⟨R4 AX jV AL.1,Zu AX hall AL.2⟩⟩,by omega⟩ ⟨⟨_,rfl,AF k⟩,kz⟩
 have Az:k=(c.BG).length:=by have:=AJ h10;omega
 subst Az
 refine a2 ?_
 refine Tr.block (Tr.Ax _ (kk [115,114,2,1] rfl) (fun d:Nat=>[(116,int ((d:Nat):Int))]) (fun d:Nat=>d≤(c.BG).length∧(QX (j7 c) c.BG d)) (fun d:Nat=>(c.BG).length-d) 0 (⟨Nat.zero_le _,Jq _ _⟩) kz ?_)
 rintro d ⟨AEd,T2⟩
 refine ac ?_
 refine Tr.seq ?_
 refine Tr.cn rfl ?_ ?_<;>intro h16 mY
 have AAh:d<(c.BG).length:=AH h16
 obtain ⟨z,AAi⟩:=at_ AAh
 refine ac ?_
 refine Tr.seq (Tr.block (Tr.seq (Tr.A0 (tp rfl (AD rfl underlying75 EW vq vq AA Bl) ?_))))
 refine tp rfl (AK rfl JT EW vq rfl rfl) ?_
 refine Tl rfl rfl rfl rfl z141 Nk (fun b3=> ?_)
 refine sf 0 13 ⟨rfl,rfl,rfl⟩ rfl rfl rfl rfl ?_
 refine ao ?_
 refine ac ?_
 refine wk [123,122,121,116,115,114,2,1] rfl (Tr.block (Tr.CM 121 rfl fun hlz=>(Tr.Ax _ (kk [122,121,116,115,114,2,1] rfl) (fun e:Nat=>[(123,int ((e:Nat):Int))]) (fun e:Nat=>e≤(z.AR).length∧(QX (fun n=> !c.has n) z.AR e)) (fun e:Nat=>(z.AR).length-e) 0 (⟨Nat.zero_le _,Jq _ _⟩) kz ?_)))
 rintro e ⟨AEe,QI⟩
 refine ac ?_
 refine Tr.seq ?_
 refine Tr.cn rfl ?_ ?_<;>intro Nj mX
 have AAj:e<(z.AR).length:=AH Nj
 obtain ⟨y,AAk⟩:=at_ AAj
 refine ac ?_
 refine Tr.seq (Tr.block (Tr.seq (Tr.Ah (co rfl (AD rfl underlying22 Bg vq vq AA Bl) ?_))))
 · repeat' first|(refine int_eq ?_;unfold Aq.check;rw [if_neg AA,if_neg (Aw (CC GD)),if_neg (Aw (CC LQ)),if_neg (not_not_intro (HG AL)),if_pos (Io AAi (Io AAk Mm))])|(exact Fin.AM (e+1) ⟨⟨AAj,Jr AAk Mm QI⟩,by omega⟩ ⟨⟨_,rfl,AF e⟩,kz⟩)|refine ac ?_|(refine Tr.cn rfl ?_ ?_<;>intro h q)|(refine Ch.cg rfl rfl rfl ?_ ?_<;>intro h q)
 have ADw:e=(z.AR).length:=by have:=AJ Nj;omega
 subst ADw
 refine a2 ?_
 exact Fin.AM (d+1) ⟨⟨AAh,Jr AAi (CC QI) T2⟩,by omega⟩ ⟨⟨_,rfl,AF d⟩,kz⟩
 have ADx:d=(c.BG).length:=by have:=AJ h16;omega
 subst ADx
 refine ac ?_
 refine an ?_ ?_<;>intro MY q20
 refine a2 ?_
 · refine int_eq ?_;unfold Aq.check;rw [if_neg AA,if_neg (Aw (CC GD)),if_neg (Aw (CC LQ)),if_neg (not_not_intro (HG AL)),if_neg (Aw (CC T2)),if_pos (.inl BC)]
 refine a2 ?_
 refine wk [146,145,144,2] rfl (Tr.block (Tr.Ax _ (kk [145,144,2] rfl) (fun g:Nat=>[(146,int ((g:Nat):Int))]) (fun g:Nat=>g≤(c.D5).length∧(QX (fun n=> !c.has n) c.D5 g)) (fun g:Nat=>(c.D5).length-g) 0 (⟨Nat.zero_le _,Jq _ _⟩) kz ?_))
 rintro g ⟨AEf,j_⟩
 refine ac ?_
 refine Tr.seq ?_
 refine Tr.cn rfl ?_ ?_<;>intro RF q21
 have AAl:g<(c.D5).length:=AH RF
 obtain ⟨v,AAm⟩:=at_ AAl
 refine ac ?_
 refine Tr.seq (Tr.block (Tr.seq (Tr.Ah (co rfl (AD rfl underlying22 Bg vq vq AA Bl) ?_))))
 · repeat' first|(refine int_eq ?_;unfold Aq.check;rw [if_neg AA,if_neg (Aw (CC GD)),if_neg (Aw (CC LQ)),if_neg (not_not_intro (HG AL)),if_neg (Aw (CC T2)),if_pos (.inr (Io AAm Mm))])|(exact Fin.AM (g+1) ⟨⟨AAl,Jr AAm Mm j_⟩,by omega⟩ ⟨⟨_,rfl,AF g⟩,kz⟩)|refine ac ?_|(refine Tr.cn rfl ?_ ?_<;>intro h q)|(refine Ch.cg rfl rfl rfl ?_ ?_<;>intro h q)
 have ADy:g=(c.D5).length:=by have:=AJ RF;omega
 subst ADy
 refine a3 ?_
 · refine int_eq ?_;unfold Aq.check;rw [if_neg AA,if_neg (Aw (CC GD)),if_neg (Aw (CC LQ)),if_neg (not_not_intro (HG AL)),if_neg (Aw (CC T2)),if_neg (not_or.2 ⟨not_not_intro AA,Aw (CC j_)⟩)]
theorem sX {c:Aq} {day:Int}  :BD prog 206 [GA c,int day] (int (c.at day)):=by
 refine fo func206 rfl ⟨rfl,rfl⟩ fun M0 w0=>(Tr.D9 0 0 rfl rfl fun EK=> ?_)
 refine a2 ?_
 refine Tr.block (Tr.Ax _ (kk [9,8,1] rfl) (fun i:Nat=>[(10,int ((i:Nat):Int))]) (fun i:Nat=>i≤(c.BG).length∧(QX (Cm day) c.BG i)) (fun i:Nat=>(c.BG).length-i) 0 (⟨Nat.zero_le _,Jq _ _⟩) kz ?_)
 rintro i ⟨QH,DC⟩
 refine ac ?_
 refine Tr.seq ?_
 refine Tr.cn rfl ?_ ?_<;>intro h1 q1
 have Fi:i<(c.BG).length:=AH h1
 obtain ⟨w,HJ⟩:=at_ Fi
 refine ac ?_
 refine ao ?_
 refine tp rfl (AD rfl underlying75 EW vq vq AA Bl) ?_
 refine tp rfl (AK rfl JT EW vq rfl rfl) ?_
 refine Tl rfl rfl rfl rfl z141 Nk (fun b1=> ?_)
 refine tm rfl ?_
 refine sf 0 6 ⟨rfl,rfl,rfl⟩ rfl rfl rfl rfl ?_
 refine ao ?_
 · repeat' first|(exact int_eq (E8 HJ (by simp [Cm];omega) DC))|(exact Fin.AM (i+1) ⟨⟨Fi,Jr HJ (by simp [Cm];omega) DC⟩,by omega⟩ ⟨⟨_,rfl,AF i⟩,kz⟩)|refine ac ?_|(refine Tr.cn rfl ?_ ?_<;>intro h q)|(refine Ch.cg rfl rfl rfl ?_ ?_<;>intro h q)
 have KS:i=(c.BG).length:=by have:=AJ h1;omega
 subst KS
 refine a3 ?_
 · exact int_eq (PI DC)
theorem vS {c:Aq} {n day:Int} (h:c.at day<0):c.may n day=false:=by
 have h2:=Jm (Cm day) c.BG
 rw [if_neg (by unfold Aq.at at h;omega)] at h2
 unfold Aq.may Aq.Nz;rw [h2]
theorem Z8 {c:Aq} {n day:Int} {w:FC} (h:0≤c.at day) (hw:c.BG[(c.at day).toNat]? =some w):c.may n day=w.AR.any (fun x=>n==x):=by
 have h2:=Jm (Cm day) c.BG
 unfold Aq.at at h hw
 rw [if_pos h,hw] at h2
 unfold Aq.may Aq.Nz;rw [h2]
theorem qT {c:Aq} {day:Int} (h:0≤c.at day):∃w,c.BG[(c.at day).toNat]? =some w∧Cm day w=true:=by
 obtain ⟨w,h1,h2⟩:=Zt (p:=Cm day) (l:=c.BG) h
 exact ⟨w,h1,h2⟩
theorem kA {c:Aq} {n day:Int}  :BD prog 161 [GA c,int n,int day] (bool (c.may n day)):=by
 refine fo func161 rfl ⟨rfl,rfl⟩ fun M0 w0=> ?_
 refine a2 ?_
 refine co rfl (C4 (sX) rfl rfl rfl) ?_
 refine ac ?_
 refine an ?_ ?_<;>intro h1 q1
 refine a2 ?_
 · exact bool_eq (vS BC).symm
 obtain ⟨w,hw,hin⟩:=qT (c:=c) (day:=day) q1
 refine a2 ?_
 refine co rfl (AD rfl underlying75 EW vq vq AA (Bt hw)) ?_
 refine ac ?_
 refine wk [22,21,20,1] rfl (Tr.block (Tr.CM 20 rfl fun hlt=>(Tr.Ax _ (kk [21,20,1] rfl) (fun k:Nat=>[(22,int ((k:Nat):Int))]) (fun k:Nat=>k≤(w.AR).length∧(QX (fun x=>n==x) w.AR k)) (fun k:Nat=>(w.AR).length-k) 0 (⟨Nat.zero_le _,Jq _ _⟩) kz ?_)))
 rintro k ⟨BK,AL⟩
 refine ac ?_
 refine Tr.seq ?_
 refine Tr.cn rfl ?_ ?_<;>intro h2 q2
 have Aa:k<(w.AR).length:=AH h2
 obtain ⟨t,AX⟩:=at_ Aa
 refine ac ?_
 refine Tr.seq (Tr.block (Tr.seq (Tr.Ah (co rfl (AD rfl underlying22 Bg vq vq AA Bl) ?_))))
 · repeat' first|(refine bool_eq ?_;rw [Z8 BC hw];exact (Io AX B1).symm)|(exact Fin.AM (k+1) ⟨⟨Aa,Jr AX B1 AL⟩,by omega⟩ ⟨⟨_,rfl,AF k⟩,kz⟩)|refine ac ?_|(refine Tr.cn rfl ?_ ?_<;>intro h q)
 have Az:k=(w.AR).length:=by have:=AJ h2;omega
 subst Az
 refine a3 ?_
 · refine bool_eq ?_;rw [Z8 BC hw];exact (CC AL).symm
theorem Vc {c:Aq} {n day:Int} (h:c.own=0) {k:Nat} {w:FC} (hw:c.BG[k]? =some w) (hd:max day w.lo<w.hi):c.may n (max day w.lo)=w.AR.any (fun x=>n==x):=by
 obtain ⟨h1,h2⟩:=H6 h
 have hm:=List.mem_of_getElem? hw
 have h3:=h2 w hm
 unfold Aq.may Aq.Nz
 rw [T0 (H7 h1 h2) hm (sW AA)]
theorem kB {c:Aq} {a b:List Int} {k:Nat} {n d:Int} (hx:a[k]? =some n) (hd:b[k]? =some d) (hm:c.may n d=true) (h:((a.zip b).take k).all (fun p=>c.may p.1 p.2)=true):((a.zip b).take (k+1)).all (fun p=>c.may p.1 p.2)=true:=by
 rw [ML hx hd,List.all_append,h];simp [hm]
theorem any_nil {c:Aq} {l:List Int}:(l++[]).any (fun n=> !c.has n)=l.any (fun n=> !c.has n):=by rw [List.append_nil]
theorem vT {c:Aq} {AR days:List Int}  :BD prog 163 [GA c,ints AR,ints days] (int (c.Ca AR days [])):=by
 refine fo func163 rfl ⟨rfl,rfl⟩ fun M0 w0=>(Tr.D9 0 1 rfl rfl fun Ij=>(Tr.D9 0 2 rfl rfl fun KE=>(Tr.CM 1 rfl fun Fz=>(Tr.CM 2 rfl fun U_=> ?_))))
 refine a2 ?_
 refine co rfl (C4 (Js) rfl rfl rfl) ?_
 refine ac ?_
 refine Tr.seq (Tr.re 7 rfl (int_eq (b:=c.own) rfl) ?_)
 refine an ?_ ?_<;>intro h1 q1
 refine a2 ?_
 · refine int_eq ?_;unfold Aq.Ca;rw [if_pos BC]
 have hown:c.own=0:=q1
 refine a2 ?_
 refine wk [24,3,2,1] rfl ?_
 refine Tr.cn rfl ?_ ?_<;>intro h2 q2
 refine a2 ?_
 · refine int_eq ?_;unfold Aq.Ca;rw [if_neg (not_not_intro hown),if_pos AA]
 refine ac ?_
 refine an ?_ ?_<;>intro h3 q3
 refine a2 ?_
 · refine int_eq ?_;unfold Aq.Ca;rw [if_neg (not_not_intro hown),if_neg AA,if_pos AA]
 refine a2 ?_
 refine Tr.block (Tr.Ax _ (kk [29,28,3,2,1] rfl) (fun a:Nat=>[(30,int ((a:Nat):Int))]) (fun a:Nat=>a≤(AR).length∧(QX (fun n=> !c.has n) AR a)) (fun a:Nat=>(AR).length-a) 0 (⟨Nat.zero_le _,Jq _ _⟩) kz ?_)
 rintro a ⟨AAe,GD⟩
 refine ac ?_
 refine Tr.seq ?_
 refine Tr.cn rfl ?_ ?_<;>intro h4 q4
 have j8:a<(AR).length:=AH h4
 obtain ⟨r,j9⟩:=at_ j8
 refine ac ?_
 refine Tr.seq (Tr.block (Tr.seq (Tr.Ah (co rfl (AD rfl underlying22 Bg vq vq AA Bl) ?_))))
 · repeat' first|(refine int_eq ?_;unfold Aq.Ca;rw [if_neg (not_not_intro hown),if_neg AA,if_neg AA,any_nil,if_pos (Io j9 Mm)])|(exact Fin.AM (a+1) ⟨⟨j8,Jr j9 Mm GD⟩,by omega⟩ ⟨⟨_,rfl,AF a⟩,kz⟩)|refine ac ?_|(refine Tr.cn rfl ?_ ?_<;>intro h q)|(refine Ch.cg rfl rfl rfl ?_ ?_<;>intro h q)
 have vR:a=(AR).length:=by have:=AJ h4;omega
 subst vR
 refine a2 ?_
 refine Tr.block (Tr.Ax _ (kk [45,44,3,2] rfl) (fun k:Nat=>[(46,int ((k:Nat):Int))]) (fun k:Nat=>k≤(AR).length∧(((AR.zip days).take k).all (fun p=>c.may p.1 p.2)=true)) (fun k:Nat=>(AR).length-k) 0 (⟨Nat.zero_le _,by simp⟩) kz ?_)
 rintro k ⟨BK,AL⟩
 refine ac ?_
 refine Tr.seq ?_
 refine Tr.cn rfl ?_ ?_<;>intro h7 q7
 have Aa:k<(AR).length:=AH h7
 obtain ⟨n,AX⟩:=at_ Aa
 obtain ⟨d,hd⟩:=at_ (l:=days) (k:=k) AA
 · repeat' first|(refine int_eq ?_;unfold Aq.Ca;rw [if_neg (not_not_intro hown),if_neg AA,if_neg AA,any_nil,if_neg (Aw (CC GD)),if_neg (Xq AX hd BC)])|exact Fin.AM (k+1) ⟨⟨Aa,kB AX hd Cc AL⟩,by omega⟩ ⟨⟨_,rfl,AF k⟩,kz⟩|refine co rfl (GI rfl CX rfl) (co rfl (XC (kA) rfl rfl rfl rfl) ?_)|refine co rfl (AD rfl underlying22 Bg vq vq AA Bl) ?_|refine ac ?_|(refine Tr.cn rfl ?_ ?_<;>intro h q)
 have Az:k=(AR).length:=by have:=AJ h7;omega
 subst Az
 refine a3 ?_
 · refine int_eq ?_;unfold Aq.Ca;rw [if_neg (not_not_intro hown),if_neg AA,if_neg AA,any_nil,if_neg (Aw (CC GD)),if_pos (Tz AL AA)]
def Aq.E_ (c:Aq) (l:List (Int×Int)):List (List Int):=(List.range c.BG.length).map fun i=>(List.range c.room.length).map fun n=>(c.cnt l (i*8+n):Int)
def KU (c:Aq) (l:List (Int×Int)):List (List Pr):=(c.E_ l).map fun r=>r.map fun z=>int z
def kC (c:Aq):List Pr:=(List.replicate c.room.length (Value.int .i64 0)).map is
theorem G4 (c:Aq) (l:List (Int×Int)):(KU c l).length=c.BG.length:=by simp [KU,Aq.E_]
theorem kD {c:Aq} {l:List (Int×Int)}:∀r∈KU c l,r.length=c.room.length:=by
 intro r hr
 simp only [KU,Aq.E_,List.mem_map] at hr
 obtain ⟨_,⟨i,_,rfl⟩,rfl⟩:=hr
 simp
theorem cq (c:Aq):KU c []=List.replicate c.BG.length (kC c):=by
 apply List.ext_getElem?
 intro i
 by_cases hi:i<c.BG.length
 ·
  rw [List.getElem?_replicate,if_pos hi]
  simp only [KU,Aq.E_,List.getElem?_map,List.getElem?_range hi,Option.map_some]
  congr 1
  apply List.ext_getElem?
  intro n
  by_cases hn:n<c.room.length
  · simp [kC,List.getElem?_range hn,List.getElem?_replicate,hn,Aq.cnt]
  · rw [List.getElem?_eq_none B1,List.getElem?_eq_none (by simp [kC];omega)]
 · rw [List.getElem?_eq_none Sw,List.getElem?_eq_none B1]
def MO (c:Aq) (l:List (Int×Int)) (i:Nat):List Pr:=(List.range c.room.length).map fun n=>int (c.cnt l (i*8+n))
theorem Om {c:Aq} {l:List (Int×Int)} {i:Nat} (hi:i<c.BG.length):(KU c l)[i]? =some (MO c l i):=by
 simp [KU,Aq.E_,List.getElem?_range hi,MO]
theorem Du (c:Aq) (l:List (Int×Int)) (i:Nat):(MO c l i).length=c.room.length:=by simp [MO]
theorem On {c:Aq} {l:List (Int×Int)} {i n:Nat} (hn:n<c.room.length):(MO c l i)[n]? =some (int (c.cnt l (i*8+n))):=by
 simp [MO,List.getElem?_range hn]
theorem MP (c:Aq) (l:List (Int×Int)) (x d:Int) (k:Nat):c.cnt (l++[(x,d)]) k=c.cnt l k+if (c.at d).toNat*8+x.toNat=k then 1 else 0:=by
 unfold Aq.cnt
 rw [List.countP_append,List.countP_cons,List.countP_nil]
 simp [Aq.cell]
theorem Xs {c:Aq} {l:List (Int×Int)} {x d:Int} {j:Nat} (h8:c.room.length≤8) (hx:x.toNat<c.room.length) (hj:(c.at d).toNat≠j):MO c (l++[(x,d)]) j=MO c l j:=by
 unfold MO
 refine List.map_congr_left fun m hm=> ?_
 have:=List.mem_range.1 hm
 rw [MP,if_neg AA];rfl
theorem cr {c:Aq} {l:List (Int×Int)} {x d:Int} (h8:c.room.length≤8) (hx:x.toNat<c.room.length):(MO c l (c.at d).toNat).take (0+x.toNat*1)++[int ((c.cnt l ((c.at d).toNat*8+x.toNat):Int)+1)]++(MO c l (c.at d).toNat).drop (0+x.toNat*1+1)=MO c (l++[(x,d)]) (c.at d).toNat:=by
 rw [show 0+x.toNat*1=x.toNat by omega]
 apply List.ext_getElem?
 intro k
 by_cases hk:k<c.room.length
 ·
  rw [On hk,MP]
  rcases Nat.lt_trichotomy k x.toNat with h|h|h
  · rw [List.append_assoc,List.getElem?_append_left (by rw [List.length_take,Du];omega),List.getElem?_take,if_pos h,On hk,if_neg AA];rfl
  ·
   subst h
   rw [List.append_assoc,List.getElem?_append_right (by rw [List.length_take,Du];omega),List.length_take,Du,Nat.min_eq_left AA,Nat.sub_self]
   simp
  ·
   rw [List.getElem?_append_right (by rw [List.length_append,List.length_take,Du];simp;omega),List.length_append,List.length_take,Du,List.getElem?_drop,Nat.min_eq_left AA]
   simp only [List.length_cons,List.length_nil]
   rw [show x.toNat+1+(k-(x.toNat+(0+1)))=k by omega,On hk,if_neg AA];rfl
 · rw [List.getElem?_eq_none (by simp [Du];omega),List.getElem?_eq_none (by rw [Du];omega)]
theorem kE {c:Aq} {l:List (Int×Int)} {x d:Int} (h8:c.room.length≤8) (hi:(c.at d).toNat<c.BG.length) (hx:x.toNat<c.room.length):(KU c l).set (c.at d).toNat (MO c (l++[(x,d)]) (c.at d).toNat)=KU c (l++[(x,d)]):=by
 apply List.ext_getElem?
 intro j
 rw [List.getElem?_set]
 by_cases hj:(c.at d).toNat=j
 ·
  subst hj
  rw [if_pos rfl,if_pos (by rw [G4];exact hi),Om hi]
 ·
  rw [if_neg hj]
  by_cases hl:j<c.BG.length
  · rw [Om hl,Om hl,Xs h8 hx hj]
  · rw [List.getElem?_eq_none Sw,List.getElem?_eq_none Sw]
abbrev rowsOf (c:Aq) (bs:List Nat):Pr:=slice 1 (bs.map fun b=>[is (J8 c.room.length b)])
theorem Jt {c:Aq} {AR days others:List Int} (h:c.Ca AR days others=0):AR.length=days.length∧AR.length≤24:=by
 have ho:=EY h
 unfold Aq.Ca at h
 rw [if_neg (not_not_intro ho)] at h
 split at h
 · cases h
 ·
  split at h
  · cases h
  · omega
theorem MQ {c:Aq} {AR days others:List Int} (h:c.Ca AR days others=0):(AR.zip days).all (fun p=>c.may p.1 p.2)=true:=by
 have ho:=EY h
 unfold Aq.Ca at h
 rw [if_neg (not_not_intro ho)] at h
 split at h
 · cases h
 ·
  split at h
  · cases h
  ·
   split at h
   · cases h
   ·
    split at h
    · exact BC
    · cases h
theorem Z9 {c:Aq} {AR days:List Int} (hf:c.Ca AR days []=0):BD prog 160 [GA c,ints AR,ints days] (slice 1 ((c.E_ (AR.zip days)).map fun r=>[ints r])):=by
 refine fo func160 rfl ⟨rfl,rfl⟩ fun M0 w0=> ?_
 have hown:=EY hf
 obtain ⟨h32,h8⟩:=Hz hown
 obtain ⟨hlen,Ld⟩:=Jt hf
 have hmay:=MQ hf
 have KV:=MM hf
 have hm:c.room.length≤maxLen:=by unfold maxLen;omega
 refine a3 ?_
 refine Tr.block (Tr.CB 22 1 (Tr.Uk _ (kk [12,3,2,1] rfl) (fun (bs:List Nat) u=>[(13,int ((bs.length:Nat):Int)),(7,Ae u (rowsOf c bs))]) (fun (bs:List Nat) u=>Hp M0 w0 II (As 22 1 u::DW 3 bs (List.replicate bs.length (kC c)))) (fun (bs:List Nat)=>bs.length≤c.BG.length) (fun (bs:List Nat)=>c.BG.length-bs.length) ([]) (.slice none 0 0) AO ⟨kq,⟨_,rfl,Bu AO⟩,trivial⟩ (fun _ _ h=>h) ?_))
 rintro bs u Us
 refine ac ?_
 refine Tr.seq ?_
 refine Tr.cn rfl ?_ ?_<;>intro h1 q1
 have hlt:bs.length<c.BG.length:=AH h1
 refine ac ?_
 refine ap ?_
 refine TO.ZS rfl rfl AB rfl underlying22 Bg J_ z3 rfl vq vq HI AA (fun b1=> ?_)
 refine tp rfl (AQ (xs:=[.tmp 19]) (rows:=[[_]]) rfl rfl underlying128 Mx z22 rfl AB ⟨⟨Ab,DK⟩,trivial⟩ AB) ?_
 refine TO.Ef 1 rfl rfl AB (CN rfl rfl rfl rfl underlying128 Mx ACX z22 KR Gx (BQ BI Oc)) (fun v1=> ?_)
 refine ap ?_
 refine wk [13,12,7,3,2,1] rfl ?_
 refine ac ?_
 refine Fin.perm (rs':=As 22 1 v1::DW 3 (bs++[b1]) (List.replicate (bs++[b1]).length (kC c))) ((List.Perm.swap _ _ _).trans (List.Perm.cons _ (by rw [List.length_append,List.length_singleton,List.replicate_succ'];exact (Rd AO).symm))) ?_
 exact Fin.ZP (bs++[b1]) v1 (⟨by simp;omega,by simp;omega⟩) ⟨⟨_,rfl,int_eq AO⟩,⟨_,rfl,BU Ex⟩,kz⟩ (fun _ _ h=>h)
 have Jk:bs.length=c.BG.length:=by have:=AJ h1;omega
 refine a2 ?_
 refine Tr.block ?_
 refine Tr.Ez _ (kk [24,23,3,2] rfl) (fun k u2=>[(25,int ((k:Nat):Int)),(7,Ae u2 (rowsOf c bs))]) (fun k u2=>Hp M0 w0 II (As 22 1 u2::DW 3 bs (KU c ((AR.zip days).take k)))) (fun k:Nat=>k≤(AR).length) (fun k:Nat=>(AR).length-k) 0 u (Nat.zero_le _) ⟨kq,⟨_,rfl,BU AO⟩,trivial⟩ ((by rw [List.take_zero,cq,←Jk];exact fun _ _ h=>h)) ?_
 rintro k u2 BK
 refine ac ?_
 refine Tr.seq ?_
 refine Tr.cn rfl ?_ ?_<;>intro h2 q2
 have Aa:k<(AR).length:=AH h2
 obtain ⟨n,AX⟩:=at_ Aa
 obtain ⟨d,hd⟩:=at_ (l:=days) (k:=k) AA
 have hmk:c.may n d=true:=by have:=List.all_eq_true.1 hmay (n,d) (List.mem_of_getElem? (by rw [List.getElem?_zip_eq_some];exact ⟨AX,hd⟩));exact this
 have hat:=Xp hmk
 have hai:(c.at d).toNat<c.BG.length:=by have:=(NB (Cm d) c.BG).2;unfold Aq.at at*;omega
 obtain ⟨b0,hb0⟩:=at_ (l:=bs) (k:=(c.at d).toNat) AA
 have hn8:=KV n (List.mem_append_left _ (List.mem_of_getElem? AX))
 have hn9:0≤n∧n<c.room.length:=by unfold Aq.has at hn8;simpa using hn8
 have hxn:n.toNat<c.room.length:=by omega
 have hbt:bs.length=(KU c ((AR.zip days).take k)).length:=by rw [G4];exact Jk
 have vO:c.cnt ((AR.zip days).take k) ((c.at d).toNat*8+n.toNat)≤24:=Nat.le_trans (j4 _ _ _) B1
 refine a2 ?_
 refine co rfl (AD rfl underlying22 Bg vq vq AA Bl) ?_
 refine ac ?_
 refine Tr.perm (rs':=AE true b0 3 (MO c ((AR.zip days).take k) (c.at d).toNat)::As 22 1 u2::DW 3 (bs.eraseIdx (c.at d).toNat) ((KU c ((AR.zip days).take k)).eraseIdx (c.at d).toNat)) (((gE hbt hb0 (Om hai)).cons _).trans (List.Perm.swap _ _ _)) ?_
 refine Tr.rx ?_
 refine ay ?_
 refine xo rfl (fun _=>AD rfl underlying22 Bg vq vq AA Bl) ?_
 refine xo rfl (fun _=>GI rfl CX rfl) (xo rfl (fun _=>C4 (sX) rfl rfl rfl) (xo rfl (fun _=>AD rfl underlying128 Mx KR vq AA Bl) ?_))
 refine ay ?_
 refine xo rfl (fun _=>BE rfl underlying22 Bg vq vq AA AA) ?_
 refine HO 0 rfl rfl (Ay rfl CX vq (by rw [show 0+n.toNat*1=n.toNat by omega];exact On hxn)) ?_
 refine xo rfl (fun _=>Ey rfl vq vq ?hin) ?_;case hin=>unfold N9;omega
 refine xo rfl (fun _=>BE rfl underlying22 Bg vq vq AA AA) ?_
 refine Cx.Ee 0 rfl rfl (A9 rfl rfl vq DK Bg rfl (by rw [Du];omega) (cr h8 hxn)) ?_
 refine Cx.nil ⟨by kernel_rfl,?_⟩
 refine BW.done al2 ?_
 refine ac ?_
 refine wk [25,24,23,7,3,2] rfl ?_
 refine ac ?_
 refine Fin.perm (rs':=As 22 1 u2::DW 3 bs (KU c ((AR.zip days).take (k+1)))) ((List.Perm.swap _ _ _).trans (List.Perm.cons _ (by rw [ML AX hd,←kE h8 hai hxn];exact (TG _ hbt hb0).symm))) ?_
 exact Fin.Dm (k+1) u2 (⟨Aa,by omega⟩) ⟨⟨_,rfl,AF k⟩,⟨_,rfl,BU AO⟩,kz⟩ (fun _ _ h=>h)
 have Az:k=(AR).length:=by have:=AJ h2;omega
 subst Az
 have hbt:bs.length=(KU c ((AR.zip days).take AR.length)).length:=by rw [G4];exact Jk
 refine ac ?_
 refine Tr.seq (Tr.drop 0 (Tr.Uo 7 hbt hm kD rfl (A_ _ _) ?_))
 refine a2 ?_
 · exact Pr.le_of_eq (by rw [List.take_of_length_le B1];unfold KU;rw [List.map_map];exact congrArg _ (List.map_congr_left fun r _=>by show [slice 1 _]=[slice 1 _];rw [List.map_map];rfl))
theorem Z_ {c:Aq} {l:List (Int×Int)} {i:Nat} {r:List Int} (h:(c.E_ l)[i]? =some r):i<c.BG.length∧r=(List.range c.room.length).map fun n=>(c.cnt l (i*8+n):Int):=by
 have hi:i<c.BG.length:=by
  rcases Nat.lt_or_ge i c.BG.length with h'|h'
  · exact h'
  · rw [List.getElem?_eq_none (by simp [Aq.E_];omega)] at h;cases h
 refine ⟨hi,?_⟩
 simp [Aq.E_,List.getElem?_range hi] at h
 exact h.symm
theorem kG {c:Aq} {l:List (Int×Int)} {i n:Nat} {r:List Int} {z:Int} (hr:r=(List.range c.room.length).map fun n=>(c.cnt l (i*8+n):Int)) (h:r[n]? =some z):n<c.room.length∧z=c.cnt l (i*8+n):=by
 subst hr
 have hn:n<c.room.length:=by
  rcases Nat.lt_or_ge n c.room.length with h'|h'
  · exact h'
  · rw [List.getElem?_eq_none B1] at h;cases h
 refine ⟨hn,?_⟩
 simp [List.getElem?_range hn] at h
 exact h.symm
theorem QY (c:Aq) (l:List (Int×Int)):(c.E_ l).length=c.BG.length:=by simp [Aq.E_]
theorem aA {c:Aq} {AR days:List Int}  :BD prog 109 [GA c,ints AR,ints days] (int (c.Bx AR days [])):=by
 refine fo func109 rfl ⟨rfl,rfl⟩ fun M0 w0=> ?_
 refine a2 ?_
 refine co rfl (XC (vT) rfl rfl rfl rfl) ?_
 refine ac ?_
 refine an ?_ ?_<;>intro h1 q1
 refine a2 ?_
 · refine int_eq ?_;unfold Aq.Bx;rw [if_pos BC]
 have hf:c.Ca AR days []=0:=q1
 refine a2 ?_
 refine co rfl (XC (Z9 BC) rfl rfl rfl rfl) ?_
 refine ac ?_
 refine wk [24,23,22,3] rfl (Tr.block (Tr.CM 22 rfl fun hlt=>(Tr.Ax _ (kk [23,22,3] rfl) (fun i:Nat=>[(24,int ((i:Nat):Int))]) (fun i:Nat=>i≤(c.E_ (AR.zip days)).length∧(∀i' n r,i'<i→c.room[n]? =some r→(c.cnt (AR.zip days) (i'*8+n):Int)≤r)) (fun i:Nat=>(c.E_ (AR.zip days)).length-i) 0 (⟨Nat.zero_le _,fun i' n r hi=>absurd hi AA⟩) kz ?_)))
 rintro i ⟨QH,DC⟩
 refine ac ?_
 refine Tr.seq ?_
 refine Tr.cn rfl ?_ ?_<;>intro h2 q2
 have Fi:i<(c.E_ (AR.zip days)).length:=AH h2
 obtain ⟨row,HJ⟩:=at_ Fi
 obtain ⟨hiw,hrow⟩:=Z_ HJ
 have hrl:row.length=c.room.length:=by rw [hrow];simp
 refine ac ?_
 refine Tr.seq (Tr.block (Tr.seq (Tr.Ah (co rfl (AD rfl underlying128 Mx vq vq AA Bl) ?_))))
 refine a2 ?_
 refine Tr.block (Tr.CM 28 rfl fun hlr=>(Tr.Ax _ (kk [29,28,24,23,22,3] rfl) (fun m:Nat=>[(30,int ((m:Nat):Int))]) (fun m:Nat=>m≤(row).length∧(∀n r,n<m→c.room[n]? =some r→(c.cnt (AR.zip days) (i*8+n):Int)≤r)) (fun m:Nat=>(row).length-m) 0 (⟨Nat.zero_le _,fun n r hn=>absurd hn AA⟩) kz ?_))
 rintro m ⟨Nx,Em⟩
 refine ac ?_
 refine Tr.seq ?_
 refine Tr.cn rfl ?_ ?_<;>intro h3 q3
 have FA:m<(row).length:=AH h3
 obtain ⟨z,EC⟩:=at_ FA
 obtain ⟨hmr,hz⟩:=kG hrow EC
 obtain ⟨r,hr⟩:=at_ hmr
 subst hz
 · repeat' first|(refine int_eq ?_;unfold Aq.Bx;rw [if_neg (not_not_intro hf),if_pos ⟨i,m,r,hiw,hr,by omega⟩])|exact Fin.AM (m+1) ⟨⟨FA,QV Em hr AA⟩,by omega⟩ ⟨⟨_,rfl,AF m⟩,kz⟩|refine co rfl (AD rfl underlying22 Bg vq vq AA Bl) ?_|refine ac ?_|(refine Tr.cn rfl ?_ ?_<;>intro h q)
 have LK:m=(row).length:=by have:=AJ h3;omega
 subst LK
 refine a2 ?_
 exact Fin.AM (i+1) ⟨⟨Fi,QU DC (by rw [←hrl];exact Em)⟩,by omega⟩ ⟨⟨_,rfl,AF i⟩,kz⟩
 have KS:i=(c.E_ (AR.zip days)).length:=by have:=AJ h2;omega
 subst KS
 refine a3 ?_
 · refine int_eq ?_;unfold Aq.Bx;rw [if_neg (not_not_intro hf),if_neg (by rintro ⟨i,n,r,h1,h2,h3⟩;have:=DC i n r (by rw [QY];exact h1) h2;omega)]
theorem cv {c:Aq} {AR days:List Int} {n:Int} (h:c.has n=true):c.Ca AR days [n]=c.Ca AR days []:=by
 unfold Aq.Ca
 rw [List.any_append,List.append_nil]
 simp [h]
theorem Gt {c:Aq} {AR days:List Int} {n:Int} (h:c.has n=true):c.Bx AR days [n]=c.Bx AR days []:=by
 unfold Aq.Bx;rw [cv h]
theorem DQ {c:Aq} {AR days os:List Int} {e:Int} (h:c.Ca AR days os=e) (he:e≠0):c.Bx AR days os=e:=by
 unfold Aq.Bx;rw [if_pos G1,h]
theorem NF {c:Aq} {AR days os:List Int} (h:¬c.own=0):c.Ca AR days os=c.own:=by unfold Aq.Ca;rw [if_pos h]
theorem Xt {c:Aq} {AR days os:List Int} (h:c.own=0) (h1:AR.length≠days.length):c.Ca AR days os=1:=by unfold Aq.Ca;rw [if_neg (not_not_intro h),if_pos h1]
theorem Xu {c:Aq} {AR days os:List Int} (h:c.own=0) (h1:AR.length=days.length) (h2:24<AR.length):c.Ca AR days os=3:=by unfold Aq.Ca;rw [if_neg (not_not_intro h),if_neg (not_not_intro h1),if_pos h2]
theorem Wb {c:Aq} {AR days:List Int} {n:Int} (h:c.own=0) (h1:AR.length=days.length) (h2:¬24<AR.length) (h3:¬c.has n=true):c.Ca AR days [n]=2:=by
 unfold Aq.Ca;rw [if_neg (not_not_intro h),if_neg (not_not_intro h1),if_neg h2,if_pos (by rw [List.any_append];simp [h3])]
theorem D7 {c:Aq} {AR days:List Int} {n d e:Int} (h:c.Bx AR days [n]=e) (he:e≠0):c.early AR days n d=none:=by
 unfold Aq.early;rw [if_neg G1]
theorem Ju {c:Aq} {AR days:List Int} {n d:Int} (h:c.Bx AR days [n]=0):c.early AR days n d=c.next n d (c.free (AR.zip days) n):=by
 unfold Aq.early;rw [if_pos h]
theorem QZ {c:Aq} {n day:Int} {room:Nat→Bool} (h:c.own=0) {k:Nat} {w:FC} (hw:c.BG[k]? =some w) (hd:max day w.lo<w.hi) (hm:c.may n (max day w.lo)=true) (hr:room k=true):DY n (max day 0) room k (c.BG.drop k)=some (max day w.lo):=by
 have h3:=(H6 h).2 w (List.mem_of_getElem? hw)
 rw [Vc h hw hd] at hm
 rw [QM hw AA hm hr,show max (max day 0) w.lo=max day w.lo by omega]
theorem Jv {c:Aq} {n day:Int} {room:Nat→Bool} (h:c.own=0) {k:Nat} {w:FC} (hw:c.BG[k]? =some w) (hd:¬(max day w.lo<w.hi∧c.may n (max day w.lo)=true∧room k=true)):DY n (max day 0) room k (c.BG.drop k)=DY n (max day 0) room (k+1) (c.BG.drop (k+1)):=by
 have h3:=(H6 h).2 w (List.mem_of_getElem? hw)
 refine Mo hw ?_
 rintro ⟨h1,h2,h5⟩
 have h4:max day w.lo<w.hi:=by omega
 exact hd ⟨h4,by rw [Vc h hw h4];exact h2,h5⟩
theorem Vd {c:Aq} {AR days:List Int} {n from_:Int}  :BD prog 104 [GA c,ints AR,ints days,int n,int from_] (F8 [int ((c.early AR days n from_).getD 0),bool (c.early AR days n from_).isSome,int (c.Bx AR days [n])]):=by
 refine fo func104 rfl ⟨rfl,rfl⟩ fun M0 w0=>(Tr.D9 0 0 rfl rfl fun EK=>(Tr.D9 0 1 rfl rfl fun Ij=>(Tr.D9 0 2 rfl rfl fun KE=>(Tr.CM 1 rfl fun Fz=>(Tr.CM 2 rfl fun U_=> ?_)))))
 refine a2 ?_
 refine co rfl (C4 (Js) rfl rfl rfl) ?_
 refine ac ?_
 refine Tr.seq (Tr.re 13 rfl (int_eq (b:=c.own) rfl) ?_)
 refine an ?_ ?_<;>intro h1 q1
 refine ac ?_
 refine wk [12,11,10] rfl (Tr.ret (Fin.AG (Fin.Q7 rfl (Bm.Dw _ _) rfl ?_ rfl ?_ rfl ?_)))
 · refine int_eq ?_;rw [D7 (DQ (NF BC) BC) BC];rfl
 · refine bool_eq ?_;rw [D7 (DQ (NF BC) BC) BC];rfl
 · refine int_eq ?_;exact (DQ (NF BC) BC).symm
 have hown:c.own=0:=q1
 refine a2 ?_
 refine wk [31,5,4,3,2,1] rfl ?_
 refine Tr.cn rfl ?_ ?_<;>intro h2 q2
 refine ac ?_
 refine Tr.ret (Fin.AG (Fin.Q7 rfl (Bm.Dw _ _) rfl ?_ rfl ?_ rfl ?_))
 · refine int_eq ?_;rw [D7 (DQ (Xt hown AA) AB) AB];rfl
 · refine bool_eq ?_;rw [D7 (DQ (Xt hown AA) AB) AB];rfl
 · refine int_eq ?_;exact (DQ (Xt hown AA) AB).symm
 refine ac ?_
 refine an ?_ ?_<;>intro h3 q3
 refine ac ?_
 refine Tr.ret (Fin.AG (Fin.Q7 rfl (Bm.Dw _ _) rfl ?_ rfl ?_ rfl ?_))
 · refine int_eq ?_;rw [D7 (DQ (Xu hown AA AA) AB) AB];rfl
 · refine bool_eq ?_;rw [D7 (DQ (Xu hown AA AA) AB) AB];rfl
 · refine int_eq ?_;exact (DQ (Xu hown AA AA) AB).symm
 refine ac ?_
 refine ag ?_ ?_<;>intro h4 q4
 refine ac ?_
 refine wk [43,5,4,3,2,1] rfl ?_
 refine ac ?_
 refine Tr.ret (Fin.AG (Fin.Q7 rfl (Bm.Dw _ _) rfl ?_ rfl ?_ rfl ?_))
 · exact fC
 · exact fA
 · exact fI
 refine ac ?_
 refine wk [43,5,4,3,2,1] rfl ?_
 refine Tr.cn rfl ?_ ?_<;>intro h5 q5
 refine ac ?_
 refine Tr.ret (Fin.AG (Fin.Q7 rfl (Bm.Dw _ _) rfl ?_ rfl ?_ rfl ?_))
 · exact fC
 · exact fA
 · exact fI
 have KV:c.has n=true:=by simp [Aq.has];omega
 refine a2 ?_
 refine co rfl (XC (aA) rfl rfl rfl rfl) ?_
 refine ac ?_
 refine an ?_ ?_<;>intro h6 q6
 refine ac ?_
 refine wk [12,11,10] rfl (Tr.ret (Fin.AG (Fin.Q7 rfl (Bm.Dw _ _) rfl ?_ rfl ?_ rfl ?_)))
 · refine int_eq ?_;rw [D7 (Gt KV) BC];rfl
 · refine bool_eq ?_;rw [D7 (Gt KV) BC];rfl
 · refine int_eq ?_;exact (Gt KV).symm
 have eP:c.Bx AR days []=0:=q6
 have hf:=EZ eP
 have hfn:c.Bx AR days [n]=0:=by rw [Gt KV];exact eP
 refine a2 ?_
 refine co rfl (XC (Z9 BC) rfl rfl rfl rfl) ?_
 refine ac ?_
 refine wk [15,5,4,3] rfl ?_
 refine ac ?_
 refine Tr.block (Tr.Ax _ (kk [57,56,15,5,4,3] rfl) (fun k:Nat=>[(58,int ((k:Nat):Int))]) (fun k:Nat=>k≤(c.BG).length∧(c.next n from_ (c.free (AR.zip days) n)=DY n (max from_ 0) (c.free (AR.zip days) n) k (c.BG.drop k))) (fun k:Nat=>(c.BG).length-k) 0 (⟨Nat.zero_le _,rfl⟩) kz ?_)
 rintro k ⟨BK,AL⟩
 refine ac ?_
 refine Tr.seq ?_
 refine Tr.cn rfl ?_ ?_<;>intro h7 q7
 have Aa:k<(c.BG).length:=AH h7
 obtain ⟨w,AX⟩:=at_ Aa
 obtain ⟨row,hrow⟩:=at_ (l:=c.E_ (AR.zip days)) (k:=k) (by rw [QY];exact Aa)
 obtain ⟨_,hr2⟩:=Z_ hrow
 obtain ⟨hn0,hrm⟩:=MN KV
 obtain ⟨z,hz⟩:=at_ (l:=row) (k:=n.toNat) (by rw [hr2];simp;have:=KV;simp [Aq.has] at this;omega)
 obtain ⟨eG,S2⟩:=kG hr2 hz
 refine ac ?_
 refine ao ?_
 refine tp rfl (AD rfl underlying75 EW vq vq AA Bl) ?_
 refine tp rfl (AK rfl JT EW vq rfl rfl) ?_
 refine Tl rfl rfl rfl rfl z141 Nk (fun b1=> ?_)
 refine tm rfl ?_
 refine sf 0 17 ⟨rfl,rfl,rfl⟩ rfl rfl rfl rfl ?_
 refine ao ?_
 refine wk [58,57,56,17,16,15,5,4,3] rfl ?_
 refine ac ?_
 refine co rfl (JM rfl vq vq) ?_
 refine ac ?_
 refine wk [58,57,56,18,17,16,15,5,4,3] rfl ?_
 refine ag ?_ ?_<;>intro h8 q8
 refine ac ?_
 refine cy h8 rfl (XC (kA) rfl rfl rfl rfl) ?_
 refine ag ?_ ?_<;>intro h9 q9
 refine ac ?_
 refine cy h9 rfl (AD rfl underlying128 Mx vq vq AA Bl) ?_
 refine ac ?_
 refine cy h9 rfl (AD rfl underlying22 Bg vq vq AA Bl) ?_
 refine ac ?_
 refine cy h9 rfl (AD rfl underlying22 Bg vq vq AA Bl) ?_
 refine ac ?_
 refine wk [93,58,57,56,18,15,5,4,3] rfl ?_
 refine Tr.cn rfl ?_ ?_<;>intro h10 Q2
 refine ac ?_
 refine Tr.ret (Fin.Ag (Fin.AG (Fin.AG (Fin.Ag (Fin.AG (Fin.Q7 rfl (Bm.Dw _ _) rfl ?_ rfl ?_ rfl ?_))))))
 · refine int_eq ?_;rw [Ju hfn,AL,QZ hown AX BC BC (by simp only [Aq.free,decide_eq_true_eq];omega)];rfl
 · refine bool_eq ?_;rw [Ju hfn,AL,QZ hown AX BC BC (by simp only [Aq.free,decide_eq_true_eq];omega)];rfl
 · refine int_eq ?_;exact hfn.symm
 refine a2 ?_
 exact Fin.AM (k+1) ⟨⟨Aa,(AL.trans (Jv hown AX Yr))⟩,by omega⟩ ⟨⟨_,rfl,AF k⟩,kz⟩
 refine ac ?_
 refine wk [93,58,57,56,18,15,5,4,3] rfl ?_
 refine a2 ?_
 exact Fin.AM (k+1) ⟨⟨Aa,(AL.trans (Jv hown AX (by rintro ⟨a1,a2,a3⟩;simp only [Aq.free,decide_eq_true_eq] at a3;simp_all)))⟩,by omega⟩ ⟨⟨_,rfl,AF k⟩,kz⟩
 refine ac ?_
 refine wk [93,58,57,56,18,15,5,4,3] rfl ?_
 refine a2 ?_
 exact Fin.AM (k+1) ⟨⟨Aa,(AL.trans (Jv hown AX Yr))⟩,by omega⟩ ⟨⟨_,rfl,AF k⟩,kz⟩
 have Az:k=(c.BG).length:=by have:=AJ h7;omega
 subst Az
 refine a2 ?_
 refine Tr.ret (Fin.Q7 rfl (Bm.Dw _ _) rfl ?_ rfl ?_ rfl ?_)
 · refine int_eq ?_;rw [Ju hfn,AL,List.drop_length];rfl
 · refine bool_eq ?_;rw [Ju hfn,AL,List.drop_length];rfl
 · refine int_eq ?_;exact hfn.symm
theorem vU {k:Int}:∀{l:List FC} {j:Nat} {w:FC},R9 l→l[j]? =some w→Cm k w=true→idx (Cm k) l=j:=by
 intro l j w hp hj hin
 refine (E8 hj hin fun i y hi hy=> ?_).symm
 rw [Bool.eq_false_iff]
 intro hc
 have h1:=QW hc
 have h2:=QW hin
 have hij:i<l.length:=by rcases Nat.lt_or_ge i l.length with h|h;exact h;rw [List.getElem?_eq_none h] at hy;cases hy
 have hjl:j<l.length:=by rcases Nat.lt_or_ge j l.length with h|h;exact h;rw [List.getElem?_eq_none h] at hj;cases hj
 have:=List.pairwise_iff_getElem.1 hp i j hij hjl hi
 rw [List.getElem?_eq_getElem hij] at hy
 rw [List.getElem?_eq_getElem hjl] at hj
 simp at hy hj
 rw [hy,hj] at this
 omega
theorem kH {c:Aq} {k:Int} {j:Nat} {w:FC} (h:c.own=0) (hj:c.BG[j]? =some w) (hin:Cm k w=true):c.at k=j:=by
 obtain ⟨h1,h2⟩:=H6 h
 exact vU (H7 h1 h2) hj hin
theorem MR {a b:List Int} (h:a.length=b.length) (x y:Int):(a++[x]).zip (b++[y])=a.zip b++[(x,y)]:=by
 rw [List.zip_append h];rfl
theorem cw {c:Aq} {a b:List Int} {t d:Int} (hf:c.Ca a b []=0) (Ld:a.length<24) (ht:c.has t=true) (hm:c.may t d=true):c.Ca (a++[t]) (b++[d]) []=0:=by
 have ho:=EY hf
 have hl:=(Jt hf).1
 have h1:=MM hf
 have h2:=MQ hf
 unfold Aq.Ca
 rw [if_neg (not_not_intro ho),if_neg (by simp [hl]),if_neg B1,if_neg,MR hl,List.all_append,h2,if_pos (by simp [hm])]
 rw [Bool.not_eq_true,List.any_eq_false]
 intro n hn
 have:c.has n=true:=by
  rw [List.append_nil] at hn
  rcases List.mem_append.1 hn with hn|hn
  · exact h1 n (List.mem_append_left _ hn)
  · rw [List.mem_singleton.1 hn];exact ht
 simp [this]
theorem cz {c:Aq} {a b:List Int} {t d:Int} (hf:c.Bx a b []=0) (Ld:a.length<24) (ht:c.has t=true) (hm:c.may t d=true) (hr:c.cnt (a.zip b) ((c.at d).toNat*8+t.toNat)<c.LO t):c.Bx (a++[t]) (b++[d]) []=0:=by
 have eP:=EZ hf
 have h1:=cw eP Ld ht hm
 have ho:=EY eP
 obtain ⟨h32,h8⟩:=Hz ho
 have hl:=(Jt eP).1
 unfold Aq.Bx
 rw [if_neg (not_not_intro h1),if_neg]
 rintro ⟨i,n,r,hi,hn,hc⟩
 rw [MR hl,MP] at hc
 have hn8:n<8:=by
  rcases Nat.lt_or_ge n c.room.length with h|h
  · omega
  · rw [List.getElem?_eq_none h] at hn;cases hn
 have ht8:=Ty ho ht
 have hno:¬c.over (a.zip b):=by
  unfold Aq.Bx at hf
  rw [if_neg (not_not_intro eP)] at hf
  intro hh;rw [if_pos hh] at hf;cases hf
 have hle:(c.cnt (a.zip b) (i*8+n):Int)≤r:=by
  rcases Int.lt_or_le r (c.cnt (a.zip b) (i*8+n):Int) with h|h
  · exact absurd ⟨i,n,r,hi,hn,h⟩ hno
  · exact h
 split at hc
 ·
  rename_i he
  have e1:(c.at d).toNat=i:=by omega
  have e2:t.toNat=n:=by omega
  have:=(MN ht).2
  rw [e2,hn] at this
  simp at this
  rw [e1,e2] at hr
  omega
 · omega
theorem kI {c:Aq} (h:c.own=0):c.Bx [] [] []=0:=by
 have hf:c.Ca [] [] []=0:=by
  unfold Aq.Ca
  rw [if_neg (not_not_intro h),if_neg AO,if_neg AO,if_neg AO,if_pos (by rfl)]
 unfold Aq.Bx
 rw [if_neg (not_not_intro hf),if_neg]
 rintro ⟨i,n,r,_,hn,hc⟩
 have h2:=(LP (show c.check c.D5.length=0 from h)).2.1
 rw [List.any_eq_false] at h2
 have:=h2 r (List.mem_of_getElem? hn)
 simp [FP] at this
 simp [Aq.cnt] at hc
 omega
theorem N1 {t d x:Int} {room:Nat→Bool}:∀{l:List FC} {i:Nat},DY t d room i l=some x→R9 l→(∀w∈l,0≤w.lo∧w.lo<w.hi)→
  d≤x∧(∃(j:Nat) (w:FC),l[j]? =some w∧Cm x w=true∧w.AR.any (fun y=>t==y)=true∧room (i+j)=true)∧∀k,d≤k→k<x→∀(j:Nat) (w:FC),l[j]? =some w→Cm k w=true→¬(w.AR.any (fun y=>t==y)=true∧room (i+j)=true)
 |[],_,h,_,_=>by cases h
 |a::l,i,h,hp,hw=>by
  have ha:=hw a AO
  unfold DY at h
  split at h
  ·
   rename_i hc
   simp only [Option.some.injEq] at h
   subst h
   refine ⟨by omega,⟨0,a,rfl,sW AA,hc.2.1,hc.2.2⟩,fun k hk hx j w hj hin=> ?_⟩
   have:=QW hin
   match j with
   |0=>simp at hj;subst hj;omega
   |j+1=>
    have h1:=(List.pairwise_cons.1 hp).1 w (List.mem_of_getElem? Fo)
    omega
  ·
   rename_i hc
   obtain ⟨h1,⟨j,w,hj,h2,h3,h5⟩,h4⟩:=N1 h (List.pairwise_cons.1 hp).2 (fun w hm=>hw w (List.mem_cons_of_mem _ hm))
   refine ⟨h1,⟨j+1,w,by simpa using hj,h2,h3,by rw [show i+(j+1)=i+1+j by omega];exact h5⟩,fun k hk hx j u hu hin=> ?_⟩
   match j with
   |0=>
    simp at hu;subst hu
    have:=QW hin
    exact fun h=>hc ⟨by omega,h.1,h.2⟩
   |j+1=>
    have:=h4 k hk hx j u (by simpa using hu) hin
    rwa [show i+(j+1)=i+1+j by omega]
def Aq.Wu (c:Aq) (l:List (Int×Int)) (t k:Int):Bool:=c.may t k&&decide ((c.cnt l ((c.at k).toNat*8+t.toNat):Int)<c.LO t)
theorem qU {c:Aq} {l:List (Int×Int)} {t k:Int} (h:c.own=0):c.Wu l t k=true↔∃(j:Nat) (w:FC),c.BG[j]? =some w∧Cm k w=true∧w.AR.any (fun y=>t==y)=true∧c.free l t j=true:=by
 unfold Aq.Wu
 rw [Bool.and_eq_true,qS h,decide_eq_true_eq]
 constructor
 ·
  rintro ⟨⟨w,hw,h1,h2⟩,h3⟩
  obtain ⟨j,hj⟩:=List.mem_iff_getElem?.1 hw
  refine ⟨j,w,hj,h1,h2,?_⟩
  rw [kH h hj h1,Int.toNat_natCast] at h3
  simpa [Aq.free] using h3
 ·
  rintro ⟨j,w,hj,h1,h2,h3⟩
  refine ⟨⟨w,List.mem_of_getElem? hj,h1,h2⟩,?_⟩
  rw [kH h hj h1,Int.toNat_natCast]
  simpa [Aq.free] using h3
theorem kJ {c:Aq} {a b:List Int} {t k:Int} (hf:c.Bx a b []=0) (Ld:a.length<24) (ht:c.has t=true):decide (c.Bx (a++[t]) (b++[k]) []=0)=c.Wu (a.zip b) t k:=by
 have eP:=EZ hf
 have ho:=EY eP
 obtain ⟨hl,_⟩:=Jt eP
 have ht8:=Ty ho ht
 rw [Bool.eq_iff_iff,decide_eq_true_eq,Aq.Wu,Bool.and_eq_true,decide_eq_true_eq]
 constructor
 ·
  intro h
  have h0:=EZ h
  have hm:=MQ h0
  rw [MR hl,List.all_append,Bool.and_eq_true] at hm
  have hm1:c.may t k=true:=by simpa using hm.2
  refine ⟨hm1,?_⟩
  unfold Aq.Bx at h
  rw [if_neg (not_not_intro h0)] at h
  have hno:¬c.over ((a++[t]).zip (b++[k])):=by intro hh;rw [if_pos hh] at h;cases h
  have hat:=Xp hm1
  have hai:(c.at k).toNat<c.BG.length:=by have:=(NB (Cm k) c.BG).2;unfold Aq.at at*;omega
  have hr:=(MN ht).2
  rcases Int.lt_or_le (c.cnt (a.zip b) ((c.at k).toNat*8+t.toNat)) (c.LO t) with h5|h5
  · exact h5
  ·
   refine absurd ⟨(c.at k).toNat,t.toNat,c.LO t,hai,hr,?_⟩ hno
   rw [MR hl,MP,if_pos AA]
   omega
 ·
  rintro ⟨h1,h2⟩
  exact cz hf Ld ht h1 h2
structure BH where
 fst:Int
 thn:Int
 deriving DecidableEq
def Ea (a b:BH):Bool:=if a.fst=b.fst then decide (a.thn<b.thn) else decide (a.fst<b.fst)
def Eg (n:Int) (r:BH):Bool:=decide (r.fst<0∨r.thn<0∨n≤r.fst∨n≤r.thn∨r.fst=r.thn)
def F2 (l:List BH) (a b:Nat):Bool:=l.any fun r=>decide (r.fst=(a:Int))&&decide (r.thn=(b:Int))
def Jw (k:Nat) (m:Nat→Nat→Bool) (a b:Nat):Bool:=m a b||(m a k&&m k b)
def Cu (l:List BH):Nat→Nat→Nat→Bool
 |0=>F2 l
 |k+1=>Jw k (Cu l k)
theorem KG {l:List BH} {a b:Nat} (h:F2 l a b=true):∀k,Cu l k a b=true
 |0=>h
 |k+1=>by show (_||_)=true;rw [KG h k];rfl
theorem Qa {l:List BH}:∀(k:Nat) {a b c:Nat},c<k→Cu l k a c=true→Cu l k c b=true→Cu l k a b=true
 |0,_,_,_,h,_,_=>absurd h AA
 |k+1,a,b,c,h,h1,h2=>by
  have ih:= @Qa l k
  simp only [Cu,Jw,Bool.or_eq_true,Bool.and_eq_true] at h1 h2 ⊢
  rcases Nat.lt_or_ge c k with hc|hc
  ·
   rcases h1 with h1|⟨h1,h3⟩<;>rcases h2 with h2|⟨h2,h4⟩
   · exact .inl (ih hc h1 h2)
   · exact .inr ⟨ih hc h1 h2,h4⟩
   · exact .inr ⟨h1,ih hc h3 h2⟩
   · exact .inr ⟨h1,h4⟩
  ·
   obtain rfl:c=k:=by omega
   refine .inr ⟨?_,?_⟩
   · rcases h1 with h1|⟨h1,_⟩<;>exact h1
   · rcases h2 with h2|⟨_,h2⟩<;>exact h2
def Ip (k:Nat) (m:Nat→Nat→Bool) (i j a b:Nat):Bool:=if a<i∨(a=i∧b<j) then Jw k m a b else m a b
theorem Ve (k:Nat) (m:Nat→Nat→Bool) (a:Nat):Jw k m a k=m a k:=by unfold Jw;cases m a k<;>simp
theorem kK (k:Nat) (m:Nat→Nat→Bool) (b:Nat):Jw k m k b=m k b:=by unfold Jw;cases m k b<;>cases m k k<;>simp
theorem qV (k:Nat) (m:Nat→Nat→Bool) (i j a:Nat):Ip k m i j a k=m a k:=by unfold Ip;split;exact Ve k m a;rfl
theorem qW (k:Nat) (m:Nat→Nat→Bool) (i j b:Nat):Ip k m i j k b=m k b:=by unfold Ip;split;exact kK k m b;rfl
def T3 (m:Nat→Nat→Bool) (i j a b:Nat):Bool:=if a=i∧b=j then true else m a b
theorem qX {k:Nat} {m:Nat→Nat→Bool} {i j:Nat} (h1:m i k=true) (h2:m k j=true):T3 (Ip k m i j) i j=Ip k m i (j+1):=by
 funext a b
 unfold T3 Ip
 by_cases h:a=i∧b=j
 ·
  obtain ⟨rfl,rfl⟩:=h
  rw [if_pos ⟨rfl,rfl⟩,if_pos AA];unfold Jw;rw [h1,h2];simp
 ·
  rw [if_neg h]
  by_cases h3:a<i∨(a=i∧b<j)
  · rw [if_pos h3,if_pos AA]
  · rw [if_neg h3,if_neg AA]
theorem kL {k:Nat} {m:Nat→Nat→Bool} {i j:Nat} (h:(m i k&&m k j)=false):Ip k m i j=Ip k m i (j+1):=by
 funext a b
 unfold Ip
 by_cases h3:a<i∨(a=i∧b<j)
 · rw [if_pos h3,if_pos AA]
 ·
  rw [if_neg h3]
  by_cases h4:a<i∨(a=i∧b<j+1)
  ·
   obtain ⟨rfl,rfl⟩:a=i∧b=j:=by omega
   rw [if_pos h4];unfold Jw;rw [h];simp
  · rw [if_neg h4]
theorem AAn (k:Nat) (m:Nat→Nat→Bool):Ip k m 0 0=m:=by funext a b;unfold Ip;rw [if_neg AA]
def kM (n:Nat) (m m':Nat→Nat→Bool):Prop:=∀a b,a<n→b<n→m a b=m' a b
theorem kN {n k:Nat} {m:Nat→Nat→Bool} {i:Nat}:kM n (Ip k m i n) (Ip k m (i+1) 0):=by
 intro a b _ hb
 unfold Ip
 by_cases h:a<i∨(a=i∧b<n)
 · rw [if_pos h,if_pos AA]
 · rw [if_neg h,if_neg AA]
theorem qY {n k:Nat} {m:Nat→Nat→Bool}:kM n (Ip k m n 0) (Jw k m):=by
 intro a b ha _
 unfold Ip;rw [if_pos AA]
def AAo (n:Nat) (l:List BH):Bool:=(List.range n).any fun i=>Cu l n i i
def Dg:List BH→Bool
 |[]=>true
 |[_]=>true
 |a::b::l=>Ea a b&&Dg (b::l)
def Am (n:Int) (l:List BH):Int:=
 if n<0∨24<n then 2 else if l.any (Eg n) then 44 else if Dg l=false then 6 else if AAo n.toNat l then 45 else 0
theorem kO {R:Nat→Nat→Prop} (hi:∀a,¬R a a) (ht:∀a b c,R a b→R b c→R a c):∀{L:List Nat},L≠[]→(∀a b,a∈L→b∈L→R a b∨¬R a b)→∃x∈L,∀y∈L,¬R y x
 |[],h,_=>absurd rfl h
 |[x],_,_=>⟨x,by simp,fun y hy=>by simp at hy;subst hy;exact hi _⟩
 |x::y::l,_,hd=>by
  obtain ⟨z,hz,hm⟩:=kO hi ht (L:=y::l) AO (fun a b ha hb=>hd a b (List.mem_cons_of_mem _ ha) (List.mem_cons_of_mem _ hb))
  rcases hd x z AO (List.mem_cons_of_mem _ hz) with h|h
  ·
   refine ⟨x,by simp,fun w hw=> ?_⟩
   rcases List.mem_cons.1 hw with rfl|hw
   · exact hi _
   · exact fun h2=>hm w hw (ht _ _ _ h2 h)
  ·
   refine ⟨z,List.mem_cons_of_mem _ hz,fun w hw=> ?_⟩
   rcases List.mem_cons.1 hw with rfl|hw
   · exact h
   · exact hm w hw
def JD (s:List Int) (n:Int):Bool:=s.any fun x=>n==x
theorem D6 {s:List Int} {n:Int}:JD s n=true↔n∈s:=by unfold JD;rw [List.any_eq_true];exact ⟨fun ⟨x,h,h2⟩=>by simp at h2;subst h2;exact h,fun h=>⟨n,h,by simp⟩⟩
def CH (l:List BH) (s:List Int):Bool:=l.all fun r=> !(JD s r.thn)||JD s r.fst
theorem Cf {l:List BH} {s:List Int}:CH l s=true↔∀r∈l,r.thn∈s→r.fst∈s:=by
 unfold CH;rw [List.all_eq_true]
 refine forall_congr' fun r=>forall_congr' fun _=> ?_
 rw [Bool.or_eq_true,Bool.not_eq_true',←D6,←D6]
 cases JD s r.thn<;>simp
def De (n:Int) (has:Bool) (p:List Int×Bool) (x:Int):List Int×Bool:=
 if x=n then (if has=true∧p.2=false∧n<x then (p.1++[n],true) else p) else if has=true∧p.2=false∧n<x then (p.1++[n]++[x],true) else (p.1++[x],p.2)
def wall (n:Int) (has:Bool) (s:List Int):List Int×Bool:=s.foldl (De n has) ([],false)
def EF (s:List Int) (n:Int) (has:Bool):List Int:=if has=true∧(wall n has s).2=false then (wall n has s).1++[n] else (wall n has s).1
theorem c_ (n:Int) (has:Bool) (s:List Int) (x:Int):wall n has (s++[x])=De n has (wall n has s) x:=by unfold wall;rw [List.foldl_append];rfl
theorem Vf {n:Int} {has:Bool} {x:Int}:∀{s:List Int} {p:List Int×Bool},(x∈(s.foldl (De n has) p).1∧x≠n)↔((x∈p.1∨x∈s)∧x≠n)
 |[],p=>by simp
 |y::s,p=>by
  rw [List.foldl_cons,Vf]
  unfold De
  by_cases h1:x=n
  · subst h1;simp
  ·
   repeat' split
   all_goals (try subst y);simp [h1,or_assoc]
theorem Vg {n:Int} {has:Bool}:∀{s:List Int} {p:List Int×Bool},(p.2=true→n∈p.1)→(p.2=false→n∉p.1)→(((s.foldl (De n has) p).2=true→n∈(s.foldl (De n has) p).1)∧((s.foldl (De n has) p).2=false→n∉(s.foldl (De n has) p).1))
 |[],p,h,h'=>⟨h,h'⟩
 |y::s,p,h,h'=>by
  rw [List.foldl_cons]
  apply Vg
  ·
   unfold De;intro h2
   repeat' split at h2
   all_goals (repeat' split)<;>simp_all
  ·
   unfold De;intro h2
   repeat' split at h2
   all_goals (repeat' split)<;>simp_all<;>omega
theorem C9 {s:List Int} {n x:Int}:x∈EF s n true↔x=n∨x∈s:=by
 have hm:=Vf (n:=n) (has:=true) (x:=x) (s:=s) (p:=([],false))
 have hp:=Vg (n:=n) (has:=true) (s:=s) (p:=([],false)) AO AO
 unfold EF wall
 by_cases hx:x=n
 ·
  subst hx
  split
  next=>simp
  next h=>simp only [true_and,Bool.not_eq_false] at h;simp [hp.1 h]
 ·
  split
  next=>simp [hx] at hm ⊢;exact hm
  next=>simp [hx] at hm ⊢;exact hm
theorem Qb {n:Int} {has:Bool}:∀{s:List Int} {p:List Int×Bool},(s.foldl (De n has) p).1.length+(if (s.foldl (De n has) p).2 then 0 else 1)≤p.1.length+(if p.2 then 0 else 1)+s.length
 |[],p=>Nat.le_refl _
 |y::s,p=>by
  rw [List.foldl_cons]
  refine Nat.le_trans Qb ?_
  unfold De
  repeat' split
  all_goals (simp_all<;>omega)
theorem dA (s:List Int) (n:Int) (has:Bool):(EF s n has).length≤s.length+1:=by
 have h:=Qb (n:=n) (has:=has) (s:=s) (p:=([],false))
 unfold EF wall
 split
 next h2=>rw [h2.2] at h;simp at h ⊢;omega
 next h2=>revert h;split<;>simp<;>omega
def KW (l:List BH) (s:List Int) (add:Bool) (i:Nat):Bool:=(JD s i !=add)&&CH l (EF s i add)
def EM (n:Nat) (l:List BH) (s:List Int) (add:Bool):List Int:=((List.range n).filter (KW l s add)).map fun i:Nat=>(i:Int)
theorem CV {n:Int} {l:List BH} (h:Am n l=0):(0≤n∧n≤24)∧(∀r∈l,Eg n r=false)∧Dg l=true∧∀i,i<n.toNat→Cu l n.toNat i i=false:=by
 unfold Am at h
 split at h
 · cases h
 next h1=>
 split at h
 · cases h
 next h2=>
 split at h
 · cases h
 next h3=>
 split at h
 · cases h
 next h4=>
 refine ⟨by omega,fun r hr=> ?_,by simpa using h3,fun i hi=> ?_⟩
 ·
  cases hb:Eg n r with
  |false=>rfl
  |true=>exact absurd (List.any_eq_true.2 ⟨r,hr,hb⟩) h2
 ·
  cases hb:Cu l n.toNat i i with
  |false=>rfl
  |true=>exact absurd (show (List.range n.toNat).any (fun i=>Cu l n.toNat i i)=true from List.any_eq_true.2 ⟨i,List.mem_range.2 hi,hb⟩) h4
theorem Xv {n:Int} {l:List BH} {s:List Int} {i:Nat} (h:Am n l=0) (hc:CH l s=true) (hi:i<n.toNat) (hn:(i:Int)∉s):EM n.toNat l s true≠[]:=by
 obtain ⟨h1,h2,_,h4⟩:=CV h
 have hU:(List.range n.toNat).filter (fun k:Nat=> !JD s k)≠[]:=by
  intro he
  have:i∈(List.range n.toNat).filter (fun k:Nat=> !JD s k):=List.mem_filter.2 ⟨List.mem_range.2 hi,by rw [Bool.not_eq_true'];cases hb:JD s i with|false=>rfl|true=>exact absurd (D6.1 hb) hn⟩
  rw [he] at this;cases this
 obtain ⟨x,hx,hm⟩:=kO (R:=fun a b=>a<n.toNat∧b<n.toNat∧Cu l n.toNat a b=true) (fun a ha=>by have:=h4 a ha.1;rw [ha.2.2] at this;cases this) (fun a b c ⟨g1,g2,g3⟩ ⟨_,g4,g5⟩=>⟨g1,g4,Qa _ g2 g3 g5⟩) hU (fun a b _ _=>Classical.em _)
 obtain ⟨hx1,hx2⟩:=List.mem_filter.1 hx
 rw [List.mem_range] at hx1
 have hx3:(x:Int)∉s:=fun h=>by rw [D6.2 h] at hx2;cases hx2
 intro he
 have:((x:Nat):Int)∈EM n.toNat l s true:=by
  unfold EM
  refine List.mem_map.2 ⟨x,List.mem_filter.2 ⟨List.mem_range.2 hx1,?_⟩,rfl⟩
  unfold KW
  rw [Bool.and_eq_true]
  refine ⟨by cases hb:JD s x with|false=>rfl|true=>exact absurd (D6.1 hb) hx3,Cf.2 fun r hr ht=> ?_⟩
  rw [C9] at ht ⊢
  by_cases hf:r.fst=x
  · exact .inl hf
  right
  rcases ht with ht|ht
  ·
   have hb:=h2 r hr
   unfold Eg at hb
   simp only [decide_eq_false_iff_not] at hb
   by_cases hs:r.fst∈s
   · exact hs
   exfalso
   refine hm r.fst.toNat (List.mem_filter.2 ⟨List.mem_range.2 AA,?_⟩) ⟨by omega,hx1,KG (List.any_eq_true.2 ⟨r,hr,?_⟩) _⟩
   ·
    rw [show ((r.fst.toNat:Nat):Int)=r.fst by omega,Bool.not_eq_true']
    cases Q1:JD s r.fst with
    |false=>rfl
    |true=>exact absurd (D6.1 Q1) hs
   · rw [Bool.and_eq_true,decide_eq_true_eq,decide_eq_true_eq];omega
  · exact Cf.1 hc r hr ht
 rw [he] at this;cases this
theorem KH:∀{L M:List Int},L.Nodup→(∀x∈L,x∈M)→L.length≤M.length
 |[],_,_,_=>Nat.zero_le _
 |x::L,M,hn,hs=>by
  rw [List.nodup_cons] at hn
  have h:=KH (L:=L) (M:=M.erase x) hn.2 (fun y hy=>(List.mem_erase_of_ne (fun e=>hn.1 (by rw [←e];exact hy))).2 (hs y (List.mem_cons_of_mem _ hy)))
  have hx:=hs x AO
  rw [List.length_erase_of_mem hx] at h
  have:=List.length_pos_of_mem hx
  simp;omega
structure NG (n:Int) (l:List BH) (out done:List Int):Prop where
 mem:∀x,x∈done↔x∈out
 nd:out.Nodup
 Xw:∀x∈out,0≤x∧x<n
 cl:CH l done=true
 vV:∀(k:Nat) x,out[k]? =some x→∀r∈l,r.thn=x→r.fst∈out.take k
theorem NG.nil {n:Int} {l:List BH}:NG n l [] []:=⟨fun x=>Iff.rfl,List.nodup_nil,(fun x h=>by cases h),(Cf.2 fun r _ h=>by cases h),(fun k x h=>by simp at h)⟩
theorem NG.len {n:Int} {l:List BH} {out done:List Int} (h:NG n l out done):out.length≤n.toNat:=by
 have:=KH (L:=out) (M:=(List.range n.toNat).map fun i:Nat=>(i:Int)) h.nd (fun x hx=>by have:=h.Xw x hx;exact List.mem_map.2 ⟨x.toNat,List.mem_range.2 AA,by omega⟩)
 simpa using this
theorem NG.bes {n:Int} {l:List BH} {out done:List Int} (h:NG n l out done) (hv:Am n l=0) (hl:out.length<n.toNat):∃x,(EM n.toNat l done true)[0]? =some x∧NG n l (out++[x]) (EF done x true):=by
 have hex:∃i,i<n.toNat∧(i:Int)∉out:=by
  refine Classical.byContradiction fun hne=> ?_
  have hall:∀i,i<n.toNat→(i:Int)∈out:=fun i hi=>Classical.byContradiction fun hh=>hne ⟨i,hi,hh⟩
  have hnd:((List.range n.toNat).map fun i:Nat=>(i:Int)).Nodup:=by
   refine List.Pairwise.map _ (fun a b hab=> ?_) (List.nodup_range (n:=n.toNat))
   intro e;apply hab;omega
  have:=KH hnd (M:=out) (fun x hx=>by
   obtain ⟨i,hi,rfl⟩:=List.mem_map.1 hx
   exact hall i (List.mem_range.1 hi))
  simp at this;omega
 obtain ⟨i,hi,hio⟩:=hex
 have hne:=Xv hv h.cl hi (fun hh=>hio ((h.mem _).1 hh))
 obtain ⟨x,hx⟩:=at_ (l:=EM n.toNat l done true) (k:=0) (List.length_pos_iff.2 hne)
 refine ⟨x,hx,?_⟩
 obtain ⟨j,hj,rfl⟩:=List.mem_map.1 (List.mem_of_getElem? hx)
 obtain ⟨hj1,hj2⟩:=List.mem_filter.1 hj
 rw [List.mem_range] at hj1
 unfold KW at hj2
 rw [Bool.and_eq_true] at hj2
 have hjd:(j:Int)∉done:=fun hh=>by rw [D6.2 hh] at hj2;exact absurd hj2.1 AB
 have hjo:(j:Int)∉out:=fun hh=>hjd ((h.mem _).2 hh)
 refine ⟨fun y=> ?_,?_,fun y hy=> ?_,hj2.2,fun k y hk r hr ht=> ?_⟩
 · rw [C9,h.mem,List.mem_append,List.mem_singleton];exact Or.comm
 ·
  rw [List.nodup_append]
  exact ⟨h.nd,by simp,fun a ha b hb=>by simp at hb;subst hb;intro e;subst e;exact hjo ha⟩
 ·
  rcases List.mem_append.1 hy with hy|hy
  · exact h.Xw y hy
  · simp at hy;subst hy;omega
 ·
  rcases Nat.lt_or_ge k out.length with hlt|hge
  ·
   rw [List.getElem?_append_left hlt] at hk
   rw [List.take_append_of_le_length AA]
   exact h.vV k y hk r hr ht
  ·
   have hk2:k=out.length:=by
    rcases Nat.lt_or_ge k (out++[(j:Int)]).length with hh|hh
    · simp at hh;omega
    · rw [List.getElem?_eq_none hh] at hk;cases hk
   subst hk2
   rw [List.getElem?_append_right (Nat.le_refl _)] at hk
   simp at hk;subst hk
   rw [List.take_left]
   have fY:=Cf.1 hj2.2 r hr (C9.2 (.inl ht))
   rcases C9.1 fY with he|hm
   ·
    obtain ⟨_,g2,_,_⟩:=CV hv
    have hb:=g2 r hr
    unfold Eg at hb
    simp only [decide_eq_false_iff_not] at hb
    omega
   · exact (h.mem _).1 hm
def ER (l:List BH) (r:BH):Nat:=(l.takeWhile fun x=>Ea x r).length
def F3 (l:List BH) (r:BH):List BH:=if l[ER l r]? =some r then l else l.take (ER l r)++[r]++l.drop (ER l r)
theorem Oo (l:List BH) (r:BH):ER l r≤l.length:=by unfold ER;exact (List.takeWhile_sublist _).length_le
theorem aB {l:List BH} {r:BH} {k:Nat} (hk:k<ER l r) {x:BH} (hx:l[k]? =some x):Ea x r=true:=by
 induction l generalizing k with
 |nil=>simp at hx
 |cons a l ih=>
  unfold ER at hk
  rw [List.takeWhile_cons] at hk
  split at hk
  next h=>
   cases k with
   |zero=>simp at hx;subst hx;exact h
   |succ k=>exact ih (k:=k) (by simp at hk;exact hk) Gf
  next=>simp at hk
theorem aC {l:List BH} {r:BH} {x:BH} (hx:l[ER l r]? =some x):Ea x r=false:=by
 induction l with
 |nil=>simp at hx
 |cons a l ih=>
  unfold ER at hx
  rw [List.takeWhile_cons] at hx
  split at hx
  next h=>exact ih (by unfold ER;simpa using hx)
  next h=>simp at hx;subst hx;simpa using h
theorem aD {l:List BH} {r:BH} {k:Nat} (hl:k≤l.length) (h:∀j x,j<k→l[j]? =some x→Ea x r=true) (he:∀x,l[k]? =some x→Ea x r=false):ER l r=k:=by
 rcases Nat.lt_trichotomy (ER l r) k with h1|h1|h1
 ·
  obtain ⟨x,hx⟩:=at_ (l:=l) (k:=ER l r) AA
  have:=h _ x h1 hx;rw [aC hx] at this;cases this
 · exact h1
 ·
  obtain ⟨x,hx⟩:=at_ (l:=l) (k:=k) (by have:=Oo l r;omega)
  have:=he x hx;rw [aB h1 hx] at this;cases this
theorem Vh (l:List BH) (r:BH):(F3 l r).length≤l.length+1:=by
 have:=Oo l r
 unfold F3;split<;>simp<;>omega
theorem Vi {l:List BH} {r x:BH}:x∈F3 l r↔x=r∨x∈l:=by
 unfold F3;split
 next h=>exact ⟨.inr,fun h2=>h2.elim (fun e=>by subst e;exact List.mem_of_getElem? h) id⟩
 next=>rw [List.append_assoc,List.mem_append,List.mem_append,List.mem_singleton,←or_assoc,or_comm (a:=x∈_) (b:=x=r),or_assoc,←List.mem_append,List.take_append_drop]
theorem kP {a b:BH} (h:Ea a b=false) (hn:a≠b):Ea b a=true:=by
 unfold Ea at*
 obtain ⟨a1,a2⟩:=a
 obtain ⟨b1,b2⟩:=b
 simp only [ne_eq,BH.mk.injEq,not_and] at*
 repeat' split at h
 all_goals repeat' split
 all_goals simp only [decide_eq_true_eq,decide_eq_false_iff_not] at*
 all_goals omega
theorem LR {l:List BH}:Dg l=true↔∀j a b,l[j]? =some a→l[j+1]? =some b→Ea a b=true:=by
 induction l with
 |nil=>exact ⟨fun _ j a b h=>by simp at h,fun _=>rfl⟩
 |cons x l ih=>
  cases l with
  |nil=>exact ⟨fun _ j a b _ h=>by simp at h,fun _=>rfl⟩
  |cons y l=>
   unfold Dg
   rw [Bool.and_eq_true,ih]
   refine ⟨fun ⟨h1,h2⟩ j a b ha hb=> ?_,fun h=>⟨h 0 x y rfl rfl,fun j a b ha hb=>h (j+1) a b Y_ Ge⟩⟩
   cases j with
   |zero=>simp at ha hb;subst ha;subst hb;exact h1
   |succ j=>exact h2 j a b Y_ Ge
theorem N2 {l:List BH} {r:BH} (h:Dg l=true):Dg (F3 l r)=true:=by
 unfold F3;split
 next=>exact h
 next hne=>
 rw [LR] at h ⊢
 have hp:=Oo l r
 intro j a b ha hb
 rw [List.append_assoc] at ha hb
 rcases Nat.lt_trichotomy (j+1) (ER l r) with h1|h1|h1
 ·
  rw [List.getElem?_append_left J1,List.getElem?_take,if_pos AA] at ha hb
  exact h j a b ha hb
 ·
  rw [List.getElem?_append_left J1,List.getElem?_take,if_pos AA] at ha
  rw [List.getElem?_append_right J1,List.length_take,show j+1-min (ER l r) l.length=0 by omega] at hb
  simp at hb;subst hb
  exact aB AA ha
 ·
  rw [List.getElem?_append_right J1,List.length_take,show j-min (ER l r) l.length=j-ER l r by omega] at ha
  rw [List.getElem?_append_right J1,List.length_take,show j+1-min (ER l r) l.length=(j-ER l r)+1 by omega] at hb
  simp only [List.singleton_append,List.getElem?_cons_succ,List.getElem?_drop] at hb
  rcases Nat.eq_zero_or_pos (j-ER l r) with h2|h2
  ·
   rw [h2] at ha hb
   simp at ha;subst ha
   simp at hb
   exact kP (aC hb) (fun e=>hne (by rw [hb,e]))
  ·
   obtain ⟨i,hi⟩:∃i,j-ER l r=i+1:=⟨j-ER l r-1,by omega⟩
   rw [hi] at ha hb
   simp only [List.singleton_append,List.getElem?_cons_succ,List.getElem?_drop] at ha
   exact h (ER l r+i) a b ha (by rw [show ER l r+i+1=ER l r+(i+1) by omega];exact hb)
theorem Oq {l:List BH} (h:∀r∈l,r.fst<r.thn):∀(k:Nat) {a b:Nat},Cu l k a b=true→a<b
 |0,a,b,hb=>by
  obtain ⟨r,hr,h2⟩:=List.any_eq_true.1 hb
  rw [Bool.and_eq_true,decide_eq_true_eq,decide_eq_true_eq] at h2
  have:=h r hr;omega
 |k+1,a,b,hb=>by
  simp only [Cu,Jw,Bool.or_eq_true,Bool.and_eq_true] at hb
  rcases hb with hb|⟨h1,h2⟩
  · exact Oq h k hb
  · have:=Oq h k h1;have:=Oq h k h2;omega
theorem kQ {n:Nat} {l:List BH} (hn:n≤24) (h:∀r∈l,(0≤r.fst∧r.fst<r.thn)∧r.thn<n) (hs:Dg l=true):Am n l=0:=by
 unfold Am
 rw [if_neg AA,if_neg ?_,if_neg (by simp [hs]),if_neg ?_]
 ·
  intro hc
  obtain ⟨i,_,hi⟩:=List.any_eq_true.1 hc
  have:=Oq (fun r hr=>(h r hr).1.2) _ hi;omega
 ·
  intro hc
  obtain ⟨r,hr,hb⟩:=List.any_eq_true.1 hc
  unfold Eg at hb
  rw [decide_eq_true_eq] at hb
  have:=h r hr;omega
theorem Iq {s:List Int} {n:Int} (h:n∉s):(EF s n true).length=s.length+1:=by
 have key:∀(s:List Int) (p:List Int×Bool),n∉s→(s.foldl (De n true) p).1.length+(if (s.foldl (De n true) p).2 then 0 else 1)=p.1.length+(if p.2 then 0 else 1)+s.length:=by
  intro s
  induction s with
  |nil=>intro p _;rfl
  |cons y s ih=>
   intro p hp
   rw [List.foldl_cons,ih _ (fun hh=>hp (List.mem_cons_of_mem _ hh))]
   unfold De
   rw [if_neg (fun e=>hp (by rw [e];simp))]
   split
   next h2=>simp [h2.2.1];omega
   next h2=>simp;omega
 have h2:=key s ([],false) h
 unfold EF wall
 split
 next h3=>rw [h3.2] at h2;simp at h2 ⊢;omega
 next h3=>simp only [true_and,Bool.not_eq_false] at h3;rw [h3] at h2;simp at h2 ⊢;omega
def Bj (n:Nat) (l:List BH):Nat→List Int×List Int
 |0=>([],[])
 |k+1=>match (EM n l (Bj n l k).2 true)[0]? with
  |none=>Bj n l k
  |some x=>((Bj n l k).1++[x],EF (Bj n l k).2 x true)
theorem Eb {n:Int} {l:List BH} (hv:Am n l=0):∀(k:Nat),k≤n.toNat→NG n l (Bj n.toNat l k).1 (Bj n.toNat l k).2∧(Bj n.toNat l k).1.length=k
 |0,_=>⟨NG.nil,rfl⟩
 |k+1,hk=>by
  obtain ⟨h1,h2⟩:=Eb hv k AA
  obtain ⟨x,hx,hr⟩:=h1.bes hv AA
  unfold Bj
  rw [hx]
  exact ⟨hr,by simp [h2]⟩
theorem N3 {n:Int} {l:List BH} (hv:Am n l=0) {k:Nat} (hk:k<n.toNat):∃x,(EM n.toNat l (Bj n.toNat l k).2 true)[0]? =some x∧Bj n.toNat l (k+1)=((Bj n.toNat l k).1++[x],EF (Bj n.toNat l k).2 x true):=by
 obtain ⟨h1,h2⟩:=Eb hv k AA
 obtain ⟨x,hx,_⟩:=h1.bes hv AA
 exact ⟨x,hx,by rw [Bj];rw [hx]⟩
theorem sY {d:Nat} {w:World} {x0 y0:Int} {x1 y1:Int}:(Op.equalIn (d+2) 61 (.agg #[.int .i64 x0,.int .i64 x1]) (.agg #[.int .i64 y0,.int .i64 y1])).run Tryz.prog w= .ok (decide (x0=y0∧x1=y1)) w:=by
 have h:=eqS (w:=w) (d:=d+1) (xs:= #[.int .i64 x0,.int .i64 x1]) (ys:= #[.int .i64 y0,.int .i64 y1]) Tryz.underlying61 BS (Hr AB (DR CX rfl) (DR CX rfl) (KA (d:=d+0) Tryz.underlying3) (Hr AB (DR CX rfl) (DR CX rfl) (KA (d:=d+0) Tryz.underlying3) (TX)))
 refine h.trans (congrArg (fun b=>Result.ok b w) ?_)
 rw [Bool.eq_iff_iff];simp [and_assoc]
theorem qZ {E:Env} {I:CS} {o:Oper} {u:TypeId} {x y:Operand} {x0 y0:Int} {x1 y1:Int} (ho:o.op= .binOp .eql 61 x y u) (hx:VL E x (agg [is (.int .i64 x0),is (.int .i64 x1)])) (hy:VL E y (agg [is (.int .i64 y0),is (.int .i64 y1)])):Ad Tryz.prog I o E (bool (decide (x0=y0∧x1=y1))):=
 Pv [.int .i64 x0,.int .i64 x1] [.int .i64 y0,.int .i64 y1] ho hx hy BS (fun w=>by rw [show Op.equal 61 _ _=Op.equalIn (9998+2) 61 _ _ from rfl];exact sY)
theorem aE {E:Env} {I:CS} {o:Oper} {u:TypeId} {x y:Operand} {x0 y0:Int} {x1 y1:Int} (ho:o.op= .binOp .neq 61 x y u) (hx:VL E x (agg [is (.int .i64 x0),is (.int .i64 x1)])) (hy:VL E y (agg [is (.int .i64 y0),is (.int .i64 y1)])):Ad Tryz.prog I o E (bool (!decide (x0=y0∧x1=y1))):=
 Pw [.int .i64 x0,.int .i64 x1] [.int .i64 y0,.int .i64 y1] ho hx hy BS (fun w=>by rw [show Op.equal 61 _ _=Op.equalIn (9998+2) 61 _ _ from rfl];exact sY)
abbrev Ml (r:BH):List Pr:=[int r.fst,int r.thn]
abbrev reqs (l:List BH):Pr:=slice 2 (l.map Ml)
theorem R_ {a b:BH}  :BD prog 186 [agg (Ml a),agg (Ml b)] (bool (Ea a b)):=by
 refine fo func186 rfl ⟨rfl,rfl⟩ fun M0 w0=> ?_
 · repeat' first|(refine bool_eq ?_;unfold Ea;split<;>first|rfl|(exfalso;omega))|(refine bool_eq ?_;unfold Ea;split<;>rfl)|refine ac ?_|(refine Tr.cn rfl ?_ ?_<;>intro h q)
theorem Vj {l:List BH} {r:BH} (hl:l.length≤1000000):BD prog 150 [reqs l,agg (Ml r)] (reqs (F3 l r)):=by
 refine BD.of func150 rfl rfl Al fun M0 w0=> ?_
 refine Tr.CM 0 rfl fun D4=> ?_
 have hml:(l.map Ml).length=l.length:=List.length_map _
 have AE2:=Oo l r
 refine Tr.seq (Tr.Ah (co rfl (Cq rfl (Va rfl)) (cm rfl (Ch.nil (Fin.go (Tr.seq (Tr.Ah (cm rfl (Ch.nil (Fin.go (NZ 0 3 5 rfl (Tr.Wk [0,3] [(5,int ((ER l r:Nat):Int))] (True) ?_ (fun h1=> ?_)))))))))))))
 refine Tr.block (Tr.Ax [(0,_),(3,_)] (kk2 rfl) (fun k:Nat=>[(5,int ((k:Nat):Int))]) (fun k:Nat=>k≤l.length∧(∀j y,j<k→l[j]? =some y→Ea y r=true)) (fun k:Nat=>l.length-k) 0 (⟨Nat.zero_le _,fun j y hj=>absurd hj AA⟩) ⟨ke rfl,trivial⟩ ?_)
 rintro k ⟨BK,hinv⟩
 refine Tr.seq (Tr.seq (Tr.Wi mixed BS (cm rfl (cm rfl (co rfl (Bn rfl underlying33 (vl rfl)) (co rfl (ki rfl rfl rfl rfl) (cm rfl ?_)))))))
 refine Ch.cs 11 rfl ?_ ?_<;>intro h2 q2
 obtain ⟨x,hx⟩:=at_ (l:=l) (k:=k) AA
 refine HZ h2 rfl (HZ h2 rfl (cy h2 rfl (AD rfl underlying33 B5 (vl rfl) (vl rfl) AA (Ac hx)) (cy h2 rfl (AK rfl EI B5 (vl rfl) rfl rfl) (cy h2 rfl (AK rfl EI B5 (vl rfl) rfl rfl) (cy h2 rfl (AZ rfl (R_) ⟨ke rfl,ke rfl,trivial⟩) (co rfl (PY rfl rfl h2 rfl) (Ch.nil (Fin.go (PZ 0 3 5 18 rfl ?_)))))))))
 refine Tr.cn rfl ?_ ?_<;>intro h3 q3
 have hq:=h3
 refine Tr.skip (Fin.go (Tr.block (Tr.Ah (cm rfl (JF rfl rfl rfl rfl AA (cm rfl (Ch.nil (Fin.block ?_))))))))
 exact Fin.AM (k+1) ⟨⟨by omega,fun j y hj hy=>by rcases Nat.lt_or_ge j k with h_|h_;exact hinv j y h_ hy;(obtain rfl:j=k:=by omega);rw [hx] at hy;cases hy;exact hq⟩,by omega⟩ ⟨⟨_,rfl,AF k⟩,ke rfl,ke rfl,trivial⟩
 have hp:ER l r=k:=aD BK hinv (fun y hy=>by rw [hx] at hy;cases hy;exact h3)
 refine Tr.exit (Fin.AV (Fin.AV (Fin.Ao (Fin.AM () trivial ⟨⟨_,rfl,int_eq (by rw [hp])⟩,ke rfl,ke rfl,trivial⟩))))
 have hp:ER l r=k:=aD BK hinv (fun y hy=>by have:=BP hy;have:=q2;omega)
 iterate 6 refine cnt h2 rfl ?_
 refine co rfl (LX rfl rfl h2 rfl) (Ch.nil (Fin.go (PZ 0 3 5 18 rfl (Tr.cond rfl (fun h=>nomatch h) (fun _=> ?_)))))
 refine Tr.exit (Fin.AV (Fin.AV (Fin.Ao (Fin.AM () trivial ⟨⟨_,rfl,int_eq (by rw [hp])⟩,ke rfl,ke rfl,trivial⟩))))
 refine Tr.seq (Tr.seq (Tr.Wi mixed BS (cm rfl (cm rfl (co rfl (Bn rfl underlying33 (vl rfl)) (co rfl (ki rfl rfl rfl rfl) (cm rfl ?_)))))))
 refine Ch.cs 25 rfl ?_ ?_<;>intro h4 q4
 obtain ⟨x2,hx2⟩:=at_ (l:=l) (k:=ER l r) AA
 refine HZ h4 rfl (HZ h4 rfl (cy h4 rfl (AD rfl underlying33 B5 (vl rfl) (vl rfl) AA (Ac hx2)) (cy h4 rfl (AK rfl EI B5 (vl rfl) rfl rfl) (cy h4 rfl (AK rfl EI B5 (vl rfl) rfl rfl) (cy h4 rfl (qZ rfl (vl rfl) (vl rfl)) (co rfl (PY rfl rfl h4 rfl) (Ch.nil (Fin.go (PZ 0 3 5 32 rfl ?_)))))))))
 refine Tr.cn rfl ?_ ?_<;>intro h5 q5
 have hput:F3 l r=l:=if_pos (by rw [hx2];have h_:=q5;cases x2;cases r;simp_all)
 refine Tr.seq (Tr.Ah (cm rfl (cm rfl (Ch.nil (Fin.go (Tr.ret (Fin.AG (Fin.HK rfl (Bm.Dw _ _) rfl ?_))))))))
 · rw [hput];exact Lr
 have hput:F3 l r=l.take (ER l r)++[r]++l.drop (ER l r):=if_neg (by rw [hx2];intro h_;cases h_;have h_:=q5;simp at h_)
 refine Tr.skip (Fin.go (Tr.seq (Tr.A0 (tm rfl (tm rfl (tp rfl (Ff rfl underlying33 B5 (vl rfl) (vl rfl) AA AA) (TO.pad ?_)))))))
 refine TO.Ef 0 rfl rfl AB (J5 rfl rfl AB rfl underlying33 B5 TI Ob rfl AB ⟨_,rfl,Ai _⟩ (vl rfl) WW WX (B_ BI ⟨_,rfl,FI 1⟩)) (fun v1=> ?_)
 refine tm rfl (TO.nil (Fin.go (Tr.seq (Tr.A0 (tm rfl (tp rfl (AK rfl EI B5 (vl rfl) rfl rfl) (tp rfl (AQ (xs:=[.tmp 39]) (rows:=[_]) rfl rfl underlying33 B5 Ob rfl AB ⟨⟨Ab,(Va rfl)⟩,trivial⟩ AB) ?_)))))))
 refine TO.Ef 0 rfl rfl AB (CN rfl rfl rfl rfl underlying33 B5 TI Ob (Kb rfl) (Kf rfl) (BQ BI (Ka rfl))) (fun v2=> ?_)
 refine tm rfl (TO.nil (Fin.go (NZ 0 5 6 rfl (Tr.seq (Tr.A0 (tm rfl (tm rfl (tm rfl (tp rfl (IV rfl underlying33 B5 (vl rfl) (vl rfl) AA AA) ?_)))))))))
 refine TO.Ef 0 rfl rfl AB (CN rfl rfl rfl rfl underlying33 B5 TI Ob (Kb rfl) (vl rfl) (BQ BI (Ka rfl))) (fun v3=> ?_)
 refine tm rfl (TO.nil (Fin.go (Tr.ret (Fin.HK rfl (Bm.Dw _ _) rfl ?_))))
 · exact ej
 have hput:F3 l r=l.take (ER l r)++[r]++l.drop (ER l r):=if_neg (by rw [List.getElem?_eq_none (by have:=q4;omega)];simp)
 iterate 6 refine cnt h4 rfl ?_
 refine co rfl (LX rfl rfl h4 rfl) (Ch.nil (Fin.go (PZ 0 3 5 32 rfl (Tr.cond rfl (fun h=>nomatch h) (fun _=> ?_)))))
 refine Tr.skip (Fin.go (Tr.seq (Tr.A0 (tm rfl (tm rfl (tp rfl (Ff rfl underlying33 B5 (vl rfl) (vl rfl) AA AA) (TO.pad ?_)))))))
 refine TO.Ef 0 rfl rfl AB (J5 rfl rfl AB rfl underlying33 B5 TI Ob rfl AB ⟨_,rfl,Ai _⟩ (vl rfl) WW WX (B_ BI ⟨_,rfl,FI 1⟩)) (fun v4=> ?_)
 refine tm rfl (TO.nil (Fin.go (Tr.seq (Tr.A0 (tm rfl (tp rfl (AK rfl EI B5 (vl rfl) rfl rfl) (tp rfl (AQ (xs:=[.tmp 39]) (rows:=[_]) rfl rfl underlying33 B5 Ob rfl AB ⟨⟨Ab,(Va rfl)⟩,trivial⟩ AB) ?_)))))))
 refine TO.Ef 0 rfl rfl AB (CN rfl rfl rfl rfl underlying33 B5 TI Ob (Kb rfl) (Kf rfl) (BQ BI (Ka rfl))) (fun v5=> ?_)
 refine tm rfl (TO.nil (Fin.go (NZ 0 5 6 rfl (Tr.seq (Tr.A0 (tm rfl (tm rfl (tm rfl (tp rfl (IV rfl underlying33 B5 (vl rfl) (vl rfl) AA AA) ?_)))))))))
 refine TO.Ef 0 rfl rfl AB (CN rfl rfl rfl rfl underlying33 B5 TI Ob (Kb rfl) (vl rfl) (BQ BI (Ka rfl))) (fun v6=> ?_)
 refine tm rfl (TO.nil (Fin.go (Tr.ret (Fin.HK rfl (Bm.Dw _ _) rfl ?_))))
 · exact ej
theorem Ft (l:List BH):∀(a:List BH),(l.foldl F3 a).length≤a.length+l.length:=by
 induction l with
 |nil=>intro a;simp
 |cons x l ih=>intro a;have h1:=ih (F3 a x);have h2:=Vh a x;simp only [List.foldl_cons,List.length_cons];omega
theorem NH (l:List BH):∀{a:List BH},Dg a=true→Dg (l.foldl F3 a)=true:=by
 induction l with
 |nil=>intro a h;exact h
 |cons x l ih=>intro a h;exact ih (N2 h)
theorem RH (l:List BH):∀{a:List BH} {x:BH},x∈l.foldl F3 a↔x∈a∨x∈l:=by
 induction l with
 |nil=>intro a x;simp
 |cons y l ih=>intro a x;rw [List.foldl_cons,ih,Vi,List.mem_cons,or_comm (a:=x=y),or_assoc]
def Qc (a b:List BH):List BH:=b.foldl F3 (a.foldl F3 [])
theorem SA {β γ:Type} {f:γ→β→γ} {a:γ} {l:List β} {k:Nat} {x:β} (h:l[k]? =some x):(l.take (k+1)).foldl f a=f ((l.take k).foldl f a) x:=by rw [List.take_add_one,h,List.foldl_append];rfl
theorem Xx {a b:List BH} (ha:a.length≤100000) (hb:b.length≤100000):BD prog 97 [reqs a,reqs b] (reqs (Qc a b)):=by
 refine BD.of func97 rfl rfl Al fun M0 w0=> ?_
 refine Tr.CM 0 rfl fun D4=>(Tr.CM 1 rfl fun Fz=>(Tr.seq (Tr.Ah (cm rfl (Ch.nil (Fin.go (Tr.seq (Tr.Ah (cm rfl (Ch.nil (Fin.go (Tr.seq (Tr.seq (Tr.Ah ?_))))))))))))))
 refine cm rfl (co rfl (Bn rfl underlying33 (vl rfl)) (cm rfl (Ch.nil (Fin.go (Tr.block (Tr.Ax [(1,_),(10,_),(11,_)] (kk3 rfl) (fun k:Nat=>[(12,int ((k:Nat):Int)),(5,reqs ((a.take k).foldl F3 []))]) (fun k:Nat=>k≤(a).length) (fun k:Nat=>(a).length-k) 0 (Nat.zero_le _) ⟨ke rfl,⟨_,rfl,Ai 2⟩,trivial⟩ ?_))))))
 rintro k BK
 refine Tr.seq (Tr.Ah (co rfl (ki rfl rfl rfl rfl) (Ch.nil (Fin.go (Tr.seq ?_)))))
 refine Tr.cn rfl ?_ ?_<;>intro h1 q1
 have Aa:k<(a).length:=AH h1
 obtain ⟨x,AX⟩:=at_ Aa
 have Us:=Ft (a.take k) []
 rw [List.length_take] at Us
 have vW:((a.take k).foldl F3 []).length≤1000000:=by simp at Us;omega
 refine Tr.skip (Fin.go (Tr.seq (Tr.block (Tr.seq (Tr.A0 (tp rfl (AD rfl underlying33 B5 (vl rfl) (vl rfl) AA (Ac AX)) (tp rfl (AK rfl EI B5 (vl rfl) rfl rfl) ?_)))))))
 refine Tl rfl rfl rfl rfl Ob L5 (fun b1=> ?_)
 refine TO.Aj 0 rfl rfl rfl (vl rfl) (Va rfl) rfl B5 rfl rfl (TO.freeze 0 7 rfl rfl (TO.nil (Fin.go (Tr.Ah (cm rfl (co rfl (AK rfl EI B5 (vl rfl) rfl rfl) (co rfl (AZ rfl (Vj vW) ⟨ke rfl,ke rfl,trivial⟩) (cm rfl (Ch.nil (Fin.block (Fin.go (Na 1 5 10 11 12 rfl (Tr.Ah ?_)))))))))))))
 refine JF rfl rfl rfl rfl AA (cm rfl (Ch.nil (Fin.AM (k+1) ⟨Aa,by omega⟩ ⟨⟨_,rfl,AF k⟩,⟨_,rfl,Pr.le_of_eq (by rw [SA AX])⟩,ke rfl,ke rfl,ke rfl,trivial⟩)))
 have Az:k=(a).length:=by have:=AJ h1;omega
 subst Az
 rw [List.take_length]
 refine Tr.exit (Fin.AV (Fin.AV (Fin.Ao (Fin.go (Tr.seq (Tr.seq (Tr.Ah (cm rfl (co rfl (Bn rfl underlying33 (vl rfl)) (cm rfl (Ch.nil (Fin.go (Tr.block (Tr.Ax [(20,_),(21,_)] (kk2 rfl) (fun m:Nat=>[(22,int ((m:Nat):Int)),(5,reqs ((b.take m).foldl F3 (a.foldl F3 [])))]) (fun m:Nat=>m≤(b).length) (fun m:Nat=>(b).length-m) 0 (Nat.zero_le _) ⟨ke rfl,ke rfl,trivial⟩ ?_))))))))))))))
 rintro m Nx
 refine Tr.seq (Tr.Ah (co rfl (ki rfl rfl rfl rfl) (Ch.nil (Fin.go (Tr.seq ?_)))))
 refine Tr.cn rfl ?_ ?_<;>intro h2 q2
 have FA:m<(b).length:=AH h2
 obtain ⟨x,EC⟩:=at_ FA
 have Us:=Ft (b.take m) (a.foldl F3 [])
 rw [List.length_take] at Us
 have vW:((b.take m).foldl F3 (a.foldl F3 [])).length≤1000000:=by have:=Ft a [];simp at this;omega
 refine Tr.skip (Fin.go (Tr.seq (Tr.block (Tr.seq (Tr.A0 (tp rfl (AD rfl underlying33 B5 (vl rfl) (vl rfl) AA (Ac EC)) (tp rfl (AK rfl EI B5 (vl rfl) rfl rfl) ?_)))))))
 refine Tl rfl rfl rfl rfl Ob L5 (fun b2=> ?_)
 refine TO.Aj 0 rfl rfl rfl (vl rfl) (Va rfl) rfl B5 rfl rfl (TO.freeze 0 9 rfl rfl (TO.nil (Fin.go (Tr.Ah (cm rfl (co rfl (AK rfl EI B5 (vl rfl) rfl rfl) (co rfl (AZ rfl (Vj vW) ⟨ke rfl,ke rfl,trivial⟩) (cm rfl (Ch.nil (Fin.block (Fin.go (PZ 5 20 21 22 rfl (Tr.Ah ?_)))))))))))))
 refine JF rfl rfl rfl rfl AA (cm rfl (Ch.nil (Fin.AM (m+1) ⟨FA,by omega⟩ ⟨⟨_,rfl,AF m⟩,⟨_,rfl,Pr.le_of_eq (by rw [SA EC])⟩,ke rfl,ke rfl,trivial⟩)))
 have LK:m=(b).length:=by have:=AJ h2;omega
 subst LK
 rw [List.take_length]
 refine Tr.exit (Fin.AV (Fin.AV (Fin.Ao (Fin.go (Tr.seq (Tr.Ah (cm rfl (cm rfl (Ch.nil (Fin.go (Tr.ret (Fin.HK rfl (Bm.Dw _ _) rfl ?_))))))))))))
 · exact Lr
theorem Qd {l:List Int} {v:Int}  :BD prog 22 [ints l,int v] (bool (JD l v)):=by
 refine BD.of func22 rfl rfl Al fun M0 w0=> ?_
 refine Tr.CM 0 rfl fun D4=>(Tr.seq (Tr.Ah (cm rfl (Ch.nil (Fin.go (Tr.seq (Tr.seq (Tr.Ah (cm rfl (co rfl (Bn rfl underlying51 (vl rfl)) (cm rfl (Ch.nil (Fin.go (Tr.block ?_))))))))))))))
 refine Tr.Ax [(1,_),(7,_),(8,_)] (kk3 rfl) (fun k:Nat=>[(9,int ((k:Nat):Int))]) (fun k:Nat=>k≤(l).length∧(JD (l.take k) v=false)) (fun k:Nat=>(l).length-k) 0 (⟨Nat.zero_le _,rfl⟩) ⟨ke rfl,trivial⟩ ?_
 rintro k ⟨BK,AL⟩
 refine Tr.seq (Tr.Ah (co rfl (ki rfl rfl rfl rfl) (Ch.nil (Fin.go (Tr.seq ?_)))))
 refine Tr.cn rfl ?_ ?_<;>intro h1 q1
 have Aa:k<(l).length:=AH h1
 obtain ⟨x,AX⟩:=at_ Aa
 refine Tr.skip (Fin.go (Tr.seq (Tr.block (Tr.seq (Tr.Ah (co rfl (AD rfl underlying51 Bg (vl rfl) (vl rfl) AA (Ac AX)) (co rfl (GI rfl CX rfl) (cm rfl (Ch.nil (Fin.go (Tr.seq (Tr.Ah (cm rfl ?_)))))))))))))
 refine cm rfl (co rfl (ki rfl rfl rfl rfl) (Ch.nil (Fin.go ?_)))
 refine Tr.cn rfl ?_ ?_<;>intro h2 q2
 refine Tr.seq (Tr.Ah (cm rfl (Ch.nil (Fin.go (Tr.ret (Fin.Ag (Fin.AG (Fin.AG (Fin.Ag (Fin.AG (Fin.HK rfl (Bm.Dw _ _) rfl ?_)))))))))))
 · refine bool_eq ?_;symm;unfold JD;rw [List.any_eq_true];exact ⟨_,List.mem_of_getElem? AX,by simp_all⟩
 refine Tr.skip (Fin.block (Fin.go (Tr.Ah (JF rfl rfl rfl rfl AA (cm rfl (Ch.nil ?_))))))
 exact Fin.AM (k+1) ⟨⟨Aa,(by unfold JD at AL ⊢;rw [List.take_add_one,AX,List.any_append,AL];simp;omega)⟩,by omega⟩ ⟨⟨_,rfl,AF k⟩,ke rfl,ke rfl,ke rfl,trivial⟩
 have Az:k=(l).length:=by have:=AJ h1;omega
 subst Az
 refine Tr.exit (Fin.AV (Fin.AV (Fin.Ao (Fin.go (Tr.seq (Tr.Ah (cm rfl (Ch.nil (Fin.go (Tr.ret (Fin.HK rfl (Bm.Dw _ _) rfl ?_)))))))))))
 · exact SZ
theorem N4 {l:List BH} {s:List Int}  :BD prog 83 [reqs l,ints s] (bool (CH l s)):=by
 refine BD.of func83 rfl rfl Al fun M0 w0=> ?_
 refine Tr.CM 0 rfl fun D4=>(Tr.seq (Tr.Ah (cm rfl (Ch.nil (Fin.go (Tr.seq (Tr.seq (Tr.Ah (cm rfl (co rfl (Bn rfl underlying33 (vl rfl)) (cm rfl (Ch.nil (Fin.go (Tr.block ?_))))))))))))))
 refine Tr.Ax [(1,_),(7,_),(8,_)] (kk3 rfl) (fun k:Nat=>[(9,int ((k:Nat):Int))]) (fun k:Nat=>k≤(l).length∧(CH (l.take k) s=true)) (fun k:Nat=>(l).length-k) 0 (⟨Nat.zero_le _,rfl⟩) ⟨ke rfl,trivial⟩ ?_
 rintro k ⟨BK,AL⟩
 refine Tr.seq (Tr.Ah (co rfl (ki rfl rfl rfl rfl) (Ch.nil (Fin.go (Tr.seq ?_)))))
 refine Tr.cn rfl ?_ ?_<;>intro h1 q1
 have Aa:k<(l).length:=AH h1
 obtain ⟨r,AX⟩:=at_ Aa
 refine Tr.skip (Fin.go (Tr.seq (Tr.block (Tr.seq (Tr.A0 (tp rfl (AD rfl underlying33 B5 (vl rfl) (vl rfl) AA (Ac AX)) (tp rfl (AK rfl EI B5 (vl rfl) rfl rfl) ?_)))))))
 refine Tl rfl rfl rfl rfl Ob L5 (fun b1=> ?_)
 refine TO.Aj 0 rfl rfl rfl (vl rfl) (Va rfl) rfl B5 rfl rfl (TO.freeze 0 6 rfl rfl (TO.nil (Fin.go (Tr.seq (Tr.Ah (cm rfl (co rfl (ZM rfl Po rfl rfl) (co rfl (GI rfl CX rfl) (co rfl (AZ rfl (Qd) ⟨ke rfl,ke rfl,trivial⟩) (cm rfl ?_))))))))))
 refine Ch.cs 17 rfl ?_ ?_<;>intro h2 q2
 refine HZ h2 rfl (cy h2 rfl (ZM rfl Pn rfl rfl) (cy h2 rfl (GI rfl CX rfl) (cy h2 rfl (AZ rfl (Qd) ⟨ke rfl,ke rfl,trivial⟩) (cy h2 rfl (F9 rfl (vl rfl)) (co rfl (PY rfl rfl h2 rfl) (Ch.nil (Fin.go (Na 1 7 8 9 23 rfl ?_))))))))
 refine Tr.cn rfl ?_ ?_<;>intro h3 q3
 refine Tr.seq (Tr.Ah (cm rfl (Ch.nil (Fin.go (Tr.ret (Fin.Ag (Fin.AG (Fin.AG (Fin.Ag (Fin.AG (Fin.HK rfl (Bm.Dw _ _) rfl ?_)))))))))))
 · refine bool_eq ?_;symm;unfold CH;rw [List.all_eq_false];exact ⟨_,List.mem_of_getElem? AX,by simp_all⟩
 refine Tr.skip (Fin.block (Fin.go (Tr.Ah (JF rfl rfl rfl rfl AA (cm rfl (Ch.nil ?_))))))
 exact Fin.AM (k+1) ⟨⟨Aa,Yl⟩,by omega⟩ ⟨⟨_,rfl,AF k⟩,ke rfl,ke rfl,ke rfl,trivial⟩
 iterate 5 refine cnt h2 rfl ?_
 refine co rfl (LX rfl rfl h2 rfl) (Ch.nil (Fin.go (Na 1 7 8 9 23 rfl (Tr.cond rfl (fun h=>nomatch h) (fun _=> ?_)))))
 refine Tr.skip (Fin.block (Fin.go (Tr.Ah (JF rfl rfl rfl rfl AA (cm rfl (Ch.nil ?_))))))
 exact Fin.AM (k+1) ⟨⟨Aa,Yl⟩,by omega⟩ ⟨⟨_,rfl,AF k⟩,ke rfl,ke rfl,ke rfl,trivial⟩
 have Az:k=(l).length:=by have:=AJ h1;omega
 subst Az
 refine Tr.exit (Fin.AV (Fin.AV (Fin.Ao (Fin.go (Tr.seq (Tr.Ah (cm rfl (Ch.nil (Fin.go (Tr.ret (Fin.HK rfl (Bm.Dw _ _) rfl ?_)))))))))))
 · exact SZ
theorem SB (n:Int) (has:Bool) (s:List Int):(wall n has s).1.length≤s.length+1:=by
 have h:=Qb (n:=n) (has:=has) (s:=s) (p:=([],false))
 unfold wall;revert h;split<;>simp<;>omega
theorem kR (n:Nat) (l:List BH) (s:List Int) (add:Bool):(EM n l s add).length≤n:=by unfold EM;rw [List.length_map];exact Nat.le_trans (List.length_filter_le _ _) Sj
theorem kS {n:Nat} {l:List BH} {s:List Int} {add:Bool} (h:KW l s add n=true):EM (n+1) l s add=EM n l s add++[(n:Int)]:=by unfold EM;rw [List.range_succ,List.filter_append,List.map_append];simp [h]
theorem aF {n:Nat} {l:List BH} {s:List Int} {add:Bool} (h:KW l s add n=false):EM (n+1) l s add=EM n l s add:=by unfold EM;rw [List.range_succ,List.filter_append,List.map_append];simp [h]
theorem bB {n:Int} {has:Bool} {s:List Int} {k:Nat} {x:Int} (h:s[k]? =some x):wall n has (s.take (k+1))=De n has (wall n has (s.take k)) x:=by
 rw [List.take_add_one,h];exact c_ n has _ x
theorem SC {s:List Int} {n:Int} {has:Bool} (hs:s.length≤1000000):BD prog 159 [ints s,int n,bool has] (ints (EF s n has)):=by
 refine BD.of func159 rfl rfl Al fun M0 w0=> ?_
 refine Tr.CM 0 rfl fun D4=>(Tr.seq (Tr.Ah (cm rfl (Ch.nil (Fin.go (Tr.seq (Tr.Ah (cm rfl (Ch.nil (Fin.go (Tr.seq (Tr.Ah (cm rfl ?_)))))))))))))
 refine Ch.nil (Fin.go (Tr.seq (Tr.seq (Tr.Ah (cm rfl ?_)))))
 first|refine co rfl (Bn rfl underlying51 (vl rfl)) ?_|refine co rfl (B7 rfl underlying51 (vl rfl)) ?_
 refine cm rfl (Ch.nil (Fin.go (Tr.block (Tr.CB 3 1 (Tr.Ez [(1,_),(2,_),(11,_),(12,_)] ⟨ke rfl,ke rfl,ke rfl,ke rfl,trivial⟩ (fun k v=>[(13,int ((k:Nat):Int)),(8,bool (wall n has (s.take k)).2),(7,Ae v (ints (wall n has (s.take k)).1))]) (fun k v=>Hp M0 w0 II ([As 3 1 v])) (fun k:Nat=>k≤(s).length) (fun k:Nat=>(s).length-k) 0 (.slice none 0 0) (Nat.zero_le _) ⟨ke rfl,⟨_,rfl,bool_eq rfl⟩,⟨_,rfl,Bu rfl⟩,trivial⟩ (fun _ _ h=>h) ?_)))))
 rintro k v BK
 refine Tr.seq (Tr.Ah (co rfl (ki rfl rfl rfl rfl) (Ch.nil (Fin.go (Tr.seq ?_)))))
 refine Tr.cn rfl ?_ ?_<;>intro h1 q1
 have Aa:k<(s).length:=AH h1
 obtain ⟨x,AX⟩:=at_ Aa
 have hwl:=SB n has (s.take k)
 rw [List.length_take] at hwl
 refine Tr.skip (Fin.go (Tr.seq (Tr.block (Tr.seq (Tr.Ah (co rfl (AD rfl underlying51 Bg (vl rfl) (vl rfl) AA (Ac AX)) (co rfl (GI rfl CX rfl) (cm rfl (Ch.nil (Fin.go (Tr.seq (Tr.seq (Tr.Ah ?_)))))))))))))
 refine cm rfl (cm rfl ?_)
 refine Ch.cs 18 rfl ?_ ?_<;>intro h2 q2
 refine HZ h2 rfl (cy h2 rfl (F9 rfl (vl rfl)) (co rfl (PY rfl rfl h2 rfl) (cm rfl ?_)))
 refine Ch.cs 22 rfl ?_ ?_<;>intro h3 q3
 refine HZ h3 rfl (HZ h3 rfl (cy h3 rfl (ki rfl rfl rfl rfl) (co rfl (PY rfl rfl h3 rfl) (Ch.nil (Fin.go (wk9 1 2 7 8 10 11 12 13 26 rfl ?_))))))
 refine Tr.cn rfl ?_ ?_<;>intro h4 q4
 refine Tr.A0 (tm rfl (tm rfl (tp rfl (AQ (xs:=[.tmp 28]) (rows:=[[_]]) rfl rfl underlying51 Bg z3 rfl AB ⟨⟨Ab,(Vo rfl)⟩,trivial⟩ AB) ?_)))
 refine TO.Ef 0 rfl rfl AB (CN rfl rfl rfl rfl underlying51 Bg J_ z3 (Kb rfl) (Kf rfl) (BQ BI (Ka rfl))) (fun v1=> ?_)
 refine tm rfl (tm rfl (TO.nil (Fin.go (mT 1 2 7 8 10 11 12 13 rfl (Tr.seq (Tr.Ah (cm rfl (cm rfl (co rfl (ki rfl rfl rfl rfl) (Ch.nil (Fin.go ?_)))))))))))
 refine Tr.cn rfl ?_ ?_<;>intro h5 q5
 refine Tr.A0 (tm rfl (tm rfl (tp rfl (AQ (xs:=[.tmp 35]) (rows:=[[_]]) rfl rfl underlying51 Bg z3 rfl AB ⟨⟨Ab,(Vo rfl)⟩,trivial⟩ AB) ?_)))
 refine TO.Ef 0 rfl rfl AB (CN rfl rfl rfl rfl underlying51 Bg J_ z3 (Kb rfl) (Kf rfl) (BQ BI (Ka rfl))) (fun v2=> ?_)
 refine tm rfl (TO.nil (Fin.block (Fin.go (wk7 1 2 7 8 11 12 13 rfl (Tr.Ah ?_)))))
 first|(refine JF rfl rfl rfl rfl AA ?_)|refine co rfl (ki rfl rfl rfl rfl) ?_
 refine cm rfl (Ch.nil ?_)
 exact Fin.Dm (k+1) v2 (⟨Aa,by omega⟩) ⟨⟨_,rfl,AF k⟩,⟨_,rfl,bool_eq GH⟩,⟨_,rfl,BU GH⟩,ke rfl,ke rfl,ke rfl,ke rfl,trivial⟩ (fun _ _ h=>h)
 refine Tr.skip (Fin.block (Fin.go (Tr.Ah ?_)))
 first|(refine JF rfl rfl rfl rfl AA ?_)|refine co rfl (ki rfl rfl rfl rfl) ?_
 refine cm rfl (Ch.nil ?_)
 exact Fin.Dm (k+1) v1 (⟨Aa,by omega⟩) ⟨⟨_,rfl,AF k⟩,⟨_,rfl,bool_eq GH⟩,⟨_,rfl,BU GH⟩,ke rfl,ke rfl,ke rfl,ke rfl,trivial⟩ (fun _ _ h=>h)
 refine Tr.skip (Fin.go (Tr.seq (Tr.Ah (cm rfl (cm rfl (co rfl (ki rfl rfl rfl rfl) (Ch.nil (Fin.go ?_))))))))
 refine Tr.cn rfl ?_ ?_<;>intro h6 q6
 refine Tr.A0 (tm rfl (tm rfl (tp rfl (AQ (xs:=[.tmp 35]) (rows:=[[_]]) rfl rfl underlying51 Bg z3 rfl AB ⟨⟨Ab,(Vo rfl)⟩,trivial⟩ AB) ?_)))
 refine TO.Ef 0 rfl rfl AB (CN rfl rfl rfl rfl underlying51 Bg J_ z3 (Kb rfl) (Kf rfl) (BQ BI (Ka rfl))) (fun v3=> ?_)
 refine tm rfl (TO.nil (Fin.block (Fin.go (wk7 1 2 7 8 11 12 13 rfl (Tr.Ah ?_)))))
 first|(refine JF rfl rfl rfl rfl AA ?_)|refine co rfl (ki rfl rfl rfl rfl) ?_
 refine cm rfl (Ch.nil ?_)
 exact Fin.Dm (k+1) v3 (⟨Aa,by omega⟩) ⟨⟨_,rfl,AF k⟩,⟨_,rfl,bool_eq GH⟩,⟨_,rfl,BU GH⟩,ke rfl,ke rfl,ke rfl,ke rfl,trivial⟩ (fun _ _ h=>h)
 refine Tr.skip (Fin.block (Fin.go (Tr.Ah ?_)))
 first|(refine JF rfl rfl rfl rfl AA ?_)|refine co rfl (ki rfl rfl rfl rfl) ?_
 refine cm rfl (Ch.nil ?_)
 exact Fin.Dm (k+1) v (⟨Aa,by omega⟩) ⟨⟨_,rfl,AF k⟩,⟨_,rfl,bool_eq GH⟩,⟨_,rfl,BU GH⟩,ke rfl,ke rfl,ke rfl,ke rfl,trivial⟩ (fun _ _ h=>h)
 refine cnt h3 rfl (cnt h3 rfl (cnt h3 rfl (co rfl (LX rfl rfl h3 rfl) (Ch.nil (Fin.go (wk9 1 2 7 8 10 11 12 13 26 rfl (Tr.cond rfl (fun h=>nomatch h) (fun _=> ?_))))))))
 refine Tr.skip (Fin.go (Tr.seq (Tr.Ah (cm rfl (cm rfl (co rfl (ki rfl rfl rfl rfl) (Ch.nil (Fin.go ?_))))))))
 refine Tr.cn rfl ?_ ?_<;>intro h7 q7
 refine Tr.A0 (tm rfl (tm rfl (tp rfl (AQ (xs:=[.tmp 35]) (rows:=[[_]]) rfl rfl underlying51 Bg z3 rfl AB ⟨⟨Ab,(Vo rfl)⟩,trivial⟩ AB) ?_)))
 refine TO.Ef 0 rfl rfl AB (CN rfl rfl rfl rfl underlying51 Bg J_ z3 (Kb rfl) (Kf rfl) (BQ BI (Ka rfl))) (fun v4=> ?_)
 refine tm rfl (TO.nil (Fin.block (Fin.go (wk7 1 2 7 8 11 12 13 rfl (Tr.Ah ?_)))))
 first|(refine JF rfl rfl rfl rfl AA ?_)|refine co rfl (ki rfl rfl rfl rfl) ?_
 refine cm rfl (Ch.nil ?_)
 exact Fin.Dm (k+1) v4 (⟨Aa,by omega⟩) ⟨⟨_,rfl,AF k⟩,⟨_,rfl,bool_eq GH⟩,⟨_,rfl,BU GH⟩,ke rfl,ke rfl,ke rfl,ke rfl,trivial⟩ (fun _ _ h=>h)
 refine Tr.skip (Fin.block (Fin.go (Tr.Ah ?_)))
 first|(refine JF rfl rfl rfl rfl AA ?_)|refine co rfl (ki rfl rfl rfl rfl) ?_
 refine cm rfl (Ch.nil ?_)
 exact Fin.Dm (k+1) v (⟨Aa,by omega⟩) ⟨⟨_,rfl,AF k⟩,⟨_,rfl,bool_eq GH⟩,⟨_,rfl,BU GH⟩,ke rfl,ke rfl,ke rfl,ke rfl,trivial⟩ (fun _ _ h=>h)
 refine cnt h2 rfl (cnt h2 rfl (co rfl (LX rfl rfl h2 rfl) (cm rfl (cnd rfl rfl (cnd rfl rfl (cnd rfl rfl (co rfl (LX rfl rfl rfl rfl) (Ch.nil (Fin.go (wk9 1 2 7 8 10 11 12 13 26 rfl (Tr.cond rfl (fun h=>nomatch h) (fun _=> ?_))))))))))))
 refine Tr.skip (Fin.go (Tr.seq (Tr.Ah (cm rfl (cm rfl (co rfl (ki rfl rfl rfl rfl) (Ch.nil (Fin.go ?_))))))))
 refine Tr.cn rfl ?_ ?_<;>intro h8 q8
 refine Tr.A0 (tm rfl (tm rfl (tp rfl (AQ (xs:=[.tmp 35]) (rows:=[[_]]) rfl rfl underlying51 Bg z3 rfl AB ⟨⟨Ab,(Vo rfl)⟩,trivial⟩ AB) ?_)))
 refine TO.Ef 0 rfl rfl AB (CN rfl rfl rfl rfl underlying51 Bg J_ z3 (Kb rfl) (Kf rfl) (BQ BI (Ka rfl))) (fun v5=> ?_)
 refine tm rfl (TO.nil (Fin.block (Fin.go (wk7 1 2 7 8 11 12 13 rfl (Tr.Ah ?_)))))
 first|(refine JF rfl rfl rfl rfl AA ?_)|refine co rfl (ki rfl rfl rfl rfl) ?_
 refine cm rfl (Ch.nil ?_)
 exact Fin.Dm (k+1) v5 (⟨Aa,by omega⟩) ⟨⟨_,rfl,AF k⟩,⟨_,rfl,bool_eq GH⟩,⟨_,rfl,BU GH⟩,ke rfl,ke rfl,ke rfl,ke rfl,trivial⟩ (fun _ _ h=>h)
 refine Tr.skip (Fin.block (Fin.go (Tr.Ah ?_)))
 first|(refine JF rfl rfl rfl rfl AA ?_)|refine co rfl (ki rfl rfl rfl rfl) ?_
 refine cm rfl (Ch.nil ?_)
 exact Fin.Dm (k+1) v (⟨Aa,by omega⟩) ⟨⟨_,rfl,AF k⟩,⟨_,rfl,bool_eq GH⟩,⟨_,rfl,BU GH⟩,ke rfl,ke rfl,ke rfl,ke rfl,trivial⟩ (fun _ _ h=>h)
 have Az:k=(s).length:=by have:=AJ h1;omega
 subst Az
 rw [List.take_length]
 have hwl:=SB n has s
 refine Tr.exit (Fin.AV (Fin.AV (Fin.Ao (Fin.go (Tr.seq (Tr.seq (Tr.Ah (cm rfl (cm rfl ?_)))))))))
 refine Ch.cs 40 rfl ?_ ?_<;>intro h9 q9
 refine HZ h9 rfl (cy h9 rfl (F9 rfl (vl rfl)) (co rfl (PY rfl rfl h9 rfl) (Ch.nil (Fin.go ?_))))
 refine Tr.cn rfl ?_ ?_<;>intro h10 Q2
 refine Tr.A0 (tm rfl (tm rfl (tp rfl (AQ (xs:=[.tmp 45]) (rows:=[[_]]) rfl rfl underlying51 Bg z3 rfl AB ⟨⟨Ab,(Vo rfl)⟩,trivial⟩ AB) ?_)))
 refine TO.Ef 0 rfl rfl AB (CN rfl rfl rfl rfl underlying51 Bg J_ z3 (Kb rfl) (Kf rfl) (BQ BI (Ka rfl))) (fun v6=> ?_)
 refine tm rfl (TO.nil (Fin.go (bN 7 rfl (Tr.seq (Tr.Ah (cm rfl (cm rfl (Ch.nil (Fin.go (Tr.ret (Fin.HK rfl (Bm.Dw _ _) rfl ?_)))))))))))
 · exact WV
 refine Tr.skip (Fin.go (Tr.seq (Tr.Ah (cm rfl (cm rfl (Ch.nil (Fin.go (bN 6 rfl (Tr.ret (Fin.HK rfl (Bm.Dw _ _) rfl ?_))))))))))
 · exact WV
 refine cnt h9 rfl (cnt h9 rfl (co rfl (LX rfl rfl h9 rfl) (Ch.nil (Fin.go (Tr.cond rfl (fun h=>nomatch h) (fun _=> ?_))))))
 refine Tr.skip (Fin.go (Tr.seq (Tr.Ah (cm rfl (cm rfl (Ch.nil (Fin.go (bN 6 rfl (Tr.ret (Fin.HK rfl (Bm.Dw _ _) rfl ?_))))))))))
 · exact WV
theorem N5 {n:Nat} {l:List BH} {s:List Int} {add:Bool} (hs:s.length≤100000) (hn:n≤100000):BD prog 130 [int ((n:Nat):Int),reqs l,ints s,bool add] (ints (EM n l s add)):=by
 refine fo func130 rfl ⟨rfl,rfl⟩ fun M0 w0=> ?_
 refine a3 ?_
 refine Tr.block (Tr.CB 3 1 (Tr.Ez _ (kk [11,3,2,1] rfl) (fun k v=>[(12,int ((k:Nat):Int)),(9,Ae v (ints (EM k l s add)))]) (fun k v=>Hp M0 w0 II ([As 3 1 v])) (fun k:Nat=>k≤n) (fun k:Nat=>n-k) 0 (.slice none 0 0) (Nat.zero_le _) ⟨kq,⟨_,rfl,Bu rfl⟩,trivial⟩ (fun _ _ h=>h) ?_))
 rintro k v hkn
 refine ac ?_
 refine Tr.seq ?_
 refine Tr.cn rfl ?_ ?_<;>intro h1 q1
 have hk1:k<n:=by have:=Df.EA h1;omega
 have Us:=kR k l s add
 refine a3 ?_
 refine co rfl (C4 (Qd) rfl rfl rfl) (cm rfl (co rfl (S7 rfl underlying4 vq vq) (cm rfl ?_)))
 refine Ch.cs 20 rfl ?_ ?_<;>intro h2 q2
 refine ac ?_
 refine cy h2 rfl (XC (SC AA) rfl rfl rfl rfl) (cy h2 rfl (C4 (N4) rfl rfl rfl) ?_)
 refine ac ?_
 refine wk [27,12,11,10,9,3,2,1] rfl ?_
 refine Tr.cn rfl ?_ ?_<;>intro h3 q3
 refine ap ?_
 refine TO.Ef 0 rfl rfl AB (CN rfl rfl rfl rfl underlying51 Bg J_ z3 KR Gx (BQ BI Oc)) (fun v1=> ?_)
 refine ap ?_
 refine ac ?_
 exact Fin.Dm (k+1) v1 (⟨by omega,by omega⟩) ⟨⟨_,rfl,AF k⟩,⟨_,rfl,BU (by rw [kS (by unfold KW;simp_all)];simp)⟩,kz⟩ (fun _ _ h=>h)
 refine a2 ?_
 exact Fin.Dm (k+1) v (⟨by omega,by omega⟩) ⟨⟨_,rfl,AF k⟩,⟨_,rfl,BU (by rw [aF (by unfold KW;simp_all)])⟩,kz⟩ (fun _ _ h=>h)
 refine ac ?_
 refine wk [27,12,11,10,9,3,2,1] rfl ?_
 refine a2 ?_
 exact Fin.Dm (k+1) v (⟨by omega,by omega⟩) ⟨⟨_,rfl,AF k⟩,⟨_,rfl,BU (by rw [aF (by unfold KW;simp_all)])⟩,kz⟩ (fun _ _ h=>h)
 obtain rfl:k=n:=by have:=Df.EA h1;omega
 refine a3 ?_
 · exact G3
theorem Xy {c:Aq} {a b:List Int} {t n x:Int} (hf:c.Bx a b []=0) (ht:c.has t=true) (Ld:a.length<24) (h:c.early a b t n=some x):n≤x∧(0≤x∧x≤40000)∧c.Bx (a++[t]) (b++[x]) []=0:=by
 have ho:=EY (EZ hf)
 rw [Ju (by rw [Gt ht];exact hf)] at h
 unfold Aq.next at h
 obtain ⟨h1,h2⟩:=H6 ho
 obtain ⟨h3,⟨j,w,hj,h4,h5,h7⟩,_⟩:=N1 h (H7 h1 h2) h2
 rw [Nat.zero_add] at h7
 have hw:=List.any_eq_false.1 (LP ho).2.2.1 w (List.mem_of_getElem? hj)
 have hl:=QW h4
 simp [GC] at hw
 have hop:c.Wu (a.zip b) t x=true:=(qU ho).2 ⟨j,w,hj,h4,h5,h7⟩
 refine ⟨by omega,by omega,?_⟩
 rw [←kJ hf Ld ht] at hop
 exact of_decide_eq_true hop
theorem Xz {c:Aq} {a b a' b':List Int} (h:c.Bx a b []=0) (hl:a'.length=b'.length) (hp:(a.zip b).Perm (a'.zip b')):c.Bx a' b' []=0:=by
 have h0:=EZ h
 have ho:=EY h0
 obtain ⟨l1,l2⟩:=Jt h0
 have hlen:=hp.length_eq
 rw [List.length_zip,List.length_zip] at hlen
 have KV:=MM h0
 have hmem:∀n∈a',n∈a:=fun n hn=>by
  obtain ⟨j,hj⟩:=List.mem_iff_getElem?.1 hn
  have hjl:j<a'.length:=by rcases Nat.lt_or_ge j a'.length with h2|h2;exact h2;rw [List.getElem?_eq_none h2] at hj;cases hj
  obtain ⟨y,hy⟩:=at_ (l:=b') (k:=j) AA
  have hz:(n,y)∈a'.zip b':=List.mem_of_getElem? (List.getElem?_zip_eq_some.2 ⟨hj,hy⟩)
  exact (List.of_mem_zip (hp.mem_iff.2 hz)).1
 have h1:c.Ca a' b' []=0:=by
  unfold Aq.Ca
  rw [if_neg (not_not_intro ho),if_neg AA,if_neg AA,if_neg,if_pos]
  ·
   have hm:=MQ h0
   rw [List.all_eq_true] at hm ⊢
   exact fun p hpm=>hm p (hp.mem_iff.2 hpm)
  ·
   rw [Bool.not_eq_true,List.any_eq_false]
   intro n hn
   rw [List.append_nil] at hn
   have:=KV n (by rw [List.append_nil];exact hmem n hn)
   simp [this]
 unfold Aq.Bx at h ⊢
 rw [if_neg (not_not_intro h0)] at h
 rw [if_neg (not_not_intro h1),if_neg]
 intro hov
 have hno:¬c.over (a.zip b):=by intro hh;rw [if_pos hh] at h;cases h
 refine hno ?_
 obtain ⟨i,n,r,g1,g2,g3⟩:=hov
 refine ⟨i,n,r,g1,g2,?_⟩
 have:c.cnt (a.zip b) (i*8+n)=c.cnt (a'.zip b') (i*8+n):=List.Perm.countP_eq _ hp
 rw [this];exact g3
-- days for changes, one after the other (behind Rq.lean and the ACB)
def Ec (l:List BH) (I5:List Int) (i fr:Int):Int:=l.foldl (fun a r=>if r.thn=i then max a (I5.getD r.fst.toNat 0+1) else a) fr
theorem Qe {I5:List Int} {i:Int}:∀{l:List BH} {fr:Int},fr≤Ec l I5 i fr
 |[],_=>Int.le_refl _
 |r::l,fr=>by
  have h:= @Qe I5 i l (if r.thn=i then max fr (I5.getD r.fst.toNat 0+1) else fr)
  unfold Ec at h ⊢
  rw [List.foldl_cons]
  split at h
  next h2=>rw [if_pos h2];omega
  next h2=>rw [if_neg h2];exact h
theorem Qf {I5:List Int} {i:Int} {r:BH}:∀{l:List BH} {fr:Int},r∈l→r.thn=i→I5.getD r.fst.toNat 0<Ec l I5 i fr
 |[],_,h,_=>by cases h
 |x::l,fr,h,h2=>by
  unfold Ec
  rw [List.foldl_cons]
  rcases List.mem_cons.1 h with rfl|h
  ·
   have h3:= @Qe I5 i l (if r.thn=i then max fr (I5.getD r.fst.toNat 0+1) else fr)
   unfold Ec at h3
   rw [if_pos h2] at h3 ⊢
   omega
  · exact Qf h h2
abbrev Qg (t:List Int) (i:Int):Int:=t.getD i.toNat 0
open Classical in
noncomputable def KI (c:Aq) (l:List BH) (t:List Int) (fr:Int) (st:Option (List Int×List Int×List Int)) (i:Int):Option (List Int×List Int×List Int):=
 match st with
 |none=>none
 |some (I5,busy,days)=>match c.early busy days (Qg t i) (Ec l I5 i fr) with
  |none=>none
  |some d=>some (I5.set i.toNat d,busy++[Qg t i],days++[d])
noncomputable def LS (c:Aq) (l:List BH) (t:List Int) (fr:Int) (n:Nat) (row:List Int):Option (List Int×List Int×List Int):=row.foldl (KI c l t fr) (some (List.replicate n 0,[],[]))
theorem SD {c:Aq} {l:List BH} {t:List Int} {fr:Int}:∀(row:List Int),row.foldl (KI c l t fr) none=none
 |[]=>rfl
 |_::row=>SD row
theorem NI {c:Aq} {l:List BH} {t:List Int} {fr:Int} {n k:Nat} {row:List Int} {i:Int} (h:row[k]? =some i):LS c l t fr n (row.take (k+1))=KI c l t fr (LS c l t fr n (row.take k)) i:=by
 unfold LS
 rw [List.take_add_one,h,List.foldl_append];rfl
theorem Mk {c:Aq} {l:List BH} {t:List Int} {fr:Int} {n k:Nat} {row:List Int} {i:Int} {d b y:List Int} (h:row[k]? =some i) (hs:LS c l t fr n (row.take k)=some (d,b,y)) (he:c.early b y (Qg t i) (Ec l d i fr)=none):LS c l t fr n row=none:=by
 have h1:LS c l t fr n (row.take (k+1))=none:=by rw [NI h,hs];simp only [KI,he]
 unfold LS at h1 ⊢
 rw [←List.take_append_drop (k+1) row,List.foldl_append,h1]
 exact SD _
theorem aG {c:Aq} {l:List BH} {t:List Int} {fr:Int} {n k:Nat} {row:List Int} {i x:Int} {d b y:List Int} (h:row[k]? =some i) (hs:LS c l t fr n (row.take k)=some (d,b,y)) (he:c.early b y (Qg t i) (Ec l d i fr)=some x):LS c l t fr n (row.take (k+1))=some (d.set i.toNat x,b++[Qg t i],y++[x]):=by
 rw [NI h,hs];simp only [KI,he]
structure OH (c:Aq) (l:List BH) (t row:List Int) (fr:Int) (n k:Nat) (I5 busy days:List Int):Prop where
 len:I5.length=n
 hb:busy=(row.take k).map (Qg t)
 hd:days=(row.take k).map fun i=>I5.getD i.toNat 0
 bnd:∀x∈I5,0≤x∧x≤40000
 ge:∀i∈row.take k,fr≤I5.getD i.toNat 0
 ord:∀r∈l,r.thn∈row.take k→I5.getD r.fst.toNat 0<I5.getD r.thn.toNat 0
 fit:c.Bx busy days []=0
theorem F4 {l:List Int} {i j d:Int} (hi:0≤i) (hj:0≤j) (h:i.toNat<l.length):(l.set i.toNat d).getD j.toNat 0=if j=i then d else l.getD j.toNat 0:=by
 rw [List.getD_eq_getElem?_getD,List.getElem?_set]
 by_cases e:j=i
 · subst e;rw [if_pos rfl,if_pos h,if_pos rfl];rfl
 · rw [if_neg AA,if_neg e,List.getD_eq_getElem?_getD]
theorem X0 {l:List Int} {k:Nat} {i:Int} (hn:l.Nodup) (h:l[k]? =some i):i∉l.take k:=by
 intro hm
 obtain ⟨j,hj⟩:=List.mem_iff_getElem?.1 hm
 rw [List.getElem?_take] at hj
 split at hj
 next hjk=>
  have:=(List.getElem?_inj WY hn).1 (hj.trans h.symm)
  omega
 next=>cases hj
theorem OH.next {c:Aq} {l:List BH} {t row done:List Int} {fr d i:Int} {n k:Nat} {I5 busy days:List Int} (h:OH c l t row fr n k I5 busy days) (hr:NG (n:Int) l row done) (hk:row[k]? =some i) (hl:∀r∈l,0≤r.fst∧0≤r.thn∧r.fst≠r.thn) (hn:n≤24) (ht:c.has (Qg t i)=true)
  (he:c.early busy days (Qg t i) (Ec l I5 i fr)=some d):OH c l t row fr n (k+1) (I5.set i.toNat d) (busy++[Qg t i]) (days++[d]):=by
 have hi:=hr.Xw i (List.mem_of_getElem? hk)
 have hni:=X0 hr.nd hk
 have hlen:i.toNat<I5.length:=by rw [h.len];omega
 have WB:k<row.length:=by rcases Nat.lt_or_ge k row.length with h2|h2;exact h2;rw [List.getElem?_eq_none h2] at hk;cases hk
 have hrl:=hr.len
 have Us:busy.length<24:=by rw [h.hb,List.length_map,List.length_take];omega
 obtain ⟨e1,e2,e3⟩:=Xy h.fit ht Us he
 have hf:= @Qe I5 i l fr
 have mS:row.take (k+1)=row.take k++[i]:=by rw [List.take_add_one,hk];rfl
 have eS:∀j∈row.take k,0≤j∧j≠i:=fun j hj=>⟨(hr.Xw j (List.mem_of_mem_take hj)).1,fun e=>hni (e ▸ hj)⟩
 refine ⟨by rw [List.length_set];exact h.len,by rw [mS,List.map_append,←h.hb];rfl,?_,fun x hx=> ?_,fun j hj=> ?_,fun r hrm hm=> ?_,e3⟩
 ·
  rw [mS,List.map_append,h.hd]
  have h1:∀j∈row.take k,I5.getD j.toNat 0=(I5.set i.toNat d).getD j.toNat 0:=fun j hj=>by
   rw [F4 hi.1 (eS j hj).1 hlen,if_neg (eS j hj).2]
  rw [List.map_congr_left h1]
  congr 1
  show [d]=[(I5.set i.toNat d).getD i.toNat 0]
  rw [F4 hi.1 hi.1 hlen,if_pos rfl]
 ·
  rcases List.mem_or_eq_of_mem_set hx with hx|hx
  · exact h.bnd x hx
  · subst hx;exact e2
 ·
  rw [mS,List.mem_append,List.mem_singleton] at hj
  rcases hj with hj|rfl
  · rw [F4 hi.1 (eS j hj).1 hlen,if_neg (eS j hj).2];exact h.ge j hj
  · rw [F4 hi.1 hi.1 hlen,if_pos rfl];omega
 ·
  rw [mS,List.mem_append,List.mem_singleton] at hm
  have hq:=hl r hrm
  rcases hm with hm|hm
  ·
   have h3:r.fst∈row.take k:=by
    obtain ⟨j,hj⟩:=List.mem_iff_getElem?.1 hm
    rw [List.getElem?_take] at hj
    split at hj
    next hjk=>
     have h4:=hr.vV j _ hj r hrm rfl
     exact (List.take_subset_take_left row AA) h4
    next=>cases hj
   rw [F4 hi.1 hq.1 hlen,if_neg (eS _ h3).2,F4 hi.1 hq.2.1 hlen,if_neg (eS _ hm).2]
   exact h.ord r hrm hm
  ·
   have h3:=hr.vV k i hk r hrm hm
   rw [F4 hi.1 hq.1 hlen,if_neg (eS _ h3).2,F4 hi.1 hq.2.1 hlen,if_pos hm]
   have:=Qf (I5:=I5) (i:=i) (fr:=fr) hrm hm
   omega
theorem OH.nil {c:Aq} {l:List BH} {t row:List Int} {fr:Int} {n:Nat} (ho:c.own=0):OH c l t row fr n 0 (List.replicate n 0) [] []:=
 ⟨List.length_replicate,rfl,rfl,fun x hx=>by rw [List.eq_of_mem_replicate hx];omega,fun i h=>by simp at h,fun r _ h=>by simp at h,kI ho⟩
theorem OH.run {c:Aq} {l:List BH} {t row done:List Int} {fr:Int} {n:Nat} (hr:NG (n:Int) l row done) (hl:∀r∈l,0≤r.fst∧0≤r.thn∧r.fst≠r.thn) (hn:n≤24) (ho:c.own=0) (ht:∀i:Int,0≤i→i<(n:Int)→c.has (Qg t i)=true):∀(k:Nat) {d b y:List Int},k≤row.length→LS c l t fr n (row.take k)=some (d,b,y)→OH c l t row fr n k d b y
 |0,d,b,y,_,h=>by
  have h:some (List.replicate n 0,([]:List Int),([]:List Int))=some (d,b,y):=h
  cases h
  exact OH.nil ho
 |k+1,d,b,y,hk,h=>by
  obtain ⟨i,hi⟩:=at_ (l:=row) (k:=k) AA
  have eS:=hr.Xw i (List.mem_of_getElem? hi)
  rw [NI hi] at h
  cases hs:LS c l t fr n (row.take k) with
  |none=>rw [hs] at h;cases h
  |some p=>
   obtain ⟨d1,b1,y1⟩:=p
   have ih:=OH.run hr hl hn ho ht k AA hs
   rw [hs] at h
   simp only [KI] at h
   cases he:c.early b1 y1 (Qg t i) (Ec l d1 i fr) with
   |none=>rw [he] at h;cases h
   |some x=>
    rw [he] at h
    cases h
    exact ih.next hr hi hl hn (ht i eS.1 eS.2) he
theorem NG.all {n:Nat} {l:List BH} {row done:List Int} (hr:NG (n:Int) l row done) (hlen:row.length=n):row.Perm ((List.range n).map fun i:Nat=>(i:Int)):=by
 have hnd:((List.range n).map fun i:Nat=>(i:Int)).Nodup:=by
  refine List.Pairwise.map _ (fun a b hab=> ?_) (List.nodup_range (n:=n))
  intro e;apply hab;omega
 have hsub:∀x∈row,x∈(List.range n).map fun i:Nat=>(i:Int):=fun x hx=>by
  have:=hr.Xw x hx
  exact List.mem_map.2 ⟨x.toNat,List.mem_range.2 AA,by omega⟩
 refine (List.perm_ext_iff_of_nodup hr.nd hnd).2 fun a=>⟨hsub a,fun ha=> ?_⟩
 refine Classical.byContradiction fun hna=> ?_
 have h1:=KH (L:=a::row) (M:=(List.range n).map fun i:Nat=>(i:Int)) (List.nodup_cons.2 ⟨hna,hr.nd⟩) (fun x hx=>by
  rcases List.mem_cons.1 hx with rfl|hx
  · exact ha
  · exact hsub x hx)
 simp at h1;omega
theorem Jx {l:List Int} {n:Nat} (h:l.length=n):((List.range n).map fun i:Nat=>(i:Int)).map (fun i=>l.getD i.toNat 0)=l:=by
 rw [List.map_map]
 apply List.ext_getElem?
 intro k
 rw [List.getElem?_map]
 rcases Nat.lt_or_ge k n with hk|hk
 ·
  rw [List.getElem?_range hk]
  show some (l.getD ((k:Int)).toNat 0)=_
  rw [Int.toNat_natCast,List.getD_eq_getElem?_getD,List.getElem?_eq_getElem AA];rfl
 · rw [List.getElem?_eq_none OS,List.getElem?_eq_none AA];rfl
structure sZ (c:Aq) (l:List BH) (t I5:List Int) (fr:Int) (n:Nat):Prop where
 len:I5.length=n
 bnd:∀x∈I5,0≤x∧x≤40000
 ge:∀x∈I5,fr≤x
 ord:∀r∈l,I5.getD r.fst.toNat 0<I5.getD r.thn.toNat 0
 fit:c.Bx t I5 []=0
theorem vX {c:Aq} {l:List BH} {t:List Int} {fr:Int} {n:Nat} {d b y:List Int} (hv:Am n l=0) (ho:c.own=0) (hlt:t.length=n) (ht:∀x∈t,c.has x=true) (h:LS c l t fr n (Bj n l n).1=some (d,b,y)):sZ c l t d fr n:=by
 obtain ⟨h0,h1,_,_⟩:=CV hv
 have hrow:=Eb hv n AO
 rw [Int.toNat_natCast] at hrow
 obtain ⟨hr,hrl⟩:=hrow
 have hl:∀r∈l,(0≤r.fst∧r.fst<n)∧(0≤r.thn∧r.thn<n)∧r.fst≠r.thn:=fun r hm=>by
  have:=h1 r hm;unfold Eg at this;rw [decide_eq_false_iff_not] at this;omega
 have hS := OH.run (k := (Bj n l n).1.length) (fr := fr) hr (fun r hm => by have := hl r hm; omega) AA ho (fun i hi hin => ht _ (by
  have h3:i.toNat<t.length:=by omega
  unfold Qg;rw [List.getD_eq_getElem?_getD,List.getElem?_eq_getElem h3];exact List.getElem_mem _)) (Nat.le_refl _) (by rw [List.take_length];exact h)
 rw [hrl] at hS
 have mS:(Bj n l n).1.take n=(Bj n l n).1:=List.take_of_length_le AA
 have hp:=hr.all hrl
 have hall:∀i:Int,0≤i→i<n→i∈(Bj n l n).1.take n:=fun i hi hin=>by
  rw [mS,hp.mem_iff];exact List.mem_map.2 ⟨i.toNat,List.mem_range.2 AA,by omega⟩
 refine ⟨hS.len,hS.bnd,fun x hx=> ?_,fun r hm=>hS.ord r hm (hall _ (hl r hm).2.1.1 (hl r hm).2.1.2),?_⟩
 ·
  obtain ⟨j,hj⟩:=List.mem_iff_getElem?.1 hx
  have hjl:j<d.length:=by rcases Nat.lt_or_ge j d.length with h2|h2;exact h2;rw [List.getElem?_eq_none h2] at hj;cases hj
  have:=hS.ge (j:Int) (hall _ AA Ln)
  rw [Int.toNat_natCast,List.getD_eq_getElem?_getD,hj] at this
  exact this
 ·
  have hz:=hS.fit
  rw [hS.hb,hS.hd,mS] at hz
  refine Xz hz (by rw [hlt,hS.len]) ?_
  rw [List.zip_map']
  refine (hp.map _).trans ?_
  rw [←List.zip_map',Jx hlt,Jx hS.len]
-- sets of bits, ACC
def GF (b:BitVec 32):Nat:=((List.range 32).find? fun i=>b.getLsbD i).getD 32
def Lb (b:BitVec 32):List Nat:=(List.range 32).filter fun i=>b.getLsbD i
def dB (b:BitVec 32) (i:Nat):BitVec 32:=b&&&~~~(1#32<<<i)
def US (b:BitVec 32) (i:Nat):BitVec 32:=b|||(1#32<<<i)
theorem X5 (i j:Nat):(1#32<<<i).getLsbD j=(decide (i=j)&&decide (j<32)):=by
 rw [BitVec.getLsbD_shiftLeft]
 by_cases h1:j<32
 ·
  by_cases h2:i=j
  · subst h2;simp [h1]
  ·
   by_cases h3:j<i
   · simp [h3,h2]
   ·
    have:(1#32).getLsbD (j-i)=false:=by
     rw [BitVec.getLsbD_ofNat]
     have:(1:Nat).testBit (j-i)=false:=by
      obtain ⟨k,hk⟩:∃k,j-i=k+1:=⟨j-i-1,by omega⟩
      rw [hk,Nat.testBit_succ];simp
     rw [this];simp
    rw [this];simp [h2]
 · simp [h1]
theorem T4 {b:BitVec 32} {i j:Nat} (hi:i<32):(US b i).getLsbD j=(b.getLsbD j||decide (i=j)):=by
 unfold US
 rw [BitVec.getLsbD_or,X5]
 by_cases h:i=j
 · subst h;simp [hi]
 · simp [h]
theorem qa {b:BitVec 32} {i j:Nat}:(dB b i).getLsbD j=(b.getLsbD j&& !decide (i=j)):=by
 unfold dB
 rw [BitVec.getLsbD_and,BitVec.getLsbD_not,X5]
 by_cases hj:j<32
 · simp [hj]
 ·
  have:b.getLsbD j=false:=BitVec.getLsbD_of_ge b j AA
  rw [this];simp
theorem Vk {α:Type} [DecidableEq α] {p:α→Bool} {x:α}:∀{l:List α},l.Nodup→l.find? p=some x→l.filter p=x::l.filter (fun y=>p y&& !(decide (x=y):Bool)):=by
 intro l
 induction l with
 |nil=>intro _ h;cases h
 |cons a l ih=>
  intro hn h
  obtain ⟨ha,hn⟩:=List.nodup_cons.1 hn
  rw [List.find?_cons] at h
  cases hp:p a with
  |true=>
   rw [hp] at h
   simp at h
   subst h
   rw [List.filter_cons,hp,List.filter_cons]
   simp [hp]
   exact List.filter_congr fun y hy=>by
    have:¬a=y:=fun e=>ha (e ▸ hy)
    simp [this]
  |false=>
   rw [hp] at h
   simp at h
   rw [List.filter_cons,hp,List.filter_cons,hp]
   simp
   exact ih hn DM
theorem aH {b:BitVec 32} (h:∀i,i<32→b.getLsbD i=false):b=0#32:=BitVec.eq_of_getLsbD_eq fun i hi=>by rw [h i hi];simp
theorem Vl:Lb 0#32=[]:=by decide
theorem Qh {b:BitVec 32} (h:b≠0#32):(List.range 32).find? (fun i=>b.getLsbD i)=some (GF b):=by
 unfold GF
 cases hf:(List.range 32).find? (fun i=>b.getLsbD i) with
 |some x=>rfl
 |none=>
  rw [List.find?_eq_none] at hf
  exact absurd (aH fun i hi=>by simpa using hf i (List.mem_range.2 hi)) h
theorem X6 {b:BitVec 32} (h:b≠0#32):b.getLsbD (GF b)=true:=by simpa using List.find?_some (Qh h)
theorem X7 {b:BitVec 32} (h:b≠0#32):GF b<32:=List.mem_range.1 (List.mem_of_find?_eq_some (Qh h))
theorem MS {b:BitVec 32} (h:b≠0#32):Lb b=GF b::Lb (dB b (GF b)):=by
 unfold Lb
 rw [Vk List.nodup_range (Qh h)]
 congr 1
 exact List.filter_congr fun y _=>by rw [qa]
theorem KJ {b:BitVec 32} {i:Nat}:i∈Lb b↔b.getLsbD i=true:=by
 unfold Lb
 rw [List.mem_filter,List.mem_range]
 constructor
 · exact fun h=>h.2
 ·
  intro h
  refine ⟨?_,h⟩
  rcases Nat.lt_or_ge i 32 with h2|h2
  · exact h2
  · rw [BitVec.getLsbD_of_ge b i h2] at h;cases h
theorem aI {b:BitVec 32} {i:Nat} (h:b.getLsbD i=true):GF b≤i:=by
 have hb:b≠0#32:=fun e=>by rw [e] at h;simp at h
 have h1:i∈Lb b:=KJ.2 h
 rw [MS hb] at h1
 rcases List.mem_cons.1 h1 with h2|h2
 · omega
 ·
  have h3:(Lb b).Pairwise (· < ·):=List.Pairwise.filter _ List.pairwise_lt_range
  rw [MS hb] at h3
  exact Nat.le_of_lt ((List.pairwise_cons.1 h3).1 i h2)
theorem dD {b:BitVec 32} (h:b≠0#32):b&&&(-b)=1#32<<<(GF b):=by
 apply BitVec.eq_of_getLsbD_eq
 intro i hi
 rw [BitVec.getLsbD_and,BitVec.getLsbD_neg,X5]
 by_cases h1:GF b=i
 ·
  subst h1
  have:¬∃j,j<GF b∧b.getLsbD j=true:=fun ⟨j,hj,hb⟩=>by have:=aI hb;omega
  simp [hi,X6 h,this]
 ·
  by_cases h2:GF b<i
  ·
   have:∃j,j<i∧b.getLsbD j=true:=⟨_,h2,X6 h⟩
   simp [this,h1,hi]
  ·
   have:b.getLsbD i=false:=by
    cases hb:b.getLsbD i with
    |false=>rfl
    |true=>have:=aI hb;omega
   simp [this,h1]
def Vm:List Nat:=[0,1,28,2,29,14,24,3,30,22,20,15,25,17,4,8,31,27,13,23,21,19,16,7,26,12,18,6,11,5,10,9]
theorem qb:∀i,i<32→Vm[(((1#32<<<i)*125613361#32)>>>27).toNat]? =some i:=by decide
-- rows of bits as a relation (to stand behind Rq.lean and Bit.lean)
def Ed (n:Nat) (B:List (BitVec 32)) (M:Nat→Nat→Bool):Prop:=B.length=n∧∀b x,B[b]? =some x→∀a,x.getLsbD a=(decide (a<n)&&M a b)
theorem MT {n:Nat} {B:List (BitVec 32)} {M N:Nat→Nat→Bool} (h:Ed n B M) (k:∀a b,a<n→b<n→M a b=N a b):Ed n B N:=by
 refine ⟨h.1,fun b x hx a=> ?_⟩
 rw [h.2 b x hx a]
 have hb:b<n:=by rw [←h.1];rcases Nat.lt_or_ge b B.length with h2|h2;exact h2;rw [List.getElem?_eq_none h2] at hx;cases hx
 by_cases ha:a<n
 · rw [k a b ha hb]
 · simp [ha]
theorem X8 (n:Nat):Ed n (List.replicate n 0#32) (fun _ _=>false):=by
 refine ⟨List.length_replicate,fun b x hx a=> ?_⟩
 have:=List.eq_of_mem_replicate (List.mem_of_getElem? hx)
 subst this;simp
theorem SE {n:Nat} {B:List (BitVec 32)} {M N:Nat→Nat→Bool} (h:Ed n B M) {t:Nat} {y:BitVec 32} (ho:∀a b,b≠t→N a b=M a b) (hy:∀a,y.getLsbD a=(decide (a<n)&&N a t)):Ed n (B.set t y) N:=by
 refine ⟨by rw [List.length_set];exact h.1,fun b x hx a=> ?_⟩
 rw [List.getElem?_set] at hx
 split at hx
 ·
  rename_i e;subst e
  split at hx
  · cases hx;exact hy a
  · cases hx
 ·
  rename_i e
  rw [h.2 b x hx a,ho a b (fun e2=>e e2.symm)]
theorem kU {n:Nat} {B:List (BitVec 32)} {M:Nat→Nat→Bool} (h:Ed n B M) {t f:Nat} {x:BitVec 32} (hx:B[t]? =some x) (hf:f<n) (hn:n≤32):Ed n (B.set t (US x f)) (fun a b=>M a b||(decide (f=a)&&decide (t=b))):=by
 refine SE h (fun a b hb=> ?_) (fun a=> ?_)
 · simp [show ¬t=b from fun e=>hb e.symm]
 ·
  rw [T4 AA,h.2 t x hx a]
  by_cases ha:a<n
  · simp [ha]
  ·
   have:¬f=a:=by omega
   simp [ha,this]
def KY (k:Nat) (m:Nat→Nat→Bool) (i a b:Nat):Bool:=if b<i then Jw k m a b else m a b
theorem vY (k:Nat) (m:Nat→Nat→Bool):KY k m 0=m:=by funext a b;unfold KY;rw [if_neg AA]
theorem kV {n k:Nat} {m:Nat→Nat→Bool} {a b:Nat} (hb:b<n):KY k m n a b=Jw k m a b:=by unfold KY;rw [if_pos hb]
theorem kW (k:Nat) (m:Nat→Nat→Bool) (i a:Nat):KY k m i a k=m a k:=by unfold KY;split;exact Ve k m a;rfl
theorem Vn {n k i:Nat} {m:Nat→Nat→Bool} {B:List (BitVec 32)} {x:BitVec 32} (h:Ed n B (KY k m i)) (hx:B[i]? =some x) (hk:k<n):x.getLsbD k=m k i:=by
 rw [h.2 i x hx k];unfold KY;rw [if_neg AA];simp [hk]
theorem kX {n k i:Nat} {m:Nat→Nat→Bool} {B:List (BitVec 32)} {x y:BitVec 32} (h:Ed n B (KY k m i)) (hx:B[i]? =some x) (hy:B[k]? =some y) (hm:m k i=true):Ed n (B.set i (x|||y)) (KY k m (i+1)):=by
 refine SE h (fun a b hb=> ?_) (fun a=> ?_)
 ·
  unfold KY
  by_cases h1:b<i
  · rw [if_pos h1,if_pos AA]
  · rw [if_neg h1,if_neg AA]
 ·
  rw [BitVec.getLsbD_or,h.2 i x hx a,h.2 k y hy a,kW]
  unfold KY
  rw [if_neg AA,if_pos AA]
  unfold Jw
  rw [hm]
  cases decide (a<n)<;>simp
theorem qc {n k i:Nat} {m:Nat→Nat→Bool} {B:List (BitVec 32)} (h:Ed n B (KY k m i)) (hm:m k i=false):Ed n B (KY k m (i+1)):=by
 refine MT h fun a b _ _=> ?_
 unfold KY
 by_cases h1:b<i
 · rw [if_pos h1,if_pos AA]
 ·
  by_cases h2:b=i
  · subst h2;rw [if_neg h1,if_pos AA];unfold Jw;rw [hm];simp
  · rw [if_neg h1,if_neg AA]
structure ADz (n:Nat) (l:List BH) (B A:List (BitVec 32)):Prop where
 bef:Ed n B (Cu l n)
 aft:Ed n A (fun b a=>Cu l n a b)
theorem F5 {l:List BH} {s:List Int} (h:CH l s=true):∀(k:Nat) {a b:Nat},Cu l k a b=true→(b:Int)∈s→(a:Int)∈s
 |0,a,b,hw,hb=>by
  unfold Cu F2 at hw
  rw [List.any_eq_true] at hw
  obtain ⟨r,hr,h2⟩:=hw
  simp at h2
  have:=Cf.1 h r hr (by rw [h2.2];exact hb)
  rw [h2.1] at this;exact this
 |k+1,a,b,hw,hb=>by
  have hw:Jw k (Cu l k) a b=true:=hw
  unfold Jw at hw
  rw [Bool.or_eq_true,Bool.and_eq_true] at hw
  rcases hw with hw|⟨h1,h2⟩
  · exact F5 h k hw hb
  · exact F5 h k h1 (F5 h k h2 hb)
def H8 (n:Nat) (s:BitVec 32) (d:List Int):Prop:=∀i:Nat,s.getLsbD i=true↔(i:Int)∈d
theorem Qi {x s:BitVec 32}:(x&&&~~~s=0#32)↔∀i,x.getLsbD i=true→s.getLsbD i=true:=by
 constructor
 ·
  intro h i hi
  have h2:=congrArg (fun y=>BitVec.getLsbD y i) h
  have hlt:i<32:=by rcases Nat.lt_or_ge i 32 with h3|h3;exact h3;rw [BitVec.getLsbD_of_ge x i h3] at hi;cases hi
  simp [hi,hlt] at h2
  exact h2
 ·
  intro h
  refine aH fun i hi=> ?_
  rw [BitVec.getLsbD_and,BitVec.getLsbD_not]
  cases hx:x.getLsbD i with
  |false=>simp
  |true=>rw [h i hx];simp
theorem qd {n:Int} {l:List BH} {B:List (BitVec 32)} {s x:BitVec 32} {d:List Int} {i:Nat} (hv:Am n l=0) (hB:Ed n.toNat B (Cu l n.toNat)) (hs:H8 n.toNat s d) (hc:CH l d=true) (hx:B[i]? =some x) (hi:i<n.toNat):
  KW l d true i=(!s.getLsbD i&&(x&&&~~~s==0#32)):=by
 obtain ⟨h0,h1,h2,h3⟩:=CV hv
 rw [Bool.eq_iff_iff]
 unfold KW
 have e1:(JD d (i:Int) !=true)= !s.getLsbD i:=by
  cases hg:s.getLsbD i with
  |true=>have:=(hs i).1 hg;rw [D6.2 this];rfl
  |false=>
   have:¬(i:Int)∈d:=fun e=>by have:=(hs i).2 e;rw [hg] at this;cases this
   have h4:JD d (i:Int)=false:=by cases h5:JD d (i:Int) with|false=>rfl|true=>exact absurd (D6.1 h5) this
   rw [h4];rfl
 rw [e1,Bool.and_eq_true,Bool.and_eq_true,beq_iff_eq,Qi]
 refine and_congr_right fun hni=> ?_
 constructor
 ·
  intro fY a ha
  rw [hB.2 i x hx a,Bool.and_eq_true,decide_eq_true_eq] at ha
  have:=F5 fY _ ha.2 (C9.2 (.inl rfl))
  rcases C9.1 this with h5|h5
  ·
   have h6:a=i:=by omega
   subst h6
   rw [h3 a hi] at ha;cases ha.2
  · exact (hs a).2 h5
 ·
  intro h
  rw [Cf]
  intro r hr hm
  rcases C9.1 hm with h5|h5
  ·
   have hb:=h1 r hr
   unfold Eg at hb
   rw [decide_eq_false_iff_not] at hb
   refine C9.2 (.inr ?_)
   have h6:=(hs r.fst.toNat).1 (h r.fst.toNat (by
    rw [hB.2 i x hx,Bool.and_eq_true,decide_eq_true_eq]
    refine ⟨by omega,KG ?_ _⟩
    unfold F2
    rw [List.any_eq_true]
    exact ⟨r,hr,by simp;omega⟩))
   rw [Int.toNat_of_nonneg AA] at h6
   exact h6
  · exact C9.2 (.inr (Cf.1 hc r hr h5))
-- AEg, list, by bits (behind ADz.lean)
theorem aJ (n:Nat):∀m,(List.range m).filter (fun j=>decide (j<n))=List.range (min n m)
 |0=>by simp
 |m+1=>by
  rw [List.range_succ,List.filter_append,aJ n m]
  by_cases h:m<n
  ·
   rw [Nat.min_eq_right AA,Nat.min_eq_right AA,List.range_succ]
   simp [h]
  ·
   rw [Nat.min_eq_left AA,Nat.min_eq_left AA]
   simp [h]
theorem vZ {x:BitVec 32} {n:Nat} {p:Nat→Bool} (h:∀j,x.getLsbD j=(decide (j<n)&&p j)) (hn:n≤32):Lb x=(List.range n).filter p:=by
 unfold Lb
 rw [List.filter_congr (q:=fun j=>decide (j<n)&&p j) (fun j _=>h j)]
 rw [show (fun j=>decide (j<n)&&p j)=fun j=>p j&&decide (j<n) from by funext j;rw [Bool.and_comm]]
 rw [←List.filter_filter,aJ,Nat.min_eq_left hn]
theorem X9 (n:Nat):H8 n 0#32 []:=fun i=>by simp
theorem kY {n:Nat} {s:BitVec 32} {d:List Int} {i:Nat} (h:H8 n s d) (hi:i<32):H8 n (US s i) (EF d (i:Int) true):=fun j=>by
 rw [T4 hi,C9,Bool.or_eq_true,decide_eq_true_eq,h j]
 constructor
 ·
  rintro (h1|h1)
  · exact .inr h1
  · exact .inl AA
 ·
  rintro (h1|h1)
  · exact .inr AA
  · exact .inl h1
theorem kZ {n:Int} {l:List BH} {d:List Int} {out:BitVec 32} (h:∀j,out.getLsbD j=(decide (j<n.toNat)&&KW l d true j)) (hn:n.toNat≤32):EM n.toNat l d true=(Lb out).map fun i:Nat=>(i:Int):=by
 unfold EM;rw [vZ h hn]
theorem X_ {n:Int} {l:List BH} {k:Nat} {out:BitVec 32} (hv:Am n l=0) (hk:k<n.toNat) (h:∀j,out.getLsbD j=(decide (j<n.toNat)&&KW l (Bj n.toNat l k).2 true j)):
  out≠0#32∧GF out<n.toNat∧Bj n.toNat l (k+1)=((Bj n.toNat l k).1++[((GF out:Nat):Int)],EF (Bj n.toNat l k).2 ((GF out:Nat):Int) true):=by
 obtain ⟨h0,h1,h2,h3⟩:=CV hv
 obtain ⟨x,hx,hf⟩:=N3 hv hk
 rw [kZ h AA] at hx
 have hne:out≠0#32:=fun e=>by rw [e,Vl] at hx;simp at hx
 rw [MS hne] at hx
 simp at hx
 have hl:=X6 hne
 rw [h,Bool.and_eq_true,decide_eq_true_eq] at hl
 exact ⟨hne,hl.1,by rw [hf,hx]⟩
theorem qg (b:BitVec 32):(Lb b).length≤32:=by unfold Lb;exact Nat.le_trans (List.length_filter_le _ _) AO
abbrev DI:An:=Xj 0 Vm
theorem Tc {b:BitVec 32} (h:b≠0#32):Vm[(((((b&&& -b)*125613361#32)>>>27).toNat:Nat):Int).toNat]? =some (GF b):=by
 rw [Int.toNat_natCast,dD h];exact qb _ (X7 h)
theorem qh (b:BitVec 32):(((b>>>27).toNat:Nat):Int)<32:=by
 rw [BitVec.toNat_ushiftRight,Nat.shiftRight_eq_div_pow];have:=b.isLt;omega
theorem kf {b:BitVec 32} (hb:b≠0#32):BR prog 152 [u32 b] (int ((GF b:Nat):Int)) (DI) (fun _=>DI):=by
 refine BR.of func152 rfl rfl Al fun M0 w0 S rs M1 w1=> ?_
 have Q0:=X7 hb
 refine Tr.seq (Tr.Ah (cm rfl (Ch.nil (Fin.go (Tr.seq (Tr.seq (Tr.Ah (cm rfl (co rfl (jj rfl (vl rfl) (vl rfl)) (Ch.nil (Fin.go ?_)))))))))))
 refine Tr.cn rfl ?_ ?_<;>intro h1 q1
 exfalso;exact hb GS
 refine Tr.skip (Fin.go (Tr.seq (Tr.Ah (cm rfl (cm rfl (co rfl (jl rfl (vl rfl)) (co rfl (VS rfl (vl rfl) (vl rfl)) ?_)))))))
 refine co rfl (jm (c:=125613361#32) rfl (vl rfl) (vl rfl)) ?_
 refine co rfl (qJ rfl (vl rfl) (vl rfl) AB) (co rfl (Xk rfl underlying255 LY (vl rfl) (vl rfl) (Int.natCast_nonneg _) (qh _)) (co rfl (CY 0 rfl (vE rfl rfl (vl rfl) (Tc hb))) ?_))
 refine co rfl (ff rfl underlying5 underlying3 (vl rfl) Lp) ?_
 refine cm rfl (Ch.nil (Fin.go (Tr.ret (Fin.E7 rfl rfl ?_ (fun _ _ _ _=>rfl)))))
 · exact Lr
theorem T5 {b:BitVec 32} {i:Nat}  :BD prog 184 [u32 b,int ((i:Nat):Int)] (bool (b.getLsbD i)):=by
 refine fo func184 rfl ⟨rfl,rfl⟩ fun M0 w0=> ?_
 refine a2 ?_
 refine co rfl (ji rfl vq vq (Int.natCast_nonneg _)) ?_
 refine co rfl (VS (c:=1#32) rfl vq vq) ?_
 refine co rfl (vF rfl vq vq) ?_
 refine a2 ?_
 · exact Lr
abbrev Q3:TypeId:=181
abbrev kg (b:Nat):Value:= .func (.func 222) #[] #[.pointer (some ⟨b,0,none⟩)]
def AD0 (s:BitVec 32) (v:Value):An:=match v with| .func _ _ #[.pointer (some a)]=>AE true a.block Q3 [u32 s]|_=>Bb
def Ir (s:BitVec 32) (pre:List Nat):BitVec 32:=pre.foldl dB s
theorem NJ (s:BitVec 32) (pre:List Nat) (x:Nat):Ir s (pre++[x])=dB (Ir s pre) x:=by unfold Ir;rw [List.foldl_append];rfl
theorem vc {s:BitVec 32}  :E2 (α:=Nat) prog 181 [u32 s] [] (fun _=>True) (fun b=>is (kg b)) (fun b=>[AE true b Q3 [u32 s]]):=by
 refine E2.of func181 rfl rfl Al fun M0 w0 S rs M1 w1=>(Tr.seq (Tr.A0 ?_))
 refine TO.S6 rfl rfl AB rfl DK (fun b1=> ?_)
 refine ap ?_
 refine Tr.seq (Tr.Ah (co rfl (qK rfl vq) ?_))
 refine ac ?_
 refine Tr.ret (Fin.Rl (b1) rfl (A7.tmp rfl Lr) trivial ?_ (List.Perm.refl _))
 · exact Lr
theorem kj {s:BitVec 32}:BR Tryz.prog 181 [u32 s] (Cp.ex fun b=>is (kg b)) Bb (AD0 s):=BR.vL vc
theorem T6 {s:BitVec 32} {b:Nat}  :MJ prog 222 #[.pointer (some ⟨b,0,none⟩)] (fun i:Nat=> .int .i64 (i:Int)) (Lb s) (fun pre=>[DI,AE true b Q3 [u32 (Ir s pre)]]):=by
 refine MJ.of (ps:=[is (.pointer (some ⟨b,0,none⟩))]) func222 rfl Al (fun _ _=>⟨rfl,trivial⟩) ?_
 intro M0 w0 S l β R Rx M1 w1 hy d
 refine Tr.block (Tr.DU [(0,_),(1,_)] ⟨ke rfl,ke rfl,trivial⟩ (fun (pre:List Nat) (d2:β)=>[]) (fun (pre:List Nat) (d2:β)=>Hp M0 w0 S (DI::AE true b Q3 [u32 (Ir s pre)]::Ak M1 w1::R pre d2)) (fun (pre:List Nat) (d2:β)=>pre++Lb (Ir s pre)=Lb s) (fun (pre:List Nat) (d2:β)=>(Lb (Ir s pre)).length) ([]) (d)  (rfl) trivial (fun _ _ h=>h) ?_)
 rintro pre d2  hpe
 refine Tr.seq (Tr.seq (Tr.Ah (co rfl (CY 1 rfl (Ay rfl Fe (vl rfl) rfl)) (co rfl (jk rfl (vl rfl) (vl rfl)) (Ch.nil (Fin.go ?_))))))
 refine Tr.cn rfl ?_ ?_<;>intro h1 q1
 have hne:Ir s pre≠0#32:=by simpa using h1
 have ko:=MS hne
 have Q0:=X7 hne
 have hpx:(pre++[GF (Ir s pre)])<+:Lb s:=⟨Lb (dB (Ir s pre) (GF (Ir s pre))),by rw [←hpe,ko];simp⟩
 refine Tr.skip (Fin.go (Tr.block (Tr.seq (Tr.A0 (TO.rd 1 rfl rfl rfl AB (Ay rfl Fe (vl rfl) rfl) (TO.EV 0 rfl rfl AB (AU rfl rfl AB rfl (kf hne) ⟨ke rfl,trivial⟩) (tm rfl (TO.nil (Fin.go (Tr.seq (Tr.K3 mixed [some (0,1,false,0),none,none,none,some (0,1,true,0)] BS (HO 1 rfl rfl (Ay rfl Fe (vl rfl) rfl) (xm rfl ?_)))))))))))))
 refine xo rfl (fun _=>Hw (b:=1#32) rfl (vl rfl) (vl rfl) (Int.natCast_nonneg _)) ?_
 refine xo rfl (fun _=>Jo rfl (vl rfl) (vl rfl)) (Cx.Ee 1 rfl rfl (A9 rfl rfl (vl rfl) (Vo rfl) FW rfl Al rfl) ?_)
 refine Cx.nil ⟨rfl,?_⟩
 refine BW.done (BT.cons (BT.cons (BT.cons (BT.map _)))) (Fin.go (Tr.seq ?_))
 refine Tr.HQ 1 [u32 (Ir s (pre++[GF (Ir s pre)]))] rfl ⟨Pr.le_of_eq (by rw [NJ];rfl),trivial⟩ ?_
 refine Tr.jo (own:=fun pre=>[DI,AE true b Q3 [u32 (Ir s pre)]]) (pre:=pre) (x:=GF (Ir s pre)) (d:=d2) hy hpx rfl rfl rfl rfl rfl rfl rfl rfl rfl rfl rfl rfl Al Al Al Al AB rfl rfl rfl rfl rfl (fun d3=> ?_) (fun d3=> ?_)
 refine Fin.go (Tr.cond rfl (fun h=>nomatch h) (fun _=> ?_))
 refine Tr.skip (Fin.block ?_)
 exact Fin.DG (pre++[GF (Ir s pre)]) (d3)  (⟨by rw [NJ,List.append_assoc,←hpe,ko];rfl,by rw [NJ,ko];simp⟩) ⟨ke rfl,ke rfl,trivial⟩ (fun _ _ h=>h)
 refine Fin.go (Tr.cond rfl (fun _=> ?_) (fun h=>nomatch h))
 refine Tr.ret (Fin.Ag (Fin.AG (Fin.Ag (Fin.vK (g:=f222) (own:=fun pre=>[DI,AE true b Q3 [u32 (Ir s pre)]]) (R:=R) (Rx:=Rx) (d:=d3) rfl hpx))))
 have hz:Ir s pre=0#32:=by simpa using h1
 obtain rfl:pre=Lb s:=by rw [hz,Vl,List.append_nil] at hpe;exact hpe
 refine Tr.exit (Fin.AV (Fin.AV (Fin.Ao (Fin.AAZ (g:=f222) (own:=fun pre=>[DI,AE true b Q3 [u32 (Ir s pre)]]) (xs:=Lb s) (R:=R) (Rx:=Rx) (d:=d2) rfl))))
theorem T7:Entry Tryz.prog 222:=⟨_,Tryz.func222,rfl,rfl⟩
end Go.Proofs.YtmocaapoeefgkaaGreatDoor
