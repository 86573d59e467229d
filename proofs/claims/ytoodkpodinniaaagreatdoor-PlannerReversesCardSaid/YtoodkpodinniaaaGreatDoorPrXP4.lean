/-
  Part 4 of the texts that prove this claim, merged.
-/
import Derived.Test.YtoodkpodinniaaaGreatDoorPrXP3
set_option linter.all false
set_option maxRecDepth 40000
set_option maxHeartbeats 16000000
namespace Cp
open Go Go.RowKit Go.Great
variable {a:Act} {M:Av} {f:FuncId} {ps:List Pr} {rs:List A7} {j:Nat} {p q:Pr} {v:Value} {w:World}
section
variable {P:Program} {I:CU} {E:Env} {o:Oper}
abbrev u32 (b:BitVec 32):Pr:=is (.int .u32 (b.toNat:Int))
end
def Mt (p:Prop):A7:=⟨none,true,fun _ _=>p,fun _ _ _ _ _ _ h=>h⟩
section
variable {P:Program} {L:Lg P} {n:Fm} {E:Env} {M0:Av} {w0:World} {S:Nat→Prop} {rs:List A7} {o:Oper} {r:List Oper} {ops:Array Oper} {Q:Exit→Act→World→Prop} {c:Code}
end
section
variable {P:Program}
theorem MB.of {gf:Nat} {lb:Array Value} {α:Type} {enc:α→Value} {xs:List α} {own:List α→List A7} {g:Func} {c:Code} (hf:P.funcs[gf]? =some g) (hb:g.body=some c) (hlen:ps.length+1≤g.ntmps) (hps:∀M w,HL M w ps lb.toList) (h:∀(M0:Av) (w0:World) (S:Nat→Prop) (l:Nat) (β:Type) (R Rx:List α→β→List A7) (M1:Av) (w1:World),
   (∀pre x d M w,(pre++[x])<+:xs→BG M0 w0 S (own (pre++[x])++R pre d) M w→YieldAt (E6 none) 0 P l #[enc x] w fun e w'=>∃M' d',Ext M w M' w'∧
    ((e= .returned (.bool true)∧BG M0 w0 S (own (pre++[x])++R (pre++[x]) d') M' w')∨(e= .returned (.bool false)∧BG M0 w0 S (own (pre++[x])++Rx (pre++[x]) d') M' w')))→
   ∀ d, Tr (dc P none) g.ntmps (Jl 0 (is (.func (.yield l) #[] #[]) :: ps)) (Hp M0 w0 S (own [] ++ As M1 w1 :: R [] d)) c
    (OC P g fun e w'=>(∃v,e= .returned v)∧∃M' d',Ext M1 w1 M' w'∧(BG M0 w0 S (own xs++R xs d') M' w'∨∃pre,pre<+:xs∧BG M0 w0 S (own pre++Rx pre d') M' w'))):MB P gf lb enc xs own:=by
 intro M0 w0 S l β R Rx hy d M w hI
 refine callsIn_of_wp_marks (F:=E6 none) (n:=0) hf hb trivial (h M0 w0 S l β R Rx M w hy d _ _ ⟨M,?_,rfl,?_,?_⟩)
 ·
  have:=(hps M w).length
  simp at this ⊢;omega
 ·
  have h2:HL M w (is (.func (.yield l) #[] #[])::ps) ((.func (.yield l) #[] #[])::lb.toList):=⟨rfl,hps M w⟩
  have h3:=FK (m:=g.ntmps-(#[Value.func (.yield l) #[] #[]]++lb:Array Value).size) h2
  have e1:(Value.func (.yield l) #[] #[]::lb.toList).toArray= #[Value.func (.yield l) #[] #[]]++lb:=by apply Array.ext';simp
  rw [e1] at h3;exact h3
 · exact Ta
end
section
variable {P:Program} {I:CU} {E:Env} {o:Oper}
end
section
variable {P:Program} {Q:Exit→Act→World→Prop} {K:Act→World→Prop} {a:Act} {w:World} {o:Oper} {ops:Array Oper}
end
section
variable {P:Program} {L:Lg P} {n:Fm} {fz:Nat} {E:Env} {M0:Av} {w0:World} {S:Nat→Prop} {o:Oper}
theorem Gp.conv {R1 R2:SR} {r:Result Next} (hq:Pr.le p q) (hR:∀v,R1.at_ (a.put o.dst v)=R2.at_ (a.put o.dst v)) (h:Gp P M0 w0 S o a M w p j R1 rs r):Gp P M0 w0 S o a M w q j R2 rs r:=by
 cases r with
 |halt x w'=>exact h
 |ok x w'=>
  cases x
  case value v=>obtain ⟨M',g1,g2,g3⟩:=h;exact ⟨M',hq _ _ _ g1,g2,by rw [←hR];exact g3⟩
  case skip=>obtain ⟨M',g1,g2,g3⟩:=h;exact ⟨M',hq _ _ _ g1,g2,by rw [←hR];exact g3⟩
  case enter f args=>
   refine Calls.mono h ?_
   rintro e w'' ⟨v,M',g0,g1,g2,g3⟩
   exact ⟨v,M',g0,hq _ _ _ g1,g2,by rw [←hR];exact g3⟩
  all_goals exact h
end
section
variable {P:Program} {L:Lg P} {n:Fm} {fz:Nat} {E:Env} {I:CU} {M0:Av} {w0:World} {S:Nat→Prop} {rs:List A7} {Q:Exit→Act→World→Prop} {c:Code}
theorem Fin.shape {e:Exit} (s:Nat) (form:Nat→Value) (hs:E.lookup s=some (Ao v (Cp.ex fun b=>is (form b)))) (k:∀b,v=form b→Fin n ((s,is (form b))::E) (Hp M0 w0 S rs) Q e):Fin n E (Hp M0 w0 S rs) Q e:=by
 intro a w hst
 obtain ⟨M,h1,h2,he,h4⟩:=hst
 obtain ⟨h5,b,h6⟩:=he s _ hs
 have hv:v=form b:=by rw [←h5];exact h6
 refine k b hv a w ⟨M,h1,h2,fun c z hz=> ?_,h4⟩
 simp only [List.lookup] at hz
 by_cases hcs:c=s
 · grind
 · rw [show (c==s)=false by simpa using hcs] at hz;exact he c z hz
theorem BN.ofM {g : Func} {res : Pr} {R : A7} {R' : Value → A7} (hf : P.funcs[f]? = some g) (hb : g.body = some c) (hname : (g.name == "runtime.NumGoroutine") = false) (hlen : ps.length ≤ g.ntmps) (h : ∀ M0 w0 S rs M1 w1, Tr (Td P) g.ntmps (Jl 0 ps) (Hp M0 w0 S (R :: As M1 w1 :: rs)) c (OC P g (Ni M0 w0 S rs M1 w1 res R'))) : BN P f ps res R R' := by
 refine ⟨⟨g,hf,hname,by rw [hb];rfl⟩,fun M0 w0 S rs M w vs hI hv=> ?_⟩
 refine MC hf hb (h M0 w0 S rs M w _ _ ⟨M,?_,rfl,FK hv,?_⟩)
 ·
  have:=hv.length
  simp [this];omega
 · exact TY
end
section
variable {P:Program} {L:Lg P} {n:Fm} {fz:Nat} {E:Env} {I:CU} {M0:Av} {w0:World} {S:Nat→Prop} {rs:List A7} {Q:Exit→Act→World→Prop} {c:Code}
abbrev UA (l D:Nat) (rec:Obj) (M1:Av) (w1:World) (rs:List A7):List A7:=BE l rec::BE D (.deferred (some []))::As M1 w1::rs
theorem Tr.j4 {α:Type} {p gf:Nat} {g:Operand} {lb:Array Value} {enc:α→Value} {xs:List α} {own:List α→List A7} {assign body:Code} (q:Nat) (K:Env) (hK:C4 E K) (R:List α→List A7)
  (hIt:MB P gf lb enc xs own) (eg:Entry P gf) (hg:VL E g (is (.func (.func gf) #[] lb))) (jh:rs.Perm (own []++R [])) (hp:K.lookup p=none) (hpn:p<n.sz)
  (hassign:∀l D rec M1 w1 pre x,(pre++[x])<+:xs→Tr (dc P (some l)) ⟨n.sz,[]⟩ ((p,is (enc x))::K) (Hp M0 w0 S (own (pre++[x])++UA l D rec M1 w1 (R pre))) assign (Exit.then (St ⟨n.sz,[]⟩ ((q,is (enc x))::K) (Hp M0 w0 S (own (pre++[x])++UA l D rec M1 w1 (R pre)))) (fun _ _ _=>False)))
  (hbody : ∀ l D rec M1 w1 pre x, (pre ++ [x]) <+: xs → Tr (dc P (some l)) ⟨n.sz, []⟩ ((q, is (enc x)) :: K) (Hp M0 w0 S (own (pre ++ [x]) ++ UA l D rec M1 w1 (R pre))) body
   (Q1 M0 w0 S (fun _:Unit=>own (pre++[x])++UA l D rec M1 w1 (R (pre++[x]))) (fun _ _=>own (pre++[x])++UA l D rec M1 w1 [Mt False])))
  (hdone:∀l D rec M1 w1,Fin ⟨n.sz,mark D::n.df⟩ E (Hp M0 w0 S (own xs++UA l D rec M1 w1 (R xs))) Q .normal):
  Tr (Td P) n E (Hp M0 w0 S rs) (.rangeFunc g #[p] assign body) Q:=by
 refine Tr.jz (fun x=>(q,is (enc x))::K) (fun pre (_:Unit)=>R pre) (fun _ _ _=>[Mt False]) () hIt (fun args w=>C8 eg args w) hg jh ?_ ?_ (fun l D rec M1 w1 _=>hdone l D rec M1 w1) ?_
 ·
  intro l D rec M1 w1 pre x d hpre a hsz hE M w hI
  have hx:Ext M1 w1 M w:=(hI.hold (As M1 w1) Aa).1
  refine hassign l D rec M1 w1 pre x hpre _ w ⟨M,by simpa using hsz,rfl,fun s z hq=> ?_,hI⟩
  simp only [List.lookup] at hq
  by_cases hs:s=p
  ·
   subst hs
   simp only [beq_self_eq_true,Option.some.injEq] at hq
   subst hq
   show (a.tmps.setIfInBounds s (enc x)).getD s undef=enc x
   simp [Array.getD_eq_getD_getElem?,hsz,hpn]
  ·
   rw [show (s==p)=false by simpa using hs] at hq
   obtain ⟨z',JD,YA⟩:=hK.spec s z hq
   have h2:=z.st _ _ _ _ _ hx (YA _ _ _ (hE s z' JD))
   show z.h M w ((a.tmps.setIfInBounds p (enc x)).getD s undef)
   have e1:(a.tmps.setIfInBounds p (enc x)).getD s undef=a.tmps.getD s undef:=by
    simp only [Array.getD_eq_getD_getElem?]
    rw [Array.getElem?_setIfInBounds_ne (fun e=>hs e.symm)]
   rw [e1];exact h2
 ·
  intro l D rec M1 w1 pre x d hpre
  exact hbody l D rec M1 w1 pre x hpre
 ·
  intro l D rec M1 w1 c pre d hpre a w ⟨M,_,_,_,h⟩
  have h:BG M0 w0 S (own pre++UA l D rec M1 w1 [Mt False]) M w:=h
  exact ((h.hold (Mt False) Aa).1).elim
theorem Fin.st {E1:Env} {Q':Exit→Act→World→Prop} (hs:C4 E E1):Fin n E I (Exit.then (St n E1 I) Q') .normal:=fun _ _ h=>h.sub hs (fun _ _ h=>h)
end
section
variable {P:Program} {fz:Nat} {E:Env} {M0 M1:Av} {w0 w1:World} {S:Nat→Prop} {g:Func} {α β:Type} {xs:List α} {own:List α→List A7} {R Rx:List α→β→List A7}
end
section
variable {P:Program} {L:Lg P} {n:Fm} {fz:Nat} {E:Env} {M0:Av} {w0:World} {S:Nat→Prop} {o:Oper}
end
section
variable {P:Program} {L:Lg P} {n:Fm} {fz:Nat} {E:Env} {M0:Av} {w0:World} {S:Nat→Prop} {rs:List A7} {Q:Exit→Act→World→Prop}
end
section
variable {P:Program}
end
section
variable {P:Program} {n:Fm} {E:Env} {M0:Av} {w0:World} {S:Nat→Prop} {rs:List A7} {Q:Exit→Act→World→Prop} {p0 p1:Pr} {R:Value→A7}
end
section
variable {P:Program} {L:Lg P} {n:Fm} {E:Env} {M0:Av} {w0:World} {S:Nat→Prop} {rs:List A7} {Q:Exit→Act→World→Prop} {c:Code}
variable {ε:Type}
end
section
variable {P:Program} {I:CU} {o:Oper} {E:Env}
end
section
variable {P:Program} {fz:Nat} {E:Env} {M0:Av} {w0:World} {rs:List A7} {g:Func}
end
section
variable {P:Program} {L:Lg P} {n:Fm} {E:Env} {M0:Av} {w0:World} {S:Nat→Prop} {rs:List A7} {o:Oper} {β:Type} {f:β→List Pr} {φ:β→Prop}
theorem Gp.wk {R1 R2:SR} {rs:List A7} {r:Result Next} (hjl:j<rs.length) (hd:o.dst=none) (hb:(R2.at_ a).blk=(R1.at_ a).blk) (hn:(R2.at_ a).new=(R1.at_ a).new) (hh:∀M w,(R1.at_ a).h M w→(R2.at_ a).h M w) (h:Gp P M0 w0 S o a M w p j R1 rs r):Gp P M0 w0 S o a M w p j R2 rs r:=by
 have key:∀v M' w',BG M0 w0 S (rs.set j (R1.at_ (a.put o.dst v))) M' w'→BG M0 w0 S (rs.set j (R2.at_ (a.put o.dst v))) M' w':=by
  intro v M' w' hI
  rw [hd] at hI ⊢
  have hI:BG M0 w0 S (rs.set j (R1.at_ a)) M' w':=hI
  have h1:(rs.set j (R1.at_ a))[j]? =some (R1.at_ a):=by rw [List.getElem?_set_self hjl]
  have:=hI.C0 (r':=R2.at_ a) h1 hb hn (hh _ _ (hI.hold _ (List.mem_of_getElem? h1)).1)
  rw [List.set_set] at this
  exact this
 cases r with
 |halt x w'=>exact h
 |ok x w'=>
  cases x
  case value v=>obtain ⟨M',g1,g2,g3⟩:=h;exact ⟨M',g1,g2,key _ _ _ g3⟩
  case skip=>obtain ⟨M',g1,g2,g3⟩:=h;exact ⟨M',g1,g2,key _ _ _ g3⟩
  case enter f args=>
   refine Calls.mono h ?_
   rintro e w'' ⟨v,M',g0,g1,g2,g3⟩
   exact ⟨v,M',g0,g1,g2,key _ _ _ g3⟩
  all_goals exact h
end
end Cp
namespace Go.Proofs.YtoodkpodinniaaaGreatDoor
open Go Go.RowKit Cp Go.Proofs.Tryz
structure Hf where
 It:Int
 KA:List UInt8
 Hg:List UInt8
 Om:Int
 Jd:Int
 BB:Int
 UB:Int
 OD:Int
 from_:Int
 mz:Int
 auth:Bool
 path:Int
 names:List (List UInt8)
 dj:Int
 dm:Int
abbrev WZ (l:List (List UInt8)):Pr:=slice 1 (l.map fun t=>[str t])
abbrev DV (c:Hf):List Pr:=[int c.It,str c.KA,str c.Hg,int c.Om,int c.Jd,int c.BB,int c.UB,int c.OD,int c.from_,int c.mz,bool c.auth,int c.path,WZ c.names,int c.dj,int c.dm]
abbrev Je (l:List Hf):Pr:=slice 15 (l.map DV)
structure Hf.fits (c:Hf):Prop where
 KA:c.KA.length≤maxLen
 Hg:c.Hg.length≤maxLen
 names:∀s∈c.names,s.length≤maxLen
def FZ (n:Int):Bool:=decide (0≤n)&&decide (n≤2147483648)
def Wa (n:Int):Bool:=decide (0≤n)&&decide (n<4294967296)
def ER (o:List UInt8) (c:UInt8):Bool:=decide (97≤c.toNat∧c.toNat≤122)||decide (65≤c.toNat∧c.toNat≤90)||decide (48≤c.toNat∧c.toNat≤57)||decide (0≤Lib.indexByte o c)
def IY (s:List UInt8):Bool:=s.all (ER [45,95,46])&&decide (1≤s.length∧s.length≤32)
def nameAt (l:List (List UInt8)) (i:Nat):Bool:=named (l[i]?.getD [])&&(decide (i=0)||decide (Lib.compareBytes (l[i-1]?.getD []) (l[i]?.getD [])= -1))
def Ej (l:List (List UInt8)):Bool:=allI (nameAt l) l.length&&decide (l.length≤8)
def Gw (Bw bits kind:Int):Bool:=decide (Bx Bw bits>0)&&(DQ Bw).kind==kind
def Cs (c:Hf):Bool:=
 (decide (0≤c.It)&&decide (c.It≤1099511627776)&&named c.KA&&named c.Hg&&Ej c.names)&&
 (Gw c.Om c.Jd 2&&FZ c.BB&&Gw c.UB c.OD 1&&FZ c.dj&&Wa c.dm)&&
 (decide (0≤c.from_)&&decide (c.from_≤c.mz)&&decide (c.mz≤40000))&&(decide (0≤c.path)&&decide (c.path≤8)&&(c.auth||c.path==0))
def OE (Bw bits id:Int) (l:List Hf):Bool:=Gw Bw bits 2&&FZ id&&decide (l.length≤8)&&l.all Cs&&match l with|[]=>true|c::_=>decide (c.Om=Bw∧c.Jd=bits)&&c.BB==id
structure D9 where
 Bw:Int
 bits:Int
 BB:Int
 chain:List Hf
abbrev BJ (x:D9):List Pr:=[int x.Bw,int x.bits,int x.BB,Je x.chain]
abbrev FP (l:List D9):Pr:=slice 4 (l.map BJ)
def D9.fits (x:D9):Prop:=∀c∈x.chain,c.fits
structure CO where
 name:List UInt8
 least:Int
 most:Int
 AG:List Int
 own:Bool
 ids:List D9
 anchors:List Int
 hashes:List Int
 E_:Bool
variable {e e2:CO} {f:FuncId} {Bw:Int} {l:List Int} {ps:List Pr} {s:List UInt8} {sp:List Value} {cap i j k ob wb:Nat} {p p3 p5 p6 p7 q:Pr} {P:Program} {v:Value}
abbrev Am (e:CO):List Pr:=[str e.name,int e.least,int e.most,ints e.AG,bool e.own,FP e.ids,ints e.anchors,ints e.hashes,bool e.E_]
structure CO.fits (e:CO):Prop where
 name:e.name.length≤maxLen
 ids:∀x∈e.ids,x.fits
def FD (l:List Int) (i:Nat):Bool:=decide (i=0)||decide (l[i-1]?.getD 0<l[i]?.getD 0)
def Q2 (l:List Int):Bool:=allI (FD l) l.length
def Dt (l:List Int) (i:Nat):Bool:=decide (1≤l[i]?.getD 0∧l[i]?.getD 0≤16)&& !((l.take i).any fun x=>l[i]?.getD 0==x)
def FV (l:List Int):Bool:=allI (Dt l) l.length
def Iu (n:Int):Bool:=(DQ n).kind==1
def Wb (x:D9):Bool:=OE x.Bw x.bits x.BB x.chain
def CA (e:CO):Bool:=
 (IY e.name&&decide (1≤e.least)&&decide (e.least≤e.most)&&decide (e.most≤4)&&FV e.AG)&&
 (decide (e.ids.length≤4)&&decide (e.anchors.length≤16)&&Q2 e.anchors&&Q2 e.hashes)&&e.ids.all Wb&&e.anchors.all FZ&&e.hashes.all Iu
theorem Vi {β:Type} (p:β→Bool) (l:List β):(l.any fun x=> !p x)= !l.all p:=by
 induction l with
 |nil=>rfl
 |cons a l ih=>rw [List.any_cons,List.all_cons,ih];cases p a<;>rfl
theorem getD_at {β:Type} {l:List β} {x d:β} (h:l[k]? =some x):l[k]?.getD d=x:=by rw [h];rfl
theorem j5 {c:UInt8}:Ay prog 359 [str s,is (.int .u8 ((c.toNat:Nat):Int))] (int (Lib.indexByte s c)):=by
 refine fo func359 rfl ⟨rfl,rfl⟩ fun M0 w0=> ?_
 refine a2 ?_
 refine co rfl (T2 rfl func384 BD BD BD BD vq vq) ?_
 refine a2 ?_
 · exact Lr
theorem Rh {c:UInt8}:Ay prog 310 [str s,is (.int .u8 ((c.toNat:Nat):Int))] (int (Lib.indexByte s c)):=by
 refine fo func310 rfl ⟨rfl,rfl⟩ fun M0 w0=> ?_
 refine a2 ?_
 refine co rfl (Cb (j5) rfl rfl rfl) ?_
 refine a2 ?_
 · exact Lr
theorem ZK {o:List UInt8} {c:UInt8}  :Ay prog 257 [is (.int .u8 ((c.toNat:Nat):Int)),str o] (bool (ER o c)):=by
 refine fo func257 rfl ⟨rfl,rfl⟩ fun M0 w0=> ?_
 refine ac ?_
 refine ag ?_ ?_<;>intro h1 q1
 refine ag ?_ ?_<;>intro h2 q2
 refine ac ?_
 refine wk [4] rfl ?_
 refine ac ?_
 · exact Jh
 refine ag ?_ ?_<;>intro h3 q3
 refine ag ?_ ?_<;>intro h4 q4
 refine ac ?_
 refine wk [4] rfl ?_
 refine ac ?_
 · exact Jh
 refine ag ?_ ?_<;>intro h5 q5
 · exact Pq
 refine ac ?_
 refine cy rfl rfl (Cb (Rh) rfl rfl rfl) ?_
 refine ac ?_
 refine wk [4] rfl ?_
 refine ac ?_
 · exact Jh
 refine ag ?_ ?_<;>intro h7 q7
 · exact Pq
 refine ac ?_
 refine cy rfl rfl (Cb (Rh) rfl rfl rfl) ?_
 refine ac ?_
 refine wk [4] rfl ?_
 refine ac ?_
 · exact Jh
 refine ag ?_ ?_<;>intro h9 q9
 refine ag ?_ ?_<;>intro h10 SH
 refine ac ?_
 refine wk [4] rfl ?_
 refine ac ?_
 · exact Jh
 refine ag ?_ ?_<;>intro h11 T8
 · exact Pq
 refine ac ?_
 refine cy rfl rfl (Cb (Rh) rfl rfl rfl) ?_
 refine ac ?_
 refine wk [4] rfl ?_
 refine ac ?_
 · exact Jh
 refine ag ?_ ?_<;>intro Mo Xh
 · exact Pq
 refine ac ?_
 refine cy rfl rfl (Cb (Rh) rfl rfl rfl) ?_
 refine ac ?_
 refine wk [4] rfl ?_
 refine ac ?_
 · exact Jh
theorem j6 (hs:s.length≤maxLen):Ay prog 177 [str s] (bool (IY s)):=by
 refine fo func177 rfl ⟨rfl,rfl⟩ fun M0 w0=> ?_
 refine a2 ?_
 refine co rfl (Nw rfl underlying9 underlying185 underlying5 vq DE) ?_
 refine ac ?_
 refine Tr.block (Tr.Ed 6 rfl fun hl6=>(Tr.Bc _ (kk [7,6,0] rfl) (fun k:Nat=>[(8,int ((k:Nat):Int))]) (fun k:Nat=>k≤(s).length∧(∀j y,j<k→s[j]? =some y→(!ER [45,95,46] y)=false)) (fun k:Nat=>(s).length-k) 0 (⟨Nat.zero_le _,fun j y hj=>absurd hj AA⟩) kz ?_))
 rintro k ⟨Be,AU⟩
 refine ac ?_
 refine Tr.seq ?_
 refine Tr.cn rfl ?_ ?_<;>intro h1 q1
 have Ae:k<(s).length:=AV h1
 obtain ⟨c,Af⟩:=at_ Ae
 refine ac ?_
 refine Tr.seq (Tr.block (Tr.seq (Tr.CL (co rfl (AD rfl underlying185 K7 vq vq AA DP) ?_))))
 · repeat' first|(refine bool_eq ?_;unfold IY;rw [HY (p:=ER [45,95,46]) Af Cc];rfl)|exact Fin.AQ (k+1) ⟨⟨Ae,Dc (p:=fun c=> !ER [45,95,46] c) Af Cc AU⟩,by omega⟩ ⟨⟨_,rfl,AO k⟩,kz⟩|refine co rfl (Cb (ZK) rfl rfl rfl) ?_|refine ac ?_|(refine Tr.cn rfl ?_ ?_<;>intro h q)
 have BM:k=(s).length:=by have:=AW h1;omega
 subst BM
 · repeat' first|(refine bool_eq ?_;unfold IY;rw [E5 AU,Bool.true_and];rw [decide_eq_decide];omega)|(refine bool_eq ?_;unfold IY;rw [E5 AU,Bool.true_and];symm;rw [decide_eq_false_iff_not];omega)|refine ac ?_|(refine Ch.cg rfl rfl rfl ?_ ?_<;>intro h q)
theorem UC {n:Int}  :Ay prog 130 [int n] (bool (FZ n)):=by
 refine fo func130 rfl ⟨rfl,rfl⟩ fun M0 w0=> ?_
 refine ac ?_
 refine ac ?_
 refine Ch.cs 5 rfl ?_ ?_<;>intro h1 q1
 refine ac ?_
 refine ac ?_
 · refine bool_eq ?_;unfold FZ;simp_all
 refine ac ?_
 refine ac ?_
 · refine bool_eq ?_;unfold FZ;simp_all;omega
theorem j7:Entry Tryz.prog 130:=⟨_,Tryz.func130,rfl,rfl⟩
theorem j8 {n:Int}  :Ay prog 363 [int n] (bool (Wa n)):=by
 refine fo func363 rfl ⟨rfl,rfl⟩ fun M0 w0=> ?_
 refine ac ?_
 refine ac ?_
 refine Ch.cs 5 rfl ?_ ?_<;>intro h1 q1
 refine ac ?_
 refine ac ?_
 · refine bool_eq ?_;unfold Wa;simp_all
 refine ac ?_
 refine ac ?_
 · refine bool_eq ?_;unfold Wa;simp_all;omega
theorem gz {bits kind:Int}:Ay prog 362 [agg [int Bw,int bits],int kind] (bool (Gw Bw bits kind)):=by
 refine fo func362 rfl ⟨rfl,rfl⟩ fun M0 w0=> ?_
 refine ac ?_
 refine ac ?_
 refine co rfl (Bn (Q0) rfl rfl) (cm rfl ?_)
 refine Ch.cs 7 rfl ?_ ?_<;>intro h1 q1
 refine ac ?_
 refine cy h1 rfl (Bn (T4) rfl rfl) ?_
 refine ac ?_
 refine ac ?_
 · refine bool_eq ?_;unfold Gw;simp_all
 refine ac ?_
 refine ac ?_
 · refine bool_eq ?_;unfold Gw;simp_all;omega
theorem ZL {l:List (List UInt8)} (hf:∀s∈l,s.length≤maxLen):Ay prog 361 [WZ l] (bool (Ej l)):=by
 refine fo func361 rfl ⟨rfl,rfl⟩ fun M0 w0=>(Tr.Ed 0 rfl fun Fh=> ?_)
 refine a2 ?_
 refine Tr.block (Tr.Bc _ (kk [6,5,0] rfl) (fun k:Nat=>[(7,int ((k:Nat):Int))]) (fun k:Nat=>k≤(l).length∧(∀j,j<k→nameAt l j=true)) (fun k:Nat=>(l).length-k) 0 (⟨Nat.zero_le _,fun j hj=>absurd hj AA⟩) kz ?_)
 rintro k ⟨Be,AU⟩
 refine ac ?_
 refine Tr.seq ?_
 refine Tr.cn rfl ?_ ?_<;>intro h1 q1
 have Ae:k<(l).length:=AV h1
 obtain ⟨s,Af⟩:=at_ Ae
 have hsf:=hf s (List.mem_of_getElem? Af)
 have hg:=getD_at (d:=[]) Af
 refine a2 ?_
 refine co rfl (AD rfl underlying73 LV vq vq AA (Ak Af)) ?_
 refine a2 ?_
 refine co rfl (Bn (Mr hsf) rfl rfl) ?_
 refine ag ?_ ?_<;>intro h2 q2
 refine ac ?_
 refine wk [27,7,6,5,0] rfl ?_
 refine a2 ?_
 · refine bool_eq ?_;unfold Ej;rw [Dz (p:=nameAt l) (k:=k) AA (by unfold nameAt;rw [hg];simp_all)];rfl
 refine ag ?_ ?_<;>intro h3 q3
 have hk0:0<k:=by simpa using h3
 obtain ⟨y,hy⟩:=at_ (l:=l) (k:=k-1) AA
 have JW:=getD_at (d:=[]) hy
 · repeat' first|(refine bool_eq ?_;unfold Ej;rw [Dz (p:=nameAt l) (k:=k) AA (by unfold nameAt;rw [hg,JW];simp_all;omega)];rfl)|(exact Fin.AQ (k+1) ⟨⟨Ae,Bo AU (by unfold nameAt;rw [hg,JW];simp_all)⟩,by omega⟩ ⟨⟨_,rfl,AO k⟩,kz⟩)|(refine cy h3 rfl (AD rfl underlying73 LV vq vq AA Eu) ?_)|refine cy h3 rfl (J0 rfl vq vq) ?_|refine ac ?_|(refine Tr.cn rfl ?_ ?_<;>intro h q)
 refine ac ?_
 refine wk [27,7,6,5,0] rfl ?_
 refine a2 ?_
 exact Fin.AQ (k+1) ⟨⟨Ae,Bo AU (by unfold nameAt;rw [hg];simp_all)⟩,by omega⟩ ⟨⟨_,rfl,AO k⟩,kz⟩
 have BM:k=(l).length:=by have:=AW h1;omega
 subst BM
 refine a3 ?_
 · refine bool_eq ?_;unfold Ej;rw [Il AU,Bool.true_and];simp;omega
theorem ZM {c:Hf} (hc:c.fits):Ay prog 312 [agg (DV c)] (bool (Cs c)):=by
 refine fo func312 rfl ⟨rfl,rfl⟩ fun M0 w0=> ?_
 · repeat' first|(refine bool_eq ?_;unfold Cs;simp_all;omega)|(refine bool_eq ?_;unfold Cs;simp_all)|refine cy h rfl (Bn (Mr hc.KA) rfl rfl) ?_|refine cy h rfl (Bn (Mr hc.Hg) rfl rfl) ?_|refine cy h rfl (Bn (ZL hc.names) rfl rfl) ?_|refine co rfl (Cb (gz) rfl rfl rfl) ?_|refine cy h rfl (Cb (gz) rfl rfl rfl) ?_|refine cy h rfl (Bn (j8) rfl rfl) ?_|refine cy h rfl (Bn (UC) rfl rfl) ?_|refine ac ?_|(refine Tr.cn rfl ?_ ?_<;>intro h q)|(refine Ch.cg rfl rfl rfl ?_ ?_<;>intro h q)
theorem ZN {c:Hf} (hc:c.fits):Ay prog 261 [agg (DV c)] (int (if Cs c then 0 else 9)):=by
 refine fo func261 rfl ⟨rfl,rfl⟩ fun M0 w0=> ?_
 · repeat' first|(refine int_eq ?_;simp_all)|refine co rfl (Bn (ZM DE) rfl rfl) ?_|refine ac ?_|(refine Tr.cn rfl ?_ ?_<;>intro h q)
abbrev Cg:List Pr:=[any,any,any,any,any,any,any,any,any,any,any,any]
abbrev Ct:List (List Pr):=[Cg,Cg,Cg,Cg,Cg,Cg,Cg,Cg,Cg,Cg,Cg,Cg,Cg,Cg,Cg,Cg]
theorem j9 {q:List Pr} {o:Nat} (hk:k<16) (ho:o=k*12):(Ct.flatten++q)[o]? =some any:=by
 subst ho
 have h:Ct[k]? =some Cg:=by
  have hk':k<Ct.length:=hk
  rw [List.getElem?_eq_getElem hk']
  have:∀r∈Ct,r=Cg:=by intro r hr;simp at hr;exact hr
  rw [this _ (List.getElem_mem hk')]
 have hl:∀r∈Ct,r.length=12:=by intro r hr;simp at hr;rw [hr];rfl
 rw [List.getElem?_append_left (by rw [CV hl];show k*12<16*12;omega)]
 exact HV (j:=0) hl h AA
theorem SJ (hk:k<16):Ct[k]? =some Cg:=by
 have hk':k<Ct.length:=hk
 rw [List.getElem?_eq_getElem hk']
 have:∀r∈Ct,r=Cg:=by intro r hr;simp at hr;exact hr
 rw [this _ (List.getElem_mem hk')]
theorem Vj:∀r∈Ct,r.length=12:=by intro r hr;simp at hr;rw [hr];rfl
theorem Wc (h:Cg[i]? =some p):p=any:=by have:=List.mem_of_getElem? h;simp at this;exact this
theorem Co (h:ps.length=12):Pr.le (agg ps) (agg Cg):=fun M w v ⟨cs,h1,h2,h3⟩=>⟨cs,h1,h2,HL.fy (by rw [h3.length,h];rfl) fun i p v hp _=>by rw [Wc hp];trivial⟩
def ZO (Bw bits id:Int) (l:List Hf):Bool:=match l with|[]=>true|c::_=>decide (c.Om=Bw∧c.Jd=bits)&&c.BB==id
theorem PK {bits id:Int} {l:List Hf} (h:l.length=0):ZO Bw bits id l=true:=by rw [List.eq_nil_of_length_eq_zero h];rfl
theorem Kt {bits id:Int} {l:List Hf} {c:Hf} (h:l[0]? =some c):ZO Bw bits id l=(decide (c.Om=Bw∧c.Jd=bits)&&c.BB==id):=by
 cases l with
 |nil=>simp at h
 |cons a l=>simp at h;subst h;rfl
theorem Ci (Bw bits id:Int) (l:List Hf):OE Bw bits id l=(Gw Bw bits 2&&FZ id&&decide (l.length≤8)&&l.all Cs&&ZO Bw bits id l):=rfl
theorem IF {a b:Int}  :Ay prog 360 [int a,int b] (agg [int a,int b]):=by
 refine fo func360 rfl ⟨rfl,rfl⟩ fun M0 w0=>(Tr.seq (Tr.BL ?_))
 refine Tl rfl rfl rfl rfl JG Dm (fun b1=> ?_)
 refine ap ?_
 refine ap ?_
 refine Tr.ret (Fin.CF rfl (AR.cell 0 rfl rfl CG DH rfl Lr) ?_)
 · exact Lr
theorem ZP   :Ay prog 311 [] (slice 12 Ct):=by
 refine fo func311 rfl ⟨rfl,rfl⟩ fun M0 w0=> ?_
 refine ac ?_
 refine Tr.seq (Tr.BL ?_)
 iterate 4 refine tp rfl (Cb (IF) rfl rfl rfl) ?_
 refine tp rfl (Ax (rows:=[]) rfl ij Dm trivial rfl) ?_
 refine Tl rfl rfl rfl rfl JG Dm (fun b1=> ?_)
 refine Tl rfl rfl rfl rfl JG Dm (fun b2=> ?_)
 refine Tl rfl rfl rfl rfl JG Dm (fun b3=> ?_)
 refine Tl rfl rfl rfl rfl JG Dm (fun b4=> ?_)
 refine Tl rfl rfl rfl rfl JG Dm (fun b5=> ?_)
 refine sf 4 1 ⟨rfl,rfl,rfl⟩ rfl rfl rfl rfl ?_
 refine sf 3 2 ⟨rfl,rfl,rfl⟩ rfl rfl rfl rfl ?_
 refine sf 2 3 ⟨rfl,rfl,rfl⟩ rfl rfl rfl rfl ?_
 refine sf 1 4 ⟨rfl,rfl,rfl⟩ rfl rfl rfl rfl ?_
 refine sf 0 5 ⟨rfl,rfl,rfl⟩ rfl rfl rfl rfl ?_
 refine TO.nil (Fin.go (wk [5,4,3,2,1] rfl (Tr.seq (Tr.BL ?_))))
 iterate 5 refine tp rfl (Cb (IF) rfl rfl rfl) ?_
 refine Tl rfl rfl rfl rfl JG Dm (fun b6=> ?_)
 refine Tl rfl rfl rfl rfl JG Dm (fun b7=> ?_)
 refine Tl rfl rfl rfl rfl JG Dm (fun b8=> ?_)
 refine Tl rfl rfl rfl rfl JG Dm (fun b9=> ?_)
 refine Tl rfl rfl rfl rfl JG Dm (fun b10=> ?_)
 refine sf 4 6 ⟨rfl,rfl,rfl⟩ rfl rfl rfl rfl ?_
 refine sf 3 7 ⟨rfl,rfl,rfl⟩ rfl rfl rfl rfl ?_
 refine sf 2 8 ⟨rfl,rfl,rfl⟩ rfl rfl rfl rfl ?_
 refine sf 1 9 ⟨rfl,rfl,rfl⟩ rfl rfl rfl rfl ?_
 refine sf 0 10 ⟨rfl,rfl,rfl⟩ rfl rfl rfl rfl ?_
 refine TO.nil (Fin.go (wk [10,9,8,7,6,5,4,3,2,1] rfl (Tr.seq (Tr.BL ?_))))
 iterate 4 refine tp rfl (Cb (IF) rfl rfl rfl) ?_
 refine Tl rfl rfl rfl rfl JG Dm (fun b11=> ?_)
 refine Tl rfl rfl rfl rfl JG Dm (fun b12=> ?_)
 refine Tl rfl rfl rfl rfl JG Dm (fun b13=> ?_)
 refine Tl rfl rfl rfl rfl JG Dm (fun b14=> ?_)
 refine sf 3 11 ⟨rfl,rfl,rfl⟩ rfl rfl rfl rfl ?_
 refine sf 2 12 ⟨rfl,rfl,rfl⟩ rfl rfl rfl rfl ?_
 refine sf 1 13 ⟨rfl,rfl,rfl⟩ rfl rfl rfl rfl ?_
 refine sf 0 14 ⟨rfl,rfl,rfl⟩ rfl rfl rfl rfl ?_
 refine TO.nil (Fin.go (wk [14,13,12,11,10,9,8,7,6,5,4,3,2,1] rfl (Tr.seq (Tr.pad (Tr.rx (xo rfl (fun _=>AX rfl CG DH vq rfl rfl) (xo rfl (fun _=>AX rfl CG DH vq rfl rfl) (xo rfl (fun _=>Cb (IF) rfl rfl rfl) (xo rfl (fun _=>AX rfl CG DH vq rfl rfl) (xo rfl (fun _=>oD) (xo rfl (fun _=>AX rfl CG DH vq rfl rfl) (xo rfl (fun _=>AX rfl CG DH vq rfl rfl) (xo rfl (fun _=>Cb (IF) rfl rfl rfl) ?_)))))))))))))
 refine xo rfl (fun _=>AX rfl CG DH vq rfl rfl) (xo rfl (fun _=>oD) ?_)
 iterate 4 refine xo rfl (fun _=>AX rfl CG DH vq rfl rfl) ?_
 refine xo rfl (fun _=>oD) (xo rfl (fun _=>Cb (IF) rfl rfl rfl) (xo rfl (fun _=>AX rfl CG DH vq rfl rfl) (xo rfl (fun _=>AX rfl CG DH vq rfl rfl) (xo rfl (fun _=>AX rfl CG DH vq rfl rfl) (xo rfl (fun _=>oD) (xo rfl (fun _=>Cb (IF) rfl rfl rfl) (xo rfl (fun _=>AX rfl CG DH vq rfl rfl) (xo rfl (fun _=>AX rfl CG DH vq rfl rfl) (xo rfl (fun _=>AX rfl CG DH vq rfl rfl) (xo rfl (fun _=>oD) ?_))))))))))
 iterate 4 refine xo rfl (fun _=>AX rfl CG DH vq rfl rfl) ?_
 refine xo rfl (fun _=>oD) (xo rfl (fun _=>Cb (IF) rfl rfl rfl) (xo rfl (fun _=>AX rfl CG DH vq rfl rfl) (xo rfl (fun _=>AX rfl CG DH vq rfl rfl) (xo rfl (fun _=>AX rfl CG DH vq rfl rfl) (xo rfl (fun _=>oD) ?_)))))
 iterate 4 refine xo rfl (fun _=>AX rfl CG DH vq rfl rfl) ?_
 refine xo rfl (fun _=>oD) (xo rfl (fun _=>AX rfl CG DH vq rfl rfl) (xo rfl (fun _=>AX rfl CG DH vq rfl rfl) (xo rfl (fun _=>Cb (IF) rfl rfl rfl) (xo rfl (fun _=>Cb (IF) rfl rfl rfl) (xo rfl (fun _=>oD) ?_)))))
 iterate 4 refine xo rfl (fun _=>AX rfl CG DH vq rfl rfl) ?_
 refine xo rfl (fun _=>oD) (xo rfl (fun _=>Cb (IF) rfl rfl rfl) (xo rfl (fun _=>AX rfl CG DH vq rfl rfl) (xo rfl (fun _=>AX rfl CG DH vq rfl rfl) (xo rfl (fun _=>AX rfl CG DH vq rfl rfl) (xo rfl (fun _=>oD) ?_)))))
 iterate 4 refine xo rfl (fun _=>AX rfl CG DH vq rfl rfl) ?_
 refine xo rfl (fun _=>oD) ?_
 iterate 4 refine xo rfl (fun _=>AX rfl CG DH vq rfl rfl) ?_
 refine xo rfl (fun _=>oD) ?_
 iterate 4 refine xo rfl (fun _=>AX rfl CG DH vq rfl rfl) ?_
 refine xo rfl (fun _=>oD) ?_
 iterate 4 refine xo rfl (fun _=>AX rfl CG DH vq rfl rfl) ?_
 refine xo rfl (fun _=>oD) (xo rfl (fun _=>Cb (IF) rfl rfl rfl) (xo rfl (fun _=>AX rfl CG DH vq rfl rfl) (xo rfl (fun _=>AX rfl CG DH vq rfl rfl) (xo rfl (fun _=>AX rfl CG DH vq rfl rfl) (xo rfl (fun _=>oD) (Cx.ef 0 rfl rfl AB (WS (xs:=[.tmp 35,.tmp 40,.tmp 45,.tmp 50,.tmp 55,.tmp 60,.tmp 65,.tmp 70,.tmp 75,.tmp 80,.tmp 85,.tmp 90,.tmp 95,.tmp 100,.tmp 105,.tmp 110]) (rows:=Ct) rfl rfl AB rfl rfl underlying319 GK Tv rfl AB ⟨⟨Aq,VL.le vq (Pr.le_trans (Co rfl) (AY _))⟩,⟨⟨Aq,VL.le vq (Pr.le_trans (Co rfl) (AY _))⟩,⟨⟨Aq,VL.le vq (Pr.le_trans (Co rfl) (AY _))⟩,⟨⟨Aq,VL.le vq (Pr.le_trans (Co rfl) (AY _))⟩,⟨⟨Aq,VL.le vq (Pr.le_trans (Co rfl) (AY _))⟩,⟨⟨Aq,VL.le vq (Pr.le_trans (Co rfl) (AY _))⟩,⟨⟨Aq,VL.le vq (Pr.le_trans (Co rfl) (AY _))⟩,⟨⟨Aq,VL.le vq (Pr.le_trans (Co rfl) (AY _))⟩,⟨⟨Aq,VL.le vq (Pr.le_trans (Co rfl) (AY _))⟩,⟨⟨Aq,VL.le vq (Pr.le_trans (Co rfl) (AY _))⟩,⟨⟨Aq,VL.le vq (Pr.le_trans (Co rfl) (AY _))⟩,⟨⟨Aq,VL.le vq (Pr.le_trans (Co rfl) (AY _))⟩,⟨⟨Aq,VL.le vq (Pr.le_trans (Co rfl) (AY _))⟩,⟨⟨Aq,VL.le vq (Pr.le_trans (Co rfl) (AY _))⟩,⟨⟨Aq,VL.le vq (Pr.le_trans (Co rfl) (AY _))⟩,⟨⟨Aq,VL.le vq (Pr.le_trans (Co rfl) (AY _))⟩,trivial⟩⟩⟩⟩⟩⟩⟩⟩⟩⟩⟩⟩⟩⟩⟩⟩ AB AB) ?_))))))
 refine Cx.ef 0 rfl rfl AB (Qc rfl rfl AB rfl vq) ?_
 refine Cx.nil ⟨by kernel_rfl,?_⟩
 refine BV.open_ 0 15 rfl rfl (fun v1=> ?_)
 refine BV.done al1 (Fin.go (wk [15] rfl (Tr.seq (Tr.seq (Tr.Nu 0 rfl fun b15 xY xy wN wO wP wQ=> ?_)))))
 subst wN
 refine ac ?_
 refine co rfl (Dw rfl underlying319 Er) ?_
 refine ac ?_
 refine Tr.block (Tr.Bc _ (kk [113,15] rfl) (fun k:Nat=>[(114,int ((k:Nat):Int))]) (fun k:Nat=>k≤(Ct.length)) (fun k:Nat=>(Ct.length)-k) 0 (Nat.zero_le _) kz ?_)
 rintro k Be
 refine ac ?_
 refine Tr.seq ?_
 refine Tr.cn rfl ?_ ?_<;>intro h1 q1
 have Ae:k<(Ct.length):=AV h1
 have wR:k<16:=Ae
 refine a2 ?_
 refine Tr.BL (tm rfl (tm rfl (tm rfl ?_)))
 refine tp rfl (LP rfl vq vq ?hin) ?_;case hin=>unfold Tg;omega
 refine tp rfl (DA rfl underlying319 GK Er vq AA AA) (tp rfl (AF rfl cV vq) ?_)
 refine TO.D7 0 rfl rfl (Bm rfl rfl vq (VL.le vq (dL _)) DC rfl (by rw [List.length_append,CV Vj];show _≤16*12+_;omega) (dM (j9 wR AA))) ?_
 refine TO.nil ?_
 refine a2 ?_
 exact Fin.AQ (k+1) ⟨Ae,by omega⟩ ⟨⟨_,rfl,AO k⟩,kz⟩
 have BM:k=(Ct.length):=by have:=AW h1;omega
 subst BM
 refine ac ?_
 refine Tr.seq ?_
 refine Tr.Qu (sz:=12) Ct 0 15 rfl rfl (Cz _ _) Vj wO wP (by rw [List.length_map];exact wQ) ?_
 refine a2 ?_
 · exact BF _ _
theorem dn {code:Int}  :Ay prog 258 [int code] (D_ [agg Cg,int (if 1≤code∧code≤16 then 0 else 8)]):=by
 refine fo func258 rfl ⟨rfl,rfl⟩ fun M0 w0=> ?_
 have hL:Ct.length=16:=rfl
 refine Tr.seq (Tr.BL ?_)
 refine Tl rfl rfl rfl rfl Tv L7 (fun b1=> ?_)
 refine ap ?_
 refine Tr.seq (Tr.CL (co rfl (Qx (ZP) rfl) ?_))
 refine ac ?_
 refine ag ?_ ?_<;>intro h1 q1
 refine ac ?_
 refine Tr.cond rfl (fun _=> ?_) (fun h=>nomatch h)
 refine Tr.seq (Tr.BL (tp rfl (Ax (rows:=[]) rfl Ye L7 trivial rfl) (TO.Ap 0 rfl rfl rfl vq CS rfl GK rfl rfl (tm rfl (TO.nil (Fin.go (wk [3,2] rfl (Tr.ret (Fin.AL (Fin.Cj rfl (AR.cell 0 rfl rfl Ih GK rfl Lr) (AR.tmp rfl Lr) ?_))))))))))
 · exact U_
 refine ac ?_
 refine cy h1 rfl (A8 rfl underlying319 vq) ?_
 refine an ?_ ?_<;>intro h2 q2
 refine ap ?_
 refine wk [3,2] rfl (Tr.ret (Fin.AL (Fin.Cj rfl (AR.cell 0 rfl rfl Ih GK rfl Lr) (AR.tmp rfl Lr) ?_)))
 · exact VB
 have hin:1≤code∧code≤16:=by omega
 refine ac ?_
 refine ap ?_
 refine tp rfl (AD rfl underlying319 GK vq vq AA (SJ AA)) ?_
 refine ap ?_
 refine wk [3,2] rfl (Tr.ret (Fin.Cj rfl (AR.cell 0 rfl rfl Ih GK rfl Lr) (AR.tmp rfl Lr) ?_))
 · exact BT ⟨Lr,int_eq (by rw [if_pos hin]),trivial⟩
theorem dw {bits id:Int} {l:List Hf} (hf:∀c∈l,c.fits):Ay prog 180 [agg [int Bw,int bits],int id,Je l] (bool (OE Bw bits id l)):=by
 refine fo func180 rfl ⟨rfl,rfl⟩ fun M0 w0=>(Tr.Ed 2 rfl fun ZQ=> ?_)
 refine a2 ?_
 refine co rfl (Bn (Q0) rfl rfl) ?_
 refine ag ?_ ?_<;>intro h1 q1
 refine ac ?_
 refine wk [27,3,2,1] rfl ?_
 refine a2 ?_
 · refine bool_eq ?_;rw [Ci];unfold Gw;simp_all;omega
 refine ac ?_
 refine cy h1 rfl (Bn (T4) rfl rfl) ?_
 refine ag ?_ ?_<;>intro h2 q2
 refine ac ?_
 refine wk [27,3,2,1] rfl ?_
 refine a2 ?_
 · refine bool_eq ?_;rw [Ci];unfold Gw;simp_all
 refine L5 h2 rfl (cy h2 rfl (Bn (UC) rfl rfl) ?_)
 refine ag ?_ ?_<;>intro h3 q3
 refine ac ?_
 refine wk [27,3,2,1] rfl ?_
 refine a2 ?_
 · refine bool_eq ?_;rw [Ci];unfold Gw;simp_all
 refine ac ?_
 refine wk [27,3,2,1] rfl ?_
 refine Tr.cn rfl ?_ ?_<;>intro h4 q4
 refine a2 ?_
 · refine bool_eq ?_;rw [Ci];unfold Gw;simp_all;omega
 refine a2 ?_
 refine Tr.block (Tr.Bc _ (kk [29,28,3,2,1] rfl) (fun k:Nat=>[(30,int ((k:Nat):Int))]) (fun k:Nat=>k≤(l).length∧(∀j y,j<k→l[j]? =some y→(!Cs y)=false)) (fun k:Nat=>(l).length-k) 0 (⟨Nat.zero_le _,fun j y hj=>absurd hj AA⟩) kz ?_)
 rintro k ⟨Be,AU⟩
 refine ac ?_
 refine Tr.seq ?_
 refine Tr.cn rfl ?_ ?_<;>intro h5 q5
 have Ae:k<(l).length:=AV h5
 obtain ⟨c,Af⟩:=at_ Ae
 have j_:=hf c (List.mem_of_getElem? Af)
 refine ac ?_
 refine Tr.seq (Tr.block (Tr.seq (Tr.BL (tp rfl (AD rfl underlying63 Df vq vq AA DP) ?_))))
 refine tp rfl (AX rfl HT Df vq rfl rfl) ?_
 refine Tl rfl rfl rfl rfl Qp L6 (fun b1=> ?_)
 refine sf 0 8 ⟨rfl,rfl,rfl⟩ rfl rfl rfl rfl ?_
 refine ao ?_
 · repeat' first|(refine bool_eq ?_;rw [Ci];unfold Gw;rw [HY (p:=Cs) Af Cc];simp)|exact Fin.AQ (k+1) ⟨⟨Ae,Dc (p:=fun c=> !Cs c) Af Cc AU⟩,by omega⟩ ⟨⟨_,rfl,AO k⟩,kz⟩|refine co rfl (Bn (ZN j_) rfl rfl) ?_|refine ac ?_|(refine Tr.cn rfl ?_ ?_<;>intro h q)
 have BM:k=(l).length:=by have:=AW h5;omega
 subst BM
 have hall:=E5 AU
 refine ac ?_
 refine ag ?_ ?_<;>intro h7 q7
 refine ac ?_
 refine wk [6] rfl ?_
 refine ac ?_
 · refine bool_eq ?_;rw [Ci];unfold Gw;rw [hall,PK Cc];simp_all
 obtain ⟨c0,hc0⟩:=at_ (l:=l) (k:=0) (by have:=h7;simp at this;exact List.length_pos_iff.2 this)
 refine L5 h7 rfl ?_
 refine cy h7 rfl (AD rfl underlying63 Df vq vq AA (Ak (k:=0) hc0)) ?_
 refine ac ?_
 refine cy h7 rfl (Mp rfl vq vq) (L5 h7 rfl ?_)
 refine Ch.cs 48 rfl ?_ ?_<;>intro h8 q8
 refine L5 h8 rfl ?_
 refine cy h8 rfl (AD rfl underlying63 Df vq vq AA (Ak (k:=0) hc0)) ?_
 refine ac ?_
 refine wk [6] rfl ?_
 refine ac ?_
 · refine bool_eq ?_;rw [Ci];unfold Gw;rw [hall,Kt hc0];clear hall AU hf hc0;simp_all;omega
 refine ac ?_
 refine wk [6] rfl ?_
 refine ac ?_
 · refine bool_eq ?_;rw [Ci];unfold Gw;rw [hall,Kt hc0];clear hall AU hf hc0;simp_all
theorem PL:Ay prog 179 [ints l] (bool (Q2 l)):=by
 refine fo func179 rfl ⟨rfl,rfl⟩ fun M0 w0=>(Tr.Ed 0 rfl fun Fh=> ?_)
 refine a2 ?_
 refine Tr.block (Tr.Bc _ (kk [5,0] rfl) (fun k:Nat=>[(6,int ((k:Nat):Int))]) (fun k:Nat=>k≤(l).length∧(∀j,j<k→FD l j=true)) (fun k:Nat=>(l).length-k) 0 (⟨Nat.zero_le _,fun j hj=>absurd hj AA⟩) kz ?_)
 rintro k ⟨Be,AU⟩
 refine ac ?_
 refine Tr.seq ?_
 refine Tr.cn rfl ?_ ?_<;>intro h1 q1
 have Ae:k<(l).length:=AV h1
 obtain ⟨x,Af⟩:=at_ Ae
 have hg:=getD_at (d:=(0:Int)) Af
 refine a2 ?_
 refine ag ?_ ?_<;>intro h2 q2
 have hk0:0<k:=by simpa using h2
 obtain ⟨y,hy⟩:=at_ (l:=l) (k:=k-1) AA
 have JW:=getD_at (d:=(0:Int)) hy
 · repeat' first|(refine bool_eq ?_;unfold Q2;exact (Dz (p:=FD l) (k:=k) AA (by unfold FD;rw [hg,JW];simp_all;omega)).symm)|(exact Fin.AQ (k+1) ⟨⟨Ae,Bo AU (by unfold FD;rw [hg,JW];simp_all)⟩,by omega⟩ ⟨⟨_,rfl,AO k⟩,kz⟩)|(refine cy h2 rfl (AD rfl underlying22 DC vq vq AA Eu) ?_)|refine cy h2 rfl (AD rfl underlying22 DC vq vq AA (Ak Af)) ?_|refine ac ?_|(refine Tr.cn rfl ?_ ?_<;>intro h q)
 refine ac ?_
 refine wk [22,6,5,0] rfl ?_
 refine a2 ?_
 exact Fin.AQ (k+1) ⟨⟨Ae,Bo AU (by unfold FD;rw [hg];simp_all)⟩,by omega⟩ ⟨⟨_,rfl,AO k⟩,kz⟩
 have BM:k=(l).length:=by have:=AW h1;omega
 subst BM
 refine a3 ?_
 · refine bool_eq ?_;unfold Q2;exact (Il AU).symm
theorem kC {n:Int}  :Ay prog 183 [int n] (bool (Iu n)):=by
 refine fo func183 rfl ⟨rfl,rfl⟩ fun M0 w0=> ?_
 refine a2 ?_
 refine co rfl (Bn (T4) rfl rfl) ?_
 refine a2 ?_
 · exact Lr
theorem e_hash:Entry Tryz.prog 183:=⟨_,Tryz.func183,rfl,rfl⟩
theorem ZR:Ay prog 178 [ints l] (bool (FV l)):=by
 refine fo func178 rfl ⟨rfl,rfl⟩ fun M0 w0=>(Tr.Ed 0 rfl fun Fh=> ?_)
 refine a2 ?_
 refine Tr.block (Tr.Bc _ (kk [8,7,0] rfl) (fun k:Nat=>[(9,int ((k:Nat):Int))]) (fun k:Nat=>k≤(l).length∧(∀j,j<k→Dt l j=true)) (fun k:Nat=>(l).length-k) 0 (⟨Nat.zero_le _,fun j hj=>absurd hj AA⟩) kz ?_)
 rintro k ⟨Be,AU⟩
 refine ac ?_
 refine Tr.seq ?_
 refine Tr.cn rfl ?_ ?_<;>intro h1 q1
 have Ae:k<(l).length:=AV h1
 obtain ⟨x,Af⟩:=at_ Ae
 have hg:=getD_at (d:=(0:Int)) Af
 refine a2 ?_
 refine co rfl (AD rfl underlying22 DC vq vq AA DP) ?_
 refine ac ?_
 refine ao ?_
 refine tp rfl (Bn (dn) rfl rfl) ?_
 refine ao ?_
 refine Tl rfl rfl rfl rfl Tv L7 (fun b1=> ?_)
 refine sf 0 5 ⟨rfl,rfl,rfl⟩ rfl rfl rfl rfl ?_
 refine ao ?_
 refine wk [9,8,7,6,4,3,0] rfl ?_
 refine ag ?_ ?_<;>intro h2 q2
 have kD:¬(1≤x∧x≤16):=by intro hh;rw [if_pos hh] at h2;exact absurd h2 AB
 refine ac ?_
 refine wk [27,9,8,7,0] rfl ?_
 refine a2 ?_
 · refine bool_eq ?_;unfold FV;exact (Dz (p:=Dt l) (k:=k) AA (by unfold Dt;rw [hg];rw [decide_eq_false kD];rfl)).symm
 have hin:1≤x∧x≤16:=by refine Decidable.byContradiction fun hh=> ?_;rw [if_neg hh] at h2;exact absurd h2 AB
 refine ac ?_
 refine cy h2 rfl (Eh rfl underlying22 DC vq vq AA CK) ?_
 refine L5 h2 rfl ?_
 · repeat' first|(refine bool_eq ?_;unfold FV;exact (Dz (p:=Dt l) (k:=k) AA QC).symm)|(exact Fin.AQ (k+1) ⟨⟨Ae,Bo AU QC⟩,by omega⟩ ⟨⟨_,rfl,AO k⟩,kz⟩)|refine cy h2 rfl (Ad rfl (Io (l:=l.take k) (v:=x)) ⟨⟨_,rfl,Pr.le_of_eq (by rw [←List.map_take,Int.toNat_natCast])⟩,kz⟩) ?_|refine ac ?_|(refine Tr.cn rfl ?_ ?_<;>intro h q)
 have BM:k=(l).length:=by have:=AW h1;omega
 subst BM
 refine a3 ?_
 · refine bool_eq ?_;unfold FV;exact (Il AU).symm
theorem kE {p:Int→Bool} {n:Int}  :Ay prog 182 [int n,ref [VG prog (fun x:Int=>[int x]) (fun x=>bool (p x))]] (bool (!p n)):=by
 refine fo func182 rfl ⟨rfl,rfl⟩ fun M0 w0=> ?_
 refine a2 ?_
 refine co rfl (Gz n rfl vq kz) ?_
 refine a2 ?_
 · exact Lr
theorem kF:Entry Tryz.prog 182:=⟨_,Tryz.func182,rfl,rfl⟩
theorem rL {p:Int→Bool}  :Ay prog 181 [VG prog (fun x:Int=>[int x]) (fun x=>bool (p x))] (VG prog (fun x:Int=>[int x]) (fun x=>bool (!p x))):=by
 refine fo func181 rfl ⟨rfl,rfl⟩ fun M0 w0=> ?_
 refine a3 ?_
 · exact FJ kF (fun x=>kE (p:=p) (n:=x))
theorem rM:Entry Tryz.prog 181:=⟨_,Tryz.func181,rfl,rfl⟩
theorem DW (hf:e.fits):Ay prog 109 [agg (Am e)] (int (if CA e then 0 else 19)):=by
 refine fo func109 rfl ⟨rfl,rfl⟩ fun M0 w0=> ?_
 refine a2 ?_
 refine co rfl (Bn (j6 hf.name) rfl rfl) ?_
 refine ag ?_ ?_<;>intro h1 q1
 refine ac ?_
 refine wk [32,1] rfl ?_
 refine a2 ?_
 · exact MY
 refine ag ?_ ?_<;>intro h2 q2
 refine ac ?_
 refine wk [32,1] rfl ?_
 refine a2 ?_
 · exact KR
 refine ag ?_ ?_<;>intro h3 q3
 refine ac ?_
 refine wk [32,1] rfl ?_
 refine a2 ?_
 · exact KR
 refine ag ?_ ?_<;>intro h4 q4
 refine ac ?_
 refine wk [32,1] rfl ?_
 refine a2 ?_
 · exact KR
 refine ac ?_
 refine cy h4 rfl (Bn (ZR) rfl rfl) ?_
 refine ac ?_
 refine wk [32,1] rfl ?_
 refine Tr.cn rfl ?_ ?_<;>intro h5 q5
 refine a2 ?_
 · exact MY
 refine ac ?_
 refine ag ?_ ?_<;>intro h6 q6
 refine ac ?_
 refine wk [54,1] rfl ?_
 refine a2 ?_
 · exact KR
 refine ag ?_ ?_<;>intro h7 q7
 refine ac ?_
 refine wk [54,1] rfl ?_
 refine a2 ?_
 · exact KR
 refine ac ?_
 refine cy h7 rfl (Bn (PL) rfl rfl) ?_
 refine ag ?_ ?_<;>intro h8 q8
 refine ac ?_
 refine wk [54,1] rfl ?_
 refine a2 ?_
 · exact MY
 refine ac ?_
 refine cy h8 rfl (Bn (PL) rfl rfl) ?_
 refine ac ?_
 refine wk [54,1] rfl ?_
 refine Tr.cn rfl ?_ ?_<;>intro h9 q9
 refine a2 ?_
 · exact MY
 refine a2 ?_
 refine Tr.block (Tr.Bc _ (kk [57,56,1] rfl) (fun k:Nat=>[(58,int ((k:Nat):Int))]) (fun k:Nat=>k≤(e.ids).length∧(∀j y,j<k→e.ids[j]? =some y→(!Wb y)=false)) (fun k:Nat=>(e.ids).length-k) 0 (⟨Nat.zero_le _,fun j y hj=>absurd hj AA⟩) kz ?_)
 rintro k ⟨Be,AU⟩
 refine ac ?_
 refine Tr.seq ?_
 refine Tr.cn rfl ?_ ?_<;>intro h10 SH
 have Ae:k<(e.ids).length:=AV h10
 obtain ⟨x,Af⟩:=at_ Ae
 have hxf:=hf.ids x (List.mem_of_getElem? Af)
 refine ac ?_
 refine Tr.seq (Tr.block (Tr.seq (Tr.BL (tp rfl (AD rfl underlying77 Bl vq vq AA DP) ?_))))
 refine tp rfl (AX rfl Fe Bl vq rfl rfl) ?_
 refine Tl rfl rfl rfl rfl LW Js (fun b1=> ?_)
 refine sf 0 4 ⟨rfl,rfl,rfl⟩ rfl rfl rfl rfl ?_
 refine ao ?_
 · repeat' first|(refine int_eq ?_;unfold CA;rw [HY (p:=Wb) Af (by unfold Wb;simp_all)];simp)|(exact Fin.AQ (k+1) ⟨⟨Ae,Dc (p:=fun c=> !Wb c) Af (by unfold Wb;simp_all) AU⟩,by omega⟩ ⟨⟨_,rfl,AO k⟩,kz⟩)|refine co rfl (kc3 (dw hxf) rfl rfl rfl rfl) ?_|refine ac ?_|(refine Tr.cn rfl ?_ ?_<;>intro h q)
 have BM:k=(e.ids).length:=by have:=AW h10;omega
 subst BM
 have hall:=E5 AU
 refine a2 ?_
 refine Tr.seq (Tr.seq (Tr.re 5 rfl (FJ (dom:=fun p:Int→Bool=>[VG prog (fun x:Int=>[int x]) (fun x=>bool (p x))]) (res:=fun p=>VG prog (fun x:Int=>[int x]) (fun x=>bool (!p x))) rM (fun p=>rL (p:=p))) ?_))
 refine ac ?_
 refine co rfl (Gz FZ rfl (vl rfl) ⟨⟨_,rfl,FJ (dom:=fun n:Int=>[int n]) (res:=fun n=>bool (FZ n)) j7 (fun n=>UC (n:=n))⟩,trivial⟩) ?_
 refine co rfl (Cb (IE (l:=e.anchors) (p:=fun n=> !FZ n)) rfl rfl rfl) ?_
 refine cm rfl ?_
 · repeat' first|(refine int_eq ?_;unfold CA;rw [if_neg];intro hh;simp only [Bool.and_eq_true] at hh;have g1:=hh.1.2;have g2:=hh.2;clear hh AU hf hall;simp only [Vi,g1,g2,Bool.not_true,Bool.false_eq_true] at*)|(refine int_eq ?_;unfold CA;simp_all;omega)|refine cy h rfl (Gz Iu rfl (vl rfl) ⟨⟨_,rfl,FJ (dom:=fun n:Int=>[int n]) (res:=fun n=>bool (Iu n)) e_hash (fun n=>kC (n:=n))⟩,trivial⟩) ?_|refine cy h rfl (Cb (IE (l:=e.hashes) (p:=fun n=> !Iu n)) rfl rfl rfl) ?_|refine ac ?_|(refine Tr.cn rfl ?_ ?_<;>intro h q)|(refine Ch.cg rfl rfl rfl ?_ ?_<;>intro h q)
theorem Ku {β γ:Type} {f:β→γ} {l:List β} (h:l≠[]):0<(l.map f).length:=by rw [List.length_map];exact List.length_pos_iff.2 h
theorem PM {l:List (Int)} (h0:l≠[]) (hl:l.length≤1000000):BN prog 159 [slice 1 (l.map (fun n:Int=>[int n]))] (lens (l.map (fun n:Int=>[int n])).length) (BW) (fun v=>C3 3 1 (l.map (fun n:Int=>[int n])) v):=by
 refine BN.of func159 rfl rfl Ai fun M0 w0 S rs M1 w1=> ?_
 have hpos:=Ku (f:=(fun n:Int=>[int n])) h0
 refine a2 ?_
 refine co rfl (EM rfl underlying22 vq) ?_
 refine ac ?_
 refine Tr.ex 4 rfl (fun z1=>Tr.fact 4 rfl fun JD=> ?_)
 refine Tr.cn rfl ?_ ?_<;>intro h1 q1
 exfalso;have:=JD h1;simp_all
 refine ac ?_
 refine ap ?_
 refine TO.pad ?_
 refine TO.Fw 0 rfl rfl AB (FM rfl rfl AB rfl underlying22 DC S9 z3 rfl AB AB vq vq hpos MS CT) (fun v1=> ?_)
 refine ap ?_
 refine Tr.ret (Fin.drop 1 ?_)
 refine Fin.Gc rfl rfl ?_ I5
 · exact BF _ _
theorem PN   :Ay prog 159 [slice 1 []] (full 1 []):=by
 refine fo func159 rfl ⟨rfl,rfl⟩ fun M0 w0=> ?_
 refine a2 ?_
 refine co rfl (EM rfl underlying22 vq) ?_
 refine ac ?_
 refine Tr.ex 4 rfl (fun z1=>Tr.fact 4 rfl fun JD=> ?_)
 · exact Xu
theorem C6 {l:List (Int)} (hl:l.length≤1000000):Ay Tryz.prog 159 [slice 1 (l.map (fun n:Int=>[int n]))] (slice 1 (l.map (fun n:Int=>[int n]))):=by
 by_cases h0:l=[]
 · subst h0;exact Ay.le PN (fun _ _ _ h=>h) (BC _ _)
 · exact (BN.pZ (rows:=(l.map (fun n:Int=>[int n]))) (Aj fun _=>rfl) (PM h0 hl)).pure
theorem Ld {l:List (Int)} (hl:l.length≤1000000):BN Tryz.prog 159 [slice 1 (l.map (fun n:Int=>[int n]))] (lens l.length) BW (fun v=>Ac 3 1 (l.map (fun n:Int=>[int n])) v):=by
 by_cases h0:l=[]
 · subst h0;exact BN.N6 PN
 ·
  have:=BN.J7 QJ (PM h0 hl)
  rwa [List.length_map] at this
theorem Wd {l:List (D9)} (h0:l≠[]) (hl:l.length≤1000000):BN prog 160 [slice 4 (l.map BJ)] (lens (l.map BJ).length) (BW) (fun v=>C3 65 4 (l.map BJ) v):=by
 refine BN.of func160 rfl rfl Ai fun M0 w0 S rs M1 w1=> ?_
 have hpos:=Ku (f:=BJ) h0
 refine a2 ?_
 refine co rfl (EM rfl underlying77 vq) ?_
 refine ac ?_
 refine Tr.ex 4 rfl (fun z1=>Tr.fact 4 rfl fun JD=> ?_)
 refine Tr.cn rfl ?_ ?_<;>intro h1 q1
 exfalso;have:=JD h1;simp_all
 refine ac ?_
 refine ap ?_
 refine TO.pad ?_
 refine TO.Fw 0 rfl rfl AB (FM rfl rfl AB rfl underlying77 Bl Og LW rfl AB AB vq vq hpos MS CT) (fun v1=> ?_)
 refine ap ?_
 refine Tr.ret (Fin.drop 1 ?_)
 refine Fin.Gc rfl rfl ?_ I5
 · exact BF _ _
theorem We   :Ay prog 160 [slice 4 []] (full 4 []):=by
 refine fo func160 rfl ⟨rfl,rfl⟩ fun M0 w0=> ?_
 refine a2 ?_
 refine co rfl (EM rfl underlying77 vq) ?_
 refine ac ?_
 refine Tr.ex 4 rfl (fun z1=>Tr.fact 4 rfl fun JD=> ?_)
 · repeat' first|exact EI 4|exact Lr|refine co rfl (IW rfl underlying77 Bl vq vq) ?_|refine ac ?_|(refine Tr.cn rfl ?_ ?_<;>intro h q)
theorem HA {l:List (D9)} (hl:l.length≤1000000):BN Tryz.prog 160 [slice 4 (l.map BJ)] (lens l.length) BW (fun v=>Ac 65 4 (l.map BJ) v):=by
 by_cases h0:l=[]
 · subst h0;exact BN.N6 We
 ·
  have:=BN.J7 QJ (Wd h0 hl)
  rwa [List.length_map] at this
theorem Wf {l:List (Hf)} (h0:l≠[]) (hl:l.length≤925904528640):BN prog 224 [slice 15 (l.map DV)] (lens (l.map DV).length) (BW) (fun v=>C3 129 15 (l.map DV) v):=by
 refine BN.of func224 rfl rfl Ai fun M0 w0 S rs M1 w1=> ?_
 have hpos:=Ku (f:=DV) h0
 refine a2 ?_
 refine co rfl (EM rfl underlying63 vq) ?_
 refine ac ?_
 refine Tr.ex 4 rfl (fun z1=>Tr.fact 4 rfl fun JD=> ?_)
 refine Tr.cn rfl ?_ ?_<;>intro h1 q1
 exfalso;have:=JD h1;simp_all
 refine ac ?_
 refine ap ?_
 refine TO.pad ?_
 refine TO.Fw 0 rfl rfl AB (FM rfl rfl AB rfl underlying63 Df gM Qp rfl AB AB vq vq hpos MS CT) (fun v1=> ?_)
 refine ap ?_
 refine Tr.ret (Fin.drop 1 ?_)
 refine Fin.Gc rfl rfl ?_ I5
 · exact BF _ _
theorem Wg   :Ay prog 224 [slice 15 []] (full 15 []):=by
 refine fo func224 rfl ⟨rfl,rfl⟩ fun M0 w0=> ?_
 refine a2 ?_
 refine co rfl (EM rfl underlying63 vq) ?_
 refine ac ?_
 refine Tr.ex 4 rfl (fun z1=>Tr.fact 4 rfl fun JD=> ?_)
 · repeat' first|exact EI 15|exact Lr|refine co rfl (IW rfl underlying63 Df vq vq) ?_|refine ac ?_|(refine Tr.cn rfl ?_ ?_<;>intro h q)
theorem Wh {l:List (Hf)} (hl:l.length≤925904528640):BN Tryz.prog 224 [slice 15 (l.map DV)] (lens l.length) BW (fun v=>Ac 129 15 (l.map DV) v):=by
 by_cases h0:l=[]
 · subst h0;exact BN.N6 Wg
 ·
  have:=BN.J7 QJ (Wf h0 hl)
  rwa [List.length_map] at this
theorem Wi {l:List (List UInt8)} (h0:l≠[]) (hl:l.length≤8796093022208):BN prog 225 [slice 1 (l.map (fun t:List UInt8=>[str t]))] (lens (l.map (fun t:List UInt8=>[str t])).length) (BW) (fun v=>C3 9 1 (l.map (fun t:List UInt8=>[str t])) v):=by
 refine BN.of func225 rfl rfl Ai fun M0 w0 S rs M1 w1=> ?_
 have hpos:=Ku (f:=(fun t:List UInt8=>[str t])) h0
 refine a2 ?_
 refine co rfl (EM rfl underlying73 vq) ?_
 refine ac ?_
 refine Tr.ex 4 rfl (fun z1=>Tr.fact 4 rfl fun JD=> ?_)
 refine Tr.cn rfl ?_ ?_<;>intro h1 q1
 exfalso;have:=JD h1;simp_all
 refine ac ?_
 refine ap ?_
 refine TO.pad ?_
 refine TO.Fw 0 rfl rfl AB (FM rfl rfl AB rfl underlying73 LV by9 z9 rfl AB AB vq vq hpos MS CT) (fun v1=> ?_)
 refine ap ?_
 refine Tr.ret (Fin.drop 1 ?_)
 refine Fin.Gc rfl rfl ?_ I5
 · exact BF _ _
theorem Wj   :Ay prog 225 [slice 1 []] (full 1 []):=by
 refine fo func225 rfl ⟨rfl,rfl⟩ fun M0 w0=> ?_
 refine a2 ?_
 refine co rfl (EM rfl underlying73 vq) ?_
 refine ac ?_
 refine Tr.ex 4 rfl (fun z1=>Tr.fact 4 rfl fun JD=> ?_)
 · repeat' first|exact EI 1|exact Lr|refine co rfl (IW rfl underlying73 LV vq vq) ?_|refine ac ?_|(refine Tr.cn rfl ?_ ?_<;>intro h q)
theorem Wk {l:List (List UInt8)} (hl:l.length≤8796093022208):Ay Tryz.prog 225 [slice 1 (l.map (fun t:List UInt8=>[str t]))] (slice 1 (l.map (fun t:List UInt8=>[str t]))):=by
 by_cases h0:l=[]
 · subst h0;exact Ay.le Wj (fun _ _ _ h=>h) (BC _ _)
 · exact (BN.pZ (rows:=(l.map (fun t:List UInt8=>[str t]))) (Aj fun _=>rfl) (Wi h0 hl)).pure
theorem ZS {l:List D9} {p:D9→Bool}  :Ay prog 340 [FP l,VG prog (fun x:D9=>[agg (BJ x)]) (fun x=>bool (p x))] (int (idx p l)):=by
 refine fo func340 rfl ⟨rfl,rfl⟩ fun M0 w0=>(Tr.Ed 0 rfl fun Fh=> ?_)
 refine a2 ?_
 refine Tr.block (Tr.Bc _ (kk [7,1,0] rfl) (fun k:Nat=>[(8,int ((k:Nat):Int))]) (fun k:Nat=>k≤(l).length∧(∀j y,j<k→l[j]? =some y→p y=false)) (fun k:Nat=>(l).length-k) 0 (⟨Nat.zero_le _,fun j y hj=>absurd hj AA⟩) kz ?_)
 rintro k ⟨Be,AU⟩
 refine ac ?_
 refine Tr.seq ?_
 refine Tr.cn rfl ?_ ?_<;>intro h1 q1
 have Ae:k<(l).length:=AV h1
 obtain ⟨x,Af⟩:=at_ Ae
 · repeat' first|exact int_eq (FN Af DE AU)|exact Fin.AQ (k+1) ⟨⟨Ae,Dc Af DE AU⟩,by omega⟩ ⟨⟨_,rfl,AO k⟩,kz⟩|refine co rfl (AD rfl underlying77 Bl vq vq AA DP) ?_|refine co rfl (AX rfl Fe Bl vq rfl rfl) (co rfl (Gz x rfl vq kz) ?_)|refine ac ?_|(refine Tr.cn rfl ?_ ?_<;>intro h q)
 have BM:k=(l).length:=by have:=AW h1;omega
 subst BM
 refine a3 ?_
 · exact MZ
theorem kG {l:List D9} {p:D9→Bool}  :Ay prog 293 [FP l,VG prog (fun x:D9=>[agg (BJ x)]) (fun x=>bool (p x))] (bool (l.any p)):=by
 refine fo func293 rfl ⟨rfl,rfl⟩ fun M0 w0=> ?_
 refine a2 ?_
 refine co rfl (Cb (ZS) rfl rfl rfl) ?_
 refine a2 ?_
 · exact bool_eq (Kr p l)
theorem dx {l:List (Int)} {b0:Nat} (hi:i<l.length) (hl:l.length≤1000000) (hc:l.length≤cap) (hm:cap≤maxLen) (hq:sp.length=(cap-l.length)*1):BN prog 289 [Ao (.slice (some ⟨b0,0,none⟩) l.length cap) (lens l.length),int ((i:Nat):Int),int (((i:Nat):Int)+1)] (lens (l.length-1)) (AE true b0 3 ((l.map (fun n:Int=>[int n])).flatten++sp.map is)) (fun v=>Bf 3 1 ((l.eraseIdx i).map (fun n:Int=>[int n])) v):=by
 refine BN.of func289 rfl rfl Ai fun M0 w0 S rs M1 w1=> ?_
 have Uw:((l.map (fun n:Int=>[int n])).flatten).length=l.length*1:=by rw [CV (sz:=1) (Aj fun _=>rfl),List.length_map]
 have e1:(((i:Nat):Int)+(1:Int)).toNat=i+1:=by omega
 have e2:((i:Nat):Int).toNat=i:=by omega
 refine a2 ?_
 refine co rfl (Dw rfl underlying22 Er) (co rfl (Ik rfl underlying22 DC Er vq vq vq AA AA AA AA) ?_)
 refine ac ?_
 refine an ?_ ?_<;>intro h1 q1
 exfalso;have:=q1;omega
 refine a2 ?_
 refine co rfl (Dw rfl underlying22 Er) ?_
 refine ac ?_
 refine Tr.seq (Tr.DI mixed 6 BD (AM.op rfl rfl AB (BU rfl vq) (AM.op rfl rfl AB (BU rfl vq) (AM.op rfl rfl AB (Fg rfl underlying22 DC Er vq AA AA AA AA) (AM.op rfl rfl AB (BU rfl vq) (AM.op rfl rfl AB (BU rfl vq) (AM.op rfl rfl AB (Jc rfl underlying22 DC Er vq AA AA AA) ?_)))))))
 refine AM.turn _ rfl AB (Vb 0 rfl (N7 rfl rfl AB rfl underlying22 DC vq vq AA MV MV rfl)) ?_
 refine ac ?_
 refine wk [7,0] rfl ?_
 refine ap ?_
 refine tp rfl (Dw rfl underlying22 vq) (tm rfl (tp rfl (Kq rfl underlying22 DC vq vq vq AA AA AA) ?_))
 refine TO.D7 0 rfl rfl (SA rfl rfl underlying22 DC z3 rfl AB AB vq AA Uz rfl) ?_
 refine ap ?_
 refine ac ?_
 refine Tr.ret ?_
 refine Fin.J5 (sz:=1) 0 rfl (rows:=((l.eraseIdx i).map (fun n:Int=>[int n]))) (sp:=[.int .i64 0]++sp) (m:=i+(l.length-(i+1))) ((PF (N:=l.length*1) (a:=i*1) (z:=1) (S:=sp.map is) Uw AA AA AA AA AA AA AA (B:=_) rfl).trans (by rw [List.map_append,←PD (f:=(fun n:Int=>[int n])) (sz:=1) (fun _=>rfl),Nat.succ_mul,pg]<;>omega)) VD AA hm U5 ?_
 refine Fin.Gc rfl rfl ?_ HH
 · exact MT
theorem dy:Entry Tryz.prog 289:=⟨_,Tryz.func289,rfl,rfl⟩
theorem dz {l:List (D9)} {b0:Nat} (hi:i<l.length) (hl:l.length≤1000000) (hc:l.length≤cap) (hm:cap≤maxLen) (hq:sp.length=(cap-l.length)*4):BN prog 295 [Ao (.slice (some ⟨b0,0,none⟩) l.length cap) (lens l.length),int ((i:Nat):Int),int (((i:Nat):Int)+1)] (lens (l.length-1)) (AE true b0 65 ((l.map BJ).flatten++sp.map is)) (fun v=>Bf 65 4 ((l.eraseIdx i).map BJ) v):=by
 refine BN.of func295 rfl rfl Ai fun M0 w0 S rs M1 w1=> ?_
 have Uw:((l.map BJ).flatten).length=l.length*4:=by rw [CV (sz:=4) (Aj fun _=>rfl),List.length_map]
 have e1:(((i:Nat):Int)+(1:Int)).toNat=i+1:=by omega
 have e2:((i:Nat):Int).toNat=i:=by omega
 refine a2 ?_
 refine co rfl (Dw rfl underlying77 Er) (co rfl (Ik rfl underlying77 Bl Er vq vq vq AA AA AA AA) ?_)
 refine ac ?_
 refine an ?_ ?_<;>intro h1 q1
 exfalso;have:=q1;omega
 refine a2 ?_
 refine co rfl (Dw rfl underlying77 Er) ?_
 refine ac ?_
 refine Tr.seq (Tr.DI mixed 6 BD (AM.op rfl rfl AB (BU rfl vq) (AM.op rfl rfl AB (BU rfl vq) (AM.op rfl rfl AB (Fg rfl underlying77 Bl Er vq AA AA AA AA) (AM.op rfl rfl AB (BU rfl vq) (AM.op rfl rfl AB (BU rfl vq) (AM.op rfl rfl AB (Jc rfl underlying77 Bl Er vq AA AA AA) ?_)))))))
 refine AM.turn _ rfl AB (Vb 0 rfl (N7 rfl rfl AB rfl underlying77 Bl vq vq AA MV MV rfl)) ?_
 refine ac ?_
 refine wk [7,0] rfl ?_
 refine ap ?_
 refine tp rfl (Dw rfl underlying77 vq) (tm rfl (tp rfl (Kq rfl underlying77 Bl vq vq vq AA AA AA) ?_))
 refine TO.D7 0 rfl rfl (SA rfl rfl underlying77 Bl LW rfl AB AB vq AA Uz rfl) ?_
 refine ap ?_
 refine ac ?_
 refine Tr.ret ?_
 refine Fin.J5 (sz:=4) 0 rfl (rows:=((l.eraseIdx i).map BJ)) (sp:=[.int .i64 0,.int .i64 0,.int .i64 0,.slice none 0 0]++sp) (m:=i+(l.length-(i+1))) ((PF (N:=l.length*4) (a:=i*4) (z:=4) (S:=sp.map is) Uw AA AA AA AA AA AA AA (B:=_) rfl).trans (by rw [List.map_append,←PD (f:=BJ) (sz:=4) (fun _=>rfl),Nat.succ_mul,pg]<;>omega)) VD AA hm U5 ?_
 refine Fin.Gc rfl rfl ?_ HH
 · exact MT
theorem d_:Entry Tryz.prog 295:=⟨_,Tryz.func295,rfl,rfl⟩
theorem eA {l:List (Int)} {x:Int} {b0:Nat} (hi:i≤l.length) (hl:l.length≤1000000) (hc:l.length≤cap) (hm:cap≤maxLen) (hq:sp.length=(cap-l.length)*1):BN prog 339 [Ao (.slice (some ⟨b0,0,none⟩) l.length cap) (lens l.length),int ((i:Nat):Int),slice 1 [[int x]]] (lens (l.length+1)) (AE true b0 3 ((l.map (fun n:Int=>[int n])).flatten++sp.map is)) (fun v=>Bf 3 1 ((l.take i++[x]++l.drop i).map (fun n:Int=>[int n])) v):=by
 refine BN.of func339 rfl rfl Ai fun M0 w0 S rs M1 w1=> ?_
 have NH:([[int x]]:List (List Pr)).flatten.length=1:=rfl
 have MG:([[int x]]:List (List Pr)).length=1:=rfl
 have Uw:((l.map (fun n:Int=>[int n])).flatten).length=l.length*1:=by rw [CV (sz:=1) (Aj fun _=>rfl),List.length_map]
 have e1:(((i:Nat):Int)+(1:Int)).toNat=i+1:=by omega
 have e2:((i:Nat):Int).toNat=i:=by omega
 refine a2 ?_
 refine co rfl (Ko rfl underlying22 DC Er vq AA AA AA) ?_
 refine a2 ?_
 refine co rfl (A8 rfl underlying22 vq) ?_
 refine ac ?_
 refine an ?_ ?_<;>intro h1 q1
 simp at h1
 refine a2 ?_
 refine co rfl (Dw rfl underlying22 Er) ?_
 refine a2 ?_
 refine wk [22,8,7,2,1,0] rfl ?_
 refine Tr.cn rfl ?_ ?_<;>intro h2 q2
 refine Tr.seq (Tr.J4 (sz:=1) 0 rfl (rows:=l.map (fun n:Int=>[int n])) (sp:=sp) rfl Aa hc hm hq ?_)
 refine ap ?_
 refine TO.Fw 0 rfl rfl AB (Di rfl rfl AB rfl underlying22 DC S9 z3 rfl AB AB (vl rfl) (vl rfl) (Aj fun _=>rfl) (Nat.zero_lt_succ _) IU IV) (fun v1=> ?_)
 refine ap ?_
 refine Tr.ret (Fin.AL ?_)
 refine Fin.Gc rfl rfl ?_ Xz
 · exact Pr.le_trans (BF _ _) (Pr.le_of_eq Aa)
 refine a2 ?_
 refine co rfl (VY rfl underlying22 Er) ?_
 refine an ?_ ?_<;>intro h3 q3
 refine ap ?_
 refine tp rfl (Fg rfl underlying22 DC Er vq AA AA AA AA) ?_
 refine ap ?_
 refine TO.pad ?_
 refine TO.gm 0 1 rfl rfl rfl rfl AB rfl underlying22 underlying3 DC S9 z3 rfl AB AB vq vq (i:=i) (k:=l.length+1-i) AA FA AA AA (by unfold maxLen;omega) AA (fun b1 kH kI hg1 hm1 hs1=> ?_)
 refine ap ?_
 refine wk [9,7,2,1,0] rfl (Tr.seq ?_)
 have hsz:kI.length=(kH-i)*1:=by have:=hs1;rw [List.length_take,List.length_append,Uw] at this;omega
 refine Tr.Qu (sz:=1) (l.map (fun n:Int=>[int n])) 1 0 rfl rfl (Pr.le_trans (Cz _ _) (Pr.le_of_eq Aa)) (Aj fun _=>rfl) (by rw [List.length_map];exact hc) hm (by rw [List.length_map,List.length_map];omega) ?_
 refine ap ?_
 refine tp rfl (B4 rfl underlying22 DC vq vq AA AA AA) (tm rfl ?_)
 refine TO.Kg 0 rfl rfl AB (G9 rfl rfl rfl underlying22 DC AB vq vq AA AA FA rfl) ?_
 refine ap ?_
 refine Tr.seq (Tr.rx ?_)
 refine ay ?_
 refine xo rfl (fun _=>B4 rfl underlying22 DC vq vq AA AA AA) ?_
 refine ay ?_
 refine xo rfl (fun _=>DB rfl underlying22 DC L9 vq AA CK) ?_
 refine Cx.ef 0 rfl rfl AB (G9 rfl rfl rfl underlying22 DC AB vq vq FA FA FA rfl) ?_
 refine Cx.nil ⟨by kernel_rfl,?_⟩
 refine BV.done bF (Fin.go (wk [9] rfl ?_))
 refine ac ?_
 refine Tr.ret (Fin.AL ?_)
 refine Fin.J5 (sz:=1) 0 rfl (rows:=((l.take i++[x]++l.drop i).map (fun n:Int=>[int n]))) (sp:=kI.drop ((l.length+1-i)*1)) (m:=i+(l.length+1-i)) (N9 (a:=i*1) (z:=1) (Z:=kI.map is) (N:=l.length*1) Uw AA rfl CT AA AA AA AA (by rw [List.length_drop,List.length_map];omega) (by rw [←List.map_drop,GL (f:=(fun n:Int=>[int n])) (sz:=1) (fun _=>rfl),e2]) (by rw [List.map_drop,show (l.length+1-i)*1=l.length*1+1-i*1 by omega,←JJ (f:=(fun n:Int=>[int n])) (sz:=1) (l:=l) (i:=i) (x:=x) (fun _=>rfl)];rfl)) Px AA hm1 IX ?_
 refine Fin.drop 1 ?_
 refine Fin.Gc rfl rfl ?_ HH
 · exact MT
 refine a2 ?_
 refine co rfl (Kn rfl underlying22 DC Er vq AA AA AA) ?_
 refine ac ?_
 refine wk [8,7,2,1,0] rfl ?_
 refine ap ?_
 refine tp rfl (B4 rfl underlying22 DC vq vq AA AA AA) ?_
 refine TO.rd 0 rfl rfl rfl AB (L8 (tR:=4) rfl func320 BD BD BD BD underlying22 DC AB vq (by exact Nat.zero_lt_succ _) vq FA) ?_
 refine ap ?_
 refine Tr.cn rfl ?_ ?_<;>intro h4 q4
 refine Tr.seq (Tr.rx ?_)
 refine ay ?_
 refine xo rfl (fun _=>B4 rfl underlying22 DC vq vq AA AA AA) ?_
 refine ay ?_
 refine xo rfl (fun _=>B4 rfl underlying22 DC vq vq AA AA AA) ?_
 refine Cx.ef 0 rfl rfl AB (SB (m:=l.length-i) rfl rfl rfl underlying22 DC vq vq (by show _=min _ _;omega) FA FA rfl) ?_
 refine Cx.nil ⟨by kernel_rfl,?_⟩
 refine BV.done Xd (Fin.go (wk [2,1,0] rfl ?_))
 refine ap ?_
 refine tp rfl (B4 rfl underlying22 DC vq vq AA AA AA) (tm rfl ?_)
 refine TO.Kg 0 rfl rfl AB (G9 rfl rfl rfl underlying22 DC AB vq vq AA AA FA rfl) ?_
 refine ap ?_
 refine ac ?_
 refine Tr.ret (Fin.AL ?_)
 refine Fin.J5 (sz:=1) 0 rfl (rows:=((l.take i++[x]++l.drop i).map (fun n:Int=>[int n]))) (sp:=sp.drop 1) (m:=l.length+1) (N8 (a:=i*1) (z:=1) (S:=sp.map is) (N:=l.length*1) Uw AA rfl CT AA AA AA AA AA AA (by rw [List.map_drop,←JJ (f:=(fun n:Int=>[int n])) (sz:=1) (l:=l) (i:=i) (x:=x) (fun _=>rfl)];rfl)) Px AA hm IX ?_
 refine Fin.Gc rfl rfl ?_ HH
 · rintro _ _ _ rfl;exact ⟨_,_,by rfl⟩
 exact absurd h4 AB
theorem eB:Entry Tryz.prog 339:=⟨_,Tryz.func339,rfl,rfl⟩
theorem eC {x:Int}  :BN prog 339 [full 1 [],int ((0:Nat):Int),slice 1 [[int x]]] (lens 1) (BW) (fun v=>C3 3 1 [[int x]] v):=by
 refine BN.of func339 rfl rfl Ai fun M0 w0 S rs M1 w1=> ?_
 have MG:([[int x]]:List (List Pr)).length=1:=rfl
 refine a2 ?_
 refine co rfl (DB rfl underlying22 DC E9 vq AA AA) ?_
 refine a2 ?_
 refine co rfl (A8 rfl underlying22 vq) ?_
 refine ac ?_
 refine an ?_ ?_<;>intro h1 q1
 simp at h1
 refine a2 ?_
 refine co rfl (A8 rfl underlying22 E9) ?_
 refine a2 ?_
 refine wk [22,8,7,2,1,0] rfl ?_
 refine Tr.cn rfl ?_ ?_<;>intro h2 q2
 refine ap ?_
 refine TO.pad ?_
 refine TO.Fw 0 rfl rfl AB (FM rfl rfl AB rfl underlying22 DC S9 z3 rfl AB AB vq vq Aa (by simp;unfold maxLen;omega) Aa) (fun v1=> ?_)
 refine ap ?_
 refine Tr.ret (Fin.AL (Fin.drop 1 ?_))
 refine Fin.Gc rfl rfl ?_ I5
 · exact Pr.le_trans (BF _ _) Lr
 exact absurd h2 AB
theorem Q3 {l:List (Int)} {x:Int} (hi:i≤l.length) (hl:l.length≤1000000):BN Tryz.prog 339 [is v,int ((i:Nat):Int),slice 1 [[int x]]] (slice 1 ((l.take i++[x]++l.drop i).map (fun n:Int=>[int n]))) (Ac 3 1 (l.map (fun n:Int=>[int n])) v) (fun _=>BW):=by
 refine BN.bB (e:=3) (m:=l.length+1) (Aj fun _=>rfl) (BN.JI eB (fun h0=> ?_) (fun b cap sp hc hm hq=> ?_))
 ·
  have WR:l=[]:=by simpa using h0
  subst WR
  have hi0:i=0:=by simpa using hi
  subst hi0
  exact BN.J6 eC
 ·
  rw [List.length_map] at hc hq ⊢
  exact eA hi hl hc hm AA
theorem Q4 {l:List (Int)} (hi:i<l.length) (hl:l.length≤1000000):BN Tryz.prog 289 [is v,int ((i:Nat):Int),int (((i:Nat):Int)+1)] (slice 1 ((l.eraseIdx i).map (fun n:Int=>[int n]))) (Ac 3 1 (l.map (fun n:Int=>[int n])) v) (fun _=>BW):=by
 refine BN.bB (e:=3) (m:=l.length-1) (Aj fun _=>rfl) (BN.JI dy (fun h0=> ?_) (fun b cap sp hc hm hq=> ?_))
 ·
  have WR:l=[]:=by simpa using h0
  subst WR;simp at hi
 ·
  rw [List.length_map] at hc hq ⊢
  exact dx hi hl hc hm AA
theorem eD {l:List (D9)} {x:D9} {b0:Nat} (hi:i≤l.length) (hl:l.length≤1000000) (hc:l.length≤cap) (hm:cap≤maxLen) (hq:sp.length=(cap-l.length)*4):BN prog 342 [Ao (.slice (some ⟨b0,0,none⟩) l.length cap) (lens l.length),int ((i:Nat):Int),slice 4 [BJ x]] (lens (l.length+1)) (AE true b0 65 ((l.map BJ).flatten++sp.map is)) (fun v=>Bf 65 4 ((l.take i++[x]++l.drop i).map BJ) v):=by
 refine BN.of func342 rfl rfl Ai fun M0 w0 S rs M1 w1=> ?_
 have NH:([BJ x]:List (List Pr)).flatten.length=4:=rfl
 have MG:([BJ x]:List (List Pr)).length=1:=rfl
 have Uw:((l.map BJ).flatten).length=l.length*4:=by rw [CV (sz:=4) (Aj fun _=>rfl),List.length_map]
 have e1:(((i:Nat):Int)+(1:Int)).toNat=i+1:=by omega
 have e2:((i:Nat):Int).toNat=i:=by omega
 refine a2 ?_
 refine co rfl (Ko rfl underlying77 Bl Er vq AA AA AA) ?_
 refine a2 ?_
 refine co rfl (A8 rfl underlying77 vq) ?_
 refine ac ?_
 refine an ?_ ?_<;>intro h1 q1
 simp at h1
 refine a2 ?_
 refine co rfl (Dw rfl underlying77 Er) ?_
 refine a2 ?_
 refine wk [22,8,7,2,1,0] rfl ?_
 refine Tr.cn rfl ?_ ?_<;>intro h2 q2
 refine Tr.seq (Tr.J4 (sz:=4) 0 rfl (rows:=l.map BJ) (sp:=sp) rfl Aa hc hm hq ?_)
 refine ap ?_
 refine TO.Fw 0 rfl rfl AB (Di rfl rfl AB rfl underlying77 Bl Og LW rfl AB AB (vl rfl) (vl rfl) (Aj fun _=>rfl) (Nat.zero_lt_succ _) IU IV) (fun v1=> ?_)
 refine ap ?_
 refine Tr.ret (Fin.AL ?_)
 refine Fin.Gc rfl rfl ?_ Xz
 · exact Pr.le_trans (BF _ _) (Pr.le_of_eq Aa)
 refine a2 ?_
 refine co rfl (VY rfl underlying77 Er) ?_
 refine an ?_ ?_<;>intro h3 q3
 refine ap ?_
 refine tp rfl (Fg rfl underlying77 Bl Er vq AA AA AA AA) ?_
 refine ap ?_
 refine TO.pad ?_
 refine TO.gm 0 1 rfl rfl rfl rfl AB rfl underlying77 underlying3 Bl Og LW rfl AB AB vq vq (i:=i) (k:=l.length+1-i) AA FA AA AA (by unfold maxLen;omega) AA (fun b1 kH kI hg1 hm1 hs1=> ?_)
 refine ap ?_
 refine wk [9,7,2,1,0] rfl (Tr.seq ?_)
 have hsz:kI.length=(kH-i)*4:=by have:=hs1;rw [List.length_take,List.length_append,Uw] at this;omega
 refine Tr.Qu (sz:=4) (l.map BJ) 1 0 rfl rfl (Pr.le_trans (Cz _ _) (Pr.le_of_eq Aa)) (Aj fun _=>rfl) (by rw [List.length_map];exact hc) hm (by rw [List.length_map,List.length_map];omega) ?_
 refine ap ?_
 refine tp rfl (B4 rfl underlying77 Bl vq vq AA AA AA) (tm rfl ?_)
 refine TO.Kg 0 rfl rfl AB (G9 rfl rfl rfl underlying77 Bl AB vq vq AA AA FA rfl) ?_
 refine ap ?_
 refine Tr.seq (Tr.rx ?_)
 refine ay ?_
 refine xo rfl (fun _=>B4 rfl underlying77 Bl vq vq AA AA AA) ?_
 refine ay ?_
 refine xo rfl (fun _=>DB rfl underlying77 Bl L9 vq AA CK) ?_
 refine Cx.ef 0 rfl rfl AB (G9 rfl rfl rfl underlying77 Bl AB vq vq FA FA FA rfl) ?_
 refine Cx.nil ⟨by kernel_rfl,?_⟩
 refine BV.done bF (Fin.go (wk [9] rfl ?_))
 refine ac ?_
 refine Tr.ret (Fin.AL ?_)
 refine Fin.J5 (sz:=4) 0 rfl (rows:=((l.take i++[x]++l.drop i).map BJ)) (sp:=kI.drop ((l.length+1-i)*4)) (m:=i+(l.length+1-i)) (N9 (a:=i*4) (z:=4) (Z:=kI.map is) (N:=l.length*4) Uw AA rfl CT AA AA AA AA (by rw [List.length_drop,List.length_map];omega) (by rw [←List.map_drop,GL (f:=BJ) (sz:=4) (fun _=>rfl),e2]) (by rw [List.map_drop,show (l.length+1-i)*4=l.length*4+4-i*4 by omega,←JJ (f:=BJ) (sz:=4) (l:=l) (i:=i) (x:=x) (fun _=>rfl)];rfl)) Px AA hm1 IX ?_
 refine Fin.drop 1 ?_
 refine Fin.Gc rfl rfl ?_ HH
 · exact MT
 refine a2 ?_
 refine co rfl (Kn rfl underlying77 Bl Er vq AA AA AA) ?_
 refine ac ?_
 refine wk [8,7,2,1,0] rfl ?_
 refine ap ?_
 refine tp rfl (B4 rfl underlying77 Bl vq vq AA AA AA) ?_
 refine TO.rd 0 rfl rfl rfl AB (L8 (tR:=4) rfl func374 BD BD BD BD underlying77 Bl AB vq (by exact Nat.zero_lt_succ _) vq FA) ?_
 refine ap ?_
 refine Tr.cn rfl ?_ ?_<;>intro h4 q4
 refine Tr.seq (Tr.rx ?_)
 refine ay ?_
 refine xo rfl (fun _=>B4 rfl underlying77 Bl vq vq AA AA AA) ?_
 refine ay ?_
 refine xo rfl (fun _=>B4 rfl underlying77 Bl vq vq AA AA AA) ?_
 refine Cx.ef 0 rfl rfl AB (SB (m:=l.length-i) rfl rfl rfl underlying77 Bl vq vq (by show _=min _ _;omega) FA FA rfl) ?_
 refine Cx.nil ⟨by kernel_rfl,?_⟩
 refine BV.done Xd (Fin.go (wk [2,1,0] rfl ?_))
 refine ap ?_
 refine tp rfl (B4 rfl underlying77 Bl vq vq AA AA AA) (tm rfl ?_)
 refine TO.Kg 0 rfl rfl AB (G9 rfl rfl rfl underlying77 Bl AB vq vq AA AA FA rfl) ?_
 refine ap ?_
 refine ac ?_
 refine Tr.ret (Fin.AL ?_)
 refine Fin.J5 (sz:=4) 0 rfl (rows:=((l.take i++[x]++l.drop i).map BJ)) (sp:=sp.drop 4) (m:=l.length+1) (N8 (a:=i*4) (z:=4) (S:=sp.map is) (N:=l.length*4) Uw AA rfl CT AA AA AA AA AA AA (by rw [List.map_drop,←JJ (f:=BJ) (sz:=4) (l:=l) (i:=i) (x:=x) (fun _=>rfl)];rfl)) Px AA hm IX ?_
 refine Fin.Gc rfl rfl ?_ HH
 · rintro _ _ _ rfl;exact ⟨_,_,by rfl⟩
 exact absurd h4 AB
theorem eE:Entry Tryz.prog 342:=⟨_,Tryz.func342,rfl,rfl⟩
theorem eF {x:D9}  :BN prog 342 [full 4 [],int ((0:Nat):Int),slice 4 [BJ x]] (lens 1) (BW) (fun v=>C3 65 4 [BJ x] v):=by
 refine BN.of func342 rfl rfl Ai fun M0 w0 S rs M1 w1=> ?_
 have MG:([BJ x]:List (List Pr)).length=1:=rfl
 refine a2 ?_
 refine co rfl (DB rfl underlying77 Bl E9 vq AA AA) ?_
 refine a2 ?_
 refine co rfl (A8 rfl underlying77 vq) ?_
 refine ac ?_
 refine an ?_ ?_<;>intro h1 q1
 simp at h1
 refine a2 ?_
 refine co rfl (A8 rfl underlying77 E9) ?_
 refine a2 ?_
 refine wk [22,8,7,2,1,0] rfl ?_
 refine Tr.cn rfl ?_ ?_<;>intro h2 q2
 refine ap ?_
 refine TO.pad ?_
 refine TO.Fw 0 rfl rfl AB (FM rfl rfl AB rfl underlying77 Bl Og LW rfl AB AB vq vq Aa (by simp;unfold maxLen;omega) Aa) (fun v1=> ?_)
 refine ap ?_
 refine Tr.ret (Fin.AL (Fin.drop 1 ?_))
 refine Fin.Gc rfl rfl ?_ I5
 · exact Pr.le_trans (BF _ _) Lr
 exact absurd h2 AB
theorem eG {l:List (D9)} {x:D9} (hi:i≤l.length) (hl:l.length≤1000000):BN Tryz.prog 342 [is v,int ((i:Nat):Int),slice 4 [BJ x]] (slice 4 ((l.take i++[x]++l.drop i).map BJ)) (Ac 65 4 (l.map BJ) v) (fun _=>BW):=by
 refine BN.bB (e:=65) (m:=l.length+1) (Aj fun _=>rfl) (BN.JI eE (fun h0=> ?_) (fun b cap sp hc hm hq=> ?_))
 ·
  have WR:l=[]:=by simpa using h0
  subst WR
  have hi0:i=0:=by simpa using hi
  subst hi0
  exact BN.J6 eF
 ·
  rw [List.length_map] at hc hq ⊢
  exact eD hi hl hc hm AA
theorem eH {l:List (D9)} (hi:i<l.length) (hl:l.length≤1000000):BN Tryz.prog 295 [is v,int ((i:Nat):Int),int (((i:Nat):Int)+1)] (slice 4 ((l.eraseIdx i).map BJ)) (Ac 65 4 (l.map BJ) v) (fun _=>BW):=by
 refine BN.bB (e:=65) (m:=l.length-1) (Aj fun _=>rfl) (BN.JI d_ (fun h0=> ?_) (fun b cap sp hc hm hq=> ?_))
 ·
  have WR:l=[]:=by simpa using h0
  subst WR;simp at hi
 ·
  rw [List.length_map] at hc hq ⊢
  exact dz hi hl hc hm AA
theorem Vk {x:Int}:BN Tryz.prog 264 [is v,int x] (int (idx (fun y=>x==y) l)) (Ac 3 1 (l.map fun n=>[int n]) v) (fun _=>Ac 3 1 (l.map fun n=>[int n]) v):=BN.N5 (Aj fun _=>rfl) OA
theorem Q5 {x:Int}:BN Tryz.prog 259 [is v,int x] (bool (l.any fun y=>x==y)) (Ac 3 1 (l.map fun n=>[int n]) v) (fun _=>Ac 3 1 (l.map fun n=>[int n]) v):=BN.N5 (Aj fun _=>rfl) Io
structure D9.small (x:D9):Prop where
 chain:x.chain.length≤925904528640
 names:∀c∈x.chain,c.names.length≤8796093022208
theorem E7 {x:D9} (hx:x.small):Ay prog 161 [agg (BJ x)] (agg (BJ x)):=by
 refine fo func161 rfl ⟨rfl,rfl⟩ fun M0 w0=> ?_
 have hch:=hx.chain
 refine Tr.seq (Tr.BL ?_)
 refine TO.Jo rfl rfl AB rfl CS (fun b1=> ?_)
 refine Tl rfl rfl rfl rfl LW Js (fun b2=> ?_)
 refine ao ?_
 refine ao ?_
 refine TO.pad ?_
 refine TO.Fw 0 rfl rfl AB (E2 rfl rfl AB rfl (Wh (l:=x.chain) AA) kz) (fun v1=> ?_)
 refine tp rfl (AF rfl YV vq) (TO.D7 2 rfl rfl (Bm rfl rfl vq CX nx rfl Ai rfl) ?_)
 refine ao ?_
 refine ac ?_
 refine co rfl (Bk 0 rfl (E4 rfl underlying63 Er)) ?_
 refine ac ?_
 refine Tr.block (Tr.re 11 rfl (int_eq HI) (Tr.Bc _ (kk [11,10,2,1] rfl) (fun k:Nat=>[(12,int ((k:Nat):Int))]) (fun k:Nat=>k≤(x.chain).length) (fun k:Nat=>(x.chain).length-k) 0 (Nat.zero_le _) kz ?_))
 rintro k Be
 refine ac ?_
 refine Tr.seq ?_
 refine Tr.cn rfl ?_ ?_<;>intro h1 q1
 have Ae:k<(x.chain).length:=AV h1
 obtain ⟨c,Af⟩:=at_ Ae
 have hcn:=hx.names c (List.mem_of_getElem? Af)
 refine ac ?_
 refine ao ?_
 refine tp rfl (Bk 0 rfl (EG rfl underlying63 Df Er vq AA CT)) ?_
 refine tp rfl (Bk 0 rfl (Eo rfl HT Df vq (Aj fun _=>rfl) Fp)) ?_
 refine Tl rfl rfl rfl rfl Qp L6 (fun b3=> ?_)
 refine tm rfl ?_
 refine sf 0 4 ⟨rfl,rfl,rfl⟩ rfl rfl rfl rfl ?_
 refine ao ?_
 refine Tr.rx ?_
 refine ax ?_
 refine xo rfl (fun _=>Bn (Wk hcn) rfl rfl) ?_
 refine IC 0 rfl rfl (EG rfl underlying63 Df Er vq AA CT) ?_
 refine xo rfl (fun _=>T0 rfl R5 vq) ?_
 refine Cx.D7 0 rfl rfl (D4 rfl rfl vq CX n7 rfl (Aj fun _=>rfl) Fp AB (G_ (f:=DV) Af rfl)) ?_
 refine Cx.nil ⟨by kernel_rfl,?_⟩
 refine BV.done bF ?_
 refine ac ?_
 refine wk [12,11,10,2,1] rfl ?_
 refine ac ?_
 exact Fin.AQ (k+1) ⟨Ae,by omega⟩ ⟨⟨_,rfl,AO k⟩,kz⟩
 have BM:k=(x.chain).length:=by have:=AW h1;omega
 subst BM
 refine ac ?_
 refine Tr.seq (Tr.Gf 2 0 3 rfl rfl AB rfl (Cz _ _) (Aj fun _=>rfl) ?_)
 refine ao ?_
 refine TO.Ap 1 rfl rfl rfl vq CS rfl Bl rfl rfl ?_
 refine ao ?_
 refine Tr.drop 0 (Tr.drop 1 (Tr.ret (Fin.CF rfl (AR.cell 0 rfl rfl Fe Bl rfl Lr) ?_)))
 · exact Lr
structure BA where
 AJ:Int
 kind:Int
 number:Int
 at_:Int
 Bj:D9
abbrev A9 (c:BA):List Pr:=[int c.AJ,int c.kind,int c.number,int c.at_,int c.Bj.Bw,int c.Bj.bits,int c.Bj.BB,Je c.Bj.chain]
abbrev OG (c b:BA):List Pr:=[int c.AJ,int c.kind,int c.number,int c.at_,int c.Bj.Bw,int c.Bj.bits,int c.Bj.BB,Je c.Bj.chain,int b.AJ,int b.kind,int b.number,int b.at_,int b.Bj.Bw,int b.Bj.bits,int b.Bj.BB,Je b.Bj.chain]
abbrev ZT (e:CO) (p3 p5 p6 p7:Pr):List Pr:=[str e.name,int e.least,int e.most,p3,bool e.own,p5,p6,p7,bool e.E_]
abbrev BQ (wb ob:Nat) (c b:BA):A7:=AE true wb 259 (ptr ob 0::OG c b)
abbrev BX (ob:Nat) (e:CO) (p3 p5 p6 p7:Pr):A7:=AE true ob 79 (ZT e p3 p5 p6 p7)
def Ag (key:Int) (l:List D9):Int:=idx (fun x=>x.BB==key) l
theorem Gg {β:Type} {p:β→Bool} {l:List β} (h:0≤idx p l):∃x,l[(idx p l).toNat]? =some x∧p x=true∧(idx p l).toNat<l.length:=by
 unfold idx at*
 cases hf:l.findIdx? p with
 |none=>rw [hf] at h;simp at h
 |some i=>
  rw [List.findIdx?_eq_some_iff_getElem] at hf
  obtain ⟨h1,h2,_⟩:=hf
  refine ⟨l[i],?_,h2,by simpa using h1⟩
  simp
theorem kJ {key:Int} {x:D9}  :Ay prog 341 [agg (BJ x),ref [int key]] (bool (x.BB==key)):=by
 refine fo func341 rfl ⟨rfl,rfl⟩ fun M0 w0=> ?_
 refine a3 ?_
 · exact Lr
theorem kK:Entry Tryz.prog 341:=⟨_,Tryz.func341,rfl,rfl⟩
theorem kL {key:Int} {bE:List Pr}:Ay prog 291 [ref (ref (Am e)::bE),int key] (int (Ag key e.ids)):=by
 refine fo func291 rfl ⟨rfl,rfl⟩ fun M0 w0=> ?_
 refine a2 ?_
 refine co rfl (Ad rfl (ZS (l:=e.ids) (p:=fun x=>x.BB==key)) ⟨kq,⟨_,rfl,FJ (dom:=fun x:D9=>[agg (BJ x)]) (res:=fun x=>bool (x.BB==key)) kK (fun x=>kJ (key:=key) (x:=x))⟩,trivial⟩) ?_
 refine a2 ?_
 · exact Lr
theorem eI {c b:BA} {x:D9}:Ay prog 294 [agg (BJ x),ref [ref (q::OG c b)]] (bool (x.BB==c.number)):=by
 refine fo func294 rfl ⟨rfl,rfl⟩ fun M0 w0=> ?_
 refine a3 ?_
 · exact Lr
theorem eJ:Entry Tryz.prog 294:=⟨_,Tryz.func294,rfl,rfl⟩
theorem PO {c b:BA} {key:Int} (h3:p3=ints e.AG) (h6:p6=ints e.anchors) (h7:p7=ints e.hashes):Au Tryz.prog 291 [ptr wb 0,int key] [BQ wb ob c b,BX ob e p3 (is v) p6 p7,Ac 65 4 (e.ids.map BJ) v] (int (Ag key e.ids)) [BQ wb ob c b,BX ob e p3 (is v) p6 p7,Ac 65 4 (e.ids.map BJ) v]:=by
 subst h3;subst h6;subst h7
 exact Au.look (k:=5) (rows:=Am e) (sz:=4) rfl (Aj fun _=>rfl) rfl kL
theorem Vl {l:List D9} {c b:BA}:Au prog 293 [Cp.part 4 v k,fn (.func 294) [ref [ptr wb 0]]] [BQ wb ob c b,Ac 65 4 (l.map BJ) v] (bool ((l.drop k).any fun x=>x.BB==c.number)) [BQ wb ob c b,Ac 65 4 (l.map BJ) v]:=by
 refine Au.Yt (Aj fun _=>rfl) ?_
 refine Ay.le (kG (l:=l.drop k) (p:=fun x=>x.BB==c.number)) ?_ Lr
 intro M w vs hv
 match vs,hv with
 |[u0,u1],MG=>
  exact ⟨by have:=MG.1;rw [←List.map_drop] at this;exact this,FJ (dom:=fun x:D9=>[agg (BJ x)]) (res:=fun x=>bool (x.BB==c.number)) eJ (fun x=>eI (c:=c) (b:=b) (x:=x)) _ _ _ MG.2.1,trivial⟩
theorem Q6 {c b:BA} (h:(idx (fun y=>c.number==y) e.AG)<0):Au prog 228 [ptr wb 0] [BQ wb ob c b,BX ob e (is v) p5 p6 p7,Ac 3 1 (e.AG.map fun n=>[int n]) v] (int 41) []:=by
 refine Au.of func228 rfl rfl Ai fun M0 w0 S rs M1 w1=> ?_
 refine ac ?_
 refine Tr.seq (Tr.rx ?_)
 refine ay ?_
 refine Cx.ef 2 rfl rfl AB (An rfl rfl AB rfl (Vk) ⟨kq,kz⟩) (xm rfl ?_)
 refine Cx.nil ⟨by kernel_rfl,?_⟩
 refine BV.done K9 (Fin.go (wk [3,0] rfl ?_))
 refine an ?_ ?_<;>intro h1 q1
 refine ac ?_
 refine Tr.ret (Fin.AL (Fin.drop 0 (Fin.drop 0 (Fin.drop 0 (Fin.CD rfl (AR.tmp rfl Lr) ?_ (List.Perm.refl _))))))
 · exact Lr
 exfalso;have:=q1;omega
theorem Q7 {c b:BA} (h:0≤(idx (fun y=>c.number==y) e.AG)) (hs:e.AG.length≤1000000):Au prog 228 [ptr wb 0] [BQ wb ob c b,BX ob e (is v) p5 p6 p7,Ac 3 1 (e.AG.map fun n=>[int n]) v] (int 0) [BQ wb ob c ⟨b.AJ,1,c.number,(idx (fun y=>c.number==y) e.AG),b.Bj⟩,BX ob e (ints (e.AG.eraseIdx (idx (fun y=>c.number==y) e.AG).toNat)) p5 p6 p7]:=by
 refine Au.of func228 rfl rfl Ai fun M0 w0 S rs M1 w1=> ?_
 obtain ⟨x_,hx_,_,rN⟩:=Gg h
 refine ac ?_
 refine Tr.seq (Tr.rx ?_)
 refine ay ?_
 refine Cx.ef 2 rfl rfl AB (An rfl rfl AB rfl (Vk) ⟨kq,kz⟩) (xm rfl ?_)
 refine Cx.nil ⟨by kernel_rfl,?_⟩
 refine BV.done K9 (Fin.go (wk [3,0] rfl ?_))
 refine an ?_ ?_<;>intro h1 q1
 exfalso;have:=q1;omega
 refine ac ?_
 refine Tr.seq (Tr.rx ?_)
 refine ay ?_
 refine Cx.ef 2 rfl rfl AB (An rfl rfl AB rfl (Q4 (l:=e.AG) (i:=(idx (fun y=>c.number==y) e.AG).toNat) AA hs) ⟨kq,⟨_,rfl,int_eq AA⟩,⟨_,rfl,int_eq AA⟩,trivial⟩) ?_
 refine ay ?_
 refine Cx.nil ⟨by kernel_rfl,?_⟩
 refine BV.done K9 (Fin.go (wk [3,0] rfl ?_))
 refine ap ?_
 refine Tr.weak [] trivial ?_
 refine ac ?_
 refine Tr.ret (Fin.drop 2 (Fin.CD rfl (AR.tmp rfl Lr) ?_ (List.Perm.refl _)))
 · exact Lr
theorem Wl {x:D9} {at_:Int} (hr:¬(0≤at_∧at_≤(e.ids.length:Nat))):Au prog 292 [ptr ob 5,int at_,agg (BJ x)] [BX ob e p3 (is v) p6 p7,Ac 65 4 (e.ids.map BJ) v] (int 2) []:=by
 refine Au.of func292 rfl rfl Ai fun M0 w0 S rs M1 w1=>(Tr.seq ?_)
 have hml:(e.ids.map BJ).length=e.ids.length:=List.length_map _
 refine ac ?_
 refine ag ?_ ?_<;>intro h1 q1
 have hq9:=q1
 refine a2 ?_
 refine Tr.ret (Fin.AL (Fin.drop 0 (Fin.drop 0 (Fin.CD rfl (AR.tmp rfl Lr) ?_ (List.Perm.refl _)))))
 · exact Lr
 refine ac ?_
 refine cy h1 rfl (Bk 1 rfl (E4 rfl underlying77 vq)) ?_
 refine an ?_ ?_<;>intro h2 q2
 refine ac ?_
 refine Tr.ret (Fin.AL (Fin.drop 0 (Fin.drop 0 (Fin.CD rfl (AR.tmp rfl Lr) ?_ (List.Perm.refl _)))))
 · exact Lr
 exfalso;simp_all
theorem SK {x:D9} {at_:Int} (hr:0≤at_∧at_≤(e.ids.length:Nat)) (hl:e.ids.length≤1000000):Au prog 292 [ptr ob 5,int at_,agg (BJ x)] [BX ob e p3 (is v) p6 p7,Ac 65 4 (e.ids.map BJ) v] (int 0) [BX ob e p3 (FP (e.ids.take at_.toNat++[x]++e.ids.drop at_.toNat)) p6 p7]:=by
 refine Au.of func292 rfl rfl Ai fun M0 w0 S rs M1 w1=>(Tr.seq ?_)
 have hml:(e.ids.map BJ).length=e.ids.length:=List.length_map _
 refine ac ?_
 refine ag ?_ ?_<;>intro h1 q1
 exfalso;have:=q1;omega
 refine ac ?_
 refine cy h1 rfl (Bk 1 rfl (E4 rfl underlying77 vq)) ?_
 refine an ?_ ?_<;>intro h2 q2
 exfalso;simp_all;omega
 refine ac ?_
 refine Tr.seq (Tr.rx ?_)
 refine ay ?_
 refine xo rfl (fun _=>Ah (xs:=[.tmp 22]) (rows:=[_]) rfl rfl underlying77 Bl LW rfl AB ⟨⟨Aq,(Va rfl)⟩,trivial⟩ AB) ?_
 refine Cx.ef 1 rfl rfl AB (An rfl rfl AB rfl (eG (l:=e.ids) (x:=x) (i:=at_.toNat) AA hl) ⟨kq,⟨_,rfl,int_eq AA⟩,E9,trivial⟩) ?_
 refine ay ?_
 refine Cx.nil ⟨by kernel_rfl,?_⟩
 refine BV.done bF (Fin.go (Tr.weak [] trivial ?_))
 refine ac ?_
 refine Tr.ret (Fin.drop 1 (Fin.CD rfl (AR.tmp rfl Lr) ?_ (List.Perm.refl _)))
 · exact Lr
theorem Au.perm {args:List Pr} {pre post post':List A7} {res:Pr} (h:Au P f args pre res post) (hp:post.Perm post'):Au P f args pre res post':=
 ⟨h.1,fun M0 w0 S rs M w vs hI hv=>(h.2 M0 w0 S rs M w vs hI hv).mono fun _e _w' ⟨v,M',x,h1,h2,h3,h4,h5⟩=>⟨v,M',x,h1,h2,h3,h4,BG.perm (hp.append_right rs) h5⟩⟩
theorem Wm {c b:BA} (hx:c.Bj.small) (hr:¬(0≤c.at_∧c.at_≤(e.ids.length:Nat))):Au prog 231 [ptr wb 0] [BQ wb ob c b,BX ob e (ints e.AG) (is v) (ints e.anchors) (ints e.hashes),Ac 65 4 (e.ids.map BJ) v] (int 2) []:=by
 refine Au.of func231 rfl rfl Ai fun M0 w0 S rs M1 w1=> ?_
 refine ac ?_
 refine ap ?_
 refine TO.Cv _ rfl rfl AB rfl (PO (e:=e) (c:=c) (b:=b) (key:=c.Bj.BB) rfl rfl rfl) ⟨kq,kz⟩ ((AK (j:=0) rfl).trans (List.Perm.cons _ ((AK (j:=0) rfl).trans (List.Perm.cons _ ((AK (j:=0) rfl).trans (List.Perm.cons _ (List.Perm.refl _))))))) ?_
 refine ap ?_
 refine Tr.seq (Tr.seq (Tr.DI mixed 17 BD (AM.op rfl rfl AB (BU rfl vq) (AM.op rfl rfl AB (Az rfl vq) (AM.op rfl rfl AB (AF rfl HU vq) (AM.op rfl rfl AB (Bk 0 rfl (B1 rfl Jy vq rfl)) (AM.op rfl rfl AB (Az rfl vq) (AM.op rfl rfl AB (AF rfl GI vq) (AM.op rfl rfl AB (BU rfl vq) (AM.op rfl rfl AB (Az rfl vq) (AM.op rfl rfl AB (AF rfl DN vq) (AM.op rfl rfl AB (AF rfl Ju vq) (AM.op rfl rfl AB (Bk 0 rfl (B1 rfl C1 vq rfl)) ?_)))))))))))))
 refine AM.op rfl rfl AB (BU rfl vq) (AM.op rfl rfl AB (Az rfl vq) (AM.op rfl rfl AB (AF rfl DN vq) (AM.op rfl rfl AB (AF rfl Qn vq) (AM.op rfl rfl AB (Bk 0 rfl (Cf rfl Fe Bl vq rfl rfl)) ?_))))
 refine AM.op rfl rfl AB (Bn (E7 (x:=c.Bj) hx) rfl rfl) ?_
 refine AM.turn _ rfl AB (D8 _ rfl rfl (Wl (e:=e) (x:=c.Bj) (at_:=c.at_) hr) ⟨kq,kz⟩ ((AK (j:=1) rfl).trans (List.Perm.cons _ ((AK (j:=1) rfl).trans (List.Perm.cons _ (List.Perm.refl _)))))) ?_
 refine ac ?_
 refine wk [4,3,0] rfl ?_
 refine an ?_ ?_<;>intro h1 q1
 refine ac ?_
 refine Tr.ret (Fin.AL (Fin.drop 0 (Fin.CD rfl (AR.tmp rfl Lr) ?_ (List.Perm.refl _))))
 · exact Lr
 exact absurd h1 AB
theorem Wn {c b:BA} (hx:c.Bj.small) (hr:0≤c.at_∧c.at_≤(e.ids.length:Nat)) (hl:e.ids.length≤1000000) (h:0≤Ag c.Bj.BB e.ids):Au prog 231 [ptr wb 0] [BQ wb ob c b,BX ob e (ints e.AG) (is v) (ints e.anchors) (ints e.hashes),Ac 65 4 (e.ids.map BJ) v] (int 41) []:=by
 refine Au.of func231 rfl rfl Ai fun M0 w0 S rs M1 w1=> ?_
 refine ac ?_
 refine ap ?_
 refine TO.Cv _ rfl rfl AB rfl (PO (e:=e) (c:=c) (b:=b) (key:=c.Bj.BB) rfl rfl rfl) ⟨kq,kz⟩ ((AK (j:=0) rfl).trans (List.Perm.cons _ ((AK (j:=0) rfl).trans (List.Perm.cons _ ((AK (j:=0) rfl).trans (List.Perm.cons _ (List.Perm.refl _))))))) ?_
 refine ap ?_
 refine Tr.seq (Tr.seq (Tr.DI mixed 17 BD (AM.op rfl rfl AB (BU rfl vq) (AM.op rfl rfl AB (Az rfl vq) (AM.op rfl rfl AB (AF rfl HU vq) (AM.op rfl rfl AB (Bk 0 rfl (B1 rfl Jy vq rfl)) (AM.op rfl rfl AB (Az rfl vq) (AM.op rfl rfl AB (AF rfl GI vq) (AM.op rfl rfl AB (BU rfl vq) (AM.op rfl rfl AB (Az rfl vq) (AM.op rfl rfl AB (AF rfl DN vq) (AM.op rfl rfl AB (AF rfl Ju vq) (AM.op rfl rfl AB (Bk 0 rfl (B1 rfl C1 vq rfl)) ?_)))))))))))))
 refine AM.op rfl rfl AB (BU rfl vq) (AM.op rfl rfl AB (Az rfl vq) (AM.op rfl rfl AB (AF rfl DN vq) (AM.op rfl rfl AB (AF rfl Qn vq) (AM.op rfl rfl AB (Bk 0 rfl (Cf rfl Fe Bl vq rfl rfl)) ?_))))
 refine AM.op rfl rfl AB (Bn (E7 (x:=c.Bj) hx) rfl rfl) ?_
 refine AM.turn _ rfl AB (D8 _ rfl rfl (SK (e:=e) (x:=c.Bj) (at_:=c.at_) hr hl) ⟨kq,kz⟩ ((AK (j:=1) rfl).trans (List.Perm.cons _ ((AK (j:=1) rfl).trans (List.Perm.cons _ (List.Perm.refl _)))))) ?_
 refine ac ?_
 refine wk [4,3,0] rfl ?_
 refine an ?_ ?_<;>intro h1 q1
 exact absurd h1 AB
 refine ac ?_
 refine an ?_ ?_<;>intro h2 q2
 refine ac ?_
 refine Tr.ret (Fin.AL (Fin.drop 0 (Fin.drop 0 (Fin.CD rfl (AR.tmp rfl Lr) ?_ (List.Perm.refl _)))))
 · exact Lr
 exfalso;have:=q2;omega
theorem Wo {c b:BA} (hx:c.Bj.small) (hr:0≤c.at_∧c.at_≤(e.ids.length:Nat)) (hl:e.ids.length≤1000000) (h:Ag c.Bj.BB e.ids<0):Au prog 231 [ptr wb 0] [BQ wb ob c b,BX ob e (ints e.AG) (is v) (ints e.anchors) (ints e.hashes),Ac 65 4 (e.ids.map BJ) v] (int 0) [BX ob e (ints e.AG) (FP (e.ids.take c.at_.toNat++[c.Bj]++e.ids.drop c.at_.toNat)) (ints e.anchors) (ints e.hashes),BQ wb ob c ⟨b.AJ,6,c.Bj.BB,b.at_,b.Bj⟩]:=by
 refine Au.of func231 rfl rfl Ai fun M0 w0 S rs M1 w1=> ?_
 refine ac ?_
 refine ap ?_
 refine TO.Cv _ rfl rfl AB rfl (PO (e:=e) (c:=c) (b:=b) (key:=c.Bj.BB) rfl rfl rfl) ⟨kq,kz⟩ ((AK (j:=0) rfl).trans (List.Perm.cons _ ((AK (j:=0) rfl).trans (List.Perm.cons _ ((AK (j:=0) rfl).trans (List.Perm.cons _ (List.Perm.refl _))))))) ?_
 refine ap ?_
 refine Tr.seq (Tr.seq (Tr.DI mixed 17 BD (AM.op rfl rfl AB (BU rfl vq) (AM.op rfl rfl AB (Az rfl vq) (AM.op rfl rfl AB (AF rfl HU vq) (AM.op rfl rfl AB (Bk 0 rfl (B1 rfl Jy vq rfl)) (AM.op rfl rfl AB (Az rfl vq) (AM.op rfl rfl AB (AF rfl GI vq) (AM.op rfl rfl AB (BU rfl vq) (AM.op rfl rfl AB (Az rfl vq) (AM.op rfl rfl AB (AF rfl DN vq) (AM.op rfl rfl AB (AF rfl Ju vq) (AM.op rfl rfl AB (Bk 0 rfl (B1 rfl C1 vq rfl)) ?_)))))))))))))
 refine AM.op rfl rfl AB (BU rfl vq) (AM.op rfl rfl AB (Az rfl vq) (AM.op rfl rfl AB (AF rfl DN vq) (AM.op rfl rfl AB (AF rfl Qn vq) (AM.op rfl rfl AB (Bk 0 rfl (Cf rfl Fe Bl vq rfl rfl)) ?_))))
 refine AM.op rfl rfl AB (Bn (E7 (x:=c.Bj) hx) rfl rfl) ?_
 refine AM.turn _ rfl AB (D8 _ rfl rfl (SK (e:=e) (x:=c.Bj) (at_:=c.at_) hr hl) ⟨kq,kz⟩ ((AK (j:=1) rfl).trans (List.Perm.cons _ ((AK (j:=1) rfl).trans (List.Perm.cons _ (List.Perm.refl _)))))) ?_
 refine ac ?_
 refine wk [4,3,0] rfl ?_
 refine an ?_ ?_<;>intro h1 q1
 exact absurd h1 AB
 refine ac ?_
 refine an ?_ ?_<;>intro h2 q2
 exfalso;have:=q2;omega
 refine ac ?_
 refine ap ?_
 refine Tr.weak [] trivial ?_
 refine ac ?_
 refine Tr.ret (Fin.CD rfl (AR.tmp rfl Lr) ?_ (List.Perm.refl _))
 · exact Lr
theorem UD {c b:BA} {x:D9} (h:Ag c.number e.ids<0):Au prog 232 [ptr wb 0] [BQ wb ob c b,BX ob e (ints e.AG) (is v) (ints e.anchors) (ints e.hashes),Ac 65 4 (e.ids.map BJ) v] (int 41) []:=by
 refine Au.of func232 rfl rfl Ai fun M0 w0 S rs M1 w1=> ?_
 refine ac ?_
 refine Tr.seq (Tr.DI mixed 6 BD (AM.op rfl rfl AB (GX rfl Jx rfl) (AM.op rfl rfl AB (GX rfl Jx rfl) (AM.op rfl rfl AB (Az rfl vq) (AM.op rfl rfl AB (AF rfl DN vq) (AM.op rfl rfl AB (AF rfl Jt vq) (AM.op rfl rfl AB (Bk 0 rfl (B1 rfl C1 vq rfl)) ?_)))))))
 refine AM.turn _ rfl AB (D8 _ rfl rfl (PO (e:=e) (c:=c) (b:=b) (key:=c.number) rfl rfl rfl) ⟨kq,kz⟩ ((AK (j:=0) rfl).trans (List.Perm.cons _ ((AK (j:=0) rfl).trans (List.Perm.cons _ ((AK (j:=0) rfl).trans (List.Perm.cons _ (List.Perm.refl _)))))))) ?_
 refine ac ?_
 refine an ?_ ?_<;>intro h1 q1
 refine ac ?_
 refine Tr.ret (Fin.AL (Fin.drop 0 (Fin.drop 0 (Fin.drop 0 (Fin.CD rfl (AR.tmp rfl Lr) ?_ (List.Perm.refl _))))))
 · exact Lr
 exfalso;have:=q1;omega
theorem UE {c b:BA} {x:D9} (h:0≤Ag c.number e.ids) (hx:e.ids[(Ag c.number e.ids).toNat]? =some x) (ht:((e.ids.drop (Ag c.number e.ids+1).toNat).any fun x=>x.BB==c.number)=true) (hl:e.ids.length≤1000000):Au prog 232 [ptr wb 0] [BQ wb ob c b,BX ob e (ints e.AG) (is v) (ints e.anchors) (ints e.hashes),Ac 65 4 (e.ids.map BJ) v] (int 5) []:=by
 refine Au.of func232 rfl rfl Ai fun M0 w0 S rs M1 w1=> ?_
 have hlt:=Ar hx
 refine ac ?_
 refine Tr.seq (Tr.DI mixed 6 BD (AM.op rfl rfl AB (GX rfl Jx rfl) (AM.op rfl rfl AB (GX rfl Jx rfl) (AM.op rfl rfl AB (Az rfl vq) (AM.op rfl rfl AB (AF rfl DN vq) (AM.op rfl rfl AB (AF rfl Jt vq) (AM.op rfl rfl AB (Bk 0 rfl (B1 rfl C1 vq rfl)) ?_)))))))
 refine AM.turn _ rfl AB (D8 _ rfl rfl (PO (e:=e) (c:=c) (b:=b) (key:=c.number) rfl rfl rfl) ⟨kq,kz⟩ ((AK (j:=0) rfl).trans (List.Perm.cons _ ((AK (j:=0) rfl).trans (List.Perm.cons _ ((AK (j:=0) rfl).trans (List.Perm.cons _ (List.Perm.refl _)))))))) ?_
 refine ac ?_
 refine an ?_ ?_<;>intro h1 q1
 exfalso;have:=q1;omega
 refine ac ?_
 refine ap ?_
 refine tp rfl (Bk 2 rfl (VZ rfl underlying77 Bl vq vq AA CT)) ?_
 refine tp rfl (Ib rfl rfl) ?_
 refine TO.Cv _ rfl rfl AB rfl (Vl (l:=e.ids) (c:=c) (b:=b) (k:=(Ag c.number e.ids+1).toNat)) ⟨kq,kz⟩ ((AK (j:=0) rfl).trans (List.Perm.cons _ ((AK (j:=1) rfl).trans (List.Perm.cons _ (List.Perm.refl _))))) ?_
 refine ap ?_
 refine wk [24,3,1] rfl ?_
 refine Tr.cn rfl ?_ ?_<;>intro h2 q2
 refine ac ?_
 refine Tr.ret (Fin.AL (Fin.drop 0 (Fin.drop 0 (Fin.drop 0 (Fin.CD rfl (AR.tmp rfl Lr) ?_ (List.Perm.refl _))))))
 · exact Lr
 rw [ht] at h2;exact absurd h2 AB
theorem UF {c b:BA} {x:D9} (h:0≤Ag c.number e.ids) (hx:e.ids[(Ag c.number e.ids).toNat]? =some x) (ht:((e.ids.drop (Ag c.number e.ids+1).toNat).any fun x=>x.BB==c.number)=false) (hl:e.ids.length≤1000000):Au prog 232 [ptr wb 0] [BQ wb ob c b,BX ob e (ints e.AG) (is v) (ints e.anchors) (ints e.hashes),Ac 65 4 (e.ids.map BJ) v] (int 0) [BQ wb ob c ⟨b.AJ,5,b.number,Ag c.number e.ids,x⟩,BX ob e (ints e.AG) (FP (e.ids.eraseIdx (Ag c.number e.ids).toNat)) (ints e.anchors) (ints e.hashes)]:=by
 refine Au.of func232 rfl rfl Ai fun M0 w0 S rs M1 w1=> ?_
 have hlt:=Ar hx
 refine ac ?_
 refine Tr.seq (Tr.DI mixed 6 BD (AM.op rfl rfl AB (GX rfl Jx rfl) (AM.op rfl rfl AB (GX rfl Jx rfl) (AM.op rfl rfl AB (Az rfl vq) (AM.op rfl rfl AB (AF rfl DN vq) (AM.op rfl rfl AB (AF rfl Jt vq) (AM.op rfl rfl AB (Bk 0 rfl (B1 rfl C1 vq rfl)) ?_)))))))
 refine AM.turn _ rfl AB (D8 _ rfl rfl (PO (e:=e) (c:=c) (b:=b) (key:=c.number) rfl rfl rfl) ⟨kq,kz⟩ ((AK (j:=0) rfl).trans (List.Perm.cons _ ((AK (j:=0) rfl).trans (List.Perm.cons _ ((AK (j:=0) rfl).trans (List.Perm.cons _ (List.Perm.refl _)))))))) ?_
 refine ac ?_
 refine an ?_ ?_<;>intro h1 q1
 exfalso;have:=q1;omega
 refine ac ?_
 refine ap ?_
 refine tp rfl (Bk 2 rfl (VZ rfl underlying77 Bl vq vq AA CT)) ?_
 refine tp rfl (Ib rfl rfl) ?_
 refine TO.Cv _ rfl rfl AB rfl (Vl (l:=e.ids) (c:=c) (b:=b) (k:=(Ag c.number e.ids+1).toNat)) ⟨kq,kz⟩ ((AK (j:=0) rfl).trans (List.Perm.cons _ ((AK (j:=1) rfl).trans (List.Perm.cons _ (List.Perm.refl _))))) ?_
 refine ap ?_
 refine wk [24,3,1] rfl ?_
 refine Tr.cn rfl ?_ ?_<;>intro h2 q2
 rw [ht] at h2;exact absurd h2 AB
 refine ac ?_
 refine Tr.seq (Tr.rx ?_)
 refine ay ?_
 refine IC 1 rfl rfl (EG rfl underlying77 Bl vq vq AA CT) ?_
 refine IC 1 rfl rfl (Eo rfl Fe Bl vq (Aj fun _=>rfl) KS) ?_
 refine ay ?_
 refine Cx.nil ⟨by kernel_rfl,?_⟩
 refine BV.done K9 (Fin.go (wk [3,1] rfl (Tr.seq (Tr.rx ?_))))
 refine ay ?_
 refine Cx.ef 1 rfl rfl AB (An rfl rfl AB rfl (eH (l:=e.ids) (i:=(Ag c.number e.ids).toNat) hlt hl) ⟨kq,⟨_,rfl,int_eq AA⟩,⟨_,rfl,int_eq AA⟩,trivial⟩) ?_
 refine ay ?_
 refine Cx.nil ⟨by kernel_rfl,?_⟩
 refine BV.done K9 (Fin.go (Tr.weak [] trivial ?_))
 refine ac ?_
 refine Tr.ret (Fin.drop 1 (Fin.CD rfl (AR.tmp rfl Lr) ?_ (List.Perm.refl _)))
 · exact Lr
def EH:List Pr:=[is .nilFunc,fn (.func 227) [],fn (.func 228) [],fn (.func 229) [],fn (.func 230) [],fn (.func 231) [],fn (.func 232) [],fn (.func 233) [],fn (.func 234) [],fn (.func 235) [],fn (.func 236) [],fn (.func 237) [],fn (.func 238) []]
def MD (x:D9):Bool:=decide (x.Bw=0∧x.bits=0)&&x.BB==0&&(((x.chain.length:Nat):Int)==0)
def GY (c:BA):Bool:=if c.kind=1 then MD c.Bj else if c.kind=5 then c.number==0 else c.at_==0&&MD c.Bj
structure CO.small (e:CO):Prop where
 AG:e.AG.length≤1000000
 anchors:e.anchors.length≤1000000
 hashes:e.hashes.length≤1000000
 Ox:e.ids.length≤1000000
 ids:∀x∈e.ids,x.small
theorem Kv {c:BA} (hx:c.Bj.small):Ay prog 164 [agg (A9 c)] (agg (A9 c)):=by
 refine fo func164 rfl ⟨rfl,rfl⟩ fun M0 w0=>(Tr.seq (Tr.BL ?_))
 refine TO.Jo rfl rfl AB rfl CS (fun b1=> ?_)
 refine Tl rfl rfl rfl rfl K8 F6 (fun b2=> ?_)
 refine ap ?_
 refine ap ?_
 refine tp rfl (Bn (E7 (x:=c.Bj) hx) rfl rfl) ?_
 refine ap ?_
 refine ap ?_
 refine Tr.drop 1 (Tr.ret (Fin.CF rfl (AR.cell 0 rfl rfl CI B0 rfl Lr) ?_))
 · exact Lr
theorem ZU {x:D9}  :Ay prog 226 [agg (BJ x)] (bool (MD x)):=by
 refine fo func226 rfl ⟨rfl,rfl⟩ fun M0 w0=> ?_
 · repeat' first|(refine bool_eq ?_;unfold MD;simp_all)|refine co rfl (Mp rfl vq vq) (cm rfl ?_)|refine ac ?_|(refine Ch.cg rfl rfl rfl ?_ ?_<;>intro h q)
theorem Le {c:BA}  :Ay prog 162 [agg (A9 c)] (bool (GY c)):=by
 refine fo func162 rfl ⟨rfl,rfl⟩ fun M0 w0=> ?_
 · repeat' first|(refine bool_eq ?_;unfold GY;simp_all)|refine co rfl (Bn (ZU (x:=c.Bj)) rfl rfl) ?_|refine cy h rfl (Bn (ZU (x:=c.Bj)) rfl rfl) ?_|refine ac ?_|(refine Tr.cn rfl ?_ ?_<;>intro h q)|(refine Ch.cg rfl rfl rfl ?_ ?_<;>intro h q)
theorem FW   :Ay prog 163 [] (agg EH):=by
 refine fo func163 rfl ⟨rfl,rfl⟩ fun M0 w0=>(Tr.seq (Tr.BL ?_))
 refine Tl rfl rfl rfl rfl ur gR (fun b1=> ?_)
 refine ap ?_
 refine ap ?_
 refine Tr.ret (Fin.CF rfl (AR.cell 0 rfl rfl jT gQ rfl Lr) ?_)
 · exact Lr
theorem ZV (B8:e.small):Im prog 85 [agg (Am e)] (fun x=>agg (ZT e (ints e.AG) (is x) (ints e.anchors) (ints e.hashes))) (fun x=>[Ac 65 4 (e.ids.map BJ) x]):=by
 refine Im.of func85 rfl rfl Ai fun M0 w0 S rs M1 w1=> ?_
 have hs1:=B8.AG
 have L_:=B8.anchors
 have TD:=B8.hashes
 have Xi:=B8.Ox
 refine Tr.seq (Tr.BL ?_)
 refine TO.Jo rfl rfl AB rfl CS (fun b1=> ?_)
 refine Tl rfl rfl rfl rfl G7 Dn (fun b2=> ?_)
 refine ao ?_
 refine Tr.seq (Tr.pad (Tr.rx ?_))
 refine ax ?_
 refine xo rfl (fun _=>Bn (C6 (l:=e.AG) hs1) rfl rfl) ?_
 refine ax ?_
 refine xo rfl (fun _=>Bn (C6 (l:=e.anchors) L_) rfl rfl) ?_
 refine ax ?_
 refine xo rfl (fun _=>Bn (C6 (l:=e.hashes) TD) rfl rfl) ?_
 refine ax ?_
 refine Cx.ef 0 rfl rfl AB (E2 rfl rfl AB rfl (HA (l:=e.ids) Xi) kz) ?_
 refine xo rfl (fun _=>AF rfl Fu vq) (Cx.D7 2 rfl rfl (Bm rfl rfl vq CX Gs rfl Ai rfl) (xo rfl (fun _=>AF rfl Jv vq) (Cx.D7 2 rfl rfl (Bm rfl rfl vq CX Gs rfl Ai rfl) (xo rfl (fun _=>AF rfl Jw vq) (Cx.D7 2 rfl rfl (Bm rfl rfl vq CX Gs rfl Ai rfl) (xo rfl (fun _=>AF rfl GI vq) (Cx.D7 2 rfl rfl (DT rfl rfl rfl vq rfl R4 Ai) ?_)))))))
 refine Cx.nil ⟨by kernel_rfl,?_⟩
 refine BV.Np 0 2 16 rfl rfl AB rfl (fun v1=> ?_)
 refine BV.done K9 (Fin.go (wk [2,1] rfl ?_))
 refine ac ?_
 refine co rfl (Bk 0 rfl (E4 rfl underlying77 Er)) ?_
 refine ac ?_
 refine Tr.block (Tr.re 23 rfl (int_eq HI) (Tr.Bc _ (kk [23,22,2,1] rfl) (fun k:Nat=>[(24,int ((k:Nat):Int))]) (fun k:Nat=>k≤(e.ids).length) (fun k:Nat=>(e.ids).length-k) 0 (Nat.zero_le _) kz ?_))
 rintro k Be
 refine ac ?_
 refine Tr.seq ?_
 refine Tr.cn rfl ?_ ?_<;>intro h1 q1
 have Ae:k<(e.ids).length:=AV h1
 obtain ⟨x,Af⟩:=at_ Ae
 have hxs:=B8.ids x (List.mem_of_getElem? Af)
 refine ac ?_
 refine ao ?_
 refine tp rfl (Bk 0 rfl (EG rfl underlying77 Bl Er vq AA CT)) ?_
 refine tp rfl (Bk 0 rfl (Eo rfl Fe Bl vq (Aj fun _=>rfl) Fp)) ?_
 refine Tl rfl rfl rfl rfl LW Js (fun b3=> ?_)
 refine tm rfl ?_
 refine sf 0 4 ⟨rfl,rfl,rfl⟩ rfl rfl rfl rfl ?_
 refine ao ?_
 refine Tr.rx ?_
 refine ax ?_
 refine xo rfl (fun _=>Bn (E7 hxs) rfl rfl) ?_
 refine IC 0 rfl rfl (EG rfl underlying77 Bl Er vq AA CT) ?_
 refine Cx.D7 0 rfl rfl (D4 rfl rfl vq CS Bl rfl (Aj fun _=>rfl) Fp AB (G_ (f:=BJ) (q:=0) (m:=4) Af rfl)) ?_
 refine Cx.nil ⟨by kernel_rfl,?_⟩
 refine BV.done K9 ?_
 refine ac ?_
 refine wk [24,23,22,2,1] rfl ?_
 refine ac ?_
 exact Fin.AQ (k+1) ⟨Ae,by omega⟩ ⟨⟨_,rfl,AO k⟩,kz⟩
 have BM:k=(e.ids).length:=by have:=AW h1;omega
 subst BM
 refine ac ?_
 refine ao ?_
 refine TO.Ap 1 rfl rfl rfl vq CS rfl Ba rfl rfl ?_
 refine ao ?_
 refine Tr.drop 2 (Tr.ret (Fin.Lc (Fin.WV v1 [_] rfl (AR.cell 0 rfl rfl Bv Ba rfl Lr) ?_ (List.Perm.refl _))))
 · exact BP ⟨Lr,Lr,Lr,Lr,Lr,Cz _ _,Lr,Lr,Lr,trivial⟩
theorem ZW (B8:e.small):Im prog 85 [agg (Am e)] (fun x=>agg (ZT e (is x) (FP e.ids) (ints e.anchors) (ints e.hashes))) (fun x=>[Ac 3 1 (e.AG.map fun n=>[int n]) x]):=by
 refine Im.of func85 rfl rfl Ai fun M0 w0 S rs M1 w1=> ?_
 have hs1:=B8.AG
 have L_:=B8.anchors
 have TD:=B8.hashes
 have Xi:=B8.Ox
 refine Tr.seq (Tr.BL ?_)
 refine TO.Jo rfl rfl AB rfl CS (fun b1=> ?_)
 refine Tl rfl rfl rfl rfl G7 Dn (fun b2=> ?_)
 refine ao ?_
 refine Tr.seq (Tr.pad (Tr.pad (Tr.rx ?_)))
 refine ax ?_
 refine Cx.ef 0 rfl rfl AB (E2 rfl rfl AB rfl (Ld (l:=e.AG) hs1) kz) ?_
 refine ax ?_
 refine xo rfl (fun _=>Bn (C6 (l:=e.anchors) L_) rfl rfl) ?_
 refine ax ?_
 refine xo rfl (fun _=>Bn (C6 (l:=e.hashes) TD) rfl rfl) ?_
 refine ax ?_
 refine Cx.ef 1 rfl rfl AB (E2 rfl rfl AB rfl (HA (l:=e.ids) Xi) kz) ?_
 refine xo rfl (fun _=>AF rfl Fu vq) (Cx.D7 3 rfl rfl (DT rfl rfl rfl vq rfl Gs Ai) (xo rfl (fun _=>AF rfl Jv vq) (Cx.D7 3 rfl rfl (Lb rfl rfl rfl vq CX Gs rfl (fun _=>by exact Nat.le_of_ble_eq_true rfl)) (xo rfl (fun _=>AF rfl Jw vq) (Cx.D7 3 rfl rfl (Lb rfl rfl rfl vq CX Gs rfl (fun _=>by exact Nat.le_of_ble_eq_true rfl)) (xo rfl (fun _=>AF rfl GI vq) (Cx.D7 3 rfl rfl (LZ rfl rfl rfl vq rfl R4 (fun _=>by exact Nat.le_of_ble_eq_true rfl)) ?_)))))))
 refine Cx.nil ⟨by kernel_rfl,?_⟩
 refine BV.Yq 0 1 3 7 16 rfl rfl rfl AB AB AB AB rfl rfl (fun v1 v2=> ?_)
 refine BV.done dO (Fin.go (wk [2,1] rfl ?_))
 refine ac ?_
 refine co rfl (Bk 1 rfl (E4 rfl underlying77 Er)) ?_
 refine ac ?_
 refine Tr.block (Tr.re 23 rfl (int_eq HI) (Tr.Bc _ (kk [23,22,2,1] rfl) (fun k:Nat=>[(24,int ((k:Nat):Int))]) (fun k:Nat=>k≤(e.ids).length) (fun k:Nat=>(e.ids).length-k) 0 (Nat.zero_le _) kz ?_))
 rintro k Be
 refine ac ?_
 refine Tr.seq ?_
 refine Tr.cn rfl ?_ ?_<;>intro h1 q1
 have Ae:k<(e.ids).length:=AV h1
 obtain ⟨x,Af⟩:=at_ Ae
 have hxs:=B8.ids x (List.mem_of_getElem? Af)
 refine ac ?_
 refine ao ?_
 refine tp rfl (Bk 1 rfl (EG rfl underlying77 Bl Er vq AA CT)) ?_
 refine tp rfl (Bk 1 rfl (Eo rfl Fe Bl vq (Aj fun _=>rfl) Fp)) ?_
 refine Tl rfl rfl rfl rfl LW Js (fun b3=> ?_)
 refine tm rfl ?_
 refine sf 0 4 ⟨rfl,rfl,rfl⟩ rfl rfl rfl rfl ?_
 refine ao ?_
 refine Tr.rx ?_
 refine ax ?_
 refine xo rfl (fun _=>Bn (E7 hxs) rfl rfl) ?_
 refine IC 1 rfl rfl (EG rfl underlying77 Bl Er vq AA CT) ?_
 refine Cx.D7 1 rfl rfl (D4 rfl rfl vq CS Bl rfl (Aj fun _=>rfl) Fp AB (G_ (f:=BJ) (q:=0) (m:=4) Af rfl)) ?_
 refine Cx.nil ⟨by kernel_rfl,?_⟩
 refine BV.done dO ?_
 refine ac ?_
 refine wk [24,23,22,2,1] rfl ?_
 refine ac ?_
 exact Fin.AQ (k+1) ⟨Ae,by omega⟩ ⟨⟨_,rfl,AO k⟩,kz⟩
 have BM:k=(e.ids).length:=by have:=AW h1;omega
 subst BM
 refine ac ?_
 refine Tr.seq (Tr.Gf 3 1 5 rfl rfl AB rfl (Cz _ _) (Aj fun _=>rfl) ?_)
 refine ao ?_
 refine TO.Ap 2 rfl rfl rfl vq CS rfl Ba rfl rfl ?_
 refine ao ?_
 refine Tr.drop 1 (Tr.drop 2 (Tr.ret (Fin.Lc (Fin.WV v1 [_] rfl (AR.cell 0 rfl rfl Bv Ba rfl Lr) ?_ (List.Perm.refl _)))))
 · exact BP ⟨Lr,Lr,Lr,Cz _ _,Lr,Lr,Lr,Lr,Lr,trivial⟩
def BR:CO:=⟨[],0,0,[],false,[],[],[],false⟩
def A0:D9:=⟨0,0,0,[]⟩
def BO:BA:=⟨0,0,0,0,A0⟩
abbrev Bp (c:BA):BA:=⟨c.AJ,0,0,0,A0⟩
abbrev Fi (l:List Int):Prop:=l.Pairwise (· < ·)
def B5 (l:List Int) (x:Int):Nat:=(l.takeWhile fun y=>decide (y<x)).length
theorem Hh (l:List Int) (x:Int):B5 l x≤l.length:=by
 unfold B5
 have h:=List.takeWhile_append_dropWhile (p:=fun y=>decide (y<x)) (l:=l)
 have:=congrArg List.length h
 rw [List.length_append] at this;omega
theorem JL {x:Int}:∀{l:List Int} {k:Nat},k≤l.length→(∀(j:Nat) y,j<k→l[j]? =some y→y<x)→(∀y,l[k]? =some y→¬y<x)→B5 l x=k
  | [], k, hk, _, _ => by have : k = 0 := by simpa using hk
                          subst this;rfl
  |y::r,0,_,_,h2=>by unfold B5;rw [List.takeWhile_cons_of_neg (by simpa using h2 y rfl)];rfl
  |y::r,k+1,hk,h1,h2=>by
    have ih:=JL (l:=r) (k:=k) (by simpa using hk) (fun j z hj hz=>h1 (j+1) z AA I_) (fun z hz=>h2 z I_)
    unfold B5 at ih ⊢
    rw [List.takeWhile_cons_of_pos (by simpa using h1 0 y AA rfl),List.length_cons,ih]
theorem Kw {x:Int}:∀{l:List Int} {j:Nat} {y:Int},j<B5 l x→l[j]? =some y→y<x
 |[],j,y,h,_=>by unfold B5 at h;simp at h
 |z::r,j,y,h,hy=>by
  by_cases hz:z<x
  ·
   cases j with
   |zero=>simp at hy;subst hy;exact hz
   |succ j=>
    refine Kw (l:=r) (j:=j) ?_ (by simpa using hy)
    unfold B5 at h ⊢
    rw [List.takeWhile_cons_of_pos I_,List.length_cons] at h;omega
  · unfold B5 at h;rw [List.takeWhile_cons_of_neg I_] at h;simp at h
theorem Vm {x:Int}:∀{l:List Int} {y:Int},l[B5 l x]? =some y→¬y<x
 |[],y,h=>by simp at h
 |z::r,y,h=>by
  by_cases hz:z<x
  ·
   unfold B5 at h
   rw [List.takeWhile_cons_of_pos I_,List.length_cons,List.getElem?_cons_succ] at h
   exact Vm (l:=r) h
  · unfold B5 at h;rw [List.takeWhile_cons_of_neg I_] at h;simp at h;subst h;exact hz
abbrev CE (l:List Int) (x:Int):Bool:=(l[B5 l x]?).any (fun y=>decide (y=x))
abbrev Fj (l:List Int) (x:Int):List Int:=l.take (B5 l x)++[x]++l.drop (B5 l x)
theorem Mu (hs:Fi l) {y z:Int} (hjk:j<k) (hy:l[j]? =some y) (hz:l[k]? =some z):y<z:=by
 have h1:=Ar hy;have h2:=Ar hz
 have:=List.pairwise_iff_getElem.1 hs j k h1 h2 hjk
 rw [List.getElem?_eq_getElem h1] at hy;rw [List.getElem?_eq_getElem h2] at hz
 cases hy;cases hz;exact this
theorem kM {x:Int} (hs:Fi l) {h:Nat} {y:Int} (hy:l[h]? =some y) (hyx:y<x):∀(k:Nat) z,k<h+1→l[k]? =some z→z<x:=by
 intro k z hk hz
 rcases Nat.lt_or_eq_of_le (Nat.le_of_lt_succ hk) with h1|h1
 · have:=Mu hs h1 hz hy;omega
 · subst h1;rw [hy] at hz;cases hz;exact hyx
theorem kN {x:Int} (hs:Fi l) {h:Nat} {y:Int} (hy:l[h]? =some y) (hyx:¬y<x):∀(k:Nat) z,h≤k→l[k]? =some z→¬z<x:=by
 intro k z hk hz hzx
 rcases Nat.lt_or_eq_of_le hk with h1|h1
 · have:=Mu hs h1 hy hz;omega
 · subst h1;rw [hy] at hz;cases hz;exact hyx hzx
theorem ZX {x:Int} (hp:B5 l x=i) (hi:l.length≤i):CE l x=false:=by
 unfold CE;rw [hp,List.getElem?_eq_none hi];rfl
theorem Vn {x:Int} {y:Int} (hp:B5 l x=i) (hy:l[i]? =some y):CE l x=decide (y=x):=by
 unfold CE;rw [hp,hy];rfl
theorem DO (h:Q2 l=true):Fi l:=by
 unfold Q2 at h;rw [Br] at h
 have h1:∀(d i:Nat) y z,l[i]? =some y→l[i+d+1]? =some z→y<z:=by
  intro d
  induction d with
  |zero=>
   intro i y z hy hz
   have:=h (i+1) (Ar hz)
   unfold FD at this
   rw [getD_at (show l[i+1]? =some z from hz),getD_at (show l[i+1-1]? =some y from hy)] at this
   simpa using this
  |succ d ih=>
   intro i y z hy hz
   obtain ⟨m,hm⟩:=at_ (l:=l) (k:=i+d+1) (by have:=Ar hz;omega)
   have a1:=ih i y m hy hm
   have:=h (i+(d+1)+1) (Ar hz)
   unfold FD at this
   rw [getD_at hz,getD_at (show l[i+(d+1)+1-1]? =some m from hm)] at this
   have:m<z:=by simpa using this
   omega
 refine List.pairwise_iff_getElem.2 fun i j hi hj hij=> ?_
 refine h1 (j-i-1) i _ _ (List.getElem?_eq_getElem hi) ?_
 rw [show i+(j-i-1)+1=j by omega];exact List.getElem?_eq_getElem hj
theorem ZY {a:Int}  :Ay prog 337 [int a] (bool false):=by
 refine fo func337 rfl ⟨rfl,rfl⟩ fun M0 w0=> ?_
 refine a3 ?_
 · exact HK
theorem Wp {a:Int}  :Ay prog 319 [int a] (bool false):=by
 refine fo func319 rfl ⟨rfl,rfl⟩ fun M0 w0=> ?_
 refine a3 ?_
 · exact HK
theorem eK {a b:Int}  :Ay prog 318 [int a,int b] (bool (decide (a<b))):=by
 refine fo func318 rfl ⟨rfl,rfl⟩ fun M0 w0=> ?_
 · repeat' first|exact absurd h AB|exact Lr|refine co rfl (Bn (ZY) rfl rfl) (cm rfl ?_)|refine ac ?_|(refine Ch.cg rfl rfl rfl ?_ ?_<;>intro h q)
theorem rO {x:Int} (hs:Fi l) (hl:l.length≤1000000):Ay prog 343 [ints l,int x] (D_ [int ((B5 l x:Nat):Int),bool (CE l x)]):=by
 refine fo func343 rfl ⟨rfl,rfl⟩ fun M0 w0=>(Tr.Ed 0 rfl fun Fh=> ?_)
 refine a3 ?_
 refine Tr.seq (Tr.block ?_)
 refine Tr.Kk _ (kk [6,1,0] rfl) (fun (i:Nat) (j:Nat)=>[(7,int ((i:Nat):Int)),(8,int ((j:Nat):Int))]) (fun (i:Nat) (j:Nat)=>Hp M0 w0 Lw ([])) (fun (i:Nat) (j:Nat)=>i≤j∧j≤l.length∧(∀(k:Nat) y,k<i→l[k]? =some y→y<x)∧(∀(k:Nat) y,j≤k→l[k]? =some y→¬y<x)) (fun (i:Nat) (j:Nat)=>j-i) (0) (l.length)  (⟨Nat.zero_le _,Nat.le_refl _,fun k y h=>absurd h (Nat.not_lt_zero _),fun k y h1 h2=>by rw [List.getElem?_eq_none h1] at h2;cases h2⟩) ⟨kq,kz⟩ (fun _ _ h=>h) ?_
 rintro i j  ⟨hi1,hi2,hi3,hi4⟩
 refine an ?_ ?_<;>intro h1 q1
 have hij:i<j:=by have:=of_decide_eq_true h1;omega
 obtain ⟨y,hyn⟩:=at_ (l:=l) (k:=(i+j)/2) AA
 have hy:l[((((i:Nat):Int)+((j:Nat):Int))/2).toNat]? =some y:=by rw [show ((((i:Nat):Int)+((j:Nat):Int))/2).toNat=(i+j)/2 by omega];exact hyn
 refine a2 ?_
 refine co rfl (Yp rfl underlying3 underlying358 vq AA AA) (co rfl (dJ rfl vq vq AA) ?_)
 refine co rfl (YJ rfl underlying358 underlying3 vq (by unfold Tg;omega)) ?_
 refine ac ?_
 refine wk [9,8,7,6,1,0] rfl ?_
 refine ac ?_
 refine co rfl (AD rfl underlying22 DC vq vq AA (E0 (f:=fun n:Int=>[int n]) hy)) ?_
 refine ac ?_
 refine co rfl (Cb (eK) rfl rfl rfl) ?_
 refine an ?_ ?_<;>intro h2 q2
 have hlt:=of_decide_eq_true h2
 refine ac ?_
 exact Fin.Mk ((i+j)/2+1) (j)  (⟨⟨by omega,by omega,kM hs hyn hlt,hi4⟩,by omega⟩) ⟨⟨_,rfl,int_eq AA⟩,⟨_,rfl,int_eq AA⟩,kz⟩ (fun _ _ h=>h)
 have hlt:=of_decide_eq_false h2
 refine ac ?_
 exact Fin.Mk (i) ((i+j)/2)  (⟨⟨by omega,by omega,hi3,kN hs hyn hlt⟩,by omega⟩) ⟨⟨_,rfl,int_eq AA⟩,⟨_,rfl,int_eq AA⟩,kz⟩ (fun _ _ h=>h)
 obtain rfl:i=j:=(by have:=of_decide_eq_false h1;omega)
 have hp:B5 l x=i:=JL AA hi3 (fun y hy=>hi4 i y AA hy)
 refine ac ?_
 refine ag ?_ ?_<;>intro h3 q3
 obtain ⟨y,hyi⟩:=at_ (l:=l) (k:=i) (by have:=q3;simp at this;omega)
 refine ac ?_
 refine cy h3 rfl (AD rfl underlying22 DC vq vq AA (E0 (f:=fun n:Int=>[int n]) (by rw [Int.toNat_natCast];exact hyi))) ?_
 refine ag ?_ ?_<;>intro h4 q4
 refine ac ?_
 refine wk [5,4] rfl (Tr.ret (Fin.EJ rfl (Cd.F_ _ _) rfl ?_ rfl ?_))
 · exact int_eq (by rw [hp])
 · refine bool_eq ?_;rw [Vn hp hyi];symm;rw [decide_eq_true_eq];simp_all
 refine ac ?_
 refine cy h4 rfl (AD rfl underlying22 DC vq vq AA (E0 (f:=fun n:Int=>[int n]) (by rw [Int.toNat_natCast];exact hyi))) ?_
 refine cy h4 rfl (GX rfl C1 rfl) (cy h4 rfl (Bn (Wp) rfl rfl) (L5 h4 rfl ?_))
 refine Ch.cs 48 rfl ?_ ?_<;>intro h5 q5
 exact absurd h5 AB
 refine ac ?_
 refine wk [5,4] rfl (Tr.ret (Fin.EJ rfl (Cd.F_ _ _) rfl ?_ rfl ?_))
 · exact int_eq (by rw [hp])
 · refine bool_eq ?_;rw [Vn hp hyi];symm;rw [decide_eq_false_iff_not];simp_all
 refine ac ?_
 refine wk [5,4] rfl (Tr.ret (Fin.EJ rfl (Cd.F_ _ _) rfl ?_ rfl ?_))
 · exact int_eq (by rw [hp])
 · refine bool_eq ?_;rw [ZX hp AA]
theorem Iv {x:Int} (hs:Fi l) (hl:l.length≤1000000):BN Tryz.prog 343 [is v,int x] (D_ [int ((B5 l x:Nat):Int),bool (CE l x)]) (Ac 3 1 (l.map fun n=>[int n]) v) (fun _=>Ac 3 1 (l.map fun n=>[int n]) v):=BN.N5 (Aj fun _=>rfl) (rO hs hl)
theorem Wq {x at_:Int} (hr:¬(0≤at_∧at_≤(e.AG.length:Nat))):Au prog 288 [ptr ob 3,int at_,int x] [BX ob e (is v) p5 p6 p7,Ac 3 1 (e.AG.map fun n=>[int n]) v] (int 2) []:=by
 refine Au.of func288 rfl rfl Ai fun M0 w0 S rs M1 w1=>(Tr.seq ?_)
 have hml:(e.AG.map fun n=>[int n]).length=e.AG.length:=List.length_map _
 refine ac ?_
 refine ag ?_ ?_<;>intro h1 q1
 have hq9:=q1
 refine a2 ?_
 refine Tr.ret (Fin.AL (Fin.drop 0 (Fin.drop 0 (Fin.CD rfl (AR.tmp rfl Lr) ?_ (List.Perm.refl _)))))
 · exact Lr
 refine ac ?_
 refine cy h1 rfl (Bk 1 rfl (E4 rfl underlying22 vq)) ?_
 refine an ?_ ?_<;>intro h2 q2
 refine ac ?_
 refine Tr.ret (Fin.AL (Fin.drop 0 (Fin.drop 0 (Fin.CD rfl (AR.tmp rfl Lr) ?_ (List.Perm.refl _)))))
 · exact Lr
 exfalso;simp_all
theorem SL {x at_:Int} (hr:0≤at_∧at_≤(e.AG.length:Nat)) (hl:e.AG.length≤1000000):Au prog 288 [ptr ob 3,int at_,int x] [BX ob e (is v) p5 p6 p7,Ac 3 1 (e.AG.map fun n=>[int n]) v] (int 0) [BX ob e (ints (e.AG.take at_.toNat++[x]++e.AG.drop at_.toNat)) p5 p6 p7]:=by
 refine Au.of func288 rfl rfl Ai fun M0 w0 S rs M1 w1=>(Tr.seq ?_)
 have hml:(e.AG.map fun n=>[int n]).length=e.AG.length:=List.length_map _
 refine ac ?_
 refine ag ?_ ?_<;>intro h1 q1
 exfalso;have:=q1;omega
 refine ac ?_
 refine cy h1 rfl (Bk 1 rfl (E4 rfl underlying22 vq)) ?_
 refine an ?_ ?_<;>intro h2 q2
 exfalso;simp_all;omega
 refine ac ?_
 refine ap ?_
 refine TO.Kg 1 rfl rfl AB (An rfl rfl AB rfl (Q3 (l:=e.AG) (x:=x) (i:=at_.toNat) AA hl) ⟨kq,⟨_,rfl,int_eq AA⟩,E9,trivial⟩) ?_
 refine ap ?_
 refine Tr.weak [] trivial ?_
 refine ac ?_
 refine Tr.ret (Fin.drop 1 (Fin.CD rfl (AR.tmp rfl Lr) ?_ (List.Perm.refl _)))
 · exact Lr
theorem SM {c b:BA} (hr:¬(0≤c.at_∧c.at_≤(e.AG.length:Nat))):Au prog 227 [ptr wb 0] [BQ wb ob c b,BX ob e (is v) p5 p6 p7,Ac 3 1 (e.AG.map fun n=>[int n]) v] (int 2) []:=by
 refine Au.of func227 rfl rfl Ai fun M0 w0 S rs M1 w1=> ?_
 refine ac ?_
 refine Tr.seq (Tr.rx ?_)
 refine ay ?_
 refine Cx.ef 2 rfl rfl AB (An rfl rfl AB rfl (Q5 (l:=e.AG)) ⟨kq,kz⟩) ?_
 refine xm rfl ?_
 refine Cx.nil ⟨by kernel_rfl,?_⟩
 refine BV.done K9 (Fin.go (wk [3,0] rfl (Tr.seq (Tr.seq (Tr.DI mixed 16 BD (AM.op rfl rfl AB (BU rfl vq) (AM.op rfl rfl AB (Az rfl vq) (AM.op rfl rfl AB (AF rfl HU vq) (AM.op rfl rfl AB (Bk 0 rfl (B1 rfl Jy vq rfl)) (AM.op rfl rfl AB (Az rfl vq) (AM.op rfl rfl AB (AF rfl Fu vq) (AM.op rfl rfl AB (BU rfl vq) (AM.op rfl rfl AB (Az rfl vq) ?_)))))))))))))
 refine AM.op rfl rfl AB (AF rfl DN vq) (AM.op rfl rfl AB (AF rfl Ju vq) (AM.op rfl rfl AB (Bk 0 rfl (B1 rfl C1 vq rfl)) (AM.op rfl rfl AB (BU rfl vq) (AM.op rfl rfl AB (Az rfl vq) (AM.op rfl rfl AB (AF rfl DN vq) (AM.op rfl rfl AB (AF rfl Jt vq) (AM.op rfl rfl AB (Bk 0 rfl (B1 rfl C1 vq rfl)) ?_)))))))
 refine AM.turn _ rfl AB (D8 _ rfl rfl (Wq (e:=e) (x:=c.number) (at_:=c.at_) hr) ⟨kq,kz⟩ ((AK (j:=1) rfl).trans (List.Perm.cons _ ((AK (j:=1) rfl).trans (List.Perm.cons _ (List.Perm.refl _)))))) ?_
 refine ac ?_
 refine wk [4,3,0] rfl ?_
 refine an ?_ ?_<;>intro h1 q1
 refine ac ?_
 refine Tr.ret (Fin.AL (Fin.drop 0 (Fin.CD rfl (AR.tmp rfl Lr) ?_ (List.Perm.refl _))))
 · exact Lr
 exact absurd h1 AB
theorem SN {c b:BA} (hr:0≤c.at_∧c.at_≤(e.AG.length:Nat)) (hl:e.AG.length≤1000000) (h:(e.AG.any fun y=>c.number==y)=true):Au prog 227 [ptr wb 0] [BQ wb ob c b,BX ob e (is v) p5 p6 p7,Ac 3 1 (e.AG.map fun n=>[int n]) v] (int 41) []:=by
 refine Au.of func227 rfl rfl Ai fun M0 w0 S rs M1 w1=> ?_
 refine ac ?_
 refine Tr.seq (Tr.rx ?_)
 refine ay ?_
 refine Cx.ef 2 rfl rfl AB (An rfl rfl AB rfl (Q5 (l:=e.AG)) ⟨kq,kz⟩) ?_
 refine xm rfl ?_
 refine Cx.nil ⟨by kernel_rfl,?_⟩
 refine BV.done K9 (Fin.go (wk [3,0] rfl (Tr.seq (Tr.seq (Tr.DI mixed 16 BD (AM.op rfl rfl AB (BU rfl vq) (AM.op rfl rfl AB (Az rfl vq) (AM.op rfl rfl AB (AF rfl HU vq) (AM.op rfl rfl AB (Bk 0 rfl (B1 rfl Jy vq rfl)) (AM.op rfl rfl AB (Az rfl vq) (AM.op rfl rfl AB (AF rfl Fu vq) (AM.op rfl rfl AB (BU rfl vq) (AM.op rfl rfl AB (Az rfl vq) ?_)))))))))))))
 refine AM.op rfl rfl AB (AF rfl DN vq) (AM.op rfl rfl AB (AF rfl Ju vq) (AM.op rfl rfl AB (Bk 0 rfl (B1 rfl C1 vq rfl)) (AM.op rfl rfl AB (BU rfl vq) (AM.op rfl rfl AB (Az rfl vq) (AM.op rfl rfl AB (AF rfl DN vq) (AM.op rfl rfl AB (AF rfl Jt vq) (AM.op rfl rfl AB (Bk 0 rfl (B1 rfl C1 vq rfl)) ?_)))))))
 refine AM.turn _ rfl AB (D8 _ rfl rfl (SL (e:=e) (x:=c.number) (at_:=c.at_) hr hl) ⟨kq,kz⟩ ((AK (j:=1) rfl).trans (List.Perm.cons _ ((AK (j:=1) rfl).trans (List.Perm.cons _ (List.Perm.refl _)))))) ?_
 refine ac ?_
 refine wk [4,3,0] rfl ?_
 refine an ?_ ?_<;>intro h1 q1
 exact absurd h1 AB
 refine ac ?_
 refine an ?_ ?_<;>intro h2 q2
 refine ac ?_
 refine Tr.ret (Fin.AL (Fin.drop 0 (Fin.drop 0 (Fin.CD rfl (AR.tmp rfl Lr) ?_ (List.Perm.refl _)))))
 · exact Lr
 rw [h] at h2;exact absurd h2 AB
theorem SO {c b:BA} (hr:0≤c.at_∧c.at_≤(e.AG.length:Nat)) (hl:e.AG.length≤1000000) (h:(e.AG.any fun y=>c.number==y)=false):Au prog 227 [ptr wb 0] [BQ wb ob c b,BX ob e (is v) p5 p6 p7,Ac 3 1 (e.AG.map fun n=>[int n]) v] (int 0) [BX ob e (ints (e.AG.take c.at_.toNat++[c.number]++e.AG.drop c.at_.toNat)) p5 p6 p7,BQ wb ob c ⟨b.AJ,2,c.number,b.at_,b.Bj⟩]:=by
 refine Au.of func227 rfl rfl Ai fun M0 w0 S rs M1 w1=> ?_
 refine ac ?_
 refine Tr.seq (Tr.rx ?_)
 refine ay ?_
 refine Cx.ef 2 rfl rfl AB (An rfl rfl AB rfl (Q5 (l:=e.AG)) ⟨kq,kz⟩) ?_
 refine xm rfl ?_
 refine Cx.nil ⟨by kernel_rfl,?_⟩
 refine BV.done K9 (Fin.go (wk [3,0] rfl (Tr.seq (Tr.seq (Tr.DI mixed 16 BD (AM.op rfl rfl AB (BU rfl vq) (AM.op rfl rfl AB (Az rfl vq) (AM.op rfl rfl AB (AF rfl HU vq) (AM.op rfl rfl AB (Bk 0 rfl (B1 rfl Jy vq rfl)) (AM.op rfl rfl AB (Az rfl vq) (AM.op rfl rfl AB (AF rfl Fu vq) (AM.op rfl rfl AB (BU rfl vq) (AM.op rfl rfl AB (Az rfl vq) ?_)))))))))))))
 refine AM.op rfl rfl AB (AF rfl DN vq) (AM.op rfl rfl AB (AF rfl Ju vq) (AM.op rfl rfl AB (Bk 0 rfl (B1 rfl C1 vq rfl)) (AM.op rfl rfl AB (BU rfl vq) (AM.op rfl rfl AB (Az rfl vq) (AM.op rfl rfl AB (AF rfl DN vq) (AM.op rfl rfl AB (AF rfl Jt vq) (AM.op rfl rfl AB (Bk 0 rfl (B1 rfl C1 vq rfl)) ?_)))))))
 refine AM.turn _ rfl AB (D8 _ rfl rfl (SL (e:=e) (x:=c.number) (at_:=c.at_) hr hl) ⟨kq,kz⟩ ((AK (j:=1) rfl).trans (List.Perm.cons _ ((AK (j:=1) rfl).trans (List.Perm.cons _ (List.Perm.refl _)))))) ?_
 refine ac ?_
 refine wk [4,3,0] rfl ?_
 refine an ?_ ?_<;>intro h1 q1
 exact absurd h1 AB
 refine ac ?_
 refine an ?_ ?_<;>intro h2 q2
 rw [h] at h2;exact absurd h2 AB
 refine ac ?_
 refine ap ?_
 refine Tr.weak [] trivial ?_
 refine ac ?_
 refine Tr.ret (Fin.CD rfl (AR.tmp rfl Lr) ?_ (List.Perm.refl _))
 · exact Lr
theorem Hj {x:Int} (h:CE l x=true):B5 l x<l.length:=by
 by_cases hp:B5 l x<l.length
 · exact hp
 · unfold CE at h;rw [List.getElem?_eq_none AA] at h;cases h
theorem eL {c b:BA} {bk:Int} (hs:Fi e.anchors) (hl:e.anchors.length≤1000000) (h:CE e.anchors c.number=true):Au prog 296 [ptr wb 0,ptr ob 6,int bk] [BQ wb ob c b,BX ob e p3 p5 (is v) p7,Ac 3 1 (e.anchors.map fun n=>[int n]) v] (int 41) []:=by
 refine Au.of func296 rfl rfl Ai fun M0 w0 S rs M1 w1=> ?_
 refine ac ?_
 refine Tr.seq (Tr.rx ?_)
 refine ay ?_
 refine Cx.ef 2 rfl rfl AB (An rfl rfl AB rfl (Iv (l:=e.anchors) hs hl) ⟨kq,kz⟩) ?_
 refine ay ?_
 refine Cx.nil ⟨by kernel_rfl,?_⟩
 refine BV.done K9 (Fin.go (wk [8,7,2,1,0] rfl ?_))
 refine an ?_ ?_<;>intro h1 q1
 refine ac ?_
 refine Tr.ret (Fin.AL (Fin.drop 0 (Fin.drop 0 (Fin.drop 0 (Fin.CD rfl (AR.tmp rfl Lr) ?_ (List.Perm.refl _))))))
 · exact Lr
 rw [h] at h1;exact absurd h1 AB
theorem Q8 {c b:BA} (hs:Fi e.anchors) (hl:e.anchors.length≤1000000) (h:CE e.anchors c.number=true):Au prog 233 [ptr wb 0] [BQ wb ob c b,BX ob e p3 p5 (is v) p7,Ac 3 1 (e.anchors.map fun n=>[int n]) v] (int 41) []:=by
 refine Au.of func233 rfl rfl Ai fun M0 w0 S rs M1 w1=> ?_
 refine ac ?_
 refine ap ?_
 refine TO.Cv _ rfl rfl AB rfl (eL (e:=e) (c:=c) (b:=b) hs hl h) ⟨kq,kz⟩ ((AK (j:=0) rfl).trans (List.Perm.cons _ ((AK (j:=0) rfl).trans (List.Perm.cons _ ((AK (j:=0) rfl).trans (List.Perm.cons _ (List.Perm.refl _))))))) ?_
 refine ap ?_
 refine Tr.ret (Fin.CD rfl (AR.tmp rfl Lr) ?_ (List.Perm.refl _))
 · exact Lr
theorem eM {c b:BA} {bk:Int} (hs:Fi e.anchors) (hl:e.anchors.length≤1000000) (h:CE e.anchors c.number=false):Au prog 296 [ptr wb 0,ptr ob 6,int bk] [BQ wb ob c b,BX ob e p3 p5 (is v) p7,Ac 3 1 (e.anchors.map fun n=>[int n]) v] (int 0) [BQ wb ob c ⟨b.AJ,bk,c.number,b.at_,b.Bj⟩,BX ob e p3 p5 (ints (Fj e.anchors c.number)) p7]:=by
 refine Au.of func296 rfl rfl Ai fun M0 w0 S rs M1 w1=> ?_
 refine ac ?_
 refine Tr.seq (Tr.rx ?_)
 refine ay ?_
 refine Cx.ef 2 rfl rfl AB (An rfl rfl AB rfl (Iv (l:=e.anchors) hs hl) ⟨kq,kz⟩) ?_
 refine ay ?_
 refine Cx.nil ⟨by kernel_rfl,?_⟩
 refine BV.done K9 (Fin.go (wk [8,7,2,1,0] rfl ?_))
 refine an ?_ ?_<;>intro h1 q1
 rw [h] at h1;exact absurd h1 AB
 refine ac ?_
 refine Tr.seq (Tr.rx ?_)
 refine ay ?_
 refine xo rfl (fun _=>Ah (xs:=[.tmp 31]) (rows:=[[_]]) rfl rfl underlying22 DC z3 rfl AB ⟨⟨Aq,CX⟩,trivial⟩ AB) ?_
 refine Cx.ef 2 rfl rfl AB (An rfl rfl AB rfl (Q3 (l:=e.anchors) (x:=c.number) (i:=B5 e.anchors c.number) (Hh _ _) hl) ⟨kq,kq,E9,trivial⟩) ?_
 refine ay ?_
 refine Cx.nil ⟨by kernel_rfl,?_⟩
 refine BV.done K9 (Fin.go (wk [2,0] rfl ?_))
 refine ap ?_
 refine Tr.weak [] trivial ?_
 refine ac ?_
 refine Tr.ret (Fin.drop 2 (Fin.CD rfl (AR.tmp rfl Lr) ?_ (List.Perm.refl _)))
 · exact Lr
theorem Q9 {c b:BA} (hs:Fi e.anchors) (hl:e.anchors.length≤1000000) (h:CE e.anchors c.number=false):Au prog 233 [ptr wb 0] [BQ wb ob c b,BX ob e p3 p5 (is v) p7,Ac 3 1 (e.anchors.map fun n=>[int n]) v] (int 0) [BQ wb ob c ⟨b.AJ,8,c.number,b.at_,b.Bj⟩,BX ob e p3 p5 (ints (Fj e.anchors c.number)) p7]:=by
 refine Au.of func233 rfl rfl Ai fun M0 w0 S rs M1 w1=> ?_
 refine ac ?_
 refine ap ?_
 refine TO.Cv _ rfl rfl AB rfl (eM (e:=e) (c:=c) (b:=b) hs hl h) ⟨kq,kz⟩ ((AK (j:=0) rfl).trans (List.Perm.cons _ ((AK (j:=0) rfl).trans (List.Perm.cons _ ((AK (j:=0) rfl).trans (List.Perm.cons _ (List.Perm.refl _))))))) ?_
 refine ap ?_
 refine Tr.ret (Fin.CD rfl (AR.tmp rfl Lr) ?_ (List.Perm.refl _))
 · exact Lr
theorem ZZ {c b:BA} {bk:Int} (hs:Fi e.anchors) (hl:e.anchors.length≤1000000) (h:CE e.anchors c.number=false):Au prog 297 [ptr wb 0,ptr ob 6,int bk] [BQ wb ob c b,BX ob e p3 p5 (is v) p7,Ac 3 1 (e.anchors.map fun n=>[int n]) v] (int 41) []:=by
 refine Au.of func297 rfl rfl Ai fun M0 w0 S rs M1 w1=> ?_
 refine ac ?_
 refine Tr.seq (Tr.rx ?_)
 refine ay ?_
 refine Cx.ef 2 rfl rfl AB (An rfl rfl AB rfl (Iv (l:=e.anchors) hs hl) ⟨kq,kz⟩) ?_
 refine ay ?_
 refine Cx.nil ⟨by kernel_rfl,?_⟩
 refine BV.done K9 (Fin.go (wk [8,7,2,1,0] rfl ?_))
 refine an ?_ ?_<;>intro h1 q1
 refine ac ?_
 refine Tr.ret (Fin.AL (Fin.drop 0 (Fin.drop 0 (Fin.drop 0 (Fin.CD rfl (AR.tmp rfl Lr) ?_ (List.Perm.refl _))))))
 · exact Lr
 rw [h] at h1;exact absurd h1 AB
theorem On {c b:BA} (hs:Fi e.anchors) (hl:e.anchors.length≤1000000) (h:CE e.anchors c.number=false):Au prog 234 [ptr wb 0] [BQ wb ob c b,BX ob e p3 p5 (is v) p7,Ac 3 1 (e.anchors.map fun n=>[int n]) v] (int 41) []:=by
 refine Au.of func234 rfl rfl Ai fun M0 w0 S rs M1 w1=> ?_
 refine ac ?_
 refine ap ?_
 refine TO.Cv _ rfl rfl AB rfl (ZZ (e:=e) (c:=c) (b:=b) hs hl h) ⟨kq,kz⟩ ((AK (j:=0) rfl).trans (List.Perm.cons _ ((AK (j:=0) rfl).trans (List.Perm.cons _ ((AK (j:=0) rfl).trans (List.Perm.cons _ (List.Perm.refl _))))))) ?_
 refine ap ?_
 refine Tr.ret (Fin.CD rfl (AR.tmp rfl Lr) ?_ (List.Perm.refl _))
 · exact Lr
theorem Za {c b:BA} {bk:Int} (hs:Fi e.anchors) (hl:e.anchors.length≤1000000) (h:CE e.anchors c.number=true):Au prog 297 [ptr wb 0,ptr ob 6,int bk] [BQ wb ob c b,BX ob e p3 p5 (is v) p7,Ac 3 1 (e.anchors.map fun n=>[int n]) v] (int 0) [BQ wb ob c ⟨b.AJ,bk,c.number,b.at_,b.Bj⟩,BX ob e p3 p5 (ints (e.anchors.eraseIdx (B5 e.anchors c.number))) p7]:=by
 refine Au.of func297 rfl rfl Ai fun M0 w0 S rs M1 w1=> ?_
 have rN:=Hj h
 refine ac ?_
 refine Tr.seq (Tr.rx ?_)
 refine ay ?_
 refine Cx.ef 2 rfl rfl AB (An rfl rfl AB rfl (Iv (l:=e.anchors) hs hl) ⟨kq,kz⟩) ?_
 refine ay ?_
 refine Cx.nil ⟨by kernel_rfl,?_⟩
 refine BV.done K9 (Fin.go (wk [8,7,2,1,0] rfl ?_))
 refine an ?_ ?_<;>intro h1 q1
 rw [h] at h1;exact absurd h1 AB
 refine ac ?_
 refine ap ?_
 refine TO.Kg 2 rfl rfl AB (An rfl rfl AB rfl (Q4 (l:=e.anchors) (i:=B5 e.anchors c.number) (Hj h) hl) ⟨kq,⟨_,rfl,int_eq AA⟩,⟨_,rfl,int_eq AA⟩,trivial⟩) ?_
 refine ap ?_
 refine wk [2,0] rfl ?_
 refine ap ?_
 refine Tr.weak [] trivial ?_
 refine ac ?_
 refine Tr.ret (Fin.drop 2 (Fin.CD rfl (AR.tmp rfl Lr) ?_ (List.Perm.refl _)))
 · exact Lr
theorem Oo {c b:BA} (hs:Fi e.anchors) (hl:e.anchors.length≤1000000) (h:CE e.anchors c.number=true):Au prog 234 [ptr wb 0] [BQ wb ob c b,BX ob e p3 p5 (is v) p7,Ac 3 1 (e.anchors.map fun n=>[int n]) v] (int 0) [BQ wb ob c ⟨b.AJ,7,c.number,b.at_,b.Bj⟩,BX ob e p3 p5 (ints (e.anchors.eraseIdx (B5 e.anchors c.number))) p7]:=by
 refine Au.of func234 rfl rfl Ai fun M0 w0 S rs M1 w1=> ?_
 refine ac ?_
 refine ap ?_
 refine TO.Cv _ rfl rfl AB rfl (Za (e:=e) (c:=c) (b:=b) hs hl h) ⟨kq,kz⟩ ((AK (j:=0) rfl).trans (List.Perm.cons _ ((AK (j:=0) rfl).trans (List.Perm.cons _ ((AK (j:=0) rfl).trans (List.Perm.cons _ (List.Perm.refl _))))))) ?_
 refine ap ?_
 refine Tr.ret (Fin.CD rfl (AR.tmp rfl Lr) ?_ (List.Perm.refl _))
 · exact Lr
theorem eN {c b:BA} {bk:Int} (hs:Fi e.hashes) (hl:e.hashes.length≤1000000) (h:CE e.hashes c.number=true):Au prog 296 [ptr wb 0,ptr ob 7,int bk] [BQ wb ob c b,BX ob e p3 p5 p6 (is v),Ac 3 1 (e.hashes.map fun n=>[int n]) v] (int 41) []:=by
 refine Au.of func296 rfl rfl Ai fun M0 w0 S rs M1 w1=> ?_
 refine ac ?_
 refine Tr.seq (Tr.rx ?_)
 refine ay ?_
 refine Cx.ef 2 rfl rfl AB (An rfl rfl AB rfl (Iv (l:=e.hashes) hs hl) ⟨kq,kz⟩) ?_
 refine ay ?_
 refine Cx.nil ⟨by kernel_rfl,?_⟩
 refine BV.done K9 (Fin.go (wk [8,7,2,1,0] rfl ?_))
 refine an ?_ ?_<;>intro h1 q1
 refine ac ?_
 refine Tr.ret (Fin.AL (Fin.drop 0 (Fin.drop 0 (Fin.drop 0 (Fin.CD rfl (AR.tmp rfl Lr) ?_ (List.Perm.refl _))))))
 · exact Lr
 rw [h] at h1;exact absurd h1 AB
theorem UG {c b:BA} (hs:Fi e.hashes) (hl:e.hashes.length≤1000000) (h:CE e.hashes c.number=true):Au prog 235 [ptr wb 0] [BQ wb ob c b,BX ob e p3 p5 p6 (is v),Ac 3 1 (e.hashes.map fun n=>[int n]) v] (int 41) []:=by
 refine Au.of func235 rfl rfl Ai fun M0 w0 S rs M1 w1=> ?_
 refine ac ?_
 refine ap ?_
 refine TO.Cv _ rfl rfl AB rfl (eN (e:=e) (c:=c) (b:=b) hs hl h) ⟨kq,kz⟩ ((AK (j:=0) rfl).trans (List.Perm.cons _ ((AK (j:=0) rfl).trans (List.Perm.cons _ ((AK (j:=0) rfl).trans (List.Perm.cons _ (List.Perm.refl _))))))) ?_
 refine ap ?_
 refine Tr.ret (Fin.CD rfl (AR.tmp rfl Lr) ?_ (List.Perm.refl _))
 · exact Lr
theorem eO {c b:BA} {bk:Int} (hs:Fi e.hashes) (hl:e.hashes.length≤1000000) (h:CE e.hashes c.number=false):Au prog 296 [ptr wb 0,ptr ob 7,int bk] [BQ wb ob c b,BX ob e p3 p5 p6 (is v),Ac 3 1 (e.hashes.map fun n=>[int n]) v] (int 0) [BQ wb ob c ⟨b.AJ,bk,c.number,b.at_,b.Bj⟩,BX ob e p3 p5 p6 (ints (Fj e.hashes c.number))]:=by
 refine Au.of func296 rfl rfl Ai fun M0 w0 S rs M1 w1=> ?_
 refine ac ?_
 refine Tr.seq (Tr.rx ?_)
 refine ay ?_
 refine Cx.ef 2 rfl rfl AB (An rfl rfl AB rfl (Iv (l:=e.hashes) hs hl) ⟨kq,kz⟩) ?_
 refine ay ?_
 refine Cx.nil ⟨by kernel_rfl,?_⟩
 refine BV.done K9 (Fin.go (wk [8,7,2,1,0] rfl ?_))
 refine an ?_ ?_<;>intro h1 q1
 rw [h] at h1;exact absurd h1 AB
 refine ac ?_
 refine Tr.seq (Tr.rx ?_)
 refine ay ?_
 refine xo rfl (fun _=>Ah (xs:=[.tmp 31]) (rows:=[[_]]) rfl rfl underlying22 DC z3 rfl AB ⟨⟨Aq,CX⟩,trivial⟩ AB) ?_
 refine Cx.ef 2 rfl rfl AB (An rfl rfl AB rfl (Q3 (l:=e.hashes) (x:=c.number) (i:=B5 e.hashes c.number) (Hh _ _) hl) ⟨kq,kq,E9,trivial⟩) ?_
 refine ay ?_
 refine Cx.nil ⟨by kernel_rfl,?_⟩
 refine BV.done K9 (Fin.go (wk [2,0] rfl ?_))
 refine ap ?_
 refine Tr.weak [] trivial ?_
 refine ac ?_
 refine Tr.ret (Fin.drop 2 (Fin.CD rfl (AR.tmp rfl Lr) ?_ (List.Perm.refl _)))
 · exact Lr
theorem UH {c b:BA} (hs:Fi e.hashes) (hl:e.hashes.length≤1000000) (h:CE e.hashes c.number=false):Au prog 235 [ptr wb 0] [BQ wb ob c b,BX ob e p3 p5 p6 (is v),Ac 3 1 (e.hashes.map fun n=>[int n]) v] (int 0) [BQ wb ob c ⟨b.AJ,10,c.number,b.at_,b.Bj⟩,BX ob e p3 p5 p6 (ints (Fj e.hashes c.number))]:=by
 refine Au.of func235 rfl rfl Ai fun M0 w0 S rs M1 w1=> ?_
 refine ac ?_
 refine ap ?_
 refine TO.Cv _ rfl rfl AB rfl (eO (e:=e) (c:=c) (b:=b) hs hl h) ⟨kq,kz⟩ ((AK (j:=0) rfl).trans (List.Perm.cons _ ((AK (j:=0) rfl).trans (List.Perm.cons _ ((AK (j:=0) rfl).trans (List.Perm.cons _ (List.Perm.refl _))))))) ?_
 refine ap ?_
 refine Tr.ret (Fin.CD rfl (AR.tmp rfl Lr) ?_ (List.Perm.refl _))
 · exact Lr
theorem Zb {c b:BA} {bk:Int} (hs:Fi e.hashes) (hl:e.hashes.length≤1000000) (h:CE e.hashes c.number=false):Au prog 297 [ptr wb 0,ptr ob 7,int bk] [BQ wb ob c b,BX ob e p3 p5 p6 (is v),Ac 3 1 (e.hashes.map fun n=>[int n]) v] (int 41) []:=by
 refine Au.of func297 rfl rfl Ai fun M0 w0 S rs M1 w1=> ?_
 refine ac ?_
 refine Tr.seq (Tr.rx ?_)
 refine ay ?_
 refine Cx.ef 2 rfl rfl AB (An rfl rfl AB rfl (Iv (l:=e.hashes) hs hl) ⟨kq,kz⟩) ?_
 refine ay ?_
 refine Cx.nil ⟨by kernel_rfl,?_⟩
 refine BV.done K9 (Fin.go (wk [8,7,2,1,0] rfl ?_))
 refine an ?_ ?_<;>intro h1 q1
 refine ac ?_
 refine Tr.ret (Fin.AL (Fin.drop 0 (Fin.drop 0 (Fin.drop 0 (Fin.CD rfl (AR.tmp rfl Lr) ?_ (List.Perm.refl _))))))
 · exact Lr
 rw [h] at h1;exact absurd h1 AB
theorem SP {c b:BA} (hs:Fi e.hashes) (hl:e.hashes.length≤1000000) (h:CE e.hashes c.number=false):Au prog 236 [ptr wb 0] [BQ wb ob c b,BX ob e p3 p5 p6 (is v),Ac 3 1 (e.hashes.map fun n=>[int n]) v] (int 41) []:=by
 refine Au.of func236 rfl rfl Ai fun M0 w0 S rs M1 w1=> ?_
 refine ac ?_
 refine ap ?_
 refine TO.Cv _ rfl rfl AB rfl (Zb (e:=e) (c:=c) (b:=b) hs hl h) ⟨kq,kz⟩ ((AK (j:=0) rfl).trans (List.Perm.cons _ ((AK (j:=0) rfl).trans (List.Perm.cons _ ((AK (j:=0) rfl).trans (List.Perm.cons _ (List.Perm.refl _))))))) ?_
 refine ap ?_
 refine Tr.ret (Fin.CD rfl (AR.tmp rfl Lr) ?_ (List.Perm.refl _))
 · exact Lr
theorem Zc {c b:BA} {bk:Int} (hs:Fi e.hashes) (hl:e.hashes.length≤1000000) (h:CE e.hashes c.number=true):Au prog 297 [ptr wb 0,ptr ob 7,int bk] [BQ wb ob c b,BX ob e p3 p5 p6 (is v),Ac 3 1 (e.hashes.map fun n=>[int n]) v] (int 0) [BQ wb ob c ⟨b.AJ,bk,c.number,b.at_,b.Bj⟩,BX ob e p3 p5 p6 (ints (e.hashes.eraseIdx (B5 e.hashes c.number)))]:=by
 refine Au.of func297 rfl rfl Ai fun M0 w0 S rs M1 w1=> ?_
 have rN:=Hj h
 refine ac ?_
 refine Tr.seq (Tr.rx ?_)
 refine ay ?_
 refine Cx.ef 2 rfl rfl AB (An rfl rfl AB rfl (Iv (l:=e.hashes) hs hl) ⟨kq,kz⟩) ?_
 refine ay ?_
 refine Cx.nil ⟨by kernel_rfl,?_⟩
 refine BV.done K9 (Fin.go (wk [8,7,2,1,0] rfl ?_))
 refine an ?_ ?_<;>intro h1 q1
 rw [h] at h1;exact absurd h1 AB
 refine ac ?_
 refine ap ?_
 refine TO.Kg 2 rfl rfl AB (An rfl rfl AB rfl (Q4 (l:=e.hashes) (i:=B5 e.hashes c.number) (Hj h) hl) ⟨kq,⟨_,rfl,int_eq AA⟩,⟨_,rfl,int_eq AA⟩,trivial⟩) ?_
 refine ap ?_
 refine wk [2,0] rfl ?_
 refine ap ?_
 refine Tr.weak [] trivial ?_
 refine ac ?_
 refine Tr.ret (Fin.drop 2 (Fin.CD rfl (AR.tmp rfl Lr) ?_ (List.Perm.refl _)))
 · exact Lr
theorem SQ {c b:BA} (hs:Fi e.hashes) (hl:e.hashes.length≤1000000) (h:CE e.hashes c.number=true):Au prog 236 [ptr wb 0] [BQ wb ob c b,BX ob e p3 p5 p6 (is v),Ac 3 1 (e.hashes.map fun n=>[int n]) v] (int 0) [BQ wb ob c ⟨b.AJ,9,c.number,b.at_,b.Bj⟩,BX ob e p3 p5 p6 (ints (e.hashes.eraseIdx (B5 e.hashes c.number)))]:=by
 refine Au.of func236 rfl rfl Ai fun M0 w0 S rs M1 w1=> ?_
 refine ac ?_
 refine ap ?_
 refine TO.Cv _ rfl rfl AB rfl (Zc (e:=e) (c:=c) (b:=b) hs hl h) ⟨kq,kz⟩ ((AK (j:=0) rfl).trans (List.Perm.cons _ ((AK (j:=0) rfl).trans (List.Perm.cons _ ((AK (j:=0) rfl).trans (List.Perm.cons _ (List.Perm.refl _))))))) ?_
 refine ap ?_
 refine Tr.ret (Fin.CD rfl (AR.tmp rfl Lr) ?_ (List.Perm.refl _))
 · exact Lr
theorem Mv {c b:BA} {cb:Nat} {n:Int} (h:n=c.number):Au prog 290 [ptr wb 0,ptr cb 0] [BQ wb ob c b,AE true cb 3 [int n]] (int 41) [BQ wb ob c b,AE true cb 3 [int n]]:=by
 refine Au.of func290 rfl rfl Ai fun M0 w0 S rs M1 w1=> ?_
 refine ac ?_
 refine an ?_ ?_<;>intro h1 q1
 refine ac ?_
 refine Tr.ret (Fin.AL (Fin.CD rfl (AR.tmp rfl Lr) ?_ (List.Perm.refl _)))
 · exact Lr
 exfalso;have:=q1;omega
theorem Mw {c b:BA} {cb:Nat} {n:Int} (h:n≠c.number):Au prog 290 [ptr wb 0,ptr cb 0] [BQ wb ob c b,AE true cb 3 [int n]] (int 0) [BQ wb ob c ⟨b.AJ,c.kind,n,b.at_,b.Bj⟩,AE true cb 3 [int c.number]]:=by
 refine Au.of func290 rfl rfl Ai fun M0 w0 S rs M1 w1=> ?_
 refine ac ?_
 refine an ?_ ?_<;>intro h1 q1
 exfalso;have:=q1;omega
 refine ac ?_
 refine Tr.seq (Tr.rx ?_)
 refine ay ?_
 refine Cx.nil ⟨by kernel_rfl,?_⟩
 refine BV.done bF (Fin.go (wk [1,0] rfl ?_))
 refine ap ?_
 refine ac ?_
 refine Tr.ret (Fin.CD rfl (AR.tmp rfl Lr) ?_ (List.Perm.refl _))
 · exact Lr
theorem UI {c b:BA} (h:e.most=c.number):Au prog 290 [ptr wb 0,ptr ob 2] [BQ wb ob c b,BX ob e p3 p5 p6 p7] (int 41) [BQ wb ob c b,BX ob e p3 p5 p6 p7]:=by
 refine Au.of func290 rfl rfl Ai fun M0 w0 S rs M1 w1=> ?_
 refine ac ?_
 refine an ?_ ?_<;>intro h1 q1
 refine ac ?_
 refine Tr.ret (Fin.AL (Fin.CD rfl (AR.tmp rfl Lr) ?_ (List.Perm.refl _)))
 · exact Lr
 exfalso;have:=q1;omega
theorem UJ {c b:BA} (h:e.most≠c.number):Au prog 290 [ptr wb 0,ptr ob 2] [BQ wb ob c b,BX ob e p3 p5 p6 p7] (int 0) [BQ wb ob c ⟨b.AJ,c.kind,e.most,b.at_,b.Bj⟩,BX ob { e with most:=c.number } p3 p5 p6 p7]:=by
 refine Au.of func290 rfl rfl Ai fun M0 w0 S rs M1 w1=> ?_
 refine ac ?_
 refine an ?_ ?_<;>intro h1 q1
 exfalso;have:=q1;omega
 refine ac ?_
 refine Tr.seq (Tr.rx ?_)
 refine ay ?_
 refine Cx.nil ⟨by kernel_rfl,?_⟩
 refine BV.done bF (Fin.go (wk [1,0] rfl ?_))
 refine ap ?_
 refine ac ?_
 refine Tr.ret (Fin.CD rfl (AR.tmp rfl Lr) ?_ (List.Perm.refl _))
 · exact Lr
theorem SS {c b:BA} (h:e.most=c.number):Au prog 229 [ptr wb 0] [BQ wb ob c b,BX ob e p3 p5 p6 p7] (int 41) []:=by
 refine Au.of func229 rfl rfl Ai fun M0 w0 S rs M1 w1=> ?_
 refine ac ?_
 refine ap ?_
 refine TO.Cv _ rfl rfl AB rfl (UI (e:=e) (c:=c) (b:=b) h) ⟨kq,kz⟩ ((AK (j:=0) rfl).trans (List.Perm.cons _ ((AK (j:=0) rfl).trans (List.Perm.cons _ (List.Perm.refl _))))) ?_
 refine ap ?_
 refine Tr.ret (Fin.drop 0 (Fin.drop 0 (Fin.CD rfl (AR.tmp rfl Lr) ?_ (List.Perm.refl _))))
 · exact Lr
theorem SU {c b:BA} (h:e.most≠c.number):Au prog 229 [ptr wb 0] [BQ wb ob c b,BX ob e p3 p5 p6 p7] (int 0) [BQ wb ob c ⟨b.AJ,c.kind,e.most,b.at_,b.Bj⟩,BX ob { e with most:=c.number } p3 p5 p6 p7]:=by
 refine Au.of func229 rfl rfl Ai fun M0 w0 S rs M1 w1=> ?_
 refine ac ?_
 refine ap ?_
 refine TO.Cv _ rfl rfl AB rfl (UJ (e:=e) (c:=c) (b:=b) h) ⟨kq,kz⟩ ((AK (j:=0) rfl).trans (List.Perm.cons _ ((AK (j:=0) rfl).trans (List.Perm.cons _ (List.Perm.refl _))))) ?_
 refine ap ?_
 refine Tr.ret (Fin.CD rfl (AR.tmp rfl Lr) ?_ (List.Perm.refl _))
 · exact Lr
theorem SV {c b:BA} (h:e.least=c.number):Au prog 290 [ptr wb 0,ptr ob 1] [BQ wb ob c b,BX ob e p3 p5 p6 p7] (int 41) [BQ wb ob c b,BX ob e p3 p5 p6 p7]:=by
 refine Au.of func290 rfl rfl Ai fun M0 w0 S rs M1 w1=> ?_
 refine ac ?_
 refine an ?_ ?_<;>intro h1 q1
 refine ac ?_
 refine Tr.ret (Fin.AL (Fin.CD rfl (AR.tmp rfl Lr) ?_ (List.Perm.refl _)))
 · exact Lr
 exfalso;have:=q1;omega
theorem SW {c b:BA} (h:e.least≠c.number):Au prog 290 [ptr wb 0,ptr ob 1] [BQ wb ob c b,BX ob e p3 p5 p6 p7] (int 0) [BQ wb ob c ⟨b.AJ,c.kind,e.least,b.at_,b.Bj⟩,BX ob { e with least:=c.number } p3 p5 p6 p7]:=by
 refine Au.of func290 rfl rfl Ai fun M0 w0 S rs M1 w1=> ?_
 refine ac ?_
 refine an ?_ ?_<;>intro h1 q1
 exfalso;have:=q1;omega
 refine ac ?_
 refine Tr.seq (Tr.rx ?_)
 refine ay ?_
 refine Cx.nil ⟨by kernel_rfl,?_⟩
 refine BV.done bF (Fin.go (wk [1,0] rfl ?_))
 refine ap ?_
 refine ac ?_
 refine Tr.ret (Fin.CD rfl (AR.tmp rfl Lr) ?_ (List.Perm.refl _))
 · exact Lr
theorem Q_ {c b:BA} (h:e.least=c.number):Au prog 230 [ptr wb 0] [BQ wb ob c b,BX ob e p3 p5 p6 p7] (int 41) []:=by
 refine Au.of func230 rfl rfl Ai fun M0 w0 S rs M1 w1=> ?_
 refine ac ?_
 refine ap ?_
 refine TO.Cv _ rfl rfl AB rfl (SV (e:=e) (c:=c) (b:=b) h) ⟨kq,kz⟩ ((AK (j:=0) rfl).trans (List.Perm.cons _ ((AK (j:=0) rfl).trans (List.Perm.cons _ (List.Perm.refl _))))) ?_
 refine ap ?_
 refine Tr.ret (Fin.drop 0 (Fin.drop 0 (Fin.CD rfl (AR.tmp rfl Lr) ?_ (List.Perm.refl _))))
 · exact Lr
theorem RA {c b:BA} (h:e.least≠c.number):Au prog 230 [ptr wb 0] [BQ wb ob c b,BX ob e p3 p5 p6 p7] (int 0) [BQ wb ob c ⟨b.AJ,c.kind,e.least,b.at_,b.Bj⟩,BX ob { e with least:=c.number } p3 p5 p6 p7]:=by
 refine Au.of func230 rfl rfl Ai fun M0 w0 S rs M1 w1=> ?_
 refine ac ?_
 refine ap ?_
 refine TO.Cv _ rfl rfl AB rfl (SW (e:=e) (c:=c) (b:=b) h) ⟨kq,kz⟩ ((AK (j:=0) rfl).trans (List.Perm.cons _ ((AK (j:=0) rfl).trans (List.Perm.cons _ (List.Perm.refl _))))) ?_
 refine ap ?_
 refine Tr.ret (Fin.CD rfl (AR.tmp rfl Lr) ?_ (List.Perm.refl _))
 · exact Lr
abbrev Ca (b:Bool):Int:=if b then 1 else 0
theorem ML {c b:BA} (hr:¬(0≤c.number∧c.number≤1)):Au prog 298 [ptr wb 0,ptr ob 8] [BQ wb ob c b,BX ob e p3 p5 p6 p7] (int 2) []:=by
 refine Au.of func298 rfl rfl Ai fun M0 w0 S rs M1 w1=> ?_
 refine ac ?_
 refine ag ?_ ?_<;>intro h1 q1
 have wS:=q1
 refine ac ?_
 refine wk [20,1,0] rfl ?_
 refine ac ?_
 refine Tr.ret (Fin.AL (Fin.drop 0 (Fin.drop 0 (Fin.CD rfl (AR.tmp rfl Lr) ?_ (List.Perm.refl _)))))
 · exact Lr
 refine ac ?_
 refine wk [20,1,0] rfl ?_
 refine Tr.cn rfl ?_ ?_<;>intro h2 q2
 refine ac ?_
 refine Tr.ret (Fin.AL (Fin.drop 0 (Fin.drop 0 (Fin.CD rfl (AR.tmp rfl Lr) ?_ (List.Perm.refl _)))))
 · exact Lr
 exfalso;simp_all
theorem MM {c b:BA} (hr:¬(0≤c.number∧c.number≤1)):Au prog 237 [ptr wb 0] [BQ wb ob c b,BX ob e p3 p5 p6 p7] (int 2) []:=by
 refine Au.of func237 rfl rfl Ai fun M0 w0 S rs M1 w1=> ?_
 refine ac ?_
 refine ap ?_
 refine TO.Cv _ rfl rfl AB rfl (ML (e:=e) (c:=c) (b:=b) hr) ⟨kq,kz⟩ ((AK (j:=0) rfl).trans (List.Perm.cons _ ((AK (j:=0) rfl).trans (List.Perm.cons _ (List.Perm.refl _))))) ?_
 refine ap ?_
 refine Tr.ret (Fin.CD rfl (AR.tmp rfl Lr) ?_ (List.Perm.refl _))
 · exact Lr
theorem MN {c b:BA} {k:Int} (hr:0≤c.number∧c.number≤1) (hk:Ca e.E_=k) (h:k=c.number):Au prog 298 [ptr wb 0,ptr ob 8] [BQ wb ob c b,BX ob e p3 p5 p6 p7] (int 41) []:=by
 refine Au.of func298 rfl rfl Ai fun M0 w0 S rs M1 w1=> ?_
 refine ac ?_
 refine ag ?_ ?_<;>intro h1 q1
 exfalso;have:=q1;omega
 refine ac ?_
 refine wk [20,1,0] rfl ?_
 refine Tr.cn rfl ?_ ?_<;>intro h2 q2
 exfalso;simp_all;omega
 refine ac ?_
 refine Tr.seq (Tr.BL ?_)
 refine Tl rfl rfl rfl rfl z3 nj (fun b1=> ?_)
 refine ap ?_
 refine an ?_ ?_<;>intro h3 q3
 obtain rfl:k=1:=by rw [←hk];unfold Ca;simp_all
 refine ap ?_
 refine ap ?_
 refine TO.Cv _ rfl rfl AB rfl (Mv (c:=c) (b:=b) h) ⟨kq,kz⟩ ((AK (j:=1) rfl).trans (List.Perm.cons _ ((AK (j:=0) rfl).trans (List.Perm.cons _ (List.Perm.refl _))))) ?_
 refine ap ?_
 refine ap ?_
 refine Tr.drop 1 (wk [6] rfl ?_)
 refine ac ?_
 refine Tr.ret (Fin.drop 0 (Fin.drop 0 (Fin.CD rfl (AR.tmp rfl Lr) ?_ (List.Perm.refl _))))
 · exact Lr
 obtain rfl:k=0:=by rw [←hk];unfold Ca;simp_all
 refine ac ?_
 refine ap ?_
 refine TO.Cv _ rfl rfl AB rfl (Mv (c:=c) (b:=b) h) ⟨kq,kz⟩ ((AK (j:=1) rfl).trans (List.Perm.cons _ ((AK (j:=0) rfl).trans (List.Perm.cons _ (List.Perm.refl _))))) ?_
 refine ap ?_
 refine ap ?_
 refine Tr.drop 1 (wk [6] rfl ?_)
 refine ac ?_
 refine Tr.ret (Fin.drop 0 (Fin.drop 0 (Fin.CD rfl (AR.tmp rfl Lr) ?_ (List.Perm.refl _))))
 · exact Lr
theorem MO {c b:BA} {k:Int} (hr:0≤c.number∧c.number≤1) (hk:Ca e.E_=k) (h:k=c.number):Au prog 237 [ptr wb 0] [BQ wb ob c b,BX ob e p3 p5 p6 p7] (int 41) []:=by
 refine Au.of func237 rfl rfl Ai fun M0 w0 S rs M1 w1=> ?_
 refine ac ?_
 refine ap ?_
 refine TO.Cv _ rfl rfl AB rfl (MN (e:=e) (c:=c) (b:=b) hr hk h) ⟨kq,kz⟩ ((AK (j:=0) rfl).trans (List.Perm.cons _ ((AK (j:=0) rfl).trans (List.Perm.cons _ (List.Perm.refl _))))) ?_
 refine ap ?_
 refine Tr.ret (Fin.CD rfl (AR.tmp rfl Lr) ?_ (List.Perm.refl _))
 · exact Lr
theorem MP {c b:BA} {k:Int} (hr:0≤c.number∧c.number≤1) (hk:Ca e.E_=k) (h:k≠c.number):Au prog 298 [ptr wb 0,ptr ob 8] [BQ wb ob c b,BX ob e p3 p5 p6 p7] (int 0) [BQ wb ob c ⟨b.AJ,c.kind,k,b.at_,b.Bj⟩,BX ob { e with E_:=(c.number==1) } p3 p5 p6 p7]:=by
 refine Au.of func298 rfl rfl Ai fun M0 w0 S rs M1 w1=> ?_
 refine ac ?_
 refine ag ?_ ?_<;>intro h1 q1
 exfalso;have:=q1;omega
 refine ac ?_
 refine wk [20,1,0] rfl ?_
 refine Tr.cn rfl ?_ ?_<;>intro h2 q2
 exfalso;simp_all;omega
 refine ac ?_
 refine Tr.seq (Tr.BL ?_)
 refine Tl rfl rfl rfl rfl z3 nj (fun b1=> ?_)
 refine ap ?_
 refine an ?_ ?_<;>intro h3 q3
 obtain rfl:k=1:=by rw [←hk];unfold Ca;simp_all
 refine ap ?_
 refine ap ?_
 refine TO.Cv _ rfl rfl AB rfl (Mw (c:=c) (b:=b) h) ⟨kq,kz⟩ ((AK (j:=1) rfl).trans (List.Perm.cons _ ((AK (j:=0) rfl).trans (List.Perm.cons _ (List.Perm.refl _))))) ?_
 refine ap ?_
 refine ap ?_
 refine Tr.drop 1 (wk [6] rfl ?_)
 refine ac ?_
 refine Tr.ret (Fin.CD rfl (AR.tmp rfl Lr) ?_ (List.Perm.refl _))
 · exact Lr
 obtain rfl:k=0:=by rw [←hk];unfold Ca;simp_all
 refine ac ?_
 refine ap ?_
 refine TO.Cv _ rfl rfl AB rfl (Mw (c:=c) (b:=b) h) ⟨kq,kz⟩ ((AK (j:=1) rfl).trans (List.Perm.cons _ ((AK (j:=0) rfl).trans (List.Perm.cons _ (List.Perm.refl _))))) ?_
 refine ap ?_
 refine ap ?_
 refine Tr.drop 1 (wk [6] rfl ?_)
 refine ac ?_
 refine Tr.ret (Fin.CD rfl (AR.tmp rfl Lr) ?_ (List.Perm.refl _))
 · exact Lr
theorem MQ {c b:BA} {k:Int} (hr:0≤c.number∧c.number≤1) (hk:Ca e.E_=k) (h:k≠c.number):Au prog 237 [ptr wb 0] [BQ wb ob c b,BX ob e p3 p5 p6 p7] (int 0) [BQ wb ob c ⟨b.AJ,c.kind,k,b.at_,b.Bj⟩,BX ob { e with E_:=(c.number==1) } p3 p5 p6 p7]:=by
 refine Au.of func237 rfl rfl Ai fun M0 w0 S rs M1 w1=> ?_
 refine ac ?_
 refine ap ?_
 refine TO.Cv _ rfl rfl AB rfl (MP (e:=e) (c:=c) (b:=b) hr hk h) ⟨kq,kz⟩ ((AK (j:=0) rfl).trans (List.Perm.cons _ ((AK (j:=0) rfl).trans (List.Perm.cons _ (List.Perm.refl _))))) ?_
 refine ap ?_
 refine Tr.ret (Fin.CD rfl (AR.tmp rfl Lr) ?_ (List.Perm.refl _))
 · exact Lr
theorem RB {c b:BA} (hr:¬(0≤c.number∧c.number≤1)):Au prog 298 [ptr wb 0,ptr ob 4] [BQ wb ob c b,BX ob e p3 p5 p6 p7] (int 2) []:=by
 refine Au.of func298 rfl rfl Ai fun M0 w0 S rs M1 w1=> ?_
 refine ac ?_
 refine ag ?_ ?_<;>intro h1 q1
 have wS:=q1
 refine ac ?_
 refine wk [20,1,0] rfl ?_
 refine ac ?_
 refine Tr.ret (Fin.AL (Fin.drop 0 (Fin.drop 0 (Fin.CD rfl (AR.tmp rfl Lr) ?_ (List.Perm.refl _)))))
 · exact Lr
 refine ac ?_
 refine wk [20,1,0] rfl ?_
 refine Tr.cn rfl ?_ ?_<;>intro h2 q2
 refine ac ?_
 refine Tr.ret (Fin.AL (Fin.drop 0 (Fin.drop 0 (Fin.CD rfl (AR.tmp rfl Lr) ?_ (List.Perm.refl _)))))
 · exact Lr
 exfalso;simp_all
theorem RC {c b:BA} (hr:¬(0≤c.number∧c.number≤1)):Au prog 238 [ptr wb 0] [BQ wb ob c b,BX ob e p3 p5 p6 p7] (int 2) []:=by
 refine Au.of func238 rfl rfl Ai fun M0 w0 S rs M1 w1=> ?_
 refine ac ?_
 refine ap ?_
 refine TO.Cv _ rfl rfl AB rfl (RB (e:=e) (c:=c) (b:=b) hr) ⟨kq,kz⟩ ((AK (j:=0) rfl).trans (List.Perm.cons _ ((AK (j:=0) rfl).trans (List.Perm.cons _ (List.Perm.refl _))))) ?_
 refine ap ?_
 refine Tr.ret (Fin.CD rfl (AR.tmp rfl Lr) ?_ (List.Perm.refl _))
 · exact Lr
theorem RD {c b:BA} {k:Int} (hr:0≤c.number∧c.number≤1) (hk:Ca e.own=k) (h:k=c.number):Au prog 298 [ptr wb 0,ptr ob 4] [BQ wb ob c b,BX ob e p3 p5 p6 p7] (int 41) []:=by
 refine Au.of func298 rfl rfl Ai fun M0 w0 S rs M1 w1=> ?_
 refine ac ?_
 refine ag ?_ ?_<;>intro h1 q1
 exfalso;have:=q1;omega
 refine ac ?_
 refine wk [20,1,0] rfl ?_
 refine Tr.cn rfl ?_ ?_<;>intro h2 q2
 exfalso;simp_all;omega
 refine ac ?_
 refine Tr.seq (Tr.BL ?_)
 refine Tl rfl rfl rfl rfl z3 nj (fun b1=> ?_)
 refine ap ?_
 refine an ?_ ?_<;>intro h3 q3
 obtain rfl:k=1:=by rw [←hk];unfold Ca;simp_all
 refine ap ?_
 refine ap ?_
 refine TO.Cv _ rfl rfl AB rfl (Mv (c:=c) (b:=b) h) ⟨kq,kz⟩ ((AK (j:=1) rfl).trans (List.Perm.cons _ ((AK (j:=0) rfl).trans (List.Perm.cons _ (List.Perm.refl _))))) ?_
 refine ap ?_
 refine ap ?_
 refine Tr.drop 1 (wk [6] rfl ?_)
 refine ac ?_
 refine Tr.ret (Fin.drop 0 (Fin.drop 0 (Fin.CD rfl (AR.tmp rfl Lr) ?_ (List.Perm.refl _))))
 · exact Lr
 obtain rfl:k=0:=by rw [←hk];unfold Ca;simp_all
 refine ac ?_
 refine ap ?_
 refine TO.Cv _ rfl rfl AB rfl (Mv (c:=c) (b:=b) h) ⟨kq,kz⟩ ((AK (j:=1) rfl).trans (List.Perm.cons _ ((AK (j:=0) rfl).trans (List.Perm.cons _ (List.Perm.refl _))))) ?_
 refine ap ?_
 refine ap ?_
 refine Tr.drop 1 (wk [6] rfl ?_)
 refine ac ?_
 refine Tr.ret (Fin.drop 0 (Fin.drop 0 (Fin.CD rfl (AR.tmp rfl Lr) ?_ (List.Perm.refl _))))
 · exact Lr
theorem RE {c b:BA} {k:Int} (hr:0≤c.number∧c.number≤1) (hk:Ca e.own=k) (h:k=c.number):Au prog 238 [ptr wb 0] [BQ wb ob c b,BX ob e p3 p5 p6 p7] (int 41) []:=by
 refine Au.of func238 rfl rfl Ai fun M0 w0 S rs M1 w1=> ?_
 refine ac ?_
 refine ap ?_
 refine TO.Cv _ rfl rfl AB rfl (RD (e:=e) (c:=c) (b:=b) hr hk h) ⟨kq,kz⟩ ((AK (j:=0) rfl).trans (List.Perm.cons _ ((AK (j:=0) rfl).trans (List.Perm.cons _ (List.Perm.refl _))))) ?_
 refine ap ?_
 refine Tr.ret (Fin.CD rfl (AR.tmp rfl Lr) ?_ (List.Perm.refl _))
 · exact Lr
theorem RF {c b:BA} {k:Int} (hr:0≤c.number∧c.number≤1) (hk:Ca e.own=k) (h:k≠c.number):Au prog 298 [ptr wb 0,ptr ob 4] [BQ wb ob c b,BX ob e p3 p5 p6 p7] (int 0) [BQ wb ob c ⟨b.AJ,c.kind,k,b.at_,b.Bj⟩,BX ob { e with own:=(c.number==1) } p3 p5 p6 p7]:=by
 refine Au.of func298 rfl rfl Ai fun M0 w0 S rs M1 w1=> ?_
 refine ac ?_
 refine ag ?_ ?_<;>intro h1 q1
 exfalso;have:=q1;omega
 refine ac ?_
 refine wk [20,1,0] rfl ?_
 refine Tr.cn rfl ?_ ?_<;>intro h2 q2
 exfalso;simp_all;omega
 refine ac ?_
 refine Tr.seq (Tr.BL ?_)
 refine Tl rfl rfl rfl rfl z3 nj (fun b1=> ?_)
 refine ap ?_
 refine an ?_ ?_<;>intro h3 q3
 obtain rfl:k=1:=by rw [←hk];unfold Ca;simp_all
 refine ap ?_
 refine ap ?_
 refine TO.Cv _ rfl rfl AB rfl (Mw (c:=c) (b:=b) h) ⟨kq,kz⟩ ((AK (j:=1) rfl).trans (List.Perm.cons _ ((AK (j:=0) rfl).trans (List.Perm.cons _ (List.Perm.refl _))))) ?_
 refine ap ?_
 refine ap ?_
 refine Tr.drop 1 (wk [6] rfl ?_)
 refine ac ?_
 refine Tr.ret (Fin.CD rfl (AR.tmp rfl Lr) ?_ (List.Perm.refl _))
 · exact Lr
 obtain rfl:k=0:=by rw [←hk];unfold Ca;simp_all
 refine ac ?_
 refine ap ?_
 refine TO.Cv _ rfl rfl AB rfl (Mw (c:=c) (b:=b) h) ⟨kq,kz⟩ ((AK (j:=1) rfl).trans (List.Perm.cons _ ((AK (j:=0) rfl).trans (List.Perm.cons _ (List.Perm.refl _))))) ?_
 refine ap ?_
 refine ap ?_
 refine Tr.drop 1 (wk [6] rfl ?_)
 refine ac ?_
 refine Tr.ret (Fin.CD rfl (AR.tmp rfl Lr) ?_ (List.Perm.refl _))
 · exact Lr
theorem RG {c b:BA} {k:Int} (hr:0≤c.number∧c.number≤1) (hk:Ca e.own=k) (h:k≠c.number):Au prog 238 [ptr wb 0] [BQ wb ob c b,BX ob e p3 p5 p6 p7] (int 0) [BQ wb ob c ⟨b.AJ,c.kind,k,b.at_,b.Bj⟩,BX ob { e with own:=(c.number==1) } p3 p5 p6 p7]:=by
 refine Au.of func238 rfl rfl Ai fun M0 w0 S rs M1 w1=> ?_
 refine ac ?_
 refine ap ?_
 refine TO.Cv _ rfl rfl AB rfl (RF (e:=e) (c:=c) (b:=b) hr hk h) ⟨kq,kz⟩ ((AK (j:=0) rfl).trans (List.Perm.cons _ ((AK (j:=0) rfl).trans (List.Perm.cons _ (List.Perm.refl _))))) ?_
 refine ap ?_
 refine Tr.ret (Fin.CD rfl (AR.tmp rfl Lr) ?_ (List.Perm.refl _))
 · exact Lr
theorem Zd (B8:e.small):Im prog 85 [agg (Am e)] (fun x=>agg (ZT e (ints e.AG) (FP e.ids) (is x) (ints e.hashes))) (fun x=>[Ac 3 1 (e.anchors.map fun n=>[int n]) x]):=by
 refine Im.of func85 rfl rfl Ai fun M0 w0 S rs M1 w1=> ?_
 have hs1:=B8.AG
 have L_:=B8.anchors
 have TD:=B8.hashes
 have Xi:=B8.Ox
 refine Tr.seq (Tr.BL ?_)
 refine TO.Jo rfl rfl AB rfl CS (fun b1=> ?_)
 refine Tl rfl rfl rfl rfl G7 Dn (fun b2=> ?_)
 refine ao ?_
 refine Tr.seq (Tr.pad (Tr.pad (Tr.rx ?_)))
 refine ax ?_
 refine xo rfl (fun _=>Bn (C6 (l:=e.AG) hs1) rfl rfl) ?_
 refine ax ?_
 refine Cx.ef 0 rfl rfl AB (E2 rfl rfl AB rfl (Ld (l:=e.anchors) L_) kz) ?_
 refine ax ?_
 refine xo rfl (fun _=>Bn (C6 (l:=e.hashes) TD) rfl rfl) ?_
 refine ax ?_
 refine Cx.ef 1 rfl rfl AB (E2 rfl rfl AB rfl (HA (l:=e.ids) Xi) kz) ?_
 refine xo rfl (fun _=>AF rfl Fu vq) (Cx.D7 3 rfl rfl (Bm rfl rfl vq CX Gs rfl Ai rfl) (xo rfl (fun _=>AF rfl Jv vq) (Cx.D7 3 rfl rfl (DT rfl rfl rfl vq rfl Gs Ai) (xo rfl (fun _=>AF rfl Jw vq) (Cx.D7 3 rfl rfl (Lb rfl rfl rfl vq CX Gs rfl (fun _=>by exact Nat.le_of_ble_eq_true rfl)) (xo rfl (fun _=>AF rfl GI vq) (Cx.D7 3 rfl rfl (LZ rfl rfl rfl vq rfl R4 (fun _=>by exact Nat.le_of_ble_eq_true rfl)) ?_)))))))
 refine Cx.nil ⟨by kernel_rfl,?_⟩
 refine BV.Yq 0 1 3 10 16 rfl rfl rfl AB AB AB AB rfl rfl (fun v1 v2=> ?_)
 refine BV.done dO (Fin.go (wk [2,1] rfl ?_))
 refine ac ?_
 refine co rfl (Bk 1 rfl (E4 rfl underlying77 Er)) ?_
 refine ac ?_
 refine Tr.block (Tr.re 23 rfl (int_eq HI) (Tr.Bc _ (kk [23,22,2,1] rfl) (fun k:Nat=>[(24,int ((k:Nat):Int))]) (fun k:Nat=>k≤(e.ids).length) (fun k:Nat=>(e.ids).length-k) 0 (Nat.zero_le _) kz ?_))
 rintro k Be
 refine ac ?_
 refine Tr.seq ?_
 refine Tr.cn rfl ?_ ?_<;>intro h1 q1
 have Ae:k<(e.ids).length:=AV h1
 obtain ⟨x,Af⟩:=at_ Ae
 have hxs:=B8.ids x (List.mem_of_getElem? Af)
 refine ac ?_
 refine ao ?_
 refine tp rfl (Bk 1 rfl (EG rfl underlying77 Bl Er vq AA CT)) ?_
 refine tp rfl (Bk 1 rfl (Eo rfl Fe Bl vq (Aj fun _=>rfl) Fp)) ?_
 refine Tl rfl rfl rfl rfl LW Js (fun b3=> ?_)
 refine tm rfl ?_
 refine sf 0 4 ⟨rfl,rfl,rfl⟩ rfl rfl rfl rfl ?_
 refine ao ?_
 refine Tr.rx ?_
 refine ax ?_
 refine xo rfl (fun _=>Bn (E7 hxs) rfl rfl) ?_
 refine IC 1 rfl rfl (EG rfl underlying77 Bl Er vq AA CT) ?_
 refine Cx.D7 1 rfl rfl (D4 rfl rfl vq CS Bl rfl (Aj fun _=>rfl) Fp AB (G_ (f:=BJ) (q:=0) (m:=4) Af rfl)) ?_
 refine Cx.nil ⟨by kernel_rfl,?_⟩
 refine BV.done dO ?_
 refine ac ?_
 refine wk [24,23,22,2,1] rfl ?_
 refine ac ?_
 exact Fin.AQ (k+1) ⟨Ae,by omega⟩ ⟨⟨_,rfl,AO k⟩,kz⟩
 have BM:k=(e.ids).length:=by have:=AW h1;omega
 subst BM
 refine ac ?_
 refine Tr.seq (Tr.Gf 3 1 5 rfl rfl AB rfl (Cz _ _) (Aj fun _=>rfl) ?_)
 refine ao ?_
 refine TO.Ap 2 rfl rfl rfl vq CS rfl Ba rfl rfl ?_
 refine ao ?_
 refine Tr.drop 1 (Tr.drop 2 (Tr.ret (Fin.Lc (Fin.WV v1 [_] rfl (AR.cell 0 rfl rfl Bv Ba rfl Lr) ?_ (List.Perm.refl _)))))
 · exact BP ⟨Lr,Lr,Lr,Lr,Lr,Lr,Cz _ _,Lr,Lr,trivial⟩
theorem Ze (B8:e.small):Im prog 85 [agg (Am e)] (fun x=>agg (ZT e (ints e.AG) (FP e.ids) (ints e.anchors) (is x))) (fun x=>[Ac 3 1 (e.hashes.map fun n=>[int n]) x]):=by
 refine Im.of func85 rfl rfl Ai fun M0 w0 S rs M1 w1=> ?_
 have hs1:=B8.AG
 have L_:=B8.anchors
 have TD:=B8.hashes
 have Xi:=B8.Ox
 refine Tr.seq (Tr.BL ?_)
 refine TO.Jo rfl rfl AB rfl CS (fun b1=> ?_)
 refine Tl rfl rfl rfl rfl G7 Dn (fun b2=> ?_)
 refine ao ?_
 refine Tr.seq (Tr.pad (Tr.pad (Tr.rx ?_)))
 refine ax ?_
 refine xo rfl (fun _=>Bn (C6 (l:=e.AG) hs1) rfl rfl) ?_
 refine ax ?_
 refine xo rfl (fun _=>Bn (C6 (l:=e.anchors) L_) rfl rfl) ?_
 refine ax ?_
 refine Cx.ef 0 rfl rfl AB (E2 rfl rfl AB rfl (Ld (l:=e.hashes) TD) kz) ?_
 refine ax ?_
 refine Cx.ef 1 rfl rfl AB (E2 rfl rfl AB rfl (HA (l:=e.ids) Xi) kz) ?_
 refine xo rfl (fun _=>AF rfl Fu vq) (Cx.D7 3 rfl rfl (Bm rfl rfl vq CX Gs rfl Ai rfl) (xo rfl (fun _=>AF rfl Jv vq) (Cx.D7 3 rfl rfl (Bm rfl rfl vq CX Gs rfl Ai rfl) (xo rfl (fun _=>AF rfl Jw vq) (Cx.D7 3 rfl rfl (DT rfl rfl rfl vq rfl Gs Ai) (xo rfl (fun _=>AF rfl GI vq) (Cx.D7 3 rfl rfl (LZ rfl rfl rfl vq rfl R4 (fun _=>by exact Nat.le_of_ble_eq_true rfl)) ?_)))))))
 refine Cx.nil ⟨by kernel_rfl,?_⟩
 refine BV.Yq 0 1 3 13 16 rfl rfl rfl AB AB AB AB rfl rfl (fun v1 v2=> ?_)
 refine BV.done dO (Fin.go (wk [2,1] rfl ?_))
 refine ac ?_
 refine co rfl (Bk 1 rfl (E4 rfl underlying77 Er)) ?_
 refine ac ?_
 refine Tr.block (Tr.re 23 rfl (int_eq HI) (Tr.Bc _ (kk [23,22,2,1] rfl) (fun k:Nat=>[(24,int ((k:Nat):Int))]) (fun k:Nat=>k≤(e.ids).length) (fun k:Nat=>(e.ids).length-k) 0 (Nat.zero_le _) kz ?_))
 rintro k Be
 refine ac ?_
 refine Tr.seq ?_
 refine Tr.cn rfl ?_ ?_<;>intro h1 q1
 have Ae:k<(e.ids).length:=AV h1
 obtain ⟨x,Af⟩:=at_ Ae
 have hxs:=B8.ids x (List.mem_of_getElem? Af)
 refine ac ?_
 refine ao ?_
 refine tp rfl (Bk 1 rfl (EG rfl underlying77 Bl Er vq AA CT)) ?_
 refine tp rfl (Bk 1 rfl (Eo rfl Fe Bl vq (Aj fun _=>rfl) Fp)) ?_
 refine Tl rfl rfl rfl rfl LW Js (fun b3=> ?_)
 refine tm rfl ?_
 refine sf 0 4 ⟨rfl,rfl,rfl⟩ rfl rfl rfl rfl ?_
 refine ao ?_
 refine Tr.rx ?_
 refine ax ?_
 refine xo rfl (fun _=>Bn (E7 hxs) rfl rfl) ?_
 refine IC 1 rfl rfl (EG rfl underlying77 Bl Er vq AA CT) ?_
 refine Cx.D7 1 rfl rfl (D4 rfl rfl vq CS Bl rfl (Aj fun _=>rfl) Fp AB (G_ (f:=BJ) (q:=0) (m:=4) Af rfl)) ?_
 refine Cx.nil ⟨by kernel_rfl,?_⟩
 refine BV.done dO ?_
 refine ac ?_
 refine wk [24,23,22,2,1] rfl ?_
 refine ac ?_
 exact Fin.AQ (k+1) ⟨Ae,by omega⟩ ⟨⟨_,rfl,AO k⟩,kz⟩
 have BM:k=(e.ids).length:=by have:=AW h1;omega
 subst BM
 refine ac ?_
 refine Tr.seq (Tr.Gf 3 1 5 rfl rfl AB rfl (Cz _ _) (Aj fun _=>rfl) ?_)
 refine ao ?_
 refine TO.Ap 2 rfl rfl rfl vq CS rfl Ba rfl rfl ?_
 refine ao ?_
 refine Tr.drop 1 (Tr.drop 2 (Tr.ret (Fin.Lc (Fin.WV v1 [_] rfl (AR.cell 0 rfl rfl Bv Ba rfl Lr) ?_ (List.Perm.refl _)))))
 · exact BP ⟨Lr,Lr,Lr,Lr,Lr,Lr,Lr,Cz _ _,Lr,trivial⟩
theorem SX (B8:e.small):Ay prog 85 [agg (Am e)] (agg (Am e)):=by
 refine fo func85 rfl ⟨rfl,rfl⟩ fun M0 w0=> ?_
 have hs1:=B8.AG
 have L_:=B8.anchors
 have TD:=B8.hashes
 have Xi:=B8.Ox
 refine Tr.seq (Tr.BL ?_)
 refine TO.Jo rfl rfl AB rfl CS (fun b1=> ?_)
 refine Tl rfl rfl rfl rfl G7 Dn (fun b2=> ?_)
 refine ao ?_
 refine Tr.seq (Tr.pad (Tr.rx ?_))
 refine ax ?_
 refine xo rfl (fun _=>Bn (C6 (l:=e.AG) hs1) rfl rfl) ?_
 refine ax ?_
 refine xo rfl (fun _=>Bn (C6 (l:=e.anchors) L_) rfl rfl) ?_
 refine ax ?_
 refine xo rfl (fun _=>Bn (C6 (l:=e.hashes) TD) rfl rfl) ?_
 refine ax ?_
 refine Cx.ef 0 rfl rfl AB (E2 rfl rfl AB rfl (HA (l:=e.ids) Xi) kz) ?_
 refine xo rfl (fun _=>AF rfl Fu vq) (Cx.D7 2 rfl rfl (Bm rfl rfl vq CX Gs rfl Ai rfl) (xo rfl (fun _=>AF rfl Jv vq) (Cx.D7 2 rfl rfl (Bm rfl rfl vq CX Gs rfl Ai rfl) (xo rfl (fun _=>AF rfl Jw vq) (Cx.D7 2 rfl rfl (Bm rfl rfl vq CX Gs rfl Ai rfl) (xo rfl (fun _=>AF rfl GI vq) (Cx.D7 2 rfl rfl (DT rfl rfl rfl vq rfl R4 Ai) ?_)))))))
 refine Cx.nil ⟨by kernel_rfl,?_⟩
 refine BV.Np 0 2 16 rfl rfl AB rfl (fun v1=> ?_)
 refine BV.done bF (Fin.go (wk [2,1] rfl ?_))
 refine ac ?_
 refine co rfl (Bk 0 rfl (E4 rfl underlying77 Er)) ?_
 refine ac ?_
 refine Tr.block (Tr.re 23 rfl (int_eq HI) (Tr.Bc _ (kk [23,22,2,1] rfl) (fun k:Nat=>[(24,int ((k:Nat):Int))]) (fun k:Nat=>k≤(e.ids).length) (fun k:Nat=>(e.ids).length-k) 0 (Nat.zero_le _) kz ?_))
 rintro k Be
 refine ac ?_
 refine Tr.seq ?_
 refine Tr.cn rfl ?_ ?_<;>intro h1 q1
 have Ae:k<(e.ids).length:=AV h1
 obtain ⟨x,Af⟩:=at_ Ae
 have hxs:=B8.ids x (List.mem_of_getElem? Af)
 refine ac ?_
 refine ao ?_
 refine tp rfl (Bk 0 rfl (EG rfl underlying77 Bl Er vq AA CT)) ?_
 refine tp rfl (Bk 0 rfl (Eo rfl Fe Bl vq (Aj fun _=>rfl) Fp)) ?_
 refine Tl rfl rfl rfl rfl LW Js (fun b3=> ?_)
 refine tm rfl ?_
 refine sf 0 4 ⟨rfl,rfl,rfl⟩ rfl rfl rfl rfl ?_
 refine ao ?_
 refine Tr.rx ?_
 refine ax ?_
 refine xo rfl (fun _=>Bn (E7 hxs) rfl rfl) ?_
 refine IC 0 rfl rfl (EG rfl underlying77 Bl Er vq AA CT) ?_
 refine Cx.D7 0 rfl rfl (D4 rfl rfl vq CS Bl rfl (Aj fun _=>rfl) Fp AB (G_ (f:=BJ) (q:=0) (m:=4) Af rfl)) ?_
 refine Cx.nil ⟨by kernel_rfl,?_⟩
 refine BV.done bF ?_
 refine ac ?_
 refine wk [24,23,22,2,1] rfl ?_
 refine ac ?_
 exact Fin.AQ (k+1) ⟨Ae,by omega⟩ ⟨⟨_,rfl,AO k⟩,kz⟩
 have BM:k=(e.ids).length:=by have:=AW h1;omega
 subst BM
 refine ac ?_
 refine Tr.seq (Tr.Gf 2 0 5 rfl rfl AB rfl (Cz _ _) (Aj fun _=>rfl) ?_)
 refine ao ?_
 refine TO.Ap 1 rfl rfl rfl vq CS rfl Ba rfl rfl ?_
 refine ao ?_
 refine Tr.drop 0 (Tr.drop 1 (Tr.ret (Fin.CF rfl (AR.cell 0 rfl rfl Bv Ba rfl Lr) ?_)))
 · exact Lr
def B6 (e2:CO) (b:BA) (err:Int):CO×BA×Int:=if err≠0 then (BR,BO,err) else if CA e2=true then (e2,b,0) else (BR,BO,18)
theorem SY {c b:BA} {fk:Nat} {err:Int} (hf:e.fits) (B8:e.small) (hce:CA e=true) (hk:1≤c.kind∧c.kind≤12) (Kx:GY c=true) (hkp:EH[c.kind.toNat]? =some (fn (.func fk) [])) (hbk:b.Bj.small) (Oh:e2.fits) (hm:(err≠0∧∀(wb ob:Nat) (v:Value),Au prog fk [ptr wb 0] [BQ wb ob c (Bp c),BX ob e (ints e.AG) (is v) (ints e.anchors) (ints e.hashes),Ac 65 4 (e.ids.map BJ) v] (int err) [])∨(err=0∧∀(wb ob:Nat) (v:Value),Au prog fk [ptr wb 0] [BQ wb ob c (Bp c),BX ob e (ints e.AG) (is v) (ints e.anchors) (ints e.hashes),Ac 65 4 (e.ids.map BJ) v] (int 0) [BQ wb ob c b,AE true ob 79 (Am e2)])):Ay prog 86 [agg (Am e),agg (A9 c)] (D_ [agg (Am (B6 e2 b err).1),agg (A9 (B6 e2 b err).2.1),int (B6 e2 b err).2.2]):=by
 refine fo func86 rfl ⟨rfl,rfl⟩ fun M0 w0=>(Tr.seq (Tr.BL (tp rfl (BK rfl CS) (tp rfl (BK rfl CS) ?_))))
 refine Tl rfl rfl rfl rfl G7 Dn (fun b1=> ?_)
 refine Tl rfl rfl rfl rfl K8 F6 (fun b2=> ?_)
 refine ap ?_
 refine ac ?_
 refine co rfl (Bn (DW hf) rfl rfl) ?_
 refine an ?_ ?_<;>intro h1 q1
 exfalso;rw [if_pos hce] at h1;exact absurd h1 AB
 refine ac ?_
 refine ag ?_ ?_<;>intro h2 q2
 exfalso;have:=q2;omega
 refine ag ?_ ?_<;>intro h3 q3
 exfalso;have:=q3;omega
 refine cy h3 rfl (AX rfl CI B0 vq rfl rfl) ?_
 refine cy h3 rfl (Bn (Le (c:=c)) rfl rfl) ?_
 refine ac ?_
 refine wk [27,5,4,3,2] rfl ?_
 refine Tr.cn rfl ?_ ?_<;>intro h4 q4
 rw [Kx] at h4;exact absurd h4 AB
 refine ac ?_
 refine ap ?_
 refine TO.N_ rfl rfl AB rfl (ZV B8) kz (fun v1=> ?_)
 refine Tl rfl rfl rfl rfl G7 Dn (fun b3=> ?_)
 refine ap ?_
 refine ap ?_
 refine TO.Jo rfl rfl AB rfl CS (fun b4=> ?_)
 refine ap ?_
 refine wk [8,7,5,4,3] rfl (Tr.seq (Tr.seq (Tr.jg 0 (ptr b3 0::OG c (Bp c)) rfl ⟨Lr,Lr,Lr,Lr,Lr,Lr,Lr,Lr,Lr,Lr,Lr,Lr,Lr,Lr,Lr,Lr,AH 15,trivial⟩ ?_)))
 rcases hm with ⟨he,hm⟩|⟨he,hm⟩
 refine Tr.DI mixed 5 BD (AM.op rfl rfl AB (Qx (FW) rfl) (AM.op rfl rfl AB (Oa rfl GH rfl rfl) (AM.op rfl rfl AB (GX rfl C1 rfl) (AM.op rfl rfl AB (Dj rfl underlying261 Gt JZ vq vq AA AA hkp) (AM.op rfl rfl AB (BU rfl vq) ?_)))))
 refine AM.turn _ rfl AB (DK _ rfl rfl vq (hm _ _ _) kz ((AK (j:=0) rfl).trans (List.Perm.cons _ ((AK (j:=0) rfl).trans (List.Perm.cons _ ((AK (j:=0) rfl).trans (List.Perm.cons _ (List.Perm.refl _)))))))) ?_
 refine a2 ?_
 refine wk [45,9,8,7,5,4] rfl ?_
 refine Tr.cn rfl ?_ ?_<;>intro h5 q5
 have hX:B6 e2 b err=(BR,BO,err):=if_pos he
 refine ap ?_
 refine Tr.ret (Fin.AL (Fin.EO rfl (AR.cell 1 rfl rfl Bv Ba rfl Lr) (AR.cell 0 rfl rfl CI B0 rfl Lr) (AR.tmp rfl Lr) ?_))
 refine BT ⟨?_,?_,?_,trivial⟩
 · exact Gk
 · exact Gl
 · exact EZ
 exfalso;have:=q5;omega
 refine Tr.DI mixed 5 BD (AM.op rfl rfl AB (Qx (FW) rfl) (AM.op rfl rfl AB (Oa rfl GH rfl rfl) (AM.op rfl rfl AB (GX rfl C1 rfl) (AM.op rfl rfl AB (Dj rfl underlying261 Gt JZ vq vq AA AA hkp) (AM.op rfl rfl AB (BU rfl vq) ?_)))))
 refine AM.turn _ rfl AB (DK _ rfl rfl vq (hm _ _ _) kz ((AK (j:=0) rfl).trans (List.Perm.cons _ ((AK (j:=0) rfl).trans (List.Perm.cons _ ((AK (j:=0) rfl).trans (List.Perm.cons _ (List.Perm.refl _)))))))) ?_
 refine a2 ?_
 refine wk [45,9,8,7,5,4] rfl ?_
 refine Tr.cn rfl ?_ ?_<;>intro h6 q6
 exact absurd h6 AB
 refine a2 ?_
 refine co rfl (Bn (DW (e:=e2) Oh) rfl rfl) ?_
 refine an ?_ ?_<;>intro h7 q7
 have Hl:¬CA e2=true:=by intro h_;rw [if_pos h_] at h7;exact absurd h7 AB
 have hX:B6 e2 b err=(BR,BO,18):=(if_neg (fun h_=>h_ he)).trans (if_neg Hl)
 refine ap ?_
 refine Tr.ret (Fin.AL (Fin.EO rfl (AR.cell 3 rfl rfl Bv Ba rfl Lr) (AR.cell 2 rfl rfl CI B0 rfl Lr) (AR.tmp rfl Lr) ?_))
 refine BT ⟨?_,?_,?_,trivial⟩
 · exact Gk
 · exact Gl
 · exact EZ
 have Hl:CA e2=true:=Decidable.byContradiction fun h_=>by rw [if_neg h_] at h7;exact absurd h7 AB
 have hX:B6 e2 b err=(e2,b,0):=(if_neg (fun h_=>h_ he)).trans (if_pos Hl)
 refine ac ?_
 refine Tr.seq (Tr.rx ?_)
 refine ay ?_
 refine xo rfl (fun _=>Bn (Kv (c:=b) hbk) rfl rfl) ?_
 refine ay ?_
 refine Cx.nil ⟨by kernel_rfl,?_⟩
 refine BV.done K9 (Fin.go (wk [6,5,4] rfl (Tr.ret (Fin.EO rfl (AR.cell 3 rfl rfl Bv Ba rfl Lr) (AR.cell 2 rfl rfl CI B0 rfl Lr) (AR.tmp rfl Lr) ?_))))
 refine BT ⟨?_,?_,?_,trivial⟩
 · exact FR
 · exact FR
 · exact EZ
theorem SZ {c b:BA} {fk:Nat} {err:Int} (hf:e.fits) (B8:e.small) (hce:CA e=true) (hk:1≤c.kind∧c.kind≤12) (Kx:GY c=true) (hkp:EH[c.kind.toNat]? =some (fn (.func fk) [])) (hbk:b.Bj.small) (Oh:e2.fits) (hm:(err≠0∧∀(wb ob:Nat) (v:Value),Au prog fk [ptr wb 0] [BQ wb ob c (Bp c),BX ob e (is v) (FP e.ids) (ints e.anchors) (ints e.hashes),Ac 3 1 (e.AG.map fun n=>[int n]) v] (int err) [])∨(err=0∧∀(wb ob:Nat) (v:Value),Au prog fk [ptr wb 0] [BQ wb ob c (Bp c),BX ob e (is v) (FP e.ids) (ints e.anchors) (ints e.hashes),Ac 3 1 (e.AG.map fun n=>[int n]) v] (int 0) [BQ wb ob c b,AE true ob 79 (Am e2)])):Ay prog 86 [agg (Am e),agg (A9 c)] (D_ [agg (Am (B6 e2 b err).1),agg (A9 (B6 e2 b err).2.1),int (B6 e2 b err).2.2]):=by
 refine fo func86 rfl ⟨rfl,rfl⟩ fun M0 w0=>(Tr.seq (Tr.BL (tp rfl (BK rfl CS) (tp rfl (BK rfl CS) ?_))))
 refine Tl rfl rfl rfl rfl G7 Dn (fun b1=> ?_)
 refine Tl rfl rfl rfl rfl K8 F6 (fun b2=> ?_)
 refine ap ?_
 refine ac ?_
 refine co rfl (Bn (DW hf) rfl rfl) ?_
 refine an ?_ ?_<;>intro h1 q1
 exfalso;rw [if_pos hce] at h1;exact absurd h1 AB
 refine ac ?_
 refine ag ?_ ?_<;>intro h2 q2
 exfalso;have:=q2;omega
 refine ag ?_ ?_<;>intro h3 q3
 exfalso;have:=q3;omega
 refine cy h3 rfl (AX rfl CI B0 vq rfl rfl) ?_
 refine cy h3 rfl (Bn (Le (c:=c)) rfl rfl) ?_
 refine ac ?_
 refine wk [27,5,4,3,2] rfl ?_
 refine Tr.cn rfl ?_ ?_<;>intro h4 q4
 rw [Kx] at h4;exact absurd h4 AB
 refine ac ?_
 refine ap ?_
 refine TO.N_ rfl rfl AB rfl (ZW B8) kz (fun v1=> ?_)
 refine Tl rfl rfl rfl rfl G7 Dn (fun b3=> ?_)
 refine ap ?_
 refine ap ?_
 refine TO.Jo rfl rfl AB rfl CS (fun b4=> ?_)
 refine ap ?_
 refine wk [8,7,5,4,3] rfl (Tr.seq (Tr.seq (Tr.jg 0 (ptr b3 0::OG c (Bp c)) rfl ⟨Lr,Lr,Lr,Lr,Lr,Lr,Lr,Lr,Lr,Lr,Lr,Lr,Lr,Lr,Lr,Lr,AH 15,trivial⟩ ?_)))
 rcases hm with ⟨he,hm⟩|⟨he,hm⟩
 refine Tr.DI mixed 5 BD (AM.op rfl rfl AB (Qx (FW) rfl) (AM.op rfl rfl AB (Oa rfl GH rfl rfl) (AM.op rfl rfl AB (GX rfl C1 rfl) (AM.op rfl rfl AB (Dj rfl underlying261 Gt JZ vq vq AA AA hkp) (AM.op rfl rfl AB (BU rfl vq) ?_)))))
 refine AM.turn _ rfl AB (DK _ rfl rfl vq (hm _ _ _) kz ((AK (j:=0) rfl).trans (List.Perm.cons _ ((AK (j:=0) rfl).trans (List.Perm.cons _ ((AK (j:=0) rfl).trans (List.Perm.cons _ (List.Perm.refl _)))))))) ?_
 refine a2 ?_
 refine wk [45,9,8,7,5,4] rfl ?_
 refine Tr.cn rfl ?_ ?_<;>intro h5 q5
 have hX:B6 e2 b err=(BR,BO,err):=if_pos he
 refine ap ?_
 refine Tr.ret (Fin.AL (Fin.EO rfl (AR.cell 1 rfl rfl Bv Ba rfl Lr) (AR.cell 0 rfl rfl CI B0 rfl Lr) (AR.tmp rfl Lr) ?_))
 refine BT ⟨?_,?_,?_,trivial⟩
 · exact Gk
 · exact Gl
 · exact EZ
 exfalso;have:=q5;omega
 refine Tr.DI mixed 5 BD (AM.op rfl rfl AB (Qx (FW) rfl) (AM.op rfl rfl AB (Oa rfl GH rfl rfl) (AM.op rfl rfl AB (GX rfl C1 rfl) (AM.op rfl rfl AB (Dj rfl underlying261 Gt JZ vq vq AA AA hkp) (AM.op rfl rfl AB (BU rfl vq) ?_)))))
 refine AM.turn _ rfl AB (DK _ rfl rfl vq (hm _ _ _) kz ((AK (j:=0) rfl).trans (List.Perm.cons _ ((AK (j:=0) rfl).trans (List.Perm.cons _ ((AK (j:=0) rfl).trans (List.Perm.cons _ (List.Perm.refl _)))))))) ?_
 refine a2 ?_
 refine wk [45,9,8,7,5,4] rfl ?_
 refine Tr.cn rfl ?_ ?_<;>intro h6 q6
 exact absurd h6 AB
 refine a2 ?_
 refine co rfl (Bn (DW (e:=e2) Oh) rfl rfl) ?_
 refine an ?_ ?_<;>intro h7 q7
 have Hl:¬CA e2=true:=by intro h_;rw [if_pos h_] at h7;exact absurd h7 AB
 have hX:B6 e2 b err=(BR,BO,18):=(if_neg (fun h_=>h_ he)).trans (if_neg Hl)
 refine ap ?_
 refine Tr.ret (Fin.AL (Fin.EO rfl (AR.cell 3 rfl rfl Bv Ba rfl Lr) (AR.cell 2 rfl rfl CI B0 rfl Lr) (AR.tmp rfl Lr) ?_))
 refine BT ⟨?_,?_,?_,trivial⟩
 · exact Gk
 · exact Gl
 · exact EZ
 have Hl:CA e2=true:=Decidable.byContradiction fun h_=>by rw [if_neg h_] at h7;exact absurd h7 AB
 have hX:B6 e2 b err=(e2,b,0):=(if_neg (fun h_=>h_ he)).trans (if_pos Hl)
 refine ac ?_
 refine Tr.seq (Tr.rx ?_)
 refine ay ?_
 refine xo rfl (fun _=>Bn (Kv (c:=b) hbk) rfl rfl) ?_
 refine ay ?_
 refine Cx.nil ⟨by kernel_rfl,?_⟩
 refine BV.done K9 (Fin.go (wk [6,5,4] rfl (Tr.ret (Fin.EO rfl (AR.cell 3 rfl rfl Bv Ba rfl Lr) (AR.cell 2 rfl rfl CI B0 rfl Lr) (AR.tmp rfl Lr) ?_))))
 refine BT ⟨?_,?_,?_,trivial⟩
 · exact FR
 · exact FR
 · exact EZ
theorem Sa {c b:BA} {fk:Nat} {err:Int} (hf:e.fits) (B8:e.small) (hce:CA e=true) (hk:1≤c.kind∧c.kind≤12) (Kx:GY c=true) (hkp:EH[c.kind.toNat]? =some (fn (.func fk) [])) (hbk:b.Bj.small) (Oh:e2.fits) (hm:(err≠0∧∀(wb ob:Nat) (v:Value),Au prog fk [ptr wb 0] [BQ wb ob c (Bp c),BX ob e (ints e.AG) (FP e.ids) (is v) (ints e.hashes),Ac 3 1 (e.anchors.map fun n=>[int n]) v] (int err) [])∨(err=0∧∀(wb ob:Nat) (v:Value),Au prog fk [ptr wb 0] [BQ wb ob c (Bp c),BX ob e (ints e.AG) (FP e.ids) (is v) (ints e.hashes),Ac 3 1 (e.anchors.map fun n=>[int n]) v] (int 0) [BQ wb ob c b,AE true ob 79 (Am e2)])):Ay prog 86 [agg (Am e),agg (A9 c)] (D_ [agg (Am (B6 e2 b err).1),agg (A9 (B6 e2 b err).2.1),int (B6 e2 b err).2.2]):=by
 refine fo func86 rfl ⟨rfl,rfl⟩ fun M0 w0=>(Tr.seq (Tr.BL (tp rfl (BK rfl CS) (tp rfl (BK rfl CS) ?_))))
 refine Tl rfl rfl rfl rfl G7 Dn (fun b1=> ?_)
 refine Tl rfl rfl rfl rfl K8 F6 (fun b2=> ?_)
 refine ap ?_
 refine ac ?_
 refine co rfl (Bn (DW hf) rfl rfl) ?_
 refine an ?_ ?_<;>intro h1 q1
 exfalso;rw [if_pos hce] at h1;exact absurd h1 AB
 refine ac ?_
 refine ag ?_ ?_<;>intro h2 q2
 exfalso;have:=q2;omega
 refine ag ?_ ?_<;>intro h3 q3
 exfalso;have:=q3;omega
 refine cy h3 rfl (AX rfl CI B0 vq rfl rfl) ?_
 refine cy h3 rfl (Bn (Le (c:=c)) rfl rfl) ?_
 refine ac ?_
 refine wk [27,5,4,3,2] rfl ?_
 refine Tr.cn rfl ?_ ?_<;>intro h4 q4
 rw [Kx] at h4;exact absurd h4 AB
 refine ac ?_
 refine ap ?_
 refine TO.N_ rfl rfl AB rfl (Zd B8) kz (fun v1=> ?_)
 refine Tl rfl rfl rfl rfl G7 Dn (fun b3=> ?_)
 refine ap ?_
 refine ap ?_
 refine TO.Jo rfl rfl AB rfl CS (fun b4=> ?_)
 refine ap ?_
 refine wk [8,7,5,4,3] rfl (Tr.seq (Tr.seq (Tr.jg 0 (ptr b3 0::OG c (Bp c)) rfl ⟨Lr,Lr,Lr,Lr,Lr,Lr,Lr,Lr,Lr,Lr,Lr,Lr,Lr,Lr,Lr,Lr,AH 15,trivial⟩ ?_)))
 rcases hm with ⟨he,hm⟩|⟨he,hm⟩
 refine Tr.DI mixed 5 BD (AM.op rfl rfl AB (Qx (FW) rfl) (AM.op rfl rfl AB (Oa rfl GH rfl rfl) (AM.op rfl rfl AB (GX rfl C1 rfl) (AM.op rfl rfl AB (Dj rfl underlying261 Gt JZ vq vq AA AA hkp) (AM.op rfl rfl AB (BU rfl vq) ?_)))))
 refine AM.turn _ rfl AB (DK _ rfl rfl vq (hm _ _ _) kz ((AK (j:=0) rfl).trans (List.Perm.cons _ ((AK (j:=0) rfl).trans (List.Perm.cons _ ((AK (j:=0) rfl).trans (List.Perm.cons _ (List.Perm.refl _)))))))) ?_
 refine a2 ?_
 refine wk [45,9,8,7,5,4] rfl ?_
 refine Tr.cn rfl ?_ ?_<;>intro h5 q5
 have hX:B6 e2 b err=(BR,BO,err):=if_pos he
 refine ap ?_
 refine Tr.ret (Fin.AL (Fin.EO rfl (AR.cell 1 rfl rfl Bv Ba rfl Lr) (AR.cell 0 rfl rfl CI B0 rfl Lr) (AR.tmp rfl Lr) ?_))
 refine BT ⟨?_,?_,?_,trivial⟩
 · exact Gk
 · exact Gl
 · exact EZ
 exfalso;have:=q5;omega
 refine Tr.DI mixed 5 BD (AM.op rfl rfl AB (Qx (FW) rfl) (AM.op rfl rfl AB (Oa rfl GH rfl rfl) (AM.op rfl rfl AB (GX rfl C1 rfl) (AM.op rfl rfl AB (Dj rfl underlying261 Gt JZ vq vq AA AA hkp) (AM.op rfl rfl AB (BU rfl vq) ?_)))))
 refine AM.turn _ rfl AB (DK _ rfl rfl vq (hm _ _ _) kz ((AK (j:=0) rfl).trans (List.Perm.cons _ ((AK (j:=0) rfl).trans (List.Perm.cons _ ((AK (j:=0) rfl).trans (List.Perm.cons _ (List.Perm.refl _)))))))) ?_
 refine a2 ?_
 refine wk [45,9,8,7,5,4] rfl ?_
 refine Tr.cn rfl ?_ ?_<;>intro h6 q6
 exact absurd h6 AB
 refine a2 ?_
 refine co rfl (Bn (DW (e:=e2) Oh) rfl rfl) ?_
 refine an ?_ ?_<;>intro h7 q7
 have Hl:¬CA e2=true:=by intro h_;rw [if_pos h_] at h7;exact absurd h7 AB
 have hX:B6 e2 b err=(BR,BO,18):=(if_neg (fun h_=>h_ he)).trans (if_neg Hl)
 refine ap ?_
 refine Tr.ret (Fin.AL (Fin.EO rfl (AR.cell 3 rfl rfl Bv Ba rfl Lr) (AR.cell 2 rfl rfl CI B0 rfl Lr) (AR.tmp rfl Lr) ?_))
 refine BT ⟨?_,?_,?_,trivial⟩
 · exact Gk
 · exact Gl
 · exact EZ
 have Hl:CA e2=true:=Decidable.byContradiction fun h_=>by rw [if_neg h_] at h7;exact absurd h7 AB
 have hX:B6 e2 b err=(e2,b,0):=(if_neg (fun h_=>h_ he)).trans (if_pos Hl)
 refine ac ?_
 refine Tr.seq (Tr.rx ?_)
 refine ay ?_
 refine xo rfl (fun _=>Bn (Kv (c:=b) hbk) rfl rfl) ?_
 refine ay ?_
 refine Cx.nil ⟨by kernel_rfl,?_⟩
 refine BV.done K9 (Fin.go (wk [6,5,4] rfl (Tr.ret (Fin.EO rfl (AR.cell 3 rfl rfl Bv Ba rfl Lr) (AR.cell 2 rfl rfl CI B0 rfl Lr) (AR.tmp rfl Lr) ?_))))
 refine BT ⟨?_,?_,?_,trivial⟩
 · exact FR
 · exact FR
 · exact EZ
theorem Sb {c b:BA} {fk:Nat} {err:Int} (hf:e.fits) (B8:e.small) (hce:CA e=true) (hk:1≤c.kind∧c.kind≤12) (Kx:GY c=true) (hkp:EH[c.kind.toNat]? =some (fn (.func fk) [])) (hbk:b.Bj.small) (Oh:e2.fits) (hm:(err≠0∧∀(wb ob:Nat) (v:Value),Au prog fk [ptr wb 0] [BQ wb ob c (Bp c),BX ob e (ints e.AG) (FP e.ids) (ints e.anchors) (is v),Ac 3 1 (e.hashes.map fun n=>[int n]) v] (int err) [])∨(err=0∧∀(wb ob:Nat) (v:Value),Au prog fk [ptr wb 0] [BQ wb ob c (Bp c),BX ob e (ints e.AG) (FP e.ids) (ints e.anchors) (is v),Ac 3 1 (e.hashes.map fun n=>[int n]) v] (int 0) [BQ wb ob c b,AE true ob 79 (Am e2)])):Ay prog 86 [agg (Am e),agg (A9 c)] (D_ [agg (Am (B6 e2 b err).1),agg (A9 (B6 e2 b err).2.1),int (B6 e2 b err).2.2]):=by
 refine fo func86 rfl ⟨rfl,rfl⟩ fun M0 w0=>(Tr.seq (Tr.BL (tp rfl (BK rfl CS) (tp rfl (BK rfl CS) ?_))))
 refine Tl rfl rfl rfl rfl G7 Dn (fun b1=> ?_)
 refine Tl rfl rfl rfl rfl K8 F6 (fun b2=> ?_)
 refine ap ?_
 refine ac ?_
 refine co rfl (Bn (DW hf) rfl rfl) ?_
 refine an ?_ ?_<;>intro h1 q1
 exfalso;rw [if_pos hce] at h1;exact absurd h1 AB
 refine ac ?_
 refine ag ?_ ?_<;>intro h2 q2
 exfalso;have:=q2;omega
 refine ag ?_ ?_<;>intro h3 q3
 exfalso;have:=q3;omega
 refine cy h3 rfl (AX rfl CI B0 vq rfl rfl) ?_
 refine cy h3 rfl (Bn (Le (c:=c)) rfl rfl) ?_
 refine ac ?_
 refine wk [27,5,4,3,2] rfl ?_
 refine Tr.cn rfl ?_ ?_<;>intro h4 q4
 rw [Kx] at h4;exact absurd h4 AB
 refine ac ?_
 refine ap ?_
 refine TO.N_ rfl rfl AB rfl (Ze B8) kz (fun v1=> ?_)
 refine Tl rfl rfl rfl rfl G7 Dn (fun b3=> ?_)
 refine ap ?_
 refine ap ?_
 refine TO.Jo rfl rfl AB rfl CS (fun b4=> ?_)
 refine ap ?_
 refine wk [8,7,5,4,3] rfl (Tr.seq (Tr.seq (Tr.jg 0 (ptr b3 0::OG c (Bp c)) rfl ⟨Lr,Lr,Lr,Lr,Lr,Lr,Lr,Lr,Lr,Lr,Lr,Lr,Lr,Lr,Lr,Lr,AH 15,trivial⟩ ?_)))
 rcases hm with ⟨he,hm⟩|⟨he,hm⟩
 refine Tr.DI mixed 5 BD (AM.op rfl rfl AB (Qx (FW) rfl) (AM.op rfl rfl AB (Oa rfl GH rfl rfl) (AM.op rfl rfl AB (GX rfl C1 rfl) (AM.op rfl rfl AB (Dj rfl underlying261 Gt JZ vq vq AA AA hkp) (AM.op rfl rfl AB (BU rfl vq) ?_)))))
 refine AM.turn _ rfl AB (DK _ rfl rfl vq (hm _ _ _) kz ((AK (j:=0) rfl).trans (List.Perm.cons _ ((AK (j:=0) rfl).trans (List.Perm.cons _ ((AK (j:=0) rfl).trans (List.Perm.cons _ (List.Perm.refl _)))))))) ?_
 refine a2 ?_
 refine wk [45,9,8,7,5,4] rfl ?_
 refine Tr.cn rfl ?_ ?_<;>intro h5 q5
 have hX:B6 e2 b err=(BR,BO,err):=if_pos he
 refine ap ?_
 refine Tr.ret (Fin.AL (Fin.EO rfl (AR.cell 1 rfl rfl Bv Ba rfl Lr) (AR.cell 0 rfl rfl CI B0 rfl Lr) (AR.tmp rfl Lr) ?_))
 refine BT ⟨?_,?_,?_,trivial⟩
 · exact Gk
 · exact Gl
 · exact EZ
 exfalso;have:=q5;omega
 refine Tr.DI mixed 5 BD (AM.op rfl rfl AB (Qx (FW) rfl) (AM.op rfl rfl AB (Oa rfl GH rfl rfl) (AM.op rfl rfl AB (GX rfl C1 rfl) (AM.op rfl rfl AB (Dj rfl underlying261 Gt JZ vq vq AA AA hkp) (AM.op rfl rfl AB (BU rfl vq) ?_)))))
 refine AM.turn _ rfl AB (DK _ rfl rfl vq (hm _ _ _) kz ((AK (j:=0) rfl).trans (List.Perm.cons _ ((AK (j:=0) rfl).trans (List.Perm.cons _ ((AK (j:=0) rfl).trans (List.Perm.cons _ (List.Perm.refl _)))))))) ?_
 refine a2 ?_
 refine wk [45,9,8,7,5,4] rfl ?_
 refine Tr.cn rfl ?_ ?_<;>intro h6 q6
 exact absurd h6 AB
 refine a2 ?_
 refine co rfl (Bn (DW (e:=e2) Oh) rfl rfl) ?_
 refine an ?_ ?_<;>intro h7 q7
 have Hl:¬CA e2=true:=by intro h_;rw [if_pos h_] at h7;exact absurd h7 AB
 have hX:B6 e2 b err=(BR,BO,18):=(if_neg (fun h_=>h_ he)).trans (if_neg Hl)
 refine ap ?_
 refine Tr.ret (Fin.AL (Fin.EO rfl (AR.cell 3 rfl rfl Bv Ba rfl Lr) (AR.cell 2 rfl rfl CI B0 rfl Lr) (AR.tmp rfl Lr) ?_))
 refine BT ⟨?_,?_,?_,trivial⟩
 · exact Gk
 · exact Gl
 · exact EZ
 have Hl:CA e2=true:=Decidable.byContradiction fun h_=>by rw [if_neg h_] at h7;exact absurd h7 AB
 have hX:B6 e2 b err=(e2,b,0):=(if_neg (fun h_=>h_ he)).trans (if_pos Hl)
 refine ac ?_
 refine Tr.seq (Tr.rx ?_)
 refine ay ?_
 refine xo rfl (fun _=>Bn (Kv (c:=b) hbk) rfl rfl) ?_
 refine ay ?_
 refine Cx.nil ⟨by kernel_rfl,?_⟩
 refine BV.done K9 (Fin.go (wk [6,5,4] rfl (Tr.ret (Fin.EO rfl (AR.cell 3 rfl rfl Bv Ba rfl Lr) (AR.cell 2 rfl rfl CI B0 rfl Lr) (AR.tmp rfl Lr) ?_))))
 refine BT ⟨?_,?_,?_,trivial⟩
 · exact FR
 · exact FR
 · exact EZ
theorem Sc {c b:BA} {fk:Nat} {err:Int} (hf:e.fits) (B8:e.small) (hce:CA e=true) (hk:1≤c.kind∧c.kind≤12) (Kx:GY c=true) (hkp:EH[c.kind.toNat]? =some (fn (.func fk) [])) (hbk:b.Bj.small) (Oh:e2.fits) (hm:(err≠0∧∀(wb ob:Nat),Au prog fk [ptr wb 0] [BQ wb ob c (Bp c),BX ob e (ints e.AG) (FP e.ids) (ints e.anchors) (ints e.hashes)] (int err) [])∨(err=0∧∀(wb ob:Nat),Au prog fk [ptr wb 0] [BQ wb ob c (Bp c),BX ob e (ints e.AG) (FP e.ids) (ints e.anchors) (ints e.hashes)] (int 0) [BQ wb ob c b,AE true ob 79 (Am e2)])):Ay prog 86 [agg (Am e),agg (A9 c)] (D_ [agg (Am (B6 e2 b err).1),agg (A9 (B6 e2 b err).2.1),int (B6 e2 b err).2.2]):=by
 refine fo func86 rfl ⟨rfl,rfl⟩ fun M0 w0=>(Tr.seq (Tr.BL (tp rfl (BK rfl CS) (tp rfl (BK rfl CS) ?_))))
 refine Tl rfl rfl rfl rfl G7 Dn (fun b1=> ?_)
 refine Tl rfl rfl rfl rfl K8 F6 (fun b2=> ?_)
 refine ap ?_
 refine ac ?_
 refine co rfl (Bn (DW hf) rfl rfl) ?_
 refine an ?_ ?_<;>intro h1 q1
 exfalso;rw [if_pos hce] at h1;exact absurd h1 AB
 refine ac ?_
 refine ag ?_ ?_<;>intro h2 q2
 exfalso;have:=q2;omega
 refine ag ?_ ?_<;>intro h3 q3
 exfalso;have:=q3;omega
 refine cy h3 rfl (AX rfl CI B0 vq rfl rfl) ?_
 refine cy h3 rfl (Bn (Le (c:=c)) rfl rfl) ?_
 refine ac ?_
 refine wk [27,5,4,3,2] rfl ?_
 refine Tr.cn rfl ?_ ?_<;>intro h4 q4
 rw [Kx] at h4;exact absurd h4 AB
 refine ac ?_
 refine ap ?_
 refine tp rfl (Bn (SX B8) rfl rfl) ?_
 refine Tl rfl rfl rfl rfl G7 Dn (fun b3=> ?_)
 refine ap ?_
 refine ap ?_
 refine TO.Jo rfl rfl AB rfl CS (fun b4=> ?_)
 refine ap ?_
 refine wk [8,7,5,4,3] rfl (Tr.seq (Tr.seq (Tr.jg 0 (ptr b3 0::OG c (Bp c)) rfl ⟨Lr,Lr,Lr,Lr,Lr,Lr,Lr,Lr,Lr,Lr,Lr,Lr,Lr,Lr,Lr,Lr,AH 15,trivial⟩ ?_)))
 rcases hm with ⟨he,hm⟩|⟨he,hm⟩
 refine Tr.DI mixed 5 BD (AM.op rfl rfl AB (Qx (FW) rfl) (AM.op rfl rfl AB (Oa rfl GH rfl rfl) (AM.op rfl rfl AB (GX rfl C1 rfl) (AM.op rfl rfl AB (Dj rfl underlying261 Gt JZ vq vq AA AA hkp) (AM.op rfl rfl AB (BU rfl vq) ?_)))))
 refine AM.turn _ rfl AB (DK _ rfl rfl vq (hm _ _) kz ((AK (j:=0) rfl).trans (List.Perm.cons _ ((AK (j:=0) rfl).trans (List.Perm.cons _ (List.Perm.refl _)))))) ?_
 refine a2 ?_
 refine wk [45,9,8,7,5,4] rfl ?_
 refine Tr.cn rfl ?_ ?_<;>intro h5 q5
 have hX:B6 e2 b err=(BR,BO,err):=if_pos he
 refine ap ?_
 refine Tr.ret (Fin.AL (Fin.EO rfl (AR.cell 1 rfl rfl Bv Ba rfl Lr) (AR.cell 0 rfl rfl CI B0 rfl Lr) (AR.tmp rfl Lr) ?_))
 refine BT ⟨?_,?_,?_,trivial⟩
 · exact Gk
 · exact Gl
 · exact EZ
 exfalso;have:=q5;omega
 refine Tr.DI mixed 5 BD (AM.op rfl rfl AB (Qx (FW) rfl) (AM.op rfl rfl AB (Oa rfl GH rfl rfl) (AM.op rfl rfl AB (GX rfl C1 rfl) (AM.op rfl rfl AB (Dj rfl underlying261 Gt JZ vq vq AA AA hkp) (AM.op rfl rfl AB (BU rfl vq) ?_)))))
 refine AM.turn _ rfl AB (DK _ rfl rfl vq (hm _ _) kz ((AK (j:=0) rfl).trans (List.Perm.cons _ ((AK (j:=0) rfl).trans (List.Perm.cons _ (List.Perm.refl _)))))) ?_
 refine a2 ?_
 refine wk [45,9,8,7,5,4] rfl ?_
 refine Tr.cn rfl ?_ ?_<;>intro h6 q6
 exact absurd h6 AB
 refine a2 ?_
 refine co rfl (Bn (DW (e:=e2) Oh) rfl rfl) ?_
 refine an ?_ ?_<;>intro h7 q7
 have Hl:¬CA e2=true:=by intro h_;rw [if_pos h_] at h7;exact absurd h7 AB
 have hX:B6 e2 b err=(BR,BO,18):=(if_neg (fun h_=>h_ he)).trans (if_neg Hl)
 refine ap ?_
 refine Tr.ret (Fin.AL (Fin.EO rfl (AR.cell 3 rfl rfl Bv Ba rfl Lr) (AR.cell 2 rfl rfl CI B0 rfl Lr) (AR.tmp rfl Lr) ?_))
 refine BT ⟨?_,?_,?_,trivial⟩
 · exact Gk
 · exact Gl
 · exact EZ
 have Hl:CA e2=true:=Decidable.byContradiction fun h_=>by rw [if_neg h_] at h7;exact absurd h7 AB
 have hX:B6 e2 b err=(e2,b,0):=(if_neg (fun h_=>h_ he)).trans (if_pos Hl)
 refine ac ?_
 refine Tr.seq (Tr.rx ?_)
 refine ay ?_
 refine xo rfl (fun _=>Bn (Kv (c:=b) hbk) rfl rfl) ?_
 refine ay ?_
 refine Cx.nil ⟨by kernel_rfl,?_⟩
 refine BV.done K9 (Fin.go (wk [6,5,4] rfl (Tr.ret (Fin.EO rfl (AR.cell 3 rfl rfl Bv Ba rfl Lr) (AR.cell 2 rfl rfl CI B0 rfl Lr) (AR.tmp rfl Lr) ?_))))
 refine BT ⟨?_,?_,?_,trivial⟩
 · exact FR
 · exact FR
 · exact EZ
theorem eP {c:BA} (hf:e.fits) (hce:CA e=false):Ay prog 86 [agg (Am e),agg (A9 c)] (D_ [agg (Am BR),agg (A9 BO),int 19]):=by
 refine fo func86 rfl ⟨rfl,rfl⟩ fun M0 w0=>(Tr.seq (Tr.BL (tp rfl (BK rfl CS) (tp rfl (BK rfl CS) ?_))))
 refine Tl rfl rfl rfl rfl G7 Dn (fun b1=> ?_)
 refine Tl rfl rfl rfl rfl K8 F6 (fun b2=> ?_)
 refine ap ?_
 refine ac ?_
 refine co rfl (Bn (DW hf) rfl rfl) ?_
 refine an ?_ ?_<;>intro h1 q1
 refine ap ?_
 refine Tr.ret (Fin.AL (Fin.EO rfl (AR.cell 1 rfl rfl Bv Ba rfl Lr) (AR.cell 0 rfl rfl CI B0 rfl Lr) (AR.tmp rfl Lr) ?_))
 refine BT ⟨?_,?_,?_,trivial⟩
 · exact P5
 · exact P8
 · exact Lr
 exfalso;rw [if_neg (by rw [hce];decide)] at h1;exact absurd h1 AB
theorem eR {c:BA} (hf:e.fits) (hce:CA e=true) (hk:¬((1≤c.kind∧c.kind≤12)∧GY c=true)):Ay prog 86 [agg (Am e),agg (A9 c)] (D_ [agg (Am BR),agg (A9 BO),int 40]):=by
 refine fo func86 rfl ⟨rfl,rfl⟩ fun M0 w0=>(Tr.seq (Tr.BL (tp rfl (BK rfl CS) (tp rfl (BK rfl CS) ?_))))
 refine Tl rfl rfl rfl rfl G7 Dn (fun b1=> ?_)
 refine Tl rfl rfl rfl rfl K8 F6 (fun b2=> ?_)
 refine ap ?_
 refine ac ?_
 refine co rfl (Bn (DW hf) rfl rfl) ?_
 refine an ?_ ?_<;>intro h1 q1
 exfalso;rw [if_pos hce] at h1;exact absurd h1 AB
 refine ac ?_
 refine ag ?_ ?_<;>intro h2 q2
 have xz:=q2
 refine ac ?_
 refine wk [27,5,4,3,2] rfl (Tr.cond rfl (fun _=> ?_) (fun h=>nomatch h))
 refine Tr.seq (Tr.BL (tp rfl (Ax (rows:=[]) rfl bu Dn trivial rfl) (tp rfl (Ax (rows:=[]) rfl Qm F6 trivial rfl) (TO.Ap 1 rfl rfl rfl vq CS rfl Ba rfl rfl (TO.Ap 0 rfl rfl rfl vq CS rfl B0 rfl rfl (tm rfl (TO.nil (Fin.go (Tr.ret (Fin.AL (Fin.EO rfl (AR.cell 1 rfl rfl Bv Ba rfl Lr) (AR.cell 0 rfl rfl CI B0 rfl Lr) (AR.tmp rfl Lr) ?_)))))))))))
 refine BT ⟨?_,?_,?_,trivial⟩
 · exact P5
 · exact P8
 · exact Lr
 refine ag ?_ ?_<;>intro h3 q3
 have wT:=q3
 refine ac ?_
 refine wk [27,5,4,3,2] rfl (Tr.cond rfl (fun _=> ?_) (fun h=>nomatch h))
 refine Tr.seq (Tr.BL (tp rfl (Ax (rows:=[]) rfl bu Dn trivial rfl) (tp rfl (Ax (rows:=[]) rfl Qm F6 trivial rfl) (TO.Ap 1 rfl rfl rfl vq CS rfl Ba rfl rfl (TO.Ap 0 rfl rfl rfl vq CS rfl B0 rfl rfl (tm rfl (TO.nil (Fin.go (Tr.ret (Fin.AL (Fin.EO rfl (AR.cell 1 rfl rfl Bv Ba rfl Lr) (AR.cell 0 rfl rfl CI B0 rfl Lr) (AR.tmp rfl Lr) ?_)))))))))))
 refine BT ⟨?_,?_,?_,trivial⟩
 · exact P5
 · exact P8
 · exact Lr
 have wT:=q3
 refine cy h3 rfl (AX rfl CI B0 vq rfl rfl) ?_
 refine cy h3 rfl (Bn (Le (c:=c)) rfl rfl) ?_
 refine ac ?_
 refine wk [27,5,4,3,2] rfl ?_
 refine Tr.cn rfl ?_ ?_<;>intro h4 q4
 refine ap ?_
 refine Tr.ret (Fin.AL (Fin.EO rfl (AR.cell 1 rfl rfl Bv Ba rfl Lr) (AR.cell 0 rfl rfl CI B0 rfl Lr) (AR.tmp rfl Lr) ?_))
 refine BT ⟨?_,?_,?_,trivial⟩
 · exact P5
 · exact P8
 · exact Lr
 exfalso;apply hk;simp_all
end Go.Proofs.YtoodkpodinniaaaGreatDoor
