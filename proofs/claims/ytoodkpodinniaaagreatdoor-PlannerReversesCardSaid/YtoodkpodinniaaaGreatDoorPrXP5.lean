/-
  Part 5 of the texts that prove this claim, merged.
-/
import Derived.Test.YtoodkpodinniaaaGreatDoorPrXP4
set_option linter.all false
set_option maxRecDepth 40000
set_option maxHeartbeats 16000000
namespace Go.Proofs.YtoodkpodinniaaaGreatDoor
open Go Go.RowKit Cp Go.Proofs.Tryz
variable {I:CU} {E:Env} {e e2:CO} {f:FuncId} {rows:List (List Pr)} {l:List Int} {s:List UInt8} {b d i j k m n:Nat} {o:Oper} {x:Operand} {p q:Pr} {P:Program} {t:TypeId} {w:World}
abbrev HB (e:CO) (c:BA):Int:=idx (fun y=>c.number==y) e.AG
def A_ (e:CO) (c:BA):Except Int (CO×BA):=
 if c.kind = 1 then
  if ¬(0≤c.at_∧c.at_≤(e.AG.length:Nat)) then .error 2
  else if (e.AG.any fun y=>c.number==y)=true then .error 41
  else .ok ({ e with AG:=e.AG.take c.at_.toNat++[c.number]++e.AG.drop c.at_.toNat },⟨c.AJ,2,c.number,0,A0⟩)
 else if c.kind = 2 then
  if HB e c<0 then .error 41 else .ok ({ e with AG:=e.AG.eraseIdx (HB e c).toNat },⟨c.AJ,1,c.number,HB e c,A0⟩)
 else if c.kind = 3 then
  if e.most=c.number then .error 41 else .ok ({ e with most:=c.number },⟨c.AJ,c.kind,e.most,0,A0⟩)
 else if c.kind = 4 then
  if e.least=c.number then .error 41 else .ok ({ e with least:=c.number },⟨c.AJ,c.kind,e.least,0,A0⟩)
 else if c.kind = 5 then
  if ¬(0≤c.at_∧c.at_≤(e.ids.length:Nat)) then .error 2
  else if 0≤Ag c.Bj.BB e.ids then .error 41
  else .ok ({ e with ids:=e.ids.take c.at_.toNat++[c.Bj]++e.ids.drop c.at_.toNat },⟨c.AJ,6,c.Bj.BB,0,A0⟩)
 else if c.kind = 6 then
  match e.ids[(Ag c.number e.ids).toNat]? with
  |none=> .error 41
  |some x=>
   if Ag c.number e.ids<0 then .error 41
   else if ((e.ids.drop (Ag c.number e.ids+1).toNat).any fun x=>x.BB==c.number)=true then .error 5
   else .ok ({ e with ids:=e.ids.eraseIdx (Ag c.number e.ids).toNat },⟨c.AJ,5,0,Ag c.number e.ids,x⟩)
 else if c.kind = 7 then
  if CE e.anchors c.number=true then .error 41 else .ok ({ e with anchors:=Fj e.anchors c.number },⟨c.AJ,8,c.number,0,A0⟩)
 else if c.kind = 8 then
  if CE e.anchors c.number=true then .ok ({ e with anchors:=e.anchors.eraseIdx (B5 e.anchors c.number) },⟨c.AJ,7,c.number,0,A0⟩) else .error 41
 else if c.kind = 9 then
  if CE e.hashes c.number=true then .error 41 else .ok ({ e with hashes:=Fj e.hashes c.number },⟨c.AJ,10,c.number,0,A0⟩)
 else if c.kind = 10 then
  if CE e.hashes c.number=true then .ok ({ e with hashes:=e.hashes.eraseIdx (B5 e.hashes c.number) },⟨c.AJ,9,c.number,0,A0⟩) else .error 41
 else if c.kind = 11 then
  if ¬(0≤c.number∧c.number≤1) then .error 2
  else if Ca e.E_=c.number then .error 41 else .ok ({ e with E_:=(c.number==1) },⟨c.AJ,c.kind,Ca e.E_,0,A0⟩)
 else
  if ¬(0≤c.number∧c.number≤1) then .error 2
  else if Ca e.own=c.number then .error 41 else .ok ({ e with own:=(c.number==1) },⟨c.AJ,c.kind,Ca e.own,0,A0⟩)
def EB (c:BA):Prop:=(1≤c.kind∧c.kind≤12)∧GY c=true
instance (c:BA):Decidable (EB c):=inferInstanceAs (Decidable (_∧_))
def Bh (e:CO) (c:BA):CO×BA×Int:=
 if CA e=false then (BR,BO,19)
 else if ¬EB c then (BR,BO,40)
 else match A_ e c with
  | .error f=>(BR,BO,f)
  | .ok (e2,b)=>if CA e2=true then (e2,b,0) else (BR,BO,18)
theorem Ho {c:BA} (h:c.kind=1):A_ e c=
  (
  if ¬(0≤c.at_∧c.at_≤(e.AG.length:Nat)) then .error 2
  else if (e.AG.any fun y=>c.number==y)=true then .error 41
  else .ok ({ e with AG:=e.AG.take c.at_.toNat++[c.number]++e.AG.drop c.at_.toNat },⟨c.AJ,2,c.number,0,A0⟩)):=by
 unfold A_;rw [if_pos h]
theorem Hq {c:BA} (h:c.kind=2):A_ e c=
  (
  if HB e c<0 then .error 41 else .ok ({ e with AG:=e.AG.eraseIdx (HB e c).toNat },⟨c.AJ,1,c.number,HB e c,A0⟩)):=by
 unfold A_;rw [if_neg (by rw [h];decide)];rw [if_pos h]
theorem Hr {c:BA} (h:c.kind=3):A_ e c=
  (
  if e.most=c.number then .error 41 else .ok ({ e with most:=c.number },⟨c.AJ,c.kind,e.most,0,A0⟩)):=by grind [A_]
theorem Hs {c:BA} (h:c.kind=4):A_ e c=
  (
  if e.least=c.number then .error 41 else .ok ({ e with least:=c.number },⟨c.AJ,c.kind,e.least,0,A0⟩)):=by grind [A_]
theorem Ht {c:BA} (h:c.kind=5):A_ e c=
  (
  if ¬(0≤c.at_∧c.at_≤(e.ids.length:Nat)) then .error 2
  else if 0≤Ag c.Bj.BB e.ids then .error 41
  else .ok ({ e with ids:=e.ids.take c.at_.toNat++[c.Bj]++e.ids.drop c.at_.toNat },⟨c.AJ,6,c.Bj.BB,0,A0⟩)):=by grind [A_]
theorem Hu {c:BA} (h:c.kind=6):A_ e c=
  (
  match e.ids[(Ag c.number e.ids).toNat]? with
  |none=> .error 41
  |some x=>
   if Ag c.number e.ids<0 then .error 41
   else if ((e.ids.drop (Ag c.number e.ids+1).toNat).any fun x=>x.BB==c.number)=true then .error 5
   else .ok ({ e with ids:=e.ids.eraseIdx (Ag c.number e.ids).toNat },⟨c.AJ,5,0,Ag c.number e.ids,x⟩)):=by grind [A_]
theorem Hv {c:BA} (h:c.kind=7):A_ e c=
  (
  if CE e.anchors c.number=true then .error 41 else .ok ({ e with anchors:=Fj e.anchors c.number },⟨c.AJ,8,c.number,0,A0⟩)):=by grind [A_]
theorem Hw {c:BA} (h:c.kind=8):A_ e c=
  (
  if CE e.anchors c.number=true then .ok ({ e with anchors:=e.anchors.eraseIdx (B5 e.anchors c.number) },⟨c.AJ,7,c.number,0,A0⟩) else .error 41):=by grind [A_]
theorem Hx {c:BA} (h:c.kind=9):A_ e c=
  (
  if CE e.hashes c.number=true then .error 41 else .ok ({ e with hashes:=Fj e.hashes c.number },⟨c.AJ,10,c.number,0,A0⟩)):=by grind [A_]
theorem GN {c:BA} (h:c.kind=10):A_ e c=
  (
  if CE e.hashes c.number=true then .ok ({ e with hashes:=e.hashes.eraseIdx (B5 e.hashes c.number) },⟨c.AJ,9,c.number,0,A0⟩) else .error 41):=by simp_all [A_]
theorem GO {c:BA} (h:c.kind=11):A_ e c=
  (
  if ¬(0≤c.number∧c.number≤1) then .error 2
  else if Ca e.E_=c.number then .error 41 else .ok ({ e with E_:=(c.number==1) },⟨c.AJ,c.kind,Ca e.E_,0,A0⟩)):=by simp_all [A_]
theorem GP {c:BA} (h:c.kind=12):A_ e c=
  (
  if ¬(0≤c.number∧c.number≤1) then .error 2
  else if Ca e.own=c.number then .error 41 else .ok ({ e with own:=(c.number==1) },⟨c.AJ,c.kind,Ca e.own,0,A0⟩)):=by simp_all [A_]
theorem GA {c:BA} {f:Int} (h:CA e=true) (hc:EB c) (hs:A_ e c= .error f):Bh e c=(BR,BO,f):=by grind [Bh]
theorem GQ {c:BA} {b:BA} (h:CA e=true) (hc:EB c) (hs:A_ e c= .ok (e2,b)) (h2:CA e2=true):Bh e c=(e2,b,0):=by grind [Bh]
theorem JM {c:BA} {b:BA} (h:CA e=true) (hc:EB c) (hs:A_ e c= .ok (e2,b)) (h2:CA e2=false):Bh e c=(BR,BO,18):=by grind [Bh]
abbrev OH (r:CO×BA×Int):Pr:=D_ [agg (Am r.1),agg (A9 r.2.1),int r.2.2]
structure Sd (e:CO):Prop where
 name:IY e.name=true
 least:1≤e.least
 lm:e.least≤e.most
 most:e.most≤4
 AG:FV e.AG=true
 Ox:e.ids.length≤4
 nB:e.anchors.length≤16
 eS:Q2 e.anchors=true
 hash:Q2 e.hashes=true
 ids:e.ids.all Wb=true
 keys:e.anchors.all FZ=true
 hsh:e.hashes.all Iu=true
theorem CJ:CA e=true↔Sd e:=by
 unfold CA;simp only [Bool.and_eq_true,decide_eq_true_eq]
 exact ⟨fun ⟨⟨⟨⟨⟨⟨⟨⟨a,b⟩,c⟩,d⟩,f⟩,⟨⟨⟨g,h⟩,i⟩,j⟩⟩,k⟩,l⟩,m⟩=>⟨a,b,c,d,f,g,h,i,j,k,l,m⟩,fun ⟨a,b,c,d,f,g,h,i,j,k,l,m⟩=>⟨⟨⟨⟨⟨⟨⟨⟨a,b⟩,c⟩,d⟩,f⟩,⟨⟨⟨g,h⟩,i⟩,j⟩⟩,k⟩,l⟩,m⟩⟩
theorem Mx {c:BA} {fk:Nat} (hf:e.fits) (B8:e.small) (hce:CA e=true) (hc:EB c) (hkp:EH[c.kind.toNat]? =some (fn (.func fk) [])) {f:Int} (hs:A_ e c= .error f) (he:f≠0) (hm:∀(wb ob:Nat) (v:Value),Au Tryz.prog fk [ptr wb 0] [BQ wb ob c (Bp c),BX ob e (ints e.AG) (is v) (ints e.anchors) (ints e.hashes),Ac 65 4 (e.ids.map BJ) v] (int f) []):Ay Tryz.prog 86 [agg (Am e),agg (A9 c)] (OH (Bh e c)):=by
 have:=SY (e2:=BR) (b:=BO) hf B8 hce hc.1 hc.2 hkp ⟨by show 0≤_;omega,fun x hx=>by cases hx⟩ ⟨by show 0≤_;omega,fun x hx=>by cases hx⟩ (.inl ⟨he,hm⟩)
 rw [GA hce hc hs];rwa [show B6 BR BO f=(BR,BO,f) from if_pos he] at this
theorem Zf {c:BA} {fk:Nat} (hf:e.fits) (B8:e.small) (hce:CA e=true) (hc:EB c) (hkp:EH[c.kind.toNat]? =some (fn (.func fk) [])) {b:BA} (hs:A_ e c= .ok (e2,b)) (hbk:b.Bj.small) (Oh:e2.fits) (hm:∀(wb ob:Nat) (v:Value),Au Tryz.prog fk [ptr wb 0] [BQ wb ob c (Bp c),BX ob e (ints e.AG) (is v) (ints e.anchors) (ints e.hashes),Ac 65 4 (e.ids.map BJ) v] (int 0) [BQ wb ob c b,AE true ob 79 (Am e2)]):Ay Tryz.prog 86 [agg (Am e),agg (A9 c)] (OH (Bh e c)):=by
 have:=SY (err:=0) hf B8 hce hc.1 hc.2 hkp hbk Oh (.inr ⟨rfl,hm⟩)
 cases h2:CA e2 with
 |true=>rw [GQ hce hc hs h2];rwa [show B6 e2 b 0=(e2,b,0) from (if_neg (fun h_=>h_ rfl)).trans (if_pos h2)] at this
 |false=>rw [JM hce hc hs h2];rwa [show B6 e2 b 0=(BR,BO,18) from (if_neg (fun h_=>h_ rfl)).trans (if_neg HM)] at this
theorem RH {c:BA} {fk:Nat} (hf:e.fits) (B8:e.small) (hce:CA e=true) (hc:EB c) (hkp:EH[c.kind.toNat]? =some (fn (.func fk) [])) {f:Int} (hs:A_ e c= .error f) (he:f≠0) (hm:∀(wb ob:Nat) (v:Value),Au Tryz.prog fk [ptr wb 0] [BQ wb ob c (Bp c),BX ob e (is v) (FP e.ids) (ints e.anchors) (ints e.hashes),Ac 3 1 (e.AG.map fun n=>[int n]) v] (int f) []):Ay Tryz.prog 86 [agg (Am e),agg (A9 c)] (OH (Bh e c)):=by
 have:=SZ (e2:=BR) (b:=BO) hf B8 hce hc.1 hc.2 hkp ⟨by show 0≤_;omega,fun x hx=>by cases hx⟩ ⟨by show 0≤_;omega,fun x hx=>by cases hx⟩ (.inl ⟨he,hm⟩)
 rw [GA hce hc hs];rwa [show B6 BR BO f=(BR,BO,f) from if_pos he] at this
theorem Zg {c:BA} {fk:Nat} (hf:e.fits) (B8:e.small) (hce:CA e=true) (hc:EB c) (hkp:EH[c.kind.toNat]? =some (fn (.func fk) [])) {b:BA} (hs:A_ e c= .ok (e2,b)) (hbk:b.Bj.small) (Oh:e2.fits) (hm:∀(wb ob:Nat) (v:Value),Au Tryz.prog fk [ptr wb 0] [BQ wb ob c (Bp c),BX ob e (is v) (FP e.ids) (ints e.anchors) (ints e.hashes),Ac 3 1 (e.AG.map fun n=>[int n]) v] (int 0) [BQ wb ob c b,AE true ob 79 (Am e2)]):Ay Tryz.prog 86 [agg (Am e),agg (A9 c)] (OH (Bh e c)):=by
 have:=SZ (err:=0) hf B8 hce hc.1 hc.2 hkp hbk Oh (.inr ⟨rfl,hm⟩)
 cases h2:CA e2 with
 |true=>rw [GQ hce hc hs h2];rwa [show B6 e2 b 0=(e2,b,0) from (if_neg (fun h_=>h_ rfl)).trans (if_pos h2)] at this
 |false=>rw [JM hce hc hs h2];rwa [show B6 e2 b 0=(BR,BO,18) from (if_neg (fun h_=>h_ rfl)).trans (if_neg HM)] at this
theorem Vp {c:BA} {fk:Nat} (hf:e.fits) (B8:e.small) (hce:CA e=true) (hc:EB c) (hkp:EH[c.kind.toNat]? =some (fn (.func fk) [])) {f:Int} (hs:A_ e c= .error f) (he:f≠0) (hm:∀(wb ob:Nat) (v:Value),Au Tryz.prog fk [ptr wb 0] [BQ wb ob c (Bp c),BX ob e (ints e.AG) (FP e.ids) (is v) (ints e.hashes),Ac 3 1 (e.anchors.map fun n=>[int n]) v] (int f) []):Ay Tryz.prog 86 [agg (Am e),agg (A9 c)] (OH (Bh e c)):=by
 have:=Sa (e2:=BR) (b:=BO) hf B8 hce hc.1 hc.2 hkp ⟨by show 0≤_;omega,fun x hx=>by cases hx⟩ ⟨by show 0≤_;omega,fun x hx=>by cases hx⟩ (.inl ⟨he,hm⟩)
 rw [GA hce hc hs];rwa [show B6 BR BO f=(BR,BO,f) from if_pos he] at this
theorem Zh {c:BA} {fk:Nat} (hf:e.fits) (B8:e.small) (hce:CA e=true) (hc:EB c) (hkp:EH[c.kind.toNat]? =some (fn (.func fk) [])) {b:BA} (hs:A_ e c= .ok (e2,b)) (hbk:b.Bj.small) (Oh:e2.fits) (hm:∀(wb ob:Nat) (v:Value),Au Tryz.prog fk [ptr wb 0] [BQ wb ob c (Bp c),BX ob e (ints e.AG) (FP e.ids) (is v) (ints e.hashes),Ac 3 1 (e.anchors.map fun n=>[int n]) v] (int 0) [BQ wb ob c b,AE true ob 79 (Am e2)]):Ay Tryz.prog 86 [agg (Am e),agg (A9 c)] (OH (Bh e c)):=by
 have:=Sa (err:=0) hf B8 hce hc.1 hc.2 hkp hbk Oh (.inr ⟨rfl,hm⟩)
 cases h2:CA e2 with
 |true=>rw [GQ hce hc hs h2];rwa [show B6 e2 b 0=(e2,b,0) from (if_neg (fun h_=>h_ rfl)).trans (if_pos h2)] at this
 |false=>rw [JM hce hc hs h2];rwa [show B6 e2 b 0=(BR,BO,18) from (if_neg (fun h_=>h_ rfl)).trans (if_neg HM)] at this
theorem Vq {c:BA} {fk:Nat} (hf:e.fits) (B8:e.small) (hce:CA e=true) (hc:EB c) (hkp:EH[c.kind.toNat]? =some (fn (.func fk) [])) {f:Int} (hs:A_ e c= .error f) (he:f≠0) (hm:∀(wb ob:Nat) (v:Value),Au Tryz.prog fk [ptr wb 0] [BQ wb ob c (Bp c),BX ob e (ints e.AG) (FP e.ids) (ints e.anchors) (is v),Ac 3 1 (e.hashes.map fun n=>[int n]) v] (int f) []):Ay Tryz.prog 86 [agg (Am e),agg (A9 c)] (OH (Bh e c)):=by
 have:=Sb (e2:=BR) (b:=BO) hf B8 hce hc.1 hc.2 hkp ⟨by show 0≤_;omega,fun x hx=>by cases hx⟩ ⟨by show 0≤_;omega,fun x hx=>by cases hx⟩ (.inl ⟨he,hm⟩)
 rw [GA hce hc hs];rwa [show B6 BR BO f=(BR,BO,f) from if_pos he] at this
theorem Zi {c:BA} {fk:Nat} (hf:e.fits) (B8:e.small) (hce:CA e=true) (hc:EB c) (hkp:EH[c.kind.toNat]? =some (fn (.func fk) [])) {b:BA} (hs:A_ e c= .ok (e2,b)) (hbk:b.Bj.small) (Oh:e2.fits) (hm:∀(wb ob:Nat) (v:Value),Au Tryz.prog fk [ptr wb 0] [BQ wb ob c (Bp c),BX ob e (ints e.AG) (FP e.ids) (ints e.anchors) (is v),Ac 3 1 (e.hashes.map fun n=>[int n]) v] (int 0) [BQ wb ob c b,AE true ob 79 (Am e2)]):Ay Tryz.prog 86 [agg (Am e),agg (A9 c)] (OH (Bh e c)):=by
 have:=Sb (err:=0) hf B8 hce hc.1 hc.2 hkp hbk Oh (.inr ⟨rfl,hm⟩)
 cases h2:CA e2 with
 |true=>rw [GQ hce hc hs h2];rwa [show B6 e2 b 0=(e2,b,0) from (if_neg (fun h_=>h_ rfl)).trans (if_pos h2)] at this
 |false=>rw [JM hce hc hs h2];rwa [show B6 e2 b 0=(BR,BO,18) from (if_neg (fun h_=>h_ rfl)).trans (if_neg HM)] at this
theorem JN {c:BA} {fk:Nat} (hf:e.fits) (B8:e.small) (hce:CA e=true) (hc:EB c) (hkp:EH[c.kind.toNat]? =some (fn (.func fk) [])) {f:Int} (hs:A_ e c= .error f) (he:f≠0) (hm:∀(wb ob:Nat),Au Tryz.prog fk [ptr wb 0] [BQ wb ob c (Bp c),BX ob e (ints e.AG) (FP e.ids) (ints e.anchors) (ints e.hashes)] (int f) []):Ay Tryz.prog 86 [agg (Am e),agg (A9 c)] (OH (Bh e c)):=by
 have:=Sc (e2:=BR) (b:=BO) hf B8 hce hc.1 hc.2 hkp ⟨by show 0≤_;omega,fun x hx=>by cases hx⟩ ⟨by show 0≤_;omega,fun x hx=>by cases hx⟩ (.inl ⟨he,hm⟩)
 rw [GA hce hc hs];rwa [show B6 BR BO f=(BR,BO,f) from if_pos he] at this
theorem RI {c:BA} {fk:Nat} (hf:e.fits) (B8:e.small) (hce:CA e=true) (hc:EB c) (hkp:EH[c.kind.toNat]? =some (fn (.func fk) [])) {b:BA} (hs:A_ e c= .ok (e2,b)) (hbk:b.Bj.small) (Oh:e2.fits) (hm:∀(wb ob:Nat),Au Tryz.prog fk [ptr wb 0] [BQ wb ob c (Bp c),BX ob e (ints e.AG) (FP e.ids) (ints e.anchors) (ints e.hashes)] (int 0) [BQ wb ob c b,AE true ob 79 (Am e2)]):Ay Tryz.prog 86 [agg (Am e),agg (A9 c)] (OH (Bh e c)):=by
 have:=Sc (err:=0) hf B8 hce hc.1 hc.2 hkp hbk Oh (.inr ⟨rfl,hm⟩)
 cases h2:CA e2 with
 |true=>rw [GQ hce hc hs h2];rwa [show B6 e2 b 0=(e2,b,0) from (if_neg (fun h_=>h_ rfl)).trans (if_pos h2)] at this
 |false=>rw [JM hce hc hs h2];rwa [show B6 e2 b 0=(BR,BO,18) from (if_neg (fun h_=>h_ rfl)).trans (if_neg HM)] at this
theorem C7:A0.small:=⟨by show 0≤_;omega,fun c hc=>by cases hc⟩
theorem eT {l:List D9} {x:D9} (h:∀y∈l,y.fits) (hx:x.fits):∀y∈l.take i++[x]++l.drop i,y.fits:=by grind
theorem eU {l:List D9} (h:∀y∈l,y.fits):∀y∈l.eraseIdx i,y.fits:=fun y hy=>h y (List.mem_of_mem_eraseIdx hy)
theorem Zj {c:BA} (hf:e.fits) (B8:e.small) (j_:c.Bj.fits) (hcs:c.Bj.small):Ay Tryz.prog 86 [agg (Am e),agg (A9 c)] (OH (Bh e c)):=by
 cases hce:CA e with
 |false=>rw [show Bh e c=(BR,BO,19) from if_pos hce];exact eP hf hce
 |true=>
 by_cases hc:EB c
 case neg=>rw [show Bh e c=(BR,BO,40) from (if_neg (by rw [hce];decide)).trans (if_pos hc)];exact eR hf hce hc
 have ok:=CJ.1 hce
 have hk:=hc.1
 have h0:c.kind=1∨c.kind=2∨c.kind=3∨c.kind=4∨c.kind=5∨c.kind=6∨c.kind=7∨c.kind=8∨c.kind=9∨c.kind=10∨c.kind=11∨c.kind=12:=by omega
 rcases h0 with h1|h2|h3|h4|h5|h6|h7|h8|h9|h10|h11|h12
 ·
  -- kind 1
  by_cases hr:0≤c.at_∧c.at_≤(e.AG.length:Nat)
  by_cases h:(e.AG.any fun y=>c.number==y)=true
  · exact RH hf B8 hce hc (fk:=227) (by rw [h1];rfl) (by unfold A_;rw [if_pos h1];rw [if_neg (fun h=>h hr)];exact if_pos h) AB (fun wb ob v=>SN (e:=e) (c:=c) (b:=Bp c) hr B8.AG h)
  · exact Zg hf B8 hce hc (fk:=227) (e2:={ e with AG:=e.AG.take c.at_.toNat++[c.number]++e.AG.drop c.at_.toNat }) (b:=⟨c.AJ,2,c.number,0,A0⟩) (by rw [h1];rfl) (by unfold A_;rw [if_pos h1];rw [if_neg (fun h=>h hr)];exact if_neg h) C7 ⟨hf.name,hf.ids⟩ (fun wb ob v=>Au.perm (SO (e:=e) (c:=c) (b:=Bp c) hr B8.AG (Bool.eq_false_iff.2 h)) (List.Perm.swap _ _ _))
  · exact RH hf B8 hce hc (fk:=227) (by rw [h1];rfl) (by unfold A_;rw [if_pos h1];exact if_pos hr) AB (fun wb ob v=>SM (e:=e) (c:=c) (b:=Bp c) hr)
 ·
  -- kind 2
  by_cases h:HB e c<0
  · exact RH hf B8 hce hc (fk:=228) (by rw [h2];rfl) (by unfold A_;rw [if_neg HM];rw [if_pos h2];exact if_pos h) AB (fun wb ob v=>Q6 (e:=e) (c:=c) (b:=Bp c) h)
  · exact Zg hf B8 hce hc (fk:=228) (e2:={ e with AG:=e.AG.eraseIdx (HB e c).toNat }) (b:=⟨c.AJ,1,c.number,HB e c,A0⟩) (by rw [h2];rfl) (by unfold A_;rw [if_neg HM];rw [if_pos h2];exact if_neg h) C7 ⟨hf.name,hf.ids⟩ (fun wb ob v=>Q7 (e:=e) (c:=c) (b:=Bp c) (by unfold HB at h;omega) B8.AG)
 ·
  -- kind 3
  by_cases h:e.most=c.number
  · exact JN hf B8 hce hc (fk:=229) (by rw [h3];rfl) (by unfold A_;rw [if_neg Mf];rw [if_neg Mf];rw [if_pos h3];exact if_pos h) AB (fun wb ob=>SS (e:=e) (c:=c) (b:=Bp c) h)
  · exact RI hf B8 hce hc (fk:=229) (e2:={ e with most:=c.number }) (b:=⟨c.AJ,c.kind,e.most,0,A0⟩) (by rw [h3];rfl) (by unfold A_;rw [if_neg Mf];rw [if_neg Mf];rw [if_pos h3];exact if_neg h) C7 ⟨hf.name,hf.ids⟩ (fun wb ob=>SU (e:=e) (c:=c) (b:=Bp c) h)
 ·
  -- kind 4
  by_cases h:e.least=c.number
  · exact JN hf B8 hce hc (fk:=230) (by rw [h4];rfl) (by unfold A_;rw [if_neg I9];rw [if_neg I9];rw [if_neg I9];rw [if_pos h4];exact if_pos h) AB (fun wb ob=>Q_ (e:=e) (c:=c) (b:=Bp c) h)
  · exact RI hf B8 hce hc (fk:=230) (e2:={ e with least:=c.number }) (b:=⟨c.AJ,c.kind,e.least,0,A0⟩) (by rw [h4];rfl) (by unfold A_;rw [if_neg I9];rw [if_neg I9];rw [if_neg I9];rw [if_pos h4];exact if_neg h) C7 ⟨hf.name,hf.ids⟩ (fun wb ob=>RA (e:=e) (c:=c) (b:=Bp c) h)
 ·
  -- kind 5
  by_cases hr:0≤c.at_∧c.at_≤(e.ids.length:Nat)
  by_cases h:0≤Ag c.Bj.BB e.ids
  · exact Mx hf B8 hce hc (fk:=231) (by rw [h5];rfl) (by unfold A_;rw [if_neg Fq];rw [if_neg Fq];rw [if_neg Fq];rw [if_neg Fq];rw [if_pos h5];rw [if_neg (fun h=>h hr)];exact if_pos h) AB (fun wb ob v=>Wn (e:=e) (c:=c) (b:=Bp c) hcs hr B8.Ox h)
  · exact Zf hf B8 hce hc (fk:=231) (e2:={ e with ids:=e.ids.take c.at_.toNat++[c.Bj]++e.ids.drop c.at_.toNat }) (b:=⟨c.AJ,6,c.Bj.BB,0,A0⟩) (by rw [h5];rfl) (by unfold A_;rw [if_neg Fq];rw [if_neg Fq];rw [if_neg Fq];rw [if_neg Fq];rw [if_pos h5];rw [if_neg (fun h=>h hr)];exact if_neg h) C7 ⟨hf.name,eT hf.ids j_⟩ (fun wb ob v=>Au.perm (Wo (e:=e) (c:=c) (b:=Bp c) hcs hr B8.Ox AA) (List.Perm.swap _ _ _))
  · exact Mx hf B8 hce hc (fk:=231) (by rw [h5];rfl) (by unfold A_;rw [if_neg Fq];rw [if_neg Fq];rw [if_neg Fq];rw [if_neg Fq];rw [if_pos h5];exact if_pos hr) AB (fun wb ob v=>Wm (e:=e) (c:=c) (b:=Bp c) hcs hr)
 ·
  -- kind 6
  by_cases h:Ag c.number e.ids<0
  · exact Mx hf B8 hce hc (fk:=232) (by rw [h6];rfl) (by unfold A_;rw [if_neg Ea];rw [if_neg Ea];rw [if_neg Ea];rw [if_neg Ea];rw [if_neg Ea];rw [if_pos h6];cases e.ids[(Ag c.number e.ids).toNat]? <;>first|rfl|exact if_pos h) AB (fun wb ob v=>UD (e:=e) (c:=c) (b:=Bp c) (x:=A0) h)
  obtain ⟨x,hx,_,_⟩:=Gg (p:=fun x:D9=>x.BB==c.number) (l:=e.ids) (by unfold Ag at h;omega)
  have hx:e.ids[(Ag c.number e.ids).toNat]? =some x:=hx
  by_cases ht:((e.ids.drop (Ag c.number e.ids+1).toNat).any fun x=>x.BB==c.number)=true
  · exact Mx hf B8 hce hc (fk:=232) (by rw [h6];rfl) (by unfold A_;rw [if_neg Ea];rw [if_neg Ea];rw [if_neg Ea];rw [if_neg Ea];rw [if_neg Ea];rw [if_pos h6];rw [hx];exact (if_neg h).trans (if_pos ht)) AB (fun wb ob v=>UE (e:=e) (c:=c) (b:=Bp c) (x:=x) AA hx ht B8.Ox)
  · exact Zf hf B8 hce hc (fk:=232) (e2:={ e with ids:=e.ids.eraseIdx (Ag c.number e.ids).toNat }) (b:=⟨c.AJ,5,0,Ag c.number e.ids,x⟩) (by rw [h6];rfl) (by unfold A_;rw [if_neg Ea];rw [if_neg Ea];rw [if_neg Ea];rw [if_neg Ea];rw [if_neg Ea];rw [if_pos h6];rw [hx];exact (if_neg h).trans (if_neg ht)) (B8.ids x (List.mem_of_getElem? hx)) ⟨hf.name,eU hf.ids⟩ (fun wb ob v=>UF (e:=e) (c:=c) (b:=Bp c) (x:=x) AA hx (Bool.eq_false_iff.2 ht) B8.Ox)
 ·
  -- kind 7
  by_cases h:CE e.anchors c.number=true
  · exact Vp hf B8 hce hc (fk:=233) (by rw [h7];rfl) (by unfold A_;rw [if_neg Ft];rw [if_neg Ft];rw [if_neg Ft];rw [if_neg Ft];rw [if_neg Ft];rw [if_neg Ft];rw [if_pos h7];exact if_pos h) AB (fun wb ob v=>Q8 (e:=e) (c:=c) (b:=Bp c) (DO ok.eS) B8.anchors h)
  · exact Zh hf B8 hce hc (fk:=233) (e2:={ e with anchors:=Fj e.anchors c.number }) (b:=⟨c.AJ,8,c.number,0,A0⟩) (by rw [h7];rfl) (by unfold A_;rw [if_neg Ft];rw [if_neg Ft];rw [if_neg Ft];rw [if_neg Ft];rw [if_neg Ft];rw [if_neg Ft];rw [if_pos h7];exact if_neg h) C7 ⟨hf.name,hf.ids⟩ (fun wb ob v=>Q9 (e:=e) (c:=c) (b:=Bp c) (DO ok.eS) B8.anchors (Bool.eq_false_iff.2 h))
 ·
  -- kind 8
  by_cases h:CE e.anchors c.number=true
  · exact Zh hf B8 hce hc (fk:=234) (e2:={ e with anchors:=e.anchors.eraseIdx (B5 e.anchors c.number) }) (b:=⟨c.AJ,7,c.number,0,A0⟩) (by rw [h8];rfl) (by unfold A_;rw [if_neg Ex];rw [if_neg Ex];rw [if_neg Ex];rw [if_neg Ex];rw [if_neg Ex];rw [if_neg Ex];rw [if_neg Ex];rw [if_pos h8];exact if_pos h) C7 ⟨hf.name,hf.ids⟩ (fun wb ob v=>Oo (e:=e) (c:=c) (b:=Bp c) (DO ok.eS) B8.anchors h)
  · exact Vp hf B8 hce hc (fk:=234) (by rw [h8];rfl) (by unfold A_;rw [if_neg Ex];rw [if_neg Ex];rw [if_neg Ex];rw [if_neg Ex];rw [if_neg Ex];rw [if_neg Ex];rw [if_neg Ex];rw [if_pos h8];exact if_neg h) AB (fun wb ob v=>On (e:=e) (c:=c) (b:=Bp c) (DO ok.eS) B8.anchors (Bool.eq_false_iff.2 h))
 ·
  -- kind 9
  by_cases h:CE e.hashes c.number=true
  · exact Vq hf B8 hce hc (fk:=235) (by rw [h9];rfl) (by unfold A_;rw [if_neg EC];rw [if_neg EC];rw [if_neg EC];rw [if_neg EC];rw [if_neg EC];rw [if_neg EC];rw [if_neg EC];rw [if_neg EC];rw [if_pos h9];exact if_pos h) AB (fun wb ob v=>UG (e:=e) (c:=c) (b:=Bp c) (DO ok.hash) B8.hashes h)
  · exact Zi hf B8 hce hc (fk:=235) (e2:={ e with hashes:=Fj e.hashes c.number }) (b:=⟨c.AJ,10,c.number,0,A0⟩) (by rw [h9];rfl) (by unfold A_;rw [if_neg EC];rw [if_neg EC];rw [if_neg EC];rw [if_neg EC];rw [if_neg EC];rw [if_neg EC];rw [if_neg EC];rw [if_neg EC];rw [if_pos h9];exact if_neg h) C7 ⟨hf.name,hf.ids⟩ (fun wb ob v=>UH (e:=e) (c:=c) (b:=Bp c) (DO ok.hash) B8.hashes (Bool.eq_false_iff.2 h))
 ·
  -- kind 10
  by_cases h:CE e.hashes c.number=true
  · exact Zi hf B8 hce hc (fk:=236) (e2:={ e with hashes:=e.hashes.eraseIdx (B5 e.hashes c.number) }) (b:=⟨c.AJ,9,c.number,0,A0⟩) (by rw [h10];rfl) (by unfold A_;rw [if_neg Dl];rw [if_neg Dl];rw [if_neg Dl];rw [if_neg Dl];rw [if_neg Dl];rw [if_neg Dl];rw [if_neg Dl];rw [if_neg Dl];rw [if_neg Dl];rw [if_pos h10];exact if_pos h) C7 ⟨hf.name,hf.ids⟩ (fun wb ob v=>SQ (e:=e) (c:=c) (b:=Bp c) (DO ok.hash) B8.hashes h)
  · exact Vq hf B8 hce hc (fk:=236) (by rw [h10];rfl) (by unfold A_;rw [if_neg Dl];rw [if_neg Dl];rw [if_neg Dl];rw [if_neg Dl];rw [if_neg Dl];rw [if_neg Dl];rw [if_neg Dl];rw [if_neg Dl];rw [if_neg Dl];rw [if_pos h10];exact if_neg h) AB (fun wb ob v=>SP (e:=e) (c:=c) (b:=Bp c) (DO ok.hash) B8.hashes (Bool.eq_false_iff.2 h))
 ·
  -- kind 11
  by_cases hr:0≤c.number∧c.number≤1
  by_cases h:Ca e.E_=c.number
  · exact JN hf B8 hce hc (fk:=237) (by rw [h11];rfl) (by unfold A_;rw [if_neg CH];rw [if_neg CH];rw [if_neg CH];rw [if_neg CH];rw [if_neg CH];rw [if_neg CH];rw [if_neg CH];rw [if_neg CH];rw [if_neg CH];rw [if_neg CH];rw [if_pos h11];rw [if_neg (fun h=>h hr)];exact if_pos h) AB (fun wb ob=>MO (e:=e) (c:=c) (b:=Bp c) hr rfl h)
  · exact RI hf B8 hce hc (fk:=237) (e2:={ e with E_:=(c.number==1) }) (b:=⟨c.AJ,c.kind,Ca e.E_,0,A0⟩) (by rw [h11];rfl) (by unfold A_;rw [if_neg CH];rw [if_neg CH];rw [if_neg CH];rw [if_neg CH];rw [if_neg CH];rw [if_neg CH];rw [if_neg CH];rw [if_neg CH];rw [if_neg CH];rw [if_neg CH];rw [if_pos h11];rw [if_neg (fun h=>h hr)];exact if_neg h) C7 ⟨hf.name,hf.ids⟩ (fun wb ob=>MQ (e:=e) (c:=c) (b:=Bp c) hr rfl h)
  · exact JN hf B8 hce hc (fk:=237) (by rw [h11];rfl) (by unfold A_;rw [if_neg CH];rw [if_neg CH];rw [if_neg CH];rw [if_neg CH];rw [if_neg CH];rw [if_neg CH];rw [if_neg CH];rw [if_neg CH];rw [if_neg CH];rw [if_neg CH];rw [if_pos h11];exact if_pos hr) AB (fun wb ob=>MM (e:=e) (c:=c) (b:=Bp c) hr)
 ·
  -- kind 12
  by_cases hr:0≤c.number∧c.number≤1
  by_cases h:Ca e.own=c.number
  · exact JN hf B8 hce hc (fk:=238) (by rw [h12];rfl) (by unfold A_;rw [if_neg B7];rw [if_neg B7];rw [if_neg B7];rw [if_neg B7];rw [if_neg B7];rw [if_neg B7];rw [if_neg B7];rw [if_neg B7];rw [if_neg B7];rw [if_neg B7];rw [if_neg B7];rw [if_neg (fun h=>h hr)];exact if_pos h) AB (fun wb ob=>RE (e:=e) (c:=c) (b:=Bp c) hr rfl h)
  · exact RI hf B8 hce hc (fk:=238) (e2:={ e with own:=(c.number==1) }) (b:=⟨c.AJ,c.kind,Ca e.own,0,A0⟩) (by rw [h12];rfl) (by unfold A_;rw [if_neg B7];rw [if_neg B7];rw [if_neg B7];rw [if_neg B7];rw [if_neg B7];rw [if_neg B7];rw [if_neg B7];rw [if_neg B7];rw [if_neg B7];rw [if_neg B7];rw [if_neg B7];rw [if_neg (fun h=>h hr)];exact if_neg h) C7 ⟨hf.name,hf.ids⟩ (fun wb ob=>RG (e:=e) (c:=c) (b:=Bp c) hr rfl h)
  · exact JN hf B8 hce hc (fk:=238) (by rw [h12];rfl) (by unfold A_;rw [if_neg B7];rw [if_neg B7];rw [if_neg B7];rw [if_neg B7];rw [if_neg B7];rw [if_neg B7];rw [if_neg B7];rw [if_neg B7];rw [if_neg B7];rw [if_neg B7];rw [if_neg B7];exact if_pos hr) AB (fun wb ob=>RC (e:=e) (c:=c) (b:=Bp c) hr)
theorem Wr {c:BA} (hf:e.fits) (B8:e.small) (j_:c.Bj.fits) (hcs:c.Bj.small):Ay prog 158 [agg (Am e),agg (A9 c)] (D_ [agg (Am (Bh e c).1),int (Bh e c).2.2]):=by
 refine fo func158 rfl ⟨rfl,rfl⟩ fun M0 w0=>(Tr.seq (Tr.BL (tp rfl (BK rfl CS) (tp rfl (BK rfl CS) ?_))))
 refine Tl rfl rfl rfl rfl G7 Dn (fun b1=> ?_)
 refine ao ?_
 refine ao ?_
 refine tp rfl (Cb (Zj hf B8 j_ hcs) rfl rfl rfl) ?_
 refine ao ?_
 refine Tl rfl rfl rfl rfl G7 Dn (fun b2=> ?_)
 refine Tl rfl rfl rfl rfl K8 F6 (fun b3=> ?_)
 refine sf 1 6 ⟨rfl,rfl,rfl⟩ rfl rfl rfl rfl ?_
 refine sf 0 7 ⟨rfl,rfl,rfl⟩ rfl rfl rfl rfl ?_
 refine ao ?_
 refine wk [8,6,4] rfl ?_
 refine ao ?_
 refine TO.Ap 0 rfl rfl rfl vq CS rfl Ba rfl rfl ?_
 refine ao ?_
 refine Tr.ret (Fin.Cj rfl (AR.cell 0 rfl rfl Bv Ba rfl Lr) (AR.tmp rfl Lr) ?_)
 refine BT ⟨?_,?_,trivial⟩
 · exact Lr
 · exact Lr
theorem Se {c:BA} (hf:e.fits) (B8:e.small) (j_:c.Bj.fits) (hcs:c.Bj.small):Ay prog 45 [agg (Am e),agg (A9 c)] (D_ [agg (A9 (Bh e c).2.1),int (Bh e c).2.2]):=by
 refine fo func45 rfl ⟨rfl,rfl⟩ fun M0 w0=>(Tr.seq (Tr.BL (tp rfl (BK rfl CS) (tp rfl (BK rfl CS) ?_))))
 refine Tl rfl rfl rfl rfl K8 F6 (fun b1=> ?_)
 refine ao ?_
 refine ao ?_
 refine tp rfl (Cb (Zj hf B8 j_ hcs) rfl rfl rfl) ?_
 refine ao ?_
 refine Tl rfl rfl rfl rfl G7 Dn (fun b2=> ?_)
 refine Tl rfl rfl rfl rfl K8 F6 (fun b3=> ?_)
 refine sf 1 6 ⟨rfl,rfl,rfl⟩ rfl rfl rfl rfl ?_
 refine sf 0 7 ⟨rfl,rfl,rfl⟩ rfl rfl rfl rfl ?_
 refine ao ?_
 refine wk [8,7,4] rfl ?_
 refine ao ?_
 refine TO.Ap 0 rfl rfl rfl vq CS rfl B0 rfl rfl ?_
 refine ao ?_
 refine Tr.ret (Fin.Cj rfl (AR.cell 0 rfl rfl CI B0 rfl Lr) (AR.tmp rfl Lr) ?_)
 refine BT ⟨?_,?_,trivial⟩
 · exact Lr
 · exact Lr
theorem Zk {x0 y0:Int} {x1 y1:Int}:(Op.equalIn (d+2) 127 (.agg #[.int .i64 x0,.int .i64 x1]) (.agg #[.int .i64 y0,.int .i64 y1])).run Tryz.prog w= .ok (decide (x0=y0∧x1=y1)) w:=by
 have h:=eqS (w:=w) (d:=d+1) (xs:= #[.int .i64 x0,.int .i64 x1]) (ys:= #[.int .i64 y0,.int .i64 y1]) Tryz.underlying127 BD (Ff AB (Ck C1 rfl) (Ck C1 rfl) (HW (d:=d+0) Tryz.underlying3) (Ff AB (Ck C1 rfl) (Ck C1 rfl) (HW (d:=d+0) Tryz.underlying3) (Mm)))
 refine h.trans (congrArg (fun b=>Result.ok b w) ?_)
 rw [Bool.eq_iff_iff];simp [and_assoc]
theorem Zl {u:TypeId} {y:Operand} {x0 y0:Int} {x1 y1:Int} (ho:o.op= .binOp .eql 127 x y u) (hx:VL E x (agg [is (.int .i64 x0),is (.int .i64 x1)])) (hy:VL E y (agg [is (.int .i64 y0),is (.int .i64 y1)])):Ab Tryz.prog I o E (bool (decide (x0=y0∧x1=y1))):=
 R9 [.int .i64 x0,.int .i64 x1] [.int .i64 y0,.int .i64 y1] ho hx hy BD (fun w=>by rw [show Op.equal 127 _ _=Op.equalIn (9998+2) 127 _ _ from rfl];exact Zk)
theorem Zm {u:TypeId} {y:Operand} {x0 y0:Int} {x1 y1:Int} (ho:o.op= .binOp .neq 127 x y u) (hx:VL E x (agg [is (.int .i64 x0),is (.int .i64 x1)])) (hy:VL E y (agg [is (.int .i64 y0),is (.int .i64 y1)])):Ab Tryz.prog I o E (bool (!decide (x0=y0∧x1=y1))):=
 Kl [.int .i64 x0,.int .i64 x1] [.int .i64 y0,.int .i64 y1] ho hx hy BD (fun w=>by rw [show Op.equal 127 _ _=Op.equalIn (9998+2) 127 _ _ from rfl];exact Zk)
deriving instance DecidableEq for Hf
deriving instance DecidableEq for D9
deriving instance DecidableEq for CO
deriving instance DecidableEq for BA
theorem Jf {α:Type} {a b:List α} {x y:α} (ha:a[k]? =some x) (hb:b[k]? =some y) (h:a.take k=b.take k) (e:x=y):a.take (k+1)=b.take (k+1):=by
 rw [List.take_add_one,List.take_add_one,ha,hb,h,e]
theorem Vr {α:Type} {a b:List α} {x y:α} (ha:a[k]? =some x) (hb:b[k]? =some y) (e:¬x=y):¬a=b:=by
 rintro rfl;rw [ha] at hb;cases hb;exact e rfl
theorem NM {α:Type} {a b:List α} (hl:a.length=b.length) (h:a.take a.length=b.take a.length):a=b:=by
 rw [List.take_length,hl,List.take_length] at h;exact h
theorem UK {a b:List (Int)}  :Ay prog 87 [ints a,ints b] (bool (decide (a=b))):=by
 refine fo func87 rfl ⟨rfl,rfl⟩ fun M0 w0=>(Tr.Ed 0 rfl fun Fh=>(Tr.Ed 1 rfl fun PG=> ?_))
 refine ac ?_
 refine an ?_ ?_<;>intro h1 q1
 have hne:¬a.length=b.length:=by simp_all;omega
 refine a2 ?_
 · exact P6
 have NN:a.length=b.length:=by simp_all;omega
 refine a2 ?_
 refine Tr.block (Tr.Bc _ (kk [1,0] rfl) (fun k:Nat=>[(5,int ((k:Nat):Int))]) (fun k:Nat=>k≤(a).length∧(a.take k=b.take k)) (fun k:Nat=>(a).length-k) 0 (⟨Nat.zero_le _,rfl⟩) kz ?_)
 rintro k ⟨Be,AU⟩
 refine an ?_ ?_<;>intro h2 q2
 have Ae:k<(a).length:=AV h2
 obtain ⟨x,Af⟩:=at_ Ae
 obtain ⟨y,hy⟩:=at_ (l:=b) (k:=k) AA
 · repeat' first|(refine bool_eq ?_;symm;rw [decide_eq_false_iff_not];refine Vr Af hy ?_;rintro rfl;simp_all)|exact Fin.AQ (k+1) ⟨⟨Ae,Jf Af hy AU Cc⟩,by omega⟩ ⟨⟨_,rfl,AO k⟩,kz⟩|refine co rfl (AD rfl underlying22 DC vq vq AA (Ak Af)) ?_|refine co rfl (AD rfl underlying22 DC vq vq AA (Ak hy)) ?_|refine ac ?_|(refine Tr.cn rfl ?_ ?_<;>intro h q)
 have BM:k=(a).length:=by have:=AW h2;omega
 subst BM
 refine a3 ?_
 · exact P7
theorem Sf {a b:List (List UInt8)}  :Ay prog 299 [WZ a,WZ b] (bool (decide (a=b))):=by
 refine fo func299 rfl ⟨rfl,rfl⟩ fun M0 w0=>(Tr.Ed 0 rfl fun Fh=>(Tr.Ed 1 rfl fun PG=> ?_))
 refine ac ?_
 refine an ?_ ?_<;>intro h1 q1
 have hne:¬a.length=b.length:=by simp_all;omega
 refine a2 ?_
 · exact P6
 have NN:a.length=b.length:=by simp_all;omega
 refine a2 ?_
 refine Tr.block (Tr.Bc _ (kk [1,0] rfl) (fun k:Nat=>[(5,int ((k:Nat):Int))]) (fun k:Nat=>k≤(a).length∧(a.take k=b.take k)) (fun k:Nat=>(a).length-k) 0 (⟨Nat.zero_le _,rfl⟩) kz ?_)
 rintro k ⟨Be,AU⟩
 refine an ?_ ?_<;>intro h2 q2
 have Ae:k<(a).length:=AV h2
 obtain ⟨x,Af⟩:=at_ Ae
 obtain ⟨y,hy⟩:=at_ (l:=b) (k:=k) AA
 · repeat' first|(refine bool_eq ?_;symm;rw [decide_eq_false_iff_not];refine Vr Af hy ?_;rintro rfl;simp_all)|exact Fin.AQ (k+1) ⟨⟨Ae,Jf Af hy AU Cc⟩,by omega⟩ ⟨⟨_,rfl,AO k⟩,kz⟩|refine co rfl (AD rfl underlying73 LV vq vq AA (Ak Af)) ?_|refine co rfl (AD rfl underlying73 LV vq vq AA (Ak hy)) ?_|refine ac ?_|(refine Tr.cn rfl ?_ ?_<;>intro h q)
 have BM:k=(a).length:=by have:=AW h2;omega
 subst BM
 refine a3 ?_
 · exact P7
theorem Zn {a b:Hf}  :Ay prog 239 [agg (DV a),agg (DV b)] (bool (decide (a=b))):=by
 refine fo func239 rfl ⟨rfl,rfl⟩ fun M0 w0=> ?_
 · repeat' first|(refine bool_eq ?_;cases a;cases b;simp_all)|refine cy h rfl (Cb (Sf) rfl rfl rfl) ?_|refine cy h rfl (Zl rfl vq vq) ?_|refine cy h rfl (Mp rfl vq vq) ?_|refine ac ?_|(refine Ch.cg rfl rfl rfl ?_ ?_<;>intro h q)
theorem Oq {a b:List (Hf)}  :Ay prog 165 [Je a,Je b] (bool (decide (a=b))):=by
 refine fo func165 rfl ⟨rfl,rfl⟩ fun M0 w0=>(Tr.Ed 0 rfl fun Fh=>(Tr.Ed 1 rfl fun PG=> ?_))
 refine ac ?_
 refine an ?_ ?_<;>intro h1 q1
 have hne:¬a.length=b.length:=by simp_all;omega
 refine a2 ?_
 · exact P6
 have NN:a.length=b.length:=by simp_all;omega
 refine a2 ?_
 refine Tr.block (Tr.Bc _ (kk [1,0] rfl) (fun k:Nat=>[(5,int ((k:Nat):Int))]) (fun k:Nat=>k≤(a).length∧(a.take k=b.take k)) (fun k:Nat=>(a).length-k) 0 (⟨Nat.zero_le _,rfl⟩) kz ?_)
 rintro k ⟨Be,AU⟩
 refine an ?_ ?_<;>intro h2 q2
 have Ae:k<(a).length:=AV h2
 obtain ⟨x,Af⟩:=at_ Ae
 obtain ⟨y,hy⟩:=at_ (l:=b) (k:=k) AA
 · repeat' first|(refine bool_eq ?_;symm;rw [decide_eq_false_iff_not];refine Vr Af hy ?_;rintro rfl;simp_all)|exact Fin.AQ (k+1) ⟨⟨Ae,Jf Af hy AU Cc⟩,by omega⟩ ⟨⟨_,rfl,AO k⟩,kz⟩|refine co rfl (AD rfl underlying63 Df vq vq AA (Ak Af)) ?_|refine co rfl (AD rfl underlying63 Df vq vq AA (Ak hy)) (co rfl (AX rfl HT Df vq rfl rfl) (co rfl (Cb (Zn) rfl rfl rfl) ?_))|refine ac ?_|(refine Tr.cn rfl ?_ ?_<;>intro h q)
 have BM:k=(a).length:=by have:=AW h2;omega
 subst BM
 refine a3 ?_
 · exact P7
theorem Sg {a b:List (D9)}  :Ay prog 88 [FP a,FP b] (bool (decide (a=b))):=by
 refine fo func88 rfl ⟨rfl,rfl⟩ fun M0 w0=>(Tr.Ed 0 rfl fun Fh=>(Tr.Ed 1 rfl fun PG=> ?_))
 refine ac ?_
 refine an ?_ ?_<;>intro h1 q1
 have hne:¬a.length=b.length:=by simp_all;omega
 refine a2 ?_
 · exact P6
 have NN:a.length=b.length:=by simp_all;omega
 refine a2 ?_
 refine Tr.block (Tr.Bc _ (kk [1,0] rfl) (fun k:Nat=>[(5,int ((k:Nat):Int))]) (fun k:Nat=>k≤(a).length∧(a.take k=b.take k)) (fun k:Nat=>(a).length-k) 0 (⟨Nat.zero_le _,rfl⟩) kz ?_)
 rintro k ⟨Be,AU⟩
 refine an ?_ ?_<;>intro h2 q2
 have Ae:k<(a).length:=AV h2
 obtain ⟨x,Af⟩:=at_ Ae
 obtain ⟨y,hy⟩:=at_ (l:=b) (k:=k) AA
 · repeat' first|(refine bool_eq ?_;symm;rw [decide_eq_false_iff_not];refine Vr Af hy ?_;rintro rfl;simp_all)|(exact Fin.AQ (k+1) ⟨⟨Ae,Jf Af hy AU QM⟩,by omega⟩ ⟨⟨_,rfl,AO k⟩,kz⟩)|refine co rfl (AD rfl underlying77 Bl vq vq AA (Ak Af)) ?_|refine co rfl (AD rfl underlying77 Bl vq vq AA (Ak hy)) ?_|refine co rfl (Mq rfl vq vq) (cm rfl ?_)|refine cy h rfl (Cb (Oq) rfl rfl rfl) ?_|refine cy h rfl (AD rfl underlying77 Bl vq vq AA (Ak Af)) ?_|refine cy h rfl (AD rfl underlying77 Bl vq vq AA (Ak hy)) ?_|refine ac ?_|(refine Tr.cn rfl ?_ ?_<;>intro h q)|(refine Ch.cg rfl rfl rfl ?_ ?_<;>intro h q)
 have BM:k=(a).length:=by have:=AW h2;omega
 subst BM
 refine a3 ?_
 · exact P7
theorem Zo {a b:CO}  :Ay prog 48 [agg (Am a),agg (Am b)] (bool (decide (a=b))):=by
 refine fo func48 rfl ⟨rfl,rfl⟩ fun M0 w0=> ?_
 · repeat' first|(refine bool_eq ?_;cases a;cases b;simp_all [Bool.beq_eq_decide_eq])|refine cy h rfl (Cb (Sg) rfl rfl rfl) ?_|refine cy h rfl (Cb (UK) rfl rfl rfl) ?_|refine ac ?_|(refine Ch.cg rfl rfl rfl ?_ ?_<;>intro h q)
theorem UL {a b:Hf} (hn:a.names.length≤8796093022208):Ay prog 338 [agg (DV a),agg (DV b)] (bool (decide (a=b))):=by
 refine fo func338 rfl ⟨rfl,rfl⟩ fun M0 w0=> ?_
 refine ac ?_
 refine ag ?_ ?_<;>intro h1 q1
 refine ac ?_
 refine wk [89,3,2] rfl ?_
 refine a2 ?_
 · exact Cy
 refine ag ?_ ?_<;>intro h2 q2
 refine ac ?_
 refine wk [89,3,2] rfl ?_
 refine a2 ?_
 · exact Cy
 refine ag ?_ ?_<;>intro h3 q3
 refine ac ?_
 refine wk [89,3,2] rfl ?_
 refine a2 ?_
 · exact Cy
 refine ac ?_
 refine cy h3 rfl (Mq rfl vq vq) ?_
 refine ag ?_ ?_<;>intro h4 q4
 refine ac ?_
 refine wk [89,3,2] rfl ?_
 refine a2 ?_
 · exact Cy
 refine ag ?_ ?_<;>intro h5 q5
 refine ac ?_
 refine wk [89,3,2] rfl ?_
 refine a2 ?_
 · exact Cy
 refine ac ?_
 refine cy h5 rfl (Mq rfl vq vq) ?_
 refine ag ?_ ?_<;>intro h6 q6
 refine ac ?_
 refine wk [89,3,2] rfl ?_
 refine a2 ?_
 · exact Cy
 refine ag ?_ ?_<;>intro h7 q7
 refine ac ?_
 refine wk [89,3,2] rfl ?_
 refine a2 ?_
 · exact Cy
 refine ag ?_ ?_<;>intro h8 q8
 refine ac ?_
 refine wk [89,3,2] rfl ?_
 refine a2 ?_
 · exact Cy
 refine ac ?_
 refine cy h8 rfl (YI rfl underlying4 vq vq) ?_
 refine ag ?_ ?_<;>intro h9 q9
 refine ac ?_
 refine wk [89,3,2] rfl ?_
 refine a2 ?_
 · exact Cy
 refine ag ?_ ?_<;>intro h10 SH
 refine ac ?_
 refine wk [89,3,2] rfl ?_
 refine a2 ?_
 · exact Cy
 refine ac ?_
 refine cy h10 rfl (Zm rfl vq vq) ?_
 refine ag ?_ ?_<;>intro h11 T8
 refine ac ?_
 refine wk [89,3,2] rfl ?_
 refine a2 ?_
 · exact Cy
 refine ac ?_
 refine wk [89,3,2] rfl ?_
 refine Tr.cn rfl ?_ ?_<;>intro h12 Ws
 refine a2 ?_
 · exact Cy
 have NN:a.names.length=b.names.length:=by simp_all;omega
 refine a2 ?_
 refine Tr.block (Tr.Bc _ (kk [92,3,2] rfl) (fun k:Nat=>[(93,int ((k:Nat):Int))]) (fun k:Nat=>k≤(a.names).length∧(a.names.take k=b.names.take k)) (fun k:Nat=>(a.names).length-k) 0 (⟨Nat.zero_le _,rfl⟩) kz ?_)
 rintro k ⟨Be,AU⟩
 refine ac ?_
 refine Tr.seq ?_
 refine Tr.cn rfl ?_ ?_<;>intro Mo Xh
 have Ae:k<(a.names).length:=AV Mo
 obtain ⟨x,Af⟩:=at_ Ae
 obtain ⟨y,hy⟩:=at_ (l:=b.names) (k:=k) AA
 · repeat' first|(refine bool_eq ?_;symm;rw [decide_eq_false_iff_not];rintro rfl;rw [Af] at hy;cases hy;simp_all)|exact Fin.AQ (k+1) ⟨⟨Ae,Jf Af hy AU Cc⟩,by omega⟩ ⟨⟨_,rfl,AO k⟩,kz⟩|refine co rfl (AD rfl underlying73 LV vq vq AA (Ak Af)) ?_|refine co rfl (AD rfl underlying73 LV vq vq AA (Ak hy)) ?_|refine ac ?_|(refine Tr.cn rfl ?_ ?_<;>intro h q)
 have BM:k=(a.names).length:=by have:=AW Mo;omega
 subst BM
 refine a3 ?_
 · refine bool_eq ?_;have hnn:=NM NN AU;clear AU NN;cases a;cases b;simp_all
theorem UM {a b:D9} (hs:a.small):Ay prog 286 [agg (BJ a),agg (BJ b)] (bool (decide (a=b))):=by
 refine fo func286 rfl ⟨rfl,rfl⟩ fun M0 w0=> ?_
 have hsc:=hs.chain
 refine a2 ?_
 refine co rfl (Mq rfl vq vq) (cm rfl ?_)
 refine Ch.cs 11 rfl ?_ ?_<;>intro h1 q1
 refine ac ?_
 refine wk [26,3,2] rfl ?_
 refine a2 ?_
 · exact Cy
 refine ag ?_ ?_<;>intro h2 q2
 refine ac ?_
 refine wk [26,3,2] rfl ?_
 refine a2 ?_
 · exact Cy
 refine ac ?_
 refine wk [26,3,2] rfl ?_
 refine Tr.cn rfl ?_ ?_<;>intro h3 q3
 refine a2 ?_
 · exact Cy
 have NN:a.chain.length=b.chain.length:=by simp_all;omega
 refine a2 ?_
 refine Tr.block (Tr.Bc _ (kk [29,3,2] rfl) (fun k:Nat=>[(30,int ((k:Nat):Int))]) (fun k:Nat=>k≤(a.chain).length∧(a.chain.take k=b.chain.take k)) (fun k:Nat=>(a.chain).length-k) 0 (⟨Nat.zero_le _,rfl⟩) kz ?_)
 rintro k ⟨Be,AU⟩
 refine ac ?_
 refine Tr.seq ?_
 refine Tr.cn rfl ?_ ?_<;>intro h4 q4
 have Ae:k<(a.chain).length:=AV h4
 obtain ⟨x,Af⟩:=at_ Ae
 obtain ⟨y,hy⟩:=at_ (l:=b.chain) (k:=k) AA
 have hxn:=hs.names x (List.mem_of_getElem? Af)
 · repeat' first|(refine bool_eq ?_;symm;rw [decide_eq_false_iff_not];rintro rfl;rw [Af] at hy;cases hy;simp_all)|exact Fin.AQ (k+1) ⟨⟨Ae,Jf Af hy AU Cc⟩,by omega⟩ ⟨⟨_,rfl,AO k⟩,kz⟩|refine co rfl (AD rfl underlying63 Df vq vq AA (Ak Af)) ?_|refine co rfl (AD rfl underlying63 Df vq vq AA (Ak hy)) (co rfl (AX rfl HT Df vq rfl rfl) (co rfl (Cb (UL hxn) rfl rfl rfl) ?_))|refine ac ?_|(refine Tr.cn rfl ?_ ?_<;>intro h q)
 have BM:k=(a.chain).length:=by have:=AW h4;omega
 subst BM
 refine a3 ?_
 · refine bool_eq ?_;have hnn:=NM NN AU;clear AU NN hs;cases a;cases b;simp_all
theorem My {k:Int} (hk:1≤k∧k≤12):k=1∨k=2∨k=3∨k=4∨k=5∨k=6∨k=7∨k=8∨k=9∨k=10∨k=11∨k=12:=by omega
theorem Sh {c:BA} {f:Int} (hc:EB c) (h:A_ e c= .error f):f≠0:=by
 rcases My hc.1 with hk|hk|hk|hk|hk|hk|hk|hk|hk|hk|hk|hk
 · rw [Ho hk] at h;(repeat' (split at h))<;>first|(injection h with h;omega)|(cases h;done)
 · rw [Hq hk] at h;(repeat' (split at h))<;>first|(injection h with h;omega)|(cases h;done)
 · rw [Hr hk] at h;(repeat' (split at h))<;>first|(injection h with h;omega)|(cases h;done)
 · rw [Hs hk] at h;(repeat' (split at h))<;>first|(injection h with h;omega)|(cases h;done)
 · rw [Ht hk] at h;(repeat' (split at h))<;>first|(injection h with h;omega)|(cases h;done)
 · rw [Hu hk] at h;(repeat' (split at h))<;>first|(injection h with h;omega)|(cases h;done)
 · rw [Hv hk] at h;(repeat' (split at h))<;>first|(injection h with h;omega)|(cases h;done)
 · rw [Hw hk] at h;(repeat' (split at h))<;>first|(injection h with h;omega)|(cases h;done)
 · rw [Hx hk] at h;(repeat' (split at h))<;>first|(injection h with h;omega)|(cases h;done)
 · rw [GN hk] at h;(repeat' (split at h))<;>first|(injection h with h;omega)|(cases h;done)
 · rw [GO hk] at h;(repeat' (split at h))<;>first|(injection h with h;omega)|(cases h;done)
 · rw [GP hk] at h;(repeat' (split at h))<;>first|(injection h with h;omega)|(cases h;done)
theorem JO {c:BA} {x:CO} {b:BA} (h:Bh e c=(x,b,0)):Sd e∧EB c∧A_ e c= .ok (x,b)∧Sd x:=by
 unfold Bh at h
 split at h
 · cases h
 next h1=>
 split at h
 · cases h
 next h2=>
 have h1 : CA e = true := by cases hh : CA e with
  |true=>rfl
  |false=>exact absurd hh h1
 have h2:EB c:=Classical.not_not.1 h2
 cases hs:A_ e c with
 |error f=>
  rw [hs] at h
  simp only [Prod.mk.injEq] at h
  exact absurd h.2.2 (Sh h2 hs)
 |ok r=>
  obtain ⟨x',b'⟩:=r
  rw [hs] at h
  simp only at h
  split at h
  next h3=>simp only [Prod.mk.injEq,and_true] at h;obtain ⟨rfl,rfl⟩:=h;exact ⟨CJ.1 h1,h2,rfl,CJ.1 h3⟩
  · cases h
theorem PR {x:D9} (h:MD x=true):x=A0:=by
 unfold MD at h
 obtain ⟨a,b,k,l⟩:=x
 simp only [Bool.and_eq_true,decide_eq_true_eq,beq_iff_eq] at h
 obtain ⟨⟨⟨h1,h2⟩,h3⟩,h4⟩:=h
 have:l=[]:=List.length_eq_zero_iff.1 AA
 subst h1;subst h2;subst h3;subst this;rfl
section
variable {α:Type} {p:α→Bool} {l:List α} {a:α} {i:Nat}
theorem Wt (h:l.any p=false):idx p l<0:=by
 unfold idx
 cases hf:l.findIdx? p with
 |none=>show (-1:Int)<0;omega
 |some j=>
  rw [List.findIdx?_eq_some_iff_getElem] at hf
  obtain ⟨h1,h2,_⟩:=hf
  rw [List.any_eq_false] at h
  exact absurd h2 (h _ (List.getElem_mem h1))
theorem eV (h:idx p l<0):l.any p=false:=by
 rw [List.any_eq_false]
 intro x hx hp
 unfold idx at h
 cases hf:l.findIdx? p with
 |none=>rw [List.findIdx?_eq_none_iff] at hf;rw [hf x hx] at hp;cases hp
 |some j=>rw [hf] at h;simp at h;omega
theorem kO (hi:l[i]? =some a) (hp:p a=true) (hno:∀(j:Nat) y,j<i→l[j]? =some y→p y=false):idx p l=((i:Nat):Int):=by
 unfold idx
 have hlt:=Ar hi
 rw [List.getElem?_eq_getElem hlt] at hi;cases hi
 have:l.findIdx? p=some i:=by
  rw [List.findIdx?_eq_some_iff_getElem]
  exact ⟨hlt,hp,fun j hj=>by rw [hno j _ hj (List.getElem?_eq_getElem AA)];decide⟩
 rw [this]
theorem RJ (hi:i≤l.length):(l.take i++[a]++l.drop i)[i]? =some a:=by
 rw [List.append_assoc,List.getElem?_append_right Jj,List.length_take,show i-min i l.length=0 by omega];rfl
theorem Zp (hi:i≤l.length) (hj:j<i):(l.take i++[a]++l.drop i)[j]? =l[j]? :=by
 rw [List.append_assoc,List.getElem?_append_left Jj,List.getElem?_take,if_pos hj]
theorem Si (hi:i≤l.length):(l.take i++[a]++l.drop i).drop (i+1)=l.drop i:=by
 rw [List.drop_append_of_le_length (by simp [List.length_take];omega),List.drop_eq_nil_of_le (by simp [List.length_take];omega)];rfl
theorem eW (hi:i≤l.length):(l.take i++[a]++l.drop i).length=l.length+1:=by simp [List.length_take,List.length_drop];omega
theorem Vs (hi:i≤l.length) (hp:p a=true) (h:l.any p=false):idx p (l.take i++[a]++l.drop i)=((i:Nat):Int):=by
 refine kO (RJ hi) hp (fun j y hj hy=> ?_)
 rw [Zp hi hj] at hy
 rw [List.any_eq_false] at h
 simpa using h y (List.mem_of_getElem? hy)
theorem JP (hi:i≤l.length):(l.take i++[a]++l.drop i).eraseIdx i=l:=by
 rw [List.eraseIdx_eq_take_drop_succ,Si hi,List.append_assoc,List.take_append_of_le_length Jj,List.take_take,Nat.min_self,List.take_append_drop]
theorem JQ (hi:l[i]? =some a):(l.eraseIdx i).take i++[a]++(l.eraseIdx i).drop i=l:=by
 have hlt:=Ar hi
 rw [List.eraseIdx_eq_take_drop_succ]
 rw [List.take_append_of_le_length Jj,List.take_take,Nat.min_self]
 rw [List.drop_append_of_le_length Jj,List.drop_eq_nil_of_le Jj,List.nil_append]
 rw [List.getElem?_eq_getElem hlt] at hi;cases hi
 rw [List.append_assoc,List.singleton_append,List.getElem_cons_drop,List.take_append_drop]
theorem PT (h:∀(j:Nat) y,l[j]? =some y→p y=true→j=i):(l.eraseIdx i).any p=false:=by
 rw [List.any_eq_false]
 intro y hy hp
 obtain ⟨j,hj⟩:=List.getElem?_of_mem hy
 rw [List.getElem?_eraseIdx] at hj
 split at hj
 · have:=h j y hj hp;omega
 · have:=h (j+1) y hj hp;omega
theorem Wu {y:α} (h0:0≤idx p l) (hy:l[j]? =some y) (hp:p y=true):(idx p l).toNat≤j:=by
 unfold idx at h0 ⊢
 cases hf:l.findIdx? p with
 |none=>rw [hf] at h0;simp at h0
 |some k=>
  rw [List.findIdx?_eq_some_iff_getElem] at hf
  obtain ⟨_,_,h3⟩:=hf
  show k≤j
  refine Nat.le_of_not_lt fun hlt=> ?_
  have:=h3 j hlt
  have Qb:=Ar hy
  rw [List.getElem?_eq_getElem Qb] at hy;cases hy
  exact this hp
end
theorem OI (h:FV l=true) {n:Int} (hi:l[i]? =some n) (hj:l[j]? =some n):i=j:=by
 unfold FV at h;rw [Br] at h
 have key:∀{a b:Nat},a<b→l[a]? =some n→l[b]? =some n→False:=by
  intro a b hab ha hb
  have:=h b (Ar hb)
  unfold Dt at this
  rw [getD_at hb] at this
  simp only [Bool.and_eq_true,Bool.not_eq_true',List.any_eq_false] at this
  have:=this.2 n (List.mem_of_getElem? (show (l.take b)[a]? =some n by rw [List.getElem?_take,if_pos hab];exact ha))
  simp at this
 rcases Nat.lt_trichotomy i j with h1|h1|h1
 · exact (key h1 hi hj).elim
 · exact h1
 · exact (key h1 hj hi).elim
theorem Sj {n:Int} (h:Fi l):B5 (Fj l n) n=B5 l n∧CE (Fj l n) n=true:=by
 have h0:=Hh l n
 have h1:B5 (Fj l n) n=B5 l n:=by
  refine JL (by rw [eW h0];omega) (fun j y hj hy=> ?_) (fun y hy=> ?_)
  · rw [Zp h0 hj] at hy;exact Kw hj hy
  · rw [RJ h0] at hy;cases hy;omega
 refine ⟨h1,?_⟩
 unfold CE;rw [h1,RJ h0];simp
theorem OJ {n:Int} (h:CE l n=true):l[B5 l n]? =some n:=by
 unfold CE at h
 cases hh:l[B5 l n]? with
 |none=>rw [hh] at h;cases h
 |some y=>rw [hh] at h;simp at h;rw [h]
theorem Sk {n:Int} (hs:Fi l) (h:CE l n=true):B5 (l.eraseIdx (B5 l n)) n=B5 l n∧CE (l.eraseIdx (B5 l n)) n=false:=by
 have hh:=OJ h
 have hlt:=Ar hh
 have hnext:∀y,(l.eraseIdx (B5 l n))[B5 l n]? =some y→n<y:=by
  intro y hy
  rw [List.getElem?_eraseIdx,if_neg AA] at hy
  exact Mu hs (Nat.lt_succ_self _) hh hy
 have h1:B5 (l.eraseIdx (B5 l n)) n=B5 l n:=by
  refine JL (by rw [List.length_eraseIdx,if_pos hlt];omega) (fun j y hj hy=> ?_) (fun y hy=>by have:=hnext y hy;omega)
  rw [List.getElem?_eraseIdx,if_pos hj] at hy;exact Kw hj hy
 refine ⟨h1,?_⟩
 unfold CE;rw [h1]
 cases hh2:(l.eraseIdx (B5 l n))[B5 l n]? with
 |none=>rfl
 |some y=>have:=hnext y hh2;simp;omega
abbrev Zq (e:CO) (c:BA) (x:CO) (b:BA):Prop:=A_ x b= .ok (e,c)∧EB b∧b.AJ=c.AJ
theorem bJ {ep k n:Int} (hk:1≤k∧k≤12) (h5:k≠5):EB ⟨ep,k,n,0,A0⟩:=by
 refine ⟨hk,?_⟩
 unfold GY;simp only
 split
 · rfl
 · first|rfl|(rw [if_neg h5];rfl)
theorem Gu {ep k n at_:Int} {x:D9} (h:EB ⟨ep,k,n,at_,x⟩) (h1:k≠1) (h5:k≠5):at_=0∧x=A0:=by
 have:=h.2
 unfold GY at this;simp only at this
 rw [if_neg h1,if_neg h5,Bool.and_eq_true] at this
 exact ⟨by simpa using this.1,PR this.2⟩
theorem Sl {n:Int} {f:Bool} (hn:0≤n∧n≤1) (h:¬Ca f=n):(0≤Ca f∧Ca f≤1)∧¬Ca (n==1)=Ca f∧(Ca f==1)=f∧Ca (n==1)=n:=by
 have:n=0∨n=1:=by omega
 rcases this with rfl|rfl<;>cases f<;>simp_all [Ca]
theorem Wv {c:BA} {x:CO} {b:BA} (he:Sd e) (hc:EB c) (h:A_ e c= .ok (x,b)):Zq e c x b:=by
  obtain ⟨ep,k,n,at_,Bj⟩:=c
  have hk:1≤k∧k≤12:=hc.1
  have h0:=My hk
  rcases h0 with rfl|rfl|rfl|rfl|rfl|rfl|rfl|rfl|rfl|rfl|rfl|rfl
  · -- rP
    have hz:Bj=A0:=PR hc.2
    subst hz
    rw [Ho rfl] at h
    split at h
    · cases h
    next hr=>
    split at h
    · cases h
    next hn=>
    injection h with h;obtain ⟨rfl,rfl⟩:=Prod.mk.inj h
    have nX:0≤at_∧at_≤(e.AG.length:Nat):=Classical.not_not.1 hr
    obtain ⟨i,rfl⟩:=Int.eq_ofNat_of_zero_le nX.1
    have hi:i≤e.AG.length:=by omega
    refine ⟨?_,bJ AA AA,rfl⟩
    rw [Hq rfl]
    have hx:idx (fun y=>n==y) (e.AG.take i++[n]++e.AG.drop i)=((i:Nat):Int):=Vs hi Aa (Bool.eq_false_iff.2 hn)
    have hs:∀{E:CO},E.AG=e.AG.take i++[n]++e.AG.drop i→HB E ⟨ep,2,n,0,A0⟩=((i:Nat):Int):=fun hE=>by unfold HB;rw [hE];exact hx
    rw [hs rfl,if_neg AA]
    show Except.ok (({ e with AG:=(e.AG.take i++[n]++e.AG.drop i).eraseIdx i }:CO),(⟨ep,1,n,i,A0⟩:BA))=_
    rw [JP hi]
  · -- m8
    obtain ⟨rfl,rfl⟩:=Gu hc AA AA
    rw [Hq rfl] at h
    split at h
    · cases h
    next hn=>
    injection h with h;obtain ⟨rfl,rfl⟩:=Prod.mk.inj h
    have hn':¬idx (fun y=>n==y) e.AG<0:=hn
    obtain ⟨y,hy,hp,hlt⟩:=Gg (p:=fun y=>n==y) (l:=e.AG) AA
    have:n=y:=by simpa using hp
    subst this
    show Zq e ⟨ep,2,n,0,A0⟩ { e with AG:=e.AG.eraseIdx (idx (fun y=>n==y) e.AG).toNat } ⟨ep,1,n,idx (fun y=>n==y) e.AG,A0⟩
    have hk0:idx (fun y=>n==y) e.AG=((idx (fun y=>n==y) e.AG).toNat:Int):=by omega
    clear hn h hp
    revert hn' hy hlt hk0
    generalize idx (fun y=>n==y) e.AG=K
    intro hn' hlt hy hk0
    generalize K.toNat=i at hy hlt hk0
    subst hk0
    have hone:∀(j:Nat) z,e.AG[j]? =some z→(n==z)=true→j=i:=fun j z hj hz=>by
      have:n=z:=by simpa using hz
      subst this;exact OI he.AG hj hy
    refine ⟨?_,⟨⟨by show (1:Int)≤1;omega,by show (1:Int)≤12;omega⟩,rfl⟩,rfl⟩
    have UN:((e.AG.eraseIdx i).any fun y=>n==y)=false:=PT hone
    have hlen:(e.AG.eraseIdx i).length=e.AG.length-1:=by rw [List.length_eraseIdx,if_pos hlt]
    rw [Ho rfl,if_neg (by
      show ¬¬(0≤((i:Nat):Int)∧((i:Nat):Int)≤((e.AG.eraseIdx i).length:Nat))
      omega),if_neg (by
      show ¬((e.AG.eraseIdx i).any fun y=>n==y)=true
      rw [UN];decide)]
    show Except.ok (({ e with AG:=(e.AG.eraseIdx i).take i++[n]++(e.AG.eraseIdx i).drop i }:CO),(⟨ep,2,n,0,A0⟩:BA))=_
    rw [JQ hy]
  · obtain ⟨rfl,rfl⟩:=Gu hc AA AA
    rw [Hr rfl] at h
    split at h
    · cases h
    next hn=>
    injection h with h;obtain ⟨rfl,rfl⟩:=Prod.mk.inj h
    refine ⟨?_,bJ (k:=3) AA AA,rfl⟩
    rw [Hr rfl,if_neg (fun h=>hn h.symm)]
  · obtain ⟨rfl,rfl⟩:=Gu hc AA AA
    rw [Hs rfl] at h
    split at h
    · cases h
    next hn=>
    injection h with h;obtain ⟨rfl,rfl⟩:=Prod.mk.inj h
    refine ⟨?_,bJ (k:=4) AA AA,rfl⟩
    rw [Hs rfl,if_neg (fun h=>hn h.symm)]
  · -- g_
    have hz:n=0:=by have:=hc.2;unfold GY at this;simpa using this
    subst hz
    rw [Ht rfl] at h
    split at h
    · cases h
    next hr=>
    split at h
    · cases h
    next hn=>
    injection h with h;obtain ⟨rfl,rfl⟩:=Prod.mk.inj h
    have nX:0≤at_∧at_≤(e.ids.length:Nat):=Classical.not_not.1 hr
    obtain ⟨i,rfl⟩:=Int.eq_ofNat_of_zero_le nX.1
    have hi:i≤e.ids.length:=by omega
    have hn':¬0≤Ag Bj.BB e.ids:=hn
    have UN:(e.ids.any fun x=>x.BB==Bj.BB)=false:=eV (show Ag Bj.BB e.ids<0 by omega)
    refine ⟨?_,bJ AA AA,rfl⟩
    have hx:Ag Bj.BB (e.ids.take i++[Bj]++e.ids.drop i)=((i:Nat):Int):=Vs hi Aa UN
    have hd:((e.ids.drop i).any fun x=>x.BB==Bj.BB)=false:=by
      rw [List.any_eq_false] at UN ⊢;exact fun y hy=>UN y (List.mem_of_mem_drop hy)
    rw [Hu rfl]
    show (match (e.ids.take i++[Bj]++e.ids.drop i)[(Ag Bj.BB (e.ids.take i++[Bj]++e.ids.drop i)).toNat]? with
      |none=>(Except.error 41:Except Int (CO×BA))
      | some x => if Ag Bj.BB (e.ids.take i ++ [Bj] ++ e.ids.drop i) < 0 then .error 41
        else if (((e.ids.take i++[Bj]++e.ids.drop i).drop (Ag Bj.BB (e.ids.take i++[Bj]++e.ids.drop i)+1).toNat).any fun x=>x.BB==Bj.BB)=true then .error 5
        else .ok (({ e with ids:=(e.ids.take i++[Bj]++e.ids.drop i).eraseIdx (Ag Bj.BB (e.ids.take i++[Bj]++e.ids.drop i)).toNat }:CO),⟨ep,5,0,Ag Bj.BB (e.ids.take i++[Bj]++e.ids.drop i),x⟩))=_
    rw [hx,Int.toNat_natCast,RJ hi]
    show (if ((i:Nat):Int)<0 then _ else _)=_
    rw [if_neg AA,show (((i:Nat):Int)+1).toNat=i+1 by omega,Si hi,hd,JP hi]
    rfl
  · -- eX
    obtain ⟨rfl,rfl⟩:=Gu hc AA AA
    rw [Hu rfl] at h
    split at h
    · cases h
    next x0 hx0=>
    split at h
    · cases h
    next hn=>
    split at h
    · cases h
    next ht=>
    injection h with h;obtain ⟨rfl,rfl⟩:=Prod.mk.inj h
    have hx0':e.ids[(Ag n e.ids).toNat]? =some x0:=hx0
    have hn':¬Ag n e.ids<0:=hn
    have ht':¬((e.ids.drop (Ag n e.ids+1).toNat).any fun x=>x.BB==n)=true:=ht
    obtain ⟨y,hy,hp,hlt⟩:=Gg (p:=fun x:D9=>x.BB==n) (l:=e.ids) (by unfold Ag at hn';omega)
    have hyx : y = x0 := by have : e.ids[(Ag n e.ids).toNat]? = some y := hy
                            rw [hx0'] at this;cases this;rfl
    subst hyx
    have hky:y.BB=n:=by simpa using hp
    have RK:∀(j:Nat) z,e.ids[j]? =some z→(z.BB==n)=true→(Ag n e.ids).toNat≤j:=fun j z hj hz=>Wu (p:=fun x:D9=>x.BB==n) (by unfold Ag at hn';omega) hj hz
    have hk0:Ag n e.ids=((Ag n e.ids).toNat:Int):=by omega
    have Qb:(Ag n e.ids).toNat<e.ids.length:=hlt
    show Zq e ⟨ep,6,n,0,A0⟩ { e with ids:=e.ids.eraseIdx (Ag n e.ids).toNat } ⟨ep,5,0,Ag n e.ids,y⟩
    clear hn h hp ht hx0 hlt hy
    revert hk0 RK Qb ht' hx0' hn'
    generalize (Ag n e.ids)=K
    intro hn' ht' hx0' RK hk0 Qb
    generalize K.toNat=i at hx0' RK hk0 Qb
    subst hk0
    rw [show (((i:Nat):Int)+1).toNat=i+1 by omega] at ht'
    refine ⟨?_,⟨⟨by show (1:Int)≤5;omega,by show (5:Int)≤12;omega⟩,rfl⟩,rfl⟩
    have UN:((e.ids.eraseIdx i).any fun x=>x.BB==y.BB)=false:=by
      refine PT (fun j z hj hz=> ?_)
      rw [hky] at hz
      have h1:=RK j z hj hz
      rcases Nat.lt_or_eq_of_le h1 with h2|h2
      · exfalso;apply ht';rw [List.any_eq_true]
        refine ⟨z,List.mem_of_getElem? (i:=j-(i+1)) ?_,hz⟩
        rw [List.getElem?_drop,show i+1+(j-(i+1))=j by omega];exact hj
      · exact h2.symm
    rw [Ht rfl,if_neg (by
      show ¬¬(0≤((i:Nat):Int)∧((i:Nat):Int)≤((e.ids.eraseIdx i).length:Nat))
      rw [List.length_eraseIdx,if_pos Qb];omega),if_neg (by
      show ¬0≤Ag y.BB (e.ids.eraseIdx i)
      have:=Wt UN
      unfold Ag;omega)]
    show Except.ok (({ e with ids:=(e.ids.eraseIdx i).take i++[y]++(e.ids.eraseIdx i).drop i }:CO),(⟨ep,6,y.BB,0,A0⟩:BA))=_
    rw [JQ hx0',hky]
  · obtain ⟨rfl,rfl⟩:=Gu hc AA AA
    have hs:=DO he.eS
    rw [Hv rfl] at h
    split at h
    · cases h
    next hn=>
    injection h with h;obtain ⟨rfl,rfl⟩:=Prod.mk.inj h
    have hp:=Sj (n:=n) hs
    refine ⟨?_,bJ AA AA,rfl⟩
    rw [Hw rfl,if_pos (show CE (Fj e.anchors n) n=true from hp.2)]
    show Except.ok (({ e with anchors:=(Fj e.anchors n).eraseIdx (B5 (Fj e.anchors n) n) }:CO),(⟨ep,7,n,0,A0⟩:BA))=_
    rw [hp.1,JP (Hh _ _)]
  · obtain ⟨rfl,rfl⟩:=Gu hc AA AA
    have hs:=DO he.eS
    rw [Hw rfl] at h
    split at h
    next hn=>
      injection h with h;obtain ⟨rfl,rfl⟩:=Prod.mk.inj h
      have hn':CE e.anchors n=true:=hn
      have hp:=Sk (n:=n) hs hn'
      refine ⟨?_,bJ AA AA,rfl⟩
      rw [Hv rfl,if_neg (show ¬CE (e.anchors.eraseIdx (B5 e.anchors n)) n=true by rw [hp.2];decide)]
      show Except.ok (({ e with anchors:=Fj (e.anchors.eraseIdx (B5 e.anchors n)) n }:CO),(⟨ep,8,n,0,A0⟩:BA))=_
      unfold Fj
      rw [hp.1,JQ (OJ hn')]
    · cases h
  · obtain ⟨rfl,rfl⟩:=Gu hc AA AA
    have hs:=DO he.hash
    rw [Hx rfl] at h
    split at h
    · cases h
    next hn=>
    injection h with h;obtain ⟨rfl,rfl⟩:=Prod.mk.inj h
    have hp:=Sj (n:=n) hs
    refine ⟨?_,bJ AA AA,rfl⟩
    rw [GN rfl,if_pos (show CE (Fj e.hashes n) n=true from hp.2)]
    show Except.ok (({ e with hashes:=(Fj e.hashes n).eraseIdx (B5 (Fj e.hashes n) n) }:CO),(⟨ep,9,n,0,A0⟩:BA))=_
    rw [hp.1,JP (Hh _ _)]
  · obtain ⟨rfl,rfl⟩:=Gu hc AA AA
    have hs:=DO he.hash
    rw [GN rfl] at h
    split at h
    next hn=>
      injection h with h;obtain ⟨rfl,rfl⟩:=Prod.mk.inj h
      have hn':CE e.hashes n=true:=hn
      have hp:=Sk (n:=n) hs hn'
      refine ⟨?_,bJ AA AA,rfl⟩
      rw [Hx rfl,if_neg (show ¬CE (e.hashes.eraseIdx (B5 e.hashes n)) n=true by rw [hp.2];decide)]
      show Except.ok (({ e with hashes:=Fj (e.hashes.eraseIdx (B5 e.hashes n)) n }:CO),(⟨ep,10,n,0,A0⟩:BA))=_
      unfold Fj
      rw [hp.1,JQ (OJ hn')]
    · cases h
  · obtain ⟨rfl,rfl⟩:=Gu hc AA AA
    rw [GO rfl] at h
    split at h
    · cases h
    next hr=>
    split at h
    · cases h
    next hn=>
    injection h with h;obtain ⟨rfl,rfl⟩:=Prod.mk.inj h
    have hb:=Sl (Classical.not_not.1 hr) hn
    refine ⟨?_,bJ (k:=11) AA AA,rfl⟩
    rw [GO rfl,if_neg (show ¬¬(0≤Ca e.E_∧Ca e.E_≤1) from fun h=>h hb.1),if_neg (show ¬Ca (n==1)=Ca e.E_ from hb.2.1)]
    show Except.ok (({ e with E_:=(Ca e.E_==1) }:CO),(⟨ep,11,Ca (n==1),0,A0⟩:BA))=_
    rw [hb.2.2.1,hb.2.2.2]
  · obtain ⟨rfl,rfl⟩:=Gu hc AA AA
    rw [GP rfl] at h
    split at h
    · cases h
    next hr=>
    split at h
    · cases h
    next hn=>
    injection h with h;obtain ⟨rfl,rfl⟩:=Prod.mk.inj h
    have hb:=Sl (Classical.not_not.1 hr) hn
    refine ⟨?_,bJ (k:=12) AA AA,rfl⟩
    rw [GP rfl,if_neg (show ¬¬(0≤Ca e.own∧Ca e.own≤1) from fun h=>h hb.1),if_neg (show ¬Ca (n==1)=Ca e.own from hb.2.1)]
    show Except.ok (({ e with own:=(Ca e.own==1) }:CO),(⟨ep,12,Ca (n==1),0,A0⟩:BA))=_
    rw [hb.2.2.1,hb.2.2.2]
theorem Ww {c:BA} {x:CO} {b:BA} (h:Bh e c=(x,b,0)):Bh x b=(e,c,0)∧b.AJ=c.AJ:=by
 obtain ⟨h1,h2,h3,h4⟩:=JO h
 have h5:=Wv h1 h2 h3
 exact ⟨GQ (CJ.2 h4) h5.2.1 h5.1 (CJ.2 h1),h5.2.2⟩
abbrev PU:List Pr:=[J3 .u8]
abbrev Vt (m:Nat):Pr:=slice 1 (List.replicate m PU)
abbrev Ek (B:Nat):Pr:=Cp.ex fun m:Nat=>fact (m≤B) (Vt m)
abbrev Sm:Pr:=Cp.ex fun b:Bool=>bool b
abbrev BZ (q:Pr):List Pr:=[J3 .i64,Ek 1000,Sm,q]
abbrev Iw (row:List Pr):Pr:=Cp.ex fun m:Nat=>fact (m≤20) (slice 4 (List.replicate m row))
abbrev KB (D:Nat):Pr:=Cp.ex fun d:Int=>fact (0≤d∧d≤(D:Nat)) (int d)
theorem Iy {r:List Pr} (h:k<m):(List.replicate m r)[((k:Nat):Int).toNat]? =some r:=by rw [Int.toNat_natCast,List.getElem?_replicate,if_pos h]
theorem Vu {r:List Pr}:List.replicate m r++[r]=List.replicate (m+1) r:=by rw [List.replicate_succ']
theorem Ky {r:List Pr}:List.replicate m r++List.replicate k r=List.replicate (m+k) r:=by rw [List.replicate_append_replicate]
theorem Mi.refl:∀l:List Pr,Mi l l
 |[]=>trivial
 |_::l=>⟨Pr.le_refl _,Mi.refl l⟩
theorem Rs {sz:Nat} {rows':List (List Pr)} (hl:rows.length=rows'.length) (h:∀(i:Nat) r r',rows[i]? =some r→rows'[i]? =some r'→r.length=r'.length∧∀(j:Nat) p p',r[j]? =some p→r'[j]? =some p'→Pr.le p p'):Pr.le (slice sz rows) (slice sz rows'):=by
 rintro M w v ⟨a,cap,h1,h2,h3,h4,h5⟩
 refine ⟨a,cap,by rw [←hl];exact h1,by rw [←hl];exact h2,h3,h4,fun i row hr=> ?_⟩
 have hi:i<rows.length:=by rw [hl];exact Ar hr
 have hr0:=List.getElem?_eq_getElem hi
 obtain ⟨g1,g2⟩:=h i _ _ hr0 hr
 obtain ⟨k1,ad,k2,k3⟩:=h5 i _ hr0
 refine ⟨by rw [←g1];exact k1,ad,k2,fun j p' hp'=> ?_⟩
 have hj:j<rows[i].length:=by rw [g1];exact Ar hp'
 have hp:=List.getElem?_eq_getElem hj
 obtain ⟨u,c1,c2,c3,c4⟩:=k3 j _ hp
 exact ⟨u,c1,c2,c3,g2 j _ _ hp hp' _ _ _ c4⟩
theorem Wx {sz:Nat} {r:List Pr} (h:∀q∈rows,q.length=r.length∧∀(j:Nat) p p',q[j]? =some p→r[j]? =some p'→Pr.le p p'):Pr.le (slice sz rows) (slice sz (List.replicate rows.length r)):=by grind [Rs,Ar]
theorem TT {β:Type} {l:List β} {f:β→Int}:Pr.le (slice 1 (l.map fun x=>[is (.int .u8 (f x))])) (Vt l.length):=by
 have:=Wx (sz:=1) (rows:=l.map fun x=>[is (.int .u8 (f x))]) (r:=PU) (by
  intro q hq
  obtain ⟨x,_,rfl⟩:=List.mem_map.1 hq
  refine ⟨rfl,fun j p p' hp hp'=> ?_⟩
  cases j with
  |zero=>simp at hp hp';subst hp;subst hp';exact Dq _ _
  |succ j=>simp at hp)
 rwa [List.length_map] at this
theorem FE {B:Nat} (h:m≤B) (hp:Pr.le p (Vt m)):Pr.le p (Ek B):=FB m (Ev h hp)
theorem Ay.BZ {row:List Pr} {res:Pr} (h:∀(t:Int) (b:Nat) (n:Bool) (m:Nat),b≤1000→m≤20→Ay P f [agg [int t,Vt b,bool n,slice 4 (List.replicate m row)]] res):Ay P f [agg (BZ (Iw row))] res:=by
 refine ⟨(h 0 0 false 0 AA AA).1,fun M w vs hb hv=> ?_⟩
 match vs,hv with
 |[u0],MG=>
  obtain ⟨⟨cs,rfl,ho,hcs⟩,_⟩:=MG
  match cs,hcs with
  |[c0,c1,c2,c3],hc=>
   obtain ⟨⟨t,h0⟩,⟨b,Rp,h1⟩,⟨n,h2⟩,⟨m,hm1,h3⟩,_⟩:=hc
   exact (h t b n m Rp hm1).2 M w _ hb ⟨⟨_,rfl,ho,h0,h1,h2,h3,trivial⟩,trivial⟩
theorem Ay.Zr {res:Pr} (h:∀(t:Int) (b:Nat) (n:Bool),b≤1000→Ay P f [agg [int t,Vt b,bool n,slice 4 []]] res):Ay P f [agg [J3 .i64,Ek 1000,Sm,slice 4 []]] res:=by
 refine ⟨(h 0 0 false AA).1,fun M w vs hb hv=> ?_⟩
 match vs,hv with
 |[u0],MG=>
  obtain ⟨⟨cs,rfl,ho,hcs⟩,_⟩:=MG
  match cs,hcs with
  |[c0,c1,c2,c3],hc=>
   obtain ⟨⟨t,h0⟩,⟨b,Rp,h1⟩,⟨n,h2⟩,h3,_⟩:=hc
   exact (h t b n Rp).2 M w _ hb ⟨⟨_,rfl,ho,h0,h1,h2,h3,trivial⟩,trivial⟩
theorem kP {n:Int}  :Ay prog 300 [int n] (bool (decide (1≤n)&&decide (n≤255)&&(n.tmod 32 !=31))):=by
 refine fo func300 rfl ⟨rfl,rfl⟩ fun M0 w0=> ?_
 refine ac ?_
 refine ag ?_ ?_<;>intro h1 q1
 refine ag ?_ ?_<;>intro h2 q2
 refine L5 h2 rfl (cy h2 rfl (QV rfl vq vq AA) ?_)
 refine a2 ?_
 · exact HK
 refine a2 ?_
 · exact I6
 refine a2 ?_
 · exact I6
theorem Lf {t:Int} {n:Bool} (hb:b≤1000) (hm:m≤20) (ih:m=0∨Ay prog 240 [agg (BZ q)] (Sm)):Ay prog 240 [agg [int t,Vt b,bool n,slice 4 (List.replicate m (BZ q))]] (Sm):=by
 refine fo func240 rfl ⟨rfl,rfl⟩ fun M0 w0=> ?_
 have hlr:(List.replicate m (BZ q)).length=m:=List.length_replicate
 have hlb:(List.replicate b PU).length=b:=List.length_replicate
 refine a2 ?_
 refine co rfl (Bn (kP) rfl rfl) ?_
 refine ag ?_ ?_<;>intro h1 q1
 refine ac ?_
 refine wk [38,1] rfl ?_
 refine a2 ?_
 · exact F2
 refine ac ?_
 refine cy h1 rfl (Pp rfl vq vq AA) (cy h1 rfl (QV rfl vq vq AA) (cy h1 rfl gG (cy h1 rfl (YI rfl underlying4 vq vq) ?_)))
 refine ag ?_ ?_<;>intro h2 q2
 refine ac ?_
 refine wk [38,1] rfl ?_
 refine a2 ?_
 · exact F2
 refine ag ?_ ?_<;>intro h3 q3
 refine ac ?_
 refine cy h3 rfl (A8 rfl underlying185 vq) ?_
 refine ag ?_ ?_<;>intro h4 q4
 refine ac ?_
 refine wk [38,1] rfl ?_
 refine a2 ?_
 · exact F2
 refine ag ?_ ?_<;>intro h5 q5
 refine ac ?_
 refine cy h5 rfl (A8 rfl underlying266 vq) ?_
 refine ac ?_
 refine wk [38,1] rfl ?_
 refine Tr.cn rfl ?_ ?_<;>intro h6 q6
 refine a2 ?_
 · exact F2
 refine a2 ?_
 refine Tr.block (Tr.Bc _ (kk [1] rfl) (fun k:Nat=>[(3,int ((k:Nat):Int))]) (fun k:Nat=>k≤((List.replicate m (BZ q)).length)) (fun k:Nat=>((List.replicate m (BZ q)).length)-k) 0 (Nat.zero_le _) kz ?_)
 rintro k Be
 refine ac ?_
 refine co rfl (A8 rfl underlying266 vq) ?_
 refine an ?_ ?_<;>intro h7 q7
 have Ae:k<((List.replicate m (BZ q)).length):=AV h7
 have hkm:k<m:=by simpa using Ae
 have ih2:=ih.resolve_left AA
 refine ac ?_
 refine ap ?_
 refine tp rfl (AD rfl underlying266 CR vq vq AA (Iy hkm)) (tp rfl (AX rfl C2 CR vq rfl rfl) (tp rfl (Bn (ih2) rfl rfl) ?_))
 refine TO.ex 51 rfl (fun z51=> ?_)
 refine ap ?_
 · exact Pt
 have BM:k=((List.replicate m (BZ q)).length):=by have:=AW h7;omega
 refine a3 ?_
 · exact F2
 refine ac ?_
 refine wk [38,1] rfl ?_
 refine a2 ?_
 refine Tr.block (Tr.Bc _ (kk [1] rfl) (fun k:Nat=>[(3,int ((k:Nat):Int))]) (fun k:Nat=>k≤((List.replicate m (BZ q)).length)) (fun k:Nat=>((List.replicate m (BZ q)).length)-k) 0 (Nat.zero_le _) kz ?_)
 rintro k Be
 refine ac ?_
 refine co rfl (A8 rfl underlying266 vq) ?_
 refine an ?_ ?_<;>intro h9 q9
 have Ae:k<((List.replicate m (BZ q)).length):=AV h9
 have hkm:k<m:=by simpa using Ae
 have ih2:=ih.resolve_left AA
 refine ac ?_
 refine ap ?_
 refine tp rfl (AD rfl underlying266 CR vq vq AA (Iy hkm)) (tp rfl (AX rfl C2 CR vq rfl rfl) (tp rfl (Bn (ih2) rfl rfl) ?_))
 refine TO.ex 51 rfl (fun z51=> ?_)
 refine ap ?_
 · exact Pt
 have BM:k=((List.replicate m (BZ q)).length):=by have:=AW h9;omega
 refine a3 ?_
 · exact F2
 refine ag ?_ ?_<;>intro h11 T8
 refine ac ?_
 refine cy h11 rfl (A8 rfl underlying266 vq) ?_
 refine ac ?_
 refine wk [38,1] rfl ?_
 refine Tr.cn rfl ?_ ?_<;>intro h12 Ws
 refine a2 ?_
 · exact F2
 refine a2 ?_
 refine Tr.block (Tr.Bc _ (kk [1] rfl) (fun k:Nat=>[(3,int ((k:Nat):Int))]) (fun k:Nat=>k≤((List.replicate m (BZ q)).length)) (fun k:Nat=>((List.replicate m (BZ q)).length)-k) 0 (Nat.zero_le _) kz ?_)
 rintro k Be
 refine ac ?_
 refine co rfl (A8 rfl underlying266 vq) ?_
 refine an ?_ ?_<;>intro Mo Xh
 have Ae:k<((List.replicate m (BZ q)).length):=AV Mo
 have hkm:k<m:=by simpa using Ae
 have ih2:=ih.resolve_left AA
 refine ac ?_
 refine ap ?_
 refine tp rfl (AD rfl underlying266 CR vq vq AA (Iy hkm)) (tp rfl (AX rfl C2 CR vq rfl rfl) (tp rfl (Bn (ih2) rfl rfl) ?_))
 refine TO.ex 51 rfl (fun z51=> ?_)
 refine ap ?_
 · exact Pt
 have BM:k=((List.replicate m (BZ q)).length):=by have:=AW Mo;omega
 refine a3 ?_
 · exact F2
 refine ac ?_
 refine wk [38,1] rfl ?_
 refine a2 ?_
 refine Tr.block (Tr.Bc _ (kk [1] rfl) (fun k:Nat=>[(3,int ((k:Nat):Int))]) (fun k:Nat=>k≤((List.replicate m (BZ q)).length)) (fun k:Nat=>((List.replicate m (BZ q)).length)-k) 0 (Nat.zero_le _) kz ?_)
 rintro k Be
 refine ac ?_
 refine co rfl (A8 rfl underlying266 vq) ?_
 refine an ?_ ?_<;>intro TE hO
 have Ae:k<((List.replicate m (BZ q)).length):=AV TE
 have hkm:k<m:=by simpa using Ae
 have ih2:=ih.resolve_left AA
 refine ac ?_
 refine ap ?_
 refine tp rfl (AD rfl underlying266 CR vq vq AA (Iy hkm)) (tp rfl (AX rfl C2 CR vq rfl rfl) (tp rfl (Bn (ih2) rfl rfl) ?_))
 refine TO.ex 51 rfl (fun z51=> ?_)
 refine ap ?_
 · exact Pt
 have BM:k=((List.replicate m (BZ q)).length):=by have:=AW TE;omega
 refine a3 ?_
 · exact F2
theorem OK {t:Int} {n:Bool} {D:Nat} (hb:b≤1000) (hm:m≤20) (hD:D≤1000) (ih:m=0∨Ay prog 241 [agg (BZ q)] (KB D)):Ay prog 241 [agg [int t,Vt b,bool n,slice 4 (List.replicate m (BZ q))]] (KB (D+1)):=by
 refine fo func241 rfl ⟨rfl,rfl⟩ fun M0 w0=> ?_
 have hlr:(List.replicate m (BZ q)).length=m:=List.length_replicate
 have hlb:(List.replicate b PU).length=b:=List.length_replicate
 refine ac ?_
 refine ac ?_
 refine ac ?_
 refine Tr.block (Tr.Bc _ (kk [1] rfl) (fun k:Nat=>[(4,int ((k:Nat):Int)),(3,KB D)]) (fun k:Nat=>k≤((List.replicate m (BZ q)).length)) (fun k:Nat=>((List.replicate m (BZ q)).length)-k) 0 (Nat.zero_le _) ⟨kq,⟨_,rfl,FB 0 (Ev AA Lr)⟩,trivial⟩ ?_)
 rintro k Be
 refine ac ?_
 refine co rfl (A8 rfl underlying266 vq) ?_
 refine ac ?_
 refine Tr.cn rfl ?_ ?_<;>intro h1 q1
 have Ae:k<((List.replicate m (BZ q)).length):=AV h1
 have hkm:k<m:=by simpa using Ae
 have ih2:=ih.resolve_left AA
 refine ac ?_
 refine Tr.seq (Tr.block (Tr.BL (tm rfl ?_)))
 refine TO.ex 12 rfl (fun z12=>TO.fact 12 rfl fun x5=> ?_)
 refine tp rfl (Oa rfl VW rfl rfl) (tp rfl (GX rfl Yf rfl) (tm rfl (tp rfl (AD rfl underlying266 CR (vl rfl) (vl rfl) AA (Iy hkm)) (tp rfl (AX rfl C2 CR (vl rfl) rfl rfl) (tp rfl (Bn (ih2) rfl rfl) ?_)))))
 refine TO.ex 18 rfl (fun z18=>TO.fact 18 rfl fun wU=> ?_)
 refine tp rfl (iK rfl vq vq) ?_
 refine ap ?_
 refine wk [4,3,1] rfl ?_
 refine ac ?_
 exact Fin.AQ (k+1) ⟨Ae,by omega⟩ ⟨⟨_,rfl,AO k⟩,⟨_,rfl,FB _ (Ev AA Lr)⟩,kz⟩
 have BM:k=((List.replicate m (BZ q)).length):=by have:=AW h1;omega
 refine ac ?_
 refine ap ?_
 refine TO.ex 20 rfl (fun z20=>TO.fact 20 rfl fun x6=> ?_)
 refine ap ?_
 refine ac ?_
 · exact FB _ (Ev AA Lr)
def OL (n:Nat):Nat:=if h:n=0 then 0 else 1+OL (n/256)
termination_by n
decreasing_by omega
theorem PV:OL 0=0:=by unfold OL;simp
theorem Sn (h:0<n):OL n=1+OL (n/256):=by conv=>lhs;unfold OL;rw [dif_neg AA]
theorem RL:∀(n:Nat),OL n≤n:=by
 intro n
 induction n using Nat.strongRecOn with
 |_ n ih=>
  rcases Nat.eq_zero_or_pos n with h|h
  · subst h;rw [PV];omega
  · rw [Sn h];have:=ih (n/256) AA;omega
def Wy (n:Nat):Nat:=if n<128 then 1 else 1+OL n
theorem Vv (n:Nat):Wy n≤n+1:=by unfold Wy;have:=RL n;split<;>omega
theorem bK (k:Int):Pr.le (slice 1 [[is (.int .u8 k)]]) (Vt 1):=TT (l:=[()]) (f:=fun _=>k)
theorem Wz (hn:n≤100000000):Ay prog 301 [int ((n:Nat):Int)] (Vt (Wy n)):=by
 refine fo func301 rfl ⟨rfl,rfl⟩ fun M0 w0=> ?_
 refine ac ?_
 refine an ?_ ?_<;>intro h1 q1
 refine ac ?_
 refine co rfl (C_ rfl underlying3 underlying5 vq) (co rfl (Ah (xs:=[.tmp 7]) (rows:=[PU]) rfl rfl underlying185 K7 z5 rfl AB ⟨⟨Aq,VL.le vq (Pr.le_trans (Dq _ _) (AP _))⟩,trivial⟩ AB) ?_)
 refine a2 ?_
 · refine Pr.le_trans (BC _ _) (Pr.le_of_eq ?_);unfold Wy;rw [if_pos AA];rfl
 refine a2 ?_
 refine Tr.seq (Tr.block (Tr.Eg 5 1 (Tr.Rv [] trivial (fun (k:Nat) (acc:Nat) v=>[(0,int ((k:Nat):Int)),(3,Ao v (Vt acc))]) (fun (k:Nat) (acc:Nat) v=>Hp M0 w0 Lw ([Bi 5 1 v])) (fun (k:Nat) (acc:Nat)=>OL k+acc=OL n∧k≤n) (fun (k:Nat) (acc:Nat)=>k) (n) (0) (.slice none 0 0) (⟨by omega,by omega⟩) ⟨kq,⟨_,rfl,Du rfl⟩,trivial⟩ (fun _ _ h=>h) ?_)))
 rintro k acc v ⟨hk1,hk2⟩
 refine an ?_ ?_<;>intro h2 q2
 have hk0:0<k:=by have:=F4.IB h2;omega
 have hdg:=Sn hk0
 have hle:=RL n
 refine ac ?_
 refine ap ?_
 refine tp rfl (QV rfl vq vq AA) (tp rfl (C_ rfl underlying3 underlying5 vq) (tp rfl (Ah (xs:=[.tmp 13]) (rows:=[PU]) rfl rfl underlying185 K7 z5 rfl AB ⟨⟨Aq,VL.le vq (Pr.le_trans (Dq _ _) (AP _))⟩,trivial⟩ AB) ?_))
 refine tm rfl (TO.pad ?_)
 refine TO.Fw 0 rfl rfl AB (Dy rfl rfl rfl rfl underlying185 K7 VS z5 E9 L9 (B9 Bt vq)) (fun v1=> ?_)
 refine ap ?_
 refine ac ?_
 refine co rfl (Pp rfl vq vq AA) ?_
 refine ac ?_
 refine Fin.drop 1 ?_
 exact Fin.Db (k/256) (acc+1) v1 (⟨⟨by omega,by omega⟩,by omega⟩) ⟨⟨_,rfl,int_eq (by rw [Int.tdiv_eq_ediv_of_nonneg AA,KZ (by unfold Tg;omega)];omega)⟩,⟨_,rfl,D3 (by rw [show ([PU]:List (List Pr))=List.replicate 1 PU from rfl,Ky,Nat.add_comm])⟩,trivial⟩ (fun _ _ h=>h)
 have hk0:k=0:=by have:=F4.IB h2;omega
 subst hk0
 have hle:=RL n
 rw [PV] at hk1
 refine ac ?_
 refine ap ?_
 refine tp rfl (A8 rfl underlying185 L9) (tp rfl gG (tp rfl (C_ rfl underlying3 underlying5 vq) (tp rfl (Ah (xs:=[.tmp 22]) (rows:=[PU]) rfl rfl underlying185 K7 z5 rfl AB ⟨⟨Aq,VL.le vq (Pr.le_trans (Dq _ _) (AP _))⟩,trivial⟩ AB) ?_)))
 refine tm rfl (TO.pad ?_)
 refine TO.Fw 0 rfl rfl AB (Dy rfl rfl rfl rfl underlying185 K7 VS z5 E9 L9 (B9 Bt vq)) (fun v2=> ?_)
 refine ap ?_
 refine ac ?_
 · refine Pr.le_trans (BF _ _) (Pr.le_of_eq ?_);unfold Wy;rw [if_neg AA,show ([PU]:List (List Pr))=List.replicate 1 PU from rfl,Ky,show acc=OL n by omega]
theorem UO {t:Int} {n:Bool} {B:Nat} (hb:b≤1000) (hm:m≤20) (hB:B≤1000000) (ih:m=0∨Ay prog 242 [agg (BZ q)] (Ek B)):Ay prog 242 [agg [int t,Vt b,bool n,slice 4 (List.replicate m (BZ q))]] (Ek (2*(1000+20*B)+2)):=by
 refine fo func242 rfl ⟨rfl,rfl⟩ fun M0 w0=> ?_
 have hlr:(List.replicate m (BZ q)).length=m:=List.length_replicate
 have hlb:(List.replicate b PU).length=b:=List.length_replicate
 refine ac ?_
 refine ap ?_
 refine TO.pad ?_
 refine TO.Fw 0 rfl rfl AB (Dy rfl rfl rfl rfl underlying185 K7 VS z5 E9 vq (B9 Bt vq)) (fun v1=> ?_)
 refine ap ?_
 refine ac ?_
 refine Tr.block (Tr.Rv _ (kk [1] rfl) (fun (k:Nat) (acc:Nat) v=>[(4,int ((k:Nat):Int)),(3,Ao v (Vt acc))]) (fun (k:Nat) (acc:Nat) v=>Hp M0 w0 Lw ([Bi 5 1 v])) (fun (k:Nat) (acc:Nat)=>k≤m∧acc≤b+k*B) (fun (k:Nat) (acc:Nat)=>m-k) (0) (b) v1 (⟨by omega,by omega⟩) ⟨kq,⟨_,rfl,D3 Aa⟩,trivial⟩ (fun _ _ h=>h) ?_)
 rintro k acc v ⟨hk1,hk2⟩
 have hkB:k*B≤20*B:=Nat.mul_le_mul_right B AA
 refine ac ?_
 refine co rfl (A8 rfl underlying266 vq) ?_
 refine an ?_ ?_<;>intro h1 q1
 have hkm:k<m:=by have:=F4.IB h1;rw [hlr] at this;omega
 have ih2:=ih.resolve_left AA
 refine ac ?_
 refine ap ?_
 refine tp rfl (AD rfl underlying266 CR vq vq AA (Iy hkm)) (tp rfl (AX rfl C2 CR vq rfl rfl) (tp rfl (Bn (ih2) rfl rfl) ?_))
 refine TO.ex 22 rfl (fun z22=>TO.fact 22 rfl fun x7=> ?_)
 refine TO.Fw 0 rfl rfl AB (Dy rfl rfl rfl rfl underlying185 K7 VS z5 L9 vq (CY Bt Er)) (fun v2=> ?_)
 refine ap ?_
 refine wk [4,3,1] rfl ?_
 refine ac ?_
 exact Fin.Db (k+1) (acc+z22) v2 (⟨⟨by omega,by rw [Nat.succ_mul];omega⟩,by omega⟩) ⟨⟨_,rfl,AO k⟩,⟨_,rfl,D3 (by rw [Ky])⟩,kz⟩ (fun _ _ h=>h)
 have hke:k=m:=by have:=F4.IB h1;rw [hlr] at this;omega
 have NN:=Vv acc
 refine ac ?_
 refine Tr.seq (Tr.pad (Tr.rx ?_))
 refine ay ?_
 refine xo rfl (fun _=>C_ rfl underlying3 underlying5 vq) (xo rfl (fun _=>Ah (xs:=[.tmp 26]) (rows:=[PU]) rfl rfl underlying185 K7 z5 rfl AB ⟨⟨Aq,VL.le vq (Pr.le_trans (Dq _ _) (AP _))⟩,trivial⟩ AB) ?_)
 refine xm rfl (xo rfl (fun _=>A8 rfl underlying185 L9) ?_)
 refine xo rfl (fun _=>Ad rfl (Wz (n:=acc) AA) ⟨⟨_,rfl,int_eq Aa⟩,trivial⟩) ?_
 refine Cx.ef 0 rfl rfl AB (Dy rfl rfl rfl rfl underlying185 K7 VS z5 E9 vq (B9 Bt vq)) ?_
 refine xm rfl ?_
 refine Cx.ef 0 rfl rfl AB (Dy rfl rfl rfl rfl underlying185 K7 VS z5 vq L9 WG) ?_
 refine Cx.ef 0 rfl rfl AB (Qc rfl rfl AB rfl vq) ?_
 refine Cx.nil ⟨by kernel_rfl,?_⟩
 refine BV.open_ 0 2 rfl rfl (fun v3=> ?_)
 refine BV.done Xd (Fin.go (wk [2] rfl ?_))
 refine ac ?_
 · exact FE (m:=1+Wy acc+acc) (by have:=Vv acc;omega) (Pr.le_trans (BF _ _) (Pr.le_of_eq (by rw [show ([PU]:List (List Pr))=List.replicate 1 PU from rfl,Ky,Ky])))
theorem W0 {D B:Nat} (hf:Ay prog 240 [agg (BZ q)] Sm) (hd:Ay prog 241 [agg (BZ q)] (KB D)) (hp:Ay prog 242 [agg (BZ q)] (Ek B)):Ay prog 167 [agg (BZ q)] (D_ [Ek B,J3 .i64]):=by
 refine fo func167 rfl ⟨rfl,rfl⟩ fun M0 w0=> ?_
 refine ac ?_
 refine ap ?_
 refine tp rfl (Bn (hf) rfl rfl) ?_
 refine TO.ex 6 rfl (fun z6=> ?_)
 refine ap ?_
 refine Tr.cn rfl ?_ ?_<;>intro h1 q1
 refine ac ?_
 refine Tr.ret (Fin.AL (Fin.EJ rfl (Cd.F_ _ _) rfl ?_ rfl ?_))
 · exact QH
 · exact Dq _ _
 refine ac ?_
 refine ap ?_
 refine tp rfl (Bn (hd) rfl rfl) ?_
 refine TO.ex 9 rfl (fun z9=>TO.fact 9 rfl fun hz9=> ?_)
 refine ap ?_
 refine Tr.cn rfl ?_ ?_<;>intro h2 q2
 refine ac ?_
 refine Tr.ret (Fin.AL (Fin.EJ rfl (Cd.F_ _ _) rfl ?_ rfl ?_))
 · exact QH
 · exact Dq _ _
 refine a2 ?_
 refine co rfl (Bn (hp) rfl rfl) ?_
 refine ac ?_
 refine ap ?_
 refine TO.ex 13 rfl (fun z13=>TO.fact 13 rfl fun x8=> ?_)
 refine tp rfl (A8 rfl underlying185 vq) ?_
 refine ap ?_
 refine wk [15,4] rfl ?_
 refine Tr.cn rfl ?_ ?_<;>intro h3 q3
 refine ac ?_
 refine Tr.ret (Fin.AL (Fin.EJ rfl (Cd.F_ _ _) rfl ?_ rfl ?_))
 · exact QH
 · exact Dq _ _
 refine a2 ?_
 refine Tr.ret (Fin.EJ rfl (Cd.F_ _ _) rfl ?_ rfl ?_)
 · exact Lr
 · exact Dq _ _
theorem eY:IntKind.u8.wrap 0=0:=rfl
def lvI (x:Int):Nat:=if x≤0 then 0 else if x<256 then 1 else if x<65536 then 2 else if x<16777216 then 3 else if x<4294967296 then 4 else if x<1099511627776 then 5 else 6+x.toNat
theorem Zs {x:Int} (h:0<x):lvI (x/256)<lvI x:=by
 unfold lvI
 repeat' split
 all_goals omega
def Kz (x h:Int):Nat:=if x=0 then (if 128≤h then 1 else 0) else lvI x+1
theorem eZ {n h:Int} (h0:0≤n) (h1:n≤1099511627776):Kz (n/256) h≤400:=by
 unfold Kz lvI
 repeat' split
 all_goals omega
theorem GR {x h:Int} {t:Nat} (h0:0≤x) (hc:x≠0∨128≤h) (hi:t+Kz x h≤400):(0≤x/256∧t+1+Kz (x/256) (IntKind.u8.wrap x)≤400)∧Kz (x/256) (IntKind.u8.wrap x)<Kz x h:=by grind [Kz,eY,Zs]
theorem Gh {u:TypeId} {y:Operand} {m:Int} (ho:o.op= .binOp .shr t x y u) (hx:VL E x (int m)) (hy:VL E y (is (.int .u64 8))) (h0:0≤m):Ab P I o E (int (m/256)):=
 Ab.same fun M w a he _=>by
  have h1:a.eval x= .int .i64 m:=hx.ev he At
  have h2:a.eval y= .int .u64 8:=hy.ev he At
  refine ⟨.int .i64 (m.fdiv 256),?_,congrArg (Value.int .i64) (Int.fdiv_eq_ediv_of_nonneg m AA)⟩
  simp only [execOp,ho,h1,h2]
  simp [eqGuard,binOp,Op.shift,IntKind.bits]
abbrev q0:Pr:=slice 4 []
theorem KC {n:Int} (hn:0≤n∧n≤1099511627776):Ay prog 245 [int n] (agg (BZ q0)):=by
 refine fo func245 rfl ⟨rfl,rfl⟩ fun M0 w0=>(Tr.seq (Tr.BL ?_))
 refine Tl rfl rfl rfl rfl LX Ja (fun b1=> ?_)
 refine ap ?_
 refine ac ?_
 refine co rfl (C_ rfl underlying3 underlying5 vq) ?_
 refine a2 ?_
 refine co rfl (Gh rfl vq vq AA) ?_
 refine ac ?_
 refine Tr.block ?_
 refine Tr.Rw _ (kk [2] rfl) (fun (x:Int) (h:Int) (t:List Int)=>[(4,int x),(3,slice 1 ((h::t).map fun n=>[is (.int .u8 n)]))]) (fun (x:Int) (h:Int) (t:List Int)=>Hp M0 w0 Lw ([AE true b1 268 (([.int .i64 0,.slice none 0 0,.bool false,.slice none 0 0]:List Value).map is)])) (fun (x:Int) (h:Int) (t:List Int)=>0≤x∧t.length+Kz x h≤400) (fun (x:Int) (h:Int) (t:List Int)=>Kz x h) (n/256) (IntKind.u8.wrap n) ([])  (⟨by omega,by simp only [List.length_nil];have:=eZ (h:=IntKind.u8.wrap n) hn.1 hn.2;omega⟩) ⟨kq,⟨_,rfl,Pr.le_trans (BC _ _) (Pr.le_of_eq rfl)⟩,trivial⟩ (fun _ _ h=>h) ?_
 rintro x h t  ⟨hx0,kQ⟩
 refine ag ?_ ?_<;>intro h1 q1
 refine ag ?_ ?_<;>intro h2 q2
 refine ac ?_
 refine wk [35,4,3,2] rfl ?_
 refine ac ?_
 refine ap ?_
 refine tp rfl (C_ rfl underlying3 underlying5 vq) ?_
 refine ap ?_
 refine TO.pad ?_
 refine TO.Fw 0 rfl rfl AB (Dy rfl rfl rfl rfl underlying185 K7 VS z5 E9 vq (B9 Bt vq)) (fun v1=> ?_)
 refine ap ?_
 refine ac ?_
 refine co rfl (Gh rfl vq vq AA) ?_
 refine ac ?_
 refine Fin.drop 0 (Fin.Gd (x/256) (IntKind.u8.wrap x) (h::t)  ((GR hx0 AA kQ)) ⟨kq,⟨_,rfl,Pr.le_trans (BF _ _) (Pr.le_of_eq rfl)⟩,kz⟩ (fun _ _ h=>h))
 refine ag ?_ ?_<;>intro h3 q3
 refine L5 h3 rfl ?_
 refine cy h3 rfl (AD rfl underlying185 K7 vq vq AA (Ak (k:=0) rfl)) ?_
 refine ag ?_ ?_<;>intro h4 q4
 refine ac ?_
 refine wk [35,4,3,2] rfl ?_
 refine ac ?_
 refine ap ?_
 refine tp rfl (C_ rfl underlying3 underlying5 vq) ?_
 refine ap ?_
 refine TO.pad ?_
 refine TO.Fw 0 rfl rfl AB (Dy rfl rfl rfl rfl underlying185 K7 VS z5 E9 vq (B9 Bt vq)) (fun v2=> ?_)
 refine ap ?_
 refine ac ?_
 refine co rfl (Gh rfl vq vq AA) ?_
 refine ac ?_
 refine Fin.drop 0 (Fin.Gd (x/256) (IntKind.u8.wrap x) (h::t)  ((GR hx0 AA kQ)) ⟨kq,⟨_,rfl,Pr.le_trans (BF _ _) (Pr.le_of_eq rfl)⟩,kz⟩ (fun _ _ h=>h))
 refine ag ?_ ?_<;>intro h5 q5
 refine L5 h5 rfl ?_
 refine cy h5 rfl (AD rfl underlying185 K7 vq vq AA (Ak (k:=0) rfl)) ?_
 refine ac ?_
 refine wk [35,4,3,2] rfl ?_
 refine Tr.cn rfl ?_ ?_<;>intro h6 q6
 have kR:=h6
 refine ac ?_
 refine ap ?_
 refine tp rfl (C_ rfl underlying3 underlying5 vq) ?_
 refine ap ?_
 refine TO.pad ?_
 refine TO.Fw 0 rfl rfl AB (Dy rfl rfl rfl rfl underlying185 K7 VS z5 E9 vq (B9 Bt vq)) (fun v3=> ?_)
 refine ap ?_
 refine ac ?_
 refine co rfl (Gh rfl vq vq AA) ?_
 refine ac ?_
 refine Fin.drop 0 (Fin.Gd (x/256) (IntKind.u8.wrap x) (h::t)  ((GR hx0 AA kQ)) ⟨kq,⟨_,rfl,Pr.le_trans (BF _ _) (Pr.le_of_eq rfl)⟩,kz⟩ (fun _ _ h=>h))
 have kR:=h6
 refine ac ?_
 refine ap ?_
 refine Tr.ret (Fin.CF rfl (AR.cell 0 rfl rfl C2 CR rfl Lr) ?_)
 · exact IQ
 refine ac ?_
 refine wk [35,4,3,2] rfl ?_
 refine ac ?_
 refine ap ?_
 refine Tr.ret (Fin.CF rfl (AR.cell 0 rfl rfl C2 CR rfl Lr) ?_)
 · exact IQ
 refine ag ?_ ?_<;>intro h7 q7
 refine L5 h7 rfl ?_
 refine cy h7 rfl (AD rfl underlying185 K7 vq vq AA (Ak (k:=0) rfl)) ?_
 refine ac ?_
 refine wk [35,4,3,2] rfl ?_
 refine Tr.cn rfl ?_ ?_<;>intro h8 q8
 have kR:=h8
 refine ac ?_
 refine ap ?_
 refine tp rfl (C_ rfl underlying3 underlying5 vq) ?_
 refine ap ?_
 refine TO.pad ?_
 refine TO.Fw 0 rfl rfl AB (Dy rfl rfl rfl rfl underlying185 K7 VS z5 E9 vq (B9 Bt vq)) (fun v4=> ?_)
 refine ap ?_
 refine ac ?_
 refine co rfl (Gh rfl vq vq AA) ?_
 refine ac ?_
 refine Fin.drop 0 (Fin.Gd (x/256) (IntKind.u8.wrap x) (h::t)  ((GR hx0 AA kQ)) ⟨kq,⟨_,rfl,Pr.le_trans (BF _ _) (Pr.le_of_eq rfl)⟩,kz⟩ (fun _ _ h=>h))
 have kR:=h8
 refine ac ?_
 refine ap ?_
 refine Tr.ret (Fin.CF rfl (AR.cell 0 rfl rfl C2 CR rfl Lr) ?_)
 · exact IQ
 refine ac ?_
 refine wk [35,4,3,2] rfl ?_
 refine ac ?_
 refine ap ?_
 refine Tr.ret (Fin.CF rfl (AR.cell 0 rfl rfl C2 CR rfl Lr) ?_)
 · exact IQ
 refine ag ?_ ?_<;>intro h9 q9
 refine L5 h9 rfl ?_
 refine cy h9 rfl (AD rfl underlying185 K7 vq vq AA (Ak (k:=0) rfl)) ?_
 refine ag ?_ ?_<;>intro h10 SH
 refine ac ?_
 refine wk [35,4,3,2] rfl ?_
 refine ac ?_
 refine ap ?_
 refine tp rfl (C_ rfl underlying3 underlying5 vq) ?_
 refine ap ?_
 refine TO.pad ?_
 refine TO.Fw 0 rfl rfl AB (Dy rfl rfl rfl rfl underlying185 K7 VS z5 E9 vq (B9 Bt vq)) (fun v5=> ?_)
 refine ap ?_
 refine ac ?_
 refine co rfl (Gh rfl vq vq AA) ?_
 refine ac ?_
 refine Fin.drop 0 (Fin.Gd (x/256) (IntKind.u8.wrap x) (h::t)  ((GR hx0 AA kQ)) ⟨kq,⟨_,rfl,Pr.le_trans (BF _ _) (Pr.le_of_eq rfl)⟩,kz⟩ (fun _ _ h=>h))
 refine ag ?_ ?_<;>intro h11 T8
 refine L5 h11 rfl ?_
 refine cy h11 rfl (AD rfl underlying185 K7 vq vq AA (Ak (k:=0) rfl)) ?_
 refine ac ?_
 refine wk [35,4,3,2] rfl ?_
 refine Tr.cn rfl ?_ ?_<;>intro h12 Ws
 have kR:=h12
 refine ac ?_
 refine ap ?_
 refine tp rfl (C_ rfl underlying3 underlying5 vq) ?_
 refine ap ?_
 refine TO.pad ?_
 refine TO.Fw 0 rfl rfl AB (Dy rfl rfl rfl rfl underlying185 K7 VS z5 E9 vq (B9 Bt vq)) (fun v6=> ?_)
 refine ap ?_
 refine ac ?_
 refine co rfl (Gh rfl vq vq AA) ?_
 refine ac ?_
 refine Fin.drop 0 (Fin.Gd (x/256) (IntKind.u8.wrap x) (h::t)  ((GR hx0 AA kQ)) ⟨kq,⟨_,rfl,Pr.le_trans (BF _ _) (Pr.le_of_eq rfl)⟩,kz⟩ (fun _ _ h=>h))
 have kR:=h12
 refine ac ?_
 refine ap ?_
 refine Tr.ret (Fin.CF rfl (AR.cell 0 rfl rfl C2 CR rfl Lr) ?_)
 · exact IQ
 refine ac ?_
 refine wk [35,4,3,2] rfl ?_
 refine ac ?_
 refine ap ?_
 refine Tr.ret (Fin.CF rfl (AR.cell 0 rfl rfl C2 CR rfl Lr) ?_)
 · exact IQ
 refine ag ?_ ?_<;>intro Mo Xh
 refine L5 Mo rfl ?_
 refine cy Mo rfl (AD rfl underlying185 K7 vq vq AA (Ak (k:=0) rfl)) ?_
 refine ac ?_
 refine wk [35,4,3,2] rfl ?_
 refine Tr.cn rfl ?_ ?_<;>intro Lh ec
 have kR:=Lh
 refine ac ?_
 refine ap ?_
 refine tp rfl (C_ rfl underlying3 underlying5 vq) ?_
 refine ap ?_
 refine TO.pad ?_
 refine TO.Fw 0 rfl rfl AB (Dy rfl rfl rfl rfl underlying185 K7 VS z5 E9 vq (B9 Bt vq)) (fun v7=> ?_)
 refine ap ?_
 refine ac ?_
 refine co rfl (Gh rfl vq vq AA) ?_
 refine ac ?_
 refine Fin.drop 0 (Fin.Gd (x/256) (IntKind.u8.wrap x) (h::t)  ((GR hx0 AA kQ)) ⟨kq,⟨_,rfl,Pr.le_trans (BF _ _) (Pr.le_of_eq rfl)⟩,kz⟩ (fun _ _ h=>h))
 have kR:=Lh
 refine ac ?_
 refine ap ?_
 refine Tr.ret (Fin.CF rfl (AR.cell 0 rfl rfl C2 CR rfl Lr) ?_)
 · exact IQ
 refine ac ?_
 refine wk [35,4,3,2] rfl ?_
 refine ac ?_
 refine ap ?_
 refine Tr.ret (Fin.CF rfl (AR.cell 0 rfl rfl C2 CR rfl Lr) ?_)
 · exact IQ
theorem RM (hs:s.length≤1000):Ay prog 243 [str s] (agg (BZ q0)):=by
 refine fo func243 rfl ⟨rfl,rfl⟩ fun M0 w0=>(Tr.seq (Tr.BL ?_))
 refine Tl rfl rfl rfl rfl LX Ja (fun b1=> ?_)
 refine ap ?_
 refine ap ?_
 refine tp rfl (Nw rfl underlying9 underlying185 underlying5 vq (by unfold maxLen;omega)) ?_
 refine ap ?_
 refine Tr.ret (Fin.CF rfl (AR.cell 0 rfl rfl C2 CR rfl Lr) ?_)
 · exact BP ⟨Dq _ _,FE (m:=s.length) AA (TT (f:=fun c:UInt8=>((c.toNat:Nat):Int))),FB _ Lr,AH 4,trivial⟩
theorem ej {b:Bool}  :Ay prog 247 [bool b] (agg (BZ q0)):=by
 refine fo func247 rfl ⟨rfl,rfl⟩ fun M0 w0=>(Tr.seq (Tr.BL ?_))
 refine Tl rfl rfl rfl rfl LX Ja (fun b1=> ?_)
 refine ap ?_
 refine an ?_ ?_<;>intro h1 q1
 refine ap ?_
 refine tp rfl (Ax (rows:=[(0,[_]),(1,[_])]) rfl Yg Ja ⟨⟨rfl,CX⟩,⟨⟨rfl,⟨_,rfl,Pr.le_trans (BC _ _) (AP _)⟩⟩,trivial⟩⟩ rfl) ?_
 refine ap ?_
 refine Tr.ret (Fin.AL (Fin.CF rfl (AR.cell 0 rfl rfl C2 CR rfl Lr) ?_))
 · exact Uy
 refine ac ?_
 refine ap ?_
 refine tp rfl (Ax (rows:=[(0,[_]),(1,[_])]) rfl Yg Ja ⟨⟨rfl,CX⟩,⟨⟨rfl,⟨_,rfl,Pr.le_trans (BC _ _) (AP _)⟩⟩,trivial⟩⟩ rfl) ?_
 refine ap ?_
 refine Tr.ret (Fin.CF rfl (AR.cell 0 rfl rfl C2 CR rfl Lr) ?_)
 · exact Uy
theorem Li [One q] (hm:m≤20) (ih:m=0∨Ay prog 302 [q] q):Ay prog 302 [slice 4 (List.replicate m (BZ q))] (slice 4 (List.replicate m (BZ q))):=by
 refine fo func302 rfl ⟨rfl,rfl⟩ fun M0 w0=> ?_
 have hlr:(List.replicate m (BZ q)).length=m:=List.length_replicate
 refine ac ?_
 refine ac ?_
 refine ac ?_
 refine Tr.block (Tr.Eg 268 4 (Tr.GG _ (kk [0] rfl) (fun k v=>[(4,int ((k:Nat):Int)),(3,Ao v (slice 4 (List.replicate k (BZ q))))]) (fun k v=>Hp M0 w0 Lw ([Bi 268 4 v])) (fun k:Nat=>k≤((List.replicate m (BZ q)).length)) (fun k:Nat=>((List.replicate m (BZ q)).length)-k) 0 (.slice none 0 0) (Nat.zero_le _) ⟨kq,⟨_,rfl,Du rfl⟩,trivial⟩ (fun _ _ h=>h) ?_))
 rintro k v Be
 refine ac ?_
 refine co rfl (A8 rfl underlying266 vq) ?_
 refine ac ?_
 refine Tr.cn rfl ?_ ?_<;>intro h1 q1
 have Ae:k<((List.replicate m (BZ q)).length):=AV h1
 have hkm:k<m:=by simpa using Ae
 have ih2:=ih.resolve_left AA
 refine ac ?_
 refine ap ?_
 refine tp rfl (AD rfl underlying266 CR vq vq AA (Iy hkm)) (tp rfl (AX rfl C2 CR vq rfl rfl) ?_)
 refine Tl rfl rfl rfl rfl LX Ja (fun b1=> ?_)
 refine ap ?_
 refine ap ?_
 refine TO.ex 18 rfl (fun z18=>TO.fact 18 rfl fun wU=> ?_)
 refine TO.pad ?_
 refine TO.Fw 0 rfl rfl AB (Dy rfl rfl rfl rfl underlying185 K7 VS z5 E9 vq (B9 Bt vq)) (fun v1=> ?_)
 refine ap ?_
 refine wk [5,4,3,0] rfl ?_
 refine ap ?_
 refine tp rfl (Bn (ih2) rfl rfl) ?_
 refine ap ?_
 refine Tr.BL (tm rfl (TO.rd 1 rfl rfl rfl AB (Cf rfl C2 CR (vl rfl) rfl rfl) (tp rfl (Ah (xs:=[.tmp 26]) (rows:=[BZ q]) rfl rfl underlying266 CR LX rfl AB ⟨⟨Aq,VL.le (vl rfl) (Pr.le_trans (BP (qs:=BZ q) ⟨Lr,FE (m:=z18) AA (Pr.le_trans (BF _ _) (Pr.le_of_eq rfl)),Lr,Lr,trivial⟩) (AY _))⟩,trivial⟩ AB) ?_)))
 refine TO.Fw 2 rfl rfl AB (Dy rfl rfl rfl rfl underlying266 CR gS LX (Kb rfl) (Kf rfl) (CY Bt (Ka rfl))) (fun v2=> ?_)
 refine ap ?_
 refine Tr.drop 1 ?_
 refine ac ?_
 refine Fin.drop 0 (Fin.Ic (k+1) v2 (⟨Ae,by omega⟩) ⟨⟨_,rfl,AO k⟩,⟨_,rfl,D3 (by rw [Vu])⟩,kz⟩ (fun _ _ h=>h))
 have BM:k=((List.replicate m (BZ q)).length):=by have:=AW h1;omega
 refine ac ?_
 refine ac ?_
 refine ac ?_
 · exact Pr.le_trans (BF _ _) (Pr.le_of_eq (by rw [BM,hlr]))
theorem RN (hm:m≤20) (hc:Ay prog 302 [slice 4 (List.replicate m (BZ q))] (slice 4 (List.replicate m (BZ q)))):Ay prog 244 [slice 4 (List.replicate m (BZ q))] (agg (BZ (Iw (BZ q)))):=by
 refine fo func244 rfl ⟨rfl,rfl⟩ fun M0 w0=>(Tr.seq (Tr.BL ?_))
 refine Tl rfl rfl rfl rfl LX Ja (fun b1=> ?_)
 refine ap ?_
 refine ap ?_
 refine tp rfl (Bn (hc) rfl rfl) ?_
 refine ap ?_
 refine Tr.ret (Fin.CF rfl (AR.cell 0 rfl rfl C2 CR rfl Lr) ?_)
 · exact BP ⟨Dq _ _,FE (m:=0) AA (AH 1),FB _ Lr,FB m (Ev hm Lr),trivial⟩
structure Hf.vf (c:Hf):Prop where
 s0:0≤c.It
 s1:c.It≤1099511627776
 iss:named c.KA=true
 sub:named c.Hg=true
 nm:Ej c.names=true
 key:Gw c.Om c.Jd 2=true
 k0:0≤c.BB
 k1:c.BB≤2147483648
 hash:Gw c.UB c.OD 1=true
 sk0:0≤c.dj
 sk1:c.dj≤2147483648
 su0:0≤c.dm
 su1:c.dm<4294967296
 f0:0≤c.from_
 ft:c.from_≤c.mz
 t1:c.mz≤40000
 p0:0≤c.path
 p1:c.path≤8
 ap:c.auth=true∨c.path=0
theorem IP {c:Hf} (hv:Cs c=true):c.vf:=by
 simp only [Cs,FZ,Wa,Bool.and_eq_true,Bool.or_eq_true,decide_eq_true_eq,beq_iff_eq] at hv
 obtain ⟨⟨⟨⟨⟨⟨⟨h1,h2⟩,h3⟩,h4⟩,h5⟩,⟨⟨⟨⟨h6,⟨h7,h8⟩⟩,h9⟩,⟨h10,h11⟩⟩,⟨h12,Mo⟩⟩⟩,⟨⟨Lh,TE⟩,h16⟩⟩,⟨⟨Oj,PI⟩,bI⟩⟩:=hv
 exact ⟨h1,h2,h3,h4,h5,h6,h7,h8,h9,h10,h11,h12,Mo,Lh,TE,h16,Oj,PI,bI⟩
theorem Vw {c:Hf} (h:c.vf):Cs c=true:=by
 simp only [Cs,FZ,Wa,Bool.and_eq_true,Bool.or_eq_true,decide_eq_true_eq,beq_iff_eq]
 exact ⟨⟨⟨⟨⟨⟨⟨h.s0,h.s1⟩,h.iss⟩,h.sub⟩,h.nm⟩,⟨⟨⟨⟨h.key,⟨h.k0,h.k1⟩⟩,h.hash⟩,⟨h.sk0,h.sk1⟩⟩,⟨h.su0,h.su1⟩⟩⟩,⟨⟨h.f0,h.ft⟩,h.t1⟩⟩,⟨⟨h.p0,h.p1⟩,h.ap⟩⟩
theorem Zt {a b k:Int} (h:Gw a b k=true):decide (Bx a b>0)=true∧(DQ a).kind=k:=by
 unfold Gw at h;simpa using h
theorem RO {l:List (List UInt8)} (h:nameAt l k=true) (hs:l[k]? =some s):named s=true:=by
 unfold nameAt at h;rw [hs] at h;simp at h;exact h.1
theorem Vx {l:List (List UInt8)} {y:List UInt8} (h:nameAt l k=true) (hs:l[k]? =some s) (hy:l[k-1]? =some y) (hk:0<k):decide (Lib.compareBytes y s= -1)=true:=by grind [nameAt]
theorem PW {c:Hf} (hv:Cs c=true):Ay prog 93 [agg (DV c)] (int 0):=by
 refine fo func93 rfl ⟨rfl,rfl⟩ fun M0 w0=> ?_
 obtain ⟨hs0,hs1,kS,hsub,hnm,hkey,hk0,hk1,hY,wV,wW,wX,wY,hf0,hft,ht1,nV,hp1,hap⟩:=IP hv
 obtain ⟨rQ,rR⟩:=Zt hkey
 obtain ⟨hh1,hh2⟩:=Zt hY
 have Lj:=hnm
 unfold Ej at Lj
 rw [Bool.and_eq_true,Br,decide_eq_true_eq] at Lj
 obtain ⟨hall,rS⟩:=Lj
 refine ac ?_
 refine ag ?_ ?_<;>intro h1 q1
 exfalso;have:=q1;omega
 refine ag ?_ ?_<;>intro h2 q2
 exfalso;have:=q2;omega
 refine ac ?_
 refine cy h2 rfl (Bn (F7) rfl rfl) ?_
 refine ag ?_ ?_<;>intro h3 q3
 rw [kS] at h3;exact absurd h3 AB
 refine ac ?_
 refine cy h3 rfl (Bn (F7) rfl rfl) ?_
 refine ag ?_ ?_<;>intro h4 q4
 rw [hsub] at h4;exact absurd h4 AB
 refine ac ?_
 refine cy h4 rfl (Bn (Ir) rfl rfl) ?_
 refine ag ?_ ?_<;>intro h5 q5
 rw [rQ,rR] at h5;exact absurd h5 AB
 refine ag ?_ ?_<;>intro h6 q6
 exfalso;have:=q6;omega
 refine ac ?_
 refine wk [39,1] rfl ?_
 refine Tr.cn rfl ?_ ?_<;>intro h7 q7
 exfalso;have:=q7;omega
 refine a2 ?_
 refine co rfl (Bn (Ks) rfl rfl) ?_
 refine ag ?_ ?_<;>intro h8 q8
 rw [hh1] at h8;exact absurd h8 AB
 refine ac ?_
 refine cy h8 rfl (Bn (Ms) rfl rfl) ?_
 refine ag ?_ ?_<;>intro h9 q9
 rw [hh2] at h9;exact absurd h9 AB
 refine ag ?_ ?_<;>intro h10 SH
 exfalso;have:=SH;omega
 refine ag ?_ ?_<;>intro h11 T8
 exfalso;have:=T8;omega
 refine ac ?_
 refine wk [67,1] rfl ?_
 refine Tr.cn rfl ?_ ?_<;>intro h12 Ws
 exfalso;have:=Ws;omega
 refine ac ?_
 refine ag ?_ ?_<;>intro Mo Xh
 exfalso;have:=Xh;omega
 refine ag ?_ ?_<;>intro Lh ec
 exfalso;have:=ec;omega
 refine ag ?_ ?_<;>intro TE hO
 refine ag ?_ ?_<;>intro h16 kT
 exfalso;have:=kT;simp_all
 refine ac ?_
 refine wk [91,1] rfl ?_
 refine Tr.cn rfl ?_ ?_<;>intro Oj dU
 exfalso;have:=dU;omega
 refine a2 ?_
 refine Tr.block (Tr.Bc _ (kk [1] rfl) (fun k:Nat=>[(3,int ((k:Nat):Int))]) (fun k:Nat=>k≤(c.names).length) (fun k:Nat=>(c.names).length-k) 0 (Nat.zero_le _) kz ?_)
 rintro k Be
 refine an ?_ ?_<;>intro PI jw
 have Ae:k<(c.names).length:=AV PI
 obtain ⟨s,Af⟩:=at_ Ae
 have hat:=hall k AA
 have hna:=RO hat Af
 refine a2 ?_
 refine co rfl (AD rfl underlying73 LV vq vq AA (Ak Af)) (co rfl (GX rfl Nq rfl) (co rfl (Bn (F7) rfl rfl) ?_))
 refine ag ?_ ?_<;>intro bI q19
 exfalso;rw [hna] at bI;exact absurd bI AB
 refine ag ?_ ?_<;>intro Ol q20
 have IJ:0<k:=by simpa using Ol
 obtain ⟨y,hy⟩:=at_ (l:=c.names) (k:=k-1) AA
 have hlt:=Vx hat Af hy IJ
 refine ac ?_
 refine cy Ol rfl (AD rfl underlying73 LV vq vq AA Eu) ?_
 refine ac ?_
 refine cy Ol rfl (AD rfl underlying73 LV vq vq AA (Ak Af)) (cy Ol rfl (GX rfl Nq rfl) (cy Ol rfl (J0 rfl vq vq) ?_))
 refine ac ?_
 refine wk [123,3,1] rfl ?_
 refine Tr.cn rfl ?_ ?_<;>intro ZC q21
 exfalso;rw [hlt] at ZC;exact absurd ZC AB
 refine a2 ?_
 exact Fin.AQ (k+1) ⟨Ae,by omega⟩ ⟨⟨_,rfl,AO k⟩,kz⟩
 refine ac ?_
 refine wk [123,3,1] rfl ?_
 refine a2 ?_
 exact Fin.AQ (k+1) ⟨Ae,by omega⟩ ⟨⟨_,rfl,AO k⟩,kz⟩
 have BM:k=(c.names).length:=by have:=AW PI;omega
 refine ac ?_
 refine ag ?_ ?_<;>intro h22 q22
 exfalso;have:=q22;omega
 refine ag ?_ ?_<;>intro h23 q23
 exfalso;have:=q23;omega
 refine ag ?_ ?_<;>intro h24 q24
 exfalso;have:=q24;omega
 refine ac ?_
 refine wk [145] rfl ?_
 refine Tr.cn rfl ?_ ?_<;>intro h25 q25
 exfalso;have:=q25;omega
 refine a3 ?_
 · exact Lr
 refine ac ?_
 refine wk [91,1] rfl ?_
 refine Tr.cn rfl ?_ ?_<;>intro h26 q26
 exfalso;have:=q26;omega
 refine a2 ?_
 refine Tr.block (Tr.Bc _ (kk [1] rfl) (fun k:Nat=>[(3,int ((k:Nat):Int))]) (fun k:Nat=>k≤(c.names).length) (fun k:Nat=>(c.names).length-k) 0 (Nat.zero_le _) kz ?_)
 rintro k Be
 refine an ?_ ?_<;>intro m9 q27
 have Ae:k<(c.names).length:=AV m9
 obtain ⟨s,Af⟩:=at_ Ae
 have hat:=hall k AA
 have hna:=RO hat Af
 refine a2 ?_
 refine co rfl (AD rfl underlying73 LV vq vq AA (Ak Af)) (co rfl (GX rfl Nq rfl) (co rfl (Bn (F7) rfl rfl) ?_))
 refine ag ?_ ?_<;>intro h28 q28
 exfalso;rw [hna] at h28;exact absurd h28 AB
 refine ag ?_ ?_<;>intro Xj q29
 have IJ:0<k:=by simpa using Xj
 obtain ⟨y,hy⟩:=at_ (l:=c.names) (k:=k-1) AA
 have hlt:=Vx hat Af hy IJ
 refine ac ?_
 refine cy Xj rfl (AD rfl underlying73 LV vq vq AA Eu) ?_
 refine ac ?_
 refine cy Xj rfl (AD rfl underlying73 LV vq vq AA (Ak Af)) (cy Xj rfl (GX rfl Nq rfl) (cy Xj rfl (J0 rfl vq vq) ?_))
 refine ac ?_
 refine wk [123,3,1] rfl ?_
 refine Tr.cn rfl ?_ ?_<;>intro h30 q30
 exfalso;rw [hlt] at h30;exact absurd h30 AB
 refine a2 ?_
 exact Fin.AQ (k+1) ⟨Ae,by omega⟩ ⟨⟨_,rfl,AO k⟩,kz⟩
 refine ac ?_
 refine wk [123,3,1] rfl ?_
 refine a2 ?_
 exact Fin.AQ (k+1) ⟨Ae,by omega⟩ ⟨⟨_,rfl,AO k⟩,kz⟩
 have BM:k=(c.names).length:=by have:=AW m9;omega
 refine ac ?_
 refine ag ?_ ?_<;>intro h31 q31
 exfalso;have:=q31;omega
 refine ag ?_ ?_<;>intro h32 q32
 exfalso;have:=q32;omega
 refine ag ?_ ?_<;>intro h33 q33
 exfalso;have:=q33;omega
 refine ac ?_
 refine wk [145] rfl ?_
 refine Tr.cn rfl ?_ ?_<;>intro h34 q34
 exfalso;have:=q34;omega
 refine a3 ?_
 · exact Lr
abbrev eo:Pr:=Cp.ex fun n:Int=>fact (0≤n∧n<4294967296) (is (.int .u32 n))
abbrev rT:Pr:=Cp.ex fun n:Int=>fact (0≤n∧n<4294967296) (int n)
theorem eu:Pr.le eo (J3 .u32):=fun _ _ _ ⟨n,_,h⟩=>⟨n,h⟩
section
variable {P:Program} {I:CU} {E:Env} {o:Oper}
theorem Zu {s:TypeId} {k k':IntKind} (ho:o.op= .convert s t x) (hs:P.underlying s=some (.int k)) (ht:P.underlying t=some (.int k')) (hx:VL E x (J3 k)):Ab P I o E (J3 k'):=
 Ab.same fun M w a he _=>by
  obtain ⟨n,h1⟩:=hx.ev he At
  have h1:a.eval x= .int k n:=h1
  refine ⟨.int k' (k'.wrap n),?_,_,rfl⟩
  simp [execOp,ho,h1,convert,run_underlying hs,run_underlying ht,Conv.intToInt,Sem.run_bind]
theorem ew {u:TypeId} {y:Operand} (ho:o.op= .binOp .mul t x y u) (hx:VL E x (J3 .u32)) (hy:VL E y (J3 .u32)):Ab P I o E eo:=
 Ab.same fun M w a he _=>by
  obtain ⟨m,h1⟩:=hx.ev he At
  obtain ⟨n,h2⟩:=hy.ev he At
  have h1:a.eval x= .int .u32 m:=h1
  have h2:a.eval y= .int .u32 n:=h2
  refine ⟨.int .u32 (IntKind.u32.wrap (m*n)),by simp [execOp,ho,h1,h2,eqGuard,binOp,Op.intArith],_,?_,rfl⟩
  rw [IntKind.wrap_u32];omega
theorem W4 {s:TypeId} (ho:o.op= .convert s t x) (hs:P.underlying s=some (.int .u32)) (ht:P.underlying t=some (.int .i64)) (hx:VL E x eo):Ab P I o E rT:=
 Ab.same fun M w a he _=>by
  obtain ⟨n,hn,h1⟩:=hx.ev he At
  have h1:a.eval x= .int .u32 n:=h1
  refine ⟨.int .i64 (IntKind.i64.wrap n),?_,n,hn,by rw [KZ (by unfold Tg;omega)];rfl⟩
  simp [execOp,ho,h1,convert,run_underlying hs,run_underlying ht,Conv.intToInt,Sem.run_bind]
end
theorem Ay.Iw {row:List Pr} (h:∀m,m≤20→Ay P f [slice 4 (List.replicate m row)] (slice 4 (List.replicate m row))):Ay P f [Go.Proofs.YtoodkpodinniaaaGreatDoor.Iw row] (Go.Proofs.YtoodkpodinniaaaGreatDoor.Iw row):=by
 refine ⟨(h 0 AA).1,fun M w vs hb hv=> ?_⟩
 match vs,hv with
 |[u0],MG=>
  obtain ⟨⟨m,hm,h0⟩,_⟩:=MG
  exact ((h m hm).2 M w [u0] hb ⟨h0,trivial⟩).mono fun e w' ⟨v,h1,h2,h3⟩=>⟨v,h1,⟨m,hm,h2⟩,h3⟩
theorem Ay.Ek {B:Nat} {res:Pr} (h:∀m,m≤B→Ay P f [Vt m] res):Ay P f [Go.Proofs.YtoodkpodinniaaaGreatDoor.Ek B] res:=by
 refine ⟨(h 0 AA).1,fun M w vs hb hv=> ?_⟩
 match vs,hv with
 |[u0],MG=>
  obtain ⟨⟨m,hm,h0⟩,_⟩:=MG
  exact (h m hm).2 M w [u0] hb ⟨h0,trivial⟩
abbrev K_:Pr:=Iw (BZ q0)
abbrev qA2:Pr:=Iw (BZ K_)
theorem ME:Pr.le q0 K_:=FB 0 (Ev AA (Pr.le_refl _))
theorem rc0:Ay Tryz.prog 302 [q0] q0:=Li (m:=0) (q:=q0) AA (.inl rfl)
theorem rc1 (m:Nat) (hm:m≤20):Ay Tryz.prog 302 [slice 4 (List.replicate m (BZ q0))] (slice 4 (List.replicate m (BZ q0))):=Li hm (.inr rc0)
theorem rc2 (m:Nat) (hm:m≤20):Ay Tryz.prog 302 [slice 4 (List.replicate m (BZ K_))] (slice 4 (List.replicate m (BZ K_))):=Li hm (.inr (Ay.Iw rc1))
theorem rf0:Ay Tryz.prog 240 [agg (BZ q0)] Sm:=Ay.Zr fun t b n hb=>Lf (m:=0) (q:=q0) hb AA (.inl rfl)
theorem rf1:Ay Tryz.prog 240 [agg (BZ K_)] Sm:=Ay.BZ fun t b n m hb hm=>Lf hb hm (.inr rf0)
theorem rf2:Ay Tryz.prog 240 [agg (BZ qA2)] Sm:=Ay.BZ fun t b n m hb hm=>Lf hb hm (.inr rf1)
theorem rd0:Ay Tryz.prog 241 [agg (BZ q0)] (KB 1):=Ay.Zr fun t b n hb=>OK (m:=0) (q:=q0) (D:=0) hb AA AA (.inl rfl)
theorem rd1:Ay Tryz.prog 241 [agg (BZ K_)] (KB 2):=Ay.BZ fun t b n m hb hm=>OK hb hm AA (.inr rd0)
theorem rd2:Ay Tryz.prog 241 [agg (BZ qA2)] (KB 3):=Ay.BZ fun t b n m hb hm=>OK hb hm AA (.inr rd1)
theorem rp0:Ay Tryz.prog 242 [agg (BZ q0)] (Ek 2002):=Ay.Zr fun t b n hb=>UO (m:=0) (q:=q0) (B:=0) hb AA AA (.inl rfl)
theorem rp1:Ay Tryz.prog 242 [agg (BZ K_)] (Ek 82082):=Ay.BZ fun t b n m hb hm=>UO (B:=2002) hb hm AA (.inr rp0)
theorem rp2:Ay Tryz.prog 242 [agg (BZ qA2)] (Ek 3285282):=Ay.BZ fun t b n m hb hm=>UO (B:=82082) hb hm AA (.inr rp1)
theorem rE2:Ay Tryz.prog 167 [agg (BZ qA2)] (D_ [Ek 3285282,J3 .i64]):=W0 rf2 rd2 rp2
structure Hf.W6 (c:Hf):Prop where
 It:c.It≤1099511627776
 BB:c.BB≤2147483648
 Om:0≤c.Om∧c.Om≤40000
 Jd:0≤c.Jd∧c.Jd≤40000
 UB:0≤c.UB∧c.UB≤40000
 OD:0≤c.OD∧c.OD≤40000
theorem JR (h:named s=true):s.length≤32:=by unfold named at h;simp at h;omega
theorem Vy {a b:Int} (ha:0≤a∧a≤40000) (hb:0≤b∧b≤40000):Ay prog 246 [agg [int a,int b]] (agg (BZ K_)):=by
 refine fo func246 rfl ⟨rfl,rfl⟩ fun M0 w0=>(Tr.seq (Tr.BL (tp rfl (BK rfl CS) ?_)))
 refine Tl rfl rfl rfl rfl LX Ja (fun b1=> ?_)
 refine ap ?_
 refine Tr.seq (Tr.rx ?_)
 refine ay ?_
 refine xo rfl (fun _=>Bn (KC AA) rfl rfl) ?_
 refine ay ?_
 refine xo rfl (fun _=>Bn (KC AA) rfl rfl) (xo rfl (fun _=>Ah (xs:=[.tmp 5,.tmp 8]) (rows:=[_,_]) rfl rfl underlying266 CR LX rfl AB ⟨⟨Aq,(Va rfl)⟩,⟨⟨Aq,(Va rfl)⟩,trivial⟩⟩ AB) ?_)
 refine xo rfl (fun _=>Ad rfl (RN (m:=2) (q:=q0) AA (rc1 _ AA)) ⟨E9,trivial⟩) ?_
 refine Cx.D7 0 rfl rfl (Bm rfl rfl vq CS CR rfl Ai rfl) ?_
 refine Cx.nil ⟨by kernel_rfl,?_⟩
 refine BV.done al1 (Fin.go (Tr.ret (Fin.CF rfl (AR.cell 0 rfl rfl C2 CR rfl Lr) ?_)))
 · exact Lr
theorem Zv {c:Hf} (hv:Cs c=true) (ht:c.W6):Ay prog 168 [agg (DV c)] (agg (BZ qA2)):=by
 refine fo func168 rfl ⟨rfl,rfl⟩ fun M0 w0=> ?_
 obtain ⟨hs0,hs1,kS,hsub,hnm,hkey,hk0,hk1,hY,wV,wW,wX,wY,hf0,hft,ht1,nV,hp1,hap⟩:=IP hv
 obtain ⟨g1,g2,g3,g4,g5,g6⟩:=ht
 have Lj:=hnm
 unfold Ej at Lj
 rw [Bool.and_eq_true,Br,decide_eq_true_eq] at Lj
 obtain ⟨hall,rS⟩:=Lj
 have NR:=JR kS
 have S8:=JR hsub
 refine Tr.seq (Tr.BL (tp rfl (BK rfl CS) ?_))
 refine Tl rfl rfl rfl rfl LX Ja (fun b1=> ?_)
 refine ap ?_
 refine a2 ?_
 refine Tr.block (Tr.Eg 268 4 (Tr.GG _ (kk [2,1] rfl) (fun k v=>[(4,int ((k:Nat):Int)),(3,Ao v (slice 4 (List.replicate k (BZ q0))))]) (fun k v=>Hp M0 w0 Lw ([Bi 268 4 v,AE true b1 268 (([.int .i64 0,.slice none 0 0,.bool false,.slice none 0 0]:List Value).map is)])) (fun k:Nat=>k≤(c.names).length) (fun k:Nat=>(c.names).length-k) 0 (.slice none 0 0) (Nat.zero_le _) ⟨kq,⟨_,rfl,Du rfl⟩,trivial⟩ (fun _ _ h=>h) ?_))
 rintro k v Be
 refine an ?_ ?_<;>intro h1 q1
 have Ae:k<(c.names).length:=AV h1
 obtain ⟨s,Af⟩:=at_ Ae
 have hsn:=JR (RO (hall k AA) Af)
 refine ac ?_
 refine ap ?_
 refine tp rfl (AD rfl underlying73 LV vq vq AA DP) ?_
 refine tp rfl (GX rfl Nq rfl) (tp rfl (Bn (RM AA) rfl rfl) (tp rfl (Ah (xs:=[.tmp 18]) (rows:=[_]) rfl rfl underlying266 CR LX rfl AB ⟨⟨Aq,(Va rfl)⟩,trivial⟩ AB) ?_))
 refine TO.Fw 0 rfl rfl AB (Dy rfl rfl rfl rfl underlying266 CR gS LX L9 E9 (CY Bt Er)) (fun v1=> ?_)
 refine ap ?_
 refine wk [4,3,2,1] rfl ?_
 refine ac ?_
 exact Fin.Ic (k+1) v1 (⟨Ae,by omega⟩) ⟨⟨_,rfl,AO k⟩,⟨_,rfl,D3 (by rw [Vu])⟩,kz⟩ (fun _ _ h=>h)
 have BM:k=(c.names).length:=by have:=AW h1;omega
 refine ac ?_
 refine Tr.seq (Tr.rx ?_)
 refine ay ?_
 refine xo rfl (fun _=>Bn (KC AA) rfl rfl) ?_
 refine ay ?_
 refine xo rfl (fun _=>Bn (RM AA) rfl rfl) ?_
 refine ay ?_
 refine xo rfl (fun _=>Bn (RM AA) rfl rfl) ?_
 refine ay ?_
 refine xo rfl (fun _=>Bn (Vy g3 g4) rfl rfl) ?_
 refine ay ?_
 refine xo rfl (fun _=>Bn (KC AA) rfl rfl) ?_
 refine ay ?_
 refine xo rfl (fun _=>Bn (Vy g5 g6) rfl rfl) ?_
 refine ay ?_
 refine xo rfl (fun _=>Bn (KC AA) rfl rfl) ?_
 refine ay ?_
 refine xo rfl (fun _=>Bn (KC AA) rfl rfl) ?_
 refine ay ?_
 refine xo rfl (fun _=>Bn (ej) rfl rfl) ?_
 refine ay ?_
 refine xo rfl (fun _=>Bn (KC AA) rfl rfl) (xm rfl ?_)
 refine xo rfl (fun _=>Ad rfl (RN (m:=c.names.length) (q:=q0) AA (rc1 _ AA)) ⟨⟨_,rfl,Pr.le_trans (BF _ _) (Pr.le_of_eq (by rw [BM]))⟩,trivial⟩) ?_
 refine xo rfl (fun _=>Ah (xs:=[.tmp 23,.tmp 26,.tmp 29,.tmp 32,.tmp 35,.tmp 38,.tmp 41,.tmp 44,.tmp 47,.tmp 50,.tmp 52]) (rows:=[BZ K_,BZ K_,BZ K_,BZ K_,BZ K_,BZ K_,BZ K_,BZ K_,BZ K_,BZ K_,BZ K_]) rfl rfl underlying266 CR LX rfl AB ⟨⟨Aq,VL.le (vl rfl) (Pr.le_trans (BP (qs:=BZ K_) ⟨Lr,Lr,Lr,ME,trivial⟩) (AY _))⟩,⟨⟨Aq,VL.le (vl rfl) (Pr.le_trans (BP (qs:=BZ K_) ⟨Lr,Lr,Lr,ME,trivial⟩) (AY _))⟩,⟨⟨Aq,VL.le (vl rfl) (Pr.le_trans (BP (qs:=BZ K_) ⟨Lr,Lr,Lr,ME,trivial⟩) (AY _))⟩,⟨⟨Aq,VL.le (vl rfl) (AY _)⟩,⟨⟨Aq,VL.le (vl rfl) (Pr.le_trans (BP (qs:=BZ K_) ⟨Lr,Lr,Lr,ME,trivial⟩) (AY _))⟩,⟨⟨Aq,VL.le (vl rfl) (AY _)⟩,⟨⟨Aq,VL.le (vl rfl) (Pr.le_trans (BP (qs:=BZ K_) ⟨Lr,Lr,Lr,ME,trivial⟩) (AY _))⟩,⟨⟨Aq,VL.le (vl rfl) (Pr.le_trans (BP (qs:=BZ K_) ⟨Lr,Lr,Lr,ME,trivial⟩) (AY _))⟩,⟨⟨Aq,VL.le (vl rfl) (Pr.le_trans (BP (qs:=BZ K_) ⟨Lr,Lr,Lr,ME,trivial⟩) (AY _))⟩,⟨⟨Aq,VL.le (vl rfl) (Pr.le_trans (BP (qs:=BZ K_) ⟨Lr,Lr,Lr,ME,trivial⟩) (AY _))⟩,⟨⟨Aq,VL.le (vl rfl) (AY _)⟩,trivial⟩⟩⟩⟩⟩⟩⟩⟩⟩⟩⟩ AB) ?_
 refine xo rfl (fun _=>Ad rfl (RN (m:=11) (q:=K_) AA (rc2 _ AA)) ⟨E9,trivial⟩) ?_
 refine Cx.D7 1 rfl rfl (Bm rfl rfl vq CS CR rfl Ai rfl) ?_
 refine Cx.nil ⟨by kernel_rfl,?_⟩
 refine BV.done Xd (Fin.go (wk [2] rfl (Tr.ret (Fin.CF rfl (AR.cell 1 rfl rfl C2 CR rfl Lr) ?_))))
 · exact Lr
theorem W7 {c:Hf} (hv:Cs c=true) (ht:c.W6):Ay prog 94 [agg (DV c)] (D_ [Ek 3285282,J3 .i64]):=by
 refine fo func94 rfl ⟨rfl,rfl⟩ fun M0 w0=> ?_
 refine a2 ?_
 refine co rfl (Bn (PW hv) rfl rfl) ?_
 refine an ?_ ?_<;>intro h1 q1
 exact absurd h1 AB
 refine a2 ?_
 refine co rfl (Bn (Zv hv ht) rfl rfl) (co rfl (Bn (rE2) rfl rfl) ?_)
 refine ac ?_
 refine Tr.ret (Fin.EJ rfl (Cd.F_ _ _) rfl ?_ rfl ?_)
 · exact Lr
 · exact Lr
theorem ey (hm:m≤100000000):Ay prog 95 [Vt m] (rT):=by
 refine fo func95 rfl ⟨rfl,rfl⟩ fun M0 w0=> ?_
 have hlr:(List.replicate m PU).length=m:=List.length_replicate
 refine a3 ?_
 refine Tr.block (Tr.Bc _ (kk [0] rfl) (fun k:Nat=>[(4,int ((k:Nat):Int)),(3,eo)]) (fun k:Nat=>k≤((List.replicate m PU).length)) (fun k:Nat=>((List.replicate m PU).length)-k) 0 (Nat.zero_le _) ⟨kq,⟨_,rfl,FB _ (Ev AA Lr)⟩,trivial⟩ ?_)
 rintro k Be
 refine ac ?_
 refine co rfl (A8 rfl underlying185 vq) ?_
 refine an ?_ ?_<;>intro h1 q1
 have Ae:k<((List.replicate m PU).length):=AV h1
 have hkm:k<m:=by simpa using Ae
 refine a2 ?_
 refine co rfl (AD rfl underlying185 K7 vq vq AA (Iy hkm)) (co rfl (GX rfl nq rfl) (co rfl (Zu rfl underlying5 underlying242 vq) (co rfl (dH AB rfl (VL.le vq eu) vq) (co rfl (ew rfl vq (VL.le vq (Dq _ _))) ?_))))
 refine ac ?_
 refine wk [4,3,0] rfl ?_
 refine ac ?_
 exact Fin.AQ (k+1) ⟨Ae,by omega⟩ ⟨⟨_,rfl,AO k⟩,kz⟩
 have BM:k=((List.replicate m PU).length):=by have:=AW h1;omega
 refine a2 ?_
 refine co rfl (W4 rfl underlying242 underlying3 vq) ?_
 refine a2 ?_
 · exact Lr
theorem Zw {c:Hf} (hn:c.names.length≤1000):Ay prog 92 [agg (DV c)] (agg (DV c)):=by
 refine fo func92 rfl ⟨rfl,rfl⟩ fun M0 w0=>(Tr.seq (Tr.BL ?_))
 refine TO.Jo rfl rfl AB rfl CS (fun b1=> ?_)
 refine Tl rfl rfl rfl rfl Qp L6 (fun b2=> ?_)
 refine ap ?_
 refine ap ?_
 refine TO.pad ?_
 refine TO.Fw 0 rfl rfl AB (Dy rfl rfl rfl rfl underlying73 LV by9 z9 E9 vq (B9 Bt vq)) (fun v1=> ?_)
 refine ap ?_
 refine ap ?_
 refine Tr.drop 2 (Tr.ret (Fin.CF rfl (AR.cell 1 rfl rfl HT Df rfl Lr) ?_))
 · exact BP ⟨Lr,Lr,Lr,Lr,Lr,Lr,Lr,Lr,Lr,Lr,Lr,Lr,Pr.le_trans (BF _ _) (Pr.le_of_eq Aa),Lr,Lr,trivial⟩
abbrev OM (c:Hf) (key s:Int):Hf:=⟨c.It,c.KA,c.Hg,c.Om,c.Jd,c.BB,c.UB,c.OD,c.from_,c.mz,c.auth,c.path,c.names,key,s⟩
theorem Zx {c:Hf} {key:Int} (hv:Cs (OM c 0 0)=true) (ht:(OM c 0 0).W6) (hk:0≤key∧key≤2147483648):Ay prog 51 [agg (DV c),int key] (Cp.ex fun s:Int=>fact (0≤s∧s<4294967296) (D_ [agg (DV (OM c key s)),int 0])):=by
 refine fo func51 rfl ⟨rfl,rfl⟩ fun M0 w0=> ?_
 have hnn:c.names.length≤1000:=by have:=(IP hv).nm;unfold Ej at this;simp at this;omega
 refine Tr.seq (Tr.BL ?_)
 refine TO.Jo rfl rfl AB rfl CS (fun b1=> ?_)
 refine Tl rfl rfl rfl rfl Qp L6 (fun b2=> ?_)
 refine ap ?_
 refine ap ?_
 refine tp rfl (Bn (Zw (c:=c) hnn) rfl rfl) ?_
 refine ap ?_
 refine ap ?_
 refine ac ?_
 refine co rfl (Bn (PW (c:=OM c 0 0) hv) rfl rfl) ?_
 refine co rfl gG (cm rfl ?_)
 refine Ch.cs 15 rfl ?_ ?_<;>intro h1 q1
 exact absurd h1 AB
 refine L5 h1 rfl (cy h1 rfl (ki rfl rfl rfl rfl) (co rfl (YK rfl rfl h1 rfl) (cm rfl ?_)))
 refine Ch.cs 19 rfl ?_ ?_<;>intro h2 q2
 exfalso;have:=q2;omega
 refine ac ?_
 refine wk [22,4,2,1] rfl ?_
 refine Tr.cn rfl ?_ ?_<;>intro h3 q3
 exfalso;have:=q3;omega
 refine ac ?_
 refine ac ?_
 refine co rfl (Bn (W7 (c:=OM c 0 0) hv ht) rfl rfl) ?_
 refine ac ?_
 refine ap ?_
 refine tp rfl (Bn (Ay.Ek fun m hm=>ey AA) rfl rfl) ?_
 refine TO.ex 31 rfl (fun z31=>TO.fact 31 rfl fun wZ=> ?_)
 refine ap ?_
 refine wk [4,2] rfl ?_
 refine ap ?_
 refine Tr.drop 1 (Tr.ret (Fin.Cj rfl (AR.cell 0 rfl rfl HT Df rfl Lr) (AR.tmp rfl Lr) ?_))
 · exact FB z31 (Ev wZ Lr)
abbrev Jg (name:List UInt8) (a b id to key s:Int):Hf:=⟨id,[114,111,111,116],name,a,b,id,3,0,0,to,false,0,[name],key,s⟩
abbrev Gi (name:List UInt8) (a b id to key s:Int):D9:=⟨a,b,id,[Jg name a b id to key s]⟩
abbrev iA (name:List UInt8) (a b id to key:Int):Pr:=Cp.ex fun s:Int=>fact (0≤s∧s<4294967296) (agg (BJ (Gi name a b id to key s)))
theorem iB   :Ay prog 26 [] (agg [int 5,int 2048]):=by
 refine fo func26 rfl ⟨rfl,rfl⟩ fun M0 w0=>(Tr.seq (Tr.BL ?_))
 refine Tl rfl rfl rfl rfl JG Dm (fun b1=> ?_)
 refine ap ?_
 refine ap ?_
 refine Tr.ret (Fin.CF rfl (AR.cell 0 rfl rfl CG DH rfl Lr) ?_)
 · exact Lr
theorem we   :Ay prog 38 [] (agg [int 7,int 256]):=by
 refine fo func38 rfl ⟨rfl,rfl⟩ fun M0 w0=>(Tr.seq (Tr.BL ?_))
 refine Tl rfl rfl rfl rfl JG Dm (fun b1=> ?_)
 refine ap ?_
 refine ap ?_
 refine Tr.ret (Fin.CF rfl (AR.cell 0 rfl rfl CG DH rfl Lr) ?_)
 · exact Lr
theorem UP {name:List UInt8} {a b id to key:Int} (hv:Cs (Jg name a b id to 0 0)=true) (ht:(Jg name a b id to 0 0).W6) (hk:0≤key∧key≤2147483648):Ay prog 25 [str name,agg [int a,int b],int id,int key,int to] (iA name a b id to key):=by
 refine fo func25 rfl ⟨rfl,rfl⟩ fun M0 w0=>(Tr.seq (Tr.BL (tp rfl (BK rfl CS) ?_)))
 refine Tl rfl rfl rfl rfl LW Js (fun b1=> ?_)
 refine ap ?_
 refine ap ?_
 refine tp rfl (Ax (rows:=[(0,[_]),(1,[_]),(2,[_]),(3,_),(4,[_]),(5,_),(7,[_]),(10,[_])]) rfl oh L6 ⟨⟨rfl,CX⟩,⟨⟨rfl,CX⟩,⟨⟨rfl,CX⟩,⟨⟨rfl,CS⟩,⟨⟨rfl,CX⟩,⟨⟨rfl,CS⟩,⟨⟨rfl,CX⟩,⟨⟨rfl,⟨_,rfl,Pr.le_trans (BC _ _) (AP _)⟩⟩,trivial⟩⟩⟩⟩⟩⟩⟩⟩ rfl) (TO.re 20 (agg (DV (Jg name a b id to 0 0))) rfl (Pr.le_of_eq rfl) ?_)
 refine Tl rfl rfl rfl rfl Qp L6 (fun b2=> ?_)
 refine ap ?_
 refine wk [11,10,6,3,2] rfl ?_
 refine ap ?_
 refine tp rfl (Cb (Zx (c:=Jg name a b id to 0 0) hv ht hk) rfl rfl rfl) ?_
 refine TO.ex 24 rfl (fun z24=>TO.fact 24 rfl fun wg=> ?_)
 refine ap ?_
 refine ap ?_
 refine tp rfl (Ax (rows:=[(0,_),(1,[_]),(2,[_])]) rfl n5 Js ⟨⟨rfl,CS⟩,⟨⟨rfl,CX⟩,⟨⟨rfl,⟨_,rfl,Pr.le_trans (BC _ _) (AP _)⟩⟩,trivial⟩⟩⟩ rfl) ?_
 refine ap ?_
 refine Tr.drop 0 (wk [10] rfl (Tr.ret (Fin.CF rfl (AR.cell 0 rfl rfl Fe Bl rfl Lr) ?_)))
 · exact FB z24 (Ev wg Lr)
def Iz (s:DS) (l:List (List UInt8)):List UInt8:=(l[(s.val l.length).toNat]?).getD []
theorem So {s:DS} {l:List (List UInt8)} (hl:l≠[]) (bC:l.length≤1000000000):BN prog 28 [ptr b 0,WZ l] (str (Iz s l)) (Da b s) (fun _=>Da b s.CN):=by
 refine BN.of func28 rfl rfl Ai fun M0 w0 S rs M1 w1=> ?_
 have WR:1≤(l.length:Int):=by have:=List.length_pos_iff.2 hl;omega
 have hv:=s.DG WR
 obtain ⟨x,hx⟩:=at_ (l:=l) (k:=(s.val l.length).toNat) AA
 refine ac ?_
 refine ap ?_
 refine TO.Kg 0 rfl rfl AB (An rfl rfl AB rfl (CZ AA AA) ⟨kq,kz⟩) (tp rfl (AD rfl underlying73 LV vq vq AA (E0 hx)) ?_)
 refine ap ?_
 refine Tr.ret (Fin.Ge [] rfl (AR.tmp rfl Lr) ?_ (fun _ _ _ _=>rfl))
 · refine Pr.le_of_eq ?_;unfold Iz;rw [hx];rfl
def E8:List (List UInt8):=[[97,112,112],[100,98],[119,101,98]]
def MR:List (List Int):=[[10,8,2],[8,2],[2,10,8,3]]
def KD (i:Int):List Int:=(MR[i.toNat]?).getD []
theorem ez {i:Int} (h:0≤i∧i<3):(MR.map fun l=>[ints l])[i.toNat]? =some [ints (KD i)]:=by
 have hl:i.toNat<MR.length:=by show i.toNat<3;omega
 unfold KD
 rw [List.getElem?_map,List.getElem?_eq_getElem hl];rfl
theorem Sq {i:Int} (h:0≤i∧i<3):KD i∈MR:=by
 have hl:i.toNat<MR.length:=by show i.toNat<3;omega
 unfold KD
 rw [List.getElem?_eq_getElem hl];exact List.getElem_mem hl
structure UQ (i:Nat) (e:CO):Prop where
 name:E8[i]? =some e.name
 least:e.least=1
 most:e.most=3∨e.most=4
 AG:e.AG∈MR∨∃l∈MR,e.AG=14::l
 ids:∃s:Int,(0≤s∧s<4294967296)∧e.ids=[Gi e.name 5 2048 (100+(i:Nat)) 901 1 s]
 anchors:e.anchors=[1]
 hashes:e.hashes=[2,3]
def Zy (es:List CO):Prop:=∀(i:Nat) e,es[i]? =some e→UQ i e
theorem Sr {es:List CO} (h:Zy es) (he:UQ es.length e):Zy (es++[e]):=by
 intro i x hx
 rcases Nat.lt_or_ge i es.length with hi|hi
 · rw [List.getElem?_append_left hi] at hx;exact h i x hx
 ·
  rcases Nat.eq_or_lt_of_le hi with hi|hi
  · subst hi;rw [List.getElem?_append_right (Nat.le_refl _),Nat.sub_self] at hx;simp at hx;subst hx;exact he
  · rw [List.getElem?_eq_none CK] at hx;cases hx
theorem RP {nm:List UInt8} (h:E8[k]? =some nm) {s:Int} (hs:0≤s∧s<4294967296) {key:Int} (hk:0≤key∧key≤2):Cs (Jg nm 5 2048 (100+(k:Nat)) 901 key s)=true:=by
 have hlt:k<3:=Ar h
 have hn:named nm=true:=by
  have hm:=List.mem_of_getElem? h
  revert hm;unfold E8;intro hm;simp at hm
  rcases hm with rfl|rfl|rfl<;>decide
 refine Vw ⟨?_,?_,by show named [114,111,111,116]=true;decide,hn,?_,by show Gw 5 2048 2=true;decide+kernel,?_,?_,by show Gw 3 0 1=true;decide+kernel,hk.1,?_,hs.1,hs.2,by show (0:Int)≤0;omega,by show (0:Int)≤901;omega,by show (901:Int)≤40000;omega,by show (0:Int)≤0;omega,by show (0:Int)≤8;omega,.inr rfl⟩
 · show 0≤(100:Int)+(k:Nat);omega
 · show (100:Int)+(k:Nat)≤_;omega
 ·
  show Ej [nm]=true
  unfold Ej;rw [Bool.and_eq_true];refine ⟨Br.2 fun j hj=> ?_,by simp⟩
  have:j=0:=by simp at hj;omega
  subst this;unfold nameAt;simp [hn]
 · show 0≤(100:Int)+(k:Nat);omega
 · show (100:Int)+(k:Nat)≤_;omega
 · show key≤_;omega
theorem PX {nm:List UInt8} (h:k<3):(Jg nm 5 2048 (100+(k:Nat)) 901 0 0).W6:=
 ⟨by show (100:Int)+(k:Nat)≤1099511627776;omega,by show (100:Int)+(k:Nat)≤2147483648;omega,⟨by show (0:Int)≤5;omega,by show (5:Int)≤40000;omega⟩,⟨by show (0:Int)≤2048;omega,by show (2048:Int)≤40000;omega⟩,⟨by show (0:Int)≤3;omega,by show (3:Int)≤40000;omega⟩,⟨by show (0:Int)≤0;omega,by show (0:Int)≤40000;omega⟩⟩
theorem Zz {β:Type} {l:List β} {x:β} (h:(l.take n)[k]? =some x):l[k]? =some x:=by
 have hlt:=Ar h
 rw [List.length_take] at hlt
 rw [List.getElem?_take,if_pos AA] at h;exact h
theorem Z0 (i:Int):(KD i).length≤4:=by
 unfold KD
 cases h:MR[i.toNat]? with
 |none=>show 0≤4;omega
 |some l=>
  have hm:=List.mem_of_getElem? h
  show l.length≤4
  unfold MR at hm;simp at hm
  rcases hm with rfl|rfl|rfl<;>simp
theorem kU (s:DS):s.of [3,3,4]=3∨s.of [3,3,4]=4:=by have:=s.Qh (l:=[3,3,4]) Aa;simp at this;exact this
abbrev rU:List (List Int):=MR++MR.map (14:: ·)
theorem I0 (h:UQ i e):e.AG∈rU:=by
 rcases h.AG with h|⟨l,h,h2⟩
 · exact List.mem_append_left _ h
 · rw [h2];exact List.mem_append_right _ (List.mem_map_of_mem h)
theorem RQ:∀l∈rU,FV l=true∧l.length≤5:=by decide+kernel
theorem RR:∀n∈E8,IY n=true∧n.length≤3:=by decide+kernel
theorem e7:[2,3].all Iu=true:=by decide+kernel
theorem e9:Gw 5 2048 2=true:=by decide+kernel
theorem Z1 {nm:List UInt8} {id:Int} (h:E8[k]? =some nm) (hid:id=100+(k:Nat)) {s:Int} (hs:0≤s∧s<4294967296):Wb (Gi nm 5 2048 id 901 1 s)=true:=by
 subst hid
 have hk:k<3:=Ar h
 have hv:=RP h hs (key:=1) AA
 have hk2:FZ (100+(k:Nat))=true:=by unfold FZ;simp;omega
 unfold Wb OE;simp only [e9,hk2,List.all_cons,List.all_nil,hv];simp
theorem e_ (h:UQ i e):Sd e:=by
 have hn:=RR _ (List.mem_of_getElem? h.name)
 have hs:=RQ _ (I0 h)
 obtain ⟨s,hs1,L_⟩:=h.ids
 have hm:=h.most;have hl:=h.least
 refine ⟨hn.1,by omega,by omega,by omega,hs.1,by rw [L_];simp,by rw [h.anchors];simp,by rw [h.anchors];decide,by rw [h.hashes];decide,?_,by rw [h.anchors];decide,by rw [h.hashes];exact e7⟩
 rw [L_];simp only [List.all_cons,List.all_nil,Z1 h.name rfl hs1,Bool.and_self]
theorem PY (h:UQ i e):e.fits:=by
 have hn:=RR _ (List.mem_of_getElem? h.name)
 obtain ⟨s,hs1,L_⟩:=h.ids
 refine ⟨by unfold maxLen;omega,fun x hx c hc=> ?_⟩
 rw [L_] at hx;simp at hx;subst hx;simp at hc;subst hc
 exact ⟨by show 4≤maxLen;unfold maxLen;omega,by show e.name.length≤maxLen;unfold maxLen;omega,fun n hn2=>by simp at hn2;subst hn2;unfold maxLen;omega⟩
theorem ON (h:UQ i e):e.small:=by
 have hs:=RQ _ (I0 h)
 obtain ⟨s,hs1,L_⟩:=h.ids
 refine ⟨by omega,by rw [h.anchors];simp,by rw [h.hashes];simp,by rw [L_];simp,fun x hx=> ?_⟩
 rw [L_] at hx;simp at hx;subst hx
 exact ⟨by simp,fun c hc=>by simp at hc;subst hc;simp⟩
theorem Z2:A0.fits:=fun c hc=>by cases hc
theorem rV {nm:List UInt8} (h:nm∈E8) {a b id key s:Int} (hab:(a=5∧b=2048)∨(a=7∧b=256)) (hid:0≤id∧id≤1000) (hs:0≤s∧s<4294967296) (hk:0≤key∧key≤2):Cs (Jg nm a b id 901 key s)=true:=by
 have hn:named nm=true:=by
  revert h;unfold E8;intro hm;simp at hm
  rcases hm with rfl|rfl|rfl<;>decide
 have hof:Gw a b 2=true:=by rcases hab with ⟨rfl,rfl⟩|⟨rfl,rfl⟩<;>decide+kernel
 refine Vw ⟨?_,?_,by show named [114,111,111,116]=true;decide,hn,?_,hof,?_,?_,by show Gw 3 0 1=true;decide+kernel,hk.1,?_,hs.1,hs.2,by show (0:Int)≤0;omega,by show (0:Int)≤901;omega,by show (901:Int)≤40000;omega,by show (0:Int)≤0;omega,by show (0:Int)≤8;omega,.inr rfl⟩
 · show 0≤id;omega
 · show id≤_;omega
 ·
  show Ej [nm]=true
  unfold Ej;rw [Bool.and_eq_true];refine ⟨Br.2 fun j hj=> ?_,by simp⟩
  have:j=0:=by simp at hj;omega
  subst this;unfold nameAt;simp [hn]
 · show 0≤id;omega
 · show id≤_;omega
 · show key≤_;omega
theorem rW {nm:List UInt8} {a b id:Int} (hab:(a=5∧b=2048)∨(a=7∧b=256)) (hid:0≤id∧id≤1000):(Jg nm a b id 901 0 0).W6:=
 ⟨by show id≤1099511627776;omega,by show id≤2147483648;omega,⟨by show (0:Int)≤a;omega,by show a≤40000;omega⟩,⟨by show (0:Int)≤b;omega,by show b≤40000;omega⟩,⟨by show (0:Int)≤3;omega,by show (3:Int)≤40000;omega⟩,⟨by show (0:Int)≤0;omega,by show (0:Int)≤40000;omega⟩⟩
structure wh (es:List CO) (c:BA):Prop where
 lo:0≤c.AJ
 hi:c.AJ<(es.length:Nat)
 kind:1≤c.kind∧c.kind≤12
 fits:c.Bj.fits
 small:c.Bj.small
abbrev kV (nm:List UInt8) (a b id to key:Int):Pr:=Cp.ex fun s:Int=>fact (0≤s∧s<4294967296) (Je [Jg nm a b id to key s])
theorem rX {nm:List UInt8} (h:nm∈E8) {a b id key s:Int}:(Gi nm a b id 901 key s).fits∧(Gi nm a b id 901 key s).small:=by
 have hn:=(RR _ h).2
 refine ⟨fun c hc=> ?_,⟨by simp,fun c hc=>by simp at hc;subst hc;simp⟩⟩
 simp at hc;subst hc
 exact ⟨by show 4≤maxLen;unfold maxLen;omega,by show nm.length≤maxLen;unfold maxLen;omega,fun n hn2=>by simp at hn2;subst hn2;unfold maxLen;omega⟩
structure CO.sz (e:CO) (n:Nat):Prop where
 name:e.name.length≤maxLen
 AG:e.AG.length≤n
 anchors:e.anchors.length≤n
 hashes:e.hashes.length≤n
 Ox:e.ids.length≤n
 ids:∀x∈e.ids,x.fits∧x.small
theorem CO.sz.fits (h:e.sz n):e.fits:=⟨h.name,fun x hx=>(h.ids x hx).1⟩
theorem CO.sz.small (h:e.sz n) (hn:n≤1000000):e.small:=⟨by have:=h.AG;omega,by have:=h.anchors;omega,by have:=h.hashes;omega,by have:=h.Ox;omega,fun x hx=>(h.ids x hx).2⟩
theorem CO.sz.le (h:e.sz n) (hn:n≤m):e.sz m:=⟨h.name,Nat.le_trans h.AG hn,Nat.le_trans h.anchors hn,Nat.le_trans h.hashes hn,Nat.le_trans h.Ox hn,h.ids⟩
theorem fA (h:UQ i e):e.sz 5:=by
 have hs:=RQ _ (I0 h)
 have h1:=PY h;have h2:=ON h
 obtain ⟨s,hs1,L_⟩:=h.ids
 exact ⟨h1.name,hs.2,by rw [h.anchors];simp,by rw [h.hashes];simp,by rw [L_];simp,fun x hx=>⟨h1.ids x hx,h2.ids x hx⟩⟩
theorem Mz {α:Type} {l:List α} {a:α}:(l.take i++[a]++l.drop i).length≤l.length+1:=by simp [List.length_take,List.length_drop];omega
theorem M4 {α:Type} {l:List α}:(l.eraseIdx i).length≤l.length:=by rw [List.length_eraseIdx];split<;>omega
theorem GS:A0.fits∧A0.small:=⟨Z2,C7⟩
theorem fB {P:D9→Prop} {l:List D9} {x:D9} (h:∀y∈l,P y) (hx:P x):∀y∈l.take i++[x]++l.drop i,P y:=by grind
theorem Vz {c:BA} {x:CO} {b:BA} (hc:EB c) (h:A_ e c= .ok (x,b)) (hs:e.sz n) (hi:c.Bj.fits∧c.Bj.small):x.sz (n+1)∧b.Bj.fits∧b.Bj.small:=by
 have h1:=hs.AG;have h2:=hs.anchors;have h3:=hs.hashes;have h4:=hs.Ox
 rcases My hc.1 with hk|hk|hk|hk|hk|hk|hk|hk|hk|hk|hk|hk
 · rw [Ho hk] at h;(repeat' (split at h))<;>first|(cases h;done)|(injection h with h;obtain ⟨rfl,rfl⟩:=Prod.mk.inj h;exact ⟨⟨hs.name,Nat.le_trans Mz AA,Nat.le_trans h2 AA,Nat.le_trans h3 AA,Nat.le_trans h4 AA,hs.ids⟩,GS⟩)
 · rw [Hq hk] at h;(repeat' (split at h))<;>first|(cases h;done)|(injection h with h;obtain ⟨rfl,rfl⟩:=Prod.mk.inj h;exact ⟨⟨hs.name,Nat.le_trans M4 AA,Nat.le_trans h2 AA,Nat.le_trans h3 AA,Nat.le_trans h4 AA,hs.ids⟩,GS⟩)
 · rw [Hr hk] at h;(repeat' (split at h))<;>first|(cases h;done)|(injection h with h;obtain ⟨rfl,rfl⟩:=Prod.mk.inj h;exact ⟨⟨hs.name,Nat.le_trans h1 AA,Nat.le_trans h2 AA,Nat.le_trans h3 AA,Nat.le_trans h4 AA,hs.ids⟩,GS⟩)
 · rw [Hs hk] at h;(repeat' (split at h))<;>first|(cases h;done)|(injection h with h;obtain ⟨rfl,rfl⟩:=Prod.mk.inj h;exact ⟨⟨hs.name,Nat.le_trans h1 AA,Nat.le_trans h2 AA,Nat.le_trans h3 AA,Nat.le_trans h4 AA,hs.ids⟩,GS⟩)
 · rw [Ht hk] at h;(repeat' (split at h))<;>first|(cases h;done)|(injection h with h;obtain ⟨rfl,rfl⟩:=Prod.mk.inj h;exact ⟨⟨hs.name,Nat.le_trans h1 AA,Nat.le_trans h2 AA,Nat.le_trans h3 AA,Nat.le_trans Mz AA,fB hs.ids hi⟩,GS⟩)
 · rw [Hu hk] at h;(repeat' (split at h))<;>first|(cases h;done)|(injection h with h;obtain ⟨rfl,rfl⟩:=Prod.mk.inj h;exact ⟨⟨hs.name,Nat.le_trans h1 AA,Nat.le_trans h2 AA,Nat.le_trans h3 AA,Nat.le_trans M4 AA,fun y hy=>hs.ids y (List.mem_of_mem_eraseIdx hy)⟩,hs.ids _ (List.mem_of_getElem? DE)⟩)
 · rw [Hv hk] at h;(repeat' (split at h))<;>first|(cases h;done)|(injection h with h;obtain ⟨rfl,rfl⟩:=Prod.mk.inj h;exact ⟨⟨hs.name,Nat.le_trans h1 AA,Nat.le_trans Mz AA,Nat.le_trans h3 AA,Nat.le_trans h4 AA,hs.ids⟩,GS⟩)
 · rw [Hw hk] at h;(repeat' (split at h))<;>first|(cases h;done)|(injection h with h;obtain ⟨rfl,rfl⟩:=Prod.mk.inj h;exact ⟨⟨hs.name,Nat.le_trans h1 AA,Nat.le_trans M4 AA,Nat.le_trans h3 AA,Nat.le_trans h4 AA,hs.ids⟩,GS⟩)
 · rw [Hx hk] at h;(repeat' (split at h))<;>first|(cases h;done)|(injection h with h;obtain ⟨rfl,rfl⟩:=Prod.mk.inj h;exact ⟨⟨hs.name,Nat.le_trans h1 AA,Nat.le_trans h2 AA,Nat.le_trans Mz AA,Nat.le_trans h4 AA,hs.ids⟩,GS⟩)
 · rw [GN hk] at h;(repeat' (split at h))<;>first|(cases h;done)|(injection h with h;obtain ⟨rfl,rfl⟩:=Prod.mk.inj h;exact ⟨⟨hs.name,Nat.le_trans h1 AA,Nat.le_trans h2 AA,Nat.le_trans M4 AA,Nat.le_trans h4 AA,hs.ids⟩,GS⟩)
 · rw [GO hk] at h;(repeat' (split at h))<;>first|(cases h;done)|(injection h with h;obtain ⟨rfl,rfl⟩:=Prod.mk.inj h;exact ⟨⟨hs.name,Nat.le_trans h1 AA,Nat.le_trans h2 AA,Nat.le_trans h3 AA,Nat.le_trans h4 AA,hs.ids⟩,GS⟩)
 · rw [GP hk] at h;(repeat' (split at h))<;>first|(cases h;done)|(injection h with h;obtain ⟨rfl,rfl⟩:=Prod.mk.inj h;exact ⟨⟨hs.name,Nat.le_trans h1 AA,Nat.le_trans h2 AA,Nat.le_trans h3 AA,Nat.le_trans h4 AA,hs.ids⟩,GS⟩)
theorem V0 {c:BA} {x:CO} {b:BA} (h:Bh e c=(x,b,0)) (hs:e.sz n) (hi:c.Bj.fits∧c.Bj.small):x.sz (n+1)∧b.Bj.fits∧b.Bj.small:=by
 obtain ⟨_,h2,h3,_⟩:=JO h
 exact Vz h2 h3 hs hi
theorem Z3 {β:Type} {p:β→Bool} {l:List β} {x:β} (h:l[k]? =some x):idx p (l.take (k+1))=if idx p (l.take k)<0 then (if p x=true then (k:Int) else -1) else idx p (l.take k):=by
 have hk:=Ar h
 rw [List.take_add_one,h]
 have hl:(l.take k).length=k:=by rw [List.length_take];omega
 show idx p (l.take k++[x])=_
 generalize l.take k=a at hl ⊢
 unfold idx
 rw [List.findIdx?_append]
 cases ha:a.findIdx? p with
 |some i=>simp;intro h3;omega
 |none=>cases hp:p x<;>simp [hp,hl]
theorem W8 {β:Type} {p:β→Bool} {l:List β} {x:β} (h:l[k]? =some x):(((l.take (k+1)).countP p:Nat):Int)=((l.take k).countP p:Nat)+(if p x=true then 1 else 0):=by
 rw [List.take_add_one,h]
 show (((l.take k++[x]).countP p:Nat):Int)=_
 rw [List.countP_append,List.countP_singleton];split<;>simp_all
theorem K0 {β:Type} {p:β→Bool} {l:List β}:idx p l<0↔l.countP p=0:=by
 unfold idx
 cases h:l.findIdx? p with
 |none=>
  rw [List.findIdx?_eq_none_iff] at h
  simp only [show ((none:Option Nat).map fun n=>(n:Int)).getD (-1)= -1 from rfl]
  constructor
  · intro _;rw [List.countP_eq_zero];intro a ha;rw [h a ha];decide
  · intro _;decide
 |some i=>
  rw [List.findIdx?_eq_some_iff_getElem] at h
  obtain ⟨h1,h2,_⟩:=h
  constructor
  · intro h3;exfalso;revert h3;simp
  · intro h3;rw [List.countP_eq_zero] at h3;exact absurd h2 (h3 _ (List.getElem_mem h1))
theorem fC {β:Type} {p:β→Bool} {l:List β} (h:l.length≤n):(l.take k).countP p≤n:=Nat.le_trans List.countP_le_length (Nat.le_trans Jj h)
theorem bsX {n x:Int} (h:∀(j:Nat) y,j<k→l[j]? =some y→y<n) (hx:l[k]? =some x) (hlt:x<n):∀(j:Nat) y,j<k+1→l[j]? =some y→y<n:=by grind
def HC (id:Int) (x:D9):Bool:=x.BB==id
def FQ (id:Int) (l:List D9):Int:=((l.countP (HC id):Nat):Int)
theorem GC (id:Int) (l:List D9):Ag id l=idx (HC id) l:=rfl
theorem W9 {id:Int} {l:List D9} {x:D9} (h:l[k]? =some x):FQ id (l.take (k+1))=FQ id (l.take k)+(if x.BB=id then 1 else 0):=by grind [FQ,W8,HC]
theorem Ss {id:Int} {l:List D9} {x:D9} (h:l[k]? =some x):Ag id (l.take (k+1))=if FQ id (l.take k)=0 then (if x.BB=id then (k:Int) else -1) else Ag id (l.take k):=by grind [GC,Z3,K0,HC,FQ,idx]
theorem Su {id:Int} {l:List D9} (h:FQ id l=0):Ag id l= -1:=by
 have h2:=(K0 (p:=HC id) (l:=l)).2 (by unfold FQ at h;omega)
 rw [GC];unfold idx at h2 ⊢
 cases h3:l.findIdx? (HC id) with
 |none=>rfl
 |some i=>rw [h3] at h2;simp at h2;omega
def Gn (e:CO) (k:Int):Int×Bool:=if k=3 then (e.most,true) else if k=4 then (e.least,true) else if k=11 then (Ca e.E_,true) else if k=12 then (Ca e.own,true) else (0,false)
def FY (e:CO) (k:Int):List Int×Bool×Bool:=
 if k=1∨k=2 then (e.AG,decide (k=1),true) else if k=7∨k=8 then (e.anchors,decide (k=7),true) else if k=9∨k=10 then (e.hashes,decide (k=9),true) else ([],false,false)
theorem Oz (x:D9):decide (x=A0)=MD x:=by
 rw [Bool.eq_iff_iff,decide_eq_true_eq];unfold MD A0
 cases x;simp only [D9.mk.injEq,Bool.and_eq_true,decide_eq_true_eq,beq_iff_eq,and_assoc]
 constructor
 · rintro ⟨h1,h2,h3,h4⟩;exact ⟨h1,h2,h3,by simp [h4]⟩
 · rintro ⟨h1,h2,h3,h4⟩;exact ⟨h1,h2,h3,List.eq_nil_of_length_eq_zero AA⟩
theorem Hy {n:Int}:Ay prog 218 [ints l,int n] (int (idx (fun y=>n==y) l)):=by
 refine fo func218 rfl ⟨rfl,rfl⟩ fun M0 w0=>(Tr.Ed 0 rfl fun Fh=> ?_)
 refine a2 ?_
 refine Tr.block (Tr.Bc _ (kk [8,7,1] rfl) (fun k:Nat=>[(9,int ((k:Nat):Int))]) (fun k:Nat=>k≤(l).length∧(∀j y,j<k→l[j]? =some y→(n==y)=false)) (fun k:Nat=>(l).length-k) 0 (⟨Nat.zero_le _,fun j y hj=>absurd hj AA⟩) kz ?_)
 rintro k ⟨Be,AU⟩
 refine ac ?_
 refine Tr.seq ?_
 refine Tr.cn rfl ?_ ?_<;>intro h1 q1
 have Ae:k<(l).length:=AV h1
 obtain ⟨x,Af⟩:=at_ Ae
 · repeat' first|(exact int_eq (FN (p:=fun y=>n==y) Af CK AU))|(exact Fin.AQ (k+1) ⟨⟨Ae,Dc (p:=fun y=>n==y) Af CK AU⟩,by omega⟩ ⟨⟨_,rfl,AO k⟩,kz⟩)|refine co rfl (AD rfl underlying22 DC vq vq AA DP) ?_|refine ac ?_|(refine Tr.cn rfl ?_ ?_<;>intro h q)
 have BM:k=(l).length:=by have:=AW h1;omega
 subst BM
 refine a3 ?_
 · exact int_eq (KY (p:=fun y=>n==y) AU)
theorem Ll {id:Int} (hl:e.ids.length≤1000000):Ay prog 220 [agg (Am e),int id] (D_ [int (FQ id e.ids),int (Ag id e.ids)]):=by
 refine fo func220 rfl ⟨rfl,rfl⟩ fun M0 w0=> ?_
 refine a3 ?_
 refine Tr.block (Tr.Bc _ (kk [12,11,1] rfl) (fun k:Nat=>[(13,int ((k:Nat):Int)),(6,int (FQ id (e.ids.take k))),(7,int (Ag id (e.ids.take k)))]) (fun k:Nat=>k≤(e.ids).length) (fun k:Nat=>(e.ids).length-k) 0 (Nat.zero_le _) ⟨kq,⟨_,rfl,int_eq rfl⟩,⟨_,rfl,int_eq rfl⟩,trivial⟩ ?_)
 rintro k Be
 refine ac ?_
 refine Tr.seq ?_
 refine Tr.cn rfl ?_ ?_<;>intro h1 q1
 have Ae:k<(e.ids).length:=AV h1
 obtain ⟨x,Af⟩:=at_ Ae
 have hc:=W9 (id:=id) Af
 have hi:=Ss (id:=id) Af
 have bX:0≤FQ id (e.ids.take k)∧FQ id (e.ids.take k)≤1000000:=⟨by unfold FQ;omega,by have:=fC (p:=HC id) (k:=k) hl;unfold FQ;omega⟩
 have h0:=Su (id:=id) (l:=e.ids.take k)
 refine ac ?_
 refine ao ?_
 refine tp rfl (AD rfl underlying77 Bl vq vq AA DP) ?_
 refine tp rfl (AX rfl Fe Bl vq rfl rfl) ?_
 refine Tl rfl rfl rfl rfl LW Js (fun b1=> ?_)
 refine tm rfl ?_
 refine sf 0 9 ⟨rfl,rfl,rfl⟩ rfl rfl rfl rfl ?_
 refine ao ?_
 · repeat' first|exact Fin.AQ (k+1) ⟨Ae,by omega⟩ ⟨⟨_,rfl,AO k⟩,⟨_,rfl,int_eq Cc⟩,⟨_,rfl,int_eq Cc⟩,kz⟩|refine ac ?_|(refine Tr.cn rfl ?_ ?_<;>intro h q)
 have BM:k=(e.ids).length:=by have:=AW h1;omega
 subst BM
 rw [List.take_length]
 refine a2 ?_
 refine Tr.ret (Fin.EJ rfl (Cd.F_ _ _) rfl ?_ rfl ?_)
 · exact Lr
 · exact Lr
theorem Sv {b:Bool}  :Ay prog 287 [bool b] (int (Ca b)):=by
 refine fo func287 rfl ⟨rfl,rfl⟩ fun M0 w0=> ?_
 · repeat' first|exact int_eq (by simp_all [Ca])|refine ac ?_|(refine Tr.cn rfl ?_ ?_<;>intro h q)
theorem UR {k:Int}:Ay prog 219 [agg (Am e),int k] (D_ [int (Gn e k).1,bool (Gn e k).2]):=by
 refine fo func219 rfl ⟨rfl,rfl⟩ fun M0 w0=> ?_
 refine a2 ?_
 refine an ?_ ?_<;>intro h1 q1
 refine ac ?_
 refine Tr.ret (Fin.Bb (Fin.AL (Fin.EJ rfl (Cd.F_ _ _) rfl ?_ rfl ?_)))
 · exact KW
 · exact KV
 refine an ?_ ?_<;>intro h2 q2
 refine ac ?_
 refine Tr.ret (Fin.Bb (Fin.AL (Fin.EJ rfl (Cd.F_ _ _) rfl ?_ rfl ?_)))
 · exact KW
 · exact KV
 refine an ?_ ?_<;>intro h3 q3
 refine ac ?_
 refine co rfl (Bn (Sv) rfl rfl) ?_
 refine ac ?_
 refine wk [5,4] rfl (Tr.ret (Fin.Bb (Fin.AL (Fin.EJ rfl (Cd.F_ _ _) rfl ?_ rfl ?_))))
 · exact KW
 · exact KV
 refine an ?_ ?_<;>intro h4 q4
 refine ac ?_
 refine co rfl (Bn (Sv) rfl rfl) ?_
 refine ac ?_
 refine wk [5,4] rfl (Tr.ret (Fin.Bb (Fin.AL (Fin.EJ rfl (Cd.F_ _ _) rfl ?_ rfl ?_))))
 · exact KW
 · exact KV
 refine a2 ?_
 refine wk [5,4] rfl (Tr.ret (Fin.EJ rfl (Cd.F_ _ _) rfl ?_ rfl ?_))
 · exact KW
 · exact KV
theorem W_ {c:BA} (hcs:c.Bj.small):Ay prog 216 [agg (A9 c)] (bool (decide (EB c))):=by
 refine fo func216 rfl ⟨rfl,rfl⟩ fun M0 w0=> ?_
 refine ac ?_
 refine ac ?_
 refine co rfl (Ad rfl (UM (a:=c.Bj) (b:=A0) hcs) ⟨kq,⟨_,rfl,BP ⟨Lr,Lr,Lr,AH 15,trivial⟩⟩,trivial⟩) ?_
 refine ac ?_
 refine ac ?_
 refine ac ?_
 refine Tr.cn rfl ?_ ?_<;>intro h1 q1
 refine ac ?_
 refine ac ?_
 · exact P0
 refine ac ?_
 refine Tr.cn rfl ?_ ?_<;>intro h2 q2
 refine ac ?_
 refine wk [2] rfl ?_
 refine ac ?_
 · exact P0
 refine ac ?_
 refine ac ?_
 refine Ch.cs 21 rfl ?_ ?_<;>intro h3 q3
 refine ac ?_
 refine Ch.cs 26 rfl ?_ ?_<;>intro h4 q4
 refine ac ?_
 refine Ch.cs 29 rfl ?_ ?_<;>intro h5 q5
 refine ac ?_
 refine wk [2] rfl ?_
 refine ac ?_
 · exact P0
 refine ac ?_
 refine wk [2] rfl ?_
 refine ac ?_
 · exact P0
 refine ac ?_
 refine wk [2] rfl ?_
 refine ac ?_
 · exact X2
 refine ac ?_
 refine wk [2] rfl ?_
 refine ac ?_
 · exact X2
theorem Sw {k:Int}:Ay prog 217 [agg (Am e),int k] (D_ [ints (FY e k).1,bool (FY e k).2.1,bool (FY e k).2.2]):=by
 refine fo func217 rfl ⟨rfl,rfl⟩ fun M0 w0=> ?_
 refine a2 ?_
 refine an ?_ ?_<;>intro h1 q1
 refine ac ?_
 refine Tr.cond rfl (fun _=> ?_) (fun h=>nomatch h1.symm.trans h)
 refine ac ?_
 refine wk [6,5,4] rfl (Tr.ret (Fin.Bb (Fin.AL (Fin.Tf rfl (Cd.F_ _ _) rfl ?_ rfl ?_ rfl ?_))))
 · exact I3
 · exact Ew
 · exact Ew
 refine an ?_ ?_<;>intro h2 q2
 refine ac ?_
 refine wk [6,5,4] rfl (Tr.ret (Fin.Bb (Fin.AL (Fin.Tf rfl (Cd.F_ _ _) rfl ?_ rfl ?_ rfl ?_))))
 · exact I3
 · exact Ew
 · exact Ew
 refine an ?_ ?_<;>intro h3 q3
 refine ac ?_
 refine Tr.cond rfl (fun _=> ?_) (fun h=>nomatch h3.symm.trans h)
 refine ac ?_
 refine wk [6,5,4] rfl (Tr.ret (Fin.Bb (Fin.AL (Fin.Tf rfl (Cd.F_ _ _) rfl ?_ rfl ?_ rfl ?_))))
 · exact I3
 · exact Ew
 · exact Ew
 refine an ?_ ?_<;>intro h4 q4
 refine ac ?_
 refine wk [6,5,4] rfl (Tr.ret (Fin.Bb (Fin.AL (Fin.Tf rfl (Cd.F_ _ _) rfl ?_ rfl ?_ rfl ?_))))
 · exact I3
 · exact Ew
 · exact Ew
 refine ac ?_
 refine wk [22,7,2,1] rfl ?_
 refine Tr.cn rfl ?_ ?_<;>intro h5 q5
 refine ac ?_
 refine Tr.cond rfl (fun _=> ?_) (fun h=>nomatch h5.symm.trans h)
 refine ac ?_
 refine Tr.ret (Fin.Bb (Fin.AL (Fin.Tf rfl (Cd.F_ _ _) rfl ?_ rfl ?_ rfl ?_)))
 · exact I3
 · exact Ew
 · exact Ew
 refine an ?_ ?_<;>intro h6 q6
 refine ac ?_
 refine Tr.ret (Fin.Bb (Fin.AL (Fin.Tf rfl (Cd.F_ _ _) rfl ?_ rfl ?_ rfl ?_)))
 · exact I3
 · exact Ew
 · exact Ew
 refine a2 ?_
 refine Tr.ret (Fin.Tf rfl (Cd.F_ _ _) rfl ?_ rfl ?_ rfl ?_)
 · exact Pr.le_trans (AH 1) (Pr.le_of_eq (by rw [show (FY e k).1=[] by simp_all [FY]];rfl))
 · exact Ew
 · exact Ew
theorem Lm {n:Int} (hi:i≤l.length) (hl:l.length≤1000000):Ay prog 221 [ints l,int ((i:Nat):Int),int n] (ints (l.take i++[n]++l.drop i)):=by
 refine fo func221 rfl ⟨rfl,rfl⟩ fun M0 w0=> ?_
 have hml:(l.map fun n:Int=>[int n]).length=l.length:=List.length_map _
 refine ac ?_
 refine ap ?_
 refine tp rfl (Eh rfl underlying22 DC vq vq AA AA) (TO.pad ?_)
 refine TO.Fw 0 rfl rfl AB (G3 rfl rfl AB rfl underlying22 DC S9 z3 rfl AB ⟨_,rfl,AH _⟩ vq Pu Pw (B9 Bt ⟨_,rfl,EI 1⟩)) (fun v1=> ?_)
 refine ap ?_
 refine ap ?_
 refine TO.Fw 0 rfl rfl AB (Dy rfl rfl rfl rfl underlying22 DC S9 z3 L9 E9 (CY Bt Er)) (fun v2=> ?_)
 refine ap ?_
 refine ap ?_
 refine tp rfl (DB rfl underlying22 DC vq vq AA AA) ?_
 refine TO.Fw 0 rfl rfl AB (Dy rfl rfl rfl rfl underlying22 DC S9 z3 L9 vq (CY Bt Er)) (fun v3=> ?_)
 refine ap ?_
 refine wk [6] rfl ?_
 refine ac ?_
 · exact Pr.le_trans (BF _ _) (Pr.le_of_eq (by show _=slice 1 ((l.take i++[n]++l.drop i).map fun n=>[int n]);simp [List.map_take,List.map_drop]))
theorem Hz (hi:i<l.length) (hl:l.length≤1000000):Ay prog 222 [ints l,int ((i:Nat):Int)] (ints (l.eraseIdx i)):=by
 refine fo func222 rfl ⟨rfl,rfl⟩ fun M0 w0=> ?_
 have hml:(l.map fun n:Int=>[int n]).length=l.length:=List.length_map _
 refine ac ?_
 refine ap ?_
 refine tp rfl (Eh rfl underlying22 DC vq vq AA AA) (TO.pad ?_)
 refine TO.Fw 0 rfl rfl AB (G3 rfl rfl AB rfl underlying22 DC S9 z3 rfl AB ⟨_,rfl,AH _⟩ vq Pu Pw (B9 Bt ⟨_,rfl,EI 1⟩)) (fun v1=> ?_)
 refine ap ?_
 refine ap ?_
 refine tp rfl (DB rfl underlying22 DC vq vq AA AA) ?_
 refine TO.Fw 0 rfl rfl AB (Dy rfl rfl rfl rfl underlying22 DC S9 z3 L9 vq (CY Bt Er)) (fun v2=> ?_)
 refine ap ?_
 refine ac ?_
 · exact Pr.le_trans (BF _ _) (Pr.le_of_eq (by rw [List.eraseIdx_eq_take_drop_succ];show _=slice 1 ((l.take i++l.drop (i+1)).map fun n=>[int n]);simp [List.map_take,List.map_drop,show (((i:Nat):Int)+1).toNat=i+1 by omega]))
theorem MF {n:Int} (hl:l.length≤1000000):Ay prog 223 [ints l,int n] (ints (Fj l n)):=by
 refine fo func223 rfl ⟨rfl,rfl⟩ fun M0 w0=>(Tr.Ed 0 rfl fun Fh=> ?_)
 refine a2 ?_
 refine Tr.seq (Tr.block (Tr.Bc _ (kk [1,0] rfl) (fun k:Nat=>[(5,int ((k:Nat):Int))]) (fun k:Nat=>k≤l.length∧(∀j y,j<k→l[j]? =some y→y<n)) (fun k:Nat=>l.length-k) 0 (⟨Nat.zero_le _,fun j y hj=>absurd hj AA⟩) kz ?_))
 rintro k ⟨Be,hinv⟩
 refine ag ?_ ?_<;>intro h1 q1
 obtain ⟨x,hx⟩:=at_ (l:=l) (k:=k) AA
 refine ac ?_
 refine cy h1 rfl (AD rfl underlying22 DC vq vq AA (Ak hx)) ?_
 refine ac ?_
 refine wk [17,5,1,0] rfl ?_
 refine Tr.cn rfl ?_ ?_<;>intro h2 q2
 have hq:=h2
 refine a2 ?_
 exact Fin.AQ (k+1) ⟨⟨by omega,bsX hinv hx (by simpa using hq)⟩,by omega⟩ ⟨⟨_,rfl,AO k⟩,kz⟩
 have hp:B5 l n=k:=JL Be hinv (fun y hy=>by have h_:=h2;rw [hx] at hy;cases hy;simpa using h_)
 refine a2 ?_
 refine co rfl (Ad rfl (Lm (l:=l) (i:=B5 l n) (Hh _ _) hl) ⟨kq,⟨_,rfl,int_eq AA⟩,kz⟩) ?_
 refine a2 ?_
 · exact Lr
 have hp:B5 l n=k:=JL Be hinv (fun y hy=>by have:=Ar hy;have:=q1;omega)
 refine ac ?_
 refine wk [17,5,1,0] rfl ?_
 refine a2 ?_
 refine co rfl (Ad rfl (Lm (l:=l) (i:=B5 l n) (Hh _ _) hl) ⟨kq,⟨_,rfl,int_eq AA⟩,kz⟩) ?_
 refine a2 ?_
 · exact Lr
def S6 (e:CO) (c:BA):Int:=
 if CA e=false then 19 else if ¬EB c then 40
 else if c.kind=1∧(c.at_<0∨(e.AG.length:Int)<c.at_) then 2
 else if c.kind=5∧(c.at_<0∨(e.ids.length:Int)<c.at_) then 2
 else if (c.kind=11∨c.kind=12)∧(c.number≠0∧c.number≠1) then 2
 else if (FY e c.kind).2.2=true∧decide (0≤idx (fun y=>c.number==y) (FY e c.kind).1)=(FY e c.kind).2.1 then 41
 else if (Gn e c.kind).2=true∧(Gn e c.kind).1=c.number then 41
 else if c.kind=5∧0<FQ c.Bj.BB e.ids then 41
 else if c.kind=6∧FQ c.number e.ids=0 then 41
 else if c.kind=6∧1<FQ c.number e.ids then 5 else 0
theorem RS (hs:Fi l) {n:Int}:idx (fun y=>n==y) l=if CE l n=true then ((B5 l n:Nat):Int) else -1:=by
 by_cases h:CE l n=true
 ·
  rw [if_pos h]
  obtain ⟨y,hy⟩:=at_ (Hj h)
  have hyn:y=n:=by grind
  exact (FN (p:=fun y=>n==y) hy (by simp [hyn]) (fun j z hj hz=>by have:=Kw hj hz;simp;omega)).symm
 ·
  rw [if_neg h]
  refine (KY (p:=fun y=>n==y) (fun j z hj hz=> ?_)).symm
  simp only [beq_eq_false_iff_ne,ne_eq]
  intro hn;subst hn
  rcases Nat.lt_trichotomy j (B5 l n) with h1|h1|h1
  · have:=Kw h1 hz;omega
  · grind
  ·
   obtain ⟨y,hy⟩:=at_ (l:=l) (k:=B5 l n) (by have:=Ar hz;omega)
   have h2:=Vm hy
   have h3:=Mu hs h1 hy hz
   omega
theorem fD {l:List D9} {n:Int} {x:D9} (h0:¬Ag n l<0) (hx:l[(Ag n l).toNat]? =some x):(1<FQ n l)↔((l.drop (Ag n l+1).toNat).any fun x=>x.BB==n)=true:=by
 obtain ⟨y,hy,hp,hlt⟩:=Gg (p:=HC n) (l:=l) (by rw [←GC];omega)
 rw [←GC] at hy hlt
 have hsplit:l=l.take (Ag n l).toNat++y::l.drop ((Ag n l).toNat+1):=by
  rw [List.getElem?_eq_getElem hlt] at hy;cases hy
  rw [List.getElem_cons_drop];exact (List.take_append_drop _ _).symm
 have h1:(l.take (Ag n l).toNat).countP (HC n)=0:=by
  refine K0.1 (Int.not_le.1 fun h2=> ?_)
  obtain ⟨z,hz,hzp,hzl⟩:=Gg h2
  have e1:Ag n l=idx (HC n) (l.take (Ag n l).toNat):=by
   obtain ⟨i,hi⟩:∃i:Nat,idx (HC n) (l.take (Ag n l).toNat)=(i:Int):=⟨_,(Int.toNat_of_nonneg h2).symm⟩
   have h3:((l.take (Ag n l).toNat).findIdx? (HC n))=some i:=by
    unfold idx at hi;cases h4:(l.take (Ag n l).toNat).findIdx? (HC n) with
    |none=>rw [h4] at hi;simp at hi
    |some k=>rw [h4] at hi;rw [show k=i by simp at hi;omega]
   have h5:l.findIdx? (HC n)=some i:=by grind
   have e2:idx (HC n) l=(i:Int):=by unfold idx;rw [h5]
   exact e2.trans hi.symm
  rw [←e1] at hzl;rw [List.length_take] at hzl;omega
 have h2:l.countP (HC n)=1+(l.drop ((Ag n l).toNat+1)).countP (HC n):=by grind
 unfold FQ;rw [h2,show (Ag n l+1).toNat=(Ag n l).toNat+1 by omega]
 show _↔(List.any _ (HC n))=true
 rw [List.any_eq_true,←List.countP_pos_iff];omega
theorem fE {n:Int}:decide (0≤idx (fun y=>n==y) l)=l.any fun y=>n==y:=Kr _ _
theorem M6 (hs:Fi l) {n:Int}:decide (0≤idx (fun y=>n==y) l)=CE l n:=by
 rw [RS hs];cases CE l n<;>simp
theorem Sx {c:BA} (hce:CA e=true) (hc:EB c):S6 e c=match A_ e c with| .error f=>f| .ok _=>0:=by
 have ok:=CJ.1 hce
 have ha:=DO ok.eS;have hh:=DO ok.hash
 have hk:=hc.1
 unfold S6
 rw [if_neg (by rw [hce];decide),if_neg (not_not_intro hc)]
 have h0:c.kind=1∨c.kind=2∨c.kind=3∨c.kind=4∨c.kind=5∨c.kind=6∨c.kind=7∨c.kind=8∨c.kind=9∨c.kind=10∨c.kind=11∨c.kind=12:=by omega
 rcases h0 with h|h|h|h|h|h|h|h|h|h|h|h
 ·
  rw [Ho h];unfold FY Gn;simp only [h]
  by_cases h1:c.at_<0∨(e.AG.length:Int)<c.at_
  · grind
  ·
   have h2:0≤c.at_∧c.at_≤(e.AG.length:Int):=by omega
   have h3:=fE (l:=e.AG) (n:=c.number)
   have h4:(0≤idx (fun y=>c.number==y) e.AG)↔(e.AG.any fun y=>c.number==y)=true:=by rw [←h3,decide_eq_true_eq]
   by_cases h5:(e.AG.any fun y=>c.number==y)=true
   · grind
   · grind
 ·
  rw [Hq h];unfold FY Gn HB;simp only [h]
  by_cases h1:idx (fun y=>c.number==y) e.AG<0
  · simp [h1]
  · simp [h1]
 · rw [Hr h];unfold FY Gn;simp only [h];by_cases h1:e.most=c.number<;>simp [h1]
 · rw [Hs h];unfold FY Gn;simp only [h];by_cases h1:e.least=c.number<;>simp [h1]
 ·
  rw [Ht h];unfold FY Gn;simp only [h]
  have kW:=K0 (p:=HC c.Bj.BB) (l:=e.ids)
  rw [←GC] at kW
  by_cases h1:c.at_<0∨(e.ids.length:Int)<c.at_
  · grind
  ·
   have h3:0≤c.at_∧c.at_≤(e.ids.length:Int):=by omega
   by_cases h2:0≤Ag c.Bj.BB e.ids
   ·
    have:0<FQ c.Bj.BB e.ids:=by unfold FQ;omega
    simp [h1,h2,h3,this]
   ·
    have:¬0<FQ c.Bj.BB e.ids:=by unfold FQ;omega
    simp [h1,h2,h3,this]
 ·
  rw [Hu h];unfold FY Gn;simp only [h]
  have kW:=K0 (p:=HC c.number) (l:=e.ids)
  rw [←GC] at kW
  by_cases h2:Ag c.number e.ids<0
  ·
   have:FQ c.number e.ids=0:=by unfold FQ;omega
   cases e.ids[(Ag c.number e.ids).toNat]? <;>simp [h2,this]
  ·
   have h3:¬FQ c.number e.ids=0:=by unfold FQ;omega
   obtain ⟨x,hx,_,_⟩:=Gg (p:=fun x:D9=>x.BB==c.number) (l:=e.ids) (by unfold Ag at h2;omega)
   have hx:e.ids[(Ag c.number e.ids).toNat]? =some x:=hx
   have hd:=fD h2 hx
   rw [hx];simp only [if_neg h2]
   by_cases h4:((e.ids.drop (Ag c.number e.ids+1).toNat).any fun x=>x.BB==c.number)=true
   · grind
   · grind
 ·
  rw [Hv h];unfold FY Gn;simp only [h]
  have h1:(0≤idx (fun y=>c.number==y) e.anchors)↔CE e.anchors c.number=true:=by rw [←M6 ha,decide_eq_true_eq]
  by_cases h2:CE e.anchors c.number=true
  · grind
  · grind
 ·
  rw [Hw h];unfold FY Gn;simp only [h]
  have h1:(0≤idx (fun y=>c.number==y) e.anchors)↔CE e.anchors c.number=true:=by rw [←M6 ha,decide_eq_true_eq]
  by_cases h2:CE e.anchors c.number=true
  · grind
  · grind
 ·
  rw [Hx h];unfold FY Gn;simp only [h]
  have h1:(0≤idx (fun y=>c.number==y) e.hashes)↔CE e.hashes c.number=true:=by rw [←M6 hh,decide_eq_true_eq]
  by_cases h2:CE e.hashes c.number=true
  · grind
  · grind
 ·
  rw [GN h];unfold FY Gn;simp only [h]
  have h1:(0≤idx (fun y=>c.number==y) e.hashes)↔CE e.hashes c.number=true:=by rw [←M6 hh,decide_eq_true_eq]
  by_cases h2:CE e.hashes c.number=true
  · grind
  · grind
 ·
  rw [GO h];unfold FY Gn;simp only [h]
  by_cases h1:0≤c.number∧c.number≤1
  · grind
  · grind
 ·
  rw [GP h];unfold FY Gn;simp only [h]
  by_cases h1:0≤c.number∧c.number≤1
  · grind
  · grind
theorem fF {c:BA} (h:S6 e c≠0):Bh e c=(BR,BO,S6 e c):=by grind [CA,S6,Bh,EB,Sx,A_,GA]
theorem kX {c:BA} (h:S6 e c=0):CA e=true∧EB c∧∃e2 b,A_ e c= .ok (e2,b):=by
 by_cases hce:CA e=false
 ·
  have:S6 e c=19:=by unfold S6;rw [if_pos hce]
  rw [this] at h;cases h
 ·
  by_cases hc:EB c
  ·
   have hce:CA e=true:=by simpa using hce
   have hs:=Sx hce hc
   cases h2:A_ e c with
   |error f=>
    rw [h2] at hs;rw [h] at hs
    have h3:(0:Int)=f:=hs
    have:=Sh hc h2;omega
   |ok r=>exact ⟨hce,hc,r.1,r.2,rfl⟩
  ·
   have:S6 e c=40:=by unfold S6;rw [if_neg hce,if_pos hc]
   rw [this] at h;cases h
def fG (n:Nat):Bool:=decide ((97≤n∧n≤122)∨(65≤n∧n≤90)∨(48≤n∧n≤57)∨n=45∨n=95∨n=46)
theorem US:∀n∈List.range 256,ER [45,95,46] (UInt8.ofNat n)=fG n:=by decide+kernel
theorem PZ (c:UInt8):ER [45,95,46] c=fG c.toNat:=by
 have h:=US c.toNat (List.mem_range.2 c.toNat_lt)
 rw [UInt8.ofNat_toNat] at h;exact h
theorem Z4:Ay prog 149 [str s] (bool (IY s)):=by
 refine fo func149 rfl ⟨rfl,rfl⟩ fun M0 w0=> ?_
 refine ac ?_
 refine ag ?_ ?_<;>intro h1 q1
 refine a3 ?_
 · exact U7
 refine an ?_ ?_<;>intro h2 q2
 refine a2 ?_
 · exact U7
 refine a2 ?_
 refine Tr.block (Tr.Bc _ (kk [0] rfl) (fun k:Nat=>[(3,int ((k:Nat):Int))]) (fun k:Nat=>k≤(s).length∧(∀j y,j<k→s[j]? =some y→(!ER [45,95,46] y)=false)) (fun k:Nat=>(s).length-k) 0 (⟨Nat.zero_le _,fun j y hj=>absurd hj AA⟩) kz ?_)
 rintro k ⟨Be,AU⟩
 refine an ?_ ?_<;>intro h3 q3
 have Ae:k<(s).length:=AV h3
 obtain ⟨c,Af⟩:=at_ Ae
 · repeat' first|(refine bool_eq ?_;unfold IY;rw [HY (p:=ER [45,95,46]) Af (by rw [PZ];unfold fG;simp;omega)];rfl)|(exact Fin.AQ (k+1) ⟨⟨Ae,Dc (p:=fun c=> !ER [45,95,46] c) Af (by rw [PZ];unfold fG;simp;omega) AU⟩,by omega⟩ ⟨⟨_,rfl,AO k⟩,kz⟩)|refine co rfl (Ml rfl underlying9 vq vq AA (Qr DE)) ?_|refine ac ?_|(refine Tr.cn rfl ?_ ?_<;>intro h q)|(refine Ch.cg rfl rfl rfl ?_ ?_<;>intro h q)
 have BM:k=(s).length:=by have:=AW h3;omega
 subst BM
 refine a3 ?_
 · refine bool_eq ?_;unfold IY;rw [E5 AU,Bool.true_and];symm;rw [decide_eq_true_eq];omega
theorem Cu {a b:Int}  :Ay prog 281 [int a,int b] (agg [int a,int b]):=by
 refine fo func281 rfl ⟨rfl,rfl⟩ fun M0 w0=>(Tr.seq (Tr.BL ?_))
 refine Tl rfl rfl rfl rfl JG Dm (fun b1=> ?_)
 refine ap ?_
 refine ap ?_
 refine Tr.ret (Fin.CF rfl (AR.cell 0 rfl rfl CG DH rfl Lr) ?_)
 · exact Lr
theorem CM {a l m x1 y1 x2 y2 x3 y3 x4 y4:Int}:Ay prog 282 [int a,str s,agg [int x1,int y1],agg [int x2,int y2],agg [int x3,int y3],agg [int x4,int y4],int l,int m] (agg Cg):=by
 refine fo func282 rfl ⟨rfl,rfl⟩ fun M0 w0=>(Tr.seq (Tr.BL ?_))
 iterate 4 refine tp rfl (BK rfl CS) ?_
 refine Tl rfl rfl rfl rfl Tv L7 (fun b1=> ?_)
 refine ap ?_
 refine Tr.seq (Tr.BL (tm rfl (tm rfl ?_)))
 iterate 4 refine tp rfl (AX rfl CG DH vq rfl rfl) ?_
 refine tm rfl (tm rfl (tp rfl (oD) (TO.re 25 (agg Cg) rfl (Co rfl) ?_)))
 refine ap ?_
 refine wk [16] rfl (Tr.ret (Fin.CF rfl (AR.cell 0 rfl rfl Ih GK rfl Lr) ?_))
 · exact Lr
theorem UT   :Ay prog 213 [] (slice 12 Ct):=by
 refine fo func213 rfl ⟨rfl,rfl⟩ fun M0 w0=> ?_
 refine ac ?_
 refine Tr.seq (Tr.BL (tp rfl (Cb (Cu) rfl rfl rfl) (tp rfl (Cb (Cu) rfl rfl rfl) (tp rfl (Ax (rows:=[]) rfl ij Dm trivial rfl) ?_))))
 refine Tl rfl rfl rfl rfl JG Dm (fun b1=> ?_)
 refine Tl rfl rfl rfl rfl JG Dm (fun b2=> ?_)
 refine Tl rfl rfl rfl rfl JG Dm (fun b3=> ?_)
 refine sf 2 1 ⟨rfl,rfl,rfl⟩ rfl rfl rfl rfl ?_
 refine sf 1 2 ⟨rfl,rfl,rfl⟩ rfl rfl rfl rfl ?_
 refine sf 0 3 ⟨rfl,rfl,rfl⟩ rfl rfl rfl rfl ?_
 refine ao ?_
 refine Tr.seq (Tr.BL (tp rfl (Cb (Cu) rfl rfl rfl) (tp rfl (Cb (Cu) rfl rfl rfl) ?_)))
 refine Tl rfl rfl rfl rfl JG Dm (fun b4=> ?_)
 refine Tl rfl rfl rfl rfl JG Dm (fun b5=> ?_)
 refine sf 1 4 ⟨rfl,rfl,rfl⟩ rfl rfl rfl rfl ?_
 refine sf 0 5 ⟨rfl,rfl,rfl⟩ rfl rfl rfl rfl ?_
 refine ao ?_
 refine wk [5,4,3,2,1] rfl (Tr.seq (Tr.BL (tp rfl (Cb (Cu) rfl rfl rfl) (tp rfl (Cb (Cu) rfl rfl rfl) (tp rfl (Cb (Cu) rfl rfl rfl) ?_)))))
 refine Tl rfl rfl rfl rfl JG Dm (fun b6=> ?_)
 refine Tl rfl rfl rfl rfl JG Dm (fun b7=> ?_)
 refine Tl rfl rfl rfl rfl JG Dm (fun b8=> ?_)
 refine sf 2 6 ⟨rfl,rfl,rfl⟩ rfl rfl rfl rfl ?_
 refine sf 1 7 ⟨rfl,rfl,rfl⟩ rfl rfl rfl rfl ?_
 refine sf 0 8 ⟨rfl,rfl,rfl⟩ rfl rfl rfl rfl ?_
 refine ao ?_
 refine wk [8,7,6,5,4,3,2,1] rfl (Tr.seq (Tr.BL ?_))
 iterate 4 refine tp rfl (Cb (Cu) rfl rfl rfl) ?_
 refine Tl rfl rfl rfl rfl JG Dm (fun b9=> ?_)
 refine Tl rfl rfl rfl rfl JG Dm (fun b10=> ?_)
 refine Tl rfl rfl rfl rfl JG Dm (fun b11=> ?_)
 refine Tl rfl rfl rfl rfl JG Dm (fun b12=> ?_)
 refine sf 3 9 ⟨rfl,rfl,rfl⟩ rfl rfl rfl rfl ?_
 refine sf 2 10 ⟨rfl,rfl,rfl⟩ rfl rfl rfl rfl ?_
 refine sf 1 11 ⟨rfl,rfl,rfl⟩ rfl rfl rfl rfl ?_
 refine sf 0 12 ⟨rfl,rfl,rfl⟩ rfl rfl rfl rfl ?_
 refine ao ?_
 refine wk [12,11,10,9,8,7,6,5,4,3,2,1] rfl (Tr.seq (Tr.BL (tp rfl (Cb (Cu) rfl rfl rfl) (tp rfl (Cb (Cu) rfl rfl rfl) ?_))))
 refine Tl rfl rfl rfl rfl JG Dm (fun b13=> ?_)
 refine Tl rfl rfl rfl rfl JG Dm (fun b14=> ?_)
 refine sf 1 13 ⟨rfl,rfl,rfl⟩ rfl rfl rfl rfl ?_
 refine sf 0 14 ⟨rfl,rfl,rfl⟩ rfl rfl rfl rfl ?_
 refine ao ?_
 refine wk [14,13,12,11,10,9,8,7,6,5,4,3,2,1] rfl ?_
 refine ac ?_
 refine co rfl (Ad rfl (CM) ⟨kq,kz⟩) ?_
 refine ac ?_
 refine co rfl (Ad rfl (CM) ⟨kq,kz⟩) ?_
 refine ac ?_
 refine co rfl (Ad rfl (CM) ⟨kq,kz⟩) (co rfl (Cb (Cu) rfl rfl rfl) (co rfl (Cb (Cu) rfl rfl rfl) ?_))
 refine ac ?_
 refine co rfl (Ad rfl (CM) ⟨kq,kz⟩) (co rfl (Cb (Cu) rfl rfl rfl) ?_)
 refine ac ?_
 refine co rfl (Ad rfl (CM) ⟨kq,kz⟩) ?_
 refine ac ?_
 refine co rfl (Ad rfl (CM) ⟨kq,kz⟩) (co rfl (Cb (Cu) rfl rfl rfl) ?_)
 refine ac ?_
 refine co rfl (Ad rfl (CM) ⟨kq,kz⟩) ?_
 refine ac ?_
 refine co rfl (Ad rfl (CM) ⟨kq,kz⟩) (co rfl (AX rfl CG DH vq rfl rfl) (co rfl (Cb (Cu) rfl rfl rfl) (co rfl (Cb (Cu) rfl rfl rfl) (co rfl (AX rfl CG DH vq rfl rfl) (co rfl (Ad rfl (CM) ⟨kq,kz⟩) ?_)))))
 refine ac ?_
 refine co rfl (Ad rfl (CM) ⟨kq,kz⟩) (co rfl (Cb (Cu) rfl rfl rfl) (co rfl (Cb (Cu) rfl rfl rfl) ?_))
 refine ac ?_
 refine co rfl (Ad rfl (CM) ⟨kq,kz⟩) ?_
 refine ac ?_
 refine co rfl (Ad rfl (CM) ⟨kq,kz⟩) ?_
 refine ac ?_
 refine co rfl (Ad rfl (CM) ⟨kq,kz⟩) ?_
 refine ac ?_
 refine co rfl (Ad rfl (CM) ⟨kq,kz⟩) ?_
 refine ac ?_
 refine co rfl (Ad rfl (CM) ⟨kq,kz⟩) (co rfl (Cb (Cu) rfl rfl rfl) ?_)
 refine ac ?_
 refine co rfl (Ad rfl (CM) ⟨kq,kz⟩) (co rfl (Ah (xs:=[.tmp 33,.tmp 38,.tmp 43,.tmp 48,.tmp 53,.tmp 58,.tmp 63,.tmp 68,.tmp 73,.tmp 78,.tmp 83,.tmp 88,.tmp 93,.tmp 98,.tmp 103,.tmp 108]) (rows:=Ct) rfl rfl underlying319 GK Tv rfl AB ⟨⟨Aq,VL.le vq (AY _)⟩,⟨⟨Aq,VL.le vq (AY _)⟩,⟨⟨Aq,VL.le vq (AY _)⟩,⟨⟨Aq,VL.le vq (AY _)⟩,⟨⟨Aq,VL.le vq (AY _)⟩,⟨⟨Aq,VL.le vq (AY _)⟩,⟨⟨Aq,VL.le vq (AY _)⟩,⟨⟨Aq,VL.le vq (AY _)⟩,⟨⟨Aq,VL.le vq (AY _)⟩,⟨⟨Aq,VL.le vq (AY _)⟩,⟨⟨Aq,VL.le vq (AY _)⟩,⟨⟨Aq,VL.le vq (AY _)⟩,⟨⟨Aq,VL.le vq (AY _)⟩,⟨⟨Aq,VL.le vq (AY _)⟩,⟨⟨Aq,VL.le vq (AY _)⟩,⟨⟨Aq,VL.le vq (AY _)⟩,trivial⟩⟩⟩⟩⟩⟩⟩⟩⟩⟩⟩⟩⟩⟩⟩⟩ AB) ?_)
 refine ac ?_
 refine wk [0] rfl ?_
 refine ac ?_
 · exact BC _ _
theorem XA {code:Int}  :Ay prog 150 [int code] (D_ [agg Cg,int (if 1≤code∧code≤16 then 0 else 8)]):=by
 refine fo func150 rfl ⟨rfl,rfl⟩ fun M0 w0=>(Tr.seq (Tr.BL ?_))
 refine Tl rfl rfl rfl rfl Tv L7 (fun b1=> ?_)
 refine ap ?_
 refine ag ?_ ?_<;>intro h1 q1
 refine ac ?_
 refine Tr.cond rfl (fun _=> ?_) (fun h=>nomatch h)
 refine Tr.seq (Tr.BL (tp rfl (Ax (rows:=[]) rfl Ye L7 trivial rfl) (TO.Ap 0 rfl rfl rfl vq CS rfl GK rfl rfl (tm rfl (TO.nil (Fin.go (Tr.ret (Fin.AL (Fin.Cj rfl (AR.cell 0 rfl rfl Ih GK rfl Lr) (AR.tmp rfl Lr) ?_)))))))))
 · exact U_
 refine an ?_ ?_<;>intro h2 q2
 refine ap ?_
 refine Tr.ret (Fin.AL (Fin.Cj rfl (AR.cell 0 rfl rfl Ih GK rfl Lr) (AR.tmp rfl Lr) ?_))
 · exact VB
 have hin:1≤code∧code≤16:=by omega
 refine ac ?_
 refine Tr.seq (Tr.BL (tp rfl (Qx (UT) rfl) ?_))
 refine ap ?_
 refine tp rfl (AD rfl underlying319 GK vq vq AA (SJ AA)) ?_
 refine ap ?_
 refine wk [3,2] rfl (Tr.ret (Fin.Cj rfl (AR.cell 0 rfl rfl Ih GK rfl Lr) (AR.tmp rfl Lr) ?_))
 · exact BT ⟨Lr,int_eq (by rw [if_pos hin]),trivial⟩
theorem Z5 {v:Int}:Ay prog 96 [ints l,int v] (bool (l.any fun x=>v==x)):=by
 refine fo func96 rfl ⟨rfl,rfl⟩ fun M0 w0=>(Tr.Ed 0 rfl fun Fh=> ?_)
 refine a2 ?_
 refine Tr.block (Tr.Bc _ (kk [1,0] rfl) (fun k:Nat=>[(5,int ((k:Nat):Int))]) (fun k:Nat=>k≤(l).length∧((l.take k).any (fun x=>v==x)=false)) (fun k:Nat=>(l).length-k) 0 (⟨Nat.zero_le _,rfl⟩) kz ?_)
 rintro k ⟨Be,AU⟩
 refine an ?_ ?_<;>intro h1 q1
 have Ae:k<(l).length:=AV h1
 obtain ⟨x,Af⟩:=at_ Ae
 · repeat' first|(refine bool_eq ?_;symm;rw [List.any_eq_true];exact ⟨_,List.mem_of_getElem? Af,by simp_all⟩)|(exact Fin.AQ (k+1) ⟨⟨Ae,VA⟩,by omega⟩ ⟨⟨_,rfl,AO k⟩,kz⟩)|refine co rfl (AD rfl underlying22 DC vq vq AA DP) ?_|refine ac ?_|(refine Tr.cn rfl ?_ ?_<;>intro h q)
 have BM:k=(l).length:=by have:=AW h1;omega
 subst BM
 refine a3 ?_
 · exact VE
theorem Cw {l:List (List UInt8)}:Ej l=true↔(∀j,j<l.length→nameAt l j=true)∧l.length≤8:=by unfold Ej;rw [Bool.and_eq_true,Br,decide_eq_true_eq]
theorem JS {l:List (List UInt8)} (hs:l[k]? =some s) (h1:named s=true) (h2:0<k→∃y,l[k-1]? =some y∧Lib.compareBytes y s= -1):nameAt l k=true:=by grind [nameAt]
theorem UU {c:Hf}  :Ay prog 93 [agg (DV c)] (int (if Cs c then 0 else 9)):=by
 refine fo func93 rfl ⟨rfl,rfl⟩ fun M0 w0=> ?_
 refine ac ?_
 refine ag ?_ ?_<;>intro h1 q1
 refine ac ?_
 refine wk [39,1] rfl ?_
 refine a2 ?_
 · exact IM
 refine ag ?_ ?_<;>intro h2 q2
 refine ac ?_
 refine wk [39,1] rfl ?_
 refine a2 ?_
 · exact IM
 refine ac ?_
 refine cy h2 rfl (Bn (F7) rfl rfl) ?_
 refine ag ?_ ?_<;>intro h3 q3
 refine ac ?_
 refine wk [39,1] rfl ?_
 refine a2 ?_
 · exact NJ
 refine ac ?_
 refine cy h3 rfl (Bn (F7) rfl rfl) ?_
 refine ag ?_ ?_<;>intro h4 q4
 refine ac ?_
 refine wk [39,1] rfl ?_
 refine a2 ?_
 · exact NJ
 refine ac ?_
 refine cy h4 rfl (Bn (Ir) rfl rfl) ?_
 refine ag ?_ ?_<;>intro h5 q5
 refine ac ?_
 refine wk [39,1] rfl ?_
 refine a2 ?_
 · exact NJ
 refine ag ?_ ?_<;>intro h6 q6
 refine ac ?_
 refine wk [39,1] rfl ?_
 refine a2 ?_
 · exact IM
 refine ac ?_
 refine wk [39,1] rfl ?_
 refine Tr.cn rfl ?_ ?_<;>intro h7 q7
 refine a2 ?_
 · exact IM
 refine a2 ?_
 refine co rfl (Bn (Ks) rfl rfl) ?_
 refine ag ?_ ?_<;>intro h8 q8
 refine ac ?_
 refine wk [67,1] rfl ?_
 refine a2 ?_
 · refine int_eq (if_neg (fun hv=> ?_)).symm;have vf:=IP hv;obtain ⟨TG,TH,NA,NB,IG,GD,TI,TJ,EW,NC,ND,NF,NG,TK,TL,TN,TP,TQ,TR⟩:=vf;have TS:=(Cw.1 IG).2;unfold Gw at GD EW;simp_all;omega
 refine ac ?_
 refine cy h8 rfl (Bn (Ms) rfl rfl) ?_
 refine ag ?_ ?_<;>intro h9 q9
 refine ac ?_
 refine wk [67,1] rfl ?_
 refine a2 ?_
 · exact NJ
 refine ag ?_ ?_<;>intro h10 SH
 refine ac ?_
 refine wk [67,1] rfl ?_
 refine a2 ?_
 · exact IM
 refine ag ?_ ?_<;>intro h11 T8
 refine ac ?_
 refine wk [67,1] rfl ?_
 refine a2 ?_
 · exact IM
 refine ac ?_
 refine wk [67,1] rfl ?_
 refine Tr.cn rfl ?_ ?_<;>intro h12 Ws
 refine a2 ?_
 · exact IM
 refine ac ?_
 refine ag ?_ ?_<;>intro Mo Xh
 refine ac ?_
 refine wk [91,1] rfl ?_
 refine a2 ?_
 · exact IM
 refine ag ?_ ?_<;>intro Lh ec
 refine ac ?_
 refine wk [91,1] rfl ?_
 refine a2 ?_
 · exact IM
 refine ag ?_ ?_<;>intro TE hO
 refine ag ?_ ?_<;>intro h16 kT
 refine ac ?_
 refine wk [91,1] rfl ?_
 refine a2 ?_
 · exact NJ
 refine ac ?_
 refine wk [91,1] rfl ?_
 refine Tr.cn rfl ?_ ?_<;>intro Oj dU
 refine a2 ?_
 · exact IM
 refine a2 ?_
 refine Tr.block (Tr.Bc _ (kk [1] rfl) (fun k:Nat=>[(3,int ((k:Nat):Int))]) (fun k:Nat=>k≤(c.names).length∧(∀j,j<k→nameAt c.names j=true)) (fun k:Nat=>(c.names).length-k) 0 (⟨Nat.zero_le _,fun j hj=>absurd hj AA⟩) kz ?_)
 rintro k ⟨Be,AU⟩
 refine an ?_ ?_<;>intro PI jw
 have Ae:k<(c.names).length:=AV PI
 obtain ⟨s,Af⟩:=at_ Ae
 refine a2 ?_
 refine co rfl (AD rfl underlying73 LV vq vq AA (Ak Af)) (co rfl (GX rfl Nq rfl) (co rfl (Bn (F7) rfl rfl) ?_))
 refine ag ?_ ?_<;>intro bI q19
 refine ac ?_
 refine wk [123,3,1] rfl ?_
 refine a2 ?_
 · exact Xl
 refine ag ?_ ?_<;>intro Ol q20
 have IJ:0<k:=by simpa using Ol
 obtain ⟨y,hy⟩:=at_ (l:=c.names) (k:=k-1) AA
 · repeat' first|(refine int_eq (if_neg (fun hv=> ?_)).symm;have vf:=IP hv;obtain ⟨TG,TH,NA,NB,IG,GD,TI,TJ,EW,NC,ND,NF,NG,TK,TL,TN,TP,TQ,TR⟩:=vf;have TS:=(Cw.1 IG).2;unfold Gw at GD EW;have nD:=(Cw.1 IG).1 k AA;unfold nameAt at nD;simp_all)|(exact Fin.AQ (k+1) ⟨⟨Ae,(fun j hj=>by rcases Nat.lt_or_eq_of_le (Nat.le_of_lt_succ hj) with h_|h_;exact AU j h_;(subst h_;refine JS Af Cc (fun h0=> ?_);exact ⟨y,hy,by simp_all⟩))⟩,by omega⟩ ⟨⟨_,rfl,AO k⟩,kz⟩)|(refine cy Ol rfl (AD rfl underlying73 LV vq vq AA Eu) ?_)|refine cy Ol rfl (AD rfl underlying73 LV vq vq AA (Ak Af)) (cy Ol rfl (GX rfl Nq rfl) (cy Ol rfl (J0 rfl vq vq) ?_))|refine ac ?_|(refine Tr.cn rfl ?_ ?_<;>intro h q)
 have IJ:¬0<k:=by simpa using Ol
 refine ac ?_
 refine wk [123,3,1] rfl ?_
 refine a2 ?_
 exact Fin.AQ (k+1) ⟨⟨Ae,(fun j hj=>by rcases Nat.lt_or_eq_of_le (Nat.le_of_lt_succ hj) with h_|h_;exact AU j h_;(subst h_;refine JS Af Cc (fun h0=> ?_);exact absurd h0 IJ))⟩,by omega⟩ ⟨⟨_,rfl,AO k⟩,kz⟩
 have BM:k=(c.names).length:=by have:=AW PI;omega
 subst BM
 · repeat' first|(refine int_eq (if_neg (fun hv=> ?_)).symm;have vf:=IP hv;obtain ⟨TG,TH,NA,NB,IG,GD,TI,TJ,EW,NC,ND,NF,NG,TK,TL,TN,TP,TQ,TR⟩:=vf;have TS:=(Cw.1 IG).2;unfold Gw at GD EW;omega)|(refine int_eq (if_pos (Vw ⟨by omega,by omega,by simp_all,by simp_all,Cw.2 ⟨AU,by omega⟩,by unfold Gw;simp_all,by omega,by omega,by unfold Gw;simp_all,by omega,by omega,by omega,by omega,by omega,by omega,by omega,by omega,by omega,by right;omega⟩)).symm)|refine ac ?_|(refine Tr.cn rfl ?_ ?_<;>intro h q)|(refine Ch.cg rfl rfl rfl ?_ ?_<;>intro h q)
 refine ac ?_
 refine wk [91,1] rfl ?_
 refine Tr.cn rfl ?_ ?_<;>intro h26 q26
 refine a2 ?_
 · exact IM
 refine a2 ?_
 refine Tr.block (Tr.Bc _ (kk [1] rfl) (fun k:Nat=>[(3,int ((k:Nat):Int))]) (fun k:Nat=>k≤(c.names).length∧(∀j,j<k→nameAt c.names j=true)) (fun k:Nat=>(c.names).length-k) 0 (⟨Nat.zero_le _,fun j hj=>absurd hj AA⟩) kz ?_)
 rintro k ⟨Be,AU⟩
 refine an ?_ ?_<;>intro m9 q27
 have Ae:k<(c.names).length:=AV m9
 obtain ⟨s,Af⟩:=at_ Ae
 refine a2 ?_
 refine co rfl (AD rfl underlying73 LV vq vq AA (Ak Af)) (co rfl (GX rfl Nq rfl) (co rfl (Bn (F7) rfl rfl) ?_))
 refine ag ?_ ?_<;>intro h28 q28
 refine ac ?_
 refine wk [123,3,1] rfl ?_
 refine a2 ?_
 · exact Xl
 refine ag ?_ ?_<;>intro Xj q29
 have IJ:0<k:=by simpa using Xj
 obtain ⟨y,hy⟩:=at_ (l:=c.names) (k:=k-1) AA
 · repeat' first|(refine int_eq (if_neg (fun hv=> ?_)).symm;have vf:=IP hv;obtain ⟨TG,TH,NA,NB,IG,GD,TI,TJ,EW,NC,ND,NF,NG,TK,TL,TN,TP,TQ,TR⟩:=vf;have TS:=(Cw.1 IG).2;unfold Gw at GD EW;have nD:=(Cw.1 IG).1 k AA;unfold nameAt at nD;simp_all)|(exact Fin.AQ (k+1) ⟨⟨Ae,(fun j hj=>by rcases Nat.lt_or_eq_of_le (Nat.le_of_lt_succ hj) with h_|h_;exact AU j h_;(subst h_;refine JS Af Cc (fun h0=> ?_);exact ⟨y,hy,by simp_all⟩))⟩,by omega⟩ ⟨⟨_,rfl,AO k⟩,kz⟩)|(refine cy Xj rfl (AD rfl underlying73 LV vq vq AA Eu) ?_)|refine cy Xj rfl (AD rfl underlying73 LV vq vq AA (Ak Af)) (cy Xj rfl (GX rfl Nq rfl) (cy Xj rfl (J0 rfl vq vq) ?_))|refine ac ?_|(refine Tr.cn rfl ?_ ?_<;>intro h q)
 have IJ:¬0<k:=by simpa using Xj
 refine ac ?_
 refine wk [123,3,1] rfl ?_
 refine a2 ?_
 exact Fin.AQ (k+1) ⟨⟨Ae,(fun j hj=>by rcases Nat.lt_or_eq_of_le (Nat.le_of_lt_succ hj) with h_|h_;exact AU j h_;(subst h_;refine JS Af Cc (fun h0=> ?_);exact absurd h0 IJ))⟩,by omega⟩ ⟨⟨_,rfl,AO k⟩,kz⟩
 have BM:k=(c.names).length:=by have:=AW m9;omega
 subst BM
 · repeat' first|(refine int_eq (if_neg (fun hv=> ?_)).symm;have vf:=IP hv;obtain ⟨TG,TH,NA,NB,IG,GD,TI,TJ,EW,NC,ND,NF,NG,TK,TL,TN,TP,TQ,TR⟩:=vf;have TS:=(Cw.1 IG).2;unfold Gw at GD EW;omega)|(refine int_eq (if_pos (Vw ⟨by omega,by omega,by simp_all,by simp_all,Cw.2 ⟨AU,by omega⟩,by unfold Gw;simp_all,by omega,by omega,by unfold Gw;simp_all,by omega,by omega,by omega,by omega,by omega,by omega,by omega,by omega,by omega,by left;simp_all⟩)).symm)|refine ac ?_|(refine Tr.cn rfl ?_ ?_<;>intro h q)|(refine Ch.cg rfl rfl rfl ?_ ?_<;>intro h q)
theorem and1 {a b:Bool} (h:(a&&b)=true):a=true:=by simp at h;exact h.1
theorem kY {a b:Bool} (h:(a&&b)=true):b=true:=by simp at h;exact h.2
theorem Z6:∀(n:Nat) (l:List Int),(∀x∈l,1≤x∧x≤(n:Int))→l.Nodup→l.length≤n
 |0,l,h,_=>by
  cases l with
  |nil=>exact Nat.le_refl _
  |cons a l=>have:=h a (List.mem_cons_self ..);omega
 |n+1,l,h,hn=>by
  have ih:=Z6 n (l.erase ((n:Int)+1)) (fun x hx=>by
   have h1:=h x (List.mem_of_mem_erase hx)
   have h2:=(hn.mem_erase_iff.1 hx).1
   omega) (hn.erase _)
  rw [List.length_erase] at ih
  split at ih<;>omega
theorem Ow (h:FV l=true):l.length≤16:=by
 refine Z6 16 l (fun x hx=> ?_) ?_
 ·
  obtain ⟨j,hj⟩:=List.getElem?_of_mem hx
  have h1:=Br.1 (show allI (Dt l) l.length=true from h) j (Ar hj)
  unfold Dt at h1;rw [getD_at hj] at h1
  have:=and1 h1
  simpa using this
 ·
  refine List.pairwise_iff_getElem.2 fun i j hi hj hij he=> ?_
  have:=OI h (List.getElem?_eq_getElem hi) (by rw [he];exact List.getElem?_eq_getElem hj)
  omega
theorem Z7 {p:Int→Bool} (h:∀j,j<l.length→p (l[j]?.getD 0)=true):l.all p=true:=List.all_eq_true.2 fun x hx=>by
 obtain ⟨j,hj⟩:=List.getElem?_of_mem hx
 have:=h j (Ar hj)
 rw [getD_at hj] at this;exact this
theorem XB {Bw bits id:Int} {l:List Hf}  :Ay prog 151 [agg [int Bw,int bits],int id,Je l] (bool (OE Bw bits id l)):=by
 refine fo func151 rfl ⟨rfl,rfl⟩ fun M0 w0=>(Tr.Ed 2 rfl fun ZQ=> ?_)
 refine a2 ?_
 refine co rfl (Bn (Ir) rfl rfl) ?_
 refine ag ?_ ?_<;>intro h1 q1
 refine ac ?_
 refine wk [23,3,2,1] rfl ?_
 refine a2 ?_
 · refine bool_eq ?_;rw [Ci];unfold Gw FZ;simp_all
 refine ag ?_ ?_<;>intro h2 q2
 refine ac ?_
 refine wk [23,3,2,1] rfl ?_
 refine a2 ?_
 · exact QE
 refine ag ?_ ?_<;>intro h3 q3
 refine ac ?_
 refine wk [23,3,2,1] rfl ?_
 refine a2 ?_
 · exact QE
 refine ac ?_
 refine wk [23,3,2,1] rfl ?_
 refine Tr.cn rfl ?_ ?_<;>intro h4 q4
 refine a2 ?_
 · exact QE
 refine a2 ?_
 refine Tr.block (Tr.Bc _ (kk [3,2,1] rfl) (fun k:Nat=>[(7,int ((k:Nat):Int))]) (fun k:Nat=>k≤(l).length∧(∀j y,j<k→l[j]? =some y→(!Cs y)=false)) (fun k:Nat=>(l).length-k) 0 (⟨Nat.zero_le _,fun j y hj=>absurd hj AA⟩) kz ?_)
 rintro k ⟨Be,AU⟩
 refine an ?_ ?_<;>intro h5 q5
 have Ae:k<(l).length:=AV h5
 obtain ⟨c,Af⟩:=at_ Ae
 · repeat' first|(refine bool_eq ?_;rw [Ci];unfold Gw FZ;rw [HY (p:=Cs) Af Cc];simp)|exact Fin.AQ (k+1) ⟨⟨Ae,Dc (p:=fun c=> !Cs c) Af Cc AU⟩,by omega⟩ ⟨⟨_,rfl,AO k⟩,kz⟩|refine co rfl (AD rfl underlying63 Df vq vq AA (Ak Af)) (co rfl (AX rfl HT Df vq rfl rfl) (co rfl (Bn (UU) rfl rfl) ?_))|refine ac ?_|(refine Tr.cn rfl ?_ ?_<;>intro h q)
 have BM:k=(l).length:=by have:=AW h5;omega
 subst BM
 have hall:=E5 AU
 refine ac ?_
 refine ag ?_ ?_<;>intro h7 q7
 refine ac ?_
 refine wk [6] rfl ?_
 refine ac ?_
 · refine bool_eq ?_;rw [Ci];unfold Gw FZ;rw [hall,PK Cc];simp_all
 obtain ⟨c0,hc0⟩:=at_ (l:=l) (k:=0) (by have:=h7;simp at this;exact List.length_pos_iff.2 this)
 refine L5 h7 rfl ?_
 refine cy h7 rfl (AD rfl underlying63 Df vq vq AA (Ak (k:=0) hc0)) ?_
 refine ac ?_
 refine cy h7 rfl (Mp rfl vq vq) (L5 h7 rfl ?_)
 refine Ch.cs 46 rfl ?_ ?_<;>intro h8 q8
 refine L5 h8 rfl ?_
 refine cy h8 rfl (AD rfl underlying63 Df vq vq AA (Ak (k:=0) hc0)) ?_
 refine ac ?_
 refine wk [6] rfl ?_
 refine ac ?_
 · refine bool_eq ?_;rw [Ci];unfold Gw FZ;rw [hall,Kt hc0];clear hall AU hc0;simp_all;omega
 refine ac ?_
 refine wk [6] rfl ?_
 refine ac ?_
 · refine bool_eq ?_;rw [Ci];unfold Gw FZ;rw [hall,Kt hc0];clear hall AU hc0;simp_all
theorem UW (TD:e.hashes.length≤17592186044416):Ay prog 80 [agg (Am e)] (int (if CA e then 0 else 19)):=by
 refine fo func80 rfl ⟨rfl,rfl⟩ fun M0 w0=> ?_
 refine ac ?_
 refine ac ?_
 refine co rfl (Bn (Z4) rfl rfl) ?_
 refine ac ?_
 refine Ch.cs 13 rfl ?_ ?_<;>intro h1 q1
 refine ac ?_
 refine wk [47,1] rfl ?_
 refine ac ?_
 refine ac ?_
 · refine int_eq (if_neg (fun hv=> ?_)).symm;have ok:=CJ.1 hv;have v1:=ok.name;have v2:=ok.least;have v3:=ok.lm;have v4:=ok.most;have v5:=Ow ok.AG;have v6:=ok.Ox;have v7:=ok.nB;simp_all
 refine ac ?_
 refine Ch.cs 18 rfl ?_ ?_<;>intro h2 q2
 refine ac ?_
 refine wk [47,1] rfl ?_
 refine ac ?_
 refine ac ?_
 · exact LB
 refine ac ?_
 refine Ch.cs 25 rfl ?_ ?_<;>intro h3 q3
 refine ac ?_
 refine wk [47,1] rfl ?_
 refine ac ?_
 refine ac ?_
 · exact LB
 refine ac ?_
 refine Ch.cs 30 rfl ?_ ?_<;>intro h4 q4
 refine ac ?_
 refine wk [47,1] rfl ?_
 refine ac ?_
 refine ac ?_
 · exact LB
 refine ac ?_
 refine Ch.cs 36 rfl ?_ ?_<;>intro h5 q5
 refine ac ?_
 refine wk [47,1] rfl ?_
 refine ac ?_
 refine ac ?_
 · exact LB
 refine ac ?_
 refine Ch.cs 42 rfl ?_ ?_<;>intro h6 q6
 refine ac ?_
 refine wk [47,1] rfl ?_
 refine ac ?_
 refine ac ?_
 · exact LB
 refine ac ?_
 refine wk [47,1] rfl ?_
 refine Tr.cn rfl ?_ ?_<;>intro h7 q7
 refine ac ?_
 refine ac ?_
 · exact LB
 refine ac ?_
 refine ac ?_
 refine Tr.block (Tr.Bc _ (kk [1] rfl) (fun i:Nat=>[(3,int ((i:Nat):Int))]) (fun i:Nat=>i≤(e.AG).length∧(∀j,j<i→Dt e.AG j=true)) (fun i:Nat=>(e.AG).length-i) 0 (⟨Nat.zero_le _,fun j hj=>absurd hj AA⟩) kz ?_)
 rintro i ⟨rY,Z8⟩
 refine ac ?_
 refine Tr.cn rfl ?_ ?_<;>intro h8 q8
 have Z9:i<(e.AG).length:=AV h8
 obtain ⟨x,fH⟩:=at_ Z9
 have hg:=getD_at (d:=(0:Int)) fH
 refine ac ?_
 refine ao ?_
 refine tp rfl (AD rfl underlying22 DC vq vq AA (Ak fH)) (tp rfl (GX rfl C1 rfl) (tp rfl (Bn (XA) rfl rfl) ?_))
 refine ao ?_
 refine Tl rfl rfl rfl rfl Tv L7 (fun b1=> ?_)
 refine sf 0 4 ⟨rfl,rfl,rfl⟩ rfl rfl rfl rfl ?_
 refine ao ?_
 refine wk [5,3,1] rfl ?_
 refine ac ?_
 refine Ch.cs 66 rfl ?_ ?_<;>intro h9 q9
 have kD:¬(1≤x∧x≤16):=by intro hh;rw [if_pos hh] at h9;exact absurd h9 AB
 refine ac ?_
 refine wk [77,3,1] rfl ?_
 refine ac ?_
 refine ac ?_
 · refine int_eq (if_neg (fun hv=> ?_)).symm;have ok:=CJ.1 hv;have h_:=Br.1 (show allI (Dt e.AG) e.AG.length=true from ok.AG) i AA;unfold Dt at h_;rw [hg] at h_;exact kD (by simpa using and1 h_)
 have hin:1≤x∧x≤16:=by refine Decidable.byContradiction fun hh=> ?_;rw [if_neg hh] at h9;exact absurd h9 AB
 refine ac ?_
 refine cy h9 rfl (Eh rfl underlying22 DC vq vq AA CK) ?_
 refine ac ?_
 refine cy h9 rfl (AD rfl underlying22 DC vq vq AA (Ak fH)) (cy h9 rfl (GX rfl C1 rfl) ?_)
 refine cy h9 rfl (Ad rfl (Z5 (l:=e.AG.take i) (v:=x)) ⟨⟨_,rfl,Pr.le_of_eq (by rw [←List.map_take,Int.toNat_natCast])⟩,kz⟩) ?_
 refine ac ?_
 refine wk [77,3,1] rfl ?_
 refine Tr.cn rfl ?_ ?_<;>intro h10 SH
 refine ac ?_
 refine ac ?_
 · refine int_eq (if_neg (fun hv=> ?_)).symm;have ok:=CJ.1 hv;have h_:=Br.1 (show allI (Dt e.AG) e.AG.length=true from ok.AG) i AA;unfold Dt at h_;rw [hg] at h_;exact absurd (by assumption:((e.AG.take i).any fun y=>x==y)=true) (by have h2:=kY h_;rw [Bool.not_eq_true'] at h2;rw [h2];decide)
 refine ac ?_
 refine ac ?_
 exact Fin.AQ (i+1) ⟨⟨Z9,Bo Z8 QC⟩,by omega⟩ ⟨⟨_,rfl,AO i⟩,kz⟩
 have kZ:i=(e.AG).length:=by have:=AW h8;omega
 subst kZ
 refine ac ?_
 refine ac ?_
 refine Tr.block (Tr.Bc _ (kk [1] rfl) (fun m:Nat=>[(6,int ((m:Nat):Int))]) (fun m:Nat=>m≤(e.ids).length∧(∀j y,j<m→e.ids[j]? =some y→(!Wb y)=false)) (fun m:Nat=>(e.ids).length-m) 0 (⟨Nat.zero_le _,fun j y hj=>absurd hj AA⟩) kz ?_)
 rintro m ⟨V1,Gv⟩
 refine ac ?_
 refine Tr.cn rfl ?_ ?_<;>intro h11 T8
 have JV:m<(e.ids).length:=AV h11
 obtain ⟨x,Fv⟩:=at_ JV
 refine ac ?_
 refine ac ?_
 refine co rfl (AD rfl underlying77 Bl vq vq AA (Ak Fv)) ?_
 refine ac ?_
 refine co rfl (AD rfl underlying77 Bl vq vq AA (Ak Fv)) ?_
 refine ac ?_
 refine co rfl (AD rfl underlying77 Bl vq vq AA (Ak Fv)) ?_
 refine ac ?_
 refine co rfl (kc3 (XB) rfl rfl rfl rfl) ?_
 refine ac ?_
 refine wk [104,6,1] rfl ?_
 refine Tr.cn rfl ?_ ?_<;>intro h12 Ws
 refine ac ?_
 refine ac ?_
 · refine int_eq (if_neg (fun hv=> ?_)).symm;have ok:=CJ.1 hv;have h_:=List.all_eq_true.1 ok.ids x (List.mem_of_getElem? Fv);unfold Wb at h_;simp_all
 refine ac ?_
 refine ac ?_
 exact Fin.AQ (m+1) ⟨⟨JV,Dc (p:=fun c=> !Wb c) Fv (by unfold Wb;simp_all) Gv⟩,by omega⟩ ⟨⟨_,rfl,AO m⟩,kz⟩
 have RT:m=(e.ids).length:=by have:=AW h11;omega
 subst RT
 have hall:=E5 Gv
 refine ac ?_
 refine ac ?_
 refine Tr.block (Tr.Bc _ (kk [1] rfl) (fun o:Nat=>[(7,int ((o:Nat):Int))]) (fun o:Nat=>o≤(e.anchors).length∧(∀j,j<o→(FD e.anchors j&&FZ (e.anchors[j]?.getD 0))=true)) (fun o:Nat=>(e.anchors).length-o) 0 (⟨Nat.zero_le _,fun j hj=>absurd hj AA⟩) kz ?_)
 rintro o ⟨iC,GU⟩
 refine ac ?_
 refine Tr.cn rfl ?_ ?_<;>intro Mo Xh
 have RU:o<(e.anchors).length:=AV Mo
 obtain ⟨a,LG⟩:=at_ RU
 have hg:=getD_at (d:=(0:Int)) LG
 refine ac ?_
 refine ac ?_
 refine co rfl (AD rfl underlying22 DC vq vq AA (Ak LG)) ?_
 refine ac ?_
 refine Ch.cs 118 rfl ?_ ?_<;>intro Lh ec
 refine ac ?_
 refine wk [143,7,1] rfl ?_
 refine ac ?_
 refine ac ?_
 · exact Xs
 refine ac ?_
 refine cy Lh rfl (AD rfl underlying22 DC vq vq AA (Ak LG)) ?_
 refine ac ?_
 refine Ch.cs 126 rfl ?_ ?_<;>intro TE hO
 refine ac ?_
 refine wk [143,7,1] rfl ?_
 refine ac ?_
 refine ac ?_
 · exact Xs
 refine ac ?_
 refine Ch.cs 129 rfl ?_ ?_<;>intro h16 kT
 have hk0:0<o:=by simpa using h16
 obtain ⟨y,hy⟩:=at_ (l:=e.anchors) (k:=o-1) AA
 have JW:=getD_at (d:=(0:Int)) hy
 refine ac ?_
 refine cy h16 rfl (AD rfl underlying22 DC vq vq AA (by rw [show ((o:Nat):Int)-1=((o-1:Nat):Int) by omega];exact Ak hy)) ?_
 refine ac ?_
 refine cy h16 rfl (AD rfl underlying22 DC vq vq AA (Ak LG)) ?_
 refine ac ?_
 refine wk [143,7,1] rfl ?_
 refine Tr.cn rfl ?_ ?_<;>intro Oj dU
 refine ac ?_
 refine ac ?_
 · refine int_eq (if_neg (fun hv=> ?_)).symm;have ok:=CJ.1 hv;have h_:=Br.1 (show allI (FD e.anchors) e.anchors.length=true from ok.eS) o AA;unfold FD at h_;rw [hg,JW] at h_;simp at h_;omega
 refine ac ?_
 refine ac ?_
 exact Fin.AQ (o+1) ⟨⟨RU,(fun j hj=>by rcases Nat.lt_or_eq_of_le (Nat.le_of_lt_succ hj) with h_|h_;exact GU j h_;(subst h_;unfold FD FZ;rw [hg];rw [JW];simp_all))⟩,by omega⟩ ⟨⟨_,rfl,AO o⟩,kz⟩
 have IJ:¬0<o:=by simpa using h16
 refine ac ?_
 refine wk [143,7,1] rfl ?_
 refine ac ?_
 refine ac ?_
 exact Fin.AQ (o+1) ⟨⟨RU,(fun j hj=>by rcases Nat.lt_or_eq_of_le (Nat.le_of_lt_succ hj) with h_|h_;exact GU j h_;(subst h_;unfold FD FZ;rw [hg];simp_all))⟩,by omega⟩ ⟨⟨_,rfl,AO o⟩,kz⟩
 have Z_:o=(e.anchors).length:=by have:=AW Mo;omega
 subst Z_
 refine ac ?_
 refine ac ?_
 refine Tr.block (Tr.Bc _ (kk [1] rfl) (fun q:Nat=>[(8,int ((q:Nat):Int))]) (fun q:Nat=>q≤(e.hashes).length∧(∀j,j<q→(FD e.hashes j&&Iu (e.hashes[j]?.getD 0))=true)) (fun q:Nat=>(e.hashes).length-q) 0 (⟨Nat.zero_le _,fun j hj=>absurd hj AA⟩) kz ?_)
 rintro q ⟨xZ,RV⟩
 refine ac ?_
 refine Tr.cn rfl ?_ ?_<;>intro PI jw
 have kf:q<(e.hashes).length:=AV PI
 obtain ⟨a,fI⟩:=at_ kf
 have hg:=getD_at (d:=(0:Int)) fI
 refine ac ?_
 refine ac ?_
 refine co rfl (AD rfl underlying22 DC vq vq AA (Ak fI)) (co rfl (GX rfl C1 rfl) (co rfl (Bn (Ms) rfl rfl) ?_))
 refine ac ?_
 refine Ch.cs 158 rfl ?_ ?_<;>intro bI q19
 refine ac ?_
 refine wk [175,8,1] rfl ?_
 refine ac ?_
 refine ac ?_
 · refine int_eq (if_neg (fun hv=> ?_)).symm;have ok:=CJ.1 hv;have h_:=List.all_eq_true.1 ok.hsh a (List.mem_of_getElem? fI);unfold Iu at h_;simp_all
 refine ac ?_
 refine Ch.cs 161 rfl ?_ ?_<;>intro Ol q20
 have hk0:0<q:=by simpa using Ol
 obtain ⟨y,hy⟩:=at_ (l:=e.hashes) (k:=q-1) AA
 have JW:=getD_at (d:=(0:Int)) hy
 refine ac ?_
 refine cy Ol rfl (AD rfl underlying22 DC vq vq AA (by rw [show ((q:Nat):Int)-1=((q-1:Nat):Int) by omega];exact Ak hy)) ?_
 refine ac ?_
 refine cy Ol rfl (AD rfl underlying22 DC vq vq AA (Ak fI)) ?_
 refine ac ?_
 refine wk [175,8,1] rfl ?_
 refine Tr.cn rfl ?_ ?_<;>intro ZC q21
 refine ac ?_
 refine ac ?_
 · refine int_eq (if_neg (fun hv=> ?_)).symm;have ok:=CJ.1 hv;have h_:=Br.1 (show allI (FD e.hashes) e.hashes.length=true from ok.hash) q AA;unfold FD at h_;rw [hg,JW] at h_;simp at h_;omega
 refine ac ?_
 refine ac ?_
 exact Fin.AQ (q+1) ⟨⟨kf,(fun j hj=>by rcases Nat.lt_or_eq_of_le (Nat.le_of_lt_succ hj) with h_|h_;exact RV j h_;(subst h_;unfold FD Iu;rw [hg];rw [JW];simp_all))⟩,by omega⟩ ⟨⟨_,rfl,AO q⟩,kz⟩
 have IJ:¬0<q:=by simpa using Ol
 refine ac ?_
 refine wk [175,8,1] rfl ?_
 refine ac ?_
 refine ac ?_
 exact Fin.AQ (q+1) ⟨⟨kf,(fun j hj=>by rcases Nat.lt_or_eq_of_le (Nat.le_of_lt_succ hj) with h_|h_;exact RV j h_;(subst h_;unfold FD Iu;rw [hg];simp_all))⟩,by omega⟩ ⟨⟨_,rfl,AO q⟩,kz⟩
 have wj:q=(e.hashes).length:=by have:=AW PI;omega
 subst wj
 refine ac ?_
 refine ac ?_
 refine ac ?_
 · refine int_eq (if_pos (CJ.2 ⟨by simp_all,by omega,by omega,by omega,Br.2 Z8,by omega,by omega,Br.2 (fun j hj=>and1 (GU j hj)),Br.2 (fun j hj=>and1 (RV j hj)),hall,Z7 (fun j hj=>kY (GU j hj)),Z7 (fun j hj=>kY (RV j hj))⟩)).symm
theorem Ln (B8:e.small):Ay Tryz.prog 80 [agg (Am e)] (int (if CA e then 0 else 19)):=UW (by have:=B8.hashes;omega)
theorem OO {β γ:Type} {f:β→γ} {l:List β} {x:β} (h:l[k]? =some x):(l.take k).map f++[f x]=(l.take (k+1)).map f:=by rw [List.take_add_one,h,List.map_append];rfl
theorem OP {x:D9} (hx:x.small):Ay prog 155 [agg (BJ x)] (agg (BJ x)):=by
 refine fo func155 rfl ⟨rfl,rfl⟩ fun M0 w0=> ?_
 have hch:=hx.chain
 refine Tr.seq (Tr.BL (tp rfl (BK rfl CS) ?_))
 refine Tl rfl rfl rfl rfl LW Js (fun b1=> ?_)
 refine ap ?_
 refine ap ?_
 refine Tl rfl rfl rfl rfl LW Js (fun b2=> ?_)
 refine ap ?_
 refine ac ?_
 refine wk [14,13,12,3,2] rfl (Tr.block (Tr.JU 0 [int x.Bw,int x.bits,int x.BB,Ao (.slice none 0 0) (slice 15 ((x.chain.take 0).map DV))] rfl ⟨Lr,Lr,Lr,Du rfl,trivial⟩ (Tr.Eg 129 15 (Tr.GG _ (kk [13,12,3,2] rfl) (fun k v=>[(14,int ((k:Nat):Int))]) (fun k v=>Hp M0 w0 Lw ([Bi 129 15 v,AE true b2 65 [int x.Bw,int x.bits,int x.BB,Ao v (slice 15 ((x.chain.take k).map DV))],AE true b1 65 (([.int .i64 0,.int .i64 0,.int .i64 0,.slice none 0 0]:List Value).map is)])) (fun k:Nat=>k≤(x.chain).length) (fun k:Nat=>(x.chain).length-k) 0 (.slice none 0 0) (Nat.zero_le _) kz (fun _ _ h=>h) ?_))))
 rintro k v Be
 refine ac ?_
 refine Tr.seq ?_
 refine Tr.cn rfl ?_ ?_<;>intro h1 q1
 have Ae:k<(x.chain).length:=AV h1
 obtain ⟨c,Af⟩:=at_ Ae
 have hcn:=hx.names c (List.mem_of_getElem? Af)
 refine ac ?_
 refine Tr.seq (Tr.block (Tr.seq (Tr.BL (tp rfl (AD rfl underlying63 Df vq vq AA DP) ?_))))
 refine tp rfl (AX rfl HT Df vq rfl rfl) ?_
 refine Tl rfl rfl rfl rfl Qp L6 (fun b3=> ?_)
 refine ap ?_
 refine ap ?_
 refine tp rfl (JK rfl underlying73 LV by9 z9 rfl AB vq P9 MW) ?_
 refine ap ?_
 refine wk [14,13,12,5,3,2] rfl ?_
 refine ap ?_
 refine TO.Fw 1 rfl rfl AB (Dy rfl rfl rfl rfl underlying63 Df gM Qp L9 E9 (CY Bt Er)) (fun v1=> ?_)
 refine ap ?_
 refine Tr.drop 0 ?_
 refine ac ?_
 refine Fin.JU 1 [int x.Bw,int x.bits,int x.BB,Ao v1 (slice 15 ((x.chain.take (k+1)).map DV))] rfl ⟨Lr,Lr,Lr,D3 (OO (f:=DV) Af),trivial⟩ (Fin.Ic (k+1) v1 (⟨Ae,by omega⟩) ⟨⟨_,rfl,AO k⟩,kz⟩ (fun _ _ h=>h))
 have BM:k=(x.chain).length:=by have:=AW h1;omega
 subst BM
 refine ac ?_
 refine ap ?_
 refine Tr.ret (Fin.CF rfl (AR.cell 2 rfl rfl Fe Bl rfl Lr) ?_)
 · exact BP ⟨Lr,Lr,Lr,Pr.le_trans (BF _ _) (Pr.le_of_eq VF),trivial⟩
theorem Pa (B8:e.small):Ay prog 82 [agg (Am e)] (agg (Am e)):=by
 refine fo func82 rfl ⟨rfl,rfl⟩ fun M0 w0=> ?_
 have hs1:=B8.AG
 have L_:=B8.anchors
 have TD:=B8.hashes
 have Xi:=B8.Ox
 refine Tr.seq (Tr.BL (tp rfl (BK rfl CS) ?_))
 refine Tl rfl rfl rfl rfl G7 Dn (fun b1=> ?_)
 refine ao ?_
 refine ao ?_
 refine Tl rfl rfl rfl rfl G7 Dn (fun b2=> ?_)
 refine TO.Ap 0 rfl rfl rfl vq CS rfl Ba rfl rfl ?_
 refine ao ?_
 refine Tr.seq (Tr.rx ?_)
 refine ax ?_
 refine xo rfl (fun _=>JK rfl underlying22 DC S9 z3 rfl AB vq P9 MW) ?_
 refine ax ?_
 refine xo rfl (fun _=>JK rfl underlying22 DC S9 z3 rfl AB vq P9 MW) ?_
 refine ax ?_
 refine xo rfl (fun _=>JK rfl underlying22 DC S9 z3 rfl AB vq P9 MW) ?_
 refine xo rfl (fun _=>AF rfl Fu vq) (Cx.D7 0 rfl rfl (Bm rfl rfl vq CX Gs rfl Ai rfl) (xo rfl (fun _=>AF rfl Jv vq) (Cx.D7 0 rfl rfl (Bm rfl rfl vq CX Gs rfl Ai rfl) (xo rfl (fun _=>AF rfl Jw vq) (Cx.D7 0 rfl rfl (Bm rfl rfl vq CX Gs rfl Ai rfl) ?_)))))
 refine Cx.nil ⟨by kernel_rfl,?_⟩
 refine BV.done Xd (Fin.go (wk [3,2,1] rfl ?_))
 refine ao ?_
 refine TO.D7 0 rfl rfl (Bm rfl rfl vq CX R4 rfl Ai rfl) ?_
 refine ao ?_
 refine ac ?_
 refine Tr.block (Tr.JU 0 [str e.name,int e.least,int e.most,ints e.AG,bool e.own,Ao (.slice none 0 0) (slice 4 ((e.ids.take 0).map BJ)),ints e.anchors,ints e.hashes,bool e.E_] rfl ⟨Lr,Lr,Lr,Lr,Lr,Du rfl,Lr,Lr,Lr,trivial⟩ (Tr.Eg 65 4 (Tr.GG _ (kk [22,21,3,2] rfl) (fun k v=>[(23,int ((k:Nat):Int))]) (fun k v=>Hp M0 w0 Lw ([Bi 65 4 v,AE true b2 79 [str e.name,int e.least,int e.most,ints e.AG,bool e.own,Ao v (slice 4 ((e.ids.take k).map BJ)),ints e.anchors,ints e.hashes,bool e.E_],AE true b1 79 (([.string (ByteArray.mk #[]),.int .i64 0,.int .i64 0,.slice none 0 0,.bool false,.slice none 0 0,.slice none 0 0,.slice none 0 0,.bool false]:List Value).map is)])) (fun k:Nat=>k≤(e.ids).length) (fun k:Nat=>(e.ids).length-k) 0 (.slice none 0 0) (Nat.zero_le _) kz (fun _ _ h=>h) ?_)))
 rintro k v Be
 refine ac ?_
 refine Tr.seq ?_
 refine Tr.cn rfl ?_ ?_<;>intro h1 q1
 have Ae:k<(e.ids).length:=AV h1
 obtain ⟨x,Af⟩:=at_ Ae
 have hxs:=B8.ids x (List.mem_of_getElem? Af)
 refine ac ?_
 refine Tr.seq (Tr.block (Tr.seq (Tr.BL (tp rfl (AD rfl underlying77 Bl vq vq AA DP) ?_))))
 refine tp rfl (AX rfl Fe Bl vq rfl rfl) ?_
 refine Tl rfl rfl rfl rfl LW Js (fun b3=> ?_)
 refine sf 0 5 ⟨rfl,rfl,rfl⟩ rfl rfl rfl rfl ?_
 refine ao ?_
 refine Tr.pad (Tr.rx ?_)
 refine ax ?_
 refine xo rfl (fun _=>Bn (OP hxs) rfl rfl) (xo rfl (fun _=>Ah (xs:=[.tmp 30]) (rows:=[_]) rfl rfl underlying77 Bl LW rfl AB ⟨⟨Aq,(Va rfl)⟩,trivial⟩ AB) ?_)
 refine Cx.ef 1 rfl rfl AB (Dy rfl rfl rfl rfl underlying77 Bl Og LW L9 E9 (CY Bt Er)) ?_
 refine xo rfl (fun _=>AF rfl GI vq) (Cx.D7 2 rfl rfl (DT rfl rfl rfl vq rfl R4 Ai) ?_)
 refine Cx.nil ⟨by kernel_rfl,?_⟩
 refine BV.Np 1 2 32 rfl rfl AB rfl (fun v1=> ?_)
 refine BV.done K9 ?_
 refine ac ?_
 refine Tr.drop 0 (wk [23,22,21,3,2] rfl ?_)
 refine ac ?_
 refine Fin.JU 1 [str e.name,int e.least,int e.most,ints e.AG,bool e.own,Ao v1 (slice 4 ((e.ids.take (k+1)).map BJ)),ints e.anchors,ints e.hashes,bool e.E_] rfl ⟨Lr,Lr,Lr,Lr,Lr,D3 (OO (f:=BJ) Af),Lr,Lr,Lr,trivial⟩ (Fin.Ic (k+1) v1 (⟨Ae,by omega⟩) ⟨⟨_,rfl,AO k⟩,kz⟩ (fun _ _ h=>h))
 have BM:k=(e.ids).length:=by have:=AW h1;omega
 subst BM
 refine ac ?_
 refine ao ?_
 refine TO.Ap 2 rfl rfl rfl vq CS rfl Ba rfl rfl ?_
 refine ao ?_
 refine Tr.ret (Fin.CF rfl (AR.cell 2 rfl rfl Bv Ba rfl Lr) ?_)
 · exact BP ⟨Lr,Lr,Lr,Lr,Lr,Pr.le_trans (BF _ _) (Pr.le_of_eq VF),Lr,Lr,Lr,trivial⟩
theorem RW {c:BA} (B8:e.small) (hcs:c.Bj.small):Ay prog 156 [agg (Am e),agg (A9 c)] (int (S6 e c)):=by
 refine fo func156 rfl ⟨rfl,rfl⟩ fun M0 w0=> ?_
 refine ac ?_
 refine ac ?_
 refine co rfl (Bn (Ln B8) rfl rfl) ?_
 refine ac ?_
 refine Tr.cn rfl ?_ ?_<;>intro h1 q1
 refine ac ?_
 refine ac ?_
 · refine int_eq ?_;unfold S6;repeat (refine (if_pos ?_).symm;simp_all)
 refine ac ?_
 refine ac ?_
 refine co rfl (Bn (W_ (c:=c) hcs) rfl rfl) ?_
 refine ac ?_
 refine Tr.cn rfl ?_ ?_<;>intro h2 q2
 refine ac ?_
 refine ac ?_
 · exact TX
 refine ac ?_
 refine wk [3,2] rfl (Tr.Ti [2,3] [] (¬(c.kind=1∧(c.at_<0∨(e.AG.length:Int)<c.at_))∧¬(c.kind=5∧(c.at_<0∨(e.ids.length:Int)<c.at_))∧¬((c.kind=11∨c.kind=12)∧(c.number≠0∧c.number≠1))) ?_ (fun x9=> ?_))
 refine ac ?_
 refine ac ?_
 refine Tr.cn rfl ?_ ?_<;>intro h4 q4
 refine ac ?_
 refine Ch.cs 27 rfl ?_ ?_<;>intro h5 q5
 refine ac ?_
 refine wk [34,3,2] rfl ?_
 refine ac ?_
 refine ac ?_
 · exact TX
 refine ac ?_
 refine wk [34,3,2] rfl ?_
 refine Tr.cn rfl ?_ ?_<;>intro h6 q6
 refine ac ?_
 refine ac ?_
 · exact TX
 refine Tr.skip (Fin.block (Fin.AQ () AA (WJ rfl)))
 refine ac ?_
 refine Tr.cn rfl ?_ ?_<;>intro h7 q7
 refine ac ?_
 refine Ch.cs 40 rfl ?_ ?_<;>intro h8 q8
 refine ac ?_
 refine wk [47,3,2] rfl ?_
 refine ac ?_
 refine ac ?_
 · exact NI
 refine ac ?_
 refine wk [47,3,2] rfl ?_
 refine Tr.cn rfl ?_ ?_<;>intro h9 q9
 refine ac ?_
 refine ac ?_
 · exact NI
 refine Tr.skip (Fin.block (Fin.AQ () AA (WJ rfl)))
 refine ac ?_
 refine Tr.cn rfl ?_ ?_<;>intro h10 SH
 refine ac ?_
 refine Tr.cond rfl (fun _=> ?_) (fun h=>nomatch h10.symm.trans h)
 refine ac ?_
 refine Ch.cs 54 rfl ?_ ?_<;>intro h11 T8
 refine ac ?_
 refine wk [58,3,2] rfl ?_
 refine Tr.cn rfl ?_ ?_<;>intro h12 Ws
 refine ac ?_
 refine ac ?_
 · exact NI
 refine Tr.skip (Fin.block (Fin.AQ () AA (WJ rfl)))
 refine ac ?_
 refine wk [58,3,2] rfl (Tr.cond rfl (fun h=>nomatch h) (fun _=> ?_))
 refine Tr.skip (Fin.block (Fin.AQ () AA (WJ rfl)))
 refine ac ?_
 refine Tr.cn rfl ?_ ?_<;>intro Mo Xh
 refine ac ?_
 refine Ch.cs 54 rfl ?_ ?_<;>intro Lh ec
 refine ac ?_
 refine wk [58,3,2] rfl ?_
 refine Tr.cn rfl ?_ ?_<;>intro TE hO
 refine ac ?_
 refine ac ?_
 · exact NI
 refine Tr.skip (Fin.block (Fin.AQ () AA (WJ rfl)))
 refine ac ?_
 refine wk [58,3,2] rfl (Tr.cond rfl (fun h=>nomatch h) (fun _=> ?_))
 refine Tr.skip (Fin.block (Fin.AQ () AA (WJ rfl)))
 refine Tr.skip (Fin.block (Fin.AQ () AA (WJ rfl)))
 refine wk [3,2] rfl (Tr.Ti [2,3] [] (¬((FY e c.kind).2.2=true∧decide (0≤idx (fun y=>c.number==y) (FY e c.kind).1)=(FY e c.kind).2.1)) ?_ (fun yA=> ?_))
 refine ac ?_
 refine co rfl (Cb (Sw) rfl rfl rfl) ?_
 refine ac ?_
 refine ac ?_
 refine Ch.cs 68 rfl ?_ ?_<;>intro Oj dU
 refine ac ?_
 refine cy Oj rfl (Cb (Hy) rfl rfl rfl) ?_
 refine ac ?_
 refine wk [76,3,2] rfl ?_
 refine Tr.cn rfl ?_ ?_<;>intro PI jw
 refine ac ?_
 refine ac ?_
 · exact Xn
 refine Tr.skip (Fin.AQ () Cc (WJ rfl))
 refine ac ?_
 refine wk [76,3,2] rfl (Tr.cond rfl (fun h=>nomatch h) (fun _=> ?_))
 refine Tr.skip (Fin.AQ () Cc (WJ rfl))
 refine wk [3,2] rfl (Tr.Ti [2,3] [] (¬((Gn e c.kind).2=true∧(Gn e c.kind).1=c.number)) ?_ (fun hval=> ?_))
 refine ac ?_
 refine co rfl (Cb (UR) rfl rfl rfl) ?_
 refine ac ?_
 refine ac ?_
 refine Ch.cs 85 rfl ?_ ?_<;>intro Ol q20
 refine ac ?_
 refine wk [90,3,2] rfl ?_
 refine Tr.cn rfl ?_ ?_<;>intro ZC q21
 refine ac ?_
 refine ac ?_
 · exact Xn
 refine Tr.skip (Fin.AQ () Cc (WJ rfl))
 refine ac ?_
 refine wk [90,3,2] rfl (Tr.cond rfl (fun h=>nomatch h) (fun _=> ?_))
 refine Tr.skip (Fin.AQ () Cc (WJ rfl))
 refine wk [3,2] rfl (Tr.Ti [2,3] [] (¬(c.kind=5∧0<FQ c.Bj.BB e.ids)) ?_ (fun yB=> ?_))
 refine ac ?_
 refine Tr.cn rfl ?_ ?_<;>intro h23 q23
 refine ac ?_
 refine co rfl (Cb (Ll B8.Ox) rfl rfl rfl) ?_
 refine ac ?_
 refine wk [10,3,2] rfl ?_
 refine ac ?_
 refine Tr.cn rfl ?_ ?_<;>intro h24 q24
 refine ac ?_
 refine ac ?_
 · exact NI
 refine Tr.skip (Fin.AQ () AA (WJ rfl))
 refine Tr.skip (Fin.AQ () AA (WJ rfl))
 refine ac ?_
 refine Tr.cn rfl ?_ ?_<;>intro h25 q25
 refine ac ?_
 refine co rfl (Cb (Ll B8.Ox) rfl rfl rfl) ?_
 refine ac ?_
 refine wk [12] rfl ?_
 refine ac ?_
 refine Tr.cn rfl ?_ ?_<;>intro h26 q26
 refine ac ?_
 refine ac ?_
 · exact NI
 refine ac ?_
 refine ac ?_
 refine Tr.cn rfl ?_ ?_<;>intro m9 q27
 refine ac ?_
 refine ac ?_
 · exact NI
 refine ac ?_
 refine ac ?_
 refine ac ?_
 · exact Xq
 refine ac ?_
 refine ac ?_
 refine ac ?_
 · exact Xq
end Go.Proofs.YtoodkpodinniaaaGreatDoor
