/-
  Part 6 of the texts that prove this claim, merged.
-/
import Derived.Test.YteomgekmipcdpaaGreatDoorRbCP5
set_option linter.all false
set_option maxRecDepth 40000
set_option maxHeartbeats 16000000
namespace Cp
open Go Go.RowKit Go.Great
section
variable {P:Program} {I:Cc} {E:Env} {o:Oper}
abbrev u32 (b:BitVec 32):Pr:=is (.int .u32 (b.toNat:Int))
theorem fB (n:Int):IntKind.u32.wrap n=n % 4294967296:=by simp [IntKind.wrap,IntKind.signed,IntKind.bits]
theorem Qf (b:BitVec 32):IntKind.u32.wrap (b.toNat:Int)=(b.toNat:Int):=by rw [fB];have:=b.isLt;omega
theorem ABP (b:BitVec 32) (i:Nat):IntKind.u32.wrap ((b.toNat:Int)*2 ^ (min i 32))=((b<<<i).toNat:Int):=by
 rw [fB,BitVec.toNat_shiftLeft,Nat.shiftLeft_eq]
 have e1:((b.toNat:Int)*2 ^ (min i 32))=((b.toNat*2 ^ (min i 32):Nat):Int):=by rw [Int.natCast_mul,Int.natCast_pow];rfl
 rw [e1]
 rcases Nat.le_total i 32 with h|h
 · rw [Nat.min_eq_left h];generalize b.toNat*2 ^ i=n;show ((n:Int) % 4294967296)=((n % 4294967296:Nat):Int);omega
 ·
  rw [Nat.min_eq_right h]
  obtain ⟨k,rfl⟩:=Nat.exists_eq_add_of_le h
  have h1:b.toNat*2 ^ 32 % 4294967296=0:=by rw [show (4294967296:Nat)=2 ^ 32 from rfl];exact Nat.mul_mod_left _ _
  have h2:b.toNat*2 ^ (32+k) % 2 ^ 32=0:=by rw [Nat.pow_add,←Nat.mul_assoc,Nat.mul_right_comm];exact Nat.mul_mod_left _ _
  rw [h2];generalize b.toNat*2 ^ 32=n at h1 ⊢;omega
theorem pq (b:BitVec 32) (i:Nat):(b.toNat:Int).fdiv (2 ^ (min i 32))=((b>>>i).toNat:Int):=by
 rw [BitVec.toNat_ushiftRight,Nat.shiftRight_eq_div_pow]
 have e1:(2:Int) ^ (min i 32)=((2 ^ (min i 32):Nat):Int):=by rw [Int.natCast_pow];rfl
 rw [e1,Int.fdiv_eq_ediv_of_nonneg _ (by exact Int.natCast_nonneg _)]
 rcases Nat.le_total i 32 with h|h
 · rw [Nat.min_eq_left h];norm_cast
 ·
  rw [Nat.min_eq_right h]
  have h3:=b.isLt
  have h1:b.toNat/2 ^ 32=0:=Nat.div_eq_of_lt h3
  have h2:b.toNat/2 ^ i=0:=Nat.div_eq_of_lt (Nat.lt_of_lt_of_le h3 (Nat.pow_le_pow_right AA h))
  rw [h2,←h1];norm_cast
theorem Nf {t u:TypeId} {x y:Operand} {b:BitVec 32} {i:Int} (ho:o.op= .binOp .shl t x y u) (hx:VL E x (u32 b)) (hy:VL E y (int i)) (hi:0≤i):Ab P I o E (u32 (b<<<i.toNat)):=
 Ab.same fun M w a he _=>by
  have h1:a.eval x= .int .u32 b.toNat:=hx.ev he Ap
  have h2:a.eval y= .int .i64 i:=hy.ev he Ap
  refine ⟨.int .u32 ((b<<<i.toNat).toNat:Int),?_,rfl⟩
  rw [←ABP]
  simp [execOp,ho,h1,h2,eqGuard,binOp,Op.shift,show ¬i<0 by omega,IntKind.bits]
theorem pz {t u:TypeId} {x y:Operand} {b:BitVec 32} {i:Int} (ho:o.op= .binOp .shr t x y u) (hx:VL E x (u32 b)) (hy:VL E y (int i)) (hi:0≤i):Ab P I o E (u32 (b>>>i.toNat)):=
 Ab.same fun M w a he _=>by
  have h1:a.eval x= .int .u32 b.toNat:=hx.ev he Ap
  have h2:a.eval y= .int .i64 i:=hy.ev he Ap
  refine ⟨.int .u32 ((b>>>i.toNat).toNat:Int),?_,rfl⟩
  rw [←pq]
  simp [execOp,ho,h1,h2,eqGuard,binOp,Op.shift,show ¬i<0 by omega,IntKind.bits]
theorem Xt (b:BitVec 32):BitVec.ofInt 32 (b.toNat:Int)=b:=by grind
theorem SQ {t u:TypeId} {x y:Operand} {b c:BitVec 32} {op:BinOp} {f:BitVec 32→BitVec 32→BitVec 32} (ho:o.op= .binOp op t x y u) (hx:VL E x (u32 b)) (hy:VL E y (u32 c))
  (hf:(op= .and∧f=fun b c=>b&&&c)∨(op= .or∧f=fun b c=>b|||c)∨(op= .andNot∧f=fun b c=>b&&&~~~c)∨(op= .xor∧f=fun b c=>b ^^^ c)):Ab P I o E (u32 (f b c)):=
 Ab.same fun M w a he _=>by
  have h1:a.eval x= .int .u32 b.toNat:=hx.ev he Ap
  have h2:a.eval y= .int .u32 c.toNat:=hy.ev he Ap
  refine ⟨.int .u32 ((f b c).toNat:Int),?_,rfl⟩
  have e1:=Xt b
  have e2:=Xt c
  rcases hf with ⟨rfl,rfl⟩|⟨rfl,rfl⟩|⟨rfl,rfl⟩|⟨rfl,rfl⟩
  · have e3:=Qf (b&&&c);simp [execOp,ho,h1,h2,eqGuard,binOp,Op.intBits,IntKind.bits,e1,e2] at e3 ⊢;exact e3
  · have e3:=Qf (b|||c);simp [execOp,ho,h1,h2,eqGuard,binOp,Op.intBits,IntKind.bits,e1,e2] at e3 ⊢;exact e3
  · have e3:=Qf (b&&&~~~c);simp [execOp,ho,h1,h2,eqGuard,binOp,Op.intBits,IntKind.bits,e1,e2];exact e3.trans AR
  · have e3:=Qf (b ^^^ c);simp [execOp,ho,h1,h2,eqGuard,binOp,Op.intBits,IntKind.bits,e1,e2] at e3 ⊢;exact e3
theorem Xu {t u:TypeId} {x y:Operand} {b c:BitVec 32} (ho:o.op= .binOp .and t x y u) (hx:VL E x (u32 b)) (hy:VL E y (u32 c)):Ab P I o E (u32 (b&&&c)):=SQ ho hx hy (.inl ⟨rfl,rfl⟩)
theorem Qg {t u:TypeId} {x y:Operand} {b c:BitVec 32} (ho:o.op= .binOp .or t x y u) (hx:VL E x (u32 b)) (hy:VL E y (u32 c)):Ab P I o E (u32 (b|||c)):=SQ ho hx hy (.inr (.inl ⟨rfl,rfl⟩))
theorem PC {t u:TypeId} {x y:Operand} {b c:BitVec 32} (ho:o.op= .binOp .andNot t x y u) (hx:VL E x (u32 b)) (hy:VL E y (u32 c)):Ab P I o E (u32 (b&&&~~~c)):=SQ (f:=fun b c=>b&&&~~~c) ho hx hy (.inr (.inr (.inl ⟨rfl,rfl⟩)))
theorem Wm:Pr.le (is (.int .u32 0)) (u32 0#32):=fun _ _ _ h=>h
theorem fC (b:BitVec 32):(((b.toNat:Int)==0)=(b==0#32)):=by
 rw [Bool.eq_iff_iff,beq_iff_eq,beq_iff_eq]
 constructor
 · intro h;apply BitVec.eq_of_toNat_eq;simp;omega
 · rintro rfl;rfl
theorem ABQ (b:BitVec 32) (i:Nat):((((b>>>i)&&&1#32).toNat:Int)==1)=b.getLsbD i:=by
 rw [Bool.eq_iff_iff,beq_iff_eq]
 have h1:((b>>>i)&&&1#32).toNat=(b.toNat>>>i) % 2:=by
  rw [BitVec.toNat_and,BitVec.toNat_ushiftRight];exact Nat.and_one_is_mod _
 rw [h1]
 unfold BitVec.getLsbD
 rw [Nat.testBit,Nat.and_comm,Nat.and_one_is_mod]
 constructor
 ·
  intro h;have:(b.toNat>>>i) % 2=1:=by omega
  rw [this];rfl
 ·
  intro h
  rcases Nat.mod_two_eq_zero_or_one (b.toNat>>>i) with h2|h2
  · rw [h2] at h;cases h
  · omega
end
end Cp
namespace Go.Proofs.YteomgekmipcdpaaGreatDoor
open Go Go.RowKit Cp Go.Proofs.Tryz
-- sets of bits, AH7
variable {B:List (BitVec 32)} {i j k n:Nat}
def Jt (b:BitVec 32):Nat:=((List.range 32).find? fun i=>b.getLsbD i).getD 32
def MV (b:BitVec 32):List Nat:=(List.range 32).filter fun i=>b.getLsbD i
def iV (b:BitVec 32) (i:Nat):BitVec 32:=b&&&~~~(1#32<<<i)
def iW (b:BitVec 32) (i:Nat):BitVec 32:=b|||(1#32<<<i)
theorem aJ (i j:Nat):(1#32<<<i).getLsbD j=(decide (i=j)&&decide (j<32)):=by grind
theorem aK {b:BitVec 32} (hi:i<32):(iW b i).getLsbD j=(b.getLsbD j||decide (i=j)):=by grind [iW,aJ]
theorem wY {b:BitVec 32}:(iV b i).getLsbD j=(b.getLsbD j&& !decide (i=j)):=by grind [iV,aJ]
theorem Xv {α:Type} [DecidableEq α] {p:α→Bool} {x:α}:∀{l:List α},l.Nodup→l.find? p=some x→l.filter p=x::l.filter (fun y=>p y&& !(decide (x=y):Bool)):=by
 intro l
 induction l with
 |nil=>intro _ h;cases h
 |cons a l ih=>
  intro hn h
  obtain ⟨ha,hn⟩:=List.nodup_cons.1 hn
  rw [List.find?_cons] at h
  cases hp:p a with
  |true=>
   rw [hp] at h
   simp at h
   subst h
   rw [List.filter_cons,hp,List.filter_cons]
   simp [hp]
   exact List.filter_congr fun y hy=>by
    have:¬a=y:=fun e=>ha (e ▸ hy)
    simp [this]
  |false=>
   rw [hp] at h
   simp at h
   rw [List.filter_cons,hp,List.filter_cons,hp]
   simp
   exact ih hn D5
theorem fD {b:BitVec 32} (h:∀i,i<32→b.getLsbD i=false):b=0#32:=BitVec.eq_of_getLsbD_eq fun i hi=>by rw [h i hi];simp
theorem p_:MV 0#32=[]:=by decide
theorem SS {b:BitVec 32} (h:b≠0#32):(List.range 32).find? (fun i=>b.getLsbD i)=some (Jt b):=by
 unfold Jt
 cases hf:(List.range 32).find? (fun i=>b.getLsbD i) with
 |some x=>rfl
 |none=>
  rw [List.find?_eq_none] at hf
  exact absurd (fD fun i hi=>by simpa using hf i (List.mem_range.2 hi)) h
theorem qA {b:BitVec 32} (h:b≠0#32):b.getLsbD (Jt b)=true:=by simpa using List.find?_some (SS h)
theorem aL {b:BitVec 32} (h:b≠0#32):Jt b<32:=List.mem_range.1 (List.mem_of_find?_eq_some (SS h))
theorem SU {b:BitVec 32} (h:b≠0#32):MV b=Jt b::MV (iV b (Jt b)):=by
 unfold MV
 rw [Xv List.nodup_range (SS h)]
 congr 1
 exact List.filter_congr fun y _=>by rw [wY]
theorem H6 {b:BitVec 32}:i∈MV b↔b.getLsbD i=true:=by grind [MV]
theorem fE {b:BitVec 32} (h:b.getLsbD i=true):Jt b≤i:=by
 have hb:b≠0#32:=fun e=>by rw [e] at h;simp at h
 have h1:i∈MV b:=H6.2 h
 rw [SU hb] at h1
 rcases List.mem_cons.1 h1 with h2|h2
 · omega
 ·
  have h3:(MV b).Pairwise (· < ·):=List.Pairwise.filter _ List.pairwise_lt_range
  rw [SU hb] at h3
  exact Nat.le_of_lt ((List.pairwise_cons.1 h3).1 i h2)
theorem iX {b:BitVec 32} (h:b≠0#32):b&&&(-b)=1#32<<<(Jt b):=by
 apply BitVec.eq_of_getLsbD_eq
 intro i hi
 rw [BitVec.getLsbD_and,BitVec.getLsbD_neg,aJ]
 by_cases h1:Jt b=i
 ·
  subst h1
  have:¬∃j,j<Jt b∧b.getLsbD j=true:=fun ⟨j,hj,hb⟩=>by have:=fE hb;omega
  simp [hi,qA h,this]
 ·
  by_cases h2:Jt b<i
  ·
   have:∃j,j<i∧b.getLsbD j=true:=⟨_,h2,qA h⟩
   simp [this,h1,hi]
  ·
   have:b.getLsbD i=false:=by
    cases hb:b.getLsbD i with
    |false=>rfl
    |true=>have:=fE hb;omega
   simp [this,h1]
def Xw:List Nat:=[0,1,28,2,29,14,24,3,30,22,20,15,25,17,4,8,31,27,13,23,21,19,16,7,26,12,18,6,11,5,10,9]
theorem wZ:∀i,i<32→Xw[(((1#32<<<i)*125613361#32)>>>27).toNat]? =some i:=by decide
-- rows of bits as a relation (to stand behind Rq.lean and Bit.lean)
def EE (n:Nat) (B:List (BitVec 32)) (M:Nat→Nat→Bool):Prop:=B.length=n∧∀b x,B[b]? =some x→∀a,x.getLsbD a=(decide (a<n)&&M a b)
theorem Gm {M N:Nat→Nat→Bool} (h:EE n B M) (k:∀a b,a<n→b<n→M a b=N a b):EE n B N:=by
 refine ⟨h.1,fun b x hx a=> ?_⟩
 rw [h.2 b x hx a]
 have hb:b<n:=by rw [←h.1];rcases Nat.lt_or_ge b B.length with h2|h2;exact h2;rw [List.getElem?_eq_none h2] at hx;cases hx
 by_cases ha:a<n
 · rw [k a b ha hb]
 · simp [ha]
theorem SV (n:Nat):EE n (List.replicate n 0#32) (fun _ _=>false):=by
 refine ⟨List.length_replicate,fun b x hx a=> ?_⟩
 have:=List.eq_of_mem_replicate (List.mem_of_getElem? hx)
 subst this;simp
theorem UO {M N:Nat→Nat→Bool} (h:EE n B M) {t:Nat} {y:BitVec 32} (ho:∀a b,b≠t→N a b=M a b) (hy:∀a,y.getLsbD a=(decide (a<n)&&N a t)):EE n (B.set t y) N:=by
 refine ⟨by rw [List.length_set];exact h.1,fun b x hx a=> ?_⟩
 rw [List.getElem?_set] at hx
 split at hx
 · grind
 ·
  rename_i e
  rw [h.2 b x hx a,ho a b (fun e2=>e e2.symm)]
theorem Xx {M:Nat→Nat→Bool} (h:EE n B M) {t f:Nat} {x:BitVec 32} (hx:B[t]? =some x) (hf:f<n) (hn:n≤32):EE n (B.set t (iW x f)) (fun a b=>M a b||(decide (f=a)&&decide (t=b))):=by
 refine UO h (fun a b hb=> ?_) (fun a=> ?_)
 · grind
 ·
  rw [aK AA,h.2 t x hx a]
  by_cases ha:a<n
  · simp [ha]
  · grind
def LU (k:Nat) (m:Nat→Nat→Bool) (i a b:Nat):Bool:=if b<i then KT k m a b else m a b
theorem ABR (k:Nat) (m:Nat→Nat→Bool):LU k m 0=m:=by funext a b;unfold LU;rw [if_neg AA]
theorem qB {m:Nat→Nat→Bool} {a b:Nat} (hb:b<n):LU k m n a b=KT k m a b:=by unfold LU;rw [if_pos hb]
theorem qC (k:Nat) (m:Nat→Nat→Bool) (i a:Nat):LU k m i a k=m a k:=by unfold LU;split;exact Xm k m a;rfl
theorem Xy {m:Nat→Nat→Bool} {x:BitVec 32} (h:EE n B (LU k m i)) (hx:B[i]? =some x) (hk:k<n):x.getLsbD k=m k i:=by
 rw [h.2 i x hx k];unfold LU;rw [if_neg AA];simp [hk]
theorem qE {m:Nat→Nat→Bool} {x y:BitVec 32} (h:EE n B (LU k m i)) (hx:B[i]? =some x) (hy:B[k]? =some y) (hm:m k i=true):EE n (B.set i (x|||y)) (LU k m (i+1)):=by
 refine UO h (fun a b hb=> ?_) (fun a=> ?_)
 ·
  unfold LU
  by_cases h1:b<i
  · grind
  · grind
 ·
  rw [BitVec.getLsbD_or,h.2 i x hx a,h.2 k y hy a,qC]
  unfold LU
  rw [if_neg AA,if_pos AA]
  unfold KT
  rw [hm]
  cases decide (a<n)<;>simp
theorem we {m:Nat→Nat→Bool} (h:EE n B (LU k m i)) (hm:m k i=false):EE n B (LU k m (i+1)):=by unfold LU KT at*;grind
structure AKE (n:Nat) (l:List B0) (B A:List (BitVec 32)):Prop where
 bef:EE n B (Cm l n)
 aft:EE n A (fun b a=>Cm l n a b)
theorem H7 {l:List B0} {s:List Int} (h:EP l s=true):∀(k:Nat) {a b:Nat},Cm l k a b=true→(b:Int)∈s→(a:Int)∈s
 |0,a,b,hw,hb=>by
  unfold Cm Gl at hw
  rw [List.any_eq_true] at hw
  obtain ⟨r,hr,h2⟩:=hw
  simp at h2
  have:=Eu.1 h r hr (by rw [h2.2];exact hb)
  rw [h2.1] at this;exact this
 |k+1,a,b,hw,hb=>by
  have hw:KT k (Cm l k) a b=true:=hw
  unfold KT at hw
  rw [Bool.or_eq_true,Bool.and_eq_true] at hw
  rcases hw with hw|⟨h1,h2⟩
  · exact H7 h k hw hb
  · exact H7 h k h1 (H7 h k h2 hb)
def fF (n:Nat) (s:BitVec 32) (d:List Int):Prop:=∀i:Nat,s.getLsbD i=true↔(i:Int)∈d
theorem Xz {x s:BitVec 32}:(x&&&~~~s=0#32)↔∀i,x.getLsbD i=true→s.getLsbD i=true:=by
 constructor
 ·
  intro h i hi
  have h2:=congrArg (fun y=>BitVec.getLsbD y i) h
  have hlt:i<32:=by grind
  simp [hi,hlt] at h2
  exact h2
 ·
  intro h
  refine fD fun i hi=> ?_
  rw [BitVec.getLsbD_and,BitVec.getLsbD_not]
  cases hx:x.getLsbD i with
  |false=>simp
  |true=>rw [h i hx];simp
theorem fG (n:Nat):∀m,(List.range m).filter (fun j=>decide (j<n))=List.range (min n m)
 |0=>by simp
 |m+1=>by
  rw [List.range_succ,List.filter_append,fG n m]
  by_cases h:m<n
  ·
   rw [Nat.min_eq_right AA,Nat.min_eq_right AA,List.range_succ]
   simp [h]
  ·
   rw [Nat.min_eq_left AA,Nat.min_eq_left AA]
   simp [h]
theorem ABS {x:BitVec 32} {p:Nat→Bool} (h:∀j,x.getLsbD j=(decide (j<n)&&p j)) (hn:n≤32):MV x=(List.range n).filter p:=by
 unfold MV
 rw [List.filter_congr (q:=fun j=>decide (j<n)&&p j) (fun j _=>h j)]
 rw [show (fun j=>decide (j<n)&&p j)=fun j=>p j&&decide (j<n) from by funext j;rw [Bool.and_comm]]
 rw [←List.filter_filter,fG,Nat.min_eq_left hn]
theorem wg (b:BitVec 32):(MV b).length≤32:=by grind [MV]
end Go.Proofs.YteomgekmipcdpaaGreatDoor
namespace Cp
open Go Go.RowKit Go.Great
variable {f:FuncId} {ps:List Pr} {i:Nat} {x:Operand} {e t:TypeId} {w:World}
abbrev mark (D:Nat):Deferred:={ target:= .collected D,args:= #[] }
abbrev SW (D:Nat):Ay:=BH D (.deferred (some []))
abbrev Ji (P:Program) (g:Func) (R:Ending→World→Prop):Exit→Act→World→Prop:=bodyPostM (Dp none) 0 P g R
section
variable {P:Program} {fz:Nat} {E:Env} {M0:Av} {w0:World} {S:Nat→Prop} {rs:List Ay} {g:Func} {R:Ending→World→Prop} {ds:List Deferred} {n:Fm} {c:Code}
theorem Fin.aM {D:Nat} (k:Fin ⟨fz,ds⟩ E (Hp M0 w0 S rs) (Ji P g R) .ret):Fin ⟨fz,mark D::ds⟩ E (Hp M0 w0 S (SW D::rs)) (Ji P g R) .ret:=by
 rintro a w ⟨M,h1,h2,h3,h4⟩
 have h4:A8 M0 w0 S (SW D::rs) M w:=h4
 have hD:w.heap[D]? =some (.deferred (some [])):=(h4.hold _ (List.mem_cons_self ..)).1.2
 obtain ⟨h5,h6⟩:=h4.putObj (j:=0) (.deferred none) rfl
 have h7:=k { a with defers:=ds } (w.putObj D (.deferred none)) ⟨M,h1,rfl,fun s q hq=>q.st _ _ _ _ _ h6 (h3 s q hq),A8.J5 h5⟩
 have h2:a.defers=mark D::ds:=h2
 show LeavesInM _ _ _ _ _ _ a.defers _ _
 rw [h2]
 exact ⟨(fun h=>by cases h),.inl ⟨D,_,rfl,run_takeDeferred hD,h7⟩⟩
theorem Fin.X0 (k:Fin ⟨fz,[]⟩ E (Hp M0 w0 S rs) (bodyPost P g R) .ret):Fin ⟨fz,[]⟩ E (Hp M0 w0 S rs) (Ji P g R) .ret:=by
 rintro a w h
 obtain ⟨h1,v,h2,h3⟩:=k a w h
 show LeavesInM _ _ _ _ _ _ a.defers _ _
 rw [h1]
 exact ⟨v,h2,h3⟩
theorem Fin.WB:∀{Ds:List Nat} {rs:List Ay},Fin ⟨fz,[]⟩ E (Hp M0 w0 S rs) (bodyPost P g R) .ret→Fin ⟨fz,Ds.map mark⟩ E (Hp M0 w0 S (Ds.map SW++rs)) (Ji P g R) .ret
 |[],_,k=>Fin.X0 k
 |_::_,_,k=>Fin.aM (Fin.WB k)
theorem Fin.ABT {rs:List Ay} (k:Fin n E (Hp M0 w0 S rs) (Ji P g R) .ret):Fin n E (Hp M0 w0 S rs) (Ji P g R) .normal:=k
theorem PD {args:Array Value} (hf:P.funcs[f]? =some g) (hb:g.body=some c) (h:c.wp P (Ji P g R) { tmps:=args++Array.replicate (g.ntmps-args.size) undef,defers:=[] } w):Calls P f args w R:=
 callsIn_wide.1 (callsIn_of_wp_marks (F:=Dp none) (n:=0) hf hb trivial (wpIn_wide.2 h))
variable {α:Type} {pre:List Ay} {C:α→Prop} {res:α→Pr} {post:α→List Ay} {M1:Av} {w1:World}
theorem JG.ofM (hf : P.funcs[f]? = some g) (hb : g.body = some c) (hname : (g.name == "runtime.NumGoroutine") = false) (hlen : ps.length ≤ g.ntmps) (h : ∀ M0 w0 S rs M1 w1, Tr (Yr P) g.ntmps (L2 0 ps) (Hp M0 w0 S (pre ++ Ac M1 w1 :: rs)) c (Ji P g (Rt M0 w0 S rs M1 w1 C res post))) : JG P f ps pre C res post := by
 refine ⟨⟨g,hf,hname,by rw [hb];rfl⟩,fun M0 w0 S rs M w vs hI hv=> ?_⟩
 refine PD hf hb (h M0 w0 S rs M w _ _ ⟨M,?_,rfl,F_ hv,?_⟩)
 ·
  have:=hv.length
  simp [this];omega
 · exact ZH
end
def aN (g:Nat) (HX:List Nat):Ay where
 blk:=none
 new:=true
 h M w:=∀(j:Nat) (x:Nat),HX[j]? =some x→w.cell? ⟨g,j,none⟩=some (.int .u8 (x:Int))∧¬M g j
 st M w M' w' he _ h:=fun j x hx=>by
  obtain ⟨h1,h2⟩:=h j x hx
  obtain ⟨h3,h4⟩:=he.keep ⟨g,j,none⟩ _ h1 h2
  exact ⟨h4,h3⟩
def CI (p:Prop):Ay:=⟨none,true,fun _ _=>p,fun _ _ _ _ _ _ h=>h⟩
section
variable {P:Program} {L:Lg P} {n:Fm} {E:Env} {M0:Av} {w0:World} {S:Nat→Prop} {rs:List Ay} {o:Oper} {r:List Oper} {ops:Array Oper} {Q:Exit→Act→World→Prop} {c:Code}
theorem Tr.prop {p:Prop} (j:Nat) (hj:rs[j]? =some (CI p)) (k:p→Tr L n E (Hp M0 w0 S rs) c Q):Tr L n E (Hp M0 w0 S rs) c Q:=fun a w hs=>by
 obtain ⟨M,h1,h2,h3,h4⟩:=hs
 have h4:A8 M0 w0 S rs M w:=h4
 exact k (h4.hold _ (List.mem_of_getElem? hj)).1 a w ⟨M,h1,h2,h3,h4⟩
theorem Fin.fH {e:Exit} {p:Prop} (hp:p) (k:Fin n E (Hp M0 w0 S (CI p::rs)) Q e):Fin n E (Hp M0 w0 S rs) Q e:=fun a w hs=>by
 obtain ⟨M,h1,h2,h3,h4⟩:=hs
 have h4:A8 M0 w0 S rs M w:=h4
 exact k a w ⟨M,h1,h2,h3,A8.Jm h4 (r:=CI p) rfl hp⟩
theorem Tr.fH {p:Prop} (hp:p) (k:Tr L n E (Hp M0 w0 S (CI p::rs)) c Q):Tr L n E (Hp M0 w0 S rs) c Q:=fun a w hs=>by
 obtain ⟨M,h1,h2,h3,h4⟩:=hs
 have h4:A8 M0 w0 S rs M w:=h4
 exact k a w ⟨M,h1,h2,h3,A8.Jm h4 (r:=CI p) rfl hp⟩
theorem ABU {g j:Nat} {HX:List Nat} {y:Nat} (ho:o.op= .load t x) (ht:D6 P t=true) (hx:VL E x (is (.pointer (some ⟨g,i,none⟩)))) (hy:HX[i]? =some y):L4 P M0 w0 S j (SR.c (aN g HX)) o E (is (.int .u8 (y:Int))):=by
 intro M w a rs he hI hj
 have h0:a.eval x= .pointer (some ⟨g,i,none⟩):=hx.ev he Ap
 have hj':rs[j]? =some (aN g HX):=hj
 obtain ⟨h1,_⟩:=(hI.hold _ (List.mem_of_getElem? hj')).1 i y hy
 have hrun:(execOp a.eval o).run P w= .ok (.value (.int .u8 (y:Int))) w:=by simp [execOp,ho,h0,Instr.loadAt,Instr.sureAddr,loadVar,EX ht,h1]
 rw [hrun]
 exact ⟨rfl,Below.refl _ _⟩
end
section
variable {P:Program}
theorem Nd.of {gf:Nat} {lb:Array Value} {α:Type} {enc:α→Value} {xs:List α} {own:List α→List Ay} {g:Func} {c:Code} (hf:P.funcs[gf]? =some g) (hb:g.body=some c) (hlen:ps.length+1≤g.ntmps) (hps:∀M w,HL M w ps lb.toList) (h:∀(M0:Av) (w0:World) (S:Nat→Prop) (l:Nat) (β:Type) (R Rx:List α→β→List Ay) (M1:Av) (w1:World),
   (∀pre x d M w,(pre++[x])<+:xs→A8 M0 w0 S (own (pre++[x])++R pre d) M w→YieldAt (Dp none) 0 P l #[enc x] w fun e w'=>∃M' d',Ext M w M' w'∧
    ((e= .returned (.bool true)∧A8 M0 w0 S (own (pre++[x])++R (pre++[x]) d') M' w')∨(e= .returned (.bool false)∧A8 M0 w0 S (own (pre++[x])++Rx (pre++[x]) d') M' w')))→
   ∀ d, Tr (fA P none) g.ntmps (L2 0 (is (.func (.yield l) #[] #[]) :: ps)) (Hp M0 w0 S (own [] ++ Ac M1 w1 :: R [] d)) c
    (Ji P g fun e w'=>(∃v,e= .returned v)∧∃M' d',Ext M1 w1 M' w'∧(A8 M0 w0 S (own xs++R xs d') M' w'∨∃pre,pre<+:xs∧A8 M0 w0 S (own pre++Rx pre d') M' w'))):Nd P gf lb enc xs own:=by
 intro M0 w0 S l β R Rx hy d M w hI
 refine callsIn_of_wp_marks (F:=Dp none) (n:=0) hf hb trivial (h M0 w0 S l β R Rx M w hy d _ _ ⟨M,?_,rfl,?_,?_⟩)
 ·
  have:=(hps M w).length
  simp at this ⊢;omega
 ·
  have h2:HL M w (is (.func (.yield l) #[] #[])::ps) ((.func (.yield l) #[] #[])::lb.toList):=⟨rfl,hps M w⟩
  have h3:=F_ (m:=g.ntmps-(#[Value.func (.yield l) #[] #[]]++lb:Array Value).size) h2
  have e1:(Value.func (.yield l) #[] #[]::lb.toList).toArray= #[Value.func (.yield l) #[] #[]]++lb:=by apply Array.ext';simp
  rw [e1] at h3;exact h3
 · exact ZH
end
section
variable {P:Program} {I:Cc} {E:Env} {o:Oper}
theorem ABV {u:TypeId} {y:Operand} {b:BitVec 32} (ho:o.op= .binOp .eql t x y u) (hx:VL E x (u32 b)) (hy:VL E y (is (.int .u32 0))):Ab P I o E (bool (b==0#32)):=
 Ab.same fun M w a he _=>by
  have h1:a.eval x= .int .u32 b.toNat:=hx.ev he Ap
  have h2:a.eval y= .int .u32 0:=hy.ev he Ap
  refine ⟨.bool (b==0#32),?_,rfl⟩
  rw [←fC]
  simp [execOp,ho,h1,h2,eqGuard,binOp,Op.intCmp]
theorem qF {u:TypeId} {y:Operand} {b:BitVec 32} (ho:o.op= .binOp .neq t x y u) (hx:VL E x (u32 b)) (hy:VL E y (is (.int .u32 0))):Ab P I o E (bool (!(b==0#32))):=
 Ab.same fun M w a he _=>by
  have h1:a.eval x= .int .u32 b.toNat:=hx.ev he Ap
  have h2:a.eval y= .int .u32 0:=hy.ev he Ap
  refine ⟨.bool (!(b==0#32)),?_,rfl⟩
  rw [←fC]
  simp [execOp,ho,h1,h2,eqGuard,binOp,Op.intCmp]
  rw [Bool.eq_iff_iff];simp
theorem ABW {u:TypeId} {y:Operand} {b:BitVec 32} (ho:o.op= .binOp .eql t x y u) (hx:VL E x (u32 ((b>>>i)&&&1#32))) (hy:VL E y (is (.int .u32 1))):Ab P I o E (bool (b.getLsbD i)):=
 Ab.same fun M w a he _=>by
  have h1:a.eval x= .int .u32 ((b>>>i)&&&1#32).toNat:=hx.ev he Ap
  have h2:a.eval y= .int .u32 1:=hy.ev he Ap
  refine ⟨.bool (b.getLsbD i),?_,rfl⟩
  rw [←ABQ]
  simp [execOp,ho,h1,h2,eqGuard,binOp,Op.intCmp]
theorem qG {b:BitVec 32} (ho:o.op= .unOp .neg t x) (hx:VL E x (u32 b)):Ab P I o E (u32 (-b)):=
 Ab.same fun M w a he _=>by
  have h1:a.eval x= .int .u32 b.toNat:=hx.ev he Ap
  refine ⟨.int .u32 ((-b).toNat:Int),?_,rfl⟩
  have e1:IntKind.u32.wrap (0-(b.toNat:Int))=((-b).toNat:Int):=by
   rw [fB,BitVec.toNat_neg];have:=b.isLt;omega
  rw [←e1]
  simp [execOp,ho,h1,Op.unary,Op.intArith]
theorem qH {u:TypeId} {y:Operand} {b c:BitVec 32} (ho:o.op= .binOp .mul t x y u) (hx:VL E x (u32 b)) (hy:VL E y (u32 c)):Ab P I o E (u32 (b*c)):=
 Ab.same fun M w a he _=>by
  have h1:a.eval x= .int .u32 b.toNat:=hx.ev he Ap
  have h2:a.eval y= .int .u32 c.toNat:=hy.ev he Ap
  refine ⟨.int .u32 ((b*c).toNat:Int),?_,rfl⟩
  have e1:IntKind.u32.wrap ((b.toNat:Int)*(c.toNat:Int))=((b*c).toNat:Int):=by
   rw [fB,BitVec.toNat_mul]
   have e2:(b.toNat:Int)*(c.toNat:Int)=((b.toNat*c.toNat:Nat):Int):=by rw [Int.natCast_mul]
   rw [e2]
   generalize b.toNat*c.toNat=n
   show ((n:Int) % 4294967296)=((n % 4294967296:Nat):Int)
   omega
  rw [←e1]
  simp [execOp,ho,h1,h2,eqGuard,binOp,Op.intArith]
theorem wh {u:TypeId} {y:Operand} {b:BitVec 32} {k:IntKind} {i:Int} (ho:o.op= .binOp .shr t x y u) (hx:VL E x (u32 b)) (hy:VL E y (is (.int k i))) (hi:0≤i):Ab P I o E (u32 (b>>>i.toNat)):=
 Ab.same fun M w a he _=>by
  have h1:a.eval x= .int .u32 b.toNat:=hx.ev he Ap
  have h2:a.eval y= .int k i:=hy.ev he Ap
  refine ⟨.int .u32 ((b>>>i.toNat).toNat:Int),?_,rfl⟩
  rw [←pq]
  simp [execOp,ho,h1,h2,eqGuard,binOp,Op.shift,show ¬i<0 by omega,IntKind.bits]
theorem aO {y:Operand} {k:IntKind} {i:Int} {g len:Nat} (ho:o.op= .indexAddr t x y) (ht:P.underlying t=some (.array len e)) (hz:Az P e=some 1) (hx:VL E x (is (.pointer (some ⟨g,0,none⟩)))) (hy:VL E y (is (.int k i))) (h0:0≤i) (h1:i<len):
  Ab P I o E (is (.pointer (some ⟨g,i.toNat,none⟩))):=
 Ab.same fun M w a he _=>by
  have h2:a.eval x= .pointer (some ⟨g,0,none⟩):=hx.ev he Ap
  have h3:a.eval y= .int k i:=hy.ev he Ap
  refine ⟨.pointer (some ⟨g,i.toNat,none⟩),?_,rfl⟩
  simp [execOp,ho,h2,h3,Instr.indexAt,asIntOf,run_underlying ht,CL hz,h0,h1,Instr.sureAddr,Addr.add]
  intro;omega
end
end Cp
namespace Go.Proofs.YteomgekmipcdpaaGreatDoor
open Go Go.RowKit Cp Go.Proofs.Tryz
abbrev FJ:Ay:=aN 0 Xw
theorem Vd {b:BitVec 32} (h:b≠0#32):Xw[(((((b&&& -b)*125613361#32)>>>27).toNat:Nat):Int).toNat]? =some (Jt b):=by
 rw [Int.toNat_natCast,iX h];exact wZ _ (aL h)
theorem wj (b:BitVec 32):(((b>>>27).toNat:Nat):Int)<32:=by
 rw [BitVec.toNat_ushiftRight,Nat.shiftRight_eq_div_pow];have:=b.isLt;omega
theorem ABX {b:BitVec 32} (hb:b≠0#32):Ba prog 98 [u32 b] (int ((Jt b:Nat):Int)) (FJ) (fun _=>FJ):=by
 refine Ba.of func98 rfl rfl Am fun M0 w0 S rs M1 w1=> ?_
 have II:=aL hb
 refine ac ?_
 refine Tr.seq (Tr.seq (Tr.Bq (cm rfl (co rfl (ABV rfl (vl rfl) (vl rfl)) ?_))))
 refine ac ?_
 refine Tr.cn rfl ?_ ?_<;>intro h1 q1
 exfalso;exact hb Mu
 refine ac ?_
 refine ac ?_
 refine co rfl (qG rfl (vl rfl)) (co rfl (Xu rfl (vl rfl) (vl rfl)) ?_)
 refine co rfl (qH (c:=125613361#32) rfl (vl rfl) (vl rfl)) ?_
 refine co rfl (wh rfl (vl rfl) (vl rfl) AD) (co rfl (aO rfl underlying264 Nq (vl rfl) (vl rfl) (Int.natCast_nonneg _) (wj _)) (co rfl (Bi 0 rfl (ABU rfl rfl (vl rfl) (Vd hb))) ?_))
 refine co rfl (W0 rfl underlying5 underlying3 (vl rfl) Ku) ?_
 refine ac ?_
 refine Tr.ret (Fin.ER rfl rfl ?_ (fun _ _ _ _=>rfl))
 · exact Lr
end Go.Proofs.YteomgekmipcdpaaGreatDoor
namespace Cp
open Go Go.RowKit Go.Great
variable {a:Act} {ts:Array TypeId} {M:Av} {f:FuncId} {ps:List Pr} {rs:List Ay} {d i j:Nat} {x:Operand} {p q:Pr} {T e t:TypeId} {v:Value} {w:World}
section
variable {P:Program} {Q:Exit→Act→World→Prop} {K:Act→World→Prop} {a:Act} {w:World} {o:Oper} {ops:Array Oper}
theorem JS {rest:List Nat} (ho:ops[i]? =some o) (hg:o.guard=none) (h:o.wpIn (Dp none) 0 P a w (wpOpsIn (Dp none) 0 P ops Q rest) Q):wpOpsIn (Dp none) 0 P ops Q (i::rest) a w:=by
 unfold wpOpsIn;rw [ho];dsimp only;rw [if_pos (by simp [Region.wanted,hg])];exact h
theorem fI (ho:o.op= .move x) (k:K (a.put o.dst (a.eval x)) w):o.wpIn (Dp none) 0 P a w K Q:=
 e7 (by unfold Lp;rw [ho]) (fun _ _ h=>h) (by unfold Oper.wp;simp [execOp,ho];exact k)
theorem ABY {b:Bool} (ho:o.op= .unOp .not t x) (hx:a.eval x= .bool b) (k:K (a.put o.dst (.bool (!b))) w):o.wpIn (Dp none) 0 P a w K Q:=
 e7 (by unfold Lp;rw [ho]) (fun _ _ h=>h) (by unfold Oper.wp;simp [execOp,ho,hx,Op.unary];exact k)
theorem Tr.qI {n:Fm} {E:Env} {M0 M1:Av} {w0 w1:World} {S:Nat→Prop} {id t0 t3 d0 d1 d2 d3:Nat} {o0 o1 o2 o3:Oper} {ty:TypeId} {α β:Type} {l:Nat} {enc:α→Value} {xs:List α} {own:List α→List Ay} {R Rx:List α→β→List Ay} {pre:List α} {x:α} {d:β} (hy:∀pre x d M w,(pre++[x])<+:xs→A8 M0 w0 S (own (pre++[x])++R pre d) M w→YieldAt (Dp none) 0 P l #[enc x] w fun e w'=>∃M' d',Ext M w M' w'∧
    ((e= .returned (.bool true)∧A8 M0 w0 S (own (pre++[x])++R (pre++[x]) d') M' w')∨(e= .returned (.bool false)∧A8 M0 w0 S (own (pre++[x])++Rx (pre++[x]) d') M' w'))) (hpre:(pre++[x])<+:xs) (g0:o0.guard=none) (g1:o1.guard=none) (g2:o2.guard=none) (g3:o3.guard=none) (p0:o0.op= .move (.tmp t0)) (p1:o1.op= .move (.tmp t3)) (p2:o2.op= .call { callee:= .value (.tmp d0),args:= #[.tmp d1],argTypes:=ts }) (p3:o3.op= .unOp .not ty (.tmp d2)) (e0:o0.dst=some d0) (e1:o1.dst=some d1) (e2:o2.dst=some d2) (e3:o3.dst=some d3) (n0:d0<n) (n1:d1<n) (n2:d2<n) (n3:d3<n) (ne:d0≠d1∧t3≠d0) (h0:E.lookup t0=some (is (.func (.yield l) #[] #[]))) (h3:E.lookup t3=some (is (enc x))) (f0:E.lookup d0=none) (f1:E.lookup d1=none) (f2:E.lookup d2=none) (kT:∀d',Fin n ((d3,bool false)::E) (Hp M0 w0 S (own (pre++[x])++Ac M1 w1::R (pre++[x]) d')) Q .normal) (kF:∀d',Fin n ((d3,bool true)::E) (Hp M0 w0 S (own (pre++[x])++Ac M1 w1::Rx (pre++[x]) d')) Q .normal):
  Tr (fA P none) n E (Hp M0 w0 S (own (pre++[x])++Ac M1 w1::R pre d)) (.region id #[o0,o1,o2,o3] false) Q:=by
 rintro a w ⟨M,hsz,hdf,hE,hI⟩
 have hI:A8 M0 w0 S (own (pre++[x])++Ac M1 w1::R pre d) M w:=hI
 obtain ⟨hx,hI2⟩:=gl hI
 have jy:a.tmps.getD t0 undef= .func (.yield l) #[] #[]:=hE _ _ h0
 have hv3:a.tmps.getD t3 undef=enc x:=hE _ _ h3
 have fin:∀(b:Bool) (tl:List Ay) (w':World) (M':Av),Ext M w M' w'→A8 M0 w0 S (own (pre++[x])++tl) M' w'→
   St n ((d3,bool (!b))::E) (Hp M0 w0 S (own (pre++[x])++Ac M1 w1::tl)) ((((a.put (some d0) (.func (.yield l) #[] #[])).put (some d1) (enc x)).put (some d2) (.bool b)).put (some d3) (.bool (!b))) w':=by
  intro b tl w' M' he hh
  refine ⟨M',by simp only [B4];exact hsz,by simp only [put_defers];exact hdf,fun s q hq=> ?_,A8.perm List.perm_middle.symm (A8.Jm hh (r:=Ac M1 w1) rfl (hx.trans he))⟩
  simp only [List.lookup] at hq
  by_cases hs:s=d3
  · subst hs;simp at hq;subst hq;rw [B1 (by simp only [B4];rw [hsz];exact n3)];rfl
  ·
   rw [show (s==d3)=false by simpa using hs] at hq
   have Vh:s≠d2:=fun e=>by rw [e,f2] at hq;cases hq
   have hs1:s≠d1:=fun e=>by rw [e,f1] at hq;cases hq
   have hs0:s≠d0:=fun e=>by rw [e,f0] at hq;cases hq
   rw [BQ hs,BQ Vh,BQ hs1,BQ hs0]
   exact q.st _ _ _ _ _ he (hE s q hq)
 refine wpIn_region ?_
 show wpOpsIn (Dp none) 0 P _ Q [0,1,2,3] a w
 refine JS (o:=o0) rfl g0 (fI p0 ?_)
 refine JS (o:=o1) rfl g1 (fI p1 ?_)
 rw [e0,e1]
 have k0:a.eval (.tmp t0)= .func (.yield l) #[] #[]:=jy
 have k3:(a.put (some d0) (a.eval (.tmp t0))).eval (.tmp t3)=enc x:=by
  show (a.put (some d0) _).tmps.getD t3 undef=_
  rw [BQ ne.2];exact hv3
 rw [k3,k0]
 refine JS (o:=o2) rfl g2 (pW (v:=enc x) p2 ?_ ?_ (hy pre x d M w hpre hI2) ?_)
 ·
  show (Act.put _ _ _).tmps.getD d0 undef=_
  rw [BQ ne.1,B1 (by rw [hsz];exact n0)]
 ·
  show (Act.put _ _ _).tmps.getD d1 undef=_
  rw [B1 (by rw [B4,hsz];exact n1)]
 ·
  rintro e w' ⟨M',d',he,hh⟩
  have hnot:∀(b:Bool) (tl:List Ay),A8 M0 w0 S (own (pre++[x])++tl) M' w'→Fin n ((d3,bool (!b))::E) (Hp M0 w0 S (own (pre++[x])++Ac M1 w1::tl)) Q .normal→wpOpsIn (Dp none) 0 P #[o0,o1,o2,o3] Q [3] (((a.put (some d0) (.func (.yield l) #[] #[])).put (some d1) (enc x)).put o2.dst (.bool b)) w':=by
   intro b tl hh k
   rw [e2]
   refine JS (o:=o3) rfl g3 (ABY (b:=b) p3 ?_ ?_)
   ·
    show (Act.put _ _ _).tmps.getD d2 undef=_
    rw [B1 (by simp only [B4];rw [hsz];exact n2)]
   ·
    rw [e3]
    exact k _ _ (fin b tl w' M' he hh)
  rcases hh with ⟨rfl,hh⟩|⟨rfl,hh⟩
  · grind
  · grind
theorem wm {I:Cc} {E:Env} {f:Fn} {u:Value} (ho:o.op= .makeFunc f #[] #[x]) (hx:VL E x (is u)):Ab P I o E (is (.func f #[] #[u])):=
 Ab.same fun M w a he _=>by
  have h1:a.eval x=u:=hx.ev he Ap
  exact ⟨.func f #[] #[u],by simp [execOp,ho,Instr.makeFunc,h1],rfl⟩
end
section
variable {P:Program} {L:Lg P} {n:Fm} {fz:Nat} {E:Env} {M0:Av} {w0:World} {S:Nat→Prop} {o:Oper}
def KW (p:Pr) (v:Value):Ay:=⟨none,true,fun M w=>p.h M w v,fun M w M' w' he _ h=>p.st M w M' w' v he h⟩
def zF (e:TypeId) (zs:List Value) (v:Value):Ay:=match v with| .slice (some a) _ _=>AE true a.block e (zs.map is)|_=>Bo
def qJ (R:Value→Value→Value→Ay) (u:Value):Ay:=match u with| .tuple t=>R (t.getD 1 undef) (t.getD 2 undef) (t.getD 0 undef)|_=>Bo
def X5 (R:Value→Value→Ay) (u:Value):Ay:=match u with| .tuple t=>R (t.getD 1 undef) (t.getD 0 undef)|_=>Bo
theorem aP {s t:Nat} {R:Value→Value→Value→Ay}:SR.at_ a ⟨.three d s t,qJ R⟩=R (a.tmps.getD s undef) (a.tmps.getD t undef) (a.tmps.getD d undef):=rfl
theorem Qh {s:Nat} {R:Value→Value→Ay}:SR.at_ a ⟨.two d s,X5 R⟩=R (a.tmps.getD s undef) (a.tmps.getD d undef):=rfl
theorem D7.conv {R1 R2:SR} {r:Result Next} (hq:Pr.le p q) (hR:∀v,R1.at_ (a.put o.dst v)=R2.at_ (a.put o.dst v)) (h:D7 P M0 w0 S o a M w p j R1 rs r):D7 P M0 w0 S o a M w q j R2 rs r:=by
 cases r with
 |halt x w'=>exact h
 |ok x w'=>
  cases x
  case value v=>obtain ⟨M',g1,g2,g3⟩:=h;exact ⟨M',hq _ _ _ g1,g2,by rw [←hR];exact g3⟩
  case skip=>obtain ⟨M',g1,g2,g3⟩:=h;exact ⟨M',hq _ _ _ g1,g2,by rw [←hR];exact g3⟩
  case enter f args=>
   refine Calls.mono h ?_
   rintro e w'' ⟨v,M',g0,g1,g2,g3⟩
   exact ⟨v,M',g0,hq _ _ _ g1,g2,by rw [←hR];exact g3⟩
  all_goals exact h
theorem JT (h:Cb M w E o a) (s:Nat) {p0:Pr} (hp0:p0.h M w (a.tmps.getD s undef)):Cb M w ((s,Ag (a.tmps.getD s undef) p0)::E) o a:=fun c p hc hp=>by
 simp only [List.lookup] at hp
 by_cases hcs:c=s
 · subst hcs;simp only [beq_self_eq_true,Option.some.injEq] at hp;subst hp;exact ⟨rfl,hp0⟩
 · rw [show (c==s)=false by simpa using hcs] at hp;exact h c p hc hp
theorem ABZ {s t:Nat} {R:SR} {p1 p2:Pr} {p:Value→Value→Pr} {R':Value→Value→Value→Ay} (hd:o.dst=some d) (hs:d≠s) (ht:d≠t) (hq:∀v1 v2,Pr.le (p v1 v2) q) (hg:o.guard=none) (h1:E.lookup s=some p1) (h2:E.lookup t=some p2) (hls:s∈looks o) (hlt:t∈looks o) (h:∀v1 v2,DY P M0 w0 S n j R ⟨d,R' v1 v2⟩ o ((s,Ag v1 p1)::(t,Ag v2 p2)::E) (p v1 v2)):DY P M0 w0 S n j R ⟨.three d s t,qJ R'⟩ o E q:=by
 refine ⟨hg,fun M w a rs hsz he hI hj=> ?_⟩
 refine D7.conv (hq _ _) (fun v=> ?_) ((h (a.tmps.getD s undef) (a.tmps.getD t undef)).2 M w a rs hsz (JT (JT he t (he t p2 hlt h2)) s (he s p1 hls h1)) hI hj)
 rw [aP,hd,BQ (Ne.symm hs),BQ (Ne.symm ht)];rfl
theorem qK (hg:o.guard=none) (hd:o.dst=some d) (hn:d<n) (h:∀I,Ab P I o E p):DY P M0 w0 S n j (SR.c Bo) ⟨d,KW p⟩ o E p:=by
 refine ⟨hg,fun M w a rs hsz he hI hj=> ?_⟩
 have hj':rs[j]? =some Bo:=hj
 have hat:∀v,SR.at_ (a.put o.dst v) ⟨d,KW p⟩=KW p v:=fun v=>by show KW p ((a.put o.dst v).tmps.getD d undef)=_;rw [hd,B1 H_]
 have hg2:=h (Hp M0 w0 S rs) M w a he hI
 revert hg2
 generalize (execOp a.eval o).run P w=r
 intro hg2
 have key:∀v w',p.h M w' v→Below w.heap.size w w'→∃M',p.h M' w' v∧Ext M w M' w'∧A8 M0 w0 S (rs.set j (SR.at_ (a.put o.dst v) ⟨d,KW p⟩)) M' w':=fun v w' hv hb=>by
  refine ⟨M,hv,Ext.below hb,?_⟩
  rw [hat]
  exact A8.Cw ((Hp M0 w0 S rs).st _ _ _ hb hI) hj' rfl rfl hv
 cases r with
 |halt x w'=>exact hg2
 |ok x w'=>
  cases x
  case value v=>exact key v w' hg2.1 hg2.2
  case skip=>exact key undef w' hg2.1 hg2.2
  case enter f args=>
   obtain ⟨hb,hc⟩:=hg2
   refine Calls.mono hc ?_
   rintro e w'' ⟨v,g0,g1,g2⟩
   obtain ⟨M',k1,k2,k3⟩:=key v w'' g1 (Ol hb g2)
   exact ⟨v,M',g0,k1,k2,k3⟩
  all_goals exact hg2
theorem qL {y:Operand} {m gP:Nat} {z:Value} (hg:o.guard=none) (hd:o.dst=some d) (hn:d<n) (ho:o.op= .makeSlice t x y) (ht:P.underlying t=some (.slice e)) (hs:Az P e=some 1) (hby:Br P e=some gP) (hz:BM P e=some [z]) (h1:z.oneCell'=true) (hx:VL E x (int ((m:Nat):Int))) (hy:VL E y (int ((m:Nat):Int))) (hm:m≤maxLen) (hb:gP*m≤281474976710656):DY P M0 w0 S n j (SR.c Bo) ⟨d,zF e (List.replicate m z)⟩ o E (Cp.ex fun b=>is (Jp m b)):=by
 refine ⟨hg,fun M w a rs Uz he hI hj=> ?_⟩
 have hx1:a.eval x= .int .i64 m:=hx.ev he Ap
 have hy1:a.eval y= .int .i64 m:=hy.ev he Ap
 have hi:∃i,P.info? e=some i∧i.size=1∧i.bytes=gP∧∃z',i.zero=some z'∧z'.cells= #[z]:=by
  unfold Az at hs;unfold Br at hby;unfold BM at hz
  cases hi:P.info? e with
  |none=>rw [hi] at hs;cases hs
  |some i=>
   rw [hi] at hs hby hz
   simp at hs hby hz
   obtain ⟨z',h2,h3⟩:=hz
   exact ⟨i,rfl,hs,hby,z',h2,by rw [←Array.toList_inj,h3]⟩
 obtain ⟨i,hi,hi1,hi2,z',E2,HW⟩:=hi
 have hmk:madeCells z'.cells m=(List.replicate m z).toArray:=by
  rw [HW]
  apply Array.ext
  · simp [madeCells]
  ·
   intro j h1 h2
   simp [madeCells,Nat.mod_one]
 have hrun:=run_make (P:=P) w t e i z' ht hi E2 .i64 .i64 (m:Int) (m:Int) AA (Int.le_refl _) (by rw [hi2];have h0:((gP*m:Nat):Int)≤281474976710656:=Int.ofNat_le.2 hb;rw [←Int.natCast_mul];exact h0) U7
 rw [hi1] at hrun
 simp only [Int.toNat_natCast,Nat.mul_one] at hrun
 rw [hmk] at hrun
 have Ep:(execOp a.eval o).run P w= .ok (.value (Jp m w.heap.size)) (w.alloc (.cells (List.replicate m z).toArray e)):=by simp [execOp,ho,hx1,hy1,hrun]
 rw [Ep]
 have hb:Below w.heap.size w (w.alloc (.cells (List.replicate m z).toArray e)):=(Below.refl _ _).alloc (Nat.le_refl _) _
 have h2:=Ext.below (M:=M) hb
 have Eo:Ext M w (fun b o=>M b o∨b=w.heap.size) (w.alloc (.cells (List.replicate m z).toArray e)):=by
  refine ⟨h2.size,fun a v hc hm=>⟨fun hx=> ?_,(h2.keep a v hc hm).2⟩,fun b o ho hp hm=>⟨fun hx=> ?_,(h2.obj b o ho hp hm).2⟩⟩
  ·
   rcases hx with hx|hx
   · exact hm hx
   · exact Ew
  · grind
 have hs1:(w.alloc (.cells (List.replicate m z).toArray e)).heap.size=w.heap.size+1:=by simp
 have hat:(SR.at_ (a.put o.dst (Jp m w.heap.size)) ⟨d,zF e (List.replicate m z)⟩)=AE true w.heap.size e ((List.replicate m z).map is):=by unfold SR.at_ Slot.val;dsimp only;rw [hd,B1 Hf];rfl
 refine ⟨fun b o=>M b o∨b=w.heap.size,⟨_,rfl⟩,Eo,?_⟩
 rw [hat]
 refine hI.replace hj Eo hb.os hb.tape hb.output (fun k hk _=>hb.block k hk) rfl (fun b o hm _=> .inl hm) (fun b o hx=> ?_) ?_ rfl (fun b hbk=> ?_)
 ·
  rcases hx with hx|hx
  · have:=hI.bd _ _ hx;omega
  · omega
 · exact ⟨fun o=> .inr rfl,List.replicate m z,heap_alloc_new w _,J3 _ _ _,fun c hc=>by rw [List.eq_of_mem_replicate hc];exact h1⟩
 ·
  have En:some w.heap.size=some b:=hbk
  injection En with e1
  subst e1
  exact ⟨by rw [hs1];omega,.inr (Nat.le_refl _)⟩
theorem OX {s:Nat} {op:Op} (h:(Operand.tmp s)∈op.operands.toList) (ho:o.op=op):s∈looks o:=List.mem_filterMap.2 ⟨_,by rw [ho];exact h,rfl⟩
theorem wo {s x y:Nat} {ps:Value→Value→List Pr} (hg:o.guard=none) (hd:o.dst=some d) (hn:d<n) (ho:o.op= .box T (.tmp s)) (hx:d≠x) (hy:d≠y):
  DY P M0 w0 S n j ⟨.three s x y,qJ fun v1 v2=>KW (agg (ps v1 v2))⟩ ⟨.three d x y,qJ fun v1 v2=>Er T (ps v1 v2)⟩ o E (Cp.ex fun b=>ptr b 0):=by
 refine ⟨hg,fun M w a rs hsz he hI hj=> ?_⟩
 have hj':rs[j]? =some (KW (agg (ps (a.tmps.getD x undef) (a.tmps.getD y undef))) (a.tmps.getD s undef)):=hj
 have hjl:j<rs.length:=by grind
 have hr:=(hI.hold _ (List.mem_of_getElem? hj')).1
 have hI2:A8 M0 w0 S (rs.set j Bo) M w:=A8.Cw hI hj' rfl rfl trivial
 have he2:Cb M w ((s,agg (ps (a.tmps.getD x undef) (a.tmps.getD y undef)))::E) o a:=fun c p hc hp=>by
  simp only [List.lookup] at hp
  by_cases hcs:c=s
  · subst hcs;simp only [beq_self_eq_true,Option.some.injEq] at hp;subst hp;exact hr
  · rw [show (c==s)=false by simpa using hcs] at hp;exact he c p hc hp
 have h:=(wT (P:=P) (M0:=M0) (w0:=w0) (S:=S) (n:=n) (j:=j) (T:=T) (ps:=ps (a.tmps.getD x undef) (a.tmps.getD y undef)) (E:=(s,agg (ps (a.tmps.getD x undef) (a.tmps.getD y undef)))::E) hg hd hn ho (VL.le ⟨_,List.lookup_cons_self,Pr.le_refl _⟩ (Ah _))).2 M w a _ hsz he2 hI2 (by rw [List.getElem?_set_self hjl];rfl)
 have h2:D7 P M0 w0 S o a M w (Cp.ex fun b=>ptr b 0) j ⟨d,Er T (ps (a.tmps.getD x undef) (a.tmps.getD y undef))⟩ rs ((execOp a.eval o).run P w):=by
  revert h
  generalize (execOp a.eval o).run P w=r
  intro h
  cases r with
  |halt x w'=>exact h
  |ok x w'=>
   cases x
   case value v=>simpa only [D7,List.set_set] using h
   case skip=>simpa only [D7,List.set_set] using h
   case enter f args=>simpa only [D7,List.set_set] using h
   all_goals exact h
 refine D7.conv (Pr.le_refl _) (fun v=> ?_) h2
 rw [aP,hd,BQ (Ne.symm hx),BQ (Ne.symm hy)];rfl
theorem iY {s y:Tmp} [One p] (hg:o.guard=none) (hd:o.dst=none) (ho:o.op= .store t (.tmp s) (.tmp y)) (hsy:s≠y) (hx:E.lookup s=some (Cp.ex fun b=>ptr b 0)) (hy:E.lookup y=some p) (hz:Az P t=some 1) (hl:ps.length=1):DY P M0 w0 S n j ⟨s,Er T ps⟩ ⟨.two s y,X5 fun v=>Er T [Ag v p]⟩ o E any:=by
 refine ⟨hg,fun M w a rs hsz he hI hj=> ?_⟩
 have NF:y∈looks o:=OX (op:= .store t (.tmp s) (.tmp y)) (by simp [Op.operands]) ho
 have he2:Cb M w ((y,Ag (a.tmps.getD y undef) p)::E) o a:=fun c q hc hq=>by
  simp only [List.lookup] at hq
  by_cases hcs:c=y
  · subst hcs;simp only [beq_self_eq_true,Option.some.injEq] at hq;subst hq;exact ⟨rfl,he _ p NF hy⟩
  · rw [show (c==y)=false by simpa using hcs] at hq;exact he c q hc hq
 have h:=(C2 (P:=P) (M0:=M0) (w0:=w0) (S:=S) (n:=n) (j:=j) (T:=T) (ps:=ps) (qs:=[Ag (a.tmps.getD y undef) p]) (E:=(y,Ag (a.tmps.getD y undef) p)::E) hg hd ho cE (VL.le ⟨_,List.lookup_cons_self,Pr.le_refl _⟩ (AO _)) hz rfl hl).2 M w a rs hsz he2 hI hj
 refine D7.conv (Pr.le_refl _) (fun v=> ?_) h
 rw [Qh,hd];rfl
theorem BE.pin {Q:Exit→Act→World→Prop} {rs:List SR} (s:Nat) (hs:E.lookup s=some p) (k:∀v,BE n M0 w0 S ((s,Ag v p)::E) rs Q):BE n M0 w0 S E rs Q:=by
 rintro a w ⟨M,g1,g2,g3,g4⟩
 refine k (a.tmps.getD s undef) a w ⟨M,g1,g2,fun c z hz=> ?_,g4⟩
 simp only [List.lookup] at hz
 by_cases hcs:c=s
 · subst hcs;simp only [beq_self_eq_true,Option.some.injEq] at hz;subst hz;exact ⟨rfl,g3 c p hs⟩
 · rw [show (c==s)=false by simpa using hcs] at hz;exact g3 c z hz
theorem BE.fix {Q:Exit→Act→World→Prop} {rs:List SR} (j:Nat) {R:SR} (r:Ay) (hR:rs[j]? =some R) (hs:∀a:Act,(∃M w,Fc M w E a)→R.at_ a=r) (k:BE n M0 w0 S E (rs.set j (SR.c r)) Q):BE n M0 w0 S E rs Q:=by
 rintro a w ⟨M,g1,g2,g3,g4⟩
 refine k a w ⟨M,g1,g2,g3,?_⟩
 have e:=hs a ⟨M,w,g3⟩
 have e3:(rs.set j (SR.c r)).map (·.at_ a)=rs.map (·.at_ a):=by
  apply List.ext_getElem?
  intro m
  rw [List.getElem?_map,List.getElem?_map,List.getElem?_set]
  by_cases him:j=m
  ·
   subst him
   have hjl:j<rs.length:=by grind
   rw [if_pos rfl,if_pos hjl,hR]
   show some ((SR.c r).at_ a)=some (R.at_ a)
   rw [e];rfl
  · rw [if_neg him]
 rw [e3];exact g4
theorem aQ {s:Nat} (h:Fc M w E a) (hs:E.lookup s=some (Ag v p)):a.tmps.getD s undef=v:=(h s _ hs).1
theorem BE.ABa {Q:Exit→Act→World→Prop} {rs:List SR} (j s:Nat) {f:Value→Ay} (hR:rs[j]? =some ⟨s,f⟩) (hs:E.lookup s=some (Ag v p)) (k:BE n M0 w0 S E (rs.set j (SR.c (f v))) Q):BE n M0 w0 S E rs Q:=
 BE.fix j _ hR (fun a ⟨_,_,h⟩=>by show f (a.tmps.getD s undef)=_;rw [aQ h hs]) k
theorem BE.ABb {Q:Exit→Act→World→Prop} {rs:List SR} (j d s:Nat) {f:Value→Value→Ay} {u:Value} (hR:rs[j]? =some ⟨.two d s,X5 f⟩) (hd:E.lookup d=some (Ag u p)) (hs:E.lookup s=some (Ag v q)) (k:BE n M0 w0 S E (rs.set j (SR.c (f v u))) Q):BE n M0 w0 S E rs Q:=by grind [BE.fix,Qh,aQ]
theorem BE.AKF {Q:Exit→Act→World→Prop} {rs:List SR} (j d s t:Nat) {f:Value→Value→Value→Ay} {u v1 v2:Value} {q1 q2:Pr} (hR:rs[j]? =some ⟨.three d s t,qJ f⟩) (hd:E.lookup d=some (Ag u p)) (hs:E.lookup s=some (Ag v1 q1)) (ht:E.lookup t=some (Ag v2 q2)) (k:BE n M0 w0 S E (rs.set j (SR.c (f v1 v2 u))) Q):BE n M0 w0 S E rs Q:=by grind [BE.fix,aP,aQ]
end
section
variable {P:Program} {L:Lg P} {n:Fm} {fz:Nat} {E:Env} {I:Cc} {M0:Av} {w0:World} {S:Nat→Prop} {rs:List Ay} {Q:Exit→Act→World→Prop} {c:Code}
theorem Fin.shape {e:Exit} (s:Nat) (form:Nat→Value) (hs:E.lookup s=some (Ag v (Cp.ex fun b=>is (form b)))) (k:∀b,v=form b→Fin n ((s,is (form b))::E) (Hp M0 w0 S rs) Q e):Fin n E (Hp M0 w0 S rs) Q e:=by
 intro a w hst
 obtain ⟨M,h1,h2,he,h4⟩:=hst
 obtain ⟨h5,b,h6⟩:=he s _ hs
 have hv:v=form b:=by rw [←h5];exact h6
 refine k b hv a w ⟨M,h1,h2,fun c z hz=> ?_,h4⟩
 simp only [List.lookup] at hz
 by_cases hcs:c=s
 · grind
 · rw [show (c==s)=false by simpa using hcs] at hz;exact he c z hz
theorem Fin.SX {e:Exit} (j:Nat) {r:Ay} (r':Ay) (hi:rs[j]? =some r) (h:r=r') (k:Fin n E (Hp M0 w0 S (rs.set j r')) Q e):Fin n E (Hp M0 w0 S rs) Q e:=by
 subst h
 have hjl:j<rs.length:=by grind
 have e1:rs.set j r=rs:=by
  apply List.ext_getElem?
  intro m
  rw [List.getElem?_set]
  by_cases him:j=m
  · grind
  · rw [if_neg him]
 rw [e1] at k;exact k
theorem Tr.AGJ {α:Type} (ni:α→Fm) (Ei:α→Env) (Ii:α→Cc) (C:α→Prop) (μ:α→Nat) (x0:α) (hn:ni x0=n) (h0:C x0) (hs:CH E (Ei x0)) (hI:∀M w,I.h M w→(Ii x0).h M w)
  (k:∀x,C x→Tr L (ni x) (Ei x) (Ii x) c (Exit.then (fun a w=>∃y,(C y∧μ y<μ x)∧St (ni y) (Ei y) (Ii y) a w) Q)):Tr L n E I (.loop c) Q:=by
 intro a w hst
 refine L.loop μ (fun x a w=>C x∧St (ni x) (Ei x) (Ii x) a w) (fun x a w ⟨hc,h⟩=> ?_) x0 a w ⟨h0,?_⟩
 ·
  refine L.mono ?_ (k x hc a w h)
  intro e a w hq
  cases e with
  |normal=>obtain ⟨y,⟨h1,h2⟩,h3⟩:=hq;exact ⟨y,h2,h1,h3⟩
  |_=>exact hq
 · rw [hn];exact hst.sub hs hI
theorem Fin.KY {e:Exit} {rs':List Ay} (hp:rs.Perm rs') (k:Fin n E (Hp M0 w0 S rs') Q e):Fin n E (Hp M0 w0 S rs) Q e:=fun a w ⟨M,h1,h2,h3,h4⟩=>k a w ⟨M,h1,h2,h3,A8.perm hp h4⟩
theorem Ba.ofM {g : Func} {res : Pr} {R : Ay} {R' : Value → Ay} (hf : P.funcs[f]? = some g) (hb : g.body = some c) (hname : (g.name == "runtime.NumGoroutine") = false) (hlen : ps.length ≤ g.ntmps) (h : ∀ M0 w0 S rs M1 w1, Tr (Yr P) g.ntmps (L2 0 ps) (Hp M0 w0 S (R :: Ac M1 w1 :: rs)) c (Ji P g (Lf M0 w0 S rs M1 w1 res R'))) : Ba P f ps res R R' := by
 refine ⟨⟨g,hf,hname,by rw [hb];rfl⟩,fun M0 w0 S rs M w vs hI hv=> ?_⟩
 refine PD hf hb (h M0 w0 S rs M w _ _ ⟨M,?_,rfl,F_ hv,?_⟩)
 ·
  have:=hv.length
  simp [this];omega
 · exact ZG
end
section
variable {P:Program} {L:Lg P} {n:Fm} {fz:Nat} {E:Env} {I:Cc} {M0:Av} {w0:World} {S:Nat→Prop} {rs:List Ay} {Q:Exit→Act→World→Prop} {c:Code}
abbrev GM (l D:Nat) (rec:Obj) (M1:Av) (w1:World) (rs:List Ay):List Ay:=BH l rec::BH D (.deferred (some []))::Ac M1 w1::rs
theorem Tr.ABc {α:Type} {p gf:Nat} {g:Operand} {lb:Array Value} {enc:α→Value} {xs:List α} {own:List α→List Ay} {assign body:Code} (q:Nat) (K:Env) (hK:CH E K) (R:List α→List Ay)
  (hIt:Nd P gf lb enc xs own) (eg:Entry P gf) (hg:VL E g (is (.func (.func gf) #[] lb))) (NJ:rs.Perm (own []++R [])) (hp:K.lookup p=none) (hpn:p<n.sz)
  (hassign:∀l D rec M1 w1 pre x,(pre++[x])<+:xs→Tr (fA P (some l)) ⟨n.sz,[]⟩ ((p,is (enc x))::K) (Hp M0 w0 S (own (pre++[x])++GM l D rec M1 w1 (R pre))) assign (Exit.then (St ⟨n.sz,[]⟩ ((q,is (enc x))::K) (Hp M0 w0 S (own (pre++[x])++GM l D rec M1 w1 (R pre)))) (fun _ _ _=>False)))
  (hbody : ∀ l D rec M1 w1 pre x, (pre ++ [x]) <+: xs → Tr (fA P (some l)) ⟨n.sz, []⟩ ((q, is (enc x)) :: K) (Hp M0 w0 S (own (pre ++ [x]) ++ GM l D rec M1 w1 (R pre))) body
   (JR M0 w0 S (fun _:Unit=>own (pre++[x])++GM l D rec M1 w1 (R (pre++[x]))) (fun _ _=>own (pre++[x])++GM l D rec M1 w1 [CI False])))
  (hdone:∀l D rec M1 w1,Fin ⟨n.sz,mark D::n.df⟩ E (Hp M0 w0 S (own xs++GM l D rec M1 w1 (R xs))) Q .normal):
  Tr (Yr P) n E (Hp M0 w0 S rs) (.rangeFunc g #[p] assign body) Q:=by
 refine Tr.pV (fun x=>(q,is (enc x))::K) (fun pre (_:Unit)=>R pre) (fun _ _ _=>[CI False]) () hIt (fun args w=>EJ eg args w) hg NJ ?_ ?_ (fun l D rec M1 w1 _=>hdone l D rec M1 w1) ?_
 ·
  intro l D rec M1 w1 pre x d hpre a hsz hE M w hI
  have hx:Ext M1 w1 M w:=(hI.hold (Ac M1 w1) AR).1
  refine hassign l D rec M1 w1 pre x hpre _ w ⟨M,by simpa using hsz,rfl,fun s z hq=> ?_,hI⟩
  simp only [List.lookup] at hq
  by_cases hs:s=p
  ·
   subst hs
   simp only [beq_self_eq_true,Option.some.injEq] at hq
   subst hq
   show (a.tmps.setIfInBounds s (enc x)).getD s undef=enc x
   simp [Array.getD_eq_getD_getElem?,hsz,hpn]
  ·
   rw [show (s==p)=false by simpa using hs] at hq
   obtain ⟨z',E2,HW⟩:=hK.spec s z hq
   have h2:=z.st _ _ _ _ _ hx (HW _ _ _ (hE s z' E2))
   show z.h M w ((a.tmps.setIfInBounds p (enc x)).getD s undef)
   have e1:(a.tmps.setIfInBounds p (enc x)).getD s undef=a.tmps.getD s undef:=by
    simp only [Array.getD_eq_getD_getElem?]
    rw [Array.getElem?_setIfInBounds_ne (fun e=>hs e.symm)]
   rw [e1];exact h2
 ·
  intro l D rec M1 w1 pre x d hpre
  exact hbody l D rec M1 w1 pre x hpre
 ·
  intro l D rec M1 w1 c pre d hpre a w ⟨M,_,_,_,h⟩
  have h:A8 M0 w0 S (own pre++GM l D rec M1 w1 [CI False]) M w:=h
  exact ((h.hold (CI False) AR).1).elim
theorem Fin.st {E1:Env} {Q':Exit→Act→World→Prop} (hs:CH E E1):Fin n E I (Exit.then (St n E1 I) Q') .normal:=fun _ _ h=>h.sub hs (fun _ _ h=>h)
theorem Fin.rnd {β:Type} {rr:β→List Ay} {rx:Code→β→List Ay} (d:β) (hp:rs.Perm (rr d)):Fin n E (Hp M0 w0 S rs) (JR M0 w0 S rr rx) .normal:=fun _ _ ⟨M,_,_,_,h⟩=>⟨d,M,A8.perm hp h⟩
theorem Tr.qM {α β:Type} (K:Env) (hK:CH E K) (ni:α→β→Fm) (Ei:α→β→Env) (Ii:α→β→Cc) (C:α→β→Prop) (μ:α→β→Nat) (x0:α) (y0:β) (hn:ni x0 y0=n) (h0:C x0 y0) (hs:CH E (Ei x0 y0)) (hI:∀M w,I.h M w→(Ii x0 y0).h M w)
  (k:∀x y,C x y→Tr L (ni x y) (Ei x y++K) (Ii x y) c (Exit.then (fun a w=>∃x' y',(C x' y'∧μ x' y'<μ x y)∧St (ni x' y') (Ei x' y'++K) (Ii x' y') a w) Q)):Tr L n E I (.loop c) Q:=
 Tr.AGJ (fun p : α × β => ni p.1 p.2) (fun p => Ei p.1 p.2 ++ K) (fun p => Ii p.1 p.2) (fun p => C p.1 p.2) (fun p => μ p.1 p.2) (x0, y0) hn h0 (M4 hs hK) hI
  fun ⟨x,y⟩ hC a w hst=>L.mono (fun e a w hq=>by
   cases e with
   |normal=>obtain ⟨x',y',h1,h2⟩:=hq;exact ⟨(x',y'),h1,h2⟩
   |_=>exact hq) (k x y hC a w hst)
theorem Fin.AGK {α β:Type} {ni:α→β→Fm} {E1:α→β→Env} {I1:α→β→Cc} {C:α→β→Prop} (i:α) (j:β) (hn:ni i j=n) (hC:C i j) (hs:CH E (E1 i j)) (hI:∀M w,I.h M w→(I1 i j).h M w):Fin n E I (Exit.then (fun a w=>∃x y,C x y∧St (ni x y) (E1 x y) (I1 x y) a w) Q) .normal:=
 fun _ _ hst=>⟨i,j,hC,by rw [hn];exact hst.sub hs hI⟩
end
section
variable {P:Program} {fz:Nat} {E:Env} {M0 M1:Av} {w0 w1:World} {S:Nat→Prop} {g:Func} {α β:Type} {xs:List α} {own:List α→List Ay} {R Rx:List α→β→List Ay}
theorem Fin.AGL {d:β} (hr:g.results= #[]):Fin ⟨fz,[]⟩ E (Hp M0 w0 S (own xs++Ac M1 w1::R xs d)) (Ji P g fun e w'=>(∃v,e= .returned v)∧∃M' d',Ext M1 w1 M' w'∧(A8 M0 w0 S (own xs++R xs d') M' w'∨∃pre,pre<+:xs∧A8 M0 w0 S (own pre++Rx pre d') M' w')) .normal:=by
 refine Fin.ABT (Fin.X0 ?_)
 rintro a w ⟨M,_,hd,he,hi⟩
 obtain ⟨h1,h2⟩:=gl hi
 exact ⟨hd,_,results0 hr,⟨_,rfl⟩,M,d,h1,.inl h2⟩
theorem Fin.ABd {d:β} {pre:List α} (hr:g.results= #[]) (hp:pre<+:xs):Fin ⟨fz,[]⟩ E (Hp M0 w0 S (own pre++Ac M1 w1::Rx pre d)) (Ji P g fun e w'=>(∃v,e= .returned v)∧∃M' d',Ext M1 w1 M' w'∧(A8 M0 w0 S (own xs++R xs d') M' w'∨∃pre,pre<+:xs∧A8 M0 w0 S (own pre++Rx pre d') M' w')) .ret:=by
 refine Fin.X0 ?_
 rintro a w ⟨M,_,hd,he,hi⟩
 obtain ⟨h1,h2⟩:=gl hi
 exact ⟨hd,_,results0 hr,⟨_,rfl⟩,M,d,h1,.inr ⟨pre,hp,h2⟩⟩
theorem Ba.ABe {args:List Pr} {form:Nat→Value} {r':Value→Ay} (h:JG P f args [] (fun _=>True) (fun b=>is (form b)) (fun b=>[r' (form b)])):Ba P f args (Cp.ex fun b=>is (form b)) Bo r':=by
 refine ⟨h.1,fun M0 w0 S rs M w vs hI hv=>(h.2 M0 w0 S rs M w vs (A8.J5 hI) hv).mono ?_⟩
 rintro e w' ⟨v,M',b,rfl,_,h1,h2,h3⟩
 obtain rfl:v=form b:=h1
 exact ⟨_,M',rfl,⟨b,rfl⟩,h2,h3⟩
end
end Cp
namespace Go.Proofs.YteomgekmipcdpaaGreatDoor
open Go Go.RowKit Cp Go.Proofs.Tryz
variable {B:List (BitVec 32)} {ps qs:List Pr} {l:List B0} {b i k n:Nat}
theorem fJ {b:BitVec 32}:A_ prog 96 [u32 b,int ((i:Nat):Int)] (bool (b.getLsbD i)):=by
 refine fo func96 rfl ⟨rfl,rfl⟩ fun M0 w0=> ?_
 refine a2 ?_
 refine co rfl (pz rfl vq vq (Int.natCast_nonneg _)) ?_
 refine co rfl (Xu (c:=1#32) rfl vq vq) ?_
 refine co rfl (ABW rfl vq vq) ?_
 refine a2 ?_
 · exact Lr
abbrev S9:TypeId:=142
abbrev qN (b:Nat):Value:= .func (.func 97) #[] #[.pointer (some ⟨b,0,none⟩)]
def AKG (s:BitVec 32) (v:Value):Ay:=match v with| .func _ _ #[.pointer (some a)]=>AE true a.block S9 [u32 s]|_=>Bo
def JU (s:BitVec 32) (pre:List Nat):BitVec 32:=pre.foldl iV s
theorem OY (s:BitVec 32) (pre:List Nat) (x:Nat):JU s (pre++[x])=iV (JU s pre) x:=by unfold JU;rw [List.foldl_append];rfl
theorem ABf {s:BitVec 32}  :JG (α:=Nat) prog 59 [u32 s] [] (fun _=>True) (fun b=>is (qN b)) (fun b=>[AE true b S9 [u32 s]]):=by
 refine JG.of func59 rfl rfl Am fun M0 w0 S rs M1 w1=>(Tr.seq (Tr.BI ?_))
 refine TO.gL rfl rfl AD rfl Ce (fun b1=> ?_)
 refine ap ?_
 refine Tr.seq (Tr.Bq (co rfl (wm rfl vq) ?_))
 refine ac ?_
 refine Tr.ret (Fin.AEe (b1) rfl (AQ.tmp rfl Lr) trivial ?_ (List.Perm.refl _))
 · exact Lr
theorem qO {s:BitVec 32}:Ba Tryz.prog 59 [u32 s] (Cp.ex fun b=>is (qN b)) Bo (AKG s):=Ba.ABe ABf
theorem WC {s:BitVec 32}:Nd prog 97 #[.pointer (some ⟨b,0,none⟩)] (fun i:Nat=> .int .i64 (i:Int)) (MV s) (fun pre=>[FJ,AE true b S9 [u32 (JU s pre)]]):=by
 refine Nd.of (ps:=[is (.pointer (some ⟨b,0,none⟩))]) func97 rfl Am (fun _ _=>⟨rfl,trivial⟩) ?_
 intro M0 w0 S l β R Rx M1 w1 hy d
 refine Tr.block (Tr.CM _ (kk [1,0] rfl) (fun (pre:List Nat) (d2:β)=>[]) (fun (pre:List Nat) (d2:β)=>Hp M0 w0 S (FJ::AE true b S9 [u32 (JU s pre)]::Ac M1 w1::R pre d2)) (fun (pre:List Nat) (d2:β)=>pre++MV (JU s pre)=MV s) (fun (pre:List Nat) (d2:β)=>(MV (JU s pre)).length) ([]) (d)  (rfl) trivial (fun _ _ h=>h) ?_)
 rintro pre d2  hpe
 refine Tr.seq (Tr.seq (Tr.Bq (co rfl (Bi 1 rfl (AW rfl JD (vl rfl) rfl)) (co rfl (qF rfl (vl rfl) (vl rfl)) ?_))))
 refine ac ?_
 refine Tr.cn rfl ?_ ?_<;>intro h1 q1
 have hne:JU s pre≠0#32:=by simpa using h1
 have qP:=SU hne
 have II:=aL hne
 have hpx:(pre++[Jt (JU s pre)])<+:MV s:=⟨MV (iV (JU s pre) (Jt (JU s pre))),by rw [←hpe,qP];simp⟩
 refine ac ?_
 refine ap ?_
 refine TO.FL 0 rfl rfl AD (Ak rfl rfl AD rfl (ABX hne) kz) ?_
 refine ap ?_
 refine Tr.seq (Tr.rx ?_)
 refine ay ?_
 refine xo rfl (fun _=>Nf (b:=1#32) rfl (vl rfl) (vl rfl) (Int.natCast_nonneg _)) ?_
 refine xo rfl (fun _=>PC rfl (vl rfl) (vl rfl)) (Cx.C0 1 rfl rfl (Aq rfl rfl (vl rfl) (Vo rfl) F1 rfl Am rfl) ?_)
 refine Cx.nil ⟨by kernel_rfl,?_⟩
 refine BE.done al3 (Fin.go (Tr.seq ?_))
 refine Tr.Iw 1 [u32 (JU s (pre++[Jt (JU s pre)]))] rfl ⟨Pr.le_of_eq (by rw [OY];rfl),trivial⟩ ?_
 refine Tr.qI (own:=fun pre=>[FJ,AE true b S9 [u32 (JU s pre)]]) (pre:=pre) (x:=Jt (JU s pre)) (d:=d2) hy hpx rfl rfl rfl rfl rfl rfl rfl rfl rfl rfl rfl rfl Am Am Am Am AD rfl rfl rfl rfl rfl (fun d3=> ?_) (fun d3=> ?_)
 refine Fin.go (Tr.cond rfl (fun h=>nomatch h) (fun _=> ?_))
 refine Tr.skip (Fin.block ?_)
 exact Fin.CC (pre++[Jt (JU s pre)]) (d3)  (⟨by rw [OY,List.append_assoc,←hpe,qP];rfl,by rw [OY,qP];simp⟩) ⟨ke rfl,kz⟩ (fun _ _ h=>h)
 refine Fin.go (Tr.cond rfl (fun _=> ?_) (fun h=>nomatch h))
 refine Tr.ret (Fin.AP (Fin.AF (Fin.AP (Fin.ABd (g:=f97) (own:=fun pre=>[FJ,AE true b S9 [u32 (JU s pre)]]) (R:=R) (Rx:=Rx) (d:=d3) rfl hpx))))
 have hz:JU s pre=0#32:=by simpa using h1
 obtain rfl:pre=MV s:=by rw [hz,p_,List.append_nil] at hpe;exact hpe
 refine Tr.exit (Fin.Ai (Fin.Ai (Fin.BB (Fin.AGL (g:=f97) (own:=fun pre=>[FJ,AE true b S9 [u32 (JU s pre)]]) (xs:=MV s) (R:=R) (Rx:=Rx) (d:=d2) rfl))))
theorem WD:Entry Tryz.prog 97:=⟨_,Tryz.func97,rfl,rfl⟩
-- bits as ALj are AGM (behind ALk.lean)
def bvF (p:Nat→Bool):Nat→BitVec 32
 |0=>0#32
 |k+1=>if p k then iW (bvF p k) k else bvF p k
theorem qQ (p:Nat→Bool):∀(k:Nat) {j:Nat},k≤32→(bvF p k).getLsbD j=(decide (j<k)&&p j)
 |0,j,_=>by simp [bvF]
 |k+1,j,hk=>by
  have ih:= @qQ p k j AA
  unfold bvF
  split
  next h=>
   rw [aK AA,ih]
   by_cases hj:k=j
   · subst hj;simp [h]
   ·
    by_cases h2:j<k
    ·
     have:j<k+1:=by omega
     simp [h2,this,hj]
    ·
     have:¬j<k+1:=by omega
     simp [h2,this,hj]
  next h=>
   rw [ih]
   by_cases hj:k=j
   · subst hj;simp at h;simp [h]
   ·
    by_cases h2:j<k
    ·
     have:j<k+1:=by omega
     simp [h2,this]
    ·
     have:¬j<k+1:=by omega
     simp [h2,this]
def DL (n:Nat) (l:List B0):List (BitVec 32):=(List.range n).map fun b=>bvF (fun a=>Cm l n a b) n
theorem DV (n:Nat) (l:List B0):(DL n l).length=n:=by unfold DL;simp
theorem F9 (hn:n≤32):EE n (DL n l) (Cm l n):=by
 refine ⟨DV n l,fun b x hx a=> ?_⟩
 unfold DL at hx
 rw [List.getElem?_map] at hx
 rcases Nat.lt_or_ge b n with hb|hb
 ·
  rw [List.getElem?_range hb] at hx
  simp only [Option.map_some,Option.some.injEq] at hx
  subst hx
  exact qQ _ n hn
 · rw [List.getElem?_eq_none Fb] at hx;cases hx
theorem aR {C:List (BitVec 32)} {M:Nat→Nat→Bool} (h:EE n B M) (h':EE n C M):B=C:=by
 apply List.ext_getElem?
 intro b
 rcases Nat.lt_or_ge b n with hb|hb
 ·
  obtain ⟨x,hx⟩:=at_ (l:=B) (k:=b) (by rw [h.1];exact hb)
  obtain ⟨y,hy⟩:=at_ (l:=C) (k:=b) (by rw [h'.1];exact hb)
  rw [hx,hy]
  congr 1
  exact BitVec.eq_of_getLsbD_eq fun i _=>by rw [h.2 b x hx,h'.2 b y hy]
 · rw [List.getElem?_eq_none (by rw [h.1];exact hb),List.getElem?_eq_none (by rw [h'.1];exact hb)]
theorem iZ {r:B0} (h:l[k]? =some r) (a b:Nat):Gl (l.take (k+1)) a b=(Gl (l.take k) a b||(decide (r.fst=(a:Int))&&decide (r.thn=(b:Int)))):=by
 unfold Gl;rw [List.take_add_one,h,List.any_append];simp
theorem aS {r:B0} {x:BitVec 32} (h:EE n B (Gl (l.take k))) (hr:l[k]? =some r) (hf:0≤r.fst∧r.fst<n) (ht:0≤r.thn) (hx:B[r.thn.toNat]? =some x) (hn:n≤32):EE n (B.set r.thn.toNat (iW x r.fst.toNat)) (Gl (l.take (k+1))):=by grind [Gm,Xx,iZ]
def H8 (i:Nat) (A:List (BitVec 32)) (k:Nat):List (BitVec 32):=A.set k (iW (A.getD k 0#32) i)
def Eh (B:List (BitVec 32)):Nat→List (BitVec 32)
 |0=>List.replicate B.length 0#32
 |i+1=>(MV (B.getD i 0#32)).foldl (H8 i) (Eh B i)
theorem OZ (i:Nat):∀(ks:List Nat) (A:List (BitVec 32)),(ks.foldl (H8 i) A).length=A.length
 |[],_=>rfl
 |k::ks,A=>by rw [List.foldl_cons,OZ i ks];unfold H8;rw [List.length_set]
theorem HS (B:List (BitVec 32)):∀i,(Eh B i).length=B.length
 |0=>List.length_replicate
 |i+1=>by unfold Eh;rw [OZ,HS B i]
theorem UP {x:BitVec 32} (h:B[i]? =some x):Eh B (i+1)=(MV x).foldl (H8 i) (Eh B i):=by
 rw [Eh,List.getD_eq_getElem?_getD,h];rfl
theorem SY {n i:Nat} (hi:i<n) (hn:n≤32):∀(ks:List Nat) {A:List (BitVec 32)} {M:Nat→Nat→Bool},EE n A M→(∀k∈ks,k<n)→EE n (ks.foldl (H8 i) A) (fun b a=>M b a||(decide (b=i)&&ks.contains a))
 |[],A,M,h,_=>Gm h fun a b _ _=>by simp
 |k::ks,A,M,h,hk=>by
  rw [List.foldl_cons]
  obtain ⟨x,hx⟩:=at_ (l:=A) (k:=k) (by rw [h.1];exact hk k AR)
  have h1:EE n (H8 i A k) (fun b a=>M b a||(decide (i=b)&&decide (k=a))):=by
   unfold H8
   rw [List.getD_eq_getElem?_getD,hx]
   exact Xx h hx hi hn
  refine Gm (SY hi hn ks h1 (fun j hj=>hk j (List.mem_cons_of_mem _ hj))) fun b a _ _=> ?_
  by_cases hb:b=i
  ·
   subst hb
   by_cases ha:k=a
   · subst ha;simp
   ·
    have:¬a=k:=fun e=>ha e.symm
    simp [ha,this]
  ·
   have:¬i=b:=fun e=>hb e.symm
   simp [hb,this]
theorem UQ {n:Nat} {B:List (BitVec 32)} {M:Nat→Nat→Bool} (h:EE n B M) (hn:n≤32):∀(i:Nat),i≤n→EE n (Eh B i) (fun b a=>M a b&&decide (b<i))
 |0,_=>by
  rw [Eh,h.1]
  exact Gm (SV n) fun a b _ _=>by simp
 |i+1,hi=>by
  obtain ⟨x,hx⟩:=at_ (l:=B) (k:=i) (by rw [h.1];omega)
  rw [UP hx]
  have hlt:∀k∈MV x,k<n:=fun k hk=>by
   have:=H6.1 hk
   rw [h.2 i x hx,Bool.and_eq_true,decide_eq_true_eq] at this
   exact this.1
  refine Gm (SY AA hn (MV x) (UQ h hn i AA) hlt) fun b a hb ha=> ?_
  by_cases e:b=i
  ·
   subst e
   have hc:(MV x).contains a=M a b:=by
    rw [Bool.eq_iff_iff,List.contains_iff_mem,H6,h.2 b x hx,Bool.and_eq_true,decide_eq_true_eq]
    exact ⟨fun g=>g.2,fun g=>⟨ha,g⟩⟩
   rw [hc];simp
  ·
   by_cases h2:b<i
   ·
    have:b<i+1:=by omega
    simp [e,h2,this]
   ·
    have:¬b<i+1:=by omega
    simp [e,h2,this]
theorem wq (hn:n≤32):AKE n l (DL n l) (Eh (DL n l) n):=
 ⟨F9 hn,Gm (UQ (F9 hn) hn n (Nat.le_refl _)) fun a b ha _=>by simp [ha]⟩
abbrev bits (B:List (BitVec 32)):Pr:=slice 1 (B.map fun x=>[u32 x])
def ABg (a b:B0):Int:=orF [DB a.fst b.fst,DB a.thn b.thn]
theorem WE {a b:B0}:decide (ABg a b≥0)= !Et a b:=by grind [ABg,Et,orF,DB]
theorem LG {i:Int} {x:BitVec 32} (h:B[i.toNat]? =some x):(B.map fun x=>u32 x)[0+i.toNat*1]? =some (u32 x):=by rw [Nat.zero_add,Nat.mul_one,List.getElem?_map,h];rfl
theorem SZ {i:Int} {x y:BitVec 32} (h:B[i.toNat]? =some x):(B.map fun x=>u32 x).take (0+i.toNat*1)++[u32 y]++(B.map fun x=>u32 x).drop (0+i.toNat*1+1)=(B.set i.toNat y).map fun x=>u32 x:=by
 have hl:i.toNat<B.length:=by rcases Nat.lt_or_ge i.toNat B.length with h2|h2;exact h2;rw [List.getElem?_eq_none h2] at h;cases h
 rw [Nat.zero_add,Nat.mul_one,List.set_eq_take_append_cons_drop,if_pos hl]
 simp [List.map_take,List.map_drop]
theorem UR (B:List (BitVec 32)):(B.map fun x=>u32 x)=(B.map fun x=>[u32 x]).flatten++([]:List Value).map is:=by
 induction B with
 |nil=>rfl
 |cons x B ih=>simp at ih ⊢;exact ih
theorem US (n:Nat):(List.replicate n (Value.int .u32 0)).map is=(List.replicate n 0#32).map fun x=>u32 x:=by rw [List.map_replicate,List.map_replicate];rfl
theorem Sa {x:BitVec 32} (h:B[i]? =some x):(B.map fun x=>[u32 x])[((i:Nat):Int).toNat]? =some [u32 x]:=by rw [Int.toNat_natCast,List.getElem?_map,h];rfl
theorem ia {pre:List Nat} {A:List (BitVec 32)} {y:BitVec 32} (h:(pre.foldl (H8 i) A)[k]? =some y):(pre.foldl (H8 i) A).set k (iW y i)=(pre++[k]).foldl (H8 i) A:=by grind [H8,iW]
theorem ABh {r:B0} (h:FY n r=false):(0≤r.fst∧r.fst<n)∧(0≤r.thn∧r.thn<n)∧r.fst≠r.thn:=by
 unfold FY at h;rw [decide_eq_false_iff_not] at h;omega
theorem ABi (h:PR ps qs):Pr.le (ref ps) (ref qs):=fun M w v ⟨a,h1,h2⟩=>⟨a,h1,fun i q hq=>by
 obtain ⟨p,hp,hle⟩:=h.at_ i q hq
 obtain ⟨u,g1,g2⟩:=h2 i p hp
 exact ⟨u,g1,g2.1,g2.2.1,hle _ _ _ g2.2.2⟩⟩
theorem qR {xs pre:List Nat} {x:Nat} (h:(pre++[x])<+:xs):x∈xs:=h.subset AR
theorem aU {a b:B0}  :A_ prog 94 [agg (HY a),agg (HY b)] (int (ABg a b)):=by
 refine fo func94 rfl ⟨rfl,rfl⟩ fun M0 w0=> ?_
 refine a2 ?_
 refine co rfl (Bu (nK) rfl rfl rfl) ?_
 refine ac ?_
 refine co rfl (Bu (nK) rfl rfl rfl) (co rfl (Aa (xs:=[.tmp 9,.tmp 14]) (rows:=[[_],[_]]) rfl rfl underlying22 BJ z3 rfl AD ⟨⟨Ao,Ce⟩,⟨⟨Ao,Ce⟩,trivial⟩⟩ AD) ?_)
 refine co rfl (AY rfl (AFi (l:=[DB a.fst b.fst,DB a.thn b.thn])) ⟨Ea,trivial⟩) ?_
 refine ac ?_
 refine wk [4] rfl ?_
 refine ac ?_
 · exact Lr
theorem ig (hn:n≤24) (hbd:∀r∈l,FY n r=false):Ba prog 95 [int ((n:Nat):Int),reqs l] (ref [int ((n:Nat):Int),bits (DL n l),bits (Eh (DL n l) n)]) (FJ) (fun _=>FJ):=by
 refine Ba.ofM func95 rfl rfl Am fun M0 w0 S rs M1 w1=> ?_
 refine Tr.CN 1 rfl fun Fq=> ?_
 refine ac ?_
 refine Tr.seq (Tr.pad ?_)
 refine Tr.pad (Tr.pad (Tr.pad (Tr.rx ?_)))
 refine ay ?_
 refine Cx.ef 0 rfl rfl AD (qL rfl rfl AD rfl underlying143 F1 yW AD4 rfl (vl rfl) (vl rfl) Fa AA) ?_
 refine xm rfl ?_
 refine Cx.ef 1 rfl rfl AD (qL rfl rfl AD rfl underlying143 F1 yW AD4 rfl (vl rfl) (vl rfl) Fa AA) ?_
 refine Cx.ef 2 rfl rfl AD (ABZ (d:=17) (s:=14) (t:=16) (q:=any) rfl AD AD (fun _ _ _ _ _ _=>trivial) rfl rfl rfl AD AD (fun v1 v2=>qK rfl rfl AD (fun _=>Au (rows:=[(0,[_]),(1,[_]),(2,[_])]) rfl AD5 AD6 ⟨⟨rfl,VL.le (vl rfl) (AO _)⟩,⟨⟨rfl,VL.le (vl rfl) (AO _)⟩,⟨⟨rfl,VL.le (vl rfl) (AO _)⟩,trivial⟩⟩⟩ rfl))) (Cx.ef 2 rfl rfl AD (wo rfl rfl AD rfl AD AD) (Cx.ef 3 rfl rfl AD (Ca rfl rfl AD rfl AIk AD3) (Cx.C0 3 rfl rfl (iY rfl rfl rfl AD rfl rfl AD2 rfl) ?_)))
 refine Cx.nil ⟨by kernel_rfl,?_⟩
 refine BE.pin 14 rfl (fun v14=> ?_)
 refine BE.pin 16 rfl (fun v16=> ?_)
 refine BE.pin 18 rfl (fun v18=> ?_)
 refine BE.pin 5 rfl (fun v5=> ?_)
 refine BE.ABa 0 14 rfl rfl (BE.ABa 1 16 rfl rfl (BE.AKF 2 18 14 16 rfl rfl rfl rfl (BE.ABb 3 5 18 rfl rfl rfl (BE.done mo (Fin.shape 14 (fun b=>Jp n b) rfl (fun b1 e1=> ?_))))))
 refine Fin.shape 16 (fun b=>Jp n b) rfl (fun b2 e2=> ?_)
 refine Fin.shape 18 (fun b=> .pointer (some ⟨b,0,none⟩)) rfl (fun b3 e3=> ?_)
 refine Fin.shape 5 (fun b=> .pointer (some ⟨b,0,none⟩)) rfl (fun b4 e4=> ?_)
 subst e1 e2 e3 e4
 refine Fin.SX 0 (AE true b1 S9 ((List.replicate n 0#32).map fun x=>u32 x)) rfl (by rw [←US];rfl) ?_
 refine Fin.SX 1 (AE true b2 S9 ((List.replicate n 0#32).map fun x=>u32 x)) rfl (by rw [←US];rfl) ?_
 refine Fin.SX 2 (AE true b3 145 [int ((n:Nat):Int),Ag (Jp n b1) _,Ag (Jp n b2) _]) rfl rfl (Fin.Iw 2 [int ((n:Nat):Int),is (Jp n b1),is (Jp n b2)] rfl ⟨Lr,HE _ _,HE _ _,trivial⟩ (Fin.SX 3 (AE true b4 136 [Ag (.pointer (some ⟨b3,0,none⟩)) _]) rfl rfl (Fin.Iw 3 [ptr b3 0] rfl ⟨HE _ _,trivial⟩ (Fin.go ?_))))
 refine ac ?_
 refine Tr.block (Tr.CM _ (kk [20,19,5,0] rfl) (fun (B:List (BitVec 32)) (m:Nat)=>[(21,int ((m:Nat):Int))]) (fun (B:List (BitVec 32)) (m:Nat)=>Hp M0 w0 S (AE true b1 S9 (B.map fun x=>u32 x)::AE true b2 S9 ((List.replicate n 0#32).map fun x=>u32 x)::AE true b3 145 [int ((n:Nat):Int),is (Jp n b1),is (Jp n b2)]::AE true b4 136 [ptr b3 0]::FJ::Ac M1 w1::rs)) (fun (B:List (BitVec 32)) (m:Nat)=>m≤l.length∧EE n B (Gl (l.take m))) (fun (B:List (BitVec 32)) (m:Nat)=>l.length-m) (List.replicate n 0#32) (0)  (⟨Nat.zero_le _,Gm (SV n) fun a b _ _=>rfl⟩) kz (fun _ _ h=>h) ?_)
 rintro B m  ⟨hm0,hB⟩
 refine ac ?_
 refine Tr.seq ?_
 refine Tr.cn rfl ?_ ?_<;>intro h1 q1
 have hm:m<l.length:=AJ h1
 obtain ⟨r,hr⟩:=at_ hm
 obtain ⟨hf,ht,_⟩:=ABh (hbd r (List.mem_of_getElem? hr))
 have hBl:=hB.1
 obtain ⟨x,hx⟩:=at_ (l:=B) (k:=r.thn.toNat) AA
 refine ac ?_
 refine Tr.seq (Tr.block (Tr.seq (Tr.BI (tp rfl (AB rfl underlying33 Dy (vl rfl) (vl rfl) AA (Ad hr)) (tp rfl (Al rfl Jd Dy (vl rfl) rfl rfl) ?_)))))
 refine Tl rfl rfl rfl rfl z85 RQ (fun b5=> ?_)
 refine sf 0 7 ⟨rfl,rfl,rfl⟩ rfl rfl rfl rfl ?_
 refine ao ?_
 refine Tr.rx ?_
 refine ay ?_
 refine xo rfl (fun _=>AH rfl underlying143 F1 (vl rfl) (vl rfl) AA AA) (GV 0 rfl rfl (AW rfl JD (vl rfl) (LG hx)) ?_)
 refine ay ?_
 refine xo rfl (fun _=>Nf (b:=1#32) rfl (vl rfl) (vl rfl) AA) ?_
 refine xo rfl (fun _=>Qg rfl (vl rfl) (vl rfl)) (xo rfl (fun _=>AH rfl underlying143 F1 (vl rfl) (vl rfl) AA AA) ?_)
 refine Cx.C0 0 rfl rfl (Aq rfl rfl (vl rfl) (Vo rfl) F1 rfl F8 (SZ hx)) ?_
 refine Cx.nil ⟨by kernel_rfl,?_⟩
 refine BE.done mo ?_
 refine ac ?_
 refine wk [21,20,19,5,0] rfl ?_
 refine ac ?_
 exact Fin.CC (B.set r.thn.toNat (iW x r.fst.toNat)) (m+1)  (⟨⟨hm,aS hB hr hf ht.1 hx AA⟩,by omega⟩) ⟨⟨_,rfl,AG m⟩,kz⟩ (fun _ _ h=>h)
 have hml:m=l.length:=by have:=AK h1;omega
 rw [hml,List.take_length] at hB
 refine ac ?_
 refine ac ?_
 refine Tr.block (Tr.CM _ (kk [39,5,0] rfl) (fun (B2:List (BitVec 32)) (k:Nat)=>[(40,int ((k:Nat):Int))]) (fun (B2:List (BitVec 32)) (k:Nat)=>Hp M0 w0 S (AE true b1 S9 (B2.map fun x=>u32 x)::AE true b2 S9 ((List.replicate n 0#32).map fun x=>u32 x)::AE true b3 145 [int ((n:Nat):Int),is (Jp n b1),is (Jp n b2)]::AE true b4 136 [ptr b3 0]::FJ::Ac M1 w1::rs)) (fun (B2:List (BitVec 32)) (k:Nat)=>k≤n∧EE n B2 (Cm l k)) (fun (B2:List (BitVec 32)) (k:Nat)=>n-k) (B) (0)  (⟨Nat.zero_le _,hB⟩) kz (fun _ _ h=>h) ?_)
 rintro B2 k  ⟨hk0,hB2⟩
 refine ac ?_
 refine Tr.seq ?_
 refine Tr.cn rfl ?_ ?_<;>intro h2 q2
 have hk:k<n:=AJ h2
 refine ac ?_
 refine ac ?_
 refine ac ?_
 refine Tr.block ?_
 refine Tr.CM _ (kk [43,40,39,8,5,0] rfl) (fun (B3:List (BitVec 32)) (i:Nat)=>[(44,int ((i:Nat):Int))]) (fun (B3:List (BitVec 32)) (i:Nat)=>Hp M0 w0 S (AE true b1 S9 (B3.map fun x=>u32 x)::AE true b2 S9 ((List.replicate n 0#32).map fun x=>u32 x)::AE true b3 145 [int ((n:Nat):Int),is (Jp n b1),is (Jp n b2)]::AE true b4 136 [ptr b3 0]::FJ::Ac M1 w1::rs)) (fun (B3:List (BitVec 32)) (i:Nat)=>i≤n∧EE n B3 (LU k (Cm l k) i)) (fun (B3:List (BitVec 32)) (i:Nat)=>n-i) (B2) (0)  (⟨Nat.zero_le _,by rw [ABR];exact hB2⟩) kz (fun _ _ h=>h) ?_
 rintro B3 i  ⟨hi0,hB3⟩
 refine ac ?_
 refine Tr.seq ?_
 refine Tr.cn rfl ?_ ?_<;>intro h3 q3
 have hi:i<n:=AJ h3
 have hBl:=hB3.1
 obtain ⟨x,hx⟩:=at_ (l:=B3) (k:=i) AA
 obtain ⟨y,hy⟩:=at_ (l:=B3) (k:=k) AA
 refine ac ?_
 refine ac ?_
 refine ac ?_
 refine co rfl (AH rfl underlying143 F1 (vl rfl) (vl rfl) AA AA) (co rfl (Bi 0 rfl (AW rfl JD (vl rfl) (LG hx))) (cm rfl (co rfl (Bu (fJ) rfl rfl rfl) ?_)))
 refine ac ?_
 refine wk [55,44,43,40,39,9,8,5,0] rfl ?_
 refine Tr.cn rfl ?_ ?_<;>intro h4 q4
 refine Tr.rx ?_
 refine ay ?_
 refine xo rfl (fun _=>AH rfl underlying143 F1 (vl rfl) (vl rfl) AA AA) (GV 0 rfl rfl (AW rfl JD (vl rfl) (LG hx)) ?_)
 refine ay ?_
 refine xo rfl (fun _=>AH rfl underlying143 F1 (vl rfl) (vl rfl) AA AA) (GV 0 rfl rfl (AW rfl JD (vl rfl) (LG hy)) (xo rfl (fun _=>Qg rfl (vl rfl) (vl rfl)) (xo rfl (fun _=>AH rfl underlying143 F1 (vl rfl) (vl rfl) AA AA) ?_)))
 refine Cx.C0 0 rfl rfl (Aq rfl rfl (vl rfl) (Vo rfl) F1 rfl F8 (SZ hx)) ?_
 refine Cx.nil ⟨by kernel_rfl,?_⟩
 refine BE.done mo ?_
 refine ac ?_
 refine wk [44,43,40,39,8,5,0] rfl ?_
 refine ac ?_
 exact Fin.CC (B3.set i (x|||y)) (i+1)  (⟨⟨hi,qE hB3 hx hy (by rw [←Xy hB3 hx hk];exact h4)⟩,by omega⟩) ⟨⟨_,rfl,AG i⟩,kz⟩ (fun _ _ h=>h)
 refine ac ?_
 refine ac ?_
 exact Fin.CC (B3) (i+1)  (⟨⟨hi,we hB3 (by rw [←Xy hB3 hx hk];exact h4)⟩,by omega⟩) ⟨⟨_,rfl,AG i⟩,kz⟩ (fun _ _ h=>h)
 have hin:i=n:=by have:=AK h3;omega
 rw [hin] at hB3
 refine ac ?_
 refine ac ?_
 exact Fin.CC (B3) (k+1)  (⟨⟨hk,Gm hB3 fun a b _ hb=>qB hb⟩,by omega⟩) ⟨⟨_,rfl,AG k⟩,kz⟩ (fun _ _ h=>h)
 have hkn:k=n:=by have:=AK h2;omega
 rw [hkn] at hB2
 obtain rfl:=aR hB2 (F9 AA)
 refine Tr.exit (Fin.Ai (Fin.Ai (Fin.BB (Fin.go (Tr.seq (Tr.seq (Tr.Bq (cm rfl (cm rfl (Ch.nil (Fin.go (Tr.block ?_))))))))))))
 refine Tr.qM _ (kk [74,5] rfl) (fun Ds i=>⟨_,Ds.map Cp.mark⟩) (fun Ds i=>[(75,int ((i:Nat):Int))]) (fun Ds i=>Hp M0 w0 S (AE true b1 S9 ((DL n l).map fun x=>u32 x)::AE true b2 S9 ((Eh (DL n l) i).map fun x=>u32 x)::AE true b3 145 [int ((n:Nat):Int),is (Jp n b1),is (Jp n b2)]::AE true b4 136 [ptr b3 0]::FJ::(Ds.map SW++Ac M1 w1::rs))) (fun Ds i=>i≤(n)) (fun Ds i=>(n)-i) [] 0 rfl (Nat.zero_le _) kz ((by rw [Eh,DV];exact fun _ _ h=>h)) ?_
 rintro Ds i UD
 refine Tr.seq (Tr.Bq (Ch.op rfl rfl Am (ki rfl rfl rfl rfl) (Ch.nil (Fin.go (Tr.seq ?_)))))
 refine Tr.cn rfl ?_ ?_<;>intro h5 q5
 have Ik:i<(n):=AJ h5
 obtain ⟨x,hx⟩:=at_ (l:=DL n l) (k:=i) (by rw [DV];omega)
 refine Tr.skip (Fin.go (Tr.seq (Tr.block (Tr.seq (Tr.BI (TO.op rfl rfl Am (DD rfl (vl rfl)) ?_))))))
 refine TO.alloc rfl rfl Am rfl z3 zo3 (fun b6=> ?_)
 refine sf 0 10 ⟨rfl,rfl,rfl⟩ rfl rfl rfl rfl ?_
 refine TO.nil (Fin.go (Tr.seq (Tr.pad (Tr.rx (Cx.rd 4 rfl rfl rfl Am (AW rfl VR (vl rfl) rfl) (Cx.op rfl rfl Am (fun _=>I9 rfl (vl rfl)) (Cx.op rfl rfl Am (fun _=>BU rfl dS (vl rfl)) (Cx.rd 3 rfl rfl rfl Am (AW rfl VS (vl rfl) rfl) (Cx.op rfl rfl Am (fun _=>JA rfl BT rfl) (Cx.op rfl rfl Am (fun _=>AH rfl underlying143 F1 (vl rfl) (vl rfl) AA AA) (Cx.rd 1 rfl rfl rfl Am (AW rfl JD (vl rfl) (LG hx)) (Cx.ef 0 rfl rfl Am (FA rfl rfl Am rfl (qO) kz) ?_))))))))))))
 refine Cx.nil ⟨by kernel_rfl,?_⟩
 refine BE.open_ 0 85 rfl rfl (fun v1=> ?_)
 refine BE.done mo (Fin.shape 85 (fun b=>qN b) rfl (fun fb7 fe7=> ?_))
 subst fe7
 refine Fin.SX 0 (AE true fb7 S9 [_]) rfl rfl (Fin.go (wk [85,75,74,10,5] rfl (Tr.block (Tr.ABc 11 _ (kk [10,5] rfl) (fun pre=>AE true b1 S9 ((DL n l).map fun x=>u32 x)::AE true b2 S9 ((pre.foldl (H8 i) (Eh (DL n l) i)).map fun x=>u32 x)::AE true b3 145 [int ((n:Nat):Int),is (Jp n b1),is (Jp n b2)]::AE true b4 136 [ptr b3 0]::(Ds.map SW++Ac M1 w1::rs)) (WC (s:=x)) WD (vl rfl) ((EL (j:=5) rfl).trans (List.Perm.cons _ ((EL (j:=0) rfl).trans (List.Perm.cons _ (List.Perm.refl _))))) rfl Am ?_ ?_ ?_))))
 rintro lk Dk rk Mr wr pre y0 hpre
 refine Tr.Bq (Ch.op rfl rfl Am (FK rfl (vl rfl)) (Ch.nil (Fin.st ⟨ke rfl,kz⟩)))
 rintro lk Dk rk Mr wr pre y0 hpre
 have hlt:y0<n:=by
  have h_:=H6.1 (qR hpre)
  rw [(F9 AA).2 i x hx,Bool.and_eq_true,decide_eq_true_eq] at h_
  exact h_.1
 have hal:(pre.foldl (H8 i) (Eh (DL n l) i)).length=n:=by rw [OZ,HS,DV]
 obtain ⟨y,hy⟩:=at_ (l:=pre.foldl (H8 i) (Eh (DL n l) i)) (k:=y0) AA
 refine Tr.block (Tr.rx (Cx.rd 8 rfl rfl rfl Am (AW rfl VR (vl rfl) rfl) (Cx.op rfl rfl Am (fun _=>I9 rfl (vl rfl)) (Cx.op rfl rfl Am (fun _=>BU rfl dU (vl rfl)) (Cx.rd 7 rfl rfl rfl Am (AW rfl VS (vl rfl) rfl) (Cx.op rfl rfl Am (fun _=>DD rfl (vl rfl)) (Cx.op rfl rfl Am (fun _=>AH rfl underlying143 F1 (vl rfl) (vl rfl) AA AA) (Cx.rd 6 rfl rfl rfl Am (AW rfl JD (vl rfl) (LG hy)) (Cx.op rfl rfl Am (fun _=>JA rfl BT rfl) ?_)))))))))
 refine Cx.op rfl rfl Am (fun _=>Nf (b:=1#32) rfl (vl rfl) (vl rfl) (Int.natCast_nonneg _)) ?_
 refine Cx.op rfl rfl Am (fun _=>Qg rfl (vl rfl) (vl rfl)) (Cx.op rfl rfl Am (fun _=>AH rfl underlying143 F1 (vl rfl) (vl rfl) AA AA) ?_)
 refine Cx.C0 6 rfl rfl (Aq rfl rfl (vl rfl) (Vo rfl) F1 rfl F8 ((SZ hy).trans (congrArg (fun B:List (BitVec 32)=>B.map fun x=>u32 x) (ia hy)))) ?_
 refine Cx.nil ⟨by kernel_rfl,?_⟩
 refine BE.done (EK.cons (EK.cons (EK.cons (EK.cons (EK.cons (EK.cons (EK.cons (EK.cons (EK.cons (EK.map _)))))))))) (Fin.block (Fin.rnd () (List.Perm.refl _)))
 rintro lk Dk rk Mr wr
 refine Fin.drop 1 (Fin.drop 1 (Fin.drop 2 (Fin.KY (List.Perm.cons _ ((List.perm_middle (l₁:=[_,_,_,_])).symm)) ?_)))
 refine Fin.KY (List.perm_middle (l₁:=[_,_,_,_])).symm ?_
 refine ac ?_
 refine Tr.Bq ?_
 refine Ch.op rfl rfl Am (I7 rfl (vl rfl) (vl rfl) ?hin) ?_;case hin=>unfold Oj;omega
 refine Ch.op rfl rfl Am (DD rfl (vl rfl)) (Ch.nil ?_)
 exact Fin.AGK (_::_) (i+1) rfl (⟨Ik,by omega⟩) ⟨⟨_,rfl,AG i⟩,kz⟩ ((by rw [UP hx];exact fun _ _ h=>h))
 have NU:i=(n):=by have:=AK h5;omega
 have qS:=NU.symm
 subst qS
 refine ac ?_
 refine Tr.seq (Tr.j6 0 (((DL n l).map fun x=>[u32 x]).flatten++([]:List Value).map is) rfl (UR _) ?_)
 refine Tr.u7 (cap:=n) (sz:=1) ((DL n l).map fun x=>[u32 x]) 0 2 1 rfl rfl AD rfl (Pr.le_of_eq (by rw [List.length_map,DV n l])) (Bh fun _=>rfl) (by rw [List.length_map,DV n l];exact Nat.le_refl _) Fa (by simp [HS,DV]) rfl ?_
 refine Tr.j6 1 (((Eh (DL n l) n).map fun x=>[u32 x]).flatten++([]:List Value).map is) rfl (UR _) ?_
 refine Tr.u7 (cap:=n) (sz:=1) ((Eh (DL n l) n).map fun x=>[u32 x]) 1 2 2 rfl rfl AD rfl (Pr.le_of_eq (by rw [List.length_map,(HS _ _).trans (DV n l)])) (Bh fun _=>rfl) (by rw [List.length_map,(HS _ _).trans (DV n l)];exact Nat.le_refl _) Fa (by simp [HS,DV]) rfl ?_
 refine Tr.Bq (Ch.op rfl rfl Am (Bi 3 rfl (AW rfl VR (vl rfl) rfl)) (Ch.op rfl rfl Am (FK rfl (vl rfl)) ?_))
 refine ac ?_
 refine Tr.ret (Fin.freeze 2 4 rfl rfl (Fin.drop 0 (Fin.drop 0 (Fin.drop 0 (Fin.KY List.perm_middle.symm (Fin.WB (Fin.ER rfl rfl ?_ (fun _ _ _ _=>rfl))))))))
 · exact ABi ⟨Lr,At _ _,At _ _,trivial⟩
def aV (n:Int) (l:List B0):Pr:=if BR n l=0 then ref [int n,bits (DL n.toNat l),bits (Eh (DL n.toNat l) n.toNat)] else is (.pointer none)
instance AGN (n:Int) (l:List B0):One (aV n l):=by
 unfold aV;split
 · exact cz _
 · exact cx _
theorem J0 {n:Int} {e:Int} (h:BR n l=e) (he:e≠0):Pr.le (is (.pointer none)) (aV n l):=by
 unfold aV;rw [if_neg P0];exact Pr.le_refl _
theorem WG {n:Int} (h:BR n l=0):aV n l=ref [int n,bits (DL n.toNat l),bits (Eh (DL n.toNat l) n.toNat)]:=by
 unfold aV;rw [if_pos h]
theorem LH {n:Int} (h:n<0∨24<n):BR n l=2:=by unfold BR;rw [if_pos h]
theorem Qv {n:Int} {r:B0} (h:0≤n∧n≤24) (hr:l[k]? =some r) (hb:FY n r=true):BR n l=44:=by grind [BR]
theorem fK {n:Int} (h:∀j y,j<l.length→l[j]? =some y→FY n y=false):∀r∈l,FY n r=false:=fun r hr=>by
 obtain ⟨j,hj⟩:=List.mem_iff_getElem?.1 hr
 exact h j r ZD hj
theorem aW {n:Int} (h:∀r∈l,FY n r=false):¬l.any (FY n)=true:=by grind
theorem WH {n:Int} {a b:B0} (h:0≤n∧n≤24) (hb:∀r∈l,FY n r=false) (hk:0<k) (ha:l[k-1]? =some a) (hx:l[k]? =some b) (hl:Et a b=false):BR n l=6:=by
 unfold BR;rw [if_neg AA,if_neg (aW hb),if_pos]
 cases hs:D3 l with
 |false=>rfl
 |true=>
  have:=MT.1 hs (k-1) a b ha (by rw [Nat.sub_add_cancel hk];exact hx)
  rw [hl] at this;cases this
theorem Sb (h:n≤24) (hb:∀r∈l,FY n r=false) (hs:D3 l=true) (hi:i<n) (hw:Cm l n i i=true):BR n l=45:=by
 unfold BR;rw [if_neg AA,if_neg (aW hb),if_neg (by rw [hs];decide),if_pos (show AGC (n:Int).toNat l=true from List.any_eq_true.2 ⟨i,List.mem_range.2 AA,hw⟩)]
theorem WI (h:n≤24) (hb:∀r∈l,FY n r=false) (hs:D3 l=true) (hw:∀i,i<n→Cm l n i i=false):BR n l=0:=by
 unfold BR;rw [if_neg AA,if_neg (aW hb),if_neg (by rw [hs];decide),if_neg]
 intro hc
 obtain ⟨i,hi,h2⟩:=List.any_eq_true.1 hc
 have:=hw i (by simpa using hi)
 rw [show ((n:Int)).toNat=n from rfl] at h2
 rw [this] at h2;cases h2
theorem Sc (h:∀(j:Nat) a b,j+1<l.length→l[j]? =some a→l[j+1]? =some b→Et a b=true):D3 l=true:=MT.2 fun j a b ha hb=>h j a b (by rcases Nat.lt_or_ge (j+1) l.length with h2|h2;exact h2;rw [List.getElem?_eq_none h2] at hb;cases hb) ha hb
theorem KZ {x:B0} (hx:l[k]? =some x) (hp:∀y,0<k→l[k-1]? =some y→Et y x=true) (h:∀(j:Nat) a b,j+1<k→l[j]? =some a→l[j+1]? =some b→Et a b=true):∀(j:Nat) a b,j+1<k+1→l[j]? =some a→l[j+1]? =some b→Et a b=true:=by grind
theorem fL {n:Int}:Ba prog 58 [int n,reqs l] (DW [aV n l,int (BR n l)]) (FJ) (fun _=>FJ):=by
 refine Ba.of func58 rfl rfl Am fun M0 w0 S rs M1 w1=> ?_
 refine Tr.CN 1 rfl fun Fq=> ?_
 refine ac ?_
 refine ag ?_ ?_<;>intro h1 q1
 refine a2 ?_
 refine Tr.ret (Fin.AF (Fin.F0 rfl rfl ?_ rfl ?_))
 · exact J0 (LH AA) AD
 · refine int_eq ?_;exact (LH AA).symm
 refine an ?_ ?_<;>intro h2 q2
 refine ac ?_
 refine Tr.ret (Fin.AF (Fin.F0 rfl rfl ?_ rfl ?_))
 · exact J0 (LH AA) AD
 · refine int_eq ?_;exact (LH AA).symm
 have Nw:0≤n∧n≤24:=by omega
 obtain ⟨m,hm⟩:∃m:Nat,n=(m:Int):=⟨n.toNat,by omega⟩
 refine a2 ?_
 refine Tr.block (Tr.A0 _ (kk [19,18,1,0] rfl) (fun k:Nat=>[(20,int ((k:Nat):Int))]) (fun k:Nat=>k≤(l).length∧(∀j y,j<k→l[j]? =some y→FY n y=false)) (fun k:Nat=>(l).length-k) 0 (⟨Nat.zero_le _,fun j y hj=>absurd hj AA⟩) kz ?_)
 rintro k ⟨BN,AX⟩
 refine ac ?_
 refine Tr.seq ?_
 refine Tr.cn rfl ?_ ?_<;>intro h3 q3
 have Ae:k<(l).length:=AJ h3
 obtain ⟨x,Af⟩:=at_ Ae
 refine ac ?_
 refine Tr.seq (Tr.block (Tr.seq (Tr.BI (tp rfl (AB rfl underlying33 Dy vq vq AA (Ad Af)) (tp rfl (Al rfl Jd Dy vq rfl rfl) ?_)))))
 refine Tl rfl rfl rfl rfl z85 RQ (fun b1=> ?_)
 refine sf 0 7 ⟨rfl,rfl,rfl⟩ rfl rfl rfl rfl ?_
 refine ao ?_
 refine ag ?_ ?_<;>intro h4 q4
 refine ac ?_
 refine wk [50,20,19,18,1,0] rfl ?_
 refine ac ?_
 refine Tr.ret (Fin.AP (Fin.AF (Fin.AF (Fin.AP (Fin.AF (Fin.F0 rfl rfl ?_ rfl ?_))))))
 · exact Qw
 · exact Qu
 refine ag ?_ ?_<;>intro h5 q5
 refine ac ?_
 refine wk [50,20,19,18,1,0] rfl ?_
 refine ac ?_
 refine Tr.ret (Fin.AP (Fin.AF (Fin.AF (Fin.AP (Fin.AF (Fin.F0 rfl rfl ?_ rfl ?_))))))
 · exact Qw
 · exact Qu
 refine ag ?_ ?_<;>intro h6 q6
 refine ac ?_
 refine wk [50,20,19,18,1,0] rfl ?_
 refine ac ?_
 refine Tr.ret (Fin.AP (Fin.AF (Fin.AF (Fin.AP (Fin.AF (Fin.F0 rfl rfl ?_ rfl ?_))))))
 · exact Qw
 · exact Qu
 refine ag ?_ ?_<;>intro h7 q7
 refine ac ?_
 refine wk [50,20,19,18,1,0] rfl ?_
 refine ac ?_
 refine Tr.ret (Fin.AP (Fin.AF (Fin.AF (Fin.AP (Fin.AF (Fin.F0 rfl rfl ?_ rfl ?_))))))
 · exact Qw
 · exact Qu
 refine ac ?_
 refine wk [50,20,19,18,1,0] rfl ?_
 refine Tr.cn rfl ?_ ?_<;>intro h8 q8
 refine ac ?_
 refine Tr.ret (Fin.AP (Fin.AF (Fin.AF (Fin.AP (Fin.AF (Fin.F0 rfl rfl ?_ rfl ?_))))))
 · exact Qw
 · exact Qu
 refine a2 ?_
 exact Fin.AL (k+1) ⟨⟨Ae,Dm (p:=FY n) Af cZ AX⟩,by omega⟩ ⟨⟨_,rfl,AG k⟩,kz⟩
 have BC:k=(l).length:=by have:=AK h3;omega
 subst BC
 refine ac ?_
 refine Tr.seq (Tr.seq ?_)
 have hall:=fK AX
 clear AX
 refine ac ?_
 refine Tr.block (Tr.A0 _ (kk [53,1,0] rfl) (fun k:Nat=>[(54,int ((k:Nat):Int))]) (fun k:Nat=>k≤(l).length∧(∀(j:Nat) a b,j+1<k→l[j]? =some a→l[j+1]? =some b→Et a b=true)) (fun k:Nat=>(l).length-k) 0 (⟨Nat.zero_le _,fun j a b hj=>absurd hj AA⟩) kz ?_)
 rintro k ⟨BN,AX⟩
 refine ac ?_
 refine Tr.seq ?_
 refine Tr.cn rfl ?_ ?_<;>intro h9 q9
 have Ae:k<(l).length:=AJ h9
 obtain ⟨x,Af⟩:=at_ Ae
 refine a2 ?_
 refine ag ?_ ?_<;>intro h10 O2
 obtain ⟨y,hy⟩:=at_ (l:=l) (k:=k-1) AA
 refine ac ?_
 refine cy h10 rfl (AB rfl underlying33 Dy vq vq AA (RD AA hy)) ?_
 refine ac ?_
 refine cy h10 rfl (AB rfl underlying33 Dy vq vq AA (Ad Af)) (cy h10 rfl (Al rfl Jd Dy vq rfl rfl) ?_)
 refine cy h10 rfl (Bu (aU (a:=y) (b:=x)) rfl rfl rfl) ?_
 refine ac ?_
 refine wk [71,54,53,1,0] rfl ?_
 refine Tr.cn rfl ?_ ?_<;>intro h11 Rz
 refine ac ?_
 refine Tr.ret (Fin.AP (Fin.AF (Fin.AF (Fin.AP (Fin.AF (Fin.F0 rfl rfl ?_ rfl ?_))))))
 · exact J0 (WH Nw hall AA hy Af (by have h_:=WE (a:=y) (b:=x);simp_all)) AD
 · refine int_eq ?_;exact (WH Nw hall AA hy Af (by have h_:=WE (a:=y) (b:=x);simp_all)).symm
 refine a2 ?_
 exact Fin.AL (k+1) ⟨⟨Ae,KZ Af (by intro y2 hk2 hy2;rw [hy] at hy2;cases hy2;have h_:=WE (a:=y) (b:=x);simp_all) AX⟩,by omega⟩ ⟨⟨_,rfl,AG k⟩,kz⟩
 refine ac ?_
 refine wk [71,54,53,1,0] rfl ?_
 refine a2 ?_
 exact Fin.AL (k+1) ⟨⟨Ae,KZ Af (by intro y2 hk2 hy2;omega) AX⟩,by omega⟩ ⟨⟨_,rfl,AG k⟩,kz⟩
 have BC:k=(l).length:=by have:=AK h9;omega
 subst BC
 refine ac ?_
 refine Tr.seq ?_
 have wu:=Sc AX
 subst hm
 refine ao ?_
 refine TO.FL 0 rfl rfl AD (Ak rfl rfl AD rfl (ig (n:=m) AA hall) ⟨kq,kz⟩) ?_
 refine ao ?_
 refine Tr.seq (Tr.seq ?_)
 have VU:=DV m l
 refine ac ?_
 refine wk [81,80,79,9] rfl (Tr.block (Tr.A0 _ (kk [80,79,9] rfl) (fun i:Nat=>[(81,int ((i:Nat):Int))]) (fun i:Nat=>i≤(DL m l).length∧(∀j,j<i→Cm l m j j=false)) (fun i:Nat=>(DL m l).length-i) 0 (⟨Nat.zero_le _,fun j hj=>absurd hj AA⟩) kz ?_))
 rintro i ⟨UD,E0⟩
 refine ac ?_
 refine Tr.seq ?_
 refine Tr.cn rfl ?_ ?_<;>intro h12 TN
 have Ik:i<(DL m l).length:=AJ h12
 obtain ⟨x,LP⟩:=at_ Ik
 refine a2 ?_
 refine co rfl (AB rfl underlying143 F1 vq vq AA (Sa LP)) ?_
 refine a2 ?_
 refine co rfl (Bu (fJ) rfl rfl rfl) ?_
 refine an ?_ ?_<;>intro J8 Vs
 refine ac ?_
 refine wk [5,4] rfl (Tr.ret (Fin.AP (Fin.AF (Fin.AF (Fin.AP (Fin.AF (Fin.F0 rfl rfl ?_ rfl ?_)))))))
 · exact J0 (Sb AA hall wu (i:=i) AA cF) AD
 · refine int_eq ?_;exact (Sb AA hall wu (i:=i) AA cF).symm
 refine a2 ?_
 exact Fin.AL (i+1) ⟨⟨Ik,(fun j hj=>by rcases Nat.lt_or_ge j i with h_|h_;exact E0 j h_;(obtain rfl:j=i:=by omega);have h_:=(F9 (l:=l) (show m≤32 by omega)).2 j x LP j;simp_all;done)⟩,by omega⟩ ⟨⟨_,rfl,AG i⟩,kz⟩
 have NU:i=(DL m l).length:=by have:=AK h12;omega
 rw [DV] at NU
 subst NU
 refine a2 ?_
 refine Tr.ret (Fin.F0 rfl rfl ?_ rfl ?_)
 · rw [WG (WI AA hall wu E0)];exact Lr
 · refine int_eq ?_;exact (WI AA hall wu E0).symm
end Go.Proofs.YteomgekmipcdpaaGreatDoor
namespace Cp
open Go Go.RowKit Go.Great
variable {a:Act} {M:Av} {new:Bool} {f:FuncId} {rows:List (List Pr)} {ps qs:List Pr} {b i j m:Nat} {p q:Pr} {P:Program} {T e t:TypeId} {w:World}
section
variable {P:Program} {L:Lg P} {n:Fm} {fz:Nat} {E:Env} {M0:Av} {w0:World} {S:Nat→Prop} {o:Oper}
def qT (T:TypeId) (u v:Value):Ay:=match v with| .pointer (some a)=>AE true a.block T (u.cells.toList.map is)|_=>Bo
theorem wv {d s:Nat} {R:SR} {p1:Pr} {p:Value→Pr} {R':Value→Value→Ay} (hd:o.dst=some d) (hs:d≠s) (hq:∀v,Pr.le (p v) q) (hg:o.guard=none) (h1:E.lookup s=some p1) (hls:s∈looks o) (h:∀v,DY P M0 w0 S n j R ⟨d,R' v⟩ o ((s,Ag v p1)::E) (p v)):DY P M0 w0 S n j R ⟨.two d s,X5 R'⟩ o E q:=by
 refine ⟨hg,fun M w a rs hsz he hI hj=> ?_⟩
 refine D7.conv (hq _) (fun v=> ?_) ((h (a.tmps.getD s undef)).2 M w a rs hsz (JT he s (he s p1 hls h1)) hI hj)
 rw [Qh,hd,BQ (Ne.symm hs)];rfl
theorem ij {s y:Tmp} (hg:o.guard=none) (hd:o.dst=none) (ho:o.op= .store t (.tmp s) (.tmp y)) (hsy:s≠y) (hx:E.lookup s=some (Cp.ex fun b=>ptr b 0)) (hy:E.lookup y=some p) (hp:Pr.le p (DP qs)) (hz:Az P t=some m) (hm:qs.length=m) (hl:ps.length=m):DY P M0 w0 S n j ⟨s,Er T ps⟩ ⟨.two s y,X5 fun u v=>qT T u v⟩ o E any:=by
 refine ⟨hg,fun M w a rs hsz he hI hj=> ?_⟩
 have NF:y∈looks o:=OX (op:= .store t (.tmp s) (.tmp y)) (by simp [Op.operands]) ho
 have hpy:=hp _ _ _ (he y p NF hy)
 have hle:Pr.le (Ag (a.tmps.getD y undef) (DP qs)) (DP ((a.tmps.getD y undef).cells.toList.map is)):=fun M w v h=>by
  obtain ⟨rfl,h2⟩:=h
  obtain ⟨g1,g2⟩:=h2
  exact ⟨J3 _ _ _,g2⟩
 have h:=(C2 (P:=P) (M0:=M0) (w0:=w0) (S:=S) (n:=n) (j:=j) (T:=T) (ps:=ps) (qs:=(a.tmps.getD y undef).cells.toList.map is) (E:=(y,Ag (a.tmps.getD y undef) (DP qs))::E) hg hd ho cE ⟨_,List.lookup_cons_self,hle⟩ hz (by have:=hpy.1.length;rw [List.length_map];omega) hl).2 M w a rs hsz (JT he y hpy) hI hj
 refine D7.conv (Pr.le_refl _) (fun v=> ?_) h
 rw [Qh,hd];rfl
end
section
variable {P:Program} {L:Lg P} {n:Fm} {fz:Nat} {E:Env} {M0:Av} {w0:World} {S:Nat→Prop} {rs:List Ay} {Q:Exit→Act→World→Prop}
theorem X6 {M:Av} {w:World}:∀{zs cs:List Value},HL M w (zs.map is) cs→cs=zs
 |[],[],_=>rfl
 |[],_::_,h=>h.elim
 |_::_,[],h=>h.elim
 |z::zs,c::cs,h=>by
  obtain ⟨h1,h2⟩:=h
  rw [X6 h2,show c=z from h1]
theorem Fin.qV {e:Exit} {u:Value} (i j:Nat) (hi:rs[i]? =some (KW (agg ps) u)) (hj:rs[j]? =some (qT T u (.pointer (some ⟨b,0,none⟩)))) (k:Fin n E (Hp M0 w0 S (rs.set j (AE true b T ps))) Q e):Fin n E (Hp M0 w0 S rs) Q e:=by
 rintro a w ⟨M,h1,h2,h3,h4⟩
 have h4:A8 M0 w0 S rs M w:=h4
 refine k a w ⟨M,h1,h2,h3,A8.Cw h4 hj rfl rfl ?_⟩
 obtain ⟨cs,rfl,_,hcs⟩:=(h4.hold _ (List.mem_of_getElem? hi)).1
 obtain ⟨g0,cs',g1,g2,g3⟩:=(h4.hold _ (List.mem_of_getElem? hj)).1
 have e1:cs'=cs:=by
  have:=X6 g2
  rw [this];show cs.toArray.toList=cs;simp
 subst e1
 exact ⟨g0,cs',g1,hcs,g3⟩
end
section
variable {P:Program}
theorem Ba.wz {args:List Pr} {res:Pr} {r:Ay} (h:Ba P f args res r (fun _=>r)) (hb:r.blk=none) (W:World) (vs:List Value) (hr:r.h noM W) (hv:HL noM W args vs):
  Calls P f vs.toArray W fun e w'=>∃v,e= .returned v∧res.h noM w' v∧Below W.heap.size W w':=by
 refine (h.2 noM W FG [] noM W vs ((A8.begin (zg W)).Jm (r:=r) hb hr) hv).mono ?_
 rintro e w' ⟨v,M',rfl,h2,h3,h4⟩
 exact ⟨v,rfl,res.st _ _ _ _ _ (Ext.less h4.m) h2,h4.below⟩
end
section
variable {P:Program} {n:Fm} {E:Env} {M0:Av} {w0:World} {S:Nat→Prop} {rs:List Ay} {Q:Exit→Act→World→Prop} {p0 p1:Pr} {R:Value→Ay}
end
section
variable {P:Program} {L:Lg P} {n:Fm} {E:Env} {M0:Av} {w0:World} {S:Nat→Prop} {rs:List Ay} {Q:Exit→Act→World→Prop} {c:Code}
theorem Tr.AGO {sz:Nat} (s:Nat) (hs:E.lookup s=some p) (hp:Pr.le p (full sz rows)) (k:∀v,Tr L n ((s,Ag v (slice sz rows))::E) (Hp M0 w0 S (Ax e sz v::rs)) c Q):Tr L n E (Hp M0 w0 S rs) c Q:=by
 intro a w hst
 obtain ⟨M,k1,k2,k3,k4⟩:=hst
 have k4:A8 M0 w0 S rs M w:=k4
 obtain ⟨h1,A,h2⟩:=hp _ _ _ (k3 s p hs)
 refine k (a.tmps.getD s undef) a w ⟨M,k1,k2,fun t q hq=> ?_,A8.Jm k4 ?_ ?_⟩
 ·
  simp only [List.lookup] at hq
  split at hq
  ·
   rename_i e1
   have:t=s:=by simpa using e1
   subst this
   simp only [Option.some.injEq] at hq
   subst hq
   exact ⟨rfl,h1⟩
  · exact k3 t q hq
 ·
  rw [h2]
  show Db _=none
  cases A with
  |none=>rfl
  |some x=>simp [Db]
 ·
  intro b m d hv hlt
  rw [h2] at hv
  cases hv
  exact absurd hlt (Nat.lt_irrefl _)
variable {ε:Type}
theorem fM {f:ε→Ay}:∀{X:List ε} {k:Nat} {x:ε},X[k]? =some x→(HX (fun x=>[f x]) X)[k]? =some (f x)
 |[],_,_,h=>by simp at h
 |a::X,0,x,h=>by simp at h;subst h;rfl
 |a::X,k+1,x,h=>by
  show (HX (fun x=>[f x]) X)[k]? =_
  exact fM D5
theorem Fin.fold {x:Exit} {res:ε→List Ay} (Cl:List Ay) {es:List ε} (y:ε) (NJ:rs=res y++(Cl++HX res es)) (k:Fin n E (Hp M0 w0 S (Cl++HX res (es++[y]))) Q x):Fin n E (Hp M0 w0 S rs) Q x:=
 Fin.KY (by
  subst NJ
  rw [XN,←List.append_assoc Cl]
  exact List.perm_append_comm) k
theorem Tr.w4 {f:ε→Value} {g:ε→Pr} {X:List ε} (j s:Nat) (hj:rs[j]? =some (pY f g X)) (hs:E.lookup s=some p) (hp:Pr.le p (slice 1 (X.map fun x=>[is (f x)]))) (k:Tr L n ((s,slice 1 (X.map fun x=>[g x]))::E) (Hp M0 w0 S rs) c Q):Tr L n E (Hp M0 w0 S rs) c Q:=by
 intro a w ha
 obtain ⟨M,k1,k2,k3,k4⟩:=ha
 have k4:A8 M0 w0 S rs M w:=k4
 refine k a w ⟨M,k1,k2,fun t q hq=> ?_,k4⟩
 simp only [List.lookup] at hq
 split at hq
 ·
  rename_i e1
  have:t=s:=by simpa using e1
  subst this
  simp only [Option.some.injEq] at hq
  subst hq
  obtain ⟨ad,cap,h1,h2,h3,h4,h5⟩:=hp _ _ _ (k3 t p hs)
  have hall:=(k4.hold _ (List.mem_of_getElem? hj)).1
  refine ⟨ad,cap,by rw [h1];simp,by simpa using h2,h3,h4,fun i row hr=> ?_⟩
  rw [List.getElem?_map] at hr
  cases hx:X[i]? with
  |none=>rw [hx] at hr;cases hr
  |some x=>
   rw [hx] at hr
   simp only [Option.map_some,Option.some.injEq] at hr
   subst hr
   obtain ⟨_,ad2,h6,h7⟩:=h5 i [is (f x)] U5
   refine ⟨rfl,ad2,h6,fun q r hr=> ?_⟩
   cases q with
   |zero=>
    simp only [List.getElem?_cons_zero,Option.some.injEq] at hr
    subst hr
    obtain ⟨u,h8,h9,h10,h11⟩:=h7 0 _ rfl
    have hu:u=f x:=h11
    exact ⟨u,h8,h9,h10,by rw [hu];exact hall x (List.mem_of_getElem? hx)⟩
   |succ q=>simp at hr
 · exact k3 t q hq
abbrev HT (e:TypeId) (x:Nat×List Bool):List Ay:=[AE true x.1 e (x.2.map fun b=>bool b)]
theorem qW {n:Nat}:(List.replicate n (Value.bool false)).map is=(List.replicate n false).map fun b=>bool b:=by rw [List.map_replicate,List.map_replicate]
theorem Tr.w5 {X:List (Nat×List Bool)} (Cl:List Ay) (s:Nat) (NJ:rs=Cl++HX (HT e) X) (hm:m≤maxLen) (hX:∀x∈X,x.2.length=m) (hs:E.lookup s=some p) (hp:Pr.le p (slice 1 (X.map fun x=>[is (Jp m x.1)]))) (k:Tr L n ((s,slice 1 (X.map fun x=>[slice 1 (x.2.map fun b=>[bool b])]))::E) (Hp M0 w0 S (pY (fun x:Nat×List Bool=>Jp m x.1) (fun x=>slice 1 (x.2.map fun b=>[bool b])) X::Cl)) c Q):Tr L n E (Hp M0 w0 S rs) c Q:=by
 subst NJ
 intro a w hst
 obtain ⟨M,k1,k2,k3,k4⟩:=hst
 have k4:A8 M0 w0 S (Cl++HX (HT e) X) M w:=k4
 obtain ⟨M1,g1,g2,g3⟩:=A8.Vf (w:=w) (Φ:=fun (x:Nat×List Bool) M w=>Row M w ⟨x.1,0,none⟩ 0 (x.2.map fun b=>bool b)) (fun x M M' he h=>Row.st he h) (fun x rs M h=>by
  obtain ⟨M',h1,h2,h3⟩:=A8.P9 h
  exact ⟨M',h2,h1,h3⟩) X _ M k4
 refine Tr.w4 (f:=fun x:Nat×List Bool=>Jp m x.1) (g:=fun x=>slice 1 (x.2.map fun b=>[bool b])) (X:=X) 0 s rfl hs hp k a w ⟨M1,k1,k2,fun t q hq=>q.st _ _ _ _ _ g1 (k3 t q hq),A8.Jm g2 rfl fun x hx=> ?_⟩
 have hl:=hX x hx
 refine ⟨some ⟨x.1,0,none⟩,m,by rw [List.length_map,hl],by rw [List.length_map,hl];exact Nat.le_refl _,hm,(fun h=>nomatch h),fun i row hr=> ?_⟩
 rw [List.getElem?_map] at hr
 cases hb:x.2[i]? with
 |none=>rw [hb] at hr;cases hr
 |some b=>
  rw [hb] at hr
  simp only [Option.map_some,Option.some.injEq] at hr
  subst hr
  refine ⟨rfl,_,rfl,fun q r hq=> ?_⟩
  cases q with
  |zero=>
   simp only [List.getElem?_cons_zero,Option.some.injEq] at hq
   subst hq
   have:=g3 x hx i (bool b) (by rw [List.getElem?_map,hb];rfl)
   simpa using this
  |succ q=>simp at hq
end
theorem zG (h:i≤m) (hm:m≤40):1≤2 ^ i∧2 ^ i≤2 ^ m∧2 ^ m≤1099511627776:=
 ⟨Nat.one_le_two_pow,Nat.pow_le_pow_right AA h,Nat.le_trans (Nat.pow_le_pow_right (n:=2) AA hm) AD⟩
section
variable {P:Program} {I:Cc} {o:Oper} {E:Env}
theorem fN {u:TypeId} {x y:Operand} {i:Int} (ho:o.op= .binOp .shl t x y u) (hx:VL E x (int 1)) (hy:VL E y (int i)) (h0:0≤i) (h40:i≤40):Ab P I o E (int ((2 ^ i.toNat:Nat):Int)):=
 Ab.same fun M w a he _=>by
  have h1:a.eval x= .int .i64 1:=hx.ev he Ap
  have h2:a.eval y= .int .i64 i:=hy.ev he Ap
  have hn:¬i<0:=by omega
  have hmin:min i.toNat 64=i.toNat:=by omega
  have e:((2 ^ i.toNat:Nat):Int)=(2:Int) ^ i.toNat:=Int.natCast_pow 2 i.toNat
  obtain ⟨Mj,dw,hp3⟩:=zG (i:=i.toNat) (m:=i.toNat) (Nat.le_refl _) AA
  have hw:IntKind.i64.wrap (2 ^ i.toNat)=2 ^ i.toNat:=by rw [←e];exact Gz Ku
  refine ⟨.int .i64 (IntKind.i64.wrap (1*2 ^ (min i.toNat IntKind.i64.bits))),?_,?_⟩
  ·
   simp only [execOp,ho,h1,h2]
   simp [eqGuard,binOp,Op.shift,hn]
   try rw [show min i.toNat IntKind.i64.bits=i.toNat from hmin]
  ·
   show Value.int _ _=Value.int _ _
   rw [show min i.toNat IntKind.i64.bits=i.toNat from hmin,Int.one_mul,hw,e]
theorem ABj {u:TypeId} {x y:Operand} {a:Nat} (ho:o.op= .binOp .or t x y u) (hx:VL E x (int (a:Int))) (hy:VL E y (int (b:Int))) (ha:a<2 ^ m) (hb:b<2 ^ m) (hm:m≤40):Ab P I o E (int ((a|||b:Nat):Int)):=
 Ab.same fun M w c he _=>by
  have h1:c.eval x= .int .i64 a:=hx.ev he Ap
  have h2:c.eval y= .int .i64 b:=hy.ev he Ap
  obtain ⟨_,_,hp3⟩:=zG (i:=m) (m:=m) (Nat.le_refl _) hm
  have hab:a|||b<2 ^ m:=Nat.or_lt_two_pow ha hb
  have ea:(BitVec.ofInt 64 (a:Int)).toNat=a:=by rw [BitVec.toNat_ofInt];omega
  have eb:(BitVec.ofInt 64 (b:Int)).toNat=b:=by rw [BitVec.toNat_ofInt];omega
  have er:(BitVec.ofInt 64 (a:Int)|||BitVec.ofInt 64 (b:Int)).toNat=a|||b:=by rw [BitVec.toNat_or,ea,eb]
  refine ⟨_,by simp [execOp,ho,h1,h2,eqGuard,binOp,Op.intBits];rfl,?_⟩
  show Value.int _ _=Value.int _ _
  congr 1
  show IntKind.i64.wrap (((BitVec.ofInt 64 (a:Int)|||BitVec.ofInt 64 (b:Int)).toNat:Nat):Int)=_
  rw [er]
  exact Gz Ku
end
section
variable {P:Program} {fz:Nat} {E:Env} {M0:Av} {w0:World} {rs:List Ay} {g:Func}
theorem results4 {r r' r'' r3:ResultVar} {v v' v'' v3:Value} (hr:g.results= #[r,r',r'',r3]) (h:(HF r a).run P w= .ok v w) (h':(HF r' a).run P w= .ok v' w) (h'':(HF r'' a).run P w= .ok v'' w) (h3:(HF r3 a).run P w= .ok v3 w):(results g a.tmps).run P w= .ok (.tuple #[v,v',v'',v3]) w:=by
 rw [HG,hr];simp [Sem.run_bind,h,h',h'',h3]
theorem Fin.PF {r r' r'' r3:ResultVar} {q' lF q3:Pr} (hr:g.results= #[r,r',r'',r3]) (h:AQ P E rs r q) (h':AQ P E rs r' q') (h'':AQ P E rs r'' lF) (h3:AQ P E rs r3 q3) (hl:Pr.le (DW [q,q',lF,q3]) p):Fin ⟨fz,[]⟩ E (Hp M0 w0 FG rs) (bodyPost P g (Q9 M0 w0 p)) .ret:=by
 rintro a w ⟨M,_,hd,he,hi⟩
 obtain ⟨v,hv,hp⟩:=h M w a he (fun q hq=>(hi.hold q hq).1)
 obtain ⟨v',lU,hp'⟩:=h' M w a he (fun q hq=>(hi.hold q hq).1)
 obtain ⟨v'',lV,lW⟩:=h'' M w a he (fun q hq=>(hi.hold q hq).1)
 obtain ⟨v3,hv3,hp3⟩:=h3 M w a he (fun q hq=>(hi.hold q hq).1)
 obtain ⟨h1,h2⟩:=Bt.Dx M0 w0 M w hi
 exact ⟨hd,_,results4 hr hv lU lV hv3,_,rfl,p.st _ _ _ _ _ (Ext.less h1) (hl _ _ _ ⟨[_,_,_,_],rfl,hp,hp',lW,hp3,trivial⟩),h2⟩
end
def aX {β:Type} (b:Nat) (e:TypeId) (f:β→List Pr) (φ:β→Prop):Ay where
 blk:=some b
 new:=true
 h M w:=∃x:β,φ x∧(AE true b e (f x)).h M w
 st M w M' w' he hk h:=let ⟨x,h1,h2⟩:=h;⟨x,h1,(AE true b e (f x)).st M w M' w' he hk h2⟩
def WJ {β:Type} (T:TypeId) (f:β→List Pr) (φ:β→Prop) (v:Value):Ay:=match v with| .pointer (some a)=>aX a.block T f φ|_=>Bo
section
variable {P:Program} {L:Lg P} {n:Fm} {E:Env} {M0:Av} {w0:World} {S:Nat→Prop} {rs:List Ay} {o:Oper} {β:Type} {f:β→List Pr} {φ:β→Prop}
theorem Fin.fO {Q:Exit→Act→World→Prop} {x:Exit} (j:Nat) (hj:rs[j]? =some (aX b e f φ)) (k:∀z,φ z→Fin n E (Hp M0 w0 S (rs.set j (AE true b e (f z)))) Q x):Fin n E (Hp M0 w0 S rs) Q x:=by
 intro a w h
 obtain ⟨M,h1,h2,h3,h4⟩:=h
 have h4:A8 M0 w0 S rs M w:=h4
 obtain ⟨z,hp,h8⟩:=(h4.hold _ (List.mem_of_getElem? hj)).1
 exact k z hp a w ⟨M,h1,h2,h3,h4.Cw hj rfl rfl h8⟩
theorem D7.wk {R1 R2:SR} {rs:List Ay} {r:Result Next} (hjl:j<rs.length) (hd:o.dst=none) (hb:(R2.at_ a).blk=(R1.at_ a).blk) (hn:(R2.at_ a).new=(R1.at_ a).new) (hh:∀M w,(R1.at_ a).h M w→(R2.at_ a).h M w) (h:D7 P M0 w0 S o a M w p j R1 rs r):D7 P M0 w0 S o a M w p j R2 rs r:=by
 have key:∀v M' w',A8 M0 w0 S (rs.set j (R1.at_ (a.put o.dst v))) M' w'→A8 M0 w0 S (rs.set j (R2.at_ (a.put o.dst v))) M' w':=by
  intro v M' w' hI
  rw [hd] at hI ⊢
  have hI:A8 M0 w0 S (rs.set j (R1.at_ a)) M' w':=hI
  have h1:(rs.set j (R1.at_ a))[j]? =some (R1.at_ a):=by rw [List.getElem?_set_self hjl]
  have:=hI.Cw (r':=R2.at_ a) h1 hb hn (hh _ _ (hI.hold _ (List.mem_of_getElem? h1)).1)
  rw [List.set_set] at this
  exact this
 cases r with
 |halt x w'=>exact h
 |ok x w'=>
  cases x
  case value v=>obtain ⟨M',g1,g2,g3⟩:=h;exact ⟨M',g1,g2,key _ _ _ g3⟩
  case skip=>obtain ⟨M',g1,g2,g3⟩:=h;exact ⟨M',g1,g2,key _ _ _ g3⟩
  case enter f args=>
   refine Calls.mono h ?_
   rintro e w'' ⟨v,M',g0,g1,g2,g3⟩
   exact ⟨v,M',g0,g1,g2,key _ _ _ g3⟩
  all_goals exact h
theorem LI {s y:Tmp} (hg:o.guard=none) (hd:o.dst=none) (ho:o.op= .store t (.tmp s) (.tmp y)) (hsy:s≠y) (hx:E.lookup s=some (Cp.ex fun b=>ptr b 0)) (hy:E.lookup y=some (Cp.ex fun z:β=>fact (φ z) (agg (f z)))) (hz:Az P t=some m) (hm:∀z,(f z).length=m) (hl:ps.length=m):DY P M0 w0 S n j ⟨s,Er T ps⟩ ⟨s,WJ T f φ⟩ o E any:=by
 have hlk:y∈looks o:=OX (op:= .store t (.tmp s) (.tmp y)) (by simp [Op.operands]) ho
 refine DY.Mh y hg hy hlk fun z=>DY.opf y hg (by simp [List.lookup];rfl) hlk fun hφ=> ?_
 have hx':List.lookup s ((y,agg (f z))::(y,fact (φ z) (agg (f z)))::E)=some (Cp.ex fun b=>ptr b 0):=by
  have:(s==y)=false:=by simpa using hsy
  simp only [List.lookup,this];exact hx
 have h:=C2 (P:=P) (M0:=M0) (w0:=w0) (S:=S) (n:=n) (j:=j) (T:=T) (ps:=ps) (qs:=f z) (E:=(y,agg (f z))::(y,fact (φ z) (agg (f z)))::E) hg hd ho hx' ⟨agg (f z),by simp [C7,List.lookup],Ah _⟩ hz (hm z) hl
 refine ⟨hg,fun M w a rs hsz he hI hj=> ?_⟩
 have hjl:j<rs.length:=by rcases Nat.lt_or_ge j rs.length with h'|h';exact h';rw [List.getElem?_eq_none h'] at hj;cases hj
 have hv:∃b,a.tmps.getD s undef= .pointer (some ⟨b,0,none⟩):=by
  have hxv:VL ((y,agg (f z))::(y,fact (φ z) (agg (f z)))::E) (.tmp s) (Cp.ex fun b=>ptr b 0):=⟨_,hx',Pr.le_refl _⟩
  exact hxv.ev he (show (Operand.tmp s)∈o.op.operands.toList by simp [ho,Op.operands])
 obtain ⟨b,hv⟩:=hv
 have e1:SR.at_ a ⟨s,Er T (f z)⟩=AE true b T (f z):=by show Er T (f z) (a.tmps.getD s undef)=_;rw [hv];rfl
 have e2:SR.at_ a ⟨s,WJ T f φ⟩=aX b T f φ:=by show WJ T f φ (a.tmps.getD s undef)=_;rw [hv];rfl
 refine D7.wk hjl hd ?_ ?_ ?_ (h.2 M w a rs hsz he hI hj)
 · rw [e1,e2];rfl
 · rw [e1,e2];rfl
 · rw [e1,e2];exact fun M w h=>⟨z,hφ,h⟩
end
theorem A_.qX {α:Type} {φ:α→Prop} {p:α→Pr} {res:Pr} (pre:List Pr) {post:List Pr} (q:α) (hq:φ q) (h:∀z,φ z→A_ P f (pre++p z::post) res):A_ P f (pre++(Cp.ex fun z=>fact (φ z) (p z))::post) res:=by
 refine ⟨(h q hq).1,fun M w vs hb hv=> ?_⟩
 have key:∀(pre:List Pr) (vs:List Value),HL M w (pre++(Cp.ex fun z=>fact (φ z) (p z))::post) vs→∃z,φ z∧HL M w (pre++p z::post) vs:=by
  intro pre
  induction pre with
  |nil=>
   intro vs hv
   match vs,hv with
   |u::us,⟨⟨z,hz,h1⟩,h2⟩=>exact ⟨z,hz,h1,h2⟩
  |cons a pre ih=>
   intro vs hv
   match vs,hv with
   |u::us,⟨h1,h2⟩=>
    obtain ⟨z,hz,h3⟩:=ih us h2
    exact ⟨z,hz,h1,h3⟩
 obtain ⟨z,hz,h2⟩:=key pre vs hv
 exact (h z hz).2 M w vs hb h2
section
variable {P:Program} {L:Lg P} {n:Fm} {fz:Nat} {E:Env} {I:Cc} {M0:Av} {w0:World} {S:Nat→Prop} {rs:List Ay} {Q:Exit→Act→World→Prop} {c:Code}
theorem Tr.qY {α β:Type} {p gf:Nat} {g:Operand} {lb:Array Value} {enc:α→Value} {xs:List α} {own:List α→List Ay} {assign body:Code} (q:Nat) (K:Env) (hK:CH E K) (R RX:List α→β→List Ay) (d0:β)
  (hIt:Nd P gf lb enc xs own) (eg:Entry P gf) (hg:VL E g (is (.func (.func gf) #[] lb))) (NJ:rs.Perm (own []++R [] d0)) (hp:K.lookup p=none) (hpn:p<n.sz)
  (hassign:∀l D rec M1 w1 pre x d,(pre++[x])<+:xs→Tr (fA P (some l)) ⟨n.sz,[]⟩ ((p,is (enc x))::K) (Hp M0 w0 S (own (pre++[x])++GM l D rec M1 w1 (R pre d))) assign (Exit.then (St ⟨n.sz,[]⟩ ((q,is (enc x))::K) (Hp M0 w0 S (own (pre++[x])++GM l D rec M1 w1 (R pre d)))) (fun _ _ _=>False)))
  (hbody : ∀ l D rec M1 w1 pre x d, (pre ++ [x]) <+: xs → Tr (fA P (some l)) ⟨n.sz, []⟩ ((q, is (enc x)) :: K) (Hp M0 w0 S (own (pre ++ [x]) ++ GM l D rec M1 w1 (R pre d))) body
   (JR M0 w0 S (fun d:β=>own (pre++[x])++GM l D rec M1 w1 (R (pre++[x]) d)) (fun c d=>own (pre++[x])++GM l D rec M1 w1 (CI (c= .ret)::RX (pre++[x]) d))))
  (hdone:∀l D rec M1 w1 d,Fin ⟨n.sz,mark D::n.df⟩ E (Hp M0 w0 S (own xs++GM l D rec M1 w1 (R xs d))) Q .normal)
  (hstop:∀l D rec M1 w1 pre d,pre<+:xs→Fin ⟨n.sz,mark D::n.df⟩ E (Hp M0 w0 S (own pre++GM l D rec M1 w1 (RX pre d))) Q .ret):
  Tr (Yr P) n E (Hp M0 w0 S rs) (.rangeFunc g #[p] assign body) Q:=by
 refine Tr.pV (fun x=>(q,is (enc x))::K) R (fun c pre d=>CI (c= .ret)::RX pre d) d0 hIt (fun args w=>EJ eg args w) hg NJ ?_ ?_ hdone ?_
 ·
  intro l D rec M1 w1 pre x d hpre a hsz hE M w hI
  have hx:Ext M1 w1 M w:=(hI.hold (Ac M1 w1) AR).1
  refine hassign l D rec M1 w1 pre x d hpre _ w ⟨M,by simpa using hsz,rfl,fun s z hq=> ?_,hI⟩
  simp only [List.lookup] at hq
  by_cases hs:s=p
  ·
   subst hs
   simp only [beq_self_eq_true,Option.some.injEq] at hq
   subst hq
   show (a.tmps.setIfInBounds s (enc x)).getD s undef=enc x
   simp [Array.getD_eq_getD_getElem?,hsz,hpn]
  ·
   rw [show (s==p)=false by simpa using hs] at hq
   obtain ⟨z',E2,HW⟩:=hK.spec s z hq
   have h2:=z.st _ _ _ _ _ hx (HW _ _ _ (hE s z' E2))
   show z.h M w ((a.tmps.setIfInBounds p (enc x)).getD s undef)
   have e1:(a.tmps.setIfInBounds p (enc x)).getD s undef=a.tmps.getD s undef:=by
    simp only [Array.getD_eq_getD_getElem?]
    rw [Array.getElem?_setIfInBounds_ne (fun e=>hs e.symm)]
   rw [e1];exact h2
 ·
  intro l D rec M1 w1 pre x d hpre
  exact hbody l D rec M1 w1 pre x d hpre
 ·
  intro l D rec M1 w1 c pre d hpre a w ⟨M,h1,h2,h3,h⟩
  have h:A8 M0 w0 S (own pre++GM l D rec M1 w1 (CI (c= .ret)::RX pre d)) M w:=h
  have hc:c= .ret:=(h.hold (CI (c= .ret)) AR).1
  subst hc
  have h5:A8 M0 w0 S (CI (Code.ret= .ret)::(own pre++GM l D rec M1 w1 (RX pre d))) M w:=by
   refine A8.perm ?_ h
   have:=List.perm_middle (a:=CI (Code.ret= .ret)) (l₁:=own pre++[BH l rec,BH D (.deferred (some [])),Ac M1 w1]) (l₂:=RX pre d)
   simpa [GM] using this
  exact Tr.ret (hstop l D rec M1 w1 pre d hpre) a w ⟨M,h1,h2,h3,A8.J5 h5⟩
theorem Tr.pX {α β:Type} {p gf:Nat} {g:Operand} {lb:Array Value} {enc:α→Value} {xs:List α} {own:List α→List Ay} {assign body:Code} (q:Nat) (K:Env) (hK:CH E K) (R:List α→β→List Ay) (d0:β)
  (hIt:Nd P gf lb enc xs own) (eg:Entry P gf) (hg:VL E g (is (.func (.func gf) #[] lb))) (NJ:rs.Perm (own []++R [] d0)) (hp:K.lookup p=none) (hpn:p<n.sz)
  (hassign:∀l D rec M1 w1 pre x d,(pre++[x])<+:xs→Tr (fA P (some l)) ⟨n.sz,[]⟩ ((p,is (enc x))::K) (Hp M0 w0 S (own (pre++[x])++GM l D rec M1 w1 (R pre d))) assign (Exit.then (St ⟨n.sz,[]⟩ ((q,is (enc x))::K) (Hp M0 w0 S (own (pre++[x])++GM l D rec M1 w1 (R pre d)))) (fun _ _ _=>False)))
  (hbody : ∀ l D rec M1 w1 pre x d, (pre ++ [x]) <+: xs → Tr (fA P (some l)) ⟨n.sz, []⟩ ((q, is (enc x)) :: K) (Hp M0 w0 S (own (pre ++ [x]) ++ GM l D rec M1 w1 (R pre d))) body
   (JR M0 w0 S (fun d:β=>own (pre++[x])++GM l D rec M1 w1 (R (pre++[x]) d)) (fun c _=>own (pre++[x])++GM l D rec M1 w1 [CI (c= .ret),CI False])))
  (hdone:∀l D rec M1 w1 d,Fin ⟨n.sz,mark D::n.df⟩ E (Hp M0 w0 S (own xs++GM l D rec M1 w1 (R xs d))) Q .normal):
  Tr (Yr P) n E (Hp M0 w0 S rs) (.rangeFunc g #[p] assign body) Q:=
 Tr.qY q K hK R (fun _ _=>[CI False]) d0 hIt eg hg NJ hp hpn hassign hbody hdone fun l D rec M1 w1 pre d _ a w ⟨M,_,_,_,h⟩=>by
  have h:A8 M0 w0 S (own pre++GM l D rec M1 w1 [CI False]) M w:=h
  exact ((h.hold (CI False) AR).1).elim
theorem Fin.ABk {β:Type} {rr:β→List Ay} {os:List Ay} {tl:β→List Ay} {l D:Nat} {rec:Obj} {M1:Av} {w1:World} (d:β) (hp:rs.Perm (os++GM l D rec M1 w1 (tl d))):Fin n E (Hp M0 w0 S rs) (JR M0 w0 S rr (fun c d=>os++GM l D rec M1 w1 (CI (c= .ret)::tl d))) .ret:=by
 rintro a w ⟨M,_,_,_,h⟩
 have h:A8 M0 w0 S rs M w:=h
 refine ⟨d,M,A8.perm ?_ (A8.Jm (A8.perm hp h) (r:=CI (Code.ret= .ret)) rfl rfl)⟩
 have:=(List.perm_middle (a:=CI (Code.ret= .ret)) (l₁:=os++[BH l rec,BH D (.deferred (some [])),Ac M1 w1]) (l₂:=tl d)).symm
 simpa [GM] using this
theorem Fin.prop {e:Exit} {p:Prop} (j:Nat) (hj:rs[j]? =some (CI p)) (k:p→Fin n E (Hp M0 w0 S rs) Q e):Fin n E (Hp M0 w0 S rs) Q e:=fun a w hs=>by
 obtain ⟨M,h1,h2,h3,h4⟩:=hs
 have h4:A8 M0 w0 S rs M w:=h4
 exact k (h4.hold _ (List.mem_of_getElem? hj)).1 a w ⟨M,h1,h2,h3,h4⟩
theorem Fin.qZ {e:Exit} {p q:Prop} (j:Nat) (hj:rs[j]? =some (CI p)) (h:p→q) (k:Fin n E (Hp M0 w0 S (rs.set j (CI q))) Q e):Fin n E (Hp M0 w0 S rs) Q e:=fun a w hs=>by
 obtain ⟨M,h1,h2,h3,h4⟩:=hs
 have h4:A8 M0 w0 S rs M w:=h4
 exact k a w ⟨M,h1,h2,h3,h4.Cw hj rfl rfl (h (h4.hold _ (List.mem_of_getElem? hj)).1)⟩
theorem AQ.zH (i:Nat) {c:Tmp} (h:E.lookup c=some (ptr b 0)) (hi:rs[i]? =some (AE new b T [q])) (ht:D6 P t=true) (hl:Pr.le q p):AQ P E rs (.cell c t) p:=by
 intro M w a he hr
 obtain ⟨_,cs,h4,h5,_⟩:=hr _ (List.mem_of_getElem? hi)
 obtain ⟨v,hv,hh⟩:=h5.at_ 0 q rfl
 have hc:w.cell? ⟨b,0,none⟩=some v:=by simp [World.cell?,h4,hv]
 have h1:(loadVar t ⟨b,0,none⟩).run P w= .ok v w:=by simp [loadVar,EX ht,hc]
 refine ⟨v,?_,hl _ _ _ hh⟩
 have hc2:a.tmps.getD c undef= .pointer (some ⟨b,0,none⟩):=he _ _ h
 unfold HF
 simp only [hc2,asAddr]
 simpa [Sem.run_bind] using h1
theorem Fin.Rh {e:Exit} (T:TypeId) (sz:Nat) (k:Fin n E (Hp M0 w0 S (BX T sz [] (.slice none 0 0)::rs)) Q e):Fin n E (Hp M0 w0 S rs) Q e:=fun a w hs=>by
 obtain ⟨M,h1,h2,h3,h4⟩:=hs
 have h4:A8 M0 w0 S rs M w:=h4
 exact k a w ⟨M,h1,h2,h3,A8.Jm h4 (r:=BX T sz [] (.slice none 0 0)) rfl (.inl ⟨rfl,rfl⟩)⟩
end
end Cp
namespace Go.Proofs.YteomgekmipcdpaaGreatDoor
open Go Go.RowKit Cp Go.Proofs.Tryz
-- sets as bits: read, closed, what can be added (behind ALl.lean)
variable {B:List (BitVec 32)} {s:List Int} {l:List B0} {i k n:Nat} {p:Pr}
def Ng (l:List Int):BitVec 32:=l.foldl (fun b i=>iW b i.toNat) 0#32
theorem aY {l:List Int} {x:Int} (h:l[k]? =some x):Ng (l.take (k+1))=iW (Ng (l.take k)) x.toNat:=by unfold Ng;rw [List.take_add_one,h,List.foldl_append];rfl
theorem fP {n:Nat} (hn:n≤32):∀(l:List Int) (b:BitVec 32) (i:Nat),(∀x∈l,0≤x∧x<n)→((l.foldl (fun b i=>iW b i.toNat) b).getLsbD i=true↔b.getLsbD i=true∨(i:Int)∈l)
 |[],b,i,_=>by simp
 |x::l,b,i,h=>by
  have hx:=h x (List.mem_cons_self ..)
  rw [List.foldl_cons,fP hn l (iW b x.toNat) i (fun y hy=>h y (List.mem_cons_of_mem _ hy)),aK AA,Bool.or_eq_true,decide_eq_true_eq,List.mem_cons]
  constructor
  ·
   rintro ((h1|h1)|h1)
   · exact .inl h1
   · right;left;omega
   · exact .inr (.inr h1)
  ·
   rintro (h1|h1|h1)
   · exact .inl (.inl h1)
   · left;right;omega
   · exact .inr h1
theorem aZ {l:List Int} (hn:n≤32) (h:∀x∈l,0≤x∧x<n):fF n (Ng l) l:=fun i=>by
 unfold Ng
 rw [fP hn l 0#32 i h]
 simp
def WK (B:List (BitVec 32)) (s:BitVec 32):Bool:=(MV s).all fun i=>B.getD i 0#32&&&~~~s==0#32
theorem w7 {n:Int} {s:BitVec 32} {d:List Int} (hv:BR n l=0) (hs:fF n.toNat s d) (hd:∀x∈d,0≤x∧x<n):WK (DL n.toNat l) s=EP l d:=by
 obtain ⟨hn,hb,_,_⟩:=DT hv
 have hB:=F9 (n:=n.toNat) (l:=l) AA
 have hat:∀i,i<n.toNat→(DL n.toNat l)[i]? =some ((DL n.toNat l).getD i 0#32):=fun i hi=>by
  rw [List.getD_eq_getElem?_getD,List.getElem?_eq_getElem (by rw [DV];exact hi)];rfl
 rw [Bool.eq_iff_iff]
 unfold WK
 rw [List.all_eq_true]
 constructor
 ·
  intro h
  refine Eu.2 fun r hr hm=> ?_
  have hbr:=hb r hr
  unfold FY at hbr;rw [decide_eq_false_iff_not] at hbr
  have e1:((r.thn.toNat:Nat):Int)=r.thn:=by omega
  have e2:((r.fst.toNat:Nat):Int)=r.fst:=by omega
  have h1:s.getLsbD r.thn.toNat=true:=(hs _).2 (by rw [e1];exact hm)
  have h2:=h _ (H6.2 h1)
  rw [beq_iff_eq,Xz] at h2
  have h3:=h2 r.fst.toNat (by
   rw [hB.2 _ _ (hat r.thn.toNat AA)]
   rw [Bool.and_eq_true,decide_eq_true_eq]
   refine ⟨by omega,LD ?_ _⟩
   unfold Gl
   exact List.any_eq_true.2 ⟨r,hr,by simp;omega⟩)
  have:=(hs _).1 h3
  rw [e2] at this;exact this
 ·
  intro h i hi
  have h1:=H6.1 hi
  have h2:=(hs i).1 h1
  have h3:=hd _ h2
  rw [beq_iff_eq,Xz]
  intro a ha
  rw [hB.2 _ _ (hat i AA),Bool.and_eq_true] at ha
  exact (hs a).2 (H7 h _ ha.2 h2)
theorem qa {n:Int} (hk:k≤s.length) (h:∀j,j<k→setAt n s j=true): -1≤O7 s k:=by unfold O7 setAt at*;grind
theorem Qi (h:DO (n:Int) s=true):∀x∈s,0≤x∧x<(n:Int):=fun x hx=>by
 obtain ⟨i,hi⟩:=List.mem_iff_getElem?.1 hx
 exact QY h hi
theorem w8 {b:BitVec 32} (hb:fF n b s) (h:DO (n:Int) s=true) (hi:b.getLsbD i=true):i<n:=by
 have:=Qi h _ ((hb i).1 hi);omega
abbrev rdB (n:Nat) (l:List Int):BitVec 32:=if DO (n:Int) l=true then Ng l else 0#32
abbrev w9 (B:List (BitVec 32)) (s:BitVec 32) (pre:List Nat):Prop:=∀i∈pre,(B.getD i 0#32&&&~~~s==0#32)=true
theorem w_ {l:List Int} (hn:n≤24):A_ prog 60 [ref [int ((n:Nat):Int),bits B,p],ints l] (DW [u32 (rdB n l),bool (DO ((n:Nat):Int) l)]):=by
 refine fo func60 rfl ⟨rfl,rfl⟩ fun M0 w0=>(Tr.CN 1 rfl fun Fq=> ?_)
 iterate 4 refine ac ?_
 refine Tr.block (Tr.A0 _ (kk [11,10,0] rfl) (fun k:Nat=>[(12,int ((k:Nat):Int)),(7,int (O7 l k)),(6,u32 (Ng (l.take k)))]) (fun k:Nat=>k≤(l).length∧(∀j,j<k→setAt (n:Nat) l j=true)) (fun k:Nat=>(l).length-k) 0 (⟨Nat.zero_le _,fun j hj=>absurd hj AA⟩) ⟨kq,⟨_,rfl,int_eq rfl⟩,⟨_,rfl,Wm⟩,trivial⟩ ?_)
 rintro k ⟨BN,AX⟩
 refine ac ?_
 refine Tr.seq ?_
 refine Tr.cn rfl ?_ ?_<;>intro h1 q1
 have Ae:k<(l).length:=AJ h1
 obtain ⟨i,Af⟩:=at_ Ae
 have KV:=SA AX Af
 have hlg:=qa AA AX
 refine ac ?_
 refine Tr.seq (Tr.block (Tr.seq (Tr.Bq (co rfl (AB rfl underlying38 BJ vq vq AA (Ad Af)) ?_))))
 refine ac ?_
 refine ag ?_ ?_<;>intro h2 q2
 refine ac ?_
 refine wk [26,12,11,10,9,6,0] rfl ?_
 refine ac ?_
 refine Tr.ret (Fin.AF (Fin.AP (Fin.AF (Fin.AF (Fin.AP (Fin.AF (Fin.Co rfl (Bt.Dx _ _) rfl ?_ rfl ?_)))))))
 · exact bl
 · exact cT
 refine ac ?_
 refine wk [26,12,11,10,9,6,0] rfl ?_
 refine Tr.cn rfl ?_ ?_<;>intro h3 q3
 refine ac ?_
 refine Tr.ret (Fin.AF (Fin.AP (Fin.AF (Fin.AF (Fin.AP (Fin.AF (Fin.Co rfl (Bt.Dx _ _) rfl ?_ rfl ?_)))))))
 · exact bl
 · exact cT
 refine a2 ?_
 refine co rfl (Nf (b:=1#32) rfl vq vq AA) ?_
 refine co rfl (Qg rfl vq vq) ?_
 refine a2 ?_
 refine wk [12,11,10,7,6,0] rfl ?_
 refine ac ?_
 exact Fin.AL (k+1) ⟨⟨Ae,EA AX (by rw [KV];simp;omega)⟩,by omega⟩ ⟨⟨_,rfl,AG k⟩,⟨_,rfl,int_eq (by rw [Z6 Af])⟩,⟨_,rfl,Pr.le_of_eq (congrArg u32 (aY Af).symm)⟩,kz⟩
 have BC:k=(l).length:=by have:=AK h1;omega
 subst BC
 have hsb:DO ((n:Nat):Int) l=true:=CA.2 AX
 refine a2 ?_
 refine Tr.ret (Fin.Co rfl (Bt.Dx _ _) rfl ?_ rfl ?_)
 · rw [show rdB n l=Ng l from if_pos hsb,List.take_length];exact Lr
 · refine bool_eq ?_;exact hsb.symm
theorem ABl {s y:BitVec 32} {x:Nat} (h:x∈MV s) (hy:B[x]? =some y) (hn:(y&&&~~~s==0#32)=false):WK B s=false:=by grind [WK]
theorem xA {s:BitVec 32} (h:w9 B s (MV s)):WK B s=true:=by
 unfold WK
 exact List.all_eq_true.2 h
theorem iq [One p] {s:BitVec 32} (hB:B.length=n) (hs:∀i,s.getLsbD i=true→i<n):Ba prog 61 [ref [int ((n:Nat):Int),bits B,p],u32 s] (bool (WK B s)) (FJ) (fun _=>FJ):=by
 refine Ba.ofM func61 rfl rfl Am fun M0 w0 S rs M1 w1=> ?_
 refine Tr.seq (Tr.BI (tp rfl (Bv rfl Ce) (tp rfl (Bv rfl Ce) ?_)))
 refine Tl rfl rfl rfl rfl z4 zo4 (fun b1=> ?_)
 refine ap ?_
 refine ap ?_
 refine TO.pad ?_
 refine TO.C1 0 rfl rfl AD (FA rfl rfl AD rfl (qO) kz) (fun v1=> ?_)
 refine TO.nil (Fin.shape 7 (fun b=>qN b) rfl (fun fb2 fe2=> ?_))
 subst fe2
 refine Fin.SX 0 (AE true fb2 S9 [_]) rfl rfl (Fin.go (Tr.block (Tr.fH (p:=w9 B s []) (fun i h=>GP) ?_)))
 refine Tr.qY 5 _ (kk [4,3,2] rfl) (fun pre (_:Unit)=>CI (w9 B s pre)::AE true b1 4 [bool false]::Ac M1 w1::rs) (fun pre (_:Unit)=>CI (WK B s=false)::AE true b1 4 [bool false]::Ac M1 w1::rs) () (WC (s:=s)) WD vq ((EL (j:=3) rfl).trans (List.Perm.cons _ ((EL (j:=1) rfl).trans (List.Perm.cons _ (List.Perm.refl _))))) rfl Am ?_ ?_ ?_ ?_
 rintro lk Dk rk Mr wr pre x _ hpre
 refine ac ?_
 exact Fin.st ⟨kq,kz⟩
 rintro lk Dk rk Mr wr pre x _ hpre
 have hsx:s.getLsbD x=true:=H6.1 (qR hpre)
 obtain ⟨y,hy⟩:=at_ (l:=B) (k:=x) (by have:=hs x hsx;omega)
 refine ac ?_
 refine co rfl (AB rfl underlying143 F1 vq vq AA (Sa hy)) ?_
 refine ac ?_
 refine co rfl (PC rfl vq vq) (co rfl (qF rfl vq vq) ?_)
 refine ac ?_
 refine wk [18,4] rfl ?_
 refine Tr.cn rfl ?_ ?_<;>intro h1 q1
 refine Tr.seq (Tr.BI (TO.AV 6 rfl rfl rfl vq Ce rfl W9 rfl rfl ?_))
 refine ap ?_
 refine Tr.ret (Fin.AP (Fin.qZ 5 rfl (q:=WK B s=false) (fun _=>ABl (H6.2 hsx) hy B9) ?_))
 exact Fin.ABk () (List.Perm.refl _)
 refine Tr.skip (Fin.block ?_)
 refine Fin.qZ 5 rfl (q:=w9 B s (pre++[x])) (fun h i hi=>by rcases List.mem_append.1 hi with hi|hi;exact h i hi;(rw [List.mem_singleton] at hi;subst hi;rw [List.getD_eq_getElem?_getD,hy];simp_all)) ?_
 exact Fin.rnd () (List.Perm.refl _)
 rintro lk Dk rk Mr wr _
 refine Fin.prop 5 rfl fun hok=>(Fin.drop 1 (Fin.drop 1 (Fin.drop 2 (Fin.drop 2 ?_))))
 refine ac ?_
 refine ap ?_
 refine Tr.ret (Fin.KY (List.perm_middle (l₁:=[_])) ?_)
 refine Fin.aM (Fin.X0 (Fin.KY ((List.perm_middle (l₁:=[_])).symm) ?_))
 refine Fin.Fh [_] rfl (AQ.zH 0 rfl rfl gQ Lr) ?_ (fun _ _ _ _=>rfl)
 · exact bool_eq (xA hok).symm
 rintro lk Dk rk Mr wr pre _ hpre
 refine Fin.prop 5 rfl fun hno=>(Fin.drop 1 (Fin.drop 1 (Fin.drop 2 (Fin.drop 2 (Fin.AP (Fin.AF (Fin.KY (List.perm_middle (l₁:=[_])) ?_)))))))
 refine Fin.aM (Fin.X0 (Fin.KY ((List.perm_middle (l₁:=[_])).symm) ?_))
 refine Fin.Fh [_] rfl (AQ.zH 0 rfl rfl gQ Lr) ?_ (fun _ _ _ _=>rfl)
 · exact bool_eq hno.symm
theorem fQ (hn:n≤32) (h:DO (n:Int) s=true):fF n (rdB n s) s:=by
 rw [show rdB n s=Ng s from if_pos h];exact aZ hn (Qi h)
end Go.Proofs.YteomgekmipcdpaaGreatDoor
namespace Cp
open Go Go.RowKit Go.Great
variable {f:FuncId} {rows:List (List Pr)} {e:TypeId}
section
variable {P:Program}
theorem Vg.frz {args:List Pr} {p0 p1:Pr} {sz:Nat} (hl:∀r∈rows,r.length=sz) (h:Vg P f args (fun x=>agg [p0,p1,is x]) (fun x=>[CX e sz rows x])):A_ P f args (agg [p0,p1,slice sz rows]):=by
 refine ⟨h.1,fun M w vs hb hv=> ?_⟩
 refine (h.2 M w FG [] M w vs (A8.begin hb) hv).mono ?_
 rintro e' w' ⟨v,M',x,rfl,_,h1,h2,h3⟩
 obtain ⟨M2,j1,j2,j3⟩:=A8.AAl (j:=0) h3 rfl hl
 obtain ⟨cs,hc,g1,g2⟩:=(agg [p0,p1,is x]).st _ _ _ _ _ j1 h1
 refine ⟨v,rfl,?_,j2.below⟩
 exact (agg [p0,p1,slice sz rows]).st _ _ _ _ _ (Ext.less j2.m) ⟨cs,hc,g1,HL.set (k:=2) g2 rfl fun u hu=>by rw [show u=x from hu];exact j3⟩
theorem JG.gV {args:List Pr} {k:Pr} {sz m:Nat} {R:Ay} (hl:∀r∈rows,r.length=sz) (h:JG (α:=Value) P f args [R] (fun _=>True) (fun v=>DW [Ag v (lens m),k]) (fun v=>[R,BX e sz rows v])):Ba P f args (DW [slice sz rows,k]) R (fun _=>R):=by
 refine ⟨h.1,fun M0 w0 S rs M w vs hI hv=>(h.2 M0 w0 S rs M w vs hI hv).mono ?_⟩
 rintro e' w' ⟨v,M',x,rfl,_,h1,h2,h3⟩
 have h3:A8 M0 w0 S (R::BX e sz rows x::rs) M' w':=h3
 obtain ⟨M2,j1,j2,j3⟩:=A8.gV (j:=1) h3 rfl hl
 obtain ⟨cs,hc,g2⟩:=(DW [Ag x (lens m),k]).st _ _ _ _ _ j1 h1
 exact ⟨v,M2,rfl,⟨cs,hc,HL.set (k:=0) g2 rfl fun u hu=>by rw [show u=x from hu.1];exact j3⟩,h2.trans j1,(A8.perm (List.Perm.swap _ _ _) j2).J5⟩
variable {n:Fm} {E:Env} {M0:Av} {w0:World} {S:Nat→Prop} {o:Oper}
end
end Cp
namespace Go.Proofs.YteomgekmipcdpaaGreatDoor
open Go Go.RowKit Cp Go.Proofs.Tryz
variable {s:List Int} {l:List B0}
def X7 (n:Int) (l:List B0) (s:List Int):Int:=if BR n l≠0 then BR n l else if DO n s=true then 0 else 46
def aa (n:Int) (l:List B0) (s:List Int):Bool:=decide (BR n l=0)&&DO n s&&EP l s
theorem AGP {n:Int} (h:BR n l≠0):X7 n l s=BR n l∧aa n l s=false:=by grind [X7,aa]
theorem AGQ {n:Int} (h:BR n l=0) (hs:DO n s=false):X7 n l s=46∧aa n l s=false:=by grind [X7,aa]
theorem zI {n:Int} (h:BR n l=0) (hs:DO n s=true):X7 n l s=0∧aa n l s=EP l s:=by grind [X7,aa]
theorem af {n:Int}:Ba prog 25 [int n,reqs l,ints s] (DW [bool (aa n l s),int (X7 n l s)]) (FJ) (fun _=>FJ):=by
 refine Ba.of func25 rfl rfl Am fun M0 w0 S rs M1 w1=> ?_
 refine ac ?_
 refine ap ?_
 refine TO.FL 0 rfl rfl AD (Ak rfl rfl AD rfl (fL (n:=n) (l:=l)) ⟨kq,kz⟩) ?_
 refine ap ?_
 refine an ?_ ?_<;>intro h1 q1
 have hv:=AGP (s:=s) (n:=n) (l:=l) Mu
 refine ac ?_
 refine wk [7,6] rfl (Tr.ret (Fin.AF (Fin.F0 rfl rfl ?_ rfl ?_)))
 · refine bool_eq ?_;exact hv.2.symm
 · refine int_eq ?_;exact hv.1.symm
 have hv:BR n l=0:=by simpa using h1
 have Nw:=(DT hv).1
 obtain ⟨N,rfl⟩:∃N:Nat,n=(N:Int):=⟨n.toNat,by omega⟩
 refine Tr.re 8 rfl (Pr.le_of_eq (WG hv)) ?_
 refine a2 ?_
 refine co rfl (Bu (w_ (n:=N) (B:=DL N l) (l:=s) AA) rfl rfl rfl) ?_
 refine ac ?_
 refine wk [11,10,8] rfl ?_
 refine an ?_ ?_<;>intro h2 q2
 have PO:=AGQ (n:=(N:Int)) hv (by simpa using h2)
 refine ac ?_
 refine Tr.ret (Fin.AF (Fin.F0 rfl rfl ?_ rfl ?_))
 · refine bool_eq ?_;exact PO.2.symm
 · refine int_eq ?_;exact PO.1.symm
 have hsb:DO ((N:Nat):Int) s=true:=by simpa using h2
 have hv3:=zI hv hsb
 refine ac ?_
 refine ap ?_
 refine TO.FL 0 rfl rfl AD (Ak rfl rfl AD rfl (iq (n:=N) (DV N l) (fun i h=>w8 (fQ AA hsb) hsb h)) ⟨kq,kz⟩) ?_
 refine ap ?_
 refine Tr.ret (Fin.F0 rfl rfl ?_ rfl ?_)
 · refine bool_eq ?_;rw [hv3.2];exact w7 (n:=(N:Int)) hv (fQ AA hsb) (Qi hsb)
 · refine int_eq ?_;exact hv3.1.symm
abbrev FV (l:List Bl):Pr:=slice 8 (l.map FI)
def Q2 (c:BS) (x:Bl):Bool:=decide (x.AZ<0)||decide (x.AZ≥c.JN.length)
def Sd (c:BS) (x:Bl):Int:=c.JN.getD x.AZ.toNat 0
def Ee (c:BS) (l:List Bl):Int:=if 24<l.length then 3 else if l.any (Q2 c) then 40 else 0
def Se (c:BS) (l:List Bl):List Int:=if Ee c l=0 then l.map (Sd c) else []
open Classical in
noncomputable def Kc (e:Dg) (c:BS) (l:List Bl):Int:=if FU e=false then 31 else if c.check (e.Bw.length:Nat)≠0 then c.check (e.Bw.length:Nat) else Ee c l
theorem fR {c:BS} {l:List Bl} (h:24<l.length):Ee c l=3:=by unfold Ee;rw [if_pos h]
theorem Wo {c:BS} {l:List Bl} {k:Nat} {x:Bl} (h:¬24<l.length) (hx:l[k]? =some x) (hb:Q2 c x=true):Ee c l=40:=by unfold Ee;rw [if_neg h,if_pos (List.any_eq_true.2 ⟨x,List.mem_of_getElem? hx,hb⟩)]
theorem fS {c:BS} {l:List Bl} (h:¬24<l.length) (hb:∀j y,j<l.length→l[j]? =some y→Q2 c y=false):Ee c l=0:=by
 unfold Ee;rw [if_neg h,if_neg]
 rw [Bool.not_eq_true,List.any_eq_false]
 intro y hy
 obtain ⟨j,hj⟩:=List.mem_iff_getElem?.1 hy
 rw [hb j y ZD hj];decide
theorem Wn {c:BS} {l:List Bl} {e:Int} (h:Ee c l=e) (he:e≠0):Se c l=[]:=by unfold Se;rw [if_neg P0]
theorem X8 {c:BS} {l:List Bl} (h:Ee c l=0):Se c l=l.map (Sd c):=by unfold Se;rw [if_pos h]
theorem zJ {c:BS} {x:Bl} (h:0≤x.AZ∧x.AZ<c.JN.length):c.JN[x.AZ.toNat]? =some (Sd c x):=by
 unfold Sd;rw [List.getD_eq_getElem?_getD,List.getElem?_eq_getElem AA];rfl
theorem qb {c:BS} {l:List Bl} {k:Nat} {x:Bl} (h:l[k]? =some x):(((l.take k).map (Sd c)).map fun n=>[int n])++[[int (Sd c x)]]=((l.take (k+1)).map (Sd c)).map fun n=>[int n]:=by
 rw [List.take_add_one,h,List.map_append,List.map_append];rfl
noncomputable def Wp (c:BS) (l:List Bl) (r:List B0) (fr:Int):Option (List Int×List Int×List Int):=OV c r (l.map (Sd c)) fr l.length (DU l.length r l.length).1
open Classical in
noncomputable def LV (e:Dg) (c:BS) (l:List Bl) (r:List B0) (fr:Int):Int:=if Kc e c l≠0 then Kc e c l else if BR (l.length:Nat) r≠0 then BR (l.length:Nat) r else match Wp c l r fr with|none=>51|some _=>0
noncomputable def ABm (c:BS) (l:List Bl) (r:List B0) (fr:Int):List Int:=match Wp c l r fr with|none=>[]|some p=>p.1
open Classical in
noncomputable def N3 (e:Dg) (c:BS) (l:List Bl) (r:List B0) (fr:Int):List Bl:=if LV e c l r fr=0 then l else []
open Classical in
noncomputable def Q4 (e:Dg) (c:BS) (l:List Bl) (r:List B0) (fr:Int):List B0:=if LV e c l r fr=0 then r else []
open Classical in
noncomputable def U3 (e:Dg) (c:BS) (l:List Bl) (r:List B0) (fr:Int):List Int:=if LV e c l r fr=0 then ABm c l r fr else []
variable {nm:List UInt8} {i m:Nat} {x:Operand} {t:TypeId}
noncomputable abbrev qc (e:Dg) (c:BS) (l:List Bl) (r:List B0) (fr:Int):List Pr:=[FV (N3 e c l r fr),reqs (Q4 e c l r fr),ints (U3 e c l r fr)]
section
variable {e:Dg} {c:BS} {l:List Bl} {r:List B0} {fr:Int}
theorem UT {n:Int} (h:c.check n=0):c.own=0∧(c.JN.length:Int)=n∧∀t∈c.JN,c.has t=true:=by grind [BS.check,BS.own]
theorem Sf (h:Ee c l=0):l.length≤24∧∀x∈l,Q2 c x=false:=by grind [Ee]
theorem xB (h:Ee c l=0) (ht:∀t∈c.JN,c.has t=true):∀x∈l.map (Sd c),c.has x=true:=fun x hx=>by
 obtain ⟨y,hy,rfl⟩:=List.mem_map.1 hx
 have hb:=(Sf h).2 y hy
 unfold Q2 at hb
 rw [Bool.or_eq_false_iff,decide_eq_false_iff_not,decide_eq_false_iff_not] at hb
 exact ht _ (List.mem_of_getElem? (zJ AA))
theorem UU (h:Kc e c l≠0):LV e c l r fr=Kc e c l:=by unfold LV;rw [if_pos h]
theorem zK (h:Kc e c l=0) (hv:BR (l.length:Nat) r≠0):LV e c l r fr=BR (l.length:Nat) r:=by unfold LV;rw [if_neg (not_not_intro h),if_pos hv]
theorem qd (h:Kc e c l=0) (hv:BR (l.length:Nat) r=0) (hs:Wp c l r fr=none):LV e c l r fr=51:=by grind [LV]
theorem zL {p:List Int×List Int×List Int} (h:Kc e c l=0) (hv:BR (l.length:Nat) r=0) (hs:Wp c l r fr=some p):LV e c l r fr=0:=by grind [LV]
theorem qg (h:LV e c l r fr≠0):N3 e c l r fr=[]∧Q4 e c l r fr=[]∧U3 e c l r fr=[]:=by grind [N3,Q4,U3]
theorem qh (h:LV e c l r fr=0):N3 e c l r fr=l∧Q4 e c l r fr=r∧U3 e c l r fr=ABm c l r fr:=by grind [N3,Q4,U3]
theorem Sg {k:Int} (h:LV e c l r fr=k) (hk:k≠0):Pr.le (agg [is (.slice none 0 0),is (.slice none 0 0),is (.slice none 0 0)]) (agg (qc e c l r fr)):=by
 obtain ⟨h1,h2,h3⟩:=qg (e:=e) (c:=c) (l:=l) (r:=r) (fr:=fr) (by rw [h];exact hk)
 unfold qc;rw [h1,h2,h3];exact BP ⟨AM 8,AM 2,AM 1,trivial⟩
theorem xC {d b y:List Int} (h:LV e c l r fr=0) (hs:Wp c l r fr=some (d,b,y)):Pr.le (agg [FV l,reqs r,ints d]) (agg (qc e c l r fr)):=by
 obtain ⟨h1,h2,h3⟩:=qh h
 unfold qc;rw [h1,h2,h3];unfold ABm;rw [hs];exact Pr.le_refl _
theorem Sh {q:B0} {d:List Int} {i:Int} (h:r[m]? =some q):F5 (r.take (m+1)) d i fr=if q.thn=i then max (F5 (r.take m) d i fr) (d.getD q.fst.toNat 0+1) else F5 (r.take m) d i fr:=by
 unfold F5;rw [List.take_add_one,h,List.foldl_append];rfl
theorem LJ {l:List Int} (h:i<l.length):l[i]? =some (l.getD i 0):=by rw [List.getD_eq_getElem?_getD,List.getElem?_eq_getElem h];rfl
end
structure Su where
 code:Int
 x1:Int
 x2:Int
 s1:Int
 s2:Int
 c1:Int
 c2:Int
 m1:Int
 m2:Int
 lo:Int
 hi:Int
abbrev AKH:Pr:=Cp.ex fun l:List UInt8=>str l
abbrev UW (s:Su):List Pr:=[int s.code,AKH,int s.x1,int s.x2,int s.s1,int s.s2,int s.c1,int s.c2,int s.m1,int s.m2,int s.lo,int s.hi]
def suT:List Su:=[⟨1,10,0,5,0,14,128,19,0,1,2⟩,⟨2,10,0,5,0,14,128,20,0,1,3⟩,⟨3,10,0,5,0,15,168,20,0,1,3⟩,⟨4,11,1024,6,0,15,168,20,0,1,3⟩,⟨5,11,1024,5,0,15,168,20,0,1,3⟩,⟨6,10,0,5,0,16,128,20,0,1,3⟩,⟨7,11,2048,5,0,16,128,20,0,1,3⟩,⟨8,12,256,5,0,16,128,20,0,1,3⟩,⟨9,12,256,7,0,16,256,21,0,3,3⟩,⟨10,12,256,5,0,17,128,22,0,3,3⟩,⟨11,12,384,7,0,17,256,22,0,3,3⟩,⟨12,12,256,5,0,18,0,22,0,3,3⟩,⟨13,10,0,5,0,17,256,22,0,3,3⟩,⟨14,12,256,0,0,17,128,22,0,4,4⟩,⟨15,12,256,0,0,18,0,22,0,4,4⟩,⟨16,13,768,0,0,17,256,22,0,4,4⟩]
abbrev qi:Su:=⟨0,0,0,0,0,0,0,0,0,0,0⟩
def S_ (code:Int):Bool:=decide (1≤code∧code≤16)
def Qx (code:Int):Su:=if S_ code then suT[(code-1).toNat]?.getD qi else qi
theorem ABn {code:Int} (h:1≤code∧code≤16):suT[(code-1).toNat]? =some (Qx code):=by
 obtain ⟨x,hx⟩:=at_ (l:=suT) (k:=(code-1).toNat) (by show _<16;omega)
 unfold Qx S_;rw [if_pos (decide_eq_true h),hx];rfl
theorem CO {a l m x1 y1 x2 y2 x3 y3 x4 y4:Int} {s:List UInt8}  :A_ prog 252 [int a,str s,agg [int x1,int y1],agg [int x2,int y2],agg [int x3,int y3],agg [int x4,int y4],int l,int m] (agg (UW ⟨a,x1,y1,x2,y2,x3,y3,x4,y4,l,m⟩)):=by
 refine A_.of func252 rfl rfl Am fun M0 w0=> ?_
 refine Tr.seq (Tr.BI ?_)
 iterate 4 refine tp rfl (Bv rfl (Va rfl)) ?_
 refine Tl rfl rfl rfl rfl z233 Je (fun b1=> ?_)
 refine TO.nil (Fin.go (Tr.seq (Tr.BI (tm rfl (tm rfl ?_)))))
 iterate 4 refine tp rfl (Al rfl Ht Jr (vl rfl) rfl rfl) ?_
 refine tm rfl (tm rfl (tp rfl (Au (rows:=[(0,[_]),(1,[_]),(2,_),(3,_),(4,_),(5,_),(6,[_]),(7,[_])]) rfl dW Je ⟨⟨rfl,(Vo rfl)⟩,⟨⟨rfl,(Vo rfl)⟩,⟨⟨rfl,(Va rfl)⟩,⟨⟨rfl,(Va rfl)⟩,⟨⟨rfl,(Va rfl)⟩,⟨⟨rfl,(Va rfl)⟩,⟨⟨rfl,(Vo rfl)⟩,⟨⟨rfl,(Vo rfl)⟩,trivial⟩⟩⟩⟩⟩⟩⟩⟩ rfl) (TO.re 25 (agg (UW ⟨a,x1,y1,x2,y2,x3,y3,x4,y4,l,m⟩)) rfl (BP ⟨Lr,As _ (Lr),Lr,Lr,Lr,Lr,Lr,Lr,Lr,Lr,Lr,Lr,trivial⟩) (TO.AV 0 rfl rfl rfl (vl rfl) (Va rfl) rfl Gg rfl rfl (TO.nil (Fin.go (wk1 16 rfl (Tr.ret (Fin.CY rfl (AQ.cell 0 rfl rfl JE Gg rfl (Lr)) ?_)))))))))
 · exact Lr
theorem X9   :A_ prog 206 [] (slice 12 (suT.map UW)):=by
 refine fo func206 rfl ⟨rfl,rfl⟩ fun M0 w0=> ?_
 refine ac ?_
 refine Tr.seq (Tr.BI (tp rfl (Bu (Bn) rfl rfl rfl) (tp rfl (Bu (Bn) rfl rfl rfl) (tp rfl (Au (rows:=[]) rfl zv Ec trivial rfl) ?_))))
 refine Tl rfl rfl rfl rfl K2 Ec (fun b1=> ?_)
 refine Tl rfl rfl rfl rfl K2 Ec (fun b2=> ?_)
 refine Tl rfl rfl rfl rfl K2 Ec (fun b3=> ?_)
 refine sf 2 1 ⟨rfl,rfl,rfl⟩ rfl rfl rfl rfl ?_
 refine sf 1 2 ⟨rfl,rfl,rfl⟩ rfl rfl rfl rfl ?_
 refine sf 0 3 ⟨rfl,rfl,rfl⟩ rfl rfl rfl rfl ?_
 refine ao ?_
 refine Tr.seq (Tr.BI (tp rfl (Bu (Bn) rfl rfl rfl) (tp rfl (Bu (Bn) rfl rfl rfl) ?_)))
 refine Tl rfl rfl rfl rfl K2 Ec (fun b4=> ?_)
 refine Tl rfl rfl rfl rfl K2 Ec (fun b5=> ?_)
 refine sf 1 4 ⟨rfl,rfl,rfl⟩ rfl rfl rfl rfl ?_
 refine sf 0 5 ⟨rfl,rfl,rfl⟩ rfl rfl rfl rfl ?_
 refine ao ?_
 refine wk [5,4,3,2,1] rfl (Tr.seq (Tr.BI (tp rfl (Bu (Bn) rfl rfl rfl) (tp rfl (Bu (Bn) rfl rfl rfl) (tp rfl (Bu (Bn) rfl rfl rfl) ?_)))))
 refine Tl rfl rfl rfl rfl K2 Ec (fun b6=> ?_)
 refine Tl rfl rfl rfl rfl K2 Ec (fun b7=> ?_)
 refine Tl rfl rfl rfl rfl K2 Ec (fun b8=> ?_)
 refine sf 2 6 ⟨rfl,rfl,rfl⟩ rfl rfl rfl rfl ?_
 refine sf 1 7 ⟨rfl,rfl,rfl⟩ rfl rfl rfl rfl ?_
 refine sf 0 8 ⟨rfl,rfl,rfl⟩ rfl rfl rfl rfl ?_
 refine ao ?_
 refine wk [8,7,6,5,4,3,2,1] rfl (Tr.seq (Tr.BI ?_))
 iterate 4 refine tp rfl (Bu (Bn) rfl rfl rfl) ?_
 refine Tl rfl rfl rfl rfl K2 Ec (fun b9=> ?_)
 refine Tl rfl rfl rfl rfl K2 Ec (fun b10=> ?_)
 refine Tl rfl rfl rfl rfl K2 Ec (fun b11=> ?_)
 refine Tl rfl rfl rfl rfl K2 Ec (fun b12=> ?_)
 refine sf 3 9 ⟨rfl,rfl,rfl⟩ rfl rfl rfl rfl ?_
 refine sf 2 10 ⟨rfl,rfl,rfl⟩ rfl rfl rfl rfl ?_
 refine sf 1 11 ⟨rfl,rfl,rfl⟩ rfl rfl rfl rfl ?_
 refine sf 0 12 ⟨rfl,rfl,rfl⟩ rfl rfl rfl rfl ?_
 refine ao ?_
 refine wk [12,11,10,9,8,7,6,5,4,3,2,1] rfl (Tr.seq (Tr.BI (tp rfl (Bu (Bn) rfl rfl rfl) (tp rfl (Bu (Bn) rfl rfl rfl) ?_))))
 refine Tl rfl rfl rfl rfl K2 Ec (fun b13=> ?_)
 refine Tl rfl rfl rfl rfl K2 Ec (fun b14=> ?_)
 refine sf 1 13 ⟨rfl,rfl,rfl⟩ rfl rfl rfl rfl ?_
 refine sf 0 14 ⟨rfl,rfl,rfl⟩ rfl rfl rfl rfl ?_
 refine ao ?_
 refine wk [14,13,12,11,10,9,8,7,6,5,4,3,2,1] rfl ?_
 refine ac ?_
 refine co rfl (AY rfl (CO) ⟨kq,kz⟩) ?_
 refine ac ?_
 refine co rfl (AY rfl (CO) ⟨kq,kz⟩) ?_
 refine ac ?_
 refine co rfl (AY rfl (CO) ⟨kq,kz⟩) (co rfl (Bu (Bn) rfl rfl rfl) (co rfl (Bu (Bn) rfl rfl rfl) ?_))
 refine ac ?_
 refine co rfl (AY rfl (CO) ⟨kq,kz⟩) (co rfl (Bu (Bn) rfl rfl rfl) ?_)
 refine ac ?_
 refine co rfl (AY rfl (CO) ⟨kq,kz⟩) ?_
 refine ac ?_
 refine co rfl (AY rfl (CO) ⟨kq,kz⟩) (co rfl (Bu (Bn) rfl rfl rfl) ?_)
 refine ac ?_
 refine co rfl (AY rfl (CO) ⟨kq,kz⟩) ?_
 refine ac ?_
 refine co rfl (AY rfl (CO) ⟨kq,kz⟩) (co rfl (Al rfl Ht Jr vq rfl rfl) (co rfl (Bu (Bn) rfl rfl rfl) (co rfl (Bu (Bn) rfl rfl rfl) (co rfl (Al rfl Ht Jr vq rfl rfl) (co rfl (AY rfl (CO) ⟨kq,kz⟩) ?_)))))
 refine ac ?_
 refine co rfl (AY rfl (CO) ⟨kq,kz⟩) (co rfl (Bu (Bn) rfl rfl rfl) (co rfl (Bu (Bn) rfl rfl rfl) ?_))
 refine ac ?_
 refine co rfl (AY rfl (CO) ⟨kq,kz⟩) ?_
 refine ac ?_
 refine co rfl (AY rfl (CO) ⟨kq,kz⟩) ?_
 refine ac ?_
 refine co rfl (AY rfl (CO) ⟨kq,kz⟩) ?_
 refine ac ?_
 refine co rfl (AY rfl (CO) ⟨kq,kz⟩) ?_
 refine ac ?_
 refine co rfl (AY rfl (CO) ⟨kq,kz⟩) (co rfl (Bu (Bn) rfl rfl rfl) ?_)
 refine ac ?_
 refine co rfl (AY rfl (CO) ⟨kq,kz⟩) (co rfl (Aa (xs:=[.tmp 33,.tmp 38,.tmp 43,.tmp 48,.tmp 53,.tmp 58,.tmp 63,.tmp 68,.tmp 73,.tmp 78,.tmp 83,.tmp 88,.tmp 93,.tmp 98,.tmp 103,.tmp 108]) (rows:=(suT.map UW)) rfl rfl underlying306 Gg z233 rfl AD ⟨⟨Ao,VL.le vq (Ah _)⟩,⟨⟨Ao,VL.le vq (Ah _)⟩,⟨⟨Ao,VL.le vq (Ah _)⟩,⟨⟨Ao,VL.le vq (Ah _)⟩,⟨⟨Ao,VL.le vq (Ah _)⟩,⟨⟨Ao,VL.le vq (Ah _)⟩,⟨⟨Ao,VL.le vq (Ah _)⟩,⟨⟨Ao,VL.le vq (Ah _)⟩,⟨⟨Ao,VL.le vq (Ah _)⟩,⟨⟨Ao,VL.le vq (Ah _)⟩,⟨⟨Ao,VL.le vq (Ah _)⟩,⟨⟨Ao,VL.le vq (Ah _)⟩,⟨⟨Ao,VL.le vq (Ah _)⟩,⟨⟨Ao,VL.le vq (Ah _)⟩,⟨⟨Ao,VL.le vq (Ah _)⟩,⟨⟨Ao,VL.le vq (Ah _)⟩,trivial⟩⟩⟩⟩⟩⟩⟩⟩⟩⟩⟩⟩⟩⟩⟩⟩ AD) ?_)
 refine ac ?_
 refine wk [0] rfl ?_
 refine ac ?_
 · exact BF _ _
theorem MW {code:Int}  :A_ prog 140 [int code] (DW [agg (UW (Qx code)),int (if S_ code then 0 else 8)]):=by
 refine fo func140 rfl ⟨rfl,rfl⟩ fun M0 w0=>(Tr.seq (Tr.BI ?_))
 refine Tl rfl rfl rfl rfl z233 Je (fun b1=> ?_)
 refine ap ?_
 refine ag ?_ ?_<;>intro h1 q1
 refine ac ?_
 refine Tr.cond rfl (fun _=> ?_) (fun h=>nomatch h)
 refine Tr.seq (Tr.BI (tp rfl (Au (rows:=[]) rfl dW Je trivial rfl) (TO.AV 0 rfl rfl rfl vq Cu rfl Gg rfl rfl (tm rfl (TO.nil (Fin.go (Tr.ret (Fin.AF (Fin.BW rfl (AQ.cell 0 rfl rfl JE Gg rfl Lr) (AQ.tmp rfl Lr) ?_)))))))))
 · exact kY
 refine an ?_ ?_<;>intro h2 q2
 refine ap ?_
 refine Tr.ret (Fin.AF (Fin.BW rfl (AQ.cell 0 rfl rfl JE Gg rfl Lr) (AQ.tmp rfl Lr) ?_))
 · exact kY
 have hin:1≤code∧code≤16:=by omega
 refine ac ?_
 refine Tr.seq (Tr.BI (tp rfl (kc0 (X9) rfl) ?_))
 refine ap ?_
 refine tp rfl (AB rfl underlying306 Gg vq vq AA (Be (f:=UW) (ABn AA))) ?_
 refine ap ?_
 refine wk [3,2] rfl (Tr.ret (Fin.BW rfl (AQ.cell 0 rfl rfl JE Gg rfl Lr) (AQ.tmp rfl Lr) ?_))
 · exact BK ⟨Lr,int_eq (by unfold S_;rw [if_pos (decide_eq_true hin)]),trivial⟩
abbrev anyI:Pr:=Cp.ex fun n:Int=>int n
theorem ir:∀r∈Fp,∀x∈r.sizes,0≤x∧x≤40000:=by decide+kernel
theorem X_ {a b k:Int} (h:Le a b k=true):(0≤a∧a≤40000)∧(0≤b∧b≤40000):=by
 have h1:=(Zr h).1
 rw [decide_eq_true_eq] at h1
 unfold Bx at h1
 split at h1
 next ha=>
  refine ⟨by omega,?_⟩
  split at h1
  · split at h1<;>omega
  ·
   split at h1
   · split at h1<;>omega
   ·
    split at h1
    ·
     split at h1
     next hc=>
      obtain ⟨x,hx,hb⟩:=List.any_eq_true.1 hc
      simp only [Td,List.mem_cons,List.not_mem_nil,or_false] at hx
      have:b=x:=by simpa using hb
      omega
     · omega
    ·
     split at h1
     ·
      split at h1
      next hc=>
       have hn:(DG a).sizes.any (fun x=>b==x)=true:=by
        cases he:(DG a).sizes.any (fun x=>b==x) with
        |true=>rfl
        |false=>
         have:=QD (fun x=>b==x) (DG a).sizes
         rw [he] at this;simp at this;omega
       obtain ⟨x,hx,hb⟩:=List.any_eq_true.1 hn
       have:b=x:=by simpa using hb
       subst this
       exact ir _ (gm ha) _ hx
      · omega
     · omega
 · omega
theorem xD {c:Jh} (hv:EB c=true):c.Zs:=by
 have h:=Ja hv
 have h1:=X_ h.key
 have h2:=X_ h.hash
 exact ⟨h.s1,h.k1,h1.1,h1.2,h2.1,h2.2⟩
section
variable {P:Program} {I:Cc} {E:Env} {o:Oper}
theorem JV (ho:o.op= .unOp .not t x) (hx:VL E x EN):Ab P I o E EN:=
 Ab.same fun M w a he _=>by
  obtain ⟨b,h1⟩:=hx.ev he Ap
  have h1:a.eval x= .bool b:=h1
  exact ⟨.bool (!b),by simp [execOp,ho,h1,Op.unary],_,rfl⟩
theorem ABo {u:TypeId} {y:Operand} (ho:o.op= .binOp .neq t x y u) (hx:VL E x (Dt .i64)) (hy:VL E y (Dt .i64)):Ab P I o E EN:=
 Ab.same fun M w a he _=>by
  obtain ⟨m,h1⟩:=hx.ev he Ap
  obtain ⟨n,h2⟩:=hy.ev he Ap
  have h1:a.eval x= .int .i64 m:=h1
  have h2:a.eval y= .int .i64 n:=h2
  exact ⟨.bool (m !=n),by simp [execOp,ho,h1,h2,eqGuard,binOp,Op.intCmp],_,rfl⟩
theorem qj {u:TypeId} {y:Operand} (ho:o.op= .binOp .eql t x y u) (hx:VL E x (Dt .i64)) (hy:VL E y (Dt .i64)):Ab P I o E EN:=
 Ab.same fun M w a he _=>by
  obtain ⟨m,h1⟩:=hx.ev he Ap
  obtain ⟨n,h2⟩:=hy.ev he Ap
  have h1:a.eval x= .int .i64 m:=h1
  have h2:a.eval y= .int .i64 n:=h2
  exact ⟨.bool (m==n),by simp [execOp,ho,h1,h2,eqGuard,binOp,Op.intCmp],_,rfl⟩
end
theorem ah:Pr.le anyI (Dt .i64):=fun _ _ _ h=>h
theorem xE:Pr.le (Dt .i64) anyI:=fun _ _ _ h=>h
theorem ABp:Pr.le AA0 (Dt .i64):=fun _ _ _ ⟨n,_,h⟩=>⟨n,h⟩
theorem aj {c:Jh}  :A_ prog 137 [agg (F4 c)] (DW [Es 3285282,Dt .i64]):=by
 refine fo func137 rfl ⟨rfl,rfl⟩ fun M0 w0=> ?_
 refine a2 ?_
 refine co rfl (CE (MH (c:=c)) rfl rfl) ?_
 refine an ?_ ?_<;>intro h1 q1
 refine ac ?_
 refine Tr.ret (Fin.AF (Fin.Co rfl (Bt.Dx _ _) rfl ?_ rfl ?_))
 · exact Pn
 · exact Cf _ _
 have hv:EB c=true:=by cases hb:EB c with|true=>rfl|false=>exact absurd h1 (by rw [hb];decide)
 refine a2 ?_
 refine co rfl (CE (XX hv (xD hv)) rfl rfl) (co rfl (CE (rE2) rfl rfl) ?_)
 refine ac ?_
 refine Tr.ret (Fin.Co rfl (Bt.Dx _ _) rfl ?_ rfl ?_)
 · exact Lr
 · exact Lr
theorem Si {c:Jh} {key:Int}  :A_ prog 320 [agg (F4 c),int key] (EN):=by
 refine fo func320 rfl ⟨rfl,rfl⟩ fun M0 w0=> ?_
 refine a2 ?_
 refine co rfl (CE (aj (c:=c)) rfl rfl) ?_
 refine ac ?_
 refine Tr.seq (Tr.re 6 rfl xE (Tr.ex 6 rfl fun e6=> ?_))
 · repeat' first|exact Lr|exact As _ Lr|refine cy h rfl (CE (A_.Es fun m hm=>eM AA) rfl rfl) (cy h rfl (qj rfl (VL.le vq (Cf _ _)) (VL.le vq ABp)) ?_)|refine ac ?_|(refine Ch.cg rfl rfl rfl ?_ ?_<;>intro h q)
theorem ql {l:List (List UInt8)} {s:List UInt8}  :A_ prog 318 [vQ l,str s] (EN):=by
 refine fo func318 rfl ⟨rfl,rfl⟩ fun M0 w0=>(Tr.CN 0 rfl fun C3=> ?_)
 refine a2 ?_
 refine Tr.block (Tr.A0 _ (kk [1,0] rfl) (fun k:Nat=>[(5,int ((k:Nat):Int))]) (fun k:Nat=>k≤(l).length) (fun k:Nat=>(l).length-k) 0 (Nat.zero_le _) kz ?_)
 rintro k BN
 refine an ?_ ?_<;>intro h1 q1
 have Ae:k<(l).length:=AJ h1
 obtain ⟨x,Af⟩:=at_ Ae
 · repeat' first|exact As _ Lr|exact Fin.AL (k+1) ⟨Ae,by omega⟩ ⟨⟨_,rfl,AG k⟩,kz⟩|refine co rfl (AB rfl underlying51 Hs vq vq AA Bk) ?_|refine ac ?_|(refine Tr.cn rfl ?_ ?_<;>intro h q)
 have BC:k=(l).length:=by have:=AK h1;omega
 refine a3 ?_
 · exact Aw
theorem qm {l:List Jh} {a:Int}  :A_ prog 319 [O3 l,int a] (EN):=by
 refine fo func319 rfl ⟨rfl,rfl⟩ fun M0 w0=>(Tr.CN 0 rfl fun C3=> ?_)
 refine ac ?_
 refine ag ?_ ?_<;>intro h1 q1
 refine a3 ?_
 · exact Aw
 refine an ?_ ?_<;>intro h2 q2
 refine a2 ?_
 · exact Aw
 refine ac ?_
 refine ag ?_ ?_<;>intro h3 q3
 refine ac ?_
 refine wk [4] rfl ?_
 refine ac ?_
 · exact Aw
 refine ac ?_
 refine cy h3 rfl (AB rfl underlying103 F2 vq vq AA (Be (List.getElem?_eq_getElem (show Int.toNat a<l.length by omega)))) ?_
 refine ag ?_ ?_<;>intro h4 q4
 refine ac ?_
 refine cy h4 rfl (AB rfl underlying103 F2 vq vq AA (Be (List.getElem?_eq_getElem (show Int.toNat a<l.length by omega)))) ?_
 refine ac ?_
 refine wk [4] rfl ?_
 refine ac ?_
 · exact Aw
 refine ac ?_
 refine wk [4] rfl ?_
 refine ac ?_
 · exact Aw
theorem iw {e:Int} {l:List Jh} {i:Int} {an ha:List Int} {day:Int} (hi:0≤i∧i<(l.length:Nat)):A_ prog 314 [int e,O3 l,int i,ints an,ints ha,int day,str nm] (EN):=by
 refine fo func314 rfl ⟨rfl,rfl⟩ fun M0 w0=>(Tr.CN 1 rfl fun Fq=> ?_)
 obtain ⟨c,hc⟩:=at_ (l:=l) (k:=i.toNat) AA
 refine ac ?_
 refine ao ?_
 refine tp rfl (AB rfl underlying103 F2 vq vq AA (Be hc)) ?_
 refine ao ?_
 refine Tl rfl rfl rfl rfl z171 RW (fun b1=> ?_)
 refine sf 0 15 ⟨rfl,rfl,rfl⟩ rfl rfl rfl rfl ?_
 refine ao ?_
 refine wk [16,15,6,5,4,3,2,1,0] rfl ?_
 refine ac ?_
 refine ac ?_
 refine Tr.cn rfl ?_ ?_<;>intro h1 q1
 refine ac ?_
 refine co rfl (CE (MH (c:=c)) rfl rfl) ?_
 refine ac ?_
 refine wk [14] rfl ?_
 refine ac ?_
 · exact Aw
 refine ac ?_
 refine wk [32,26,16,15,6,5,4,3,2,1] rfl ?_
 refine Tr.cn rfl ?_ ?_<;>intro h2 q2
 refine ac ?_
 refine Ch.cs 36 rfl ?_ ?_<;>intro h3 q3
 refine ac ?_
 refine cy h3 rfl (Bu (ql) rfl rfl rfl) (cy h3 rfl (JV rfl vq) ?_)
 refine ac ?_
 refine wk [14] rfl ?_
 refine ac ?_
 · exact Lr
 refine ac ?_
 refine wk [14] rfl ?_
 refine ac ?_
 · exact Aw
 refine ac ?_
 refine Tr.cn rfl ?_ ?_<;>intro h4 q4
 refine ac ?_
 refine Ch.cs 49 rfl ?_ ?_<;>intro h5 q5
 refine ac ?_
 refine wk [14] rfl ?_
 refine ac ?_
 · exact Aw
 refine ac ?_
 refine wk [14] rfl ?_
 refine ac ?_
 · exact Aw
 refine ac ?_
 refine wk [55,26,16,15,4,3,2,1] rfl ?_
 refine Tr.cn rfl ?_ ?_<;>intro h6 q6
 refine ac ?_
 refine co rfl (Bu (KL) rfl rfl rfl) ?_
 refine ac ?_
 refine wk [14] rfl ?_
 refine ac ?_
 · exact Aw
 refine ac ?_
 refine Tr.cn rfl ?_ ?_<;>intro h7 q7
 refine ac ?_
 refine Ch.cs 67 rfl ?_ ?_<;>intro h8 q8
 refine ac ?_
 refine cy h8 rfl (AB rfl underlying103 F2 vq vq AA (Be (List.getElem?_eq_getElem (show Int.toNat (i+1)<l.length by omega)))) ?_
 refine ac ?_
 refine wk [14] rfl ?_
 refine ac ?_
 · exact Aw
 refine ac ?_
 refine wk [14] rfl ?_
 refine ac ?_
 · exact Aw
 refine ac ?_
 refine Tr.cn rfl ?_ ?_<;>intro h9 q9
 refine ac ?_
 refine co rfl (Bu (qm) rfl rfl rfl) (co rfl (JV rfl vq) ?_)
 refine ac ?_
 refine wk [14] rfl ?_
 refine ac ?_
 · exact Lr
 refine ac ?_
 refine wk [84,16,15,3,2,1] rfl ?_
 refine Tr.cn rfl ?_ ?_<;>intro h10 O2
 refine ac ?_
 refine Tr.cn rfl ?_ ?_<;>intro h11 Rz
 refine ac ?_
 refine co rfl (Bu (Si) rfl rfl rfl) (co rfl (JV rfl vq) ?_)
 refine ac ?_
 refine wk [14] rfl ?_
 refine ac ?_
 · exact Lr
 refine ac ?_
 refine ac ?_
 refine co rfl (AB rfl underlying103 F2 vq vq AA (Be (List.getElem?_eq_getElem (show Int.toNat (i+1)<l.length by omega)))) ?_
 refine ac ?_
 refine co rfl (Bu (Si) rfl rfl rfl) (co rfl (JV rfl vq) ?_)
 refine ac ?_
 refine wk [14] rfl ?_
 refine ac ?_
 · exact Lr
 refine ac ?_
 refine ac ?_
 refine Ch.cs 103 rfl ?_ ?_<;>intro h12 TN
 refine ac ?_
 refine cy h12 rfl (Bu (KL) rfl rfl rfl) ?_
 refine ac ?_
 refine wk [14] rfl ?_
 refine ac ?_
 · exact Aw
 refine ac ?_
 refine wk [14] rfl ?_
 refine ac ?_
 · exact Aw
abbrev YA:List Int:=[9,14,13,7,11,15,10,12]
theorem iy {l:List Jh} {an ha:List Int} {day:Int}:A_ prog 306 [O3 l,ints an,ints ha,int day,str nm] (anyI):=by
 refine fo func306 rfl ⟨rfl,rfl⟩ fun M0 w0=>(Tr.CN 0 rfl fun C3=> ?_)
 refine ac ?_
 refine ac ?_
 refine Tr.cn rfl ?_ ?_<;>intro h1 q1
 refine ac ?_
 refine ac ?_
 · exact Aw
 refine ac ?_
 refine ac ?_
 refine Tr.cn rfl ?_ ?_<;>intro h2 q2
 refine ac ?_
 refine ac ?_
 · exact Aw
 refine ac ?_
 refine Tr.seq (Tr.Bq (co rfl (Aa (xs:=[.const (.int .i64 (9)),.const (.int .i64 (14)),.const (.int .i64 (13)),.const (.int .i64 (7)),.const (.int .i64 (11)),.const (.int .i64 (15)),.const (.int .i64 (10)),.const (.int .i64 (12))]) (rows:=(YA.map fun n=>[int n])) rfl rfl underlying414 zm z40 rfl AD ⟨⟨Ao,VL.le (vl rfl) (AO _)⟩,⟨⟨Ao,VL.le (vl rfl) (AO _)⟩,⟨⟨Ao,VL.le (vl rfl) (AO _)⟩,⟨⟨Ao,VL.le (vl rfl) (AO _)⟩,⟨⟨Ao,VL.le (vl rfl) (AO _)⟩,⟨⟨Ao,VL.le (vl rfl) (AO _)⟩,⟨⟨Ao,VL.le (vl rfl) (AO _)⟩,⟨⟨Ao,VL.le (vl rfl) (AO _)⟩,trivial⟩⟩⟩⟩⟩⟩⟩⟩ AD) ?_))
 refine ac ?_
 refine ac ?_
 refine Tr.block (Tr.A0 _ (kk [11,4,3,2,1,0] rfl) (fun m:Nat=>[(12,int ((m:Nat):Int))]) (fun m:Nat=>m≤(YA).length) (fun m:Nat=>(YA).length-m) 0 (Nat.zero_le _) kz ?_)
 rintro m KM
 refine ac ?_
 refine co rfl (E_ rfl underlying414 (Kf rfl)) ?_
 refine ac ?_
 refine Tr.cn rfl ?_ ?_<;>intro h3 q3
 have Du:m<(YA).length:=AJ h3
 obtain ⟨x,Dn⟩:=at_ Du
 have hm8:m<8:=Du
 refine ac ?_
 refine ac ?_
 refine Tr.block (Tr.A0 _ (kk [12,11,4,3,2,1,0] rfl) (fun k:Nat=>[(13,int ((k:Nat):Int))]) (fun k:Nat=>k≤(l).length) (fun k:Nat=>(l).length-k) 0 (Nat.zero_le _) kz ?_)
 rintro k BN
 refine ac ?_
 refine Tr.cn rfl ?_ ?_<;>intro h4 q4
 have Ae:k<(l).length:=AJ h4
 obtain ⟨c,Af⟩:=at_ Ae
 refine ac ?_
 refine ac ?_
 refine co rfl (AB rfl underlying414 zm (Kf rfl) (vl rfl) AA (Ad Dn)) ?_
 refine ac ?_
 refine co rfl (AY rfl (iw (e:=x) AA) ⟨ke rfl,ke rfl,ke rfl,ke rfl,ke rfl,ke rfl,ke rfl,trivial⟩) ?_
 refine ac ?_
 refine wk [43,13,12,11,4,3,2,1,0] rfl (Tr.ex 43 rfl fun ALm=> ?_)
 refine Tr.cn rfl ?_ ?_<;>intro h5 q5
 refine ac ?_
 refine co rfl (AB rfl underlying414 zm (Kf rfl) (vl rfl) AA (Ad Dn)) ?_
 refine ac ?_
 refine wk [10] rfl ?_
 refine ac ?_
 · exact Aw
 refine ac ?_
 refine ac ?_
 exact Fin.AL (k+1) ⟨Ae,by omega⟩ ⟨⟨_,rfl,AG k⟩,kz⟩
 have BC:k=(l).length:=by have:=AK h4;omega
 refine ac ?_
 refine ac ?_
 exact Fin.AL (m+1) ⟨Du,by omega⟩ ⟨⟨_,rfl,AG m⟩,kz⟩
 have Il:m=(YA).length:=by have:=AK h3;omega
 refine ac ?_
 refine ac ?_
 refine ac ?_
 · exact Aw
def Wl (s:Su) (x:Ju):Bool:=decide (s.s1=0)||decide (x.B8=s.s1)
def Sj (ids:List Ju) (code:Int):Int:=if S_ code then idx (Wl (Qx code)) ids else -1
def Lq (sv:CF) (offer:List Int) (v code:Int):Bool:=S_ code&&(offer.any fun x=>code==x)&&(sv.BA.any fun x=>code==x)&&decide ((Qx code).lo≤v)&&decide (v≤(Qx code).hi)&&decide (0≤Sj sv.ids code)
theorem IK {e:CF} {code:Int} (hl:e.ids.length≤1000000):A_ prog 293 [agg (Bp e),int code] (DW [int (Sj e.ids code),bool (decide (0≤Sj e.ids code))]):=by
 refine fo func293 rfl ⟨rfl,rfl⟩ fun M0 w0=> ?_
 refine ac ?_
 refine ao ?_
 refine tp rfl (CE (MW (code:=code)) rfl rfl) ?_
 refine ao ?_
 refine Tl rfl rfl rfl rfl z233 Je (fun b1=> ?_)
 refine sf 0 6 ⟨rfl,rfl,rfl⟩ rfl rfl rfl rfl ?_
 refine ao ?_
 refine ac ?_
 refine wk [15,6,2] rfl ?_
 refine Tr.cn rfl ?_ ?_<;>intro h1 q1
 have hK:Sj e.ids code= -1:=by unfold Sj;exact if_neg (fun h_=>by rw [if_pos h_] at h1;exact absurd h1 AD)
 refine ac ?_
 refine Tr.ret (Fin.AF (Fin.Co rfl (Bt.Dx _ _) rfl ?_ rfl ?_))
 · refine int_eq ?_;exact hK.symm
 · refine bool_eq ?_;rw [hK];rfl
 have hs:S_ code=true:=by cases h_:S_ code with|true=>rfl|false=>exact absurd h1 Mt
 have hK:Sj e.ids code=idx (Wl (Qx code)) e.ids:=by unfold Sj;exact if_pos hs
 refine a2 ?_
 refine Tr.block (Tr.A0 _ (kk [6,2] rfl) (fun k:Nat=>[(8,int ((k:Nat):Int))]) (fun k:Nat=>k≤(e.ids).length∧(∀j y,j<k→e.ids[j]? =some y→Wl (Qx code) y=false)) (fun k:Nat=>(e.ids).length-k) 0 (⟨Nat.zero_le _,fun j y hj=>absurd hj AA⟩) kz ?_)
 rintro k ⟨BN,AX⟩
 refine an ?_ ?_<;>intro h2 q2
 have Ae:k<(e.ids).length:=AJ h2
 obtain ⟨x,Af⟩:=at_ Ae
 refine ac ?_
 refine ag ?_ ?_<;>intro h3 q3
 refine ac ?_
 refine wk [39,8,6,2] rfl ?_
 refine ac ?_
 refine Tr.ret (Fin.AP (Fin.AF (Fin.AF (Fin.AP (Fin.AF (Fin.Co rfl (Bt.Dx _ _) rfl ?_ rfl ?_))))))
 · exact cO
 · exact bk
 refine ac ?_
 refine cy h3 rfl (AB rfl underlying100 ES vq vq AA (Ad Af)) ?_
 refine ac ?_
 refine wk [39,8,6,2] rfl ?_
 refine Tr.cn rfl ?_ ?_<;>intro h4 q4
 refine ac ?_
 refine Tr.ret (Fin.AP (Fin.AF (Fin.AF (Fin.AP (Fin.AF (Fin.Co rfl (Bt.Dx _ _) rfl ?_ rfl ?_))))))
 · exact cO
 · exact bk
 refine a2 ?_
 exact Fin.AL (k+1) ⟨⟨Ae,Dm (p:=Wl (Qx code)) Af tE AX⟩,by omega⟩ ⟨⟨_,rfl,AG k⟩,kz⟩
 have BC:k=(e.ids).length:=by have:=AK h2;omega
 subst BC
 refine a2 ?_
 refine Tr.ret (Fin.Co rfl (Bt.Dx _ _) rfl ?_ rfl ?_)
 · refine int_eq ?_;rw [hK];exact Gj AX
 · refine bool_eq ?_;rw [hK,←Gj AX];rfl
theorem fT {ids:List Ju} {code:Int} (h:0≤Sj ids code):∃x,ids[(Sj ids code).toNat]? =some x:=by
 unfold Sj at h ⊢
 split at h
 ·
  rename_i hs
  rw [if_pos hs]
  unfold idx at h ⊢
  cases hf:ids.findIdx? (Wl (Qx code)) with
  |none=>rw [hf] at h;simp at h
  |some i=>
   obtain ⟨hi,_⟩:=List.findIdx?_eq_some_iff_getElem.1 hf
   exact ⟨ids[i],by simp [hi]⟩
 · omega
theorem qn {e:CF} {of:List Int} {v code:Int} (h:Lq e of v code=true):0≤Sj e.ids code:=by grind [Lq]
theorem Ls {e:CF} {of:List Int} {v code:Int} (hl:e.ids.length≤1000000):A_ prog 297 [agg (Bp e),ints of,int v,int code] (bool (Lq e of v code)):=by
 refine fo func297 rfl ⟨rfl,rfl⟩ fun M0 w0=> ?_
 refine ac ?_
 refine ao ?_
 refine tp rfl (CE (MW (code:=code)) rfl rfl) ?_
 refine ao ?_
 refine Tl rfl rfl rfl rfl z233 Je (fun b1=> ?_)
 refine sf 0 9 ⟨rfl,rfl,rfl⟩ rfl rfl rfl rfl ?_
 refine ao ?_
 refine ac ?_
 refine Ch.cs 20 rfl ?_ ?_<;>intro h1 q1
 refine ac ?_
 refine wk [44,4,3] rfl ?_
 refine ac ?_
 refine ac ?_
 · refine bool_eq ?_;unfold Lq;simp_all
 refine ac ?_
 refine cy h1 rfl (Bu (KL) rfl rfl rfl) ?_
 refine ac ?_
 refine Ch.cs 26 rfl ?_ ?_<;>intro h2 q2
 refine ac ?_
 refine wk [44,4,3] rfl ?_
 refine ac ?_
 refine ac ?_
 · refine bool_eq ?_;unfold Lq;simp_all;intros;exfalso;exact q2 _ BO rfl
 refine ac ?_
 refine cy h2 rfl (Bu (KL) rfl rfl rfl) ?_
 refine ac ?_
 refine Ch.cs 33 rfl ?_ ?_<;>intro h3 q3
 refine ac ?_
 refine wk [44,4,3] rfl ?_
 refine ac ?_
 refine ac ?_
 · refine bool_eq ?_;unfold Lq;simp_all;intros;exfalso;exact q3 _ BO rfl
 refine ac ?_
 refine Ch.cs 39 rfl ?_ ?_<;>intro h4 q4
 refine ac ?_
 refine wk [44,4,3] rfl ?_
 refine ac ?_
 refine ac ?_
 · refine bool_eq ?_;unfold Lq;simp_all;intros;omega
 refine ac ?_
 refine wk [44,4,3] rfl ?_
 refine Tr.cn rfl ?_ ?_<;>intro h5 q5
 refine ac ?_
 refine ac ?_
 · refine bool_eq ?_;unfold Lq;simp_all;intros;omega
 refine ac ?_
 refine ac ?_
 refine co rfl (Bu (IK (e:=e) (code:=code) hl) rfl rfl rfl) ?_
 refine ac ?_
 refine ac ?_
 refine ac ?_
 · refine bool_eq ?_;unfold Lq;simp_all
theorem iz {c e:CF} {day most:Int} {su:List Int} (hc:c.small) (he:e.small):A_ prog 292 [agg (Bp c),agg (Bp e),int day,int most,ints su] (Cp.ex fun z:Int×Int×Int=>fact True (DW [agg [int z.1,int z.2.1],int z.2.2])):=by
 refine fo func292 rfl ⟨rfl,rfl⟩ fun M0 w0=>(Tr.CN 4 rfl fun ALC=> ?_)
 obtain ⟨od,hod⟩:∃od,(if e.own=true then e.BA else su)=od:=⟨_,rfl⟩
 have hsu:=he.BA
 have hol:od.length≤9223372036854775807:=by rw [←hod];split<;>omega
 refine Tr.seq (Tr.BI (tp rfl (Bv rfl Cu) (tp rfl (Bv rfl Cu) ?_)))
 refine Tl rfl rfl rfl rfl Js Fl (fun b1=> ?_)
 refine ap ?_
 refine ac ?_
 refine co rfl (CE (FR hc) rfl rfl) ?_
 refine ag ?_ ?_<;>intro h1 q1
 refine ac ?_
 refine Tr.cond rfl (fun _=> ?_) (fun h=>nomatch h)
 refine Tr.seq (Tr.BI (tp rfl (Au (rows:=[]) rfl Ty Fl trivial rfl) (TO.AV 0 rfl rfl rfl vq Cu rfl CG rfl rfl (tm rfl (TO.nil (Fin.go (wk [11,10] rfl (Tr.ret (Fin.AF (Fin.BW rfl (AQ.cell 0 rfl rfl Cz CG rfl Lr) (AQ.tmp rfl Lr) ?_))))))))))
 · exact Ej
 refine cy h1 rfl (Al rfl CK Bj vq rfl rfl) (cy h1 rfl (CE (FR he) rfl rfl) ?_)
 refine an ?_ ?_<;>intro h2 q2
 refine ap ?_
 refine wk [11,10] rfl (Tr.ret (Fin.AF (Fin.BW rfl (AQ.cell 0 rfl rfl Cz CG rfl Lr) (AQ.tmp rfl Lr) ?_)))
 · exact Ej
 refine ac ?_
 refine ag ?_ ?_<;>intro h3 q3
 refine ac ?_
 refine wk [39,10,6,5,4,3,2] rfl (Tr.cond rfl (fun _=> ?_) (fun h=>nomatch h))
 refine Tr.seq (Tr.BI (tp rfl (Au (rows:=[]) rfl Ty Fl trivial rfl) (TO.AV 0 rfl rfl rfl vq Cu rfl CG rfl rfl (tm rfl (TO.nil (Fin.go (Tr.ret (Fin.AF (Fin.BW rfl (AQ.cell 0 rfl rfl Cz CG rfl Lr) (AQ.tmp rfl Lr) ?_)))))))))
 · exact Ej
 refine ag ?_ ?_<;>intro h4 q4
 refine ac ?_
 refine wk [39,10,6,5,4,3,2] rfl (Tr.cond rfl (fun _=> ?_) (fun h=>nomatch h))
 refine Tr.seq (Tr.BI (tp rfl (Au (rows:=[]) rfl Ty Fl trivial rfl) (TO.AV 0 rfl rfl rfl vq Cu rfl CG rfl rfl (tm rfl (TO.nil (Fin.go (Tr.ret (Fin.AF (Fin.BW rfl (AQ.cell 0 rfl rfl Cz CG rfl Lr) (AQ.tmp rfl Lr) ?_)))))))))
 · exact Ej
 refine ag ?_ ?_<;>intro h5 q5
 refine ac ?_
 refine wk [39,10,6,5,4,3,2] rfl (Tr.cond rfl (fun _=> ?_) (fun h=>nomatch h))
 refine Tr.seq (Tr.BI (tp rfl (Au (rows:=[]) rfl Ty Fl trivial rfl) (TO.AV 0 rfl rfl rfl vq Cu rfl CG rfl rfl (tm rfl (TO.nil (Fin.go (Tr.ret (Fin.AF (Fin.BW rfl (AQ.cell 0 rfl rfl Cz CG rfl Lr) (AQ.tmp rfl Lr) ?_)))))))))
 · exact Ej
 refine ac ?_
 refine wk [39,10,6,5,4,3,2] rfl ?_
 refine Tr.cn rfl ?_ ?_<;>intro h6 q6
 refine ap ?_
 refine Tr.ret (Fin.AF (Fin.BW rfl (AQ.cell 0 rfl rfl Cz CG rfl Lr) (AQ.tmp rfl Lr) ?_))
 · exact Ej
 refine a2 ?_
 refine co rfl (ZL rfl vq vq) ?_
 refine ac ?_
 refine ag ?_ ?_<;>intro h7 q7
 refine ac ?_
 refine wk [54,12,10,6,5,4,2] rfl (Tr.cond rfl (fun _=> ?_) (fun h=>nomatch h))
 refine Tr.seq (Tr.BI (tp rfl (Au (rows:=[]) rfl Ty Fl trivial rfl) (TO.AV 0 rfl rfl rfl vq Cu rfl CG rfl rfl (tm rfl (TO.nil (Fin.go (Tr.ret (Fin.AF (Fin.BW rfl (AQ.cell 0 rfl rfl Cz CG rfl Lr) (AQ.tmp rfl Lr) ?_)))))))))
 · exact Ej
 refine ac ?_
 refine wk [54,12,10,6,5,4,2] rfl ?_
 refine Tr.cn rfl ?_ ?_<;>intro h8 q8
 refine ap ?_
 refine Tr.ret (Fin.AF (Fin.BW rfl (AQ.cell 0 rfl rfl Cz CG rfl Lr) (AQ.tmp rfl Lr) ?_))
 · exact Ej
 refine a2 ?_
 refine wk [13,12,10,6,5,4,2] rfl (Tr.Jn [2,4,5,6,10,12] [(13,ints od)] (True) ?_ (fun h9=> ?_))
 refine an ?_ ?_<;>intro h10 O2
 refine ac ?_
 exact Fin.AL () trivial ⟨⟨_,rfl,Pr.le_of_eq (by rw [←hod];simp_all)⟩,kz⟩
 refine Tr.skip ?_
 exact Fin.AL () trivial ⟨⟨_,rfl,Pr.le_of_eq (by rw [←hod];simp_all)⟩,kz⟩
 refine ac ?_
 refine Tr.block (Tr.A0 _ (kk [13,12,10,6,5,4,2] rfl) (fun k:Nat=>[(14,int ((k:Nat):Int))]) (fun k:Nat=>k≤(od).length) (fun k:Nat=>(od).length-k) 0 (Nat.zero_le _) kz ?_)
 rintro k BN
 refine an ?_ ?_<;>intro h11 Rz
 have Ae:k<(od).length:=AJ h11
 obtain ⟨x,Af⟩:=at_ Ae
 refine a2 ?_
 refine co rfl (AB rfl underlying22 BJ vq vq AA (Ad Af)) (co rfl (JA rfl BT rfl) ?_)
 refine co rfl (eA (Ls (e:=e) he.Y6) rfl rfl rfl rfl rfl) ?_
 refine ac ?_
 refine wk [75,14,13,12,10,6,5,4,2] rfl ?_
 refine Tr.cn rfl ?_ ?_<;>intro h12 TN
 refine a2 ?_
 exact Fin.AL (k+1) ⟨Ae,by omega⟩ ⟨⟨_,rfl,AG k⟩,kz⟩
 have hp:Lq e su (min most e.most) x=true:=by simpa using h12
 have hp0:=qn hp
 obtain ⟨y,hy⟩:=fT hp0
 refine a2 ?_
 refine co rfl (AB rfl underlying22 BJ vq vq AA (Ad Af)) (co rfl (JA rfl BT rfl) ?_)
 refine co rfl (Bu (IK (e:=e) he.Y6) rfl rfl rfl) ?_
 refine ac ?_
 refine wk [15,14,13,12,10,6,5,2] rfl ?_
 refine ac ?_
 refine co rfl (AB rfl underlying100 ES vq vq AA (Be hy)) ?_
 refine ac ?_
 refine co rfl (kc5 (iy) rfl rfl rfl rfl rfl rfl) (co rfl (ABo rfl (VL.le vq ah) (VL.le vq (Cf _ _))) ?_)
 refine ac ?_
 refine wk [99,14,13,12,10] rfl (Tr.ex 99 rfl fun ALn=> ?_)
 refine Tr.cn rfl ?_ ?_<;>intro J8 Vs
 refine ap ?_
 refine Tr.ret (Fin.AF (Fin.AP (Fin.AF (Fin.AF (Fin.AP (Fin.AF (Fin.BW rfl (AQ.cell 0 rfl rfl Cz CG rfl Lr) (AQ.tmp rfl Lr) ?_)))))))
 · exact Ej
 refine ac ?_
 refine ap ?_
 refine tp rfl (AB rfl underlying22 BJ vq vq AA (Ad Af)) ?_
 refine ap ?_
 refine Tr.ret (Fin.AP (Fin.AF (Fin.AF (Fin.AP (Fin.AF (Fin.BW rfl (AQ.cell 0 rfl rfl Cz CG rfl Lr) (AQ.tmp rfl Lr) ?_))))))
 · exact Ej
 have BC:k=(od).length:=by have:=AK h11;omega
 subst BC
 refine ac ?_
 refine ap ?_
 refine wk [11,10] rfl (Tr.ret (Fin.BW rfl (AQ.cell 0 rfl rfl Cz CG rfl Lr) (AQ.tmp rfl Lr) ?_))
 · exact Ej
theorem YB {c e:CF} {day:Int} (hc:c.small) (he:e.small):A_ prog 284 [agg (Bp c),agg (Bp e),int day] (Cp.ex fun z:Int×Int×Int=>fact True (DW [agg [int z.1,int z.2.1],int z.2.2])):=by
 refine fo func284 rfl ⟨rfl,rfl⟩ fun M0 w0=>(Tr.seq (Tr.BI (tp rfl (Bv rfl Cu) (tp rfl (Bv rfl Cu) ?_))))
 refine Tl rfl rfl rfl rfl Js Fl (fun b1=> ?_)
 refine ap ?_
 refine ap ?_
 refine tp rfl (ZL rfl vq vq) (tp rfl (N9 rfl vq vq) ?_)
 refine ap ?_
 refine tp rfl (kc5 (iz hc he) rfl rfl rfl rfl rfl rfl) ?_
 refine TO.ex 17 rfl (fun z1=>TO.fact 17 rfl fun E2=> ?_)
 refine ap ?_
 refine wk [7,6] rfl (Tr.ret (Fin.BW rfl (AQ.cell 0 rfl rfl Cz CG rfl Lr) (AQ.tmp rfl Lr) ?_))
 · exact Ej
abbrev uses (l:List (Int×Int)):Pr:=slice 2 (l.map fun x=>[int x.1,int x.2])
theorem Oa {e:CF} {a b:Int} (he:e.small):A_ prog 287 [agg (Bp e),agg [int a,int b]] (Cp.ex fun z:List (Int×Int)×Int=>fact (z.1.length≤1000) (DW [uses z.1,int z.2])):=by
 refine fo func287 rfl ⟨rfl,rfl⟩ fun M0 w0=> ?_
 refine a2 ?_
 refine co rfl (CE (FR he) rfl rfl) ?_
 refine an ?_ ?_<;>intro h1 q1
 refine ac ?_
 refine Tr.ret (Fin.AF (Fin.BW rfl (AQ.tmp rfl Lr) (AQ.tmp rfl Lr) ?_))
 · exact Qz
 refine ac ?_
 refine ao ?_
 refine tp rfl (CE (MW (code:=b)) rfl rfl) ?_
 refine ao ?_
 refine Tl rfl rfl rfl rfl z233 Je (fun b1=> ?_)
 refine TO.AV 0 rfl rfl rfl vq Cu rfl Gg rfl rfl ?_
 refine ao ?_
 refine wk [7,6,3,2] rfl ?_
 refine an ?_ ?_<;>intro h2 q2
 refine ac ?_
 refine Tr.drop 0 (Tr.ret (Fin.AF (Fin.BW rfl (AQ.tmp rfl Lr) (AQ.tmp rfl Lr) ?_)))
 · exact Qz
 refine a2 ?_
 refine co rfl (Bu (IK (e:=e) he.Y6) rfl rfl rfl) ?_
 refine ac ?_
 refine wk [9,8,6,2] rfl ?_
 refine an ?_ ?_<;>intro h3 q3
 refine ac ?_
 refine Tr.drop 0 (Tr.ret (Fin.AF (Fin.BW rfl (AQ.tmp rfl Lr) (AQ.tmp rfl Lr) ?_)))
 · exact Qz
 obtain ⟨y,hy⟩:=fT (ids:=e.ids) (code:=b) P3
 refine ac ?_
 refine ao ?_
 refine tp rfl (AB rfl underlying100 ES vq vq AA (Be hy)) ?_
 refine ao ?_
 refine Tl rfl rfl rfl rfl K2 Ec (fun b2=> ?_)
 refine sf 0 10 ⟨rfl,rfl,rfl⟩ rfl rfl rfl rfl ?_
 refine ao ?_
 refine wk [10,6] rfl ?_
 refine an ?_ ?_<;>intro h4 q4
 refine ao ?_
 refine TO.C0 0 rfl rfl (Aq rfl rfl vq Ce BJ rfl Am rfl) ?_
 refine ao ?_
 refine ac ?_
 refine Tr.drop 0 (wk [5,4] rfl (Tr.ret (Fin.BW rfl (AQ.tmp rfl Lr) (AQ.tmp rfl Lr) ?_)))
 · exact bw
 refine a2 ?_
 refine Tr.drop 0 (wk [5,4] rfl (Tr.ret (Fin.BW rfl (AQ.tmp rfl Lr) (AQ.tmp rfl Lr) ?_)))
 · exact bw
theorem qo {e:CF} (h:Gt e=true):1≤e.least∧e.least≤4∧e.most≤4:=by grind [Gt]
theorem YC {c e:CF} (hc:c.small) (he:e.small):A_ prog 289 [agg (Bp c),agg (Bp e)] (Cp.ex fun z:List (Int×Int)=>fact (z.length≤1000) (uses z)):=by
 refine fo func289 rfl ⟨rfl,rfl⟩ fun M0 w0=> ?_
 refine a2 ?_
 refine co rfl (CE (FR hc) rfl rfl) ?_
 refine ag ?_ ?_<;>intro h1 q1
 refine a3 ?_
 · exact As [] (Ar AR (AM 2))
 refine cy h1 rfl (Al rfl CK Bj vq rfl rfl) (cy h1 rfl (CE (FR he) rfl rfl) ?_)
 refine an ?_ ?_<;>intro h2 q2
 refine a2 ?_
 · exact As [] (Ar AR (AM 2))
 obtain ⟨hc1,hc2,hc3⟩:=qo (e:=c) B9
 obtain ⟨he1,he2,he3⟩:=qo (e:=e) B9
 refine a3 ?_
 refine co rfl (N9 rfl vq vq) ?_
 refine ac ?_
 refine wk [6,5,3,2] rfl (Tr.block (Tr.B5 248 2 ?_))
 refine Tr.Cy _ (kk [3,2] rfl) (fun (v:Int) (o:List (Int×Int)) u=>[(6,int v),(5,Ag u (uses o))]) (fun (v:Int) (o:List (Int×Int)) u=>Hp M0 w0 FG ([Ax 248 2 u])) (fun (v:Int) (o:List (Int×Int))=>1≤v∧v≤5∧(o.length:Int)≤(v-1)*16) (fun (v:Int) (o:List (Int×Int))=>(5-v).toNat) (max c.least e.least) ([]) (.slice none 0 0) (⟨by omega,by omega,by simp;omega⟩) ⟨kq,⟨_,rfl,Bf rfl⟩,trivial⟩ (fun _ _ h=>h) ?_
 rintro v o u ⟨TI,PO,hol⟩
 refine ac ?_
 refine co rfl (ZL rfl vq vq) ?_
 refine an ?_ ?_<;>intro h3 q3
 have hvm:=h3
 refine a2 ?_
 refine Tr.block (Tr.Cy _ (kk [6,3,2] rfl) (fun (k:Int) (q:List (Int×Int)) u3=>[(7,int k),(5,Ag u3 (uses q))]) (fun (k:Int) (q:List (Int×Int)) u3=>Hp M0 w0 FG ([Ax 248 2 u3])) (fun (k:Int) (q:List (Int×Int))=>1≤k∧k≤17∧(q.length:Int)≤(v-1)*16+k-1) (fun (k:Int) (q:List (Int×Int))=>(17-k).toNat) (1) (o) u (⟨by omega,by omega,by omega⟩) ⟨kq,⟨_,rfl,A9 rfl⟩,trivial⟩ (fun _ _ h=>h) ?_)
 rintro k q u3 ⟨hk1,hk2,hql⟩
 refine an ?_ ?_<;>intro h4 q4
 have hkm:=h4
 refine a2 ?_
 refine co rfl (eA (Ls (e:=e) he.Y6) rfl rfl rfl rfl rfl) ?_
 refine an ?_ ?_<;>intro h5 q5
 refine ap ?_
 refine TO.C1 0 rfl rfl AD (B7 rfl rfl rfl rfl underlying362 CG dX Js Fo Ea (A7 BD Gi)) (fun v1=> ?_)
 refine ap ?_
 refine wk [7,6,5,3,2] rfl ?_
 refine ac ?_
 exact Fin.Bg (k+1) (q++[(v,k)]) v1 (⟨⟨by omega,by omega,by simp;omega⟩,by omega⟩) ⟨kq,⟨_,rfl,A9 DC⟩,kz⟩ (fun _ _ h=>h)
 refine a2 ?_
 exact Fin.Bg (k+1) (q) u3 (⟨⟨by omega,by omega,by omega⟩,by omega⟩) ⟨kq,⟨_,rfl,A9 rfl⟩,kz⟩ (fun _ _ h=>h)
 have hkm:=h4
 refine a2 ?_
 exact Fin.Bg (v+1) (q) u3 (⟨⟨by omega,by omega,by omega⟩,by omega⟩) ⟨kq,⟨_,rfl,A9 AR⟩,kz⟩ (fun _ _ h=>h)
 have hvm:=h3
 refine a3 ?_
 · exact Pm
end Go.Proofs.YteomgekmipcdpaaGreatDoor
