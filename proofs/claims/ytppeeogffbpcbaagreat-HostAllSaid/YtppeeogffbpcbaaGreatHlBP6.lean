/-
  Part 6 of the texts that prove this claim, merged.
-/
import Derived.Test.YtppeeogffbpcbaaGreatHlBP5
set_option linter.all false
set_option maxRecDepth 40000
set_option maxHeartbeats 16000000
namespace Go.Proofs.YtppeeogffbpcbaaGreat
open Go Go.RowKit Cp Go.Proofs.Tryz
theorem S1 {t:Int} {b:Nat} {n:Bool} {m:Nat} {q:Pr} {B:Nat}  (hb:b≤1000) (hm:m≤20) (hB:B≤1000000) (ih:m=0∨A4 prog 249 [agg (Bj q)] (Et B)):A4 prog 249 [agg [int t,T_ b,bool n,slice 4 (List.replicate m (Bj q))]] (Et (2*(1000+20*B)+2)):=by
 refine fo func249 rfl ⟨rfl,rfl⟩ fun M0 w0=> ?_
 have hlr:(List.replicate m (Bj q)).length=m:=List.length_replicate
 have hlb:(List.replicate b Om).length=b:=List.length_replicate
 refine ac ?_
 refine ap ?_
 refine TO.pad ?_
 refine TO.GR 0 rfl rfl (by decide) (DN rfl rfl rfl rfl underlying198 Jz Tf z5 (Kf rfl) (vl rfl) (Bx (by exact List.Mem.head _) (vl rfl))) (fun v1=> ?_)
 refine ap ?_
 refine ac ?_
 refine Tr.block (Tr.Qn [(1,_)] ⟨ke rfl,trivial⟩ (fun (k:Nat) (acc:Nat) v=>[(4,int ((k:Nat):Int)),(3,Ay v (T_ acc))]) (fun (k:Nat) (acc:Nat) v=>Hp M0 w0 Jp ([BR 5 1 v])) (fun (k:Nat) (acc:Nat)=>k≤m∧acc≤b+k*B) (fun (k:Nat) (acc:Nat)=>m-k) (0) (b) v1 (⟨by omega,by omega⟩) ⟨ke rfl,⟨_,rfl,CE (by simp)⟩,trivial⟩ (fun _ _ h=>h) ?_)
 rintro k acc v ⟨hk1,hk2⟩
 have hkB:k*B≤20*B:=Nat.mul_le_mul_right B (by omega)
 refine ac ?_
 refine co rfl (CV rfl underlying221 (vl rfl)) ?_
 refine an ?_ ?_<;>intro h1 q1
 have hkm:k<m:=by have:=GC.IE h1;rw [hlr] at this;omega
 have ih2:=ih.resolve_left (by omega)
 refine ac ?_
 refine ap ?_
 refine tp rfl (AB rfl underlying221 CX (vl rfl) (vl rfl) (by omega) (Ho hkm)) (tp rfl (AO rfl DE CX (vl rfl) rfl rfl) (tp rfl (Bq (ih2) rfl rfl) ?_))
 refine TO.ex 22 rfl (fun z22=>TO.fact 22 rfl fun uD=> ?_)
 refine TO.GR 0 rfl rfl (by decide) (DN rfl rfl rfl rfl underlying198 Jz Tf z5 (Kb rfl) (vl rfl) (B9 (by exact List.Mem.head _) (Ka rfl))) (fun v2=> ?_)
 refine ap ?_
 refine Cr 1 3 4 rfl ?_
 refine ac ?_
 exact Fin.Td (k+1) (acc+z22) v2 (⟨⟨by omega,by rw [Nat.succ_mul];omega⟩,by omega⟩) ⟨⟨_,rfl,AS k⟩,⟨_,rfl,CE (by rw [KL])⟩,ke rfl,trivial⟩ (fun _ _ h=>h)
 have hke:k=m:=by have:=GC.IE h1;rw [hlr] at this;omega
 have F8:=UA acc
 refine ac ?_
 refine Tr.seq (Tr.pad (Tr.rx ?_))
 refine ay ?_
 refine xo rfl (fun _=>C0 rfl underlying3 underlying5 (vl rfl)) (xo rfl (fun _=>AM (xs:=[.tmp 26]) (rows:=[Om]) rfl rfl underlying198 Jz z5 rfl (by decide) ⟨⟨(by exact rfl),VL.le (vl rfl) (Pr.le_trans (BH _ _) (AU _))⟩,trivial⟩ (by decide)) ?_)
 refine xm rfl (xo rfl (fun _=>CV rfl underlying198 (Kb rfl)) ?_)
 refine xo rfl (fun _=>AX rfl (VI (n:=acc) (by omega)) ⟨⟨_,rfl,int_eq (by simp)⟩,trivial⟩) ?_
 refine Cx.ef 0 rfl rfl (by decide) (DN rfl rfl rfl rfl underlying198 Jz Tf z5 (Kf rfl) (vl rfl) (Bx (by exact List.Mem.head _) (vl rfl))) ?_
 refine xm rfl ?_
 refine Cx.ef 0 rfl rfl (by decide) (DN rfl rfl rfl rfl underlying198 Jz Tf z5 (vl rfl) (Kb rfl) EL) ?_
 refine Cx.ef 0 rfl rfl (by decide) (E7 rfl rfl (by decide) rfl (vl rfl)) ?_
 refine Cx.nil ⟨by kernel_rfl,?_⟩
 refine A9.open_ 0 2 rfl rfl (fun v3=> ?_)
 refine A9.done KP (Fin.go (DD 2 rfl ?_))
 refine ac ?_
 · exact CR (m:=1+VH acc+acc) (by have:=UA acc;omega) (Pr.le_trans (Ar _ _) (Pr.le_of_eq (by rw [show ([Om]:List (List Pr))=List.replicate 1 Om from rfl,KL,KL])))
theorem VJ {q:Pr} {D B:Nat} (hf:A4 prog 247 [agg (Bj q)] Rk) (hd:A4 prog 248 [agg (Bj q)] (Jk D)) (hp:A4 prog 249 [agg (Bj q)] (Et B)):A4 prog 201 [agg (Bj q)] (Eu [Et B,C4 .i64]):=by
 refine fo func201 rfl ⟨rfl,rfl⟩ fun M0 w0=> ?_
 refine ac ?_
 refine ap ?_
 refine tp rfl (Bq (hf) rfl rfl) ?_
 refine TO.ex 6 rfl (fun z6=> ?_)
 refine ap ?_
 refine Tr.cn rfl ?_ ?_<;>intro h1 q1
 refine ac ?_
 refine Tr.ret (Fin.AJ (Fin.Fz rfl (Ct.F5 _ _) rfl ?_ rfl ?_))
 · exact CR (m:=0) (by omega) (AD 1)
 · exact BH _ _
 refine ac ?_
 refine ap ?_
 refine tp rfl (Bq (hd) rfl rfl) ?_
 refine TO.ex 9 rfl (fun z9=>TO.fact 9 rfl fun hz9=> ?_)
 refine ap ?_
 refine Tr.cn rfl ?_ ?_<;>intro h2 q2
 refine ac ?_
 refine Tr.ret (Fin.AJ (Fin.Fz rfl (Ct.F5 _ _) rfl ?_ rfl ?_))
 · exact CR (m:=0) (by omega) (AD 1)
 · exact BH _ _
 refine a2 ?_
 refine co rfl (Bq (hp) rfl rfl) ?_
 refine ac ?_
 refine ap ?_
 refine TO.ex 13 rfl (fun z13=>TO.fact 13 rfl fun uE=> ?_)
 refine tp rfl (CV rfl underlying198 (vl rfl)) ?_
 refine ap ?_
 refine CL 4 15 rfl ?_
 refine Tr.cn rfl ?_ ?_<;>intro h3 q3
 refine ac ?_
 refine Tr.ret (Fin.AJ (Fin.Fz rfl (Ct.F5 _ _) rfl ?_ rfl ?_))
 · exact CR (m:=0) (by omega) (AD 1)
 · exact BH _ _
 refine a2 ?_
 refine Tr.ret (Fin.Fz rfl (Ct.F5 _ _) rfl ?_ rfl ?_)
 · exact Lr
 · exact BH _ _
theorem aa:IntKind.u8.wrap 0=0:=rfl
def JP (x h:Int):Nat:=(2*x).toNat+(if 128≤h then 1 else 0)
theorem GK {x h:Int} {t:Nat} (h0:0≤x) (hc:x≠0∨128≤h) (hi:t+JP x h≤400):(0≤x/256∧t+1+JP (x/256) (IntKind.u8.wrap x)≤400)∧JP (x/256) (IntKind.u8.wrap x)<JP x h:=by
 have key:JP (x/256) (IntKind.u8.wrap x)<JP x h:=by
  unfold JP
  by_cases hx:x=0
  ·
   subst hx
   rw [aa,if_neg (by omega),if_pos (by omega)];decide
  ·
   have:(if 128≤IntKind.u8.wrap x then 1 else 0)≤1:=by split<;>omega
   have:0≤(if 128≤h then 1 else 0):=by split<;>omega
   omega
 exact ⟨⟨by omega,by omega⟩,key⟩
theorem Gp {P:Program} {I:Ci} {E:Env} {o:Oper} {t u:TypeId} {x y:Operand} {m:Int} (ho:o.op= .binOp .shr t x y u) (hx:VL E x (int m)) (hy:VL E y (is (.int .u64 8))) (h0:0≤m):Af P I o E (int (m/256)):=
 Af.same fun M w a he _=>by
  have h1:a.eval x= .int .i64 m:=hx.ev he (by simp [ho,Op.operands])
  have h2:a.eval y= .int .u64 8:=hy.ev he (by simp [ho,Op.operands])
  refine ⟨.int .i64 (m.fdiv 256),?_,congrArg (Value.int .i64) (Int.fdiv_eq_ediv_of_nonneg m (by omega))⟩
  simp only [execOp,ho,h1,h2]
  simp [eqGuard,binOp,Op.shift,IntKind.bits]
abbrev q0:Pr:=slice 4 []
theorem Jl {n:Int} (hn:0≤n∧n≤40000):A4 prog 252 [int n] (agg (Bj q0)):=by
 refine fo func252 rfl ⟨rfl,rfl⟩ fun M0 w0=>(Tr.seq (Tr.Ax ?_))
 refine Tl rfl rfl rfl rfl Ki JK (fun b1=> ?_)
 refine ap ?_
 refine ac ?_
 refine co rfl (C0 rfl underlying3 underlying5 (vl rfl)) ?_
 refine a2 ?_
 refine co rfl (Gp rfl (vl rfl) (vl rfl) (by omega)) ?_
 refine ac ?_
 refine Tr.block ?_
 refine Tr.IK [(2,_)] ⟨ke rfl,trivial⟩ (fun (x:Int) (h:Int) (t:List Int)=>[(4,int x),(3,slice 1 ((h::t).map fun n=>[is (.int .u8 n)]))]) (fun (x:Int) (h:Int) (t:List Int)=>Hp M0 w0 Jp ([AA true b1 223 (([.int .i64 0,.slice none 0 0,.bool false,.slice none 0 0]:List Value).map is)])) (fun (x:Int) (h:Int) (t:List Int)=>0≤x∧t.length+JP x h≤400) (fun (x:Int) (h:Int) (t:List Int)=>JP x h) (n/256) (IntKind.u8.wrap n) ([])  (⟨by omega,by unfold JP;simp only [List.length_nil];split<;>omega⟩) ⟨ke rfl,⟨_,rfl,Pr.le_trans (BT _ _) (Pr.le_of_eq rfl)⟩,trivial⟩ (fun _ _ h=>h) ?_
 rintro x h t  ⟨hx0,gQ⟩
 refine ag ?_ ?_<;>intro h1 q1
 refine ag ?_ ?_<;>intro h2 q2
 refine ac ?_
 refine Ez 2 3 4 35 rfl ?_
 refine ac ?_
 refine ap ?_
 refine tp rfl (C0 rfl underlying3 underlying5 (vl rfl)) ?_
 refine ap ?_
 refine TO.pad ?_
 refine TO.GR 0 rfl rfl (by decide) (DN rfl rfl rfl rfl underlying198 Jz Tf z5 (Kf rfl) (vl rfl) (Bx (by exact List.Mem.head _) (vl rfl))) (fun v1=> ?_)
 refine ap ?_
 refine ac ?_
 refine co rfl (Gp rfl (vl rfl) (vl rfl) (by omega)) ?_
 refine ac ?_
 refine Fin.drop 0 (Fin.D7 (x/256) (IntKind.u8.wrap x) (h::t)  ((GK hx0 (by omega) gQ)) ⟨ke rfl,⟨_,rfl,Pr.le_trans (Ar _ _) (Pr.le_of_eq rfl)⟩,ke rfl,trivial⟩ (fun _ _ h=>h))
 refine ag ?_ ?_<;>intro h3 q3
 refine II h3 rfl ?_
 refine cy h3 rfl (AB rfl underlying198 Jz (vl rfl) (vl rfl) (by omega) (Ak (k:=0) rfl)) ?_
 refine ag ?_ ?_<;>intro h4 q4
 refine ac ?_
 refine Ez 2 3 4 35 rfl ?_
 refine ac ?_
 refine ap ?_
 refine tp rfl (C0 rfl underlying3 underlying5 (vl rfl)) ?_
 refine ap ?_
 refine TO.pad ?_
 refine TO.GR 0 rfl rfl (by decide) (DN rfl rfl rfl rfl underlying198 Jz Tf z5 (Kf rfl) (vl rfl) (Bx (by exact List.Mem.head _) (vl rfl))) (fun v2=> ?_)
 refine ap ?_
 refine ac ?_
 refine co rfl (Gp rfl (vl rfl) (vl rfl) (by omega)) ?_
 refine ac ?_
 refine Fin.drop 0 (Fin.D7 (x/256) (IntKind.u8.wrap x) (h::t)  ((GK hx0 (by omega) gQ)) ⟨ke rfl,⟨_,rfl,Pr.le_trans (Ar _ _) (Pr.le_of_eq rfl)⟩,ke rfl,trivial⟩ (fun _ _ h=>h))
 refine ag ?_ ?_<;>intro h5 q5
 refine II h5 rfl ?_
 refine cy h5 rfl (AB rfl underlying198 Jz (vl rfl) (vl rfl) (by omega) (Ak (k:=0) rfl)) ?_
 refine ac ?_
 refine Ez 2 3 4 35 rfl ?_
 refine Tr.cn rfl ?_ ?_<;>intro h6 q6
 have gR:=h6
 refine ac ?_
 refine ap ?_
 refine tp rfl (C0 rfl underlying3 underlying5 (vl rfl)) ?_
 refine ap ?_
 refine TO.pad ?_
 refine TO.GR 0 rfl rfl (by decide) (DN rfl rfl rfl rfl underlying198 Jz Tf z5 (Kf rfl) (vl rfl) (Bx (by exact List.Mem.head _) (vl rfl))) (fun v3=> ?_)
 refine ap ?_
 refine ac ?_
 refine co rfl (Gp rfl (vl rfl) (vl rfl) (by omega)) ?_
 refine ac ?_
 refine Fin.drop 0 (Fin.D7 (x/256) (IntKind.u8.wrap x) (h::t)  ((GK hx0 (by omega) gQ)) ⟨ke rfl,⟨_,rfl,Pr.le_trans (Ar _ _) (Pr.le_of_eq rfl)⟩,ke rfl,trivial⟩ (fun _ _ h=>h))
 have gR:=h6
 refine ac ?_
 refine ap ?_
 refine Tr.ret (Fin.CG rfl (AL.cell 0 rfl rfl DE CX rfl (Lr)) ?_)
 · exact AY ⟨BH _ _,CR (m:=(h::t).length) (by simp only [List.length_cons];omega) G0,A5 _ (Lr),AD 4,trivial⟩
 refine ac ?_
 refine Ez 2 3 4 35 rfl ?_
 refine ac ?_
 refine ap ?_
 refine Tr.ret (Fin.CG rfl (AL.cell 0 rfl rfl DE CX rfl (Lr)) ?_)
 · exact AY ⟨BH _ _,CR (m:=(h::t).length) (by simp only [List.length_cons];omega) G0,A5 _ (Lr),AD 4,trivial⟩
 refine ag ?_ ?_<;>intro h7 q7
 refine II h7 rfl ?_
 refine cy h7 rfl (AB rfl underlying198 Jz (vl rfl) (vl rfl) (by omega) (Ak (k:=0) rfl)) ?_
 refine ac ?_
 refine Ez 2 3 4 35 rfl ?_
 refine Tr.cn rfl ?_ ?_<;>intro h8 q8
 have gR:=h8
 refine ac ?_
 refine ap ?_
 refine tp rfl (C0 rfl underlying3 underlying5 (vl rfl)) ?_
 refine ap ?_
 refine TO.pad ?_
 refine TO.GR 0 rfl rfl (by decide) (DN rfl rfl rfl rfl underlying198 Jz Tf z5 (Kf rfl) (vl rfl) (Bx (by exact List.Mem.head _) (vl rfl))) (fun v4=> ?_)
 refine ap ?_
 refine ac ?_
 refine co rfl (Gp rfl (vl rfl) (vl rfl) (by omega)) ?_
 refine ac ?_
 refine Fin.drop 0 (Fin.D7 (x/256) (IntKind.u8.wrap x) (h::t)  ((GK hx0 (by omega) gQ)) ⟨ke rfl,⟨_,rfl,Pr.le_trans (Ar _ _) (Pr.le_of_eq rfl)⟩,ke rfl,trivial⟩ (fun _ _ h=>h))
 have gR:=h8
 refine ac ?_
 refine ap ?_
 refine Tr.ret (Fin.CG rfl (AL.cell 0 rfl rfl DE CX rfl (Lr)) ?_)
 · exact AY ⟨BH _ _,CR (m:=(h::t).length) (by simp only [List.length_cons];omega) G0,A5 _ (Lr),AD 4,trivial⟩
 refine ac ?_
 refine Ez 2 3 4 35 rfl ?_
 refine ac ?_
 refine ap ?_
 refine Tr.ret (Fin.CG rfl (AL.cell 0 rfl rfl DE CX rfl (Lr)) ?_)
 · exact AY ⟨BH _ _,CR (m:=(h::t).length) (by simp only [List.length_cons];omega) G0,A5 _ (Lr),AD 4,trivial⟩
 refine ag ?_ ?_<;>intro h9 q9
 refine II h9 rfl ?_
 refine cy h9 rfl (AB rfl underlying198 Jz (vl rfl) (vl rfl) (by omega) (Ak (k:=0) rfl)) ?_
 refine ag ?_ ?_<;>intro h10 OZ
 refine ac ?_
 refine Ez 2 3 4 35 rfl ?_
 refine ac ?_
 refine ap ?_
 refine tp rfl (C0 rfl underlying3 underlying5 (vl rfl)) ?_
 refine ap ?_
 refine TO.pad ?_
 refine TO.GR 0 rfl rfl (by decide) (DN rfl rfl rfl rfl underlying198 Jz Tf z5 (Kf rfl) (vl rfl) (Bx (by exact List.Mem.head _) (vl rfl))) (fun v5=> ?_)
 refine ap ?_
 refine ac ?_
 refine co rfl (Gp rfl (vl rfl) (vl rfl) (by omega)) ?_
 refine ac ?_
 refine Fin.drop 0 (Fin.D7 (x/256) (IntKind.u8.wrap x) (h::t)  ((GK hx0 (by omega) gQ)) ⟨ke rfl,⟨_,rfl,Pr.le_trans (Ar _ _) (Pr.le_of_eq rfl)⟩,ke rfl,trivial⟩ (fun _ _ h=>h))
 refine ag ?_ ?_<;>intro h11 QX
 refine II h11 rfl ?_
 refine cy h11 rfl (AB rfl underlying198 Jz (vl rfl) (vl rfl) (by omega) (Ak (k:=0) rfl)) ?_
 refine ac ?_
 refine Ez 2 3 4 35 rfl ?_
 refine Tr.cn rfl ?_ ?_<;>intro h12 QY
 have gR:=h12
 refine ac ?_
 refine ap ?_
 refine tp rfl (C0 rfl underlying3 underlying5 (vl rfl)) ?_
 refine ap ?_
 refine TO.pad ?_
 refine TO.GR 0 rfl rfl (by decide) (DN rfl rfl rfl rfl underlying198 Jz Tf z5 (Kf rfl) (vl rfl) (Bx (by exact List.Mem.head _) (vl rfl))) (fun v6=> ?_)
 refine ap ?_
 refine ac ?_
 refine co rfl (Gp rfl (vl rfl) (vl rfl) (by omega)) ?_
 refine ac ?_
 refine Fin.drop 0 (Fin.D7 (x/256) (IntKind.u8.wrap x) (h::t)  ((GK hx0 (by omega) gQ)) ⟨ke rfl,⟨_,rfl,Pr.le_trans (Ar _ _) (Pr.le_of_eq rfl)⟩,ke rfl,trivial⟩ (fun _ _ h=>h))
 have gR:=h12
 refine ac ?_
 refine ap ?_
 refine Tr.ret (Fin.CG rfl (AL.cell 0 rfl rfl DE CX rfl (Lr)) ?_)
 · exact AY ⟨BH _ _,CR (m:=(h::t).length) (by simp only [List.length_cons];omega) G0,A5 _ (Lr),AD 4,trivial⟩
 refine ac ?_
 refine Ez 2 3 4 35 rfl ?_
 refine ac ?_
 refine ap ?_
 refine Tr.ret (Fin.CG rfl (AL.cell 0 rfl rfl DE CX rfl (Lr)) ?_)
 · exact AY ⟨BH _ _,CR (m:=(h::t).length) (by simp only [List.length_cons];omega) G0,A5 _ (Lr),AD 4,trivial⟩
 refine ag ?_ ?_<;>intro HW Q_
 refine II HW rfl ?_
 refine cy HW rfl (AB rfl underlying198 Jz (vl rfl) (vl rfl) (by omega) (Ak (k:=0) rfl)) ?_
 refine ac ?_
 refine Ez 2 3 4 35 rfl ?_
 refine Tr.cn rfl ?_ ?_<;>intro Pf YV
 have gR:=Pf
 refine ac ?_
 refine ap ?_
 refine tp rfl (C0 rfl underlying3 underlying5 (vl rfl)) ?_
 refine ap ?_
 refine TO.pad ?_
 refine TO.GR 0 rfl rfl (by decide) (DN rfl rfl rfl rfl underlying198 Jz Tf z5 (Kf rfl) (vl rfl) (Bx (by exact List.Mem.head _) (vl rfl))) (fun v7=> ?_)
 refine ap ?_
 refine ac ?_
 refine co rfl (Gp rfl (vl rfl) (vl rfl) (by omega)) ?_
 refine ac ?_
 refine Fin.drop 0 (Fin.D7 (x/256) (IntKind.u8.wrap x) (h::t)  ((GK hx0 (by omega) gQ)) ⟨ke rfl,⟨_,rfl,Pr.le_trans (Ar _ _) (Pr.le_of_eq rfl)⟩,ke rfl,trivial⟩ (fun _ _ h=>h))
 have gR:=Pf
 refine ac ?_
 refine ap ?_
 refine Tr.ret (Fin.CG rfl (AL.cell 0 rfl rfl DE CX rfl (Lr)) ?_)
 · exact AY ⟨BH _ _,CR (m:=(h::t).length) (by simp only [List.length_cons];omega) G0,A5 _ (Lr),AD 4,trivial⟩
 refine ac ?_
 refine Ez 2 3 4 35 rfl ?_
 refine ac ?_
 refine ap ?_
 refine Tr.ret (Fin.CG rfl (AL.cell 0 rfl rfl DE CX rfl (Lr)) ?_)
 · exact AY ⟨BH _ _,CR (m:=(h::t).length) (by simp only [List.length_cons];omega) G0,A5 _ (Lr),AD 4,trivial⟩
theorem QC {s:List UInt8} (hs:s.length≤1000):A4 prog 250 [str s] (agg (Bj q0)):=by
 refine fo func250 rfl ⟨rfl,rfl⟩ fun M0 w0=>(Tr.seq (Tr.Ax ?_))
 refine Tl rfl rfl rfl rfl Ki JK (fun b1=> ?_)
 refine ap ?_
 refine ap ?_
 refine tp rfl (Mp rfl underlying9 underlying198 underlying5 (vl rfl) (by unfold maxLen;omega)) ?_
 refine ap ?_
 refine Tr.ret (Fin.CG rfl (AL.cell 0 rfl rfl DE CX rfl (Lr)) ?_)
 · exact AY ⟨BH _ _,CR (m:=s.length) (by omega) (G0 (f:=fun c:UInt8=>((c.toNat:Nat):Int))),A5 _ (Lr),AD 4,trivial⟩
theorem af {b:Bool}  :A4 prog 254 [bool b] (agg (Bj q0)):=by
 refine fo func254 rfl ⟨rfl,rfl⟩ fun M0 w0=>(Tr.seq (Tr.Ax ?_))
 refine Tl rfl rfl rfl rfl Ki JK (fun b1=> ?_)
 refine ap ?_
 refine an ?_ ?_<;>intro h1 q1
 refine ap ?_
 refine tp rfl (As (rows:=[(0,[_]),(1,[_])]) rfl WJ JK ⟨⟨rfl,(Vo rfl)⟩,⟨⟨rfl,⟨_,rfl,Pr.le_trans (BT _ _) (AU _)⟩⟩,trivial⟩⟩ rfl) ?_
 refine ap ?_
 refine Tr.ret (Fin.AJ (Fin.CG rfl (AL.cell 0 rfl rfl DE CX rfl (Lr)) ?_))
 · exact AY ⟨BH _ _,CR (m:=1) (by omega) (UB _),A5 _ (Lr),AD 4,trivial⟩
 refine ac ?_
 refine ap ?_
 refine tp rfl (As (rows:=[(0,[_]),(1,[_])]) rfl WJ JK ⟨⟨rfl,(Vo rfl)⟩,⟨⟨rfl,⟨_,rfl,Pr.le_trans (BT _ _) (AU _)⟩⟩,trivial⟩⟩ rfl) ?_
 refine ap ?_
 refine Tr.ret (Fin.CG rfl (AL.cell 0 rfl rfl DE CX rfl (Lr)) ?_)
 · exact AY ⟨BH _ _,CR (m:=1) (by omega) (UB _),A5 _ (Lr),AD 4,trivial⟩
theorem K2 {m:Nat} {q:Pr} [One q]  (hm:m≤20) (ih:m=0∨A4 prog 286 [q] q):A4 prog 286 [slice 4 (List.replicate m (Bj q))] (slice 4 (List.replicate m (Bj q))):=by
 refine A4.of func286 rfl rfl (by exact Nb rfl) fun M0 w0=> ?_
 have hlr:(List.replicate m (Bj q)).length=m:=List.length_replicate
 refine Tr.seq (Tr.B_ (cm rfl (Ch.nil (Fin.go (Tr.seq (Tr.B_ (cm rfl (Ch.nil (Fin.go (Tr.seq (Tr.seq (Tr.B_ (cm rfl ?_)))))))))))))
 refine Ch.nil (Fin.go (Tr.block (Tr.EZ 223 4 (Tr.Ea [(0,_)] ⟨ke rfl,trivial⟩ (fun k v=>[(4,int ((k:Nat):Int)),(3,Ay v (slice 4 (List.replicate k (Bj q))))]) (fun k v=>Hp M0 w0 Jp ([BR 223 4 v])) (fun k:Nat=>k≤((List.replicate m (Bj q)).length)) (fun k:Nat=>((List.replicate m (Bj q)).length)-k) 0 (.slice none 0 0) (Nat.zero_le _) ⟨ke rfl,⟨_,rfl,Dv rfl⟩,trivial⟩ (fun _ _ h=>h) ?_))))
 rintro k v Bk
 refine Tr.seq (Tr.seq (Tr.B_ (cm rfl (cm rfl (co rfl (CV rfl underlying221 (vl rfl)) (co rfl (ki rfl rfl rfl rfl) (Ch.nil (Fin.go ?_))))))))
 refine Tr.cn rfl ?_ ?_<;>intro h1 q1
 have Ao:k<((List.replicate m (Bj q)).length):=AZ h1
 have hkm:k<m:=by simpa using Ao
 have ih2:=ih.resolve_left (by omega)
 refine Tr.skip (Fin.go (Tr.seq (Tr.block (Tr.seq (Tr.Ax (tm rfl (tm rfl (tp rfl (AB rfl underlying221 CX (vl rfl) (vl rfl) (by omega) (Ho hkm)) (tp rfl (AO rfl DE CX (vl rfl) rfl rfl) ?_)))))))))
 refine Tl rfl rfl rfl rfl Ki JK (fun b1=> ?_)
 refine TO.AR 0 rfl rfl rfl (vl rfl) (Va rfl) rfl CX rfl rfl (TO.nil (Fin.go (Tr.seq (Tr.Ax (tp rfl (AM (xs:=[]) (rows:=[]) rfl rfl underlying198 Jz z5 rfl (by decide) trivial (by decide)) (tp rfl (AE rfl PM (vl rfl)) (TO.rd 0 rfl rfl rfl (by decide) (Bg rfl WI (vl rfl) rfl) ?_)))))))
 refine TO.ex 18 rfl (fun z18=>TO.fact 18 rfl fun sA=> ?_)
 refine TO.pad ?_
 refine TO.GR 0 rfl rfl (by decide) (DN rfl rfl rfl rfl underlying198 Jz Tf z5 (Kf rfl) (vl rfl) (Bx (by exact List.Mem.head _) (vl rfl))) (fun v1=> ?_)
 refine tp rfl (AE rfl PM (vl rfl)) (TO.CT 1 rfl rfl (Ab rfl rfl (vl rfl) (Vo rfl) kE rfl (by exact Nb rfl) rfl) (TO.nil (Fin.go (Ez 0 3 4 5 rfl (Tr.seq (Tr.Ax (tp rfl (AE rfl J1 (vl rfl)) (TO.rd 1 rfl rfl rfl (by decide) (Bg rfl PL (vl rfl) rfl) (tp rfl (AX rfl (ih2) ⟨ke rfl,trivial⟩) (tp rfl (AE rfl J1 (vl rfl)) (TO.CT 1 rfl rfl (Ab rfl rfl (vl rfl) (Vo rfl) kH rfl (by exact Nb rfl) rfl) (TO.nil (Fin.go (Tr.Ax ?_))))))))))))))
 refine tm rfl (TO.rd 1 rfl rfl rfl (by decide) (AQ rfl DE CX (vl rfl) rfl rfl) (tp rfl (AM (xs:=[.tmp 26]) (rows:=[Bj q]) rfl rfl underlying221 CX Ki rfl (by decide) ⟨⟨(by exact rfl),VL.le (vl rfl) (Pr.le_trans (AY (qs:=Bj q) ⟨Lr,CR (m:=z18) (by omega) (Pr.le_trans (Ar _ _) (Pr.le_of_eq rfl)),Lr,Lr,trivial⟩) (Ae _))⟩,trivial⟩ (by decide)) ?_))
 refine TO.GR 2 rfl rfl (by decide) (DN rfl rfl rfl rfl underlying221 CX cJ Ki (Kb rfl) (Kf rfl) (B9 (by exact List.Mem.head _) (Ka rfl))) (fun v2=> ?_)
 refine tm rfl (TO.nil (Fin.block (Fin.go (Tr.drop 1 (Tr.B_ (cm rfl (QW rfl rfl rfl rfl (by omega) (cm rfl (Ch.nil (Fin.drop 0 (Fin.Fu (k+1) v2 (⟨Ao,by omega⟩) ⟨⟨_,rfl,AS k⟩,⟨_,rfl,CE (by rw [I7])⟩,ke rfl,trivial⟩ (fun _ _ h=>h))))))))))))
 have BQ:k=((List.replicate m (Bj q)).length):=by have:=Aa h1;omega
 refine Tr.exit (Fin.Ai (Fin.Ai (Fin.BA (Fin.go (Tr.seq (Tr.B_ (cm rfl (cm rfl (Ch.nil (Fin.go (Tr.ret (Fin.LX rfl (Ct.F5 _ _) rfl ?_))))))))))))
 · exact Pr.le_trans (Ar _ _) (Pr.le_of_eq (by rw [BQ,hlr]))
theorem QD {m:Nat} {q:Pr}  (hm:m≤20) (hc:A4 prog 286 [slice 4 (List.replicate m (Bj q))] (slice 4 (List.replicate m (Bj q)))):A4 prog 251 [slice 4 (List.replicate m (Bj q))] (agg (Bj (Ir (Bj q)))):=by
 refine fo func251 rfl ⟨rfl,rfl⟩ fun M0 w0=>(Tr.seq (Tr.Ax ?_))
 refine Tl rfl rfl rfl rfl Ki JK (fun b1=> ?_)
 refine ap ?_
 refine ap ?_
 refine tp rfl (Bq (hc) rfl rfl) ?_
 refine ap ?_
 refine Tr.ret (Fin.CG rfl (AL.cell 0 rfl rfl DE CX rfl (Lr)) ?_)
 · exact AY ⟨BH _ _,CR (m:=0) (by omega) (AD 1),A5 _ (Lr),A5 m (A2 hm (Lr)),trivial⟩
structure GV.vf (c:GV):Prop where
 s0:0≤c.Gz
 s1:c.Gz≤1099511627776
 iss:named c.Hg=true
 sub:named c.F3=true
 nm:Es c.names=true
 key:E4 c.Lh c.Hy 2=true
 k0:0≤c.BG
 k1:c.BG≤2147483648
 hash:E4 c.Pn c.KC 1=true
 sk0:0≤c.Ux
 sk1:c.Ux≤2147483648
 su0:0≤c.Uy
 su1:c.Uy<4294967296
 f0:0≤c.from_
 ft:c.from_≤c.E2
 t1:c.E2≤40000
 p0:0≤c.path
 p1:c.path≤8
 ap:c.auth=true∨c.path=0
theorem Dt {c:GV} (hv:C9 c=true):c.vf:=by
 simp only [C9,Er,Uz,Bool.and_eq_true,Bool.or_eq_true,decide_eq_true_eq,beq_iff_eq] at hv
 obtain ⟨⟨⟨⟨⟨⟨⟨h1,h2⟩,h3⟩,h4⟩,h5⟩,⟨⟨⟨⟨h6,⟨h7,h8⟩⟩,h9⟩,⟨h10,h11⟩⟩,⟨h12,HW⟩⟩⟩,⟨⟨Pf,QZ⟩,h16⟩⟩,⟨⟨Tu,Tv⟩,Zj⟩⟩:=hv
 exact ⟨h1,h2,h3,h4,h5,h6,h7,h8,h9,h10,h11,h12,HW,Pf,QZ,h16,Tu,Tv,Zj⟩
theorem UC {c:GV} (h:c.vf):C9 c=true:=by
 simp only [C9,Er,Uz,Bool.and_eq_true,Bool.or_eq_true,decide_eq_true_eq,beq_iff_eq]
 exact ⟨⟨⟨⟨⟨⟨⟨h.s0,h.s1⟩,h.iss⟩,h.sub⟩,h.nm⟩,⟨⟨⟨⟨h.key,⟨h.k0,h.k1⟩⟩,h.hash⟩,⟨h.sk0,h.sk1⟩⟩,⟨h.su0,h.su1⟩⟩⟩,⟨⟨h.f0,h.ft⟩,h.t1⟩⟩,⟨⟨h.p0,h.p1⟩,h.ap⟩⟩
theorem Xm {a b k:Int} (h:E4 a b k=true):decide (B5 a b>0)=true∧(C5 a).kind=k:=by
 unfold E4 at h;simpa using h
theorem QE {l:List (List UInt8)} {k:Nat} {s:List UInt8} (h:nameAt l k=true) (hs:l[k]? =some s):named s=true:=by
 unfold nameAt at h;rw [hs] at h;simp at h;exact h.1
theorem UD {l:List (List UInt8)} {k:Nat} {s y:List UInt8} (h:nameAt l k=true) (hs:l[k]? =some s) (hy:l[k-1]? =some y) (hk:0<k):decide (Lib.compareBytes y s= -1)=true:=by
 unfold nameAt at h;rw [hs,hy] at h;simp at h
 rcases h.2 with h2|h2
 · omega
 · simpa using h2
theorem Oo {c:GV} (hv:C9 c=true):A4 prog 159 [agg (C1 c)] (int 0):=by
 refine fo func159 rfl ⟨rfl,rfl⟩ fun M0 w0=> ?_
 obtain ⟨hs0,hs1,gS,hsub,hnm,hkey,Wy,hk1,dG,sB,sC,sD,sE,hf0,hft,ht1,jY,Np,hap⟩:=Dt hv
 obtain ⟨nJ,nK⟩:=Xm hkey
 obtain ⟨hh1,hh2⟩:=Xm dG
 have K3:=hnm
 unfold Es at K3
 rw [Bool.and_eq_true,Cj,decide_eq_true_eq] at K3
 obtain ⟨hall,nL⟩:=K3
 refine ac ?_
 refine ag ?_ ?_<;>intro h1 q1
 exfalso;have:=q1;omega
 refine ag ?_ ?_<;>intro h2 q2
 exfalso;have:=q2;omega
 refine ac ?_
 refine cy h2 rfl (Bq (FA) rfl rfl) ?_
 refine ag ?_ ?_<;>intro h3 q3
 rw [gS] at h3;exact absurd h3 (by decide)
 refine ac ?_
 refine cy h3 rfl (Bq (FA) rfl rfl) ?_
 refine ag ?_ ?_<;>intro h4 q4
 rw [hsub] at h4;exact absurd h4 (by decide)
 refine ac ?_
 refine cy h4 rfl (Bq (Gm) rfl rfl) ?_
 refine ag ?_ ?_<;>intro h5 q5
 rw [nJ,nK] at h5;exact absurd h5 (by decide)
 refine ag ?_ ?_<;>intro h6 q6
 exfalso;have:=q6;omega
 refine ac ?_
 refine CL 1 39 rfl ?_
 refine Tr.cn rfl ?_ ?_<;>intro h7 q7
 exfalso;have:=q7;omega
 refine a2 ?_
 refine co rfl (Bq (Ic) rfl rfl) ?_
 refine ag ?_ ?_<;>intro h8 q8
 rw [hh1] at h8;exact absurd h8 (by decide)
 refine ac ?_
 refine cy h8 rfl (Bq (L1) rfl rfl) ?_
 refine ag ?_ ?_<;>intro h9 q9
 rw [hh2] at h9;exact absurd h9 (by decide)
 refine ag ?_ ?_<;>intro h10 OZ
 exfalso;have:=OZ;omega
 refine ag ?_ ?_<;>intro h11 QX
 exfalso;have:=QX;omega
 refine ac ?_
 refine CL 1 67 rfl ?_
 refine Tr.cn rfl ?_ ?_<;>intro h12 QY
 exfalso;have:=QY;omega
 refine ac ?_
 refine ag ?_ ?_<;>intro HW Q_
 exfalso;have:=Q_;omega
 refine ag ?_ ?_<;>intro Pf YV
 exfalso;have:=YV;omega
 refine ag ?_ ?_<;>intro QZ cr
 refine ag ?_ ?_<;>intro h16 fI
 exfalso;have:=fI;simp_all
 refine ac ?_
 refine CL 1 91 rfl ?_
 refine Tr.cn rfl ?_ ?_<;>intro Tu ck
 exfalso;have:=ck;omega
 refine a2 ?_
 refine Tr.block (Tr.BW [(1,_)] ⟨ke rfl,trivial⟩ (fun k:Nat=>[(3,int ((k:Nat):Int))]) (fun k:Nat=>k≤(c.names).length) (fun k:Nat=>(c.names).length-k) 0 (Nat.zero_le _) ⟨ke rfl,trivial⟩ ?_)
 rintro k Bk
 refine an ?_ ?_<;>intro Tv jB
 have Ao:k<(c.names).length:=AZ Tv
 obtain ⟨s,An⟩:=at_ Ao
 have Lb:=hall k (by omega)
 have hna:=QE Lb An
 refine a2 ?_
 refine co rfl (AB rfl underlying74 JB (vl rfl) (vl rfl) (by omega) (Ak An)) (co rfl (Fv rfl HQ rfl) (co rfl (Bq (FA) rfl rfl) ?_))
 refine ag ?_ ?_<;>intro Zj mJ
 exfalso;rw [hna] at Zj;exact absurd Zj (by decide)
 refine ag ?_ ?_<;>intro N5 jC
 have NZ:0<k:=by simpa using N5
 obtain ⟨y,hy⟩:=at_ (l:=c.names) (k:=k-1) (by omega)
 have hlt:=UD Lb An hy NZ
 refine ac ?_
 refine cy N5 rfl (AB rfl underlying74 JB (vl rfl) (vl rfl) (by omega) (by rw [show ((k:Nat):Int)-1=((k-1:Nat):Int) by omega];exact Ak hy)) ?_
 refine ac ?_
 refine cy N5 rfl (AB rfl underlying74 JB (vl rfl) (vl rfl) (by omega) (Ak An)) (cy N5 rfl (Fv rfl HQ rfl) (cy N5 rfl (Mo rfl (vl rfl) (vl rfl)) ?_))
 refine ac ?_
 refine Cr 1 3 123 rfl ?_
 refine Tr.cn rfl ?_ ?_<;>intro cq mK
 exfalso;rw [hlt] at cq;exact absurd cq (by decide)
 refine a2 ?_
 exact Fin.AG (k+1) ⟨Ao,by omega⟩ ⟨⟨_,rfl,AS k⟩,ke rfl,trivial⟩
 refine ac ?_
 refine Cr 1 3 123 rfl ?_
 refine a2 ?_
 exact Fin.AG (k+1) ⟨Ao,by omega⟩ ⟨⟨_,rfl,AS k⟩,ke rfl,trivial⟩
 have BQ:k=(c.names).length:=by have:=Aa Tv;omega
 refine ac ?_
 refine ag ?_ ?_<;>intro h22 q22
 exfalso;have:=q22;omega
 refine ag ?_ ?_<;>intro h23 q23
 exfalso;have:=q23;omega
 refine ag ?_ ?_<;>intro h24 q24
 exfalso;have:=q24;omega
 refine ac ?_
 refine DD 145 rfl ?_
 refine Tr.cn rfl ?_ ?_<;>intro h25 q25
 exfalso;have:=q25;omega
 refine a3 ?_
 · exact Lr
 refine ac ?_
 refine CL 1 91 rfl ?_
 refine Tr.cn rfl ?_ ?_<;>intro mM mN
 exfalso;have:=mN;omega
 refine a2 ?_
 refine Tr.block (Tr.BW [(1,_)] ⟨ke rfl,trivial⟩ (fun k:Nat=>[(3,int ((k:Nat):Int))]) (fun k:Nat=>k≤(c.names).length) (fun k:Nat=>(c.names).length-k) 0 (Nat.zero_le _) ⟨ke rfl,trivial⟩ ?_)
 rintro k Bk
 refine an ?_ ?_<;>intro cv q27
 have Ao:k<(c.names).length:=AZ cv
 obtain ⟨s,An⟩:=at_ Ao
 have Lb:=hall k (by omega)
 have hna:=QE Lb An
 refine a2 ?_
 refine co rfl (AB rfl underlying74 JB (vl rfl) (vl rfl) (by omega) (Ak An)) (co rfl (Fv rfl HQ rfl) (co rfl (Bq (FA) rfl rfl) ?_))
 refine ag ?_ ?_<;>intro jD q28
 exfalso;rw [hna] at jD;exact absurd jD (by decide)
 refine ag ?_ ?_<;>intro Uo q29
 have NZ:0<k:=by simpa using Uo
 obtain ⟨y,hy⟩:=at_ (l:=c.names) (k:=k-1) (by omega)
 have hlt:=UD Lb An hy NZ
 refine ac ?_
 refine cy Uo rfl (AB rfl underlying74 JB (vl rfl) (vl rfl) (by omega) (by rw [show ((k:Nat):Int)-1=((k-1:Nat):Int) by omega];exact Ak hy)) ?_
 refine ac ?_
 refine cy Uo rfl (AB rfl underlying74 JB (vl rfl) (vl rfl) (by omega) (Ak An)) (cy Uo rfl (Fv rfl HQ rfl) (cy Uo rfl (Mo rfl (vl rfl) (vl rfl)) ?_))
 refine ac ?_
 refine Cr 1 3 123 rfl ?_
 refine Tr.cn rfl ?_ ?_<;>intro h30 q30
 exfalso;rw [hlt] at h30;exact absurd h30 (by decide)
 refine a2 ?_
 exact Fin.AG (k+1) ⟨Ao,by omega⟩ ⟨⟨_,rfl,AS k⟩,ke rfl,trivial⟩
 refine ac ?_
 refine Cr 1 3 123 rfl ?_
 refine a2 ?_
 exact Fin.AG (k+1) ⟨Ao,by omega⟩ ⟨⟨_,rfl,AS k⟩,ke rfl,trivial⟩
 have BQ:k=(c.names).length:=by have:=Aa cv;omega
 refine ac ?_
 refine ag ?_ ?_<;>intro h31 q31
 exfalso;have:=q31;omega
 refine ag ?_ ?_<;>intro h32 q32
 exfalso;have:=q32;omega
 refine ag ?_ ?_<;>intro h33 q33
 exfalso;have:=q33;omega
 refine ac ?_
 refine DD 145 rfl ?_
 refine Tr.cn rfl ?_ ?_<;>intro h34 q34
 exfalso;have:=q34;omega
 refine a3 ?_
 · exact Lr
abbrev ah:Pr:=Cp.ex fun n:Int=>fact (0≤n∧n<4294967296) (is (.int .u32 n))
abbrev nM:Pr:=Cp.ex fun n:Int=>fact (0≤n∧n<4294967296) (int n)
theorem aj:Pr.le ah (C4 .u32):=fun _ _ _ ⟨n,_,h⟩=>⟨n,h⟩
section
variable {P:Program} {I:Ci} {E:Env} {o:Oper}
theorem Xn {s t:TypeId} {x:Operand} {k k':IntKind} (ho:o.op= .convert s t x) (hs:P.underlying s=some (.int k)) (ht:P.underlying t=some (.int k')) (hx:VL E x (C4 k)):Af P I o E (C4 k'):=
 Af.same fun M w a he _=>by
  obtain ⟨n,h1⟩:=hx.ev he (by simp [ho,Op.operands])
  have h1:a.eval x= .int k n:=h1
  refine ⟨.int k' (k'.wrap n),?_,_,rfl⟩
  simp [execOp,ho,h1,convert,run_underlying hs,run_underlying ht,Conv.intToInt,Sem.run_bind]
theorem ak {t u:TypeId} {x y:Operand} (ho:o.op= .binOp .mul t x y u) (hx:VL E x (C4 .u32)) (hy:VL E y (C4 .u32)):Af P I o E ah:=
 Af.same fun M w a he _=>by
  obtain ⟨m,h1⟩:=hx.ev he (by simp [ho,Op.operands])
  obtain ⟨n,h2⟩:=hy.ev he (by simp [ho,Op.operands])
  have h1:a.eval x= .int .u32 m:=h1
  have h2:a.eval y= .int .u32 n:=h2
  refine ⟨.int .u32 (IntKind.u32.wrap (m*n)),by simp [execOp,ho,h1,h2,eqGuard,binOp,Op.intArith],_,?_,rfl⟩
  rw [IntKind.wrap_u32];omega
theorem VK {s t:TypeId} {x:Operand} (ho:o.op= .convert s t x) (hs:P.underlying s=some (.int .u32)) (ht:P.underlying t=some (.int .i64)) (hx:VL E x ah):Af P I o E nM:=
 Af.same fun M w a he _=>by
  obtain ⟨n,hn,h1⟩:=hx.ev he (by simp [ho,Op.operands])
  have h1:a.eval x= .int .u32 n:=h1
  refine ⟨.int .i64 (IntKind.i64.wrap n),?_,n,hn,by rw [Ix (by unfold GP;omega)];rfl⟩
  simp [execOp,ho,h1,convert,run_underlying hs,run_underlying ht,Conv.intToInt,Sem.run_bind]
end
theorem A4.Ir {P:Program} {f:FuncId} {row:List Pr} (h:∀m,m≤20→A4 P f [slice 4 (List.replicate m row)] (slice 4 (List.replicate m row))):A4 P f [Go.Proofs.YtppeeogffbpcbaaGreat.Ir row] (Go.Proofs.YtppeeogffbpcbaaGreat.Ir row):=by
 refine ⟨(h 0 (by omega)).1,fun M w vs hb hv=> ?_⟩
 match vs,hv with
 |[u0],HH=>
  obtain ⟨⟨m,hm,h0⟩,_⟩:=HH
  exact ((h m hm).2 M w [u0] hb ⟨h0,trivial⟩).mono fun e w' ⟨v,h1,h2,h3⟩=>⟨v,h1,⟨m,hm,h2⟩,h3⟩
theorem A4.Et {P:Program} {f:FuncId} {B:Nat} {res:Pr} (h:∀m,m≤B→A4 P f [T_ m] res):A4 P f [Go.Proofs.YtppeeogffbpcbaaGreat.Et B] res:=by
 refine ⟨(h 0 (by omega)).1,fun M w vs hb hv=> ?_⟩
 match vs,hv with
 |[u0],HH=>
  obtain ⟨⟨m,hm,h0⟩,_⟩:=HH
  exact (h m hm).2 M w [u0] hb ⟨h0,trivial⟩
abbrev KR:Pr:=Ir (Bj q0)
abbrev nN:Pr:=Ir (Bj KR)
theorem LQ:Pr.le q0 KR:=A5 0 (A2 (by omega) (Pr.le_refl _))
theorem rc0:A4 Tryz.prog 286 [q0] q0:=K2 (m:=0) (q:=q0) (by omega) (.inl rfl)
theorem rc1 (m:Nat) (hm:m≤20):A4 Tryz.prog 286 [slice 4 (List.replicate m (Bj q0))] (slice 4 (List.replicate m (Bj q0))):=K2 hm (.inr rc0)
theorem rc2 (m:Nat) (hm:m≤20):A4 Tryz.prog 286 [slice 4 (List.replicate m (Bj KR))] (slice 4 (List.replicate m (Bj KR))):=K2 hm (.inr (A4.Ir rc1))
theorem rf0:A4 Tryz.prog 247 [agg (Bj q0)] Rk:=A4.Xl fun t b n hb=>K1 (m:=0) (q:=q0) hb (by omega) (.inl rfl)
theorem rf1:A4 Tryz.prog 247 [agg (Bj KR)] Rk:=A4.Bj fun t b n m hb hm=>K1 hb hm (.inr rf0)
theorem rf2:A4 Tryz.prog 247 [agg (Bj nN)] Rk:=A4.Bj fun t b n m hb hm=>K1 hb hm (.inr rf1)
theorem rd0:A4 Tryz.prog 248 [agg (Bj q0)] (Jk 1):=A4.Xl fun t b n hb=>NX (m:=0) (q:=q0) (D:=0) hb (by omega) (by omega) (.inl rfl)
theorem rd1:A4 Tryz.prog 248 [agg (Bj KR)] (Jk 2):=A4.Bj fun t b n m hb hm=>NX hb hm (by omega) (.inr rd0)
theorem rd2:A4 Tryz.prog 248 [agg (Bj nN)] (Jk 3):=A4.Bj fun t b n m hb hm=>NX hb hm (by omega) (.inr rd1)
theorem rp0:A4 Tryz.prog 249 [agg (Bj q0)] (Et 2002):=A4.Xl fun t b n hb=>S1 (m:=0) (q:=q0) (B:=0) hb (by omega) (by omega) (.inl rfl)
theorem rp1:A4 Tryz.prog 249 [agg (Bj KR)] (Et 82082):=A4.Bj fun t b n m hb hm=>S1 (B:=2002) hb hm (by omega) (.inr rp0)
theorem rp2:A4 Tryz.prog 249 [agg (Bj nN)] (Et 3285282):=A4.Bj fun t b n m hb hm=>S1 (B:=82082) hb hm (by omega) (.inr rp1)
theorem rE2:A4 Tryz.prog 201 [agg (Bj nN)] (Eu [Et 3285282,C4 .i64]):=VJ rf2 rd2 rp2
structure GV.VM (c:GV):Prop where
 Gz:c.Gz≤40000
 BG:c.BG≤40000
 Lh:0≤c.Lh∧c.Lh≤40000
 Hy:0≤c.Hy∧c.Hy≤40000
 Pn:0≤c.Pn∧c.Pn≤40000
 KC:0≤c.KC∧c.KC≤40000
theorem K4 {s:List UInt8} (h:named s=true):s.length≤32:=by unfold named at h;simp at h;omega
theorem UE {a b:Int} (ha:0≤a∧a≤40000) (hb:0≤b∧b≤40000):A4 prog 253 [agg [int a,int b]] (agg (Bj KR)):=by
 refine fo func253 rfl ⟨rfl,rfl⟩ fun M0 w0=>(Tr.seq (Tr.Ax (tp rfl (Ba rfl (Va rfl)) ?_)))
 refine Tl rfl rfl rfl rfl Ki JK (fun b1=> ?_)
 refine ap ?_
 refine Tr.seq (Tr.rx ?_)
 refine ay ?_
 refine xo rfl (fun _=>Bq (Jl ha) rfl rfl) ?_
 refine ay ?_
 refine xo rfl (fun _=>Bq (Jl hb) rfl rfl) (xo rfl (fun _=>AM (xs:=[.tmp 5,.tmp 8]) (rows:=[_,_]) rfl rfl underlying221 CX Ki rfl (by decide) ⟨⟨(by exact rfl),(Va rfl)⟩,⟨⟨(by exact rfl),(Va rfl)⟩,trivial⟩⟩ (by decide)) ?_)
 refine xo rfl (fun _=>AX rfl (QD (m:=2) (q:=q0) (by omega) (rc1 _ (by omega))) ⟨(Kf rfl),trivial⟩) ?_
 refine Cx.CT 0 rfl rfl (Ab rfl rfl (vl rfl) (Va rfl) CX rfl (by exact Nb rfl) rfl) ?_
 refine Cx.nil ⟨by kernel_rfl,?_⟩
 refine A9.done al1 (Fin.go (Tr.ret (Fin.CG rfl (AL.cell 0 rfl rfl DE CX rfl (Lr)) ?_)))
 · exact Lr
theorem Xo {c:GV} (hv:C9 c=true) (ht:c.VM):A4 prog 202 [agg (C1 c)] (agg (Bj nN)):=by
 refine fo func202 rfl ⟨rfl,rfl⟩ fun M0 w0=> ?_
 obtain ⟨hs0,hs1,gS,hsub,hnm,hkey,Wy,hk1,dG,sB,sC,sD,sE,hf0,hft,ht1,jY,Np,hap⟩:=Dt hv
 obtain ⟨g1,g2,g3,g4,g5,g6⟩:=ht
 have K3:=hnm
 unfold Es at K3
 rw [Bool.and_eq_true,Cj,decide_eq_true_eq] at K3
 obtain ⟨hall,nL⟩:=K3
 have Ns:=K4 gS
 have R5:=K4 hsub
 refine Tr.seq (Tr.Ax (tp rfl (Ba rfl (Va rfl)) ?_))
 refine Tl rfl rfl rfl rfl Ki JK (fun b1=> ?_)
 refine ap ?_
 refine a2 ?_
 refine Tr.block (Tr.EZ 223 4 (Tr.Ea [(1,_),(2,_)] ⟨ke rfl,ke rfl,trivial⟩ (fun k v=>[(4,int ((k:Nat):Int)),(3,Ay v (slice 4 (List.replicate k (Bj q0))))]) (fun k v=>Hp M0 w0 Jp ([BR 223 4 v,AA true b1 223 (([.int .i64 0,.slice none 0 0,.bool false,.slice none 0 0]:List Value).map is)])) (fun k:Nat=>k≤(c.names).length) (fun k:Nat=>(c.names).length-k) 0 (.slice none 0 0) (Nat.zero_le _) ⟨ke rfl,⟨_,rfl,Dv rfl⟩,trivial⟩ (fun _ _ h=>h) ?_))
 rintro k v Bk
 refine an ?_ ?_<;>intro h1 q1
 have Ao:k<(c.names).length:=AZ h1
 obtain ⟨s,An⟩:=at_ Ao
 have hsn:=K4 (QE (hall k (by omega)) An)
 refine ac ?_
 refine ap ?_
 refine tp rfl (AB rfl underlying74 JB (vl rfl) (vl rfl) (by omega) (by exact Ak (by assumption))) ?_
 refine tp rfl (Fv rfl HQ rfl) (tp rfl (Bq (QC (by omega)) rfl rfl) (tp rfl (AM (xs:=[.tmp 18]) (rows:=[_]) rfl rfl underlying221 CX Ki rfl (by decide) ⟨⟨(by exact rfl),(Va rfl)⟩,trivial⟩ (by decide)) ?_))
 refine TO.GR 0 rfl rfl (by decide) (DN rfl rfl rfl rfl underlying221 CX cJ Ki (Kb rfl) (Kf rfl) (B9 (by exact List.Mem.head _) (Ka rfl))) (fun v1=> ?_)
 refine ap ?_
 refine Ez 1 2 3 4 rfl ?_
 refine ac ?_
 exact Fin.Fu (k+1) v1 (⟨Ao,by omega⟩) ⟨⟨_,rfl,AS k⟩,⟨_,rfl,CE (by rw [I7])⟩,ke rfl,ke rfl,trivial⟩ (fun _ _ h=>h)
 have BQ:k=(c.names).length:=by have:=Aa h1;omega
 refine ac ?_
 refine Tr.seq (Tr.rx ?_)
 refine ay ?_
 refine xo rfl (fun _=>Bq (Jl (by omega)) rfl rfl) ?_
 refine ay ?_
 refine xo rfl (fun _=>Bq (QC (by omega)) rfl rfl) ?_
 refine ay ?_
 refine xo rfl (fun _=>Bq (QC (by omega)) rfl rfl) ?_
 refine ay ?_
 refine xo rfl (fun _=>Bq (UE g3 g4) rfl rfl) ?_
 refine ay ?_
 refine xo rfl (fun _=>Bq (Jl (by omega)) rfl rfl) ?_
 refine ay ?_
 refine xo rfl (fun _=>Bq (UE g5 g6) rfl rfl) ?_
 refine ay ?_
 refine xo rfl (fun _=>Bq (Jl (by omega)) rfl rfl) ?_
 refine ay ?_
 refine xo rfl (fun _=>Bq (Jl (by omega)) rfl rfl) ?_
 refine ay ?_
 refine xo rfl (fun _=>Bq (af) rfl rfl) ?_
 refine ay ?_
 refine xo rfl (fun _=>Bq (Jl (by omega)) rfl rfl) (xm rfl ?_)
 refine xo rfl (fun _=>AX rfl (QD (m:=c.names.length) (q:=q0) (by omega) (rc1 _ (by omega))) ⟨⟨_,rfl,Pr.le_trans (Ar _ _) (Pr.le_of_eq (by rw [BQ]))⟩,trivial⟩) ?_
 refine xo rfl (fun _=>AM (xs:=[.tmp 23,.tmp 26,.tmp 29,.tmp 32,.tmp 35,.tmp 38,.tmp 41,.tmp 44,.tmp 47,.tmp 50,.tmp 52]) (rows:=[Bj KR,Bj KR,Bj KR,Bj KR,Bj KR,Bj KR,Bj KR,Bj KR,Bj KR,Bj KR,Bj KR]) rfl rfl underlying221 CX Ki rfl (by decide) ⟨⟨(by exact rfl),VL.le (vl rfl) (Pr.le_trans (AY (qs:=Bj KR) ⟨Lr,Lr,Lr,LQ,trivial⟩) (Ae _))⟩,⟨⟨(by exact rfl),VL.le (vl rfl) (Pr.le_trans (AY (qs:=Bj KR) ⟨Lr,Lr,Lr,LQ,trivial⟩) (Ae _))⟩,⟨⟨(by exact rfl),VL.le (vl rfl) (Pr.le_trans (AY (qs:=Bj KR) ⟨Lr,Lr,Lr,LQ,trivial⟩) (Ae _))⟩,⟨⟨(by exact rfl),VL.le (vl rfl) (Ae _)⟩,⟨⟨(by exact rfl),VL.le (vl rfl) (Pr.le_trans (AY (qs:=Bj KR) ⟨Lr,Lr,Lr,LQ,trivial⟩) (Ae _))⟩,⟨⟨(by exact rfl),VL.le (vl rfl) (Ae _)⟩,⟨⟨(by exact rfl),VL.le (vl rfl) (Pr.le_trans (AY (qs:=Bj KR) ⟨Lr,Lr,Lr,LQ,trivial⟩) (Ae _))⟩,⟨⟨(by exact rfl),VL.le (vl rfl) (Pr.le_trans (AY (qs:=Bj KR) ⟨Lr,Lr,Lr,LQ,trivial⟩) (Ae _))⟩,⟨⟨(by exact rfl),VL.le (vl rfl) (Pr.le_trans (AY (qs:=Bj KR) ⟨Lr,Lr,Lr,LQ,trivial⟩) (Ae _))⟩,⟨⟨(by exact rfl),VL.le (vl rfl) (Pr.le_trans (AY (qs:=Bj KR) ⟨Lr,Lr,Lr,LQ,trivial⟩) (Ae _))⟩,⟨⟨(by exact rfl),VL.le (vl rfl) (Ae _)⟩,trivial⟩⟩⟩⟩⟩⟩⟩⟩⟩⟩⟩ (by decide)) ?_
 refine xo rfl (fun _=>AX rfl (QD (m:=11) (q:=KR) (by omega) (rc2 _ (by omega))) ⟨(Kf rfl),trivial⟩) ?_
 refine Cx.CT 1 rfl rfl (Ab rfl rfl (vl rfl) (Va rfl) CX rfl (by exact Nb rfl) rfl) ?_
 refine Cx.nil ⟨by kernel_rfl,?_⟩
 refine A9.done KP (Fin.go (DD 2 rfl (Tr.ret (Fin.CG rfl (AL.cell 1 rfl rfl DE CX rfl (Lr)) ?_))))
 · exact Lr
theorem VN {c:GV} (hv:C9 c=true) (ht:c.VM):A4 prog 160 [agg (C1 c)] (Eu [Et 3285282,C4 .i64]):=by
 refine fo func160 rfl ⟨rfl,rfl⟩ fun M0 w0=> ?_
 refine a2 ?_
 refine co rfl (Bq (Oo hv) rfl rfl) ?_
 refine an ?_ ?_<;>intro h1 q1
 exact absurd h1 (by decide)
 refine a2 ?_
 refine co rfl (Bq (Xo hv ht) rfl rfl) (co rfl (Bq (rE2) rfl rfl) ?_)
 refine ac ?_
 refine Tr.ret (Fin.Fz rfl (Ct.F5 _ _) rfl ?_ rfl ?_)
 · exact Lr
 · exact Lr
theorem aq {m:Nat} (hm:m≤100000000):A4 prog 161 [T_ m] (nM):=by
 refine fo func161 rfl ⟨rfl,rfl⟩ fun M0 w0=> ?_
 have hlr:(List.replicate m Om).length=m:=List.length_replicate
 refine a3 ?_
 refine Tr.block (Tr.BW [(0,_)] ⟨ke rfl,trivial⟩ (fun k:Nat=>[(4,int ((k:Nat):Int)),(3,ah)]) (fun k:Nat=>k≤((List.replicate m Om).length)) (fun k:Nat=>((List.replicate m Om).length)-k) 0 (Nat.zero_le _) ⟨ke rfl,⟨_,rfl,A5 _ (A2 (by omega) (Lr))⟩,trivial⟩ ?_)
 rintro k Bk
 refine ac ?_
 refine co rfl (CV rfl underlying198 (vl rfl)) ?_
 refine an ?_ ?_<;>intro h1 q1
 have Ao:k<((List.replicate m Om).length):=AZ h1
 have hkm:k<m:=by simpa using Ao
 refine a2 ?_
 refine co rfl (AB rfl underlying198 Jz (vl rfl) (vl rfl) (by omega) (Ho hkm)) (co rfl (Fv rfl ji rfl) (co rfl (Xn rfl underlying5 underlying225 (vl rfl)) (co rfl (Lw (by decide) rfl (VL.le (vl rfl) aj) (vl rfl)) (co rfl (ak rfl (vl rfl) (VL.le (vl rfl) (BH _ _))) ?_))))
 refine ac ?_
 refine Cr 0 3 4 rfl ?_
 refine ac ?_
 exact Fin.AG (k+1) ⟨Ao,by omega⟩ ⟨⟨_,rfl,AS k⟩,ke rfl,ke rfl,trivial⟩
 have BQ:k=((List.replicate m Om).length):=by have:=Aa h1;omega
 refine a2 ?_
 refine co rfl (VK rfl underlying225 underlying3 (vl rfl)) ?_
 refine a2 ?_
 · exact Lr
theorem Xp {c:GV} (hn:c.names.length≤1000):A4 prog 158 [agg (C1 c)] (agg (C1 c)):=by
 refine fo func158 rfl ⟨rfl,rfl⟩ fun M0 w0=>(Tr.seq (Tr.Ax ?_))
 refine TO.IA rfl rfl (by decide) rfl (Va rfl) (fun b1=> ?_)
 refine Tl rfl rfl rfl rfl z131 JI (fun b2=> ?_)
 refine ap ?_
 refine ap ?_
 refine TO.pad ?_
 refine TO.GR 0 rfl rfl (by decide) (DN rfl rfl rfl rfl underlying74 JB by9 z9 (Kf rfl) (vl rfl) (Bx (by exact List.Mem.head _) (vl rfl))) (fun v1=> ?_)
 refine ap ?_
 refine ap ?_
 refine Tr.drop 2 (Tr.ret (Fin.CG rfl (AL.cell 1 rfl rfl Em Cw rfl (Lr)) ?_))
 · exact AY ⟨Lr,Lr,Lr,Lr,Lr,Lr,Lr,Lr,Lr,Lr,Lr,Lr,Pr.le_trans (Ar _ _) (Pr.le_of_eq (by simp)),Lr,Lr,trivial⟩
abbrev Na (c:GV) (key s:Int):GV:=⟨c.Gz,c.Hg,c.F3,c.Lh,c.Hy,c.BG,c.Pn,c.KC,c.from_,c.E2,c.auth,c.path,c.names,key,s⟩
theorem Xq {c:GV} {key:Int} (hv:C9 (Na c 0 0)=true) (ht:(Na c 0 0).VM) (hk:0≤key∧key≤2147483648):A4 prog 111 [agg (C1 c),int key] (Cp.ex fun s:Int=>fact (0≤s∧s<4294967296) (Eu [agg (C1 (Na c key s)),int 0])):=by
 refine A4.of func111 rfl rfl (by exact Nb rfl) fun M0 w0=> ?_
 have hnn:c.names.length≤1000:=by have:=(Dt hv).nm;unfold Es at this;simp at this;omega
 refine Tr.seq (Tr.Ax ?_)
 refine TO.IA rfl rfl (by decide) rfl (Va rfl) (fun b1=> ?_)
 refine Tl rfl rfl rfl rfl z131 JI (fun b2=> ?_)
 refine tm rfl (TO.nil (Fin.go (Tr.seq (Tr.Ax (TO.rd 1 rfl rfl rfl (by decide) (AQ rfl Em Cw (vl rfl) rfl rfl) ?_)))))
 refine tp rfl (AX rfl (Xp (c:=c) hnn) ⟨ke rfl,trivial⟩) ?_
 refine TO.AR 1 rfl rfl rfl (vl rfl) (Va rfl) rfl Cw rfl rfl (TO.nil (Fin.go (Tr.seq (Tr.Ax (tp rfl (As (rows:=[]) rfl cA cB trivial rfl) (tp rfl (AE rfl Mm (vl rfl)) (TO.CT 1 rfl rfl (Ab rfl rfl (vl rfl) (Va rfl) WG rfl (by exact Nb rfl) rfl) (TO.nil (Fin.go (Tr.seq (Tr.seq (Tr.B_ (co rfl (Az 1 rfl (AQ rfl Em Cw (vl rfl) rfl rfl)) ?_)))))))))))))
 refine co rfl (AX rfl (Oo (c:=Na c 0 0) hv) ⟨ke rfl,trivial⟩) ?_
 refine co rfl (ki rfl rfl rfl rfl) (cm rfl ?_)
 refine Ch.cs 15 rfl ?_ ?_<;>intro h1 q1
 exact absurd h1 (by decide)
 refine II h1 rfl (cy h1 rfl (ki rfl rfl rfl rfl) (co rfl (SJ rfl rfl h1 rfl) (cm rfl ?_)))
 refine Ch.cs 19 rfl ?_ ?_<;>intro h2 q2
 exfalso;have:=q2;omega
 refine II h2 rfl (cy h2 rfl (ki rfl rfl rfl rfl) (co rfl (SJ rfl rfl h2 rfl) (Ch.nil (Fin.go (Ez 1 2 4 22 rfl ?_)))))
 refine Tr.cn rfl ?_ ?_<;>intro h3 q3
 exfalso;have:=q3;omega
 refine Tr.skip (Fin.go (Tr.seq (Tr.B_ (co rfl (Az 1 rfl (AQ rfl Em Cw (vl rfl) rfl rfl)) ?_))))
 refine co rfl (AX rfl (VN (c:=Na c 0 0) hv ht) ⟨ke rfl,trivial⟩) ?_
 refine cm rfl (co rfl (Aq rfl (vl rfl) rfl) (co rfl (Aq rfl (vl rfl) rfl) (cm rfl (cm rfl (Ch.nil (Fin.go (Tr.seq (Tr.Ax (tm rfl (tm rfl (tp rfl (AX rfl (A4.Et fun m hm=>aq (by omega)) ⟨ke rfl,trivial⟩) ?_)))))))))))
 refine TO.ex 31 rfl (fun z31=>TO.fact 31 rfl fun sF=> ?_)
 refine tp rfl (As (rows:=[(0,[_]),(1,[_])]) rfl cA cB ⟨⟨rfl,(Vo rfl)⟩,⟨⟨rfl,(Vo rfl)⟩,trivial⟩⟩ rfl) (tp rfl (AE rfl Mm (vl rfl)) (TO.CT 1 rfl rfl (Ab rfl rfl (vl rfl) (Va rfl) WG rfl (by exact Nb rfl) rfl) (TO.nil (Fin.go (CL 2 4 rfl (Tr.seq (Tr.Ax (TO.rd 1 rfl rfl rfl (by decide) (AQ rfl Em Cw (vl rfl) rfl rfl) (TO.AR 0 rfl rfl rfl (vl rfl) (Va rfl) rfl Cw rfl rfl (tm rfl (TO.nil (Fin.go (Tr.drop 1 (Tr.ret ?_))))))))))))))
 refine Fin.DK rfl (AL.cell 0 rfl rfl Em Cw rfl (Lr)) (AL.tmp rfl (Lr)) ?_
 · exact A5 z31 (A2 sF (Lr))
abbrev JQ (name:List UInt8) (a b id to key s:Int):GV:=⟨id,[114,111,111,116],name,a,b,id,3,0,0,to,false,0,[name],key,s⟩
abbrev Fx (name:List UInt8) (a b id to key s:Int):DO:=⟨a,b,id,[JQ name a b id to key s]⟩
abbrev dH (name:List UInt8) (a b id to key:Int):Pr:=Cp.ex fun s:Int=>fact (0≤s∧s<4294967296) (agg (BC (Fx name a b id to key s)))
abbrev anyS:Pr:=Cp.ex fun l:List UInt8=>str l
abbrev VO:List Pr:=[C4 .i64,C4 .i64,C4 .i64]
abbrev LR:List Pr:=[anyS,C4 .i64,C4 .i64,(Cp.ex fun m:Nat=>slice 3 (List.replicate m VO)),C4 .i64]
theorem Xr   :A4 prog 66 [] (agg [int 5,int 2048]):=by
 refine fo func66 rfl ⟨rfl,rfl⟩ fun M0 w0=>(Tr.seq (Tr.Ax ?_))
 refine Tl rfl rfl rfl rfl z24 DZ (fun b1=> ?_)
 refine ap ?_
 refine ap ?_
 refine Tr.ret (Fin.CG rfl (AL.cell 0 rfl rfl CM C3 rfl (Lr)) ?_)
 · exact Lr
theorem sG   :A4 prog 73 [] (agg [int 7,int 256]):=by
 refine fo func73 rfl ⟨rfl,rfl⟩ fun M0 w0=>(Tr.seq (Tr.Ax ?_))
 refine Tl rfl rfl rfl rfl z24 DZ (fun b1=> ?_)
 refine ap ?_
 refine ap ?_
 refine Tr.ret (Fin.CG rfl (AL.cell 0 rfl rfl CM C3 rfl (Lr)) ?_)
 · exact Lr
theorem S2 {name:List UInt8} {a b id to key:Int} (hv:C9 (JQ name a b id to 0 0)=true) (ht:(JQ name a b id to 0 0).VM) (hk:0≤key∧key≤2147483648):A4 prog 65 [str name,agg [int a,int b],int id,int key,int to] (dH name a b id to key):=by
 refine fo func65 rfl ⟨rfl,rfl⟩ fun M0 w0=>(Tr.seq (Tr.Ax (tp rfl (Ba rfl (Va rfl)) ?_)))
 refine Tl rfl rfl rfl rfl JG IB (fun b1=> ?_)
 refine ap ?_
 refine ap ?_
 refine tp rfl (As (rows:=[(0,[_]),(1,[_]),(2,[_]),(3,_),(4,[_]),(5,_),(7,[_]),(10,[_])]) rfl j4 JI ⟨⟨rfl,(Vo rfl)⟩,⟨⟨rfl,(Vo rfl)⟩,⟨⟨rfl,(Vo rfl)⟩,⟨⟨rfl,(Va rfl)⟩,⟨⟨rfl,(Vo rfl)⟩,⟨⟨rfl,(Va rfl)⟩,⟨⟨rfl,(Vo rfl)⟩,⟨⟨rfl,⟨_,rfl,Pr.le_trans (BT _ _) (AU _)⟩⟩,trivial⟩⟩⟩⟩⟩⟩⟩⟩ rfl) (TO.re 20 (agg (C1 (JQ name a b id to 0 0))) rfl (Pr.le_of_eq rfl) ?_)
 refine Tl rfl rfl rfl rfl z131 JI (fun b2=> ?_)
 refine ap ?_
 refine EM 2 3 6 10 11 rfl ?_
 refine ap ?_
 refine tp rfl (Dc (Xq (c:=JQ name a b id to 0 0) hv ht hk) rfl rfl rfl) ?_
 refine TO.ex 24 rfl (fun z24=>TO.fact 24 rfl fun sH=> ?_)
 refine ap ?_
 refine ap ?_
 refine tp rfl (As (rows:=[(0,_),(1,[_]),(2,[_])]) rfl jl IB ⟨⟨rfl,(Va rfl)⟩,⟨⟨rfl,(Vo rfl)⟩,⟨⟨rfl,⟨_,rfl,Pr.le_trans (BT _ _) (AU _)⟩⟩,trivial⟩⟩⟩ rfl) ?_
 refine ap ?_
 refine Tr.drop 0 (DD 10 rfl (Tr.ret (Fin.CG rfl (AL.cell 0 rfl rfl Ew Be rfl (Lr)) ?_)))
 · exact A5 z24 (A2 sH (Lr))
def Xs (s:DS) (l:List (List UInt8)):List UInt8:=(l[(s.val l.length).toNat]?).getD []
theorem Rm {b:Nat} {s:DS} {l:List (List UInt8)} (hl:l≠[]) (kU:l.length≤1000000000):BE prog 68 [ptr b 0,RM l] (str (Xs s l)) (E_ b s) (fun _=>E_ b s.CW):=by
 refine BE.of func68 rfl rfl (by exact Nb rfl) fun M0 w0 S rs M1 w1=> ?_
 have Q1:1≤(l.length:Int):=by have:=List.length_pos_iff.2 hl;omega
 have hv:=s.Dk Q1
 obtain ⟨x,hx⟩:=at_ (l:=l) (k:=(s.val l.length).toNat) (by omega)
 refine ac ?_
 refine ap ?_
 refine TO.FF 0 rfl rfl (by decide) (AV rfl rfl (by decide) rfl (Bu (by omega) (by omega)) ⟨ke rfl,ke rfl,trivial⟩) (tp rfl (AB rfl underlying74 JB (vl rfl) (vl rfl) (by omega) (Du hx)) ?_)
 refine ap ?_
 refine Tr.ret (Fin.Ds [] rfl (AL.tmp rfl (Lr)) ?_ (fun _ _ _ _=>rfl))
 · refine Pr.le_of_eq ?_;unfold Xs;rw [hx];rfl
abbrev VP:List Pr:=[C4 .i64,C4 .i64]
theorem au {r:List Pr} {m:Nat} {i:Int} (h:0≤i∧i<(m:Nat)):(List.replicate m r)[i.toNat]? =some r:=by rw [List.getElem?_replicate,if_pos (by omega)]
theorem Xt {b:Nat} {s:DS} {name:List UInt8}  :BE prog 67 [ptr b 0,str name] (agg LR) (E_ b s) (fun _=>IL 101 b):=by
 refine BE.of func67 rfl rfl (by exact Nb rfl) fun M0 w0 S rs M1 w1=> ?_
 have hv3:=s.CW.CW.CW.Dk (n:=3) (by omega)
 refine Tr.seq (Tr.Ax ?_)
 refine Tl rfl rfl rfl rfl z107 WE (fun b1=> ?_)
 refine TO.nil (Fin.go (Tr.seq (Tr.Ax (tm rfl (tm rfl (TO.FF 1 rfl rfl (by decide) (AV rfl rfl (by decide) rfl (Bu (by omega) (by omega)) ⟨ke rfl,ke rfl,trivial⟩) (tp rfl (ki rfl rfl rfl rfl) (tm rfl (TO.FF 1 rfl rfl (by decide) (AV rfl rfl (by decide) rfl (Bu (by omega) (by omega)) ⟨ke rfl,ke rfl,trivial⟩) (tp rfl (ki rfl rfl rfl rfl) (tp rfl (As (rows:=[(0,[_]),(1,[_]),(2,[_])]) rfl j0 WE ⟨⟨rfl,(Vo rfl)⟩,⟨⟨rfl,(Vo rfl)⟩,⟨⟨rfl,(Vo rfl)⟩,trivial⟩⟩⟩ rfl) ?_)))))))))))
 refine Tl rfl rfl rfl rfl z107 WE (fun b2=> ?_)
 refine TO.AR 0 rfl rfl rfl (vl rfl) (Va rfl) rfl LI rfl rfl (TO.nil (Fin.go (Tr.seq (Tr.Ax (tm rfl (TO.FF 2 rfl rfl (by decide) (AV rfl rfl (by decide) rfl (Bu (by omega) (by omega)) ⟨ke rfl,ke rfl,trivial⟩) (tm rfl (TO.nil (Fin.go (Ez 0 4 5 6 rfl (Tr.seq (Tr.seq (Tr.Ax ?_)))))))))))))
 refine tm rfl (TO.FF 2 rfl rfl (by decide) (AV rfl rfl (by decide) rfl (Bu (by omega) (by omega)) ⟨ke rfl,ke rfl,trivial⟩) ?_)
 refine tp rfl (Cu rfl (vl rfl) (vl rfl) ?hin) ?_;case hin=>unfold GP;omega
 refine tm rfl (TO.nil (Fin.go (Tr.block (Tr.GQ 0 [anyS,C4 .i64,C4 .i64,Ay (.slice none 0 0) (slice 3 (List.replicate 0 VO)),is (.int .i64 0)] rfl ⟨A5 _ (Lr),BH _ _,BH _ _,Dv rfl,Lr,trivial⟩ (Tr.EZ 152 3 (Tr.G8 [(0,_),(4,_),(5,_)] ⟨ke rfl,ke rfl,ke rfl,trivial⟩ (fun (k:Int) (m:Nat) (s2:DS) v=>[(7,int k),(6,C4 .i64)]) (fun (k:Int) (m:Nat) (s2:DS) v=>Hp M0 w0 S (BR 152 3 v::AA true b2 107 [anyS,C4 .i64,C4 .i64,Ay v (slice 3 (List.replicate m VO)),is (.int .i64 0)]::AA true b1 107 (([.string (ByteArray.mk #[]),.int .i64 0,.int .i64 0,.slice none 0 0,.int .i64 0]:List Value).map is)::E_ b s2::Bc M1 w1::rs)) (fun (k:Int) (m:Nat) (s2:DS)=>0≤k∧k+m≤3∧1≤k+m) (fun (k:Int) (m:Nat) (s2:DS)=>k.toNat) (_) (0) (_) (.slice none 0 0) (⟨by omega,by omega,by omega⟩) ⟨ke rfl,⟨_,rfl,BH _ _⟩,trivial⟩ (fun _ _ h=>h) ?_))))))
 rintro k m s2 v ⟨Wy,hk1,hk2⟩
 refine Tr.seq (Tr.seq (Tr.B_ (cm rfl (co rfl (ki rfl rfl rfl rfl) (Ch.nil (Fin.go ?_))))))
 refine Tr.cn rfl ?_ ?_<;>intro h1 q1
 have YW:0<k:=of_decide_eq_true h1
 have hv6:=s2.Dk (n:=6) (by omega)
 refine Tr.skip (Fin.go (Tr.seq (Tr.block (Tr.seq (Tr.Ax (tp rfl (As (rows:=[(0,[_])]) rfl Ny DZ ⟨⟨rfl,(Vo rfl)⟩,trivial⟩ rfl) (tp rfl (As (rows:=[(0,[_])]) rfl Ny DZ ⟨⟨rfl,(Vo rfl)⟩,trivial⟩ rfl) (tp rfl (As (rows:=[(0,[_]),(1,[_])]) rfl Ny DZ ⟨⟨rfl,(Vo rfl)⟩,⟨⟨rfl,(Vo rfl)⟩,trivial⟩⟩ rfl) (tp rfl (As (rows:=[(0,[_]),(1,[_])]) rfl Ny DZ ⟨⟨rfl,(Vo rfl)⟩,⟨⟨rfl,(Vo rfl)⟩,trivial⟩⟩ rfl) (tp rfl (As (rows:=[(0,[_])]) rfl Ny DZ ⟨⟨rfl,(Vo rfl)⟩,trivial⟩ rfl) (tp rfl (As (rows:=[(0,[_]),(1,[_])]) rfl Ny DZ ⟨⟨rfl,(Vo rfl)⟩,⟨⟨rfl,(Vo rfl)⟩,trivial⟩⟩ rfl) (tp rfl (AM (xs:=[.tmp 26,.tmp 27,.tmp 28,.tmp 29,.tmp 30,.tmp 31]) (rows:=[VP,VP,VP,VP,VP,VP]) rfl rfl underlying114 C3 z24 rfl (by decide) ⟨⟨(by exact rfl),VL.le (vl rfl) (Pr.le_trans (AY (qs:=VP) ⟨BH _ _,BH _ _,trivial⟩) (Ae _))⟩,⟨⟨(by exact rfl),VL.le (vl rfl) (Pr.le_trans (AY (qs:=VP) ⟨BH _ _,BH _ _,trivial⟩) (Ae _))⟩,⟨⟨(by exact rfl),VL.le (vl rfl) (Pr.le_trans (AY (qs:=VP) ⟨BH _ _,BH _ _,trivial⟩) (Ae _))⟩,⟨⟨(by exact rfl),VL.le (vl rfl) (Pr.le_trans (AY (qs:=VP) ⟨BH _ _,BH _ _,trivial⟩) (Ae _))⟩,⟨⟨(by exact rfl),VL.le (vl rfl) (Pr.le_trans (AY (qs:=VP) ⟨BH _ _,BH _ _,trivial⟩) (Ae _))⟩,⟨⟨(by exact rfl),VL.le (vl rfl) (Pr.le_trans (AY (qs:=VP) ⟨BH _ _,BH _ _,trivial⟩) (Ae _))⟩,trivial⟩⟩⟩⟩⟩⟩ (by decide)) ?_))))))))))))
 refine tm rfl (TO.FF 3 rfl rfl (by decide) (AV rfl rfl (by decide) rfl (Bu (by omega) (by omega)) ⟨ke rfl,ke rfl,trivial⟩) ?_)
 refine tp rfl (AB rfl underlying114 C3 (Kf rfl) (vl rfl) (by omega) (show (List.replicate 6 VP)[_]? =_ from au hv6)) ?_
 refine tp rfl (AO rfl CM C3 (vl rfl) rfl rfl) ?_
 refine Tl rfl rfl rfl rfl z24 DZ (fun b3=> ?_)
 refine TO.AR 0 rfl rfl rfl (vl rfl) (Va rfl) rfl C3 rfl rfl (TO.freeze 0 8 rfl rfl (TO.nil (Fin.go (GS 0 4 5 6 7 8 rfl (Tr.seq (Tr.Ax (tp rfl (AE rfl PK (vl rfl)) (TO.rd 1 rfl rfl rfl (by decide) (Bg rfl WC (vl rfl) rfl) (tp rfl (AO rfl CM C3 (vl rfl) rfl rfl) (tm rfl (tp rfl (As (rows:=[(0,_),(1,[_])]) rfl j6 j7 ⟨⟨rfl,(Va rfl)⟩,⟨⟨rfl,(Vo rfl)⟩,trivial⟩⟩ rfl) (tp rfl (AM (xs:=[.tmp 41]) (rows:=[VO]) rfl rfl underlying105 WH z152 rfl (by decide) ⟨⟨(by exact rfl),VL.le (vl rfl) (Pr.le_trans (Pr.le_of_eq (show agg _=agg VO from rfl)) (Ae _))⟩,trivial⟩ (by decide)) ?_))))))))))))
 refine TO.GR 0 rfl rfl (by decide) (DN rfl rfl rfl rfl underlying105 WH j5 z152 (Kb rfl) (Kf rfl) (B9 (by exact List.Mem.head _) (Ka rfl))) (fun v1=> ?_)
 refine tp rfl (AE rfl PK (vl rfl)) (TO.CT 1 rfl rfl (Ab rfl rfl (vl rfl) (Vo rfl) jz rfl (by exact Nb rfl) rfl) (TO.nil (Fin.go (EM 0 4 5 6 7 rfl (Tr.Ax (tm rfl (tp rfl (Lx rfl (vl rfl) (VL.le (vl rfl) (BH _ _))) (tm rfl (tp rfl (AM (xs:=[.const (.int .i64 (5)),.const (.int .i64 (30)),.const (.int .i64 (0)),.const (.int .i64 (100))]) (rows:=[[_],[_],[_],[_]]) rfl rfl underlying22 Cg z3 rfl (by decide) ⟨⟨(by exact rfl),(Vo rfl)⟩,⟨⟨(by exact rfl),(Vo rfl)⟩,⟨⟨(by exact rfl),(Vo rfl)⟩,⟨⟨(by exact rfl),(Vo rfl)⟩,trivial⟩⟩⟩⟩ (by decide)) ?_)))))))))
 refine TO.FF 3 rfl rfl (by decide) (AV rfl rfl (by decide) rfl (Q6 (l:=[5,30,0,100]) (by simp) (by simp)) ⟨ke rfl,(Kf rfl),trivial⟩) ?_
 refine tp rfl (Lx rfl (vl rfl) (VL.le (vl rfl) (BH _ _))) (tm rfl (TO.nil (Fin.block (Fin.go (Tr.B_ (cm rfl (je rfl rfl rfl rfl (by omega) (cm rfl (Ch.nil (Fin.GQ 1 [anyS,C4 .i64,C4 .i64,Ay v1 (slice 3 (List.replicate (m+1) VO)),is (.int .i64 0)] rfl ⟨Lr,Lr,Lr,CE (by rw [I7]),Lr,trivial⟩ (Fin.Fc (k-1) (m+1) (_) v1 (⟨⟨by omega,by omega,by omega⟩,by omega⟩) ⟨⟨_,rfl,int_eq (by omega)⟩,ke rfl,ke rfl,ke rfl,ke rfl,trivial⟩ (fun _ _ h=>h))))))))))))
 have YW:¬0<k:=of_decide_eq_false h1
 refine Tr.exit (Fin.Ai (Fin.Ai (Fin.BA (Fin.go (Tr.seq (Tr.Jv mixed [none,some (0,1,false,0),none,none,none,none,none,some (0,3,true,0),none,none,some (0,1,true,0)] (by kernel_rfl) (xo rfl (fun _=>AE rfl PK (vl rfl)) (Ev 1 rfl rfl (Bg rfl WC (vl rfl) rfl) ?_))))))))
 refine xo rfl (fun _=>AB rfl underlying105 WH (Kb rfl) (vl rfl) (by omega) (Ho (k:=0) (by omega))) ?_
 refine xo rfl (fun _=>La rfl Y4 rfl rfl) (xo rfl (fun _=>Fv rfl Ce rfl) (xm rfl (xo rfl (fun _=>AM (xs:=[.const (.int .i64 (50)),.const (.int .i64 (300)),.const (.int .i64 (0)),.const (.int .i64 (3000))]) (rows:=[[_],[_],[_],[_]]) rfl rfl underlying22 Cg z3 rfl (by decide) ⟨⟨(by exact rfl),(Vo rfl)⟩,⟨⟨(by exact rfl),(Vo rfl)⟩,⟨⟨(by exact rfl),(Vo rfl)⟩,⟨⟨(by exact rfl),(Vo rfl)⟩,trivial⟩⟩⟩⟩ (by decide)) ?_)))
 refine Cx.ef 3 rfl rfl (by decide) (AV rfl rfl (by decide) rfl (Q6 (l:=[50,300,0,3000]) (by simp) (by simp)) ⟨ke rfl,(Kf rfl),trivial⟩) ?_
 refine xo rfl (fun _=>Lx rfl (vl rfl) (VL.le (vl rfl) (BH _ _))) (xo rfl (fun _=>AE rfl Yr (vl rfl)) (Cx.CT 1 rfl rfl (Ab rfl rfl (vl rfl) (Vo rfl) Cg rfl (by exact Nb rfl) rfl) ?_))
 refine Cx.nil ⟨rfl,?_⟩
 refine A9.done (CB.cons (CB.cons (CB.cons (CB.cons (CB.cons (CB.map _)))))) (Fin.go (CL 4 5 rfl (Tr.seq (Tr.Ax (TO.rd 1 rfl rfl rfl (by decide) (AQ rfl WD LI (vl rfl) rfl rfl) (TO.AR 2 rfl rfl rfl (vl rfl) (Va rfl) rfl LI rfl rfl (TO.nil (Fin.go (Tr.ret (Fin.DY 3 _ rfl rfl (Fin.Ds [_,_,_] rfl (AL.cell 2 rfl rfl WD LI rfl (Lr)) ?_ (fun _ _ _ _=>rfl))))))))))))
 · exact AY ⟨Lr,Lr,Lr,Pr.le_trans (Ar _ _) (A5 m (Lr)),Lr,trivial⟩
def Fy:List (List UInt8):=[[97,112,112],[100,98],[119,101,98]]
def Lp:List (List Int):=[[10,8,2],[8,2],[2,10,8,3]]
def Jm (i:Int):List Int:=(Lp[i.toNat]?).getD []
theorem av {i:Int} (h:0≤i∧i<3):(Lp.map fun l=>[ints l])[i.toNat]? =some [ints (Jm i)]:=by
 have hl:i.toNat<Lp.length:=by show i.toNat<3;omega
 unfold Jm
 rw [List.getElem?_map,List.getElem?_eq_getElem hl];rfl
theorem Rn {i:Int} (h:0≤i∧i<3):Jm i∈Lp:=by
 have hl:i.toNat<Lp.length:=by show i.toNat<3;omega
 unfold Jm
 rw [List.getElem?_eq_getElem hl];exact List.getElem_mem hl
structure S3 (i:Nat) (e:BJ):Prop where
 name:Fy[i]? =some e.name
 least:e.least=1
 most:e.most=3∨e.most=4
 AF:e.AF∈Lp∨∃l∈Lp,e.AF=14::l
 ids:∃s:Int,(0≤s∧s<4294967296)∧e.ids=[Fx e.name 5 2048 (100+(i:Nat)) 901 1 s]
 anchors:e.anchors=[1]
 hashes:e.hashes=[2,3]
def Xu (es:List BJ):Prop:=∀(i:Nat) e,es[i]? =some e→S3 i e
theorem Ro {es:List BJ} {e:BJ} (h:Xu es) (he:S3 es.length e):Xu (es++[e]):=by
 intro i x hx
 rcases Nat.lt_or_ge i es.length with hi|hi
 · rw [List.getElem?_append_left hi] at hx;exact h i x hx
 ·
  rcases Nat.eq_or_lt_of_le hi with hi|hi
  · subst hi;rw [List.getElem?_append_right (Nat.le_refl _),Nat.sub_self] at hx;simp at hx;subst hx;exact he
  · rw [List.getElem?_eq_none (by simp;omega)] at hx;cases hx
theorem QF {nm:List UInt8} {k:Nat} (h:Fy[k]? =some nm) {s:Int} (hs:0≤s∧s<4294967296) {key:Int} (hk:0≤key∧key≤2):C9 (JQ nm 5 2048 (100+(k:Nat)) 901 key s)=true:=by
 have hlt:k<3:=Bb h
 have hn:named nm=true:=by
  have hm:=List.mem_of_getElem? h
  revert hm;unfold Fy;intro hm;simp at hm
  rcases hm with rfl|rfl|rfl<;>decide
 refine UC ⟨?_,?_,by show named [114,111,111,116]=true;decide,hn,?_,by show E4 5 2048 2=true;decide+kernel,?_,?_,by show E4 3 0 1=true;decide+kernel,hk.1,?_,hs.1,hs.2,by show (0:Int)≤0;omega,by show (0:Int)≤901;omega,by show (901:Int)≤40000;omega,by show (0:Int)≤0;omega,by show (0:Int)≤8;omega,.inr rfl⟩
 · show 0≤(100:Int)+(k:Nat);omega
 · show (100:Int)+(k:Nat)≤_;omega
 ·
  show Es [nm]=true
  unfold Es;rw [Bool.and_eq_true];refine ⟨Cj.2 fun j hj=> ?_,by simp⟩
  have:j=0:=by simp at hj;omega
  subst this;unfold nameAt;simp [hn]
 · show 0≤(100:Int)+(k:Nat);omega
 · show (100:Int)+(k:Nat)≤_;omega
 · show key≤_;omega
theorem Oq {nm:List UInt8} {k:Nat} (h:k<3):(JQ nm 5 2048 (100+(k:Nat)) 901 0 0).VM:=
 ⟨by show (100:Int)+(k:Nat)≤40000;omega,by show (100:Int)+(k:Nat)≤40000;omega,⟨by show (0:Int)≤5;omega,by show (5:Int)≤40000;omega⟩,⟨by show (0:Int)≤2048;omega,by show (2048:Int)≤40000;omega⟩,⟨by show (0:Int)≤3;omega,by show (3:Int)≤40000;omega⟩,⟨by show (0:Int)≤0;omega,by show (0:Int)≤40000;omega⟩⟩
theorem Xv {β:Type} {l:List β} {n k:Nat} {x:β} (h:(l.take n)[k]? =some x):l[k]? =some x:=by
 have hlt:=Bb h
 rw [List.length_take] at hlt
 rw [List.getElem?_take,if_pos (by omega)] at h;exact h
theorem Xw (i:Int):(Jm i).length≤4:=by
 unfold Jm
 cases h:Lp[i.toNat]? with
 |none=>show 0≤4;omega
 |some l=>
  have hm:=List.mem_of_getElem? h
  show l.length≤4
  unfold Lp at hm;simp at hm
  rcases hm with rfl|rfl|rfl<;>simp
theorem gT (s:DS):s.of [3,3,4]=3∨s.of [3,3,4]=4:=by have:=s.dm (l:=[3,3,4]) (by simp);simp at this;exact this
abbrev Qa:List Pr:=[C4 .i64,C4 .i64]
abbrev sI (es:List BJ):Pr:=agg [slice 9 (es.map Aj),(Cp.ex fun m:Nat=>slice 2 (List.replicate m Qa)),(Cp.ex fun m:Nat=>slice 5 (List.replicate m LR))]
theorem az {b:Nat} {s:DS}  :BE prog 13 [ptr b 0] (Cp.ex fun es:List BJ=>fact ((2≤es.length∧es.length≤3)∧Xu es) (sI es)) (E_ b s) (fun _=>IL 101 b):=by
 refine BE.of func13 rfl rfl (by exact Nb rfl) fun M0 w0 S rs M1 w1=> ?_
 have HG:=s.Dk (n:=2) (by omega)
 have Mz:(Fy.take (2+s.val 2).toNat).length=(2+s.val 2).toNat:=by rw [List.length_take];show min _ 3=_;omega
 refine Tr.seq (Tr.Ax ?_)
 refine Tl rfl rfl rfl rfl z41 eF (fun b1=> ?_)
 refine TO.nil (Fin.go (Tr.seq (Tr.Ax ?_)))
 refine Tl rfl rfl rfl rfl z41 eF (fun b2=> ?_)
 refine TO.nil (Fin.go (Tr.seq (Tr.Ax (tp rfl (AM (xs:=[.const (.string ⟨[97,112,112].toArray⟩),.const (.string ⟨[100,98].toArray⟩),.const (.string ⟨[119,101,98].toArray⟩)]) (rows:=[[_],[_],[_]]) rfl rfl underlying74 JB z9 rfl (by decide) ⟨⟨(by exact rfl),(Vo rfl)⟩,⟨⟨(by exact rfl),(Vo rfl)⟩,⟨⟨(by exact rfl),(Vo rfl)⟩,trivial⟩⟩⟩ (by decide)) ?_))))
 refine tm rfl (TO.FF 2 rfl rfl (by decide) (AV rfl rfl (by decide) rfl (Bu (by omega) (by omega)) ⟨ke rfl,ke rfl,trivial⟩) ?_)
 refine tp rfl (Cu rfl (vl rfl) (vl rfl) ?hin) ?_;case hin=>unfold GP;omega
 refine tp rfl (Cn rfl underlying74 JB (Kf rfl) (vl rfl) (by omega) (by simp;omega)) ?_
 refine tm rfl (TO.nil (Fin.go (Tr.seq (Tr.seq (Tr.B_ (cm rfl (co rfl (CV rfl underlying74 (vl rfl)) (cm rfl (Ch.nil (Fin.go (Tr.block ?_)))))))))))
 refine Tr.re 16 rfl (Pr.le_of_eq (by show slice 1 (List.take _ (Fy.map fun t=>[str t]))=_;rw [←List.map_take]):Pr.le _ (RM (Fy.take (2+s.val 2).toNat))) ?_
 refine Tr.re 17 rfl (int_eq (by simp;rfl):Pr.le _ (int (((Fy.take (2+s.val 2).toNat).length:Nat):Int))) ?_
 refine Tr.GQ 0 [Ay (.slice none 0 0) (slice 9 (([]:List BJ).map Aj)),is (.slice none 0 0),is (.slice none 0 0)] rfl ⟨Dv rfl,Lr,Lr,trivial⟩ (Tr.EZ 32 9 (Tr.G8 [(0,_),(2,_),(3,_),(4,_),(16,_),(17,_)] ⟨ke rfl,ke rfl,ke rfl,ke rfl,ke rfl,ke rfl,trivial⟩ (fun (k:Nat) (es:List BJ) (s2:DS) v=>[(18,int ((k:Nat):Int))]) (fun (k:Nat) (es:List BJ) (s2:DS) v=>Hp M0 w0 S (BR 32 9 v::AA true b2 41 [Ay v (slice 9 (es.map Aj)),is (.slice none 0 0),is (.slice none 0 0)]::AA true b1 41 (([.slice none 0 0,.slice none 0 0,.slice none 0 0]:List Value).map is)::E_ b s2::Bc M1 w1::rs)) (fun (k:Nat) (es:List BJ) (s2:DS)=>k≤(2+s.val 2).toNat∧es.length=k∧Xu es) (fun (k:Nat) (es:List BJ) (s2:DS)=>(2+s.val 2).toNat-k) (0) ([]) (_) (.slice none 0 0) (⟨by omega,rfl,fun i e h=>by simp at h⟩) ⟨ke rfl,trivial⟩ (fun _ _ h=>h) ?_))
 rintro k es s2 v ⟨hk1,hk2,YW⟩
 refine Tr.seq (Tr.B_ (co rfl (ki rfl rfl rfl rfl) (Ch.nil (Fin.go (Tr.seq ?_)))))
 refine Tr.cn rfl ?_ ?_<;>intro h1 q1
 have hkn:k<(2+s.val 2).toNat:=by have:=GC.IE h1;rw [Mz] at this;omega
 obtain ⟨nm,hnm⟩:=at_ (l:=Fy.take (2+s.val 2).toNat) (k:=k) (by omega)
 have K3:Fy[k]? =some nm:=Xv hnm
 have IV:=Xw (s2.CW.val 3)
 have uF:k<3:=Bb K3
 have hvs:=s2.CW.Dk (n:=3) (by omega)
 have hof:=gT s2
 refine Tr.skip (Fin.go (Tr.seq (Tr.block (Tr.seq (Tr.B_ (cm rfl (co rfl (AB rfl underlying74 JB (vl rfl) (vl rfl) (by omega) (Ak hnm)) (co rfl (Fv rfl HQ rfl) (cm rfl (cm rfl (Ch.nil (Fin.go (Tr.seq (Tr.pad ?_))))))))))))))
 refine Tr.Jv mixed [none,none,none,some (0,4,true,0),none,none,none,none,none,some (0,4,true,0),none,none,none,some (0,4,true,0),none,none,none,some (0,4,true,0),none,some (0,0,true,7),some (7,0,true,7)] (by kernel_rfl) (xm rfl (xm rfl (xo rfl (fun _=>AM (xs:=[.const (.int .i64 (3)),.const (.int .i64 (3)),.const (.int .i64 (4))]) (rows:=[[_],[_],[_]]) rfl rfl underlying22 Cg z3 rfl (by decide) ⟨⟨(by exact rfl),(Vo rfl)⟩,⟨⟨(by exact rfl),(Vo rfl)⟩,⟨⟨(by exact rfl),(Vo rfl)⟩,trivial⟩⟩⟩ (by decide)) ?_)))
 refine Cx.ef 4 rfl rfl (by decide) (AV rfl rfl (by decide) rfl (Q6 (l:=[3,3,4]) (by simp) (by simp)) ⟨ke rfl,(Kf rfl),trivial⟩) ?_
 refine xo rfl (fun _=>AM (xs:=[.const (.int .i64 (10)),.const (.int .i64 (8)),.const (.int .i64 (2))]) (rows:=[[_],[_],[_]]) rfl rfl underlying22 Cg z3 rfl (by decide) ⟨⟨(by exact rfl),(Vo rfl)⟩,⟨⟨(by exact rfl),(Vo rfl)⟩,⟨⟨(by exact rfl),(Vo rfl)⟩,trivial⟩⟩⟩ (by decide)) ?_
 refine xo rfl (fun _=>AM (xs:=[.const (.int .i64 (8)),.const (.int .i64 (2))]) (rows:=[[_],[_]]) rfl rfl underlying22 Cg z3 rfl (by decide) ⟨⟨(by exact rfl),(Vo rfl)⟩,⟨⟨(by exact rfl),(Vo rfl)⟩,trivial⟩⟩ (by decide)) ?_
 refine xo rfl (fun _=>AM (xs:=[.const (.int .i64 (2)),.const (.int .i64 (10)),.const (.int .i64 (8)),.const (.int .i64 (3))]) (rows:=[[_],[_],[_],[_]]) rfl rfl underlying22 Cg z3 rfl (by decide) ⟨⟨(by exact rfl),(Vo rfl)⟩,⟨⟨(by exact rfl),(Vo rfl)⟩,⟨⟨(by exact rfl),(Vo rfl)⟩,⟨⟨(by exact rfl),(Vo rfl)⟩,trivial⟩⟩⟩⟩ (by decide)) ?_
 refine xo rfl (fun _=>AM (xs:=[.tmp 27,.tmp 28,.tmp 29]) (rows:=[[_],[_],[_]]) rfl rfl underlying102 GU z22 rfl (by decide) ⟨⟨(by exact rfl),⟨_,rfl,Pr.le_trans (BT _ _) (AU _)⟩⟩,⟨⟨(by exact rfl),⟨_,rfl,Pr.le_trans (BT _ _) (AU _)⟩⟩,⟨⟨(by exact rfl),⟨_,rfl,Pr.le_trans (BT _ _) (AU _)⟩⟩,trivial⟩⟩⟩ (by decide)) ?_
 refine xm rfl (Cx.ef 4 rfl rfl (by decide) (AV rfl rfl (by decide) rfl (Bu (by omega) (by omega)) ⟨ke rfl,ke rfl,trivial⟩) ?_)
 refine xo rfl (fun _=>AB rfl underlying102 GU (Kf rfl) (vl rfl) (by omega) (show (Lp.map fun l=>[ints l])[_]? =_ from av hvs)) ?_
 refine xo rfl (fun _=>Fv rfl Qq rfl) (xm rfl (Cx.ef 4 rfl rfl (by decide) (AV rfl rfl (by decide) rfl (NJ (by omega) (by omega)) ⟨ke rfl,ke rfl,trivial⟩) (xo rfl (fun _=>AM (xs:=[.const (.int .i64 (1))]) (rows:=[[_]]) rfl rfl underlying22 Cg z3 rfl (by decide) ⟨⟨(by exact rfl),(Vo rfl)⟩,trivial⟩ (by decide)) ?_)))
 refine xo rfl (fun _=>AM (xs:=[.const (.int .i64 (2)),.const (.int .i64 (3))]) (rows:=[[_],[_]]) rfl rfl underlying22 Cg z3 rfl (by decide) ⟨⟨(by exact rfl),(Vo rfl)⟩,⟨⟨(by exact rfl),(Vo rfl)⟩,trivial⟩⟩ (by decide)) ?_
 refine xm rfl (Cx.ef 4 rfl rfl (by decide) (AV rfl rfl (by decide) rfl (NJ (by omega) (by omega)) ⟨ke rfl,ke rfl,trivial⟩) (xo rfl (fun _=>As (rows:=[(0,[_]),(1,[_]),(2,[_]),(3,[_]),(4,[_]),(6,[_]),(7,[_]),(8,[_])]) rfl Yo Dl ⟨⟨rfl,(Vo rfl)⟩,⟨⟨rfl,(Vo rfl)⟩,⟨⟨rfl,(Vo rfl)⟩,⟨⟨rfl,(Vo rfl)⟩,⟨⟨rfl,(Vo rfl)⟩,⟨⟨rfl,⟨_,rfl,Pr.le_trans (BT _ _) (AU _)⟩⟩,⟨⟨rfl,⟨_,rfl,Pr.le_trans (BT _ _) (AU _)⟩⟩,⟨⟨rfl,(Vo rfl)⟩,trivial⟩⟩⟩⟩⟩⟩⟩⟩ rfl) (Cx.ef 0 rfl rfl (by decide) (OM rfl rfl (by decide) rfl z32 Dl) (Cx.CT 0 rfl rfl (ON rfl rfl rfl rfl (Va rfl) BI rfl rfl) ?_))))
 refine Cx.nil ⟨rfl,?_⟩
 refine A9.open_ 0 7 rfl rfl (fun v1=> ?_)
 refine A9.done (CB.cons (CB.cons (CB.cons (CB.cons (CB.cons (CB.cons (CB.map _))))))) (Fin.iA 7 0 _ rfl rfl (fun _=>rfl) (fun b3=> ?_))
 refine Fin.go (IJ 0 2 3 4 5 6 7 16 17 18 rfl (Tr.seq (Tr.seq (Tr.GQ 0 [str nm,int 1,int (s2.of [3,3,4]),ints (Jm (s2.CW.val 3)),bool (s2.CW.CW.val 2==2-1),is (.slice none 0 0),ints [1],ints [2,3],bool (s2.CW.CW.CW.val 3==3-1)] rfl ⟨Lr,Lr,Lr,Lr,Lr,Lr,Lr,Lr,Lr,trivial⟩ (Tr.B_ (co rfl (AE rfl V3 (vl rfl)) (co rfl (Az 0 rfl (Bg rfl Ce (vl rfl) rfl)) (co rfl (ki rfl rfl rfl rfl) (Ch.nil (Fin.go ?_))))))))))
 refine Tr.cn rfl ?_ ?_<;>intro h2 q2
 refine Tr.Ax (tp rfl (AM (xs:=[.const (.int .i64 (14))]) (rows:=[[_]]) rfl rfl underlying22 Cg z3 rfl (by decide) ⟨⟨(by exact rfl),(Vo rfl)⟩,trivial⟩ (by decide)) ?_)
 refine tp rfl (AE rfl FQ (vl rfl)) (TO.rd 0 rfl rfl rfl (by decide) (Bg rfl Qq (vl rfl) rfl) (TO.pad ?_))
 refine TO.GR 0 rfl rfl (by decide) (DN rfl rfl rfl rfl underlying22 Cg UT z3 (Kf rfl) (vl rfl) (Bx (by exact List.Mem.head _) (vl rfl))) (fun v2=> ?_)
 refine tp rfl (AE rfl FQ (vl rfl)) (TO.CT 1 rfl rfl (Ab rfl rfl (vl rfl) (Vo rfl) GU rfl (by exact Nb rfl) rfl) (TO.nil (Fin.go (IJ 0 2 3 4 5 6 7 16 17 18 rfl (Tr.seq (Tr.Ax (tm rfl (tp rfl (AX rfl (Xr) trivial) (tm rfl ?_)))))))))
 refine tp rfl (Cu rfl (vl rfl) (vl rfl) ?hin) ?_;case hin=>unfold GP;omega
 refine tp rfl (AX rfl (S2 (name:=nm) (a:=5) (b:=2048) (id:=100+(k:Nat)) (to:=901) (key:=1) (QF K3 (by omega) (by omega)) (Oq (by omega)) (by omega)) ⟨ke rfl,ke rfl,ke rfl,ke rfl,ke rfl,trivial⟩) ?_
 refine TO.ex 54 rfl (fun Vg=>TO.fact 54 rfl fun gU=> ?_)
 refine tp rfl (AM (xs:=[.tmp 54]) (rows:=[_]) rfl rfl underlying30 Be JG rfl (by decide) ⟨⟨(by exact rfl),(Va rfl)⟩,trivial⟩ (by decide)) ?_
 refine tp rfl (AE rfl FR (vl rfl)) (TO.CT 1 rfl rfl (Ab rfl rfl (vl rfl) (Vo rfl) N0 rfl (by exact Nb rfl) rfl) (TO.nil (Fin.go (Tc 0 2 3 4 7 16 17 18 rfl (Tr.Ax (tp rfl (AE rfl IP (vl rfl)) (TO.rd 3 rfl rfl rfl (by decide) (Bg rfl OI (vl rfl) rfl) (TO.rd 1 rfl rfl rfl (by decide) (AQ rfl Bh BI (vl rfl) rfl rfl) (tp rfl (AM (xs:=[.tmp 59]) (rows:=[Aj (⟨nm,1,s2.of [3,3,4],14::Jm (s2.CW.val 3),(s2.CW.CW.val 2==2-1),[Fx nm 5 2048 (100+(k:Nat)) 901 1 Vg],[1],[2,3],(s2.CW.CW.CW.val 3==3-1)⟩:BJ)]) rfl rfl underlying37 BI z32 rfl (by decide) ⟨⟨(by exact rfl),VL.le (vl rfl) (Pr.le_trans (AY (qs:=Aj (⟨nm,1,s2.of [3,3,4],14::Jm (s2.CW.val 3),(s2.CW.CW.val 2==2-1),[Fx nm 5 2048 (100+(k:Nat)) 901 1 Vg],[1],[2,3],(s2.CW.CW.CW.val 3==3-1)⟩:BJ)) ⟨Lr,Lr,Lr,Pr.le_trans (Ar _ _) (Pr.le_of_eq rfl),Lr,BT _ _,Lr,Lr,Lr,trivial⟩) (Ae _))⟩,trivial⟩ (by decide)) ?_)))))))))
 refine TO.GR 2 rfl rfl (by decide) (DN rfl rfl rfl rfl underlying37 BI PD z32 (Kb rfl) (Kf rfl) (B9 (by exact List.Mem.head _) (Ka rfl))) (fun v3=> ?_)
 refine tp rfl (AE rfl IP (vl rfl)) (TO.CT 3 rfl rfl (Ab rfl rfl (vl rfl) (Vo rfl) PF rfl (by exact Nb rfl) rfl) (TO.nil (Fin.block (Fin.go (Tr.drop 1 (Mi 0 2 3 4 16 17 18 rfl (Tr.B_ (QW rfl rfl rfl rfl (by omega) (cm rfl (Ch.nil ?_))))))))))
 refine Fin.GQ 2 [Ay v3 (slice 9 ((es++[(⟨nm,1,s2.of [3,3,4],14::Jm (s2.CW.val 3),(s2.CW.CW.val 2==2-1),[Fx nm 5 2048 (100+(k:Nat)) 901 1 Vg],[1],[2,3],(s2.CW.CW.CW.val 3==3-1)⟩:BJ)]).map Aj)),is (.slice none 0 0),is (.slice none 0 0)] rfl ⟨CE (by rw [List.map_append];rfl),Lr,Lr,trivial⟩ ?_
 refine Fin.drop 0 ?_
 exact Fin.Fc (k+1) (es++[(⟨nm,1,s2.of [3,3,4],14::Jm (s2.CW.val 3),(s2.CW.CW.val 2==2-1),[Fx nm 5 2048 (100+(k:Nat)) 901 1 Vg],[1],[2,3],(s2.CW.CW.CW.val 3==3-1)⟩:BJ)]) (_) v3 (⟨⟨by omega,by rw [List.length_append,hk2];rfl,Ro YW ⟨by rw [hk2];exact K3,rfl,hof,.inr ⟨_,Rn hvs,rfl⟩,⟨Vg,gU,by rw [hk2]⟩,rfl,rfl⟩⟩,by omega⟩) ⟨⟨_,rfl,AS k⟩,ke rfl,ke rfl,ke rfl,ke rfl,ke rfl,ke rfl,trivial⟩ (fun _ _ h=>h)
 refine Tr.skip (Fin.go (Tr.seq (Tr.Ax (tm rfl (tp rfl (AX rfl (Xr) trivial) (tm rfl ?_))))))
 refine tp rfl (Cu rfl (vl rfl) (vl rfl) ?hin) ?_;case hin=>unfold GP;omega
 refine tp rfl (AX rfl (S2 (name:=nm) (a:=5) (b:=2048) (id:=100+(k:Nat)) (to:=901) (key:=1) (QF K3 (by omega) (by omega)) (Oq (by omega)) (by omega)) ⟨ke rfl,ke rfl,ke rfl,ke rfl,ke rfl,trivial⟩) ?_
 refine TO.ex 54 rfl (fun Vg=>TO.fact 54 rfl fun gU=> ?_)
 refine tp rfl (AM (xs:=[.tmp 54]) (rows:=[_]) rfl rfl underlying30 Be JG rfl (by decide) ⟨⟨(by exact rfl),(Va rfl)⟩,trivial⟩ (by decide)) ?_
 refine tp rfl (AE rfl FR (vl rfl)) (TO.CT 0 rfl rfl (Ab rfl rfl (vl rfl) (Vo rfl) N0 rfl (by exact Nb rfl) rfl) (TO.nil (Fin.go (Tc 0 2 3 4 7 16 17 18 rfl (Tr.Ax (tp rfl (AE rfl IP (vl rfl)) (TO.rd 2 rfl rfl rfl (by decide) (Bg rfl OI (vl rfl) rfl) (TO.rd 0 rfl rfl rfl (by decide) (AQ rfl Bh BI (vl rfl) rfl rfl) (tp rfl (AM (xs:=[.tmp 59]) (rows:=[Aj (⟨nm,1,s2.of [3,3,4],Jm (s2.CW.val 3),(s2.CW.CW.val 2==2-1),[Fx nm 5 2048 (100+(k:Nat)) 901 1 Vg],[1],[2,3],(s2.CW.CW.CW.val 3==3-1)⟩:BJ)]) rfl rfl underlying37 BI z32 rfl (by decide) ⟨⟨(by exact rfl),VL.le (vl rfl) (Pr.le_trans (AY (qs:=Aj (⟨nm,1,s2.of [3,3,4],Jm (s2.CW.val 3),(s2.CW.CW.val 2==2-1),[Fx nm 5 2048 (100+(k:Nat)) 901 1 Vg],[1],[2,3],(s2.CW.CW.CW.val 3==3-1)⟩:BJ)) ⟨Lr,Lr,Lr,Lr,Lr,BT _ _,Lr,Lr,Lr,trivial⟩) (Ae _))⟩,trivial⟩ (by decide)) ?_)))))))))
 refine TO.GR 1 rfl rfl (by decide) (DN rfl rfl rfl rfl underlying37 BI PD z32 (Kb rfl) (Kf rfl) (B9 (by exact List.Mem.head _) (Ka rfl))) (fun v4=> ?_)
 refine tp rfl (AE rfl IP (vl rfl)) (TO.CT 2 rfl rfl (Ab rfl rfl (vl rfl) (Vo rfl) PF rfl (by exact Nb rfl) rfl) (TO.nil (Fin.block (Fin.go (Tr.drop 0 (Mi 0 2 3 4 16 17 18 rfl (Tr.B_ (QW rfl rfl rfl rfl (by omega) (cm rfl (Ch.nil ?_))))))))))
 refine Fin.GQ 1 [Ay v4 (slice 9 ((es++[(⟨nm,1,s2.of [3,3,4],Jm (s2.CW.val 3),(s2.CW.CW.val 2==2-1),[Fx nm 5 2048 (100+(k:Nat)) 901 1 Vg],[1],[2,3],(s2.CW.CW.CW.val 3==3-1)⟩:BJ)]).map Aj)),is (.slice none 0 0),is (.slice none 0 0)] rfl ⟨CE (by rw [List.map_append];rfl),Lr,Lr,trivial⟩ ?_
 exact Fin.Fc (k+1) (es++[(⟨nm,1,s2.of [3,3,4],Jm (s2.CW.val 3),(s2.CW.CW.val 2==2-1),[Fx nm 5 2048 (100+(k:Nat)) 901 1 Vg],[1],[2,3],(s2.CW.CW.CW.val 3==3-1)⟩:BJ)]) (_) v4 (⟨⟨by omega,by rw [List.length_append,hk2];rfl,Ro YW ⟨by rw [hk2];exact K3,rfl,hof,.inl (Rn hvs),⟨Vg,gU,by rw [hk2]⟩,rfl,rfl⟩⟩,by omega⟩) ⟨⟨_,rfl,AS k⟩,ke rfl,ke rfl,ke rfl,ke rfl,ke rfl,ke rfl,trivial⟩ (fun _ _ h=>h)
 have hke:k=(2+s.val 2).toNat:=by have:=GC.IE h1;rw [Mz] at this;omega
 refine Tr.exit (Fin.Ai (Fin.Ai (Fin.BA (Fin.go (Tr.seq (Tr.seq (Tr.GQ 1 [slice 9 (es.map Aj),is (.slice none 0 0),is (.slice none 0 0)] rfl ⟨Ar _ _,Lr,Lr,trivial⟩ (Tr.drop 0 (Tr.B_ (cm rfl (co rfl (CV rfl underlying74 (vl rfl)) (cm rfl (Ch.nil (Fin.go ?_))))))))))))))
 refine Tr.block ?_
 refine Tr.re 65 rfl (int_eq (by simp;rfl):Pr.le _ (int (((Fy.take (2+s.val 2).toNat).length:Nat):Int))) ?_
 refine Tr.GQ 0 [slice 9 (es.map Aj),Ay (.slice none 0 0) (slice 2 (List.replicate 0 Qa)),is (.slice none 0 0)] rfl ⟨Lr,Dv rfl,Lr,trivial⟩ (Tr.EZ 80 2 (Tr.G8 [(0,_),(2,_),(3,_),(4,_),(65,_)] ⟨ke rfl,ke rfl,ke rfl,ke rfl,ke rfl,trivial⟩ (fun (i:Nat) (m:Nat) (s3:DS) w=>[(66,int ((i:Nat):Int))]) (fun (i:Nat) (m:Nat) (s3:DS) w=>Hp M0 w0 S (BR 80 2 w::AA true b2 41 [slice 9 (es.map Aj),Ay w (slice 2 (List.replicate m Qa)),is (.slice none 0 0)]::AA true b1 41 (([.slice none 0 0,.slice none 0 0,.slice none 0 0]:List Value).map is)::E_ b s3::Bc M1 w1::rs)) (fun (i:Nat) (m:Nat) (s3:DS)=>i≤(2+s.val 2).toNat∧m≤3) (fun (i:Nat) (m:Nat) (s3:DS)=>(2+s.val 2).toNat-i) (0) (0) (_) (.slice none 0 0) (⟨by omega,by omega⟩) ⟨ke rfl,trivial⟩ (fun _ _ h=>h) ?_))
 rintro i m s3 w ⟨hi1,hi2⟩
 refine Tr.seq (Tr.B_ (co rfl (ki rfl rfl rfl rfl) (Ch.nil (Fin.go (Tr.seq ?_)))))
 refine Tr.cn rfl ?_ ?_<;>intro h3 q3
 have hin:i<(2+s.val 2).toNat:=by have:=GC.IE h3;rw [Mz] at this;omega
 refine Tr.skip (Fin.go (Tr.seq (Tr.block (Tr.seq (Tr.B_ (cm rfl (cm rfl (Ch.nil (Fin.go (Tr.seq (Tr.B_ (cm rfl (co rfl (CV rfl underlying74 (vl rfl)) ?_)))))))))))))
 refine cm rfl (Ch.nil (Fin.go (Tr.block ?_)))
 refine Tr.re 70 rfl (int_eq (by simp;rfl):Pr.le _ (int (((Fy.take (2+s.val 2).toNat).length:Nat):Int))) ?_
 refine Tr.G8 [(0,_),(2,_),(3,_),(4,_),(8,_),(65,_),(66,_),(70,_)] ⟨ke rfl,ke rfl,ke rfl,ke rfl,ke rfl,ke rfl,ke rfl,ke rfl,trivial⟩ (fun (j:Nat) (m3:Nat) (s4:DS) u=>[(71,int ((j:Nat):Int))]) (fun (j:Nat) (m3:Nat) (s4:DS) u=>Hp M0 w0 S (BR 80 2 u::AA true b2 41 [slice 9 (es.map Aj),Ay u (slice 2 (List.replicate m3 Qa)),is (.slice none 0 0)]::AA true b1 41 (([.slice none 0 0,.slice none 0 0,.slice none 0 0]:List Value).map is)::E_ b s4::Bc M1 w1::rs)) (fun (j:Nat) (m3:Nat) (s4:DS)=>j≤(2+s.val 2).toNat∧m3≤3) (fun (j:Nat) (m3:Nat) (s4:DS)=>(2+s.val 2).toNat-j) (0) (m) (_) w (⟨by omega,by omega⟩) ⟨ke rfl,trivial⟩ (fun _ _ h=>h) ?_
 rintro j m3 s4 u ⟨ZM,hj2⟩
 refine Tr.seq (Tr.B_ (co rfl (ki rfl rfl rfl rfl) (Ch.nil (Fin.go (Tr.seq ?_)))))
 refine Tr.cn rfl ?_ ?_<;>intro h4 q4
 have hjn:j<(2+s.val 2).toNat:=by have:=GC.IE h4;rw [Mz] at this;omega
 have hlm:(List.replicate m3 Qa).length=m3:=List.length_replicate
 refine Tr.skip (Fin.go (Tr.seq (Tr.block (Tr.seq (Tr.B_ (cm rfl (cm rfl (Ch.nil (Fin.go (Tr.seq (Tr.Ax (tm rfl (tm rfl ?_)))))))))))))
 refine tp rfl (ki rfl rfl rfl rfl) (tm rfl ?_)
 refine TO.cases 77 rfl (fun h5=> ?_) (fun h5=> ?_)
 have q5:=GC.IE h5
 refine TO.OX rfl rfl rfl h5 rfl (by decide) (BL rfl (vl rfl)) (TO.ez 3 rfl rfl rfl h5 rfl rfl (by decide) (AV rfl rfl (by decide) rfl (Bu (by omega) (by omega)) ⟨ke rfl,ke rfl,trivial⟩) (TO.OX rfl rfl rfl h5 rfl (by decide) (ki rfl rfl rfl rfl) (tp rfl (Vf rfl rfl h5 rfl) (tm rfl ?_))))
 refine TO.cases 82 rfl (fun h6=> ?_) (fun h6=> ?_)
 have q6:=GC.IE h6
 refine TO.OX rfl rfl rfl h6 rfl (by decide) (AE rfl Ml (vl rfl)) (TO.OX rfl rfl rfl h6 rfl (by decide) (Az 1 rfl (Bg rfl V4 (vl rfl) rfl)) (TO.OX rfl rfl rfl h6 rfl (by decide) (CV rfl underlying38 (Kb rfl)) (TO.OX rfl rfl rfl h6 rfl (by decide) (ki rfl rfl rfl rfl) (tp rfl (Vf rfl rfl h6 rfl) (TO.nil (Fin.go (SK 0 2 3 4 8 9 65 66 70 71 87 rfl ?_)))))))
 refine Tr.cn rfl ?_ ?_<;>intro h7 q7
 refine Tr.Ax (tp rfl (AE rfl Ml (vl rfl)) (TO.rd 1 rfl rfl rfl (by decide) (Bg rfl V4 (vl rfl) rfl) (tm rfl (tm rfl (tp rfl (As (rows:=[(0,[_]),(1,[_])]) rfl ju jv ⟨⟨rfl,(Vo rfl)⟩,⟨⟨rfl,(Vo rfl)⟩,trivial⟩⟩ rfl) (tp rfl (AM (xs:=[.tmp 92]) (rows:=[Qa]) rfl rfl underlying38 eG z80 rfl (by decide) ⟨⟨(by exact rfl),VL.le (vl rfl) (Pr.le_trans (AY (qs:=Qa) ⟨BH _ _,BH _ _,trivial⟩) (Ae _))⟩,trivial⟩ (by decide)) ?_))))))
 refine TO.GR 0 rfl rfl (by decide) (DN rfl rfl rfl rfl underlying38 eG qE z80 (Kb rfl) (Kf rfl) (B9 (by exact List.Mem.head _) (Ka rfl))) (fun v5=> ?_)
 refine tp rfl (AE rfl Ml (vl rfl)) (TO.CT 1 rfl rfl (Ab rfl rfl (vl rfl) (Vo rfl) jm rfl (by exact Nb rfl) rfl) (TO.nil (Fin.block (Fin.go (dZ 0 2 3 4 8 65 66 70 71 rfl (Tr.B_ (QW rfl rfl rfl rfl (by omega) (cm rfl (Ch.nil (Fin.GQ 1 [slice 9 (es.map Aj),Ay v5 (slice 2 (List.replicate (m3+1) Qa)),is (.slice none 0 0)] rfl ⟨Lr,CE (by rw [I7]),Lr,trivial⟩ (Fin.Fc (j+1) (m3+1) (_) v5 (⟨⟨by omega,by omega⟩,by omega⟩) ⟨⟨_,rfl,AS j⟩,ke rfl,ke rfl,ke rfl,ke rfl,ke rfl,ke rfl,ke rfl,ke rfl,trivial⟩ (fun _ _ h=>h))))))))))))
 refine Tr.skip (Fin.block (Fin.go (Tr.B_ (QW rfl rfl rfl rfl (by omega) (cm rfl (Ch.nil (Fin.Fc (j+1) (m3) (_) u (⟨⟨by omega,by omega⟩,by omega⟩) ⟨⟨_,rfl,AS j⟩,ke rfl,ke rfl,ke rfl,ke rfl,ke rfl,ke rfl,ke rfl,ke rfl,trivial⟩ (fun _ _ h=>h))))))))
 have q6:=GC.IE h6
 iterate 4 refine TO.N3 rfl rfl rfl (EK h6) rfl (by decide) ?_
 refine tp rfl (SJ rfl rfl h6 rfl) (TO.nil (Fin.go (SK 0 2 3 4 8 9 65 66 70 71 87 rfl (Tr.cond rfl (fun h=>nomatch h) (fun _=> ?_)))))
 refine Tr.skip (Fin.block (Fin.go (Tr.B_ (QW rfl rfl rfl rfl (by omega) (cm rfl (Ch.nil (Fin.Fc (j+1) (m3) (_) u (⟨⟨by omega,by omega⟩,by omega⟩) ⟨⟨_,rfl,AS j⟩,ke rfl,ke rfl,ke rfl,ke rfl,ke rfl,ke rfl,ke rfl,ke rfl,trivial⟩ (fun _ _ h=>h))))))))
 have q5:=GC.IE h5
 refine TO.N3 rfl rfl rfl (EK h5) rfl (by decide) (TO.N3 rfl rfl rfl (EK h5) rfl (by decide) (TO.N3 rfl rfl rfl (EK h5) rfl (by decide) (tp rfl (SJ rfl rfl h5 rfl) (tm rfl ?_))))
 iterate 4 refine TO.N3 rfl rfl rfl (EK rfl) rfl (by decide) ?_
 refine tp rfl (SJ rfl rfl rfl rfl) (TO.nil (Fin.go (SK 0 2 3 4 8 9 65 66 70 71 87 rfl (Tr.cond rfl (fun h=>nomatch h) (fun _=> ?_)))))
 refine Tr.skip (Fin.block (Fin.go (Tr.B_ (QW rfl rfl rfl rfl (by omega) (cm rfl (Ch.nil (Fin.Fc (j+1) (m3) (_) u (⟨⟨by omega,by omega⟩,by omega⟩) ⟨⟨_,rfl,AS j⟩,ke rfl,ke rfl,ke rfl,ke rfl,ke rfl,ke rfl,ke rfl,ke rfl,trivial⟩ (fun _ _ h=>h))))))))
 have hje:j=(2+s.val 2).toNat:=by have:=GC.IE h4;rw [Mz] at this;omega
 refine Tr.exit (Fin.Ai (Fin.Ai (Fin.BA (Fin.block (Fin.go (Tr.B_ (QW rfl rfl rfl rfl (by omega) (cm rfl (Ch.nil (Fin.Fc (i+1) (m3) (_) u (⟨⟨by omega,by omega⟩,by omega⟩) ⟨⟨_,rfl,AS i⟩,ke rfl,ke rfl,ke rfl,ke rfl,ke rfl,trivial⟩ (fun _ _ h=>h)))))))))))
 have hie:i=(2+s.val 2).toNat:=by have:=GC.IE h3;rw [Mz] at this;omega
 refine Tr.exit (Fin.Ai (Fin.Ai (Fin.BA (Fin.go (Tr.seq (Tr.seq (Tr.B_ (co rfl (AE rfl Ml (vl rfl)) (co rfl (Az 1 rfl (Bg rfl V4 (vl rfl) rfl)) (co rfl (CV rfl underlying38 (Kb rfl)) (co rfl (ki rfl rfl rfl rfl) (Ch.nil (Fin.go ?_)))))))))))))
 refine Tr.cn rfl ?_ ?_<;>intro h8 q8
 refine Tr.Ax (tp rfl (As (rows:=[(0,[_]),(1,[_])]) rfl ju jv ⟨⟨rfl,(Vo rfl)⟩,⟨⟨rfl,(Vo rfl)⟩,trivial⟩⟩ rfl) (tp rfl (AM (xs:=[.tmp 102]) (rows:=[Qa]) rfl rfl underlying38 eG z80 rfl (by decide) ⟨⟨(by exact rfl),VL.le (vl rfl) (Pr.le_trans (AY (qs:=Qa) ⟨BH _ _,BH _ _,trivial⟩) (Ae _))⟩,trivial⟩ (by decide)) ?_))
 refine tp rfl (AE rfl Ml (vl rfl)) (TO.CT 1 rfl rfl (Ab rfl rfl (vl rfl) (Vo rfl) jm rfl (by exact Nb rfl) rfl) (TO.nil (Fin.go (Cr 0 2 3 rfl (Tr.seq (Tr.seq ?_))))))
 have hv9:=s3.Dk (n:=3) (by omega)
 refine Tr.GQ 1 [slice 9 (es.map Aj),(Cp.ex fun m:Nat=>slice 2 (List.replicate m Qa)),is (.slice none 0 0)] rfl ⟨Lr,A5 1 (BT _ _),Lr,trivial⟩ (Tr.drop 0 (Tr.Ax (tm rfl (TO.FF 2 rfl rfl (by decide) (AV rfl rfl (by decide) rfl (Bu (by omega) (by omega)) ⟨ke rfl,ke rfl,trivial⟩) (tm rfl (TO.nil (Fin.go (Tr.block (Tr.GQ 0 [slice 9 (es.map Aj),(Cp.ex fun m:Nat=>slice 2 (List.replicate m Qa)),Ay (.slice none 0 0) (slice 5 (List.replicate 0 LR))] rfl ⟨Lr,Lr,Dv rfl,trivial⟩ (Tr.EZ 107 5 (Tr.G8 [(0,_),(2,_),(3,_)] ⟨ke rfl,ke rfl,ke rfl,trivial⟩ (fun (q:Int) (mi:Nat) (s5:DS) x=>[(10,int q)]) (fun (q:Int) (mi:Nat) (s5:DS) x=>Hp M0 w0 S (BR 107 5 x::AA true b2 41 [slice 9 (es.map Aj),(Cp.ex fun m:Nat=>slice 2 (List.replicate m Qa)),Ay x (slice 5 (List.replicate mi LR))]::AA true b1 41 (([.slice none 0 0,.slice none 0 0,.slice none 0 0]:List Value).map is)::E_ b s5::Bc M1 w1::rs)) (fun (q:Int) (mi:Nat) (s5:DS)=>0≤q∧q+mi≤3) (fun (q:Int) (mi:Nat) (s5:DS)=>q.toNat) (_) (0) (_) (.slice none 0 0) (⟨by omega,by omega⟩) ⟨ke rfl,trivial⟩ (fun _ _ h=>h) ?_)))))))))))
 rintro q mi s5 x ⟨hq1,R6⟩
 refine Tr.seq (Tr.seq (Tr.B_ (cm rfl (co rfl (ki rfl rfl rfl rfl) (Ch.nil (Fin.go ?_))))))
 refine Tr.cn rfl ?_ ?_<;>intro h9 q9
 have eY:0<q:=of_decide_eq_true h9
 refine Tr.skip (Fin.go (Tr.seq (Tr.block (Tr.pad (Tr.Jv mixed [none,some (0,2,false,0),none,none,none,some (0,4,true,0),some (0,4,true,0),none,some (0,1,true,119),none,some (0,2,true,119)] (by kernel_rfl) (xo rfl (fun _=>AE rfl PI (vl rfl)) (Ev 2 rfl rfl (Bg rfl bz (vl rfl) rfl) (xm rfl (xm rfl (xo rfl (fun _=>AM (xs:=[.const (.string ⟨[98,97,99,107,117,112].toArray⟩),.const (.string ⟨[100,101,101,100].toArray⟩)]) (rows:=[[_],[_]]) rfl rfl underlying74 JB z9 rfl (by decide) ⟨⟨(by exact rfl),(Vo rfl)⟩,⟨⟨(by exact rfl),(Vo rfl)⟩,trivial⟩⟩ (by decide)) ?_))))))))))
 refine Cx.ef 4 rfl rfl (by decide) (AV rfl rfl (by decide) rfl (Rm (l:=[[98,97,99,107,117,112],[100,101,101,100]]) (by simp) (by simp)) ⟨ke rfl,(Kf rfl),trivial⟩) ?_
 refine Cx.ef 4 rfl rfl (by decide) (AV rfl rfl (by decide) rfl (Xt) ⟨ke rfl,ke rfl,trivial⟩) (xo rfl (fun _=>AM (xs:=[.tmp 117]) (rows:=[_]) rfl rfl underlying39 LI z107 rfl (by decide) ⟨⟨(by exact rfl),(Va rfl)⟩,trivial⟩ (by decide)) ?_)
 refine Cx.ef 1 rfl rfl (by decide) (DN rfl rfl rfl rfl underlying39 LI b_ z107 (Kb rfl) (Kf rfl) (B9 (by exact List.Mem.head _) (Ka rfl))) ?_
 refine xo rfl (fun _=>AE rfl PI (vl rfl)) (Cx.CT 2 rfl rfl (Cb rfl rfl rfl (vl rfl) rfl jo (by exact Nb rfl)) ?_)
 refine Cx.nil ⟨rfl,?_⟩
 refine A9.Hu 1 2 119 rfl rfl (by decide) rfl (fun v6=> ?_)
 refine A9.done (CB.cons (CB.cons (CB.cons (CB.cons (CB.cons (CB.cons (CB.map _))))))) (Fin.Mk 4 rfl (fun s1=> ?_))
 refine Fin.block (Fin.go (Tr.drop 0 (Ez 0 2 3 10 rfl (Tr.B_ (cm rfl (je rfl rfl rfl rfl (by omega) (cm rfl (Ch.nil (Fin.GQ 1 [slice 9 (es.map Aj),(Cp.ex fun m:Nat=>slice 2 (List.replicate m Qa)),Ay v6 (slice 5 (List.replicate (mi+1) LR))] rfl ⟨Lr,Lr,CE (by rw [I7]),trivial⟩ (Fin.Fc (q-1) (mi+1) (_) v6 (⟨⟨by omega,by omega⟩,by omega⟩) ⟨⟨_,rfl,int_eq (by omega)⟩,ke rfl,ke rfl,ke rfl,trivial⟩ (fun _ _ h=>h)))))))))))
 have eY:¬0<q:=of_decide_eq_false h9
 refine Tr.exit (Fin.Ai (Fin.Ai (Fin.BA (Fin.go (Tr.seq (Tr.Ax (TO.rd 1 rfl rfl rfl (by decide) (AQ rfl OJ PG (vl rfl) rfl rfl) (TO.AR 2 rfl rfl rfl (vl rfl) (Va rfl) rfl PG rfl rfl (TO.nil (Fin.go (Tr.ret (Fin.DY 3 _ rfl rfl (Fin.Ds [_,_,_] rfl (AL.cell 2 rfl rfl OJ PG rfl (Lr)) ?_ (fun _ _ _ _=>rfl))))))))))))))
 · exact A5 es (A2 ⟨⟨by omega,by omega⟩,YW⟩ (AY ⟨Lr,Lr,Pr.le_trans (Ar _ _) (A5 mi (Lr)),trivial⟩))
 refine Tr.skip (Fin.go (Tr.seq (Tr.seq ?_)))
 have hv9:=s3.Dk (n:=3) (by omega)
 refine Tr.GQ 1 [slice 9 (es.map Aj),(Cp.ex fun m:Nat=>slice 2 (List.replicate m Qa)),is (.slice none 0 0)] rfl ⟨Lr,Pr.le_trans (Ar _ _) (A5 m (Lr)),Lr,trivial⟩ (Tr.drop 0 (Tr.Ax (tm rfl (TO.FF 2 rfl rfl (by decide) (AV rfl rfl (by decide) rfl (Bu (by omega) (by omega)) ⟨ke rfl,ke rfl,trivial⟩) (tm rfl (TO.nil (Fin.go (Ez 0 2 3 10 rfl (Tr.block (Tr.GQ 0 [slice 9 (es.map Aj),(Cp.ex fun m:Nat=>slice 2 (List.replicate m Qa)),Ay (.slice none 0 0) (slice 5 (List.replicate 0 LR))] rfl ⟨Lr,Lr,Dv rfl,trivial⟩ (Tr.EZ 107 5 (Tr.G8 [(0,_),(2,_),(3,_)] ⟨ke rfl,ke rfl,ke rfl,trivial⟩ (fun (q:Int) (mi:Nat) (s5:DS) x=>[(10,int q)]) (fun (q:Int) (mi:Nat) (s5:DS) x=>Hp M0 w0 S (BR 107 5 x::AA true b2 41 [slice 9 (es.map Aj),(Cp.ex fun m:Nat=>slice 2 (List.replicate m Qa)),Ay x (slice 5 (List.replicate mi LR))]::AA true b1 41 (([.slice none 0 0,.slice none 0 0,.slice none 0 0]:List Value).map is)::E_ b s5::Bc M1 w1::rs)) (fun (q:Int) (mi:Nat) (s5:DS)=>0≤q∧q+mi≤3) (fun (q:Int) (mi:Nat) (s5:DS)=>q.toNat) (_) (0) (_) (.slice none 0 0) (⟨by omega,by omega⟩) ⟨ke rfl,trivial⟩ (fun _ _ h=>h) ?_))))))))))))
 rintro q mi s5 x ⟨hq1,R6⟩
 refine Tr.seq (Tr.seq (Tr.B_ (cm rfl (co rfl (ki rfl rfl rfl rfl) (Ch.nil (Fin.go ?_))))))
 refine Tr.cn rfl ?_ ?_<;>intro h10 OZ
 have eY:0<q:=of_decide_eq_true h10
 refine Tr.skip (Fin.go (Tr.seq (Tr.block (Tr.pad (Tr.Jv mixed [none,some (0,2,false,0),none,none,none,some (0,4,true,0),some (0,4,true,0),none,some (0,1,true,119),none,some (0,2,true,119)] (by kernel_rfl) (xo rfl (fun _=>AE rfl PI (vl rfl)) (Ev 2 rfl rfl (Bg rfl bz (vl rfl) rfl) (xm rfl (xm rfl (xo rfl (fun _=>AM (xs:=[.const (.string ⟨[98,97,99,107,117,112].toArray⟩),.const (.string ⟨[100,101,101,100].toArray⟩)]) (rows:=[[_],[_]]) rfl rfl underlying74 JB z9 rfl (by decide) ⟨⟨(by exact rfl),(Vo rfl)⟩,⟨⟨(by exact rfl),(Vo rfl)⟩,trivial⟩⟩ (by decide)) ?_))))))))))
 refine Cx.ef 4 rfl rfl (by decide) (AV rfl rfl (by decide) rfl (Rm (l:=[[98,97,99,107,117,112],[100,101,101,100]]) (by simp) (by simp)) ⟨ke rfl,(Kf rfl),trivial⟩) ?_
 refine Cx.ef 4 rfl rfl (by decide) (AV rfl rfl (by decide) rfl (Xt) ⟨ke rfl,ke rfl,trivial⟩) (xo rfl (fun _=>AM (xs:=[.tmp 117]) (rows:=[_]) rfl rfl underlying39 LI z107 rfl (by decide) ⟨⟨(by exact rfl),(Va rfl)⟩,trivial⟩ (by decide)) ?_)
 refine Cx.ef 1 rfl rfl (by decide) (DN rfl rfl rfl rfl underlying39 LI b_ z107 (Kb rfl) (Kf rfl) (B9 (by exact List.Mem.head _) (Ka rfl))) ?_
 refine xo rfl (fun _=>AE rfl PI (vl rfl)) (Cx.CT 2 rfl rfl (Cb rfl rfl rfl (vl rfl) rfl jo (by exact Nb rfl)) ?_)
 refine Cx.nil ⟨rfl,?_⟩
 refine A9.Hu 1 2 119 rfl rfl (by decide) rfl (fun v7=> ?_)
 refine A9.done (CB.cons (CB.cons (CB.cons (CB.cons (CB.cons (CB.cons (CB.map _))))))) (Fin.Mk 4 rfl (fun s2=> ?_))
 refine Fin.block (Fin.go (Tr.drop 0 (Ez 0 2 3 10 rfl (Tr.B_ (cm rfl (je rfl rfl rfl rfl (by omega) (cm rfl (Ch.nil (Fin.GQ 1 [slice 9 (es.map Aj),(Cp.ex fun m:Nat=>slice 2 (List.replicate m Qa)),Ay v7 (slice 5 (List.replicate (mi+1) LR))] rfl ⟨Lr,Lr,CE (by rw [I7]),trivial⟩ (Fin.Fc (q-1) (mi+1) (_) v7 (⟨⟨by omega,by omega⟩,by omega⟩) ⟨⟨_,rfl,int_eq (by omega)⟩,ke rfl,ke rfl,ke rfl,trivial⟩ (fun _ _ h=>h)))))))))))
 have eY:¬0<q:=of_decide_eq_false h10
 refine Tr.exit (Fin.Ai (Fin.Ai (Fin.BA (Fin.go (Tr.seq (Tr.Ax (TO.rd 1 rfl rfl rfl (by decide) (AQ rfl OJ PG (vl rfl) rfl rfl) (TO.AR 2 rfl rfl rfl (vl rfl) (Va rfl) rfl PG rfl rfl (TO.nil (Fin.go (Tr.ret (Fin.DY 3 _ rfl rfl (Fin.Ds [_,_,_] rfl (AL.cell 2 rfl rfl OJ PG rfl (Lr)) ?_ (fun _ _ _ _=>rfl))))))))))))))
 · exact A5 es (A2 ⟨⟨by omega,by omega⟩,YW⟩ (AY ⟨Lr,Lr,Pr.le_trans (Ar _ _) (A5 mi (Lr)),trivial⟩))
abbrev nO:List (List Int):=Lp++Lp.map (14:: ·)
theorem Gq {i:Nat} {e:BJ} (h:S3 i e):e.AF∈nO:=by
 rcases h.AF with h|⟨l,h,h2⟩
 · exact List.mem_append_left _ h
 · rw [h2];exact List.mem_append_right _ (List.mem_map_of_mem h)
theorem MK:∀l∈nO,Fi l=true∧l.length≤5:=by decide+kernel
theorem QG:∀n∈Fy,Hz n=true∧n.length≤3:=by decide+kernel
theorem a_:[2,3].all H6=true:=by decide+kernel
theorem bA:E4 5 2048 2=true:=by decide+kernel
theorem Xx {nm:List UInt8} {k:Nat} {id:Int} (h:Fy[k]? =some nm) (hid:id=100+(k:Nat)) {s:Int} (hs:0≤s∧s<4294967296):Tz (Fx nm 5 2048 id 901 1 s)=true:=by
 subst hid
 have hk:k<3:=Bb h
 have hv:=QF h hs (key:=1) (by omega)
 have hk2:Er (100+(k:Nat))=true:=by unfold Er;simp;omega
 unfold Tz Kx;simp only [bA,hk2,List.all_cons,List.all_nil,hv];simp
theorem bB {i:Nat} {e:BJ} (h:S3 i e):T6 e:=by
 have hn:=QG _ (List.mem_of_getElem? h.name)
 have hs:=MK _ (Gq h)
 obtain ⟨s,hs1,LM⟩:=h.ids
 have hm:=h.most;have hl:=h.least
 refine ⟨hn.1,by omega,by omega,by omega,hs.1,by rw [LM];simp,by rw [h.anchors];simp,by rw [h.anchors];decide,by rw [h.hashes];decide,?_,by rw [h.anchors];decide,by rw [h.hashes];exact a_⟩
 rw [LM];simp only [List.all_cons,List.all_nil,Xx h.name rfl hs1,Bool.and_self]
theorem VQ {i:Nat} {e:BJ} (h:S3 i e):e.fits:=by
 have hn:=QG _ (List.mem_of_getElem? h.name)
 obtain ⟨s,hs1,LM⟩:=h.ids
 refine ⟨by unfold maxLen;omega,fun x hx c hc=> ?_⟩
 rw [LM] at hx;simp at hx;subst hx;simp at hc;subst hc
 exact ⟨by show 4≤maxLen;unfold maxLen;omega,by show e.name.length≤maxLen;unfold maxLen;omega,fun n hn2=>by simp at hn2;subst hn2;unfold maxLen;omega⟩
theorem S4 {i:Nat} {e:BJ} (h:S3 i e):e.small:=by
 have hs:=MK _ (Gq h)
 obtain ⟨s,hs1,LM⟩:=h.ids
 refine ⟨by omega,by rw [h.anchors];simp,by rw [h.hashes];simp,by rw [LM];simp,fun x hx=> ?_⟩
 rw [LM] at hx;simp at hx;subst hx
 exact ⟨by simp,fun c hc=>by simp at hc;subst hc;simp⟩
theorem Ck:A8.fits:=fun c hc=>by cases hc
theorem nP {v:Int} (h:0≤v∧v<2):([[int 7,int 256],[int 5,int 2048]]:List (List Pr))[v.toNat]? =some [int (if v=0 then 7 else 5),int (if v=0 then 256 else 2048)]:=by
 have:v=0∨v=1:=by omega
 rcases this with rfl|rfl<;>rfl
theorem nQ (v:Int):((if v=0 then 7 else 5:Int)=5∧(if v=0 then 256 else 2048:Int)=2048)∨((if v=0 then 7 else 5:Int)=7∧(if v=0 then 256 else 2048:Int)=256):=by split<;>simp
theorem nR {nm:List UInt8} (h:nm∈Fy) {a b id key s:Int} (hab:(a=5∧b=2048)∨(a=7∧b=256)) (hid:0≤id∧id≤1000) (hs:0≤s∧s<4294967296) (hk:0≤key∧key≤2):C9 (JQ nm a b id 901 key s)=true:=by
 have hn:named nm=true:=by
  revert h;unfold Fy;intro hm;simp at hm
  rcases hm with rfl|rfl|rfl<;>decide
 have hof:E4 a b 2=true:=by rcases hab with ⟨rfl,rfl⟩|⟨rfl,rfl⟩<;>decide+kernel
 refine UC ⟨?_,?_,by show named [114,111,111,116]=true;decide,hn,?_,hof,?_,?_,by show E4 3 0 1=true;decide+kernel,hk.1,?_,hs.1,hs.2,by show (0:Int)≤0;omega,by show (0:Int)≤901;omega,by show (901:Int)≤40000;omega,by show (0:Int)≤0;omega,by show (0:Int)≤8;omega,.inr rfl⟩
 · show 0≤id;omega
 · show id≤_;omega
 ·
  show Es [nm]=true
  unfold Es;rw [Bool.and_eq_true];refine ⟨Cj.2 fun j hj=> ?_,by simp⟩
  have:j=0:=by simp at hj;omega
  subst this;unfold nameAt;simp [hn]
 · show 0≤id;omega
 · show id≤_;omega
 · show key≤_;omega
theorem nS {nm:List UInt8} {a b id:Int} (hab:(a=5∧b=2048)∨(a=7∧b=256)) (hid:0≤id∧id≤1000):(JQ nm a b id 901 0 0).VM:=
 ⟨by show id≤40000;omega,by show id≤40000;omega,⟨by show (0:Int)≤a;omega,by show a≤40000;omega⟩,⟨by show (0:Int)≤b;omega,by show b≤40000;omega⟩,⟨by show (0:Int)≤3;omega,by show (3:Int)≤40000;omega⟩,⟨by show (0:Int)≤0;omega,by show (0:Int)≤40000;omega⟩⟩
structure bC (es:List BJ) (c:B8):Prop where
 lo:0≤c.Ah
 hi:c.Ah<(es.length:Nat)
 kind:1≤c.kind∧c.kind≤12
 fits:c.Cl.fits
 small:c.Cl.small
abbrev bD (nm:List UInt8) (a b id to key:Int):Pr:=Cp.ex fun s:Int=>fact (0≤s∧s<4294967296) (Il [JQ nm a b id to key s])
theorem S5 {nm:List UInt8} {a b id to key:Int}:(dH nm a b id to key).le (Di [int a,int b,int id,bD nm a b id to key]):=by
 intro M w v ⟨s,hs,hv⟩
 exact (Ae [int a,int b,int id,bD nm a b id to key]) M w v (AY (ps:=BC (Fx nm a b id to key s)) (qs:=[int a,int b,int id,bD nm a b id to key]) ⟨Pr.le_refl _,Pr.le_refl _,Pr.le_refl _,fun M w v h=>⟨s,hs,h⟩,trivial⟩ M w v hv)
theorem Xy {β:Type} {f:β→Pr} {M:Av} {w:World}:∀{ps:List Pr} {cs:List Value},HL M w (ps++[Cp.ex f]) cs→∃s,HL M w (ps++[f s]) cs
 |[],[c],h=>by obtain ⟨⟨s,hs⟩,h2⟩:=h;exact ⟨s,hs,h2⟩
 |[],[],h=>h.elim
 |[],_::_::_,h=>h.2.elim
 |p::ps,[],h=>h.elim
 |p::ps,c::cs,h=>by obtain ⟨s,hs⟩:=Xy (ps:=ps) (cs:=cs) h.2;exact ⟨s,h.1,hs⟩
theorem Rp {φ:Prop} {p0:Pr} {M:Av} {w:World}:∀{ps:List Pr} {cs:List Value},HL M w (ps++[fact φ p0]) cs→HL M w (ps++[p0]) cs
 |[],[c],h=>⟨h.1.2,h.2⟩
 |[],[],h=>h.elim
 |[],_::_::_,h=>h.2.elim
 |p::ps,[],h=>h.elim
 |p::ps,c::cs,h=>⟨h.1,Rp (ps:=ps) (cs:=cs) h.2⟩
theorem Xz {es:List BJ} {p0 p1 p2 p3:Int} {nm:List UInt8} {a b id key:Int} (h:∀s:Int,bC es ⟨p0,p1,p2,p3,Fx nm a b id 901 key s⟩):(agg [int p0,int p1,int p2,int p3,int a,int b,int id,bD nm a b id 901 key]).le (Cp.ex fun c:B8=>fact (bC es c) (agg (B3 c))):=by
 intro M w v ⟨cs,h1,h2,h3⟩
 obtain ⟨s,h4⟩:=Xy (ps:=[int p0,int p1,int p2,int p3,int a,int b,int id]) h3
 exact ⟨⟨p0,p1,p2,p3,Fx nm a b id 901 key s⟩,h s,cs,h1,h2,Rp (ps:=[int p0,int p1,int p2,int p3,int a,int b,int id]) h4⟩
theorem dI {nm:List UInt8} (h:nm∈Fy) {a b id key s:Int}:(Fx nm a b id 901 key s).fits∧(Fx nm a b id 901 key s).small:=by
 have hn:=(QG _ h).2
 refine ⟨fun c hc=> ?_,⟨by simp,fun c hc=>by simp at hc;subst hc;simp⟩⟩
 simp at hc;subst hc
 exact ⟨by show 4≤maxLen;unfold maxLen;omega,by show nm.length≤maxLen;unfold maxLen;omega,fun n hn2=>by simp at hn2;subst hn2;unfold maxLen;omega⟩
theorem dJ {b:Nat} {s:DS} {es:List BJ} {p1 p2:Pr} (hs:Xu es) (hl:1≤es.length∧es.length≤3):BE prog 16 [ptr b 0,agg [slice 9 (es.map Aj),p1,p2]] (Cp.ex fun c:B8=>fact (bC es c) (agg (B3 c))) (E_ b s) (fun _=>IL 101 b):=by
 refine BE.of func16 rfl rfl (by exact Nb rfl) fun M0 w0 S rs M1 w1=> ?_
 have hv:=s.Dk (n:=es.length) (by omega)
 obtain ⟨e,he⟩:=at_ (l:=es) (k:=(s.val es.length).toNat) (by omega)
 have hse:=hs _ e he
 have hnm:=List.mem_of_getElem? hse.name
 have Nq:=(MK _ (Gq hse)).2
 obtain ⟨y0,hy0⟩:∃y0,e.ids=[y0]:=by obtain ⟨s_,_,h_⟩:=hse.ids;exact ⟨_,h_⟩
 have E3:e.ids.length=1:=by rw [hy0];rfl
 have HG:=s.CW.Dk (n:=12) (by omega)
 have hv3:=s.CW.CW.Dk (n:=16) (by omega)
 have hv4:=s.CW.CW.Dk (n:=4) (by omega)
 have hv5:=s.CW.CW.Dk (n:=3) (by omega)
 have hv6:=s.CW.CW.CW.Dk (n:=2) (by omega)
 have hv7:=s.CW.CW.CW.CW.Dk (n:=3) (by omega)
 have hv8:=s.CW.CW.CW.CW.CW.Dk (n:=2) (by omega)
 refine Tr.seq (Tr.Ax (tp rfl (Ba rfl (Va rfl)) ?_))
 refine Tl rfl rfl rfl rfl z29 JV (fun b1=> ?_)
 refine ao ?_
 refine ao ?_
 refine TO.FF 1 rfl rfl (by decide) (AV rfl rfl (by decide) rfl (Bu (by omega) (by omega)) ⟨ke rfl,ke rfl,trivial⟩) ?_
 refine ao ?_
 refine ao ?_
 refine tp rfl (AB rfl underlying37 BI (vl rfl) (vl rfl) (by omega) (Du he)) (tp rfl (AO rfl Bh BI (vl rfl) rfl rfl) ?_)
 refine Tl rfl rfl rfl rfl z32 Dl (fun b2=> ?_)
 refine sf 0 6 ⟨rfl,rfl,rfl⟩ rfl rfl rfl rfl ?_
 refine ao ?_
 refine Ez 0 4 5 6 rfl ?_
 refine ao ?_
 refine TO.FF 1 rfl rfl (by decide) (AV rfl rfl (by decide) rfl (Bu (by omega) (by omega)) ⟨ke rfl,ke rfl,trivial⟩) ?_
 refine ao ?_
 refine Tl rfl rfl rfl rfl z29 JV (fun b3=> ?_)
 refine TO.AR 0 rfl rfl rfl (vl rfl) (Va rfl) rfl CK rfl rfl ?_
 refine ao ?_
 refine a2 ?_
 refine GS 0 4 6 7 24 25 rfl ?_
 refine Tr.cn rfl ?_ ?_<;>intro h1 q1
 refine Tr.rx (xm rfl (Cx.ef 2 rfl rfl (by decide) (AV rfl rfl (by decide) rfl (Bu (by omega) (by omega)) ⟨ke rfl,ke rfl,trivial⟩) ?_))
 refine ay ?_
 refine Cx.ef 2 rfl rfl (by decide) (AV rfl rfl (by decide) rfl (Bu (by omega) (by omega)) ⟨ke rfl,ke rfl,trivial⟩) ?_
 refine ay ?_
 refine Cx.nil ⟨by kernel_rfl,?_⟩
 refine A9.done IY ?_
 refine ac ?_
 refine CL 4 7 rfl ?_
 refine ao ?_
 refine TO.AR 1 rfl rfl rfl (vl rfl) (Va rfl) rfl CK rfl rfl ?_
 refine ao ?_
 refine Tr.drop 0 (Tr.ret (Fin.DY 1 _ rfl rfl (Fin.Ds [_] rfl (AL.cell 0 rfl rfl CC CK rfl (Lr)) ?_ (fun _ _ _ _=>rfl))))
 · (refine A5 ⟨_,_,_,_,A8⟩ (A2 ?_ (AY ⟨Lr,Lr,Lr,Lr,Lr,Lr,Lr,AD 15,trivial⟩));exact ⟨hv.1,hv.2,⟨by show 1≤1+_;omega,by show 1+_≤12;omega⟩,Ck,BX⟩)
 refine an ?_ ?_<;>intro h2 q2
 refine ao ?_
 refine TO.FF 2 rfl rfl (by decide) (AV rfl rfl (by decide) rfl (Bu (by omega) (by omega)) ⟨ke rfl,ke rfl,trivial⟩) ?_
 refine ao ?_
 refine TO.CT 0 rfl rfl (Ab rfl rfl (vl rfl) (Vo rfl) Cg rfl (by exact Nb rfl) rfl) ?_
 refine ao ?_
 refine ao ?_
 refine TO.cases 48 rfl (fun h3=> ?_) (fun h3=> ?_)
 have q3:=GC.IE h3
 refine TO.OX rfl rfl rfl h3 rfl (by decide) (BL rfl (vl rfl)) (TO.ez 2 rfl rfl rfl h3 rfl rfl (by decide) (AV rfl rfl (by decide) rfl (NJ (by omega) (by omega)) ⟨ke rfl,ke rfl,trivial⟩) (TO.OX rfl rfl rfl h3 rfl (by decide) (HK rfl (vl rfl)) ?_))
 refine ao ?_
 refine EM 0 4 6 7 52 rfl ?_
 refine Tr.cn rfl ?_ ?_<;>intro h4 q4
 have hv9:=s.CW.CW.CW.CW.Dk (n:=e.AF.length) (by omega)
 obtain ⟨su,hsu⟩:=at_ (l:=e.AF) (k:=(s.CW.CW.CW.CW.val e.AF.length).toNat) (by omega)
 refine Tr.rx ?_
 refine ay ?_
 refine Cx.ef 2 rfl rfl (by decide) (AV rfl rfl (by decide) rfl (Bu (by omega) (by omega)) ⟨ke rfl,ke rfl,trivial⟩) (xo rfl (fun _=>AB rfl underlying22 Cg (vl rfl) (vl rfl) (by omega) (Du (f:=fun n:Int=>[int n]) hsu)) ?_)
 refine ay ?_
 refine Cx.nil ⟨by kernel_rfl,?_⟩
 refine A9.done IY ?_
 refine ac ?_
 refine CL 4 7 rfl ?_
 refine ao ?_
 refine TO.AR 1 rfl rfl rfl (vl rfl) (Va rfl) rfl CK rfl rfl ?_
 refine ao ?_
 refine Tr.drop 0 (Tr.ret (Fin.DY 1 _ rfl rfl (Fin.Ds [_] rfl (AL.cell 0 rfl rfl CC CK rfl (Lr)) ?_ (fun _ _ _ _=>rfl))))
 · (refine A5 ⟨_,_,_,_,A8⟩ (A2 ?_ (AY ⟨Lr,Lr,Lr,Lr,Lr,Lr,Lr,AD 15,trivial⟩));exact ⟨hv.1,hv.2,⟨by show 1≤1+_;omega,by show 1+_≤12;omega⟩,Ck,BX⟩)
 refine ac ?_
 refine ao ?_
 refine TO.AR 1 rfl rfl rfl (vl rfl) (Va rfl) rfl CK rfl rfl ?_
 refine ao ?_
 refine Tr.drop 0 (Tr.ret (Fin.DY 1 _ rfl rfl (Fin.Ds [_] rfl (AL.cell 0 rfl rfl CC CK rfl (Lr)) ?_ (fun _ _ _ _=>rfl))))
 · (refine A5 ⟨_,_,_,_,A8⟩ (A2 ?_ (AY ⟨Lr,Lr,Lr,Lr,Lr,Lr,Lr,AD 15,trivial⟩));exact ⟨hv.1,hv.2,⟨by show 1≤1+_;omega,by show 1+_≤12;omega⟩,Ck,BX⟩)
 have q3:=GC.IE h3
 refine TO.N3 rfl rfl rfl (EK h3) rfl (by decide) (TO.N3 rfl rfl rfl (EK h3) rfl (by decide) (TO.N3 rfl rfl rfl (EK h3) rfl (by decide) ?_))
 refine ao ?_
 refine EM 0 4 6 7 52 rfl ?_
 refine ac ?_
 refine ao ?_
 refine TO.AR 1 rfl rfl rfl (vl rfl) (Va rfl) rfl CK rfl rfl ?_
 refine ao ?_
 refine Tr.drop 0 (Tr.ret (Fin.DY 1 _ rfl rfl (Fin.Ds [_] rfl (AL.cell 0 rfl rfl CC CK rfl (Lr)) ?_ (fun _ _ _ _=>rfl))))
 · (refine A5 ⟨_,_,_,_,A8⟩ (A2 ?_ (AY ⟨Lr,Lr,Lr,Lr,Lr,Lr,Lr,AD 15,trivial⟩));exact ⟨hv.1,hv.2,⟨by show 1≤1+_;omega,by show 1+_≤12;omega⟩,Ck,BX⟩)
 refine an ?_ ?_<;>intro h5 q5
 refine ac ?_
 refine Tr.cond rfl (fun _=> ?_) (fun h=>nomatch h5.symm.trans h)
 refine ao ?_
 refine TO.FF 2 rfl rfl (by decide) (AV rfl rfl (by decide) rfl (Bu (by omega) (by omega)) ⟨ke rfl,ke rfl,trivial⟩) ?_
 refine ao ?_
 refine TO.CT 0 rfl rfl (Ab rfl rfl (vl rfl) (Vo rfl) Cg rfl (by exact Nb rfl) rfl) ?_
 refine ao ?_
 refine CL 4 7 rfl ?_
 refine ao ?_
 refine TO.AR 1 rfl rfl rfl (vl rfl) (Va rfl) rfl CK rfl rfl ?_
 refine ao ?_
 refine Tr.drop 0 (Tr.ret (Fin.DY 1 _ rfl rfl (Fin.Ds [_] rfl (AL.cell 0 rfl rfl CC CK rfl (Lr)) ?_ (fun _ _ _ _=>rfl))))
 · (refine A5 ⟨_,_,_,_,A8⟩ (A2 ?_ (AY ⟨Lr,Lr,Lr,Lr,Lr,Lr,Lr,AD 15,trivial⟩));exact ⟨hv.1,hv.2,⟨by show 1≤1+_;omega,by show 1+_≤12;omega⟩,Ck,BX⟩)
 refine an ?_ ?_<;>intro h6 q6
 refine ao ?_
 refine TO.FF 2 rfl rfl (by decide) (AV rfl rfl (by decide) rfl (Bu (by omega) (by omega)) ⟨ke rfl,ke rfl,trivial⟩) ?_
 refine ao ?_
 refine TO.CT 0 rfl rfl (Ab rfl rfl (vl rfl) (Vo rfl) Cg rfl (by exact Nb rfl) rfl) ?_
 refine ao ?_
 refine CL 4 7 rfl ?_
 refine ao ?_
 refine TO.AR 1 rfl rfl rfl (vl rfl) (Va rfl) rfl CK rfl rfl ?_
 refine ao ?_
 refine Tr.drop 0 (Tr.ret (Fin.DY 1 _ rfl rfl (Fin.Ds [_] rfl (AL.cell 0 rfl rfl CC CK rfl (Lr)) ?_ (fun _ _ _ _=>rfl))))
 · (refine A5 ⟨_,_,_,_,A8⟩ (A2 ?_ (AY ⟨Lr,Lr,Lr,Lr,Lr,Lr,Lr,AD 15,trivial⟩));exact ⟨hv.1,hv.2,⟨by show 1≤1+_;omega,by show 1+_≤12;omega⟩,Ck,BX⟩)
 refine ac ?_
 refine GS 0 4 6 7 24 70 rfl ?_
 refine Tr.cn rfl ?_ ?_<;>intro h7 q7
 refine Tr.rx ?_
 refine ay ?_
 refine Cx.ef 2 rfl rfl (by decide) (AV rfl rfl (by decide) rfl (Bu (by omega) (by omega)) ⟨ke rfl,ke rfl,trivial⟩) ?_
 refine ay ?_
 refine xo rfl (fun _=>R9 (sG) rfl) (xo rfl (fun _=>R9 (Xr) rfl) (xo rfl (fun _=>AM (xs:=[.tmp 80,.tmp 81]) (rows:=[_,_]) rfl rfl underlying114 C3 z24 rfl (by decide) ⟨⟨(by exact rfl),(Va rfl)⟩,⟨⟨(by exact rfl),(Va rfl)⟩,trivial⟩⟩ (by decide)) ?_))
 refine xm rfl (Cx.ef 2 rfl rfl (by decide) (AV rfl rfl (by decide) rfl (Bu (by omega) (by omega)) ⟨ke rfl,ke rfl,trivial⟩) (xo rfl (fun _=>AB rfl underlying114 C3 (Kf rfl) (vl rfl) (by omega) (nP hv6)) ?_))
 refine ay ?_
 refine Cx.ef 2 rfl rfl (by decide) (AV rfl rfl (by decide) rfl (Bu (by omega) (by omega)) ⟨ke rfl,ke rfl,trivial⟩) ?_
 refine ay ?_
 refine Cx.ef 2 rfl rfl (by decide) (AV rfl rfl (by decide) rfl (Bu (by omega) (by omega)) ⟨ke rfl,ke rfl,trivial⟩) ?_
 refine xo rfl (fun _=>Cu rfl (vl rfl) (vl rfl) ?hin) ?_;case hin=>unfold GP;omega
 refine xo rfl (fun _=>kc5 (S2 (name:=e.name) (a:=if s.CW.CW.CW.val 2=0 then 7 else 5) (b:=if s.CW.CW.CW.val 2=0 then 256 else 2048) (id:=200+s.CW.CW.CW.CW.val 3) (to:=901) (key:=1+s.CW.CW.CW.CW.CW.val 2) (nR hnm (nQ _) (by omega) (by omega) (by omega)) (nS (nQ _) (by omega)) (by omega)) rfl rfl rfl rfl rfl rfl) ?_
 refine ay ?_
 refine Cx.CT 0 rfl rfl (Ab rfl rfl (vl rfl) (VL.le (vl rfl) (S5)) Be rfl (by exact Nb rfl) rfl) ?_
 refine Cx.nil ⟨by kernel_rfl,?_⟩
 refine A9.done IY ?_
 refine ac ?_
 refine CL 4 7 rfl ?_
 refine ao ?_
 refine TO.AR 1 rfl rfl rfl (vl rfl) (Va rfl) rfl CK rfl rfl ?_
 refine ao ?_
 refine Tr.drop 0 (Tr.ret (Fin.DY 1 _ rfl rfl (Fin.Ds [_] rfl (AL.cell 0 rfl rfl CC CK rfl (Lr)) ?_ (fun _ _ _ _=>rfl))))
 · exact Xz (fun s_=>⟨hv.1,hv.2,⟨by show 1≤1+_;omega,by show 1+_≤12;omega⟩,(dI hnm).1,(dI hnm).2⟩)
 refine an ?_ ?_<;>intro h8 q8
 refine ao ?_
 refine TO.FF 2 rfl rfl (by decide) (AV rfl rfl (by decide) rfl (Bu (by omega) (by omega)) ⟨ke rfl,ke rfl,trivial⟩) ?_
 refine ao ?_
 refine TO.CT 0 rfl rfl (Ab rfl rfl (vl rfl) (Vo rfl) Cg rfl (by exact Nb rfl) rfl) ?_
 refine ao ?_
 refine ao ?_
 refine TO.cases 106 rfl (fun h9=> ?_) (fun h9=> ?_)
 have q9:=GC.IE h9
 refine TO.OX rfl rfl rfl h9 rfl (by decide) (BL rfl (vl rfl)) (TO.ez 2 rfl rfl rfl h9 rfl rfl (by decide) (AV rfl rfl (by decide) rfl (NJ (by omega) (by omega)) ⟨ke rfl,ke rfl,trivial⟩) (TO.OX rfl rfl rfl h9 rfl (by decide) (HK rfl (vl rfl)) ?_))
 refine ao ?_
 refine EM 0 4 6 7 110 rfl ?_
 refine Tr.cn rfl ?_ ?_<;>intro h10 OZ
 have hv9:=s.CW.CW.CW.CW.Dk (n:=e.ids.length) (by omega)
 obtain ⟨iy,hiy⟩:=at_ (l:=e.ids) (k:=(s.CW.CW.CW.CW.val e.ids.length).toNat) (by omega)
 refine Tr.rx ?_
 refine ay ?_
 refine Cx.ef 2 rfl rfl (by decide) (AV rfl rfl (by decide) rfl (Bu (by omega) (by omega)) ⟨ke rfl,ke rfl,trivial⟩) (xo rfl (fun _=>AB rfl underlying30 Be (vl rfl) (vl rfl) (by omega) (Du hiy)) ?_)
 refine ay ?_
 refine Cx.nil ⟨by kernel_rfl,?_⟩
 refine A9.done IY ?_
 refine ac ?_
 refine CL 4 7 rfl ?_
 refine ao ?_
 refine TO.AR 1 rfl rfl rfl (vl rfl) (Va rfl) rfl CK rfl rfl ?_
 refine ao ?_
 refine Tr.drop 0 (Tr.ret (Fin.DY 1 _ rfl rfl (Fin.Ds [_] rfl (AL.cell 0 rfl rfl CC CK rfl (Lr)) ?_ (fun _ _ _ _=>rfl))))
 · (refine A5 ⟨_,_,_,_,A8⟩ (A2 ?_ (AY ⟨Lr,Lr,Lr,Lr,Lr,Lr,Lr,AD 15,trivial⟩));exact ⟨hv.1,hv.2,⟨by show 1≤1+_;omega,by show 1+_≤12;omega⟩,Ck,BX⟩)
 refine ac ?_
 refine ao ?_
 refine TO.AR 1 rfl rfl rfl (vl rfl) (Va rfl) rfl CK rfl rfl ?_
 refine ao ?_
 refine Tr.drop 0 (Tr.ret (Fin.DY 1 _ rfl rfl (Fin.Ds [_] rfl (AL.cell 0 rfl rfl CC CK rfl (Lr)) ?_ (fun _ _ _ _=>rfl))))
 · (refine A5 ⟨_,_,_,_,A8⟩ (A2 ?_ (AY ⟨Lr,Lr,Lr,Lr,Lr,Lr,Lr,AD 15,trivial⟩));exact ⟨hv.1,hv.2,⟨by show 1≤1+_;omega,by show 1+_≤12;omega⟩,Ck,BX⟩)
 have q9:=GC.IE h9
 refine TO.N3 rfl rfl rfl (EK h9) rfl (by decide) (TO.N3 rfl rfl rfl (EK h9) rfl (by decide) (TO.N3 rfl rfl rfl (EK h9) rfl (by decide) ?_))
 refine ao ?_
 refine EM 0 4 6 7 110 rfl ?_
 refine ac ?_
 refine ao ?_
 refine TO.AR 1 rfl rfl rfl (vl rfl) (Va rfl) rfl CK rfl rfl ?_
 refine ao ?_
 refine Tr.drop 0 (Tr.ret (Fin.DY 1 _ rfl rfl (Fin.Ds [_] rfl (AL.cell 0 rfl rfl CC CK rfl (Lr)) ?_ (fun _ _ _ _=>rfl))))
 · (refine A5 ⟨_,_,_,_,A8⟩ (A2 ?_ (AY ⟨Lr,Lr,Lr,Lr,Lr,Lr,Lr,AD 15,trivial⟩));exact ⟨hv.1,hv.2,⟨by show 1≤1+_;omega,by show 1+_≤12;omega⟩,Ck,BX⟩)
 refine an ?_ ?_<;>intro h11 QX
 refine ac ?_
 refine Tr.cond rfl (fun _=> ?_) (fun h=>nomatch h11.symm.trans h)
 refine ao ?_
 refine TO.FF 2 rfl rfl (by decide) (AV rfl rfl (by decide) rfl (Bu (by omega) (by omega)) ⟨ke rfl,ke rfl,trivial⟩) ?_
 refine ao ?_
 refine TO.CT 0 rfl rfl (Ab rfl rfl (vl rfl) (Vo rfl) Cg rfl (by exact Nb rfl) rfl) ?_
 refine ao ?_
 refine CL 4 7 rfl ?_
 refine ao ?_
 refine TO.AR 1 rfl rfl rfl (vl rfl) (Va rfl) rfl CK rfl rfl ?_
 refine ao ?_
 refine Tr.drop 0 (Tr.ret (Fin.DY 1 _ rfl rfl (Fin.Ds [_] rfl (AL.cell 0 rfl rfl CC CK rfl (Lr)) ?_ (fun _ _ _ _=>rfl))))
 · (refine A5 ⟨_,_,_,_,A8⟩ (A2 ?_ (AY ⟨Lr,Lr,Lr,Lr,Lr,Lr,Lr,AD 15,trivial⟩));exact ⟨hv.1,hv.2,⟨by show 1≤1+_;omega,by show 1+_≤12;omega⟩,Ck,BX⟩)
 refine an ?_ ?_<;>intro h12 QY
 refine ao ?_
 refine TO.FF 2 rfl rfl (by decide) (AV rfl rfl (by decide) rfl (Bu (by omega) (by omega)) ⟨ke rfl,ke rfl,trivial⟩) ?_
 refine ao ?_
 refine TO.CT 0 rfl rfl (Ab rfl rfl (vl rfl) (Vo rfl) Cg rfl (by exact Nb rfl) rfl) ?_
 refine ao ?_
 refine CL 4 7 rfl ?_
 refine ao ?_
 refine TO.AR 1 rfl rfl rfl (vl rfl) (Va rfl) rfl CK rfl rfl ?_
 refine ao ?_
 refine Tr.drop 0 (Tr.ret (Fin.DY 1 _ rfl rfl (Fin.Ds [_] rfl (AL.cell 0 rfl rfl CC CK rfl (Lr)) ?_ (fun _ _ _ _=>rfl))))
 · (refine A5 ⟨_,_,_,_,A8⟩ (A2 ?_ (AY ⟨Lr,Lr,Lr,Lr,Lr,Lr,Lr,AD 15,trivial⟩));exact ⟨hv.1,hv.2,⟨by show 1≤1+_;omega,by show 1+_≤12;omega⟩,Ck,BX⟩)
 refine ac ?_
 refine EM 0 4 7 24 129 rfl ?_
 refine Tr.cn rfl ?_ ?_<;>intro HW Q_
 refine ac ?_
 refine Tr.cond rfl (fun _=> ?_) (fun h=>nomatch HW.symm.trans h)
 refine ao ?_
 refine TO.FF 2 rfl rfl (by decide) (AV rfl rfl (by decide) rfl (Bu (by omega) (by omega)) ⟨ke rfl,ke rfl,trivial⟩) ?_
 refine ao ?_
 refine TO.CT 0 rfl rfl (Ab rfl rfl (vl rfl) (Vo rfl) Cg rfl (by exact Nb rfl) rfl) ?_
 refine ao ?_
 refine ao ?_
 refine TO.AR 1 rfl rfl rfl (vl rfl) (Va rfl) rfl CK rfl rfl ?_
 refine ao ?_
 refine Tr.drop 0 (Tr.ret (Fin.DY 1 _ rfl rfl (Fin.Ds [_] rfl (AL.cell 0 rfl rfl CC CK rfl (Lr)) ?_ (fun _ _ _ _=>rfl))))
 · (refine A5 ⟨_,_,_,_,A8⟩ (A2 ?_ (AY ⟨Lr,Lr,Lr,Lr,Lr,Lr,Lr,AD 15,trivial⟩));exact ⟨hv.1,hv.2,⟨by show 1≤1+_;omega,by show 1+_≤12;omega⟩,Ck,BX⟩)
 refine an ?_ ?_<;>intro Pf YV
 refine ao ?_
 refine TO.FF 2 rfl rfl (by decide) (AV rfl rfl (by decide) rfl (Bu (by omega) (by omega)) ⟨ke rfl,ke rfl,trivial⟩) ?_
 refine ao ?_
 refine TO.CT 0 rfl rfl (Ab rfl rfl (vl rfl) (Vo rfl) Cg rfl (by exact Nb rfl) rfl) ?_
 refine ao ?_
 refine ao ?_
 refine TO.AR 1 rfl rfl rfl (vl rfl) (Va rfl) rfl CK rfl rfl ?_
 refine ao ?_
 refine Tr.drop 0 (Tr.ret (Fin.DY 1 _ rfl rfl (Fin.Ds [_] rfl (AL.cell 0 rfl rfl CC CK rfl (Lr)) ?_ (fun _ _ _ _=>rfl))))
 · (refine A5 ⟨_,_,_,_,A8⟩ (A2 ?_ (AY ⟨Lr,Lr,Lr,Lr,Lr,Lr,Lr,AD 15,trivial⟩));exact ⟨hv.1,hv.2,⟨by show 1≤1+_;omega,by show 1+_≤12;omega⟩,Ck,BX⟩)
 refine an ?_ ?_<;>intro QZ cr
 refine ac ?_
 refine Tr.cond rfl (fun _=> ?_) (fun h=>nomatch QZ.symm.trans h)
 refine ao ?_
 refine TO.FF 2 rfl rfl (by decide) (AV rfl rfl (by decide) rfl (Bu (by omega) (by omega)) ⟨ke rfl,ke rfl,trivial⟩) (tp rfl (AE rfl HR (vl rfl)) (TO.CT 0 rfl rfl (Ab rfl rfl (vl rfl) (Vo rfl) Cg rfl (by exact Nb rfl) rfl) ?_))
 refine ao ?_
 refine ao ?_
 refine TO.AR 1 rfl rfl rfl (vl rfl) (Va rfl) rfl CK rfl rfl ?_
 refine ao ?_
 refine Tr.drop 0 (Tr.ret (Fin.DY 1 _ rfl rfl (Fin.Ds [_] rfl (AL.cell 0 rfl rfl CC CK rfl (Lr)) ?_ (fun _ _ _ _=>rfl))))
 · (refine A5 ⟨_,_,_,_,A8⟩ (A2 ?_ (AY ⟨Lr,Lr,Lr,Lr,Lr,Lr,Lr,AD 15,trivial⟩));exact ⟨hv.1,hv.2,⟨by show 1≤1+_;omega,by show 1+_≤12;omega⟩,Ck,BX⟩)
 refine an ?_ ?_<;>intro h16 fI
 refine ao ?_
 refine TO.FF 2 rfl rfl (by decide) (AV rfl rfl (by decide) rfl (Bu (by omega) (by omega)) ⟨ke rfl,ke rfl,trivial⟩) (tp rfl (AE rfl HR (vl rfl)) (TO.CT 0 rfl rfl (Ab rfl rfl (vl rfl) (Vo rfl) Cg rfl (by exact Nb rfl) rfl) ?_))
 refine ao ?_
 refine CL 4 7 rfl ?_
 refine ao ?_
 refine TO.AR 1 rfl rfl rfl (vl rfl) (Va rfl) rfl CK rfl rfl ?_
 refine ao ?_
 refine Tr.drop 0 (Tr.ret (Fin.DY 1 _ rfl rfl (Fin.Ds [_] rfl (AL.cell 0 rfl rfl CC CK rfl (Lr)) ?_ (fun _ _ _ _=>rfl))))
 · (refine A5 ⟨_,_,_,_,A8⟩ (A2 ?_ (AY ⟨Lr,Lr,Lr,Lr,Lr,Lr,Lr,AD 15,trivial⟩));exact ⟨hv.1,hv.2,⟨by show 1≤1+_;omega,by show 1+_≤12;omega⟩,Ck,BX⟩)
 refine ac ?_
 refine ao ?_
 refine TO.AR 1 rfl rfl rfl (vl rfl) (Va rfl) rfl CK rfl rfl ?_
 refine ao ?_
 refine Tr.drop 0 (Tr.ret (Fin.DY 1 _ rfl rfl (Fin.Ds [_] rfl (AL.cell 0 rfl rfl CC CK rfl (Lr)) ?_ (fun _ _ _ _=>rfl))))
 · (refine A5 ⟨_,_,_,_,A8⟩ (A2 ?_ (AY ⟨Lr,Lr,Lr,Lr,Lr,Lr,Lr,AD 15,trivial⟩));exact ⟨hv.1,hv.2,⟨by show 1≤1+_;omega,by show 1+_≤12;omega⟩,Ck,BX⟩)
structure BJ.sz (e:BJ) (n:Nat):Prop where
 name:e.name.length≤maxLen
 AF:e.AF.length≤n
 anchors:e.anchors.length≤n
 hashes:e.hashes.length≤n
 KF:e.ids.length≤n
 ids:∀x∈e.ids,x.fits∧x.small
theorem BJ.sz.fits {e:BJ} {n:Nat} (h:e.sz n):e.fits:=⟨h.name,fun x hx=>(h.ids x hx).1⟩
theorem BJ.sz.small {e:BJ} {n:Nat} (h:e.sz n) (hn:n≤1000000):e.small:=⟨by have:=h.AF;omega,by have:=h.anchors;omega,by have:=h.hashes;omega,by have:=h.KF;omega,fun x hx=>(h.ids x hx).2⟩
theorem BJ.sz.le {e:BJ} {n m:Nat} (h:e.sz n) (hn:n≤m):e.sz m:=⟨h.name,Nat.le_trans h.AF hn,Nat.le_trans h.anchors hn,Nat.le_trans h.hashes hn,Nat.le_trans h.KF hn,h.ids⟩
theorem UF {i:Nat} {e:BJ} (h:S3 i e):e.sz 5:=by
 have hs:=MK _ (Gq h)
 have h1:=VQ h;have h2:=S4 h
 obtain ⟨s,hs1,LM⟩:=h.ids
 exact ⟨h1.name,hs.2,by rw [h.anchors];simp,by rw [h.hashes];simp,by rw [LM];simp,fun x hx=>⟨h1.ids x hx,h2.ids x hx⟩⟩
theorem ML {α:Type} {l:List α} {a:α} {i:Nat}:(l.take i++[a]++l.drop i).length≤l.length+1:=by simp [List.length_take,List.length_drop];omega
theorem MM {α:Type} {l:List α} {i:Nat}:(l.eraseIdx i).length≤l.length:=by rw [List.length_eraseIdx];split<;>omega
theorem GL:A8.fits∧A8.small:=⟨Ck,BX⟩
theorem bE {P:DO→Prop} {l:List DO} {x:DO} {i:Nat} (h:∀y∈l,P y) (hx:P x):∀y∈l.take i++[x]++l.drop i,P y:=by
 intro y hy
 simp only [List.mem_append,List.mem_cons,List.not_mem_nil,or_false] at hy
 rcases hy with (hy|rfl)|hy
 · exact h y (List.mem_of_mem_take hy)
 · exact hx
 · exact h y (List.mem_of_mem_drop hy)
theorem UG {e:BJ} {c:B8} {x:BJ} {b:B8} {n:Nat} (hc:ES c) (h:BB e c= .ok (x,b)) (hs:e.sz n) (hi:c.Cl.fits∧c.Cl.small):x.sz (n+1)∧b.Cl.fits∧b.Cl.small:=by
 have h1:=hs.AF;have h2:=hs.anchors;have h3:=hs.hashes;have h4:=hs.KF
 rcases T9 hc.1 with hk|hk|hk|hk|hk|hk|hk|hk|hk|hk|hk|hk
 · rw [MA hk] at h;(repeat' (split at h))<;>first|(cases h;done)|(injection h with h;obtain ⟨rfl,rfl⟩:=Prod.mk.inj h;exact ⟨⟨hs.name,Nat.le_trans ML (by omega),Nat.le_trans h2 (by omega),Nat.le_trans h3 (by omega),Nat.le_trans h4 (by omega),hs.ids⟩,GL⟩)
 · rw [MB hk] at h;(repeat' (split at h))<;>first|(cases h;done)|(injection h with h;obtain ⟨rfl,rfl⟩:=Prod.mk.inj h;exact ⟨⟨hs.name,Nat.le_trans MM (by omega),Nat.le_trans h2 (by omega),Nat.le_trans h3 (by omega),Nat.le_trans h4 (by omega),hs.ids⟩,GL⟩)
 · rw [MC hk] at h;(repeat' (split at h))<;>first|(cases h;done)|(injection h with h;obtain ⟨rfl,rfl⟩:=Prod.mk.inj h;exact ⟨⟨hs.name,Nat.le_trans h1 (by omega),Nat.le_trans h2 (by omega),Nat.le_trans h3 (by omega),Nat.le_trans h4 (by omega),hs.ids⟩,GL⟩)
 · rw [MD hk] at h;(repeat' (split at h))<;>first|(cases h;done)|(injection h with h;obtain ⟨rfl,rfl⟩:=Prod.mk.inj h;exact ⟨⟨hs.name,Nat.le_trans h1 (by omega),Nat.le_trans h2 (by omega),Nat.le_trans h3 (by omega),Nat.le_trans h4 (by omega),hs.ids⟩,GL⟩)
 · rw [ME hk] at h;(repeat' (split at h))<;>first|(cases h;done)|(injection h with h;obtain ⟨rfl,rfl⟩:=Prod.mk.inj h;exact ⟨⟨hs.name,Nat.le_trans h1 (by omega),Nat.le_trans h2 (by omega),Nat.le_trans h3 (by omega),Nat.le_trans ML (by omega),bE hs.ids hi⟩,GL⟩)
 · rw [MF hk] at h;(repeat' (split at h))<;>first|(cases h;done)|(injection h with h;obtain ⟨rfl,rfl⟩:=Prod.mk.inj h;exact ⟨⟨hs.name,Nat.le_trans h1 (by omega),Nat.le_trans h2 (by omega),Nat.le_trans h3 (by omega),Nat.le_trans MM (by omega),fun y hy=>hs.ids y (List.mem_of_mem_eraseIdx hy)⟩,hs.ids _ (List.mem_of_getElem? (by assumption))⟩)
 · rw [MG hk] at h;(repeat' (split at h))<;>first|(cases h;done)|(injection h with h;obtain ⟨rfl,rfl⟩:=Prod.mk.inj h;exact ⟨⟨hs.name,Nat.le_trans h1 (by omega),Nat.le_trans ML (by omega),Nat.le_trans h3 (by omega),Nat.le_trans h4 (by omega),hs.ids⟩,GL⟩)
 · rw [MH hk] at h;(repeat' (split at h))<;>first|(cases h;done)|(injection h with h;obtain ⟨rfl,rfl⟩:=Prod.mk.inj h;exact ⟨⟨hs.name,Nat.le_trans h1 (by omega),Nat.le_trans MM (by omega),Nat.le_trans h3 (by omega),Nat.le_trans h4 (by omega),hs.ids⟩,GL⟩)
 · rw [MI hk] at h;(repeat' (split at h))<;>first|(cases h;done)|(injection h with h;obtain ⟨rfl,rfl⟩:=Prod.mk.inj h;exact ⟨⟨hs.name,Nat.le_trans h1 (by omega),Nat.le_trans h2 (by omega),Nat.le_trans ML (by omega),Nat.le_trans h4 (by omega),hs.ids⟩,GL⟩)
 · rw [KI hk] at h;(repeat' (split at h))<;>first|(cases h;done)|(injection h with h;obtain ⟨rfl,rfl⟩:=Prod.mk.inj h;exact ⟨⟨hs.name,Nat.le_trans h1 (by omega),Nat.le_trans h2 (by omega),Nat.le_trans MM (by omega),Nat.le_trans h4 (by omega),hs.ids⟩,GL⟩)
 · rw [KJ hk] at h;(repeat' (split at h))<;>first|(cases h;done)|(injection h with h;obtain ⟨rfl,rfl⟩:=Prod.mk.inj h;exact ⟨⟨hs.name,Nat.le_trans h1 (by omega),Nat.le_trans h2 (by omega),Nat.le_trans h3 (by omega),Nat.le_trans h4 (by omega),hs.ids⟩,GL⟩)
 · rw [KK hk] at h;(repeat' (split at h))<;>first|(cases h;done)|(injection h with h;obtain ⟨rfl,rfl⟩:=Prod.mk.inj h;exact ⟨⟨hs.name,Nat.le_trans h1 (by omega),Nat.le_trans h2 (by omega),Nat.le_trans h3 (by omega),Nat.le_trans h4 (by omega),hs.ids⟩,GL⟩)
theorem bF {e:BJ} {c:B8} {x:BJ} {b:B8} {n:Nat} (h:CY e c=(x,b,0)) (hs:e.sz n) (hi:c.Cl.fits∧c.Cl.small):x.sz (n+1)∧b.Cl.fits∧b.Cl.small:=by
 obtain ⟨_,h2,h3,_⟩:=VF h
 exact UG h2 h3 hs hi
def bG (n:Nat):Bool:=decide ((97≤n∧n≤122)∨(65≤n∧n≤90)∨(48≤n∧n≤57)∨n=45∨n=95∨n=46)
theorem S6:∀n∈List.range 256,Co [45,95,46] (UInt8.ofNat n)=bG n:=by decide+kernel
theorem Ot (c:UInt8):Co [45,95,46] c=bG c.toNat:=by
 have h:=S6 c.toNat (List.mem_range.2 c.toNat_lt)
 rw [UInt8.ofNat_toNat] at h;exact h
theorem X0 {s:List UInt8}  :A4 prog 124 [str s] (bool (Hz s)):=by
 refine fo func124 rfl ⟨rfl,rfl⟩ fun M0 w0=> ?_
 refine ac ?_
 refine ag ?_ ?_<;>intro h1 q1
 refine a3 ?_
 · refine bool_eq ?_;unfold Hz;rw [Bool.and_eq_false_iff.2 (.inr (by simp;omega))]
 refine an ?_ ?_<;>intro h2 q2
 refine a2 ?_
 · refine bool_eq ?_;unfold Hz;rw [Bool.and_eq_false_iff.2 (.inr (by simp;omega))]
 refine a2 ?_
 refine Tr.block (Tr.BW [(0,_)] ⟨ke rfl,trivial⟩ (fun k:Nat=>[(3,int ((k:Nat):Int))]) (fun k:Nat=>k≤(s).length∧(∀j y,j<k→s[j]? =some y→(!Co [45,95,46] y)=false)) (fun k:Nat=>(s).length-k) 0 (⟨Nat.zero_le _,fun j y hj=>absurd hj (by omega)⟩) ⟨ke rfl,trivial⟩ ?_)
 rintro k ⟨Bk,Ac⟩
 refine an ?_ ?_<;>intro h3 q3
 have Ao:k<(s).length:=AZ h3
 obtain ⟨c,An⟩:=at_ Ao
 · repeat' first|(refine bool_eq ?_;unfold Hz;rw [HX (p:=Co [45,95,46]) An (by rw [Ot];unfold bG;simp;omega)];rfl)|(exact Fin.AG (k+1) ⟨⟨Ao,D_ (p:=fun c=> !Co [45,95,46] c) An (by rw [Ot];unfold bG;simp;omega) Ac⟩,by omega⟩ ⟨⟨_,rfl,AS k⟩,ke rfl,trivial⟩)|refine co rfl (Lu rfl underlying9 (vl rfl) (vl rfl) (by omega) (PO (by assumption))) ?_|refine ac ?_|(refine Tr.cn rfl ?_ ?_<;>intro h q)|(refine Ch.cg rfl rfl rfl ?_ ?_<;>intro h q)
 have BQ:k=(s).length:=by have:=Aa h3;omega
 subst BQ
 refine a3 ?_
 · refine bool_eq ?_;unfold Hz;rw [Fh Ac,Bool.true_and];symm;rw [decide_eq_true_eq];omega
theorem DA {a b:Int}  :A4 prog 218 [int a,int b] (agg [int a,int b]):=by
 refine fo func218 rfl ⟨rfl,rfl⟩ fun M0 w0=>(Tr.seq (Tr.Ax ?_))
 refine Tl rfl rfl rfl rfl z24 DZ (fun b1=> ?_)
 refine ap ?_
 refine ap ?_
 refine Tr.ret (Fin.CG rfl (AL.cell 0 rfl rfl CM C3 rfl (Lr)) ?_)
 · exact Lr
theorem Cd {a l m x1 y1 x2 y2 x3 y3 x4 y4:Int} {s:List UInt8}  :A4 prog 219 [int a,str s,agg [int x1,int y1],agg [int x2,int y2],agg [int x3,int y3],agg [int x4,int y4],int l,int m] (agg Cy):=by
 refine A4.of func219 rfl rfl (by exact Nb rfl) fun M0 w0=> ?_
 refine Tr.seq (Tr.Ax ?_)
 iterate 4 refine tp rfl (Ba rfl (Va rfl)) ?_
 refine Tl rfl rfl rfl rfl SO J0 (fun b1=> ?_)
 refine TO.nil (Fin.go (Tr.seq (Tr.Ax (tm rfl (tm rfl ?_)))))
 iterate 4 refine tp rfl (AO rfl CM C3 (vl rfl) rfl rfl) ?_
 refine tm rfl (tm rfl (tp rfl (As (rows:=[(0,[_]),(1,[_]),(2,_),(3,_),(4,_),(5,_),(6,[_]),(7,[_])]) rfl Tg J0 ⟨⟨rfl,(Vo rfl)⟩,⟨⟨rfl,(Vo rfl)⟩,⟨⟨rfl,(Va rfl)⟩,⟨⟨rfl,(Va rfl)⟩,⟨⟨rfl,(Va rfl)⟩,⟨⟨rfl,(Va rfl)⟩,⟨⟨rfl,(Vo rfl)⟩,⟨⟨rfl,(Vo rfl)⟩,trivial⟩⟩⟩⟩⟩⟩⟩⟩ rfl) (TO.re 25 (agg Cy) rfl (Cq rfl) (TO.AR 0 rfl rfl rfl (vl rfl) (Va rfl) rfl Fw rfl rfl (TO.nil (Fin.go (DD 16 rfl (Tr.ret (Fin.CG rfl (AL.cell 0 rfl rfl IQ Fw rfl (Lr)) ?_)))))))))
 · exact Lr
theorem S7   :A4 prog 179 [] (slice 12 C_):=by
 refine fo func179 rfl ⟨rfl,rfl⟩ fun M0 w0=> ?_
 refine ac ?_
 refine Tr.seq (Tr.Ax (tp rfl (Dc (DA) rfl rfl rfl) (tp rfl (Dc (DA) rfl rfl rfl) (tp rfl (As (rows:=[]) rfl Ny DZ trivial rfl) ?_))))
 refine Tl rfl rfl rfl rfl z24 DZ (fun b1=> ?_)
 refine Tl rfl rfl rfl rfl z24 DZ (fun b2=> ?_)
 refine Tl rfl rfl rfl rfl z24 DZ (fun b3=> ?_)
 refine sf 2 1 ⟨rfl,rfl,rfl⟩ rfl rfl rfl rfl ?_
 refine sf 1 2 ⟨rfl,rfl,rfl⟩ rfl rfl rfl rfl ?_
 refine sf 0 3 ⟨rfl,rfl,rfl⟩ rfl rfl rfl rfl ?_
 refine ao ?_
 refine Tr.seq (Tr.Ax (tp rfl (Dc (DA) rfl rfl rfl) (tp rfl (Dc (DA) rfl rfl rfl) ?_)))
 refine Tl rfl rfl rfl rfl z24 DZ (fun b4=> ?_)
 refine Tl rfl rfl rfl rfl z24 DZ (fun b5=> ?_)
 refine sf 1 4 ⟨rfl,rfl,rfl⟩ rfl rfl rfl rfl ?_
 refine sf 0 5 ⟨rfl,rfl,rfl⟩ rfl rfl rfl rfl ?_
 refine ao ?_
 refine EM 1 2 3 4 5 rfl (Tr.seq (Tr.Ax (tp rfl (Dc (DA) rfl rfl rfl) (tp rfl (Dc (DA) rfl rfl rfl) (tp rfl (Dc (DA) rfl rfl rfl) ?_)))))
 refine Tl rfl rfl rfl rfl z24 DZ (fun b6=> ?_)
 refine Tl rfl rfl rfl rfl z24 DZ (fun b7=> ?_)
 refine Tl rfl rfl rfl rfl z24 DZ (fun b8=> ?_)
 refine sf 2 6 ⟨rfl,rfl,rfl⟩ rfl rfl rfl rfl ?_
 refine sf 1 7 ⟨rfl,rfl,rfl⟩ rfl rfl rfl rfl ?_
 refine sf 0 8 ⟨rfl,rfl,rfl⟩ rfl rfl rfl rfl ?_
 refine ao ?_
 refine Tc 1 2 3 4 5 6 7 8 rfl (Tr.seq (Tr.Ax ?_))
 iterate 4 refine tp rfl (Dc (DA) rfl rfl rfl) ?_
 refine Tl rfl rfl rfl rfl z24 DZ (fun b9=> ?_)
 refine Tl rfl rfl rfl rfl z24 DZ (fun b10=> ?_)
 refine Tl rfl rfl rfl rfl z24 DZ (fun b11=> ?_)
 refine Tl rfl rfl rfl rfl z24 DZ (fun b12=> ?_)
 refine sf 3 9 ⟨rfl,rfl,rfl⟩ rfl rfl rfl rfl ?_
 refine sf 2 10 ⟨rfl,rfl,rfl⟩ rfl rfl rfl rfl ?_
 refine sf 1 11 ⟨rfl,rfl,rfl⟩ rfl rfl rfl rfl ?_
 refine sf 0 12 ⟨rfl,rfl,rfl⟩ rfl rfl rfl rfl ?_
 refine ao ?_
 refine US 1 2 3 4 5 6 7 8 9 10 11 12 rfl (Tr.seq (Tr.Ax (tp rfl (Dc (DA) rfl rfl rfl) (tp rfl (Dc (DA) rfl rfl rfl) ?_))))
 refine Tl rfl rfl rfl rfl z24 DZ (fun b13=> ?_)
 refine Tl rfl rfl rfl rfl z24 DZ (fun b14=> ?_)
 refine sf 1 13 ⟨rfl,rfl,rfl⟩ rfl rfl rfl rfl ?_
 refine sf 0 14 ⟨rfl,rfl,rfl⟩ rfl rfl rfl rfl ?_
 refine ao ?_
 refine jh 1 2 3 4 5 6 7 8 9 10 11 12 13 14 rfl ?_
 refine ac ?_
 refine co rfl (AX rfl (Cd) ⟨ke rfl,ke rfl,ke rfl,ke rfl,ke rfl,ke rfl,ke rfl,ke rfl,trivial⟩) ?_
 refine ac ?_
 refine co rfl (AX rfl (Cd) ⟨ke rfl,ke rfl,ke rfl,ke rfl,ke rfl,ke rfl,ke rfl,ke rfl,trivial⟩) ?_
 refine ac ?_
 refine co rfl (AX rfl (Cd) ⟨ke rfl,ke rfl,ke rfl,ke rfl,ke rfl,ke rfl,ke rfl,ke rfl,trivial⟩) (co rfl (Dc (DA) rfl rfl rfl) (co rfl (Dc (DA) rfl rfl rfl) ?_))
 refine ac ?_
 refine co rfl (AX rfl (Cd) ⟨ke rfl,ke rfl,ke rfl,ke rfl,ke rfl,ke rfl,ke rfl,ke rfl,trivial⟩) (co rfl (Dc (DA) rfl rfl rfl) ?_)
 refine ac ?_
 refine co rfl (AX rfl (Cd) ⟨ke rfl,ke rfl,ke rfl,ke rfl,ke rfl,ke rfl,ke rfl,ke rfl,trivial⟩) ?_
 refine ac ?_
 refine co rfl (AX rfl (Cd) ⟨ke rfl,ke rfl,ke rfl,ke rfl,ke rfl,ke rfl,ke rfl,ke rfl,trivial⟩) (co rfl (Dc (DA) rfl rfl rfl) ?_)
 refine ac ?_
 refine co rfl (AX rfl (Cd) ⟨ke rfl,ke rfl,ke rfl,ke rfl,ke rfl,ke rfl,ke rfl,ke rfl,trivial⟩) ?_
 refine ac ?_
 refine co rfl (AX rfl (Cd) ⟨ke rfl,ke rfl,ke rfl,ke rfl,ke rfl,ke rfl,ke rfl,ke rfl,trivial⟩) (co rfl (AO rfl CM C3 (vl rfl) rfl rfl) (co rfl (Dc (DA) rfl rfl rfl) (co rfl (Dc (DA) rfl rfl rfl) (co rfl (AO rfl CM C3 (vl rfl) rfl rfl) (co rfl (AX rfl (Cd) ⟨ke rfl,ke rfl,ke rfl,ke rfl,ke rfl,ke rfl,ke rfl,ke rfl,trivial⟩) ?_)))))
 refine ac ?_
 refine co rfl (AX rfl (Cd) ⟨ke rfl,ke rfl,ke rfl,ke rfl,ke rfl,ke rfl,ke rfl,ke rfl,trivial⟩) (co rfl (Dc (DA) rfl rfl rfl) (co rfl (Dc (DA) rfl rfl rfl) ?_))
 refine ac ?_
 refine co rfl (AX rfl (Cd) ⟨ke rfl,ke rfl,ke rfl,ke rfl,ke rfl,ke rfl,ke rfl,ke rfl,trivial⟩) ?_
 refine ac ?_
 refine co rfl (AX rfl (Cd) ⟨ke rfl,ke rfl,ke rfl,ke rfl,ke rfl,ke rfl,ke rfl,ke rfl,trivial⟩) ?_
 refine ac ?_
 refine co rfl (AX rfl (Cd) ⟨ke rfl,ke rfl,ke rfl,ke rfl,ke rfl,ke rfl,ke rfl,ke rfl,trivial⟩) ?_
 refine ac ?_
 refine co rfl (AX rfl (Cd) ⟨ke rfl,ke rfl,ke rfl,ke rfl,ke rfl,ke rfl,ke rfl,ke rfl,trivial⟩) ?_
 refine ac ?_
 refine co rfl (AX rfl (Cd) ⟨ke rfl,ke rfl,ke rfl,ke rfl,ke rfl,ke rfl,ke rfl,ke rfl,trivial⟩) (co rfl (Dc (DA) rfl rfl rfl) ?_)
 refine ac ?_
 refine co rfl (AX rfl (Cd) ⟨ke rfl,ke rfl,ke rfl,ke rfl,ke rfl,ke rfl,ke rfl,ke rfl,trivial⟩) (co rfl (AM (xs:=[.tmp 33,.tmp 38,.tmp 43,.tmp 48,.tmp 53,.tmp 58,.tmp 63,.tmp 68,.tmp 73,.tmp 78,.tmp 83,.tmp 88,.tmp 93,.tmp 98,.tmp 103,.tmp 108]) (rows:=C_) rfl rfl underlying205 Fw SO rfl (by decide) ⟨⟨(by exact rfl),VL.le (vl rfl) (Ae _)⟩,⟨⟨(by exact rfl),VL.le (vl rfl) (Ae _)⟩,⟨⟨(by exact rfl),VL.le (vl rfl) (Ae _)⟩,⟨⟨(by exact rfl),VL.le (vl rfl) (Ae _)⟩,⟨⟨(by exact rfl),VL.le (vl rfl) (Ae _)⟩,⟨⟨(by exact rfl),VL.le (vl rfl) (Ae _)⟩,⟨⟨(by exact rfl),VL.le (vl rfl) (Ae _)⟩,⟨⟨(by exact rfl),VL.le (vl rfl) (Ae _)⟩,⟨⟨(by exact rfl),VL.le (vl rfl) (Ae _)⟩,⟨⟨(by exact rfl),VL.le (vl rfl) (Ae _)⟩,⟨⟨(by exact rfl),VL.le (vl rfl) (Ae _)⟩,⟨⟨(by exact rfl),VL.le (vl rfl) (Ae _)⟩,⟨⟨(by exact rfl),VL.le (vl rfl) (Ae _)⟩,⟨⟨(by exact rfl),VL.le (vl rfl) (Ae _)⟩,⟨⟨(by exact rfl),VL.le (vl rfl) (Ae _)⟩,⟨⟨(by exact rfl),VL.le (vl rfl) (Ae _)⟩,trivial⟩⟩⟩⟩⟩⟩⟩⟩⟩⟩⟩⟩⟩⟩⟩⟩ (by decide)) ?_)
 refine ac ?_
 refine DD 0 rfl ?_
 refine ac ?_
 · exact BT _ _
theorem VR {code:Int}  :A4 prog 125 [int code] (Eu [agg Cy,int (if 1≤code∧code≤16 then 0 else 8)]):=by
 refine fo func125 rfl ⟨rfl,rfl⟩ fun M0 w0=>(Tr.seq (Tr.Ax ?_))
 refine Tl rfl rfl rfl rfl SO J0 (fun b1=> ?_)
 refine ap ?_
 refine ag ?_ ?_<;>intro h1 q1
 refine ac ?_
 refine Tr.cond rfl (fun _=> ?_) (fun h=>nomatch h)
 refine Tr.seq (Tr.Ax (tp rfl (As (rows:=[]) rfl Tg J0 trivial rfl) (TO.AR 0 rfl rfl rfl (vl rfl) (Va rfl) rfl Fw rfl rfl (tm rfl (TO.nil (Fin.go (Tr.ret (Fin.AJ (Fin.DK rfl (AL.cell 0 rfl rfl IQ Fw rfl (Lr)) (AL.tmp rfl (Lr)) ?_)))))))))
 · exact A_ ⟨Cq rfl,int_eq (by rw [if_neg];simp_all;omega),trivial⟩
 refine an ?_ ?_<;>intro h2 q2
 refine ap ?_
 refine Tr.ret (Fin.AJ (Fin.DK rfl (AL.cell 0 rfl rfl IQ Fw rfl (Lr)) (AL.tmp rfl (Lr)) ?_))
 · exact A_ ⟨Cq rfl,int_eq (by rw [if_neg];simp_all),trivial⟩
 have hin:1≤code∧code≤16:=by omega
 refine ac ?_
 refine Tr.seq (Tr.Ax (tp rfl (R9 (S7) rfl) ?_))
 refine ap ?_
 refine tp rfl (AB rfl underlying205 Fw (vl rfl) (vl rfl) (by omega) (RN (by omega))) ?_
 refine ap ?_
 refine CL 2 3 rfl (Tr.ret (Fin.DK rfl (AL.cell 0 rfl rfl IQ Fw rfl (Lr)) (AL.tmp rfl (Lr)) ?_))
 · exact A_ ⟨Lr,int_eq (by rw [if_pos hin]),trivial⟩
theorem X1 {l:List Int} {v:Int}  :A4 prog 112 [ints l,int v] (bool (l.any fun x=>v==x)):=by
 refine fo func112 rfl ⟨rfl,rfl⟩ fun M0 w0=>(Tr.EC 0 rfl fun Ex=> ?_)
 refine a2 ?_
 refine Tr.block (Tr.BW [(0,_),(1,_)] (LH rfl) (fun k:Nat=>[(5,int ((k:Nat):Int))]) (fun k:Nat=>k≤(l).length∧((l.take k).any (fun x=>v==x)=false)) (fun k:Nat=>(l).length-k) 0 (⟨Nat.zero_le _,rfl⟩) ⟨ke rfl,trivial⟩ ?_)
 rintro k ⟨Bk,Ac⟩
 refine an ?_ ?_<;>intro h1 q1
 have Ao:k<(l).length:=AZ h1
 obtain ⟨x,An⟩:=at_ Ao
 · repeat' first|(refine bool_eq ?_;symm;rw [List.any_eq_true];exact ⟨_,List.mem_of_getElem? An,by simp_all⟩)|(exact Fin.AG (k+1) ⟨⟨Ao,(by rw [List.take_add_one,An,List.any_append,Ac];simp;omega)⟩,by omega⟩ ⟨⟨_,rfl,AS k⟩,ke rfl,ke rfl,trivial⟩)|refine co rfl (AB rfl underlying22 Cg (vl rfl) (vl rfl) (by omega) (by exact Ak (by assumption))) ?_|refine ac ?_|(refine Tr.cn rfl ?_ ?_<;>intro h q)
 have BQ:k=(l).length:=by have:=Aa h1;omega
 subst BQ
 refine a3 ?_
 · refine bool_eq ?_;rw [List.take_length] at Ac;exact Ac.symm
theorem BZ {l:List (List UInt8)}:Es l=true↔(∀j,j<l.length→nameAt l j=true)∧l.length≤8:=by unfold Es;rw [Bool.and_eq_true,Cj,decide_eq_true_eq]
theorem I8 {l:List (List UInt8)} {k:Nat} {s:List UInt8} (hs:l[k]? =some s) (h1:named s=true) (h2:0<k→∃y,l[k-1]? =some y∧Lib.compareBytes y s= -1):nameAt l k=true:=by
 unfold nameAt;rw [hs];simp only [Option.getD_some,h1,Bool.true_and,Bool.or_eq_true,decide_eq_true_eq]
 rcases Nat.eq_zero_or_pos k with h0|h0
 · exact .inl h0
 · obtain ⟨y,hy,hc⟩:=h2 h0;rw [hy];exact .inr hc
theorem S8 {c:GV}  :A4 prog 159 [agg (C1 c)] (int (if C9 c then 0 else 9)):=by
 refine fo func159 rfl ⟨rfl,rfl⟩ fun M0 w0=> ?_
 refine ac ?_
 refine ag ?_ ?_<;>intro h1 q1
 refine ac ?_
 refine CL 1 39 rfl ?_
 refine a2 ?_
 · refine int_eq (if_neg (fun hv=> ?_)).symm;have vf:=Dt hv;obtain ⟨GW,GX,ET,EU,DB,CJ,GY,GZ,Bs,EV,EW,EX,EY,Ga,Gb,Gc,Gd,Ge,Gf⟩:=vf;have Gg:=(BZ.1 DB).2;unfold E4 at CJ Bs;omega
 refine ag ?_ ?_<;>intro h2 q2
 refine ac ?_
 refine CL 1 39 rfl ?_
 refine a2 ?_
 · refine int_eq (if_neg (fun hv=> ?_)).symm;have vf:=Dt hv;obtain ⟨GW,GX,ET,EU,DB,CJ,GY,GZ,Bs,EV,EW,EX,EY,Ga,Gb,Gc,Gd,Ge,Gf⟩:=vf;have Gg:=(BZ.1 DB).2;unfold E4 at CJ Bs;omega
 refine ac ?_
 refine cy h2 rfl (Bq (FA) rfl rfl) ?_
 refine ag ?_ ?_<;>intro h3 q3
 refine ac ?_
 refine CL 1 39 rfl ?_
 refine a2 ?_
 · refine int_eq (if_neg (fun hv=> ?_)).symm;have vf:=Dt hv;obtain ⟨GW,GX,ET,EU,DB,CJ,GY,GZ,Bs,EV,EW,EX,EY,Ga,Gb,Gc,Gd,Ge,Gf⟩:=vf;have Gg:=(BZ.1 DB).2;unfold E4 at CJ Bs;simp_all
 refine ac ?_
 refine cy h3 rfl (Bq (FA) rfl rfl) ?_
 refine ag ?_ ?_<;>intro h4 q4
 refine ac ?_
 refine CL 1 39 rfl ?_
 refine a2 ?_
 · refine int_eq (if_neg (fun hv=> ?_)).symm;have vf:=Dt hv;obtain ⟨GW,GX,ET,EU,DB,CJ,GY,GZ,Bs,EV,EW,EX,EY,Ga,Gb,Gc,Gd,Ge,Gf⟩:=vf;have Gg:=(BZ.1 DB).2;unfold E4 at CJ Bs;simp_all
 refine ac ?_
 refine cy h4 rfl (Bq (Gm) rfl rfl) ?_
 refine ag ?_ ?_<;>intro h5 q5
 refine ac ?_
 refine CL 1 39 rfl ?_
 refine a2 ?_
 · refine int_eq (if_neg (fun hv=> ?_)).symm;have vf:=Dt hv;obtain ⟨GW,GX,ET,EU,DB,CJ,GY,GZ,Bs,EV,EW,EX,EY,Ga,Gb,Gc,Gd,Ge,Gf⟩:=vf;have Gg:=(BZ.1 DB).2;unfold E4 at CJ Bs;simp_all
 refine ag ?_ ?_<;>intro h6 q6
 refine ac ?_
 refine CL 1 39 rfl ?_
 refine a2 ?_
 · refine int_eq (if_neg (fun hv=> ?_)).symm;have vf:=Dt hv;obtain ⟨GW,GX,ET,EU,DB,CJ,GY,GZ,Bs,EV,EW,EX,EY,Ga,Gb,Gc,Gd,Ge,Gf⟩:=vf;have Gg:=(BZ.1 DB).2;unfold E4 at CJ Bs;omega
 refine ac ?_
 refine CL 1 39 rfl ?_
 refine Tr.cn rfl ?_ ?_<;>intro h7 q7
 refine a2 ?_
 · refine int_eq (if_neg (fun hv=> ?_)).symm;have vf:=Dt hv;obtain ⟨GW,GX,ET,EU,DB,CJ,GY,GZ,Bs,EV,EW,EX,EY,Ga,Gb,Gc,Gd,Ge,Gf⟩:=vf;have Gg:=(BZ.1 DB).2;unfold E4 at CJ Bs;omega
 refine a2 ?_
 refine co rfl (Bq (Ic) rfl rfl) ?_
 refine ag ?_ ?_<;>intro h8 q8
 refine ac ?_
 refine CL 1 67 rfl ?_
 refine a2 ?_
 · refine int_eq (if_neg (fun hv=> ?_)).symm;have vf:=Dt hv;obtain ⟨GW,GX,ET,EU,DB,CJ,GY,GZ,Bs,EV,EW,EX,EY,Ga,Gb,Gc,Gd,Ge,Gf⟩:=vf;have Gg:=(BZ.1 DB).2;unfold E4 at CJ Bs;simp_all;omega
 refine ac ?_
 refine cy h8 rfl (Bq (L1) rfl rfl) ?_
 refine ag ?_ ?_<;>intro h9 q9
 refine ac ?_
 refine CL 1 67 rfl ?_
 refine a2 ?_
 · refine int_eq (if_neg (fun hv=> ?_)).symm;have vf:=Dt hv;obtain ⟨GW,GX,ET,EU,DB,CJ,GY,GZ,Bs,EV,EW,EX,EY,Ga,Gb,Gc,Gd,Ge,Gf⟩:=vf;have Gg:=(BZ.1 DB).2;unfold E4 at CJ Bs;simp_all
 refine ag ?_ ?_<;>intro h10 OZ
 refine ac ?_
 refine CL 1 67 rfl ?_
 refine a2 ?_
 · refine int_eq (if_neg (fun hv=> ?_)).symm;have vf:=Dt hv;obtain ⟨GW,GX,ET,EU,DB,CJ,GY,GZ,Bs,EV,EW,EX,EY,Ga,Gb,Gc,Gd,Ge,Gf⟩:=vf;have Gg:=(BZ.1 DB).2;unfold E4 at CJ Bs;omega
 refine ag ?_ ?_<;>intro h11 QX
 refine ac ?_
 refine CL 1 67 rfl ?_
 refine a2 ?_
 · refine int_eq (if_neg (fun hv=> ?_)).symm;have vf:=Dt hv;obtain ⟨GW,GX,ET,EU,DB,CJ,GY,GZ,Bs,EV,EW,EX,EY,Ga,Gb,Gc,Gd,Ge,Gf⟩:=vf;have Gg:=(BZ.1 DB).2;unfold E4 at CJ Bs;omega
 refine ac ?_
 refine CL 1 67 rfl ?_
 refine Tr.cn rfl ?_ ?_<;>intro h12 QY
 refine a2 ?_
 · refine int_eq (if_neg (fun hv=> ?_)).symm;have vf:=Dt hv;obtain ⟨GW,GX,ET,EU,DB,CJ,GY,GZ,Bs,EV,EW,EX,EY,Ga,Gb,Gc,Gd,Ge,Gf⟩:=vf;have Gg:=(BZ.1 DB).2;unfold E4 at CJ Bs;omega
 refine ac ?_
 refine ag ?_ ?_<;>intro HW Q_
 refine ac ?_
 refine CL 1 91 rfl ?_
 refine a2 ?_
 · refine int_eq (if_neg (fun hv=> ?_)).symm;have vf:=Dt hv;obtain ⟨GW,GX,ET,EU,DB,CJ,GY,GZ,Bs,EV,EW,EX,EY,Ga,Gb,Gc,Gd,Ge,Gf⟩:=vf;have Gg:=(BZ.1 DB).2;unfold E4 at CJ Bs;omega
 refine ag ?_ ?_<;>intro Pf YV
 refine ac ?_
 refine CL 1 91 rfl ?_
 refine a2 ?_
 · refine int_eq (if_neg (fun hv=> ?_)).symm;have vf:=Dt hv;obtain ⟨GW,GX,ET,EU,DB,CJ,GY,GZ,Bs,EV,EW,EX,EY,Ga,Gb,Gc,Gd,Ge,Gf⟩:=vf;have Gg:=(BZ.1 DB).2;unfold E4 at CJ Bs;omega
 refine ag ?_ ?_<;>intro QZ cr
 refine ag ?_ ?_<;>intro h16 fI
 refine ac ?_
 refine CL 1 91 rfl ?_
 refine a2 ?_
 · refine int_eq (if_neg (fun hv=> ?_)).symm;have vf:=Dt hv;obtain ⟨GW,GX,ET,EU,DB,CJ,GY,GZ,Bs,EV,EW,EX,EY,Ga,Gb,Gc,Gd,Ge,Gf⟩:=vf;have Gg:=(BZ.1 DB).2;unfold E4 at CJ Bs;simp_all
 refine ac ?_
 refine CL 1 91 rfl ?_
 refine Tr.cn rfl ?_ ?_<;>intro Tu ck
 refine a2 ?_
 · refine int_eq (if_neg (fun hv=> ?_)).symm;have vf:=Dt hv;obtain ⟨GW,GX,ET,EU,DB,CJ,GY,GZ,Bs,EV,EW,EX,EY,Ga,Gb,Gc,Gd,Ge,Gf⟩:=vf;have Gg:=(BZ.1 DB).2;unfold E4 at CJ Bs;omega
 refine a2 ?_
 refine Tr.block (Tr.BW [(1,_)] ⟨ke rfl,trivial⟩ (fun k:Nat=>[(3,int ((k:Nat):Int))]) (fun k:Nat=>k≤(c.names).length∧(∀j,j<k→nameAt c.names j=true)) (fun k:Nat=>(c.names).length-k) 0 (⟨Nat.zero_le _,fun j hj=>absurd hj (by omega)⟩) ⟨ke rfl,trivial⟩ ?_)
 rintro k ⟨Bk,Ac⟩
 refine an ?_ ?_<;>intro Tv jB
 have Ao:k<(c.names).length:=AZ Tv
 obtain ⟨s,An⟩:=at_ Ao
 refine a2 ?_
 refine co rfl (AB rfl underlying74 JB (vl rfl) (vl rfl) (by omega) (Ak An)) (co rfl (Fv rfl HQ rfl) (co rfl (Bq (FA) rfl rfl) ?_))
 refine ag ?_ ?_<;>intro Zj mJ
 refine ac ?_
 refine Cr 1 3 123 rfl ?_
 refine a2 ?_
 · refine int_eq (if_neg (fun hv=> ?_)).symm;have vf:=Dt hv;obtain ⟨GW,GX,ET,EU,DB,CJ,GY,GZ,Bs,EV,EW,EX,EY,Ga,Gb,Gc,Gd,Ge,Gf⟩:=vf;have Gg:=(BZ.1 DB).2;unfold E4 at CJ Bs;have gV:=(BZ.1 DB).1 k (by omega);unfold nameAt at gV;simp_all
 refine ag ?_ ?_<;>intro N5 jC
 have NZ:0<k:=by simpa using N5
 obtain ⟨y,hy⟩:=at_ (l:=c.names) (k:=k-1) (by omega)
 · repeat' first|(refine int_eq (if_neg (fun hv=> ?_)).symm;have vf:=Dt hv;obtain ⟨GW,GX,ET,EU,DB,CJ,GY,GZ,Bs,EV,EW,EX,EY,Ga,Gb,Gc,Gd,Ge,Gf⟩:=vf;have Gg:=(BZ.1 DB).2;unfold E4 at CJ Bs;have gV:=(BZ.1 DB).1 k (by omega);unfold nameAt at gV;simp_all)|(exact Fin.AG (k+1) ⟨⟨Ao,(fun j hj=>by rcases Nat.lt_or_eq_of_le (Nat.le_of_lt_succ hj) with h_|h_;exact Ac j h_;(subst h_;refine I8 An (by simp_all) (fun h0=> ?_);exact ⟨y,hy,by simp_all⟩))⟩,by omega⟩ ⟨⟨_,rfl,AS k⟩,ke rfl,trivial⟩)|(refine cy N5 rfl (AB rfl underlying74 JB (vl rfl) (vl rfl) (by omega) (by rw [show ((k:Nat):Int)-1=((k-1:Nat):Int) by omega];exact Ak hy)) ?_)|refine cy N5 rfl (AB rfl underlying74 JB (vl rfl) (vl rfl) (by omega) (Ak An)) (cy N5 rfl (Fv rfl HQ rfl) (cy N5 rfl (Mo rfl (vl rfl) (vl rfl)) ?_))|refine ac ?_|(refine Tr.cn rfl ?_ ?_<;>intro h q)
 have NZ:¬0<k:=by simpa using N5
 refine ac ?_
 refine Cr 1 3 123 rfl ?_
 refine a2 ?_
 exact Fin.AG (k+1) ⟨⟨Ao,(fun j hj=>by rcases Nat.lt_or_eq_of_le (Nat.le_of_lt_succ hj) with h_|h_;exact Ac j h_;(subst h_;refine I8 An (by simp_all) (fun h0=> ?_);exact absurd h0 NZ))⟩,by omega⟩ ⟨⟨_,rfl,AS k⟩,ke rfl,trivial⟩
 have BQ:k=(c.names).length:=by have:=Aa Tv;omega
 subst BQ
 · repeat' first|(refine int_eq (if_neg (fun hv=> ?_)).symm;have vf:=Dt hv;obtain ⟨GW,GX,ET,EU,DB,CJ,GY,GZ,Bs,EV,EW,EX,EY,Ga,Gb,Gc,Gd,Ge,Gf⟩:=vf;have Gg:=(BZ.1 DB).2;unfold E4 at CJ Bs;omega)|(refine int_eq (if_pos (UC ⟨by omega,by omega,by simp_all,by simp_all,BZ.2 ⟨Ac,by omega⟩,by unfold E4;simp_all,by omega,by omega,by unfold E4;simp_all,by omega,by omega,by omega,by omega,by omega,by omega,by omega,by omega,by omega,by right;omega⟩)).symm)|refine ac ?_|(refine Tr.cn rfl ?_ ?_<;>intro h q)|(refine Ch.cg rfl rfl rfl ?_ ?_<;>intro h q)
 refine ac ?_
 refine CL 1 91 rfl ?_
 refine Tr.cn rfl ?_ ?_<;>intro mM mN
 refine a2 ?_
 · refine int_eq (if_neg (fun hv=> ?_)).symm;have vf:=Dt hv;obtain ⟨GW,GX,ET,EU,DB,CJ,GY,GZ,Bs,EV,EW,EX,EY,Ga,Gb,Gc,Gd,Ge,Gf⟩:=vf;have Gg:=(BZ.1 DB).2;unfold E4 at CJ Bs;omega
 refine a2 ?_
 refine Tr.block (Tr.BW [(1,_)] ⟨ke rfl,trivial⟩ (fun k:Nat=>[(3,int ((k:Nat):Int))]) (fun k:Nat=>k≤(c.names).length∧(∀j,j<k→nameAt c.names j=true)) (fun k:Nat=>(c.names).length-k) 0 (⟨Nat.zero_le _,fun j hj=>absurd hj (by omega)⟩) ⟨ke rfl,trivial⟩ ?_)
 rintro k ⟨Bk,Ac⟩
 refine an ?_ ?_<;>intro cv q27
 have Ao:k<(c.names).length:=AZ cv
 obtain ⟨s,An⟩:=at_ Ao
 refine a2 ?_
 refine co rfl (AB rfl underlying74 JB (vl rfl) (vl rfl) (by omega) (Ak An)) (co rfl (Fv rfl HQ rfl) (co rfl (Bq (FA) rfl rfl) ?_))
 refine ag ?_ ?_<;>intro jD q28
 refine ac ?_
 refine Cr 1 3 123 rfl ?_
 refine a2 ?_
 · refine int_eq (if_neg (fun hv=> ?_)).symm;have vf:=Dt hv;obtain ⟨GW,GX,ET,EU,DB,CJ,GY,GZ,Bs,EV,EW,EX,EY,Ga,Gb,Gc,Gd,Ge,Gf⟩:=vf;have Gg:=(BZ.1 DB).2;unfold E4 at CJ Bs;have gV:=(BZ.1 DB).1 k (by omega);unfold nameAt at gV;simp_all
 refine ag ?_ ?_<;>intro Uo q29
 have NZ:0<k:=by simpa using Uo
 obtain ⟨y,hy⟩:=at_ (l:=c.names) (k:=k-1) (by omega)
 · repeat' first|(refine int_eq (if_neg (fun hv=> ?_)).symm;have vf:=Dt hv;obtain ⟨GW,GX,ET,EU,DB,CJ,GY,GZ,Bs,EV,EW,EX,EY,Ga,Gb,Gc,Gd,Ge,Gf⟩:=vf;have Gg:=(BZ.1 DB).2;unfold E4 at CJ Bs;have gV:=(BZ.1 DB).1 k (by omega);unfold nameAt at gV;simp_all)|(exact Fin.AG (k+1) ⟨⟨Ao,(fun j hj=>by rcases Nat.lt_or_eq_of_le (Nat.le_of_lt_succ hj) with h_|h_;exact Ac j h_;(subst h_;refine I8 An (by simp_all) (fun h0=> ?_);exact ⟨y,hy,by simp_all⟩))⟩,by omega⟩ ⟨⟨_,rfl,AS k⟩,ke rfl,trivial⟩)|(refine cy Uo rfl (AB rfl underlying74 JB (vl rfl) (vl rfl) (by omega) (by rw [show ((k:Nat):Int)-1=((k-1:Nat):Int) by omega];exact Ak hy)) ?_)|refine cy Uo rfl (AB rfl underlying74 JB (vl rfl) (vl rfl) (by omega) (Ak An)) (cy Uo rfl (Fv rfl HQ rfl) (cy Uo rfl (Mo rfl (vl rfl) (vl rfl)) ?_))|refine ac ?_|(refine Tr.cn rfl ?_ ?_<;>intro h q)
 have NZ:¬0<k:=by simpa using Uo
 refine ac ?_
 refine Cr 1 3 123 rfl ?_
 refine a2 ?_
 exact Fin.AG (k+1) ⟨⟨Ao,(fun j hj=>by rcases Nat.lt_or_eq_of_le (Nat.le_of_lt_succ hj) with h_|h_;exact Ac j h_;(subst h_;refine I8 An (by simp_all) (fun h0=> ?_);exact absurd h0 NZ))⟩,by omega⟩ ⟨⟨_,rfl,AS k⟩,ke rfl,trivial⟩
 have BQ:k=(c.names).length:=by have:=Aa cv;omega
 subst BQ
 · repeat' first|(refine int_eq (if_neg (fun hv=> ?_)).symm;have vf:=Dt hv;obtain ⟨GW,GX,ET,EU,DB,CJ,GY,GZ,Bs,EV,EW,EX,EY,Ga,Gb,Gc,Gd,Ge,Gf⟩:=vf;have Gg:=(BZ.1 DB).2;unfold E4 at CJ Bs;omega)|(refine int_eq (if_pos (UC ⟨by omega,by omega,by simp_all,by simp_all,BZ.2 ⟨Ac,by omega⟩,by unfold E4;simp_all,by omega,by omega,by unfold E4;simp_all,by omega,by omega,by omega,by omega,by omega,by omega,by omega,by omega,by omega,by left;simp_all⟩)).symm)|refine ac ?_|(refine Tr.cn rfl ?_ ?_<;>intro h q)|(refine Ch.cg rfl rfl rfl ?_ ?_<;>intro h q)
theorem and1 {a b:Bool} (h:(a&&b)=true):a=true:=by simp at h;exact h.1
theorem gW {a b:Bool} (h:(a&&b)=true):b=true:=by simp at h;exact h.2
theorem S9:∀(n:Nat) (l:List Int),(∀x∈l,1≤x∧x≤(n:Int))→l.Nodup→l.length≤n
 |0,l,h,_=>by
  cases l with
  |nil=>exact Nat.le_refl _
  |cons a l=>have:=h a (List.mem_cons_self ..);omega
 |n+1,l,h,hn=>by
  have ih:=S9 n (l.erase ((n:Int)+1)) (fun x hx=>by
   have h1:=h x (List.mem_of_mem_erase hx)
   have h2:=(hn.mem_erase_iff.1 hx).1
   omega) (hn.erase _)
  rw [List.length_erase] at ih
  split at ih<;>omega
theorem D2 {l:List Int} (h:Fi l=true):l.length≤16:=by
 refine S9 16 l (fun x hx=> ?_) ?_
 ·
  obtain ⟨j,hj⟩:=List.getElem?_of_mem hx
  have h1:=Cj.1 (show allI (DH l) l.length=true from h) j (Bb hj)
  unfold DH at h1;rw [DI hj] at h1
  have:=and1 h1
  simpa using this
 ·
  refine List.pairwise_iff_getElem.2 fun i j hi hj hij he=> ?_
  have:=S0 h (List.getElem?_eq_getElem hi) (by rw [he];exact List.getElem?_eq_getElem hj)
  omega
theorem X2 {p:Int→Bool} {l:List Int} (h:∀j,j<l.length→p (l[j]?.getD 0)=true):l.all p=true:=List.all_eq_true.2 fun x hx=>by
 obtain ⟨j,hj⟩:=List.getElem?_of_mem hx
 have:=h j (Bb hj)
 rw [DI hj] at this;exact this
theorem VS {BO bits id:Int} {l:List GV}  :A4 prog 126 [agg [int BO,int bits],int id,Il l] (bool (Kx BO bits id l)):=by
 refine fo func126 rfl ⟨rfl,rfl⟩ fun M0 w0=>(Tr.EC 2 rfl fun nB=> ?_)
 refine a2 ?_
 refine co rfl (Bq (Gm) rfl rfl) ?_
 refine ag ?_ ?_<;>intro h1 q1
 refine ac ?_
 refine Ez 1 2 3 23 rfl ?_
 refine a2 ?_
 · refine bool_eq ?_;rw [Cc];unfold E4 Er;simp_all
 refine ag ?_ ?_<;>intro h2 q2
 refine ac ?_
 refine Ez 1 2 3 23 rfl ?_
 refine a2 ?_
 · refine bool_eq ?_;rw [Cc];unfold E4 Er;simp_all;omega
 refine ag ?_ ?_<;>intro h3 q3
 refine ac ?_
 refine Ez 1 2 3 23 rfl ?_
 refine a2 ?_
 · refine bool_eq ?_;rw [Cc];unfold E4 Er;simp_all;omega
 refine ac ?_
 refine Ez 1 2 3 23 rfl ?_
 refine Tr.cn rfl ?_ ?_<;>intro h4 q4
 refine a2 ?_
 · refine bool_eq ?_;rw [Cc];unfold E4 Er;simp_all;omega
 refine a2 ?_
 refine Tr.block (Tr.BW [(1,_),(2,_),(3,_)] (OH rfl) (fun k:Nat=>[(7,int ((k:Nat):Int))]) (fun k:Nat=>k≤(l).length∧(∀j y,j<k→l[j]? =some y→(!C9 y)=false)) (fun k:Nat=>(l).length-k) 0 (⟨Nat.zero_le _,fun j y hj=>absurd hj (by omega)⟩) ⟨ke rfl,trivial⟩ ?_)
 rintro k ⟨Bk,Ac⟩
 refine an ?_ ?_<;>intro h5 q5
 have Ao:k<(l).length:=AZ h5
 obtain ⟨c,An⟩:=at_ Ao
 · repeat' first|(refine bool_eq ?_;rw [Cc];unfold E4 Er;rw [HX (p:=C9) An (by simp_all)];simp)|exact Fin.AG (k+1) ⟨⟨Ao,D_ (p:=fun c=> !C9 c) An (by simp_all) Ac⟩,by omega⟩ ⟨⟨_,rfl,AS k⟩,ke rfl,ke rfl,ke rfl,trivial⟩|refine co rfl (AB rfl underlying25 Cw (vl rfl) (vl rfl) (by omega) (Ak An)) (co rfl (AO rfl Em Cw (vl rfl) rfl rfl) (co rfl (Bq (S8) rfl rfl) ?_))|refine ac ?_|(refine Tr.cn rfl ?_ ?_<;>intro h q)
 have BQ:k=(l).length:=by have:=Aa h5;omega
 subst BQ
 have hall:=Fh Ac
 refine ac ?_
 refine ag ?_ ?_<;>intro h7 q7
 refine ac ?_
 refine DD 6 rfl ?_
 refine ac ?_
 · refine bool_eq ?_;rw [Cc];unfold E4 Er;rw [hall,Of (by simp_all)];simp_all
 obtain ⟨c0,hc0⟩:=at_ (l:=l) (k:=0) (by have:=h7;simp at this;exact List.length_pos_iff.2 this)
 refine II h7 rfl ?_
 refine cy h7 rfl (AB rfl underlying25 Cw (vl rfl) (vl rfl) (by omega) (Ak (k:=0) hc0)) ?_
 refine ac ?_
 refine cy h7 rfl (Fg rfl (vl rfl) (vl rfl)) (II h7 rfl ?_)
 refine Ch.cs 46 rfl ?_ ?_<;>intro h8 q8
 refine II h8 rfl ?_
 refine cy h8 rfl (AB rfl underlying25 Cw (vl rfl) (vl rfl) (by omega) (Ak (k:=0) hc0)) ?_
 refine ac ?_
 refine DD 6 rfl ?_
 refine ac ?_
 · refine bool_eq ?_;rw [Cc];unfold E4 Er;rw [hall,KD hc0];clear hall Ac hc0;simp_all;omega
 refine ac ?_
 refine DD 6 rfl ?_
 refine ac ?_
 · refine bool_eq ?_;rw [Cc];unfold E4 Er;rw [hall,KD hc0];clear hall Ac hc0;simp_all
theorem Jn {e:BJ} (T4:e.hashes.length≤17592186044416):A4 prog 77 [agg (Aj e)] (int (if BK e then 0 else 19)):=by
 refine fo func77 rfl ⟨rfl,rfl⟩ fun M0 w0=> ?_
 refine ac ?_
 refine ac ?_
 refine co rfl (Bq (X0) rfl rfl) ?_
 refine ac ?_
 refine Ch.cs 13 rfl ?_ ?_<;>intro h1 q1
 refine ac ?_
 refine CL 1 47 rfl ?_
 refine ac ?_
 refine ac ?_
 · refine int_eq (if_neg (fun hv=> ?_)).symm;have ok:=Bv.1 hv;have v1:=ok.name;have v2:=ok.least;have v3:=ok.lm;have v4:=ok.most;have v5:=D2 ok.AF;have v6:=ok.KF;have v7:=ok.N8;simp_all
 refine ac ?_
 refine Ch.cs 18 rfl ?_ ?_<;>intro h2 q2
 refine ac ?_
 refine CL 1 47 rfl ?_
 refine ac ?_
 refine ac ?_
 · refine int_eq (if_neg (fun hv=> ?_)).symm;have ok:=Bv.1 hv;have v1:=ok.name;have v2:=ok.least;have v3:=ok.lm;have v4:=ok.most;have v5:=D2 ok.AF;have v6:=ok.KF;have v7:=ok.N8;omega
 refine ac ?_
 refine Ch.cs 25 rfl ?_ ?_<;>intro h3 q3
 refine ac ?_
 refine CL 1 47 rfl ?_
 refine ac ?_
 refine ac ?_
 · refine int_eq (if_neg (fun hv=> ?_)).symm;have ok:=Bv.1 hv;have v1:=ok.name;have v2:=ok.least;have v3:=ok.lm;have v4:=ok.most;have v5:=D2 ok.AF;have v6:=ok.KF;have v7:=ok.N8;omega
 refine ac ?_
 refine Ch.cs 30 rfl ?_ ?_<;>intro h4 q4
 refine ac ?_
 refine CL 1 47 rfl ?_
 refine ac ?_
 refine ac ?_
 · refine int_eq (if_neg (fun hv=> ?_)).symm;have ok:=Bv.1 hv;have v1:=ok.name;have v2:=ok.least;have v3:=ok.lm;have v4:=ok.most;have v5:=D2 ok.AF;have v6:=ok.KF;have v7:=ok.N8;omega
 refine ac ?_
 refine Ch.cs 36 rfl ?_ ?_<;>intro h5 q5
 refine ac ?_
 refine CL 1 47 rfl ?_
 refine ac ?_
 refine ac ?_
 · refine int_eq (if_neg (fun hv=> ?_)).symm;have ok:=Bv.1 hv;have v1:=ok.name;have v2:=ok.least;have v3:=ok.lm;have v4:=ok.most;have v5:=D2 ok.AF;have v6:=ok.KF;have v7:=ok.N8;omega
 refine ac ?_
 refine Ch.cs 42 rfl ?_ ?_<;>intro h6 q6
 refine ac ?_
 refine CL 1 47 rfl ?_
 refine ac ?_
 refine ac ?_
 · refine int_eq (if_neg (fun hv=> ?_)).symm;have ok:=Bv.1 hv;have v1:=ok.name;have v2:=ok.least;have v3:=ok.lm;have v4:=ok.most;have v5:=D2 ok.AF;have v6:=ok.KF;have v7:=ok.N8;omega
 refine ac ?_
 refine CL 1 47 rfl ?_
 refine Tr.cn rfl ?_ ?_<;>intro h7 q7
 refine ac ?_
 refine ac ?_
 · refine int_eq (if_neg (fun hv=> ?_)).symm;have ok:=Bv.1 hv;have v1:=ok.name;have v2:=ok.least;have v3:=ok.lm;have v4:=ok.most;have v5:=D2 ok.AF;have v6:=ok.KF;have v7:=ok.N8;omega
 refine ac ?_
 refine ac ?_
 refine Tr.block (Tr.BW [(1,_)] ⟨ke rfl,trivial⟩ (fun i:Nat=>[(3,int ((i:Nat):Int))]) (fun i:Nat=>i≤(e.AF).length∧(∀j,j<i→DH e.AF j=true)) (fun i:Nat=>(e.AF).length-i) 0 (⟨Nat.zero_le _,fun j hj=>absurd hj (by omega)⟩) ⟨ke rfl,trivial⟩ ?_)
 rintro i ⟨tL,X3⟩
 refine ac ?_
 refine Tr.cn rfl ?_ ?_<;>intro h8 q8
 have nT:i<(e.AF).length:=AZ h8
 obtain ⟨x,gX⟩:=at_ nT
 have hg:=DI (d:=(0:Int)) gX
 refine ac ?_
 refine ao ?_
 refine tp rfl (AB rfl underlying22 Cg (vl rfl) (vl rfl) (by omega) (Ak gX)) (tp rfl (Fv rfl Ce rfl) (tp rfl (Bq (VR) rfl rfl) ?_))
 refine ao ?_
 refine Tl rfl rfl rfl rfl SO J0 (fun b1=> ?_)
 refine sf 0 4 ⟨rfl,rfl,rfl⟩ rfl rfl rfl rfl ?_
 refine ao ?_
 refine Cr 1 3 5 rfl ?_
 refine ac ?_
 refine Ch.cs 66 rfl ?_ ?_<;>intro h9 q9
 have gC:¬(1≤x∧x≤16):=by intro hh;rw [if_pos hh] at h9;exact absurd h9 (by decide)
 refine ac ?_
 refine Cr 1 3 77 rfl ?_
 refine ac ?_
 refine ac ?_
 · refine int_eq (if_neg (fun hv=> ?_)).symm;have ok:=Bv.1 hv;have h_:=Cj.1 (show allI (DH e.AF) e.AF.length=true from ok.AF) i (by omega);unfold DH at h_;rw [hg] at h_;exact gC (by simpa using and1 h_)
 have hin:1≤x∧x≤16:=by refine Decidable.byContradiction fun hh=> ?_;rw [if_neg hh] at h9;exact absurd h9 (by decide)
 refine ac ?_
 refine cy h9 rfl (Cn rfl underlying22 Cg (vl rfl) (vl rfl) (by omega) (by simp;omega)) ?_
 refine ac ?_
 refine cy h9 rfl (AB rfl underlying22 Cg (vl rfl) (vl rfl) (by omega) (Ak gX)) (cy h9 rfl (Fv rfl Ce rfl) ?_)
 refine cy h9 rfl (AX rfl (X1 (l:=e.AF.take i) (v:=x)) ⟨⟨_,rfl,Pr.le_of_eq (by rw [←List.map_take,Int.toNat_natCast])⟩,ke rfl,trivial⟩) ?_
 refine ac ?_
 refine Cr 1 3 77 rfl ?_
 refine Tr.cn rfl ?_ ?_<;>intro h10 OZ
 refine ac ?_
 refine ac ?_
 · refine int_eq (if_neg (fun hv=> ?_)).symm;have ok:=Bv.1 hv;have h_:=Cj.1 (show allI (DH e.AF) e.AF.length=true from ok.AF) i (by omega);unfold DH at h_;rw [hg] at h_;exact absurd (by assumption:((e.AF.take i).any fun y=>x==y)=true) (by have h2:=gW h_;rw [Bool.not_eq_true'] at h2;rw [h2];decide)
 refine ac ?_
 refine ac ?_
 exact Fin.AG (i+1) ⟨⟨nT,F6 X3 (by unfold DH;rw [hg];rw [decide_eq_true hin];simp_all)⟩,by omega⟩ ⟨⟨_,rfl,AS i⟩,ke rfl,trivial⟩
 have sJ:i=(e.AF).length:=by have:=Aa h8;omega
 subst sJ
 refine ac ?_
 refine ac ?_
 refine Tr.block (Tr.BW [(1,_)] ⟨ke rfl,trivial⟩ (fun m:Nat=>[(6,int ((m:Nat):Int))]) (fun m:Nat=>m≤(e.ids).length∧(∀j y,j<m→e.ids[j]? =some y→(!Tz y)=false)) (fun m:Nat=>(e.ids).length-m) 0 (⟨Nat.zero_le _,fun j y hj=>absurd hj (by omega)⟩) ⟨ke rfl,trivial⟩ ?_)
 rintro m ⟨W0,X4⟩
 refine ac ?_
 refine Tr.cn rfl ?_ ?_<;>intro h11 QX
 have NP:m<(e.ids).length:=AZ h11
 obtain ⟨x,KA⟩:=at_ NP
 refine ac ?_
 refine ac ?_
 refine co rfl (AB rfl underlying30 Be (vl rfl) (vl rfl) (by omega) (Ak KA)) ?_
 refine ac ?_
 refine co rfl (AB rfl underlying30 Be (vl rfl) (vl rfl) (by omega) (Ak KA)) ?_
 refine ac ?_
 refine co rfl (AB rfl underlying30 Be (vl rfl) (vl rfl) (by omega) (Ak KA)) ?_
 refine ac ?_
 refine co rfl (iI (VS) rfl rfl rfl rfl) ?_
 refine ac ?_
 refine Cr 1 6 104 rfl ?_
 refine Tr.cn rfl ?_ ?_<;>intro h12 QY
 refine ac ?_
 refine ac ?_
 · refine int_eq (if_neg (fun hv=> ?_)).symm;have ok:=Bv.1 hv;have h_:=List.all_eq_true.1 ok.ids x (List.mem_of_getElem? KA);unfold Tz at h_;simp_all
 refine ac ?_
 refine ac ?_
 exact Fin.AG (m+1) ⟨⟨NP,D_ (p:=fun c=> !Tz c) KA (by unfold Tz;simp_all) X4⟩,by omega⟩ ⟨⟨_,rfl,AS m⟩,ke rfl,trivial⟩
 have Sj:m=(e.ids).length:=by have:=Aa h11;omega
 subst Sj
 have hall:=Fh X4
 refine ac ?_
 refine ac ?_
 refine Tr.block (Tr.BW [(1,_)] ⟨ke rfl,trivial⟩ (fun o:Nat=>[(7,int ((o:Nat):Int))]) (fun o:Nat=>o≤(e.anchors).length∧(∀j,j<o→(FL e.anchors j&&Er (e.anchors[j]?.getD 0))=true)) (fun o:Nat=>(e.anchors).length-o) 0 (⟨Nat.zero_le _,fun j hj=>absurd hj (by omega)⟩) ⟨ke rfl,trivial⟩ ?_)
 rintro o ⟨dK,QH⟩
 refine ac ?_
 refine Tr.cn rfl ?_ ?_<;>intro HW Q_
 have QI:o<(e.anchors).length:=AZ HW
 obtain ⟨a,Nc⟩:=at_ QI
 have hg:=DI (d:=(0:Int)) Nc
 refine ac ?_
 refine ac ?_
 refine co rfl (AB rfl underlying22 Cg (vl rfl) (vl rfl) (by omega) (Ak Nc)) ?_
 refine ac ?_
 refine Ch.cs 118 rfl ?_ ?_<;>intro Pf YV
 refine ac ?_
 refine Cr 1 7 143 rfl ?_
 refine ac ?_
 refine ac ?_
 · refine int_eq (if_neg (fun hv=> ?_)).symm;have ok:=Bv.1 hv;have h_:=List.all_eq_true.1 ok.keys a (List.mem_of_getElem? Nc);unfold Er at h_;simp at h_;omega
 refine ac ?_
 refine cy Pf rfl (AB rfl underlying22 Cg (vl rfl) (vl rfl) (by omega) (Ak Nc)) ?_
 refine ac ?_
 refine Ch.cs 126 rfl ?_ ?_<;>intro QZ cr
 refine ac ?_
 refine Cr 1 7 143 rfl ?_
 refine ac ?_
 refine ac ?_
 · refine int_eq (if_neg (fun hv=> ?_)).symm;have ok:=Bv.1 hv;have h_:=List.all_eq_true.1 ok.keys a (List.mem_of_getElem? Nc);unfold Er at h_;simp at h_;omega
 refine ac ?_
 refine Ch.cs 129 rfl ?_ ?_<;>intro h16 fI
 have Wy:0<o:=by simpa using h16
 obtain ⟨y,hy⟩:=at_ (l:=e.anchors) (k:=o-1) (by omega)
 have XM:=DI (d:=(0:Int)) hy
 refine ac ?_
 refine cy h16 rfl (AB rfl underlying22 Cg (vl rfl) (vl rfl) (by omega) (by rw [show ((o:Nat):Int)-1=((o-1:Nat):Int) by omega];exact Ak hy)) ?_
 refine ac ?_
 refine cy h16 rfl (AB rfl underlying22 Cg (vl rfl) (vl rfl) (by omega) (Ak Nc)) ?_
 refine ac ?_
 refine Cr 1 7 143 rfl ?_
 refine Tr.cn rfl ?_ ?_<;>intro Tu ck
 refine ac ?_
 refine ac ?_
 · refine int_eq (if_neg (fun hv=> ?_)).symm;have ok:=Bv.1 hv;have h_:=Cj.1 (show allI (FL e.anchors) e.anchors.length=true from ok.gN) o (by omega);unfold FL at h_;rw [hg,XM] at h_;simp at h_;omega
 refine ac ?_
 refine ac ?_
 exact Fin.AG (o+1) ⟨⟨QI,(fun j hj=>by rcases Nat.lt_or_eq_of_le (Nat.le_of_lt_succ hj) with h_|h_;exact QH j h_;(subst h_;unfold FL Er;rw [hg];rw [XM];simp_all))⟩,by omega⟩ ⟨⟨_,rfl,AS o⟩,ke rfl,trivial⟩
 have NZ:¬0<o:=by simpa using h16
 refine ac ?_
 refine Cr 1 7 143 rfl ?_
 refine ac ?_
 refine ac ?_
 exact Fin.AG (o+1) ⟨⟨QI,(fun j hj=>by rcases Nat.lt_or_eq_of_le (Nat.le_of_lt_succ hj) with h_|h_;exact QH j h_;(subst h_;unfold FL Er;rw [hg];simp_all))⟩,by omega⟩ ⟨⟨_,rfl,AS o⟩,ke rfl,trivial⟩
 have X5:o=(e.anchors).length:=by have:=Aa HW;omega
 subst X5
 refine ac ?_
 refine ac ?_
 refine Tr.block (Tr.BW [(1,_)] ⟨ke rfl,trivial⟩ (fun q:Nat=>[(8,int ((q:Nat):Int))]) (fun q:Nat=>q≤(e.hashes).length∧(∀j,j<q→(FL e.hashes j&&H6 (e.hashes[j]?.getD 0))=true)) (fun q:Nat=>(e.hashes).length-q) 0 (⟨Nat.zero_le _,fun j hj=>absurd hj (by omega)⟩) ⟨ke rfl,trivial⟩ ?_)
 rintro q ⟨dL,QJ⟩
 refine ac ?_
 refine Tr.cn rfl ?_ ?_<;>intro Tv jB
 have QK:q<(e.hashes).length:=AZ Tv
 obtain ⟨a,QL⟩:=at_ QK
 have hg:=DI (d:=(0:Int)) QL
 refine ac ?_
 refine ac ?_
 refine co rfl (AB rfl underlying22 Cg (vl rfl) (vl rfl) (by omega) (Ak QL)) (co rfl (Fv rfl Ce rfl) (co rfl (Bq (L1) rfl rfl) ?_))
 refine ac ?_
 refine Ch.cs 158 rfl ?_ ?_<;>intro Zj mJ
 refine ac ?_
 refine Cr 1 8 175 rfl ?_
 refine ac ?_
 refine ac ?_
 · refine int_eq (if_neg (fun hv=> ?_)).symm;have ok:=Bv.1 hv;have h_:=List.all_eq_true.1 ok.hsh a (List.mem_of_getElem? QL);unfold H6 at h_;simp_all
 refine ac ?_
 refine Ch.cs 161 rfl ?_ ?_<;>intro N5 jC
 have Wy:0<q:=by simpa using N5
 obtain ⟨y,hy⟩:=at_ (l:=e.hashes) (k:=q-1) (by omega)
 have XM:=DI (d:=(0:Int)) hy
 refine ac ?_
 refine cy N5 rfl (AB rfl underlying22 Cg (vl rfl) (vl rfl) (by omega) (by rw [show ((q:Nat):Int)-1=((q-1:Nat):Int) by omega];exact Ak hy)) ?_
 refine ac ?_
 refine cy N5 rfl (AB rfl underlying22 Cg (vl rfl) (vl rfl) (by omega) (Ak QL)) ?_
 refine ac ?_
 refine Cr 1 8 175 rfl ?_
 refine Tr.cn rfl ?_ ?_<;>intro cq mK
 refine ac ?_
 refine ac ?_
 · refine int_eq (if_neg (fun hv=> ?_)).symm;have ok:=Bv.1 hv;have h_:=Cj.1 (show allI (FL e.hashes) e.hashes.length=true from ok.hash) q (by omega);unfold FL at h_;rw [hg,XM] at h_;simp at h_;omega
 refine ac ?_
 refine ac ?_
 exact Fin.AG (q+1) ⟨⟨QK,(fun j hj=>by rcases Nat.lt_or_eq_of_le (Nat.le_of_lt_succ hj) with h_|h_;exact QJ j h_;(subst h_;unfold FL H6;rw [hg];rw [XM];simp_all))⟩,by omega⟩ ⟨⟨_,rfl,AS q⟩,ke rfl,trivial⟩
 have NZ:¬0<q:=by simpa using N5
 refine ac ?_
 refine Cr 1 8 175 rfl ?_
 refine ac ?_
 refine ac ?_
 exact Fin.AG (q+1) ⟨⟨QK,(fun j hj=>by rcases Nat.lt_or_eq_of_le (Nat.le_of_lt_succ hj) with h_|h_;exact QJ j h_;(subst h_;unfold FL H6;rw [hg];simp_all))⟩,by omega⟩ ⟨⟨_,rfl,AS q⟩,ke rfl,trivial⟩
 have X6:q=(e.hashes).length:=by have:=Aa Tv;omega
 subst X6
 refine ac ?_
 refine ac ?_
 refine ac ?_
 · refine int_eq (if_pos (Bv.2 ⟨by simp_all,by omega,by omega,by omega,Cj.2 X3,by omega,by omega,Cj.2 (fun j hj=>and1 (QH j hj)),Cj.2 (fun j hj=>and1 (QJ j hj)),hall,X2 (fun j hj=>gW (QH j hj)),X2 (fun j hj=>gW (QJ j hj))⟩)).symm
theorem K5 {e:BJ} (B6:e.small):A4 Tryz.prog 77 [agg (Aj e)] (int (if BK e then 0 else 19)):=Jn (by have:=B6.hashes;omega)
theorem X7 {β:Type} {p:β→Bool} {l:List β} {k:Nat} {x:β} (h:l[k]? =some x):idx p (l.take (k+1))=if idx p (l.take k)<0 then (if p x=true then (k:Int) else -1) else idx p (l.take k):=by
 have hk:=Bb h
 rw [List.take_add_one,h]
 have hl:(l.take k).length=k:=by rw [List.length_take];omega
 show idx p (l.take k++[x])=_
 generalize l.take k=a at hl ⊢
 unfold idx
 rw [List.findIdx?_append]
 cases ha:a.findIdx? p with
 |some i=>simp;intro h3;omega
 |none=>cases hp:p x<;>simp [hp,hl]
theorem X8 {β:Type} {p:β→Bool} {l:List β} {k:Nat} {x:β} (h:l[k]? =some x):(((l.take (k+1)).countP p:Nat):Int)=((l.take k).countP p:Nat)+(if p x=true then 1 else 0):=by
 rw [List.take_add_one,h]
 show (((l.take k++[x]).countP p:Nat):Int)=_
 rw [List.countP_append,List.countP_singleton];split<;>simp_all
theorem KM {β:Type} {p:β→Bool} {l:List β}:idx p l<0↔l.countP p=0:=by
 unfold idx
 cases h:l.findIdx? p with
 |none=>
  rw [List.findIdx?_eq_none_iff] at h
  simp only [show ((none:Option Nat).map fun n=>(n:Int)).getD (-1)= -1 from rfl]
  constructor
  · intro _;rw [List.countP_eq_zero];intro a ha;rw [h a ha];decide
  · intro _;decide
 |some i=>
  rw [List.findIdx?_eq_some_iff_getElem] at h
  obtain ⟨h1,h2,_⟩:=h
  constructor
  · intro h3;exfalso;revert h3;simp
  · intro h3;rw [List.countP_eq_zero] at h3;exact absurd h2 (h3 _ (List.getElem_mem h1))
theorem gY {β:Type} {p:β→Bool} {l:List β} {k n:Nat} (h:l.length≤n):(l.take k).countP p≤n:=Nat.le_trans List.countP_le_length (Nat.le_trans (by rw [List.length_take];omega) h)
theorem bsX {l:List Int} {n x:Int} {k:Nat} (h:∀(j:Nat) y,j<k→l[j]? =some y→y<n) (hx:l[k]? =some x) (hlt:x<n):∀(j:Nat) y,j<k+1→l[j]? =some y→y<n:=by
 intro j y hj hy
 rcases Nat.lt_or_eq_of_le (Nat.le_of_lt_succ hj) with h1|h1
 · exact h j y h1 hy
 · subst h1;rw [hx] at hy;cases hy;exact hlt
def GM (id:Int) (x:DO):Bool:=x.BG==id
def FH (id:Int) (l:List DO):Int:=((l.countP (GM id):Nat):Int)
theorem FY (id:Int) (l:List DO):A7 id l=idx (GM id) l:=rfl
theorem VT {id:Int} {l:List DO} {k:Nat} {x:DO} (h:l[k]? =some x):FH id (l.take (k+1))=FH id (l.take k)+(if x.BG=id then 1 else 0):=by
 unfold FH;rw [X8 h];unfold GM;simp only [beq_iff_eq]
theorem Rq {id:Int} {l:List DO} {k:Nat} {x:DO} (h:l[k]? =some x):A7 id (l.take (k+1))=if FH id (l.take k)=0 then (if x.BG=id then (k:Int) else -1) else A7 id (l.take k):=by
 rw [FY,FY,X7 h]
 have:=KM (p:=GM id) (l:=l.take k)
 unfold FH
 by_cases h2:idx (GM id) (l.take k)<0
 ·
  have h4:(((l.take k).countP (GM id):Nat):Int)=0:=by rw [this.1 h2];rfl
  rw [if_pos h2,if_pos h4];unfold GM;simp only [beq_iff_eq]
 · rw [if_neg h2,if_neg (fun h3=>h2 (this.2 (by omega)))]
theorem Rr {id:Int} {l:List DO} (h:FH id l=0):A7 id l= -1:=by
 have h2:=(KM (p:=GM id) (l:=l)).2 (by unfold FH at h;omega)
 rw [FY];unfold idx at h2 ⊢
 cases h3:l.findIdx? (GM id) with
 |none=>rfl
 |some i=>rw [h3] at h2;simp at h2;omega
def FI (e:BJ) (k:Int):Int×Bool:=if k=3 then (e.most,true) else if k=4 then (e.least,true) else if k=11 then (ED e.De,true) else if k=12 then (ED e.own,true) else (0,false)
def Df (e:BJ) (k:Int):List Int×Bool×Bool:=
 if k=1∨k=2 then (e.AF,decide (k=1),true) else if k=7∨k=8 then (e.anchors,decide (k=7),true) else if k=9∨k=10 then (e.hashes,decide (k=9),true) else ([],false,false)
theorem F9 (x:DO):decide (x=A8)=Ol x:=by
 rw [Bool.eq_iff_iff,decide_eq_true_eq];unfold Ol A8
 cases x;simp only [DO.mk.injEq,Bool.and_eq_true,decide_eq_true_eq,beq_iff_eq,and_assoc]
 constructor
 · rintro ⟨h1,h2,h3,h4⟩;exact ⟨h1,h2,h3,by simp [h4]⟩
 · rintro ⟨h1,h2,h3,h4⟩;exact ⟨h1,h2,h3,List.eq_nil_of_length_eq_zero (by omega)⟩
theorem Hq {l:List Int} {n:Int}  :A4 prog 78 [ints l,int n] (int (idx (fun y=>n==y) l)):=by
 refine fo func78 rfl ⟨rfl,rfl⟩ fun M0 w0=>(Tr.EC 0 rfl fun Ex=> ?_)
 refine a2 ?_
 refine Tr.block (Tr.BW [(1,_),(7,_),(8,_)] (OH rfl) (fun k:Nat=>[(9,int ((k:Nat):Int))]) (fun k:Nat=>k≤(l).length∧(∀j y,j<k→l[j]? =some y→(n==y)=false)) (fun k:Nat=>(l).length-k) 0 (⟨Nat.zero_le _,fun j y hj=>absurd hj (by omega)⟩) ⟨ke rfl,trivial⟩ ?_)
 rintro k ⟨Bk,Ac⟩
 refine ac ?_
 refine Tr.seq ?_
 refine Tr.cn rfl ?_ ?_<;>intro h1 q1
 have Ao:k<(l).length:=AZ h1
 obtain ⟨x,An⟩:=at_ Ao
 · repeat' first|(exact int_eq (F7 (p:=fun y=>n==y) An (by simp;omega) Ac))|(exact Fin.AG (k+1) ⟨⟨Ao,D_ (p:=fun y=>n==y) An (by simp;omega) Ac⟩,by omega⟩ ⟨⟨_,rfl,AS k⟩,ke rfl,ke rfl,ke rfl,trivial⟩)|refine co rfl (AB rfl underlying22 Cg (vl rfl) (vl rfl) (by omega) (by exact Ak (by assumption))) ?_|refine ac ?_|(refine Tr.cn rfl ?_ ?_<;>intro h q)
 have BQ:k=(l).length:=by have:=Aa h1;omega
 subst BQ
 refine a3 ?_
 · exact int_eq (HB (p:=fun y=>n==y) Ac)
theorem K6 {e:BJ} {id:Int} (hl:e.ids.length≤1000000):A4 prog 79 [agg (Aj e),int id] (Eu [int (FH id e.ids),int (A7 id e.ids)]):=by
 refine fo func79 rfl ⟨rfl,rfl⟩ fun M0 w0=> ?_
 refine a3 ?_
 refine Tr.block (Tr.BW [(1,_),(11,_),(12,_)] (OH rfl) (fun k:Nat=>[(13,int ((k:Nat):Int)),(6,int (FH id (e.ids.take k))),(7,int (A7 id (e.ids.take k)))]) (fun k:Nat=>k≤(e.ids).length) (fun k:Nat=>(e.ids).length-k) 0 (Nat.zero_le _) ⟨ke rfl,⟨_,rfl,int_eq rfl⟩,⟨_,rfl,int_eq rfl⟩,trivial⟩ ?_)
 rintro k Bk
 refine ac ?_
 refine Tr.seq ?_
 refine Tr.cn rfl ?_ ?_<;>intro h1 q1
 have Ao:k<(e.ids).length:=AZ h1
 obtain ⟨x,An⟩:=at_ Ao
 have hc:=VT (id:=id) An
 have hi:=Rq (id:=id) An
 have Yi:0≤FH id (e.ids.take k)∧FH id (e.ids.take k)≤1000000:=⟨by unfold FH;omega,by have:=gY (p:=GM id) (k:=k) hl;unfold FH;omega⟩
 have h0:=Rr (id:=id) (l:=e.ids.take k)
 refine ac ?_
 refine ao ?_
 refine tp rfl (AB rfl underlying30 Be (vl rfl) (vl rfl) (by omega) (by exact Ak (by assumption))) ?_
 refine tp rfl (AO rfl Ew Be (vl rfl) rfl rfl) ?_
 refine Tl rfl rfl rfl rfl JG IB (fun b1=> ?_)
 refine tm rfl ?_
 refine sf 0 9 ⟨rfl,rfl,rfl⟩ rfl rfl rfl rfl ?_
 refine ao ?_
 · repeat' first|exact Fin.AG (k+1) ⟨Ao,by omega⟩ ⟨⟨_,rfl,AS k⟩,⟨_,rfl,int_eq (by simp_all)⟩,⟨_,rfl,int_eq (by simp_all)⟩,ke rfl,ke rfl,ke rfl,trivial⟩|refine ac ?_|(refine Tr.cn rfl ?_ ?_<;>intro h q)
 have BQ:k=(e.ids).length:=by have:=Aa h1;omega
 subst BQ
 rw [List.take_length]
 refine a2 ?_
 refine Tr.ret (Fin.Fz rfl (Ct.F5 _ _) rfl ?_ rfl ?_)
 · exact Lr
 · exact Lr
theorem Rs {b:Bool}  :A4 prog 128 [bool b] (int (ED b)):=by
 refine fo func128 rfl ⟨rfl,rfl⟩ fun M0 w0=> ?_
 · repeat' first|exact int_eq (by simp_all [ED])|refine ac ?_|(refine Tr.cn rfl ?_ ?_<;>intro h q)
theorem S_ {e:BJ} {k:Int}  :A4 prog 81 [agg (Aj e),int k] (Eu [int (FI e k).1,bool (FI e k).2]):=by
 refine fo func81 rfl ⟨rfl,rfl⟩ fun M0 w0=> ?_
 refine a2 ?_
 refine an ?_ ?_<;>intro h1 q1
 refine ac ?_
 refine Tr.ret (Fin.Au (Fin.AJ (Fin.Fz rfl (Ct.F5 _ _) rfl ?_ rfl ?_)))
 · exact int_eq (by simp_all [FI])
 · exact bool_eq (by simp_all [FI])
 refine an ?_ ?_<;>intro h2 q2
 refine ac ?_
 refine Tr.ret (Fin.Au (Fin.AJ (Fin.Fz rfl (Ct.F5 _ _) rfl ?_ rfl ?_)))
 · exact int_eq (by simp_all [FI])
 · exact bool_eq (by simp_all [FI])
 refine an ?_ ?_<;>intro h3 q3
 refine ac ?_
 refine co rfl (Bq (Rs) rfl rfl) ?_
 refine ac ?_
 refine CL 4 5 rfl (Tr.ret (Fin.Au (Fin.AJ (Fin.Fz rfl (Ct.F5 _ _) rfl ?_ rfl ?_))))
 · exact int_eq (by simp_all [FI])
 · exact bool_eq (by simp_all [FI])
 refine an ?_ ?_<;>intro h4 q4
 refine ac ?_
 refine co rfl (Bq (Rs) rfl rfl) ?_
 refine ac ?_
 refine CL 4 5 rfl (Tr.ret (Fin.Au (Fin.AJ (Fin.Fz rfl (Ct.F5 _ _) rfl ?_ rfl ?_))))
 · exact int_eq (by simp_all [FI])
 · exact bool_eq (by simp_all [FI])
 refine a2 ?_
 refine CL 4 5 rfl (Tr.ret (Fin.Fz rfl (Ct.F5 _ _) rfl ?_ rfl ?_))
 · exact int_eq (by simp_all [FI])
 · exact bool_eq (by simp_all [FI])
theorem VU {c:B8} (hcs:c.Cl.small):A4 prog 119 [agg (B3 c)] (bool (decide (ES c))):=by
 refine fo func119 rfl ⟨rfl,rfl⟩ fun M0 w0=> ?_
 refine ac ?_
 refine ac ?_
 refine co rfl (AX rfl (Sz (a:=c.Cl) (b:=A8) hcs) ⟨ke rfl,⟨_,rfl,AY ⟨Lr,Lr,Lr,AD 15,trivial⟩⟩,trivial⟩) ?_
 refine ac ?_
 refine ac ?_
 refine ac ?_
 refine Tr.cn rfl ?_ ?_<;>intro h1 q1
 refine ac ?_
 refine ac ?_
 · refine bool_eq ?_;(try simp only [F9] at*);rw [Bool.eq_iff_iff,decide_eq_true_eq];unfold ES GI;simp_all
 refine ac ?_
 refine Tr.cn rfl ?_ ?_<;>intro h2 q2
 refine ac ?_
 refine DD 2 rfl ?_
 refine ac ?_
 · refine bool_eq ?_;(try simp only [F9] at*);rw [Bool.eq_iff_iff,decide_eq_true_eq];unfold ES GI;simp_all
 refine ac ?_
 refine ac ?_
 refine Ch.cs 21 rfl ?_ ?_<;>intro h3 q3
 refine ac ?_
 refine Ch.cs 26 rfl ?_ ?_<;>intro h4 q4
 refine ac ?_
 refine Ch.cs 29 rfl ?_ ?_<;>intro h5 q5
 refine ac ?_
 refine DD 2 rfl ?_
 refine ac ?_
 · refine bool_eq ?_;(try simp only [F9] at*);rw [Bool.eq_iff_iff,decide_eq_true_eq];unfold ES GI;simp_all
 refine ac ?_
 refine DD 2 rfl ?_
 refine ac ?_
 · refine bool_eq ?_;(try simp only [F9] at*);rw [Bool.eq_iff_iff,decide_eq_true_eq];unfold ES GI;simp_all
 refine ac ?_
 refine DD 2 rfl ?_
 refine ac ?_
 · refine bool_eq ?_;(try simp only [F9] at*);rw [Bool.eq_iff_iff,decide_eq_true_eq];unfold ES GI;simp_all;omega
 refine ac ?_
 refine DD 2 rfl ?_
 refine ac ?_
 · refine bool_eq ?_;(try simp only [F9] at*);rw [Bool.eq_iff_iff,decide_eq_true_eq];unfold ES GI;simp_all;omega
theorem Rt {e:BJ} {k:Int}  :A4 prog 120 [agg (Aj e),int k] (Eu [ints (Df e k).1,bool (Df e k).2.1,bool (Df e k).2.2]):=by
 refine fo func120 rfl ⟨rfl,rfl⟩ fun M0 w0=> ?_
 refine ac ?_
 refine ac ?_
 refine ac ?_
 refine Tr.cn rfl ?_ ?_<;>intro h1 q1
 refine ac ?_
 refine Tr.cond rfl (fun _=> ?_) (fun h=>nomatch h1.symm.trans h)
 refine ac ?_
 refine Cr 4 5 6 rfl (Tr.ret (Fin.Au (Fin.AJ (Fin.SA rfl (Ct.F5 _ _) rfl ?_ rfl ?_ rfl ?_))))
 · exact Pr.le_of_eq (by simp_all [Df])
 · exact bool_eq (by simp_all [Df])
 · exact bool_eq (by simp_all [Df])
 refine ac ?_
 refine Tr.cn rfl ?_ ?_<;>intro h2 q2
 refine ac ?_
 refine Cr 4 5 6 rfl (Tr.ret (Fin.Au (Fin.AJ (Fin.SA rfl (Ct.F5 _ _) rfl ?_ rfl ?_ rfl ?_))))
 · exact Pr.le_of_eq (by simp_all [Df])
 · exact bool_eq (by simp_all [Df])
 · exact bool_eq (by simp_all [Df])
 refine ac ?_
 refine Tr.cn rfl ?_ ?_<;>intro h3 q3
 refine ac ?_
 refine Tr.cond rfl (fun _=> ?_) (fun h=>nomatch h3.symm.trans h)
 refine ac ?_
 refine Cr 4 5 6 rfl (Tr.ret (Fin.Au (Fin.AJ (Fin.SA rfl (Ct.F5 _ _) rfl ?_ rfl ?_ rfl ?_))))
 · exact Pr.le_of_eq (by simp_all [Df])
 · exact bool_eq (by simp_all [Df])
 · exact bool_eq (by simp_all [Df])
 refine ac ?_
 refine Tr.cn rfl ?_ ?_<;>intro h4 q4
 refine ac ?_
 refine Cr 4 5 6 rfl (Tr.ret (Fin.Au (Fin.AJ (Fin.SA rfl (Ct.F5 _ _) rfl ?_ rfl ?_ rfl ?_))))
 · exact Pr.le_of_eq (by simp_all [Df])
 · exact bool_eq (by simp_all [Df])
 · exact bool_eq (by simp_all [Df])
 refine ac ?_
 refine Ez 1 2 7 22 rfl ?_
 refine Tr.cn rfl ?_ ?_<;>intro h5 q5
 refine ac ?_
 refine Tr.cond rfl (fun _=> ?_) (fun h=>nomatch h5.symm.trans h)
 refine ac ?_
 refine Tr.ret (Fin.Au (Fin.AJ (Fin.SA rfl (Ct.F5 _ _) rfl ?_ rfl ?_ rfl ?_)))
 · exact Pr.le_of_eq (by simp_all [Df])
 · exact bool_eq (by simp_all [Df])
 · exact bool_eq (by simp_all [Df])
 refine ac ?_
 refine Tr.cn rfl ?_ ?_<;>intro h6 q6
 refine ac ?_
 refine Tr.ret (Fin.Au (Fin.AJ (Fin.SA rfl (Ct.F5 _ _) rfl ?_ rfl ?_ rfl ?_)))
 · exact Pr.le_of_eq (by simp_all [Df])
 · exact bool_eq (by simp_all [Df])
 · exact bool_eq (by simp_all [Df])
 refine ac ?_
 refine ac ?_
 refine Tr.ret (Fin.SA rfl (Ct.F5 _ _) rfl ?_ rfl ?_ rfl ?_)
 · exact Pr.le_trans (AD 1) (Pr.le_of_eq (by rw [show (Df e k).1=[] by simp_all [Df]];rfl))
 · exact bool_eq (by simp_all [Df])
 · exact bool_eq (by simp_all [Df])
theorem K7 {l:List Int} {i:Nat} {n:Int} (hi:i≤l.length) (hl:l.length≤1000000):A4 prog 121 [ints l,int ((i:Nat):Int),int n] (ints (l.take i++[n]++l.drop i)):=by
 refine fo func121 rfl ⟨rfl,rfl⟩ fun M0 w0=> ?_
 have hml:(l.map fun n:Int=>[int n]).length=l.length:=List.length_map _
 refine ac ?_
 refine ap ?_
 refine tp rfl (Cn rfl underlying22 Cg (vl rfl) (vl rfl) (by omega) (by omega)) (TO.pad ?_)
 refine TO.GR 0 rfl rfl (by decide) (CN rfl rfl (by decide) rfl underlying22 Cg UT z3 rfl (by decide) ⟨_,rfl,AD _⟩ (vl rfl) (by simp only [List.length_map,List.length_append,List.length_cons,List.length_nil,List.length_take,List.length_drop];unfold maxLen;omega) (by simp only [List.length_map,List.length_append,List.length_cons,List.length_nil,List.length_take,List.length_drop];omega) (Bx (by exact List.Mem.head _) ⟨_,rfl,E8 1⟩)) (fun v1=> ?_)
 refine ap ?_
 refine ap ?_
 refine TO.GR 0 rfl rfl (by decide) (DN rfl rfl rfl rfl underlying22 Cg UT z3 (Kb rfl) (Kf rfl) (B9 (by exact List.Mem.head _) (Ka rfl))) (fun v2=> ?_)
 refine ap ?_
 refine ap ?_
 refine tp rfl (B1 rfl underlying22 Cg (vl rfl) (vl rfl) (by omega) (by omega)) ?_
 refine TO.GR 0 rfl rfl (by decide) (DN rfl rfl rfl rfl underlying22 Cg UT z3 (Kb rfl) (vl rfl) (B9 (by exact List.Mem.head _) (Ka rfl))) (fun v3=> ?_)
 refine ap ?_
 refine DD 6 rfl ?_
 refine ac ?_
 · exact Pr.le_trans (Ar _ _) (Pr.le_of_eq (by show _=slice 1 ((l.take i++[n]++l.drop i).map fun n=>[int n]);simp [List.map_take,List.map_drop]))
theorem Hr {l:List Int} {i:Nat} (hi:i<l.length) (hl:l.length≤1000000):A4 prog 122 [ints l,int ((i:Nat):Int)] (ints (l.eraseIdx i)):=by
 refine fo func122 rfl ⟨rfl,rfl⟩ fun M0 w0=> ?_
 have hml:(l.map fun n:Int=>[int n]).length=l.length:=List.length_map _
 refine ac ?_
 refine ap ?_
 refine tp rfl (Cn rfl underlying22 Cg (vl rfl) (vl rfl) (by omega) (by omega)) (TO.pad ?_)
 refine TO.GR 0 rfl rfl (by decide) (CN rfl rfl (by decide) rfl underlying22 Cg UT z3 rfl (by decide) ⟨_,rfl,AD _⟩ (vl rfl) (by simp only [List.length_map,List.length_append,List.length_cons,List.length_nil,List.length_take,List.length_drop];unfold maxLen;omega) (by simp only [List.length_map,List.length_append,List.length_cons,List.length_nil,List.length_take,List.length_drop];omega) (Bx (by exact List.Mem.head _) ⟨_,rfl,E8 1⟩)) (fun v1=> ?_)
 refine ap ?_
 refine ap ?_
 refine tp rfl (B1 rfl underlying22 Cg (vl rfl) (vl rfl) (by omega) (by omega)) ?_
 refine TO.GR 0 rfl rfl (by decide) (DN rfl rfl rfl rfl underlying22 Cg UT z3 (Kb rfl) (vl rfl) (B9 (by exact List.Mem.head _) (Ka rfl))) (fun v2=> ?_)
 refine ap ?_
 refine ac ?_
 · exact Pr.le_trans (Ar _ _) (Pr.le_of_eq (by rw [List.eraseIdx_eq_take_drop_succ];show _=slice 1 ((l.take i++l.drop (i+1)).map fun n=>[int n]);simp [List.map_take,List.map_drop,show (((i:Nat):Int)+1).toNat=i+1 by omega]))
theorem LS {l:List Int} {n:Int} (hl:l.length≤1000000):A4 prog 123 [ints l,int n] (ints (K0 l n)):=by
 refine fo func123 rfl ⟨rfl,rfl⟩ fun M0 w0=>(Tr.EC 0 rfl fun Ex=> ?_)
 refine a2 ?_
 refine Tr.seq (Tr.block (Tr.BW [(0,_),(1,_)] (LH rfl) (fun k:Nat=>[(5,int ((k:Nat):Int))]) (fun k:Nat=>k≤l.length∧(∀j y,j<k→l[j]? =some y→y<n)) (fun k:Nat=>l.length-k) 0 (⟨Nat.zero_le _,fun j y hj=>absurd hj (by omega)⟩) ⟨ke rfl,trivial⟩ ?_))
 rintro k ⟨Bk,hinv⟩
 refine ag ?_ ?_<;>intro h1 q1
 obtain ⟨x,hx⟩:=at_ (l:=l) (k:=k) (by omega)
 refine ac ?_
 refine cy h1 rfl (AB rfl underlying22 Cg (vl rfl) (vl rfl) (by omega) (Ak hx)) ?_
 refine ac ?_
 refine Ez 0 1 5 17 rfl ?_
 refine Tr.cn rfl ?_ ?_<;>intro h2 q2
 have hq:=h2
 refine a2 ?_
 exact Fin.AG (k+1) ⟨⟨by omega,bsX hinv hx (by simpa using hq)⟩,by omega⟩ ⟨⟨_,rfl,AS k⟩,ke rfl,ke rfl,trivial⟩
 have hp:DG l n=k:=L7 Bk hinv (fun y hy=>by have h_:=h2;rw [hx] at hy;cases hy;simpa using h_)
 refine a2 ?_
 refine co rfl (AX rfl (K7 (l:=l) (i:=DG l n) (L6 _ _) hl) ⟨ke rfl,⟨_,rfl,int_eq (by omega)⟩,ke rfl,trivial⟩) ?_
 refine a2 ?_
 · exact Lr
 have hp:DG l n=k:=L7 Bk hinv (fun y hy=>by have:=Bb hy;have:=q1;omega)
 refine ac ?_
 refine Ez 0 1 5 17 rfl ?_
 refine a2 ?_
 refine co rfl (AX rfl (K7 (l:=l) (i:=DG l n) (L6 _ _) hl) ⟨ke rfl,⟨_,rfl,int_eq (by omega)⟩,ke rfl,trivial⟩) ?_
 refine a2 ?_
 · exact Lr
def Jr (e:BJ) (c:B8):Int:=
 if BK e=false then 19 else if ¬ES c then 40
 else if c.kind=1∧(c.at_<0∨(e.AF.length:Int)<c.at_) then 2
 else if c.kind=5∧(c.at_<0∨(e.ids.length:Int)<c.at_) then 2
 else if (c.kind=11∨c.kind=12)∧(c.number≠0∧c.number≠1) then 2
 else if (Df e c.kind).2.2=true∧decide (0≤idx (fun y=>c.number==y) (Df e c.kind).1)=(Df e c.kind).2.1 then 41
 else if (FI e c.kind).2=true∧(FI e c.kind).1=c.number then 41
 else if c.kind=5∧0<FH c.Cl.BG e.ids then 41
 else if c.kind=6∧FH c.number e.ids=0 then 41
 else if c.kind=6∧1<FH c.number e.ids then 5 else 0
theorem QM {l:List Int} (hs:F4 l) {n:Int}:idx (fun y=>n==y) l=if Cz l n=true then ((DG l n:Nat):Int) else -1:=by
 by_cases h:Cz l n=true
 ·
  rw [if_pos h]
  obtain ⟨y,hy⟩:=at_ (Hh h)
  have nI:y=n:=by have h2:=L8 rfl hy;rw [h] at h2;simpa using h2.symm
  exact (F7 (p:=fun y=>n==y) hy (by simp [nI]) (fun j z hj hz=>by have:=Pw hj hz;simp;omega)).symm
 ·
  rw [if_neg h]
  refine (HB (p:=fun y=>n==y) (fun j z hj hz=> ?_)).symm
  simp only [beq_eq_false_iff_ne,ne_eq]
  intro hn;subst hn
  rcases Nat.lt_trichotomy j (DG l n) with h1|h1|h1
  · have:=Pw h1 hz;omega
  · subst h1;exact h (by rw [L8 rfl hz];simp)
  ·
   obtain ⟨y,hy⟩:=at_ (l:=l) (k:=DG l n) (by have:=Bb hz;omega)
   have h2:=T5 hy
   have h3:=Px hs h1 hy hz
   omega
theorem bH {l:List DO} {n:Int} {x:DO} (h0:¬A7 n l<0) (hx:l[(A7 n l).toNat]? =some x):(1<FH n l)↔((l.drop (A7 n l+1).toNat).any fun x=>x.BG==n)=true:=by
 obtain ⟨y,hy,hp,hlt⟩:=I5 (p:=GM n) (l:=l) (by rw [←FY];omega)
 rw [←FY] at hy hlt
 have hsplit:l=l.take (A7 n l).toNat++y::l.drop ((A7 n l).toNat+1):=by
  rw [List.getElem?_eq_getElem hlt] at hy;cases hy
  rw [List.getElem_cons_drop];exact (List.take_append_drop _ _).symm
 have h1:(l.take (A7 n l).toNat).countP (GM n)=0:=by
  refine KM.1 (Int.not_le.1 fun h2=> ?_)
  obtain ⟨z,hz,hzp,hzl⟩:=I5 h2
  have e1:A7 n l=idx (GM n) (l.take (A7 n l).toNat):=by
   obtain ⟨i,hi⟩:∃i:Nat,idx (GM n) (l.take (A7 n l).toNat)=(i:Int):=⟨_,(Int.toNat_of_nonneg h2).symm⟩
   have h3:((l.take (A7 n l).toNat).findIdx? (GM n))=some i:=by
    unfold idx at hi;cases h4:(l.take (A7 n l).toNat).findIdx? (GM n) with
    |none=>rw [h4] at hi;simp at hi
    |some k=>rw [h4] at hi;rw [show k=i by simp at hi;omega]
   have h5:l.findIdx? (GM n)=some i:=by
    rw [←List.take_append_drop (A7 n l).toNat l,List.findIdx?_append,h3];rfl
   have e2:idx (GM n) l=(i:Int):=by unfold idx;rw [h5]
   exact e2.trans hi.symm
  rw [←e1] at hzl;rw [List.length_take] at hzl;omega
 have h2:l.countP (GM n)=1+(l.drop ((A7 n l).toNat+1)).countP (GM n):=by
  conv=>lhs;rw [hsplit]
  rw [List.countP_append,h1,List.countP_cons,hp];simp;omega
 unfold FH;rw [h2,show (A7 n l+1).toNat=(A7 n l).toNat+1 by omega]
 show _↔(List.any _ (GM n))=true
 rw [List.any_eq_true,←List.countP_pos_iff];omega
theorem bI {l:List Int} {n:Int}:decide (0≤idx (fun y=>n==y) l)=l.any fun y=>n==y:=Ly _ _
theorem MN {l:List Int} (hs:F4 l) {n:Int}:decide (0≤idx (fun y=>n==y) l)=Cz l n:=by
 rw [QM hs];cases Cz l n<;>simp
theorem Ru {e:BJ} {c:B8} (hce:BK e=true) (hc:ES c):Jr e c=match BB e c with| .error f=>f| .ok _=>0:=by
 have ok:=Bv.1 hce
 have ha:=ER ok.gN;have hh:=ER ok.hash
 have hk:=hc.1
 unfold Jr
 rw [if_neg (by rw [hce];decide),if_neg (not_not_intro hc)]
 have h0:c.kind=1∨c.kind=2∨c.kind=3∨c.kind=4∨c.kind=5∨c.kind=6∨c.kind=7∨c.kind=8∨c.kind=9∨c.kind=10∨c.kind=11∨c.kind=12:=by omega
 rcases h0 with h|h|h|h|h|h|h|h|h|h|h|h
 ·
  rw [MA h];unfold Df FI;simp only [h]
  by_cases h1:c.at_<0∨(e.AF.length:Int)<c.at_
  ·
   have h2:¬(0≤c.at_∧c.at_≤(e.AF.length:Int)):=by omega
   simp [h1,h2]
  ·
   have h2:0≤c.at_∧c.at_≤(e.AF.length:Int):=by omega
   have h3:=bI (l:=e.AF) (n:=c.number)
   have h4:(0≤idx (fun y=>c.number==y) e.AF)↔(e.AF.any fun y=>c.number==y)=true:=by rw [←h3,decide_eq_true_eq]
   by_cases h5:(e.AF.any fun y=>c.number==y)=true
   · have h6:=h4.2 h5;simp only [h5];simp [h1,h2,h6]
   ·
    have h6:¬0≤idx (fun y=>c.number==y) e.AF:=fun h=>h5 (h4.1 h)
    simp only [h5];simp [h1,h2,h6]
 ·
  rw [MB h];unfold Df FI ID;simp only [h]
  by_cases h1:idx (fun y=>c.number==y) e.AF<0
  · simp [h1]
  · simp [h1]
 · rw [MC h];unfold Df FI;simp only [h];by_cases h1:e.most=c.number<;>simp [h1]
 · rw [MD h];unfold Df FI;simp only [h];by_cases h1:e.least=c.number<;>simp [h1]
 ·
  rw [ME h];unfold Df FI;simp only [h]
  have gZ:=KM (p:=GM c.Cl.BG) (l:=e.ids)
  rw [←FY] at gZ
  by_cases h1:c.at_<0∨(e.ids.length:Int)<c.at_
  ·
   have h2:¬(0≤c.at_∧c.at_≤(e.ids.length:Int)):=by omega
   simp [h1,h2]
  ·
   have h3:0≤c.at_∧c.at_≤(e.ids.length:Int):=by omega
   by_cases h2:0≤A7 c.Cl.BG e.ids
   ·
    have:0<FH c.Cl.BG e.ids:=by unfold FH;omega
    simp [h1,h2,h3,this]
   ·
    have:¬0<FH c.Cl.BG e.ids:=by unfold FH;omega
    simp [h1,h2,h3,this]
 ·
  rw [MF h];unfold Df FI;simp only [h]
  have gZ:=KM (p:=GM c.number) (l:=e.ids)
  rw [←FY] at gZ
  by_cases h2:A7 c.number e.ids<0
  ·
   have:FH c.number e.ids=0:=by unfold FH;omega
   cases e.ids[(A7 c.number e.ids).toNat]? <;>simp [h2,this]
  ·
   have h3:¬FH c.number e.ids=0:=by unfold FH;omega
   obtain ⟨x,hx,_,_⟩:=I5 (p:=fun x:DO=>x.BG==c.number) (l:=e.ids) (by unfold A7 at h2;omega)
   have hx:e.ids[(A7 c.number e.ids).toNat]? =some x:=hx
   have hd:=bH h2 hx
   rw [hx];simp only [if_neg h2]
   by_cases h4:((e.ids.drop (A7 c.number e.ids+1).toNat).any fun x=>x.BG==c.number)=true
   · have:=hd.2 h4;simp only [h4];simp [h3,this]
   ·
    have:¬1<FH c.number e.ids:=fun h5=>h4 (hd.1 h5)
    simp only [h4];simp [h3,this]
 ·
  rw [MG h];unfold Df FI;simp only [h]
  have h1:(0≤idx (fun y=>c.number==y) e.anchors)↔Cz e.anchors c.number=true:=by rw [←MN ha,decide_eq_true_eq]
  by_cases h2:Cz e.anchors c.number=true
  · have h3:=h1.2 h2;simp [h2,h3]
  ·
   have h3:¬0≤idx (fun y=>c.number==y) e.anchors:=fun h=>h2 (h1.1 h)
   simp [h2,h3]
 ·
  rw [MH h];unfold Df FI;simp only [h]
  have h1:(0≤idx (fun y=>c.number==y) e.anchors)↔Cz e.anchors c.number=true:=by rw [←MN ha,decide_eq_true_eq]
  by_cases h2:Cz e.anchors c.number=true
  · have h3:=h1.2 h2;simp [h2,h3]
  ·
   have h3:¬0≤idx (fun y=>c.number==y) e.anchors:=fun h=>h2 (h1.1 h)
   simp [h2,h3]
 ·
  rw [MI h];unfold Df FI;simp only [h]
  have h1:(0≤idx (fun y=>c.number==y) e.hashes)↔Cz e.hashes c.number=true:=by rw [←MN hh,decide_eq_true_eq]
  by_cases h2:Cz e.hashes c.number=true
  · have h3:=h1.2 h2;simp [h2,h3]
  ·
   have h3:¬0≤idx (fun y=>c.number==y) e.hashes:=fun h=>h2 (h1.1 h)
   simp [h2,h3]
 ·
  rw [KI h];unfold Df FI;simp only [h]
  have h1:(0≤idx (fun y=>c.number==y) e.hashes)↔Cz e.hashes c.number=true:=by rw [←MN hh,decide_eq_true_eq]
  by_cases h2:Cz e.hashes c.number=true
  · have h3:=h1.2 h2;simp [h2,h3]
  ·
   have h3:¬0≤idx (fun y=>c.number==y) e.hashes:=fun h=>h2 (h1.1 h)
   simp [h2,h3]
 ·
  rw [KJ h];unfold Df FI;simp only [h]
  by_cases h1:0≤c.number∧c.number≤1
  ·
   have:¬(c.number≠0∧c.number≠1):=by omega
   by_cases h2:ED e.De=c.number<;>simp [this,h1,h2]
  ·
   have:c.number≠0∧c.number≠1:=by omega
   simp [this,h1]
 ·
  rw [KK h];unfold Df FI;simp only [h]
  by_cases h1:0≤c.number∧c.number≤1
  ·
   have:¬(c.number≠0∧c.number≠1):=by omega
   by_cases h2:ED e.own=c.number<;>simp [this,h1,h2]
  ·
   have:c.number≠0∧c.number≠1:=by omega
   simp [this,h1]
theorem bJ {e:BJ} {c:B8} (h:Jr e c≠0):CY e c=(Bf,BM,Jr e c):=by
 by_cases hce:BK e=false
 ·
  have:Jr e c=19:=by unfold Jr;rw [if_pos hce]
  rw [this];unfold CY;rw [if_pos hce]
 ·
  by_cases hc:ES c
  ·
   have hce:BK e=true:=by simpa using hce
   have hs:=Ru hce hc
   cases h2:BB e c with
   |error f=>rw [h2] at hs;rw [FX hce hc h2,show Jr e c=f from hs]
   |ok r=>rw [h2] at hs;exact absurd hs h
  ·
   have:Jr e c=40:=by unfold Jr;rw [if_neg hce,if_pos hc]
   rw [this];unfold CY;rw [if_neg hce,if_pos hc]
theorem ga {e:BJ} {c:B8} (h:Jr e c=0):BK e=true∧ES c∧∃e2 b,BB e c= .ok (e2,b):=by
 by_cases hce:BK e=false
 ·
  have:Jr e c=19:=by unfold Jr;rw [if_pos hce]
  rw [this] at h;cases h
 ·
  by_cases hc:ES c
  ·
   have hce:BK e=true:=by simpa using hce
   have hs:=Ru hce hc
   cases h2:BB e c with
   |error f=>
    rw [h2] at hs;rw [h] at hs
    have h3:(0:Int)=f:=hs
    have:=Rj hc h2;omega
   |ok r=>exact ⟨hce,hc,r.1,r.2,rfl⟩
  ·
   have:Jr e c=40:=by unfold Jr;rw [if_neg hce,if_pos hc]
   rw [this] at h;cases h
theorem Nd {β γ:Type} {f:β→γ} {l:List β} {k:Nat} {x:β} (h:l[k]? =some x):(l.take k).map f++[f x]=(l.take (k+1)).map f:=by rw [List.take_add_one,h,List.map_append];rfl
theorem Nf {x:DO} (hx:x.small):A4 prog 80 [agg (BC x)] (agg (BC x)):=by
 refine fo func80 rfl ⟨rfl,rfl⟩ fun M0 w0=> ?_
 have hch:=hx.chain
 refine Tr.seq (Tr.Ax (tp rfl (Ba rfl (Va rfl)) ?_))
 refine Tl rfl rfl rfl rfl JG IB (fun b1=> ?_)
 refine ap ?_
 refine ap ?_
 refine Tl rfl rfl rfl rfl JG IB (fun b2=> ?_)
 refine ap ?_
 refine ac ?_
 refine EM 2 3 12 13 14 rfl (Tr.block (Tr.GQ 0 [int x.BO,int x.bits,int x.BG,Ay (.slice none 0 0) (slice 15 ((x.chain.take 0).map C1))] rfl ⟨Lr,Lr,Lr,Dv rfl,trivial⟩ (Tr.EZ 131 15 (Tr.Ea [(2,_),(3,_),(12,_),(13,_)] ⟨ke rfl,ke rfl,ke rfl,ke rfl,trivial⟩ (fun k v=>[(14,int ((k:Nat):Int))]) (fun k v=>Hp M0 w0 Jp ([BR 131 15 v,AA true b2 27 [int x.BO,int x.bits,int x.BG,Ay v (slice 15 ((x.chain.take k).map C1))],AA true b1 27 (([.int .i64 0,.int .i64 0,.int .i64 0,.slice none 0 0]:List Value).map is)])) (fun k:Nat=>k≤(x.chain).length) (fun k:Nat=>(x.chain).length-k) 0 (.slice none 0 0) (Nat.zero_le _) ⟨ke rfl,trivial⟩ (fun _ _ h=>h) ?_))))
 rintro k v Bk
 refine ac ?_
 refine Tr.seq ?_
 refine Tr.cn rfl ?_ ?_<;>intro h1 q1
 have Ao:k<(x.chain).length:=AZ h1
 obtain ⟨c,An⟩:=at_ Ao
 have hcn:=hx.names c (List.mem_of_getElem? An)
 refine ac ?_
 refine Tr.seq (Tr.block (Tr.seq (Tr.Ax (tp rfl (AB rfl underlying25 Cw (vl rfl) (vl rfl) (by omega) (by exact Ak (by assumption))) ?_))))
 refine tp rfl (AO rfl Em Cw (vl rfl) rfl rfl) ?_
 refine Tl rfl rfl rfl rfl z131 JI (fun b3=> ?_)
 refine ap ?_
 refine ap ?_
 refine tp rfl (L2 rfl underlying74 JB by9 z9 rfl (by decide) (vl rfl) (by simp only [List.length_map];unfold maxLen;omega) (by simp only [List.length_map];omega)) ?_
 refine ap ?_
 refine GS 2 3 5 12 13 14 rfl ?_
 refine ap ?_
 refine TO.GR 1 rfl rfl (by decide) (DN rfl rfl rfl rfl underlying25 Cw cC z131 (Kb rfl) (Kf rfl) (B9 (by exact List.Mem.head _) (Ka rfl))) (fun v1=> ?_)
 refine ap ?_
 refine Tr.drop 0 ?_
 refine ac ?_
 refine Fin.GQ 1 [int x.BO,int x.bits,int x.BG,Ay v1 (slice 15 ((x.chain.take (k+1)).map C1))] rfl ⟨Lr,Lr,Lr,CE (Nd (f:=C1) An),trivial⟩ (Fin.Fu (k+1) v1 (⟨Ao,by omega⟩) ⟨⟨_,rfl,AS k⟩,ke rfl,ke rfl,ke rfl,ke rfl,trivial⟩ (fun _ _ h=>h))
 have BQ:k=(x.chain).length:=by have:=Aa h1;omega
 subst BQ
 refine ac ?_
 refine ap ?_
 refine Tr.ret (Fin.CG rfl (AL.cell 2 rfl rfl Ew Be rfl (Lr)) ?_)
 · exact AY ⟨Lr,Lr,Lr,Pr.le_trans (Ar _ _) (Pr.le_of_eq (by rw [List.take_length])),trivial⟩
theorem DQ {e:BJ} (B6:e.small):A4 prog 96 [agg (Aj e)] (agg (Aj e)):=by
 refine fo func96 rfl ⟨rfl,rfl⟩ fun M0 w0=> ?_
 have hs1:=B6.AF
 have LM:=B6.anchors
 have T4:=B6.hashes
 have Vk:=B6.KF
 refine Tr.seq (Tr.Ax (tp rfl (Ba rfl (Va rfl)) ?_))
 refine Tl rfl rfl rfl rfl z32 Dl (fun b1=> ?_)
 refine ao ?_
 refine ao ?_
 refine Tl rfl rfl rfl rfl z32 Dl (fun b2=> ?_)
 refine TO.AR 0 rfl rfl rfl (vl rfl) (Va rfl) rfl BI rfl rfl ?_
 refine ao ?_
 refine Tr.seq (Tr.rx ?_)
 refine ax ?_
 refine xo rfl (fun _=>L2 rfl underlying22 Cg UT z3 rfl (by decide) (vl rfl) (by simp only [List.length_map];unfold maxLen;omega) (by simp only [List.length_map];omega)) ?_
 refine ax ?_
 refine xo rfl (fun _=>L2 rfl underlying22 Cg UT z3 rfl (by decide) (vl rfl) (by simp only [List.length_map];unfold maxLen;omega) (by simp only [List.length_map];omega)) ?_
 refine ax ?_
 refine xo rfl (fun _=>L2 rfl underlying22 Cg UT z3 rfl (by decide) (vl rfl) (by simp only [List.length_map];unfold maxLen;omega) (by simp only [List.length_map];omega)) ?_
 refine xo rfl (fun _=>AE rfl FQ (vl rfl)) (Cx.CT 0 rfl rfl (Ab rfl rfl (vl rfl) (Vo rfl) GU rfl (by exact Nb rfl) rfl) (xo rfl (fun _=>AE rfl IM (vl rfl)) (Cx.CT 0 rfl rfl (Ab rfl rfl (vl rfl) (Vo rfl) GU rfl (by exact Nb rfl) rfl) (xo rfl (fun _=>AE rfl JX (vl rfl)) (Cx.CT 0 rfl rfl (Ab rfl rfl (vl rfl) (Vo rfl) GU rfl (by exact Nb rfl) rfl) ?_)))))
 refine Cx.nil ⟨by kernel_rfl,?_⟩
 refine A9.done KP (Fin.go (Cr 1 2 3 rfl ?_))
 refine ao ?_
 refine TO.CT 0 rfl rfl (Ab rfl rfl (vl rfl) (Vo rfl) N0 rfl (by exact Nb rfl) rfl) ?_
 refine ao ?_
 refine ac ?_
 refine Tr.block (Tr.GQ 0 [str e.name,int e.least,int e.most,ints e.AF,bool e.own,Ay (.slice none 0 0) (slice 4 ((e.ids.take 0).map BC)),ints e.anchors,ints e.hashes,bool e.De] rfl ⟨Lr,Lr,Lr,Lr,Lr,Dv rfl,Lr,Lr,Lr,trivial⟩ (Tr.EZ 27 4 (Tr.Ea [(2,_),(3,_),(21,_),(22,_)] ⟨ke rfl,ke rfl,ke rfl,ke rfl,trivial⟩ (fun k v=>[(23,int ((k:Nat):Int))]) (fun k v=>Hp M0 w0 Jp ([BR 27 4 v,AA true b2 32 [str e.name,int e.least,int e.most,ints e.AF,bool e.own,Ay v (slice 4 ((e.ids.take k).map BC)),ints e.anchors,ints e.hashes,bool e.De],AA true b1 32 (([.string (ByteArray.mk #[]),.int .i64 0,.int .i64 0,.slice none 0 0,.bool false,.slice none 0 0,.slice none 0 0,.slice none 0 0,.bool false]:List Value).map is)])) (fun k:Nat=>k≤(e.ids).length) (fun k:Nat=>(e.ids).length-k) 0 (.slice none 0 0) (Nat.zero_le _) ⟨ke rfl,trivial⟩ (fun _ _ h=>h) ?_)))
 rintro k v Bk
 refine ac ?_
 refine Tr.seq ?_
 refine Tr.cn rfl ?_ ?_<;>intro h1 q1
 have Ao:k<(e.ids).length:=AZ h1
 obtain ⟨x,An⟩:=at_ Ao
 have hxs:=B6.ids x (List.mem_of_getElem? An)
 refine ac ?_
 refine Tr.seq (Tr.block (Tr.seq (Tr.Ax (tp rfl (AB rfl underlying30 Be (vl rfl) (vl rfl) (by omega) (by exact Ak (by assumption))) ?_))))
 refine tp rfl (AO rfl Ew Be (vl rfl) rfl rfl) ?_
 refine Tl rfl rfl rfl rfl JG IB (fun b3=> ?_)
 refine sf 0 5 ⟨rfl,rfl,rfl⟩ rfl rfl rfl rfl ?_
 refine ao ?_
 refine Tr.pad (Tr.rx ?_)
 refine ax ?_
 refine xo rfl (fun _=>Bq (Nf hxs) rfl rfl) (xo rfl (fun _=>AM (xs:=[.tmp 30]) (rows:=[_]) rfl rfl underlying30 Be JG rfl (by decide) ⟨⟨(by exact rfl),(Va rfl)⟩,trivial⟩ (by decide)) ?_)
 refine Cx.ef 1 rfl rfl (by decide) (DN rfl rfl rfl rfl underlying30 Be Nz JG (Kb rfl) (Kf rfl) (B9 (by exact List.Mem.head _) (Ka rfl))) ?_
 refine xo rfl (fun _=>AE rfl FR (vl rfl)) (Cx.CT 2 rfl rfl (Cb rfl rfl rfl (vl rfl) rfl N0 (by exact Nb rfl)) ?_)
 refine Cx.nil ⟨by kernel_rfl,?_⟩
 refine A9.Hu 1 2 32 rfl rfl (by decide) rfl (fun v1=> ?_)
 refine A9.done IY ?_
 refine ac ?_
 refine Tr.drop 0 (EM 2 3 21 22 23 rfl ?_)
 refine ac ?_
 refine Fin.GQ 1 [str e.name,int e.least,int e.most,ints e.AF,bool e.own,Ay v1 (slice 4 ((e.ids.take (k+1)).map BC)),ints e.anchors,ints e.hashes,bool e.De] rfl ⟨Lr,Lr,Lr,Lr,Lr,CE (Nd (f:=BC) An),Lr,Lr,Lr,trivial⟩ (Fin.Fu (k+1) v1 (⟨Ao,by omega⟩) ⟨⟨_,rfl,AS k⟩,ke rfl,ke rfl,ke rfl,ke rfl,trivial⟩ (fun _ _ h=>h))
 have BQ:k=(e.ids).length:=by have:=Aa h1;omega
 subst BQ
 refine ac ?_
 refine ao ?_
 refine TO.AR 2 rfl rfl rfl (vl rfl) (Va rfl) rfl BI rfl rfl ?_
 refine ao ?_
 refine Tr.ret (Fin.CG rfl (AL.cell 2 rfl rfl Bh BI rfl (Lr)) ?_)
 · exact AY ⟨Lr,Lr,Lr,Lr,Lr,Pr.le_trans (Ar _ _) (Pr.le_of_eq (by rw [List.take_length])),Lr,Lr,Lr,trivial⟩
theorem QN {e:BJ} {c:B8} (B6:e.small) (hcs:c.Cl.small):A4 prog 75 [agg (Aj e),agg (B3 c)] (int (Jr e c)):=by
 refine fo func75 rfl ⟨rfl,rfl⟩ fun M0 w0=> ?_
 refine ac ?_
 refine ac ?_
 refine co rfl (Bq (K5 B6) rfl rfl) ?_
 refine ac ?_
 refine Tr.cn rfl ?_ ?_<;>intro h1 q1
 refine ac ?_
 refine ac ?_
 · refine int_eq ?_;unfold Jr;repeat (refine (if_pos ?_).symm;simp_all)
 refine ac ?_
 refine ac ?_
 refine co rfl (Bq (VU (c:=c) hcs) rfl rfl) ?_
 refine ac ?_
 refine Tr.cn rfl ?_ ?_<;>intro h2 q2
 refine ac ?_
 refine ac ?_
 · refine int_eq ?_;unfold Jr;repeat (first|(refine (if_pos ?_).symm;omega)|(refine Eq.trans ?_ (if_neg ?_).symm;rotate_left;focus (simp_all;done)))
 refine ac ?_
 refine CL 2 3 rfl (Tr.HM [2,3] [] (¬(c.kind=1∧(c.at_<0∨(e.AF.length:Int)<c.at_))∧¬(c.kind=5∧(c.at_<0∨(e.ids.length:Int)<c.at_))∧¬((c.kind=11∨c.kind=12)∧(c.number≠0∧c.number≠1))) ?_ (fun uG=> ?_))
 refine ac ?_
 refine ac ?_
 refine Tr.cn rfl ?_ ?_<;>intro h4 q4
 refine ac ?_
 refine Ch.cs 27 rfl ?_ ?_<;>intro h5 q5
 refine ac ?_
 refine Cr 2 3 34 rfl ?_
 refine ac ?_
 refine ac ?_
 · refine int_eq ?_;unfold Jr;repeat (first|(refine (if_pos ?_).symm;omega)|(refine Eq.trans ?_ (if_neg ?_).symm;rotate_left;focus (simp_all;done)))
 refine ac ?_
 refine Cr 2 3 34 rfl ?_
 refine Tr.cn rfl ?_ ?_<;>intro h6 q6
 refine ac ?_
 refine ac ?_
 · refine int_eq ?_;unfold Jr;repeat (first|(refine (if_pos ?_).symm;omega)|(refine Eq.trans ?_ (if_neg ?_).symm;rotate_left;focus (simp_all;done)))
 refine Tr.skip (Fin.block (Fin.AG () (by omega) (LH rfl)))
 refine ac ?_
 refine Tr.cn rfl ?_ ?_<;>intro h7 q7
 refine ac ?_
 refine Ch.cs 40 rfl ?_ ?_<;>intro h8 q8
 refine ac ?_
 refine Cr 2 3 47 rfl ?_
 refine ac ?_
 refine ac ?_
 · refine int_eq ?_;unfold Jr;repeat (first|(refine Eq.trans ?_ (if_neg ?_).symm;rotate_left;focus (omega))|(refine (if_pos ?_).symm;omega)|(refine Eq.trans ?_ (if_neg ?_).symm;rotate_left;focus (simp_all;done)))
 refine ac ?_
 refine Cr 2 3 47 rfl ?_
 refine Tr.cn rfl ?_ ?_<;>intro h9 q9
 refine ac ?_
 refine ac ?_
 · refine int_eq ?_;unfold Jr;repeat (first|(refine Eq.trans ?_ (if_neg ?_).symm;rotate_left;focus (omega))|(refine (if_pos ?_).symm;omega)|(refine Eq.trans ?_ (if_neg ?_).symm;rotate_left;focus (simp_all;done)))
 refine Tr.skip (Fin.block (Fin.AG () (by omega) (LH rfl)))
 refine ac ?_
 refine Tr.cn rfl ?_ ?_<;>intro h10 OZ
 refine ac ?_
 refine Tr.cond rfl (fun _=> ?_) (fun h=>nomatch h10.symm.trans h)
 refine ac ?_
 refine Ch.cs 54 rfl ?_ ?_<;>intro h11 QX
 refine ac ?_
 refine Cr 2 3 58 rfl ?_
 refine Tr.cn rfl ?_ ?_<;>intro h12 QY
 refine ac ?_
 refine ac ?_
 · refine int_eq ?_;unfold Jr;repeat (first|(refine Eq.trans ?_ (if_neg ?_).symm;rotate_left;focus (omega))|(refine (if_pos ?_).symm;omega)|(refine Eq.trans ?_ (if_neg ?_).symm;rotate_left;focus (simp_all;done)))
 refine Tr.skip (Fin.block (Fin.AG () (by omega) (LH rfl)))
 refine ac ?_
 refine Cr 2 3 58 rfl (Tr.cond rfl (fun h=>nomatch h) (fun _=> ?_))
 refine Tr.skip (Fin.block (Fin.AG () (by omega) (LH rfl)))
 refine ac ?_
 refine Tr.cn rfl ?_ ?_<;>intro HW Q_
 refine ac ?_
 refine Ch.cs 54 rfl ?_ ?_<;>intro Pf YV
 refine ac ?_
 refine Cr 2 3 58 rfl ?_
 refine Tr.cn rfl ?_ ?_<;>intro QZ cr
 refine ac ?_
 refine ac ?_
 · refine int_eq ?_;unfold Jr;repeat (first|(refine Eq.trans ?_ (if_neg ?_).symm;rotate_left;focus (omega))|(refine (if_pos ?_).symm;omega)|(refine Eq.trans ?_ (if_neg ?_).symm;rotate_left;focus (simp_all;done)))
 refine Tr.skip (Fin.block (Fin.AG () (by omega) (LH rfl)))
 refine ac ?_
 refine Cr 2 3 58 rfl (Tr.cond rfl (fun h=>nomatch h) (fun _=> ?_))
 refine Tr.skip (Fin.block (Fin.AG () (by omega) (LH rfl)))
 refine Tr.skip (Fin.block (Fin.AG () (by omega) (LH rfl)))
 refine CL 2 3 rfl (Tr.HM [2,3] [] (¬((Df e c.kind).2.2=true∧decide (0≤idx (fun y=>c.number==y) (Df e c.kind).1)=(Df e c.kind).2.1)) ?_ (fun uH=> ?_))
 refine ac ?_
 refine co rfl (Dc (Rt) rfl rfl rfl) ?_
 refine ac ?_
 refine ac ?_
 refine Ch.cs 68 rfl ?_ ?_<;>intro Tu ck
 refine ac ?_
 refine cy Tu rfl (Dc (Hq) rfl rfl rfl) ?_
 refine ac ?_
 refine Cr 2 3 76 rfl ?_
 refine Tr.cn rfl ?_ ?_<;>intro Tv jB
 refine ac ?_
 refine ac ?_
 · refine int_eq ?_;unfold Jr;repeat (first|(refine Eq.trans ?_ (if_neg ?_).symm;rotate_left;focus (omega))|(refine Eq.trans ?_ (if_neg ?_).symm;rotate_left;focus (simp_all;done))|(refine (if_pos ?_).symm;simp_all;done))
 refine Tr.skip (Fin.AG () (by simp_all) (LH rfl))
 refine ac ?_
 refine Cr 2 3 76 rfl (Tr.cond rfl (fun h=>nomatch h) (fun _=> ?_))
 refine Tr.skip (Fin.AG () (by simp_all) (LH rfl))
 refine CL 2 3 rfl (Tr.HM [2,3] [] (¬((FI e c.kind).2=true∧(FI e c.kind).1=c.number)) ?_ (fun hval=> ?_))
 refine ac ?_
 refine co rfl (Dc (S_) rfl rfl rfl) ?_
 refine ac ?_
 refine ac ?_
 refine Ch.cs 85 rfl ?_ ?_<;>intro N5 jC
 refine ac ?_
 refine Cr 2 3 90 rfl ?_
 refine Tr.cn rfl ?_ ?_<;>intro cq mK
 refine ac ?_
 refine ac ?_
 · refine int_eq ?_;unfold Jr;repeat (first|(refine Eq.trans ?_ (if_neg ?_).symm;rotate_left;focus (omega))|(refine Eq.trans ?_ (if_neg ?_).symm;rotate_left;focus (simp_all;done))|(refine (if_pos ?_).symm;simp_all;done))
 refine Tr.skip (Fin.AG () (by simp_all) (LH rfl))
 refine ac ?_
 refine Cr 2 3 90 rfl (Tr.cond rfl (fun h=>nomatch h) (fun _=> ?_))
 refine Tr.skip (Fin.AG () (by simp_all) (LH rfl))
 refine CL 2 3 rfl (Tr.HM [2,3] [] (¬(c.kind=5∧0<FH c.Cl.BG e.ids)) ?_ (fun uI=> ?_))
 refine ac ?_
 refine Tr.cn rfl ?_ ?_<;>intro h23 q23
 refine ac ?_
 refine co rfl (Dc (K6 B6.KF) rfl rfl rfl) ?_
 refine ac ?_
 refine Cr 2 3 10 rfl ?_
 refine ac ?_
 refine Tr.cn rfl ?_ ?_<;>intro h24 q24
 refine ac ?_
 refine ac ?_
 · refine int_eq ?_;unfold Jr;repeat (first|(refine Eq.trans ?_ (if_neg ?_).symm;rotate_left;focus (omega))|(refine (if_pos ?_).symm;omega)|(refine Eq.trans ?_ (if_neg ?_).symm;rotate_left;focus (simp_all;done)))
 refine Tr.skip (Fin.AG () (by omega) (LH rfl))
 refine Tr.skip (Fin.AG () (by omega) (LH rfl))
 refine ac ?_
 refine Tr.cn rfl ?_ ?_<;>intro h25 q25
 refine ac ?_
 refine co rfl (Dc (K6 B6.KF) rfl rfl rfl) ?_
 refine ac ?_
 refine DD 12 rfl ?_
 refine ac ?_
 refine Tr.cn rfl ?_ ?_<;>intro mM mN
 refine ac ?_
 refine ac ?_
 · refine int_eq ?_;unfold Jr;repeat (first|(refine Eq.trans ?_ (if_neg ?_).symm;rotate_left;focus (omega))|(refine (if_pos ?_).symm;omega)|(refine Eq.trans ?_ (if_neg ?_).symm;rotate_left;focus (simp_all;done)))
 refine ac ?_
 refine ac ?_
 refine Tr.cn rfl ?_ ?_<;>intro cv q27
 refine ac ?_
 refine ac ?_
 · refine int_eq ?_;unfold Jr;repeat (first|(refine Eq.trans ?_ (if_neg ?_).symm;rotate_left;focus (omega))|(refine (if_pos ?_).symm;omega)|(refine Eq.trans ?_ (if_neg ?_).symm;rotate_left;focus (simp_all;done)))
 refine ac ?_
 refine ac ?_
 refine ac ?_
 · refine int_eq ?_;unfold Jr;repeat (first|rfl|(refine Eq.trans ?_ (if_neg ?_).symm;rotate_left;focus (omega))|(refine Eq.trans ?_ (if_neg ?_).symm;rotate_left;focus (simp_all;done)))
 refine ac ?_
 refine ac ?_
 refine ac ?_
 · refine int_eq ?_;unfold Jr;repeat (first|rfl|(refine Eq.trans ?_ (if_neg ?_).symm;rotate_left;focus (omega))|(refine Eq.trans ?_ (if_neg ?_).symm;rotate_left;focus (simp_all;done)))
theorem sK {e e2:BJ} {c b:B8} (h:c.kind=1) (hs:BB e c= .ok (e2,b)):(0≤c.at_∧c.at_≤(e.AF.length:Nat))∧e2={ e with AF:=e.AF.take c.at_.toNat++[c.number]++e.AF.drop c.at_.toNat }∧b=⟨c.Ah,2,c.number,0,A8⟩:=by
 rw [MA h] at hs
 (repeat' (split at hs))<;>first|(cases hs;done)|(injection hs with hs;injection hs with h1 h2;exact ⟨by omega,h1.symm,h2.symm⟩)
theorem sL {e e2:BJ} {c b:B8} (h:c.kind=2) (hs:BB e c= .ok (e2,b)):(0≤ID e c)∧e2={ e with AF:=e.AF.eraseIdx (ID e c).toNat }∧b=⟨c.Ah,1,c.number,ID e c,A8⟩:=by
 rw [MB h] at hs
 (repeat' (split at hs))<;>first|(cases hs;done)|(injection hs with hs;injection hs with h1 h2;exact ⟨by omega,h1.symm,h2.symm⟩)
theorem sM {e e2:BJ} {c b:B8} (h:c.kind=3) (hs:BB e c= .ok (e2,b)):e2={ e with most:=c.number }∧b=⟨c.Ah,c.kind,e.most,0,A8⟩:=by
 rw [MC h] at hs
 (repeat' (split at hs))<;>first|(cases hs;done)|(injection hs with hs;injection hs with h1 h2;exact ⟨h1.symm,h2.symm⟩)
theorem sN {e e2:BJ} {c b:B8} (h:c.kind=4) (hs:BB e c= .ok (e2,b)):e2={ e with least:=c.number }∧b=⟨c.Ah,c.kind,e.least,0,A8⟩:=by
 rw [MD h] at hs
 (repeat' (split at hs))<;>first|(cases hs;done)|(injection hs with hs;injection hs with h1 h2;exact ⟨h1.symm,h2.symm⟩)
theorem sO {e e2:BJ} {c b:B8} (h:c.kind=5) (hs:BB e c= .ok (e2,b)):(0≤c.at_∧c.at_≤(e.ids.length:Nat))∧e2={ e with ids:=e.ids.take c.at_.toNat++[c.Cl]++e.ids.drop c.at_.toNat }∧b=⟨c.Ah,6,c.Cl.BG,0,A8⟩:=by
 rw [ME h] at hs
 (repeat' (split at hs))<;>first|(cases hs;done)|(injection hs with hs;injection hs with h1 h2;exact ⟨by omega,h1.symm,h2.symm⟩)
theorem sP {e e2:BJ} {c b:B8} (h:c.kind=6) (hs:BB e c= .ok (e2,b)):∃x,e.ids[(A7 c.number e.ids).toNat]? =some x∧0≤A7 c.number e.ids∧e2={ e with ids:=e.ids.eraseIdx (A7 c.number e.ids).toNat }∧b=⟨c.Ah,5,0,A7 c.number e.ids,x⟩:=by
 rw [MF h] at hs
 (repeat' (split at hs))<;>first|(cases hs;done)|(injection hs with hs;injection hs with h1 h2;exact ⟨_,by assumption,by omega,h1.symm,h2.symm⟩)
theorem sQ {e e2:BJ} {c b:B8} (h:c.kind=7) (hs:BB e c= .ok (e2,b)):Cz e.anchors c.number=false∧e2={ e with anchors:=K0 e.anchors c.number }∧b=⟨c.Ah,8,c.number,0,A8⟩:=by
 rw [MG h] at hs
 (repeat' (split at hs))<;>first|(cases hs;done)|(injection hs with hs;injection hs with h1 h2;exact ⟨by simp_all,h1.symm,h2.symm⟩)
theorem sS {e e2:BJ} {c b:B8} (h:c.kind=8) (hs:BB e c= .ok (e2,b)):Cz e.anchors c.number=true∧e2={ e with anchors:=e.anchors.eraseIdx (DG e.anchors c.number) }∧b=⟨c.Ah,7,c.number,0,A8⟩:=by
 rw [MH h] at hs
 (repeat' (split at hs))<;>first|(cases hs;done)|(injection hs with hs;injection hs with h1 h2;exact ⟨by simp_all,h1.symm,h2.symm⟩)
theorem sU {e e2:BJ} {c b:B8} (h:c.kind=9) (hs:BB e c= .ok (e2,b)):Cz e.hashes c.number=false∧e2={ e with hashes:=K0 e.hashes c.number }∧b=⟨c.Ah,10,c.number,0,A8⟩:=by
 rw [MI h] at hs
 (repeat' (split at hs))<;>first|(cases hs;done)|(injection hs with hs;injection hs with h1 h2;exact ⟨by simp_all,h1.symm,h2.symm⟩)
theorem nU {e e2:BJ} {c b:B8} (h:c.kind=10) (hs:BB e c= .ok (e2,b)):Cz e.hashes c.number=true∧e2={ e with hashes:=e.hashes.eraseIdx (DG e.hashes c.number) }∧b=⟨c.Ah,9,c.number,0,A8⟩:=by
 rw [KI h] at hs
 (repeat' (split at hs))<;>first|(cases hs;done)|(injection hs with hs;injection hs with h1 h2;exact ⟨by simp_all,h1.symm,h2.symm⟩)
theorem nV {e e2:BJ} {c b:B8} (h:c.kind=11) (hs:BB e c= .ok (e2,b)):e2={ e with De:=(c.number==1) }∧b=⟨c.Ah,c.kind,ED e.De,0,A8⟩:=by
 rw [KJ h] at hs
 (repeat' (split at hs))<;>first|(cases hs;done)|(injection hs with hs;injection hs with h1 h2;exact ⟨h1.symm,h2.symm⟩)
theorem nW {e e2:BJ} {c b:B8} (h:c.kind=12) (hs:BB e c= .ok (e2,b)):e2={ e with own:=(c.number==1) }∧b=⟨c.Ah,c.kind,ED e.own,0,A8⟩:=by
 rw [KK h] at hs
 (repeat' (split at hs))<;>first|(cases hs;done)|(injection hs with hs;injection hs with h1 h2;exact ⟨h1.symm,h2.symm⟩)
theorem bK {e:BJ} {c:B8} (h:0≤ID e c):(ID e c).toNat<e.AF.length:=by obtain ⟨_,_,_,h3⟩:=I5 (p:=fun y=>c.number==y) (l:=e.AF) h;exact h3
theorem VV {e e2:BJ} {c b:B8} (B6:e.small) (hcs:c.Cl.small) (hce:BK e=true) (hc:ES c) (hs:BB e c= .ok (e2,b)):A4 prog 76 [agg (Aj e),agg (B3 c)] (agg (Aj e2)):=by
 refine fo func76 rfl ⟨rfl,rfl⟩ fun M0 w0=> ?_
 have hk:=hc.1
 have ok:=Bv.1 hce
 have hs1:=B6.AF
 have LM:=B6.anchors
 have T4:=B6.hashes
 have Vk:=B6.KF
 refine Tr.seq (Tr.Ax (tp rfl (Ba rfl (Va rfl)) (tp rfl (Ba rfl (Va rfl)) ?_)))
 refine Tl rfl rfl rfl rfl z32 Dl (fun b1=> ?_)
 refine ap ?_
 refine ap ?_
 refine tp rfl (Bq (DQ B6) rfl rfl) ?_
 refine Tl rfl rfl rfl rfl z32 Dl (fun b2=> ?_)
 refine ap ?_
 refine ac ?_
 refine ac ?_
 refine Tr.cn rfl ?_ ?_<;>intro h1 q1
 obtain ⟨hr,rfl,rfl⟩:=sK q1 hs
 refine ap ?_
 refine tp rfl (AX rfl (K7 (l:=e.AF) (i:=c.at_.toNat) (by omega) hs1) ⟨ke rfl,⟨_,rfl,int_eq (by omega)⟩,ke rfl,trivial⟩) ?_
 refine ap ?_
 refine CL 4 5 rfl ?_
 refine ap ?_
 refine Tr.drop 0 (Tr.ret (Fin.CG rfl (AL.cell 0 rfl rfl Bh BI rfl (Lr)) ?_))
 · exact Lr
 refine ac ?_
 refine GS 2 3 4 5 13 24 rfl ?_
 refine Tr.cn rfl ?_ ?_<;>intro h2 q2
 obtain ⟨hr,rfl,rfl⟩:=sL q2 hs
 refine Tr.rx ?_
 refine ay ?_
 refine xo rfl (fun _=>Dc (Hq) rfl rfl rfl) ?_
 refine xo rfl (fun _=>AX rfl (Hr (l:=e.AF) (i:=(ID e c).toNat) (bK hr) hs1) ⟨ke rfl,⟨_,rfl,int_eq (show ID e c=_ by omega)⟩,trivial⟩) ?_
 refine ay ?_
 refine Cx.nil ⟨by kernel_rfl,?_⟩
 refine A9.done KP ?_
 refine ac ?_
 refine CL 4 5 rfl ?_
 refine ap ?_
 refine Tr.drop 0 (Tr.ret (Fin.CG rfl (AL.cell 0 rfl rfl Bh BI rfl (Lr)) ?_))
 · exact Lr
 refine ac ?_
 refine Tr.cn rfl ?_ ?_<;>intro h3 q3
 obtain ⟨rfl,rfl⟩:=sM q3 hs
 refine ap ?_
 refine ap ?_
 refine Tr.drop 0 (Tr.ret (Fin.CG rfl (AL.cell 0 rfl rfl Bh BI rfl (Lr)) ?_))
 · exact Lr
 refine ac ?_
 refine Tr.cn rfl ?_ ?_<;>intro h4 q4
 obtain ⟨rfl,rfl⟩:=sN q4 hs
 refine ap ?_
 refine ap ?_
 refine Tr.drop 0 (DD 4 rfl (Tr.ret (Fin.CG rfl (AL.cell 0 rfl rfl Bh BI rfl (Lr)) ?_)))
 · exact Lr
 refine ac ?_
 refine Tr.cn rfl ?_ ?_<;>intro h5 q5
 obtain ⟨hr,rfl,rfl⟩:=sO q5 hs
 refine ap ?_
 refine tp rfl (Cn rfl underlying30 Be (vl rfl) (vl rfl) (by omega) (by simp;omega)) ?_
 refine TO.pad ?_
 refine TO.GR 0 rfl rfl (by decide) (CN rfl rfl (by decide) rfl underlying30 Be Nz JG rfl (by decide) ⟨_,rfl,AD _⟩ (vl rfl) (by simp only [List.length_map,List.length_append,List.length_cons,List.length_nil,List.length_take,List.length_drop];unfold maxLen;omega) (by simp only [List.length_map,List.length_append,List.length_cons,List.length_nil,List.length_take,List.length_drop];omega) (Bx (by exact List.Mem.head _) ⟨_,rfl,E8 1⟩)) (fun v1=> ?_)
 refine ap ?_
 refine Ez 3 4 5 6 rfl ?_
 refine ap ?_
 refine tp rfl (Bq (Nf hcs) rfl rfl) (tp rfl (AM (xs:=[.tmp 56]) (rows:=[_]) rfl rfl underlying30 Be JG rfl (by decide) ⟨⟨(by exact rfl),(Va rfl)⟩,trivial⟩ (by decide)) ?_)
 refine TO.GR 0 rfl rfl (by decide) (DN rfl rfl rfl rfl underlying30 Be Nz JG (Kb rfl) (Kf rfl) (B9 (by exact List.Mem.head _) (Ka rfl))) (fun v2=> ?_)
 refine ap ?_
 refine ap ?_
 refine tp rfl (B1 rfl underlying30 Be (vl rfl) (vl rfl) (by omega) (by simp;omega)) ?_
 refine TO.GR 0 rfl rfl (by decide) (DN rfl rfl rfl rfl underlying30 Be Nz JG (Kb rfl) (vl rfl) (B9 (by exact List.Mem.head _) (Ka rfl))) (fun v3=> ?_)
 refine ap ?_
 refine CL 4 5 rfl ?_
 refine ap ?_
 refine Tr.drop 1 (Tr.ret (Fin.CG rfl (AL.cell 1 rfl rfl Bh BI rfl (Lr)) ?_))
 · exact AY ⟨Lr,Lr,Lr,Lr,Lr,Pr.le_trans (Ar _ _) (Pr.le_of_eq (by show _=slice 4 ((e.ids.take c.at_.toNat++[c.Cl]++e.ids.drop c.at_.toNat).map BC);simp [List.map_take,List.map_drop])),Lr,Lr,Lr,trivial⟩
 refine ac ?_
 refine GS 2 3 4 5 13 67 rfl ?_
 refine Tr.cn rfl ?_ ?_<;>intro h6 q6
 obtain ⟨x_,hx_,hr,rfl,rfl⟩:=sP q6 hs
 have hlt:=Bb hx_
 refine ac ?_
 refine co rfl (Dc (K6 Vk) rfl rfl rfl) ?_
 refine ac ?_
 refine Cr 4 5 8 rfl ?_
 refine ap ?_
 refine tp rfl (Cn rfl underlying30 Be (vl rfl) (vl rfl) (by omega) (by simp;omega)) ?_
 refine TO.pad ?_
 refine TO.GR 0 rfl rfl (by decide) (CN rfl rfl (by decide) rfl underlying30 Be Nz JG rfl (by decide) ⟨_,rfl,AD _⟩ (vl rfl) (by simp only [List.length_map,List.length_append,List.length_cons,List.length_nil,List.length_take,List.length_drop];unfold maxLen;omega) (by simp only [List.length_map,List.length_append,List.length_cons,List.length_nil,List.length_take,List.length_drop];omega) (Bx (by exact List.Mem.head _) ⟨_,rfl,E8 1⟩)) (fun v4=> ?_)
 refine ap ?_
 refine ap ?_
 refine tp rfl (B1 rfl underlying30 Be (vl rfl) (vl rfl) (by omega) (by simp;omega)) ?_
 refine TO.GR 0 rfl rfl (by decide) (DN rfl rfl rfl rfl underlying30 Be Nz JG (Kb rfl) (vl rfl) (B9 (by exact List.Mem.head _) (Ka rfl))) (fun v5=> ?_)
 refine ap ?_
 refine CL 4 5 rfl ?_
 refine ap ?_
 refine Tr.drop 1 (Tr.ret (Fin.CG rfl (AL.cell 1 rfl rfl Bh BI rfl (Lr)) ?_))
 · exact AY ⟨Lr,Lr,Lr,Lr,Lr,Pr.le_trans (Ar _ _) (Pr.le_of_eq (by show _=slice 4 ((e.ids.eraseIdx (A7 c.number e.ids).toNat).map BC);rw [List.eraseIdx_eq_take_drop_succ,show (A7 c.number e.ids+1).toNat=(A7 c.number e.ids).toNat+1 by omega];simp [List.map_take,List.map_drop])),Lr,Lr,Lr,trivial⟩
 refine ac ?_
 refine Tr.cn rfl ?_ ?_<;>intro h7 q7
 obtain ⟨hr,rfl,rfl⟩:=sQ q7 hs
 refine ap ?_
 refine tp rfl (Dc (LS LM) rfl rfl rfl) ?_
 refine ap ?_
 refine CL 4 5 rfl ?_
 refine ap ?_
 refine Tr.drop 0 (Tr.ret (Fin.CG rfl (AL.cell 0 rfl rfl Bh BI rfl (Lr)) ?_))
 · exact Lr
 refine ac ?_
 refine Tr.cn rfl ?_ ?_<;>intro h8 q8
 obtain ⟨hr,rfl,rfl⟩:=sS q8 hs
 refine Tr.rx ?_
 refine ay ?_
 refine xo rfl (fun _=>Dc (Hq) rfl rfl rfl) ?_
 refine xo rfl (fun _=>AX rfl (Hr (l:=e.anchors) (i:=DG e.anchors c.number) (Hh hr) LM) ⟨ke rfl,⟨_,rfl,int_eq (by rw [QM (ER ok.gN),if_pos hr])⟩,trivial⟩) ?_
 refine ay ?_
 refine Cx.nil ⟨by kernel_rfl,?_⟩
 refine A9.done KP ?_
 refine ac ?_
 refine CL 4 5 rfl ?_
 refine ap ?_
 refine Tr.drop 0 (Tr.ret (Fin.CG rfl (AL.cell 0 rfl rfl Bh BI rfl (Lr)) ?_))
 · exact Lr
 refine ac ?_
 refine Tr.cn rfl ?_ ?_<;>intro h9 q9
 obtain ⟨hr,rfl,rfl⟩:=sU q9 hs
 refine ap ?_
 refine tp rfl (Dc (LS T4) rfl rfl rfl) ?_
 refine ap ?_
 refine CL 4 5 rfl ?_
 refine ap ?_
 refine Tr.drop 0 (Tr.ret (Fin.CG rfl (AL.cell 0 rfl rfl Bh BI rfl (Lr)) ?_))
 · exact Lr
 refine ac ?_
 refine GS 2 3 4 5 13 116 rfl ?_
 refine Tr.cn rfl ?_ ?_<;>intro h10 OZ
 obtain ⟨hr,rfl,rfl⟩:=nU OZ hs
 refine Tr.rx ?_
 refine ay ?_
 refine xo rfl (fun _=>Dc (Hq) rfl rfl rfl) ?_
 refine xo rfl (fun _=>AX rfl (Hr (l:=e.hashes) (i:=DG e.hashes c.number) (Hh hr) T4) ⟨ke rfl,⟨_,rfl,int_eq (by rw [QM (ER ok.hash),if_pos hr])⟩,trivial⟩) ?_
 refine ay ?_
 refine Cx.nil ⟨by kernel_rfl,?_⟩
 refine A9.done KP ?_
 refine ac ?_
 refine CL 4 5 rfl ?_
 refine ap ?_
 refine Tr.drop 0 (Tr.ret (Fin.CG rfl (AL.cell 0 rfl rfl Bh BI rfl (Lr)) ?_))
 · exact Lr
 refine ac ?_
 refine Tr.cn rfl ?_ ?_<;>intro h11 QX
 obtain ⟨rfl,rfl⟩:=nV QX hs
 refine ap ?_
 refine ap ?_
 refine Tr.drop 0 (Tr.ret (Fin.CG rfl (AL.cell 0 rfl rfl Bh BI rfl (Lr)) ?_))
 · exact Lr
 refine ac ?_
 refine Tr.cn rfl ?_ ?_<;>intro h12 QY
 obtain ⟨rfl,rfl⟩:=nW QY hs
 refine ap ?_
 refine CL 4 5 rfl ?_
 refine ap ?_
 refine Tr.drop 0 (Tr.ret (Fin.CG rfl (AL.cell 0 rfl rfl Bh BI rfl (Lr)) ?_))
 · exact Lr
 exfalso;omega
theorem Jo {e:BJ} {c:B8} {n:Nat} (hz:e.sz n) (hn:n≤900000) (hi:c.Cl.fits∧c.Cl.small):A4 prog 19 [agg (Aj e),agg (B3 c)] (Eu [agg (Aj (CY e c).1),int (CY e c).2.2]):=by
 refine fo func19 rfl ⟨rfl,rfl⟩ fun M0 w0=> ?_
 have B6:=hz.small (by omega)
 have hcs:=hi.2
 refine Tr.seq (Tr.Ax (tp rfl (Ba rfl (Va rfl)) (tp rfl (Ba rfl (Va rfl)) ?_)))
 refine Tl rfl rfl rfl rfl z32 Dl (fun b1=> ?_)
 refine ao ?_
 refine ac ?_
 refine co rfl (Dc (QN B6 hcs) rfl rfl rfl) ?_
 refine ac ?_
 refine an ?_ ?_<;>intro h1 q1
 have hb:=bJ q1
 refine ao ?_
 refine TO.AR 0 rfl rfl rfl (vl rfl) (Va rfl) rfl BI rfl rfl ?_
 refine ao ?_
 refine CL 4 5 rfl (Tr.ret (Fin.AJ (Fin.DK rfl (AL.cell 0 rfl rfl Bh BI rfl (Lr)) (AL.tmp rfl (Lr)) ?_)))
 refine A_ ⟨?_,?_,trivial⟩
 · rw [hb];exact AY ⟨Lr,Lr,Lr,AD 1,Lr,AD 4,AD 1,AD 1,Lr,trivial⟩
 · exact int_eq (by rw [hb])
 obtain ⟨hce,hc,e2,b,hs⟩:=ga (e:=e) (c:=c) (by have:=q1;omega)
 have sV:=(UG hc hs hz hi).1.small (by omega)
 refine ac ?_
 refine ao ?_
 refine tp rfl (Dc (VV B6 hcs hce hc hs) rfl rfl rfl) ?_
 refine Tl rfl rfl rfl rfl z32 Dl (fun b2=> ?_)
 refine sf 0 7 ⟨rfl,rfl,rfl⟩ rfl rfl rfl rfl ?_
 refine ao ?_
 refine CL 4 7 rfl ?_
 refine ac ?_
 refine co rfl (Bq (K5 sV) rfl rfl) ?_
 refine an ?_ ?_<;>intro h2 q2
 have hb:=Hl hce hc hs (by have:=q2;cases h_:BK e2<;>simp_all)
 refine ao ?_
 refine TO.AR 0 rfl rfl rfl (vl rfl) (Va rfl) rfl BI rfl rfl ?_
 refine ao ?_
 refine Tr.ret (Fin.AJ (Fin.DK rfl (AL.cell 0 rfl rfl Bh BI rfl (Lr)) (AL.tmp rfl (Lr)) ?_))
 refine A_ ⟨?_,?_,trivial⟩
 · rw [hb];exact AY ⟨Lr,Lr,Lr,AD 1,Lr,AD 4,AD 1,AD 1,Lr,trivial⟩
 · exact int_eq (by rw [hb])
 have hb:=GJ hce hc hs (by have:=q2;cases h_:BK e2<;>simp_all)
 refine ac ?_
 refine ao ?_
 refine TO.AR 0 rfl rfl rfl (vl rfl) (Va rfl) rfl BI rfl rfl ?_
 refine ao ?_
 refine Tr.ret (Fin.DK rfl (AL.cell 0 rfl rfl Bh BI rfl (Lr)) (AL.tmp rfl (Lr)) ?_)
 refine A_ ⟨?_,?_,trivial⟩
 · rw [hb];exact Lr
 · exact int_eq (by rw [hb])
end Go.Proofs.YtppeeogffbpcbaaGreat
