/-
  Part 7 of the texts that prove this claim, merged.
-/
import Derived.Test.YtmocaapoeefgkaaGreatDoorRcAP6
set_option linter.all false
set_option maxRecDepth 40000
set_option maxHeartbeats 16000000
namespace Go.Proofs.YtmocaapoeefgkaaGreatDoor
open Go Go.RowKit Cp Go.Proofs.Tryz
variable {I:C1} {E:Env} {f:FuncId} {day fr:Int} {l:List Bm} {d s:List Int} {ps:List Pr} {r:List BM} {nm:List UInt8} {b i j k n:Nat} {o:Oper} {x:Operand} {P:Program} {e t:TypeId}
abbrev anyI:Pr:=Cp.ex fun n:Int=>int n
theorem kO:∀r∈I2,∀x∈r.sizes,0≤x∧x≤40000:=by decide+kernel
theorem Ym {a b k:Int} (h:L1 a b k=true):(0≤a∧a≤40000)∧(0≤b∧b≤40000):=by
 have h1:=(aM h).1
 rw [decide_eq_true_eq] at h1
 unfold D8 at h1
 split at h1
 next ha=>
  refine ⟨by omega,?_⟩
  split at h1
  · split at h1<;>omega
  ·
   split at h1
   · split at h1<;>omega
   ·
    split at h1
    ·
     split at h1
     next hc=>
      obtain ⟨x,hx,hb⟩:=List.any_eq_true.1 hc
      simp only [cv,List.mem_cons,List.not_mem_nil,or_false] at hx
      have:b=x:=by simpa using hb
      omega
     · omega
    ·
     split at h1
     ·
      split at h1
      next hc=>
       have hn:(E3 a).sizes.any (fun x=>b==x)=true:=by
        cases he:(E3 a).sizes.any (fun x=>b==x) with
        |true=>rfl
        |false=>
         have:=QS (fun x=>b==x) (E3 a).sizes
         rw [he] at this;simp at this;omega
       obtain ⟨x,hx,hb⟩:=List.any_eq_true.1 hn
       have:b=x:=by simpa using hb
       subst this
       exact kO _ (jJ ha) _ hx
      · omega
     · omega
 · omega
theorem xj {c:Gt} (hv:EP c=true):c.aN:=by
 have h:=Jy hv
 have h1:=Ym h.key
 have h2:=Ym h.hash
 exact ⟨h.s1,h.k1,h1.1,h1.2,h2.1,h2.2⟩
section
variable {P:Program} {I:C1} {E:Env} {o:Oper}
theorem Jt (ho:o.op= .unOp .not t x) (hx:VL E x Eb):Ac P I o E Eb:=
 Ac.same fun M w a he _=>by
  obtain ⟨b,h1⟩:=hx.ev he Au
  have h1:a.eval x= .bool b:=h1
  exact ⟨.bool (!b),by simp [execOp,ho,h1,Op.unary],_,rfl⟩
theorem ABX {u:TypeId} {y:Operand} (ho:o.op= .binOp .neq t x y u) (hx:VL E x (G1 .i64)) (hy:VL E y (G1 .i64)):Ac P I o E Eb:=
 Ac.same fun M w a he _=>by
  obtain ⟨m,h1⟩:=hx.ev he Au
  obtain ⟨n,h2⟩:=hy.ev he Au
  have h1:a.eval x= .int .i64 m:=h1
  have h2:a.eval y= .int .i64 n:=h2
  exact ⟨.bool (m !=n),by simp [execOp,ho,h1,h2,eqGuard,binOp,Op.intCmp],_,rfl⟩
theorem sQ {u:TypeId} {y:Operand} (ho:o.op= .binOp .eql t x y u) (hx:VL E x (G1 .i64)) (hy:VL E y (G1 .i64)):Ac P I o E Eb:=
 Ac.same fun M w a he _=>by
  obtain ⟨m,h1⟩:=hx.ev he Au
  obtain ⟨n,h2⟩:=hy.ev he Au
  have h1:a.eval x= .int .i64 m:=h1
  have h2:a.eval y= .int .i64 n:=h2
  exact ⟨.bool (m==n),by simp [execOp,ho,h1,h2,eqGuard,binOp,Op.intCmp],_,rfl⟩
end
theorem bh:Pr.le anyI (G1 .i64):=fun _ _ _ h=>h
theorem xl:Pr.le (G1 .i64) anyI:=fun _ _ _ h=>h
theorem ABY:Pr.le AAh (G1 .i64):=fun _ _ _ ⟨n,_,h⟩=>⟨n,h⟩
theorem bk {c:Gt}  :A0 prog 189 [agg (C0 c)] (C_ [E4 3285282,G1 .i64]):=by
 refine fo func189 rfl ⟨rfl,rfl⟩ fun M0 w0=> ?_
 refine a2 ?_
 refine co rfl (CM (MV (c:=c)) rfl rfl) ?_
 refine an ?_ ?_<;>intro h1 q1
 refine ac ?_
 refine Tr.ret (Fin.AE (Fin.C6 rfl (Bv.EU _ _) rfl ?_ rfl ?_))
 · exact P7
 · exact Dc _ _
 have hv:EP c=true:=by cases hb:EP c with|true=>rfl|false=>exact absurd h1 (by rw [hb];decide)
 refine a2 ?_
 refine co rfl (CM (X7 hv (xj hv)) rfl rfl) (co rfl (CM (rE2) rfl rfl) ?_)
 refine ac ?_
 refine Tr.ret (Fin.C6 rfl (Bv.EU _ _) rfl ?_ rfl ?_)
 · exact Lr
 · exact Lr
theorem S4 {c:Gt} {key:Int}  :A0 prog 344 [agg (C0 c),int key] (Eb):=by
 refine fo func344 rfl ⟨rfl,rfl⟩ fun M0 w0=> ?_
 refine a2 ?_
 refine co rfl (CM (bk (c:=c)) rfl rfl) ?_
 refine ac ?_
 refine Tr.seq (Tr.re 6 rfl xl (Tr.ex 6 rfl fun e6=> ?_))
 · repeat' first|exact Lr|exact Az _ Lr|refine cy h rfl (CM (A0.E4 fun m hm=>fW AA) rfl rfl) (cy h rfl (sQ rfl (VL.le vq (Dc _ _)) (VL.le vq ABY)) ?_)|refine ac ?_|(refine Ch.cg rfl rfl rfl ?_ ?_<;>intro h q)
theorem sS {l:List (List UInt8)} {s:List UInt8}  :A0 prog 342 [Xv l,str s] (Eb):=by
 refine fo func342 rfl ⟨rfl,rfl⟩ fun M0 w0=>(Tr.CG 0 rfl fun DN=> ?_)
 refine a2 ?_
 refine Tr.block (Tr.Ax _ (kk [1,0] rfl) (fun k:Nat=>[(5,int ((k:Nat):Int))]) (fun k:Nat=>k≤(l).length) (fun k:Nat=>(l).length-k) 0 (Nat.zero_le _) kz ?_)
 rintro k BJ
 refine an ?_ ?_<;>intro h1 q1
 have AZ:k<(l).length:=AH h1
 obtain ⟨x,AX⟩:=at_ AZ
 · repeat' first|exact Az _ Lr|exact Fin.AM (k+1) ⟨AZ,by omega⟩ ⟨⟨_,rfl,AG k⟩,kz⟩|refine co rfl (AD rfl underlying127 O6 vq vq AA CX) ?_|refine ac ?_|(refine Tr.cn rfl ?_ ?_<;>intro h q)
 have A8:k=(l).length:=by have:=AJ h1;omega
 refine a3 ?_
 · exact Ar
theorem sU {l:List Gt} {a:Int}  :A0 prog 343 [J8 l,int a] (Eb):=by
 refine fo func343 rfl ⟨rfl,rfl⟩ fun M0 w0=>(Tr.CG 0 rfl fun DN=> ?_)
 refine ac ?_
 refine ag ?_ ?_<;>intro h1 q1
 refine a3 ?_
 · exact Ar
 refine an ?_ ?_<;>intro h2 q2
 refine a2 ?_
 · exact Ar
 refine ac ?_
 refine ag ?_ ?_<;>intro h3 q3
 refine ac ?_
 refine wk [4] rfl ?_
 refine ac ?_
 · exact Ar
 refine ac ?_
 refine cy h3 rfl (AD rfl underlying82 Dv vq vq AA (Bb (List.getElem?_eq_getElem (show Int.toNat a<l.length by omega)))) ?_
 refine ag ?_ ?_<;>intro h4 q4
 refine ac ?_
 refine cy h4 rfl (AD rfl underlying82 Dv vq vq AA (Bb (List.getElem?_eq_getElem (show Int.toNat a<l.length by omega)))) ?_
 refine ac ?_
 refine wk [4] rfl ?_
 refine ac ?_
 · exact Ar
 refine ac ?_
 refine wk [4] rfl ?_
 refine ac ?_
 · exact Ar
theorem kP {e:Int} {l:List Gt} {i:Int} {an ha:List Int} (hi:0≤i∧i<(l.length:Nat)):A0 prog 339 [int e,J8 l,int i,ints an,ints ha,int day,str nm] (Eb):=by
 refine fo func339 rfl ⟨rfl,rfl⟩ fun M0 w0=>(Tr.CG 1 rfl fun ER=> ?_)
 obtain ⟨c,hc⟩:=at_ (l:=l) (k:=i.toNat) AA
 refine ac ?_
 refine ao ?_
 refine tp rfl (AD rfl underlying82 Dv vq vq AA (Bb hc)) ?_
 refine ao ?_
 refine Tl rfl rfl rfl rfl Ro L3 (fun b1=> ?_)
 refine sf 0 15 ⟨rfl,rfl,rfl⟩ rfl rfl rfl rfl ?_
 refine ao ?_
 refine wk [16,15,6,5,4,3,2,1,0] rfl ?_
 refine ac ?_
 refine ac ?_
 refine Tr.cn rfl ?_ ?_<;>intro h1 q1
 refine ac ?_
 refine co rfl (CM (MV (c:=c)) rfl rfl) ?_
 refine ac ?_
 refine wk [14] rfl ?_
 refine ac ?_
 · exact Ar
 refine ac ?_
 refine wk [32,26,16,15,6,5,4,3,2,1] rfl ?_
 refine Tr.cn rfl ?_ ?_<;>intro h2 q2
 refine ac ?_
 refine Ch.cs 36 rfl ?_ ?_<;>intro h3 q3
 refine ac ?_
 refine cy h3 rfl (Bq (sS) rfl rfl rfl) (cy h3 rfl (Jt rfl vq) ?_)
 refine ac ?_
 refine wk [14] rfl ?_
 refine ac ?_
 · exact Lr
 refine ac ?_
 refine wk [14] rfl ?_
 refine ac ?_
 · exact Ar
 refine ac ?_
 refine Tr.cn rfl ?_ ?_<;>intro h4 q4
 refine ac ?_
 refine Ch.cs 49 rfl ?_ ?_<;>intro h5 q5
 refine ac ?_
 refine wk [14] rfl ?_
 refine ac ?_
 · exact Ar
 refine ac ?_
 refine wk [14] rfl ?_
 refine ac ?_
 · exact Ar
 refine ac ?_
 refine wk [55,26,16,15,4,3,2,1] rfl ?_
 refine Tr.cn rfl ?_ ?_<;>intro h6 q6
 refine ac ?_
 refine co rfl (Bq (Ks) rfl rfl rfl) ?_
 refine ac ?_
 refine wk [14] rfl ?_
 refine ac ?_
 · exact Ar
 refine ac ?_
 refine Tr.cn rfl ?_ ?_<;>intro h7 q7
 refine ac ?_
 refine Ch.cs 67 rfl ?_ ?_<;>intro h8 q8
 refine ac ?_
 refine cy h8 rfl (AD rfl underlying82 Dv vq vq AA (Bb (List.getElem?_eq_getElem (show Int.toNat (i+1)<l.length by omega)))) ?_
 refine ac ?_
 refine wk [14] rfl ?_
 refine ac ?_
 · exact Ar
 refine ac ?_
 refine wk [14] rfl ?_
 refine ac ?_
 · exact Ar
 refine ac ?_
 refine Tr.cn rfl ?_ ?_<;>intro h9 q9
 refine ac ?_
 refine co rfl (Bq (sU) rfl rfl rfl) (co rfl (Jt rfl vq) ?_)
 refine ac ?_
 refine wk [14] rfl ?_
 refine ac ?_
 · exact Lr
 refine ac ?_
 refine wk [84,16,15,3,2,1] rfl ?_
 refine Tr.cn rfl ?_ ?_<;>intro h10 R9
 refine ac ?_
 refine Tr.cn rfl ?_ ?_<;>intro h11 Ti
 refine ac ?_
 refine co rfl (Bq (S4) rfl rfl rfl) (co rfl (Jt rfl vq) ?_)
 refine ac ?_
 refine wk [14] rfl ?_
 refine ac ?_
 · exact Lr
 refine ac ?_
 refine ac ?_
 refine co rfl (AD rfl underlying82 Dv vq vq AA (Bb (List.getElem?_eq_getElem (show Int.toNat (i+1)<l.length by omega)))) ?_
 refine ac ?_
 refine co rfl (Bq (S4) rfl rfl rfl) (co rfl (Jt rfl vq) ?_)
 refine ac ?_
 refine wk [14] rfl ?_
 refine ac ?_
 · exact Lr
 refine ac ?_
 refine ac ?_
 refine Ch.cs 103 rfl ?_ ?_<;>intro h12 X0
 refine ac ?_
 refine cy h12 rfl (Bq (Ks) rfl rfl rfl) ?_
 refine ac ?_
 refine wk [14] rfl ?_
 refine ac ?_
 · exact Ar
 refine ac ?_
 refine wk [14] rfl ?_
 refine ac ?_
 · exact Ar
abbrev Yn:List Int:=[9,14,13,7,11,15,10,12]
theorem kQ {l:List Gt} {an ha:List Int}:A0 prog 332 [J8 l,ints an,ints ha,int day,str nm] (anyI):=by
 refine fo func332 rfl ⟨rfl,rfl⟩ fun M0 w0=>(Tr.CG 0 rfl fun DN=> ?_)
 refine ac ?_
 refine ac ?_
 refine Tr.cn rfl ?_ ?_<;>intro h1 q1
 refine ac ?_
 refine ac ?_
 · exact Ar
 refine ac ?_
 refine ac ?_
 refine Tr.cn rfl ?_ ?_<;>intro h2 q2
 refine ac ?_
 refine ac ?_
 · exact Ar
 refine ac ?_
 refine Tr.seq (Tr.Bt (co rfl (Af (xs:=[.const (.int .i64 (9)),.const (.int .i64 (14)),.const (.int .i64 (13)),.const (.int .i64 (7)),.const (.int .i64 (11)),.const (.int .i64 (15)),.const (.int .i64 (10)),.const (.int .i64 (12))]) (rows:=(Yn.map fun n=>[int n])) rfl rfl underlying389 zq z43 rfl AB ⟨⟨An,VL.le vq (Ag _)⟩,⟨⟨An,VL.le vq (Ag _)⟩,⟨⟨An,VL.le vq (Ag _)⟩,⟨⟨An,VL.le vq (Ag _)⟩,⟨⟨An,VL.le vq (Ag _)⟩,⟨⟨An,VL.le vq (Ag _)⟩,⟨⟨An,VL.le vq (Ag _)⟩,⟨⟨An,VL.le vq (Ag _)⟩,trivial⟩⟩⟩⟩⟩⟩⟩⟩ AB) ?_))
 refine ac ?_
 refine ac ?_
 refine Tr.block (Tr.Ax _ (kk [11,4,3,2,1,0] rfl) (fun m:Nat=>[(12,int ((m:Nat):Int))]) (fun m:Nat=>m≤(Yn).length) (fun m:Nat=>(Yn).length-m) 0 (Nat.zero_le _) kz ?_)
 rintro m Nk
 refine ac ?_
 refine co rfl (FP rfl underlying389 Db) ?_
 refine ac ?_
 refine Tr.cn rfl ?_ ?_<;>intro h3 q3
 have Es:m<(Yn).length:=AH h3
 obtain ⟨x,Ew⟩:=at_ Es
 have hm8:m<8:=Es
 refine ac ?_
 refine ac ?_
 refine Tr.block (Tr.Ax _ (kk [12,11,4,3,2,1,0] rfl) (fun k:Nat=>[(13,int ((k:Nat):Int))]) (fun k:Nat=>k≤(l).length) (fun k:Nat=>(l).length-k) 0 (Nat.zero_le _) kz ?_)
 rintro k BJ
 refine ac ?_
 refine Tr.cn rfl ?_ ?_<;>intro h4 q4
 have AZ:k<(l).length:=AH h4
 obtain ⟨c,AX⟩:=at_ AZ
 refine ac ?_
 refine ac ?_
 refine co rfl (AD rfl underlying389 zq Db vq AA (AR Ew)) ?_
 refine ac ?_
 refine co rfl (Ah rfl (kP (e:=x) AA) ⟨ke rfl,ke rfl,ke rfl,ke rfl,ke rfl,ke rfl,ke rfl,trivial⟩) ?_
 refine ac ?_
 refine wk [43,13,12,11,4,3,2,1,0] rfl (Tr.ex 43 rfl fun AKM=> ?_)
 refine Tr.cn rfl ?_ ?_<;>intro h5 q5
 refine ac ?_
 refine co rfl (AD rfl underlying389 zq Db vq AA (AR Ew)) ?_
 refine ac ?_
 refine wk [10] rfl ?_
 refine ac ?_
 · exact Ar
 refine ac ?_
 refine ac ?_
 exact Fin.AM (k+1) ⟨AZ,by omega⟩ ⟨⟨_,rfl,AG k⟩,kz⟩
 have A8:k=(l).length:=by have:=AJ h4;omega
 refine ac ?_
 refine ac ?_
 exact Fin.AM (m+1) ⟨Es,by omega⟩ ⟨⟨_,rfl,AG m⟩,kz⟩
 have Kt:m=(Yn).length:=by have:=AJ h3;omega
 refine ac ?_
 refine ac ?_
 refine ac ?_
 · exact Ar
def XJ (s:Su) (x:Hw):Bool:=decide (s.s1=0)||decide (x.CN=s.s1)
def S5 (ids:List Hw) (code:Int):Int:=if TR code then idx (XJ (RF code)) ids else -1
def L9 (sv:Bw) (offer:List Int) (v code:Int):Bool:=TR code&&(offer.any fun x=>code==x)&&(sv.A_.any fun x=>code==x)&&decide ((RF code).lo≤v)&&decide (v≤(RF code).hi)&&decide (0≤S5 sv.ids code)
theorem Ih {e:Bw} {code:Int} (hl:e.ids.length≤1000000):A0 prog 319 [agg (BQ e),int code] (C_ [int (S5 e.ids code),bool (decide (0≤S5 e.ids code))]):=by
 refine fo func319 rfl ⟨rfl,rfl⟩ fun M0 w0=> ?_
 refine ac ?_
 refine ao ?_
 refine tp rfl (CM (Mo (code:=code)) rfl rfl) ?_
 refine ao ?_
 refine Tl rfl rfl rfl rfl Tc J4 (fun b1=> ?_)
 refine sf 0 6 ⟨rfl,rfl,rfl⟩ rfl rfl rfl rfl ?_
 refine ao ?_
 refine ac ?_
 refine wk [15,6,2] rfl ?_
 refine Tr.cn rfl ?_ ?_<;>intro h1 q1
 have hK:S5 e.ids code= -1:=by unfold S5;exact if_neg (fun h_=>by rw [if_pos h_] at h1;exact absurd h1 AB)
 refine ac ?_
 refine Tr.ret (Fin.AE (Fin.C6 rfl (Bv.EU _ _) rfl ?_ rfl ?_))
 · refine int_eq ?_;exact hK.symm
 · refine bool_eq ?_;rw [hK];rfl
 have hs:TR code=true:=by cases h_:TR code with|true=>rfl|false=>exact absurd h1 NB
 have hK:S5 e.ids code=idx (XJ (RF code)) e.ids:=by unfold S5;exact if_pos hs
 refine a2 ?_
 refine Tr.block (Tr.Ax _ (kk [6,2] rfl) (fun k:Nat=>[(8,int ((k:Nat):Int))]) (fun k:Nat=>k≤(e.ids).length∧(∀j y,j<k→e.ids[j]? =some y→XJ (RF code) y=false)) (fun k:Nat=>(e.ids).length-k) 0 (⟨Nat.zero_le _,fun j y hj=>absurd hj AA⟩) kz ?_)
 rintro k ⟨BJ,AQ⟩
 refine an ?_ ?_<;>intro h2 q2
 have AZ:k<(e.ids).length:=AH h2
 obtain ⟨x,AX⟩:=at_ AZ
 refine ac ?_
 refine ag ?_ ?_<;>intro h3 q3
 refine ac ?_
 refine wk [39,8,6,2] rfl ?_
 refine ac ?_
 refine Tr.ret (Fin.AU (Fin.AE (Fin.AE (Fin.AU (Fin.AE (Fin.C6 rfl (Bv.EU _ _) rfl ?_ rfl ?_))))))
 · exact dm
 · exact dG
 refine ac ?_
 refine cy h3 rfl (AD rfl underlying38 Ep vq vq AA (AR AX)) ?_
 refine ac ?_
 refine wk [39,8,6,2] rfl ?_
 refine Tr.cn rfl ?_ ?_<;>intro h4 q4
 refine ac ?_
 refine Tr.ret (Fin.AU (Fin.AE (Fin.AE (Fin.AU (Fin.AE (Fin.C6 rfl (Bv.EU _ _) rfl ?_ rfl ?_))))))
 · exact dm
 · exact dG
 refine a2 ?_
 exact Fin.AM (k+1) ⟨⟨AZ,DR (p:=XJ (RF code)) AX uM AQ⟩,by omega⟩ ⟨⟨_,rfl,AG k⟩,kz⟩
 have A8:k=(e.ids).length:=by have:=AJ h2;omega
 subst A8
 refine a2 ?_
 refine Tr.ret (Fin.C6 rfl (Bv.EU _ _) rfl ?_ rfl ?_)
 · refine int_eq ?_;rw [hK];exact F8 AQ
 · refine bool_eq ?_;rw [hK,←F8 AQ];rfl
theorem gr {ids:List Hw} {code:Int} (h:0≤S5 ids code):∃x,ids[(S5 ids code).toNat]? =some x:=by
 unfold S5 at h ⊢
 split at h
 ·
  rename_i hs
  rw [if_pos hs]
  unfold idx at h ⊢
  cases hf:ids.findIdx? (XJ (RF code)) with
  |none=>rw [hf] at h;simp at h
  |some i=>
   obtain ⟨hi,_⟩:=List.findIdx?_eq_some_iff_getElem.1 hf
   exact ⟨ids[i],by simp [hi]⟩
 · omega
theorem sV {e:Bw} {of:List Int} {v code:Int} (h:L9 e of v code=true):0≤S5 e.ids code:=by grind [L9]
theorem L_ {e:Bw} {of:List Int} {v code:Int} (hl:e.ids.length≤1000000):A0 prog 323 [agg (BQ e),ints of,int v,int code] (bool (L9 e of v code)):=by
 refine fo func323 rfl ⟨rfl,rfl⟩ fun M0 w0=> ?_
 refine ac ?_
 refine ao ?_
 refine tp rfl (CM (Mo (code:=code)) rfl rfl) ?_
 refine ao ?_
 refine Tl rfl rfl rfl rfl Tc J4 (fun b1=> ?_)
 refine sf 0 9 ⟨rfl,rfl,rfl⟩ rfl rfl rfl rfl ?_
 refine ao ?_
 refine ac ?_
 refine Ch.cs 20 rfl ?_ ?_<;>intro h1 q1
 refine ac ?_
 refine wk [44,4,3] rfl ?_
 refine ac ?_
 refine ac ?_
 · refine bool_eq ?_;unfold L9;simp_all
 refine ac ?_
 refine cy h1 rfl (Bq (Ks) rfl rfl rfl) ?_
 refine ac ?_
 refine Ch.cs 26 rfl ?_ ?_<;>intro h2 q2
 refine ac ?_
 refine wk [44,4,3] rfl ?_
 refine ac ?_
 refine ac ?_
 · refine bool_eq ?_;unfold L9;simp_all;intros;exfalso;exact q2 _ Bh rfl
 refine ac ?_
 refine cy h2 rfl (Bq (Ks) rfl rfl rfl) ?_
 refine ac ?_
 refine Ch.cs 33 rfl ?_ ?_<;>intro h3 q3
 refine ac ?_
 refine wk [44,4,3] rfl ?_
 refine ac ?_
 refine ac ?_
 · refine bool_eq ?_;unfold L9;simp_all;intros;exfalso;exact q3 _ Bh rfl
 refine ac ?_
 refine Ch.cs 39 rfl ?_ ?_<;>intro h4 q4
 refine ac ?_
 refine wk [44,4,3] rfl ?_
 refine ac ?_
 refine ac ?_
 · refine bool_eq ?_;unfold L9;simp_all;intros;omega
 refine ac ?_
 refine wk [44,4,3] rfl ?_
 refine Tr.cn rfl ?_ ?_<;>intro h5 q5
 refine ac ?_
 refine ac ?_
 · refine bool_eq ?_;unfold L9;simp_all;intros;omega
 refine ac ?_
 refine ac ?_
 refine co rfl (Bq (Ih (e:=e) (code:=code) hl) rfl rfl rfl) ?_
 refine ac ?_
 refine ac ?_
 refine ac ?_
 · refine bool_eq ?_;unfold L9;simp_all
theorem kR {c e:Bw} {most:Int} {su:List Int} (hc:c.small) (he:e.small):A0 prog 317 [agg (BQ c),agg (BQ e),int day,int most,ints su] (Cp.ex fun z:Int×Int×Int=>fact True (C_ [agg [int z.1,int z.2.1],int z.2.2])):=by
 refine fo func317 rfl ⟨rfl,rfl⟩ fun M0 w0=>(Tr.CG 4 rfl fun AJu=> ?_)
 obtain ⟨od,hod⟩:∃od,(if e.own=true then e.A_ else su)=od:=⟨_,rfl⟩
 have hsu:=he.A_
 have mM:od.length≤9223372036854775807:=by rw [←hod];split<;>omega
 refine Tr.seq (Tr.BE (tp rfl (BU rfl Be) (tp rfl (BU rfl Be) ?_)))
 refine Tl rfl rfl rfl rfl KF F6 (fun b1=> ?_)
 refine ap ?_
 refine ac ?_
 refine co rfl (CM (Fi hc) rfl rfl) ?_
 refine ag ?_ ?_<;>intro h1 q1
 refine ac ?_
 refine Tr.cond rfl (fun _=> ?_) (fun h=>nomatch h)
 refine Tr.seq (Tr.BE (tp rfl (BO (rows:=[]) rfl UG F6 trivial rfl) (TO.AK 0 rfl rfl rfl vq Be rfl CO rfl rfl (tm rfl (TO.nil (Fin.go (wk [11,10] rfl (Tr.ret (Fin.AE (Fin.BL rfl (AL.cell 0 rfl rfl DM CO rfl Lr) (AL.tmp rfl Lr) ?_))))))))))
 · exact Ey
 refine cy h1 rfl (Ad rfl DC CS vq rfl rfl) (cy h1 rfl (CM (Fi he) rfl rfl) ?_)
 refine an ?_ ?_<;>intro h2 q2
 refine ap ?_
 refine wk [11,10] rfl (Tr.ret (Fin.AE (Fin.BL rfl (AL.cell 0 rfl rfl DM CO rfl Lr) (AL.tmp rfl Lr) ?_)))
 · exact Ey
 refine ac ?_
 refine ag ?_ ?_<;>intro h3 q3
 refine ac ?_
 refine wk [39,10,6,5,4,3,2] rfl (Tr.cond rfl (fun _=> ?_) (fun h=>nomatch h))
 refine Tr.seq (Tr.BE (tp rfl (BO (rows:=[]) rfl UG F6 trivial rfl) (TO.AK 0 rfl rfl rfl vq Be rfl CO rfl rfl (tm rfl (TO.nil (Fin.go (Tr.ret (Fin.AE (Fin.BL rfl (AL.cell 0 rfl rfl DM CO rfl Lr) (AL.tmp rfl Lr) ?_)))))))))
 · exact Ey
 refine ag ?_ ?_<;>intro h4 q4
 refine ac ?_
 refine wk [39,10,6,5,4,3,2] rfl (Tr.cond rfl (fun _=> ?_) (fun h=>nomatch h))
 refine Tr.seq (Tr.BE (tp rfl (BO (rows:=[]) rfl UG F6 trivial rfl) (TO.AK 0 rfl rfl rfl vq Be rfl CO rfl rfl (tm rfl (TO.nil (Fin.go (Tr.ret (Fin.AE (Fin.BL rfl (AL.cell 0 rfl rfl DM CO rfl Lr) (AL.tmp rfl Lr) ?_)))))))))
 · exact Ey
 refine ag ?_ ?_<;>intro h5 q5
 refine ac ?_
 refine wk [39,10,6,5,4,3,2] rfl (Tr.cond rfl (fun _=> ?_) (fun h=>nomatch h))
 refine Tr.seq (Tr.BE (tp rfl (BO (rows:=[]) rfl UG F6 trivial rfl) (TO.AK 0 rfl rfl rfl vq Be rfl CO rfl rfl (tm rfl (TO.nil (Fin.go (Tr.ret (Fin.AE (Fin.BL rfl (AL.cell 0 rfl rfl DM CO rfl Lr) (AL.tmp rfl Lr) ?_)))))))))
 · exact Ey
 refine ac ?_
 refine wk [39,10,6,5,4,3,2] rfl ?_
 refine Tr.cn rfl ?_ ?_<;>intro h6 q6
 refine ap ?_
 refine Tr.ret (Fin.AE (Fin.BL rfl (AL.cell 0 rfl rfl DM CO rfl Lr) (AL.tmp rfl Lr) ?_))
 · exact Ey
 refine a2 ?_
 refine co rfl (Zw rfl vq vq) ?_
 refine ac ?_
 refine ag ?_ ?_<;>intro h7 q7
 refine ac ?_
 refine wk [54,12,10,6,5,4,2] rfl (Tr.cond rfl (fun _=> ?_) (fun h=>nomatch h))
 refine Tr.seq (Tr.BE (tp rfl (BO (rows:=[]) rfl UG F6 trivial rfl) (TO.AK 0 rfl rfl rfl vq Be rfl CO rfl rfl (tm rfl (TO.nil (Fin.go (Tr.ret (Fin.AE (Fin.BL rfl (AL.cell 0 rfl rfl DM CO rfl Lr) (AL.tmp rfl Lr) ?_)))))))))
 · exact Ey
 refine ac ?_
 refine wk [54,12,10,6,5,4,2] rfl ?_
 refine Tr.cn rfl ?_ ?_<;>intro h8 q8
 refine ap ?_
 refine Tr.ret (Fin.AE (Fin.BL rfl (AL.cell 0 rfl rfl DM CO rfl Lr) (AL.tmp rfl Lr) ?_))
 · exact Ey
 refine a2 ?_
 refine wk [13,12,10,6,5,4,2] rfl (Tr.Pm [2,4,5,6,10,12] [(13,ints od)] (True) ?_ (fun h9=> ?_))
 refine an ?_ ?_<;>intro h10 R9
 refine ac ?_
 exact Fin.AM () trivial ⟨⟨_,rfl,Pr.le_of_eq (by rw [←hod];simp_all)⟩,kz⟩
 refine Tr.skip ?_
 exact Fin.AM () trivial ⟨⟨_,rfl,Pr.le_of_eq (by rw [←hod];simp_all)⟩,kz⟩
 refine ac ?_
 refine Tr.block (Tr.Ax _ (kk [13,12,10,6,5,4,2] rfl) (fun k:Nat=>[(14,int ((k:Nat):Int))]) (fun k:Nat=>k≤(od).length) (fun k:Nat=>(od).length-k) 0 (Nat.zero_le _) kz ?_)
 rintro k BJ
 refine an ?_ ?_<;>intro h11 Ti
 have AZ:k<(od).length:=AH h11
 obtain ⟨x,AX⟩:=at_ AZ
 refine a2 ?_
 refine co rfl (AD rfl underlying22 Bi vq vq AA (AR AX)) (co rfl (Iv rfl DL rfl) ?_)
 refine co rfl (ZO (L_ (e:=e) he.Ze) rfl rfl rfl rfl rfl) ?_
 refine ac ?_
 refine wk [75,14,13,12,10,6,5,4,2] rfl ?_
 refine Tr.cn rfl ?_ ?_<;>intro h12 X0
 refine a2 ?_
 exact Fin.AM (k+1) ⟨AZ,by omega⟩ ⟨⟨_,rfl,AG k⟩,kz⟩
 have hp:L9 e su (min most e.most) x=true:=by simpa using h12
 have hp0:=sV hp
 obtain ⟨y,hy⟩:=gr hp0
 refine a2 ?_
 refine co rfl (AD rfl underlying22 Bi vq vq AA (AR AX)) (co rfl (Iv rfl DL rfl) ?_)
 refine co rfl (Bq (Ih (e:=e) he.Ze) rfl rfl rfl) ?_
 refine ac ?_
 refine wk [15,14,13,12,10,6,5,2] rfl ?_
 refine ac ?_
 refine co rfl (AD rfl underlying38 Ep vq vq AA (Bb hy)) ?_
 refine ac ?_
 refine co rfl (kc5 (kQ) rfl rfl rfl rfl rfl rfl) (co rfl (ABX rfl (VL.le vq bh) (VL.le vq (Dc _ _))) ?_)
 refine ac ?_
 refine wk [99,14,13,12,10] rfl (Tr.ex 99 rfl fun AKN=> ?_)
 refine Tr.cn rfl ?_ ?_<;>intro OQ fO
 refine ap ?_
 refine Tr.ret (Fin.AE (Fin.AU (Fin.AE (Fin.AE (Fin.AU (Fin.AE (Fin.BL rfl (AL.cell 0 rfl rfl DM CO rfl Lr) (AL.tmp rfl Lr) ?_)))))))
 · exact Ey
 refine ac ?_
 refine ap ?_
 refine tp rfl (AD rfl underlying22 Bi vq vq AA (AR AX)) ?_
 refine ap ?_
 refine Tr.ret (Fin.AU (Fin.AE (Fin.AE (Fin.AU (Fin.AE (Fin.BL rfl (AL.cell 0 rfl rfl DM CO rfl Lr) (AL.tmp rfl Lr) ?_))))))
 · exact Ey
 have A8:k=(od).length:=by have:=AJ h11;omega
 subst A8
 refine ac ?_
 refine ap ?_
 refine wk [11,10] rfl (Tr.ret (Fin.BL rfl (AL.cell 0 rfl rfl DM CO rfl Lr) (AL.tmp rfl Lr) ?_))
 · exact Ey
theorem Yo {c e:Bw} (hc:c.small) (he:e.small):A0 prog 305 [agg (BQ c),agg (BQ e),int day] (Cp.ex fun z:Int×Int×Int=>fact True (C_ [agg [int z.1,int z.2.1],int z.2.2])):=by
 refine fo func305 rfl ⟨rfl,rfl⟩ fun M0 w0=>(Tr.seq (Tr.BE (tp rfl (BU rfl Be) (tp rfl (BU rfl Be) ?_))))
 refine Tl rfl rfl rfl rfl KF F6 (fun b1=> ?_)
 refine ap ?_
 refine ap ?_
 refine tp rfl (Zw rfl vq vq) (tp rfl (OK rfl vq vq) ?_)
 refine ap ?_
 refine tp rfl (kc5 (kR hc he) rfl rfl rfl rfl rfl rfl) ?_
 refine TO.ex 17 rfl (fun z1=>TO.fact 17 rfl fun Ex=> ?_)
 refine ap ?_
 refine wk [7,6] rfl (Tr.ret (Fin.BL rfl (AL.cell 0 rfl rfl DM CO rfl Lr) (AL.tmp rfl Lr) ?_))
 · exact Ey
abbrev uses (l:List (Int×Int)):Pr:=slice 2 (l.map fun x=>[int x.1,int x.2])
theorem Ox {e:Bw} {a b:Int} (he:e.small):A0 prog 312 [agg (BQ e),agg [int a,int b]] (Cp.ex fun z:List (Int×Int)×Int=>fact (z.1.length≤1000) (C_ [uses z.1,int z.2])):=by
 refine fo func312 rfl ⟨rfl,rfl⟩ fun M0 w0=> ?_
 refine a2 ?_
 refine co rfl (CM (Fi he) rfl rfl) ?_
 refine an ?_ ?_<;>intro h1 q1
 refine ac ?_
 refine Tr.ret (Fin.AE (Fin.BL rfl (AL.tmp rfl Lr) (AL.tmp rfl Lr) ?_))
 · exact RH
 refine ac ?_
 refine ao ?_
 refine tp rfl (CM (Mo (code:=b)) rfl rfl) ?_
 refine ao ?_
 refine Tl rfl rfl rfl rfl Tc J4 (fun b1=> ?_)
 refine TO.AK 0 rfl rfl rfl vq Be rfl Gr rfl rfl ?_
 refine ao ?_
 refine wk [7,6,3,2] rfl ?_
 refine an ?_ ?_<;>intro h2 q2
 refine ac ?_
 refine Tr.drop 0 (Tr.ret (Fin.AE (Fin.BL rfl (AL.tmp rfl Lr) (AL.tmp rfl Lr) ?_)))
 · exact RH
 refine a2 ?_
 refine co rfl (Bq (Ih (e:=e) he.Ze) rfl rfl rfl) ?_
 refine ac ?_
 refine wk [9,8,6,2] rfl ?_
 refine an ?_ ?_<;>intro h3 q3
 refine ac ?_
 refine Tr.drop 0 (Tr.ret (Fin.AE (Fin.BL rfl (AL.tmp rfl Lr) (AL.tmp rfl Lr) ?_)))
 · exact RH
 obtain ⟨y,hy⟩:=gr (ids:=e.ids) (code:=b) H8
 refine ac ?_
 refine ao ?_
 refine tp rfl (AD rfl underlying38 Ep vq vq AA (Bb hy)) ?_
 refine ao ?_
 refine Tl rfl rfl rfl rfl LS Eo (fun b2=> ?_)
 refine sf 0 10 ⟨rfl,rfl,rfl⟩ rfl rfl rfl rfl ?_
 refine ao ?_
 refine wk [10,6] rfl ?_
 refine an ?_ ?_<;>intro h4 q4
 refine ao ?_
 refine TO.DP 0 rfl rfl (BF rfl rfl vq F7 Bi rfl Am rfl) ?_
 refine ao ?_
 refine ac ?_
 refine Tr.drop 0 (wk [5,4] rfl (Tr.ret (Fin.BL rfl (AL.tmp rfl Lr) (AL.tmp rfl Lr) ?_)))
 · exact dM
 refine a2 ?_
 refine Tr.drop 0 (wk [5,4] rfl (Tr.ret (Fin.BL rfl (AL.tmp rfl Lr) (AL.tmp rfl Lr) ?_)))
 · exact dM
theorem sW {e:Bw} (h:G4 e=true):1≤e.least∧e.least≤4∧e.most≤4:=by grind [G4]
theorem Yp {c e:Bw} (hc:c.small) (he:e.small):A0 prog 314 [agg (BQ c),agg (BQ e)] (Cp.ex fun z:List (Int×Int)=>fact (z.length≤1000) (uses z)):=by
 refine fo func314 rfl ⟨rfl,rfl⟩ fun M0 w0=> ?_
 refine a2 ?_
 refine co rfl (CM (Fi hc) rfl rfl) ?_
 refine ag ?_ ?_<;>intro h1 q1
 refine a3 ?_
 · exact Az [] (BC AO (AP 2))
 refine cy h1 rfl (Ad rfl DC CS vq rfl rfl) (cy h1 rfl (CM (Fi he) rfl rfl) ?_)
 refine an ?_ ?_<;>intro h2 q2
 refine a2 ?_
 · exact Az [] (BC AO (AP 2))
 obtain ⟨hc1,hc2,hc3⟩:=sW (e:=c) Bp
 obtain ⟨he1,he2,he3⟩:=sW (e:=e) Bp
 refine a3 ?_
 refine co rfl (OK rfl vq vq) ?_
 refine ac ?_
 refine wk [6,5,3,2] rfl (Tr.block (Tr.B5 268 2 ?_))
 refine Tr.DZ _ (kk [3,2] rfl) (fun (v:Int) (o:List (Int×Int)) u=>[(6,int v),(5,AV u (uses o))]) (fun (v:Int) (o:List (Int×Int)) u=>Hp M0 w0 FO ([As 268 2 u])) (fun (v:Int) (o:List (Int×Int))=>1≤v∧v≤5∧(o.length:Int)≤(v-1)*16) (fun (v:Int) (o:List (Int×Int))=>(5-v).toNat) (max c.least e.least) ([]) (.slice none 0 0) (⟨by omega,by omega,by simp;omega⟩) ⟨kq,⟨_,rfl,Bg rfl⟩,trivial⟩ (fun _ _ h=>h) ?_
 rintro v o u ⟨XH,QJ,mM⟩
 refine ac ?_
 refine co rfl (Zw rfl vq vq) ?_
 refine an ?_ ?_<;>intro h3 q3
 have hvm:=h3
 refine a2 ?_
 refine Tr.block (Tr.DZ _ (kk [6,3,2] rfl) (fun (k:Int) (q:List (Int×Int)) u3=>[(7,int k),(5,AV u3 (uses q))]) (fun (k:Int) (q:List (Int×Int)) u3=>Hp M0 w0 FO ([As 268 2 u3])) (fun (k:Int) (q:List (Int×Int))=>1≤k∧k≤17∧(q.length:Int)≤(v-1)*16+k-1) (fun (k:Int) (q:List (Int×Int))=>(17-k).toNat) (1) (o) u (⟨by omega,by omega,by omega⟩) ⟨kq,⟨_,rfl,BB rfl⟩,trivial⟩ (fun _ _ h=>h) ?_)
 rintro k q u3 ⟨hk1,hk2,hql⟩
 refine an ?_ ?_<;>intro h4 q4
 have hkm:=h4
 refine a2 ?_
 refine co rfl (ZO (L_ (e:=e) he.Ze) rfl rfl rfl rfl rfl) ?_
 refine an ?_ ?_<;>intro h5 q5
 refine ap ?_
 refine TO.Df 0 rfl rfl AB (B9 rfl rfl rfl rfl underlying331 CO fB KF Ea Db (Ay BK FC)) (fun v1=> ?_)
 refine ap ?_
 refine wk [7,6,5,3,2] rfl ?_
 refine ac ?_
 exact Fin.Bk (k+1) (q++[(v,k)]) v1 (⟨⟨by omega,by omega,by simp;omega⟩,by omega⟩) ⟨kq,⟨_,rfl,BB Dm⟩,kz⟩ (fun _ _ h=>h)
 refine a2 ?_
 exact Fin.Bk (k+1) (q) u3 (⟨⟨by omega,by omega,by omega⟩,by omega⟩) ⟨kq,⟨_,rfl,BB rfl⟩,kz⟩ (fun _ _ h=>h)
 have hkm:=h4
 refine a2 ?_
 exact Fin.Bk (v+1) (q) u3 (⟨⟨by omega,by omega,by omega⟩,by omega⟩) ⟨kq,⟨_,rfl,BB AO⟩,kz⟩ (fun _ _ h=>h)
 have hvm:=h3
 refine a3 ?_
 · exact P6
theorem sX {e:D5} {x:JI} (h:Fl e=true) (hx:e.BX[i]? =some x):(0≤x.client∧x.client<(e.Bu.length:Nat))∧(0≤x.server∧x.server<(e.Bu.length:Nat)):=by
 have h1:=(Fq.1 h).ed i (by rcases Nat.lt_or_ge i e.BX.length with h'|h';exact h';rw [List.getElem?_eq_none h'] at hx;cases hx)
 unfold Ez at h1
 rw [hx] at h1
 simp only [Option.getD_some,Bool.and_eq_true,decide_eq_true_eq] at h1
 omega
theorem kS {e:D5} {i:Int} (hf:e.fits):A0 prog 304 [agg (CV e),int i] (Cp.ex fun z:Bw×Bw×Int=>fact (z.2.2=0→z.1∈e.Bu∧z.2.1∈e.Bu) (C_ [agg (BQ z.1),agg (BQ z.2.1),int z.2.2])):=by
 refine fo func304 rfl ⟨rfl,rfl⟩ fun M0 w0=>(Tr.seq (Tr.BE (tp rfl (BU rfl Be) ?_)))
 refine Tl rfl rfl rfl rfl z40 Hx (fun b1=> ?_)
 refine Tl rfl rfl rfl rfl z40 Hx (fun b2=> ?_)
 refine ap ?_
 refine ac ?_
 refine co rfl (CM (EE hf) rfl rfl) ?_
 refine an ?_ ?_<;>intro h1 q1
 refine ap ?_
 refine Tr.ret (Fin.AE (Fin.Fb rfl (AL.cell 1 rfl rfl DC CS rfl Lr) (AL.cell 0 rfl rfl DC CS rfl Lr) (AL.tmp rfl Lr) ?_))
 · exact Zh
 have V3:Fl e=true:=by cases h_:Fl e with|true=>rfl|false=>exact absurd h1 NB
 refine ac ?_
 refine ag ?_ ?_<;>intro h2 q2
 refine ac ?_
 refine wk [20,5,4,2,1] rfl (Tr.cond rfl (fun _=> ?_) (fun h=>nomatch h))
 refine Tr.seq (Tr.BE (tp rfl (BO (rows:=[]) rfl uZ Hx trivial rfl) (tp rfl (BO (rows:=[]) rfl uZ Hx trivial rfl) (TO.AK 1 rfl rfl rfl vq Be rfl CS rfl rfl (TO.AK 0 rfl rfl rfl vq Be rfl CS rfl rfl (tm rfl (TO.nil (Fin.go (Tr.ret (Fin.AE (Fin.Fb rfl (AL.cell 1 rfl rfl DC CS rfl Lr) (AL.cell 0 rfl rfl DC CS rfl Lr) (AL.tmp rfl Lr) ?_)))))))))))
 · exact Zh
 refine ac ?_
 refine wk [20,5,4,2,1] rfl ?_
 refine Tr.cn rfl ?_ ?_<;>intro h3 q3
 refine ap ?_
 refine Tr.ret (Fin.AE (Fin.Fb rfl (AL.cell 1 rfl rfl DC CS rfl Lr) (AL.cell 0 rfl rfl DC CS rfl Lr) (AL.tmp rfl Lr) ?_))
 · exact Zh
 obtain ⟨x,hx⟩:=at_ (l:=e.BX) (k:=i.toNat) AA
 obtain ⟨hxc,hxs⟩:=sX V3 hx
 obtain ⟨c,hc⟩:=at_ (l:=e.Bu) (k:=x.client.toNat) AA
 obtain ⟨y,hy⟩:=at_ (l:=e.Bu) (k:=x.server.toNat) AA
 refine ac ?_
 refine Tr.seq (Tr.rx ?_)
 refine ay ?_
 refine xo rfl (fun _=>AD rfl underlying28 Fe vq vq AA (Bb hx)) ?_
 refine ay ?_
 refine xo rfl (fun _=>AD rfl underlying27 CS vq vq AA (Bb hc)) ?_
 refine ay ?_
 refine xo rfl (fun _=>AD rfl underlying28 Fe vq vq AA (Bb hx)) ?_
 refine ay ?_
 refine xo rfl (fun _=>AD rfl underlying27 CS vq vq AA (Bb hy)) ?_
 refine ay ?_
 refine Cx.nil ⟨by kernel_rfl,?_⟩
 refine Aw.done UL (Fin.go (wk [6,5,4] rfl (Tr.ret (Fin.Fb rfl (AL.cell 1 rfl rfl DC CS rfl Lr) (AL.cell 0 rfl rfl DC CS rfl Lr) (AL.tmp rfl Lr) ?_))))
 · exact Az (c,y,_) (BC (fun _=>⟨List.mem_of_getElem? hc,List.mem_of_getElem? hy⟩) Lr)
theorem S6 {e:D5} {i:Int} (hf:e.fits):A0 prog 288 [agg (CV e),int i,int day] (Cp.ex fun z:Int×Int×Int=>fact True (C_ [agg [int z.1,int z.2.1],int z.2.2])):=by
 refine fo func288 rfl ⟨rfl,rfl⟩ fun M0 w0=>(Tr.seq (Tr.BE (tp rfl (BU rfl Be) ?_)))
 refine Tl rfl rfl rfl rfl KF F6 (fun b1=> ?_)
 refine ao ?_
 refine ao ?_
 refine tp rfl (Bq (kS hf) rfl rfl rfl) ?_
 refine TO.ex 14 rfl (fun z1=>TO.fact 14 rfl fun Ex=> ?_)
 refine ao ?_
 refine Tl rfl rfl rfl rfl z40 Hx (fun b2=> ?_)
 refine Tl rfl rfl rfl rfl z40 Hx (fun b3=> ?_)
 refine sf 1 8 ⟨rfl,rfl,rfl⟩ rfl rfl rfl rfl ?_
 refine sf 0 9 ⟨rfl,rfl,rfl⟩ rfl rfl rfl rfl ?_
 refine ao ?_
 refine wk [10,9,8,6,2] rfl ?_
 refine an ?_ ?_<;>intro h1 q1
 refine ao ?_
 refine TO.AK 0 rfl rfl rfl vq Be rfl CO rfl rfl ?_
 refine ao ?_
 refine Tr.ret (Fin.AE (Fin.BL rfl (AL.cell 0 rfl rfl DM CO rfl Lr) (AL.tmp rfl Lr) ?_))
 · exact Ey
 have hz0:z1.2.2=0:=by have:=q1;omega
 refine ac ?_
 refine ao ?_
 refine tp rfl (Jd (Yo (hf.Bu _ (Ex hz0).1).2 (hf.Bu _ (Ex hz0).2).2) rfl rfl rfl rfl) ?_
 refine TO.ex 25 rfl (fun z2=>TO.fact 25 rfl fun JN=> ?_)
 refine ao ?_
 refine TO.AK 0 rfl rfl rfl vq Be rfl CO rfl rfl ?_
 refine ao ?_
 refine wk [7,6] rfl (Tr.ret (Fin.BL rfl (AL.cell 0 rfl rfl DM CO rfl Lr) (AL.tmp rfl Lr) ?_))
 · exact Ey
theorem Pc {e:D5} {i from_ OZ:Int} (hf:e.fits):A0 prog 256 [agg (CV e),int i,int from_,int OZ] (Cp.ex fun z:Int×Int×Int=>fact True (C_ [agg [int z.1,int z.2.1],int z.2.2])):=by
 refine fo func256 rfl ⟨rfl,rfl⟩ fun M0 w0=>(Tr.seq (Tr.BE (tp rfl (BU rfl Be) ?_)))
 refine Tl rfl rfl rfl rfl KF F6 (fun b1=> ?_)
 refine ao ?_
 refine ao ?_
 refine tp rfl (Jd (S6 hf) rfl rfl rfl rfl) ?_
 refine TO.ex 16 rfl (fun z1=>TO.fact 16 rfl fun Ex=> ?_)
 refine ao ?_
 refine Tl rfl rfl rfl rfl KF F6 (fun b2=> ?_)
 refine sf 0 10 ⟨rfl,rfl,rfl⟩ rfl rfl rfl rfl ?_
 refine ao ?_
 refine wk [11,10,8,4,3,2,1] rfl ?_
 refine an ?_ ?_<;>intro h1 q1
 refine ao ?_
 refine TO.AK 0 rfl rfl rfl vq Be rfl CO rfl rfl ?_
 refine ao ?_
 refine Tr.ret (Fin.AE (Fin.BL rfl (AL.cell 0 rfl rfl DM CO rfl Lr) (AL.tmp rfl Lr) ?_))
 · exact Ey
 refine ac ?_
 refine ao ?_
 refine tp rfl (Jd (S6 hf) rfl rfl rfl rfl) ?_
 refine TO.ex 27 rfl (fun z2=>TO.fact 27 rfl fun JN=> ?_)
 refine ao ?_
 refine wk [11,10,8,3,2] rfl ?_
 refine an ?_ ?_<;>intro h2 q2
 refine ao ?_
 refine TO.AK 0 rfl rfl rfl vq Be rfl CO rfl rfl ?_
 refine ao ?_
 refine Tr.ret (Fin.AE (Fin.BL rfl (AL.cell 0 rfl rfl DM CO rfl Lr) (AL.tmp rfl Lr) ?_))
 · exact Ey
 refine ac ?_
 refine an ?_ ?_<;>intro h3 q3
 refine ao ?_
 refine TO.AK 0 rfl rfl rfl vq Be rfl CO rfl rfl ?_
 refine ao ?_
 refine Tr.ret (Fin.AE (Fin.BL rfl (AL.cell 0 rfl rfl DM CO rfl Lr) (AL.tmp rfl Lr) ?_))
 · exact Ey
 refine ac ?_
 refine ao ?_
 refine TO.AK 0 rfl rfl rfl vq Be rfl CO rfl rfl ?_
 refine ao ?_
 refine Tr.ret (Fin.BL rfl (AL.cell 0 rfl rfl DM CO rfl Lr) (AL.tmp rfl Lr) ?_)
 · exact Az (z1.1,z1.2.1,0) (BC trivial Lr)
abbrev S7:Pr:=slice 7 []
abbrev Ny:Pr:=agg [slice 6 [],slice 2 []]
abbrev Wp:Pr:=agg [slice 1 [],int 0]
theorem Pf   :A0 prog 174 [Ny] (int 0):=by
 refine fo func174 rfl ⟨rfl,rfl⟩ fun M0 w0=> ?_
 refine ac ?_
 refine ac ?_
 refine co rfl (Cq rfl underlying111 vq) (co rfl Vl (cm rfl ?_))
 refine Ch.cs 9 rfl ?_ ?_<;>intro h1 q1
 iterate 4 refine cnf h1 rfl ?_
 refine co rfl (kpt rfl rfl h1 rfl) (Ch.nil (Fin.go (Tr.cond rfl (fun _=> ?_) (fun h=>nomatch h))))
 refine Tr.seq (Tr.Bt (cm rfl (Ch.nil (Fin.go (Tr.ret (Fin.AE (Fin.ACv rfl (Bv.EU _ _) rfl ?_)))))))
 · refine int_eq ?_;simp_all
 refine cy h1 rfl (i7 rfl e7 rfl rfl) (cy h1 rfl (Iv rfl n5 rfl) (cy h1 rfl (Cq rfl underlying112 (vl rfl)) ?_))
 refine ac ?_
 refine Tr.cn rfl ?_ ?_<;>intro h2 q2
 exact absurd h2 AB
 refine ac ?_
 refine ac ?_
 refine Tr.block (Tr.Ax _ (kk [1] rfl) (fun k:Nat=>[(3,int ((k:Nat):Int))]) (fun k:Nat=>k=0) (fun k:Nat=>0) 0 (rfl) kz ?_)
 rintro k hk0
 refine ac ?_
 refine co rfl (Cq rfl underlying111 vq) ?_
 refine ac ?_
 refine Tr.cn rfl ?_ ?_<;>intro h3 q3
 exfalso;have TQ:=EW.E9 h3;subst hk0;simp at TQ
 have ZJ:=h3
 refine ac ?_
 refine ac ?_
 refine Tr.block (Tr.Ax _ (kk [1] rfl) (fun k:Nat=>[(4,int ((k:Nat):Int))]) (fun k:Nat=>k=0) (fun k:Nat=>0) 0 (rfl) kz ?_)
 rintro k hk0
 refine ac ?_
 refine co rfl (Cq rfl underlying112 vq) ?_
 refine ac ?_
 refine Tr.cn rfl ?_ ?_<;>intro h4 q4
 exfalso;have TQ:=EW.E9 h4;subst hk0;simp at TQ
 have ZJ:=h4
 refine ac ?_
 refine ac ?_
 refine ac ?_
 · exact Lr
theorem Yq {a b p:Int}  :A0 prog 333 [Ny,agg [int a,int b],int p] (anyI):=by
 refine fo func333 rfl ⟨rfl,rfl⟩ fun M0 w0=> ?_
 · repeat' first|exact absurd h AB|exact Az _ Lr|refine co rfl (CM (Pf) rfl rfl) ?_|refine co rfl (CM (Kl (CN:=a) (bits:=b)) rfl rfl) ?_|refine ac ?_|(refine Tr.cn rfl ?_ ?_<;>intro h q)|(refine Ch.cg rfl rfl rfl ?_ ?_<;>intro h q)
theorem MA {a b p d:Int}  :A0 prog 335 [Ny,agg [int a,int b],int p,int d] (int (-1)):=by
 refine fo func335 rfl ⟨rfl,rfl⟩ fun M0 w0=> ?_
 refine a2 ?_
 refine co rfl (Cq rfl underlying111 vq) ?_
 refine ac ?_
 refine Tr.block (Tr.Ax _ (kk [5,4,3,2] rfl) (fun k:Nat=>[(9,int (-1))]) (fun k:Nat=>True) (fun k:Nat=>0) 0 (trivial) kz ?_)
 rintro k _
 refine an ?_ ?_<;>intro h1 q1
 exact absurd h1 AB
 have ZJ:=h1
 refine a3 ?_
 · exact Lr
theorem Tq {a b p d:Int}  :A0 prog 334 [Ny,agg [int a,int b],int p,int d] (bool true):=by
 refine fo func334 rfl ⟨rfl,rfl⟩ fun M0 w0=> ?_
 · repeat' first|exact Lr|exact absurd h AB|refine co rfl (ZO (MA) rfl rfl rfl rfl rfl) ?_|refine ac ?_|(refine Ch.cg rfl rfl rfl ?_ ?_<;>intro h q)
theorem Ts {a b p d:Int}  :A0 prog 320 [Ny,agg [int a,int b],int p,int d] (C_ [Eb,anyI,anyI]):=by
 refine fo func320 rfl ⟨rfl,rfl⟩ fun M0 w0=> ?_
 refine a2 ?_
 refine co rfl (Jd (Yq) rfl rfl rfl rfl) ?_
 refine ac ?_
 refine Tr.seq (Tr.ex 11 rfl fun x11=> ?_)
 refine an ?_ ?_<;>intro h1 q1
 refine ac ?_
 refine wk [10,9,8] rfl (Tr.ret (Fin.AE (Fin.JR rfl (Bv.EU _ _) rfl ?_ rfl ?_ rfl ?_)))
 · exact Ar
 · exact Ar
 · exact Ar
 refine ac ?_
 refine ag ?_ ?_<;>intro h2 q2
 refine ac ?_
 refine wk [24,5,4,3,2] rfl ?_
 refine ac ?_
 refine Tr.ret (Fin.AE (Fin.JR rfl (Bv.EU _ _) rfl ?_ rfl ?_ rfl ?_))
 · exact Ar
 · exact Ar
 · exact Ar
 refine ac ?_
 refine wk [24,5,4,3,2] rfl ?_
 refine Tr.cn rfl ?_ ?_<;>intro h3 q3
 refine ac ?_
 refine Tr.ret (Fin.AE (Fin.JR rfl (Bv.EU _ _) rfl ?_ rfl ?_ rfl ?_))
 · exact Ar
 · exact Ar
 · exact Ar
 refine a2 ?_
 refine co rfl (ZO (Tq) rfl rfl rfl rfl rfl) ?_
 refine ac ?_
 refine co rfl (ZO (MA) rfl rfl rfl rfl rfl) ?_
 refine ac ?_
 refine wk [10,9,8] rfl (Tr.ret (Fin.JR rfl (Bv.EU _ _) rfl ?_ rfl ?_ rfl ?_))
 · exact Ar
 · exact Ar
 · exact Ar
theorem kU   :A0 prog 321 [S7] (int 0):=by
 refine fo func321 rfl ⟨rfl,rfl⟩ fun M0 w0=> ?_
 refine a2 ?_
 refine Tr.block (Tr.Ax _ (kk [0] rfl) (fun k:Nat=>[(3,int ((k:Nat):Int))]) (fun k:Nat=>k=0) (fun k:Nat=>0) 0 (rfl) kz ?_)
 rintro k hk0
 refine ac ?_
 refine co rfl (Cq rfl underlying162 vq) ?_
 refine an ?_ ?_<;>intro h1 q1
 exfalso;have TQ:=EW.E9 h1;subst hk0;simp at TQ
 have ZJ:=h1
 refine a3 ?_
 · exact Lr
theorem kV {a b p d:Int} {s:List UInt8}  :A0 prog 322 [S7,Wp,agg [int a,int b],int p,str s,int d] (bool false):=by
 refine fo func322 rfl ⟨rfl,rfl⟩ fun M0 w0=> ?_
 refine a2 ?_
 refine Tr.block (Tr.Ax _ (kk [8,7,5,4,3,0] rfl) (fun k:Nat=>[(13,int ((k:Nat):Int))]) (fun k:Nat=>k=0) (fun k:Nat=>0) 0 (rfl) kz ?_)
 rintro k hk0
 refine ac ?_
 refine co rfl (Cq rfl underlying162 vq) ?_
 refine an ?_ ?_<;>intro h1 q1
 exfalso;have TQ:=EW.E9 h1;subst hk0;simp at TQ
 have ZJ:=h1
 refine a3 ?_
 · exact Lr
theorem Tt {a b p d:Int} {s:List UInt8}  :A0 prog 313 [Ny,S7,Wp,agg [int a,int b],int p,str s,int d] (C_ [Eb,anyI]):=by
 refine fo func313 rfl ⟨rfl,rfl⟩ fun M0 w0=> ?_
 refine a2 ?_
 refine co rfl (ZO (Ts) rfl rfl rfl rfl rfl) ?_
 refine ac ?_
 refine wk [18,16,10,9,6,5,4,1] rfl (Tr.seq (Tr.seq (Tr.ex 18 rfl fun x18=>(Tr.ex 16 rfl fun x16=> ?_))))
 refine an ?_ ?_<;>intro h1 q1
 refine ac ?_
 refine Tr.ret (Fin.AE (Fin.C6 rfl (Bv.EU _ _) rfl ?_ rfl ?_))
 · exact Ar
 · exact Ar
 refine a2 ?_
 refine co rfl (CM (kU) rfl rfl) ?_
 refine a2 ?_
 refine wk [35,19,16,10,9,6,5,4,1] rfl ?_
 refine Tr.cn rfl ?_ ?_<;>intro h2 q2
 exact absurd h2 AB
 refine ac ?_
 refine ag ?_ ?_<;>intro h3 q3
 refine ac ?_
 refine wk [15,14] rfl (Tr.ret (Fin.C6 rfl (Bv.EU _ _) rfl ?_ rfl ?_))
 · exact Ar
 · exact Ar
 refine ac ?_
 refine cy h3 rfl (Ah rfl (kV) ⟨kq,kz⟩) ?_
 refine ac ?_
 refine wk [15,14] rfl (Tr.ret (Fin.C6 rfl (Bv.EU _ _) rfl ?_ rfl ?_))
 · exact Ar
 · exact Ar
theorem bl {e:Bw} {a b d:Int} (he:e.small):A0 prog 299 [Ny,S7,Wp,agg (BQ e),agg [int a,int b],int d] (C_ [Eb,anyI]):=by
 refine fo func299 rfl ⟨rfl,rfl⟩ fun M0 w0=> ?_
 refine ac ?_
 refine ap ?_
 refine tp rfl (Bq (Ox he) rfl rfl rfl) ?_
 refine TO.ex 23 rfl (fun z1=>TO.fact 23 rfl fun Ex=> ?_)
 refine ap ?_
 refine wk [15,14,9,8,6,5,1] rfl ?_
 refine an ?_ ?_<;>intro h1 q1
 refine ac ?_
 refine Tr.ret (Fin.AE (Fin.C6 rfl (Bv.EU _ _) rfl ?_ rfl ?_))
 · exact Ar
 · exact Ar
 refine a3 ?_
 refine Tr.block (Tr.Ax _ (kk [14,9,8,6,5,1] rfl) (fun k:Nat=>[(17,int ((k:Nat):Int)),(16,Eb)]) (fun k:Nat=>k≤(z1.1).length) (fun k:Nat=>(z1.1).length-k) 0 (Nat.zero_le _) ⟨kq,⟨_,rfl,Az _ Lr⟩,trivial⟩ ?_)
 rintro k BJ
 refine Tr.ex 16 rfl fun x16=> ?_
 refine an ?_ ?_<;>intro h2 q2
 have AZ:k<(z1.1).length:=AH h2
 obtain ⟨x,AX⟩:=at_ AZ
 refine a2 ?_
 refine co rfl (AD rfl underlying143 Lt vq vq AA (AR AX)) ?_
 refine ac ?_
 refine co rfl (Ah rfl (Tt (a:=x.1) (b:=x.2)) ⟨kq,kz⟩) ?_
 refine ac ?_
 refine wk [19,18,17,16,14,9,8,6,5,1] rfl (Tr.seq (Tr.seq (Tr.ex 19 rfl fun x19=>(Tr.ex 18 rfl fun x18=> ?_))))
 refine an ?_ ?_<;>intro h3 q3
 refine ac ?_
 refine wk [13,12] rfl (Tr.ret (Fin.AE (Fin.AU (Fin.AE (Fin.AE (Fin.AU (Fin.AE (Fin.C6 rfl (Bv.EU _ _) rfl ?_ rfl ?_))))))))
 · exact Ar
 · exact Ar
 · repeat' first|exact Fin.AM (k+1) ⟨AZ,by omega⟩ ⟨⟨_,rfl,AG k⟩,⟨_,rfl,Az _ Lr⟩,kz⟩|refine ac ?_|(refine Ch.cg rfl rfl rfl ?_ ?_<;>intro h q)
 have A8:k=(z1.1).length:=by have:=AJ h2;omega
 subst A8
 refine a2 ?_
 refine wk [13,12] rfl (Tr.ret (Fin.C6 rfl (Bv.EU _ _) rfl ?_ rfl ?_))
 · exact Ar
 · exact Ar
theorem K6 {d:Int}  :A0 prog 122 [Ny,S7,int d] (anyI):=by
 refine fo func122 rfl ⟨rfl,rfl⟩ fun M0 w0=> ?_
 refine a2 ?_
 refine co rfl (CM (Pf) rfl rfl) ?_
 refine an ?_ ?_<;>intro h1 q1
 exact absurd h1 AB
 refine a2 ?_
 refine co rfl (Cq rfl underlying162 vq) ?_
 refine ac ?_
 refine Tr.block (Tr.Ax _ (kk [13,12,2] rfl) (fun k:Nat=>[(14,int ((k:Nat):Int))]) (fun k:Nat=>k=0) (fun k:Nat=>0) 0 (rfl) kz ?_)
 rintro k hk0
 refine ac ?_
 refine Tr.seq ?_
 refine Tr.cn rfl ?_ ?_<;>intro h2 q2
 exfalso;have TQ:=EW.E9 h2;subst hk0;simp at TQ
 have ZJ:=h2
 · repeat' first|exact Az _ Lr|refine ac ?_|(refine Tr.cn rfl ?_ ?_<;>intro h q)|(refine Ch.cg rfl rfl rfl ?_ ?_<;>intro h q)
abbrev gu:Pr:=Cp.ex fun z:List (Int×Int)=>fact (z.length≤1000) (uses z)
structure K7 (e:D5) (i:Int) (x:JI) (c s:Bw):Prop where
 i0:0≤i
 hx:e.BX[i.toNat]? =some x
 c0:0≤x.client
 s0:0≤x.server
 hc:e.Bu[x.client.toNat]? =some c
 hs:e.Bu[x.server.toNat]? =some s
 cs:c.small
 ss:s.small
theorem sY {e:D5} {i:Int} (hf:e.fits) (V3:Fl e=true) (h0:0≤i) (hi:i.toNat<e.BX.length):∃x c s,K7 e i x c s:=by
 obtain ⟨x,hx⟩:=at_ hi
 obtain ⟨hxc,hxs⟩:=sX V3 hx
 obtain ⟨c,hc⟩:=at_ (l:=e.Bu) (k:=x.client.toNat) AA
 obtain ⟨y,hy⟩:=at_ (l:=e.Bu) (k:=x.server.toNat) AA
 exact ⟨x,c,y,h0,hx,hxc.1,hxs.1,hc,hy,(hf.Bu _ (List.mem_of_getElem? hc)).2,(hf.Bu _ (List.mem_of_getElem? hy)).2⟩
theorem K7.li {e:D5} {i:Int} {x:JI} {c s:Bw} (h:K7 e i x c s):i.toNat<e.BX.length:=by
 have:=h.hx
 rcases Nat.lt_or_ge i.toNat e.BX.length with h'|h'
 · exact h'
 · rw [List.getElem?_eq_none h'] at this;cases this
theorem K7.lc {e:D5} {i:Int} {x:JI} {c s:Bw} (h:K7 e i x c s):x.client.toNat<e.Bu.length:=by
 have:=h.hc
 rcases Nat.lt_or_ge x.client.toNat e.Bu.length with h'|h'
 · exact h'
 · rw [List.getElem?_eq_none h'] at this;cases this
theorem K7.ls {e:D5} {i:Int} {x:JI} {c s:Bw} (h:K7 e i x c s):x.server.toNat<e.Bu.length:=by
 have:=h.hs
 rcases Nat.lt_or_ge x.server.toNat e.Bu.length with h'|h'
 · exact h'
 · rw [List.getElem?_eq_none h'] at this;cases this
theorem K8 {e:D5} {i:Int} {x:JI} {c s:Bw} (he:K7 e i x c s):A0 prog 284 [agg (CV e),int i] (agg (BQ s)):=by
 refine fo func284 rfl ⟨rfl,rfl⟩ fun M0 w0=> ?_
 have e1:=he.i0
 have e2:=he.c0
 have e3:=he.s0
 have e4:=he.li
 have e5:=he.lc
 have e6:=he.ls
 refine Tr.seq (Tr.BE (tp rfl (BU rfl Be) ?_))
 refine Tl rfl rfl rfl rfl z40 Hx (fun b1=> ?_)
 refine ap ?_
 refine Tr.seq (Tr.rx ?_)
 refine ay ?_
 refine xo rfl (fun _=>AD rfl underlying28 Fe vq vq AA (Bb he.hx)) ?_
 refine ay ?_
 refine xo rfl (fun _=>AD rfl underlying27 CS vq vq AA (Bb he.hs)) ?_
 refine ay ?_
 refine Cx.nil ⟨by kernel_rfl,?_⟩
 refine Aw.done al1 (Fin.go (Tr.ret (Fin.Cf rfl (AL.cell 0 rfl rfl DC CS rfl Lr) ?_)))
 · exact Lr
theorem Pg {e:D5} {i:Int} {x:JI} {c s:Bw} (he:K7 e i x c s):A0 prog 300 [agg (CV e),int i] (gu):=by
 refine fo func300 rfl ⟨rfl,rfl⟩ fun M0 w0=> ?_
 have e1:=he.i0
 have e2:=he.c0
 have e3:=he.s0
 have e4:=he.li
 have e5:=he.lc
 have e6:=he.ls
 refine ac ?_
 refine ao ?_
 refine tp rfl (AD rfl underlying28 Fe vq vq AA (Bb he.hx)) (tp rfl (Ad rfl Rl Fe vq rfl rfl) ?_)
 refine Tl rfl rfl rfl rfl jE Xg (fun b1=> ?_)
 refine sf 0 5 ⟨rfl,rfl,rfl⟩ rfl rfl rfl rfl ?_
 refine ao ?_
 refine ac ?_
 refine co rfl (AD rfl underlying27 CS vq vq AA (Bb he.hc)) ?_
 refine ac ?_
 refine co rfl (AD rfl underlying27 CS vq vq AA (Bb he.hs)) (co rfl (Ad rfl DC CS vq rfl rfl) (co rfl (Bq (Yp he.cs he.ss) rfl rfl rfl) ?_))
 refine ac ?_
 refine wk [4] rfl ?_
 refine ac ?_
 · exact Lr
theorem bn {a b:Bw} {x y:Int} (ha:a.small) (hb:b.small):A0 prog 301 [agg (BQ a),agg (BQ b),agg [int x,int y]] (Eb):=by
 refine fo func301 rfl ⟨rfl,rfl⟩ fun M0 w0=> ?_
 refine ac ?_
 refine ap ?_
 refine tp rfl (Bq (Ox ha) rfl rfl rfl) ?_
 refine TO.ex 15 rfl (fun z1=>TO.fact 15 rfl fun Ex=> ?_)
 refine ap ?_
 refine wk [7,5,4] rfl ?_
 refine ap ?_
 refine tp rfl (Bq (Ox hb) rfl rfl rfl) ?_
 refine TO.ex 21 rfl (fun z2=>TO.fact 21 rfl fun JN=> ?_)
 refine ap ?_
 refine ac ?_
 refine wk [28,9,7] rfl ?_
 refine Tr.cn rfl ?_ ?_<;>intro h1 q1
 refine a2 ?_
 · exact Ar
 have Mu:z1.1.length=z2.1.length:=by have h_:=q1;omega
 refine a2 ?_
 refine Tr.block (Tr.Ax _ (kk [30,9,7] rfl) (fun k:Nat=>[(31,int ((k:Nat):Int))]) (fun k:Nat=>k≤(z1.1).length) (fun k:Nat=>(z1.1).length-k) 0 (Nat.zero_le _) kz ?_)
 rintro k BJ
 refine ac ?_
 refine Tr.seq ?_
 refine Tr.cn rfl ?_ ?_<;>intro h2 q2
 have AZ:k<(z1.1).length:=AH h2
 obtain ⟨x,AX⟩:=at_ AZ
 obtain ⟨y2,hy2⟩:=at_ (l:=z2.1) (k:=k) AA
 · repeat' first|exact Az _ Lr|exact Fin.AM (k+1) ⟨AZ,by omega⟩ ⟨⟨_,rfl,AG k⟩,kz⟩|refine co rfl (AD rfl underlying143 Lt vq vq AA (AR AX)) ?_|refine co rfl (AD rfl underlying143 Lt vq vq AA (AR hy2)) (co rfl (Ad rfl J3 Lt vq rfl rfl) (co rfl (NW rfl vq vq) ?_))|refine ac ?_|(refine Tr.cn rfl ?_ ?_<;>intro h q)
 have A8:k=(z1.1).length:=by have:=AJ h2;omega
 subst A8
 refine a3 ?_
 · exact Ar
theorem kW {a b:D5} (ha:a.fits) (hb:b.fits):A0 prog 282 [agg (CV a),agg (CV b)] (Cp.ex fun z:Int=>fact (z=0→Fl a=true∧Fl b=true∧a.BX.length=b.BX.length) (int z)):=by
 refine fo func282 rfl ⟨rfl,rfl⟩ fun M0 w0=>(Tr.FW 0 1 rfl rfl fun Lb=>(Tr.FW 1 1 rfl rfl fun xp=> ?_))
 refine a2 ?_
 refine co rfl (CM (EE ha) rfl rfl) ?_
 refine ag ?_ ?_<;>intro h1 q1
 refine a3 ?_
 · exact Pz
 refine cy h1 rfl (Ad rfl Gp F5 vq rfl rfl) (cy h1 rfl (CM (EE hb) rfl rfl) ?_)
 refine an ?_ ?_<;>intro h2 q2
 refine a2 ?_
 · exact Pz
 refine a2 ?_
 refine wk [20,3,2] rfl ?_
 refine Tr.cn rfl ?_ ?_<;>intro h3 q3
 refine a2 ?_
 · exact Pz
 have Mu:a.BX.length=b.BX.length:=by have h_:=q3;omega
 refine a2 ?_
 refine Tr.block (Tr.Ax _ (kk [23,3,2] rfl) (fun k:Nat=>[(24,int ((k:Nat):Int))]) (fun k:Nat=>k≤(a.BX).length) (fun k:Nat=>(a.BX).length-k) 0 (Nat.zero_le _) kz ?_)
 rintro k BJ
 refine ac ?_
 refine Tr.seq ?_
 refine Tr.cn rfl ?_ ?_<;>intro h4 q4
 have AZ:k<(a.BX).length:=AH h4
 obtain ⟨x,AX⟩:=at_ AZ
 obtain ⟨y2,hy2⟩:=at_ (l:=b.BX) (k:=k) AA
 · repeat' first|exact Az _ (BC (fun h_=>absurd h_ AB) Lr)|exact Fin.AM (k+1) ⟨AZ,by omega⟩ ⟨⟨_,rfl,AG k⟩,kz⟩|refine co rfl (AD rfl underlying28 Fe vq vq AA (AR AX)) ?_|refine co rfl (AD rfl underlying28 Fe vq vq AA (AR hy2)) (co rfl (Ad rfl Rl Fe vq rfl rfl) (co rfl (qK rfl vq vq) ?_))|refine ac ?_|(refine Tr.cn rfl ?_ ?_<;>intro h q)
 have A8:k=(a.BX).length:=by have:=AJ h4;omega
 subst A8
 refine a3 ?_
 · exact Az 0 (BC (fun _=>⟨by simp_all,by simp_all,Mu⟩) Lr)
theorem ABZ {d:Nat} {w:World} {x0 y0:Int} {x1 y1:Int}:(Op.equalIn (d+2) 268 (.agg #[.int .i64 x0,.int .i64 x1]) (.agg #[.int .i64 y0,.int .i64 y1])).run Tryz.prog w= .ok (decide (x0=y0∧x1=y1)) w:=by
 have h:=eqS (w:=w) (d:=d+1) (xs:= #[.int .i64 x0,.int .i64 x1]) (ys:= #[.int .i64 y0,.int .i64 y1]) Tryz.underlying268 Ak (FI AB (CR DL rfl) (CR DL rfl) (Gf (d:=d+0) Tryz.underlying3) (FI AB (CR DL rfl) (CR DL rfl) (Gf (d:=d+0) Tryz.underlying3) (NS)))
 refine h.trans (congrArg (fun b=>Result.ok b w) ?_)
 rw [Bool.eq_iff_iff];simp [and_assoc]
theorem sZ {u:TypeId} {y:Operand} {x0 y0:Int} {x1 y1:Int} (ho:o.op= .binOp .eql 268 x y u) (hx:VL E x (agg [is (.int .i64 x0),is (.int .i64 x1)])) (hy:VL E y (agg [is (.int .i64 y0),is (.int .i64 y1)])):Ac Tryz.prog I o E (bool (decide (x0=y0∧x1=y1))):=
 NQ [.int .i64 x0,.int .i64 x1] [.int .i64 y0,.int .i64 y1] ho hx hy Ak (fun w=>by rw [show Op.equal 268 _ _=Op.equalIn (9998+2) 268 _ _ from rfl];exact ABZ)
theorem A0.outs {p0:Pr} {res:Pr} (h:∀z:List (Int×Int),z.length≤1000→A0 P f (p0::uses z::ps) res):A0 P f (p0::Go.Proofs.YtmocaapoeefgkaaGreatDoor.gu::ps) res:=by
 refine ⟨(h [] (Nat.zero_le _)).1,fun M w vs hb hv=> ?_⟩
 match vs,hv with
 |u0::u1::us,⟨h0,⟨z,hz,h1⟩,h2⟩=>exact (h z hz).2 M w (u0::u1::us) hb ⟨h0,h1,h2⟩
section
variable {P:Program} {I:C1} {E:Env} {o:Oper}
theorem ABa {u:TypeId} {y:Operand} (ho:o.op= .binOp .gtr t x y u) (hx:VL E x (G1 .i64)) (hy:VL E y (G1 .i64)):Ac P I o E Eb:=
 Ac.same fun M w a he _=>by
  obtain ⟨m,h1⟩:=hx.ev he Au
  obtain ⟨n,h2⟩:=hy.ev he Au
  have h1:a.eval x= .int .i64 m:=h1
  have h2:a.eval y= .int .i64 n:=h2
  exact ⟨.bool (decide (m>n)),by simp [execOp,ho,h1,h2,eqGuard,binOp,Op.intCmp],_,rfl⟩
end
theorem kX {e:Bw} {all:List (Int×Int)} {d:Int} (he:e.small) (hl:all.length≤1000):A0 prog 283 [agg (BQ e),uses all,Ny,S7,Wp,int d] (gu):=by
 refine fo func283 rfl ⟨rfl,rfl⟩ fun M0 w0=> ?_
 refine a3 ?_
 refine Tr.block (Tr.B5 268 2 (Tr.DZ _ (kk [19,18,10,8,6,5,3] rfl) (fun (o:List (Int×Int)) (k:Nat) u=>[(20,int ((k:Nat):Int)),(13,AV u (uses o))]) (fun (o:List (Int×Int)) (k:Nat) u=>Hp M0 w0 FO ([As 268 2 u])) (fun (o:List (Int×Int)) (k:Nat)=>k≤all.length∧o.length≤k) (fun (o:List (Int×Int)) (k:Nat)=>all.length-k) ([]) (0) (.slice none 0 0) (⟨Nat.zero_le _,by simp⟩) ⟨kq,⟨_,rfl,Bg rfl⟩,trivial⟩ (fun _ _ h=>h) ?_))
 rintro o k u ⟨hk0,mM⟩
 refine ac ?_
 refine Tr.seq ?_
 refine Tr.cn rfl ?_ ?_<;>intro h1 q1
 have hk:k<all.length:=AH h1
 obtain ⟨y,hy⟩:=at_ hk
 refine ac ?_
 refine Tr.seq (Tr.block (Tr.seq (Tr.BE (tp rfl (AD rfl underlying331 CO vq vq AA (AR hy)) (tp rfl (Ad rfl DM CO vq rfl rfl) ?_)))))
 refine Tl rfl rfl rfl rfl KF F6 (fun b1=> ?_)
 refine sf 0 15 ⟨rfl,rfl,rfl⟩ rfl rfl rfl rfl ?_
 refine ao ?_
 refine wk [20,19,18,15,13,10,8,6,5,3] rfl ?_
 refine ac ?_
 refine co rfl (Ah rfl (bl he) ⟨kq,kz⟩) ?_
 refine ac ?_
 refine wk [20,19,18,17,16,15,13,10,8,6,5,3] rfl (Tr.seq (Tr.ex 17 rfl fun x17=>(Tr.ex 16 rfl fun x16=> ?_)))
 refine ag ?_ ?_<;>intro h2 q2
 refine ac ?_
 refine wk [38,20,19,18,15,13,10,8,6,5,3] rfl ?_
 refine Tr.cn rfl ?_ ?_<;>intro h3 q3
 refine ao ?_
 refine TO.Df 0 rfl rfl AB (B9 rfl rfl rfl rfl underlying331 CO fB KF Ea Db (Ay BK FC)) (fun v1=> ?_)
 refine ao ?_
 refine wk [20,19,18,13,10,8,6,5,3] rfl ?_
 refine ac ?_
 exact Fin.Bk (o++[(y.1,y.2)]) (k+1) v1 (⟨⟨by omega,by simp;omega⟩,by omega⟩) ⟨⟨_,rfl,AG k⟩,⟨_,rfl,BB Dm⟩,kz⟩ (fun _ _ h=>h)
 refine a2 ?_
 exact Fin.Bk (o) (k+1) u (⟨⟨by omega,by omega⟩,by omega⟩) ⟨⟨_,rfl,AG k⟩,⟨_,rfl,BB rfl⟩,kz⟩ (fun _ _ h=>h)
 refine ac ?_
 refine wk [38,20,19,18,15,13,10,8,6,5,3] rfl ?_
 refine a2 ?_
 exact Fin.Bk (o) (k+1) u (⟨⟨by omega,by omega⟩,by omega⟩) ⟨⟨_,rfl,AG k⟩,⟨_,rfl,BB rfl⟩,kz⟩ (fun _ _ h=>h)
 have hk:=AJ h1
 refine a3 ?_
 · exact P6
theorem Wq {a b:D5} {i:Int} {x x2:JI} {c s c2 s2:Bw} (ha:K7 a i x c s) (hb:K7 b i x2 c2 s2):A0 prog 285 [agg (CV a),agg (CV b),int i] (gu):=by
 refine fo func285 rfl ⟨rfl,rfl⟩ fun M0 w0=> ?_
 refine ac ?_
 refine ao ?_
 refine tp rfl (Bq (Pg ha) rfl rfl rfl) ?_
 refine TO.ex 16 rfl (fun z1=>TO.fact 16 rfl fun Ex=> ?_)
 refine ao ?_
 refine ac ?_
 refine ao ?_
 refine tp rfl (Bq (Pg hb) rfl rfl rfl) ?_
 refine TO.ex 19 rfl (fun z2=>TO.fact 19 rfl fun JN=> ?_)
 refine ao ?_
 refine wk [21,20,19,8,7,4,3,2] rfl (Tr.block (Tr.B5 268 2 (Tr.DZ _ (kk [20,19,7,4,3,2] rfl) (fun (o:List (Int×Int)) (k:Nat) u=>[(21,int ((k:Nat):Int)),(8,AV u (uses o))]) (fun (o:List (Int×Int)) (k:Nat) u=>Hp M0 w0 FO ([As 268 2 u])) (fun (o:List (Int×Int)) (k:Nat)=>k≤z2.length∧o.length≤k) (fun (o:List (Int×Int)) (k:Nat)=>z2.length-k) ([]) (0) (.slice none 0 0) (⟨Nat.zero_le _,by simp⟩) ⟨kq,⟨_,rfl,Bg rfl⟩,trivial⟩ (fun _ _ h=>h) ?_)))
 rintro o k u ⟨hk0,mM⟩
 refine ac ?_
 refine Tr.seq ?_
 refine Tr.cn rfl ?_ ?_<;>intro h1 q1
 have hk:k<z2.length:=AH h1
 obtain ⟨y,hy⟩:=at_ hk
 refine ac ?_
 refine Tr.seq (Tr.block (Tr.seq (Tr.BE (tp rfl (AD rfl underlying331 CO vq vq AA (AR hy)) (tp rfl (Ad rfl DM CO vq rfl rfl) ?_)))))
 refine Tl rfl rfl rfl rfl KF F6 (fun b1=> ?_)
 refine sf 0 10 ⟨rfl,rfl,rfl⟩ rfl rfl rfl rfl ?_
 refine ao ?_
 refine wk [21,20,19,10,8,7,4,3,2] rfl ?_
 refine a2 ?_
 refine Tr.block (Tr.Ax _ (kk [26,25,21,20,19,10,8,7,4,3,2] rfl) (fun m:Nat=>[(27,int ((m:Nat):Int)),(11,Eb)]) (fun m:Nat=>m≤(z1).length) (fun m:Nat=>(z1).length-m) 0 (Nat.zero_le _) ⟨kq,⟨_,rfl,Az _ Lr⟩,trivial⟩ ?_)
 rintro m Nk
 refine Tr.ex 11 rfl fun x11=> ?_
 refine ac ?_
 refine wk [28,27,26,25,21,20,19,11,10,8,7,4,3,2] rfl (Tr.seq ?_)
 refine Tr.cn rfl ?_ ?_<;>intro h2 q2
 have Es:m<(z1).length:=AH h2
 obtain ⟨w,Ew⟩:=at_ Es
 refine ac ?_
 refine wk [27,26,25,21,20,19,11,10,8,7,4,3,2] rfl (Tr.seq (Tr.block (Tr.seq (Tr.BE (tp rfl (AD rfl underlying331 CO vq vq AA (AR Ew)) (tp rfl (Ad rfl DM CO vq rfl rfl) ?_))))))
 refine Tl rfl rfl rfl rfl KF F6 (fun b2=> ?_)
 refine sf 0 13 ⟨rfl,rfl,rfl⟩ rfl rfl rfl rfl ?_
 refine ao ?_
 · repeat' first|exact Fin.AM (m+1) ⟨Es,by omega⟩ ⟨⟨_,rfl,AG m⟩,⟨_,rfl,Az _ Lr⟩,kz⟩|refine cy h rfl (sZ rfl vq vq) ?_|refine ac ?_|(refine Ch.cg rfl rfl rfl ?_ ?_<;>intro h q)
 have Kt:m=(z1).length:=by have:=AJ h2;omega
 subst Kt
 refine ac ?_
 refine wk [21,20,19,11,10,8,7,4,3,2] rfl ?_
 refine ag ?_ ?_<;>intro h4 q4
 refine ac ?_
 refine wk [50,21,20,19,10,8,7,4,3,2] rfl (Tr.cond rfl (fun _=> ?_) (fun h=>nomatch h))
 refine Tr.BE (tm rfl (tp rfl (Ad rfl DM CO (vl rfl) rfl rfl) (tp rfl (Af (xs:=[.tmp 52]) (rows:=[_]) rfl rfl underlying331 CO KF rfl AB ⟨⟨An,(Va rfl)⟩,trivial⟩ AB) ?_)))
 refine TO.Df 0 rfl rfl AB (B9 rfl rfl rfl rfl underlying331 CO fB KF Ea Db (Ay BK FC)) (fun v1=> ?_)
 refine ao ?_
 refine wk [21,20,19,8,7,4,3,2] rfl ?_
 refine ac ?_
 exact Fin.Bk (o++[(y.1,y.2)]) (k+1) v1 (⟨⟨by omega,by simp;omega⟩,by omega⟩) ⟨⟨_,rfl,AG k⟩,⟨_,rfl,BB Dm⟩,kz⟩ (fun _ _ h=>h)
 refine ac ?_
 refine cy h4 rfl (Bq (K8 ha) rfl rfl rfl) ?_
 refine ac ?_
 refine cy h4 rfl (Bq (K8 hb) rfl rfl rfl) (cy h4 rfl (Ad rfl DM CO vq rfl rfl) (cy h4 rfl (Jd (bn ha.ss hb.ss) rfl rfl rfl rfl) (cy h4 rfl (Jt rfl vq) ?_)))
 refine ac ?_
 refine wk [50,21,20,19,10,8,7,4,3,2] rfl (Tr.ex 50 rfl fun AIz=> ?_)
 refine Tr.cn rfl ?_ ?_<;>intro h5 q5
 refine ao ?_
 refine TO.Df 0 rfl rfl AB (B9 rfl rfl rfl rfl underlying331 CO fB KF Ea Db (Ay BK FC)) (fun v2=> ?_)
 refine ao ?_
 refine wk [21,20,19,8,7,4,3,2] rfl ?_
 refine ac ?_
 exact Fin.Bk (o++[(y.1,y.2)]) (k+1) v2 (⟨⟨by omega,by simp;omega⟩,by omega⟩) ⟨⟨_,rfl,AG k⟩,⟨_,rfl,BB Dm⟩,kz⟩ (fun _ _ h=>h)
 refine a2 ?_
 exact Fin.Bk (o) (k+1) u (⟨⟨by omega,by omega⟩,by omega⟩) ⟨⟨_,rfl,AG k⟩,⟨_,rfl,BB rfl⟩,kz⟩ (fun _ _ h=>h)
 have hk:=AJ h1
 refine a3 ?_
 · exact P6
theorem kY {a b:D5} {d:Int} (ha:a.fits) (hb:b.fits):A0 prog 254 [agg (CV a),agg (CV b),Ny,S7,Wp,int d] (Cp.ex fun z:List Int×Int=>fact (z.1.length≤1000) (C_ [ints z.1,int z.2])):=by
 refine fo func254 rfl ⟨rfl,rfl⟩ fun M0 w0=>(Tr.FW 0 1 rfl rfl fun Lb=> ?_)
 refine ac ?_
 refine ap ?_
 refine tp rfl (Bq (kW ha hb) rfl rfl rfl) ?_
 refine TO.ex 20 rfl (fun z1=>TO.fact 20 rfl fun Ex=> ?_)
 refine ap ?_
 refine ac ?_
 refine wk [22,14,10,8,7,6,5,3] rfl ?_
 refine Tr.cn rfl ?_ ?_<;>intro h1 q1
 refine ac ?_
 refine Tr.ret (Fin.AE (Fin.BL rfl (AL.tmp rfl Lr) (AL.tmp rfl Lr) ?_))
 · exact RG
 obtain ⟨hAe,hBe,Mu⟩:=Ex (by have:=q1;omega)
 have h40:=(Fq.1 hAe).e40
 refine a2 ?_
 refine co rfl (Jd (K6) rfl rfl rfl rfl) ?_
 refine ac ?_
 refine Tr.seq (Tr.ex 15 rfl fun x15=> ?_)
 refine ac ?_
 refine wk [29,15,10,8,7,6,5,3] rfl ?_
 refine Tr.cn rfl ?_ ?_<;>intro h2 q2
 refine ac ?_
 refine Tr.ret (Fin.AE (Fin.BL rfl (AL.tmp rfl Lr) (AL.tmp rfl Lr) ?_))
 · exact RG
 refine a3 ?_
 refine Tr.block (Tr.B5 3 1 (Tr.DZ _ (kk [33,10,8,7,6,5,3] rfl) (fun (o:List Int) (k:Nat) u=>[(34,int ((k:Nat):Int)),(16,AV u (ints o))]) (fun (o:List Int) (k:Nat) u=>Hp M0 w0 FO ([As 3 1 u])) (fun (o:List Int) (k:Nat)=>k≤a.BX.length∧o.length≤k) (fun (o:List Int) (k:Nat)=>a.BX.length-k) ([]) (0) (.slice none 0 0) (⟨Nat.zero_le _,by simp⟩) ⟨kq,⟨_,rfl,Bg rfl⟩,trivial⟩ (fun _ _ h=>h) ?_))
 rintro o k u ⟨hk0,mM⟩
 refine ac ?_
 refine Tr.seq ?_
 refine Tr.cn rfl ?_ ?_<;>intro h3 q3
 have hk:k<a.BX.length:=AH h3
 obtain ⟨_,_,_,hea⟩:=sY (i:=((k:Nat):Int)) ha hAe AA AA
 obtain ⟨_,_,_,heb⟩:=sY (i:=((k:Nat):Int)) hb hBe AA AA
 refine a3 ?_
 refine co rfl (Bq (K8 heb) rfl rfl rfl) ?_
 refine ac ?_
 refine co rfl (Jd (Wq hea heb) rfl rfl rfl rfl) ?_
 refine ac ?_
 refine co rfl (Ah rfl (A0.outs fun z hz=>kX heb.ss hz) ⟨kq,kz⟩) (co rfl (Ac.LR 48 rfl AB fun z=>Ac.opf 48 rfl AB fun _=>Ac.le (Cq rfl underlying331 vq) (Az _ Lr)) (co rfl (ABa rfl (VL.le vq bh) (VL.le vq (Dc _ _))) ?_))
 refine ac ?_
 refine wk [50,34,33,17,16,10,8,7,6,5,3] rfl (Tr.ex 50 rfl fun AIz=> ?_)
 refine Tr.cn rfl ?_ ?_<;>intro h4 q4
 refine ap ?_
 refine TO.Df 0 rfl rfl AB (B9 rfl rfl rfl rfl underlying22 Bi G_ z3 Ea Db (Ay BK FC)) (fun v1=> ?_)
 refine ap ?_
 refine wk [34,33,16,10,8,7,6,5,3] rfl ?_
 refine ac ?_
 exact Fin.Bk (o++[((k:Nat):Int)]) (k+1) v1 (⟨⟨by omega,by simp;omega⟩,by omega⟩) ⟨⟨_,rfl,AG k⟩,⟨_,rfl,BB Dm⟩,kz⟩ (fun _ _ h=>h)
 refine a2 ?_
 exact Fin.Bk (o) (k+1) u (⟨⟨by omega,by omega⟩,by omega⟩) ⟨⟨_,rfl,AG k⟩,⟨_,rfl,BB rfl⟩,kz⟩ (fun _ _ h=>h)
 have hk:=AJ h3
 refine a2 ?_
 refine Tr.ret (Fin.BL rfl (AL.tmp rfl Lr) (AL.tmp rfl Lr) ?_)
 · exact Zp
def Ht (n:Nat) (m:Nat→Nat→Bool):List (List Bool):=(List.range n).map fun a=>(List.range n).map (m a)
theorem JG (n:Nat) (m:Nat→Nat→Bool):(Ht n m).length=n:=by unfold Ht;simp
theorem Ll (m:Nat→Nat→Bool) {a:Nat} (h:a<n):(Ht n m)[a]? =some ((List.range n).map (m a)):=by
 unfold Ht;rw [List.getElem?_map,List.getElem?_range h];rfl
theorem Lm (m:Nat→Bool) (h:b<n):((List.range n).map m)[b]? =some (m b):=by
 rw [List.getElem?_map,List.getElem?_range h];rfl
theorem Us {m m':Nat→Nat→Bool} (h:qu n m m'):Ht n m=Ht n m':=by
 unfold Ht
 refine List.map_congr_left fun a ha=>List.map_congr_left fun b hb=>h a b (List.mem_range.1 ha) (List.mem_range.1 hb)
theorem sj {m:Nat→Nat→Bool} (hi:i<n) (hj:j<n):(Ht n m).set i (((List.range n).map (m i)).set j true)=Ht n (Wa m i j):=by
 apply List.ext_getElem?
 intro a
 rw [List.getElem?_set]
 by_cases h:i=a
 ·
  subst h
  rw [if_pos rfl,if_pos (by rw [JG];exact hi),Ll _ hi]
  congr 1
  apply List.ext_getElem?
  intro b
  rw [List.getElem?_set]
  by_cases h2:j=b
  ·
   subst h2
   rw [if_pos rfl,if_pos Gc,Lm _ hj]
   unfold Wa;rw [if_pos ⟨rfl,rfl⟩]
  ·
   rw [if_neg h2]
   rcases Nat.lt_or_ge b n with hb|hb
   · rw [Lm _ hb,Lm _ hb];unfold Wa;rw [if_neg (fun h3=>h2 h3.2.symm)]
   · grind
 ·
  rw [if_neg h]
  rcases Nat.lt_or_ge a n with ha|ha
  ·
   rw [Ll _ ha,Ll _ ha]
   congr 1
   refine List.map_congr_left fun b _=> ?_
   unfold Wa;rw [if_neg (fun h3=>h h3.1.symm)]
  · rw [List.getElem?_eq_none (by rw [JG];exact ha),List.getElem?_eq_none (by rw [JG];exact ha)]
theorem bp {l:List BM} {q:Nat} {r:BM} (h:l[q]? =some r) (h0:0≤r.fst) (h1:0≤r.thn):GI (l.take (q+1))=Wa (GI (l.take q)) r.fst.toNat r.thn.toNat:=by
 funext a b
 have e:l.take (q+1)=l.take q++[r]:=by rw [List.take_add_one,h];rfl
 unfold GI Wa
 rw [e,List.any_append]
 by_cases hc:a=r.fst.toNat∧b=r.thn.toNat
 · grind
 · grind
theorem kZ (n:Nat) (l:List BM):Ht n (GI (l.take 0))=List.replicate n (List.replicate n false):=by
 unfold Ht GI
 rw [List.eq_replicate_iff]
 refine ⟨by simp,fun b hb=> ?_⟩
 obtain ⟨a,_,rfl⟩:=List.mem_map.1 hb
 rw [List.eq_replicate_iff]
 refine ⟨by simp,fun c hc=> ?_⟩
 obtain ⟨d,_,rfl⟩:=List.mem_map.1 hc
 simp
abbrev slv (n:Nat) (x:Nat×List Bool):Value:=KE n x.1
abbrev AI0 (n:Nat) (m:Nat→Nat→Bool):Pr:=slice 1 ((Ht n m).map fun row=>[slice 1 (row.map fun b=>[bool b])])
theorem Oy {m:Nat→Nat→Bool} {X:List (Nat×List Bool)} {a:Nat} {x:Nat×List Bool} (hX:X.map (·.2)=Ht n m) (hx:X[a]? =some x) (ha:a<n):x.2=(List.range n).map (m a):=by
 have h:=congrArg (fun l=>l[a]?) hX
 simp only [List.getElem?_map,hx,Option.map_some] at h
 rw [Ll m ha] at h
 simpa using h
theorem gv {m:Nat→Nat→Bool} {X:List (Nat×List Bool)} {x:Nat×List Bool} (hX:X.map (·.2)=Ht n m) (hx:X[i]? =some x) (hi:i<n) (hj:j<n):(X.set i (x.1,x.2.set j true)).map (·.2)=Ht n (Wa m i j):=by
 rw [List.map_set,hX,Oy hX hx hi];exact sj hi hj
theorem gw {X:List (Nat×List Bool)} {x:Nat×List Bool} (h:X[k]? =some x):(Hv (Hs e) X)[k]? =some (AF true x.1 e (x.2.map fun b=>bool b)):=gZ (f:=fun x:Nat×List Bool=>AF true x.1 e (x.2.map fun b=>bool b)) h
theorem sk {m:Nat→Nat→Bool} {X:List (Nat×List Bool)} {a c:Nat} {x:Nat×List Bool} (hX:X.map (·.2)=Ht n m) (hx:X[a]? =some x) {v:Bool} (ha:a<n) (hc:c<n) (hv:m a c=v):(x.2.map fun b=>bool b)[0+c*1]? =some (bool v):=by
 subst hv
 rw [Oy hX hx ha,Nat.zero_add,Nat.mul_one,List.getElem?_map,Lm _ hc];rfl
theorem sn {m:Nat→Nat→Bool} {X:List (Nat×List Bool)} (hX:X.map (·.2)=Ht n m):∀x∈X,x.2.length=n:=fun x hx=>by
 obtain ⟨i,hi⟩:=List.mem_iff_getElem?.1 hx
 have hl:i<n:=by
  have h:=congrArg List.length hX
  rw [List.length_map,JG] at h
  rcases Nat.lt_or_ge i X.length with h'|h'
  · omega
  · rw [List.getElem?_eq_none h'] at hi;cases hi
 rw [Oy hX hi hl,List.length_map,List.length_range]
theorem sr {m:Nat→Nat→Bool} {X:List (Nat×List Bool)} (hX:X.map (·.2)=Ht n m):(X.map fun x=>[slice 1 (x.2.map fun b=>[bool b])])=(Ht n m).map fun row=>[slice 1 (row.map fun b=>[bool b])]:=by rw [←hX,List.map_map];rfl
theorem gy {l:List Bool} (h:j<l.length):List.take (0+j*1) (l.map fun b=>bool b)++[is (Value.bool true)]++List.drop (0+j*1+1) (l.map fun b=>bool b)=(l.set j true).map fun b=>bool b:=by
 rw [List.map_set,List.set_eq_take_append_cons_drop,if_pos EJ];simp
theorem S8 {X:List (Nat×List Bool)} {bs:List Nat} {x:Nat×List Bool} (h:X.map (·.1)=bs) (hx:X[i]? =some x):bs[i]? =some x.1:=by rw [←h,List.getElem?_map,hx];rfl
theorem gz {X:List (Nat×List Bool)} {bs:List Nat} {x:Nat×List Bool} {r:List Bool} (h:X.map (·.1)=bs) (hx:X[i]? =some x):(X.set i (x.1,r)).map (·.1)=bs:=by
 have hb:=S8 h hx
 rw [List.map_set,h]
 apply List.ext_getElem?
 intro k
 rw [List.getElem?_set]
 split
 · grind
 · rfl
theorem Ut {l:List BM} (hn:n≤24) (hl:l.length≤1000000) (hr:∀r∈l,(0≤r.fst∧r.fst<(n:Nat))∧0≤r.thn∧r.thn<(n:Nat)):A0 prog 116 [int ((n:Nat):Int),reqs l] (AI0 n (DU l n)):=by
 refine fo func116 rfl ⟨rfl,rfl⟩ fun M0 w0=> ?_
 refine a3 ?_
 refine Tr.block (Tr.B5 160 1 (Tr.DZ _ (kk [11,1,0] rfl) (fun (X:List (Nat×List Bool)) (k:Nat) u=>[(12,int ((k:Nat):Int)),(5,AV u (slice 1 (X.map fun x=>[is (slv n x)])))]) (fun (X:List (Nat×List Bool)) (k:Nat) u=>Hp M0 w0 FO (As 160 1 u::Hv (Hs 4) X)) (fun (X:List (Nat×List Bool)) (k:Nat)=>(k≤n∧X.length=k)∧X.map (·.2)=List.replicate k (List.replicate n false)) (fun (X:List (Nat×List Bool)) (k:Nat)=>n-k) ([]) (0) (.slice none 0 0) (⟨⟨Nat.zero_le _,rfl⟩,rfl⟩) ⟨kq,⟨_,rfl,Bg rfl⟩,trivial⟩ (fun _ _ h=>h) ?_))
 rintro X k u ⟨⟨hkn,hXl⟩,hX⟩
 refine ac ?_
 refine Tr.seq ?_
 refine Tr.cn rfl ?_ ?_<;>intro h1 q1
 have hk:k<n:=AH h1
 refine ac ?_
 refine ao ?_
 refine TO.Vq rfl rfl AB rfl underlying160 UF by4 z4 rfl vq vq FV AA (fun b1=> ?_)
 refine tp rfl (Af (xs:=[.tmp 16]) (rows:=[[is (KE n b1)]]) rfl rfl underlying158 PI z160 rfl AB ⟨⟨An,VL.le vq (Ag _)⟩,trivial⟩ AB) ?_
 refine TO.Df 1 rfl rfl AB (B9 rfl rfl rfl rfl underlying158 PI ADc z160 Ea Db (Ay BK FC)) (fun v1=> ?_)
 refine ao ?_
 refine ac ?_
 refine Fin.eqC 0 ((List.replicate n false).map fun b=>bool b) rfl ru (Fin.fold (res:=Hs 4) [_] (b1,List.replicate n false) rfl ?_)
 exact Fin.Bk (X++[(b1,List.replicate n false)]) (k+1) v1 (⟨⟨⟨by omega,by simp;omega⟩,by rw [List.map_append,hX,List.replicate_succ'];rfl⟩,by omega⟩) ⟨⟨_,rfl,AG k⟩,⟨_,rfl,BB Dm⟩,kz⟩ (fun _ _ h=>h)
 have hk:=AJ h1
 refine a2 ?_
 refine Tr.block ?_
 obtain ⟨bs,hbs⟩:∃bs,X.map (·.1)=bs:=⟨_,rfl⟩
 refine Tr.re 5 rfl (Pr.le_trans (Ao _ _) (Pr.le_of_eq (show _=slice 1 (bs.map fun b=>[is (KE n b)]) by rw [←hbs,List.map_map];rfl))) ?_
 refine Tr.drop 0 (Tr.DI _ (kk [21,20,5,0] rfl) (fun (X1:List (Nat×List Bool)) (q:Nat)=>[(22,int ((q:Nat):Int))]) (fun (X1:List (Nat×List Bool)) (q:Nat)=>Hp M0 w0 FO (Hv (Hs 4) X1)) (fun (X1:List (Nat×List Bool)) (q:Nat)=>q≤l.length∧(X1.map (·.1)=bs∧X1.map (·.2)=Ht n (GI (l.take q)))) (fun (X1:List (Nat×List Bool)) (q:Nat)=>l.length-q) (X) (0)  (⟨Nat.zero_le _,hbs,by rw [hX,kZ,show k=n by omega]⟩) kz (fun _ _ h=>h) ?_)
 rintro X1 q  ⟨hq0,N6,hX1⟩
 refine ac ?_
 refine Tr.seq ?_
 refine Tr.cn rfl ?_ ?_<;>intro h2 q2
 have hq:q<l.length:=AH h2
 obtain ⟨r,hrq⟩:=at_ hq
 have kf:=hr r (List.mem_of_getElem? hrq)
 have AKO:X1.length=n:=by have:=congrArg List.length hX1;rw [List.length_map,JG] at this;exact this
 obtain ⟨x,hx⟩:=at_ (l:=X1) (k:=r.fst.toNat) AA
 have hxl:x.2.length=n:=by rw [Oy hX1 hx AA,List.length_map,List.length_range]
 refine ac ?_
 refine Tr.seq (Tr.block (Tr.seq (Tr.BE (tp rfl (AD rfl underlying33 DQ vq vq AA (AR hrq)) (tp rfl (Ad rfl Iy DQ vq rfl rfl) ?_)))))
 refine Tl rfl rfl rfl rfl QN Ta (fun b2=> ?_)
 refine sf 0 7 ⟨rfl,rfl,rfl⟩ rfl rfl rfl rfl ?_
 refine ao ?_
 refine Tr.focus [] hx rfl (Tr.rx ?_)
 refine ay ?_
 refine xo rfl (fun _=>AD rfl underlying158 PI vq vq AA (Bb (S8 N6 hx))) ?_
 refine ay ?_
 refine xo rfl (fun _=>BI rfl underlying160 UF vq vq AA AA) ?_
 refine Cx.DP 0 rfl rfl (BF rfl rfl vq F7 UF rfl B8 rfl) ?_
 refine Cx.nil ⟨by kernel_rfl,?_⟩
 refine Aw.done al1 ?_
 refine ac ?_
 refine wk [22,21,20,5,0] rfl ?_
 refine ac ?_
 refine Fin.eqC 0 ((x.2.set r.thn.toNat true).map fun b=>bool b) rfl (gy AA) (Fin.V6 (res:=Hs 4) [] (x.1,x.2.set r.thn.toNat true) (show r.fst.toNat<X1.length by omega) rfl ?_)
 exact Fin.Cu (X1.set r.fst.toNat (x.1,x.2.set r.thn.toNat true)) (q+1)  (⟨⟨by omega,gz N6 hx,by rw [bp hrq kf.1.1 kf.2.1];exact gv hX1 hx AA AA⟩,by omega⟩) ⟨⟨_,rfl,AG q⟩,kz⟩ (fun _ _ h=>h)
 have hq:=AJ h2
 refine a2 ?_
 refine Tr.block ?_
 refine Tr.DI _ (kk [35,5,0] rfl) (fun (X2:List (Nat×List Bool)) (k2:Nat)=>[(36,int ((k2:Nat):Int))]) (fun (X2:List (Nat×List Bool)) (k2:Nat)=>Hp M0 w0 FO (Hv (Hs 4) X2)) (fun (X2:List (Nat×List Bool)) (k2:Nat)=>k2≤n∧(X2.map (·.1)=bs∧X2.map (·.2)=Ht n (DU l k2))) (fun (X2:List (Nat×List Bool)) (k2:Nat)=>n-k2) (X1) (0)  (⟨Nat.zero_le _,N6,by rw [hX1,List.take_of_length_le hq];rfl⟩) kz (fun _ _ h=>h) ?_
 rintro X2 k2  ⟨hk2,TW,hX2⟩
 refine ac ?_
 refine Tr.seq ?_
 refine Tr.cn rfl ?_ ?_<;>intro h3 q3
 have AKP:k2<n:=AH h3
 refine a3 ?_
 refine Tr.block ?_
 refine Tr.DI _ (kk [39,36,35,8,5,0] rfl) (fun (X3:List (Nat×List Bool)) (i:Nat)=>[(40,int ((i:Nat):Int))]) (fun (X3:List (Nat×List Bool)) (i:Nat)=>Hp M0 w0 FO (Hv (Hs 4) X3)) (fun (X3:List (Nat×List Bool)) (i:Nat)=>i≤n∧(X3.map (·.1)=bs∧X3.map (·.2)=Ht n (Jl k2 (DU l k2) i 0))) (fun (X3:List (Nat×List Bool)) (i:Nat)=>n-i) (X2) (0)  (⟨Nat.zero_le _,TW,by rw [AFV];exact hX2⟩) kz (fun _ _ h=>h) ?_
 rintro X3 i  ⟨hi0,hb3,hX3⟩
 refine ac ?_
 refine Tr.seq ?_
 refine Tr.cn rfl ?_ ?_<;>intro h4 q4
 have Gm:i<n:=AH h4
 refine a3 ?_
 refine Tr.block (Tr.DI _ (kk [43,40,39,36,35,9,8,5,0] rfl) (fun (X4:List (Nat×List Bool)) (j:Nat)=>[(44,int ((j:Nat):Int))]) (fun (X4:List (Nat×List Bool)) (j:Nat)=>Hp M0 w0 FO (Hv (Hs 4) X4)) (fun (X4:List (Nat×List Bool)) (j:Nat)=>j≤n∧(X4.map (·.1)=bs∧X4.map (·.2)=Ht n (Jl k2 (DU l k2) i j))) (fun (X4:List (Nat×List Bool)) (j:Nat)=>n-j) (X3) (0)  (⟨Nat.zero_le _,hb3,hX3⟩) kz (fun _ _ h=>h) ?_)
 rintro X4 j  ⟨hj0,hb4,hX4⟩
 refine ac ?_
 refine Tr.seq ?_
 refine Tr.cn rfl ?_ ?_<;>intro h5 q5
 have hjl:j<n:=AH h5
 have AKQ:X4.length=n:=by have:=congrArg List.length hX4;rw [List.length_map,JG] at this;exact this
 obtain ⟨xi,hxi⟩:=at_ (l:=X4) (k:=i) AA
 obtain ⟨xk,hxk⟩:=at_ (l:=X4) (k:=k2) AA
 have AKR:xi.2.length=n:=by rw [Oy hX4 hxi AA,List.length_map,List.length_range]
 have AKS:xk.2.length=n:=by rw [Oy hX4 hxk AA,List.length_map,List.length_range]
 refine a3 ?_
 refine co rfl (AD rfl underlying158 PI vq vq AA (AR (S8 hb4 hxi))) ?_
 refine ac ?_
 refine co rfl (BI rfl underlying160 UF vq vq AA AA) ?_
 refine co rfl (CC i (gw hxi) (BT rfl jA vq (sk (c:=k2) hX4 hxi AA AA (wo k2 (DU l k2) i j i)))) ?_
 refine cm rfl ?_
 refine Ch.cs 54 rfl ?_ ?_<;>intro h6 q6
 refine ac ?_
 refine cy h6 rfl (AD rfl underlying158 PI vq vq AA (AR (S8 hb4 hxk))) ?_
 refine ac ?_
 refine cy h6 rfl (BI rfl underlying160 UF vq vq AA AA) ?_
 refine cy h6 rfl (CC k2 (gw hxk) (BT rfl jA vq (sk (c:=j) hX4 hxk AA AA (wq k2 (DU l k2) i j j)))) ?_
 refine ac ?_
 refine wk [62,44,43,40,39,36,35,10,9,8,5,0] rfl ?_
 refine Tr.cn rfl ?_ ?_<;>intro h7 q7
 refine Tr.focus [] hxi rfl ?_
 refine ao ?_
 refine tp rfl (AD rfl underlying158 PI vq vq AA (AR (S8 hb4 hxi))) ?_
 refine ao ?_
 refine tp rfl (BI rfl underlying160 UF vq vq AA AA) ?_
 refine TO.DP 0 rfl rfl (BF rfl rfl vq F7 UF rfl B8 rfl) ?_
 refine ao ?_
 refine wk [44,43,40,39,36,35,9,8,5,0] rfl ?_
 refine ac ?_
 refine Fin.eqC 0 ((xi.2.set j true).map fun b=>bool b) rfl (gy AA) (Fin.V6 (res:=Hs 4) [] (xi.1,xi.2.set j true) (show i<X4.length by omega) rfl ?_)
 exact Fin.Cu (X4.set i (xi.1,xi.2.set j true)) (j+1)  (⟨⟨by omega,gz hb4 hxi,(by rw [←wu Bh Bh];exact gv hX4 hxi AA AA)⟩,by omega⟩) ⟨⟨_,rfl,AG j⟩,kz⟩ (fun _ _ h=>h)
 refine a2 ?_
 exact Fin.Cu (X4) (j+1)  (⟨⟨by omega,hb4,(by rw [←qt Bp];exact hX4)⟩,by omega⟩) ⟨⟨_,rfl,AG j⟩,kz⟩ (fun _ _ h=>h)
 refine ac ?_
 refine wk [62,44,43,40,39,36,35,10,9,8,5,0] rfl ?_
 refine a2 ?_
 exact Fin.Cu (X4) (j+1)  (⟨⟨by omega,hb4,(by rw [←qt Bp];exact hX4)⟩,by omega⟩) ⟨⟨_,rfl,AG j⟩,kz⟩ (fun _ _ h=>h)
 have hje:=AJ h5
 refine a2 ?_
 exact Fin.Cu (X4) (i+1)  (⟨⟨by omega,hb4,by rw [hX4,show j=n by omega];exact Us qv⟩,by omega⟩) ⟨⟨_,rfl,AG i⟩,kz⟩ (fun _ _ h=>h)
 have hie:=AJ h4
 refine a2 ?_
 exact Fin.Cu (X3) (k2+1)  (⟨⟨by omega,hb3,by rw [hX3,show i=n by omega];exact Us wv⟩,by omega⟩) ⟨⟨_,rfl,AG k2⟩,kz⟩ (fun _ _ h=>h)
 have AKT:=AJ h3
 refine ac ?_
 refine Tr.seq ?_
 have AI1:k2=n:=by omega
 refine Tr.xP (m:=n) (X:=X2) [] 5 rfl FV (sn hX2) rfl (Pr.le_of_eq (by rw [←TW,List.map_map];rfl)) ?_
 refine Tr.drop 0 ?_
 refine a2 ?_
 · subst AI1;exact Pr.le_of_eq (congrArg (slice 1) (sr hX2))
theorem bq {n:Int} {l:List BM} (hl:l.length≤1000000):A0 prog 144 [int n,reqs l] (int (BD n l)):=by
 refine fo func144 rfl ⟨rfl,rfl⟩ fun M0 w0=>(Tr.CG 1 rfl fun ER=> ?_)
 refine ac ?_
 refine ag ?_ ?_<;>intro h1 q1
 refine a3 ?_
 · exact int_eq (Li AA).symm
 refine an ?_ ?_<;>intro h2 q2
 refine a2 ?_
 · exact int_eq (Li AA).symm
 obtain ⟨N,rfl⟩:∃N:Nat,n=(N:Int):=⟨n.toNat,by omega⟩
 refine a2 ?_
 refine Tr.block (Tr.Ax _ (kk [17,16,1,0] rfl) (fun k:Nat=>[(18,int ((k:Nat):Int))]) (fun k:Nat=>k≤(l).length∧(∀j y,j<k→l[j]? =some y→Ft N y=false)) (fun k:Nat=>(l).length-k) 0 (⟨Nat.zero_le _,fun j y hj=>absurd hj AA⟩) kz ?_)
 rintro k ⟨BJ,AQ⟩
 refine ac ?_
 refine Tr.seq ?_
 refine Tr.cn rfl ?_ ?_<;>intro h3 q3
 have AZ:k<(l).length:=AH h3
 obtain ⟨r,AX⟩:=at_ AZ
 refine ac ?_
 refine Tr.seq (Tr.block (Tr.seq (Tr.BE (tp rfl (AD rfl underlying33 DQ vq vq AA (AR AX)) (tp rfl (Ad rfl Iy DQ vq rfl rfl) ?_)))))
 refine Tl rfl rfl rfl rfl QN Ta (fun b1=> ?_)
 refine sf 0 6 ⟨rfl,rfl,rfl⟩ rfl rfl rfl rfl ?_
 refine ao ?_
 · repeat' first|(exact int_eq (RD AA AX zT).symm)|(exact Fin.AM (k+1) ⟨⟨AZ,DR (p:=Ft N) AX eI AQ⟩,by omega⟩ ⟨⟨_,rfl,AG k⟩,kz⟩)|refine ac ?_|(refine Tr.cn rfl ?_ ?_<;>intro h q)|(refine Ch.cg rfl rfl rfl ?_ ?_<;>intro h q)
 have A8:k=(l).length:=by have:=AJ h3;omega
 subst A8
 have hbs:=gX AQ
 have kf:∀r∈l,(0≤r.fst∧r.fst<(N:Nat))∧0≤r.thn∧r.thn<(N:Nat):=fun r hr=>by
  have h_:=hbs r hr
  unfold Ft at h_;rw [decide_eq_false_iff_not] at h_;omega
 refine a2 ?_
 refine Tr.block (Tr.KZ _ (kk [1,0] rfl) (fun (i:Nat)=>[(7,int ((i:Nat):Int))]) (fun (i:Nat)=>Hp M0 w0 FO ([])) (fun (i:Nat)=>(1≤i∧(i≤l.length∨i=1))∧∀(j:Nat) a b,j+1<i→l[j]? =some a→l[j+1]? =some b→E5 a b=true) (fun (i:Nat)=>l.length-i) (1)  (⟨⟨by omega,.inr rfl⟩,fun j a b hj=>absurd hj AA⟩) kz (fun _ _ h=>h) ?_)
 rintro i  ⟨⟨hi1,hi2⟩,hso⟩
 refine an ?_ ?_<;>intro h9 q9
 have Gm:i<l.length:=AH h9
 obtain ⟨x,hx⟩:=at_ Gm
 obtain ⟨y,hy⟩:=at_ (l:=l) (k:=i-1) AA
 · repeat' first|exact int_eq (We AA hbs AA hy hx Bp).symm|(exact Fin.LQ (i+1)  (⟨⟨⟨by omega,.inl AA⟩,K4 hx (fun z _ hz=>by rw [hy] at hz;cases hz;simp_all) hso⟩,by omega⟩) ⟨⟨_,rfl,AG i⟩,kz⟩ (fun _ _ h=>h))|(refine co rfl (AD rfl underlying33 DQ vq vq AA dh) ?_)|refine co rfl (AD rfl underlying33 DQ vq vq AA (AR hx)) (co rfl (Ad rfl Iy DQ vq rfl rfl) (co rfl (Bq (Ub) rfl rfl rfl) ?_))|refine ac ?_|(refine Tr.cn rfl ?_ ?_<;>intro h q)
 have hie:=AJ h9
 have kg:EI l=true:=So fun j a b hj=>hso j a b AA
 refine a2 ?_
 refine co rfl (Bq (Ut (n:=N) (l:=l) AA hl kf) rfl rfl rfl) ?_
 refine a2 ?_
 refine Tr.block (Tr.KZ _ (kk [70,8] rfl) (fun (m:Nat)=>[(71,int ((m:Nat):Int))]) (fun (m:Nat)=>Hp M0 w0 FO ([])) (fun (m:Nat)=>m≤N∧∀i,i<m→DU l N i i=false) (fun (m:Nat)=>N-m) (0)  (⟨Nat.zero_le _,fun i hi=>absurd hi AA⟩) kz (fun _ _ h=>h) ?_)
 rintro m  ⟨hm0,hwn⟩
 refine ac ?_
 refine Tr.seq ?_
 refine Tr.cn rfl ?_ ?_<;>intro h11 Ti
 have hm:m<N:=AH h11
 · repeat' first|exact int_eq (Sn AA hbs kg hm Bh).symm|(exact Fin.LQ (m+1)  (⟨⟨by omega,fun i hi=>by rcases Nat.lt_or_eq_of_le (Nat.le_of_lt_succ hi) with h_|h_;exact hwn i h_;(subst h_;assumption)⟩,by omega⟩) ⟨⟨_,rfl,AG m⟩,kz⟩ (fun _ _ h=>h))|refine co rfl (AD rfl underlying158 PI vq vq AA (AR (Ll _ hm))) ?_|refine co rfl (AD rfl underlying160 UF vq vq AA (AR (Lm _ hm))) ?_|refine ac ?_|(refine Tr.cn rfl ?_ ?_<;>intro h q)
 have hme:=AJ h11
 refine a3 ?_
 · exact int_eq (Wf AA hbs kg fun i hi=>hwn i AA).symm
theorem Hu {n:Int} {l:List BM} (hl:l.length≤1000000):A0 prog 81 [int n,reqs l] (int (BD n l)):=by
 refine fo func81 rfl ⟨rfl,rfl⟩ fun M0 w0=> ?_
 refine a2 ?_
 refine co rfl (Bq (bq hl) rfl rfl rfl) ?_
 refine a2 ?_
 · exact Lr
theorem Oz {a b:List Int} (hab:a.length≤b.length):A0 prog 298 [ints a,ints b] (Eb):=by
 refine fo func298 rfl ⟨rfl,rfl⟩ fun M0 w0=>(Tr.CG 0 rfl fun DN=>(Tr.CG 1 rfl fun ER=> ?_))
 refine a2 ?_
 refine Tr.block (Tr.Ax _ (kk [7,1,0] rfl) (fun k:Nat=>[(8,int ((k:Nat):Int))]) (fun k:Nat=>k≤(a).length) (fun k:Nat=>(a).length-k) 0 (Nat.zero_le _) kz ?_)
 rintro k BJ
 refine ac ?_
 refine Tr.seq ?_
 refine Tr.cn rfl ?_ ?_<;>intro h1 q1
 have AZ:k<(a).length:=AH h1
 obtain ⟨x,AX⟩:=at_ AZ
 obtain ⟨y,hy⟩:=at_ (l:=b) (k:=k) AA
 · repeat' first|exact Az _ Lr|exact Fin.AM (k+1) ⟨AZ,by omega⟩ ⟨⟨_,rfl,AG k⟩,kz⟩|refine co rfl (AD rfl underlying51 Bi vq vq AA (AR AX)) ?_|refine co rfl (AD rfl underlying51 Bi vq vq AA (AR hy)) ?_|refine ac ?_|(refine Tr.cn rfl ?_ ?_<;>intro h q)
 have A8:k=(a).length:=by have:=AJ h1;omega
 refine a3 ?_
 · exact Ar
theorem Uu {a b:List Int}  :A0 prog 281 [ints a,ints b] (Eb):=by
 refine fo func281 rfl ⟨rfl,rfl⟩ fun M0 w0=>(Tr.CG 0 rfl fun DN=>(Tr.CG 1 rfl fun ER=> ?_))
 refine ac ?_
 refine ap ?_
 refine TO.cases 10 rfl (fun h1=> ?_) (fun h1=> ?_)
 have q1:=EW.E9 h1
 refine TO.IG rfl rfl rfl h1 rfl AB (Cs rfl vq) (TO.IG rfl rfl rfl h1 rfl AB (Cs rfl vq) (TO.IG rfl rfl rfl h1 rfl AB (Bq (Oz AA) rfl rfl rfl) (TO.ex 13 rfl fun z13=>(TO.IG rfl rfl rfl h1 rfl AB (MK rfl vq) ?_))))
 refine ap ?_
 refine TO.cases 16 rfl (fun h2=> ?_) (fun h2=> ?_)
 have q2:=EW.E9 h2
 refine TO.IG rfl rfl rfl h2 rfl AB (Cs rfl vq) (TO.IG rfl rfl rfl h2 rfl AB (Cs rfl vq) (TO.IG rfl rfl rfl h2 rfl AB (Bq (Oz AA) rfl rfl rfl) (TO.ex 19 rfl fun z19=>(TO.IG rfl rfl rfl h2 rfl AB (MK rfl vq) ?_))))
 refine ap ?_
 refine wk [4] rfl ?_
 refine ac ?_
 · exact Ar
 have q2:=EW.E9 h2
 iterate 4 refine TO.Tg rfl rfl rfl (Bc h2) rfl AB ?_
 refine ap ?_
 refine wk [4] rfl ?_
 refine ac ?_
 · exact Ar
 have q1:=EW.E9 h1
 iterate 4 refine TO.Tg rfl rfl rfl (Bc h1) rfl AB ?_
 refine ap ?_
 iterate 4 refine TO.Tg rfl rfl rfl (Bc rfl) rfl AB ?_
 refine ap ?_
 refine wk [4] rfl ?_
 refine ac ?_
 · exact Ar
theorem Wr {a b:List Int}  :A0 prog 252 [ints a,ints b] (Eb):=by
 refine fo func252 rfl ⟨rfl,rfl⟩ fun M0 w0=> ?_
 refine a2 ?_
 refine co rfl (Bq (Uu) rfl rfl rfl) ?_
 refine a2 ?_
 · exact Lr
abbrev sets (l:List (List Int)):Pr:=slice 1 (l.map fun s=>[ints s])
structure xq (l:List (List Int)) (s:List Int) (z:List (List Int)):Prop where
 mem:∀x∈z,x∈l∨x=s
 le:z.length≤l.length+1
 ge:l.length≤z.length
theorem uJ {l:List (List Int)} (hk:k≤l.length):xq l s (l.take k++[s]++l.drop k):=by
 refine ⟨fun x hx=> ?_,by simp;omega,by simp;omega⟩
 simp only [List.mem_append,List.mem_singleton] at hx
 rcases hx with (hx|hx)|hx
 · grind
 · exact .inr hx
 · grind
theorem xu {lo hi:Nat} (h:lo+hi≤1000000):IntKind.i64.wrap (((lo:Int)+(hi:Int)).tdiv 2)=(((lo+hi)/2:Nat):Int):=by grind [HG,RO]
theorem xw {l:List (List Int)}:xq l s l:=⟨fun x hx=> .inl hx,by omega,by omega⟩
theorem sy {l:List (List Int)} (hl:l.length≤100000) (hs:∀x∈l,x.length=s.length):A0 prog 297 [sets l,ints s] (Cp.ex fun z:List (List Int)=>fact (xq l s z) (sets z)):=by
 refine fo func297 rfl ⟨rfl,rfl⟩ fun M0 w0=>(Tr.CG 0 rfl fun DN=> ?_)
 have hml:(l.map fun s=>[ints s]).length=l.length:=List.length_map _
 refine a2 ?_
 refine Tr.seq (Tr.block (Tr.DI _ (kk [1,0] rfl) (fun (lo:Nat) (hi:Nat)=>[(5,int ((lo:Nat):Int)),(6,int ((hi:Nat):Int))]) (fun (lo:Nat) (hi:Nat)=>Hp M0 w0 FO ([])) (fun (lo:Nat) (hi:Nat)=>lo≤hi∧hi≤l.length) (fun (lo:Nat) (hi:Nat)=>hi-lo) (0) (l.length)  (⟨Nat.zero_le _,Nat.le_refl _⟩) ⟨kq,kz⟩ (fun _ _ h=>h) ?_))
 rintro lo hi  ⟨hlh,hhl⟩
 refine an ?_ ?_<;>intro h1 q1
 have hlt:lo<hi:=AH h1
 obtain ⟨x,hx⟩:=at_ (l:=l) (k:=(lo+hi)/2) AA
 have hxs:=hs x (List.mem_of_getElem? hx)
 refine a2 ?_
 refine co rfl (U6 rfl vq vq AA) ?_
 refine ac ?_
 refine Tr.seq (Tr.re 7 rfl (int_eq (xu AA)) ?_)
 refine ac ?_
 refine co rfl (AD rfl underlying99 HH vq vq AA (AR hx)) ?_
 refine ac ?_
 refine co rfl (Bq (Oz AA) rfl rfl rfl) ?_
 refine ac ?_
 refine wk [23,7,6,5,1,0] rfl (Tr.ex 23 rfl fun AKU=> ?_)
 refine Tr.cn rfl ?_ ?_<;>intro h2 q2
 refine ac ?_
 exact Fin.Cu (((lo+hi)/2+1)) (hi)  (⟨⟨by omega,by omega⟩,by omega⟩) ⟨kq,kz⟩ (fun _ _ h=>h)
 refine ac ?_
 exact Fin.Cu (lo) (((lo+hi)/2))  (⟨⟨by omega,by omega⟩,by omega⟩) ⟨kq,kz⟩ (fun _ _ h=>h)
 have hge:=AJ h1
 refine ac ?_
 refine ap ?_
 refine TO.cases 31 rfl (fun h3=> ?_) (fun h3=> ?_)
 have q3:=EW.E9 h3
 obtain ⟨x2,hx2⟩:=at_ (l:=l) (k:=lo) AA
 refine TO.IG rfl rfl rfl h3 rfl AB (Cs rfl vq) (TO.IG rfl rfl rfl h3 rfl AB (Cs rfl vq) (TO.IG rfl rfl rfl h3 rfl AB (AD rfl underlying99 HH vq vq AA (AR hx2)) (TO.IG rfl rfl rfl h3 rfl AB (Iv rfl eu rfl) (TO.IG rfl rfl rfl h3 rfl AB (Cs rfl vq) (TO.IG rfl rfl rfl h3 rfl AB (Bq (Uu) rfl rfl rfl) (TO.ex 37 rfl fun z37=> ?_))))))
 refine ap ?_
 refine wk [38,5,1,0] rfl ?_
 refine Tr.cn rfl ?_ ?_<;>intro h4 q4
 refine a2 ?_
 · exact Az _ (BC xw Lr)
 refine ac ?_
 refine ap ?_
 refine tp rfl (Dp rfl underlying99 HH vq vq AA AA) (TO.pad ?_)
 refine TO.Df 0 rfl rfl AB (EM rfl rfl AB rfl underlying99 HH Xe z51 rfl AB ⟨_,rfl,AP _⟩ vq JJ JK (Bs BK ⟨_,rfl,Ck 1⟩)) (fun v1=> ?_)
 refine ap ?_
 refine ap ?_
 refine TO.Df 0 rfl rfl AB (B9 rfl rfl rfl rfl underlying99 HH Xe z51 Ea Db (Ay BK FC)) (fun v2=> ?_)
 refine ap ?_
 refine wk [8,5,0] rfl ?_
 refine ap ?_
 refine tp rfl (De rfl underlying99 HH vq vq AA AA) ?_
 refine TO.Df 0 rfl rfl AB (B9 rfl rfl rfl rfl underlying99 HH Xe z51 Ea vq (Ay BK FC)) (fun v3=> ?_)
 refine ap ?_
 refine ac ?_
 · exact mV
 have q3:=EW.E9 h3
 iterate 6 refine TO.Tg rfl rfl rfl (Bc h3) rfl AB ?_
 refine ap ?_
 refine wk [38,5,1,0] rfl ?_
 refine ac ?_
 refine ap ?_
 refine tp rfl (Dp rfl underlying99 HH vq vq AA AA) (TO.pad ?_)
 refine TO.Df 0 rfl rfl AB (EM rfl rfl AB rfl underlying99 HH Xe z51 rfl AB ⟨_,rfl,AP _⟩ vq JJ JK (Bs BK ⟨_,rfl,Ck 1⟩)) (fun v4=> ?_)
 refine ap ?_
 refine ap ?_
 refine TO.Df 0 rfl rfl AB (B9 rfl rfl rfl rfl underlying99 HH Xe z51 Ea Db (Ay BK FC)) (fun v5=> ?_)
 refine ap ?_
 refine wk [8,5,0] rfl ?_
 refine ap ?_
 refine tp rfl (De rfl underlying99 HH vq vq AA AA) ?_
 refine TO.Df 0 rfl rfl AB (B9 rfl rfl rfl rfl underlying99 HH Xe z51 Ea vq (Ay BK FC)) (fun v6=> ?_)
 refine ap ?_
 refine ac ?_
 · exact mV
theorem bt {o:List Int} (ho:o.length≤1000):A0 prog 126 [ints o] (Cp.ex fun z:List BM=>fact (z.length≤o.length) (reqs z)):=by
 refine fo func126 rfl ⟨rfl,rfl⟩ fun M0 w0=>(Tr.CG 0 rfl fun DN=> ?_)
 refine a3 ?_
 refine Tr.block (Tr.DI _ (kk [0] rfl) (fun (z:List BM) (i:Nat)=>[(3,reqs z),(4,int ((i:Nat):Int))]) (fun (z:List BM) (i:Nat)=>Hp M0 w0 FO ([])) (fun (z:List BM) (i:Nat)=>(1≤i∧(i≤o.length∨i=1))∧z.length+1≤i) (fun (z:List BM) (i:Nat)=>o.length-i) ([]) (1)  (⟨⟨by omega,.inr rfl⟩,by simp⟩) ⟨⟨_,rfl,AP 2⟩,kz⟩ (fun _ _ h=>h) ?_)
 rintro z i  ⟨⟨hi1,hi2⟩,hzl⟩
 refine an ?_ ?_<;>intro h1 q1
 have Gm:i<o.length:=AH h1
 obtain ⟨x,hx⟩:=at_ Gm
 obtain ⟨y,hy⟩:=at_ (l:=o) (k:=i-1) AA
 refine a2 ?_
 refine co rfl (AD rfl underlying22 Bi vq vq AA dh) ?_
 refine ac ?_
 refine co rfl (AD rfl underlying22 Bi vq vq AA (AR hx)) ?_
 refine ac ?_
 refine co rfl (Bq (SX (l:=z) (r:=⟨y,x⟩) AA) rfl rfl rfl) ?_
 refine ac ?_
 refine wk [4,3,0] rfl ?_
 refine ac ?_
 exact Fin.Cu ((GU z ⟨y,x⟩)) (i+1)  (⟨⟨⟨by omega,.inl AA⟩,by have:=SW z ⟨y,x⟩;omega⟩,by omega⟩) ⟨kq,⟨_,rfl,AG i⟩,kz⟩ (fun _ _ h=>h)
 have hie:=AJ h1
 refine a3 ?_
 · exact Az _ (BC AA Lr)
theorem Uv (n:Nat) (l:List BM):∀k,(Dt n l k).2.length≤k
 |0=>Nat.le_refl _
 |k+1=>by
  have h:=Uv n l k
  rw [Dt]
  split
  · omega
  ·
   rename_i x _
   have h2:=Oh (Dt n l k).2 x true
   show (EG (Dt n l k).2 x true).length≤k+1
   omega
theorem bu {n:Int} {l:List BM} (hl:l.length≤1000000):A0 prog 103 [int n,reqs l] (C_ [ints (if BD n l=0 then (Dt n.toNat l n.toNat).1 else []),int (BD n l)]):=by
 refine fo func103 rfl ⟨rfl,rfl⟩ fun M0 w0=> ?_
 refine a2 ?_
 refine co rfl (Bq (Hu hl) rfl rfl rfl) ?_
 refine ac ?_
 refine an ?_ ?_<;>intro h1 q1
 have hv:BD n l≠0:=by simpa using h1
 refine ac ?_
 refine Tr.ret (Fin.AE (Fin.C6 rfl (Bv.EU _ _) rfl ?_ rfl ?_))
 · rw [if_neg hv];exact AP 1
 · exact Lr
 have hv:BD n l=0:=by simpa using h1
 obtain ⟨N,rfl⟩:∃N:Nat,n=(N:Int):=⟨n.toNat,by have:=(Cm hv).1;omega⟩
 have OB:=(Cm hv).1
 refine a2 ?_
 refine Tr.seq (Tr.block (Tr.B5 3 1 (Tr.Xb _ (kk [1,0] rfl) (fun (k:Nat) u=>[(7,ints (Dt N l k).2),(8,AV u (ints (Dt N l k).1))]) (fun (k:Nat) u=>Hp M0 w0 FO ([As 3 1 u])) (fun (k:Nat)=>k≤N) (fun (k:Nat)=>N-k) (0) (.slice none 0 0) (Nat.zero_le _) ⟨⟨_,rfl,AP 1⟩,⟨_,rfl,Bg rfl⟩,trivial⟩ (fun _ _ h=>h) ?_)))
 rintro k u hkN
 have hrow:=Jn hv k (by simpa using hkN)
 rw [Int.toNat_natCast] at hrow
 obtain ⟨kf,hrl⟩:=hrow
 have KJ:(Dt N l k).2.length≤100000:=Nat.le_trans (Uv N l k) AA
 refine ac ?_
 refine co rfl (FP rfl underlying51 Ea) ?_
 refine an ?_ ?_<;>intro h2 q2
 have hk:k<N:=by have:=EW.E9 h2;omega
 obtain ⟨x,hx0,hst⟩:=YO hv (k:=k) QG
 rw [Int.toNat_natCast] at hx0 hst
 have AFj:=AR (f:=fun n:Int=>[int n]) hx0
 refine a2 ?_
 refine co rfl (ZO (K0 (n:=N) (l:=l) AA AA) rfl rfl rfl rfl rfl) ?_
 refine ac ?_
 refine Tr.pad (Tr.rx ?_)
 refine ay ?_
 refine xo rfl (fun _=>AD rfl underlying51 Bi vq vq AA AFj) (xo rfl (fun _=>Iv rfl DL rfl) (xo rfl (fun _=>Af (xs:=[.tmp 27]) (rows:=[[_]]) rfl rfl underlying51 Bi z3 rfl AB ⟨⟨An,F7⟩,trivial⟩ AB) ?_))
 refine Cx.ef 1 rfl rfl AB (B9 rfl rfl rfl rfl underlying51 Bi G_ z3 Ea Db (Ay BK FC)) ?_
 refine ay ?_
 refine xo rfl (fun _=>AD rfl underlying51 Bi vq vq AA AFj) (xo rfl (fun _=>Iv rfl DL rfl) (xo rfl (fun _=>Jd (HO AA) rfl rfl rfl rfl) (Cx.ef 1 rfl rfl AB (Vh rfl rfl AB rfl vq) (xm rfl ?_))))
 refine Cx.nil ⟨by kernel_rfl,?_⟩
 refine Aw.open_ 1 8 rfl rfl (fun v1=> ?_)
 refine Aw.done UL (Fin.block (Fin.drop 0 ?_))
 exact Fin.eZ (k+1) v1 (⟨by omega,by omega⟩) ⟨⟨_,rfl,Pr.le_of_eq (by rw [hst])⟩,⟨_,rfl,BB (by rw [hst];simp)⟩,kz⟩ (fun _ _ h=>h)
 have cz:k=N:=by have:=EW.E9 h2;omega
 refine a2 ?_
 refine Tr.ret (Fin.C6 rfl (Bv.EU _ _) rfl ?_ rfl ?_)
 · rw [if_pos hv,Int.toNat_natCast,←cz];exact Ao _ _
 · refine int_eq ?_;exact hv.symm
structure MB (n k:Nat) (L:List (List Int)):Prop where
 Ql:∀s∈L,∀x∈s,0≤x∧x<(n:Int)
 len:∀s∈L,s.length=k
theorem Yr {l:List BM} {x:Int} (h:x∈D3 n l s true):(0≤x∧x<(n:Int))∧x∉s:=by
 unfold D3 at h
 obtain ⟨i,hi,rfl⟩:=List.mem_map.1 h
 obtain ⟨h1,h2⟩:=List.mem_filter.1 hi
 have h3:=List.mem_range.1 h1
 refine ⟨by omega,fun hc=> ?_⟩
 unfold Jm at h2
 rw [Bool.and_eq_true] at h2
 have:=Dr.2 hc
 rw [this] at h2
 exact absurd h2.1 AB
theorem MB.put {l:List BM} {L z:List (List Int)} {x:Int} (h:MB n (k+1) L) (hs:s.length=k∧∀y∈s,0≤y∧y<(n:Int)) (hx:x∈D3 n l s true) (hp:xq L (EG s x true) z):MB n (k+1) z:=by
 have hb:=Yr hx
 refine ⟨fun t ht=> ?_,fun t ht=> ?_⟩
 ·
  rcases hp.mem t ht with h1|rfl
  · exact h.Ql t h1
  ·
   intro y hy
   rcases Dj.1 hy with rfl|hy
   · exact hb.1
   · exact hs.2 y hy
 ·
  rcases hp.mem t ht with h1|rfl
  · exact h.len t h1
  · rw [HJ hb.2,hs.1]
theorem kj:MB n k []:=⟨fun _ h=>Fv,fun _ h=>Fv⟩
theorem ko:MB n 0 [[]]:=⟨fun s h x hx=>(by simp at h;subst h;cases hx),fun s h=>(by simp at h;subst h;rfl)⟩
structure MC (n:Int) (L:List (List Int)):Prop where
 Ql:∀s∈L,∀x∈s,0≤x∧x<n
 len:L.length≤4096
 wid:∀s∈L,s.length≤4096
theorem kr {d:Nat} {lv ou nx:List (List Int)} (h1:MB n (d+1) nx) (h2:MC (n:Int) ou) (h3:lv=[]∨d+1≤ou.length) (hl:ou.length+nx.length≤4096) (hy:lv≠[]):((MB n (d+1) nx∧MC (n:Int) (ou++nx))∧(nx=[]∨d+1+1≤(ou++nx).length)∧nx.length≤4096)∧(if nx=[] then 0 else 4097-(ou++nx).length)<(if lv=[] then 0 else 4097-ou.length):=by
 have h4:(ou++nx).length=ou.length+nx.length:=List.length_append
 have h5:=h2.len
 rw [if_neg hy]
 refine ⟨⟨⟨h1,⟨fun s hs=> ?_,by omega,fun s hs=> ?_⟩⟩,?_,by omega⟩,?_⟩
 ·
  rcases List.mem_append.1 hs with hs|hs
  · exact h2.Ql s hs
  · exact h1.Ql s hs
 ·
  rcases List.mem_append.1 hs with hs|hs
  · exact h2.wid s hs
  · rw [h1.len s hs];rcases h3 with h3|h3;exact absurd h3 hy;omega
 ·
  cases nx with
  |nil=>exact .inl rfl
  |cons a m=>right;rcases h3 with h3|h3;exact absurd h3 hy;rw [h4,List.length_cons];omega
 ·
  cases nx with
  |nil=>rw [if_pos rfl];omega
  |cons a m=>rw [if_neg (fun h=>by cases h),h4,List.length_cons];rcases h3 with h3|h3;exact absurd h3 hy;omega
theorem ku {n:Int} {l:List BM} (hl:l.length≤1000000):A0 prog 280 [int n,reqs l] (Cp.ex fun z:List (List Int)×Int=>fact (MC n z.1) (C_ [sets z.1,int z.2])):=by
 refine fo func280 rfl ⟨rfl,rfl⟩ fun M0 w0=> ?_
 refine a2 ?_
 refine co rfl (Bq (Hu hl) rfl rfl rfl) ?_
 refine ac ?_
 refine an ?_ ?_<;>intro h1 q1
 refine ac ?_
 refine Tr.ret (Fin.AE (Fin.BL rfl (AL.tmp rfl Lr) (AL.tmp rfl Lr) ?_))
 · exact Zj
 have hv:BD n l=0:=by simpa using h1
 obtain ⟨N,rfl⟩:∃N:Nat,n=(N:Int):=⟨n.toNat,by have:=(Cm hv).1;omega⟩
 have OB:=(Cm hv).1
 refine ac ?_
 refine Tr.seq (Tr.Bt (co rfl (Af (xs:=[.const (.slice none 0 0)]) (rows:=[[ints []]]) rfl rfl underlying99 HH z51 rfl AB ⟨⟨An,VL.le vq (Pr.le_trans (AP 1) (Ag _))⟩,trivial⟩ AB) ?_))
 refine ac ?_
 refine Tr.seq (Tr.Bt (co rfl (Af (xs:=[.const (.slice none 0 0)]) (rows:=[[ints []]]) rfl rfl underlying99 HH z51 rfl AB ⟨⟨An,VL.le vq (Pr.le_trans (AP 1) (Ag _))⟩,trivial⟩ AB) ?_))
 refine ac ?_
 refine Tr.seq (Tr.block (Tr.AFi (e:=51) (rows:=[[ints []]]) 8 rfl Lr (fun v8=> ?_)))
 refine Tr.F4 _ (kk [1,0] rfl) (fun (lv:List (List Int)) (ou:List (List Int)) (d:Nat) u=>[(7,sets lv),(8,AV u (sets ou))]) (fun (lv:List (List Int)) (ou:List (List Int)) (d:Nat) u=>Hp M0 w0 FO ([As 51 1 u])) (fun (lv:List (List Int)) (ou:List (List Int)) (d:Nat)=>(MB N d lv∧MC N ou)∧(lv=[]∨d+1≤ou.length)∧lv.length≤4096) (fun (lv:List (List Int)) (ou:List (List Int)) (d:Nat)=>(if lv=[] then 0 else 4097-ou.length)) ([[]]) ([[]]) (0) v8 (⟨⟨ko,⟨fun s h x hx=>(by simp at h;subst h;cases hx),by decide,fun s h=>(by simp at h;subst h;decide)⟩⟩,.inr AB,by decide⟩) ⟨⟨_,rfl,B4 1 _⟩,⟨_,rfl,BB rfl⟩,trivial⟩ (fun _ _ h=>h) ?_
 rintro lv ou d u ⟨⟨hlv,hou⟩,hd,hl4⟩
 refine an ?_ ?_<;>intro h2 q2
 have hy:lv≠[]:=by have h_:=EW.E9 h2;intro h0;subst h0;simp at h_
 have hd4:d+1≤4096:=by have:=hou.len;rcases hd with hd|hd;exact absurd hd hy;omega
 refine a3 ?_
 refine Tr.block ?_
 refine Tr.DI _ (kk [26,25,8,1,0] rfl) (fun (nx:List (List Int)) (m:Nat)=>[(9,sets nx),(27,int ((m:Nat):Int))]) (fun (nx:List (List Int)) (m:Nat)=>Hp M0 w0 FO ([As 51 1 u])) (fun (nx:List (List Int)) (m:Nat)=>(m≤lv.length∧MB N (d+1) nx)∧ou.length+nx.length≤4096) (fun (nx:List (List Int)) (m:Nat)=>lv.length-m) ([]) (0)  (⟨⟨Nat.zero_le _,kj⟩,by have:=hou.len;simpa using this⟩) ⟨⟨_,rfl,AP 1⟩,kz⟩ (fun _ _ h=>h) ?_
 rintro nx m  ⟨⟨hm0,hnx⟩,Z9⟩
 refine ac ?_
 refine Tr.seq ?_
 refine Tr.cn rfl ?_ ?_<;>intro h3 q3
 have hml:m<lv.length:=AH h3
 obtain ⟨s,hs⟩:=at_ hml
 have YQ:=hlv.len s (List.mem_of_getElem? hs)
 refine ac ?_
 refine Tr.seq (Tr.block (Tr.seq (Tr.Bt (co rfl (AD rfl underlying99 HH vq vq AA (AR hs)) ?_))))
 refine a2 ?_
 refine co rfl (ZO (K0 (n:=N) (l:=l) AA AA) rfl rfl rfl rfl rfl) ?_
 refine ac ?_
 refine wk [36,35,34,27,26,25,11,9,8,1,0] rfl (Tr.block (Tr.DI _ (kk [35,34,27,26,25,11,8,1,0] rfl) (fun (ny:List (List Int)) (q:Nat)=>[(9,sets ny),(36,int ((q:Nat):Int))]) (fun (ny:List (List Int)) (q:Nat)=>Hp M0 w0 FO ([As 51 1 u])) (fun (ny:List (List Int)) (q:Nat)=>(q≤(D3 N l s true).length∧MB N (d+1) ny)∧ou.length+ny.length≤4096) (fun (ny:List (List Int)) (q:Nat)=>(D3 N l s true).length-q) (nx) (0)  (⟨⟨Nat.zero_le _,hnx⟩,Z9⟩) ⟨kq,kz⟩ (fun _ _ h=>h) ?_))
 rintro ny q  ⟨⟨hq0,hny⟩,AI2⟩
 refine ac ?_
 refine Tr.seq ?_
 refine Tr.cn rfl ?_ ?_<;>intro h4 q4
 have hql:q<(D3 N l s true).length:=AH h4
 have Xj:=YP (n:=N) (l:=l) (s:=s) (add:=true)
 obtain ⟨x,YC⟩:=at_ hql
 refine ac ?_
 refine Tr.seq (Tr.block (Tr.seq (Tr.Bt (co rfl (AD rfl underlying51 Bi vq vq AA (AR YC)) ?_))))
 refine ac ?_
 refine wk [36,35,34,27,26,25,13,11,9,8,1,0] rfl ?_
 refine ap ?_
 refine tp rfl (Jd (HO AA) rfl rfl rfl rfl) ?_
 refine tp rfl (Bq (sy AA (fun t ht=>by rw [hny.len t ht,HJ (Yr (List.mem_of_getElem? YC)).2];omega)) rfl rfl rfl) ?_
 refine TO.ex 44 rfl (fun z1=>TO.fact 44 rfl fun Ex=> ?_)
 have hzl:=Ex.le
 refine ap ?_
 refine wk [36,35,34,27,26,25,11,9,8,1,0] rfl ?_
 refine ac ?_
 refine co rfl (FP rfl underlying99 Ea) ?_
 refine ac ?_
 refine wk [50,36,35,34,27,26,25,11,9,8,1,0] rfl ?_
 refine Tr.cn rfl ?_ ?_<;>intro h5 q5
 refine ac ?_
 refine wk [5,4] rfl (Tr.ret (Fin.AU (Fin.AE (Fin.AE (Fin.AU (Fin.AU (Fin.AE (Fin.AE (Fin.AU (Fin.AE (Fin.AU (Fin.AE (Fin.AU (Fin.AE ?_))))))))))))))
 refine Fin.BL rfl (AL.tmp rfl Lr) (AL.tmp rfl Lr) ?_
 · exact Zj
 refine a2 ?_
 exact Fin.Cu (z1) (q+1)  (⟨⟨⟨by omega,hny.put ⟨YQ,hlv.Ql s (List.mem_of_getElem? hs)⟩ (List.mem_of_getElem? YC) Ex⟩,by omega⟩,by omega⟩) ⟨kq,⟨_,rfl,AG q⟩,kz⟩ (fun _ _ h=>h)
 have hqe:=AJ h4
 refine a2 ?_
 exact Fin.Cu (ny) (m+1)  (⟨⟨⟨by omega,hny⟩,AI2⟩,by omega⟩) ⟨kq,⟨_,rfl,AG m⟩,kz⟩ (fun _ _ h=>h)
 have hme:=AJ h3
 refine ac ?_
 refine ap ?_
 refine TO.Df 0 rfl rfl AB (B9 rfl rfl rfl rfl underlying99 HH Xe z51 Ea vq (Ay BK FC)) (fun v1=> ?_)
 refine ap ?_
 exact Fin.EZ (nx) (ou++nx) (d+1) v1 (kr hnx hou hd Z9 hy) ⟨kq,⟨_,rfl,BB AO⟩,kz⟩ (fun _ _ h=>h)
 have hy:=h2
 refine a2 ?_
 refine Tr.ret (Fin.BL rfl (AL.tmp rfl Lr) (AL.tmp rfl Lr) ?_)
 · exact Az (_,_) (BC hou (Al ⟨Ao _ _,Lr,trivial⟩))
def Ws (e:D5) (c:Bm):D5×Int:=if (Md e.Bu c).2=0 then (⟨(Md e.Bu c).1,e.BX,e.items⟩,0) else (GS,(Md e.Bu c).2)
def Wt (x:JI) (l:List Bm) (i:Nat):Bool:=(l[i]?).any fun c=>decide (c.Aa=x.client∨c.Aa=x.server)
def Pv (x:JI) (l:List Bm) (k:Nat):List Int:=((List.range k).filter (Wt x l)).map fun i:Nat=>(i:Int)
theorem Ys {x:JI} (h:Wt x l k=true):Pv x l (k+1)=Pv x l k++[(k:Int)]:=by unfold Pv;rw [List.range_succ,List.filter_append,List.map_append];simp [h]
theorem xx {x:JI} (h:Wt x l k=false):Pv x l (k+1)=Pv x l k:=by unfold Pv;rw [List.range_succ,List.filter_append,List.map_append];simp [h]
theorem s8 (x:JI) (l:List Bm) (k:Nat):(Pv x l k).length≤k:=by unfold Pv;rw [List.length_map];exact Nat.le_trans (List.length_filter_le _ _) (by rw [List.length_range];exact Nat.le_refl _)
def KS (e:D5) (l:List Bm) (k:Int):List Int×Int:=
 if Fl e=false then ([],31) else if 24<l.length then ([],3) else if k<0∨((e.BX.length:Nat):Int)≤k then ([],4)
 else (Pv (e.BX[k.toNat]?.getD Hg) l l.length,0)
theorem AI3 {e e2:Bw} {c b:Bm} (h:c.kind=1) (hs:CJ e c= .ok (e2,b)):(0≤c.at_∧c.at_≤(e.A_.length:Nat))∧e2={ e with A_:=e.A_.take c.at_.toNat++[c.number]++e.A_.drop c.at_.toNat }∧b=⟨c.Aa,2,c.number,0,B6⟩:=by grind [QV]
theorem AI4 {e e2:Bw} {c b:Bm} (h:c.kind=2) (hs:CJ e c= .ok (e2,b)):(0≤Nd e c)∧e2={ e with A_:=e.A_.eraseIdx (Nd e c).toNat }∧b=⟨c.Aa,1,c.number,Nd e c,B6⟩:=by grind [QW]
theorem AI5 {e e2:Bw} {c b:Bm} (h:c.kind=3) (hs:CJ e c= .ok (e2,b)):e2={ e with most:=c.number }∧b=⟨c.Aa,c.kind,e.most,0,B6⟩:=by grind [QX]
theorem AI6 {e e2:Bw} {c b:Bm} (h:c.kind=4) (hs:CJ e c= .ok (e2,b)):e2={ e with least:=c.number }∧b=⟨c.Aa,c.kind,e.least,0,B6⟩:=by grind [QY]
theorem AI7 {e e2:Bw} {c b:Bm} (h:c.kind=5) (hs:CJ e c= .ok (e2,b)):(0≤c.at_∧c.at_≤(e.ids.length:Nat))∧e2={ e with ids:=e.ids.take c.at_.toNat++[c.Cb]++e.ids.drop c.at_.toNat }∧b=⟨c.Aa,6,c.Cb.Cd,0,B6⟩:=by grind [QZ]
theorem AI8 {e e2:Bw} {c b:Bm} (h:c.kind=6) (hs:CJ e c= .ok (e2,b)):∃x,e.ids[(Br c.number e.ids).toNat]? =some x∧0≤Br c.number e.ids∧e2={ e with ids:=e.ids.eraseIdx (Br c.number e.ids).toNat }∧b=⟨c.Aa,5,0,Br c.number e.ids,x⟩:=by grind [Qa]
theorem AI9 {e e2:Bw} {c b:Bm} (h:c.kind=7) (hs:CJ e c= .ok (e2,b)):Gu e.anchors c.number=false∧e2={ e with anchors:=aH e.anchors c.number }∧b=⟨c.Aa,8,c.number,0,B6⟩:=by grind [Qb]
theorem AI_ {e e2:Bw} {c b:Bm} (h:c.kind=8) (hs:CJ e c= .ok (e2,b)):Gu e.anchors c.number=true∧e2={ e with anchors:=e.anchors.eraseIdx (FJ e.anchors c.number) }∧b=⟨c.Aa,7,c.number,0,B6⟩:=by grind [Qc]
theorem AJA {e e2:Bw} {c b:Bm} (h:c.kind=9) (hs:CJ e c= .ok (e2,b)):Gu e.hashes c.number=false∧e2={ e with hashes:=aH e.hashes c.number }∧b=⟨c.Aa,10,c.number,0,B6⟩:=by grind [Qd]
theorem AFk {e e2:Bw} {c b:Bm} (h:c.kind=10) (hs:CJ e c= .ok (e2,b)):Gu e.hashes c.number=true∧e2={ e with hashes:=e.hashes.eraseIdx (FJ e.hashes c.number) }∧b=⟨c.Aa,9,c.number,0,B6⟩:=by grind [Nf]
theorem AFl {e e2:Bw} {c b:Bm} (h:c.kind=11) (hs:CJ e c= .ok (e2,b)):e2={ e with Dz:=(c.number==1) }∧b=⟨c.Aa,c.kind,Nc e.Dz,0,B6⟩:=by grind [Ng]
theorem AFm {e e2:Bw} {c b:Bm} (h:c.kind=12) (hs:CJ e c= .ok (e2,b)):e2={ e with own:=(c.number==1) }∧b=⟨c.Aa,c.kind,Nc e.own,0,B6⟩:=by grind [Nh]
theorem xy {e:Bw} {c:Bm} (h:0≤Nd e c):(Nd e c).toNat<e.A_.length:=by obtain ⟨_,_,_,h3⟩:=QT (p:=fun y=>c.number==y) (l:=e.A_) h;exact h3
theorem k5 {e e2:Bw} {c b:Bm} (DF:e.small) (hcs:c.Cb.small) (hce:G4 e=true) (hc:KC c) (hs:CJ e c= .ok (e2,b)):A0 prog 316 [agg (BQ e),agg (DO c)] (agg (BQ e2)):=by
 refine fo func316 rfl ⟨rfl,rfl⟩ fun M0 w0=> ?_
 have hk:=hc.1
 have ok:=Dl.1 hce
 have hs1:=DF.A_
 have V9:=DF.anchors
 have hs3:=DF.hashes
 have hs4:=DF.Ze
 refine Tr.seq (Tr.BE (tp rfl (BU rfl Be) (tp rfl (BU rfl Be) ?_)))
 refine Tl rfl rfl rfl rfl z40 Hx (fun b1=> ?_)
 refine ap ?_
 refine ap ?_
 refine tp rfl (CM (Uo DF) rfl rfl) ?_
 refine Tl rfl rfl rfl rfl z40 Hx (fun b2=> ?_)
 refine ap ?_
 refine ac ?_
 refine an ?_ ?_<;>intro h1 q1
 obtain ⟨hr,rfl,rfl⟩:=AI3 q1 hs
 refine ap ?_
 refine tp rfl (Ah rfl (Ow (l:=e.A_) (i:=c.at_.toNat) AA hs1) ⟨kq,⟨_,rfl,int_eq AA⟩,kz⟩) ?_
 refine ap ?_
 refine wk [5,4] rfl ?_
 refine ap ?_
 refine Tr.drop 0 (Tr.ret (Fin.Cf rfl (AL.cell 0 rfl rfl DC CS rfl Lr) ?_))
 · exact Lr
 refine ac ?_
 refine wk [24,13,5,4,3,2] rfl ?_
 refine Tr.cn rfl ?_ ?_<;>intro h2 q2
 obtain ⟨hr,rfl,rfl⟩:=AI4 q2 hs
 refine Tr.rx ?_
 refine ay ?_
 refine xo rfl (fun _=>Bq (Jr) rfl rfl rfl) ?_
 refine xo rfl (fun _=>Ah rfl (Js (l:=e.A_) (i:=(Nd e c).toNat) (xy hr) hs1) ⟨kq,⟨_,rfl,int_eq (show Nd e c=_ by omega)⟩,trivial⟩) ?_
 refine ay ?_
 refine Cx.nil ⟨by kernel_rfl,?_⟩
 refine Aw.done UL ?_
 refine ac ?_
 refine wk [5,4] rfl ?_
 refine ap ?_
 refine Tr.drop 0 (Tr.ret (Fin.Cf rfl (AL.cell 0 rfl rfl DC CS rfl Lr) ?_))
 · exact Lr
 refine an ?_ ?_<;>intro h3 q3
 obtain ⟨rfl,rfl⟩:=AI5 q3 hs
 refine ap ?_
 refine ap ?_
 refine Tr.drop 0 (Tr.ret (Fin.Cf rfl (AL.cell 0 rfl rfl DC CS rfl Lr) ?_))
 · exact Lr
 refine an ?_ ?_<;>intro h4 q4
 obtain ⟨rfl,rfl⟩:=AI6 q4 hs
 refine ap ?_
 refine ap ?_
 refine Tr.drop 0 (wk [4] rfl (Tr.ret (Fin.Cf rfl (AL.cell 0 rfl rfl DC CS rfl Lr) ?_)))
 · exact Lr
 refine an ?_ ?_<;>intro h5 q5
 obtain ⟨hr,rfl,rfl⟩:=AI7 q5 hs
 refine ap ?_
 refine tp rfl (Dp rfl underlying38 Ep vq vq AA CL) ?_
 refine TO.pad ?_
 refine TO.Df 0 rfl rfl AB (EM rfl rfl AB rfl underlying38 Ep jC Vv rfl AB ⟨_,rfl,AP _⟩ vq JJ JK (Bs BK ⟨_,rfl,Ck 1⟩)) (fun v1=> ?_)
 refine ap ?_
 refine wk [6,5,4,3] rfl ?_
 refine ap ?_
 refine tp rfl (CM (Mn hcs) rfl rfl) (tp rfl (Af (xs:=[.tmp 56]) (rows:=[_]) rfl rfl underlying38 Ep Vv rfl AB ⟨⟨An,(Va rfl)⟩,trivial⟩ AB) ?_)
 refine TO.Df 0 rfl rfl AB (B9 rfl rfl rfl rfl underlying38 Ep jC Vv Ea Db (Ay BK FC)) (fun v2=> ?_)
 refine ap ?_
 refine ap ?_
 refine tp rfl (De rfl underlying38 Ep vq vq AA CL) ?_
 refine TO.Df 0 rfl rfl AB (B9 rfl rfl rfl rfl underlying38 Ep jC Vv Ea vq (Ay BK FC)) (fun v3=> ?_)
 refine ap ?_
 refine wk [5,4] rfl ?_
 refine ap ?_
 refine Tr.drop 1 (Tr.ret (Fin.Cf rfl (AL.cell 1 rfl rfl DC CS rfl Lr) ?_))
 · exact BR ⟨Lr,Lr,Lr,Lr,Lr,Pr.le_trans (Ao _ _) (Pr.le_of_eq (by show _=slice 4 ((e.ids.take c.at_.toNat++[c.Cb]++e.ids.drop c.at_.toNat).map E_);simp [List.map_take,List.map_drop])),Lr,Lr,Lr,trivial⟩
 refine ac ?_
 refine wk [67,13,5,4,3,2] rfl ?_
 refine Tr.cn rfl ?_ ?_<;>intro h6 q6
 obtain ⟨x_,hx_,hr,rfl,rfl⟩:=AI8 q6 hs
 have hlt:=BH hx_
 refine ac ?_
 refine co rfl (Bq (Ov hs4) rfl rfl rfl) ?_
 refine ac ?_
 refine wk [8,5,4] rfl ?_
 refine ap ?_
 refine tp rfl (Dp rfl underlying38 Ep vq vq AA CL) ?_
 refine TO.pad ?_
 refine TO.Df 0 rfl rfl AB (EM rfl rfl AB rfl underlying38 Ep jC Vv rfl AB ⟨_,rfl,AP _⟩ vq JJ JK (Bs BK ⟨_,rfl,Ck 1⟩)) (fun v4=> ?_)
 refine ap ?_
 refine ap ?_
 refine tp rfl (De rfl underlying38 Ep vq vq AA CL) ?_
 refine TO.Df 0 rfl rfl AB (B9 rfl rfl rfl rfl underlying38 Ep jC Vv Ea vq (Ay BK FC)) (fun v5=> ?_)
 refine ap ?_
 refine wk [5,4] rfl ?_
 refine ap ?_
 refine Tr.drop 1 (Tr.ret (Fin.Cf rfl (AL.cell 1 rfl rfl DC CS rfl Lr) ?_))
 · exact BR ⟨Lr,Lr,Lr,Lr,Lr,Pr.le_trans (Ao _ _) (Pr.le_of_eq (by show _=slice 4 ((e.ids.eraseIdx (Br c.number e.ids).toNat).map E_);rw [List.eraseIdx_eq_take_drop_succ,show (Br c.number e.ids+1).toNat=(Br c.number e.ids).toNat+1 by omega];simp [List.map_take,List.map_drop])),Lr,Lr,Lr,trivial⟩
 refine an ?_ ?_<;>intro h7 q7
 obtain ⟨hr,rfl,rfl⟩:=AI9 q7 hs
 refine ap ?_
 refine tp rfl (Bq (Pa V9) rfl rfl rfl) ?_
 refine ap ?_
 refine wk [5,4] rfl ?_
 refine ap ?_
 refine Tr.drop 0 (Tr.ret (Fin.Cf rfl (AL.cell 0 rfl rfl DC CS rfl Lr) ?_))
 · exact Lr
 refine an ?_ ?_<;>intro h8 q8
 obtain ⟨hr,rfl,rfl⟩:=AI_ q8 hs
 refine Tr.rx ?_
 refine ay ?_
 refine xo rfl (fun _=>Bq (Jr) rfl rfl rfl) ?_
 refine xo rfl (fun _=>Ah rfl (Js (l:=e.anchors) (i:=FJ e.anchors c.number) (WG hr) V9) ⟨kq,⟨_,rfl,int_eq (by rw [Wn (QU ok.anc),if_pos hr])⟩,trivial⟩) ?_
 refine ay ?_
 refine Cx.nil ⟨by kernel_rfl,?_⟩
 refine Aw.done UL ?_
 refine ac ?_
 refine wk [5,4] rfl ?_
 refine ap ?_
 refine Tr.drop 0 (Tr.ret (Fin.Cf rfl (AL.cell 0 rfl rfl DC CS rfl Lr) ?_))
 · exact Lr
 refine an ?_ ?_<;>intro h9 q9
 obtain ⟨hr,rfl,rfl⟩:=AJA q9 hs
 refine ap ?_
 refine tp rfl (Bq (Pa hs3) rfl rfl rfl) ?_
 refine ap ?_
 refine wk [5,4] rfl ?_
 refine ap ?_
 refine Tr.drop 0 (Tr.ret (Fin.Cf rfl (AL.cell 0 rfl rfl DC CS rfl Lr) ?_))
 · exact Lr
 refine ac ?_
 refine wk [116,13,5,4,3,2] rfl ?_
 refine Tr.cn rfl ?_ ?_<;>intro h10 R9
 obtain ⟨hr,rfl,rfl⟩:=AFk R9 hs
 refine Tr.rx ?_
 refine ay ?_
 refine xo rfl (fun _=>Bq (Jr) rfl rfl rfl) ?_
 refine xo rfl (fun _=>Ah rfl (Js (l:=e.hashes) (i:=FJ e.hashes c.number) (WG hr) hs3) ⟨kq,⟨_,rfl,int_eq (by rw [Wn (QU ok.hash),if_pos hr])⟩,trivial⟩) ?_
 refine ay ?_
 refine Cx.nil ⟨by kernel_rfl,?_⟩
 refine Aw.done UL ?_
 refine ac ?_
 refine wk [5,4] rfl ?_
 refine ap ?_
 refine Tr.drop 0 (Tr.ret (Fin.Cf rfl (AL.cell 0 rfl rfl DC CS rfl Lr) ?_))
 · exact Lr
 refine an ?_ ?_<;>intro h11 Ti
 obtain ⟨rfl,rfl⟩:=AFl Ti hs
 refine ap ?_
 refine ap ?_
 refine Tr.drop 0 (Tr.ret (Fin.Cf rfl (AL.cell 0 rfl rfl DC CS rfl Lr) ?_))
 · exact Lr
 refine an ?_ ?_<;>intro h12 X0
 obtain ⟨rfl,rfl⟩:=AFm X0 hs
 refine ap ?_
 refine wk [5,4] rfl ?_
 refine ap ?_
 refine Tr.drop 0 (Tr.ret (Fin.Cf rfl (AL.cell 0 rfl rfl DC CS rfl Lr) ?_))
 · exact Lr
 exfalso;omega
theorem bw {e:Bw} {c:Bm} (hz:e.sz n) (hn:n≤900000) (hi:c.Cb.fits∧c.Cb.small):A0 prog 303 [agg (BQ e),agg (DO c)] (C_ [agg (BQ (Eg e c).1),int (Eg e c).2.2]):=by
 refine fo func303 rfl ⟨rfl,rfl⟩ fun M0 w0=> ?_
 have DF:=hz.small AA
 have hcs:=hi.2
 refine Tr.seq (Tr.BE (tp rfl (BU rfl Be) (tp rfl (BU rfl Be) ?_)))
 refine Tl rfl rfl rfl rfl z40 Hx (fun b1=> ?_)
 refine ao ?_
 refine ac ?_
 refine co rfl (Bq (Wo DF hcs) rfl rfl rfl) ?_
 refine ac ?_
 refine an ?_ ?_<;>intro h1 q1
 have hb:=xe q1
 refine ao ?_
 refine TO.AK 0 rfl rfl rfl vq Be rfl CS rfl rfl ?_
 refine ao ?_
 refine wk [5,4] rfl (Tr.ret (Fin.AE (Fin.BL rfl (AL.cell 0 rfl rfl DC CS rfl Lr) (AL.tmp rfl Lr) ?_)))
 refine Al ⟨?_,?_,trivial⟩
 · exact dP
 · exact int_eq (by rw [hb])
 obtain ⟨hce,hc,e2,b,hs⟩:=ABU (e:=e) (c:=c) (by have:=q1;omega)
 have AJB:=(fu hc hs hz hi).1.small AA
 refine ac ?_
 refine ao ?_
 refine tp rfl (Bq (k5 DF hcs hce hc hs) rfl rfl rfl) ?_
 refine Tl rfl rfl rfl rfl z40 Hx (fun b2=> ?_)
 refine sf 0 7 ⟨rfl,rfl,rfl⟩ rfl rfl rfl rfl ?_
 refine ao ?_
 refine wk [7,4] rfl ?_
 refine ac ?_
 refine co rfl (CM (Fi AJB) rfl rfl) ?_
 refine an ?_ ?_<;>intro h2 q2
 have hb:=vv hce hc hs (by have:=q2;cases h_:G4 e2<;>simp_all)
 refine ao ?_
 refine TO.AK 0 rfl rfl rfl vq Be rfl CS rfl rfl ?_
 refine ao ?_
 refine Tr.ret (Fin.AE (Fin.BL rfl (AL.cell 0 rfl rfl DC CS rfl Lr) (AL.tmp rfl Lr) ?_))
 refine Al ⟨?_,?_,trivial⟩
 · exact dP
 · exact int_eq (by rw [hb])
 have hb:=pR hce hc hs (by have:=q2;cases h_:G4 e2<;>simp_all)
 refine ac ?_
 refine ao ?_
 refine TO.AK 0 rfl rfl rfl vq Be rfl CS rfl rfl ?_
 refine ao ?_
 refine Tr.ret (Fin.BL rfl (AL.cell 0 rfl rfl DC CS rfl Lr) (AL.tmp rfl Lr) ?_)
 refine Al ⟨?_,?_,trivial⟩
 · rw [hb];exact Lr
 · exact int_eq (by rw [hb])
theorem S9 {e:D5} (hz:e.sz n) (hn:n≤1000000):OY prog 286 [agg (CV e)] (fun x=>agg [is x,I4 e.BX,SE e.items]) (fun x=>[Ba 40 9 (e.Bu.map BQ) x]):=by
 refine OY.of func286 rfl rfl Am fun M0 w0 S rs M1 w1=> ?_
 have hl1:=hz.le
 have hl2:=hz.lg
 have hl3:=hz.li
 refine Tr.seq (Tr.BE (tp rfl (BU rfl Be) ?_))
 refine Tl rfl rfl rfl rfl z31 Iw (fun b1=> ?_)
 refine ao ?_
 refine ao ?_
 refine tp rfl (Jh rfl underlying28 Fe ya jE rfl AB vq mu dF) ?_
 refine tp rfl (oD) ?_
 refine Tl rfl rfl rfl rfl z31 Iw (fun b2=> ?_)
 refine TO.AK 0 rfl rfl rfl vq Be rfl F5 rfl rfl ?_
 refine ao ?_
 refine ac ?_
 refine Tr.block (Tr.G9 0 [AV (.slice none 0 0) (lens ((e.Bu.take 0).map BQ).length),I4 e.BX,is (.slice none 0 0)] rfl ⟨Gk rfl,Lr,Lr,trivial⟩ (Tr.GP 40 9 (Tr.EC _ (kk [14,13,3,2,1] rfl) (fun k v=>[(15,int ((k:Nat):Int))]) (fun k v=>Hp M0 w0 S (BG 40 9 ((e.Bu.take k).map BQ) v::AF true b2 31 [AV v (lens ((e.Bu.take k).map BQ).length),I4 e.BX,is (.slice none 0 0)]::AF true b1 31 (([.slice none 0 0,.slice none 0 0,.slice none 0 0]:List Value).map is)::Ai M1 w1::rs)) (fun k:Nat=>k≤(e.Bu).length) (fun k:Nat=>(e.Bu).length-k) 0 (.slice none 0 0) (Nat.zero_le _) kz (fun _ _ h=>h) ?_)))
 rintro k v BJ
 refine ac ?_
 refine Tr.seq ?_
 refine Tr.cn rfl ?_ ?_<;>intro h1 q1
 have AZ:k<(e.Bu).length:=AH h1
 obtain ⟨x,AX⟩:=at_ AZ
 have hxs:=(hz.Bu x (List.mem_of_getElem? AX)).small hn
 refine ac ?_
 refine Tr.seq (Tr.block (Tr.seq (Tr.BE (tp rfl (AD rfl underlying27 CS vq vq AA CX) ?_))))
 refine tp rfl (Ad rfl DC CS vq rfl rfl) ?_
 refine Tl rfl rfl rfl rfl z40 Hx (fun b3=> ?_)
 refine sf 0 5 ⟨rfl,rfl,rfl⟩ rfl rfl rfl rfl ?_
 refine ao ?_
 refine Tr.pad (Tr.rx ?_)
 refine ax ?_
 refine xo rfl (fun _=>CM (Uo hxs) rfl rfl) (xo rfl (fun _=>Af (xs:=[.tmp 22]) (rows:=[_]) rfl rfl underlying27 CS z40 rfl AB ⟨⟨An,(Va rfl)⟩,trivial⟩ AB) ?_)
 refine Cx.ef 1 rfl rfl AB (Fg rfl rfl AB rfl underlying27 CS zk z40 rfl AB AB (vl rfl) (Kf rfl) (AW fun _=>rfl) (Nat.zero_lt_succ _) (by simp only [List.length_map,List.length_take,List.length_cons,List.length_nil];unfold maxLen;omega) (by simp only [List.length_map,List.length_take,List.length_cons,List.length_nil];omega)) ?_
 refine xo rfl (fun _=>Aq rfl Rj vq) (Cx.DP 2 rfl rfl (Fc rfl rfl rfl vq rfl ADA Am) ?_)
 refine Cx.nil ⟨by kernel_rfl,?_⟩
 refine Aw.PF 1 2 24 rfl rfl AB rfl (fun v1=> ?_)
 refine Aw.done al5 ?_
 refine ac ?_
 refine Tr.drop 0 (wk [15,14,13,3,2,1] rfl ?_)
 refine ac ?_
 refine Fin.G9 1 [AV v1 (lens ((e.Bu.take (k+1)).map BQ).length),I4 e.BX,is (.slice none 0 0)] rfl ⟨DE (by simp only [List.length_map,List.length_append,List.length_take,List.length_cons,List.length_nil];omega),Lr,Lr,trivial⟩ ?_
 rw [y_ (f:=BQ) AX]
 exact Fin.C8 (k+1) v1 (⟨AZ,by omega⟩) ⟨⟨_,rfl,AG k⟩,kz⟩ (fun _ _ h=>h)
 have A8:k=(e.Bu).length:=by have:=AJ h1;omega
 subst A8
 rw [List.take_length]
 refine a2 ?_
 refine Tr.block (Tr.G9 1 [AV v (lens (e.Bu.map BQ).length),I4 e.BX,AV (.slice none 0 0) (SE (e.items.take 0))] rfl ⟨Lr,Lr,Bg rfl,trivial⟩ (Tr.B5 135 5 (Tr.EC _ (kk [29,28,3,2] rfl) (fun m u=>[(30,int ((m:Nat):Int))]) (fun m u=>Hp M0 w0 S (As 135 5 u::BG 40 9 (e.Bu.map BQ) v::AF true b2 31 [AV v (lens (e.Bu.map BQ).length),I4 e.BX,AV u (SE (e.items.take m))]::AF true b1 31 (([.slice none 0 0,.slice none 0 0,.slice none 0 0]:List Value).map is)::Ai M1 w1::rs)) (fun m:Nat=>m≤(e.items).length) (fun m:Nat=>(e.items).length-m) 0 (.slice none 0 0) (Nat.zero_le _) kz (fun _ _ h=>h) ?_)))
 rintro m u Nk
 refine ac ?_
 refine Tr.seq ?_
 refine Tr.cn rfl ?_ ?_<;>intro h2 q2
 have Es:m<(e.items).length:=AH h2
 obtain ⟨y,Ew⟩:=at_ Es
 have hyl:=(hz.items y (List.mem_of_getElem? Ew)).2
 refine ac ?_
 refine Tr.seq (Tr.block (Tr.seq (Tr.BE (tp rfl (AD rfl underlying29 IE vq vq AA CX) ?_))))
 refine tp rfl (Ad rfl Vw IE vq rfl rfl) ?_
 refine Tl rfl rfl rfl rfl Vx Xh (fun b4=> ?_)
 refine TO.AK 0 rfl rfl rfl vq Be rfl IE rfl rfl ?_
 refine ao ?_
 refine ao ?_
 refine tp rfl (Jh rfl underlying133 Ke yg z198 rfl AB vq mu dF) ?_
 refine tp rfl (Aq rfl Vy vq) (TO.DP 0 rfl rfl (BF rfl rfl vq F7 yc rfl Am rfl) ?_)
 refine ao ?_
 refine wk [30,29,28,7,3,2] rfl ?_
 refine ao ?_
 refine TO.Df 1 rfl rfl AB (B9 rfl rfl rfl rfl underlying29 IE n7 Vx Ea Db (Ay BK FC)) (fun v2=> ?_)
 refine tp rfl (Aq rfl Vs vq) (TO.DP 3 rfl rfl (BF rfl rfl vq F7 zh rfl Am rfl) ?_)
 refine ao ?_
 refine Tr.drop 0 ?_
 refine ac ?_
 refine Fin.G9 2 [AV v (lens (e.Bu.map BQ).length),I4 e.BX,AV v2 (SE (e.items.take (m+1)))] rfl ⟨Lr,Lr,BB (y_ (f:=fX) Ew),trivial⟩ (Fin.C8 (m+1) v2 (⟨Es,by omega⟩) ⟨⟨_,rfl,AG m⟩,kz⟩ (fun _ _ h=>h))
 have Kt:m=(e.items).length:=by have:=AJ h2;omega
 subst Kt
 refine ac ?_
 refine ao ?_
 refine TO.AK 3 rfl rfl rfl vq Be rfl F5 rfl rfl ?_
 refine ao ?_
 refine Tr.ret (Fin.SF 1 rfl (Fin.drop 0 (Fin.drop 1 (Fin.G3 (Fin.AAX v [_] rfl (AL.cell 0 rfl rfl Gp F5 rfl Lr) ?_ (List.Perm.refl _))))))
 · exact BR ⟨Ct _ _,Lr,Pr.le_trans (Ao _ _) (Pr.le_of_eq QC),trivial⟩
theorem VH {e:D5} {c:Bm} (h:c.Aa<0∨((e.Bu.length:Nat):Int)≤c.Aa):Ws e c=(GS,40):=by unfold Ws;rw [wR h];rfl
theorem ABb {e:D5} {c:Bm} {x:Bw} (h:¬(c.Aa<0∨((e.Bu.length:Nat):Int)≤c.Aa)) (hx:e.Bu[c.Aa.toNat]? =some x):Ws e c=if (Eg x c).2.2=0 then (⟨e.Bu.set c.Aa.toNat (Eg x c).1,e.BX,e.items⟩,0) else (GS,(Eg x c).2.2):=by grind [Ws,AAs,Eg]
theorem bz {e:D5} {c:Bm} (hz:e.sz n) (hi:c.Cb.fits∧c.Cb.small) (h:(Ws e c).2=0):(Ws e c).1.sz (n+1)∧Ws e c=(⟨(Md e.Bu c).1,e.BX,e.items⟩,0):=by
 have h0:(Md e.Bu c).2=0:=by
  by_cases h0:(Md e.Bu c).2=0
  · exact h0
  · unfold Ws at h;rw [if_neg h0] at h;exact h
 have h1:Ws e c=(⟨(Md e.Bu c).1,e.BX,e.items⟩,0):=by unfold Ws;rw [if_pos h0]
 rw [h1]
 exact ⟨⟨qO hz.Bu hi,hz.items,by show (Md e.Bu c).1.length≤_;rw [fy];exact hz.le,hz.lg,hz.li⟩,rfl⟩
theorem xz {e:D5} {c:Bm} (h:¬(Ws e c).2=0):¬(Md e.Bu c).2=0∧(Ws e c).2=(Md e.Bu c).2∧(Ws e c).1=GS:=by grind [Ws]
theorem k6 {e:D5} {c:Bm} (hz:e.sz n) (hn:n≤900000) (hci:c.Cb.fits∧c.Cb.small):A0 prog 287 [agg (CV e),agg (DO c)] (C_ [agg (CV (Ws e c).1),int (Ws e c).2]):=by
 refine fo func287 rfl ⟨rfl,rfl⟩ fun M0 w0=> ?_
 have AKV:=hz.le
 refine Tr.seq (Tr.BE (tp rfl (BU rfl Be) (tp rfl (BU rfl Be) ?_)))
 refine Tl rfl rfl rfl rfl z31 Iw (fun b1=> ?_)
 refine ao ?_
 refine ag ?_ ?_<;>intro h1 q1
 refine ac ?_
 refine wk [19,4,3,2] rfl (Tr.cond rfl (fun _=> ?_) (fun h=>nomatch h))
 refine Tr.seq (Tr.BE (tp rfl (BO (rows:=[]) rfl ADC Iw trivial rfl) (TO.AK 0 rfl rfl rfl vq Be rfl F5 rfl rfl ?_)))
 refine ao ?_
 refine Tr.ret (Fin.AE (Fin.BL rfl (AL.cell 0 rfl rfl Gp F5 rfl Lr) (AL.tmp rfl Lr) ?_))
 refine Al ⟨?_,?_,trivial⟩
 · exact dL
 · exact int_eq (by rw [VH (e:=e) (c:=c) AA])
 refine ac ?_
 refine wk [19,4,3,2] rfl ?_
 refine Tr.cn rfl ?_ ?_<;>intro h2 q2
 refine ao ?_
 refine TO.AK 0 rfl rfl rfl vq Be rfl F5 rfl rfl ?_
 refine ao ?_
 refine Tr.ret (Fin.AE (Fin.BL rfl (AL.cell 0 rfl rfl Gp F5 rfl Lr) (AL.tmp rfl Lr) ?_))
 refine Al ⟨?_,?_,trivial⟩
 · exact dL
 · exact int_eq (by rw [VH (e:=e) (c:=c) AA])
 obtain ⟨x,hx⟩:=at_ (l:=e.Bu) (k:=c.Aa.toNat) AA
 have hA:=ABb (e:=e) (c:=c) AA hx
 have hlt:=BH hx
 refine ac ?_
 refine Tr.seq (Tr.pad (Tr.rx ?_))
 refine ax ?_
 refine xo rfl (fun _=>AD rfl underlying27 CS vq vq AA (Bb (f:=BQ) hx)) ?_
 refine ax ?_
 refine xo rfl (fun _=>Bq (bw (hz.Bu x (List.mem_of_getElem? hx)) AA hci) rfl rfl rfl) ?_
 refine ax ?_
 refine Cx.ef 0 rfl rfl AB (Bx rfl rfl AB rfl z40 Hx) (Cx.DP 0 rfl rfl (CZ rfl rfl rfl rfl Be CS rfl rfl) (xm rfl ?_))
 refine Cx.nil ⟨by kernel_rfl,?_⟩
 refine Aw.open_ 0 6 rfl rfl (fun v1=> ?_)
 refine Aw.done UL (Fin.LR 6 0 _ rfl rfl (fun _=>rfl) (fun b2=> ?_))
 refine Fin.go (wk [7,6,4,3,2] rfl ?_)
 refine an ?_ ?_<;>intro h3 q3
 rw [if_neg (by have:=q3;omega)] at hA
 refine ao ?_
 refine TO.AK 1 rfl rfl rfl vq Be rfl F5 rfl rfl ?_
 refine ao ?_
 refine Tr.drop 0 (Tr.ret (Fin.AE (Fin.BL rfl (AL.cell 0 rfl rfl Gp F5 rfl Lr) (AL.tmp rfl Lr) ?_)))
 refine Al ⟨?_,?_,trivial⟩
 · exact RJ
 · exact Ga
 rw [if_pos (by have:=q3;omega)] at hA
 refine ac ?_
 refine ao ?_
 refine TO.oq rfl rfl AB rfl (S9 hz AA) kz (fun v2=> ?_)
 refine Tl rfl rfl rfl rfl z31 Iw (fun b3=> ?_)
 refine TO.AK 0 rfl rfl rfl vq Be rfl F5 rfl rfl ?_
 refine ao ?_
 refine ao ?_
 refine tp rfl (CC 1 rfl (Dy rfl underlying27 CS vq vq AA B8)) ?_
 refine TO.DP 1 rfl rfl (Ca rfl rfl vq Be CS rfl (AW fun _=>rfl) VW AB (show _=(e.Bu.set c.Aa.toNat (Eg x c).1).map BQ by rw [List.map_set];rfl)) ?_
 refine ao ?_
 refine Tr.drop 2 (wk [8,4] rfl (Tr.seq (Tr.CA 0 1 0 rfl rfl AB rfl Lr (AW fun _=>rfl) ?_)))
 refine ao ?_
 refine TO.AK 2 rfl rfl rfl vq Be rfl F5 rfl rfl ?_
 refine ao ?_
 refine Tr.drop 1 (Tr.ret (Fin.BL rfl (AL.cell 1 rfl rfl Gp F5 rfl Lr) (AL.tmp rfl Lr) ?_))
 refine Al ⟨?_,?_,trivial⟩
 · rw [hA];exact Lr
 · exact Ga
theorem S_ {e:D5} (hz:e.sz n) (hn:n≤800000) (hc:∀c∈l,c.Cb.fits∧c.Cb.small):A0 prog 255 [agg (CV e),slice 8 (l.map DO),ints s] (C_ [agg (CV (WV e l s).1),int (WV e l s).2]):=by
 refine fo func255 rfl ⟨rfl,rfl⟩ fun M0 w0=>(Tr.CG 1 rfl fun ER=>(Tr.CG 2 rfl fun qH=>(Tr.seq (Tr.BE (tp rfl (BU rfl Be) ?_)))))
 refine Tl rfl rfl rfl rfl z31 Iw (fun b1=> ?_)
 refine ap ?_
 refine ac ?_
 refine co rfl (CM (EE (hz.fits AA)) rfl rfl) ?_
 refine an ?_ ?_<;>intro h1 q1
 have hA:WV e l s=(GS,31):=if_pos (by have:=q1;cases h_:Fl e<;>simp_all)
 refine ap ?_
 refine Tr.ret (Fin.AE (Fin.BL rfl (AL.cell 0 rfl rfl Gp F5 rfl Lr) (AL.tmp rfl Lr) ?_))
 refine Al ⟨?_,?_,trivial⟩
 · exact RJ
 · exact Ga
 have hok:Fl e=true:=by have:=q1;cases h_:Fl e<;>simp_all
 refine ac ?_
 refine an ?_ ?_<;>intro h2 q2
 have hA:WV e l s=(GS,3):=by unfold WV;rw [if_neg LL,if_pos (by have:=q2;omega)]
 refine ap ?_
 refine Tr.ret (Fin.AE (Fin.BL rfl (AL.cell 0 rfl rfl Gp F5 rfl Lr) (AL.tmp rfl Lr) ?_))
 refine Al ⟨?_,?_,trivial⟩
 · exact RJ
 · exact Ga
 have AJC:l.length≤24:=by have:=q2;omega
 refine a2 ?_
 refine co rfl (Bq (MX (l:=s) (n:=((l.length:Nat):Int))) rfl rfl rfl) ?_
 refine ac ?_
 refine wk [25,6,3,2,1] rfl ?_
 refine Tr.cn rfl ?_ ?_<;>intro h3 q3
 have hA:WV e l s=(GS,46):=by unfold WV;rw [if_neg LL,if_neg AA,if_pos H8]
 refine ap ?_
 refine Tr.ret (Fin.AE (Fin.BL rfl (AL.cell 0 rfl rfl Gp F5 rfl Lr) (AL.tmp rfl Lr) ?_))
 refine Al ⟨?_,?_,trivial⟩
 · exact RJ
 · exact Ga
 have hsb:Di l.length s=true:=by simpa using h3
 have hsn:=f_ hsb
 have hel:=hz.le
 refine ac ?_
 refine ap ?_
 refine TO.oq rfl rfl AB rfl (S9 hz AA) kz (fun v1=> ?_)
 refine Tl rfl rfl rfl rfl z31 Iw (fun b2=> ?_)
 refine ap ?_
 refine Tr.seq (Tr.seq (Tr.CA 0 1 0 rfl rfl AB rfl Lr (AW fun _=>rfl) ?_))
 refine ac ?_
 refine Tr.drop 1 (Tr.block (Tr.DI _ (kk [30,29,8,6,1] rfl) (fun (m:Nat) (Bu:List Bw)=>[(31,int ((m:Nat):Int))]) (fun (m:Nat) (Bu:List Bw)=>Hp M0 w0 FO ([AF true b2 31 (CV ⟨Bu,e.BX,e.items⟩),AF true b1 31 (([.slice none 0 0,.slice none 0 0,.slice none 0 0]:List Value).map is)])) (fun (m:Nat) (Bu:List Bw)=>m≤s.length∧(⟨Bu,e.BX,e.items⟩:D5).sz (n+m)∧Of l (s.drop m) Bu=Of l s e.Bu) (fun (m:Nat) (Bu:List Bw)=>s.length-m) (0) (e.Bu)  (⟨Nat.zero_le _,hz,rfl⟩) kz (fun _ _ h=>h) ?_))
 rintro m Bu  ⟨hm1,hse,hm4⟩
 refine ac ?_
 refine Tr.seq ?_
 refine Tr.cn rfl ?_ ?_<;>intro h4 q4
 have hmm:m<s.length:=by have:=EW.E9 h4;omega
 obtain ⟨i,Ew⟩:=at_ hmm
 have him:=Qh hsb Ew
 obtain ⟨c,mN⟩:=at_ (l:=l) (k:=i.toNat) AA
 have hci:=hc c (List.mem_of_getElem? mN)
 have hst:=jr (Bu:=Bu) Ew mN
 rw [hm4] at hst
 refine ac ?_
 refine Tr.seq (Tr.block (Tr.seq (Tr.Bt (co rfl (AD rfl underlying51 Bi vq vq AA (AR Ew)) ?_))))
 refine ac ?_
 refine Tr.seq (Tr.pad (Tr.rx ?_))
 refine ax ?_
 refine xo rfl (fun _=>AD rfl underlying32 DB vq vq AA (Bb (f:=DO) mN)) (xo rfl (fun _=>Ad rfl GG DB vq rfl rfl) ?_)
 refine xo rfl (fun _=>Bq (k6 (e:=⟨Bu,e.BX,e.items⟩) (c:=c) hse AA hci) rfl rfl rfl) ?_
 refine ax ?_
 refine Cx.ef 0 rfl rfl AB (Bx rfl rfl AB rfl z31 Iw) (Cx.DP 0 rfl rfl (CZ rfl rfl rfl rfl Be F5 rfl rfl) (xm rfl ?_))
 refine Cx.nil ⟨by kernel_rfl,?_⟩
 refine Aw.open_ 0 11 rfl rfl (fun v2=> ?_)
 refine Aw.done al3 (Fin.LR 11 0 _ rfl rfl (fun _=>rfl) (fun b3=> ?_))
 refine Fin.go (wk [31,30,29,12,11,8,6,1] rfl ?_)
 refine an ?_ ?_<;>intro h5 q5
 obtain ⟨h0_,h1_,h2_⟩:=xz (e:=⟨Bu,e.BX,e.items⟩) (c:=c) (by have:=q5;omega)
 have h0_:¬(Md Bu c).2=0:=h0_
 rw [if_neg h0_] at hst
 have hA:WV e l s=(GS,(Ws ⟨Bu,e.BX,e.items⟩ c).2):=by unfold WV;rw [if_neg LL,if_neg AA,if_neg (by simp [hsb]),hst,h1_];exact if_neg h0_
 refine ap ?_
 refine Tr.drop 0 (Tr.ret (Fin.AE (Fin.AU (Fin.AE (Fin.AE (Fin.AU (Fin.AE (Fin.BL rfl (AL.cell 1 rfl rfl Gp F5 rfl Lr) (AL.tmp rfl Lr) ?_))))))))
 refine Al ⟨?_,?_,trivial⟩
 · exact RJ
 · exact Ga
 have hs0:(Ws ⟨Bu,e.BX,e.items⟩ c).2=0:=by have:=q5;omega
 have hap:(Md Bu c).2=0:=by by_cases h0:(Md Bu c).2=0;exact h0;(exfalso;unfold Ws at hs0;rw [if_neg (show ¬(Md (⟨Bu,e.BX,e.items⟩:D5).Bu c).2=0 from h0)] at hs0;exact h0 hs0)
 refine ac ?_
 refine ap ?_
 refine Tr.drop 0 ?_
 refine ac ?_
 refine Fin.eqC 0 (CV ⟨(Md Bu c).1,e.BX,e.items⟩) rfl (by rw [(bz hse hci hs0).2];rfl) ?_
 exact Fin.Cu (m+1) ((Md Bu c).1)  (⟨⟨by omega,by have h_:=(bz hse hci hs0).1;rw [(bz hse hci hs0).2] at h_;rw [show n+(m+1)=n+m+1 by omega];exact h_,by rw [hst,if_pos hap]⟩,by omega⟩) ⟨⟨_,rfl,AG m⟩,kz⟩ (fun _ _ h=>h)
 obtain rfl:m=s.length:=by have:=EW.E9 h4;omega
 rw [List.drop_length] at hm4
 have hA:WV e l s=(⟨Bu,e.BX,e.items⟩,0):=by unfold WV;rw [if_neg LL,if_neg AA,if_neg (by simp [hsb]),←hm4];exact if_pos rfl
 refine ac ?_
 refine ap ?_
 refine Tr.ret (Fin.BL rfl (AL.cell 1 rfl rfl Gp F5 rfl Lr) (AL.tmp rfl Lr) ?_)
 refine Al ⟨?_,?_,trivial⟩
 · rw [hA];exact Lr
 · exact Ga
theorem Tu {e:D5} {i:Int} (hz:e.sz n) (hn:n≤800000):A0 prog 278 [agg (CV e),slice 8 (l.map DO),int i] (C_ [ints (KS e l i).1,int (KS e l i).2]):=by
 refine fo func278 rfl ⟨rfl,rfl⟩ fun M0 w0=>(Tr.CG 1 rfl fun ER=> ?_)
 refine a2 ?_
 refine co rfl (CM (EE (hz.fits AA)) rfl rfl) ?_
 refine an ?_ ?_<;>intro h1 q1
 have hA:KS e l i=([],31):=if_pos (by have:=q1;cases h_:Fl e<;>simp_all)
 refine ac ?_
 refine Tr.ret (Fin.AE (Fin.C6 rfl (Bv.EU _ _) rfl ?_ rfl ?_))
 · rw [hA];exact AP 1
 · exact Ga
 have hok:Fl e=true:=by have:=q1;cases h_:Fl e<;>simp_all
 refine ac ?_
 refine an ?_ ?_<;>intro h2 q2
 have hA:KS e l i=([],3):=by unfold KS;rw [if_neg LL,if_pos (by have:=q2;omega)]
 refine ac ?_
 refine Tr.ret (Fin.AE (Fin.C6 rfl (Bv.EU _ _) rfl ?_ rfl ?_))
 · rw [hA];exact AP 1
 · exact Ga
 have AJC:l.length≤24:=by have:=q2;omega
 refine ac ?_
 refine ag ?_ ?_<;>intro h3 q3
 refine ac ?_
 refine wk [25,3,2,1] rfl ?_
 refine ac ?_
 refine Tr.ret (Fin.AE (Fin.C6 rfl (Bv.EU _ _) rfl ?_ rfl ?_))
 · exact mz
 · exact mw
 refine ac ?_
 refine wk [25,3,2,1] rfl ?_
 refine Tr.cn rfl ?_ ?_<;>intro h4 q4
 refine ac ?_
 refine Tr.ret (Fin.AE (Fin.C6 rfl (Bv.EU _ _) rfl ?_ rfl ?_))
 · exact mz
 · exact mw
 obtain ⟨g,hg⟩:=at_ (l:=e.BX) (k:=i.toNat) AA
 have hA:KS e l i=(Pv g l l.length,0):=by unfold KS;rw [if_neg LL,if_neg AA,if_neg AA,getD_at hg]
 refine a3 ?_
 refine Tr.block (Tr.B5 3 1 (Tr.EC _ (kk [27,26,3,2] rfl) (fun k v=>[(28,int ((k:Nat):Int)),(8,AV v (ints (Pv g l k)))]) (fun k v=>Hp M0 w0 FO ([As 3 1 v])) (fun k:Nat=>k≤(l).length) (fun k:Nat=>(l).length-k) 0 (.slice none 0 0) (Nat.zero_le _) ⟨kq,⟨_,rfl,Bg rfl⟩,trivial⟩ (fun _ _ h=>h) ?_))
 rintro k v BJ
 refine ac ?_
 refine Tr.seq ?_
 refine Tr.cn rfl ?_ ?_<;>intro h5 q5
 have AZ:k<(l).length:=AH h5
 obtain ⟨c,AX⟩:=at_ AZ
 have hrl:=s8 g l k
 refine ac ?_
 refine ao ?_
 refine tp rfl (AD rfl underlying32 DB vq vq AA (AR AX)) (tp rfl (Ad rfl GG DB vq rfl rfl) ?_)
 refine Tl rfl rfl rfl rfl NP JZ (fun b1=> ?_)
 refine tm rfl ?_
 refine sf 0 10 ⟨rfl,rfl,rfl⟩ rfl rfl rfl rfl ?_
 refine ao ?_
 refine wk [28,27,26,10,9,8,3,2] rfl ?_
 refine ac ?_
 refine co rfl (AD rfl underlying28 Fe vq vq AA (Bb (f:=AAk) hg)) ?_
 refine ag ?_ ?_<;>intro h6 q6
 have hP:Wt g l k=true:=by unfold Wt;rw [AX];simp;omega
 refine ac ?_
 refine wk [52,28,27,26,9,8,3,2] rfl (Tr.cond rfl (fun _=> ?_) (fun h=>nomatch h))
 refine Tr.BE (tm rfl (tm rfl (tp rfl (Af (xs:=[.tmp 54]) (rows:=[[_]]) rfl rfl underlying51 Bi z3 rfl AB ⟨⟨An,F7⟩,trivial⟩ AB) ?_)))
 refine TO.Df 0 rfl rfl AB (B9 rfl rfl rfl rfl underlying51 Bi G_ z3 Ea Db (Ay BK FC)) (fun v1=> ?_)
 refine ao ?_
 refine ac ?_
 exact Fin.C8 (k+1) v1 (⟨AZ,by omega⟩) ⟨⟨_,rfl,AG k⟩,⟨_,rfl,BB (by rw [Ys hP,List.map_append];rfl)⟩,kz⟩ (fun _ _ h=>h)
 refine ac ?_
 refine cy h6 rfl (AD rfl underlying28 Fe vq vq AA (Bb (f:=AAk) hg)) ?_
 refine ac ?_
 refine wk [52,28,27,26,9,8,3,2] rfl ?_
 refine Tr.cn rfl ?_ ?_<;>intro h7 q7
 have hP:Wt g l k=true:=by unfold Wt;rw [AX];simp;omega
 refine ao ?_
 refine TO.Df 0 rfl rfl AB (B9 rfl rfl rfl rfl underlying51 Bi G_ z3 Ea Db (Ay BK FC)) (fun v2=> ?_)
 refine ao ?_
 refine ac ?_
 exact Fin.C8 (k+1) v2 (⟨AZ,by omega⟩) ⟨⟨_,rfl,AG k⟩,⟨_,rfl,BB (by rw [Ys hP,List.map_append];rfl)⟩,kz⟩ (fun _ _ h=>h)
 have hP:Wt g l k=false:=by unfold Wt;rw [AX];simp;omega
 refine a2 ?_
 exact Fin.C8 (k+1) v (⟨AZ,by omega⟩) ⟨⟨_,rfl,AG k⟩,⟨_,rfl,Pr.le_of_eq (by rw [xx hP])⟩,kz⟩ (fun _ _ h=>h)
 have A8:k=(l).length:=by have:=AJ h5;omega
 subst A8
 refine a2 ?_
 refine Tr.ret (Fin.C6 rfl (Bv.EU _ _) rfl ?_ rfl ?_)
 · rw [hA];exact Ao _ _
 · exact Ga
theorem k7 {n:Int} {l:List BM} (hl:l.length≤1000000):A0 prog 279 [int n,reqs l,ints s] (Cp.ex fun z:List BM×Int=>fact (z.1.length≤1000) (C_ [reqs z.1,int z.2])):=by
 refine fo func279 rfl ⟨rfl,rfl⟩ fun M0 w0=> ?_
 refine a2 ?_
 refine co rfl (Bq (Hu hl) rfl rfl rfl) ?_
 refine ac ?_
 refine an ?_ ?_<;>intro h1 q1
 refine ac ?_
 refine Tr.ret (Fin.AE (Fin.BL rfl (AL.tmp rfl Lr) (AL.tmp rfl Lr) ?_))
 · exact RH
 have hv:BD n l=0:=by simpa using h1
 obtain ⟨N,rfl⟩:∃N:Nat,n=(N:Int):=⟨n.toNat,by have:=(Cm hv).1;omega⟩
 have OB:=(Cm hv).1
 have kf:∀r∈l,(0≤r.fst∧r.fst<(N:Nat))∧0≤r.thn∧r.thn<(N:Nat):=fun r hr=>by
  have h_:=(Cm hv).2.1 r hr
  unfold Ft at h_;rw [decide_eq_false_iff_not] at h_;omega
 refine a2 ?_
 refine co rfl (Bq (MX (l:=s) (n:=((N:Nat):Int))) rfl rfl rfl) ?_
 refine an ?_ ?_<;>intro h2 q2
 refine ac ?_
 refine wk [7,6] rfl (Tr.ret (Fin.AE (Fin.BL rfl (AL.tmp rfl Lr) (AL.tmp rfl Lr) ?_)))
 · exact RH
 have hsb:Di ((N:Nat):Int) s=true:=by simpa using h2
 have hsn:=f_ hsb
 refine a2 ?_
 refine co rfl (Bq (Ut (n:=N) (l:=l) AA hl kf) rfl rfl rfl) ?_
 refine ac ?_
 refine wk [9,2] rfl ?_
 refine a2 ?_
 refine Tr.block (Tr.B5 61 2 (Tr.DZ _ (kk [29,28,9,2] rfl) (fun (o:List BM) (i:Nat) u=>[(30,int ((i:Nat):Int)),(10,AV u (reqs o))]) (fun (o:List BM) (i:Nat) u=>Hp M0 w0 FO ([As 61 2 u])) (fun (o:List BM) (i:Nat)=>i≤s.length∧o.length≤24*i) (fun (o:List BM) (i:Nat)=>s.length-i) ([]) (0) (.slice none 0 0) (⟨Nat.zero_le _,by simp⟩) ⟨kq,⟨_,rfl,Bg rfl⟩,trivial⟩ (fun _ _ h=>h) ?_))
 rintro o i u ⟨hi0,mM⟩
 refine ac ?_
 refine Tr.seq ?_
 refine Tr.cn rfl ?_ ?_<;>intro h3 q3
 have hi:i<s.length:=AH h3
 obtain ⟨x,hx⟩:=at_ hi
 have hxn:=Qh hsb hx
 refine a2 ?_
 refine co rfl (AD rfl underlying51 Bi vq vq AA (AR hx)) ?_
 refine a2 ?_
 refine wk [37,36,35,30,29,28,12,11,10,9,2] rfl (Tr.block (Tr.DZ _ (kk [36,35,30,29,28,12,11,9,2] rfl) (fun (p:List BM) (k:Nat) u2=>[(37,int ((k:Nat):Int)),(10,AV u2 (reqs p))]) (fun (p:List BM) (k:Nat) u2=>Hp M0 w0 FO ([As 61 2 u2])) (fun (p:List BM) (k:Nat)=>k≤s.length∧p.length≤24*i+k) (fun (p:List BM) (k:Nat)=>s.length-k) (o) (0) u (⟨Nat.zero_le _,by omega⟩) ⟨kq,⟨_,rfl,BB rfl⟩,trivial⟩ (fun _ _ h=>h) ?_))
 rintro p k u2 ⟨hk0,hpl⟩
 refine ac ?_
 refine Tr.seq ?_
 refine Tr.cn rfl ?_ ?_<;>intro h4 q4
 have hk:k<s.length:=AH h4
 obtain ⟨y,hy⟩:=at_ hk
 have hyn:=Qh hsb hy
 refine a2 ?_
 refine co rfl (AD rfl underlying51 Bi vq vq AA (AR hy)) ?_
 refine ac ?_
 refine wk [37,36,35,30,29,28,14,13,12,11,10,9,2] rfl ?_
 refine ac ?_
 refine co rfl (AD rfl underlying158 PI vq vq AA (Bb (Ll _ (a:=x.toNat) AA))) ?_
 refine ac ?_
 refine co rfl (AD rfl underlying160 UF vq vq AA (Bb (Lm _ (b:=y.toNat) AA))) ?_
 refine ac ?_
 refine wk [48,37,36,35,30,29,28,13,12,11,10,9,2] rfl ?_
 refine Tr.cn rfl ?_ ?_<;>intro h5 q5
 refine ap ?_
 refine TO.Df 0 rfl rfl AB (B9 rfl rfl rfl rfl underlying33 DQ OU QN Ea Db (Ay BK FC)) (fun v1=> ?_)
 refine ap ?_
 refine wk [37,36,35,30,29,28,12,11,10,9,2] rfl ?_
 refine ac ?_
 exact Fin.Bk (p++[⟨((i:Nat):Int),((k:Nat):Int)⟩]) (k+1) v1 (⟨⟨by omega,by simp;omega⟩,by omega⟩) ⟨⟨_,rfl,AG k⟩,⟨_,rfl,BB Dm⟩,kz⟩ (fun _ _ h=>h)
 refine a2 ?_
 exact Fin.Bk (p) (k+1) u2 (⟨⟨by omega,by omega⟩,by omega⟩) ⟨⟨_,rfl,AG k⟩,⟨_,rfl,BB rfl⟩,kz⟩ (fun _ _ h=>h)
 have cz:=AJ h4
 refine a2 ?_
 exact Fin.Bk (p) (i+1) u2 (⟨⟨by omega,by omega⟩,by omega⟩) ⟨⟨_,rfl,AG i⟩,⟨_,rfl,BB rfl⟩,kz⟩ (fun _ _ h=>h)
 have hie:=AJ h3
 refine a2 ?_
 refine Tr.ret (Fin.BL rfl (AL.tmp rfl Lr) (AL.tmp rfl Lr) ?_)
 · exact Zp
theorem TC {c:BV} (ho:c.own=0):A0 prog 65 [Me c,CF l] (C_ [ints (Sv c l),int (Eu c l)]):=by
 refine fo func65 rfl ⟨rfl,rfl⟩ fun M0 w0=>(Tr.CG 1 rfl fun ER=>(Tr.FW 0 1 rfl rfl fun Lb=> ?_))
 refine a2 ?_
 refine co rfl (Bq (Kw (c:=c) (m:=((c.Jj.length:Nat):Int))) rfl rfl rfl) ?_
 refine ac ?_
 refine an ?_ ?_<;>intro h1 q1
 exact absurd ho (by unfold BV.own;simpa using h1)
 refine a2 ?_
 refine wk [20,2,1] rfl ?_
 refine Tr.cn rfl ?_ ?_<;>intro h2 q2
 refine ac ?_
 refine Tr.ret (Fin.AE (Fin.C6 rfl (Bv.EU _ _) rfl ?_ rfl ?_))
 · rw [XK (gm AA) AB];exact AP 1
 · refine int_eq ?_;exact (gm AA).symm
 refine a3 ?_
 refine Tr.block (Tr.B5 3 1 (Tr.EC _ (kk [22,21,2] rfl) (fun k v=>[(23,int ((k:Nat):Int)),(7,AV v (ints ((l.take k).map (Ss c))))]) (fun k v=>Hp M0 w0 FO ([As 3 1 v])) (fun k:Nat=>k≤(l).length∧(∀j y,j<k→l[j]? =some y→RL c y=false)) (fun k:Nat=>(l).length-k) 0 (.slice none 0 0) (⟨Nat.zero_le _,fun j y hj=>absurd hj AA⟩) ⟨kq,⟨_,rfl,Bg rfl⟩,trivial⟩ (fun _ _ h=>h) ?_))
 rintro k v ⟨BJ,AQ⟩
 refine ac ?_
 refine Tr.seq ?_
 refine Tr.cn rfl ?_ ?_<;>intro h3 q3
 have AZ:k<(l).length:=AH h3
 obtain ⟨x,AX⟩:=at_ AZ
 refine ac ?_
 refine Tr.seq (Tr.block (Tr.seq (Tr.BE (tp rfl (AD rfl underlying32 DB vq vq AA (AR AX)) (tp rfl (Ad rfl GG DB vq rfl rfl) ?_)))))
 refine Tl rfl rfl rfl rfl NP JZ (fun b1=> ?_)
 refine sf 0 9 ⟨rfl,rfl,rfl⟩ rfl rfl rfl rfl ?_
 refine ao ?_
 refine ag ?_ ?_<;>intro h4 q4
 refine ac ?_
 refine wk [37,23,22,21,9,7,2] rfl ?_
 refine ac ?_
 refine Tr.ret (Fin.AE (Fin.AU (Fin.AE (Fin.AE (Fin.AU (Fin.AE (Fin.C6 rfl (Bv.EU _ _) rfl ?_ rfl ?_)))))))
 · exact dN
 · exact dc
 refine ac ?_
 refine wk [37,23,22,21,9,7,2] rfl ?_
 refine Tr.cn rfl ?_ ?_<;>intro h5 q5
 refine ac ?_
 refine Tr.ret (Fin.AE (Fin.AU (Fin.AE (Fin.AE (Fin.AU (Fin.AE (Fin.C6 rfl (Bv.EU _ _) rfl ?_ rfl ?_)))))))
 · exact dN
 · exact dc
 have htm:=zK (c:=c) (x:=x) AA
 refine ac ?_
 refine ao ?_
 refine tp rfl (AD rfl underlying22 Bi vq vq AA (Bb htm)) ?_
 refine ao ?_
 refine TO.Df 0 rfl rfl AB (B9 rfl rfl rfl rfl underlying22 Bi G_ z3 Ea Db (Ay BK FC)) (fun v1=> ?_)
 refine ao ?_
 refine wk [23,22,21,7,2] rfl ?_
 refine ac ?_
 exact Fin.C8 (k+1) v1 (⟨⟨AZ,DR (p:=RL c) AX uL AQ⟩,by omega⟩) ⟨⟨_,rfl,AG k⟩,⟨_,rfl,BB (sD AX)⟩,kz⟩ (fun _ _ h=>h)
 have A8:k=(l).length:=by have:=AJ h3;omega
 subst A8
 refine a2 ?_
 refine Tr.ret (Fin.C6 rfl (Bv.EU _ _) rfl ?_ rfl ?_)
 · rw [Ya (gp AA AQ)];exact Pr.le_trans (Ao _ _) (Pr.le_of_eq QC)
 · refine int_eq ?_;exact (gp AA AQ).symm
structure Nz (m:Nat) (l:List Bm) (r:List BM) (d:List Int):Prop where
 l24:l.length≤24
 dl:d.length=l.length
 v:BD (l.length:Nat) r=0
 dd:∀j y c,j<l.length→d[j]? =some y→l[j]? =some c→(0≤y∧y≤40000)∧0≤c.Aa∧c.Aa<(m:Int)
abbrev J_ (l:List Bm) (r:List BM) (d:List Int):Pr:=agg [CF l,reqs r,ints d]
theorem s_ {e:D5} (hrl:r.length≤1000000):A0 prog 250 [agg (CV e),J_ l r d] (Cp.ex fun z:Bool=>fact (z=true→Nz e.Bu.length l r d) (bool z)):=by
 refine fo func250 rfl ⟨rfl,rfl⟩ fun M0 w0=>(Tr.FW 1 0 rfl rfl fun g_=>(Tr.FW 1 2 rfl rfl fun x5=>(Tr.FW 0 0 rfl rfl fun Gh=> ?_)))
 refine a2 ?_
 refine ag ?_ ?_<;>intro h1 q1
 refine ac ?_
 refine wk [26,3,2] rfl ?_
 refine a2 ?_
 · exact VS
 refine ag ?_ ?_<;>intro h2 q2
 refine ac ?_
 refine wk [26,3,2] rfl ?_
 refine a2 ?_
 · exact VS
 refine ac ?_
 refine cy h2 rfl (Bq (Hu (n:=((l.length:Nat):Int)) (l:=r) hrl) rfl rfl rfl) ?_
 refine ac ?_
 refine wk [26,3,2] rfl ?_
 refine Tr.cn rfl ?_ ?_<;>intro h3 q3
 refine a2 ?_
 · exact VS
 have OB:l.length≤24:=by omega
 have KJ:d.length=l.length:=by omega
 have hv:BD ((l.length:Nat):Int) r=0:=by omega
 refine a2 ?_
 refine Tr.block (Tr.Ax _ (kk [29,28,3,2] rfl) (fun k:Nat=>[(30,int ((k:Nat):Int))]) (fun k:Nat=>k≤(l).length∧(∀j y c,j<k→d[j]? =some y→l[j]? =some c→(0≤y∧y≤40000)∧0≤c.Aa∧c.Aa<((e.Bu.length:Nat):Int))) (fun k:Nat=>(l).length-k) 0 (⟨Nat.zero_le _,fun j y c hj=>absurd hj AA⟩) kz ?_)
 rintro k ⟨BJ,AQ⟩
 refine ac ?_
 refine Tr.seq ?_
 refine Tr.cn rfl ?_ ?_<;>intro h4 q4
 have AZ:k<(l).length:=AH h4
 obtain ⟨x,AX⟩:=at_ AZ
 obtain ⟨y,hy⟩:=at_ (l:=d) (k:=k) AA
 refine ac ?_
 refine ao ?_
 refine tp rfl (AD rfl underlying32 DB vq vq AA (AR AX)) (tp rfl (Ad rfl GG DB vq rfl rfl) ?_)
 refine Tl rfl rfl rfl rfl NP JZ (fun b1=> ?_)
 refine tm rfl ?_
 refine sf 0 7 ⟨rfl,rfl,rfl⟩ rfl rfl rfl rfl ?_
 refine ao ?_
 · repeat' first|exact Az false (BC (fun h_=>by cases h_) Lr)|(exact Fin.AM (k+1) ⟨⟨AZ,fun j z c hj hz mN=>by rcases Nat.lt_or_eq_of_le (Nat.le_of_lt_succ hj) with h_|h_;exact AQ j z c h_ hz mN;(subst h_;rw [hy] at hz;cases hz;rw [AX] at mN;cases mN;omega)⟩,by omega⟩ ⟨⟨_,rfl,AG k⟩,kz⟩)|refine cy h rfl (AD rfl underlying22 Bi vq vq AA (AR hy)) ?_|refine ac ?_|(refine Tr.cn rfl ?_ ?_<;>intro h q)|(refine Ch.cg rfl rfl rfl ?_ ?_<;>intro h q)
 have A8:k=(l).length:=by have:=AJ h4;omega
 subst A8
 refine a3 ?_
 · exact Az true (BC (fun _=>⟨OB,KJ,hv,AQ⟩) Lr)
theorem tA (hn:n≤1000):A0 prog 127 [int ((n:Nat):Int)] (Cp.ex fun z:List Int=>fact (z.length≤n) (ints z)):=by
 refine fo func127 rfl ⟨rfl,rfl⟩ fun M0 w0=> ?_
 refine a3 ?_
 refine Tr.block (Tr.B5 3 1 (Tr.DZ _ (kk [5] rfl) (fun (o:List Int) (k:Nat) u=>[(6,int ((k:Nat):Int)),(3,AV u (ints o))]) (fun (o:List Int) (k:Nat) u=>Hp M0 w0 FO ([As 3 1 u])) (fun (o:List Int) (k:Nat)=>k≤n∧o.length=k) (fun (o:List Int) (k:Nat)=>n-k) ([]) (0) (.slice none 0 0) (⟨Nat.zero_le _,rfl⟩) ⟨kq,⟨_,rfl,Bg rfl⟩,trivial⟩ (fun _ _ h=>h) ?_))
 rintro o k u ⟨hk0,mM⟩
 refine ac ?_
 refine Tr.seq ?_
 refine Tr.cn rfl ?_ ?_<;>intro h1 q1
 have hk:k<n:=AH h1
 refine a2 ?_
 refine ap ?_
 refine TO.Df 0 rfl rfl AB (B9 rfl rfl rfl rfl underlying51 Bi G_ z3 Ea Db (Ay BK FC)) (fun v1=> ?_)
 refine ap ?_
 refine ac ?_
 exact Fin.Bk (o++[((k:Nat):Int)]) (k+1) v1 (⟨⟨by omega,by simp;omega⟩,by omega⟩) ⟨⟨_,rfl,AG k⟩,⟨_,rfl,BB Dm⟩,kz⟩ (fun _ _ h=>h)
 have cz:=AJ h1
 refine a3 ?_
 · exact P6
theorem Mp {e:D5} (hz:e.sz n) (hn:n≤800000) (hc:∀c∈l,c.Cb.fits∧c.Cb.small):A0 prog 253 [agg (CV e),J_ l r d,ints s] (C_ [agg (CV (WV e l s).1),bool (decide ((WV e l s).2=0))]):=by
 refine fo func253 rfl ⟨rfl,rfl⟩ fun M0 w0=>(Tr.seq (Tr.BE (tp rfl (BU rfl Be) (tp rfl (BU rfl Be) ?_))))
 refine Tl rfl rfl rfl rfl z31 Iw (fun b1=> ?_)
 refine ao ?_
 refine ao ?_
 refine tp rfl (Jd (S_ hz hn hc) rfl rfl rfl rfl) ?_
 refine ao ?_
 refine Tl rfl rfl rfl rfl z31 Iw (fun b2=> ?_)
 refine sf 0 8 ⟨rfl,rfl,rfl⟩ rfl rfl rfl rfl ?_
 refine ao ?_
 refine wk [9,8,6] rfl ?_
 refine ao ?_
 refine TO.AK 0 rfl rfl rfl vq Be rfl F5 rfl rfl ?_
 refine ao ?_
 refine Tr.ret (Fin.BL rfl (AL.cell 0 rfl rfl Gp F5 rfl Lr) (AL.tmp rfl Lr) ?_)
 · exact Lr
theorem Tv {e:D5} {c:BV} (hf:e.fits) (DF:∀x∈l,x.Cb.small) (hrl:r.length≤1000000):A0 prog 54 [agg (CV e),Me c,CF l,reqs r,int fr] (C_ [agg (sG e c l r fr),int (Lx e c l r fr)]):=by
 refine fo func54 rfl ⟨rfl,rfl⟩ fun M0 w0=>(Tr.CG 3 rfl fun AJv=>(Tr.FW 0 0 rfl rfl fun Gh=>(Tr.seq (Tr.BE (tp rfl (BU rfl Be) (tp rfl (BU rfl Be) ?_))))))
 refine Tl rfl rfl rfl rfl z35 Gq (fun b1=> ?_)
 refine ao ?_
 refine ac ?_
 refine co rfl (CM (EE hf) rfl rfl) ?_
 refine an ?_ ?_<;>intro h1 q1
 have V3:Fl e=false:=by cases h_:Fl e with|false=>rfl|true=>exact absurd h1 NB
 have ZP:K5 e c l=31:=by unfold K5;rw [if_pos V3]
 have hb:K5 e c l≠0:=by rw [ZP];decide
 refine ao ?_
 refine TO.AK 0 rfl rfl rfl vq Be rfl CU rfl rfl ?_
 refine ao ?_
 refine Tr.ret (Fin.AE (Fin.BL rfl (AL.cell 0 rfl rfl Da CU rfl Lr) (AL.tmp rfl Lr) ?_))
 refine Al ⟨?_,?_,trivial⟩
 · exact Sx (Un hb) hb
 · refine int_eq ?_;rw [Un hb,ZP]
 have V3:¬Fl e=false:=by intro h_;rw [h_] at h1;exact absurd h1 AB
 refine a2 ?_
 refine co rfl (Bq (Kw (c:=c) (m:=((e.Bu.length:Nat):Int))) rfl rfl rfl) ?_
 refine ac ?_
 refine wk [12,10,6,4,3,2] rfl ?_
 refine an ?_ ?_<;>intro h2 q2
 have hck:c.check ((e.Bu.length:Nat):Int)≠0:=by simpa using h2
 have ZP:K5 e c l=c.check ((e.Bu.length:Nat):Int):=by unfold K5;rw [if_neg V3,if_pos hck]
 have hb:K5 e c l≠0:=by rw [ZP];exact hck
 refine ao ?_
 refine TO.AK 0 rfl rfl rfl vq Be rfl CU rfl rfl ?_
 refine ao ?_
 refine Tr.ret (Fin.AE (Fin.BL rfl (AL.cell 0 rfl rfl Da CU rfl Lr) (AL.tmp rfl Lr) ?_))
 refine Al ⟨?_,?_,trivial⟩
 · exact Sx (Un hb) hb
 · refine int_eq ?_;rw [Un hb,ZP]
 have hck:c.check ((e.Bu.length:Nat):Int)=0:=by simpa using h2
 have ZP:K5 e c l=Eu c l:=by unfold K5;rw [if_neg V3,if_neg (not_not_intro hck)]
 obtain ⟨how,htl,hth⟩:=Um hck
 refine a2 ?_
 refine co rfl (Bq (TC (c:=c) (l:=l) how) rfl rfl rfl) ?_
 refine ac ?_
 refine wk [14,13,10,6,4,3,2] rfl ?_
 refine an ?_ ?_<;>intro h3 q3
 have hte:Eu c l≠0:=by simpa using h3
 have hb:K5 e c l≠0:=by rw [ZP];exact hte
 refine ao ?_
 refine TO.AK 0 rfl rfl rfl vq Be rfl CU rfl rfl ?_
 refine ao ?_
 refine Tr.ret (Fin.AE (Fin.BL rfl (AL.cell 0 rfl rfl Da CU rfl Lr) (AL.tmp rfl Lr) ?_))
 refine Al ⟨?_,?_,trivial⟩
 · exact Sx (Un hb) hb
 · refine int_eq ?_;rw [Un hb,ZP]
 have hte:Eu c l=0:=by simpa using h3
 have hb:K5 e c l=0:=by rw [ZP];exact hte
 have OB:=(Sw hte).1
 have SN:=xV hte hth
 obtain ⟨T,hT⟩:∃T,l.map (Ss c)=T:=⟨_,rfl⟩
 have hTl:T.length=l.length:=by rw [←hT,List.length_map]
 rw [hT] at SN
 refine Tr.re 13 rfl (Pr.le_of_eq (by rw [Ya hte,hT])) ?_
 refine a2 ?_
 refine co rfl (Bq (bu (n:=((l.length:Nat):Int)) (l:=r) hrl) rfl rfl rfl) ?_
 refine ac ?_
 refine wk [15,14,13,10,6,4,3,2] rfl ?_
 refine an ?_ ?_<;>intro h4 q4
 have hv:BD (l.length:Nat) r≠0:=by simpa using h4
 refine ao ?_
 refine TO.AK 0 rfl rfl rfl vq Be rfl CU rfl rfl ?_
 refine ao ?_
 refine Tr.ret (Fin.AE (Fin.BL rfl (AL.cell 0 rfl rfl Da CU rfl Lr) (AL.tmp rfl Lr) ?_))
 refine Al ⟨?_,?_,trivial⟩
 · exact Sx (zL hb hv) hv
 · refine int_eq ?_;exact (zL hb hv).symm
 have hv:BD (l.length:Nat) r=0:=by simpa using h4
 obtain ⟨row,hrow⟩:∃row,(Dt l.length r l.length).1=row:=⟨_,rfl⟩
 obtain ⟨kf,AJD⟩:=Jn hv l.length AO
 rw [Int.toNat_natCast,hrow] at kf AJD
 have hrq:∀q∈r,(0≤q.fst∧q.fst<l.length)∧0≤q.thn∧q.fst≠q.thn:=fun q hq=>by
  have h_:=(Cm hv).2.1 q hq
  unfold Ft at h_;rw [decide_eq_false_iff_not] at h_;omega
 refine Tr.re 15 rfl (Pr.le_of_eq (by rw [if_pos hv,Int.toNat_natCast,hrow])) ?_
 refine ac ?_
 refine ao ?_
 refine tp rfl (JA (m:=l.length) rfl underlying22 Bi G_ z3 rfl AB AB vq vq FV AA) ?_
 refine tp rfl (BO (rows:=[(0,[_]),(1,[_]),(2,[_])]) rfl nY Gq ⟨⟨rfl,F7⟩,⟨⟨rfl,F7⟩,⟨⟨rfl,⟨_,rfl,Pr.le_trans (Pr.le_trans (B4 _ _) (Pr.le_of_eq (show _=slice 1 ((List.replicate l.length (0:Int)).map fun n=>[int n]) by rw [List.map_replicate];rfl))) (Ag _)⟩⟩,trivial⟩⟩⟩ rfl) ?_
 refine TO.oq rfl rfl AB rfl (S3 (d:=List.replicate l.length 0) DF AA hrl M4) kz (fun v1=> ?_)
 refine Tl rfl rfl rfl rfl z35 Gq (fun b2=> ?_)
 refine TO.AK 0 rfl rfl rfl vq Be rfl CU rfl rfl ?_
 refine ao ?_
 refine wk [16,15,13,10,6,4,3] rfl ?_
 refine a2 ?_
 refine Tr.block (Tr.B5 3 1 (Tr.B5 3 1 (Tr.nQ _ (kk [69,68,16,13,10,6,4,3] rfl) (fun (dy:List Int) (b:List Int) (y:List Int) (k:Nat) u u2=>[(70,int ((k:Nat):Int)),(17,AV u (ints b)),(18,AV u2 (ints y))]) (fun (dy:List Int) (b:List Int) (y:List Int) (k:Nat) u u2=>Hp M0 w0 FO ([As 3 1 u2,As 3 1 u,AF true b2 35 [CF l,reqs r,is v1],Ba 3 1 (dy.map fun n=>[int n]) v1,AF true b1 35 (([.slice none 0 0,.slice none 0 0,.slice none 0 0]:List Value).map is)])) (fun (dy:List Int) (b:List Int) (y:List Int) (k:Nat)=>k≤row.length∧Ol c r T fr l.length (row.take k)=some (dy,b,y)) (fun (dy:List Int) (b:List Int) (y:List Int) (k:Nat)=>row.length-k) (List.replicate l.length 0) ([]) ([]) (0) (.slice none 0 0) (.slice none 0 0) (⟨Nat.zero_le _,rfl⟩) ⟨kq,⟨_,rfl,Bg rfl⟩,⟨_,rfl,Bg rfl⟩,trivial⟩ (fun _ _ h=>h) ?_)))
 rintro dy b y k u u2 ⟨hk0,hsc⟩
 have hS:=Tn.run (k:=k) kf (fun q hq=>by have:=hrq q hq;omega) OB how (fun i h1 h2=>SN _ (List.mem_of_getElem? (Cv (l:=T) (i:=i.toNat) AA))) hk0 hsc
 have KJ:=hS.len
 have Xj:b.length=k:=by rw [hS.hb,List.length_map,List.length_take];omega
 have hyl:y.length=k:=by rw [hS.hd,List.length_map,List.length_take];omega
 refine ac ?_
 refine Tr.seq ?_
 refine Tr.cn rfl ?_ ?_<;>intro h5 q5
 have hk:k<row.length:=AH h5
 obtain ⟨i,hi⟩:=at_ hk
 have hrg:=kf.Ql i (List.mem_of_getElem? hi)
 have mY:T[i.toNat]? =some (ZQ T i):=Cv AA
 refine ac ?_
 refine Tr.seq (Tr.block (Tr.seq (Tr.Bt (co rfl (AD rfl underlying51 Bi vq vq AA (AR hi)) ?_))))
 refine ac ?_
 refine wk [70,69,68,20,18,17,16,13,10,6,4,3] rfl ?_
 refine ac ?_
 refine wk [70,69,68,21,20,18,17,16,13,10,6,4,3] rfl ?_
 refine ac ?_
 refine wk [77,76,75,70,69,68,21,20,18,17,16,13,10,6,4,3] rfl (Tr.block (Tr.Ax _ (kk [76,75,70,69,68,20,18,17,16,13,10,6,4,3] rfl) (fun m:Nat=>[(77,int ((m:Nat):Int)),(21,int (GJ (r.take m) dy i fr))]) (fun m:Nat=>m≤(r).length) (fun m:Nat=>(r).length-m) 0 (Nat.zero_le _) ⟨kq,kz⟩ ?_))
 rintro m Nk
 refine ac ?_
 refine wk [78,77,76,75,70,69,68,21,20,18,17,16,13,10,6,4,3] rfl (Tr.seq ?_)
 refine Tr.cn rfl ?_ ?_<;>intro h6 q6
 have Es:m<(r).length:=AH h6
 obtain ⟨q,Ew⟩:=at_ Es
 refine ac ?_
 refine wk [77,76,75,70,69,68,21,20,18,17,16,13,10,6,4,3] rfl (Tr.seq (Tr.block (Tr.seq (Tr.BE (tp rfl (AD rfl underlying33 DQ vq vq AA (AR Ew)) (tp rfl (Ad rfl Iy DQ vq rfl rfl) ?_))))))
 refine Tl rfl rfl rfl rfl QN Ta (fun b3=> ?_)
 refine sf 0 23 ⟨rfl,rfl,rfl⟩ rfl rfl rfl rfl ?_
 refine ao ?_
 refine wk [77,76,75,70,69,68,23,21,20,18,17,16,13,10,6,4,3] rfl ?_
 refine ac ?_
 refine wk [84,77,76,75,70,69,68,23,21,20,18,17,16,13,10,6,4,3] rfl ?_
 refine Tr.cn rfl ?_ ?_<;>intro h7 q7
 have hqr:=hrq q (List.mem_of_getElem? Ew)
 have hz:=Cv (l:=dy) (i:=q.fst.toNat) (by have:=hS.len;omega)
 have hzb:=hS.bnd _ (List.mem_of_getElem? hz)
 refine ac ?_
 refine co rfl (CC 3 rfl (Dy rfl underlying22 Bi vq vq AA B8)) ?_
 refine co rfl (CC 3 rfl (Hq rfl DL vq (AW fun _=>rfl) (by rw [List.getElem?_map,hz];rfl) rfl)) ?_
 refine ZN rfl rfl rfl rfl AA (co rfl (OK rfl vq vq) ?_)
 refine ac ?_
 refine wk [77,76,75,70,69,68,21,20,18,17,16,13,10,6,4,3] rfl ?_
 refine ac ?_
 exact Fin.AM (m+1) ⟨Es,by omega⟩ ⟨⟨_,rfl,AG m⟩,⟨_,rfl,int_eq (by rw [Sy Ew,if_pos (by simpa using h7)])⟩,kz⟩
 refine ac ?_
 refine wk [77,76,75,70,69,68,21,20,18,17,16,13,10,6,4,3] rfl ?_
 refine ac ?_
 exact Fin.AM (m+1) ⟨Es,by omega⟩ ⟨⟨_,rfl,AG m⟩,⟨_,rfl,int_eq (by rw [Sy Ew,if_neg (by simpa using h7)])⟩,kz⟩
 have Kt:m=(r).length:=by have:=AJ h6;omega
 subst Kt
 rw [List.take_length]
 refine ac ?_
 refine wk [70,69,68,21,20,18,17,16,13,10,6,4,3] rfl ?_
 refine ac ?_
 refine co rfl (AD rfl underlying22 Bi vq vq AA (Bb mY)) ?_
 refine ac ?_
 refine co rfl (Ah rfl (YK (c:=c) (Aj:=b) (days:=y) (n:=ZQ T i) (from_:=GJ r dy i fr)) ⟨kq,Ea,Ea,kz⟩) ?_
 refine ac ?_
 refine wk [70,69,68,25,24,20,18,17,16,13,10,6,4,3] rfl ?_
 refine ac ?_
 refine wk [109,70,69,68,24,20,18,17,16,13,10,6,4,3] rfl ?_
 refine Tr.cn rfl ?_ ?_<;>intro h8 q8
 have hno:c.early b y (ZQ T i) (GJ r dy i fr)=none:=by simpa using h8
 refine ao ?_
 refine TO.AK 4 rfl rfl rfl vq Be rfl CU rfl rfl ?_
 refine ao ?_
 refine wk [11,10] rfl (Tr.ret (Fin.AE (Fin.AU (Fin.AE (Fin.AE (Fin.AU (Fin.AE (Fin.BL rfl (AL.cell 4 rfl rfl Da CU rfl Lr) (AL.tmp rfl Lr) ?_))))))))
 refine Al ⟨?_,?_,trivial⟩
 · exact Sx (sH hb hv eF) AB
 · refine int_eq ?_;exact (sH hb hv eF).symm
 obtain ⟨x,hx⟩:∃x,c.early b y (ZQ T i) (GJ r dy i fr)=some x:=Option.isSome_iff_exists.1 (by simpa using h8)
 have b_:=Cv (l:=dy) (i:=i.toNat) (by have:=hS.len;omega)
 refine Tr.re 24 rfl (int_eq (by rw [hx])) ?_
 refine ac ?_
 refine wk [70,69,68,24,20,18,17,16,13,10,6,4,3] rfl ?_
 refine ao ?_
 refine tp rfl (CC 3 rfl (Dy rfl underlying22 Bi vq vq AA B8)) ?_
 refine TO.DP 3 rfl rfl (Ca rfl rfl vq F7 Bi rfl (AW fun _=>rfl) (by rw [List.getElem?_map,b_];rfl) AB (show _=(dy.set i.toNat x).map _ by rw [List.map_set];rfl)) ?_
 refine ao ?_
 refine wk [70,69,68,24,20,18,17,16,13,10,6,4,3] rfl ?_
 refine ao ?_
 refine tp rfl (AD rfl underlying22 Bi vq vq AA (Bb mY)) ?_
 refine ao ?_
 refine TO.Df 1 rfl rfl AB (B9 rfl rfl rfl rfl underlying22 Bi G_ z3 Ea Db (Ay BK FC)) (fun v2=> ?_)
 refine ao ?_
 refine TO.Df 0 rfl rfl AB (B9 rfl rfl rfl rfl underlying22 Bi G_ z3 Ea Db (Ay BK FC)) (fun v3=> ?_)
 refine ao ?_
 refine wk [70,69,68,18,17,16,13,10,6,4,3] rfl ?_
 refine ac ?_
 exact Fin.uW (dy.set i.toNat x) (b++[ZQ T i]) (y++[x]) (k+1) v2 v3 (⟨⟨hk,w4 hi hsc hx⟩,by omega⟩) ⟨⟨_,rfl,AG k⟩,⟨_,rfl,BB Dm⟩,⟨_,rfl,BB Dm⟩,kz⟩ (fun _ _ h=>h)
 have hkr:k=row.length:=by have:=AJ h5;omega
 rw [hkr,List.take_length] at hsc
 have kg:XM c l r fr=some (dy,b,y):=by unfold XM;rw [hT,hrow];exact hsc
 refine ac ?_
 refine Tr.seq (Tr.CA 2 3 2 rfl rfl AB rfl Lr (AW fun _=>rfl) ?_)
 refine ao ?_
 refine TO.AK 4 rfl rfl rfl vq Be rfl CU rfl rfl ?_
 refine ao ?_
 refine wk [11,10] rfl (Tr.ret (Fin.BL rfl (AL.cell 4 rfl rfl Da CU rfl Lr) (AL.tmp rfl Lr) ?_))
 refine Al ⟨?_,?_,trivial⟩
 · exact xW (zM hb hv kg) kg
 · refine int_eq ?_;exact (zM hb hv kg).symm
theorem tB {l:List Bm} {n:Nat} (hc:∀c∈l,c.Cb.fits∧c.Cb.small):∀(s:List Int) (Bu:List Bw),(∀x∈Bu,x.sz n)→(∀x∈(Of l s Bu).1,x.sz (n+s.length))∧(Of l s Bu).1.length=Bu.length
 |[],Bu,h=>⟨h,rfl⟩
 |i::s,Bu,h=>by
  rw [Of]
  split
  · exact ⟨fun x hx=>(h x hx).le AA,rfl⟩
  next c mN=>
  by_cases ha:(Md Bu c).2=0
  ·
   rw [if_pos ha]
   have:=tB (n:=n+1) hc s (Md Bu c).1 (qO h (hc c (List.mem_of_getElem? mN)))
   rw [fy] at this
   exact ⟨fun x hx=>by rw [List.length_cons,show n+(s.length+1)=n+1+s.length by omega];exact this.1 x hx,this.2⟩
  · rw [if_neg ha];exact ⟨fun x hx=>(h x hx).le AA,rfl⟩
theorem hO {e:D5} (hz:e.sz n) (hc:∀c∈l,c.Cb.fits∧c.Cb.small):(WV e l s).1.sz (n+s.length):=by
 have h0:GS.sz (n+s.length):=⟨(fun x hx=>by cases hx),(fun x hx=>by cases hx),Nat.zero_le _,Nat.zero_le _,Nat.zero_le _⟩
 obtain ⟨h1,h2⟩:=tB hc s e.Bu hz.Bu
 unfold WV
 repeat' split
 · exact h0
 · exact h0
 · exact h0
 · exact ⟨h1,hz.items,by show (Of l s e.Bu).1.length≤_;rw [h2];exact hz.le,hz.lg,hz.li⟩
 · exact h0
theorem PT.sz {e:D5} (h:PT e):e.sz 5:=by
 have h3:=h.n3;have g3:=h.g3;have i2:=h.i2
 refine ⟨fun x hx=> ?_,fun x hx=>⟨by have:=(h.it x hx).name;unfold maxLen;omega,by have:=(h.it x hx).links;omega⟩,by omega,by omega,by omega⟩
 obtain ⟨i,hi⟩:=List.getElem?_of_mem hx
 exact wO (h.snd i x hi)
theorem Yt {e:D5} {i:Int}:(∀x∈(KS e l i).1,0≤x∧x<(l.length:Nat))∧(KS e l i).1.length≤24:=by grind [KS,Pv]
theorem cA {n:Int} {o:List (List Int)} {x:List Int} (h:(∀s∈o,∀y∈s,0≤y∧y<n)∧∀s∈o,s.length≤4096) (hx:∀y∈x,0≤y∧y<n) (hl:x.length≤4096):(∀s∈o++[x],∀y∈s,0≤y∧y<n)∧∀s∈o++[x],s.length≤4096:=by grind
theorem k8 {n:Int} {o:List Int} {x:Int} (h:∀y∈o,0≤y∧y<n) (hx:0≤x∧x<n):∀y∈o++[x],0≤y∧y<n:=by grind
theorem k9 {e:D5} {i:Int} (hz:e.sz n) (hn:n≤800000) (hrl:r.length≤1000000):A0 prog 251 [agg (CV e),J_ l r d,int i] (Cp.ex fun z:List (List Int)×Int=>fact (MC ((l.length:Nat):Int) z.1) (C_ [sets z.1,int z.2])):=by
 refine fo func251 rfl ⟨rfl,rfl⟩ fun M0 w0=> ?_
 refine a2 ?_
 refine co rfl (Jd (Tu hz hn) rfl rfl rfl rfl) ?_
 refine ac ?_
 refine wk [8,4] rfl (Tr.seq ?_)
 obtain ⟨rel,ABc⟩:∃rel,(KS e l i).1=rel:=⟨_,rfl⟩
 have kf:∀x∈rel,0≤x∧x<(l.length:Nat):=ABc ▸ Yt.1
 have AKW:rel.length≤24:=ABc ▸ Yt.2
 refine Tr.re 8 rfl (Pr.le_of_eq (by rw [ABc])) ?_
 refine ap ?_
 refine tp rfl (Jd (k7 (n:=((l.length:Nat):Int)) (l:=r) (s:=rel) hrl) rfl rfl rfl rfl) ?_
 refine TO.ex 35 rfl (fun z1=>TO.fact 35 rfl fun Ex=> ?_)
 refine ap ?_
 refine wk [10,8] rfl ?_
 refine ap ?_
 refine tp rfl (Bq (ku (n:=((rel.length:Nat):Int)) (l:=z1.1) AA) rfl rfl rfl) ?_
 refine TO.ex 42 rfl (fun z2=>TO.fact 42 rfl fun JN=> ?_)
 refine ap ?_
 refine ac ?_
 refine wk [46,13,12,8] rfl ?_
 refine Tr.cn rfl ?_ ?_<;>intro h1 q1
 refine ac ?_
 refine Tr.ret (Fin.AE (Fin.BL rfl (AL.tmp rfl Lr) (AL.tmp rfl Lr) ?_))
 · exact Zj
 have hl4:=JN.len
 refine a3 ?_
 refine Tr.block (Tr.B5 51 1 (Tr.DZ _ (kk [49,48,8] rfl) (fun (o:List (List Int)) (k:Nat) u=>[(50,int ((k:Nat):Int)),(14,AV u (sets o))]) (fun (o:List (List Int)) (k:Nat) u=>Hp M0 w0 FO ([As 51 1 u])) (fun (o:List (List Int)) (k:Nat)=>(k≤z2.1.length∧o.length=k)∧(∀s∈o,∀y∈s,0≤y∧y<((l.length:Nat):Int))∧∀s∈o,s.length≤4096) (fun (o:List (List Int)) (k:Nat)=>z2.1.length-k) ([]) (0) (.slice none 0 0) (⟨⟨Nat.zero_le _,rfl⟩,fun s h=>Fv,fun s h=>Fv⟩) ⟨kq,⟨_,rfl,Bg rfl⟩,trivial⟩ (fun _ _ h=>h) ?_))
 rintro o k u ⟨⟨hk0,mM⟩,hou⟩
 refine ac ?_
 refine Tr.seq ?_
 refine Tr.cn rfl ?_ ?_<;>intro h2 q2
 have hk:k<z2.1.length:=AH h2
 obtain ⟨s,hs⟩:=at_ hk
 have kg:=JN.Ql s (List.mem_of_getElem? hs)
 have hsw:=JN.wid s (List.mem_of_getElem? hs)
 refine ac ?_
 refine Tr.seq (Tr.block (Tr.seq (Tr.Bt (co rfl (AD rfl underlying99 HH vq vq AA (AR hs)) ?_))))
 refine a3 ?_
 refine Tr.block (Tr.B5 3 1 (Tr.DZ _ (kk [55,54,50,49,48,14,8] rfl) (fun (x:List Int) (m:Nat) u2=>[(56,int ((m:Nat):Int)),(17,AV u2 (ints x))]) (fun (x:List Int) (m:Nat) u2=>Hp M0 w0 FO ([As 3 1 u2,As 51 1 u])) (fun (x:List Int) (m:Nat)=>(m≤s.length∧x.length=m)∧∀y∈x,0≤y∧y<((l.length:Nat):Int)) (fun (x:List Int) (m:Nat)=>s.length-m) ([]) (0) (.slice none 0 0) (⟨⟨Nat.zero_le _,rfl⟩,fun s h=>Fv⟩) ⟨kq,⟨_,rfl,Bg rfl⟩,trivial⟩ (fun _ _ h=>h) ?_))
 rintro x m u2 ⟨⟨hm0,hxl⟩,hxr⟩
 refine ac ?_
 refine Tr.seq ?_
 refine Tr.cn rfl ?_ ?_<;>intro h3 q3
 have hm:m<s.length:=AH h3
 obtain ⟨i2,hi2⟩:=at_ hm
 have hir:=kg i2 (List.mem_of_getElem? hi2)
 obtain ⟨y,hy⟩:=at_ (l:=rel) (k:=i2.toNat) AA
 have hyr:=kf y (List.mem_of_getElem? hy)
 refine ac ?_
 refine Tr.seq (Tr.block (Tr.seq (Tr.Bt (co rfl (AD rfl underlying51 Bi vq vq AA (AR hi2)) ?_))))
 refine ac ?_
 refine ap ?_
 refine tp rfl (AD rfl underlying51 Bi vq vq AA (Bb hy)) ?_
 refine ap ?_
 refine TO.Df 0 rfl rfl AB (B9 rfl rfl rfl rfl underlying51 Bi G_ z3 Ea Db (Ay BK FC)) (fun v1=> ?_)
 refine ap ?_
 refine wk [56,55,54,50,49,48,17,14,8] rfl ?_
 refine ac ?_
 exact Fin.Bk (x++[y]) (m+1) v1 (⟨⟨⟨by omega,by simp;omega⟩,k8 hxr hyr⟩,by omega⟩) ⟨⟨_,rfl,AG m⟩,⟨_,rfl,BB Dm⟩,kz⟩ (fun _ _ h=>h)
 have hme:=AJ h3
 refine ac ?_
 refine ap ?_
 refine tp rfl (Af (xs:=[.tmp 69]) (rows:=[[_]]) rfl rfl underlying99 HH z51 rfl AB ⟨⟨An,⟨_,rfl,Pr.le_trans (Ao _ _) (Ag _)⟩⟩,trivial⟩ AB) ?_
 refine TO.Df 1 rfl rfl AB (B9 rfl rfl rfl rfl underlying99 HH Xe z51 Ea Db (Ay BK FC)) (fun v2=> ?_)
 refine ap ?_
 refine wk [50,49,48,14,8] rfl ?_
 refine ac ?_
 refine Fin.drop 0 ?_
 exact Fin.Bk (o++[x]) (k+1) v2 (⟨⟨⟨by omega,by simp;omega⟩,cA hou hxr AA⟩,by omega⟩) ⟨⟨_,rfl,AG k⟩,⟨_,rfl,BB Dm⟩,kz⟩ (fun _ _ h=>h)
 have cz:=AJ h2
 refine a2 ?_
 refine Tr.ret (Fin.BL rfl (AL.tmp rfl Lr) (AL.tmp rfl Lr) ?_)
 · exact Az (_,_) (BC ⟨hou.1,(by show o.length≤4096;omega),hou.2⟩ (Al ⟨Ao _ _,Lr,trivial⟩))
theorem Yu {e:D5} (hf:e.fits) (hrl:r.length≤1000000):A0 prog 214 [agg (CV e),J_ l r d] (Cp.ex fun z:Int=>fact (z=0→Fl e=true∧Nz e.Bu.length l r d) (int z)):=by
 refine fo func214 rfl ⟨rfl,rfl⟩ fun M0 w0=> ?_
 refine a2 ?_
 refine co rfl (CM (EE hf) rfl rfl) ?_
 refine an ?_ ?_<;>intro h1 q1
 refine a2 ?_
 · exact Pz
 have V3:Fl e=true:=by cases h_:Fl e with|true=>rfl|false=>exact absurd h1 NB
 refine ac ?_
 refine ap ?_
 refine tp rfl (Bq (s_ hrl) rfl rfl rfl) ?_
 refine TO.ex 10 rfl (fun z1=>TO.fact 10 rfl fun Ex=> ?_)
 refine ap ?_
 · repeat' first|exact Az _ (BC (fun h_=>absurd h_ AB) Lr)|exact Az 0 (BC (fun _=>⟨V3,Ex Bp⟩) Lr)|refine ac ?_|(refine Tr.cn rfl ?_ ?_<;>intro h q)
def tC (d s:List Int) (fr:Int):Int:=s.foldl (fun a i=>max a (d.getD i.toNat 0)) fr
theorem k_ {i:Int} (h:s[k]? =some i):tC d (s.take (k+1)) fr=max (tC d (s.take k) fr) (d.getD i.toNat 0):=by unfold tC;rw [List.take_add_one,h,List.foldl_append];rfl
theorem Mq (hs:∀i∈s,0≤i∧i<(d.length:Nat)):A0 prog 216 [J_ l r d,ints s,int fr] (int (tC d s fr)):=by
 refine fo func216 rfl ⟨rfl,rfl⟩ fun M0 w0=>(Tr.CG 1 rfl fun ER=> ?_)
 refine a3 ?_
 refine Tr.block (Tr.Ax _ (kk [12,11,3] rfl) (fun k:Nat=>[(13,int ((k:Nat):Int)),(7,int (tC d (s.take k) fr))]) (fun k:Nat=>k≤(s).length) (fun k:Nat=>(s).length-k) 0 (Nat.zero_le _) ⟨kq,kz⟩ ?_)
 rintro k BJ
 refine ac ?_
 refine Tr.seq ?_
 refine Tr.cn rfl ?_ ?_<;>intro h1 q1
 have AZ:k<(s).length:=AH h1
 obtain ⟨i,AX⟩:=at_ AZ
 have hir:=hs i (List.mem_of_getElem? AX)
 have b_:=Cv (l:=d) (i:=i.toNat) AA
 refine ac ?_
 refine Tr.seq (Tr.block (Tr.seq (Tr.Bt (co rfl (AD rfl underlying51 Bi vq vq AA (AR AX)) ?_))))
 refine a2 ?_
 refine co rfl (AD rfl underlying22 Bi vq vq AA (Bb b_)) (co rfl (Iv rfl DL rfl) (co rfl (OK rfl vq vq) ?_))
 refine ac ?_
 refine wk [13,12,11,7,3] rfl ?_
 refine ac ?_
 exact Fin.AM (k+1) ⟨AZ,by omega⟩ ⟨⟨_,rfl,AG k⟩,⟨_,rfl,int_eq (by rw [k_ AX])⟩,kz⟩
 have A8:k=(s).length:=by have:=AJ h1;omega
 subst A8
 rw [List.take_length]
 refine a3 ?_
 · exact Lr
structure AJE (n:Int) (L:List (List (List Int))):Prop where
 Ql:∀t∈L,MC n t
 len:L.length≤1000000
abbrev zO (L:List (List (List Int))):Pr:=slice 1 (L.map fun t=>[sets t])
theorem lA {n:Int} {L:List (List (List Int))} {t:List (List Int)} (h:∀t∈L,MC n t) (ht:MC n t):∀u∈L++[t],MC n u:=by grind
theorem Yv {e:D5} (hz:e.sz n) (hn:n≤800000) (hrl:r.length≤1000000):A0 prog 215 [agg (CV e),J_ l r d] (Cp.ex fun z:List (List (List Int))×Int=>fact (AJE ((l.length:Nat):Int) z.1) (C_ [zO z.1,int z.2])):=by
 refine fo func215 rfl ⟨rfl,rfl⟩ fun M0 w0=> ?_
 have hlg:=hz.lg
 iterate 4 refine ac ?_
 refine Tr.block (Tr.B5 99 1 (Tr.F4 _ (kk [13,3,2] rfl) (fun (o:List (List (List Int))) (m:Int) (k:Nat) u=>[(14,int ((k:Nat):Int)),(7,int m),(6,AV u (zO o))]) (fun (o:List (List (List Int))) (m:Int) (k:Nat) u=>Hp M0 w0 FO ([As 99 1 u])) (fun (o:List (List (List Int))) (m:Int) (k:Nat)=>(k≤e.BX.length∧o.length=k)∧(0≤m∧m≤4096)∧∀t∈o,MC ((l.length:Nat):Int) t) (fun (o:List (List (List Int))) (m:Int) (k:Nat)=>e.BX.length-k) ([]) (0) (0) (.slice none 0 0) (⟨⟨Nat.zero_le _,rfl⟩,⟨by omega,by omega⟩,fun s h=>Fv⟩) ⟨kq,kq,⟨_,rfl,Bg rfl⟩,trivial⟩ (fun _ _ h=>h) ?_))
 rintro o m k u ⟨⟨hk0,mM⟩,hm,hou⟩
 refine ac ?_
 refine Tr.seq ?_
 refine Tr.cn rfl ?_ ?_<;>intro h1 q1
 have hk:k<e.BX.length:=AH h1
 refine a2 ?_
 refine ap ?_
 refine tp rfl (Jd (k9 hz hn hrl) rfl rfl rfl rfl) ?_
 refine TO.ex 21 rfl (fun z1=>TO.fact 21 rfl fun Ex=> ?_)
 have hzl:=Ex.len
 refine ap ?_
 refine wk [14,13,10,9,7,6,3,2] rfl ?_
 refine ac ?_
 refine ag ?_ ?_<;>intro h2 q2
 refine ac ?_
 refine wk [33,14,13,9,7,6,3,2] rfl ?_
 refine ac ?_
 refine Tr.ret (Fin.AE (Fin.AU (Fin.AE (Fin.AE (Fin.AU (Fin.AE (Fin.BL rfl (AL.tmp rfl Lr) (AL.tmp rfl Lr) ?_)))))))
 · exact mh
 refine ac ?_
 refine wk [33,14,13,9,7,6,3,2] rfl ?_
 refine Tr.cn rfl ?_ ?_<;>intro h3 q3
 refine ac ?_
 refine Tr.ret (Fin.AE (Fin.AU (Fin.AE (Fin.AE (Fin.AU (Fin.AE (Fin.BL rfl (AL.tmp rfl Lr) (AL.tmp rfl Lr) ?_)))))))
 · exact mh
 refine ac ?_
 refine ap ?_
 refine TO.Df 0 rfl rfl AB (B9 rfl rfl rfl rfl underlying274 uc AHa z99 Ea Db (Ay BK FC)) (fun v1=> ?_)
 refine ap ?_
 refine ac ?_
 exact Fin.EZ (o++[z1.1]) (m+((z1.1.length:Nat):Int)) (k+1) v1 (⟨⟨⟨by omega,by simp;omega⟩,⟨by omega,by omega⟩,lA hou Ex⟩,by omega⟩) ⟨⟨_,rfl,AG k⟩,kq,⟨_,rfl,BB Dm⟩,kz⟩ (fun _ _ h=>h)
 have cz:=AJ h1
 refine a2 ?_
 refine Tr.ret (Fin.BL rfl (AL.tmp rfl Lr) (AL.tmp rfl Lr) ?_)
 · exact Az (_,_) (BC ⟨hou,(by show o.length≤1000000;omega)⟩ (Al ⟨Ao _ _,Lr,trivial⟩))
abbrev ABd:Pr:=agg [anyI,anyI]
theorem x6 {φ:Prop}:Pr.le (Cp.ex fun z:Int×Int×Int=>fact φ (C_ [agg [int z.1,int z.2.1],int z.2.2])) (C_ [ABd,anyI]):=fun M w v ⟨z,_,h⟩=>Al (ps:=[agg [int z.1,int z.2.1],int z.2.2]) (qs:=[ABd,anyI]) ⟨BR (ps:=[int z.1,int z.2.1]) (qs:=[anyI,anyI]) ⟨Az _ (Pr.le_refl _),Az _ (Pr.le_refl _),trivial⟩,Az _ (Pr.le_refl _),trivial⟩ M w v h
abbrev zP:Pr:=Cp.ex fun z:List Int=>fact (z.length≤1000000) (ints z)
theorem ABe:Pr.le (Cp.ex fun z:List Int×Int=>fact (z.1.length≤1000) (C_ [ints z.1,int z.2])) (C_ [zP,anyI]):=fun M w v ⟨z,hz,h⟩=>Al (ps:=[ints z.1,int z.2]) (qs:=[zP,anyI]) ⟨Az z.1 (BC AA (Pr.le_refl _)),Az _ (Pr.le_refl _),trivial⟩ M w v h
theorem cB {e:D5} {i OZ:Int} (hz:e.sz n) (hn:n≤800000) (hc:∀c∈l,c.Cb.fits∧c.Cb.small) (hs:∀i∈s,0≤i∧i<(d.length:Nat)) (YQ:s.length≤4096):A0 prog 249 [agg (CV e),J_ l r d,int i,ints s,int fr,int OZ] (C_ [ABd,Eb]):=by
 refine fo func249 rfl ⟨rfl,rfl⟩ fun M0 w0=> ?_
 have hxf:=(hO (l:=l) (s:=s) hz hc).fits AA
 refine Tr.seq (Tr.BE (tp rfl (BU rfl Be) (tp rfl (BU rfl Be) ?_)))
 refine Tl rfl rfl rfl rfl KF F6 (fun b1=> ?_)
 refine ao ?_
 refine ao ?_
 refine tp rfl (Jd (Mp hz hn hc) rfl rfl rfl rfl) ?_
 refine ao ?_
 refine Tl rfl rfl rfl rfl z31 Iw (fun b2=> ?_)
 refine sf 0 14 ⟨rfl,rfl,rfl⟩ rfl rfl rfl rfl ?_
 refine ao ?_
 refine wk [15,14,12,7,5,4,3,2] rfl ?_
 refine an ?_ ?_<;>intro h1 q1
 refine ao ?_
 refine TO.AK 0 rfl rfl rfl vq Be rfl CO rfl rfl ?_
 refine ao ?_
 refine Tr.ret (Fin.AE (Fin.BL rfl (AL.cell 0 rfl rfl DM CO rfl Lr) (AL.tmp rfl Lr) ?_))
 refine Al ⟨?_,?_,trivial⟩
 · exact BR ⟨Az _ Lr,Az _ Lr,trivial⟩
 · exact Ar
 refine ac ?_
 refine Tr.seq (Tr.pad (Tr.rx ?_))
 refine ax ?_
 refine xo rfl (fun _=>Jd (Mq hs) rfl rfl rfl rfl) (xm rfl (xo rfl (fun _=>Ac.le (ZO (Pc hxf) rfl rfl rfl rfl rfl) x6) ?_))
 refine ax ?_
 refine Cx.ef 0 rfl rfl AB (Bx rfl rfl AB rfl KF F6) (Cx.DP 0 rfl rfl (CZ rfl rfl rfl rfl Be CO rfl rfl) (xm rfl ?_))
 refine Cx.nil ⟨by kernel_rfl,?_⟩
 refine Aw.open_ 0 16 rfl rfl (fun v1=> ?_)
 refine Aw.done UL (Fin.LR 16 0 _ rfl rfl (fun _=>rfl) (fun b3=> ?_))
 refine Fin.go (wk [17,16,12] rfl ?_)
 refine ao ?_
 refine tp rfl (sQ rfl (VL.le vq bh) (VL.le vq (Dc _ _))) (TO.AK 1 rfl rfl rfl vq Be rfl CO rfl rfl ?_)
 refine ao ?_
 refine Tr.drop 0 (Tr.ret (Fin.BL rfl (AL.cell 0 rfl rfl DM CO rfl Lr) (AL.tmp rfl Lr) ?_))
 refine Al ⟨?_,?_,trivial⟩
 · exact Lr
 · exact Lr
abbrev tD (c:Int×List Int):List Pr:=[int c.1,ints c.2,anyI,anyI]
abbrev tE:Pr:=agg [Cp.ex fun L:List (Int×List Int)=>slice 4 (L.map tD)]
abbrev AFn:Pr:=agg [anyI,Cp.ex fun s:List Int=>ints s,anyI,anyI]
theorem EH:Pr.le (agg [is (.slice none 0 0)]) tE:=BR ⟨Az [] (AP 4),trivial⟩
theorem Mx:Pr.le (agg [is (.int .i64 0),is (.slice none 0 0),is (.int .i64 0),is (.int .i64 0)]) AFn:=BR ⟨Az _ (Pr.le_refl _),Az [] (AP 1),Az _ (Pr.le_refl _),Az _ (Pr.le_refl _),trivial⟩
theorem lB {e:D5} {OZ:Int} (hz:e.sz n) (hn:n≤800000) (hc:∀c∈l,c.Cb.fits∧c.Cb.small) (hrl:r.length≤1000000):A0 prog 213 [agg (CV e),J_ l r d,int fr,int OZ] (Cp.ex fun z:Int=>fact (z=0→Fl e=true∧Nz e.Bu.length l r d) (C_ [tE,AFn,Eb,int z])):=by
 refine fo func213 rfl ⟨rfl,rfl⟩ fun M0 w0=> ?_
 have hf:=hz.fits AA
 refine Tr.seq (Tr.BE (tp rfl (BU rfl Be) (tp rfl (BU rfl Be) ?_)))
 refine Tl rfl rfl rfl rfl z107 HA (fun b1=> ?_)
 refine Tl rfl rfl rfl rfl vN Rp (fun b2=> ?_)
 refine ao ?_
 refine ao ?_
 refine tp rfl (Bq (Yu hf hrl) rfl rfl rfl) ?_
 refine TO.ex 24 rfl (fun z1=>TO.fact 24 rfl fun Ex=> ?_)
 refine ao ?_
 refine wk [12,9,8,5,4,3,2] rfl ?_
 refine an ?_ ?_<;>intro h1 q1
 refine ao ?_
 refine TO.AK 1 rfl rfl rfl vq Be rfl B0 rfl rfl (TO.AK 0 rfl rfl rfl vq Be rfl GH rfl rfl ?_)
 refine ao ?_
 refine wk [11,10,9,8] rfl (Tr.ret (Fin.AE (Fin.PZ rfl (AL.cell 1 rfl rfl C2 B0 rfl Lr) (AL.cell 0 rfl rfl Kh GH rfl Lr) (AL.tmp rfl Lr) (AL.tmp rfl Lr) ?_)))
 · exact Az z1 (BC (fun h_=>absurd h_ AA) (Al ⟨EH,Mx,Az _ Lr,Lr,trivial⟩))
 have hz0:z1=0:=by have:=q1;omega
 obtain ⟨V3,hfp⟩:=Ex hz0
 have KJ:=hfp.dl
 refine ac ?_
 refine ag ?_ ?_<;>intro h2 q2
 refine ac ?_
 refine wk [43,9,8,5,4,3,2] rfl (Tr.cond rfl (fun _=> ?_) (fun h=>nomatch h))
 refine Tr.seq (Tr.BE (tp rfl (BO (rows:=[]) rfl ew HA trivial rfl) (tp rfl (BO (rows:=[]) rfl fC Rp trivial rfl) (TO.AK 1 rfl rfl rfl vq Be rfl B0 rfl rfl (TO.AK 0 rfl rfl rfl vq Be rfl GH rfl rfl ?_)))))
 refine ao ?_
 refine Tr.ret (Fin.AE (Fin.PZ rfl (AL.cell 1 rfl rfl C2 B0 rfl Lr) (AL.cell 0 rfl rfl Kh GH rfl Lr) (AL.tmp rfl Lr) (AL.tmp rfl Lr) ?_))
 · exact U9
 refine ag ?_ ?_<;>intro h3 q3
 refine ac ?_
 refine wk [43,9,8,5,4,3,2] rfl (Tr.cond rfl (fun _=> ?_) (fun h=>nomatch h))
 refine Tr.seq (Tr.BE (tp rfl (BO (rows:=[]) rfl ew HA trivial rfl) (tp rfl (BO (rows:=[]) rfl fC Rp trivial rfl) (TO.AK 1 rfl rfl rfl vq Be rfl B0 rfl rfl (TO.AK 0 rfl rfl rfl vq Be rfl GH rfl rfl ?_)))))
 refine ao ?_
 refine Tr.ret (Fin.AE (Fin.PZ rfl (AL.cell 1 rfl rfl C2 B0 rfl Lr) (AL.cell 0 rfl rfl Kh GH rfl Lr) (AL.tmp rfl Lr) (AL.tmp rfl Lr) ?_))
 · exact U9
 refine ag ?_ ?_<;>intro h4 q4
 refine ac ?_
 refine wk [43,9,8,5,4,3,2] rfl (Tr.cond rfl (fun _=> ?_) (fun h=>nomatch h))
 refine Tr.seq (Tr.BE (tp rfl (BO (rows:=[]) rfl ew HA trivial rfl) (tp rfl (BO (rows:=[]) rfl fC Rp trivial rfl) (TO.AK 1 rfl rfl rfl vq Be rfl B0 rfl rfl (TO.AK 0 rfl rfl rfl vq Be rfl GH rfl rfl ?_)))))
 refine ao ?_
 refine Tr.ret (Fin.AE (Fin.PZ rfl (AL.cell 1 rfl rfl C2 B0 rfl Lr) (AL.cell 0 rfl rfl Kh GH rfl Lr) (AL.tmp rfl Lr) (AL.tmp rfl Lr) ?_))
 · exact U9
 refine ac ?_
 refine wk [43,9,8,5,4,3,2] rfl ?_
 refine Tr.cn rfl ?_ ?_<;>intro h5 q5
 refine ao ?_
 refine TO.AK 1 rfl rfl rfl vq Be rfl B0 rfl rfl (TO.AK 0 rfl rfl rfl vq Be rfl GH rfl rfl ?_)
 refine ao ?_
 refine Tr.ret (Fin.AE (Fin.PZ rfl (AL.cell 1 rfl rfl C2 B0 rfl Lr) (AL.cell 0 rfl rfl Kh GH rfl Lr) (AL.tmp rfl Lr) (AL.tmp rfl Lr) ?_))
 · exact U9
 refine ac ?_
 refine ao ?_
 refine tp rfl (Bq (Yv hz hn hrl) rfl rfl rfl) ?_
 refine TO.ex 49 rfl (fun z2=>TO.fact 49 rfl fun JN=> ?_)
 refine ao ?_
 refine wk [14,13,9,8,5,4,3,2] rfl ?_
 refine an ?_ ?_<;>intro h6 q6
 refine ao ?_
 refine TO.AK 1 rfl rfl rfl vq Be rfl B0 rfl rfl (TO.AK 0 rfl rfl rfl vq Be rfl GH rfl rfl ?_)
 refine ao ?_
 refine wk [11,10,9,8] rfl (Tr.ret (Fin.AE (Fin.PZ rfl (AL.cell 1 rfl rfl C2 B0 rfl Lr) (AL.cell 0 rfl rfl Kh GH rfl Lr) (AL.tmp rfl Lr) (AL.tmp rfl Lr) ?_)))
 · exact Az _ (BC (fun _=>⟨V3,hfp⟩) (Al ⟨EH,Mx,Az _ Lr,Lr,trivial⟩))
 refine ac ?_
 refine Tr.seq (Tr.BE ?_)
 refine Tl rfl rfl rfl rfl z107 HA (fun b3=> ?_)
 refine ao ?_
 refine ac ?_
 refine wk [59,58,57,15,9,8,5,4,3,2] rfl (Tr.block (Tr.G9 0 [AV (.slice none 0 0) (slice 4 (([]:List (Int×List Int)).map tD))] rfl ⟨Bg rfl,trivial⟩ (Tr.B5 270 4 (Tr.DZ _ (kk [58,57,15,9,8,5,4,3,2] rfl) (fun (q:List (Int×List Int)) (k:Nat) v=>[(59,int ((k:Nat):Int))]) (fun (q:List (Int×List Int)) (k:Nat) v=>Hp M0 w0 FO ([As 270 4 v,AF true b3 107 [AV v (slice 4 (q.map tD))],AF true b2 270 (([.int .i64 0,.slice none 0 0,.int .i64 0,.int .i64 0]:List Value).map is),AF true b1 107 (([.slice none 0 0]:List Value).map is)])) (fun (q:List (Int×List Int)) (k:Nat)=>k≤z2.1.length∧q.length≤4096*k) (fun (q:List (Int×List Int)) (k:Nat)=>z2.1.length-k) ([]) (0) (.slice none 0 0) (⟨Nat.zero_le _,by simp⟩) kz (fun _ _ h=>h) ?_))))
 rintro q k v ⟨hk0,hql⟩
 refine ac ?_
 refine Tr.seq ?_
 refine Tr.cn rfl ?_ ?_<;>intro h7 q7
 have hk:k<z2.1.length:=AH h7
 obtain ⟨t,ht⟩:=at_ hk
 have hts:=JN.Ql t (List.mem_of_getElem? ht)
 have htl:=hts.len
 have hzl:=JN.len
 refine a2 ?_
 refine co rfl (AD rfl underlying274 uc vq vq AA (AR ht)) ?_
 refine ac ?_
 refine wk [59,58,57,17,16,15,9,8,5,4,3,2] rfl ?_
 refine ac ?_
 refine wk [66,65,64,59,58,57,16,15,9,8,5,4,3,2] rfl (Tr.block (Tr.DZ _ (kk [65,64,59,58,57,16,15,9,8,5,4,3,2] rfl) (fun (q2:List (Int×List Int)) (m:Nat) u=>[(66,int ((m:Nat):Int))]) (fun (q2:List (Int×List Int)) (m:Nat) u=>Hp M0 w0 FO ([As 270 4 u,AF true b3 107 [AV u (slice 4 (q2.map tD))],AF true b2 270 (([.int .i64 0,.slice none 0 0,.int .i64 0,.int .i64 0]:List Value).map is),AF true b1 107 (([.slice none 0 0]:List Value).map is)])) (fun (q2:List (Int×List Int)) (m:Nat)=>m≤t.length∧q2.length≤4096*k+m) (fun (q2:List (Int×List Int)) (m:Nat)=>t.length-m) (q) (0) v (⟨Nat.zero_le _,by omega⟩) kz (fun _ _ h=>h) ?_))
 rintro q2 m u ⟨hm0,AKX⟩
 refine ac ?_
 refine wk [67,66,65,64,59,58,57,16,15,9,8,5,4,3,2] rfl (Tr.seq ?_)
 refine Tr.cn rfl ?_ ?_<;>intro h8 q8
 have hm:m<t.length:=AH h8
 obtain ⟨x,hx⟩:=at_ hm
 have hsd:∀i∈x,0≤i∧i<(d.length:Nat):=fun i hi=>by have:=hts.Ql x (List.mem_of_getElem? hx) i hi;omega
 have hsw:=hts.wid x (List.mem_of_getElem? hx)
 refine ac ?_
 refine wk [66,65,64,59,58,57,16,15,9,8,5,4,3,2] rfl (Tr.seq (Tr.block (Tr.seq (Tr.Bt (co rfl (AD rfl underlying99 HH vq vq AA (AR hx)) ?_)))))
 refine ac ?_
 refine wk [66,65,64,59,58,57,19,16,15,9,8,5,4,3,2] rfl ?_
 refine ac ?_
 refine co rfl (Jd (Mq hsd) rfl rfl rfl rfl) ?_
 refine ac ?_
 refine wk [75,66,65,64,59,58,57,19,16,15,9,8,5,4,3,2] rfl ?_
 refine Tr.cn rfl ?_ ?_<;>intro h9 q9
 refine ac ?_
 refine wk [66,65,64,59,58,57,16,15,9,8,5,4,3,2] rfl ?_
 refine ac ?_
 exact Fin.Bk (q2) (m+1) u (⟨⟨by omega,by omega⟩,by omega⟩) ⟨⟨_,rfl,AG m⟩,kz⟩ (fun _ _ h=>h)
 refine ac ?_
 refine wk [66,65,64,59,58,57,19,16,15,9,8,5,4,3,2] rfl ?_
 refine ao ?_
 refine tp rfl (Ah rfl (cB hz hn hc hsd hsw) ⟨kq,kz⟩) ?_
 refine ao ?_
 refine Tl rfl rfl rfl rfl KF F6 (fun b4=> ?_)
 refine sf 0 20 ⟨rfl,rfl,rfl⟩ rfl rfl rfl rfl ?_
 refine ao ?_
 refine wk [66,65,64,59,58,57,21,20,19,16,15,9,8,5,4,3,2] rfl (Tr.seq (Tr.seq (Tr.ex 21 rfl fun x21=> ?_)))
 refine ac ?_
 refine wk [87,66,65,64,59,58,57,20,19,16,15,9,8,5,4,3,2] rfl ?_
 refine Tr.cn rfl ?_ ?_<;>intro h10 R9
 refine ao ?_
 refine TO.AK 3 rfl rfl rfl vq Be rfl B0 rfl rfl (TO.AK 2 rfl rfl rfl vq Be rfl GH rfl rfl ?_)
 refine ao ?_
 refine wk [11,10,9,8] rfl (Tr.ret (Fin.AE (Fin.AU (Fin.AE (Fin.AE (Fin.AU (Fin.AU (Fin.AE (Fin.AE (Fin.AU (Fin.AE (Fin.PZ rfl (AL.cell 3 rfl rfl C2 B0 rfl Lr) (AL.cell 2 rfl rfl Kh GH rfl Lr) (AL.tmp rfl Lr) (AL.tmp rfl Lr) ?_))))))))))))
 · exact Az 0 (BC (fun _=>⟨V3,hfp⟩) (Al ⟨EH,BR ⟨Az _ Lr,Az _ Lr,Az _ Lr,Az _ Lr,trivial⟩,Az _ Lr,Lr,trivial⟩))
 refine ac ?_
 refine wk [66,65,64,59,58,57,20,19,16,15,9,8,5,4,3,2] rfl ?_
 refine ao ?_
 refine TO.Df 0 rfl rfl AB (B9 rfl rfl rfl rfl underlying105 GH ADo vN Ea Db (Ay BK FC)) (fun v1=> ?_)
 refine tp rfl (Aq rfl ez vq) (TO.AK 1 rfl rfl rfl vq F7 rfl ADQ rfl rfl ?_)
 refine ao ?_
 refine wk [66,65,64,59,58,57,16,15,9,8,5,4,3,2] rfl ?_
 refine ac ?_
 refine Fin.G9 1 [AV v1 (slice 4 ((q2++[(((k:Nat):Int),x)]).map tD))] rfl ⟨BB Dm,trivial⟩ ?_
 exact Fin.Bk (q2++[(((k:Nat):Int),x)]) (m+1) v1 (⟨⟨by omega,by simp;omega⟩,by omega⟩) ⟨⟨_,rfl,AG m⟩,kz⟩ (fun _ _ h=>h)
 have hme:=AJ h8
 refine ac ?_
 refine wk [59,58,57,15,9,8,5,4,3,2] rfl ?_
 refine ac ?_
 exact Fin.Bk (q2) (k+1) u (⟨⟨by omega,by omega⟩,by omega⟩) ⟨⟨_,rfl,AG k⟩,kz⟩ (fun _ _ h=>h)
 have cz:=AJ h7
 refine ac ?_
 refine ao ?_
 refine TO.AK 3 rfl rfl rfl vq Be rfl B0 rfl rfl (TO.AK 2 rfl rfl rfl vq Be rfl GH rfl rfl ?_)
 refine ao ?_
 refine wk [11,10,9,8] rfl (Tr.ret (Fin.PZ rfl (AL.cell 3 rfl rfl C2 B0 rfl Lr) (AL.cell 2 rfl rfl Kh GH rfl Lr) (AL.tmp rfl Lr) (AL.tmp rfl Lr) ?_))
 · exact Az 0 (BC (fun _=>⟨V3,hfp⟩) (Al ⟨BR ⟨Az _ (Ao _ _),trivial⟩,Mx,Az _ Lr,Lr,trivial⟩))
theorem lC {e:D5} {OZ:Int} (hz:e.sz n) (hn:n≤800000) (hc:∀c∈l,c.Cb.fits∧c.Cb.small) (hrl:r.length≤1000000):A0 prog 176 [agg (CV e),J_ l r d,int fr,int OZ] (Cp.ex fun z:Int=>fact (z=0→Fl e=true∧Nz e.Bu.length l r d) (C_ [tE,int z])):=by
 refine fo func176 rfl ⟨rfl,rfl⟩ fun M0 w0=>(Tr.seq (Tr.BE (tp rfl (BU rfl Be) (tp rfl (BU rfl Be) ?_))))
 refine Tl rfl rfl rfl rfl z107 HA (fun b1=> ?_)
 refine ao ?_
 refine ao ?_
 refine tp rfl (ZO (lB hz hn hc hrl) rfl rfl rfl rfl rfl) ?_
 refine TO.ex 19 rfl (fun z1=>TO.fact 19 rfl fun Ex=> ?_)
 refine ao ?_
 refine Tl rfl rfl rfl rfl z107 HA (fun b2=> ?_)
 refine Tl rfl rfl rfl rfl vN Rp (fun b3=> ?_)
 refine sf 1 10 ⟨rfl,rfl,rfl⟩ rfl rfl rfl rfl ?_
 refine sf 0 11 ⟨rfl,rfl,rfl⟩ rfl rfl rfl rfl ?_
 refine ao ?_
 refine wk [13,12,10,8] rfl ?_
 refine an ?_ ?_<;>intro h1 q1
 refine ao ?_
 refine TO.AK 0 rfl rfl rfl vq Be rfl B0 rfl rfl ?_
 refine ao ?_
 refine Tr.ret (Fin.AE (Fin.BL rfl (AL.cell 0 rfl rfl C2 B0 rfl Lr) (AL.tmp rfl Lr) ?_))
 · exact Az z1 (BC (fun h_=>absurd h_ AA) (Al ⟨EH,Lr,trivial⟩))
 have hz0:z1=0:=by have:=q1;omega
 refine ac ?_
 refine Tr.seq (Tr.seq (Tr.ex 12 rfl fun x12=> ?_))
 refine an ?_ ?_<;>intro h2 q2
 refine ao ?_
 refine TO.AK 0 rfl rfl rfl vq Be rfl B0 rfl rfl ?_
 refine ao ?_
 refine Tr.ret (Fin.AE (Fin.BL rfl (AL.cell 0 rfl rfl C2 B0 rfl Lr) (AL.tmp rfl Lr) ?_))
 · exact Az 42 (BC (fun h_=>absurd h_ AB) (Al ⟨EH,Lr,trivial⟩))
 refine ac ?_
 refine ao ?_
 refine TO.AK 0 rfl rfl rfl vq Be rfl B0 rfl rfl ?_
 refine ao ?_
 refine Tr.ret (Fin.BL rfl (AL.cell 0 rfl rfl C2 B0 rfl Lr) (AL.tmp rfl Lr) ?_)
 · exact Az 0 (BC (fun _=>Ex hz0) (Al ⟨Lr,Lr,trivial⟩))
theorem Wu {e:D5} {g i:Int} (hz:e.sz n) (hn:n≤800000) (hc:∀c∈l,c.Cb.fits∧c.Cb.small) (YQ:s.length≤4096) (hi:0≤i∧i<(d.length:Nat)):A0 prog 218 [agg (CV e),J_ l r d,int g,ints s,int i,Ny,S7,Wp] (Eb):=by
 refine fo func218 rfl ⟨rfl,rfl⟩ fun M0 w0=> ?_
 have hxf:=(hO (l:=l) (s:=s) hz hc).fits AA
 have hwl:=Oh s i true
 have hyf:=(hO (l:=l) (s:=EG s i true) hz hc).fits AA
 have b_:=Cv (l:=d) (i:=i.toNat) AA
 refine ac ?_
 refine ao ?_
 refine tp rfl (Jd (Mp hz hn hc) rfl rfl rfl rfl) ?_
 refine ao ?_
 refine Tl rfl rfl rfl rfl z31 Iw (fun b1=> ?_)
 refine sf 0 17 ⟨rfl,rfl,rfl⟩ rfl rfl rfl rfl ?_
 refine ao ?_
 refine wk [18,17,15,13,9,8,6,4,3,2] rfl (Tr.seq (Tr.pad (Tr.rx ?_)))
 refine ax ?_
 refine xo rfl (fun _=>Jd (HO AA) rfl rfl rfl rfl) (xo rfl (fun _=>Jd (Mp hz hn hc) rfl rfl rfl rfl) ?_)
 refine ax ?_
 refine Cx.ef 0 rfl rfl AB (Bx rfl rfl AB rfl z31 Iw) (Cx.DP 0 rfl rfl (CZ rfl rfl rfl rfl Be F5 rfl rfl) (xm rfl ?_))
 refine Cx.nil ⟨by kernel_rfl,?_⟩
 refine Aw.open_ 0 19 rfl rfl (fun v1=> ?_)
 refine Aw.done al1 (Fin.LR 19 0 _ rfl rfl (fun _=>rfl) (fun b2=> ?_))
 refine Fin.go (wk [20,19,18,17,15,13,9,6,4,2] rfl ?_)
 refine ag ?_ ?_<;>intro h1 q1
 refine ac ?_
 refine wk [46,19,17,15,13,9,6,4,2] rfl ?_
 refine ac ?_
 refine Tr.drop 0 ?_
 refine ac ?_
 · exact Ar
 refine ac ?_
 refine wk [46,19,17,15,13,9,6,4,2] rfl ?_
 refine Tr.cn rfl ?_ ?_<;>intro h2 q2
 refine ac ?_
 refine Tr.drop 0 ?_
 refine ac ?_
 · exact Ar
 refine a2 ?_
 refine co rfl (AD rfl underlying22 Bi vq vq AA (Bb b_)) (co rfl (Iv rfl DL rfl) (co rfl (Ac.le (Ah rfl (kY hxf hyf) ⟨kq,kz⟩) ABe) ?_))
 refine ac ?_
 refine Tr.drop 0 (wk [21,2] rfl (Tr.seq (Tr.seq (Tr.ex 21 rfl fun bad=>(Tr.fact 21 rfl fun AKY=> ?_)))))
 refine ac ?_
 refine Tr.block (Tr.Ax _ (kk [62,61,2] rfl) (fun k:Nat=>[(63,int ((k:Nat):Int))]) (fun k:Nat=>k≤(bad).length) (fun k:Nat=>(bad).length-k) 0 (Nat.zero_le _) kz ?_)
 rintro k BJ
 refine ac ?_
 refine Tr.seq ?_
 refine Tr.cn rfl ?_ ?_<;>intro h3 q3
 have AZ:k<(bad).length:=AH h3
 obtain ⟨x,AX⟩:=at_ AZ
 refine ac ?_
 refine Tr.seq (Tr.block (Tr.seq (Tr.Bt (co rfl (AD rfl underlying22 Bi vq vq AA (AR AX)) ?_))))
 · exact ME
 have A8:k=(bad).length:=by have:=AJ h3;omega
 subst A8
 refine a3 ?_
 · exact Ar
theorem cC {l:List (List Int)}:A0 prog 217 [sets l,ints s] (Eb):=by
 refine fo func217 rfl ⟨rfl,rfl⟩ fun M0 w0=>(Tr.CG 0 rfl fun DN=> ?_)
 refine a2 ?_
 refine Tr.block (Tr.Ax _ (kk [8,7,1] rfl) (fun k:Nat=>[(9,int ((k:Nat):Int))]) (fun k:Nat=>k≤(l).length) (fun k:Nat=>(l).length-k) 0 (Nat.zero_le _) kz ?_)
 rintro k BJ
 refine ac ?_
 refine Tr.seq ?_
 refine Tr.cn rfl ?_ ?_<;>intro h1 q1
 have AZ:k<(l).length:=AH h1
 obtain ⟨x,AX⟩:=at_ AZ
 refine ac ?_
 refine Tr.seq (Tr.block (Tr.seq (Tr.Bt (co rfl (AD rfl underlying99 HH vq vq AA (AR AX)) ?_))))
 refine a2 ?_
 refine co rfl (Bq (Wr) rfl rfl rfl) ?_
 refine ac ?_
 refine Tr.ex 15 rfl fun AKZ=> ?_
 · exact ME
 have A8:k=(l).length:=by have:=AJ h1;omega
 refine a3 ?_
 · exact Ar
theorem cE {e:D5} (hz:e.sz n) (hn:n≤800000) (hc:∀c∈l,c.Cb.fits∧c.Cb.small) (hrl:r.length≤1000000):A0 prog 177 [agg (CV e),J_ l r d,Ny,S7,Wp] (Cp.ex fun z:List Int×Int=>fact (z.1.length≤1000) (C_ [ints z.1,int z.2])):=by
 refine fo func177 rfl ⟨rfl,rfl⟩ fun M0 w0=> ?_
 have hf:=hz.fits AA
 refine ac ?_
 refine ap ?_
 refine tp rfl (Bq (Yu hf hrl) rfl rfl rfl) ?_
 refine TO.ex 25 rfl (fun z1=>TO.fact 25 rfl fun Ex=> ?_)
 refine ap ?_
 refine ac ?_
 refine wk [27,12,9,7,6,5,3] rfl ?_
 refine Tr.cn rfl ?_ ?_<;>intro h1 q1
 refine ac ?_
 refine Tr.ret (Fin.AE (Fin.BL rfl (AL.tmp rfl Lr) (AL.tmp rfl Lr) ?_))
 · exact RG
 have hz0:z1=0:=by have:=q1;omega
 obtain ⟨V3,hfp⟩:=Ex hz0
 have KJ:=hfp.dl
 have OB:=hfp.l24
 refine a2 ?_
 refine co rfl (Jd (K6) rfl rfl rfl rfl) ?_
 refine ac ?_
 refine Tr.seq (Tr.ex 13 rfl fun x13=> ?_)
 refine an ?_ ?_<;>intro h2 q2
 refine ac ?_
 refine wk [11,10] rfl (Tr.ret (Fin.AE (Fin.BL rfl (AL.tmp rfl Lr) (AL.tmp rfl Lr) ?_)))
 · exact RG
 refine ac ?_
 refine ap ?_
 refine tp rfl (Bq (Yv hz hn hrl) rfl rfl rfl) ?_
 refine TO.ex 38 rfl (fun z2=>TO.fact 38 rfl fun JN=> ?_)
 refine ap ?_
 refine wk [15,14,9,7,6,5,3] rfl ?_
 refine an ?_ ?_<;>intro h3 q3
 refine ac ?_
 refine Tr.ret (Fin.AE (Fin.BL rfl (AL.tmp rfl Lr) (AL.tmp rfl Lr) ?_))
 · exact RG
 refine a3 ?_
 refine wk [47,46,16,14,9,7,6,5,3] rfl (Tr.block (Tr.B5 3 1 (Tr.DZ _ (kk [46,14,9,7,6,5,3] rfl) (fun (o:List Int) (k:Nat) u=>[(47,int ((k:Nat):Int)),(16,AV u (ints o))]) (fun (o:List Int) (k:Nat) u=>Hp M0 w0 FO ([As 3 1 u])) (fun (o:List Int) (k:Nat)=>k≤l.length∧o.length≤k) (fun (o:List Int) (k:Nat)=>l.length-k) ([]) (0) (.slice none 0 0) (⟨Nat.zero_le _,by simp⟩) ⟨kq,⟨_,rfl,Bg rfl⟩,trivial⟩ (fun _ _ h=>h) ?_)))
 rintro o k u ⟨hk0,mM⟩
 refine ac ?_
 refine Tr.seq ?_
 refine Tr.cn rfl ?_ ?_<;>intro h4 q4
 have hk:k<l.length:=AH h4
 obtain ⟨dk,b_⟩:=at_ (l:=d) (k:=k) AA
 iterate 4 refine ac ?_
 refine wk [52,51,50,47,46,18,17,16,14,9,7,6,5,3] rfl (Tr.block (Tr.Ax _ (kk [51,50,47,46,17,16,14,9,7,6,5,3] rfl) (fun j:Nat=>[(52,int ((j:Nat):Int)),(18,Eb)]) (fun j:Nat=>j≤(z2.1).length) (fun j:Nat=>(z2.1).length-j) 0 (Nat.zero_le _) ⟨kq,⟨_,rfl,Az _ Lr⟩,trivial⟩ ?_))
 rintro j AFo
 refine ac ?_
 refine wk [53,52,51,50,47,46,18,17,16,14,9,7,6,5,3] rfl (Tr.seq ?_)
 refine Tr.cn rfl ?_ ?_<;>intro h5 q5
 have AFp:j<(z2.1).length:=AH h5
 obtain ⟨t,AFq⟩:=at_ AFp
 have hts:=JN.Ql t (List.mem_of_getElem? AFq)
 have ht:=AFq
 have htl:=hts.len
 have hzl:=JN.len
 refine ac ?_
 refine wk [52,51,50,47,46,18,17,16,14,9,7,6,5,3] rfl ?_
 refine ac ?_
 refine co rfl (AD rfl underlying274 uc vq vq AA (AR ht)) ?_
 refine ac ?_
 refine wk [52,51,50,47,46,20,19,18,17,16,14,9,7,6,5,3] rfl ?_
 refine ac ?_
 refine wk [59,58,57,52,51,50,47,46,20,19,18,17,16,14,9,7,6,5,3] rfl (Tr.block (Tr.Ax _ (kk [58,57,52,51,50,47,46,20,19,17,16,14,9,7,6,5,3] rfl) (fun m:Nat=>[(59,int ((m:Nat):Int)),(18,Eb)]) (fun m:Nat=>m≤(t).length) (fun m:Nat=>(t).length-m) 0 (Nat.zero_le _) ⟨kq,kz⟩ ?_))
 rintro m Nk
 refine ac ?_
 refine wk [60,59,58,57,52,51,50,47,46,20,19,18,17,16,14,9,7,6,5,3] rfl (Tr.seq ?_)
 refine Tr.cn rfl ?_ ?_<;>intro h6 q6
 have Es:m<(t).length:=AH h6
 obtain ⟨x,Ew⟩:=at_ Es
 have hx:=Ew
 have hsd:∀i∈x,0≤i∧i<(d.length:Nat):=fun i hi=>by have:=hts.Ql x (List.mem_of_getElem? hx) i hi;omega
 have hsw:=hts.wid x (List.mem_of_getElem? hx)
 refine ac ?_
 refine wk [59,58,57,52,51,50,47,46,20,19,18,17,16,14,9,7,6,5,3] rfl (Tr.seq (Tr.block (Tr.seq (Tr.Bt (co rfl (AD rfl underlying99 HH vq vq AA (AR hx)) ?_)))))
 refine ac ?_
 refine wk [59,58,57,52,51,50,47,46,22,20,19,18,17,16,14,9,7,6,5,3] rfl (Tr.seq (Tr.ex 18 rfl fun x18=> ?_))
 refine ag ?_ ?_<;>intro h7 q7
 refine ac ?_
 refine cy h7 rfl (Bq (Ho) rfl rfl rfl) ?_
 refine ag ?_ ?_<;>intro h8 q8
 refine ac ?_
 refine cy h8 rfl (Jd (Mq hsd) rfl rfl rfl rfl) ?_
 refine ac ?_
 refine cy h8 rfl (AD rfl underlying22 Bi vq vq AA (AR b_)) ?_
 refine ag ?_ ?_<;>intro h9 q9
 refine ac ?_
 refine cy h9 rfl (Jd (HO AA) rfl rfl rfl rfl) (cy h9 rfl (Bq (cC) rfl rfl rfl) ?_)
 refine ac ?_
 refine wk [88,59,58,57,52,51,50,47,46,22,20,19,18,17,16,14,9,7,6,5,3] rfl (Tr.ex 88 rfl fun AKa=> ?_)
 · repeat' first|exact Fin.AM (m+1) ⟨Es,by omega⟩ ⟨⟨_,rfl,AG m⟩,ke rfl,ke rfl,ke rfl,ke rfl,ke rfl,ke rfl,ke rfl,ke rfl,ke rfl,ke rfl,ke rfl,ke rfl,ke rfl,ke rfl,ke rfl,ke rfl,ke rfl,ke rfl,trivial⟩|exact Fin.AM (m+1) ⟨Es,by omega⟩ ⟨⟨_,rfl,AG m⟩,⟨_,rfl,Az _ (Lr)⟩,ke rfl,ke rfl,ke rfl,ke rfl,ke rfl,ke rfl,ke rfl,ke rfl,ke rfl,ke rfl,ke rfl,ke rfl,ke rfl,ke rfl,ke rfl,ke rfl,ke rfl,trivial⟩|refine co rfl (Ah rfl (Wu hz hn hc hsw AA) ⟨ke rfl,ke rfl,ke rfl,ke rfl,ke rfl,ke rfl,ke rfl,ke rfl,trivial⟩) ?_|refine ac ?_|(refine Tr.cn rfl ?_ ?_<;>intro h q)
 refine ac ?_
 refine wk [88,59,58,57,52,51,50,47,46,22,20,19,18,17,16,14,9,7,6,5,3] rfl ?_
 refine ac ?_
 refine wk [59,58,57,52,51,50,47,46,20,19,18,17,16,14,9,7,6,5,3] rfl ?_
 refine ac ?_
 exact Fin.AM (m+1) ⟨Es,by omega⟩ ⟨⟨_,rfl,AG m⟩,⟨_,rfl,Az _ Lr⟩,kz⟩
 refine ac ?_
 refine wk [88,59,58,57,52,51,50,47,46,22,20,19,18,17,16,14,9,7,6,5,3] rfl ?_
 refine ac ?_
 refine wk [59,58,57,52,51,50,47,46,20,19,18,17,16,14,9,7,6,5,3] rfl ?_
 refine ac ?_
 exact Fin.AM (m+1) ⟨Es,by omega⟩ ⟨⟨_,rfl,AG m⟩,⟨_,rfl,Az _ Lr⟩,kz⟩
 refine ac ?_
 refine wk [88,59,58,57,52,51,50,47,46,22,20,19,18,17,16,14,9,7,6,5,3] rfl ?_
 refine ac ?_
 refine wk [59,58,57,52,51,50,47,46,20,19,18,17,16,14,9,7,6,5,3] rfl ?_
 refine ac ?_
 exact Fin.AM (m+1) ⟨Es,by omega⟩ ⟨⟨_,rfl,AG m⟩,⟨_,rfl,Az _ Lr⟩,kz⟩
 have Kt:m=(t).length:=by have:=AJ h6;omega
 subst Kt
 refine ac ?_
 refine wk [52,51,50,47,46,18,17,16,14,9,7,6,5,3] rfl ?_
 refine ac ?_
 exact Fin.AM (j+1) ⟨AFp,by omega⟩ ⟨⟨_,rfl,AG j⟩,kz⟩
 have ABN:j=(z2.1).length:=by have:=AJ h5;omega
 subst ABN
 refine ac ?_
 refine wk [47,46,18,17,16,14,9,7,6,5,3] rfl ?_
 refine ac ?_
 refine Tr.ex 100 rfl fun AJw=> ?_
 refine Tr.cn rfl ?_ ?_<;>intro h11 Ti
 refine ap ?_
 refine TO.Df 0 rfl rfl AB (B9 rfl rfl rfl rfl underlying22 Bi G_ z3 Ea Db (Ay BK FC)) (fun v1=> ?_)
 refine ap ?_
 refine wk [47,46,16,14,9,7,6,5,3] rfl ?_
 refine ac ?_
 exact Fin.Bk (o++[((k:Nat):Int)]) (k+1) v1 (⟨⟨by omega,by simp;omega⟩,by omega⟩) ⟨⟨_,rfl,AG k⟩,⟨_,rfl,BB Dm⟩,kz⟩ (fun _ _ h=>h)
 refine a2 ?_
 exact Fin.Bk (o) (k+1) u (⟨⟨by omega,by omega⟩,by omega⟩) ⟨⟨_,rfl,AG k⟩,⟨_,rfl,BB rfl⟩,kz⟩ (fun _ _ h=>h)
 have cz:=AJ h4
 refine a2 ?_
 refine Tr.ret (Fin.BL rfl (AL.tmp rfl Lr) (AL.tmp rfl Lr) ?_)
 · exact Zp
end Go.Proofs.YtmocaapoeefgkaaGreatDoor
