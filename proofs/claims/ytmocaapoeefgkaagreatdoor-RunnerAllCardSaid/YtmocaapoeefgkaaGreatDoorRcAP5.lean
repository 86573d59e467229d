/-
  Part 5 of the texts that prove this claim, merged.
-/
import Derived.RangeFuncFrom
import Derived.RangeFuncLeaves
import Derived.OrdersIn
import Derived.Test.YtmocaapoeefgkaaGreatDoorRcAP4
set_option linter.all false
set_option maxRecDepth 40000
set_option maxHeartbeats 16000000
namespace Go.Proofs.YtmocaapoeefgkaaGreatDoor
open Go Go.RowKit Cp Go.Proofs.Tryz
variable {day:Int} {Aj:List Int} {i j k n:Nat}
theorem Jk {β:Type} {p:β→Bool} {l:List β} {x:β} (hx:l[k]? =some x) (hp:p x=true):l.any p=true:=List.any_eq_true.2 ⟨x,List.mem_of_getElem? hx,hp⟩
theorem Cg {β:Type} {p:β→Bool} {l:List β} (h:∀j y,j<l.length→l[j]? =some y→p y=false):l.any p=false:=by
 rw [List.any_eq_false]
 intro y hy
 obtain ⟨j,hj⟩:=List.mem_iff_getElem?.1 hy
 have:=h j y dI hj
 simp [this]
abbrev SL {β:Type} (p:β→Bool) (l:List β) (k:Nat):Prop:=∀j y,j<k→l[j]? =some y→p y=false
theorem Ku {β:Type} (p:β→Bool) (l:List β):SL p l 0:=fun j y hj=>absurd hj AA
theorem Kv {β:Type} {p:β→Bool} {l:List β} {x:β} (hx:l[k]? =some x) (hp:p x=false) (h:SL p l k):SL p l (k+1):=DR hx hp h
abbrev qa (c:BV):Ji→Bool:=fun w=>w.Aj.any fun n=> !c.has n
theorem Kw {c:BV} {m:Int}  :A0 prog 102 [Me c,int m] (int (c.check m)):=by
 refine fo func102 rfl ⟨rfl,rfl⟩ fun M0 w0=>(Tr.FW 0 0 rfl rfl fun Gh=>(Tr.FW 0 1 rfl rfl fun Lb=>(Tr.FW 0 2 rfl rfl fun gC=> ?_)))
 refine ac ?_
 refine ag ?_ ?_<;>intro h1 q1
 refine a3 ?_
 · refine int_eq ?_;unfold BV.check;rw [if_pos AA]
 refine an ?_ ?_<;>intro h2 q2
 refine a2 ?_
 · refine int_eq ?_;unfold BV.check;rw [if_pos AA]
 refine a2 ?_
 refine wk [31,30,29,2,1] rfl (Tr.block (Tr.Ax _ (kk [30,29,2,1] rfl) (fun a:Nat=>[(31,int ((a:Nat):Int))]) (fun a:Nat=>a≤(c.room).length∧(SL La c.room a)) (fun a:Nat=>(c.room).length-a) 0 (⟨Nat.zero_le _,Ku _ _⟩) kz ?_))
 rintro a ⟨AFL,G5⟩
 refine ac ?_
 refine Tr.seq ?_
 refine Tr.cn rfl ?_ ?_<;>intro h3 q3
 have qb:a<(c.room).length:=AH h3
 obtain ⟨r,qc⟩:=at_ qb
 refine ac ?_
 refine Tr.seq (Tr.block (Tr.seq (Tr.Bt (co rfl (AD rfl underlying22 Bi vq vq AA CX) ?_))))
 · repeat' first|(refine int_eq ?_;unfold BV.check;rw [if_neg AA,if_pos (Jk qc (by simp [La];omega))])|(exact Fin.AM (a+1) ⟨⟨qb,Kv qc (by simp [La];omega) G5⟩,by omega⟩ ⟨⟨_,rfl,AG a⟩,kz⟩)|refine ac ?_|(refine Tr.cn rfl ?_ ?_<;>intro h q)|(refine Ch.cg rfl rfl rfl ?_ ?_<;>intro h q)
 have AAx:a=(c.room).length:=by have:=AJ h3;omega
 subst AAx
 refine a2 ?_
 refine Tr.block (Tr.Ax _ (kk [44,43,2,1] rfl) (fun b:Nat=>[(45,int ((b:Nat):Int))]) (fun b:Nat=>b≤(c.B_).length∧(SL Mf c.B_ b)) (fun b:Nat=>(c.B_).length-b) 0 (⟨Nat.zero_le _,Ku _ _⟩) kz ?_)
 rintro b ⟨AJp,Mi⟩
 refine ac ?_
 refine Tr.seq ?_
 refine Tr.cn rfl ?_ ?_<;>intro h6 q6
 have AFM:b<(c.B_).length:=AH h6
 obtain ⟨w,AFN⟩:=at_ AFM
 refine ac ?_
 refine Tr.seq (Tr.block (Tr.seq (Tr.BE (tp rfl (AD rfl underlying75 Iz vq vq AA CX) ?_))))
 refine tp rfl (Ad rfl Rm Iz vq rfl rfl) ?_
 refine Tl rfl rfl rfl rfl z141 Rn (fun b1=> ?_)
 refine sf 0 8 ⟨rfl,rfl,rfl⟩ rfl rfl rfl rfl ?_
 refine ao ?_
 · repeat' first|(refine int_eq ?_;unfold BV.check;rw [if_neg AA,if_neg (Bc (Cg G5)),if_pos (Jk AFN (by simp [Mf];omega))])|(exact Fin.AM (b+1) ⟨⟨AFM,Kv AFN (by simp [Mf];omega) Mi⟩,by omega⟩ ⟨⟨_,rfl,AG b⟩,kz⟩)|refine ac ?_|(refine Tr.cn rfl ?_ ?_<;>intro h q)|(refine Ch.cg rfl rfl rfl ?_ ?_<;>intro h q)
 have AIp:b=(c.B_).length:=by have:=AJ h6;omega
 subst AIp
 refine a2 ?_
 refine Tr.block (Tr.Ax _ (kk [71,70,2,1] rfl) (fun k:Nat=>[(72,int ((k:Nat):Int))]) (fun k:Nat=>k≤(c.B_).length∧((∀(j:Nat) a b,j+1<k→c.B_[j]? =some a→c.B_[j+1]? =some b→a.hi≤b.lo)∧∀(j:Nat) a,j<k→c.B_[j]? =some a→WX a.Aj)) (fun k:Nat=>(c.B_).length-k) 0 (⟨Nat.zero_le _,⟨fun j a b hj=>absurd hj AA,fun j a hj=>absurd hj AA⟩⟩) kz ?_)
 rintro k ⟨BJ,AQ⟩
 refine ac ?_
 refine Tr.seq ?_
 refine Tr.cn rfl ?_ ?_<;>intro h10 R9
 have AZ:k<(c.B_).length:=AH h10
 obtain ⟨x,AX⟩:=at_ AZ
 refine ac ?_
 refine ao ?_
 refine tp rfl (AD rfl underlying75 Iz vq vq AA CX) ?_
 refine tp rfl (Ad rfl Rm Iz vq rfl rfl) ?_
 refine Tl rfl rfl rfl rfl z141 Rn (fun b2=> ?_)
 refine tm rfl ?_
 refine sf 0 10 ⟨rfl,rfl,rfl⟩ rfl rfl rfl rfl ?_
 refine ao ?_
 refine wk [72,71,70,10,9,2,1] rfl (Tr.Pm [1,2,10,70,71,72] [] (∀y,0<k→c.B_[k-1]? =some y→y.hi≤x.lo) ?_ (fun AFO=> ?_))
 refine ag ?_ ?_<;>intro h12 X0
 obtain ⟨pw,hpw⟩:=at_ (l:=c.B_) (k:=k-1) AA
 refine ac ?_
 refine cy h12 rfl (AD rfl underlying75 Iz vq vq AA (RZ AA hpw)) ?_
 refine ac ?_
 refine wk [92,72,71,70,10,2,1] rfl ?_
 refine Tr.cn rfl ?_ ?_<;>intro OQ fO
 refine a2 ?_
 · refine int_eq ?_;unfold BV.check;rw [if_neg AA,if_neg (Bc (Cg G5)),if_neg (Bc (Cg Mi)),if_pos (qV AA AX hpw Bh)]
 refine Tr.skip ?_
 exact Fin.AM () (by intro y' hk' hy';rw [hpw] at hy';cases hy';omega) (kk6 rfl)
 refine ac ?_
 refine wk [92,72,71,70,10,2,1] rfl (Tr.cond rfl (fun h=>nomatch h) (fun _=> ?_))
 refine Tr.skip ?_
 exact Fin.AM () (by intro y' hk' hy';omega) (kk6 rfl)
 refine ac ?_
 refine Tr.block (Tr.Ax _ (kk [72,71,70,10,2,1] rfl) (fun i:Nat=>[(11,int ((i:Nat):Int))]) (fun i:Nat=>1≤i∧i≤max 1 x.Aj.length∧∀(j:Nat) a b,j+1<i→x.Aj[j]? =some a→x.Aj[j+1]? =some b→a<b) (fun i:Nat=>x.Aj.length-i) 1 (⟨by omega,by omega,fun j a b hj=>absurd hj AA⟩) kz ?_)
 rintro i ⟨hi1,hi2,FD⟩
 refine an ?_ ?_<;>intro NN q14
 have Ic:i<x.Aj.length:=AH NN
 obtain ⟨t,ht⟩:=at_ Ic
 obtain ⟨u,hu⟩:=at_ (l:=x.Aj) (k:=i-1) AA
 refine Tr.CG 95 rfl fun hlt=> ?_
 · repeat' first|(refine int_eq ?_;unfold BV.check;rw [if_neg AA,if_neg (Bc (Cg G5)),if_neg (Bc (Cg Mi)),if_pos (qW AX AA ht hu AA)])|(exact Fin.AM (i+1) ⟨⟨by omega,by omega,jw ht (by intro y' hk' hy';rw [hu] at hy';cases hy';omega) FD⟩,by omega⟩ ⟨⟨_,rfl,AG i⟩,kz⟩)|refine co rfl (AD rfl underlying22 Bi vq vq AA (RZ AA hu)) ?_|refine co rfl (AD rfl underlying22 Bi vq vq AA CX) ?_|refine ac ?_|(refine Tr.cn rfl ?_ ?_<;>intro h q)
 have hge:x.Aj.length≤i:=AJ NN
 have hall:∀(j:Nat) a b,j+1<x.Aj.length→x.Aj[j]? =some a→x.Aj[j+1]? =some b→a<b:=fun j a b hj=>FD j a b AA
 refine a2 ?_
 exact Fin.AM (k+1) ⟨⟨AZ,⟨jv AX AFO AQ.1,wY AX hall AQ.2⟩⟩,by omega⟩ ⟨⟨_,rfl,AG k⟩,kz⟩
 have A8:k=(c.B_).length:=by have:=AJ h10;omega
 subst A8
 refine a2 ?_
 refine Tr.block (Tr.Ax _ (kk [115,114,2,1] rfl) (fun d:Nat=>[(116,int ((d:Nat):Int))]) (fun d:Nat=>d≤(c.B_).length∧(SL (qa c) c.B_ d)) (fun d:Nat=>(c.B_).length-d) 0 (⟨Nat.zero_le _,Ku _ _⟩) kz ?_)
 rintro d ⟨AJq,WZ⟩
 refine ac ?_
 refine Tr.seq ?_
 refine Tr.cn rfl ?_ ?_<;>intro h16 q16
 have AFP:d<(c.B_).length:=AH h16
 obtain ⟨z,AFQ⟩:=at_ AFP
 refine ac ?_
 refine Tr.seq (Tr.block (Tr.seq (Tr.BE (tp rfl (AD rfl underlying75 Iz vq vq AA CX) ?_))))
 refine tp rfl (Ad rfl Rm Iz vq rfl rfl) ?_
 refine Tl rfl rfl rfl rfl z141 Rn (fun b3=> ?_)
 refine sf 0 13 ⟨rfl,rfl,rfl⟩ rfl rfl rfl rfl ?_
 refine ao ?_
 refine ac ?_
 refine wk [123,122,121,116,115,114,2,1] rfl (Tr.block (Tr.CG 121 rfl fun hlz=>(Tr.Ax _ (kk [122,121,116,115,114,2,1] rfl) (fun e:Nat=>[(123,int ((e:Nat):Int))]) (fun e:Nat=>e≤(z.Aj).length∧(SL (fun n=> !c.has n) z.Aj e)) (fun e:Nat=>(z.Aj).length-e) 0 (⟨Nat.zero_le _,Ku _ _⟩) kz ?_)))
 rintro e ⟨AJr,WU⟩
 refine ac ?_
 refine Tr.seq ?_
 refine Tr.cn rfl ?_ ?_<;>intro N7 q17
 have AFR:e<(z.Aj).length:=AH N7
 obtain ⟨y,AFS⟩:=at_ AFR
 refine ac ?_
 refine Tr.seq (Tr.block (Tr.seq (Tr.Bt (co rfl (AD rfl underlying22 Bi vq vq AA CX) ?_))))
 · repeat' first|(refine int_eq ?_;unfold BV.check;rw [if_neg AA,if_neg (Bc (Cg G5)),if_neg (Bc (Cg Mi)),if_neg (not_not_intro (Qi AQ)),if_pos (Jk AFQ (Jk AFS OD))])|(exact Fin.AM (e+1) ⟨⟨AFR,Kv AFS OD WU⟩,by omega⟩ ⟨⟨_,rfl,AG e⟩,kz⟩)|refine ac ?_|(refine Tr.cn rfl ?_ ?_<;>intro h q)|(refine Ch.cg rfl rfl rfl ?_ ?_<;>intro h q)
 have AIq:e=(z.Aj).length:=by have:=AJ N7;omega
 subst AIq
 refine a2 ?_
 exact Fin.AM (d+1) ⟨⟨AFP,Kv AFQ (Cg WU) WZ⟩,by omega⟩ ⟨⟨_,rfl,AG d⟩,kz⟩
 have AIr:d=(c.B_).length:=by have:=AJ h16;omega
 subst AIr
 refine ac ?_
 refine an ?_ ?_<;>intro TP q20
 refine a2 ?_
 · refine int_eq ?_;unfold BV.check;rw [if_neg AA,if_neg (Bc (Cg G5)),if_neg (Bc (Cg Mi)),if_neg (not_not_intro (Qi AQ)),if_neg (Bc (Cg WZ)),if_pos (.inl Bh)]
 refine a2 ?_
 refine wk [146,145,144,2] rfl (Tr.block (Tr.Ax _ (kk [145,144,2] rfl) (fun g:Nat=>[(146,int ((g:Nat):Int))]) (fun g:Nat=>g≤(c.Jj).length∧(SL (fun n=> !c.has n) c.Jj g)) (fun g:Nat=>(c.Jj).length-g) 0 (⟨Nat.zero_le _,Ku _ _⟩) kz ?_))
 rintro g ⟨AJs,qd⟩
 refine ac ?_
 refine Tr.seq ?_
 refine Tr.cn rfl ?_ ?_<;>intro fP q21
 have AFT:g<(c.Jj).length:=AH fP
 obtain ⟨v,AFU⟩:=at_ AFT
 refine ac ?_
 refine Tr.seq (Tr.block (Tr.seq (Tr.Bt (co rfl (AD rfl underlying22 Bi vq vq AA CX) ?_))))
 · repeat' first|(refine int_eq ?_;unfold BV.check;rw [if_neg AA,if_neg (Bc (Cg G5)),if_neg (Bc (Cg Mi)),if_neg (not_not_intro (Qi AQ)),if_neg (Bc (Cg WZ)),if_pos (.inr (Jk AFU OD))])|(exact Fin.AM (g+1) ⟨⟨AFT,Kv AFU OD qd⟩,by omega⟩ ⟨⟨_,rfl,AG g⟩,kz⟩)|refine ac ?_|(refine Tr.cn rfl ?_ ?_<;>intro h q)|(refine Ch.cg rfl rfl rfl ?_ ?_<;>intro h q)
 have AIs:g=(c.Jj).length:=by have:=AJ fP;omega
 subst AIs
 refine a3 ?_
 · refine int_eq ?_;unfold BV.check;rw [if_neg AA,if_neg (Bc (Cg G5)),if_neg (Bc (Cg Mi)),if_neg (not_not_intro (Qi AQ)),if_neg (Bc (Cg WZ)),if_neg (not_or.2 ⟨not_not_intro AA,Bc (Cg qd)⟩)]
theorem zC {c:BV}:A0 prog 206 [Me c,int day] (int (c.at day)):=by
 refine fo func206 rfl ⟨rfl,rfl⟩ fun M0 w0=>(Tr.FW 0 0 rfl rfl fun Gh=> ?_)
 refine a2 ?_
 refine Tr.block (Tr.Ax _ (kk [9,8,1] rfl) (fun i:Nat=>[(10,int ((i:Nat):Int))]) (fun i:Nat=>i≤(c.B_).length∧(SL (ES day) c.B_ i)) (fun i:Nat=>(c.B_).length-i) 0 (⟨Nat.zero_le _,Ku _ _⟩) kz ?_)
 rintro i ⟨UT,FD⟩
 refine ac ?_
 refine Tr.seq ?_
 refine Tr.cn rfl ?_ ?_<;>intro h1 q1
 have Ic:i<(c.B_).length:=AH h1
 obtain ⟨w,JM⟩:=at_ Ic
 refine ac ?_
 refine ao ?_
 refine tp rfl (AD rfl underlying75 Iz vq vq AA CX) ?_
 refine tp rfl (Ad rfl Rm Iz vq rfl rfl) ?_
 refine Tl rfl rfl rfl rfl z141 Rn (fun b1=> ?_)
 refine tm rfl ?_
 refine sf 0 6 ⟨rfl,rfl,rfl⟩ rfl rfl rfl rfl ?_
 refine ao ?_
 · repeat' first|(exact int_eq (El JM (by simp [ES];omega) FD))|(exact Fin.AM (i+1) ⟨⟨Ic,Kv JM (by simp [ES];omega) FD⟩,by omega⟩ ⟨⟨_,rfl,AG i⟩,kz⟩)|refine ac ?_|(refine Tr.cn rfl ?_ ?_<;>intro h q)|(refine Ch.cg rfl rfl rfl ?_ ?_<;>intro h q)
 have Oe:i=(c.B_).length:=by have:=AJ h1;omega
 subst Oe
 refine a3 ?_
 · exact int_eq (F8 FD)
theorem AAy {c:BV} {n:Int} (h:c.at day<0):c.may n day=false:=by grind [SH,ES,BV.at,BV.may,BV.UZ]
theorem gD {c:BV} {n:Int} {w:Ji} (h:0≤c.at day) (hw:c.B_[(c.at day).toNat]? =some w):c.may n day=w.Aj.any (fun x=>n==x):=by grind [SH,ES,BV.at,BV.may,BV.UZ]
theorem wg {c:BV} (h:0≤c.at day):∃w,c.B_[(c.at day).toNat]? =some w∧ES day w=true:=by
 obtain ⟨w,h1,h2⟩:=wX (p:=ES day) (l:=c.B_) h
 exact ⟨w,h1,h2⟩
theorem qg {c:BV} {n:Int}:A0 prog 161 [Me c,int n,int day] (bool (c.may n day)):=by
 refine fo func161 rfl ⟨rfl,rfl⟩ fun M0 w0=> ?_
 refine a2 ?_
 refine co rfl (Bq (zC) rfl rfl rfl) ?_
 refine ac ?_
 refine an ?_ ?_<;>intro h1 q1
 refine a2 ?_
 · exact bool_eq (AAy Bh).symm
 obtain ⟨w,hw,hin⟩:=wg (c:=c) (day:=day) q1
 refine a2 ?_
 refine co rfl (AD rfl underlying75 Iz vq vq AA (Bb hw)) ?_
 refine ac ?_
 refine wk [22,21,20,1] rfl (Tr.block (Tr.CG 20 rfl fun hlt=>(Tr.Ax _ (kk [21,20,1] rfl) (fun k:Nat=>[(22,int ((k:Nat):Int))]) (fun k:Nat=>k≤(w.Aj).length∧(SL (fun x=>n==x) w.Aj k)) (fun k:Nat=>(w.Aj).length-k) 0 (⟨Nat.zero_le _,Ku _ _⟩) kz ?_)))
 rintro k ⟨BJ,AQ⟩
 refine ac ?_
 refine Tr.seq ?_
 refine Tr.cn rfl ?_ ?_<;>intro h2 q2
 have AZ:k<(w.Aj).length:=AH h2
 obtain ⟨t,AX⟩:=at_ AZ
 refine ac ?_
 refine Tr.seq (Tr.block (Tr.seq (Tr.Bt (co rfl (AD rfl underlying22 Bi vq vq AA CX) ?_))))
 · repeat' first|(refine bool_eq ?_;rw [gD Bh hw];exact (Jk AX CL).symm)|(exact Fin.AM (k+1) ⟨⟨AZ,Kv AX CL AQ⟩,by omega⟩ ⟨⟨_,rfl,AG k⟩,kz⟩)|refine ac ?_|(refine Tr.cn rfl ?_ ?_<;>intro h q)
 have A8:k=(w.Aj).length:=by have:=AJ h2;omega
 subst A8
 refine a3 ?_
 · refine bool_eq ?_;rw [gD Bh hw];exact (Cg AQ).symm
theorem YJ {c:BV} {n:Int} (h:c.own=0) {w:Ji} (hw:c.B_[k]? =some w) (hd:max day w.lo<w.hi):c.may n (max day w.lo)=w.Aj.any (fun x=>n==x):=by grind [I7,BV.may,BV.UZ,WY,I8,zB]
theorem qh {c:BV} {a b:List Int} {n d:Int} (hx:a[k]? =some n) (hd:b[k]? =some d) (hm:c.may n d=true) (h:((a.zip b).take k).all (fun p=>c.may p.1 p.2)=true):((a.zip b).take (k+1)).all (fun p=>c.may p.1 p.2)=true:=by
 rw [YH hx hd,List.all_append,h];simp [hm]
theorem any_nil {c:BV} {l:List Int}:(l++[]).any (fun n=> !c.has n)=l.any (fun n=> !c.has n):=by rw [List.append_nil]
theorem AAz {c:BV} {days:List Int}:A0 prog 163 [Me c,ints Aj,ints days] (int (c.Eh Aj days [])):=by
 refine fo func163 rfl ⟨rfl,rfl⟩ fun M0 w0=>(Tr.FW 0 1 rfl rfl fun Lb=>(Tr.FW 0 2 rfl rfl fun gC=>(Tr.CG 1 rfl fun ER=>(Tr.CG 2 rfl fun qH=> ?_))))
 refine a2 ?_
 refine co rfl (Bq (Kw) rfl rfl rfl) ?_
 refine ac ?_
 refine Tr.seq (Tr.re 7 rfl (int_eq (b:=c.own) rfl) ?_)
 refine an ?_ ?_<;>intro h1 q1
 refine a2 ?_
 · refine int_eq ?_;unfold BV.Eh;rw [if_pos Bh]
 have hown:c.own=0:=q1
 refine a2 ?_
 refine wk [24,3,2,1] rfl ?_
 refine Tr.cn rfl ?_ ?_<;>intro h2 q2
 refine a2 ?_
 · refine int_eq ?_;unfold BV.Eh;rw [if_neg (not_not_intro hown),if_pos AA]
 refine ac ?_
 refine an ?_ ?_<;>intro h3 q3
 refine a2 ?_
 · refine int_eq ?_;unfold BV.Eh;rw [if_neg (not_not_intro hown),if_neg AA,if_pos AA]
 refine a2 ?_
 refine Tr.block (Tr.Ax _ (kk [29,28,3,2,1] rfl) (fun a:Nat=>[(30,int ((a:Nat):Int))]) (fun a:Nat=>a≤(Aj).length∧(SL (fun n=> !c.has n) Aj a)) (fun a:Nat=>(Aj).length-a) 0 (⟨Nat.zero_le _,Ku _ _⟩) kz ?_)
 rintro a ⟨AFL,G5⟩
 refine ac ?_
 refine Tr.seq ?_
 refine Tr.cn rfl ?_ ?_<;>intro h4 q4
 have qb:a<(Aj).length:=AH h4
 obtain ⟨r,qc⟩:=at_ qb
 refine ac ?_
 refine Tr.seq (Tr.block (Tr.seq (Tr.Bt (co rfl (AD rfl underlying22 Bi vq vq AA CX) ?_))))
 · repeat' first|(refine int_eq ?_;unfold BV.Eh;rw [if_neg (not_not_intro hown),if_neg AA,if_neg AA,any_nil,if_pos (Jk qc OD)])|(exact Fin.AM (a+1) ⟨⟨qb,Kv qc OD G5⟩,by omega⟩ ⟨⟨_,rfl,AG a⟩,kz⟩)|refine ac ?_|(refine Tr.cn rfl ?_ ?_<;>intro h q)|(refine Ch.cg rfl rfl rfl ?_ ?_<;>intro h q)
 have AAx:a=(Aj).length:=by have:=AJ h4;omega
 subst AAx
 refine a2 ?_
 refine Tr.block (Tr.Ax _ (kk [45,44,3,2] rfl) (fun k:Nat=>[(46,int ((k:Nat):Int))]) (fun k:Nat=>k≤(Aj).length∧(((Aj.zip days).take k).all (fun p=>c.may p.1 p.2)=true)) (fun k:Nat=>(Aj).length-k) 0 (⟨Nat.zero_le _,by simp⟩) kz ?_)
 rintro k ⟨BJ,AQ⟩
 refine ac ?_
 refine Tr.seq ?_
 refine Tr.cn rfl ?_ ?_<;>intro h7 q7
 have AZ:k<(Aj).length:=AH h7
 obtain ⟨n,AX⟩:=at_ AZ
 obtain ⟨d,hd⟩:=at_ (l:=days) (k:=k) AA
 · repeat' first|(refine int_eq ?_;unfold BV.Eh;rw [if_neg (not_not_intro hown),if_neg AA,if_neg AA,any_nil,if_neg (Bc (Cg G5)),if_neg (AAv AX hd Bh)])|exact Fin.AM (k+1) ⟨⟨AZ,qh AX hd Bp AQ⟩,by omega⟩ ⟨⟨_,rfl,AG k⟩,kz⟩|refine co rfl (Iv rfl DL rfl) (co rfl (Jd (qg) rfl rfl rfl rfl) ?_)|refine co rfl (AD rfl underlying22 Bi vq vq AA CX) ?_|refine ac ?_|(refine Tr.cn rfl ?_ ?_<;>intro h q)
 have A8:k=(Aj).length:=by have:=AJ h7;omega
 subst A8
 refine a3 ?_
 · refine int_eq ?_;unfold BV.Eh;rw [if_neg (not_not_intro hown),if_neg AA,if_neg AA,any_nil,if_neg (Bc (Cg G5)),if_pos (wZ AQ AA)]
def BV.GD (c:BV) (l:List (Int×Int)):List (List Int):=(List.range c.B_.length).map fun i=>(List.range c.room.length).map fun n=>(c.cnt l (i*8+n):Int)
def Lu (c:BV) (l:List (Int×Int)):List (List Pr):=(c.GD l).map fun r=>r.map fun z=>int z
def qi (c:BV):List Pr:=(List.replicate c.room.length (Value.int .i64 0)).map is
theorem H_ (c:BV) (l:List (Int×Int)):(Lu c l).length=c.B_.length:=by simp [Lu,BV.GD]
theorem qj {c:BV} {l:List (Int×Int)}:∀r∈Lu c l,r.length=c.room.length:=by grind [Lu,BV.GD]
theorem jy (c:BV):Lu c []=List.replicate c.B_.length (qi c):=by
 apply List.ext_getElem?
 intro i
 by_cases hi:i<c.B_.length
 ·
  rw [List.getElem?_replicate,if_pos hi]
  simp only [Lu,BV.GD,List.getElem?_map,List.getElem?_range hi,Option.map_some]
  congr 1
  apply List.ext_getElem?
  intro n
  by_cases hn:n<c.room.length
  · simp [qi,List.getElem?_range hn,List.getElem?_replicate,hn,BV.cnt]
  · rw [List.getElem?_eq_none CL,List.getElem?_eq_none (by simp [qi];omega)]
 · rw [List.getElem?_eq_none Vb,List.getElem?_eq_none CL]
def Nn (c:BV) (l:List (Int×Int)) (i:Nat):List Pr:=(List.range c.room.length).map fun n=>int (c.cnt l (i*8+n))
theorem Qj {c:BV} {l:List (Int×Int)} (hi:i<c.B_.length):(Lu c l)[i]? =some (Nn c l i):=by
 simp [Lu,BV.GD,List.getElem?_range hi,Nn]
theorem EX (c:BV) (l:List (Int×Int)) (i:Nat):(Nn c l i).length=c.room.length:=by simp [Nn]
theorem Qk {c:BV} {l:List (Int×Int)} (hn:n<c.room.length):(Nn c l i)[n]? =some (int (c.cnt l (i*8+n))):=by
 simp [Nn,List.getElem?_range hn]
theorem Np (c:BV) (l:List (Int×Int)) (x d:Int) (k:Nat):c.cnt (l++[(x,d)]) k=c.cnt l k+if (c.at d).toNat*8+x.toNat=k then 1 else 0:=by grind [BV.cnt,BV.cell]
theorem aq {c:BV} {l:List (Int×Int)} {x d:Int} (h8:c.room.length≤8) (hx:x.toNat<c.room.length) (hj:(c.at d).toNat≠j):Nn c (l++[(x,d)]) j=Nn c l j:=by
 unfold Nn
 refine List.map_congr_left fun m hm=> ?_
 have:=List.mem_range.1 hm
 rw [Np,if_neg AA];rfl
theorem jz {c:BV} {l:List (Int×Int)} {x d:Int} (h8:c.room.length≤8) (hx:x.toNat<c.room.length):(Nn c l (c.at d).toNat).take (0+x.toNat*1)++[int ((c.cnt l ((c.at d).toNat*8+x.toNat):Int)+1)]++(Nn c l (c.at d).toNat).drop (0+x.toNat*1+1)=Nn c (l++[(x,d)]) (c.at d).toNat:=by
 rw [show 0+x.toNat*1=x.toNat by omega]
 apply List.ext_getElem?
 intro k
 by_cases hk:k<c.room.length
 ·
  rw [Qk hk,Np]
  rcases Nat.lt_trichotomy k x.toNat with h|h|h
  · rw [List.append_assoc,List.getElem?_append_left (by rw [List.length_take,EX];omega),List.getElem?_take,if_pos h,Qk hk,if_neg AA];rfl
  ·
   subst h
   rw [List.append_assoc,List.getElem?_append_right (by rw [List.length_take,EX];omega),List.length_take,EX,Nat.min_eq_left AA,Nat.sub_self]
   simp
  ·
   rw [List.getElem?_append_right (by rw [List.length_append,List.length_take,EX];simp;omega),List.length_append,List.length_take,EX,List.getElem?_drop,Nat.min_eq_left AA]
   simp only [List.length_cons,List.length_nil]
   rw [show x.toNat+1+(k-(x.toNat+(0+1)))=k by omega,Qk hk,if_neg AA];rfl
 · rw [List.getElem?_eq_none (by simp [EX];omega),List.getElem?_eq_none (by rw [EX];omega)]
theorem ql {c:BV} {l:List (Int×Int)} {x d:Int} (h8:c.room.length≤8) (hi:(c.at d).toNat<c.B_.length) (hx:x.toNat<c.room.length):(Lu c l).set (c.at d).toNat (Nn c (l++[(x,d)]) (c.at d).toNat)=Lu c (l++[(x,d)]):=by
 apply List.ext_getElem?
 intro j
 rw [List.getElem?_set]
 by_cases hj:(c.at d).toNat=j
 ·
  subst hj
  rw [if_pos rfl,if_pos (by rw [H_];exact hi),Qj hi]
 ·
  rw [if_neg hj]
  by_cases hl:j<c.B_.length
  · rw [Qj hl,Qj hl,aq h8 hx hj]
  · rw [List.getElem?_eq_none Vb,List.getElem?_eq_none Vb]
abbrev rowsOf (c:BV) (bs:List Nat):Pr:=slice 1 (bs.map fun b=>[is (KE c.room.length b)])
theorem Nq {c:BV} {days others:List Int} (h:c.Eh Aj days others=0):Aj.length=days.length∧Aj.length≤24:=by grind [BV.Eh]
theorem SM {c:BV} {days others:List Int} (h:c.Eh Aj days others=0):(Aj.zip days).all (fun p=>c.may p.1 p.2)=true:=by grind [BV.Eh]
theorem gE {c:BV} {days:List Int} (hf:c.Eh Aj days []=0):A0 prog 160 [Me c,ints Aj,ints days] (slice 1 ((c.GD (Aj.zip days)).map fun r=>[ints r])):=by
 refine fo func160 rfl ⟨rfl,rfl⟩ fun M0 w0=> ?_
 have hown:=I6 hf
 obtain ⟨h32,h8⟩:=SI hown
 obtain ⟨hlen,OB⟩:=Nq hf
 have hmay:=SM hf
 have SN:=YI hf
 have hm:c.room.length≤maxLen:=by unfold maxLen;omega
 refine a3 ?_
 refine Tr.block (Tr.B5 22 1 (Tr.Xb _ (kk [12,3,2,1] rfl) (fun (bs:List Nat) u=>[(13,int ((bs.length:Nat):Int)),(7,AV u (rowsOf c bs))]) (fun (bs:List Nat) u=>Hp M0 w0 FO (As 22 1 u::D6 3 bs (List.replicate bs.length (qi c)))) (fun (bs:List Nat)=>bs.length≤c.B_.length) (fun (bs:List Nat)=>c.B_.length-bs.length) ([]) (.slice none 0 0) AO ⟨kq,⟨_,rfl,Bg AO⟩,trivial⟩ (fun _ _ h=>h) ?_))
 rintro bs u Xj
 refine ac ?_
 refine Tr.seq ?_
 refine Tr.cn rfl ?_ ?_<;>intro h1 q1
 have hlt:bs.length<c.B_.length:=AH h1
 refine ac ?_
 refine ap ?_
 refine TO.Vq rfl rfl AB rfl underlying22 Bi G_ z3 rfl vq vq FV AA (fun b1=> ?_)
 refine tp rfl (Af (xs:=[.tmp 19]) (rows:=[[_]]) rfl rfl underlying128 NO z22 rfl AB ⟨⟨An,F7⟩,trivial⟩ AB) ?_
 refine TO.Df 1 rfl rfl AB (B9 rfl rfl rfl rfl underlying128 NO AHW z22 Ea Db (Ay BK FC)) (fun v1=> ?_)
 refine ap ?_
 refine wk [13,12,7,3,2,1] rfl ?_
 refine ac ?_
 refine Fin.perm (rs':=As 22 1 v1::D6 3 (bs++[b1]) (List.replicate (bs++[b1]).length (qi c))) ((List.Perm.swap _ _ _).trans (List.Perm.cons _ (by rw [List.length_append,List.length_singleton,List.replicate_succ'];exact (UE AO).symm))) ?_
 exact Fin.eZ (bs++[b1]) v1 (⟨by simp;omega,by simp;omega⟩) ⟨⟨_,rfl,int_eq AO⟩,⟨_,rfl,BB Dm⟩,kz⟩ (fun _ _ h=>h)
 have ZP:bs.length=c.B_.length:=by have:=AJ h1;omega
 refine a2 ?_
 refine Tr.block ?_
 refine Tr.EC _ (kk [24,23,3,2] rfl) (fun k u2=>[(25,int ((k:Nat):Int)),(7,AV u2 (rowsOf c bs))]) (fun k u2=>Hp M0 w0 FO (As 22 1 u2::D6 3 bs (Lu c ((Aj.zip days).take k)))) (fun k:Nat=>k≤(Aj).length) (fun k:Nat=>(Aj).length-k) 0 u (Nat.zero_le _) ⟨kq,⟨_,rfl,BB AO⟩,trivial⟩ ((by rw [List.take_zero,jy,←ZP];exact fun _ _ h=>h)) ?_
 rintro k u2 BJ
 refine ac ?_
 refine Tr.seq ?_
 refine Tr.cn rfl ?_ ?_<;>intro h2 q2
 have AZ:k<(Aj).length:=AH h2
 obtain ⟨n,AX⟩:=at_ AZ
 obtain ⟨d,hd⟩:=at_ (l:=days) (k:=k) AA
 have hmk:c.may n d=true:=by have:=List.all_eq_true.1 hmay (n,d) (List.mem_of_getElem? (by rw [List.getElem?_zip_eq_some];exact ⟨AX,hd⟩));exact this
 have hat:=qY hmk
 have hai:(c.at d).toNat<c.B_.length:=by have:=(UY (ES d) c.B_).2;unfold BV.at at*;omega
 obtain ⟨b0,hb0⟩:=at_ (l:=bs) (k:=(c.at d).toNat) AA
 have hn8:=SN n (List.mem_append_left _ (List.mem_of_getElem? AX))
 have hn9:0≤n∧n<c.room.length:=by unfold BV.has at hn8;simpa using hn8
 have hxn:n.toNat<c.room.length:=by omega
 have hbt:bs.length=(Lu c ((Aj.zip days).take k)).length:=by rw [H_];exact ZP
 have wh:c.cnt ((Aj.zip days).take k) ((c.at d).toNat*8+n.toNat)≤24:=Nat.le_trans (AAu _ _ _) CL
 refine a2 ?_
 refine co rfl (AD rfl underlying22 Bi vq vq AA CX) ?_
 refine ac ?_
 refine Tr.perm (rs':=AF true b0 3 (Nn c ((Aj.zip days).take k) (c.at d).toNat)::As 22 1 u2::D6 3 (bs.eraseIdx (c.at d).toNat) ((Lu c ((Aj.zip days).take k)).eraseIdx (c.at d).toNat)) (((nV hbt hb0 (Qj hai)).cons _).trans (List.Perm.swap _ _ _)) ?_
 refine Tr.rx ?_
 refine ay ?_
 refine xo rfl (fun _=>AD rfl underlying22 Bi vq vq AA CX) ?_
 refine xo rfl (fun _=>Iv rfl DL rfl) (xo rfl (fun _=>Bq (zC) rfl rfl rfl) (xo rfl (fun _=>AD rfl underlying128 NO Ea vq AA CX) ?_))
 refine ay ?_
 refine xo rfl (fun _=>BI rfl underlying22 Bi vq vq AA AA) ?_
 refine JU 0 rfl rfl (BT rfl DL vq (by rw [show 0+n.toNat*1=n.toNat by omega];exact Qk hxn)) ?_
 refine xo rfl (fun _=>Gz rfl vq vq ?hin) ?_;case hin=>unfold RO;omega
 refine xo rfl (fun _=>BI rfl underlying22 Bi vq vq AA AA) ?_
 refine Cx.DP 0 rfl rfl (BF rfl rfl vq F7 Bi rfl (by rw [EX];omega) (jz h8 hxn)) ?_
 refine Cx.nil ⟨by kernel_rfl,?_⟩
 refine Aw.done UL ?_
 refine ac ?_
 refine wk [25,24,23,7,3,2] rfl ?_
 refine ac ?_
 refine Fin.perm (rs':=As 22 1 u2::D6 3 bs (Lu c ((Aj.zip days).take (k+1)))) ((List.Perm.swap _ _ _).trans (List.Perm.cons _ (by rw [YH AX hd,←ql h8 hai hxn];exact (Vr _ hbt hb0).symm))) ?_
 exact Fin.C8 (k+1) u2 (⟨AZ,by omega⟩) ⟨⟨_,rfl,AG k⟩,⟨_,rfl,BB AO⟩,kz⟩ (fun _ _ h=>h)
 have A8:k=(Aj).length:=by have:=AJ h2;omega
 subst A8
 have hbt:bs.length=(Lu c ((Aj.zip days).take Aj.length)).length:=by rw [H_];exact ZP
 refine ac ?_
 refine Tr.seq (Tr.drop 0 (Tr.Xd 7 hbt hm qj rfl (Ao _ _) ?_))
 refine a2 ?_
 · exact Pr.le_of_eq (by rw [List.take_of_length_le CL];unfold Lu;rw [List.map_map];exact congrArg _ (List.map_congr_left fun r _=>by show [slice 1 _]=[slice 1 _];rw [List.map_map];rfl))
theorem gF {c:BV} {l:List (Int×Int)} {r:List Int} (h:(c.GD l)[i]? =some r):i<c.B_.length∧r=(List.range c.room.length).map fun n=>(c.cnt l (i*8+n):Int):=by grind [BV.GD]
theorem qm {c:BV} {l:List (Int×Int)} {r:List Int} {z:Int} (hr:r=(List.range c.room.length).map fun n=>(c.cnt l (i*8+n):Int)) (h:r[n]? =some z):n<c.room.length∧z=c.cnt l (i*8+n):=by grind
theorem SO (c:BV) (l:List (Int×Int)):(c.GD l).length=c.B_.length:=by simp [BV.GD]
theorem wj {c:BV} {days:List Int}:A0 prog 109 [Me c,ints Aj,ints days] (int (c.Dw Aj days [])):=by
 refine fo func109 rfl ⟨rfl,rfl⟩ fun M0 w0=> ?_
 refine a2 ?_
 refine co rfl (Jd (AAz) rfl rfl rfl rfl) ?_
 refine ac ?_
 refine an ?_ ?_<;>intro h1 q1
 refine a2 ?_
 · refine int_eq ?_;unfold BV.Dw;rw [if_pos Bh]
 have hf:c.Eh Aj days []=0:=q1
 refine a2 ?_
 refine co rfl (Jd (gE Bh) rfl rfl rfl rfl) ?_
 refine ac ?_
 refine wk [24,23,22,3] rfl (Tr.block (Tr.CG 22 rfl fun hlt=>(Tr.Ax _ (kk [23,22,3] rfl) (fun i:Nat=>[(24,int ((i:Nat):Int))]) (fun i:Nat=>i≤(c.GD (Aj.zip days)).length∧(∀i' n r,i'<i→c.room[n]? =some r→(c.cnt (Aj.zip days) (i'*8+n):Int)≤r)) (fun i:Nat=>(c.GD (Aj.zip days)).length-i) 0 (⟨Nat.zero_le _,fun i' n r hi=>absurd hi AA⟩) kz ?_)))
 rintro i ⟨UT,FD⟩
 refine ac ?_
 refine Tr.seq ?_
 refine Tr.cn rfl ?_ ?_<;>intro h2 q2
 have Ic:i<(c.GD (Aj.zip days)).length:=AH h2
 obtain ⟨row,JM⟩:=at_ Ic
 obtain ⟨hiw,hrow⟩:=gF JM
 have hrl:row.length=c.room.length:=by rw [hrow];simp
 refine ac ?_
 refine Tr.seq (Tr.block (Tr.seq (Tr.Bt (co rfl (AD rfl underlying128 NO vq vq AA CX) ?_))))
 refine a2 ?_
 refine Tr.block (Tr.CG 28 rfl fun hlr=>(Tr.Ax _ (kk [29,28,24,23,22,3] rfl) (fun m:Nat=>[(30,int ((m:Nat):Int))]) (fun m:Nat=>m≤(row).length∧(∀n r,n<m→c.room[n]? =some r→(c.cnt (Aj.zip days) (i*8+n):Int)≤r)) (fun m:Nat=>(row).length-m) 0 (⟨Nat.zero_le _,fun n r hn=>absurd hn AA⟩) kz ?_))
 rintro m ⟨Nk,Ie⟩
 refine ac ?_
 refine Tr.seq ?_
 refine Tr.cn rfl ?_ ?_<;>intro h3 q3
 have Es:m<(row).length:=AH h3
 obtain ⟨z,Ew⟩:=at_ Es
 obtain ⟨hmr,hz⟩:=qm hrow Ew
 obtain ⟨r,hr⟩:=at_ hmr
 subst hz
 · repeat' first|(refine int_eq ?_;unfold BV.Dw;rw [if_neg (not_not_intro hf),if_pos ⟨i,m,r,hiw,hr,by omega⟩])|exact Fin.AM (m+1) ⟨⟨Es,ak Ie hr AA⟩,by omega⟩ ⟨⟨_,rfl,AG m⟩,kz⟩|refine co rfl (AD rfl underlying22 Bi vq vq AA CX) ?_|refine ac ?_|(refine Tr.cn rfl ?_ ?_<;>intro h q)
 have Kt:m=(row).length:=by have:=AJ h3;omega
 subst Kt
 refine a2 ?_
 exact Fin.AM (i+1) ⟨⟨Ic,aj FD (by rw [←hrl];exact Ie)⟩,by omega⟩ ⟨⟨_,rfl,AG i⟩,kz⟩
 have Oe:i=(c.GD (Aj.zip days)).length:=by have:=AJ h2;omega
 subst Oe
 refine a3 ?_
 · refine int_eq ?_;unfold BV.Dw;rw [if_neg (not_not_intro hf),if_neg (by rintro ⟨i,n,r,h1,h2,h3⟩;have:=FD i n r (by rw [SO];exact h1) h2;omega)]
theorem j0 {c:BV} {days:List Int} {n:Int} (h:c.has n=true):c.Eh Aj days [n]=c.Eh Aj days []:=by grind [BV.Eh]
theorem Hl {c:BV} {days:List Int} {n:Int} (h:c.has n=true):c.Dw Aj days [n]=c.Dw Aj days []:=by
 unfold BV.Dw;rw [j0 h]
theorem D4 {c:BV} {days os:List Int} {e:Int} (h:c.Eh Aj days os=e) (he:e≠0):c.Dw Aj days os=e:=by
 unfold BV.Dw;rw [if_pos H7,h]
theorem Og {c:BV} {days os:List Int} (h:¬c.own=0):c.Eh Aj days os=c.own:=by unfold BV.Eh;rw [if_pos h]
theorem au {c:BV} {days os:List Int} (h:c.own=0) (h1:Aj.length≠days.length):c.Eh Aj days os=1:=by unfold BV.Eh;rw [if_neg (not_not_intro h),if_pos h1]
theorem av {c:BV} {days os:List Int} (h:c.own=0) (h1:Aj.length=days.length) (h2:24<Aj.length):c.Eh Aj days os=3:=by grind [BV.Eh]
theorem Zq {c:BV} {days:List Int} {n:Int} (h:c.own=0) (h1:Aj.length=days.length) (h2:¬24<Aj.length) (h3:¬c.has n=true):c.Eh Aj days [n]=2:=by grind [BV.Eh]
theorem Ek {c:BV} {days:List Int} {n d e:Int} (h:c.Dw Aj days [n]=e) (he:e≠0):c.early Aj days n d=none:=by
 unfold BV.early;rw [if_neg H7]
theorem Kx {c:BV} {days:List Int} {n d:Int} (h:c.Dw Aj days [n]=0):c.early Aj days n d=c.next n d (c.free (Aj.zip days) n):=by
 unfold BV.early;rw [if_pos h]
theorem SP {c:BV} {n:Int} {room:Nat→Bool} (h:c.own=0) {w:Ji} (hw:c.B_[k]? =some w) (hd:max day w.lo<w.hi) (hm:c.may n (max day w.lo)=true) (hr:room k=true):ET n (max day 0) room k (c.B_.drop k)=some (max day w.lo):=by grind [I7,YJ,qX]
theorem Ky {c:BV} {n:Int} {room:Nat→Bool} (h:c.own=0) {w:Ji} (hw:c.B_[k]? =some w) (hd:¬(max day w.lo<w.hi∧c.may n (max day w.lo)=true∧room k=true)):ET n (max day 0) room k (c.B_.drop k)=ET n (max day 0) room (k+1) (c.B_.drop (k+1)):=by grind [I7,jx,YJ]
theorem YK {c:BV} {days:List Int} {n from_:Int}:A0 prog 104 [Me c,ints Aj,ints days,int n,int from_] (C_ [int ((c.early Aj days n from_).getD 0),bool (c.early Aj days n from_).isSome,int (c.Dw Aj days [n])]):=by
 refine fo func104 rfl ⟨rfl,rfl⟩ fun M0 w0=>(Tr.FW 0 0 rfl rfl fun Gh=>(Tr.FW 0 1 rfl rfl fun Lb=>(Tr.FW 0 2 rfl rfl fun gC=>(Tr.CG 1 rfl fun ER=>(Tr.CG 2 rfl fun qH=> ?_)))))
 refine a2 ?_
 refine co rfl (Bq (Kw) rfl rfl rfl) ?_
 refine ac ?_
 refine Tr.seq (Tr.re 13 rfl (int_eq (b:=c.own) rfl) ?_)
 refine an ?_ ?_<;>intro h1 q1
 refine ac ?_
 refine wk [12,11,10] rfl (Tr.ret (Fin.AE (Fin.JR rfl (Bv.EU _ _) rfl ?_ rfl ?_ rfl ?_)))
 · refine int_eq ?_;rw [Ek (D4 (Og Bh) Bh) Bh];rfl
 · refine bool_eq ?_;rw [Ek (D4 (Og Bh) Bh) Bh];rfl
 · refine int_eq ?_;exact (D4 (Og Bh) Bh).symm
 have hown:c.own=0:=q1
 refine a2 ?_
 refine wk [31,5,4,3,2,1] rfl ?_
 refine Tr.cn rfl ?_ ?_<;>intro h2 q2
 refine ac ?_
 refine Tr.ret (Fin.AE (Fin.JR rfl (Bv.EU _ _) rfl ?_ rfl ?_ rfl ?_))
 · refine int_eq ?_;rw [Ek (D4 (au hown AA) AB) AB];rfl
 · refine bool_eq ?_;rw [Ek (D4 (au hown AA) AB) AB];rfl
 · refine int_eq ?_;exact (D4 (au hown AA) AB).symm
 refine ac ?_
 refine an ?_ ?_<;>intro h3 q3
 refine ac ?_
 refine Tr.ret (Fin.AE (Fin.JR rfl (Bv.EU _ _) rfl ?_ rfl ?_ rfl ?_))
 · refine int_eq ?_;rw [Ek (D4 (av hown AA AA) AB) AB];rfl
 · refine bool_eq ?_;rw [Ek (D4 (av hown AA AA) AB) AB];rfl
 · refine int_eq ?_;exact (D4 (av hown AA AA) AB).symm
 refine ac ?_
 refine ag ?_ ?_<;>intro h4 q4
 refine ac ?_
 refine wk [43,5,4,3,2,1] rfl ?_
 refine ac ?_
 refine Tr.ret (Fin.AE (Fin.JR rfl (Bv.EU _ _) rfl ?_ rfl ?_ rfl ?_))
 · exact mq
 · exact mo
 · exact dD
 refine ac ?_
 refine wk [43,5,4,3,2,1] rfl ?_
 refine Tr.cn rfl ?_ ?_<;>intro h5 q5
 refine ac ?_
 refine Tr.ret (Fin.AE (Fin.JR rfl (Bv.EU _ _) rfl ?_ rfl ?_ rfl ?_))
 · exact mq
 · exact mo
 · exact dD
 have SN:c.has n=true:=by simp [BV.has];omega
 refine a2 ?_
 refine co rfl (Jd (wj) rfl rfl rfl rfl) ?_
 refine ac ?_
 refine an ?_ ?_<;>intro h6 q6
 refine ac ?_
 refine wk [12,11,10] rfl (Tr.ret (Fin.AE (Fin.JR rfl (Bv.EU _ _) rfl ?_ rfl ?_ rfl ?_)))
 · refine int_eq ?_;rw [Ek (Hl SN) Bh];rfl
 · refine bool_eq ?_;rw [Ek (Hl SN) Bh];rfl
 · refine int_eq ?_;exact (Hl SN).symm
 have mK:c.Dw Aj days []=0:=q6
 have hf:=Hj mK
 have hfn:c.Dw Aj days [n]=0:=by rw [Hl SN];exact mK
 refine a2 ?_
 refine co rfl (Jd (gE Bh) rfl rfl rfl rfl) ?_
 refine ac ?_
 refine wk [15,5,4,3] rfl ?_
 refine ac ?_
 refine Tr.block (Tr.Ax _ (kk [57,56,15,5,4,3] rfl) (fun k:Nat=>[(58,int ((k:Nat):Int))]) (fun k:Nat=>k≤(c.B_).length∧(c.next n from_ (c.free (Aj.zip days) n)=ET n (max from_ 0) (c.free (Aj.zip days) n) k (c.B_.drop k))) (fun k:Nat=>(c.B_).length-k) 0 (⟨Nat.zero_le _,rfl⟩) kz ?_)
 rintro k ⟨BJ,AQ⟩
 refine ac ?_
 refine Tr.seq ?_
 refine Tr.cn rfl ?_ ?_<;>intro h7 q7
 have AZ:k<(c.B_).length:=AH h7
 obtain ⟨w,AX⟩:=at_ AZ
 obtain ⟨row,hrow⟩:=at_ (l:=c.GD (Aj.zip days)) (k:=k) (by rw [SO];exact AZ)
 obtain ⟨_,hr2⟩:=gF hrow
 obtain ⟨hn0,hrm⟩:=SJ SN
 obtain ⟨z,hz⟩:=at_ (l:=row) (k:=n.toNat) (by rw [hr2];simp;have:=SN;simp [BV.has] at this;omega)
 obtain ⟨Z9,JN⟩:=qm hr2 hz
 refine ac ?_
 refine ao ?_
 refine tp rfl (AD rfl underlying75 Iz vq vq AA CX) ?_
 refine tp rfl (Ad rfl Rm Iz vq rfl rfl) ?_
 refine Tl rfl rfl rfl rfl z141 Rn (fun b1=> ?_)
 refine tm rfl ?_
 refine sf 0 17 ⟨rfl,rfl,rfl⟩ rfl rfl rfl rfl ?_
 refine ao ?_
 refine wk [58,57,56,17,16,15,5,4,3] rfl ?_
 refine ac ?_
 refine co rfl (OK rfl vq vq) ?_
 refine ac ?_
 refine wk [58,57,56,18,17,16,15,5,4,3] rfl ?_
 refine ag ?_ ?_<;>intro h8 q8
 refine ac ?_
 refine cy h8 rfl (Jd (qg) rfl rfl rfl rfl) ?_
 refine ag ?_ ?_<;>intro h9 q9
 refine ac ?_
 refine cy h9 rfl (AD rfl underlying128 NO vq vq AA CX) ?_
 refine ac ?_
 refine cy h9 rfl (AD rfl underlying22 Bi vq vq AA CX) ?_
 refine ac ?_
 refine cy h9 rfl (AD rfl underlying22 Bi vq vq AA CX) ?_
 refine ac ?_
 refine wk [93,58,57,56,18,15,5,4,3] rfl ?_
 refine Tr.cn rfl ?_ ?_<;>intro h10 R9
 refine ac ?_
 refine Tr.ret (Fin.AU (Fin.AE (Fin.AE (Fin.AU (Fin.AE (Fin.JR rfl (Bv.EU _ _) rfl ?_ rfl ?_ rfl ?_))))))
 · refine int_eq ?_;rw [Kx hfn,AQ,SP hown AX Bh Bh (by simp only [BV.free,decide_eq_true_eq];omega)];rfl
 · refine bool_eq ?_;rw [Kx hfn,AQ,SP hown AX Bh Bh (by simp only [BV.free,decide_eq_true_eq];omega)];rfl
 · refine int_eq ?_;exact hfn.symm
 refine a2 ?_
 exact Fin.AM (k+1) ⟨⟨AZ,(AQ.trans (Ky hown AX dX))⟩,by omega⟩ ⟨⟨_,rfl,AG k⟩,kz⟩
 refine ac ?_
 refine wk [93,58,57,56,18,15,5,4,3] rfl ?_
 refine a2 ?_
 exact Fin.AM (k+1) ⟨⟨AZ,(AQ.trans (Ky hown AX (by rintro ⟨a1,a2,a3⟩;simp only [BV.free,decide_eq_true_eq] at a3;simp_all)))⟩,by omega⟩ ⟨⟨_,rfl,AG k⟩,kz⟩
 refine ac ?_
 refine wk [93,58,57,56,18,15,5,4,3] rfl ?_
 refine a2 ?_
 exact Fin.AM (k+1) ⟨⟨AZ,(AQ.trans (Ky hown AX dX))⟩,by omega⟩ ⟨⟨_,rfl,AG k⟩,kz⟩
 have A8:k=(c.B_).length:=by have:=AJ h7;omega
 subst A8
 refine a2 ?_
 refine Tr.ret (Fin.JR rfl (Bv.EU _ _) rfl ?_ rfl ?_ rfl ?_)
 · refine int_eq ?_;rw [Kx hfn,AQ,List.drop_length];rfl
 · refine bool_eq ?_;rw [Kx hfn,AQ,List.drop_length];rfl
 · refine int_eq ?_;exact hfn.symm
theorem AA0 {k:Int}:∀{l:List Ji} {j:Nat} {w:Ji},Ua l→l[j]? =some w→ES k w=true→idx (ES k) l=j:=by
 intro l j w hp hj hin
 refine (El hj hin fun i y hi hy=> ?_).symm
 rw [Bool.eq_false_iff]
 intro hc
 have h1:=SK hc
 have h2:=SK hin
 have hij:i<l.length:=by rcases Nat.lt_or_ge i l.length with h|h;exact h;rw [List.getElem?_eq_none h] at hy;cases hy
 have hjl:j<l.length:=by rcases Nat.lt_or_ge j l.length with h|h;exact h;rw [List.getElem?_eq_none h] at hj;cases hj
 have:=List.pairwise_iff_getElem.1 hp i j hij hjl hi
 rw [List.getElem?_eq_getElem hij] at hy
 rw [List.getElem?_eq_getElem hjl] at hj
 simp at hy hj
 rw [hy,hj] at this
 omega
theorem qn {c:BV} {k:Int} {w:Ji} (h:c.own=0) (hj:c.B_[j]? =some w) (hin:ES k w=true):c.at k=j:=by
 obtain ⟨h1,h2⟩:=I7 h
 exact AA0 (I8 h1 h2) hj hin
theorem Nr {a b:List Int} (h:a.length=b.length) (x y:Int):(a++[x]).zip (b++[y])=a.zip b++[(x,y)]:=by
 rw [List.zip_append h];rfl
theorem j4 {c:BV} {a b:List Int} {t d:Int} (hf:c.Eh a b []=0) (OB:a.length<24) (ht:c.has t=true) (hm:c.may t d=true):c.Eh (a++[t]) (b++[d]) []=0:=by
 have ho:=I6 hf
 have hl:=(Nq hf).1
 have h1:=YI hf
 have h2:=SM hf
 unfold BV.Eh
 rw [if_neg (not_not_intro ho),if_neg (by simp [hl]),if_neg CL,if_neg,Nr hl,List.all_append,h2,if_pos (by simp [hm])]
 rw [Bool.not_eq_true,List.any_eq_false]
 intro n hn
 have:c.has n=true:=by
  rw [List.append_nil] at hn
  rcases List.mem_append.1 hn with hn|hn
  · exact h1 n (List.mem_append_left _ hn)
  · rw [List.mem_singleton.1 hn];exact ht
 simp [this]
theorem j5 {c:BV} {a b:List Int} {t d:Int} (hf:c.Dw a b []=0) (OB:a.length<24) (ht:c.has t=true) (hm:c.may t d=true) (hr:c.cnt (a.zip b) ((c.at d).toNat*8+t.toNat)<c.Mg t):c.Dw (a++[t]) (b++[d]) []=0:=by
 have mK:=Hj hf
 have h1:=j4 mK OB ht hm
 have ho:=I6 mK
 obtain ⟨h32,h8⟩:=SI ho
 have hl:=(Nq mK).1
 unfold BV.Dw
 rw [if_neg (not_not_intro h1),if_neg]
 rintro ⟨i,n,r,hi,hn,hc⟩
 rw [Nr hl,Np] at hc
 have hn8:n<8:=by
  rcases Nat.lt_or_ge n c.room.length with h|h
  · omega
  · rw [List.getElem?_eq_none h] at hn;cases hn
 have ht8:=qZ ho ht
 have hno:¬c.over (a.zip b):=by
  unfold BV.Dw at hf
  rw [if_neg (not_not_intro mK)] at hf
  intro hh;rw [if_pos hh] at hf;cases hf
 have hle:(c.cnt (a.zip b) (i*8+n):Int)≤r:=by
  rcases Int.lt_or_le r (c.cnt (a.zip b) (i*8+n):Int) with h|h
  · exact absurd ⟨i,n,r,hi,hn,h⟩ hno
  · exact h
 split at hc
 ·
  rename_i he
  have e1:(c.at d).toNat=i:=by omega
  have e2:t.toNat=n:=by omega
  have:=(SJ ht).2
  rw [e2,hn] at this
  simp at this
  rw [e1,e2] at hr
  omega
 · omega
theorem qo {c:BV} (h:c.own=0):c.Dw [] [] []=0:=by
 have hf:c.Eh [] [] []=0:=by
  unfold BV.Eh
  rw [if_neg (not_not_intro h),if_neg AO,if_neg AO,if_neg AO,if_pos (by rfl)]
 unfold BV.Dw
 rw [if_neg (not_not_intro hf),if_neg]
 rintro ⟨i,n,r,_,hn,hc⟩
 have h2:=(Mh (show c.check c.Jj.length=0 from h)).2.1
 rw [List.any_eq_false] at h2
 have:=h2 r (List.mem_of_getElem? hn)
 simp [La] at this
 simp [BV.cnt] at hc
 omega
theorem PV {t d x:Int} {room:Nat→Bool}:∀{l:List Ji} {i:Nat},ET t d room i l=some x→Ua l→(∀w∈l,0≤w.lo∧w.lo<w.hi)→
  d≤x∧(∃(j:Nat) (w:Ji),l[j]? =some w∧ES x w=true∧w.Aj.any (fun y=>t==y)=true∧room (i+j)=true)∧∀k,d≤k→k<x→∀(j:Nat) (w:Ji),l[j]? =some w→ES k w=true→¬(w.Aj.any (fun y=>t==y)=true∧room (i+j)=true)
 |[],_,h,_,_=>by cases h
 |a::l,i,h,hp,hw=>by
  have ha:=hw a AO
  unfold ET at h
  split at h
  ·
   rename_i hc
   simp only [Option.some.injEq] at h
   subst h
   refine ⟨by omega,⟨0,a,rfl,zB AA,hc.2.1,hc.2.2⟩,fun k hk hx j w hj hin=> ?_⟩
   have:=SK hin
   match j with
   |0=>simp at hj;subst hj;omega
   |j+1=>
    have h1:=(List.pairwise_cons.1 hp).1 w (List.mem_of_getElem? Gc)
    omega
  ·
   rename_i hc
   obtain ⟨h1,⟨j,w,hj,h2,h3,h5⟩,h4⟩:=PV h (List.pairwise_cons.1 hp).2 (fun w hm=>hw w (List.mem_cons_of_mem _ hm))
   refine ⟨h1,⟨j+1,w,by simpa using hj,h2,h3,by rw [show i+(j+1)=i+1+j by omega];exact h5⟩,fun k hk hx j u hu hin=> ?_⟩
   match j with
   |0=>
    simp at hu;subst hu
    have:=SK hin
    exact fun h=>hc ⟨by omega,h.1,h.2⟩
   |j+1=>
    have:=h4 k hk hx j u (by simpa using hu) hin
    rwa [show i+(j+1)=i+1+j by omega]
def BV.LR (c:BV) (l:List (Int×Int)) (t k:Int):Bool:=c.may t k&&decide ((c.cnt l ((c.at k).toNat*8+t.toNat):Int)<c.Mg t)
theorem wm {c:BV} {l:List (Int×Int)} {t k:Int} (h:c.own=0):c.LR l t k=true↔∃(j:Nat) (w:Ji),c.B_[j]? =some w∧ES k w=true∧w.Aj.any (fun y=>t==y)=true∧c.free l t j=true:=by
 unfold BV.LR
 rw [Bool.and_eq_true,we h,decide_eq_true_eq]
 constructor
 ·
  rintro ⟨⟨w,hw,h1,h2⟩,h3⟩
  obtain ⟨j,hj⟩:=List.mem_iff_getElem?.1 hw
  refine ⟨j,w,hj,h1,h2,?_⟩
  rw [qn h hj h1,Int.toNat_natCast] at h3
  simpa [BV.free] using h3
 ·
  rintro ⟨j,w,hj,h1,h2,h3⟩
  refine ⟨⟨w,List.mem_of_getElem? hj,h1,h2⟩,?_⟩
  rw [qn h hj h1,Int.toNat_natCast]
  simpa [BV.free] using h3
theorem qp {c:BV} {a b:List Int} {t k:Int} (hf:c.Dw a b []=0) (OB:a.length<24) (ht:c.has t=true):decide (c.Dw (a++[t]) (b++[k]) []=0)=c.LR (a.zip b) t k:=by
 have mK:=Hj hf
 have ho:=I6 mK
 obtain ⟨hl,_⟩:=Nq mK
 have ht8:=qZ ho ht
 rw [Bool.eq_iff_iff,decide_eq_true_eq,BV.LR,Bool.and_eq_true,decide_eq_true_eq]
 constructor
 ·
  intro h
  have h0:=Hj h
  have hm:=SM h0
  rw [Nr hl,List.all_append,Bool.and_eq_true] at hm
  have hm1:c.may t k=true:=by simpa using hm.2
  refine ⟨hm1,?_⟩
  unfold BV.Dw at h
  rw [if_neg (not_not_intro h0)] at h
  have hno:¬c.over ((a++[t]).zip (b++[k])):=by intro hh;rw [if_pos hh] at h;cases h
  have hat:=qY hm1
  have hai:(c.at k).toNat<c.B_.length:=by have:=(UY (ES k) c.B_).2;unfold BV.at at*;omega
  have hr:=(SJ ht).2
  rcases Int.lt_or_le (c.cnt (a.zip b) ((c.at k).toNat*8+t.toNat)) (c.Mg t) with h5|h5
  · exact h5
  ·
   refine absurd ⟨(c.at k).toNat,t.toNat,c.Mg t,hai,hr,?_⟩ hno
   rw [Nr hl,Np,if_pos AA]
   omega
 ·
  rintro ⟨h1,h2⟩
  exact j5 hf OB ht h1 h2
structure BM where
 fst:Int
 thn:Int
 deriving DecidableEq
variable {I:C1} {E:Env} {s:List Int} {i j k n:Nat} {o:Oper}
def E5 (a b:BM):Bool:=if a.fst=b.fst then decide (a.thn<b.thn) else decide (a.fst<b.fst)
def Ft (n:Int) (r:BM):Bool:=decide (r.fst<0∨r.thn<0∨n≤r.fst∨n≤r.thn∨r.fst=r.thn)
def GI (l:List BM) (a b:Nat):Bool:=l.any fun r=>decide (r.fst=(a:Int))&&decide (r.thn=(b:Int))
def Kz (k:Nat) (m:Nat→Nat→Bool) (a b:Nat):Bool:=m a b||(m a k&&m k b)
def DU (l:List BM):Nat→Nat→Nat→Bool
 |0=>GI l
 |k+1=>Kz k (DU l k)
theorem I9 {l:List BM} {a b:Nat} (h:GI l a b=true):∀k,DU l k a b=true
 |0=>h
 |k+1=>by show (_||_)=true;rw [I9 h k];rfl
theorem SQ {l:List BM}:∀(k:Nat) {a b c:Nat},c<k→DU l k a c=true→DU l k c b=true→DU l k a b=true
 |0,_,_,_,h,_,_=>absurd h AA
 |k+1,a,b,c,h,h1,h2=>by
  have ih:= @SQ l k
  simp only [DU,Kz,Bool.or_eq_true,Bool.and_eq_true] at h1 h2 ⊢
  rcases Nat.lt_or_ge c k with hc|hc
  ·
   rcases h1 with h1|⟨h1,h3⟩<;>rcases h2 with h2|⟨h2,h4⟩
   · exact .inl (ih hc h1 h2)
   · exact .inr ⟨ih hc h1 h2,h4⟩
   · exact .inr ⟨h1,ih hc h3 h2⟩
   · exact .inr ⟨h1,h4⟩
  ·
   obtain rfl:c=k:=by omega
   refine .inr ⟨?_,?_⟩
   · rcases h1 with h1|⟨h1,_⟩<;>exact h1
   · rcases h2 with h2|⟨_,h2⟩<;>exact h2
def Jl (k:Nat) (m:Nat→Nat→Bool) (i j a b:Nat):Bool:=if a<i∨(a=i∧b<j) then Kz k m a b else m a b
theorem YL (k:Nat) (m:Nat→Nat→Bool) (a:Nat):Kz k m a k=m a k:=by unfold Kz;cases m a k<;>simp
theorem qq (k:Nat) (m:Nat→Nat→Bool) (b:Nat):Kz k m k b=m k b:=by unfold Kz;cases m k b<;>cases m k k<;>simp
theorem wo (k:Nat) (m:Nat→Nat→Bool) (i j a:Nat):Jl k m i j a k=m a k:=by unfold Jl;split;exact YL k m a;rfl
theorem wq (k:Nat) (m:Nat→Nat→Bool) (i j b:Nat):Jl k m i j k b=m k b:=by unfold Jl;split;exact qq k m b;rfl
def Wa (m:Nat→Nat→Bool) (i j a b:Nat):Bool:=if a=i∧b=j then true else m a b
theorem wu {m:Nat→Nat→Bool} (h1:m i k=true) (h2:m k j=true):Wa (Jl k m i j) i j=Jl k m i (j+1):=by grind [Wa,Jl,Kz]
theorem qt {m:Nat→Nat→Bool} (h:(m i k&&m k j)=false):Jl k m i j=Jl k m i (j+1):=by grind [Jl,Kz]
theorem AFV (k:Nat) (m:Nat→Nat→Bool):Jl k m 0 0=m:=by funext a b;unfold Jl;rw [if_neg AA]
def qu (n:Nat) (m m':Nat→Nat→Bool):Prop:=∀a b,a<n→b<n→m a b=m' a b
theorem qv {m:Nat→Nat→Bool}:qu n (Jl k m i n) (Jl k m (i+1) 0):=by
 intro a b _ hb
 unfold Jl
 by_cases h:a<i∨(a=i∧b<n)
 · rw [if_pos h,if_pos AA]
 · rw [if_neg h,if_neg AA]
theorem wv {m:Nat→Nat→Bool}:qu n (Jl k m n 0) (Kz k m):=by
 intro a b ha _
 unfold Jl;rw [if_pos AA]
def AFW (n:Nat) (l:List BM):Bool:=(List.range n).any fun i=>DU l n i i
def EI:List BM→Bool
 |[]=>true
 |[_]=>true
 |a::b::l=>E5 a b&&EI (b::l)
def BD (n:Int) (l:List BM):Int:=
 if n<0∨24<n then 2 else if l.any (Ft n) then 44 else if EI l=false then 6 else if AFW n.toNat l then 45 else 0
theorem qw {R:Nat→Nat→Prop} (hi:∀a,¬R a a) (ht:∀a b c,R a b→R b c→R a c):∀{L:List Nat},L≠[]→(∀a b,a∈L→b∈L→R a b∨¬R a b)→∃x∈L,∀y∈L,¬R y x
 |[],h,_=>absurd rfl h
 |[x],_,_=>⟨x,by simp,fun y hy=>by simp at hy;subst hy;exact hi _⟩
 |x::y::l,_,hd=>by
  obtain ⟨z,hz,hm⟩:=qw hi ht (L:=y::l) AO (fun a b ha hb=>hd a b (List.mem_cons_of_mem _ ha) (List.mem_cons_of_mem _ hb))
  rcases hd x z AO (List.mem_cons_of_mem _ hz) with h|h
  ·
   refine ⟨x,by simp,fun w hw=> ?_⟩
   rcases List.mem_cons.1 hw with rfl|hw
   · exact hi _
   · exact fun h2=>hm w hw (ht _ _ _ h2 h)
  ·
   refine ⟨z,List.mem_cons_of_mem _ hz,fun w hw=> ?_⟩
   rcases List.mem_cons.1 hw with rfl|hw
   · exact h
   · exact hm w hw
def G6 (s:List Int) (n:Int):Bool:=s.any fun x=>n==x
theorem Dr {n:Int}:G6 s n=true↔n∈s:=by grind [G6]
def CK (l:List BM) (s:List Int):Bool:=l.all fun r=> !(G6 s r.thn)||G6 s r.fst
theorem Cl {l:List BM}:CK l s=true↔∀r∈l,r.thn∈s→r.fst∈s:=by grind [CK,Dr]
def Du (n:Int) (has:Bool) (p:List Int×Bool) (x:Int):List Int×Bool:=
 if x=n then (if has=true∧p.2=false∧n<x then (p.1++[n],true) else p) else if has=true∧p.2=false∧n<x then (p.1++[n]++[x],true) else (p.1++[x],p.2)
def wall (n:Int) (has:Bool) (s:List Int):List Int×Bool:=s.foldl (Du n has) ([],false)
def EG (s:List Int) (n:Int) (has:Bool):List Int:=if has=true∧(wall n has s).2=false then (wall n has s).1++[n] else (wall n has s).1
theorem j6 (n:Int) (has:Bool) (s:List Int) (x:Int):wall n has (s++[x])=Du n has (wall n has s) x:=by unfold wall;rw [List.foldl_append];rfl
theorem SS {n:Int} {has:Bool} {x:Int}:∀{s:List Int} {p:List Int×Bool},(x∈(s.foldl (Du n has) p).1∧x≠n)↔((x∈p.1∨x∈s)∧x≠n)
 |[],p=>by simp
 |y::s,p=>by
  rw [List.foldl_cons,SS]
  unfold Du
  by_cases h1:x=n
  · subst h1;simp
  ·
   repeat' split
   all_goals (try subst y);simp [h1,or_assoc]
theorem SU {n:Int} {has:Bool}:∀{s:List Int} {p:List Int×Bool},(p.2=true→n∈p.1)→(p.2=false→n∉p.1)→(((s.foldl (Du n has) p).2=true→n∈(s.foldl (Du n has) p).1)∧((s.foldl (Du n has) p).2=false→n∉(s.foldl (Du n has) p).1))
 |[],p,h,h'=>⟨h,h'⟩
 |y::s,p,h,h'=>by
  rw [List.foldl_cons]
  apply SU
  ·
   unfold Du;intro h2
   repeat' split at h2
   all_goals (repeat' split)<;>simp_all
  ·
   unfold Du;intro h2
   repeat' split at h2
   all_goals (repeat' split)<;>simp_all<;>omega
theorem YM {n:Int}:∀{s:List Int} {p:List Int×Bool},p.2=false→(s.foldl (Du n false) p).2=false
 |[],p,h=>h
 |y::s,p,h=>by rw [List.foldl_cons];apply YM;unfold Du;split<;>simp_all
theorem Dj {n x:Int}:x∈EG s n true↔x=n∨x∈s:=by grind [SS,SU,EG,wall]
theorem Lc {n x:Int}:x∈EG s n false↔x≠n∧x∈s:=by grind [SS,SU,YM,EG,wall]
theorem SV {n:Int} {has:Bool}:∀{s:List Int} {p:List Int×Bool},(s.foldl (Du n has) p).1.length+(if (s.foldl (Du n has) p).2 then 0 else 1)≤p.1.length+(if p.2 then 0 else 1)+s.length
 |[],p=>Nat.le_refl _
 |y::s,p=>by
  rw [List.foldl_cons]
  refine Nat.le_trans SV ?_
  unfold Du
  repeat' split
  all_goals (simp_all<;>omega)
theorem Oh (s:List Int) (n:Int) (has:Bool):(EG s n has).length≤s.length+1:=by
 have h:=SV (n:=n) (has:=has) (s:=s) (p:=([],false))
 unfold EG wall
 split
 next h2=>rw [h2.2] at h;simp at h ⊢;omega
 next h2=>revert h;split<;>simp<;>omega
def Jm (l:List BM) (s:List Int) (add:Bool) (i:Nat):Bool:=(G6 s i !=add)&&CK l (EG s i add)
def D3 (n:Nat) (l:List BM) (s:List Int) (add:Bool):List Int:=((List.range n).filter (Jm l s add)).map fun i:Nat=>(i:Int)
theorem Cm {n:Int} {l:List BM} (h:BD n l=0):(0≤n∧n≤24)∧(∀r∈l,Ft n r=false)∧EI l=true∧∀i,i<n.toNat→DU l n.toNat i i=false:=by
 unfold BD at h
 split at h
 · cases h
 next h1=>
 split at h
 · cases h
 next h2=>
 split at h
 · cases h
 next h3=>
 split at h
 · cases h
 next h4=>
 refine ⟨by omega,fun r hr=> ?_,by simpa using h3,fun i hi=> ?_⟩
 · grind
 ·
  cases hb:DU l n.toNat i i with
  |false=>rfl
  |true=>exact absurd (show (List.range n.toNat).any (fun i=>DU l n.toNat i i)=true from List.any_eq_true.2 ⟨i,List.mem_range.2 hi,hb⟩) h4
theorem az {n:Int} {l:List BM} (h:BD n l=0) (hc:CK l s=true) (hi:i<n.toNat) (hn:(i:Int)∉s):D3 n.toNat l s true≠[]:=by
 obtain ⟨h1,h2,_,h4⟩:=Cm h
 have hU:(List.range n.toNat).filter (fun k:Nat=> !G6 s k)≠[]:=by
  intro he
  have:i∈(List.range n.toNat).filter (fun k:Nat=> !G6 s k):=List.mem_filter.2 ⟨List.mem_range.2 hi,by rw [Bool.not_eq_true'];cases hb:G6 s i with|false=>rfl|true=>exact absurd (Dr.1 hb) hn⟩
  rw [he] at this;cases this
 obtain ⟨x,hx,hm⟩:=qw (R:=fun a b=>a<n.toNat∧b<n.toNat∧DU l n.toNat a b=true) (fun a ha=>by have:=h4 a ha.1;rw [ha.2.2] at this;cases this) (fun a b c ⟨g1,g2,g3⟩ ⟨_,g4,g5⟩=>⟨g1,g4,SQ _ g2 g3 g5⟩) hU (fun a b _ _=>Classical.em _)
 obtain ⟨hx1,hx2⟩:=List.mem_filter.1 hx
 rw [List.mem_range] at hx1
 have hx3:(x:Int)∉s:=fun h=>by rw [Dr.2 h] at hx2;cases hx2
 intro he
 have:((x:Nat):Int)∈D3 n.toNat l s true:=by
  unfold D3
  refine List.mem_map.2 ⟨x,List.mem_filter.2 ⟨List.mem_range.2 hx1,?_⟩,rfl⟩
  unfold Jm
  rw [Bool.and_eq_true]
  refine ⟨by cases hb:G6 s x with|false=>rfl|true=>exact absurd (Dr.1 hb) hx3,Cl.2 fun r hr ht=> ?_⟩
  rw [Dj] at ht ⊢
  by_cases hf:r.fst=x
  · exact .inl hf
  right
  rcases ht with ht|ht
  ·
   have hb:=h2 r hr
   unfold Ft at hb
   simp only [decide_eq_false_iff_not] at hb
   by_cases hs:r.fst∈s
   · exact hs
   exfalso
   refine hm r.fst.toNat (List.mem_filter.2 ⟨List.mem_range.2 AA,?_⟩) ⟨by omega,hx1,I9 (List.any_eq_true.2 ⟨r,hr,?_⟩) _⟩
   ·
    rw [show ((r.fst.toNat:Nat):Int)=r.fst by omega,Bool.not_eq_true']
    cases TW:G6 s r.fst with
    |false=>rfl
    |true=>exact absurd (Dr.1 TW) hs
   · grind
  · exact Cl.1 hc r hr ht
 rw [he] at this;cases this
theorem Ld:∀{L M:List Int},L.Nodup→(∀x∈L,x∈M)→L.length≤M.length
 |[],_,_,_=>Nat.zero_le _
 |x::L,M,hn,hs=>by
  rw [List.nodup_cons] at hn
  have h:=Ld (L:=L) (M:=M.erase x) hn.2 (fun y hy=>(List.mem_erase_of_ne (fun e=>hn.1 (by rw [←e];exact hy))).2 (hs y (List.mem_cons_of_mem _ hy)))
  have hx:=hs x AO
  rw [List.length_erase_of_mem hx] at h
  have:=List.length_pos_of_mem hx
  simp;omega
structure Oi (n:Int) (l:List BM) (out done:List Int):Prop where
 mem:∀x,x∈done↔x∈out
 nd:out.Nodup
 Ql:∀x∈out,0≤x∧x<n
 cl:CK l done=true
 AA1:∀(k:Nat) x,out[k]? =some x→∀r∈l,r.thn=x→r.fst∈out.take k
theorem Oi.nil {n:Int} {l:List BM}:Oi n l [] []:=⟨fun x=>Iff.rfl,List.nodup_nil,(fun x h=>by cases h),(Cl.2 fun r _ h=>by cases h),(fun k x h=>by simp at h)⟩
theorem Oi.len {n:Int} {l:List BM} {out done:List Int} (h:Oi n l out done):out.length≤n.toNat:=by
 have:=Ld (L:=out) (M:=(List.range n.toNat).map fun i:Nat=>(i:Int)) h.nd (fun x hx=>by have:=h.Ql x hx;exact List.mem_map.2 ⟨x.toNat,List.mem_range.2 AA,by omega⟩)
 simpa using this
theorem Oi.bes {n:Int} {l:List BM} {out done:List Int} (h:Oi n l out done) (hv:BD n l=0) (hl:out.length<n.toNat):∃x,(D3 n.toNat l done true)[0]? =some x∧Oi n l (out++[x]) (EG done x true):=by
 have hex:∃i,i<n.toNat∧(i:Int)∉out:=by
  refine Classical.byContradiction fun hne=> ?_
  have hall:∀i,i<n.toNat→(i:Int)∈out:=fun i hi=>Classical.byContradiction fun hh=>hne ⟨i,hi,hh⟩
  have hnd:((List.range n.toNat).map fun i:Nat=>(i:Int)).Nodup:=by
   refine List.Pairwise.map _ (fun a b hab=> ?_) (List.nodup_range (n:=n.toNat))
   intro e;apply hab;omega
  have:=Ld hnd (M:=out) (fun x hx=>by
   obtain ⟨i,hi,rfl⟩:=List.mem_map.1 hx
   exact hall i (List.mem_range.1 hi))
  simp at this;omega
 obtain ⟨i,hi,hio⟩:=hex
 have hne:=az hv h.cl hi (fun hh=>hio ((h.mem _).1 hh))
 obtain ⟨x,hx⟩:=at_ (l:=D3 n.toNat l done true) (k:=0) (List.length_pos_iff.2 hne)
 refine ⟨x,hx,?_⟩
 obtain ⟨j,hj,rfl⟩:=List.mem_map.1 (List.mem_of_getElem? hx)
 obtain ⟨hj1,hj2⟩:=List.mem_filter.1 hj
 rw [List.mem_range] at hj1
 unfold Jm at hj2
 rw [Bool.and_eq_true] at hj2
 have hjd:(j:Int)∉done:=fun hh=>by rw [Dr.2 hh] at hj2;exact absurd hj2.1 AB
 have hjo:(j:Int)∉out:=fun hh=>hjd ((h.mem _).2 hh)
 refine ⟨fun y=> ?_,?_,fun y hy=> ?_,hj2.2,fun k y hk r hr ht=> ?_⟩
 · rw [Dj,h.mem,List.mem_append,List.mem_singleton];exact Or.comm
 ·
  rw [List.nodup_append]
  exact ⟨h.nd,by simp,fun a ha b hb=>by simp at hb;subst hb;intro e;subst e;exact hjo ha⟩
 ·
  rcases List.mem_append.1 hy with hy|hy
  · exact h.Ql y hy
  · simp at hy;subst hy;omega
 ·
  rcases Nat.lt_or_ge k out.length with hlt|hge
  ·
   rw [List.getElem?_append_left hlt] at hk
   rw [List.take_append_of_le_length AA]
   exact h.AA1 k y hk r hr ht
  ·
   have hk2:k=out.length:=by
    rcases Nat.lt_or_ge k (out++[(j:Int)]).length with hh|hh
    · simp at hh;omega
    · grind
   subst hk2
   rw [List.getElem?_append_right (Nat.le_refl _)] at hk
   simp at hk;subst hk
   rw [List.take_left]
   have XX:=Cl.1 hj2.2 r hr (Dj.2 (.inl ht))
   rcases Dj.1 XX with he|hm
   ·
    obtain ⟨_,g2,_,_⟩:=Cm hv
    have hb:=g2 r hr
    unfold Ft at hb
    simp only [decide_eq_false_iff_not] at hb
    omega
   · exact (h.mem _).1 hm
def E0 (l:List BM) (r:BM):Nat:=(l.takeWhile fun x=>E5 x r).length
def GU (l:List BM) (r:BM):List BM:=if l[E0 l r]? =some r then l else l.take (E0 l r)++[r]++l.drop (E0 l r)
theorem Qm (l:List BM) (r:BM):E0 l r≤l.length:=by unfold E0;exact (List.takeWhile_sublist _).length_le
theorem gG {l:List BM} {r:BM} (hk:k<E0 l r) {x:BM} (hx:l[k]? =some x):E5 x r=true:=by
 induction l generalizing k with
 |nil=>simp at hx
 |cons a l ih=>
  unfold E0 at hk
  rw [List.takeWhile_cons] at hk
  split at hk
  next h=>
   cases k with
   |zero=>simp at hx;subst hx;exact h
   |succ k=>exact ih (k:=k) (by simp at hk;exact hk) FL
  next=>simp at hk
theorem gH {l:List BM} {r:BM} {x:BM} (hx:l[E0 l r]? =some x):E5 x r=false:=by
 induction l with
 |nil=>simp at hx
 |cons a l ih=>
  unfold E0 at hx
  rw [List.takeWhile_cons] at hx
  split at hx
  next h=>exact ih (by unfold E0;simpa using hx)
  next h=>simp at hx;subst hx;simpa using h
theorem gI {l:List BM} {r:BM} (hl:k≤l.length) (h:∀j x,j<k→l[j]? =some x→E5 x r=true) (he:∀x,l[k]? =some x→E5 x r=false):E0 l r=k:=by
 rcases Nat.lt_trichotomy (E0 l r) k with h1|h1|h1
 ·
  obtain ⟨x,hx⟩:=at_ (l:=l) (k:=E0 l r) AA
  have:=h _ x h1 hx;rw [gH hx] at this;cases this
 · exact h1
 ·
  obtain ⟨x,hx⟩:=at_ (l:=l) (k:=k) (by have:=Qm l r;omega)
  have:=he x hx;rw [gG h1 hx] at this;cases this
theorem SW (l:List BM) (r:BM):(GU l r).length≤l.length+1:=by
 have:=Qm l r
 unfold GU;split<;>simp<;>omega
theorem YN {l:List BM} {r x:BM}:x∈GU l r↔x=r∨x∈l:=by
 unfold GU;split
 next h=>exact ⟨.inr,fun h2=>h2.elim (fun e=>by subst e;exact List.mem_of_getElem? h) id⟩
 next=>rw [List.append_assoc,List.mem_append,List.mem_append,List.mem_singleton,←or_assoc,or_comm (a:=x∈_) (b:=x=r),or_assoc,←List.mem_append,List.take_append_drop]
theorem qx {a b:BM} (h:E5 a b=false) (hn:a≠b):E5 b a=true:=by
 unfold E5 at*
 obtain ⟨a1,a2⟩:=a
 obtain ⟨b1,b2⟩:=b
 simp only [ne_eq,BM.mk.injEq,not_and] at*
 repeat' split at h
 all_goals repeat' split
 all_goals simp only [decide_eq_true_eq,decide_eq_false_iff_not] at*
 all_goals omega
theorem Mj {l:List BM}:EI l=true↔∀j a b,l[j]? =some a→l[j+1]? =some b→E5 a b=true:=by
 induction l with
 |nil=>exact ⟨fun _ j a b h=>by simp at h,fun _=>rfl⟩
 |cons x l ih=>
  cases l with
  |nil=>exact ⟨fun _ j a b _ h=>by simp at h,fun _=>rfl⟩
  |cons y l=>
   unfold EI
   rw [Bool.and_eq_true,ih]
   refine ⟨fun ⟨h1,h2⟩ j a b ha hb=> ?_,fun h=>⟨h 0 x y rfl rfl,fun j a b ha hb=>h (j+1) a b eJ HD⟩⟩
   cases j with
   |zero=>simp at ha hb;subst ha;subst hb;exact h1
   |succ j=>exact h2 j a b eJ HD
theorem PW {l:List BM} {r:BM} (h:EI l=true):EI (GU l r)=true:=by
 unfold GU;split
 next=>exact h
 next hne=>
 rw [Mj] at h ⊢
 have hp:=Qm l r
 intro j a b ha hb
 rw [List.append_assoc] at ha hb
 rcases Nat.lt_trichotomy (j+1) (E0 l r) with h1|h1|h1
 · grind
 ·
  rw [List.getElem?_append_left M7,List.getElem?_take,if_pos AA] at ha
  rw [List.getElem?_append_right M7,List.length_take,show j+1-min (E0 l r) l.length=0 by omega] at hb
  simp at hb;subst hb
  exact gG AA ha
 ·
  rw [List.getElem?_append_right M7,List.length_take,show j-min (E0 l r) l.length=j-E0 l r by omega] at ha
  rw [List.getElem?_append_right M7,List.length_take,show j+1-min (E0 l r) l.length=(j-E0 l r)+1 by omega] at hb
  simp only [List.singleton_append,List.getElem?_cons_succ,List.getElem?_drop] at hb
  rcases Nat.eq_zero_or_pos (j-E0 l r) with h2|h2
  ·
   rw [h2] at ha hb
   simp at ha;subst ha
   simp at hb
   exact qx (gH hb) (fun e=>hne (by rw [hb,e]))
  ·
   obtain ⟨i,hi⟩:∃i,j-E0 l r=i+1:=⟨j-E0 l r-1,by omega⟩
   rw [hi] at ha hb
   simp only [List.singleton_append,List.getElem?_cons_succ,List.getElem?_drop] at ha
   exact h (E0 l r+i) a b ha (by rw [show E0 l r+i+1=E0 l r+(i+1) by omega];exact hb)
theorem Qn {l:List BM} (h:∀r∈l,r.fst<r.thn):∀(k:Nat) {a b:Nat},DU l k a b=true→a<b
 |0,a,b,hb=>by
  obtain ⟨r,hr,h2⟩:=List.any_eq_true.1 hb
  rw [Bool.and_eq_true,decide_eq_true_eq,decide_eq_true_eq] at h2
  have:=h r hr;omega
 |k+1,a,b,hb=>by
  simp only [DU,Kz,Bool.or_eq_true,Bool.and_eq_true] at hb
  rcases hb with hb|⟨h1,h2⟩
  · exact Qn h k hb
  · have:=Qn h k h1;have:=Qn h k h2;omega
theorem qy {l:List BM} (hn:n≤24) (h:∀r∈l,(0≤r.fst∧r.fst<r.thn)∧r.thn<n) (hs:EI l=true):BD n l=0:=by
 unfold BD
 rw [if_neg AA,if_neg ?_,if_neg (by simp [hs]),if_neg ?_]
 ·
  intro hc
  obtain ⟨i,_,hi⟩:=List.any_eq_true.1 hc
  have:=Qn (fun r hr=>(h r hr).1.2) _ hi;omega
 ·
  intro hc
  obtain ⟨r,hr,hb⟩:=List.any_eq_true.1 hc
  unfold Ft at hb
  rw [decide_eq_true_eq] at hb
  have:=h r hr;omega
theorem HJ {n:Int} (h:n∉s):(EG s n true).length=s.length+1:=by
 have key:∀(s:List Int) (p:List Int×Bool),n∉s→(s.foldl (Du n true) p).1.length+(if (s.foldl (Du n true) p).2 then 0 else 1)=p.1.length+(if p.2 then 0 else 1)+s.length:=by
  intro s
  induction s with
  |nil=>intro p _;rfl
  |cons y s ih=>
   intro p hp
   rw [List.foldl_cons,ih _ (fun hh=>hp (List.mem_cons_of_mem _ hh))]
   unfold Du
   rw [if_neg (fun e=>hp (by rw [e];simp))]
   split
   next h2=>simp [h2.2.1];omega
   next h2=>simp;omega
 have h2:=key s ([],false) h
 unfold EG wall
 split
 next h3=>rw [h3.2] at h2;simp at h2 ⊢;omega
 next h3=>simp only [true_and,Bool.not_eq_false] at h3;rw [h3] at h2;simp at h2 ⊢;omega
def Dt (n:Nat) (l:List BM):Nat→List Int×List Int
 |0=>([],[])
 |k+1=>match (D3 n l (Dt n l k).2 true)[0]? with
  |none=>Dt n l k
  |some x=>((Dt n l k).1++[x],EG (Dt n l k).2 x true)
theorem Jn {n:Int} {l:List BM} (hv:BD n l=0):∀(k:Nat),k≤n.toNat→Oi n l (Dt n.toNat l k).1 (Dt n.toNat l k).2∧(Dt n.toNat l k).1.length=k
 |0,_=>⟨Oi.nil,rfl⟩
 |k+1,hk=>by
  obtain ⟨h1,h2⟩:=Jn hv k AA
  obtain ⟨x,hx,hr⟩:=h1.bes hv AA
  unfold Dt
  rw [hx]
  exact ⟨hr,by simp [h2]⟩
theorem YO {n:Int} {l:List BM} (hv:BD n l=0) (hk:k<n.toNat):∃x,(D3 n.toNat l (Dt n.toNat l k).2 true)[0]? =some x∧Dt n.toNat l (k+1)=((Dt n.toNat l k).1++[x],EG (Dt n.toNat l k).2 x true):=by
 obtain ⟨h1,h2⟩:=Jn hv k AA
 obtain ⟨x,hx,_⟩:=h1.bes hv AA
 exact ⟨x,hx,by rw [Dt];rw [hx]⟩
theorem zD {d:Nat} {w:World} {x0 y0:Int} {x1 y1:Int}:(Op.equalIn (d+2) 61 (.agg #[.int .i64 x0,.int .i64 x1]) (.agg #[.int .i64 y0,.int .i64 y1])).run Tryz.prog w= .ok (decide (x0=y0∧x1=y1)) w:=by
 have h:=eqS (w:=w) (d:=d+1) (xs:= #[.int .i64 x0,.int .i64 x1]) (ys:= #[.int .i64 y0,.int .i64 y1]) Tryz.underlying61 Ak (FI AB (CR DL rfl) (CR DL rfl) (Gf (d:=d+0) Tryz.underlying3) (FI AB (CR DL rfl) (CR DL rfl) (Gf (d:=d+0) Tryz.underlying3) (NS)))
 refine h.trans (congrArg (fun b=>Result.ok b w) ?_)
 rw [Bool.eq_iff_iff];simp [and_assoc]
theorem wz {u:TypeId} {x y:Operand} {x0 y0:Int} {x1 y1:Int} (ho:o.op= .binOp .eql 61 x y u) (hx:VL E x (agg [is (.int .i64 x0),is (.int .i64 x1)])) (hy:VL E y (agg [is (.int .i64 y0),is (.int .i64 y1)])):Ac Tryz.prog I o E (bool (decide (x0=y0∧x1=y1))):=
 NQ [.int .i64 x0,.int .i64 x1] [.int .i64 y0,.int .i64 y1] ho hx hy Ak (fun w=>by rw [show Op.equal 61 _ _=Op.equalIn (9998+2) 61 _ _ from rfl];exact zD)
theorem gJ {u:TypeId} {x y:Operand} {x0 y0:Int} {x1 y1:Int} (ho:o.op= .binOp .neq 61 x y u) (hx:VL E x (agg [is (.int .i64 x0),is (.int .i64 x1)])) (hy:VL E y (agg [is (.int .i64 y0),is (.int .i64 y1)])):Ac Tryz.prog I o E (bool (!decide (x0=y0∧x1=y1))):=
 NR [.int .i64 x0,.int .i64 x1] [.int .i64 y0,.int .i64 y1] ho hx hy Ak (fun w=>by rw [show Op.equal 61 _ _=Op.equalIn (9998+2) 61 _ _ from rfl];exact zD)
abbrev GF (r:BM):List Pr:=[int r.fst,int r.thn]
abbrev reqs (l:List BM):Pr:=slice 2 (l.map GF)
theorem Ub {a b:BM}  :A0 prog 186 [agg (GF a),agg (GF b)] (bool (E5 a b)):=by
 refine fo func186 rfl ⟨rfl,rfl⟩ fun M0 w0=> ?_
 · repeat' first|(refine bool_eq ?_;unfold E5;split<;>first|rfl|(exfalso;omega))|(refine bool_eq ?_;unfold E5;split<;>rfl)|refine ac ?_|(refine Tr.cn rfl ?_ ?_<;>intro h q)
theorem SX {l:List BM} {r:BM} (hl:l.length≤1000000):A0 prog 150 [reqs l,agg (GF r)] (reqs (GU l r)):=by
 refine fo func150 rfl ⟨rfl,rfl⟩ fun M0 w0=>(Tr.CG 0 rfl fun DN=> ?_)
 have hml:(l.map GF).length=l.length:=List.length_map _
 have AKE:=Qm l r
 refine a2 ?_
 refine wk [5,3,0] rfl (Tr.Pm [0,3] [(5,int ((E0 l r:Nat):Int))] (True) ?_ (fun h1=> ?_))
 refine Tr.block (Tr.Ax _ (kk [3,0] rfl) (fun k:Nat=>[(5,int ((k:Nat):Int))]) (fun k:Nat=>k≤l.length∧(∀j y,j<k→l[j]? =some y→E5 y r=true)) (fun k:Nat=>l.length-k) 0 (⟨Nat.zero_le _,fun j y hj=>absurd hj AA⟩) kz ?_)
 rintro k ⟨BJ,hinv⟩
 refine ag ?_ ?_<;>intro h2 q2
 obtain ⟨x,hx⟩:=at_ (l:=l) (k:=k) AA
 refine ac ?_
 refine cy h2 rfl (AD rfl underlying33 DQ vq vq AA (AR hx)) ?_
 refine ac ?_
 refine cy h2 rfl (Bq (Ub) rfl rfl rfl) ?_
 refine ac ?_
 refine wk [18,5,3,0] rfl ?_
 refine Tr.cn rfl ?_ ?_<;>intro h3 q3
 have hq:=h3
 refine a2 ?_
 exact Fin.AM (k+1) ⟨⟨by omega,fun j y hj hy=>by rcases Nat.lt_or_ge j k with h_|h_;exact hinv j y h_ hy;(obtain rfl:j=k:=by omega);rw [hx] at hy;cases hy;exact hq⟩,by omega⟩ ⟨⟨_,rfl,AG k⟩,kz⟩
 have hp:E0 l r=k:=gI BJ hinv (fun y hy=>by rw [hx] at hy;cases hy;exact h3)
 refine Tr.exit (Fin.BA (Fin.BA (Fin.Bn (Fin.AM () trivial ⟨⟨_,rfl,int_eq (by rw [hp])⟩,kz⟩))))
 have hp:E0 l r=k:=gI BJ hinv (fun y hy=>by have:=BH hy;have:=q2;omega)
 refine ac ?_
 refine wk [18,5,3,0] rfl (Tr.cond rfl (fun h=>nomatch h) (fun _=> ?_))
 refine Tr.exit (Fin.BA (Fin.BA (Fin.Bn (Fin.AM () trivial ⟨⟨_,rfl,int_eq (by rw [hp])⟩,kz⟩))))
 refine ag ?_ ?_<;>intro h4 q4
 obtain ⟨x2,hx2⟩:=at_ (l:=l) (k:=E0 l r) AA
 refine ac ?_
 refine cy h4 rfl (AD rfl underlying33 DQ vq vq AA (AR hx2)) ?_
 refine ac ?_
 refine cy h4 rfl (wz rfl vq vq) ?_
 refine ac ?_
 refine wk [32,5,3,0] rfl ?_
 refine Tr.cn rfl ?_ ?_<;>intro h5 q5
 have hput:GU l r=l:=if_pos (by rw [hx2];have h_:=q5;cases x2;cases r;simp_all)
 refine a2 ?_
 · rw [hput];exact Lr
 have hput:GU l r=l.take (E0 l r)++[r]++l.drop (E0 l r):=if_neg (by rw [hx2];intro h_;cases h_;have h_:=q5;simp at h_)
 refine ac ?_
 refine ap ?_
 refine tp rfl (Dp rfl underlying33 DQ vq vq AA AA) (TO.pad ?_)
 refine TO.Df 0 rfl rfl AB (EM rfl rfl AB rfl underlying33 DQ OU QN rfl AB ⟨_,rfl,AP _⟩ vq JJ JK (Bs BK ⟨_,rfl,Ck 1⟩)) (fun v1=> ?_)
 refine ap ?_
 refine ap ?_
 refine TO.Df 0 rfl rfl AB (B9 rfl rfl rfl rfl underlying33 DQ OU QN Ea Db (Ay BK FC)) (fun v2=> ?_)
 refine ap ?_
 refine wk [6,5,0] rfl ?_
 refine ap ?_
 refine tp rfl (De rfl underlying33 DQ vq vq AA AA) ?_
 refine TO.Df 0 rfl rfl AB (B9 rfl rfl rfl rfl underlying33 DQ OU QN Ea vq (Ay BK FC)) (fun v3=> ?_)
 refine ap ?_
 refine ac ?_
 · exact me
 have hput:GU l r=l.take (E0 l r)++[r]++l.drop (E0 l r):=if_neg (by rw [List.getElem?_eq_none (by have:=q4;omega)];simp)
 refine ac ?_
 refine wk [32,5,3,0] rfl ?_
 refine ac ?_
 refine ap ?_
 refine tp rfl (Dp rfl underlying33 DQ vq vq AA AA) (TO.pad ?_)
 refine TO.Df 0 rfl rfl AB (EM rfl rfl AB rfl underlying33 DQ OU QN rfl AB ⟨_,rfl,AP _⟩ vq JJ JK (Bs BK ⟨_,rfl,Ck 1⟩)) (fun v4=> ?_)
 refine ap ?_
 refine ap ?_
 refine TO.Df 0 rfl rfl AB (B9 rfl rfl rfl rfl underlying33 DQ OU QN Ea Db (Ay BK FC)) (fun v5=> ?_)
 refine ap ?_
 refine wk [6,5,0] rfl ?_
 refine ap ?_
 refine tp rfl (De rfl underlying33 DQ vq vq AA AA) ?_
 refine TO.Df 0 rfl rfl AB (B9 rfl rfl rfl rfl underlying33 DQ OU QN Ea vq (Ay BK FC)) (fun v6=> ?_)
 refine ap ?_
 refine ac ?_
 · exact me
theorem Gi (l:List BM):∀(a:List BM),(l.foldl GU a).length≤a.length+l.length:=by
 induction l with
 |nil=>intro a;simp
 |cons x l ih=>intro a;have h1:=ih (GU a x);have h2:=SW a x;simp only [List.foldl_cons,List.length_cons];omega
theorem Oj (l:List BM):∀{a:List BM},EI a=true→EI (l.foldl GU a)=true:=by
 induction l with
 |nil=>intro a h;exact h
 |cons x l ih=>intro a h;exact ih (PW h)
theorem Tm (l:List BM):∀{a:List BM} {x:BM},x∈l.foldl GU a↔x∈a∨x∈l:=by
 induction l with
 |nil=>intro a x;simp
 |cons y l ih=>intro a x;rw [List.foldl_cons,ih,YN,List.mem_cons,or_comm (a:=x=y),or_assoc]
def SY (a b:List BM):List BM:=b.foldl GU (a.foldl GU [])
theorem Uc {β γ:Type} {f:γ→β→γ} {a:γ} {l:List β} {x:β} (h:l[k]? =some x):(l.take (k+1)).foldl f a=f ((l.take k).foldl f a) x:=by rw [List.take_add_one,h,List.foldl_append];rfl
theorem a_ {a b:List BM} (ha:a.length≤100000) (hb:b.length≤100000):A0 prog 97 [reqs a,reqs b] (reqs (SY a b)):=by
 refine fo func97 rfl ⟨rfl,rfl⟩ fun M0 w0=>(Tr.CG 0 rfl fun DN=>(Tr.CG 1 rfl fun ER=> ?_))
 refine a3 ?_
 refine Tr.block (Tr.Ax _ (kk [11,10,1] rfl) (fun k:Nat=>[(12,int ((k:Nat):Int)),(5,reqs ((a.take k).foldl GU []))]) (fun k:Nat=>k≤(a).length) (fun k:Nat=>(a).length-k) 0 (Nat.zero_le _) ⟨kq,⟨_,rfl,AP 2⟩,trivial⟩ ?_)
 rintro k BJ
 refine ac ?_
 refine Tr.seq ?_
 refine Tr.cn rfl ?_ ?_<;>intro h1 q1
 have AZ:k<(a).length:=AH h1
 obtain ⟨x,AX⟩:=at_ AZ
 have Xj:=Gi (a.take k) []
 rw [List.length_take] at Xj
 have AA2:((a.take k).foldl GU []).length≤1000000:=by simp at Xj;omega
 refine ac ?_
 refine Tr.seq (Tr.block (Tr.seq (Tr.BE (tp rfl (AD rfl underlying33 DQ vq vq AA (AR AX)) (tp rfl (Ad rfl Iy DQ vq rfl rfl) ?_)))))
 refine Tl rfl rfl rfl rfl QN Ta (fun b1=> ?_)
 refine sf 0 7 ⟨rfl,rfl,rfl⟩ rfl rfl rfl rfl ?_
 refine ao ?_
 refine ac ?_
 refine co rfl (Bq (SX AA2) rfl rfl rfl) ?_
 refine ac ?_
 refine wk [12,11,10,5,1] rfl ?_
 refine ac ?_
 exact Fin.AM (k+1) ⟨AZ,by omega⟩ ⟨⟨_,rfl,AG k⟩,⟨_,rfl,Pr.le_of_eq (by rw [Uc AX])⟩,kz⟩
 have A8:k=(a).length:=by have:=AJ h1;omega
 subst A8
 rw [List.take_length]
 refine a2 ?_
 refine Tr.block (Tr.Ax _ (kk [21,20] rfl) (fun m:Nat=>[(22,int ((m:Nat):Int)),(5,reqs ((b.take m).foldl GU (a.foldl GU [])))]) (fun m:Nat=>m≤(b).length) (fun m:Nat=>(b).length-m) 0 (Nat.zero_le _) ⟨kq,kz⟩ ?_)
 rintro m Nk
 refine ac ?_
 refine Tr.seq ?_
 refine Tr.cn rfl ?_ ?_<;>intro h2 q2
 have Es:m<(b).length:=AH h2
 obtain ⟨x,Ew⟩:=at_ Es
 have Xj:=Gi (b.take m) (a.foldl GU [])
 rw [List.length_take] at Xj
 have AA2:((b.take m).foldl GU (a.foldl GU [])).length≤1000000:=by have:=Gi a [];simp at this;omega
 refine ac ?_
 refine Tr.seq (Tr.block (Tr.seq (Tr.BE (tp rfl (AD rfl underlying33 DQ vq vq AA (AR Ew)) (tp rfl (Ad rfl Iy DQ vq rfl rfl) ?_)))))
 refine Tl rfl rfl rfl rfl QN Ta (fun b2=> ?_)
 refine sf 0 9 ⟨rfl,rfl,rfl⟩ rfl rfl rfl rfl ?_
 refine ao ?_
 refine ac ?_
 refine co rfl (Bq (SX AA2) rfl rfl rfl) ?_
 refine ac ?_
 refine wk [22,21,20,5] rfl ?_
 refine ac ?_
 exact Fin.AM (m+1) ⟨Es,by omega⟩ ⟨⟨_,rfl,AG m⟩,⟨_,rfl,Pr.le_of_eq (by rw [Uc Ew])⟩,kz⟩
 have Kt:m=(b).length:=by have:=AJ h2;omega
 subst Kt
 rw [List.take_length]
 refine a3 ?_
 · exact Lr
theorem Ho {l:List Int} {v:Int}  :A0 prog 22 [ints l,int v] (bool (G6 l v)):=by
 refine fo func22 rfl ⟨rfl,rfl⟩ fun M0 w0=>(Tr.CG 0 rfl fun DN=> ?_)
 refine a2 ?_
 refine Tr.block (Tr.Ax _ (kk [8,7,1] rfl) (fun k:Nat=>[(9,int ((k:Nat):Int))]) (fun k:Nat=>k≤(l).length∧(G6 (l.take k) v=false)) (fun k:Nat=>(l).length-k) 0 (⟨Nat.zero_le _,rfl⟩) kz ?_)
 rintro k ⟨BJ,AQ⟩
 refine ac ?_
 refine Tr.seq ?_
 refine Tr.cn rfl ?_ ?_<;>intro h1 q1
 have AZ:k<(l).length:=AH h1
 obtain ⟨x,AX⟩:=at_ AZ
 refine ac ?_
 refine Tr.seq (Tr.block (Tr.seq (Tr.Bt (co rfl (AD rfl underlying51 Bi vq vq AA (AR AX)) ?_))))
 · repeat' first|(refine bool_eq ?_;symm;unfold G6;rw [List.any_eq_true];exact ⟨_,List.mem_of_getElem? AX,by simp_all⟩)|(exact Fin.AM (k+1) ⟨⟨AZ,(by unfold G6 at AQ ⊢;rw [List.take_add_one,AX,List.any_append,AQ];simp;omega)⟩,by omega⟩ ⟨⟨_,rfl,AG k⟩,kz⟩)|refine ac ?_|(refine Tr.cn rfl ?_ ?_<;>intro h q)
 have A8:k=(l).length:=by have:=AJ h1;omega
 subst A8
 refine a3 ?_
 · exact VE
theorem PX {l:List BM}:A0 prog 83 [reqs l,ints s] (bool (CK l s)):=by
 refine fo func83 rfl ⟨rfl,rfl⟩ fun M0 w0=>(Tr.CG 0 rfl fun DN=> ?_)
 refine a2 ?_
 refine Tr.block (Tr.Ax _ (kk [8,7,1] rfl) (fun k:Nat=>[(9,int ((k:Nat):Int))]) (fun k:Nat=>k≤(l).length∧(CK (l.take k) s=true)) (fun k:Nat=>(l).length-k) 0 (⟨Nat.zero_le _,rfl⟩) kz ?_)
 rintro k ⟨BJ,AQ⟩
 refine ac ?_
 refine Tr.seq ?_
 refine Tr.cn rfl ?_ ?_<;>intro h1 q1
 have AZ:k<(l).length:=AH h1
 obtain ⟨r,AX⟩:=at_ AZ
 refine ac ?_
 refine Tr.seq (Tr.block (Tr.seq (Tr.BE (tp rfl (AD rfl underlying33 DQ vq vq AA (AR AX)) (tp rfl (Ad rfl Iy DQ vq rfl rfl) ?_)))))
 refine Tl rfl rfl rfl rfl QN Ta (fun b1=> ?_)
 refine sf 0 6 ⟨rfl,rfl,rfl⟩ rfl rfl rfl rfl ?_
 refine ao ?_
 · repeat' first|(refine bool_eq ?_;symm;unfold CK;rw [List.all_eq_false];exact ⟨_,List.mem_of_getElem? AX,by simp_all⟩)|(exact Fin.AM (k+1) ⟨⟨AZ,(by unfold CK at AQ ⊢;rw [List.take_add_one,AX,List.all_append,AQ];simp_all)⟩,by omega⟩ ⟨⟨_,rfl,AG k⟩,kz⟩)|refine co rfl (Bq (Ho) rfl rfl rfl) (cm rfl ?_)|refine cy h rfl (Bq (Ho) rfl rfl rfl) ?_|refine ac ?_|(refine Tr.cn rfl ?_ ?_<;>intro h q)|(refine Ch.cg rfl rfl rfl ?_ ?_<;>intro h q)
 have A8:k=(l).length:=by have:=AJ h1;omega
 subst A8
 refine a3 ?_
 · exact VE
theorem Ud (n:Int) (has:Bool) (s:List Int):(wall n has s).1.length≤s.length+1:=by
 have h:=SV (n:=n) (has:=has) (s:=s) (p:=([],false))
 unfold wall;revert h;split<;>simp<;>omega
theorem YP (n:Nat) (l:List BM) (s:List Int) (add:Bool):(D3 n l s add).length≤n:=by grind [D3]
theorem qz {l:List BM} {add:Bool} (h:Jm l s add n=true):D3 (n+1) l s add=D3 n l s add++[(n:Int)]:=by unfold D3;rw [List.range_succ,List.filter_append,List.map_append];simp [h]
theorem gK {l:List BM} {add:Bool} (h:Jm l s add n=false):D3 (n+1) l s add=D3 n l s add:=by unfold D3;rw [List.range_succ,List.filter_append,List.map_append];simp [h]
theorem iV {n:Int} {has:Bool} {x:Int} (h:s[k]? =some x):wall n has (s.take (k+1))=Du n has (wall n has (s.take k)) x:=by
 rw [List.take_add_one,h];exact j6 n has _ x
theorem HO {n:Int} {has:Bool} (hs:s.length≤1000000):A0 prog 159 [ints s,int n,bool has] (ints (EG s n has)):=by
 refine fo func159 rfl ⟨rfl,rfl⟩ fun M0 w0=>(Tr.CG 0 rfl fun DN=> ?_)
 refine ac ?_
 refine ac ?_
 refine ac ?_
 refine Tr.seq (Tr.seq (Tr.Bt (cm rfl ?_)))
 first|refine co rfl (FP rfl underlying51 (vl rfl)) ?_|refine co rfl (Cq rfl underlying51 (vl rfl)) ?_
 refine ac ?_
 refine Tr.block (Tr.B5 3 1 (Tr.EC _ (kk [12,11,2,1] rfl) (fun k v=>[(13,int ((k:Nat):Int)),(8,bool (wall n has (s.take k)).2),(7,AV v (ints (wall n has (s.take k)).1))]) (fun k v=>Hp M0 w0 FO ([As 3 1 v])) (fun k:Nat=>k≤(s).length) (fun k:Nat=>(s).length-k) 0 (.slice none 0 0) (Nat.zero_le _) ⟨kq,⟨_,rfl,bool_eq rfl⟩,⟨_,rfl,Bg rfl⟩,trivial⟩ (fun _ _ h=>h) ?_))
 rintro k v BJ
 refine ac ?_
 refine Tr.seq ?_
 refine Tr.cn rfl ?_ ?_<;>intro h1 q1
 have AZ:k<(s).length:=AH h1
 obtain ⟨x,AX⟩:=at_ AZ
 have hwl:=Ud n has (s.take k)
 rw [List.length_take] at hwl
 refine ac ?_
 refine Tr.seq (Tr.block (Tr.seq (Tr.Bt (co rfl (AD rfl underlying51 Bi vq vq AA (AR AX)) ?_))))
 refine ac ?_
 refine ac ?_
 refine Ch.cs 18 rfl ?_ ?_<;>intro h2 q2
 refine ac ?_
 refine Ch.cs 22 rfl ?_ ?_<;>intro h3 q3
 refine ac ?_
 refine wk [26,13,12,11,10,8,7,2,1] rfl ?_
 refine Tr.cn rfl ?_ ?_<;>intro h4 q4
 refine ap ?_
 refine TO.Df 0 rfl rfl AB (B9 rfl rfl rfl rfl underlying51 Bi G_ z3 Ea Db (Ay BK FC)) (fun v1=> ?_)
 refine ap ?_
 refine wk [13,12,11,10,8,7,2,1] rfl ?_
 refine ac ?_
 refine Tr.cn rfl ?_ ?_<;>intro h5 q5
 refine ap ?_
 refine TO.Df 0 rfl rfl AB (B9 rfl rfl rfl rfl underlying51 Bi G_ z3 Ea Db (Ay BK FC)) (fun v2=> ?_)
 refine ap ?_
 refine wk [13,12,11,8,7,2,1] rfl (Tr.Bt ?_)
 first|(refine ZN rfl rfl rfl rfl AA ?_)|refine co rfl Vl ?_
 refine ac ?_
 exact Fin.C8 (k+1) v2 (⟨AZ,by omega⟩) ⟨⟨_,rfl,AG k⟩,⟨_,rfl,bool_eq G8⟩,⟨_,rfl,BB G8⟩,kz⟩ (fun _ _ h=>h)
 refine ac ?_
 refine Tr.Bt ?_
 first|(refine ZN rfl rfl rfl rfl AA ?_)|refine co rfl Vl ?_
 refine ac ?_
 exact Fin.C8 (k+1) v1 (⟨AZ,by omega⟩) ⟨⟨_,rfl,AG k⟩,⟨_,rfl,bool_eq G8⟩,⟨_,rfl,BB G8⟩,kz⟩ (fun _ _ h=>h)
 refine ac ?_
 refine ac ?_
 refine Tr.cn rfl ?_ ?_<;>intro h6 q6
 refine ap ?_
 refine TO.Df 0 rfl rfl AB (B9 rfl rfl rfl rfl underlying51 Bi G_ z3 Ea Db (Ay BK FC)) (fun v3=> ?_)
 refine ap ?_
 refine wk [13,12,11,8,7,2,1] rfl (Tr.Bt ?_)
 first|(refine ZN rfl rfl rfl rfl AA ?_)|refine co rfl Vl ?_
 refine ac ?_
 exact Fin.C8 (k+1) v3 (⟨AZ,by omega⟩) ⟨⟨_,rfl,AG k⟩,⟨_,rfl,bool_eq G8⟩,⟨_,rfl,BB G8⟩,kz⟩ (fun _ _ h=>h)
 refine ac ?_
 refine Tr.Bt ?_
 first|(refine ZN rfl rfl rfl rfl AA ?_)|refine co rfl Vl ?_
 refine ac ?_
 exact Fin.C8 (k+1) v (⟨AZ,by omega⟩) ⟨⟨_,rfl,AG k⟩,⟨_,rfl,bool_eq G8⟩,⟨_,rfl,BB G8⟩,kz⟩ (fun _ _ h=>h)
 refine ac ?_
 refine wk [26,13,12,11,10,8,7,2,1] rfl ?_
 refine ac ?_
 refine ac ?_
 refine Tr.cn rfl ?_ ?_<;>intro h7 q7
 refine ap ?_
 refine TO.Df 0 rfl rfl AB (B9 rfl rfl rfl rfl underlying51 Bi G_ z3 Ea Db (Ay BK FC)) (fun v4=> ?_)
 refine ap ?_
 refine wk [13,12,11,8,7,2,1] rfl (Tr.Bt ?_)
 first|(refine ZN rfl rfl rfl rfl AA ?_)|refine co rfl Vl ?_
 refine ac ?_
 exact Fin.C8 (k+1) v4 (⟨AZ,by omega⟩) ⟨⟨_,rfl,AG k⟩,⟨_,rfl,bool_eq G8⟩,⟨_,rfl,BB G8⟩,kz⟩ (fun _ _ h=>h)
 refine ac ?_
 refine Tr.Bt ?_
 first|(refine ZN rfl rfl rfl rfl AA ?_)|refine co rfl Vl ?_
 refine ac ?_
 exact Fin.C8 (k+1) v (⟨AZ,by omega⟩) ⟨⟨_,rfl,AG k⟩,⟨_,rfl,bool_eq G8⟩,⟨_,rfl,BB G8⟩,kz⟩ (fun _ _ h=>h)
 refine ac ?_
 refine wk [26,13,12,11,10,8,7,2,1] rfl ?_
 refine ac ?_
 refine ac ?_
 refine Tr.cn rfl ?_ ?_<;>intro h8 q8
 refine ap ?_
 refine TO.Df 0 rfl rfl AB (B9 rfl rfl rfl rfl underlying51 Bi G_ z3 Ea Db (Ay BK FC)) (fun v5=> ?_)
 refine ap ?_
 refine wk [13,12,11,8,7,2,1] rfl (Tr.Bt ?_)
 first|(refine ZN rfl rfl rfl rfl AA ?_)|refine co rfl Vl ?_
 refine ac ?_
 exact Fin.C8 (k+1) v5 (⟨AZ,by omega⟩) ⟨⟨_,rfl,AG k⟩,⟨_,rfl,bool_eq G8⟩,⟨_,rfl,BB G8⟩,kz⟩ (fun _ _ h=>h)
 refine ac ?_
 refine Tr.Bt ?_
 first|(refine ZN rfl rfl rfl rfl AA ?_)|refine co rfl Vl ?_
 refine ac ?_
 exact Fin.C8 (k+1) v (⟨AZ,by omega⟩) ⟨⟨_,rfl,AG k⟩,⟨_,rfl,bool_eq G8⟩,⟨_,rfl,BB G8⟩,kz⟩ (fun _ _ h=>h)
 have A8:k=(s).length:=by have:=AJ h1;omega
 subst A8
 rw [List.take_length]
 have hwl:=Ud n has s
 refine ac ?_
 refine ac ?_
 refine Ch.cs 40 rfl ?_ ?_<;>intro h9 q9
 refine ac ?_
 refine Tr.cn rfl ?_ ?_<;>intro h10 R9
 refine ap ?_
 refine TO.Df 0 rfl rfl AB (B9 rfl rfl rfl rfl underlying51 Bi G_ z3 Ea Db (Ay BK FC)) (fun v6=> ?_)
 refine ap ?_
 refine wk [7] rfl ?_
 refine ac ?_
 refine ac ?_
 · exact Zk
 refine ac ?_
 refine ac ?_
 refine wk [6] rfl ?_
 refine ac ?_
 · exact Zk
 refine ac ?_
 refine ac ?_
 refine ac ?_
 refine wk [6] rfl ?_
 refine ac ?_
 · exact Zk
theorem K0 {l:List BM} {add:Bool} (hs:s.length≤100000) (hn:n≤100000):A0 prog 130 [int ((n:Nat):Int),reqs l,ints s,bool add] (ints (D3 n l s add)):=by
 refine fo func130 rfl ⟨rfl,rfl⟩ fun M0 w0=> ?_
 refine a3 ?_
 refine Tr.block (Tr.B5 3 1 (Tr.EC _ (kk [11,3,2,1] rfl) (fun k v=>[(12,int ((k:Nat):Int)),(9,AV v (ints (D3 k l s add)))]) (fun k v=>Hp M0 w0 FO ([As 3 1 v])) (fun k:Nat=>k≤n) (fun k:Nat=>n-k) 0 (.slice none 0 0) (Nat.zero_le _) ⟨kq,⟨_,rfl,Bg rfl⟩,trivial⟩ (fun _ _ h=>h) ?_))
 rintro k v hkn
 refine ac ?_
 refine Tr.seq ?_
 refine Tr.cn rfl ?_ ?_<;>intro h1 q1
 have hk1:k<n:=by have:=EW.E9 h1;omega
 have Xj:=YP k l s add
 refine a3 ?_
 refine co rfl (Bq (Ho) rfl rfl rfl) (cm rfl (co rfl (ON rfl underlying4 vq vq) (cm rfl ?_)))
 refine Ch.cs 20 rfl ?_ ?_<;>intro h2 q2
 refine ac ?_
 refine cy h2 rfl (Jd (HO AA) rfl rfl rfl rfl) (cy h2 rfl (Bq (PX) rfl rfl rfl) ?_)
 refine ac ?_
 refine wk [27,12,11,10,9,3,2,1] rfl ?_
 refine Tr.cn rfl ?_ ?_<;>intro h3 q3
 refine ap ?_
 refine TO.Df 0 rfl rfl AB (B9 rfl rfl rfl rfl underlying51 Bi G_ z3 Ea Db (Ay BK FC)) (fun v1=> ?_)
 refine ap ?_
 refine ac ?_
 exact Fin.C8 (k+1) v1 (⟨by omega,by omega⟩) ⟨⟨_,rfl,AG k⟩,⟨_,rfl,BB (by rw [qz (by unfold Jm;simp_all)];simp)⟩,kz⟩ (fun _ _ h=>h)
 refine a2 ?_
 exact Fin.C8 (k+1) v (⟨by omega,by omega⟩) ⟨⟨_,rfl,AG k⟩,⟨_,rfl,BB (by rw [gK (by unfold Jm;simp_all)])⟩,kz⟩ (fun _ _ h=>h)
 refine ac ?_
 refine wk [27,12,11,10,9,3,2,1] rfl ?_
 refine a2 ?_
 exact Fin.C8 (k+1) v (⟨by omega,by omega⟩) ⟨⟨_,rfl,AG k⟩,⟨_,rfl,BB (by rw [gK (by unfold Jm;simp_all)])⟩,kz⟩ (fun _ _ h=>h)
 obtain rfl:k=n:=by have:=EW.E9 h1;omega
 refine a3 ?_
 · exact HE
theorem bA {c:BV} {a b:List Int} {t n x:Int} (hf:c.Dw a b []=0) (ht:c.has t=true) (OB:a.length<24) (h:c.early a b t n=some x):n≤x∧(0≤x∧x≤40000)∧c.Dw (a++[t]) (b++[x]) []=0:=by
 have ho:=I6 (Hj hf)
 rw [Kx (by rw [Hl ht];exact hf)] at h
 unfold BV.next at h
 obtain ⟨h1,h2⟩:=I7 ho
 obtain ⟨h3,⟨j,w,hj,h4,h5,h7⟩,_⟩:=PV h (I8 h1 h2) h2
 rw [Nat.zero_add] at h7
 have hw:=List.any_eq_false.1 (Mh ho).2.2.1 w (List.mem_of_getElem? hj)
 have hl:=SK h4
 simp [Mf] at hw
 have hop:c.LR (a.zip b) t x=true:=(wm ho).2 ⟨j,w,hj,h4,h5,h7⟩
 refine ⟨by omega,by omega,?_⟩
 rw [←qp hf OB ht] at hop
 exact of_decide_eq_true hop
def GJ (l:List BM) (Mk:List Int) (i fr:Int):Int:=l.foldl (fun a r=>if r.thn=i then max a (Mk.getD r.fst.toNat 0+1) else a) fr
theorem SZ {Mk:List Int} {i:Int}:∀{l:List BM} {fr:Int},fr≤GJ l Mk i fr
 |[],_=>Int.le_refl _
 |r::l,fr=>by
  have h:= @SZ Mk i l (if r.thn=i then max fr (Mk.getD r.fst.toNat 0+1) else fr)
  unfold GJ at h ⊢
  rw [List.foldl_cons]
  split at h
  next h2=>rw [if_pos h2];omega
  next h2=>rw [if_neg h2];exact h
theorem Sa {Mk:List Int} {i:Int} {r:BM}:∀{l:List BM} {fr:Int},r∈l→r.thn=i→Mk.getD r.fst.toNat 0<GJ l Mk i fr
 |[],_,h,_=>by cases h
 |x::l,fr,h,h2=>by
  unfold GJ
  rw [List.foldl_cons]
  rcases List.mem_cons.1 h with rfl|h
  ·
   have h3:= @SZ Mk i l (if r.thn=i then max fr (Mk.getD r.fst.toNat 0+1) else fr)
   unfold GJ at h3
   rw [if_pos h2] at h3 ⊢
   omega
  · exact Sa h h2
abbrev ZQ (t:List Int) (i:Int):Int:=t.getD i.toNat 0
open Classical in
noncomputable def Le (c:BV) (l:List BM) (t:List Int) (fr:Int) (st:Option (List Int×List Int×List Int)) (i:Int):Option (List Int×List Int×List Int):=
 match st with
 |none=>none
 |some (Mk,busy,days)=>match c.early busy days (ZQ t i) (GJ l Mk i fr) with
  |none=>none
  |some d=>some (Mk.set i.toNat d,busy++[ZQ t i],days++[d])
variable {fr:Int} {k n:Nat}
noncomputable def Ol (c:BV) (l:List BM) (t:List Int) (fr:Int) (n:Nat) (row:List Int):Option (List Int×List Int×List Int):=row.foldl (Le c l t fr) (some (List.replicate n 0,[],[]))
theorem Ue {c:BV} {l:List BM} {t:List Int} {fr:Int}:∀(row:List Int),row.foldl (Le c l t fr) none=none
 |[]=>rfl
 |_::row=>Ue row
theorem Om {c:BV} {l:List BM} {t:List Int} {row:List Int} {i:Int} (h:row[k]? =some i):Ol c l t fr n (row.take (k+1))=Le c l t fr (Ol c l t fr n (row.take k)) i:=by
 unfold Ol
 rw [List.take_add_one,h,List.foldl_append];rfl
theorem iX {c:BV} {l:List BM} {t:List Int} {row:List Int} {i:Int} {d b y:List Int} (h:row[k]? =some i) (hs:Ol c l t fr n (row.take k)=some (d,b,y)) (he:c.early b y (ZQ t i) (GJ l d i fr)=none):Ol c l t fr n row=none:=by
 have h1:Ol c l t fr n (row.take (k+1))=none:=by rw [Om h,hs];simp only [Le,he]
 unfold Ol at h1 ⊢
 rw [←List.take_append_drop (k+1) row,List.foldl_append,h1]
 exact Ue _
theorem w4 {c:BV} {l:List BM} {t:List Int} {row:List Int} {i x:Int} {d b y:List Int} (h:row[k]? =some i) (hs:Ol c l t fr n (row.take k)=some (d,b,y)) (he:c.early b y (ZQ t i) (GJ l d i fr)=some x):Ol c l t fr n (row.take (k+1))=some (d.set i.toNat x,b++[ZQ t i],y++[x]):=by
 rw [Om h,hs];simp only [Le,he]
structure Tn (c:BV) (l:List BM) (t row:List Int) (fr:Int) (n k:Nat) (Mk busy days:List Int):Prop where
 len:Mk.length=n
 hb:busy=(row.take k).map (ZQ t)
 hd:days=(row.take k).map fun i=>Mk.getD i.toNat 0
 bnd:∀x∈Mk,0≤x∧x≤40000
 ge:∀i∈row.take k,fr≤Mk.getD i.toNat 0
 ord:∀r∈l,r.thn∈row.take k→Mk.getD r.fst.toNat 0<Mk.getD r.thn.toNat 0
 fit:c.Dw busy days []=0
theorem I_ {l:List Int} {i j d:Int} (hi:0≤i) (hj:0≤j) (h:i.toNat<l.length):(l.set i.toNat d).getD j.toNat 0=if j=i then d else l.getD j.toNat 0:=by grind
theorem bB {l:List Int} {i:Int} (hn:l.Nodup) (h:l[k]? =some i):i∉l.take k:=by
 intro hm
 obtain ⟨j,hj⟩:=List.mem_iff_getElem?.1 hm
 rw [List.getElem?_take] at hj
 split at hj
 next hjk=>
  have:=(List.getElem?_inj Zo hn).1 (hj.trans h.symm)
  omega
 next=>cases hj
theorem Tn.next {c:BV} {l:List BM} {t row done:List Int} {d i:Int} {Mk busy days:List Int} (h:Tn c l t row fr n k Mk busy days) (hr:Oi (n:Int) l row done) (hk:row[k]? =some i) (hl:∀r∈l,0≤r.fst∧0≤r.thn∧r.fst≠r.thn) (hn:n≤24) (ht:c.has (ZQ t i)=true) (he:c.early busy days (ZQ t i) (GJ l Mk i fr)=some d):Tn c l t row fr n (k+1) (Mk.set i.toNat d) (busy++[ZQ t i]) (days++[d]):=by
 have hi:=hr.Ql i (List.mem_of_getElem? hk)
 have hni:=bB hr.nd hk
 have hlen:i.toNat<Mk.length:=by rw [h.len];omega
 have ZL:k<row.length:=by grind
 have hrl:=hr.len
 have Xj:busy.length<24:=by rw [h.hb,List.length_map,List.length_take];omega
 obtain ⟨e1,e2,e3⟩:=bA h.fit ht Xj he
 have hf:= @SZ Mk i l fr
 have htk:row.take (k+1)=row.take k++[i]:=by rw [List.take_add_one,hk];rfl
 have hrg:∀j∈row.take k,0≤j∧j≠i:=fun j hj=>⟨(hr.Ql j (List.mem_of_mem_take hj)).1,fun e=>hni (e ▸ hj)⟩
 refine ⟨by rw [List.length_set];exact h.len,by rw [htk,List.map_append,←h.hb];rfl,?_,fun x hx=> ?_,fun j hj=> ?_,fun r hrm hm=> ?_,e3⟩
 ·
  rw [htk,List.map_append,h.hd]
  have h1:∀j∈row.take k,Mk.getD j.toNat 0=(Mk.set i.toNat d).getD j.toNat 0:=fun j hj=>by grind
  rw [List.map_congr_left h1]
  congr 1
  show [d]=[(Mk.set i.toNat d).getD i.toNat 0]
  rw [I_ hi.1 hi.1 hlen,if_pos rfl]
 ·
  rcases List.mem_or_eq_of_mem_set hx with hx|hx
  · exact h.bnd x hx
  · subst hx;exact e2
 ·
  rw [htk,List.mem_append,List.mem_singleton] at hj
  rcases hj with hj|rfl
  · rw [I_ hi.1 (hrg j hj).1 hlen,if_neg (hrg j hj).2];exact h.ge j hj
  · grind
 ·
  rw [htk,List.mem_append,List.mem_singleton] at hm
  have hq:=hl r hrm
  rcases hm with hm|hm
  ·
   have h3:r.fst∈row.take k:=by
    obtain ⟨j,hj⟩:=List.mem_iff_getElem?.1 hm
    rw [List.getElem?_take] at hj
    split at hj
    next hjk=>
     have h4:=hr.AA1 j _ hj r hrm rfl
     exact (List.take_subset_take_left row AA) h4
    next=>cases hj
   rw [I_ hi.1 hq.1 hlen,if_neg (hrg _ h3).2,I_ hi.1 hq.2.1 hlen,if_neg (hrg _ hm).2]
   exact h.ord r hrm hm
  ·
   have h3:=hr.AA1 k i hk r hrm hm
   rw [I_ hi.1 hq.1 hlen,if_neg (hrg _ h3).2,I_ hi.1 hq.2.1 hlen,if_pos hm]
   have:=Sa (Mk:=Mk) (i:=i) (fr:=fr) hrm hm
   omega
theorem Tn.nil {c:BV} {l:List BM} {t row:List Int} (ho:c.own=0):Tn c l t row fr n 0 (List.replicate n 0) [] []:=
 ⟨List.length_replicate,rfl,rfl,fun x hx=>by rw [List.eq_of_mem_replicate hx];omega,fun i h=>by simp at h,fun r _ h=>by simp at h,qo ho⟩
theorem Tn.run {c:BV} {l:List BM} {t row done:List Int} {fr:Int} {n:Nat} (hr:Oi (n:Int) l row done) (hl:∀r∈l,0≤r.fst∧0≤r.thn∧r.fst≠r.thn) (hn:n≤24) (ho:c.own=0) (ht:∀i:Int,0≤i→i<(n:Int)→c.has (ZQ t i)=true):∀(k:Nat) {d b y:List Int},k≤row.length→Ol c l t fr n (row.take k)=some (d,b,y)→Tn c l t row fr n k d b y
 |0,d,b,y,_,h=>by
  have h:some (List.replicate n 0,([]:List Int),([]:List Int))=some (d,b,y):=h
  cases h
  exact Tn.nil ho
 |k+1,d,b,y,hk,h=>by
  obtain ⟨i,hi⟩:=at_ (l:=row) (k:=k) AA
  have hrg:=hr.Ql i (List.mem_of_getElem? hi)
  rw [Om hi] at h
  cases hs:Ol c l t fr n (row.take k) with
  |none=>rw [hs] at h;cases h
  |some p=>
   obtain ⟨d1,b1,y1⟩:=p
   have ih:=Tn.run hr hl hn ho ht k AA hs
   rw [hs] at h
   simp only [Le] at h
   cases he:c.early b1 y1 (ZQ t i) (GJ l d1 i fr) with
   |none=>rw [he] at h;cases h
   |some x=>
    rw [he] at h
    cases h
    exact ih.next hr hi hl hn (ht i hrg.1 hrg.2) he
theorem Oi.all {l:List BM} {row done:List Int} (hr:Oi (n:Int) l row done) (hlen:row.length=n):row.Perm ((List.range n).map fun i:Nat=>(i:Int)):=by
 have hnd:((List.range n).map fun i:Nat=>(i:Int)).Nodup:=by
  refine List.Pairwise.map _ (fun a b hab=> ?_) (List.nodup_range (n:=n))
  intro e;apply hab;omega
 have hsub:∀x∈row,x∈(List.range n).map fun i:Nat=>(i:Int):=fun x hx=>by
  have:=hr.Ql x hx
  exact List.mem_map.2 ⟨x.toNat,List.mem_range.2 AA,by omega⟩
 refine (List.perm_ext_iff_of_nodup hr.nd hnd).2 fun a=>⟨hsub a,fun ha=> ?_⟩
 refine Classical.byContradiction fun hna=> ?_
 have h1:=Ld (L:=a::row) (M:=(List.range n).map fun i:Nat=>(i:Int)) (List.nodup_cons.2 ⟨hna,hr.nd⟩) (fun x hx=>by
  rcases List.mem_cons.1 hx with rfl|hx
  · exact ha
  · exact hsub x hx)
 simp at h1;omega
end Go.Proofs.YtmocaapoeefgkaaGreatDoor
namespace Cp
open Go Go.RowKit Go.Great
section
variable {P:Program} {L:Lg P} {n:Fm} {fz:Nat} {E:Env} {M0:Av} {w0:World} {S:Nat→Prop} {rs:List At} {o:Oper} {g:Func} {M1:Av} {w1:World}
theorem w5 {d j:Nat} {T:TypeId} {x:Operand} {ps:List Pr} (hg:o.guard=none) (hd:o.dst=some d) (hn:d<n) (ho:o.op= .box T x) (hx:VL E x (DA ps)):
  DH P M0 w0 S n j (SR.c Bf) ⟨d,E2 T ps⟩ o E (Cp.ex fun b=>ptr b 0):=by
 refine ⟨hg,fun M w a rs VM he hI hj=> ?_⟩
 obtain ⟨h0,h1⟩:=hx.ev (o:=o) he Au
 have hw:(a.eval x).cells.toList.toArray=(a.eval x).cells:=by simp
 have hrun:(execOp a.eval o).run P w= .ok (.value (.pointer (some ⟨w.heap.size,0,none⟩))) (w.alloc (.cells (a.eval x).cells.toList.toArray T)):=by simp [execOp,ho,Instr.box,newVar,newRow]
 rw [hrun]
 have hb:Below w.heap.size w (w.alloc (.cells (a.eval x).cells.toList.toArray T)):=(Below.refl _ _).alloc (Nat.le_refl _) _
 have h2:=Ext.below (M:=M) hb
 have FE:Ext M w (fun b o=>M b o∨b=w.heap.size) (w.alloc (.cells (a.eval x).cells.toList.toArray T)):=by
  refine ⟨h2.size,fun a v hc hm=>⟨fun hx=> ?_,(h2.keep a v hc hm).2⟩,fun b o ho hp hm=>⟨fun hx=> ?_,(h2.obj b o ho hp hm).2⟩⟩
  ·
   rcases hx with hx|hx
   · exact hm hx
   · exact FM
  · grind
 have hs1:(w.alloc (.cells (a.eval x).cells.toList.toArray T)).heap.size=w.heap.size+1:=by simp
 have hat:(SR.at_ (a.put o.dst (.pointer (some ⟨w.heap.size,0,none⟩))) ⟨d,E2 T ps⟩)=AF true w.heap.size T ps:=by unfold SR.at_ Slot.val;dsimp only;rw [hd,Bz H6];rfl
 refine ⟨fun b o=>M b o∨b=w.heap.size,⟨_,rfl⟩,FE,?_⟩
 rw [hat]
 refine hI.replace hj FE hb.os hb.tape hb.output (fun k hk _=>hb.block k hk) rfl (fun b o hm _=> .inl hm) (fun b o hx=> ?_) ?_ rfl (fun b hbk=> ?_)
 ·
  rcases hx with hx|hx
  · have:=hI.bd _ _ hx;omega
  · omega
 · refine ⟨fun o=> .inr rfl,(a.eval x).cells.toList,heap_alloc_new w _,h0.st FE,h1⟩
 ·
  have FB:some w.heap.size=some b:=hbk
  injection FB with e1
  subst e1
  exact ⟨by rw [hs1];omega,.inr (Nat.le_refl _)⟩
end
section
variable {P:Program} {L:Lg P} {n:Fm} {fz:Nat} {E:Env} {M0:Av} {w0:World} {S:Nat→Prop} {rs:List At}
end
end Cp
namespace Cp
open Go Go.RowKit
abbrev D9 (ρ:Option Nat):Fence:={ Fence.wide with round:=ρ }
section
variable {P:Program} {ρ:Option Nat}
def L6 (o:Oper):Bool:=match o.op with
 | .defer _=>false
 |_=>true
theorem gL {o:Oper} {a:Act} {w:World} {K K':Act→World→Prop} {Q:Exit→Act→World→Prop} (hc:L6 o=true) (hK:∀a w,K a w→K' a w) (h:o.wp P a w K Q):o.wpIn (D9 ρ) 0 P a w K' Q:=by
 refine ⟨fun _ _=>trivial,?_⟩
 rw [Oper.semAt_eq _ _ _ (fun c hh=>by unfold L6 at hc;rw [hh] at hc;cases hc)]
 unfold Oper.wp at h
 generalize (execOp a.eval o).run P w=r at h ⊢
 cases r with
 |halt x w'=>cases x<;>first|exact h|exact h.elim
 |ok x w'=>
  cases x<;>first|exact h.elim|skip
  case value v=>exact hK _ _ h
  case skip=>exact hK _ _ h
  case defer d=>exact hK _ _ h
  case enter f args=>exact ⟨fun hh=>(by cases hh),callsIn_wide.2 (h.mono fun e w'' hr=>by cases e<;>first|exact hK _ _ hr|exact hr)⟩
  case row row args=>
   refine ⟨fun hh=>(by cases hh),fun c cs _=> ?_⟩
   obtain ⟨v,w2,h1,h2⟩:=h c cs
   exact ⟨v,w2,hK _ _ h1,stepsIn_wide.2 h2⟩
theorem q_ {ops:Array Oper} {Q:Exit→Act→World→Prop} (hc:∀(i:Nat) o,ops[i]? =some o→L6 o=true):∀(l:List Nat) (a:Act) (w:World),wpS P ops Q l a w→wpOpsIn (D9 ρ) 0 P ops Q l a w
 |[],_,_,h=>h
 |i::l,a,w,h=>by
  have ih:=q_ (Q:=Q) hc l
  unfold wpS at h
  unfold wpOpsIn
  cases ho:ops[i]? with
  |none=>rw [ho] at h;exact ih a w h
  |some o=>
   rw [ho] at h
   dsimp only at h ⊢
   split
   next hw=>rw [if_pos hw] at h;exact gL (hc i o ho) ih h
   next hw=>rw [if_neg hw] at h;exact ⟨fun _ _=>trivial,ih _ _ h⟩
theorem AA3 {ops:Array Oper} {Q:Exit→Act→World→Prop} (hc:∀(i:Nat) o,ops[i]? =some o→L6 o=true) {i:Nat} {K K':Act→World→Prop} {a:Act} {w:World} (hK:∀a w,K a w→K' a w) (h:RP P ops Q i K a w):wpOpIn (D9 ρ) 0 P ops Q i K' a w:=by
 unfold RP at h
 unfold wpOpIn
 cases ho:ops[i]? with
 |none=>rw [ho] at h;exact hK _ _ h
 |some o=>
  rw [ho] at h
  dsimp only at h ⊢
  split
  next hw=>rw [if_pos hw] at h;exact gL (hc i o ho) hK h
  next hw=>rw [if_neg hw] at h;exact ⟨fun _ _=>trivial,hK _ _ h⟩
theorem rA {ops:Array Oper} {md:Region.Mode} {Q:Exit→Act→World→Prop} (hc:∀(i:Nat) o,ops[i]? =some o→L6 o=true):∀(fuel:Nat) (listed:Array Bool) (a:Act) (w:World),MI P md ops Q fuel listed a w→wpAnyIn (D9 ρ) 0 P md ops Q fuel listed a w
 |0,_,_,_,h=>h
 |fuel+1,_,_,_,h=>⟨h.1,fun i hi=>AA3 hc (rA hc fuel _) (h.2 i hi)⟩
theorem w7 {l:List Oper} (hc:calm l=true):∀(i:Nat) o,l.toArray[i]? =some o→L6 o=true:=fun i o ho=>by
 have hm:o∈l:=List.mem_of_getElem? (by simpa using ho)
 have:=List.all_eq_true.1 hc o hm
 unfold L6;revert this;cases o.op<;>simp
theorem w8 {c:Code} {Q:Exit→Act→World→Prop} {α:Type} (μ:α→Nat) (R:α→Act→World→Prop) (round:∀x a w,R x a w→c.wpIn (D9 ρ) 0 P (Exit.then (fun a' w'=>∃y,μ y<μ x∧R y a' w') Q) a w) (x:α) (a:Act) (w:World) (hx:R x a w):(Code.loop c).wpIn (D9 ρ) 0 P Q a w:=by
 intro b k cs hro hb hr
 have key:∀m x a w,μ x=m→R x a w→∃e a' w',Q e a' w'∧ArrivesIn (Machine.fenced P (D9 ρ)) P (lone (b.atR a (.code c:: .inLoop c::k)) cs w) b k cs e a' w':=by
  intro m
  induction m using Nat.strongRecOn with
  |_ m ih=>
   intro x a w hm hx
   obtain ⟨e,a₁,w₁,hq,Ip⟩:=round x a w hx b (.inLoop c::k) cs hro hb hr
   cases e with
   |normal=>
    obtain ⟨y,hlt,hy⟩:=hq
    obtain ⟨e₂,a₂,w₂,nA,Vc⟩:=ih (μ y) (hm ▸ hlt) y a₁ w₁ rfl hy
    exact ⟨e₂,a₂,w₂,nA,.of_steps (StepsIn.trans Ip (.one (fenced_calm hb hr rfl) stepR_inLoop)) Vc⟩
   |exit id=>exact ⟨_,a₁,w₁,hq,.pass (x:= .inLoop c) rfl (fun _ _=> .inl AO) Ip⟩
   |goto l=>exact ⟨_,a₁,w₁,hq,.pass (x:= .inLoop c) rfl (fun _ _=> .inl AO) Ip⟩
   |ret=>exact ⟨_,a₁,w₁,hq,.pass (x:= .inLoop c) rfl (fun _ _=> .inl AO) Ip⟩
   |panic ch=>exact ⟨_,a₁,w₁,hq,.pass (x:= .inLoop c) rfl (fun _ _=> .inl AO) Ip⟩
   |outgrown=>exact ⟨_,a₁,w₁,hq,.pass (x:= .inLoop c) rfl (fun _ _=> .inl AO) Ip⟩
 obtain ⟨e,a',w',hq,Ip⟩:=key _ x a w rfl hx
 exact ⟨e,a',w',hq,.of_steps (.one (fenced_calm hb hr rfl) stepR_loop) Ip⟩
@[reducible] def gM (P:Program) (ρ:Option Nat):Lg P where
 wp c Q a w:=c.wpIn (D9 ρ) 0 P Q a w
 mono hq h:=wpIn_mono h hq
 skip h:=wpIn_skip h
 ret h:=wpIn_ret h
 exit h:=wpIn_exit h
 seq h:=wpIn_seq h
 block h:=wpIn_block h
 cond hc ht hf:=wpIn_cond_split hc ht hf
 loop:=w8
 region {id l Q a w} hc h:=wpIn_region (q_ (fun i o ho=>by
  have hm:o∈l:=List.mem_of_getElem? (by simpa using ho)
  have:=List.all_eq_true.1 hc o hm
  unfold L6;revert this;cases o.op<;>simp) _ _ _ (by simpa [List.range_eq_range'] using h))
 draw hc hm h:=wpIn_region_any hm (rA (w7 hc) _ _ _ _ h)
end
end Cp
namespace Cp
open Go Go.RowKit Go.Great
section
variable {P:Program} {L:Lg P} {n:Fm} {fz:Nat} {E:Env} {M0:Av} {w0:World} {S:Nat→Prop} {rs:List At} {o:Oper}
end
end Cp
namespace Cp
open Go Go.RowKit
variable {a:Act} {ts:Array TypeId} {M:Av} {rows:List (List Pr)} {ps:List Pr} {zs:List Value} {b j n:Nat} {o:Oper} {p q:Pr} {P:Program} {T e t:TypeId} {v:Value}
theorem Cn.LR {w:World} {E:Env} (s:Nat) {α:Type} {f:α→Pr} (hs:E.lookup s=some (Cp.ex f)) (hm:s∈looks o) (he:Cn M w E o a):∃x,Cn M w ((s,f x)::E) o a:=by
 obtain ⟨x,hx⟩:=he s _ hm hs
 refine ⟨x,fun t q ht hq=> ?_⟩
 simp only [List.lookup] at hq
 by_cases hts:t=s
 · grind
 · exact VJ
theorem Cn.opf {w:World} {E:Env} {φ:Prop} (s:Nat) (hs:E.lookup s=some (Cp.fact φ p)) (hm:s∈looks o) (he:Cn M w E o a):φ∧Cn M w ((s,p)::E) o a:=by
 obtain ⟨hφ,hx⟩:=he s _ hm hs
 refine ⟨hφ,fun t q ht hq=> ?_⟩
 simp only [List.lookup] at hq
 by_cases hts:t=s
 · grind
 · exact VJ
section
variable {P:Program} {M0:Av} {w0:World} {S:Nat→Prop} {n:Fm} {j:Nat} {R R':SR} {E:Env} {o:Oper}
theorem DH.LR (s:Nat) {α:Type} {f:α→Pr} (hg:o.guard=none) (hs:E.lookup s=some (Cp.ex f)) (hm:s∈looks o) (h:∀x,DH P M0 w0 S n j R R' o ((s,f x)::E) p):DH P M0 w0 S n j R R' o E p:=
 ⟨hg,fun M w a rs hsz he hI hj=>by obtain ⟨x,hx⟩:=he.LR s hs hm;exact (h x).2 M w a rs hsz hx hI hj⟩
theorem DH.opf {φ:Prop} (s:Nat) (hg:o.guard=none) (hs:E.lookup s=some (Cp.fact φ q)) (hm:s∈looks o) (h:φ→DH P M0 w0 S n j R R' o ((s,q)::E) p):DH P M0 w0 S n j R R' o E p:=
 ⟨hg,fun M w a rs hsz he hI hj=>by obtain ⟨hφ,hx⟩:=he.opf s hs hm;exact (h hφ).2 M w a rs hsz hx hI hj⟩
theorem DH.le (h:DH P M0 w0 S n j R R' o E p) (hl:Pr.le p q):DH P M0 w0 S n j R R' o E q:=by
 refine ⟨h.1,fun M w a rs hsz he hI hj=> ?_⟩
 have this:=h.2 M w a rs hsz he hI hj
 generalize (execOp a.eval o).run P w=r at this ⊢
 unfold EB at this
 split at this
 · obtain ⟨M',h1,h2,h3⟩:=this;exact ⟨M',hl _ _ _ h1,h2,h3⟩
 · obtain ⟨M',h1,h2,h3⟩:=this;exact ⟨M',hl _ _ _ h1,h2,h3⟩
 · exact Calls.mono this fun _ _ ⟨v,M',h0,h1,h2,h3⟩=>⟨v,M',h0,hl _ _ _ h1,h2,h3⟩
 · exact this.elim
end
theorem rB {z:Array Value} {u:Value} (h0:0<z.size) (h:u∈(madeCells z n).toList):u∈z.toList:=by
 simp only [madeCells,Array.toList_map,List.mem_map] at h
 obtain ⟨k,_,rfl⟩:=h
 have hk:k % z.size<z.size:=Nat.mod_lt _ h0
 rw [getElem!_pos z _ hk]
 exact Array.getElem_mem_toList hk
theorem w9 {z:Array Value} {m sz i:Nat} {u:Value} (hz:z.size=sz) (hi:i<m) (hu:z.toList[j]? =some u):(madeCells z (m*sz)).toList[i*sz+j]? =some u:=by
 have hjl:j<sz:=by grind
 have hlt:i*sz+j<m*sz:=by
  have:(i+1)*sz≤m*sz:=Nat.mul_le_mul_right sz hi
  rw [Nat.add_mul] at this;omega
 have hmod:(i*sz+j) % sz=j:=by rw [Nat.mul_comm,Nat.mul_add_mod,Nat.mod_eq_of_lt hjl]
 have hjz:j<z.size:=by omega
 rw [Array.getElem?_toList] at hu ⊢
 rw [Array.getElem?_eq_getElem hjz] at hu
 simp only [madeCells]
 rw [Array.getElem?_map,Array.getElem?_range,if_pos hlt,Option.map_some,hz,hmod,getElem!_pos z _ hjz,hu]
theorem JA {I:C1} {E:Env} {x y:Operand} {sz i_ m:Nat} (ho:o.op= .makeSlice t x y) (ht:P.underlying t=some (.slice e)) (hz:A9 P e=some sz) (hby:B1 P e=some i_) (Ev:BZ P e=some zs) (hzl:zs.length=sz) (hsz:0<sz) (h1:zs.all (·.oneCell')=true) (hx:VL E x (int ((m:Nat):Int))) (hy:VL E y (int ((m:Nat):Int))) (hm:m≤maxLen) (hb:i_*m≤281474976710656):Ac P I o E (full sz (List.replicate m (zs.map is))):=
 Ac.val fun M w a he hI=>by
  have hx1:a.eval x= .int .i64 m:=hx.ev he Au
  have hy1:a.eval y= .int .i64 m:=hy.ev he Au
  unfold A9 at hz
  unfold B1 at hby
  unfold BZ at Ev
  cases hi:P.info? e with
  |none=>rw [hi] at hz;cases hz
  |some i=>
   rw [hi] at hz hby Ev
   simp only [Option.map_some,Option.some.injEq,Option.map_eq_some_iff] at hz hby Ev
   obtain ⟨z,eV,Ev⟩:=Ev
   have l6:z.cells.size=sz:=by rw [←hzl,←Ev];simp
   have hrun:=run_make (P:=P) w t e i z ht hi eV .i64 .i64 (m:Int) (m:Int) AA (Int.le_refl _) (by rw [hby];have h0:((i_*m:Nat):Int)≤281474976710656:=Int.ofNat_le.2 hb;rw [←Int.natCast_mul];exact h0) VY
   rw [hz] at hrun
   simp only [Int.toNat_natCast] at hrun
   have ZP:Below w.heap.size w (w.alloc (.cells (madeCells z.cells (m*sz)) e)):=(Below.refl _ _).alloc (Nat.le_refl _) _
   have hrl:(List.replicate m (zs.map is)).length=m:=List.length_replicate
   have hfl:Flat M w sz (List.replicate m (zs.map is)) (madeCells z.cells (m*sz)).toList:=by
    refine ⟨by rw [hrl];simp [size_madeCells],fun u hu=>List.all_eq_true.1 h1 _ (by rw [←Ev];exact rB AA hu),fun k row hr=> ?_⟩
    have hk:k<m:=by have:=BH hr;omega
    obtain rfl:row=zs.map is:=List.eq_of_mem_replicate (List.mem_of_getElem? hr)
    refine ⟨by simp [hzl],fun j p hp=> ?_⟩
    rw [List.getElem?_map,Option.map_eq_some_iff] at hp
    obtain ⟨u,hu,rfl⟩:=hp
    exact ⟨u,w9 l6 hk (by rw [Ev];exact hu),rfl⟩
   refine ⟨.slice (some ⟨w.heap.size,0,none⟩) m m,w.alloc (.cells (madeCells z.cells (m*sz)) e),by simp [execOp,ho,hx1,hy1,hrun],?_,ZP⟩
   have YQ:=FF (hfl.st (Ext.below ZP)) (c:=m) (Nat.le_of_eq hrl) hm (g:=w.heap.size) (fun k u hk=>⟨by rw [RV];simpa using hk,fun hx=>by have:=I.bd _ _ hI _ _ hx;omega⟩)
   rw [hrl] at YQ
   exact ⟨YQ,_,by rw [hrl]⟩
section
variable {P:Program} {L:Lg P} {n:Fm} {E:Env} {M0:Av} {w0:World} {S:Nat→Prop} {rs:List At}
theorem Fin.CA {Q:Exit→Act→World→Prop} {x:Exit} (i j k:Nat) {sz:Nat} {new:Bool} (hi:rs[i]? =some (AF new b T ps)) (hj:rs[j]? =some (Ba e sz rows v)) (hij:j≠i) (hk:ps[k]? =some p) (hp:Pr.le p (is v)) (hl:∀r∈rows,r.length=sz) (kk:Fin n E (Hp M0 w0 S ((rs.set j Bf).set i (AF new b T (ps.set k (slice sz rows))))) Q x):Fin n E (Hp M0 w0 S rs) Q x:=Fin.conv (fun _ _ hs=>hs.CA hi hj hij hk hp hl) kk
end
section
variable {P:Program} {M0:Av} {w0:World} {S:Nat→Prop} {rs:List At}
def BN (b:Nat) (x:Obj):At where
 blk:=some b
 new:=true
 h M w:=(∀o,M b o)∧w.heap[b]? =some x
 st M w M' w' _ hk h:=by
  obtain ⟨h1,h2⟩:=hk b rfl
  exact ⟨fun o=>h2 o (h.1 o),h1.trans h.2⟩
theorem A7.rC {w:World} (h:A7 M0 w0 S rs M w) (x:Obj):
  A7 M0 w0 S (BN w.heap.size x::rs) (fun b o=>M b o∨b=w.heap.size) (w.alloc x)∧Ext M w (fun b o=>M b o∨b=w.heap.size) (w.alloc x):=by
 have hb:Below w.heap.size w (w.alloc x):=(Below.refl _ _).alloc (Nat.le_refl _) _
 have hsz:(w.alloc x).heap.size=w.heap.size+1:=by simp
 have he:Ext M w (fun b o=>M b o∨b=w.heap.size) (w.alloc x):=by
  have h2:=Ext.below (M:=M) hb
  refine ⟨h2.size,fun a v hc hm=>⟨fun hx=> ?_,(h2.keep a v hc hm).2⟩,fun b o ho hp hm=>⟨fun hx=> ?_,(h2.obj b o ho hp hm).2⟩⟩
  ·
   rcases hx with hx|hx
   · exact hm hx
   · exact FM
  ·
   rcases hx with hx|hx
   · exact hm hx
   · subst hx;simp at ho
 have hI:=(Hp M0 w0 S rs).st _ _ _ hb h
 refine ⟨⟨hI.m0,fun b o hm=> .inl (hI.m b o hm),hI.os,hI.tape,hI.output,hI.size,hI.block,fun b o hm=> ?_,fun r hr=> ?_,?_⟩,he⟩
 ·
  rcases hm with hm|hm
  · exact hI.bd b o hm
  · omega
 ·
  rcases List.mem_cons.1 hr with rfl|hr
  ·
   refine ⟨⟨fun o=> .inr rfl,heap_alloc_new w _⟩,fun b hbk=> ?_⟩
   simp only [BN,Option.some.injEq] at hbk
   subst hbk
   exact ⟨by omega,by simp [BN];exact h.size⟩
  ·
   obtain ⟨h3,h4⟩:=h.hold r hr
   exact ⟨r.st _ _ _ _ he (fun b hbk=>⟨hb.block b (h4 b hbk).1,fun _ x=> .inl x⟩) h3,fun b hbk=>⟨by have:=(h4 b hbk).1;omega,(h4 b hbk).2⟩⟩
 ·
  refine List.pairwise_cons.2 ⟨fun r hr b N6 TW=> ?_,hI.nd⟩
  simp only [BN,Option.some.injEq] at N6
  subst N6
  have:=((h.hold r hr).2 _ TW).1
  omega
theorem A7.putObj {w:World} {x:Obj} (y:Obj) (h:A7 M0 w0 S rs M w) (hj:rs[j]? =some (BN b x)):A7 M0 w0 S (rs.set j (BN b y)) M (w.putObj b y)∧Ext M w M (w.putObj b y):=by
 obtain ⟨⟨hM,hx⟩,hbk⟩:=h.hold _ (List.mem_of_getElem? hj)
 have hlt:b<w.heap.size:=(hbk b rfl).1
 have hsz:(w.putObj b y).heap.size=w.heap.size:=by simp [World.putObj]
 have he:Ext M w M (w.putObj b y):=by
  refine ⟨by omega,fun a v hc hm=>⟨hm,?_⟩,fun k o ho _ hm=>⟨hm,?_⟩⟩
  ·
   have hne:a.block≠b:=fun e=>hm (e ▸ hM _)
   rw [World.cell?_of_block (w:=w) (World.putObj_heap_other hne)];exact hc
  ·
   have hne:k≠b:=fun e=>hm (e ▸ hM _)
   exact (World.putObj_heap_other hne).trans ho
 refine ⟨h.replace hj he rfl rfl rfl (fun k _ hne=>World.putObj_heap_other (fun e=>hne (by rw [e];rfl))) rfl (fun _ _ hm _=>hm) (fun b' o hm=>by have:=h.bd b' o hm;omega) ⟨hM,World.putObj_heap_same hlt⟩ rfl (fun b' hb'=>⟨?_,.inl hb'⟩),he⟩
 simp only [BN,Option.some.injEq] at hb'
 subst hb';omega
end
def Ns (P:Program) (gf:Nat) (lb:Array Value) {α:Type} (enc:α→Value) (xs:List α) (own:List α→List At):Prop:=
 ∀M0 w0 S (l:Nat) (β:Type) (R Rx:List α→β→List At),
  (∀pre x d M w,(pre++[x])<+:xs→A7 M0 w0 S (own (pre++[x])++R pre d) M w→YieldAt (D9 none) 0 P l #[enc x] w fun e w'=>∃M' d',Ext M w M' w'∧
   ((e= .returned (.bool true)∧A7 M0 w0 S (own (pre++[x])++R (pre++[x]) d') M' w')∨(e= .returned (.bool false)∧A7 M0 w0 S (own (pre++[x])++Rx (pre++[x]) d') M' w')))→
  ∀d M w,A7 M0 w0 S (own []++R [] d) M w→CallsIn (D9 none) 0 P gf (#[.func (.yield l) #[] #[]]++lb) w fun e w'=>(∃v,e= .returned v)∧∃M' d',Ext M w M' w'∧
   (A7 M0 w0 S (own xs++R xs d') M' w'∨∃pre,pre<+:xs∧A7 M0 w0 S (own pre++Rx pre d') M' w')
def Jo (M0:Av) (w0:World) (S:Nat→Prop) {β:Type} (rs:β→List At) (rx:Code→β→List At):Exit→Act→World→Prop
 | .normal,_,w=>∃d M,A7 M0 w0 S (rs d) M w
 | .ret,_,w=>∃d M,A7 M0 w0 S (rx .ret d) M w
 | .exit id,_,w=>∃d M,A7 M0 w0 S (rx (.exit id) d) M w
 | .goto t,_,w=>∃d M,A7 M0 w0 S (rx (.goto t) d) M w
 | .panic _,_,_=>False
 | .outgrown,_,_=>False
section
variable {P:Program} {M0:Av} {w0:World} {S:Nat→Prop} {rs:List At}
theorem Tr.range {Q:Exit→Act→World→Prop} {n:Fm} {E:Env} {α β:Type} {p gf:Nat} {g:Operand} {lb:Array Value} {enc:α→Value} {xs:List α} {own:List α→List At} {assign body:Code} (E':α→Env) (R:List α→β→List At) (Rx:Code→List α→β→List At) (d0:β)
  (hIt:Ns P gf lb enc xs own) (eg:∀args w,(callFunc gf args).run P w= .ok (.enter gf args) w) (hg:VL E g (is (.func (.func gf) #[] lb))) (Po:rs.Perm (own []++R [] d0))
  (hassign:∀l D rec M1 w1 pre x d,(pre++[x])<+:xs→∀a,a.tmps.size=n.sz→Fw M1 w1 E a→∀M w,A7 M0 w0 S (own (pre++[x])++(BN l rec::BN D (.deferred (some []))::Ai M1 w1::R pre d)) M w→
   assign.wpIn (D9 (some l)) 0 P (Exit.then (St ⟨n.sz,[]⟩ (E' x) (Hp M0 w0 S (own (pre++[x])++(BN l rec::BN D (.deferred (some []))::Ai M1 w1::R pre d)))) (fun _ _ _=>False)) { tmps:=a.tmps.setIfInBounds p (enc x),defers:=[] } w)
  (hbody : ∀ l D rec M1 w1 pre x d, (pre ++ [x]) <+: xs → Tr (gM P (some l)) ⟨n.sz, []⟩ (E' x) (Hp M0 w0 S (own (pre ++ [x]) ++ (BN l rec :: BN D (.deferred (some [])) :: Ai M1 w1 :: R pre d))) body
   (Jo M0 w0 S (fun d=>own (pre++[x])++(BN l rec::BN D (.deferred (some []))::Ai M1 w1::R (pre++[x]) d)) (fun c d=>own (pre++[x])++(BN l rec::BN D (.deferred (some []))::Ai M1 w1::Rx c (pre++[x]) d))))
  (hdone:∀l D rec M1 w1 d,Fin ⟨n.sz,{ target:= .collected D,args:= #[] }::n.df⟩ E (Hp M0 w0 S (own xs++(BN l rec::BN D (.deferred (some []))::Ai M1 w1::R xs d))) Q .normal)
  (hstop:∀l D rec M1 w1 c pre d,pre<+:xs→Tr (gM P none) ⟨n.sz,{ target:= .collected D,args:= #[] }::n.df⟩ E (Hp M0 w0 S (own pre++(BN l rec::BN D (.deferred (some []))::Ai M1 w1::Rx c pre d))) c Q):
  Tr (gM P none) n E (Hp M0 w0 S rs) (.rangeFunc g #[p] assign body) Q:=by
 intro a w ⟨M,hsz,hdf,hE,hI⟩
 have hI:A7 M0 w0 S rs M w:=hI
 refine wpIn_rangeFunc ?_
 intro fn hfn
 obtain ⟨rec,bC⟩:∃rec:LoopState→Option Code→Loop,rec=fun st pe=>{ state:=st,pending:=pe,fn,tmps:=a.tmps,params:= #[p],assign,body,defers:=w.heap.size }:=⟨_,rfl⟩
 -- what is held ahead of the call
 have hI2:=A7.perm Po hI
 obtain ⟨hI3,e3⟩:=hI2.rC (.deferred (some []))
 obtain ⟨hI4,e4⟩:=hI3.rC (.loop (rec .ready none))
 obtain ⟨W1,hW1⟩:∃W1,(w.alloc (.deferred (some []))).alloc (.loop (rec .ready none))=W1:=⟨_,rfl⟩
 have hs1:(w.alloc (.deferred (some []))).heap.size=w.heap.size+1:=by simp
 rw [hW1,hs1] at hI4 e4
 obtain ⟨M1,hM1⟩:∃M1:Av,M1=(fun b o=>(M b o∨b=w.heap.size)∨b=w.heap.size+1):=⟨_,rfl⟩
 rw [←hM1] at hI4 e4
 have e1:Ext M w M1 W1:=e3.trans e4
 obtain ⟨l,hl⟩:∃l,l=w.heap.size+1:=⟨_,rfl⟩
 obtain ⟨D,hD⟩:∃D,D=w.heap.size:=⟨_,rfl⟩
 rw [←hl] at hI4
 rw [←hD] at hI4
 have hE1:Fw M1 W1 E a:=fun s q hq=>q.st _ _ _ _ _ e1 (hE s q hq)
 have hI5:A7 M0 w0 S (own []++(BN l (.loop (rec .ready none))::BN D (.deferred (some []))::Ai M1 W1::R [] d0)) M1 W1:=by
  refine A7.perm ?_ (A7.Im hI4 (r:=Ai M1 W1) rfl (Ext.refl _ _))
  refine List.Perm.trans (l₂:=(BN l (.loop (rec .ready none))::BN D (.deferred (some []))::Ai M1 W1::R [] d0)++own []) ?_ List.perm_append_comm
  refine (List.Perm.swap _ _ _).trans (List.Perm.cons _ ((List.Perm.swap _ _ _).trans (List.Perm.cons _ (List.Perm.cons _ List.perm_append_comm))))
 have ix:∀(os:List At) (r:At) (tl:List At),(os++r::tl)[os.length]? =some r:=fun os r tl=>by simp
 have sx:∀(os:List At) (r r':At) (tl:List At),(os++r::tl).set os.length r'=os++r'::tl:=fun os r r' tl=>by simp
 have ix2:∀(os:List At) (r1 r2 r:At) (tl:List At),(os++r1::r2::r::tl)[os.length+2]? =some r:=fun os r1 r2 r tl=>by grind
 have sx2:∀(os:List At) (r1 r2 r r':At) (tl:List At),(os++r1::r2::r::tl).set (os.length+2) r'=os++r1::r2::r'::tl:=fun os r1 r2 r r' tl=>by
  rw [List.set_append_right _ _ AA];simp
 have AIt:=hdone;have AIu:=hstop
 refine ⟨l,[{ target:= .collected D,args:= #[] }],W1,{ target:= .fn (.func gf) lb,args:= #[.func (.yield l) #[] #[]] },W1,gf,#[.func (.yield l) #[] #[]]++lb,W1,?_,?_,fun _ _=>trivial,?_,fun h=>Fv,?_⟩
 · rw [hl,hD,←hW1,bC];exact run_enterLoop_outer _ _ _ _ _
 ·
  have hv:a.eval g= .func (.func gf) #[] lb:=by
   obtain ⟨q,h1,h2⟩:=hg
   exact h2 _ _ _ (DV.eval hE h1)
  simp only [resolve,hv]
  simp [go_sem]
 · simp [invoke,go_sem,eg]
 ·
  refine (hIt M0 w0 S l (Code × β) (fun pre cd => BN l (.loop (rec .ready none)) :: BN D (.deferred (some [])) :: Ai M1 W1 :: R pre cd.2)
   (fun pre cd=>BN l (.loop (rec .done (some cd.1)))::BN D (.deferred (some []))::Ai M1 W1::Rx cd.1 pre cd.2) ?_ (.skip,d0) M1 W1 hI5).mono ?_
  ·
   rintro pre x ⟨c0,d⟩ M2 W2 hpre hI
   have hl2:W2.heap[l]? =some (.loop (rec .ready none)):=(hI.hold (BN l (.loop (rec .ready none))) AO).1.2
   have hx2:Ext M1 W1 M2 W2:=(hI.hold (Ai M1 W1) AO).1
   have hy:=run_yield (P:=P) (args:= #[enc x]) hl2 (by rw [bC];rfl)
   have QI:A7 M0 w0 S (own (pre++[x])++(BN l (.loop (rec .ready none))::BN D (.deferred (some []))::Ai M2 W2::R pre d)) M2 W2:=by
    have:=hI.Ce (r':=Ai M2 W2) (ix2 _ _ _ _ _) rfl rfl (Ext.refl _ _)
    rwa [sx2] at this
   have hy2:(Instr.yield l #[enc x]).run P W2= .ok (.round l fn (a.tmps.setIfInBounds p (enc x)) assign body) W2:=by
    rw [hy,bC];simp
   have ha:=hassign l D _ M2 W2 pre x d hpre a hsz (fun s q hq=>q.st _ _ _ _ _ hx2 (hE1 s q hq)) M2 W2 QI
   refine ⟨fn,_,assign,body,hy2,roundIn_of_wpIn (F:=D9 none) trivial (wpIn_mono (F:=(D9 none).inRound l) ha ?_)⟩
   intro e a3 W3 hq
   cases e with
   |normal=>
    obtain ⟨M3,hs3,hd3,hE3,hI3⟩:=hq
    have hI3:A7 M0 w0 S (own (pre++[x])++(BN l (.loop (rec .ready none))::BN D (.deferred (some []))::Ai M2 W2::R pre d)) M3 W3:=hI3
    have hl3:W3.heap[l]? =some (.loop (rec .ready none)):=(hI3.hold (BN l (.loop (rec .ready none))) AO).1.2
    obtain ⟨hI4,e4⟩:=hI3.putObj (.loop { rec .ready none with state:= .busy }) (ix _ _ _)
    rw [sx] at hI4
    refine ⟨_,run_beginRound hl3 (by rw [bC]),?_⟩
    refine wpIn_mono (F:=(D9 none).inRound l) (hbody l D _ M2 W2 pre x d hpre a3 _ ⟨M3,hs3,hd3,fun s q hq=>q.st _ _ _ _ _ e4 (hE3 s q hq),hI4⟩) ?_
    have fin:∀(jump:Option Code) (tl:List At) (W5:World) (M5:Av),A7 M0 w0 S (own (pre++[x])++(BN l (.loop { rec .ready none with state:= .busy })::BN D (.deferred (some []))::Ai M2 W2::tl)) M5 W5→
      ∃w6,(Instr.endRound l jump).run P W5= .ok (.bool jump.isNone) w6∧Ext M2 W2 M5 w6∧A7 M0 w0 S (own (pre++[x])++(BN l (.loop (rec (if jump.isNone then .ready else .done) jump))::BN D (.deferred (some []))::Ai M1 W1::tl)) M5 w6:=by
     intro jump tl W5 M5 h5
     have hl5:W5.heap[l]? =some (.loop { rec .ready none with state:= .busy }):=(h5.hold (BN l (.loop { rec .ready none with state:= .busy })) AO).1.2
     have hx5:Ext M2 W2 M5 W5:=(h5.hold (Ai M2 W2) AO).1
     obtain ⟨h6,e6⟩:=h5.putObj (.loop { rec .ready none with state:=if jump.isNone then .ready else .done,pending:=jump }) (ix _ _ _)
     rw [sx] at h6
     have h7:=h6.Ce (r':=Ai M1 W1) (ix2 _ _ _ _ _) rfl rfl (hx2.trans (hx5.trans e6))
     rw [sx2] at h7
     refine ⟨_,run_endRound jump hl5,hx5.trans e6,?_⟩
     rw [bC] at h7 ⊢
     exact h7
    intro e5 a5 W5 hp
    cases e5 with
    |normal=>
     obtain ⟨d5,M5,h5⟩:=hp
     obtain ⟨w6,g1,g2,g3⟩:=fin none _ _ _ h5
     exact ⟨_,_,g1,M5,(.skip,d5),g2,.inl ⟨rfl,g3⟩⟩
    |ret=>
     obtain ⟨d5,M5,h5⟩:=hp
     obtain ⟨w6,g1,g2,g3⟩:=fin (some .ret) _ _ _ h5
     exact ⟨_,_,g1,M5,(.ret,d5),g2,.inr ⟨rfl,g3⟩⟩
    |exit id=>
     obtain ⟨d5,M5,h5⟩:=hp
     obtain ⟨w6,g1,g2,g3⟩:=fin (some (.exit id)) _ _ _ h5
     exact ⟨_,_,g1,M5,(.exit id,d5),g2,.inr ⟨rfl,g3⟩⟩
    |goto t=>
     obtain ⟨d5,M5,h5⟩:=hp
     obtain ⟨w6,g1,g2,g3⟩:=fin (some (.goto t)) _ _ _ h5
     exact ⟨_,_,g1,M5,(.goto t,d5),g2,.inr ⟨rfl,g3⟩⟩
    |panic ch=>exact hp.elim
    |outgrown=>exact hp.elim
   |exit id=>exact hq.elim
   |goto t=>exact hq.elim
   |ret=>exact hq.elim
   |panic ch=>exact hq.elim
   |outgrown=>exact hq.elim
  ·
   rintro e W2 ⟨⟨v,rfl⟩,M2,⟨c2,d2⟩,hx2,h2⟩
   have hend:∀(os tl:List At) (st:LoopState) (pe:Option Code),st≠ .busy→A7 M0 w0 S (os++(BN l (.loop (rec st pe))::BN D (.deferred (some []))::Ai M1 W1::tl)) M2 W2→
     ∃w6,(Instr.endLoop l).run P W2= .ok pe w6∧Ext M2 W2 M2 w6∧A7 M0 w0 S (os++(BN l (.loop { rec st pe with state:= .exhausted })::BN D (.deferred (some []))::Ai M1 W1::tl)) M2 w6:=by
    intro os tl st pe hst h5
    have hl5:W2.heap[l]? =some (.loop (rec st pe)):=(h5.hold (BN l (.loop (rec st pe))) AO).1.2
    obtain ⟨h6,e6⟩:=h5.putObj (.loop { rec st pe with state:= .exhausted }) (ix _ _ _)
    rw [sx] at h6
    have:=run_endLoop (P:=P) hl5 (by rw [bC];exact hst)
    refine ⟨_,?_,e6,h6⟩
    rw [this,bC]
   rcases h2 with h2|⟨pre,hpre,h2⟩
   ·
    obtain ⟨w6,g1,g2,g3⟩:=hend _ _ _ _ AO h2
    exact ⟨none,w6,g1,hdone l D _ M1 W1 d2 _ _ ⟨M2,hsz,by show _::a.defers=_;rw [hdf],fun s q hq=>q.st _ _ _ _ _ g2 (q.st _ _ _ _ _ hx2 (hE1 s q hq)),g3⟩⟩
   ·
    obtain ⟨w6,g1,g2,g3⟩:=hend _ _ _ _ AO h2
    exact ⟨some c2,w6,g1,hstop l D _ M1 W1 c2 pre d2 hpre _ _ ⟨M2,hsz,by show _::a.defers=_;rw [hdf],fun s q hq=>q.st _ _ _ _ _ g2 (q.st _ _ _ _ _ hx2 (hE1 s q hq)),g3⟩⟩
end
section
variable {P:Program} {M0:Av} {w0:World} {S:Nat→Prop} {rs:List At}
theorem Tr.toR {n:Fm} {E:Env} {I:C1} {c:Code} {Q:Exit→Act→World→Prop} (h:Tr (ZK P) n E I c Q):Tr (gM P none) n E I c Q:=fun a w hs=>wpIn_wide.2 (h a w hs)
theorem Tr.ofR {n:Fm} {E:Env} {I:C1} {c:Code} {Q:Exit→Act→World→Prop} (h:Tr (gM P none) n E I c Q):Tr (ZK P) n E I c Q:=fun a w hs=>wpIn_wide.1 (h a w hs)
theorem Tr.rD {Q:Exit→Act→World→Prop} {n:Fm} {E:Env} {α β:Type} {p gf:Nat} {g:Operand} {lb:Array Value} {enc:α→Value} {xs:List α} {own:List α→List At} {assign body:Code} (E':α→Env) (R:List α→β→List At) (Rx:Code→List α→β→List At) (d0:β)
  (hIt:Ns P gf lb enc xs own) (eg:∀args w,(callFunc gf args).run P w= .ok (.enter gf args) w) (hg:VL E g (is (.func (.func gf) #[] lb))) (Po:rs.Perm (own []++R [] d0))
  (hassign:∀l D rec M1 w1 pre x d,(pre++[x])<+:xs→∀a,a.tmps.size=n.sz→Fw M1 w1 E a→∀M w,A7 M0 w0 S (own (pre++[x])++(BN l rec::BN D (.deferred (some []))::Ai M1 w1::R pre d)) M w→
   assign.wpIn (D9 (some l)) 0 P (Exit.then (St ⟨n.sz,[]⟩ (E' x) (Hp M0 w0 S (own (pre++[x])++(BN l rec::BN D (.deferred (some []))::Ai M1 w1::R pre d)))) (fun _ _ _=>False)) { tmps:=a.tmps.setIfInBounds p (enc x),defers:=[] } w)
  (hbody : ∀ l D rec M1 w1 pre x d, (pre ++ [x]) <+: xs → Tr (gM P (some l)) ⟨n.sz, []⟩ (E' x) (Hp M0 w0 S (own (pre ++ [x]) ++ (BN l rec :: BN D (.deferred (some [])) :: Ai M1 w1 :: R pre d))) body
   (Jo M0 w0 S (fun d=>own (pre++[x])++(BN l rec::BN D (.deferred (some []))::Ai M1 w1::R (pre++[x]) d)) (fun c d=>own (pre++[x])++(BN l rec::BN D (.deferred (some []))::Ai M1 w1::Rx c (pre++[x]) d))))
  (hdone:∀l D rec M1 w1 d,Fin ⟨n.sz,{ target:= .collected D,args:= #[] }::n.df⟩ E (Hp M0 w0 S (own xs++(BN l rec::BN D (.deferred (some []))::Ai M1 w1::R xs d))) Q .normal)
  (hstop:∀l D rec M1 w1 c pre d,pre<+:xs→Tr (ZK P) ⟨n.sz,{ target:= .collected D,args:= #[] }::n.df⟩ E (Hp M0 w0 S (own pre++(BN l rec::BN D (.deferred (some []))::Ai M1 w1::Rx c pre d))) c Q):
  Tr (ZK P) n E (Hp M0 w0 S rs) (.rangeFunc g #[p] assign body) Q:=
 Tr.ofR (Tr.range E' R Rx d0 hIt eg hg Po hassign hbody hdone fun l D rec M1 w1 c pre d hp=>(hstop l D rec M1 w1 c pre d hp).toR)
end
section
variable {P:Program}
theorem rE {x y:Operand} {l:Nat} {w:World} {R:Ending→World→Prop} {K:Act→World→Prop} {Q:Exit→Act→World→Prop} (ho:o.op= .call { callee:= .value x,args:= #[y],argTypes:=ts }) (hx:a.eval x= .func (.yield l) #[] #[]) (hy:a.eval y=v) (h:YieldAt (D9 none) 0 P l #[v] w R) (k:∀e w',R e w'→∃u,e= .returned u∧K (a.put o.dst u) w'):o.wpIn (D9 none) 0 P a w K Q:=by
 obtain ⟨fn,tmps,assign,body,hr,AA4⟩:=h
 refine ⟨fun _ _=>trivial,?_⟩
 rw [Oper.semAt_eq _ _ _ (fun c hh=>by rw [ho] at hh;cases hh)]
 have hrun:(execOp a.eval o).run P w= .ok (.round l fn tmps assign body) w:=by
  have hd:(resolve a.eval { callee:= .value x,args:= #[y],argTypes:=ts } o.type).run P w= .ok { target:= .fn (.yield l) #[],args:= #[v] } w:=by simp [resolve,Deferred.ofValue,hx,hy]
  have hi:invoke (.fn (.yield l) #[]) #[v]=Instr.yield l #[v]:=rfl
  simp only [execOp,ho]
  rw [Sem.run_bind,hd]
  simp only [Result.andThen]
  rw [hi];exact hr
 rw [hrun]
 refine ⟨fun hh=>(by cases hh),RoundIn.mono AA4 fun e w' he=> ?_⟩
 obtain ⟨u,rfl,hk⟩:=k e w' he
 exact hk
end
end Cp
namespace Cp
open Go Go.RowKit Go.Great
variable {M:Av} {f:FuncId} {rows rows':List (List Pr)} {ps:List Pr} {rs':List At} {zs:List Value} {j:Nat} {x:Operand} {p:Pr} {T e t:TypeId} {v:Value}
structure AFX (P:Program) (T kt et:TypeId) {κ:Type} [DecidableEq κ] (enc:κ→Value) (z0:Value):Prop where
 und:P.underlying T=some (.map kt et)
 zero:∀w,(zeroValue et).run P w= .ok z0 w
 eq:∀a b w,(Op.equal kt (enc a) (enc b)).run P w= .ok (decide (a=b)) w
 chk:∀e a w,(Instr.checkKey e 10000 kt (enc a)).run P w= .ok () w
 AHf:∃d,P.underlying kt=some d∧((∀a b,Instr.sameNow d (enc a) (enc b)=none)∨∀a b,Instr.sameNow d (enc a) (enc b)=some (decide (a=b)))
 bits:∀a,Instr.sameBits 10000 (enc a) (enc a)=true
section
variable {P:Program} {L:Lg P} {n:Fm} {z0:Value} {fz:Nat} {E:Env} {M0:Av} {w0:World} {S:Nat→Prop} {rs:List At} {o:Oper} {κ:Type} [DecidableEq κ] {enc:κ→Value}
abbrev AFY (enc:κ→Value) (es:List (κ×Value)):List (Value×Value):=es.map fun p=>(enc p.1,p.2)
def AFZ (enc:κ→Value) (b:Nat) (es:List (κ×Value)):At where
 blk:=some b
 new:=true
 h M w:=(∀o,M b o)∧w.heap[b]? =some (.map (Xm (AFY enc es)) es.length)
 st M w M' w' he hk h:=by
  obtain ⟨h1,h2⟩:=hk b rfl
  exact ⟨fun o=>h2 o (h.1 o),h1.trans h.2⟩
variable {Q:Exit→Act→World→Prop} {ops:Array Oper} {r:List Oper}
theorem TO.bD {d b:Nat} {kt et:TypeId} {es:List (κ×Value)} (hT:AFX P T kt et enc z0) (hg:o.guard=none) (hd:o.dst=some d) (hn:d<n) (ho:o.op= .range T x) (hx:VL E x (is (.map (some b)))) (hj:rs[j]? =some (AFZ enc b es)) (k:∀it,TO P n ops r ((d,ptr it 0)::E) (Hp M0 w0 S (PK it b es.length []::rs)) Q):TO P n ops (o::r) E (Hp M0 w0 S rs) Q:=
 TO.ir hg fun K M w a hsz hdf he hI hK=>by
  have h1:a.eval x=_:=hx.ev (o:=o) (Cj he) Au
  obtain ⟨_,hh⟩:=(A7.hold hI _ (List.mem_of_getElem? hj)).1
  refine TO.val (v:= .pointer (some ⟨w.heap.size,0,none⟩)) (w':=w.alloc (.mapIter (some b) es.length #[] es.length)) ?_ ?_
  · simp [execOp,ho,h1,run_range_map w T kt et b _ _ hT.und hh]
  ·
   obtain ⟨h2,h3⟩:=A7.ADs (obj:= .mapIter (some b) es.length #[] es.length) (r:=PK w.heap.size b es.length []) hI rfl rfl ⟨fun _=> .inr rfl,by rw [heap_alloc_new]⟩
   refine hK _ _ _ _ (k w.heap.size) ⟨_,by rw [CB];exact hsz,by rw [put_defers];exact hdf,?_,h2⟩
   intro s p hp
   simp only [List.lookup] at hp
   by_cases hs:s=d
   · exact RI
   ·
    rw [show (s==d)=false by simpa using hs] at hp
    rw [hd,BW hs]
    exact p.st _ _ _ _ _ h3 (he s p hp)
end
section
variable {P:Program} {L:Lg P} {n:Fm} {E:Env} {M0:Av} {w0:World} {S:Nat→Prop} {rs:List At} {ε:Type} {res:ε→List At} {Q:Exit→Act→World→Prop} {c:Code} {X:List ε} {f:ε→Value} {g:ε→Pr}
def rF (f:ε→Value) (g:ε→Pr) (X:List ε):At:=⟨none,true,fun M w=>∀x∈X,(g x).h M w (f x),fun _ _ _ _ he _ h x hx=>(g x).st _ _ _ _ _ he (h x hx)⟩
end
section
variable {P:Program} {L:Lg P} {n:Fm} {E:Env} {M0:Av} {w0:World} {S:Nat→Prop} {rs:List At} {o:Oper} {Q:Exit→Act→World→Prop} {c:Code}
theorem Hq {sz i q:Nat} {row:List Pr} (ho:o.op= .load t x) (ht:En P t=true) (hx:VL E x (elp sz v i q)) (hl:∀r∈rows,r.length=sz) (hi:rows[i]? =some row) (hp:row[q]? =some p):
  KW P M0 w0 S j (SR.c (Ba T sz rows v)) o E p:=by
 intro M w a rs he hI hj
 obtain ⟨a0,m0,c0,eW,h1⟩:=hx.ev he Au
 have hj':rs[j]? =some (Ba T sz rows v):=hj
 rcases (hI.hold _ (List.mem_of_getElem? hj')).1 with ⟨rfl,A,hv⟩|⟨b,cap,spare,hv,hnc,hcm,hsp,⟨_,cs,h4,h5,h6⟩⟩
 · simp at hi
 ·
  rw [eW] at hv
  injection hv with e1 e2 e3
  injection e1 with e1
  subst e1
  have hrl:=hl row (List.mem_of_getElem? hi)
  have hq:q<sz:=by rw [←hrl];exact BH hp
  have h7:(rows.flatten++spare.map is)[i*sz+q]? =some p:=by
   have Gm:=BH hi
   have hle:(i+1)*sz≤rows.length*sz:=Nat.mul_le_mul_right sz Gm
   rw [Nat.succ_mul] at hle
   rw [List.getElem?_append_left (by rw [C5 hl];omega),IF hl hi hq];exact hp
  obtain ⟨u,hu,hh⟩:=h5.at_ _ _ h7
  have hc:w.cell? ((⟨b,0,none⟩:Addr).add (i*sz+q))=some u:=by rw [F1];simp [World.cell?,h4,hu]
  have hrun:(execOp a.eval o).run P w= .ok (.value u) w:=by simp [execOp,ho,h1,Instr.loadAt,Instr.sureAddr,loadVar,Em ht,hc]
  rw [hrun]
  exact ⟨hh,Below.refl _ _⟩
theorem gN {w:World} {ty:TypeId} {sz bytes:Nat} {u:Value} (ht:P.underlying t=some (.slice e)) (hz:A9 P e=some sz) (hby:B1 P e=some bytes) (Ev:BZ P e=some zs) (hzl:zs.length=sz) (hone:zs.all (·.oneCell')=true) (hsz:0<sz) (h:A7 M0 w0 S rs M w) (hj:rs[j]? =some (Ba e sz rows v)) (hl:∀r∈rows,r.length=sz) (hu:(slice sz rows').h M w u) (HF:rows.length+rows'.length≤maxLen) (hfit:(rows.length+rows'.length)*bytes≤140737488355328):
  ∃v' w' M',(Builtin.append_ #[t,t] ty #[v,u]).run P w= .ok v' w'∧(lens (rows.length+rows'.length)).h M' w' v'∧Ext M w M' w'∧A7 M0 w0 S (rs.set j (Ba e sz (rows++rows') v')) M' w':=by
 have hjl:=BH hj
 rcases Nat.eq_zero_or_pos rows'.length with h0|h0
 ·
  have hr0:rows'=[]:=List.eq_nil_of_length_eq_zero h0
  subst hr0
  obtain ⟨A',c',hu,_⟩:=hu
  have hv:∃A c,v= .slice A rows.length c∧rows.length≤c:=by
   rcases (h.hold _ (List.mem_of_getElem? hj)).1 with ⟨rfl,A,rfl⟩|⟨b,cap,sp,rfl,h2,_⟩
   · grind
   · exact ⟨_,_,rfl,h2⟩
  obtain ⟨A,c,XH,QJ⟩:=hv
  have hrun:=G0 (P:=P) (ty:=ty) (A:=A) (A':=A') (n:=rows.length) (c:=c) (c':=c') ht hz QJ w
  refine ⟨v,w,M,by rw [hu,XH];exact hrun,⟨A,c,by rw [XH];rfl⟩,Ext.refl _ _,?_⟩
  rw [List.append_nil]
  have hse:rs.set j (Ba e sz rows v)=rs:=by
   apply List.ext_getElem?
   intro i
   rw [List.getElem?_set]
   split
   · grind
   · rfl
  rw [hse];exact h
 ·
  rcases (h.hold _ (List.mem_of_getElem? hj)).1 with ⟨rfl,A,rfl⟩|⟨b,cap,sp,rfl,h2,h3,h4,h5⟩
  ·
   have h1:=h.blank hj
   obtain ⟨v',w',M',hrun,g1,g2,g3⟩:=Xn A (ty:=ty) ht hz hby Ev hzl hone hsz h1 (List.getElem?_set_self hjl) hu h0 QE QD
   rw [List.set_set] at g3
   have g4:=g3.Ce (r':=BG e sz ([]++rows') v') (List.getElem?_set_self hjl) rfl rfl (.inr (g3.hold _ (List.mem_of_getElem? (List.getElem?_set_self hjl))).1)
   rw [List.set_set] at g4
   have g5:=A7.SF g4 (List.getElem?_set_self hjl)
   rw [List.set_set] at g5
   exact ⟨v',w',M',hrun,by simpa using g1,g2,g5⟩
  ·
   have h6:=h.YG (r':=BG e sz rows (.slice (some ⟨b,0,none⟩) rows.length (cap+1))) hj (fun b hb=>hb) rfl (.inr ⟨b,cap+1,sp,rfl,h2,h3,h4,h5⟩)
   obtain ⟨v',w',M',hrun,g1,g2,g3⟩:=fE (ty:=ty) ht hz hby Ev hzl hone hsz h6 (List.getElem?_set_self hjl) hl hu h0 HF hfit
   rw [List.set_set] at g3
   have g5:=A7.SF g3 (List.getElem?_set_self hjl)
   rw [List.set_set] at g5
   exact ⟨v',w',M',hrun,g1,g2,g5⟩
theorem Hr {y:Operand} {sz' sz bytes d:Nat} (hg:o.guard=none) (hd:o.dst=some d) (hn:d<n) (ho:o.op= .call { callee:= .builtin .append,args:= #[x,y],argTypes:= #[t,t] }) (ht:P.underlying t=some (.slice e)) (hz:A9 P e=some sz) (hby:B1 P e=some bytes) (Ev:BZ P e=some zs) (hzl:zs.length=sz) (hone:zs.all (·.oneCell')=true) (hsz:0<sz) (hx:VL E x (full sz' [])) (hy:VL E y (slice sz rows)) (HF:rows.length≤maxLen) (hfit:rows.length*bytes≤140737488355328):DH P M0 w0 S n j (SR.c Bf) ⟨d,Ba e sz rows⟩ o E (lens rows.length):=by
 refine ⟨hg,fun M w a rs VM he hI hj=> ?_⟩
 have h2:=hy.ev he DG
 obtain ⟨_,A,h1⟩:=hx.ev he DG
 simp only [List.length_nil] at h1
 have hj':rs[j]? =some Bf:=hj
 have hjl:=BH hj'
 have h3:=hI.YG (r':=Ba e sz [] (.slice A 0 0)) hj' (fun b hb=>by cases A<;>cases hb) rfl (.inl ⟨rfl,A,rfl⟩)
 obtain ⟨v',w',M',hrun,g1,g2,g3⟩:=gN (ty:=o.type) ht hz hby Ev hzl hone hsz h3 (List.getElem?_set_self hjl) (fun r hr=>by cases hr) h2 QE QD
 rw [List.set_set] at g3
 have Ee:(execOp a.eval o).run P w= .ok (.value v') w':=by simp [execOp,ho,resolve,invoke,builtin,h1,hrun]
 rw [Ee]
 refine ⟨M',by simpa using g1,g2,?_⟩
 have:(SR.at_ (a.put o.dst v') ⟨d,Ba e sz rows⟩)=Ba e sz rows v':=by unfold SR.at_ Slot.val;dsimp only;rw [hd,Bz H6]
 rw [this];exact g3
end
section
variable {P:Program} {L:Lg P} {n:Fm} {E:Env} {M0:Av} {w0:World} {S:Nat→Prop} {rs:List At} {o:Oper} {Q:Exit→Act→World→Prop} {c:Code} {r:List Oper} {ops:Array Oper}
def UpR (r:At):Prop:=∀M M2 w,(∀b o,M b o→M2 b o)→r.h M w→r.h M2 w
def AFa (ps:List Pr):Prop:=∀p∈ps,KG p
theorem HL.free {cs:List Value} {M2:Av} {w:World} (hf:AFa ps) (h:HL M w ps cs):HL M2 w ps cs:=
 UH h.length fun k p hk=>by
  obtain ⟨u,hu,hpu⟩:=h.at_ k p hk
  exact ⟨u,hu,(hf p (List.mem_of_getElem? hk)).free _ _ _ _ hpu⟩
theorem TO.perm (hp:rs.Perm rs') (k:TO P n ops r E (Hp M0 w0 S rs') Q):TO P n ops r E (Hp M0 w0 S rs) Q:=TO.conv (fun _ _ hs=>hs.perm hp) k
end
section
variable {P:Program} {L:Lg P} {n:Fm} {E:Env} {M0:Av} {w0:World} {S:Nat→Prop} {rs:List At} {o:Oper} {Q:Exit→Act→World→Prop} {c:Code} {r:List Oper} {ops:Array Oper}
instance AFb:KG any:=⟨fun _ _ _ _ _=>trivial⟩
instance AA5 (v:Value) (p:Pr) [h9:KG p]:KG (AV v p):=⟨fun _ _ _ _ h=>⟨h.1,h9.free _ _ _ _ h.2⟩⟩
def zE (w:World) (q:At):At:=⟨q.blk,q.new,fun _ w'=>∀b,q.blk=some b→w'.heap[b]? =w.heap[b]?,fun _ _ _ _ _ hk h b hb=>(hk b hb).1.trans (h b hb)⟩
theorem rG {us bs:List At} (h:us.map (·.blk)=bs.map (·.blk)) (k:us.Pairwise fun r r':At=>∀b,r.blk=some b→r'.blk≠some b):bs.Pairwise fun r r':At=>∀b,r.blk=some b→r'.blk≠some b:=by
 have e1:∀l:List At,(l.Pairwise fun r r':At=>∀b,r.blk=some b→r'.blk≠some b)↔(l.map (·.blk)).Pairwise fun p q:Option Nat=>∀b,p=some b→q≠some b:=fun l=>by rw [List.pairwise_map]
 rw [e1] at k ⊢
 rw [←h];exact k
theorem A7.AKF {α:Type} {C:α→Prop} {post rH:α→List At} {res res2:α→Pr} {w:World} {vs:List Value} (hf:Ef P f ps [] C res post) (hI:A7 M0 w0 S rs M w) (hn:rs.all (·.new)=true) (hpost:∀x M0 w0 S rs M w,A7 M0 w0 S (post x++rs) M w→A7 M0 w0 S (rH x++rs) M w) (AIv:∀x,∀q∈rH x,UpR q) (hres:∀x M M2 w u,(res x).h M w u→(res2 x).h M2 w u) (hv:∀M1,Ext M w M1 w→(∀b o,M1 b o→∀q∈rs,q.blk≠some b)→HL M1 w ps vs):
  Calls P f vs.toArray w fun e' w'=>∃u M' x,e'= .returned u∧C x∧(res2 x).h M' w' u∧Ext M w M' w'∧A7 M0 w0 S (rH x++rs) M' w':=by
 have hb:∀q∈rs,∀b,q.blk=some b→b<w.heap.size∧w0.heap.size≤b:=fun q hq b hb=>by
  obtain ⟨h1,h2⟩:=(hI.hold q hq).2 b hb
  rw [if_pos (List.all_eq_true.1 hn q hq)] at h2
  exact ⟨h1,h2⟩
 have he:Ext M w (fun b o=>M b o∧∀q∈rs,q.blk≠some b) w:=Ext.less fun _ _ h=>h.1
 have hI1:A7 M0 w0 S (rs.map (zE w)) (fun b o=>M b o∧∀q∈rs,q.blk≠some b) w:=by
  refine ⟨hI.m0,fun b o hm=>⟨hI.m b o hm,fun q hq e1=>by have h1:=hI.m0 b o hm;have h2:=(hb q hq b e1).2;omega⟩,hI.os,hI.tape,hI.output,hI.size,hI.block,fun b o hm=>hI.bd b o hm.1,fun q hq=> ?_,?_⟩
  ·
   rw [List.mem_map] at hq
   obtain ⟨q,hq,rfl⟩:=hq
   exact ⟨fun _ _=>rfl,(hI.hold q hq).2⟩
  · exact rG (by rw [List.map_map];rfl) hI.nd
 refine (hf.2 M0 w0 S (rs.map (zE w)) _ w vs hI1 (hv _ he fun _ _ h=>h.2)).mono ?_
 rintro e' w' ⟨u,M',x,rfl,hC,h2,h3,h4⟩
 have h5:=hpost x _ _ _ _ _ _ h4
 have AIw:∀q∈rs,∀b,q.blk=some b→w'.heap[b]? =w.heap[b]? :=fun q hq=>(h5.hold _ (List.mem_append_right _ (List.mem_map_of_mem hq))).1
 have hE:Ext M w (fun b o=>M' b o∨(M b o∧∃q∈rs,q.blk=some b)) w':=⟨h3.size,fun a q hc hm=>by
  obtain ⟨k1,k2⟩:=h3.keep a q hc (fun h=>hm h.1)
  exact ⟨fun h=>h.elim k1 fun h=>hm h.1,k2⟩,fun b x ho hp hm=>by
  obtain ⟨k1,k2⟩:=h3.obj b x ho hp (fun h=>hm h.1)
  exact ⟨fun h=>h.elim k1 fun h=>hm h.1,k2⟩⟩
 refine ⟨u,_,x,rfl,hC,hres x _ _ _ _ h2,hE,⟨h5.m0,fun b o hm=> .inl (h5.m b o hm),h5.os,h5.tape,h5.output,h5.size,h5.block,fun b o hm=> ?_,fun q hq=> ?_,?_⟩⟩
 ·
  rcases hm with hm|⟨hm,_⟩
  · exact h5.bd b o hm
  · grind
 ·
  rcases List.mem_append.1 hq with hq|hq
  ·
   obtain ⟨k1,k2⟩:=h5.hold q (List.mem_append_left _ hq)
   exact ⟨AIv x q hq _ _ _ (fun _ _ h=> .inl h) k1,k2⟩
  ·
   refine ⟨q.st _ _ _ _ hE (fun b hb=>⟨AIw q hq b hb,fun o hm=> .inr ⟨hm,q,hq,hb⟩⟩) (hI.hold q hq).1,fun b hb=> ?_⟩
   obtain ⟨k1,k2⟩:=(hI.hold q hq).2 b hb
   exact ⟨Nat.lt_of_lt_of_le k1 h3.size,k2⟩
 · exact rG (by rw [List.map_append,List.map_append,List.map_map];rfl) h5.nd
end
section
variable {P:Program} {I:C1} {E:Env} {o:Oper}
abbrev u32 (b:BitVec 32):Pr:=is (.int .u32 (b.toNat:Int))
theorem gO (n:Int):IntKind.u32.wrap n=n % 4294967296:=by simp [IntKind.wrap,IntKind.signed,IntKind.bits]
theorem Qo (b:BitVec 32):IntKind.u32.wrap (b.toNat:Int)=(b.toNat:Int):=by rw [gO];have:=b.isLt;omega
theorem AA6 (b:BitVec 32) (i:Nat):IntKind.u32.wrap ((b.toNat:Int)*2 ^ (min i 32))=((b<<<i).toNat:Int):=by
 rw [gO,BitVec.toNat_shiftLeft,Nat.shiftLeft_eq]
 have e1:((b.toNat:Int)*2 ^ (min i 32))=((b.toNat*2 ^ (min i 32):Nat):Int):=by rw [Int.natCast_mul,Int.natCast_pow];rfl
 rw [e1]
 rcases Nat.le_total i 32 with h|h
 · rw [Nat.min_eq_left h];generalize b.toNat*2 ^ i=n;show ((n:Int) % 4294967296)=((n % 4294967296:Nat):Int);omega
 ·
  rw [Nat.min_eq_right h]
  obtain ⟨k,rfl⟩:=Nat.exists_eq_add_of_le h
  have h1:b.toNat*2 ^ 32 % 4294967296=0:=by rw [show (4294967296:Nat)=2 ^ 32 from rfl];exact Nat.mul_mod_left _ _
  have h2:b.toNat*2 ^ (32+k) % 2 ^ 32=0:=by rw [Nat.pow_add,←Nat.mul_assoc,Nat.mul_right_comm];exact Nat.mul_mod_left _ _
  rw [h2];generalize b.toNat*2 ^ 32=n at h1 ⊢;omega
theorem rI (b:BitVec 32) (i:Nat):(b.toNat:Int).fdiv (2 ^ (min i 32))=((b>>>i).toNat:Int):=by
 rw [BitVec.toNat_ushiftRight,Nat.shiftRight_eq_div_pow]
 have e1:(2:Int) ^ (min i 32)=((2 ^ (min i 32):Nat):Int):=by rw [Int.natCast_pow];rfl
 rw [e1,Int.fdiv_eq_ediv_of_nonneg _ (by exact Int.natCast_nonneg _)]
 rcases Nat.le_total i 32 with h|h
 · rw [Nat.min_eq_left h];norm_cast
 ·
  rw [Nat.min_eq_right h]
  have h3:=b.isLt
  have h1:b.toNat/2 ^ 32=0:=Nat.div_eq_of_lt h3
  have h2:b.toNat/2 ^ i=0:=Nat.div_eq_of_lt (Nat.lt_of_lt_of_le h3 (Nat.pow_le_pow_right AA h))
  rw [h2,←h1];norm_cast
theorem JB {u:TypeId} {y:Operand} {b:BitVec 32} {i:Int} (ho:o.op= .binOp .shl t x y u) (hx:VL E x (u32 b)) (hy:VL E y (int i)) (hi:0≤i):Ac P I o E (u32 (b<<<i.toNat)):=
 Ac.same fun M w a he _=>by
  have h1:a.eval x= .int .u32 b.toNat:=hx.ev he Au
  have h2:a.eval y= .int .i64 i:=hy.ev he Au
  refine ⟨.int .u32 ((b<<<i.toNat).toNat:Int),?_,rfl⟩
  rw [←AA6]
  simp [execOp,ho,h1,h2,eqGuard,binOp,Op.shift,show ¬i<0 by omega,IntKind.bits]
theorem rJ {u:TypeId} {y:Operand} {b:BitVec 32} {i:Int} (ho:o.op= .binOp .shr t x y u) (hx:VL E x (u32 b)) (hy:VL E y (int i)) (hi:0≤i):Ac P I o E (u32 (b>>>i.toNat)):=
 Ac.same fun M w a he _=>by
  have h1:a.eval x= .int .u32 b.toNat:=hx.ev he Au
  have h2:a.eval y= .int .i64 i:=hy.ev he Au
  refine ⟨.int .u32 ((b>>>i.toNat).toNat:Int),?_,rfl⟩
  rw [←rI]
  simp [execOp,ho,h1,h2,eqGuard,binOp,Op.shift,show ¬i<0 by omega,IntKind.bits]
theorem YR (b:BitVec 32):BitVec.ofInt 32 (b.toNat:Int)=b:=by grind
theorem Sb {u:TypeId} {y:Operand} {b c:BitVec 32} {op:BinOp} {f:BitVec 32→BitVec 32→BitVec 32} (ho:o.op= .binOp op t x y u) (hx:VL E x (u32 b)) (hy:VL E y (u32 c)) (hf:(op= .and∧f=fun b c=>b&&&c)∨(op= .or∧f=fun b c=>b|||c)∨(op= .andNot∧f=fun b c=>b&&&~~~c)∨(op= .xor∧f=fun b c=>b ^^^ c)):Ac P I o E (u32 (f b c)):=
 Ac.same fun M w a he _=>by
  have h1:a.eval x= .int .u32 b.toNat:=hx.ev he Au
  have h2:a.eval y= .int .u32 c.toNat:=hy.ev he Au
  refine ⟨.int .u32 ((f b c).toNat:Int),?_,rfl⟩
  have e1:=YR b
  have e2:=YR c
  rcases hf with ⟨rfl,rfl⟩|⟨rfl,rfl⟩|⟨rfl,rfl⟩|⟨rfl,rfl⟩
  · have e3:=Qo (b&&&c);simp [execOp,ho,h1,h2,eqGuard,binOp,Op.intBits,IntKind.bits,e1,e2] at e3 ⊢;exact e3
  · have e3:=Qo (b|||c);simp [execOp,ho,h1,h2,eqGuard,binOp,Op.intBits,IntKind.bits,e1,e2] at e3 ⊢;exact e3
  · have e3:=Qo (b&&&~~~c);simp [execOp,ho,h1,h2,eqGuard,binOp,Op.intBits,IntKind.bits,e1,e2];exact e3.trans AO
  · have e3:=Qo (b ^^^ c);simp [execOp,ho,h1,h2,eqGuard,binOp,Op.intBits,IntKind.bits,e1,e2] at e3 ⊢;exact e3
theorem Sc {u:TypeId} {y:Operand} {b c:BitVec 32} (ho:o.op= .binOp .and t x y u) (hx:VL E x (u32 b)) (hy:VL E y (u32 c)):Ac P I o E (u32 (b&&&c)):=Sb ho hx hy (.inl ⟨rfl,rfl⟩)
theorem Lf {u:TypeId} {y:Operand} {b c:BitVec 32} (ho:o.op= .binOp .or t x y u) (hx:VL E x (u32 b)) (hy:VL E y (u32 c)):Ac P I o E (u32 (b|||c)):=Sb ho hx hy (.inr (.inl ⟨rfl,rfl⟩))
theorem K1 {u:TypeId} {y:Operand} {b c:BitVec 32} (ho:o.op= .binOp .andNot t x y u) (hx:VL E x (u32 b)) (hy:VL E y (u32 c)):Ac P I o E (u32 (b&&&~~~c)):=Sb (f:=fun b c=>b&&&~~~c) ho hx hy (.inr (.inr (.inl ⟨rfl,rfl⟩)))
theorem Mz:Pr.le (is (.int .u32 0)) (u32 0#32):=fun _ _ _ h=>h
theorem gP (b:BitVec 32):(((b.toNat:Int)==0)=(b==0#32)):=by
 rw [Bool.eq_iff_iff,beq_iff_eq,beq_iff_eq]
 constructor
 · intro h;apply BitVec.eq_of_toNat_eq;simp;omega
 · rintro rfl;rfl
theorem AA7 (b:BitVec 32) (i:Nat):((((b>>>i)&&&1#32).toNat:Int)==1)=b.getLsbD i:=by
 rw [Bool.eq_iff_iff,beq_iff_eq]
 have h1:((b>>>i)&&&1#32).toNat=(b.toNat>>>i) % 2:=by
  rw [BitVec.toNat_and,BitVec.toNat_ushiftRight];exact Nat.and_one_is_mod _
 rw [h1]
 unfold BitVec.getLsbD
 rw [Nat.testBit,Nat.and_comm,Nat.and_one_is_mod]
 constructor
 ·
  intro h;have:(b.toNat>>>i) % 2=1:=by omega
  rw [this];rfl
 ·
  intro h
  rcases Nat.mod_two_eq_zero_or_one (b.toNat>>>i) with h2|h2
  · rw [h2] at h;cases h
  · omega
end
end Cp
namespace Go.Proofs.YtmocaapoeefgkaaGreatDoor
open Go Go.RowKit Cp Go.Proofs.Tryz
-- sets of bits, AHD
variable {B:List (BitVec 32)} {d:List Int} {i j k n:Nat}
def KI (b:BitVec 32):Nat:=((List.range 32).find? fun i=>b.getLsbD i).getD 32
def JC (b:BitVec 32):List Nat:=(List.range 32).filter fun i=>b.getLsbD i
def j7 (b:BitVec 32) (i:Nat):BitVec 32:=b&&&~~~(1#32<<<i)
def XI (b:BitVec 32) (i:Nat):BitVec 32:=b|||(1#32<<<i)
theorem bE (i j:Nat):(1#32<<<i).getLsbD j=(decide (i=j)&&decide (j<32)):=by grind
theorem Sd {b:BitVec 32} (hi:i<32):(XI b i).getLsbD j=(b.getLsbD j||decide (i=j)):=by grind [XI,bE]
theorem w_ {b:BitVec 32}:(j7 b i).getLsbD j=(b.getLsbD j&& !decide (i=j)):=by grind [j7,bE]
theorem YS {α:Type} [DecidableEq α] {p:α→Bool} {x:α}:∀{l:List α},l.Nodup→l.find? p=some x→l.filter p=x::l.filter (fun y=>p y&& !(decide (x=y):Bool)):=by
 intro l
 induction l with
 |nil=>intro _ h;cases h
 |cons a l ih=>
  intro hn h
  obtain ⟨ha,hn⟩:=List.nodup_cons.1 hn
  rw [List.find?_cons] at h
  cases hp:p a with
  |true=>
   rw [hp] at h
   simp at h
   subst h
   rw [List.filter_cons,hp,List.filter_cons]
   simp [hp]
   exact List.filter_congr fun y hy=>by
    have:¬a=y:=fun e=>ha (e ▸ hy)
    simp [this]
  |false=>
   rw [hp] at h
   simp at h
   rw [List.filter_cons,hp,List.filter_cons,hp]
   simp
   exact ih hn EJ
theorem Wb {b:BitVec 32} (h:∀i,i<32→b.getLsbD i=false):b=0#32:=BitVec.eq_of_getLsbD_eq fun i hi=>by rw [h i hi];simp
theorem rK:JC 0#32=[]:=by decide
theorem Se {b:BitVec 32} (h:b≠0#32):(List.range 32).find? (fun i=>b.getLsbD i)=some (KI b):=by
 unfold KI
 cases hf:(List.range 32).find? (fun i=>b.getLsbD i) with
 |some x=>rfl
 |none=>
  rw [List.find?_eq_none] at hf
  exact absurd (Wb fun i hi=>by simpa using hf i (List.mem_range.2 hi)) h
theorem rL {b:BitVec 32} (h:b≠0#32):b.getLsbD (KI b)=true:=by simpa using List.find?_some (Se h)
theorem bF {b:BitVec 32} (h:b≠0#32):KI b<32:=List.mem_range.1 (List.mem_of_find?_eq_some (Se h))
theorem Sf {b:BitVec 32} (h:b≠0#32):JC b=KI b::JC (j7 b (KI b)):=by
 unfold JC
 rw [YS List.nodup_range (Se h)]
 congr 1
 exact List.filter_congr fun y _=>by rw [w_]
theorem F_ {b:BitVec 32}:i∈JC b↔b.getLsbD i=true:=by grind [JC]
theorem gQ {b:BitVec 32} (h:b.getLsbD i=true):KI b≤i:=by
 have hb:b≠0#32:=fun e=>by rw [e] at h;simp at h
 have h1:i∈JC b:=F_.2 h
 rw [Sf hb] at h1
 rcases List.mem_cons.1 h1 with h2|h2
 · omega
 ·
  have h3:(JC b).Pairwise (· < ·):=List.Pairwise.filter _ List.pairwise_lt_range
  rw [Sf hb] at h3
  exact Nat.le_of_lt ((List.pairwise_cons.1 h3).1 i h2)
theorem j8 {b:BitVec 32} (h:b≠0#32):b&&&(-b)=1#32<<<(KI b):=by
 apply BitVec.eq_of_getLsbD_eq
 intro i hi
 rw [BitVec.getLsbD_and,BitVec.getLsbD_neg,bE]
 by_cases h1:KI b=i
 ·
  subst h1
  have:¬∃j,j<KI b∧b.getLsbD j=true:=fun ⟨j,hj,hb⟩=>by have:=gQ hb;omega
  simp [hi,rL h,this]
 ·
  by_cases h2:KI b<i
  ·
   have:∃j,j<i∧b.getLsbD j=true:=⟨_,h2,rL h⟩
   simp [this,h1,hi]
  ·
   have:b.getLsbD i=false:=by
    cases hb:b.getLsbD i with
    |false=>rfl
    |true=>have:=gQ hb;omega
   simp [this,h1]
def YT:List Nat:=[0,1,28,2,29,14,24,3,30,22,20,15,25,17,4,8,31,27,13,23,21,19,16,7,26,12,18,6,11,5,10,9]
theorem xA:∀i,i<32→YT[(((1#32<<<i)*125613361#32)>>>27).toNat]? =some i:=by decide
-- rows of bits as a relation (to stand behind Rq.lean and Bit.lean)
def D_ (n:Nat) (B:List (BitVec 32)) (M:Nat→Nat→Bool):Prop:=B.length=n∧∀b x,B[b]? =some x→∀a,x.getLsbD a=(decide (a<n)&&M a b)
theorem Gv {M N:Nat→Nat→Bool} (h:D_ n B M) (k:∀a b,a<n→b<n→M a b=N a b):D_ n B N:=by
 refine ⟨h.1,fun b x hx a=> ?_⟩
 rw [h.2 b x hx a]
 have hb:b<n:=by rw [←h.1];rcases Nat.lt_or_ge b B.length with h2|h2;exact h2;rw [List.getElem?_eq_none h2] at hx;cases hx
 by_cases ha:a<n
 · rw [k a b ha hb]
 · simp [ha]
theorem Sg (n:Nat):D_ n (List.replicate n 0#32) (fun _ _=>false):=by
 refine ⟨List.length_replicate,fun b x hx a=> ?_⟩
 have:=List.eq_of_mem_replicate (List.mem_of_getElem? hx)
 subst this;simp
theorem Uf {M N:Nat→Nat→Bool} (h:D_ n B M) {t:Nat} {y:BitVec 32} (ho:∀a b,b≠t→N a b=M a b) (hy:∀a,y.getLsbD a=(decide (a<n)&&N a t)):D_ n (B.set t y) N:=by
 refine ⟨by rw [List.length_set];exact h.1,fun b x hx a=> ?_⟩
 rw [List.getElem?_set] at hx
 split at hx
 · grind
 ·
  rename_i e
  rw [h.2 b x hx a,ho a b (fun e2=>e e2.symm)]
theorem YU {M:Nat→Nat→Bool} (h:D_ n B M) {t f:Nat} {x:BitVec 32} (hx:B[t]? =some x) (hf:f<n) (hn:n≤32):D_ n (B.set t (XI x f)) (fun a b=>M a b||(decide (f=a)&&decide (t=b))):=by
 refine Uf h (fun a b hb=> ?_) (fun a=> ?_)
 · grind
 ·
  rw [Sd AA,h.2 t x hx a]
  by_cases ha:a<n
  · simp [ha]
  · grind
def Lv (k:Nat) (m:Nat→Nat→Bool) (i a b:Nat):Bool:=if b<i then Kz k m a b else m a b
theorem AA8 (k:Nat) (m:Nat→Nat→Bool):Lv k m 0=m:=by funext a b;unfold Lv;rw [if_neg AA]
theorem rM {m:Nat→Nat→Bool} {a b:Nat} (hb:b<n):Lv k m n a b=Kz k m a b:=by unfold Lv;rw [if_pos hb]
theorem rN (k:Nat) (m:Nat→Nat→Bool) (i a:Nat):Lv k m i a k=m a k:=by unfold Lv;split;exact YL k m a;rfl
theorem YV {m:Nat→Nat→Bool} {x:BitVec 32} (h:D_ n B (Lv k m i)) (hx:B[i]? =some x) (hk:k<n):x.getLsbD k=m k i:=by
 rw [h.2 i x hx k];unfold Lv;rw [if_neg AA];simp [hk]
theorem rO {m:Nat→Nat→Bool} {x y:BitVec 32} (h:D_ n B (Lv k m i)) (hx:B[i]? =some x) (hy:B[k]? =some y) (hm:m k i=true):D_ n (B.set i (x|||y)) (Lv k m (i+1)):=by
 refine Uf h (fun a b hb=> ?_) (fun a=> ?_)
 ·
  unfold Lv
  by_cases h1:b<i
  · grind
  · grind
 ·
  rw [BitVec.getLsbD_or,h.2 i x hx a,h.2 k y hy a,rN]
  unfold Lv
  rw [if_neg AA,if_pos AA]
  unfold Kz
  rw [hm]
  cases decide (a<n)<;>simp
theorem xB {m:Nat→Nat→Bool} (h:D_ n B (Lv k m i)) (hm:m k i=false):D_ n B (Lv k m (i+1)):=by unfold Lv Kz at*;grind
structure AFc (n:Nat) (l:List BM) (B A:List (BitVec 32)):Prop where
 bef:D_ n B (DU l n)
 aft:D_ n A (fun b a=>DU l n a b)
theorem Fj {l:List BM} {s:List Int} (h:CK l s=true):∀(k:Nat) {a b:Nat},DU l k a b=true→(b:Int)∈s→(a:Int)∈s
 |0,a,b,hw,hb=>by
  unfold DU GI at hw
  rw [List.any_eq_true] at hw
  obtain ⟨r,hr,h2⟩:=hw
  simp at h2
  have:=Cl.1 h r hr (by rw [h2.2];exact hb)
  rw [h2.1] at this;exact this
 |k+1,a,b,hw,hb=>by
  have hw:Kz k (DU l k) a b=true:=hw
  unfold Kz at hw
  rw [Bool.or_eq_true,Bool.and_eq_true] at hw
  rcases hw with hw|⟨h1,h2⟩
  · exact Fj h k hw hb
  · exact Fj h k h1 (Fj h k h2 hb)
def L7 (n:Nat) (s:BitVec 32) (d:List Int):Prop:=∀i:Nat,s.getLsbD i=true↔(i:Int)∈d
theorem Sh {x s:BitVec 32}:(x&&&~~~s=0#32)↔∀i,x.getLsbD i=true→s.getLsbD i=true:=by
 constructor
 ·
  intro h i hi
  have h2:=congrArg (fun y=>BitVec.getLsbD y i) h
  have hlt:i<32:=by grind
  simp [hi,hlt] at h2
  exact h2
 ·
  intro h
  refine Wb fun i hi=> ?_
  rw [BitVec.getLsbD_and,BitVec.getLsbD_not]
  cases hx:x.getLsbD i with
  |false=>simp
  |true=>rw [h i hx];simp
theorem xC {n:Int} {l:List BM} {s x:BitVec 32} (hv:BD n l=0) (hB:D_ n.toNat B (DU l n.toNat)) (hs:L7 n.toNat s d) (hc:CK l d=true) (hx:B[i]? =some x) (hi:i<n.toNat):
  Jm l d true i=(!s.getLsbD i&&(x&&&~~~s==0#32)):=by
 obtain ⟨h0,h1,h2,h3⟩:=Cm hv
 rw [Bool.eq_iff_iff]
 unfold Jm
 have e1:(G6 d (i:Int) !=true)= !s.getLsbD i:=by
  cases hg:s.getLsbD i with
  |true=>have:=(hs i).1 hg;rw [Dr.2 this];rfl
  |false=>
   have:¬(i:Int)∈d:=fun e=>by have:=(hs i).2 e;rw [hg] at this;cases this
   have h4:G6 d (i:Int)=false:=by cases h5:G6 d (i:Int) with|false=>rfl|true=>exact absurd (Dr.1 h5) this
   rw [h4];rfl
 rw [e1,Bool.and_eq_true,Bool.and_eq_true,beq_iff_eq,Sh]
 refine and_congr_right fun hni=> ?_
 constructor
 ·
  intro XX a ha
  rw [hB.2 i x hx a,Bool.and_eq_true,decide_eq_true_eq] at ha
  have:=Fj XX _ ha.2 (Dj.2 (.inl rfl))
  rcases Dj.1 this with h5|h5
  · grind
  · exact (hs a).2 h5
 ·
  intro h
  rw [Cl]
  intro r hr hm
  rcases Dj.1 hm with h5|h5
  ·
   have hb:=h1 r hr
   unfold Ft at hb
   rw [decide_eq_false_iff_not] at hb
   refine Dj.2 (.inr ?_)
   have h6:=(hs r.fst.toNat).1 (h r.fst.toNat (by
    rw [hB.2 i x hx,Bool.and_eq_true,decide_eq_true_eq]
    refine ⟨by omega,I9 ?_ _⟩
    unfold GI
    rw [List.any_eq_true]
    exact ⟨r,hr,by simp;omega⟩))
   rw [Int.toNat_of_nonneg AA] at h6
   exact h6
  · exact Dj.2 (.inr (Cl.1 hc r hr h5))
-- AJt, list, by bits (behind AFc.lean)
theorem gR (n:Nat):∀m,(List.range m).filter (fun j=>decide (j<n))=List.range (min n m)
 |0=>by simp
 |m+1=>by
  rw [List.range_succ,List.filter_append,gR n m]
  by_cases h:m<n
  ·
   rw [Nat.min_eq_right AA,Nat.min_eq_right AA,List.range_succ]
   simp [h]
  ·
   rw [Nat.min_eq_left AA,Nat.min_eq_left AA]
   simp [h]
theorem rP {x:BitVec 32} {p:Nat→Bool} (h:∀j,x.getLsbD j=(decide (j<n)&&p j)) (hn:n≤32):JC x=(List.range n).filter p:=by
 unfold JC
 rw [List.filter_congr (q:=fun j=>decide (j<n)&&p j) (fun j _=>h j)]
 rw [show (fun j=>decide (j<n)&&p j)=fun j=>p j&&decide (j<n) from by funext j;rw [Bool.and_comm]]
 rw [←List.filter_filter,gR,Nat.min_eq_left hn]
theorem AA9 {n:Int} {l:List BM} {out:BitVec 32} (h:∀j,out.getLsbD j=(decide (j<n.toNat)&&Jm l d true j)) (hn:n.toNat≤32):D3 n.toNat l d true=(JC out).map fun i:Nat=>(i:Int):=by
 unfold D3;rw [rP h hn]
theorem xD (b:BitVec 32):(JC b).length≤32:=by grind [JC]
end Go.Proofs.YtmocaapoeefgkaaGreatDoor
namespace Cp
open Go Go.RowKit Go.Great
variable {f:FuncId} {ps:List Pr} {i:Nat} {x:Operand} {e t:TypeId}
abbrev mark (D:Nat):Deferred:={ target:= .collected D,args:= #[] }
abbrev YW (D:Nat):At:=BN D (.deferred (some []))
abbrev J9 (P:Program) (g:Func) (R:Ending→World→Prop):Exit→Act→World→Prop:=bodyPostM (D9 none) 0 P g R
section
variable {P:Program} {fz:Nat} {E:Env} {M0:Av} {w0:World} {S:Nat→Prop} {rs:List At} {g:Func} {R:Ending→World→Prop} {ds:List Deferred} {n:Fm} {c:Code}
theorem Fin.Si {D:Nat} (k:Fin ⟨fz,ds⟩ E (Hp M0 w0 S rs) (J9 P g R) .ret):Fin ⟨fz,mark D::ds⟩ E (Hp M0 w0 S (YW D::rs)) (J9 P g R) .ret:=by
 rintro a w ⟨M,h1,h2,h3,h4⟩
 have h4:A7 M0 w0 S (YW D::rs) M w:=h4
 have hD:w.heap[D]? =some (.deferred (some [])):=(h4.hold _ (List.mem_cons_self ..)).1.2
 obtain ⟨h5,h6⟩:=h4.putObj (j:=0) (.deferred none) rfl
 have h7:=k { a with defers:=ds } (w.putObj D (.deferred none)) ⟨M,h1,rfl,fun s q hq=>q.st _ _ _ _ _ h6 (h3 s q hq),A7.J0 h5⟩
 have h2:a.defers=mark D::ds:=h2
 show LeavesInM _ _ _ _ _ _ a.defers _ _
 rw [h2]
 exact ⟨(fun h=>by cases h),.inl ⟨D,_,rfl,run_takeDeferred hD,h7⟩⟩
theorem Fin.Sj (k:Fin ⟨fz,[]⟩ E (Hp M0 w0 S rs) (bodyPost P g R) .ret):Fin ⟨fz,[]⟩ E (Hp M0 w0 S rs) (J9 P g R) .ret:=by
 rintro a w h
 obtain ⟨h1,v,h2,h3⟩:=k a w h
 show LeavesInM _ _ _ _ _ _ a.defers _ _
 rw [h1]
 exact ⟨v,h2,h3⟩
theorem Fin.gS:∀{Ds:List Nat} {rs:List At},Fin ⟨fz,[]⟩ E (Hp M0 w0 S rs) (bodyPost P g R) .ret→Fin ⟨fz,Ds.map mark⟩ E (Hp M0 w0 S (Ds.map YW++rs)) (J9 P g R) .ret
 |[],_,k=>Fin.Sj k
 |_::_,_,k=>Fin.Si (Fin.gS k)
theorem Fin.AA_ {rs:List At} (k:Fin n E (Hp M0 w0 S rs) (J9 P g R) .ret):Fin n E (Hp M0 w0 S rs) (J9 P g R) .normal:=k
theorem PY {args:Array Value} {w:World} (hf:P.funcs[f]? =some g) (hb:g.body=some c) (h:c.wp P (J9 P g R) { tmps:=args++Array.replicate (g.ntmps-args.size) undef,defers:=[] } w):Calls P f args w R:=
 callsIn_wide.1 (callsIn_of_wp_marks (F:=D9 none) (n:=0) hf hb trivial (wpIn_wide.2 h))
variable {α:Type} {pre:List At} {C:α→Prop} {res:α→Pr} {post:α→List At} {M1:Av} {w1:World}
theorem Ef.ofM (hf : P.funcs[f]? = some g) (hb : g.body = some c) (hname : (g.name == "runtime.NumGoroutine") = false) (hlen : ps.length ≤ g.ntmps) (h : ∀ M0 w0 S rs M1 w1, Tr (ZK P) g.ntmps (MJ 0 ps) (Hp M0 w0 S (pre ++ Ai M1 w1 :: rs)) c (J9 P g (PM M0 w0 S rs M1 w1 C res post))) : Ef P f ps pre C res post := by
 refine ⟨⟨g,hf,hname,by rw [hb];rfl⟩,fun M0 w0 S rs M w vs hI hv=> ?_⟩
 refine PY hf hb (h M0 w0 S rs M w _ _ ⟨M,?_,rfl,GL hv,?_⟩)
 ·
  have:=hv.length
  simp [this];omega
 · exact Zs
end
def bG (g:Nat) (Hv:List Nat):At where
 blk:=none
 new:=true
 h M w:=∀(j:Nat) (x:Nat),Hv[j]? =some x→w.cell? ⟨g,j,none⟩=some (.int .u8 (x:Int))∧¬M g j
 st M w M' w' he _ h:=fun j x hx=>by
  obtain ⟨h1,h2⟩:=h j x hx
  obtain ⟨h3,h4⟩:=he.keep ⟨g,j,none⟩ _ h1 h2
  exact ⟨h4,h3⟩
def CT (p:Prop):At:=⟨none,true,fun _ _=>p,fun _ _ _ _ _ _ h=>h⟩
section
variable {P:Program} {L:Lg P} {n:Fm} {E:Env} {M0:Av} {w0:World} {S:Nat→Prop} {rs:List At} {o:Oper} {r:List Oper} {ops:Array Oper} {Q:Exit→Act→World→Prop} {c:Code}
theorem Tr.prop {p:Prop} (j:Nat) (hj:rs[j]? =some (CT p)) (k:p→Tr L n E (Hp M0 w0 S rs) c Q):Tr L n E (Hp M0 w0 S rs) c Q:=fun a w hs=>by
 obtain ⟨M,h1,h2,h3,h4⟩:=hs
 have h4:A7 M0 w0 S rs M w:=h4
 exact k (h4.hold _ (List.mem_of_getElem? hj)).1 a w ⟨M,h1,h2,h3,h4⟩
theorem Fin.gT {e:Exit} {p:Prop} (hp:p) (k:Fin n E (Hp M0 w0 S (CT p::rs)) Q e):Fin n E (Hp M0 w0 S rs) Q e:=fun a w hs=>by
 obtain ⟨M,h1,h2,h3,h4⟩:=hs
 have h4:A7 M0 w0 S rs M w:=h4
 exact k a w ⟨M,h1,h2,h3,A7.Im h4 (r:=CT p) rfl hp⟩
theorem Tr.gT {p:Prop} (hp:p) (k:Tr L n E (Hp M0 w0 S (CT p::rs)) c Q):Tr L n E (Hp M0 w0 S rs) c Q:=fun a w hs=>by
 obtain ⟨M,h1,h2,h3,h4⟩:=hs
 have h4:A7 M0 w0 S rs M w:=h4
 exact k a w ⟨M,h1,h2,h3,A7.Im h4 (r:=CT p) rfl hp⟩
theorem ABA {g j:Nat} {Hv:List Nat} {y:Nat} (ho:o.op= .load t x) (ht:En P t=true) (hx:VL E x (is (.pointer (some ⟨g,i,none⟩)))) (hy:Hv[i]? =some y):KW P M0 w0 S j (SR.c (bG g Hv)) o E (is (.int .u8 (y:Int))):=by
 intro M w a rs he hI hj
 have h0:a.eval x= .pointer (some ⟨g,i,none⟩):=hx.ev he Au
 have hj':rs[j]? =some (bG g Hv):=hj
 obtain ⟨h1,_⟩:=(hI.hold _ (List.mem_of_getElem? hj')).1 i y hy
 have hrun:(execOp a.eval o).run P w= .ok (.value (.int .u8 (y:Int))) w:=by simp [execOp,ho,h0,Instr.loadAt,Instr.sureAddr,loadVar,Em ht,h1]
 rw [hrun]
 exact ⟨rfl,Below.refl _ _⟩
end
section
variable {P:Program}
theorem Ns.of {gf:Nat} {lb:Array Value} {α:Type} {enc:α→Value} {xs:List α} {own:List α→List At} {g:Func} {c:Code} (hf:P.funcs[gf]? =some g) (hb:g.body=some c) (hlen:ps.length+1≤g.ntmps) (hps:∀M w,HL M w ps lb.toList) (h:∀(M0:Av) (w0:World) (S:Nat→Prop) (l:Nat) (β:Type) (R Rx:List α→β→List At) (M1:Av) (w1:World),
   (∀pre x d M w,(pre++[x])<+:xs→A7 M0 w0 S (own (pre++[x])++R pre d) M w→YieldAt (D9 none) 0 P l #[enc x] w fun e w'=>∃M' d',Ext M w M' w'∧
    ((e= .returned (.bool true)∧A7 M0 w0 S (own (pre++[x])++R (pre++[x]) d') M' w')∨(e= .returned (.bool false)∧A7 M0 w0 S (own (pre++[x])++Rx (pre++[x]) d') M' w')))→
   ∀ d, Tr (gM P none) g.ntmps (MJ 0 (is (.func (.yield l) #[] #[]) :: ps)) (Hp M0 w0 S (own [] ++ Ai M1 w1 :: R [] d)) c
    (J9 P g fun e w'=>(∃v,e= .returned v)∧∃M' d',Ext M1 w1 M' w'∧(A7 M0 w0 S (own xs++R xs d') M' w'∨∃pre,pre<+:xs∧A7 M0 w0 S (own pre++Rx pre d') M' w'))):Ns P gf lb enc xs own:=by
 intro M0 w0 S l β R Rx hy d M w hI
 refine callsIn_of_wp_marks (F:=D9 none) (n:=0) hf hb trivial (h M0 w0 S l β R Rx M w hy d _ _ ⟨M,?_,rfl,?_,?_⟩)
 ·
  have:=(hps M w).length
  simp at this ⊢;omega
 ·
  have h2:HL M w (is (.func (.yield l) #[] #[])::ps) ((.func (.yield l) #[] #[])::lb.toList):=⟨rfl,hps M w⟩
  have h3:=GL (m:=g.ntmps-(#[Value.func (.yield l) #[] #[]]++lb:Array Value).size) h2
  have e1:(Value.func (.yield l) #[] #[]::lb.toList).toArray= #[Value.func (.yield l) #[] #[]]++lb:=by apply Array.ext';simp
  rw [e1] at h3;exact h3
 · exact Zs
end
section
variable {P:Program} {I:C1} {E:Env} {o:Oper}
theorem bH {u:TypeId} {y:Operand} {b:BitVec 32} (ho:o.op= .binOp .eql t x y u) (hx:VL E x (u32 b)) (hy:VL E y (is (.int .u32 0))):Ac P I o E (bool (b==0#32)):=
 Ac.same fun M w a he _=>by
  have h1:a.eval x= .int .u32 b.toNat:=hx.ev he Au
  have h2:a.eval y= .int .u32 0:=hy.ev he Au
  refine ⟨.bool (b==0#32),?_,rfl⟩
  rw [←gP]
  simp [execOp,ho,h1,h2,eqGuard,binOp,Op.intCmp]
theorem rQ {u:TypeId} {y:Operand} {b:BitVec 32} (ho:o.op= .binOp .neq t x y u) (hx:VL E x (u32 b)) (hy:VL E y (is (.int .u32 0))):Ac P I o E (bool (!(b==0#32))):=
 Ac.same fun M w a he _=>by
  have h1:a.eval x= .int .u32 b.toNat:=hx.ev he Au
  have h2:a.eval y= .int .u32 0:=hy.ev he Au
  refine ⟨.bool (!(b==0#32)),?_,rfl⟩
  rw [←gP]
  simp [execOp,ho,h1,h2,eqGuard,binOp,Op.intCmp]
  rw [Bool.eq_iff_iff];simp
theorem ABB {u:TypeId} {y:Operand} {b:BitVec 32} (ho:o.op= .binOp .eql t x y u) (hx:VL E x (u32 ((b>>>i)&&&1#32))) (hy:VL E y (is (.int .u32 1))):Ac P I o E (bool (b.getLsbD i)):=
 Ac.same fun M w a he _=>by
  have h1:a.eval x= .int .u32 ((b>>>i)&&&1#32).toNat:=hx.ev he Au
  have h2:a.eval y= .int .u32 1:=hy.ev he Au
  refine ⟨.bool (b.getLsbD i),?_,rfl⟩
  rw [←AA7]
  simp [execOp,ho,h1,h2,eqGuard,binOp,Op.intCmp]
theorem rR {b:BitVec 32} (ho:o.op= .unOp .neg t x) (hx:VL E x (u32 b)):Ac P I o E (u32 (-b)):=
 Ac.same fun M w a he _=>by
  have h1:a.eval x= .int .u32 b.toNat:=hx.ev he Au
  refine ⟨.int .u32 ((-b).toNat:Int),?_,rfl⟩
  have e1:IntKind.u32.wrap (0-(b.toNat:Int))=((-b).toNat:Int):=by
   rw [gO,BitVec.toNat_neg];have:=b.isLt;omega
  rw [←e1]
  simp [execOp,ho,h1,Op.unary,Op.intArith]
theorem rS {u:TypeId} {y:Operand} {b c:BitVec 32} (ho:o.op= .binOp .mul t x y u) (hx:VL E x (u32 b)) (hy:VL E y (u32 c)):Ac P I o E (u32 (b*c)):=
 Ac.same fun M w a he _=>by
  have h1:a.eval x= .int .u32 b.toNat:=hx.ev he Au
  have h2:a.eval y= .int .u32 c.toNat:=hy.ev he Au
  refine ⟨.int .u32 ((b*c).toNat:Int),?_,rfl⟩
  have e1:IntKind.u32.wrap ((b.toNat:Int)*(c.toNat:Int))=((b*c).toNat:Int):=by
   rw [gO,BitVec.toNat_mul]
   have e2:(b.toNat:Int)*(c.toNat:Int)=((b.toNat*c.toNat:Nat):Int):=by rw [Int.natCast_mul]
   rw [e2]
   generalize b.toNat*c.toNat=n
   show ((n:Int) % 4294967296)=((n % 4294967296:Nat):Int)
   omega
  rw [←e1]
  simp [execOp,ho,h1,h2,eqGuard,binOp,Op.intArith]
theorem xE {u:TypeId} {y:Operand} {b:BitVec 32} {k:IntKind} {i:Int} (ho:o.op= .binOp .shr t x y u) (hx:VL E x (u32 b)) (hy:VL E y (is (.int k i))) (hi:0≤i):Ac P I o E (u32 (b>>>i.toNat)):=
 Ac.same fun M w a he _=>by
  have h1:a.eval x= .int .u32 b.toNat:=hx.ev he Au
  have h2:a.eval y= .int k i:=hy.ev he Au
  refine ⟨.int .u32 ((b>>>i.toNat).toNat:Int),?_,rfl⟩
  rw [←rI]
  simp [execOp,ho,h1,h2,eqGuard,binOp,Op.shift,show ¬i<0 by omega,IntKind.bits]
theorem bI {y:Operand} {k:IntKind} {i:Int} {g len:Nat} (ho:o.op= .indexAddr t x y) (ht:P.underlying t=some (.array len e)) (hz:A9 P e=some 1) (hx:VL E x (is (.pointer (some ⟨g,0,none⟩)))) (hy:VL E y (is (.int k i))) (h0:0≤i) (h1:i<len):
  Ac P I o E (is (.pointer (some ⟨g,i.toNat,none⟩))):=
 Ac.same fun M w a he _=>by
  have h2:a.eval x= .pointer (some ⟨g,0,none⟩):=hx.ev he Au
  have h3:a.eval y= .int k i:=hy.ev he Au
  refine ⟨.pointer (some ⟨g,i.toNat,none⟩),?_,rfl⟩
  simp [execOp,ho,h2,h3,Instr.indexAt,asIntOf,run_underlying ht,C7 hz,h0,h1,Instr.sureAddr,Addr.add]
  intro;omega
end
end Cp
namespace Go.Proofs.YtmocaapoeefgkaaGreatDoor
open Go Go.RowKit Cp Go.Proofs.Tryz
abbrev CE:At:=bG 0 YT
theorem V5 {b:BitVec 32} (h:b≠0#32):YT[(((((b&&& -b)*125613361#32)>>>27).toNat:Nat):Int).toNat]? =some (KI b):=by
 rw [Int.toNat_natCast,j8 h];exact xA _ (bF h)
theorem xF (b:BitVec 32):(((b>>>27).toNat:Nat):Int)<32:=by
 rw [BitVec.toNat_ushiftRight,Nat.shiftRight_eq_div_pow];have:=b.isLt;omega
theorem ABC {b:BitVec 32} (hb:b≠0#32):BP prog 152 [u32 b] (int ((KI b:Nat):Int)) (CE) (fun _=>CE):=by
 refine BP.of func152 rfl rfl Am fun M0 w0 S rs M1 w1=> ?_
 have Mu:=bF hb
 refine ac ?_
 refine Tr.seq (Tr.seq (Tr.Bt (cm rfl (co rfl (bH rfl vq vq) ?_))))
 refine ac ?_
 refine Tr.cn rfl ?_ ?_<;>intro h1 q1
 exfalso;exact hb Gb
 refine ac ?_
 refine ac ?_
 refine co rfl (rR rfl vq) (co rfl (Sc rfl vq vq) ?_)
 refine co rfl (rS (c:=125613361#32) rfl vq vq) ?_
 refine co rfl (xE rfl vq vq AB) (co rfl (bI rfl underlying255 OS vq vq (Int.natCast_nonneg _) (xF _)) (co rfl (CC 0 rfl (ABA rfl rfl vq (V5 hb))) ?_))
 refine co rfl (nK rfl underlying5 underlying3 vq NA) ?_
 refine ac ?_
 refine Tr.ret (Fin.EV rfl rfl ?_ (fun _ _ _ _=>rfl))
 · exact Lr
end Go.Proofs.YtmocaapoeefgkaaGreatDoor
namespace Cp
open Go Go.RowKit Go.Great
variable {a:Act} {ts:Array TypeId} {M:Av} {f:FuncId} {ps:List Pr} {rs rs':List At} {i j:Nat} {x:Operand} {p q:Pr} {R:At} {T e t:TypeId} {v:Value}
section
variable {P:Program} {Q:Exit→Act→World→Prop} {K:Act→World→Prop} {a:Act} {w:World} {o:Oper} {ops:Array Oper}
theorem Jp {rest:List Nat} (ho:ops[i]? =some o) (hg:o.guard=none) (h:o.wpIn (D9 none) 0 P a w (wpOpsIn (D9 none) 0 P ops Q rest) Q):wpOpsIn (D9 none) 0 P ops Q (i::rest) a w:=by
 unfold wpOpsIn;rw [ho];dsimp only;rw [if_pos (by simp [Region.wanted,hg])];exact h
theorem gU (ho:o.op= .move x) (k:K (a.put o.dst (a.eval x)) w):o.wpIn (D9 none) 0 P a w K Q:=
 gL (by unfold L6;rw [ho]) (fun _ _ h=>h) (by unfold Oper.wp;simp [execOp,ho];exact k)
theorem ABD {b:Bool} (ho:o.op= .unOp .not t x) (hx:a.eval x= .bool b) (k:K (a.put o.dst (.bool (!b))) w):o.wpIn (D9 none) 0 P a w K Q:=
 gL (by unfold L6;rw [ho]) (fun _ _ h=>h) (by unfold Oper.wp;simp [execOp,ho,hx,Op.unary];exact k)
theorem Tr.rT {n:Fm} {E:Env} {M0 M1:Av} {w0 w1:World} {S:Nat→Prop} {id t0 t3 d0 d1 d2 d3:Nat} {o0 o1 o2 o3:Oper} {ty:TypeId} {α β:Type} {l:Nat} {enc:α→Value} {xs:List α} {own:List α→List At} {R Rx:List α→β→List At} {pre:List α} {x:α} {d:β} (hy:∀pre x d M w,(pre++[x])<+:xs→A7 M0 w0 S (own (pre++[x])++R pre d) M w→YieldAt (D9 none) 0 P l #[enc x] w fun e w'=>∃M' d',Ext M w M' w'∧
    ((e= .returned (.bool true)∧A7 M0 w0 S (own (pre++[x])++R (pre++[x]) d') M' w')∨(e= .returned (.bool false)∧A7 M0 w0 S (own (pre++[x])++Rx (pre++[x]) d') M' w'))) (hpre:(pre++[x])<+:xs) (g0:o0.guard=none) (g1:o1.guard=none) (g2:o2.guard=none) (g3:o3.guard=none) (p0:o0.op= .move (.tmp t0)) (p1:o1.op= .move (.tmp t3)) (p2:o2.op= .call { callee:= .value (.tmp d0),args:= #[.tmp d1],argTypes:=ts }) (p3:o3.op= .unOp .not ty (.tmp d2)) (e0:o0.dst=some d0) (e1:o1.dst=some d1) (e2:o2.dst=some d2) (e3:o3.dst=some d3) (n0:d0<n) (n1:d1<n) (n2:d2<n) (n3:d3<n) (ne:d0≠d1∧t3≠d0) (h0:E.lookup t0=some (is (.func (.yield l) #[] #[]))) (h3:E.lookup t3=some (is (enc x))) (f0:E.lookup d0=none) (f1:E.lookup d1=none) (f2:E.lookup d2=none) (kT:∀d',Fin n ((d3,bool false)::E) (Hp M0 w0 S (own (pre++[x])++Ai M1 w1::R (pre++[x]) d')) Q .normal) (kF:∀d',Fin n ((d3,bool true)::E) (Hp M0 w0 S (own (pre++[x])++Ai M1 w1::Rx (pre++[x]) d')) Q .normal):
  Tr (gM P none) n E (Hp M0 w0 S (own (pre++[x])++Ai M1 w1::R pre d)) (.region id #[o0,o1,o2,o3] false) Q:=by
 rintro a w ⟨M,hsz,hdf,hE,hI⟩
 have hI:A7 M0 w0 S (own (pre++[x])++Ai M1 w1::R pre d) M w:=hI
 obtain ⟨hx,hI2⟩:=GR hI
 have eW:a.tmps.getD t0 undef= .func (.yield l) #[] #[]:=hE _ _ h0
 have hv3:a.tmps.getD t3 undef=enc x:=hE _ _ h3
 have fin:∀(b:Bool) (tl:List At) (w':World) (M':Av),Ext M w M' w'→A7 M0 w0 S (own (pre++[x])++tl) M' w'→
   St n ((d3,bool (!b))::E) (Hp M0 w0 S (own (pre++[x])++Ai M1 w1::tl)) ((((a.put (some d0) (.func (.yield l) #[] #[])).put (some d1) (enc x)).put (some d2) (.bool b)).put (some d3) (.bool (!b))) w':=by
  intro b tl w' M' he hh
  refine ⟨M',by simp only [CB];exact hsz,by simp only [put_defers];exact hdf,fun s q hq=> ?_,A7.perm List.perm_middle.symm (A7.Im hh (r:=Ai M1 w1) rfl (hx.trans he))⟩
  simp only [List.lookup] at hq
  by_cases hs:s=d3
  · subst hs;simp at hq;subst hq;rw [Bz (by simp only [CB];rw [hsz];exact n3)];rfl
  ·
   rw [show (s==d3)=false by simpa using hs] at hq
   have V9:s≠d2:=fun e=>by rw [e,f2] at hq;cases hq
   have hs1:s≠d1:=fun e=>by rw [e,f1] at hq;cases hq
   have hs0:s≠d0:=fun e=>by rw [e,f0] at hq;cases hq
   rw [BW hs,BW V9,BW hs1,BW hs0]
   exact q.st _ _ _ _ _ he (hE s q hq)
 refine wpIn_region ?_
 show wpOpsIn (D9 none) 0 P _ Q [0,1,2,3] a w
 refine Jp (o:=o0) rfl g0 (gU p0 ?_)
 refine Jp (o:=o1) rfl g1 (gU p1 ?_)
 rw [e0,e1]
 have k0:a.eval (.tmp t0)= .func (.yield l) #[] #[]:=eW
 have k3:(a.put (some d0) (a.eval (.tmp t0))).eval (.tmp t3)=enc x:=by
  show (a.put (some d0) _).tmps.getD t3 undef=_
  rw [BW ne.2];exact hv3
 rw [k3,k0]
 refine Jp (o:=o2) rfl g2 (rE (v:=enc x) p2 ?_ ?_ (hy pre x d M w hpre hI2) ?_)
 ·
  show (Act.put _ _ _).tmps.getD d0 undef=_
  rw [BW ne.1,Bz (by rw [hsz];exact n0)]
 ·
  show (Act.put _ _ _).tmps.getD d1 undef=_
  rw [Bz (by rw [CB,hsz];exact n1)]
 ·
  rintro e w' ⟨M',d',he,hh⟩
  have hnot:∀(b:Bool) (tl:List At),A7 M0 w0 S (own (pre++[x])++tl) M' w'→Fin n ((d3,bool (!b))::E) (Hp M0 w0 S (own (pre++[x])++Ai M1 w1::tl)) Q .normal→wpOpsIn (D9 none) 0 P #[o0,o1,o2,o3] Q [3] (((a.put (some d0) (.func (.yield l) #[] #[])).put (some d1) (enc x)).put o2.dst (.bool b)) w':=by
   intro b tl hh k
   rw [e2]
   refine Jp (o:=o3) rfl g3 (ABD (b:=b) p3 ?_ ?_)
   ·
    show (Act.put _ _ _).tmps.getD d2 undef=_
    rw [Bz (by simp only [CB];rw [hsz];exact n2)]
   ·
    rw [e3]
    exact k _ _ (fin b tl w' M' he hh)
  rcases hh with ⟨rfl,hh⟩|⟨rfl,hh⟩
  · grind
  · grind
theorem xH {I:C1} {E:Env} {f:Fn} {u:Value} (ho:o.op= .makeFunc f #[] #[x]) (hx:VL E x (is u)):Ac P I o E (is (.func f #[] #[u])):=
 Ac.same fun M w a he _=>by
  have h1:a.eval x=u:=hx.ev he Au
  exact ⟨.func f #[] #[u],by simp [execOp,ho,Instr.makeFunc,h1],rfl⟩
end
section
variable {P:Program} {L:Lg P} {n:Fm} {fz:Nat} {E:Env} {M0:Av} {w0:World} {S:Nat→Prop} {o:Oper}
def K2 (p:Pr) (v:Value):At:=⟨none,true,fun M w=>p.h M w v,fun M w M' w' he _ h=>p.st M w M' w' v he h⟩
def zF (e:TypeId) (zs:List Value) (v:Value):At:=match v with| .slice (some a) _ _=>AF true a.block e (zs.map is)|_=>Bf
def rU (R:Value→Value→Value→At) (u:Value):At:=match u with| .tuple t=>R (t.getD 1 undef) (t.getD 2 undef) (t.getD 0 undef)|_=>Bf
def Ug (R:Value→Value→At) (u:Value):At:=match u with| .tuple t=>R (t.getD 1 undef) (t.getD 0 undef)|_=>Bf
theorem bJ {d s t:Nat} {R:Value→Value→Value→At}:SR.at_ a ⟨.three d s t,rU R⟩=R (a.tmps.getD s undef) (a.tmps.getD t undef) (a.tmps.getD d undef):=rfl
theorem Nt {d s:Nat} {R:Value→Value→At}:SR.at_ a ⟨.two d s,Ug R⟩=R (a.tmps.getD s undef) (a.tmps.getD d undef):=rfl
theorem EB.conv {w:World} {R1 R2:SR} {r:Result Next} (hq:Pr.le p q) (hR:∀v,R1.at_ (a.put o.dst v)=R2.at_ (a.put o.dst v)) (h:EB P M0 w0 S o a M w p j R1 rs r):EB P M0 w0 S o a M w q j R2 rs r:=by
 cases r with
 |halt x w'=>exact h
 |ok x w'=>
  cases x
  case value v=>obtain ⟨M',g1,g2,g3⟩:=h;exact ⟨M',hq _ _ _ g1,g2,by rw [←hR];exact g3⟩
  case skip=>obtain ⟨M',g1,g2,g3⟩:=h;exact ⟨M',hq _ _ _ g1,g2,by rw [←hR];exact g3⟩
  case enter f args=>
   refine Calls.mono h ?_
   rintro e w'' ⟨v,M',g0,g1,g2,g3⟩
   exact ⟨v,M',g0,hq _ _ _ g1,g2,by rw [←hR];exact g3⟩
  all_goals exact h
theorem FX {w:World} (h:Cn M w E o a) (s:Nat) {p0:Pr} (hp0:p0.h M w (a.tmps.getD s undef)):Cn M w ((s,AV (a.tmps.getD s undef) p0)::E) o a:=fun c p hc hp=>by
 simp only [List.lookup] at hp
 by_cases hcs:c=s
 · subst hcs;simp only [beq_self_eq_true,Option.some.injEq] at hp;subst hp;exact ⟨rfl,hp0⟩
 · rw [show (c==s)=false by simpa using hcs] at hp;exact h c p hc hp
theorem bK {d s t:Nat} {R:SR} {p1 p2:Pr} {p:Value→Value→Pr} {R':Value→Value→Value→At} (hd:o.dst=some d) (hs:d≠s) (ht:d≠t) (hq:∀v1 v2,Pr.le (p v1 v2) q) (hg:o.guard=none) (h1:E.lookup s=some p1) (h2:E.lookup t=some p2) (hls:s∈looks o) (hlt:t∈looks o) (h:∀v1 v2,DH P M0 w0 S n j R ⟨d,R' v1 v2⟩ o ((s,AV v1 p1)::(t,AV v2 p2)::E) (p v1 v2)):DH P M0 w0 S n j R ⟨.three d s t,rU R'⟩ o E q:=by
 refine ⟨hg,fun M w a rs hsz he hI hj=> ?_⟩
 refine EB.conv (hq _ _) (fun v=> ?_) ((h (a.tmps.getD s undef) (a.tmps.getD t undef)).2 M w a rs hsz (FX (FX he t (he t p2 hlt h2)) s (he s p1 hls h1)) hI hj)
 rw [bJ,hd,BW (Ne.symm hs),BW (Ne.symm ht)];rfl
theorem Sk {d:Nat} (hg:o.guard=none) (hd:o.dst=some d) (hn:d<n) (h:∀I,Ac P I o E p):DH P M0 w0 S n j (SR.c Bf) ⟨d,K2 p⟩ o E p:=by
 refine ⟨hg,fun M w a rs hsz he hI hj=> ?_⟩
 have hj':rs[j]? =some Bf:=hj
 have hat:∀v,SR.at_ (a.put o.dst v) ⟨d,K2 p⟩=K2 p v:=fun v=>by show K2 p ((a.put o.dst v).tmps.getD d undef)=_;rw [hd,Bz Gx]
 have To:=h (Hp M0 w0 S rs) M w a he hI
 revert To
 generalize (execOp a.eval o).run P w=r
 intro To
 have key:∀v w',p.h M w' v→Below w.heap.size w w'→∃M',p.h M' w' v∧Ext M w M' w'∧A7 M0 w0 S (rs.set j (SR.at_ (a.put o.dst v) ⟨d,K2 p⟩)) M' w':=fun v w' hv hb=>by
  refine ⟨M,hv,Ext.below hb,?_⟩
  rw [hat]
  exact A7.Ce ((Hp M0 w0 S rs).st _ _ _ hb hI) hj' rfl rfl hv
 cases r with
 |halt x w'=>exact To
 |ok x w'=>
  cases x
  case value v=>exact key v w' To.1 To.2
  case skip=>exact key undef w' To.1 To.2
  case enter f args=>
   obtain ⟨hb,hc⟩:=To
   refine Calls.mono hc ?_
   rintro e w'' ⟨v,g0,g1,g2⟩
   obtain ⟨M',k1,k2,k3⟩:=key v w'' g1 (KT hb g2)
   exact ⟨v,M',g0,k1,k2,k3⟩
  all_goals exact To
theorem rV {y:Operand} {d m i_:Nat} {z:Value} (hg:o.guard=none) (hd:o.dst=some d) (hn:d<n) (ho:o.op= .makeSlice t x y) (ht:P.underlying t=some (.slice e)) (hs:A9 P e=some 1) (hby:B1 P e=some i_) (hz:BZ P e=some [z]) (h1:z.oneCell'=true) (hx:VL E x (int ((m:Nat):Int))) (hy:VL E y (int ((m:Nat):Int))) (hm:m≤maxLen) (hb:i_*m≤281474976710656):DH P M0 w0 S n j (SR.c Bf) ⟨d,zF e (List.replicate m z)⟩ o E (Cp.ex fun b=>is (KE m b)):=by
 refine ⟨hg,fun M w a rs VM he hI hj=> ?_⟩
 have hx1:a.eval x= .int .i64 m:=hx.ev he Au
 have hy1:a.eval y= .int .i64 m:=hy.ev he Au
 have hi:∃i,P.info? e=some i∧i.size=1∧i.bytes=i_∧∃z',i.zero=some z'∧z'.cells= #[z]:=by
  unfold A9 at hs;unfold B1 at hby;unfold BZ at hz
  cases hi:P.info? e with
  |none=>rw [hi] at hs;cases hs
  |some i=>
   rw [hi] at hs hby hz
   simp at hs hby hz
   obtain ⟨z',h2,h3⟩:=hz
   exact ⟨i,rfl,hs,hby,z',h2,by rw [←Array.toList_inj,h3]⟩
 obtain ⟨i,hi,hi1,hi2,z',Ex,JN⟩:=hi
 have hmk:madeCells z'.cells m=(List.replicate m z).toArray:=by
  rw [JN]
  apply Array.ext
  · simp [madeCells]
  ·
   intro j h1 h2
   simp [madeCells,Nat.mod_one]
 have hrun:=run_make (P:=P) w t e i z' ht hi Ex .i64 .i64 (m:Int) (m:Int) AA (Int.le_refl _) (by rw [hi2];have h0:((i_*m:Nat):Int)≤281474976710656:=Int.ofNat_le.2 hb;rw [←Int.natCast_mul];exact h0) VY
 rw [hi1] at hrun
 simp only [Int.toNat_natCast,Nat.mul_one] at hrun
 rw [hmk] at hrun
 have Ee:(execOp a.eval o).run P w= .ok (.value (KE m w.heap.size)) (w.alloc (.cells (List.replicate m z).toArray e)):=by simp [execOp,ho,hx1,hy1,hrun]
 rw [Ee]
 have hb:Below w.heap.size w (w.alloc (.cells (List.replicate m z).toArray e)):=(Below.refl _ _).alloc (Nat.le_refl _) _
 have h2:=Ext.below (M:=M) hb
 have FE:Ext M w (fun b o=>M b o∨b=w.heap.size) (w.alloc (.cells (List.replicate m z).toArray e)):=by
  refine ⟨h2.size,fun a v hc hm=>⟨fun hx=> ?_,(h2.keep a v hc hm).2⟩,fun b o ho hp hm=>⟨fun hx=> ?_,(h2.obj b o ho hp hm).2⟩⟩
  ·
   rcases hx with hx|hx
   · exact hm hx
   · exact FM
  · grind
 have hs1:(w.alloc (.cells (List.replicate m z).toArray e)).heap.size=w.heap.size+1:=by simp
 have hat:(SR.at_ (a.put o.dst (KE m w.heap.size)) ⟨d,zF e (List.replicate m z)⟩)=AF true w.heap.size e ((List.replicate m z).map is):=by unfold SR.at_ Slot.val;dsimp only;rw [hd,Bz H6];rfl
 refine ⟨fun b o=>M b o∨b=w.heap.size,⟨_,rfl⟩,FE,?_⟩
 rw [hat]
 refine hI.replace hj FE hb.os hb.tape hb.output (fun k hk _=>hb.block k hk) rfl (fun b o hm _=> .inl hm) (fun b o hx=> ?_) ?_ rfl (fun b hbk=> ?_)
 ·
  rcases hx with hx|hx
  · have:=hI.bd _ _ hx;omega
  · omega
 · exact ⟨fun o=> .inr rfl,List.replicate m z,heap_alloc_new w _,KV _ _ _,fun c hc=>by rw [List.eq_of_mem_replicate hc];exact h1⟩
 ·
  have FB:some w.heap.size=some b:=hbk
  injection FB with e1
  subst e1
  exact ⟨by rw [hs1];omega,.inr (Nat.le_refl _)⟩
theorem JD {s:Nat} {op:Op} (h:(Operand.tmp s)∈op.operands.toList) (ho:o.op=op):s∈looks o:=List.mem_filterMap.2 ⟨_,by rw [ho];exact h,rfl⟩
theorem xI {d s x y:Nat} {ps:Value→Value→List Pr} (hg:o.guard=none) (hd:o.dst=some d) (hn:d<n) (ho:o.op= .box T (.tmp s)) (hx:d≠x) (hy:d≠y):
  DH P M0 w0 S n j ⟨.three s x y,rU fun v1 v2=>K2 (agg (ps v1 v2))⟩ ⟨.three d x y,rU fun v1 v2=>E2 T (ps v1 v2)⟩ o E (Cp.ex fun b=>ptr b 0):=by
 refine ⟨hg,fun M w a rs hsz he hI hj=> ?_⟩
 have hj':rs[j]? =some (K2 (agg (ps (a.tmps.getD x undef) (a.tmps.getD y undef))) (a.tmps.getD s undef)):=hj
 have hjl:j<rs.length:=by grind
 have hr:=(hI.hold _ (List.mem_of_getElem? hj')).1
 have hI2:A7 M0 w0 S (rs.set j Bf) M w:=A7.Ce hI hj' rfl rfl trivial
 have he2:Cn M w ((s,agg (ps (a.tmps.getD x undef) (a.tmps.getD y undef)))::E) o a:=fun c p hc hp=>by
  simp only [List.lookup] at hp
  by_cases hcs:c=s
  · subst hcs;simp only [beq_self_eq_true,Option.some.injEq] at hp;subst hp;exact hr
  · rw [show (c==s)=false by simpa using hcs] at hp;exact he c p hc hp
 have h:=(w5 (P:=P) (M0:=M0) (w0:=w0) (S:=S) (n:=n) (j:=j) (T:=T) (ps:=ps (a.tmps.getD x undef) (a.tmps.getD y undef)) (E:=(s,agg (ps (a.tmps.getD x undef) (a.tmps.getD y undef)))::E) hg hd hn ho (VL.le ⟨_,List.lookup_cons_self,Pr.le_refl _⟩ (AY _))).2 M w a _ hsz he2 hI2 (by rw [List.getElem?_set_self hjl];rfl)
 have h2:EB P M0 w0 S o a M w (Cp.ex fun b=>ptr b 0) j ⟨d,E2 T (ps (a.tmps.getD x undef) (a.tmps.getD y undef))⟩ rs ((execOp a.eval o).run P w):=by
  revert h
  generalize (execOp a.eval o).run P w=r
  intro h
  cases r with
  |halt x w'=>exact h
  |ok x w'=>
   cases x
   case value v=>simpa only [EB,List.set_set] using h
   case skip=>simpa only [EB,List.set_set] using h
   case enter f args=>simpa only [EB,List.set_set] using h
   all_goals exact h
 refine EB.conv (Pr.le_refl _) (fun v=> ?_) h2
 rw [bJ,hd,BW (Ne.symm hx),BW (Ne.symm hy)];rfl
theorem j9 {s y:Tmp} [One p] (hg:o.guard=none) (hd:o.dst=none) (ho:o.op= .store t (.tmp s) (.tmp y)) (hsy:s≠y) (hx:E.lookup s=some (Cp.ex fun b=>ptr b 0)) (hy:E.lookup y=some p) (hz:A9 P t=some 1) (hl:ps.length=1):DH P M0 w0 S n j ⟨s,E2 T ps⟩ ⟨.two s y,Ug fun v=>E2 T [AV v p]⟩ o E any:=by
 refine ⟨hg,fun M w a rs hsz he hI hj=> ?_⟩
 have hyl:y∈looks o:=JD (op:= .store t (.tmp s) (.tmp y)) M_ ho
 have he2:Cn M w ((y,AV (a.tmps.getD y undef) p)::E) o a:=fun c q hc hq=>by
  simp only [List.lookup] at hq
  by_cases hcs:c=y
  · subst hcs;simp only [beq_self_eq_true,Option.some.injEq] at hq;subst hq;exact ⟨rfl,he _ p hyl hy⟩
  · rw [show (c==y)=false by simpa using hcs] at hq;exact he c q hc hq
 have h:=(CZ (P:=P) (M0:=M0) (w0:=w0) (S:=S) (n:=n) (j:=j) (T:=T) (ps:=ps) (qs:=[AV (a.tmps.getD y undef) p]) (E:=(y,AV (a.tmps.getD y undef) p)::E) hg hd ho dU (VL.le ⟨_,List.lookup_cons_self,Pr.le_refl _⟩ (Ag _)) hz rfl hl).2 M w a rs hsz he2 hI hj
 refine EB.conv (Pr.le_refl _) (fun v=> ?_) h
 rw [Nt,hd];rfl
theorem Aw.Uh {Q:Exit→Act→World→Prop} {rs:List SR} (s:Nat) (hs:E.lookup s=some p) (k:∀v,Aw n M0 w0 S ((s,AV v p)::E) rs Q):Aw n M0 w0 S E rs Q:=by
 rintro a w ⟨M,g1,g2,g3,g4⟩
 refine k (a.tmps.getD s undef) a w ⟨M,g1,g2,fun c z hz=> ?_,g4⟩
 simp only [List.lookup] at hz
 by_cases hcs:c=s
 · subst hcs;simp only [beq_self_eq_true,Option.some.injEq] at hz;subst hz;exact ⟨rfl,g3 c p hs⟩
 · rw [show (c==s)=false by simpa using hcs] at hz;exact g3 c z hz
theorem Aw.fix {Q:Exit→Act→World→Prop} {rs:List SR} (j:Nat) {R:SR} (r:At) (hR:rs[j]? =some R) (hs:∀a:Act,(∃M w,Fw M w E a)→R.at_ a=r) (k:Aw n M0 w0 S E (rs.set j (SR.c r)) Q):Aw n M0 w0 S E rs Q:=by
 rintro a w ⟨M,g1,g2,g3,g4⟩
 refine k a w ⟨M,g1,g2,g3,?_⟩
 have e:=hs a ⟨M,w,g3⟩
 have e3:(rs.set j (SR.c r)).map (·.at_ a)=rs.map (·.at_ a):=by
  apply List.ext_getElem?
  intro m
  rw [List.getElem?_map,List.getElem?_map,List.getElem?_set]
  by_cases him:j=m
  ·
   subst him
   have hjl:j<rs.length:=by grind
   rw [if_pos rfl,if_pos hjl,hR]
   show some ((SR.c r).at_ a)=some (R.at_ a)
   rw [e];rfl
  · rw [if_neg him]
 rw [e3];exact g4
theorem bL {w:World} {s:Nat} (h:Fw M w E a) (hs:E.lookup s=some (AV v p)):a.tmps.getD s undef=v:=(h s _ hs).1
theorem Aw.Pt {Q:Exit→Act→World→Prop} {rs:List SR} (j s:Nat) {f:Value→At} (hR:rs[j]? =some ⟨s,f⟩) (hs:E.lookup s=some (AV v p)) (k:Aw n M0 w0 S E (rs.set j (SR.c (f v))) Q):Aw n M0 w0 S E rs Q:=
 Aw.fix j _ hR (fun a ⟨_,_,h⟩=>by show f (a.tmps.getD s undef)=_;rw [bL h hs]) k
theorem Aw.bM {Q:Exit→Act→World→Prop} {rs:List SR} (j d s:Nat) {f:Value→Value→At} {u:Value} (hR:rs[j]? =some ⟨.two d s,Ug f⟩) (hd:E.lookup d=some (AV u p)) (hs:E.lookup s=some (AV v q)) (k:Aw n M0 w0 S E (rs.set j (SR.c (f v u))) Q):Aw n M0 w0 S E rs Q:=by grind [Aw.fix,Nt,bL]
theorem Aw.ABE {Q:Exit→Act→World→Prop} {rs:List SR} (j d s t:Nat) {f:Value→Value→Value→At} {u v1 v2:Value} {q1 q2:Pr} (hR:rs[j]? =some ⟨.three d s t,rU f⟩) (hd:E.lookup d=some (AV u p)) (hs:E.lookup s=some (AV v1 q1)) (ht:E.lookup t=some (AV v2 q2)) (k:Aw n M0 w0 S E (rs.set j (SR.c (f v1 v2 u))) Q):Aw n M0 w0 S E rs Q:=by grind [Aw.fix,bJ,bL]
end
section
variable {P:Program} {L:Lg P} {n:Fm} {fz:Nat} {E:Env} {I:C1} {M0:Av} {w0:World} {S:Nat→Prop} {rs:List At} {Q:Exit→Act→World→Prop} {c:Code}
theorem Fin.shape {e:Exit} (s:Nat) (form:Nat→Value) (hs:E.lookup s=some (AV v (Cp.ex fun b=>is (form b)))) (k:∀b,v=form b→Fin n ((s,is (form b))::E) (Hp M0 w0 S rs) Q e):Fin n E (Hp M0 w0 S rs) Q e:=by
 intro a w hst
 obtain ⟨M,h1,h2,he,h4⟩:=hst
 obtain ⟨h5,b,h6⟩:=he s _ hs
 have hv:v=form b:=by rw [←h5];exact h6
 refine k b hv a w ⟨M,h1,h2,fun c z hz=> ?_,h4⟩
 simp only [List.lookup] at hz
 by_cases hcs:c=s
 · grind
 · rw [show (c==s)=false by simpa using hcs] at hz;exact he c z hz
theorem Fin.GA {e:Exit} (j:Nat) {r:At} (r':At) (hi:rs[j]? =some r) (h:r=r') (k:Fin n E (Hp M0 w0 S (rs.set j r')) Q e):Fin n E (Hp M0 w0 S rs) Q e:=by
 subst h
 have hjl:j<rs.length:=by grind
 have e1:rs.set j r=rs:=by
  apply List.ext_getElem?
  intro m
  rw [List.getElem?_set]
  by_cases him:j=m
  · grind
  · rw [if_neg him]
 rw [e1] at k;exact k
theorem Tr.AFd {α:Type} (ni:α→Fm) (Ei:α→Env) (Ii:α→C1) (C:α→Prop) (μ:α→Nat) (x0:α) (hn:ni x0=n) (h0:C x0) (hs:Co E (Ei x0)) (hI:∀M w,I.h M w→(Ii x0).h M w)
  (k:∀x,C x→Tr L (ni x) (Ei x) (Ii x) c (Exit.then (fun a w=>∃y,(C y∧μ y<μ x)∧St (ni y) (Ei y) (Ii y) a w) Q)):Tr L n E I (.loop c) Q:=by
 intro a w hst
 refine L.loop μ (fun x a w=>C x∧St (ni x) (Ei x) (Ii x) a w) (fun x a w ⟨hc,h⟩=> ?_) x0 a w ⟨h0,?_⟩
 ·
  refine L.mono ?_ (k x hc a w h)
  intro e a w hq
  cases e with
  |normal=>obtain ⟨y,⟨h1,h2⟩,h3⟩:=hq;exact ⟨y,h2,h1,h3⟩
  |_=>exact hq
 · rw [hn];exact hst.sub hs hI
theorem Fin.K3 {e:Exit} (hp:rs.Perm rs') (k:Fin n E (Hp M0 w0 S rs') Q e):Fin n E (Hp M0 w0 S rs) Q e:=fun a w ⟨M,h1,h2,h3,h4⟩=>k a w ⟨M,h1,h2,h3,A7.perm hp h4⟩
theorem BP.ofM {g : Func} {res : Pr} {R' : Value → At} (hf : P.funcs[f]? = some g) (hb : g.body = some c) (hname : (g.name == "runtime.NumGoroutine") = false) (hlen : ps.length ≤ g.ntmps) (h : ∀ M0 w0 S rs M1 w1, Tr (ZK P) g.ntmps (MJ 0 ps) (Hp M0 w0 S (R :: Ai M1 w1 :: rs)) c (J9 P g (NK M0 w0 S rs M1 w1 res R'))) : BP P f ps res R R' := by
 refine ⟨⟨g,hf,hname,by rw [hb];rfl⟩,fun M0 w0 S rs M w vs hI hv=> ?_⟩
 refine PY hf hb (h M0 w0 S rs M w _ _ ⟨M,?_,rfl,GL hv,?_⟩)
 ·
  have:=hv.length
  simp [this];omega
 · exact Zr
end
end Cp
