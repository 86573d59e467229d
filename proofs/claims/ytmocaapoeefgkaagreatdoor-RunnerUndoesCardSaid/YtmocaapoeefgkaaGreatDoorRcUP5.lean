/-
  Part 5 of the texts that prove this claim, merged.
-/
import Derived.RangeFuncFrom
import Derived.RangeFuncLeaves
import Derived.OrdersIn
import Derived.Test.YtmocaapoeefgkaaGreatDoorRcUP4
set_option linter.all false
set_option maxRecDepth 40000
set_option maxHeartbeats 16000000
namespace Go.Proofs.YtmocaapoeefgkaaGreatDoor
open Go Go.RowKit Cp Go.Proofs.Tryz
theorem JJ {β:Type} {p:β→Bool} {l:List β} {k:Nat} {x:β} (hx:l[k]? =some x) (hp:p x=true):l.any p=true:=List.any_eq_true.2 ⟨x,List.mem_of_getElem? hx,hp⟩
theorem CT {β:Type} {p:β→Bool} {l:List β} (h:∀j y,j<l.length→l[j]? =some y→p y=false):l.any p=false:=by
 rw [List.any_eq_false]
 intro y hy
 obtain ⟨j,hj⟩:=List.mem_iff_getElem?.1 hy
 have:=h j y bG hj
 simp [this]
abbrev Re {β:Type} (p:β→Bool) (l:List β) (k:Nat):Prop:=∀j y,j<k→l[j]? =some y→p y=false
theorem KJ {β:Type} (p:β→Bool) (l:List β):Re p l 0:=fun j y hj=>absurd hj AA
theorem KK {β:Type} {p:β→Bool} {l:List β} {k:Nat} {x:β} (hx:l[k]? =some x) (hp:p x=false) (h:Re p l k):Re p l (k+1):=Dv hx hp h
abbrev nJ (c:BV):JH→Bool:=fun w=>w.Ai.any fun n=> !c.has n
theorem KL {c:BV} {m:Int}  :BG prog 102 [MF c,int m] (int (c.check m)):=by
 refine fo func102 rfl ⟨rfl,rfl⟩ fun M0 w0=>(Tr.HD 0 0 rfl rfl fun Hw=>(Tr.HD 0 1 rfl rfl fun K0=>(Tr.HD 0 2 rfl rfl fun Vx=> ?_)))
 refine ac ?_
 refine ag ?_ ?_<;>intro h1 q1
 refine a3 ?_
 · refine int_eq ?_;unfold BV.check;rw [if_pos AA]
 refine an ?_ ?_<;>intro h2 q2
 refine a2 ?_
 · refine int_eq ?_;unfold BV.check;rw [if_pos AA]
 refine a2 ?_
 refine wk [31,30,29,2,1] rfl (Tr.block (Tr.BH _ (kk [30,29,2,1] rfl) (fun a:Nat=>[(31,int ((a:Nat):Int))]) (fun a:Nat=>a≤(c.room).length∧(Re Kz c.room a)) (fun a:Nat=>(c.room).length-a) 0 (⟨Nat.zero_le _,KJ _ _⟩) kz ?_))
 rintro a ⟨ACn,Gm⟩
 refine ac ?_
 refine Tr.seq ?_
 refine Tr.cn rfl ?_ ?_<;>intro h3 q3
 have nK:a<(c.room).length:=AH h3
 obtain ⟨r,nL⟩:=at_ nK
 refine ac ?_
 refine Tr.seq (Tr.block (Tr.seq (Tr.Aj (co rfl (AD rfl underlying22 Bt vq vq AA CO) ?_))))
 · repeat' first|(refine int_eq ?_;unfold BV.check;rw [if_neg AA,if_pos (JJ nL (by simp [Kz];omega))])|(exact Fin.AL (a+1) ⟨⟨nK,KK nL (by simp [Kz];omega) Gm⟩,by omega⟩ ⟨⟨_,rfl,AG a⟩,kz⟩)|refine ac ?_|(refine Tr.cn rfl ?_ ?_<;>intro h q)|(refine Ch.cg rfl rfl rfl ?_ ?_<;>intro h q)
 have yN:a=(c.room).length:=by have:=AJ h3;omega
 subst yN
 refine a2 ?_
 refine Tr.block (Tr.BH _ (kk [44,43,2,1] rfl) (fun b:Nat=>[(45,int ((b:Nat):Int))]) (fun b:Nat=>b≤(c.B4).length∧(Re MG c.B4 b)) (fun b:Nat=>(c.B4).length-b) 0 (⟨Nat.zero_le _,KJ _ _⟩) kz ?_)
 rintro b ⟨AG2,MJ⟩
 refine ac ?_
 refine Tr.seq ?_
 refine Tr.cn rfl ?_ ?_<;>intro h6 q6
 have ACo:b<(c.B4).length:=AH h6
 obtain ⟨w,ACp⟩:=at_ ACo
 refine ac ?_
 refine Tr.seq (Tr.block (Tr.seq (Tr.An (tp rfl (AD rfl underlying75 IX vq vq AA CO) ?_))))
 refine tp rfl (AP rfl RA IX vq rfl rfl) ?_
 refine Tl rfl rfl rfl rfl z141 RB (fun b1=> ?_)
 refine sf 0 8 ⟨rfl,rfl,rfl⟩ rfl rfl rfl rfl ?_
 refine ao ?_
 · repeat' first|(refine int_eq ?_;unfold BV.check;rw [if_neg AA,if_neg (Bc (CT Gm)),if_pos (JJ ACp (by simp [MG];omega))])|(exact Fin.AL (b+1) ⟨⟨ACo,KK ACp (by simp [MG];omega) MJ⟩,by omega⟩ ⟨⟨_,rfl,AG b⟩,kz⟩)|refine ac ?_|(refine Tr.cn rfl ?_ ?_<;>intro h q)|(refine Ch.cg rfl rfl rfl ?_ ?_<;>intro h q)
 have AF7:b=(c.B4).length:=by have:=AJ h6;omega
 subst AF7
 refine a2 ?_
 refine Tr.block (Tr.BH _ (kk [71,70,2,1] rfl) (fun k:Nat=>[(72,int ((k:Nat):Int))]) (fun k:Nat=>k≤(c.B4).length∧((∀(j:Nat) a b,j+1<k→c.B4[j]? =some a→c.B4[j+1]? =some b→a.hi≤b.lo)∧∀(j:Nat) a,j<k→c.B4[j]? =some a→Vv a.Ai)) (fun k:Nat=>(c.B4).length-k) 0 (⟨Nat.zero_le _,⟨fun j a b hj=>absurd hj AA,fun j a hj=>absurd hj AA⟩⟩) kz ?_)
 rintro k ⟨BU,AZ⟩
 refine ac ?_
 refine Tr.seq ?_
 refine Tr.cn rfl ?_ ?_<;>intro h10 P7
 have Af:k<(c.B4).length:=AH h10
 obtain ⟨x,Ah⟩:=at_ Af
 refine ac ?_
 refine ao ?_
 refine tp rfl (AD rfl underlying75 IX vq vq AA CO) ?_
 refine tp rfl (AP rfl RA IX vq rfl rfl) ?_
 refine Tl rfl rfl rfl rfl z141 RB (fun b2=> ?_)
 refine tm rfl ?_
 refine sf 0 10 ⟨rfl,rfl,rfl⟩ rfl rfl rfl rfl ?_
 refine ao ?_
 refine wk [72,71,70,10,9,2,1] rfl (Tr.U5 [1,2,10,70,71,72] [] (∀y,0<k→c.B4[k-1]? =some y→y.hi≤x.lo) ?_ (fun ACq=> ?_))
 refine ag ?_ ?_<;>intro h12 WT
 obtain ⟨pw,hpw⟩:=at_ (l:=c.B4) (k:=k-1) AA
 refine ac ?_
 refine cy h12 rfl (AD rfl underlying75 IX vq vq AA (Qu AA hpw)) ?_
 refine ac ?_
 refine wk [92,72,71,70,10,2,1] rfl ?_
 refine Tr.cn rfl ?_ ?_<;>intro NU dI
 refine a2 ?_
 · refine int_eq ?_;unfold BV.check;rw [if_neg AA,if_neg (Bc (CT Gm)),if_neg (Bc (CT MJ)),if_pos (nE AA Ah hpw Bq)]
 refine Tr.skip ?_
 exact Fin.AL () (by intro y' hk' hy';rw [hpw] at hy';cases hy';omega) (kk6 rfl)
 refine ac ?_
 refine wk [92,72,71,70,10,2,1] rfl (Tr.cond rfl (fun h=>nomatch h) (fun _=> ?_))
 refine Tr.skip ?_
 exact Fin.AL () (by intro y' hk' hy';omega) (kk6 rfl)
 refine ac ?_
 refine Tr.block (Tr.BH _ (kk [72,71,70,10,2,1] rfl) (fun i:Nat=>[(11,int ((i:Nat):Int))]) (fun i:Nat=>1≤i∧i≤max 1 x.Ai.length∧∀(j:Nat) a b,j+1<i→x.Ai[j]? =some a→x.Ai[j+1]? =some b→a<b) (fun i:Nat=>x.Ai.length-i) 1 (⟨by omega,by omega,fun j a b hj=>absurd hj AA⟩) kz ?_)
 rintro i ⟨hi1,hi2,E0⟩
 refine an ?_ ?_<;>intro J5 q14
 have Jq:i<x.Ai.length:=AH J5
 obtain ⟨t,ht⟩:=at_ Jq
 obtain ⟨u,hu⟩:=at_ (l:=x.Ai) (k:=i-1) AA
 refine Tr.Cm 95 rfl fun hlt=> ?_
 · repeat' first|(refine int_eq ?_;unfold BV.check;rw [if_neg AA,if_neg (Bc (CT Gm)),if_neg (Bc (CT MJ)),if_pos (nF Ah AA ht hu AA)])|(exact Fin.AL (i+1) ⟨⟨by omega,by omega,gy ht (by intro y' hk' hy';rw [hu] at hy';cases hy';omega) E0⟩,by omega⟩ ⟨⟨_,rfl,AG i⟩,kz⟩)|refine co rfl (AD rfl underlying22 Bt vq vq AA (Qu AA hu)) ?_|refine co rfl (AD rfl underlying22 Bt vq vq AA CO) ?_|refine ac ?_|(refine Tr.cn rfl ?_ ?_<;>intro h q)
 have hge:x.Ai.length≤i:=AJ J5
 have hall:∀(j:Nat) a b,j+1<x.Ai.length→x.Ai[j]? =some a→x.Ai[j+1]? =some b→a<b:=fun j a b hj=>E0 j a b AA
 refine a2 ?_
 exact Fin.AL (k+1) ⟨⟨Af,⟨gw Ah ACq AZ.1,tj Ah hall AZ.2⟩⟩,by omega⟩ ⟨⟨_,rfl,AG k⟩,kz⟩
 have BK:k=(c.B4).length:=by have:=AJ h10;omega
 subst BK
 refine a2 ?_
 refine Tr.block (Tr.BH _ (kk [115,114,2,1] rfl) (fun d:Nat=>[(116,int ((d:Nat):Int))]) (fun d:Nat=>d≤(c.B4).length∧(Re (nJ c) c.B4 d)) (fun d:Nat=>(c.B4).length-d) 0 (⟨Nat.zero_le _,KJ _ _⟩) kz ?_)
 rintro d ⟨AG3,Vy⟩
 refine ac ?_
 refine Tr.seq ?_
 refine Tr.cn rfl ?_ ?_<;>intro h16 q16
 have ACr:d<(c.B4).length:=AH h16
 obtain ⟨z,ACs⟩:=at_ ACr
 refine ac ?_
 refine Tr.seq (Tr.block (Tr.seq (Tr.An (tp rfl (AD rfl underlying75 IX vq vq AA CO) ?_))))
 refine tp rfl (AP rfl RA IX vq rfl rfl) ?_
 refine Tl rfl rfl rfl rfl z141 RB (fun b3=> ?_)
 refine sf 0 13 ⟨rfl,rfl,rfl⟩ rfl rfl rfl rfl ?_
 refine ao ?_
 refine ac ?_
 refine wk [123,122,121,116,115,114,2,1] rfl (Tr.block (Tr.Cm 121 rfl fun hlz=>(Tr.BH _ (kk [122,121,116,115,114,2,1] rfl) (fun e:Nat=>[(123,int ((e:Nat):Int))]) (fun e:Nat=>e≤(z.Ai).length∧(Re (fun n=> !c.has n) z.Ai e)) (fun e:Nat=>(z.Ai).length-e) 0 (⟨Nat.zero_le _,KJ _ _⟩) kz ?_)))
 rintro e ⟨AG4,Vs⟩
 refine ac ?_
 refine Tr.seq ?_
 refine Tr.cn rfl ?_ ?_<;>intro Nr q17
 have ACt:e<(z.Ai).length:=AH Nr
 obtain ⟨y,ACu⟩:=at_ ACt
 refine ac ?_
 refine Tr.seq (Tr.block (Tr.seq (Tr.Aj (co rfl (AD rfl underlying22 Bt vq vq AA CO) ?_))))
 · repeat' first|(refine int_eq ?_;unfold BV.check;rw [if_neg AA,if_neg (Bc (CT Gm)),if_neg (Bc (CT MJ)),if_neg (not_not_intro (QA AZ)),if_pos (JJ ACs (JJ ACu Ng))])|(exact Fin.AL (e+1) ⟨⟨ACt,KK ACu Ng Vs⟩,by omega⟩ ⟨⟨_,rfl,AG e⟩,kz⟩)|refine ac ?_|(refine Tr.cn rfl ?_ ?_<;>intro h q)|(refine Ch.cg rfl rfl rfl ?_ ?_<;>intro h q)
 have AF8:e=(z.Ai).length:=by have:=AJ Nr;omega
 subst AF8
 refine a2 ?_
 exact Fin.AL (d+1) ⟨⟨ACr,KK ACs (CT Vs) Vy⟩,by omega⟩ ⟨⟨_,rfl,AG d⟩,kz⟩
 have AF9:d=(c.B4).length:=by have:=AJ h16;omega
 subst AF9
 refine ac ?_
 refine an ?_ ?_<;>intro Sk q20
 refine a2 ?_
 · refine int_eq ?_;unfold BV.check;rw [if_neg AA,if_neg (Bc (CT Gm)),if_neg (Bc (CT MJ)),if_neg (not_not_intro (QA AZ)),if_neg (Bc (CT Vy)),if_pos (.inl Bq)]
 refine a2 ?_
 refine wk [146,145,144,2] rfl (Tr.block (Tr.BH _ (kk [145,144,2] rfl) (fun g:Nat=>[(146,int ((g:Nat):Int))]) (fun g:Nat=>g≤(c.JI).length∧(Re (fun n=> !c.has n) c.JI g)) (fun g:Nat=>(c.JI).length-g) 0 (⟨Nat.zero_le _,KJ _ _⟩) kz ?_))
 rintro g ⟨AG5,nM⟩
 refine ac ?_
 refine Tr.seq ?_
 refine Tr.cn rfl ?_ ?_<;>intro c_ q21
 have ACv:g<(c.JI).length:=AH c_
 obtain ⟨v,ACw⟩:=at_ ACv
 refine ac ?_
 refine Tr.seq (Tr.block (Tr.seq (Tr.Aj (co rfl (AD rfl underlying22 Bt vq vq AA CO) ?_))))
 · repeat' first|(refine int_eq ?_;unfold BV.check;rw [if_neg AA,if_neg (Bc (CT Gm)),if_neg (Bc (CT MJ)),if_neg (not_not_intro (QA AZ)),if_neg (Bc (CT Vy)),if_pos (.inr (JJ ACw Ng))])|(exact Fin.AL (g+1) ⟨⟨ACv,KK ACw Ng nM⟩,by omega⟩ ⟨⟨_,rfl,AG g⟩,kz⟩)|refine ac ?_|(refine Tr.cn rfl ?_ ?_<;>intro h q)|(refine Ch.cg rfl rfl rfl ?_ ?_<;>intro h q)
 have AF_:g=(c.JI).length:=by have:=AJ c_;omega
 subst AF_
 refine a3 ?_
 · refine int_eq ?_;unfold BV.check;rw [if_neg AA,if_neg (Bc (CT Gm)),if_neg (Bc (CT MJ)),if_neg (not_not_intro (QA AZ)),if_neg (Bc (CT Vy)),if_neg (not_or.2 ⟨not_not_intro AA,Bc (CT nM)⟩)]
theorem wG {c:BV} {day:Int}  :BG prog 206 [MF c,int day] (int (c.at day)):=by
 refine fo func206 rfl ⟨rfl,rfl⟩ fun M0 w0=>(Tr.HD 0 0 rfl rfl fun Hw=> ?_)
 refine a2 ?_
 refine Tr.block (Tr.BH _ (kk [9,8,1] rfl) (fun i:Nat=>[(10,int ((i:Nat):Int))]) (fun i:Nat=>i≤(c.B4).length∧(Re (EG day) c.B4 i)) (fun i:Nat=>(c.B4).length-i) 0 (⟨Nat.zero_le _,KJ _ _⟩) kz ?_)
 rintro i ⟨XS,E0⟩
 refine ac ?_
 refine Tr.seq ?_
 refine Tr.cn rfl ?_ ?_<;>intro h1 q1
 have Jq:i<(c.B4).length:=AH h1
 obtain ⟨w,LA⟩:=at_ Jq
 refine ac ?_
 refine ao ?_
 refine tp rfl (AD rfl underlying75 IX vq vq AA CO) ?_
 refine tp rfl (AP rfl RA IX vq rfl rfl) ?_
 refine Tl rfl rfl rfl rfl z141 RB (fun b1=> ?_)
 refine tm rfl ?_
 refine sf 0 6 ⟨rfl,rfl,rfl⟩ rfl rfl rfl rfl ?_
 refine ao ?_
 · repeat' first|(exact int_eq (Es LA (by simp [EG];omega) E0))|(exact Fin.AL (i+1) ⟨⟨Jq,KK LA (by simp [EG];omega) E0⟩,by omega⟩ ⟨⟨_,rfl,AG i⟩,kz⟩)|refine ac ?_|(refine Tr.cn rfl ?_ ?_<;>intro h q)|(refine Ch.cg rfl rfl rfl ?_ ?_<;>intro h q)
 have O8:i=(c.B4).length:=by have:=AJ h1;omega
 subst O8
 refine a3 ?_
 · exact int_eq (Gc E0)
theorem yO {c:BV} {n day:Int} (h:c.at day<0):c.may n day=false:=by
 have h2:=Ra (EG day) c.B4
 rw [if_neg (by unfold BV.at at h;omega)] at h2
 unfold BV.may BV.Tx;rw [h2]
theorem dj {c:BV} {n day:Int} {w:JH} (h:0≤c.at day) (hw:c.B4[(c.at day).toNat]? =some w):c.may n day=w.Ai.any (fun x=>n==x):=by
 have h2:=Ra (EG day) c.B4
 unfold BV.at at h hw
 rw [if_pos h,hw] at h2
 unfold BV.may BV.Tx;rw [h2]
theorem tv {c:BV} {day:Int} (h:0≤c.at day):∃w,c.B4[(c.at day).toNat]? =some w∧EG day w=true:=by
 obtain ⟨w,h1,h2⟩:=th (p:=EG day) (l:=c.B4) h
 exact ⟨w,h1,h2⟩
theorem nN {c:BV} {n day:Int}  :BG prog 161 [MF c,int n,int day] (bool (c.may n day)):=by
 refine fo func161 rfl ⟨rfl,rfl⟩ fun M0 w0=> ?_
 refine a2 ?_
 refine co rfl (CL (wG) rfl rfl rfl) ?_
 refine ac ?_
 refine an ?_ ?_<;>intro h1 q1
 refine a2 ?_
 · exact bool_eq (yO Bq).symm
 obtain ⟨w,hw,hin⟩:=tv (c:=c) (day:=day) q1
 refine a2 ?_
 refine co rfl (AD rfl underlying75 IX vq vq AA (Bh hw)) ?_
 refine ac ?_
 refine wk [22,21,20,1] rfl (Tr.block (Tr.Cm 20 rfl fun hlt=>(Tr.BH _ (kk [21,20,1] rfl) (fun k:Nat=>[(22,int ((k:Nat):Int))]) (fun k:Nat=>k≤(w.Ai).length∧(Re (fun x=>n==x) w.Ai k)) (fun k:Nat=>(w.Ai).length-k) 0 (⟨Nat.zero_le _,KJ _ _⟩) kz ?_)))
 rintro k ⟨BU,AZ⟩
 refine ac ?_
 refine Tr.seq ?_
 refine Tr.cn rfl ?_ ?_<;>intro h2 q2
 have Af:k<(w.Ai).length:=AH h2
 obtain ⟨t,Ah⟩:=at_ Af
 refine ac ?_
 refine Tr.seq (Tr.block (Tr.seq (Tr.Aj (co rfl (AD rfl underlying22 Bt vq vq AA CO) ?_))))
 · repeat' first|(refine bool_eq ?_;rw [dj Bq hw];exact (JJ Ah B8).symm)|(exact Fin.AL (k+1) ⟨⟨Af,KK Ah B8 AZ⟩,by omega⟩ ⟨⟨_,rfl,AG k⟩,kz⟩)|refine ac ?_|(refine Tr.cn rfl ?_ ?_<;>intro h q)
 have BK:k=(w.Ai).length:=by have:=AJ h2;omega
 subst BK
 refine a3 ?_
 · refine bool_eq ?_;rw [dj Bq hw];exact (CT AZ).symm
theorem Xa {c:BV} {n day:Int} (h:c.own=0) {k:Nat} {w:JH} (hw:c.B4[k]? =some w) (hd:max day w.lo<w.hi):c.may n (max day w.lo)=w.Ai.any (fun x=>n==x):=by
 obtain ⟨h1,h2⟩:=Ig h
 have hm:=List.mem_of_getElem? hw
 have h3:=h2 w hm
 unfold BV.may BV.Tx
 rw [Vw (Ih h1 h2) hm (wF AA)]
theorem nO {c:BV} {a b:List Int} {k:Nat} {n d:Int} (hx:a[k]? =some n) (hd:b[k]? =some d) (hm:c.may n d=true) (h:((a.zip b).take k).all (fun p=>c.may p.1 p.2)=true):((a.zip b).take (k+1)).all (fun p=>c.may p.1 p.2)=true:=by
 rw [XY hx hd,List.all_append,h];simp [hm]
theorem any_nil {c:BV} {l:List Int}:(l++[]).any (fun n=> !c.has n)=l.any (fun n=> !c.has n):=by rw [List.append_nil]
theorem yP {c:BV} {Ai days:List Int}  :BG prog 163 [MF c,ints Ai,ints days] (int (c.ET Ai days [])):=by
 refine fo func163 rfl ⟨rfl,rfl⟩ fun M0 w0=>(Tr.HD 0 1 rfl rfl fun K0=>(Tr.HD 0 2 rfl rfl fun Vx=>(Tr.Cm 1 rfl fun Fo=>(Tr.Cm 2 rfl fun mo=> ?_))))
 refine a2 ?_
 refine co rfl (CL (KL) rfl rfl rfl) ?_
 refine ac ?_
 refine Tr.seq (Tr.re 7 rfl (int_eq (b:=c.own) rfl) ?_)
 refine an ?_ ?_<;>intro h1 q1
 refine a2 ?_
 · refine int_eq ?_;unfold BV.ET;rw [if_pos Bq]
 have hown:c.own=0:=q1
 refine a2 ?_
 refine wk [24,3,2,1] rfl ?_
 refine Tr.cn rfl ?_ ?_<;>intro h2 q2
 refine a2 ?_
 · refine int_eq ?_;unfold BV.ET;rw [if_neg (not_not_intro hown),if_pos AA]
 refine ac ?_
 refine an ?_ ?_<;>intro h3 q3
 refine a2 ?_
 · refine int_eq ?_;unfold BV.ET;rw [if_neg (not_not_intro hown),if_neg AA,if_pos AA]
 refine a2 ?_
 refine Tr.block (Tr.BH _ (kk [29,28,3,2,1] rfl) (fun a:Nat=>[(30,int ((a:Nat):Int))]) (fun a:Nat=>a≤(Ai).length∧(Re (fun n=> !c.has n) Ai a)) (fun a:Nat=>(Ai).length-a) 0 (⟨Nat.zero_le _,KJ _ _⟩) kz ?_)
 rintro a ⟨ACn,Gm⟩
 refine ac ?_
 refine Tr.seq ?_
 refine Tr.cn rfl ?_ ?_<;>intro h4 q4
 have nK:a<(Ai).length:=AH h4
 obtain ⟨r,nL⟩:=at_ nK
 refine ac ?_
 refine Tr.seq (Tr.block (Tr.seq (Tr.Aj (co rfl (AD rfl underlying22 Bt vq vq AA CO) ?_))))
 · repeat' first|(refine int_eq ?_;unfold BV.ET;rw [if_neg (not_not_intro hown),if_neg AA,if_neg AA,any_nil,if_pos (JJ nL Ng)])|(exact Fin.AL (a+1) ⟨⟨nK,KK nL Ng Gm⟩,by omega⟩ ⟨⟨_,rfl,AG a⟩,kz⟩)|refine ac ?_|(refine Tr.cn rfl ?_ ?_<;>intro h q)|(refine Ch.cg rfl rfl rfl ?_ ?_<;>intro h q)
 have yN:a=(Ai).length:=by have:=AJ h4;omega
 subst yN
 refine a2 ?_
 refine Tr.block (Tr.BH _ (kk [45,44,3,2] rfl) (fun k:Nat=>[(46,int ((k:Nat):Int))]) (fun k:Nat=>k≤(Ai).length∧(((Ai.zip days).take k).all (fun p=>c.may p.1 p.2)=true)) (fun k:Nat=>(Ai).length-k) 0 (⟨Nat.zero_le _,by simp⟩) kz ?_)
 rintro k ⟨BU,AZ⟩
 refine ac ?_
 refine Tr.seq ?_
 refine Tr.cn rfl ?_ ?_<;>intro h7 q7
 have Af:k<(Ai).length:=AH h7
 obtain ⟨n,Ah⟩:=at_ Af
 obtain ⟨d,hd⟩:=at_ (l:=days) (k:=k) AA
 · repeat' first|(refine int_eq ?_;unfold BV.ET;rw [if_neg (not_not_intro hown),if_neg AA,if_neg AA,any_nil,if_neg (Bc (CT Gm)),if_neg (yL Ah hd Bq)])|exact Fin.AL (k+1) ⟨⟨Af,nO Ah hd CN AZ⟩,by omega⟩ ⟨⟨_,rfl,AG k⟩,kz⟩|refine co rfl (Fw rfl C8 rfl) (co rfl (Jn (nN) rfl rfl rfl rfl) ?_)|refine co rfl (AD rfl underlying22 Bt vq vq AA CO) ?_|refine ac ?_|(refine Tr.cn rfl ?_ ?_<;>intro h q)
 have BK:k=(Ai).length:=by have:=AJ h7;omega
 subst BK
 refine a3 ?_
 · refine int_eq ?_;unfold BV.ET;rw [if_neg (not_not_intro hown),if_neg AA,if_neg AA,any_nil,if_neg (Bc (CT Gm)),if_pos (tq AZ AA)]
def BV.FP (c:BV) (l:List (Int×Int)):List (List Int):=(List.range c.B4.length).map fun i=>(List.range c.room.length).map fun n=>(c.cnt l (i*8+n):Int)
def LG (c:BV) (l:List (Int×Int)):List (List Pr):=(c.FP l).map fun r=>r.map fun z=>int z
def nP (c:BV):List Pr:=(List.replicate c.room.length (Value.int .i64 0)).map is
theorem Hh (c:BV) (l:List (Int×Int)):(LG c l).length=c.B4.length:=by simp [LG,BV.FP]
theorem nQ {c:BV} {l:List (Int×Int)}:∀r∈LG c l,r.length=c.room.length:=by
 intro r hr
 simp only [LG,BV.FP,List.mem_map] at hr
 obtain ⟨_,⟨i,_,rfl⟩,rfl⟩:=hr
 simp
theorem g_ (c:BV):LG c []=List.replicate c.B4.length (nP c):=by
 apply List.ext_getElem?
 intro i
 by_cases hi:i<c.B4.length
 ·
  rw [List.getElem?_replicate,if_pos hi]
  simp only [LG,BV.FP,List.getElem?_map,List.getElem?_range hi,Option.map_some]
  congr 1
  apply List.ext_getElem?
  intro n
  by_cases hn:n<c.room.length
  · simp [nP,List.getElem?_range hn,List.getElem?_replicate,hn,BV.cnt]
  · rw [List.getElem?_eq_none B8,List.getElem?_eq_none (by simp [nP];omega)]
 · rw [List.getElem?_eq_none Uy,List.getElem?_eq_none B8]
def NF (c:BV) (l:List (Int×Int)) (i:Nat):List Pr:=(List.range c.room.length).map fun n=>int (c.cnt l (i*8+n))
theorem QB {c:BV} {l:List (Int×Int)} {i:Nat} (hi:i<c.B4.length):(LG c l)[i]? =some (NF c l i):=by
 simp [LG,BV.FP,List.getElem?_range hi,NF]
theorem EL (c:BV) (l:List (Int×Int)) (i:Nat):(NF c l i).length=c.room.length:=by simp [NF]
theorem QC {c:BV} {l:List (Int×Int)} {i n:Nat} (hn:n<c.room.length):(NF c l i)[n]? =some (int (c.cnt l (i*8+n))):=by
 simp [NF,List.getElem?_range hn]
theorem NG (c:BV) (l:List (Int×Int)) (x d:Int) (k:Nat):c.cnt (l++[(x,d)]) k=c.cnt l k+if (c.at d).toNat*8+x.toNat=k then 1 else 0:=by
 unfold BV.cnt
 rw [List.countP_append,List.countP_cons,List.countP_nil]
 simp [BV.cell]
theorem Zu {c:BV} {l:List (Int×Int)} {x d:Int} {j:Nat} (h8:c.room.length≤8) (hx:x.toNat<c.room.length) (hj:(c.at d).toNat≠j):NF c (l++[(x,d)]) j=NF c l j:=by
 unfold NF
 refine List.map_congr_left fun m hm=> ?_
 have:=List.mem_range.1 hm
 rw [NG,if_neg AA];rfl
theorem hO {c:BV} {l:List (Int×Int)} {x d:Int} (h8:c.room.length≤8) (hx:x.toNat<c.room.length):(NF c l (c.at d).toNat).take (0+x.toNat*1)++[int ((c.cnt l ((c.at d).toNat*8+x.toNat):Int)+1)]++(NF c l (c.at d).toNat).drop (0+x.toNat*1+1)=NF c (l++[(x,d)]) (c.at d).toNat:=by
 rw [show 0+x.toNat*1=x.toNat by omega]
 apply List.ext_getElem?
 intro k
 by_cases hk:k<c.room.length
 ·
  rw [QC hk,NG]
  rcases Nat.lt_trichotomy k x.toNat with h|h|h
  · rw [List.append_assoc,List.getElem?_append_left (by rw [List.length_take,EL];omega),List.getElem?_take,if_pos h,QC hk,if_neg AA];rfl
  ·
   subst h
   rw [List.append_assoc,List.getElem?_append_right (by rw [List.length_take,EL];omega),List.length_take,EL,Nat.min_eq_left AA,Nat.sub_self]
   simp
  ·
   rw [List.getElem?_append_right (by rw [List.length_append,List.length_take,EL];simp;omega),List.length_append,List.length_take,EL,List.getElem?_drop,Nat.min_eq_left AA]
   simp only [List.length_cons,List.length_nil]
   rw [show x.toNat+1+(k-(x.toNat+(0+1)))=k by omega,QC hk,if_neg AA];rfl
 · rw [List.getElem?_eq_none (by simp [EL];omega),List.getElem?_eq_none (by rw [EL];omega)]
theorem nR {c:BV} {l:List (Int×Int)} {x d:Int} (h8:c.room.length≤8) (hi:(c.at d).toNat<c.B4.length) (hx:x.toNat<c.room.length):(LG c l).set (c.at d).toNat (NF c (l++[(x,d)]) (c.at d).toNat)=LG c (l++[(x,d)]):=by
 apply List.ext_getElem?
 intro j
 rw [List.getElem?_set]
 by_cases hj:(c.at d).toNat=j
 ·
  subst hj
  rw [if_pos rfl,if_pos (by rw [Hh];exact hi),QB hi]
 ·
  rw [if_neg hj]
  by_cases hl:j<c.B4.length
  · rw [QB hl,QB hl,Zu h8 hx hj]
  · rw [List.getElem?_eq_none Uy,List.getElem?_eq_none Uy]
abbrev rowsOf (c:BV) (bs:List Nat):Pr:=slice 1 (bs.map fun b=>[is (Jl c.room.length b)])
theorem NH {c:BV} {Ai days others:List Int} (h:c.ET Ai days others=0):Ai.length=days.length∧Ai.length≤24:=by
 have ho:=Ge h
 unfold BV.ET at h
 rw [if_neg (not_not_intro ho)] at h
 split at h
 · cases h
 ·
  split at h
  · cases h
  · omega
theorem Rf {c:BV} {Ai days others:List Int} (h:c.ET Ai days others=0):(Ai.zip days).all (fun p=>c.may p.1 p.2)=true:=by
 have ho:=Ge h
 unfold BV.ET at h
 rw [if_neg (not_not_intro ho)] at h
 split at h
 · cases h
 ·
  split at h
  · cases h
  ·
   split at h
   · cases h
   ·
    split at h
    · exact Bq
    · cases h
theorem dm {c:BV} {Ai days:List Int} (hf:c.ET Ai days []=0):BG prog 160 [MF c,ints Ai,ints days] (slice 1 ((c.FP (Ai.zip days)).map fun r=>[ints r])):=by
 refine fo func160 rfl ⟨rfl,rfl⟩ fun M0 w0=> ?_
 have hown:=Ge hf
 obtain ⟨h32,h8⟩:=Rb hown
 obtain ⟨hlen,Nc⟩:=NH hf
 have hmay:=Rf hf
 have N5:=XZ hf
 have hm:c.room.length≤maxLen:=by unfold maxLen;omega
 refine a3 ?_
 refine Tr.block (Tr.B5 22 1 (Tr.Wn _ (kk [12,3,2,1] rfl) (fun (bs:List Nat) u=>[(13,int ((bs.length:Nat):Int)),(7,Ad u (rowsOf c bs))]) (fun (bs:List Nat) u=>Hp M0 w0 FO (Aw 22 1 u::Dt 3 bs (List.replicate bs.length (nP c)))) (fun (bs:List Nat)=>bs.length≤c.B4.length) (fun (bs:List Nat)=>c.B4.length-bs.length) ([]) (.slice none 0 0) AV ⟨kq,⟨_,rfl,Bi AV⟩,trivial⟩ (fun _ _ h=>h) ?_))
 rintro bs u W0
 refine ac ?_
 refine Tr.seq ?_
 refine Tr.cn rfl ?_ ?_<;>intro h1 q1
 have hlt:bs.length<c.B4.length:=AH h1
 refine ac ?_
 refine ap ?_
 refine TO.VE rfl rfl AB rfl underlying22 Bt G2 z3 rfl vq vq FI AA (fun b1=> ?_)
 refine tp rfl (AO (xs:=[.tmp 19]) (rows:=[[_]]) rfl rfl underlying128 Lw z22 rfl AB ⟨⟨Am,My⟩,trivial⟩ AB) ?_
 refine TO.DT 1 rfl rfl AB (B7 rfl rfl rfl rfl underlying128 Lw AEu z22 G3 F4 (Ay BL Jo)) (fun v1=> ?_)
 refine ap ?_
 refine wk [13,12,7,3,2,1] rfl ?_
 refine ac ?_
 refine Fin.perm (rs':=Aw 22 1 v1::Dt 3 (bs++[b1]) (List.replicate (bs++[b1]).length (nP c))) ((List.Perm.swap _ _ _).trans (List.Perm.cons _ (by rw [List.length_append,List.length_singleton,List.replicate_succ'];exact (TY AV).symm))) ?_
 exact Fin.cQ (bs++[b1]) v1 (⟨by simp;omega,by simp;omega⟩) ⟨⟨_,rfl,int_eq AV⟩,⟨_,rfl,BA DR⟩,kz⟩ (fun _ _ h=>h)
 have YW:bs.length=c.B4.length:=by have:=AJ h1;omega
 refine a2 ?_
 refine Tr.block ?_
 refine Tr.EO _ (kk [24,23,3,2] rfl) (fun k u2=>[(25,int ((k:Nat):Int)),(7,Ad u2 (rowsOf c bs))]) (fun k u2=>Hp M0 w0 FO (Aw 22 1 u2::Dt 3 bs (LG c ((Ai.zip days).take k)))) (fun k:Nat=>k≤(Ai).length) (fun k:Nat=>(Ai).length-k) 0 u (Nat.zero_le _) ⟨kq,⟨_,rfl,BA AV⟩,trivial⟩ ((by rw [List.take_zero,g_,←YW];exact fun _ _ h=>h)) ?_
 rintro k u2 BU
 refine ac ?_
 refine Tr.seq ?_
 refine Tr.cn rfl ?_ ?_<;>intro h2 q2
 have Af:k<(Ai).length:=AH h2
 obtain ⟨n,Ah⟩:=at_ Af
 obtain ⟨d,hd⟩:=at_ (l:=days) (k:=k) AA
 have hmk:c.may n d=true:=by have:=List.all_eq_true.1 hmay (n,d) (List.mem_of_getElem? (by rw [List.getElem?_zip_eq_some];exact ⟨Ah,hd⟩));exact this
 have hat:=nH hmk
 have hai:(c.at d).toNat<c.B4.length:=by have:=(Tw (EG d) c.B4).2;unfold BV.at at*;omega
 obtain ⟨b0,hb0⟩:=at_ (l:=bs) (k:=(c.at d).toNat) AA
 have hn8:=N5 n (List.mem_append_left _ (List.mem_of_getElem? Ah))
 have hn9:0≤n∧n<c.room.length:=by unfold BV.has at hn8;simpa using hn8
 have hxn:n.toNat<c.room.length:=by omega
 have hbt:bs.length=(LG c ((Ai.zip days).take k)).length:=by rw [Hh];exact YW
 have tw:c.cnt ((Ai.zip days).take k) ((c.at d).toNat*8+n.toNat)≤24:=Nat.le_trans (yK _ _ _) B8
 refine a2 ?_
 refine co rfl (AD rfl underlying22 Bt vq vq AA CO) ?_
 refine ac ?_
 refine Tr.perm (rs':=AF true b0 3 (NF c ((Ai.zip days).take k) (c.at d).toNat)::Aw 22 1 u2::Dt 3 (bs.eraseIdx (c.at d).toNat) ((LG c ((Ai.zip days).take k)).eraseIdx (c.at d).toNat)) (((k9 hbt hb0 (QB hai)).cons _).trans (List.Perm.swap _ _ _)) ?_
 refine Tr.rx ?_
 refine ay ?_
 refine xo rfl (fun _=>AD rfl underlying22 Bt vq vq AA CO) ?_
 refine xo rfl (fun _=>Fw rfl C8 rfl) (xo rfl (fun _=>CL (wG) rfl rfl rfl) (xo rfl (fun _=>AD rfl underlying128 Lw G3 vq AA CO) ?_))
 refine ay ?_
 refine xo rfl (fun _=>Be rfl underlying22 Bt vq vq AA AA) ?_
 refine IV 0 rfl rfl (BI rfl C8 vq (by rw [show 0+n.toNat*1=n.toNat by omega];exact QC hxn)) ?_
 refine xo rfl (fun _=>Ek rfl vq vq ?hin) ?_;case hin=>unfold Ni;omega
 refine xo rfl (fun _=>Be rfl underlying22 Bt vq vq AA AA) ?_
 refine Cx.DP 0 rfl rfl (A0 rfl rfl vq My Bt rfl (by rw [EL];omega) (hO h8 hxn)) ?_
 refine Cx.nil ⟨by kernel_rfl,?_⟩
 refine BE.done YV ?_
 refine ac ?_
 refine wk [25,24,23,7,3,2] rfl ?_
 refine ac ?_
 refine Fin.perm (rs':=Aw 22 1 u2::Dt 3 bs (LG c ((Ai.zip days).take (k+1)))) ((List.Perm.swap _ _ _).trans (List.Perm.cons _ (by rw [XY Ah hd,←nR h8 hai hxn];exact (VF _ hbt hb0).symm))) ?_
 exact Fin.C1 (k+1) u2 (⟨Af,by omega⟩) ⟨⟨_,rfl,AG k⟩,⟨_,rfl,BA AV⟩,kz⟩ (fun _ _ h=>h)
 have BK:k=(Ai).length:=by have:=AJ h2;omega
 subst BK
 have hbt:bs.length=(LG c ((Ai.zip days).take Ai.length)).length:=by rw [Hh];exact YW
 refine ac ?_
 refine Tr.seq (Tr.drop 0 (Tr.Wp 7 hbt hm nQ rfl (Ar _ _) ?_))
 refine a2 ?_
 · exact Pr.le_of_eq (by rw [List.take_of_length_le B8];unfold LG;rw [List.map_map];exact congrArg _ (List.map_congr_left fun r _=>by show [slice 1 _]=[slice 1 _];rw [List.map_map];rfl))
theorem dw {c:BV} {l:List (Int×Int)} {i:Nat} {r:List Int} (h:(c.FP l)[i]? =some r):i<c.B4.length∧r=(List.range c.room.length).map fun n=>(c.cnt l (i*8+n):Int):=by
 have hi:i<c.B4.length:=by
  rcases Nat.lt_or_ge i c.B4.length with h'|h'
  · exact h'
  · rw [List.getElem?_eq_none (by simp [BV.FP];omega)] at h;cases h
 refine ⟨hi,?_⟩
 simp [BV.FP,List.getElem?_range hi] at h
 exact h.symm
theorem nS {c:BV} {l:List (Int×Int)} {i n:Nat} {r:List Int} {z:Int} (hr:r=(List.range c.room.length).map fun n=>(c.cnt l (i*8+n):Int)) (h:r[n]? =some z):n<c.room.length∧z=c.cnt l (i*8+n):=by
 subst hr
 have hn:n<c.room.length:=by
  rcases Nat.lt_or_ge n c.room.length with h'|h'
  · exact h'
  · rw [List.getElem?_eq_none B8] at h;cases h
 refine ⟨hn,?_⟩
 simp [List.getElem?_range hn] at h
 exact h.symm
theorem Rh (c:BV) (l:List (Int×Int)):(c.FP l).length=c.B4.length:=by simp [BV.FP]
theorem t_ {c:BV} {Ai days:List Int}  :BG prog 109 [MF c,ints Ai,ints days] (int (c.Di Ai days [])):=by
 refine fo func109 rfl ⟨rfl,rfl⟩ fun M0 w0=> ?_
 refine a2 ?_
 refine co rfl (Jn (yP) rfl rfl rfl rfl) ?_
 refine ac ?_
 refine an ?_ ?_<;>intro h1 q1
 refine a2 ?_
 · refine int_eq ?_;unfold BV.Di;rw [if_pos Bq]
 have hf:c.ET Ai days []=0:=q1
 refine a2 ?_
 refine co rfl (Jn (dm Bq) rfl rfl rfl rfl) ?_
 refine ac ?_
 refine wk [24,23,22,3] rfl (Tr.block (Tr.Cm 22 rfl fun hlt=>(Tr.BH _ (kk [23,22,3] rfl) (fun i:Nat=>[(24,int ((i:Nat):Int))]) (fun i:Nat=>i≤(c.FP (Ai.zip days)).length∧(∀i' n r,i'<i→c.room[n]? =some r→(c.cnt (Ai.zip days) (i'*8+n):Int)≤r)) (fun i:Nat=>(c.FP (Ai.zip days)).length-i) 0 (⟨Nat.zero_le _,fun i' n r hi=>absurd hi AA⟩) kz ?_)))
 rintro i ⟨XS,E0⟩
 refine ac ?_
 refine Tr.seq ?_
 refine Tr.cn rfl ?_ ?_<;>intro h2 q2
 have Jq:i<(c.FP (Ai.zip days)).length:=AH h2
 obtain ⟨row,LA⟩:=at_ Jq
 obtain ⟨hiw,hrow⟩:=dw LA
 have hrl:row.length=c.room.length:=by rw [hrow];simp
 refine ac ?_
 refine Tr.seq (Tr.block (Tr.seq (Tr.Aj (co rfl (AD rfl underlying128 Lw vq vq AA CO) ?_))))
 refine a2 ?_
 refine Tr.block (Tr.Cm 28 rfl fun hlr=>(Tr.BH _ (kk [29,28,24,23,22,3] rfl) (fun m:Nat=>[(30,int ((m:Nat):Int))]) (fun m:Nat=>m≤(row).length∧(∀n r,n<m→c.room[n]? =some r→(c.cnt (Ai.zip days) (i*8+n):Int)≤r)) (fun m:Nat=>(row).length-m) 0 (⟨Nat.zero_le _,fun n r hn=>absurd hn AA⟩) kz ?_))
 rintro m ⟨NC,IA⟩
 refine ac ?_
 refine Tr.seq ?_
 refine Tr.cn rfl ?_ ?_<;>intro h3 q3
 have EZ:m<(row).length:=AH h3
 obtain ⟨z,Ee⟩:=at_ EZ
 obtain ⟨hmr,hz⟩:=nS hrow Ee
 obtain ⟨r,hr⟩:=at_ hmr
 subst hz
 · repeat' first|(refine int_eq ?_;unfold BV.Di;rw [if_neg (not_not_intro hf),if_pos ⟨i,m,r,hiw,hr,by omega⟩])|exact Fin.AL (m+1) ⟨⟨EZ,Zt IA hr AA⟩,by omega⟩ ⟨⟨_,rfl,AG m⟩,kz⟩|refine co rfl (AD rfl underlying22 Bt vq vq AA CO) ?_|refine ac ?_|(refine Tr.cn rfl ?_ ?_<;>intro h q)
 have KI:m=(row).length:=by have:=AJ h3;omega
 subst KI
 refine a2 ?_
 exact Fin.AL (i+1) ⟨⟨Jq,Zs E0 (by rw [←hrl];exact IA)⟩,by omega⟩ ⟨⟨_,rfl,AG i⟩,kz⟩
 have O8:i=(c.FP (Ai.zip days)).length:=by have:=AJ h2;omega
 subst O8
 refine a3 ?_
 · refine int_eq ?_;unfold BV.Di;rw [if_neg (not_not_intro hf),if_neg (by rintro ⟨i,n,r,h1,h2,h3⟩;have:=E0 i n r (by rw [Rh];exact h1) h2;omega)]
theorem iA {c:BV} {Ai days:List Int} {n:Int} (h:c.has n=true):c.ET Ai days [n]=c.ET Ai days []:=by
 unfold BV.ET
 rw [List.any_append,List.append_nil]
 simp [h]
theorem HR {c:BV} {Ai days:List Int} {n:Int} (h:c.has n=true):c.Di Ai days [n]=c.Di Ai days []:=by
 unfold BV.Di;rw [iA h]
theorem Dn {c:BV} {Ai days os:List Int} {e:Int} (h:c.ET Ai days os=e) (he:e≠0):c.Di Ai days os=e:=by
 unfold BV.Di;rw [if_pos He,h]
theorem N6 {c:BV} {Ai days os:List Int} (h:¬c.own=0):c.ET Ai days os=c.own:=by unfold BV.ET;rw [if_pos h]
theorem Zv {c:BV} {Ai days os:List Int} (h:c.own=0) (h1:Ai.length≠days.length):c.ET Ai days os=1:=by unfold BV.ET;rw [if_neg (not_not_intro h),if_pos h1]
theorem Zw {c:BV} {Ai days os:List Int} (h:c.own=0) (h1:Ai.length=days.length) (h2:24<Ai.length):c.ET Ai days os=3:=by unfold BV.ET;rw [if_neg (not_not_intro h),if_neg (not_not_intro h1),if_pos h2]
theorem Yv {c:BV} {Ai days:List Int} {n:Int} (h:c.own=0) (h1:Ai.length=days.length) (h2:¬24<Ai.length) (h3:¬c.has n=true):c.ET Ai days [n]=2:=by
 unfold BV.ET;rw [if_neg (not_not_intro h),if_neg (not_not_intro h1),if_neg h2,if_pos (by rw [List.any_append];simp [h3])]
theorem EU {c:BV} {Ai days:List Int} {n d e:Int} (h:c.Di Ai days [n]=e) (he:e≠0):c.early Ai days n d=none:=by
 unfold BV.early;rw [if_neg He]
theorem KM {c:BV} {Ai days:List Int} {n d:Int} (h:c.Di Ai days [n]=0):c.early Ai days n d=c.next n d (c.free (Ai.zip days) n):=by
 unfold BV.early;rw [if_pos h]
theorem Ri {c:BV} {n day:Int} {room:Nat→Bool} (h:c.own=0) {k:Nat} {w:JH} (hw:c.B4[k]? =some w) (hd:max day w.lo<w.hi) (hm:c.may n (max day w.lo)=true) (hr:room k=true):EH n (max day 0) room k (c.B4.drop k)=some (max day w.lo):=by
 have h3:=(Ig h).2 w (List.mem_of_getElem? hw)
 rw [Xa h hw hd] at hm
 rw [nG hw AA hm hr,show max (max day 0) w.lo=max day w.lo by omega]
theorem KO {c:BV} {n day:Int} {room:Nat→Bool} (h:c.own=0) {k:Nat} {w:JH} (hw:c.B4[k]? =some w) (hd:¬(max day w.lo<w.hi∧c.may n (max day w.lo)=true∧room k=true)):EH n (max day 0) room k (c.B4.drop k)=EH n (max day 0) room (k+1) (c.B4.drop (k+1)):=by
 have h3:=(Ig h).2 w (List.mem_of_getElem? hw)
 refine gz hw ?_
 rintro ⟨h1,h2,h5⟩
 have h4:max day w.lo<w.hi:=by omega
 exact hd ⟨h4,by rw [Xa h hw h4];exact h2,h5⟩
theorem Xb {c:BV} {Ai days:List Int} {n from_:Int}  :BG prog 104 [MF c,ints Ai,ints days,int n,int from_] (Dz [int ((c.early Ai days n from_).getD 0),bool (c.early Ai days n from_).isSome,int (c.Di Ai days [n])]):=by
 refine fo func104 rfl ⟨rfl,rfl⟩ fun M0 w0=>(Tr.HD 0 0 rfl rfl fun Hw=>(Tr.HD 0 1 rfl rfl fun K0=>(Tr.HD 0 2 rfl rfl fun Vx=>(Tr.Cm 1 rfl fun Fo=>(Tr.Cm 2 rfl fun mo=> ?_)))))
 refine a2 ?_
 refine co rfl (CL (KL) rfl rfl rfl) ?_
 refine ac ?_
 refine Tr.seq (Tr.re 13 rfl (int_eq (b:=c.own) rfl) ?_)
 refine an ?_ ?_<;>intro h1 q1
 refine ac ?_
 refine wk [12,11,10] rfl (Tr.ret (Fin.AE (Fin.I0 rfl (Bg.Dc _ _) rfl ?_ rfl ?_ rfl ?_)))
 · refine int_eq ?_;rw [EU (Dn (N6 Bq) Bq) Bq];rfl
 · refine bool_eq ?_;rw [EU (Dn (N6 Bq) Bq) Bq];rfl
 · refine int_eq ?_;exact (Dn (N6 Bq) Bq).symm
 have hown:c.own=0:=q1
 refine a2 ?_
 refine wk [31,5,4,3,2,1] rfl ?_
 refine Tr.cn rfl ?_ ?_<;>intro h2 q2
 refine ac ?_
 refine Tr.ret (Fin.AE (Fin.I0 rfl (Bg.Dc _ _) rfl ?_ rfl ?_ rfl ?_))
 · refine int_eq ?_;rw [EU (Dn (Zv hown AA) AB) AB];rfl
 · refine bool_eq ?_;rw [EU (Dn (Zv hown AA) AB) AB];rfl
 · refine int_eq ?_;exact (Dn (Zv hown AA) AB).symm
 refine ac ?_
 refine an ?_ ?_<;>intro h3 q3
 refine ac ?_
 refine Tr.ret (Fin.AE (Fin.I0 rfl (Bg.Dc _ _) rfl ?_ rfl ?_ rfl ?_))
 · refine int_eq ?_;rw [EU (Dn (Zw hown AA AA) AB) AB];rfl
 · refine bool_eq ?_;rw [EU (Dn (Zw hown AA AA) AB) AB];rfl
 · refine int_eq ?_;exact (Dn (Zw hown AA AA) AB).symm
 refine ac ?_
 refine ag ?_ ?_<;>intro h4 q4
 refine ac ?_
 refine wk [43,5,4,3,2,1] rfl ?_
 refine ac ?_
 refine Tr.ret (Fin.AE (Fin.I0 rfl (Bg.Dc _ _) rfl ?_ rfl ?_ rfl ?_))
 · exact j_
 · exact j9
 · exact bC
 refine ac ?_
 refine wk [43,5,4,3,2,1] rfl ?_
 refine Tr.cn rfl ?_ ?_<;>intro h5 q5
 refine ac ?_
 refine Tr.ret (Fin.AE (Fin.I0 rfl (Bg.Dc _ _) rfl ?_ rfl ?_ rfl ?_))
 · exact j_
 · exact j9
 · exact bC
 have N5:c.has n=true:=by simp [BV.has];omega
 refine a2 ?_
 refine co rfl (Jn (t_) rfl rfl rfl rfl) ?_
 refine ac ?_
 refine an ?_ ?_<;>intro h6 q6
 refine ac ?_
 refine wk [12,11,10] rfl (Tr.ret (Fin.AE (Fin.I0 rfl (Bg.Dc _ _) rfl ?_ rfl ?_ rfl ?_)))
 · refine int_eq ?_;rw [EU (HR N5) Bq];rfl
 · refine bool_eq ?_;rw [EU (HR N5) Bq];rfl
 · refine int_eq ?_;exact (HR N5).symm
 have jk:c.Di Ai days []=0:=q6
 have hf:=HQ jk
 have hfn:c.Di Ai days [n]=0:=by rw [HR N5];exact jk
 refine a2 ?_
 refine co rfl (Jn (dm Bq) rfl rfl rfl rfl) ?_
 refine ac ?_
 refine wk [15,5,4,3] rfl ?_
 refine ac ?_
 refine Tr.block (Tr.BH _ (kk [57,56,15,5,4,3] rfl) (fun k:Nat=>[(58,int ((k:Nat):Int))]) (fun k:Nat=>k≤(c.B4).length∧(c.next n from_ (c.free (Ai.zip days) n)=EH n (max from_ 0) (c.free (Ai.zip days) n) k (c.B4.drop k))) (fun k:Nat=>(c.B4).length-k) 0 (⟨Nat.zero_le _,rfl⟩) kz ?_)
 rintro k ⟨BU,AZ⟩
 refine ac ?_
 refine Tr.seq ?_
 refine Tr.cn rfl ?_ ?_<;>intro h7 q7
 have Af:k<(c.B4).length:=AH h7
 obtain ⟨w,Ah⟩:=at_ Af
 obtain ⟨row,hrow⟩:=at_ (l:=c.FP (Ai.zip days)) (k:=k) (by rw [Rh];exact Af)
 obtain ⟨_,hr2⟩:=dw hrow
 obtain ⟨hn0,hrm⟩:=Rc N5
 obtain ⟨z,hz⟩:=at_ (l:=row) (k:=n.toNat) (by rw [hr2];simp;have:=N5;simp [BV.has] at this;omega)
 obtain ⟨ZM,Iv⟩:=nS hr2 hz
 refine ac ?_
 refine ao ?_
 refine tp rfl (AD rfl underlying75 IX vq vq AA CO) ?_
 refine tp rfl (AP rfl RA IX vq rfl rfl) ?_
 refine Tl rfl rfl rfl rfl z141 RB (fun b1=> ?_)
 refine tm rfl ?_
 refine sf 0 17 ⟨rfl,rfl,rfl⟩ rfl rfl rfl rfl ?_
 refine ao ?_
 refine wk [58,57,56,17,16,15,5,4,3] rfl ?_
 refine ac ?_
 refine co rfl (Jz rfl vq vq) ?_
 refine ac ?_
 refine wk [58,57,56,18,17,16,15,5,4,3] rfl ?_
 refine ag ?_ ?_<;>intro h8 q8
 refine ac ?_
 refine cy h8 rfl (Jn (nN) rfl rfl rfl rfl) ?_
 refine ag ?_ ?_<;>intro h9 q9
 refine ac ?_
 refine cy h9 rfl (AD rfl underlying128 Lw vq vq AA CO) ?_
 refine ac ?_
 refine cy h9 rfl (AD rfl underlying22 Bt vq vq AA CO) ?_
 refine ac ?_
 refine cy h9 rfl (AD rfl underlying22 Bt vq vq AA CO) ?_
 refine ac ?_
 refine wk [93,58,57,56,18,15,5,4,3] rfl ?_
 refine Tr.cn rfl ?_ ?_<;>intro h10 P7
 refine ac ?_
 refine Tr.ret (Fin.AU (Fin.AE (Fin.AE (Fin.AU (Fin.AE (Fin.I0 rfl (Bg.Dc _ _) rfl ?_ rfl ?_ rfl ?_))))))
 · refine int_eq ?_;rw [KM hfn,AZ,Ri hown Ah Bq Bq (by simp only [BV.free,decide_eq_true_eq];omega)];rfl
 · refine bool_eq ?_;rw [KM hfn,AZ,Ri hown Ah Bq Bq (by simp only [BV.free,decide_eq_true_eq];omega)];rfl
 · refine int_eq ?_;exact hfn.symm
 refine a2 ?_
 exact Fin.AL (k+1) ⟨⟨Af,(AZ.trans (KO hown Ah bR))⟩,by omega⟩ ⟨⟨_,rfl,AG k⟩,kz⟩
 refine ac ?_
 refine wk [93,58,57,56,18,15,5,4,3] rfl ?_
 refine a2 ?_
 exact Fin.AL (k+1) ⟨⟨Af,(AZ.trans (KO hown Ah (by rintro ⟨a1,a2,a3⟩;simp only [BV.free,decide_eq_true_eq] at a3;simp_all)))⟩,by omega⟩ ⟨⟨_,rfl,AG k⟩,kz⟩
 refine ac ?_
 refine wk [93,58,57,56,18,15,5,4,3] rfl ?_
 refine a2 ?_
 exact Fin.AL (k+1) ⟨⟨Af,(AZ.trans (KO hown Ah bR))⟩,by omega⟩ ⟨⟨_,rfl,AG k⟩,kz⟩
 have BK:k=(c.B4).length:=by have:=AJ h7;omega
 subst BK
 refine a2 ?_
 refine Tr.ret (Fin.I0 rfl (Bg.Dc _ _) rfl ?_ rfl ?_ rfl ?_)
 · refine int_eq ?_;rw [KM hfn,AZ,List.drop_length];rfl
 · refine bool_eq ?_;rw [KM hfn,AZ,List.drop_length];rfl
 · refine int_eq ?_;exact hfn.symm
theorem yQ {k:Int}:∀{l:List JH} {j:Nat} {w:JH},Ty l→l[j]? =some w→EG k w=true→idx (EG k) l=j:=by
 intro l j w hp hj hin
 refine (Es hj hin fun i y hi hy=> ?_).symm
 rw [Bool.eq_false_iff]
 intro hc
 have h1:=Rd hc
 have h2:=Rd hin
 have hij:i<l.length:=by rcases Nat.lt_or_ge i l.length with h|h;exact h;rw [List.getElem?_eq_none h] at hy;cases hy
 have hjl:j<l.length:=by rcases Nat.lt_or_ge j l.length with h|h;exact h;rw [List.getElem?_eq_none h] at hj;cases hj
 have:=List.pairwise_iff_getElem.1 hp i j hij hjl hi
 rw [List.getElem?_eq_getElem hij] at hy
 rw [List.getElem?_eq_getElem hjl] at hj
 simp at hy hj
 rw [hy,hj] at this
 omega
theorem nT {c:BV} {k:Int} {j:Nat} {w:JH} (h:c.own=0) (hj:c.B4[j]? =some w) (hin:EG k w=true):c.at k=j:=by
 obtain ⟨h1,h2⟩:=Ig h
 exact yQ (Ih h1 h2) hj hin
theorem NI {a b:List Int} (h:a.length=b.length) (x y:Int):(a++[x]).zip (b++[y])=a.zip b++[(x,y)]:=by
 rw [List.zip_append h];rfl
theorem iB {c:BV} {a b:List Int} {t d:Int} (hf:c.ET a b []=0) (Nc:a.length<24) (ht:c.has t=true) (hm:c.may t d=true):c.ET (a++[t]) (b++[d]) []=0:=by
 have ho:=Ge hf
 have hl:=(NH hf).1
 have h1:=XZ hf
 have h2:=Rf hf
 unfold BV.ET
 rw [if_neg (not_not_intro ho),if_neg (by simp [hl]),if_neg B8,if_neg,NI hl,List.all_append,h2,if_pos (by simp [hm])]
 rw [Bool.not_eq_true,List.any_eq_false]
 intro n hn
 have:c.has n=true:=by
  rw [List.append_nil] at hn
  rcases List.mem_append.1 hn with hn|hn
  · exact h1 n (List.mem_append_left _ hn)
  · rw [List.mem_singleton.1 hn];exact ht
 simp [this]
theorem iC {c:BV} {a b:List Int} {t d:Int} (hf:c.Di a b []=0) (Nc:a.length<24) (ht:c.has t=true) (hm:c.may t d=true) (hr:c.cnt (a.zip b) ((c.at d).toNat*8+t.toNat)<c.MH t):c.Di (a++[t]) (b++[d]) []=0:=by
 have jk:=HQ hf
 have h1:=iB jk Nc ht hm
 have ho:=Ge jk
 obtain ⟨h32,h8⟩:=Rb ho
 have hl:=(NH jk).1
 unfold BV.Di
 rw [if_neg (not_not_intro h1),if_neg]
 rintro ⟨i,n,r,hi,hn,hc⟩
 rw [NI hl,NG] at hc
 have hn8:n<8:=by
  rcases Nat.lt_or_ge n c.room.length with h|h
  · omega
  · rw [List.getElem?_eq_none h] at hn;cases hn
 have ht8:=nI ho ht
 have hno:¬c.over (a.zip b):=by
  unfold BV.Di at hf
  rw [if_neg (not_not_intro jk)] at hf
  intro hh;rw [if_pos hh] at hf;cases hf
 have hle:(c.cnt (a.zip b) (i*8+n):Int)≤r:=by
  rcases Int.lt_or_le r (c.cnt (a.zip b) (i*8+n):Int) with h|h
  · exact absurd ⟨i,n,r,hi,hn,h⟩ hno
  · exact h
 split at hc
 ·
  rename_i he
  have e1:(c.at d).toNat=i:=by omega
  have e2:t.toNat=n:=by omega
  have:=(Rc ht).2
  rw [e2,hn] at this
  simp at this
  rw [e1,e2] at hr
  omega
 · omega
theorem nU {c:BV} (h:c.own=0):c.Di [] [] []=0:=by
 have hf:c.ET [] [] []=0:=by
  unfold BV.ET
  rw [if_neg (not_not_intro h),if_neg AV,if_neg AV,if_neg AV,if_pos (by rfl)]
 unfold BV.Di
 rw [if_neg (not_not_intro hf),if_neg]
 rintro ⟨i,n,r,_,hn,hc⟩
 have h2:=(MI (show c.check c.JI.length=0 from h)).2.1
 rw [List.any_eq_false] at h2
 have:=h2 r (List.mem_of_getElem? hn)
 simp [Kz] at this
 simp [BV.cnt] at hc
 omega
theorem Om {t d x:Int} {room:Nat→Bool}:∀{l:List JH} {i:Nat},EH t d room i l=some x→Ty l→(∀w∈l,0≤w.lo∧w.lo<w.hi)→
  d≤x∧(∃(j:Nat) (w:JH),l[j]? =some w∧EG x w=true∧w.Ai.any (fun y=>t==y)=true∧room (i+j)=true)∧∀k,d≤k→k<x→∀(j:Nat) (w:JH),l[j]? =some w→EG k w=true→¬(w.Ai.any (fun y=>t==y)=true∧room (i+j)=true)
 |[],_,h,_,_=>by cases h
 |a::l,i,h,hp,hw=>by
  have ha:=hw a AV
  unfold EH at h
  split at h
  ·
   rename_i hc
   simp only [Option.some.injEq] at h
   subst h
   refine ⟨by omega,⟨0,a,rfl,wF AA,hc.2.1,hc.2.2⟩,fun k hk hx j w hj hin=> ?_⟩
   have:=Rd hin
   match j with
   |0=>simp at hj;subst hj;omega
   |j+1=>
    have h1:=(List.pairwise_cons.1 hp).1 w (List.mem_of_getElem? GP)
    omega
  ·
   rename_i hc
   obtain ⟨h1,⟨j,w,hj,h2,h3,h5⟩,h4⟩:=Om h (List.pairwise_cons.1 hp).2 (fun w hm=>hw w (List.mem_cons_of_mem _ hm))
   refine ⟨h1,⟨j+1,w,by simpa using hj,h2,h3,by rw [show i+(j+1)=i+1+j by omega];exact h5⟩,fun k hk hx j u hu hin=> ?_⟩
   match j with
   |0=>
    simp at hu;subst hu
    have:=Rd hin
    exact fun h=>hc ⟨by omega,h.1,h.2⟩
   |j+1=>
    have:=h4 k hk hx j u (by simpa using hu) hin
    rwa [show i+(j+1)=i+1+j by omega]
def BV.LX (c:BV) (l:List (Int×Int)) (t k:Int):Bool:=c.may t k&&decide ((c.cnt l ((c.at k).toNat*8+t.toNat):Int)<c.MH t)
theorem uA {c:BV} {l:List (Int×Int)} {t k:Int} (h:c.own=0):c.LX l t k=true↔∃(j:Nat) (w:JH),c.B4[j]? =some w∧EG k w=true∧w.Ai.any (fun y=>t==y)=true∧c.free l t j=true:=by
 unfold BV.LX
 rw [Bool.and_eq_true,tu h,decide_eq_true_eq]
 constructor
 ·
  rintro ⟨⟨w,hw,h1,h2⟩,h3⟩
  obtain ⟨j,hj⟩:=List.mem_iff_getElem?.1 hw
  refine ⟨j,w,hj,h1,h2,?_⟩
  rw [nT h hj h1,Int.toNat_natCast] at h3
  simpa [BV.free] using h3
 ·
  rintro ⟨j,w,hj,h1,h2,h3⟩
  refine ⟨⟨w,List.mem_of_getElem? hj,h1,h2⟩,?_⟩
  rw [nT h hj h1,Int.toNat_natCast]
  simpa [BV.free] using h3
theorem nV {c:BV} {a b:List Int} {t k:Int} (hf:c.Di a b []=0) (Nc:a.length<24) (ht:c.has t=true):decide (c.Di (a++[t]) (b++[k]) []=0)=c.LX (a.zip b) t k:=by
 have jk:=HQ hf
 have ho:=Ge jk
 obtain ⟨hl,_⟩:=NH jk
 have ht8:=nI ho ht
 rw [Bool.eq_iff_iff,decide_eq_true_eq,BV.LX,Bool.and_eq_true,decide_eq_true_eq]
 constructor
 ·
  intro h
  have h0:=HQ h
  have hm:=Rf h0
  rw [NI hl,List.all_append,Bool.and_eq_true] at hm
  have hm1:c.may t k=true:=by simpa using hm.2
  refine ⟨hm1,?_⟩
  unfold BV.Di at h
  rw [if_neg (not_not_intro h0)] at h
  have hno:¬c.over ((a++[t]).zip (b++[k])):=by intro hh;rw [if_pos hh] at h;cases h
  have hat:=nH hm1
  have hai:(c.at k).toNat<c.B4.length:=by have:=(Tw (EG k) c.B4).2;unfold BV.at at*;omega
  have hr:=(Rc ht).2
  rcases Int.lt_or_le (c.cnt (a.zip b) ((c.at k).toNat*8+t.toNat)) (c.MH t) with h5|h5
  · exact h5
  ·
   refine absurd ⟨(c.at k).toNat,t.toNat,c.MH t,hai,hr,?_⟩ hno
   rw [NI hl,NG,if_pos AA]
   omega
 ·
  rintro ⟨h1,h2⟩
  exact iC hf Nc ht h1 h2
structure BC where
 fst:Int
 thn:Int
 deriving DecidableEq
def Er (a b:BC):Bool:=if a.fst=b.fst then decide (a.thn<b.thn) else decide (a.fst<b.fst)
def FU (n:Int) (r:BC):Bool:=decide (r.fst<0∨r.thn<0∨n≤r.fst∨n≤r.thn∨r.fst=r.thn)
def Gf (l:List BC) (a b:Nat):Bool:=l.any fun r=>decide (r.fst=(a:Int))&&decide (r.thn=(b:Int))
def KP (k:Nat) (m:Nat→Nat→Bool) (a b:Nat):Bool:=m a b||(m a k&&m k b)
def C5 (l:List BC):Nat→Nat→Nat→Bool
 |0=>Gf l
 |k+1=>KP k (C5 l k)
theorem K1 {l:List BC} {a b:Nat} (h:Gf l a b=true):∀k,C5 l k a b=true
 |0=>h
 |k+1=>by show (_||_)=true;rw [K1 h k];rfl
theorem Rj {l:List BC}:∀(k:Nat) {a b c:Nat},c<k→C5 l k a c=true→C5 l k c b=true→C5 l k a b=true
 |0,_,_,_,h,_,_=>absurd h AA
 |k+1,a,b,c,h,h1,h2=>by
  have ih:= @Rj l k
  simp only [C5,KP,Bool.or_eq_true,Bool.and_eq_true] at h1 h2 ⊢
  rcases Nat.lt_or_ge c k with hc|hc
  ·
   rcases h1 with h1|⟨h1,h3⟩<;>rcases h2 with h2|⟨h2,h4⟩
   · exact .inl (ih hc h1 h2)
   · exact .inr ⟨ih hc h1 h2,h4⟩
   · exact .inr ⟨h1,ih hc h3 h2⟩
   · exact .inr ⟨h1,h4⟩
  ·
   obtain rfl:c=k:=by omega
   refine .inr ⟨?_,?_⟩
   · rcases h1 with h1|⟨h1,_⟩<;>exact h1
   · rcases h2 with h2|⟨_,h2⟩<;>exact h2
def JK (k:Nat) (m:Nat→Nat→Bool) (i j a b:Nat):Bool:=if a<i∨(a=i∧b<j) then KP k m a b else m a b
theorem Xc (k:Nat) (m:Nat→Nat→Bool) (a:Nat):KP k m a k=m a k:=by unfold KP;cases m a k<;>simp
theorem nW (k:Nat) (m:Nat→Nat→Bool) (b:Nat):KP k m k b=m k b:=by unfold KP;cases m k b<;>cases m k k<;>simp
theorem uB (k:Nat) (m:Nat→Nat→Bool) (i j a:Nat):JK k m i j a k=m a k:=by unfold JK;split;exact Xc k m a;rfl
theorem uC (k:Nat) (m:Nat→Nat→Bool) (i j b:Nat):JK k m i j k b=m k b:=by unfold JK;split;exact nW k m b;rfl
def Vz (m:Nat→Nat→Bool) (i j a b:Nat):Bool:=if a=i∧b=j then true else m a b
theorem uD {k:Nat} {m:Nat→Nat→Bool} {i j:Nat} (h1:m i k=true) (h2:m k j=true):Vz (JK k m i j) i j=JK k m i (j+1):=by
 funext a b
 unfold Vz JK
 by_cases h:a=i∧b=j
 ·
  obtain ⟨rfl,rfl⟩:=h
  rw [if_pos ⟨rfl,rfl⟩,if_pos AA];unfold KP;rw [h1,h2];simp
 ·
  rw [if_neg h]
  by_cases h3:a<i∨(a=i∧b<j)
  · rw [if_pos h3,if_pos AA]
  · rw [if_neg h3,if_neg AA]
theorem nX {k:Nat} {m:Nat→Nat→Bool} {i j:Nat} (h:(m i k&&m k j)=false):JK k m i j=JK k m i (j+1):=by
 funext a b
 unfold JK
 by_cases h3:a<i∨(a=i∧b<j)
 · rw [if_pos h3,if_pos AA]
 ·
  rw [if_neg h3]
  by_cases h4:a<i∨(a=i∧b<j+1)
  ·
   obtain ⟨rfl,rfl⟩:a=i∧b=j:=by omega
   rw [if_pos h4];unfold KP;rw [h];simp
  · rw [if_neg h4]
theorem ACx (k:Nat) (m:Nat→Nat→Bool):JK k m 0 0=m:=by funext a b;unfold JK;rw [if_neg AA]
def nY (n:Nat) (m m':Nat→Nat→Bool):Prop:=∀a b,a<n→b<n→m a b=m' a b
theorem nZ {n k:Nat} {m:Nat→Nat→Bool} {i:Nat}:nY n (JK k m i n) (JK k m (i+1) 0):=by
 intro a b _ hb
 unfold JK
 by_cases h:a<i∨(a=i∧b<n)
 · rw [if_pos h,if_pos AA]
 · rw [if_neg h,if_neg AA]
theorem uE {n k:Nat} {m:Nat→Nat→Bool}:nY n (JK k m n 0) (KP k m):=by
 intro a b ha _
 unfold JK;rw [if_pos AA]
def ACy (n:Nat) (l:List BC):Bool:=(List.range n).any fun i=>C5 l n i i
def D_:List BC→Bool
 |[]=>true
 |[_]=>true
 |a::b::l=>Er a b&&D_ (b::l)
def BF (n:Int) (l:List BC):Int:=
 if n<0∨24<n then 2 else if l.any (FU n) then 44 else if D_ l=false then 6 else if ACy n.toNat l then 45 else 0
theorem ng {R:Nat→Nat→Prop} (hi:∀a,¬R a a) (ht:∀a b c,R a b→R b c→R a c):∀{L:List Nat},L≠[]→(∀a b,a∈L→b∈L→R a b∨¬R a b)→∃x∈L,∀y∈L,¬R y x
 |[],h,_=>absurd rfl h
 |[x],_,_=>⟨x,by simp,fun y hy=>by simp at hy;subst hy;exact hi _⟩
 |x::y::l,_,hd=>by
  obtain ⟨z,hz,hm⟩:=ng hi ht (L:=y::l) AV (fun a b ha hb=>hd a b (List.mem_cons_of_mem _ ha) (List.mem_cons_of_mem _ hb))
  rcases hd x z AV (List.mem_cons_of_mem _ hz) with h|h
  ·
   refine ⟨x,by simp,fun w hw=> ?_⟩
   rcases List.mem_cons.1 hw with rfl|hw
   · exact hi _
   · exact fun h2=>hm w hw (ht _ _ _ h2 h)
  ·
   refine ⟨z,List.mem_cons_of_mem _ hz,fun w hw=> ?_⟩
   rcases List.mem_cons.1 hw with rfl|hw
   · exact h
   · exact hm w hw
def Gn (s:List Int) (n:Int):Bool:=s.any fun x=>n==x
theorem C3 {s:List Int} {n:Int}:Gn s n=true↔n∈s:=by unfold Gn;rw [List.any_eq_true];exact ⟨fun ⟨x,h,h2⟩=>by simp at h2;subst h2;exact h,fun h=>⟨n,h,by simp⟩⟩
def CD (l:List BC) (s:List Int):Bool:=l.all fun r=> !(Gn s r.thn)||Gn s r.fst
theorem Ca {l:List BC} {s:List Int}:CD l s=true↔∀r∈l,r.thn∈s→r.fst∈s:=by
 unfold CD;rw [List.all_eq_true]
 refine forall_congr' fun r=>forall_congr' fun _=> ?_
 rw [Bool.or_eq_true,Bool.not_eq_true',←C3,←C3]
 cases Gn s r.thn<;>simp
def Df (n:Int) (has:Bool) (p:List Int×Bool) (x:Int):List Int×Bool:=
 if x=n then (if has=true∧p.2=false∧n<x then (p.1++[n],true) else p) else if has=true∧p.2=false∧n<x then (p.1++[n]++[x],true) else (p.1++[x],p.2)
def wall (n:Int) (has:Bool) (s:List Int):List Int×Bool:=s.foldl (Df n has) ([],false)
def Dq (s:List Int) (n:Int) (has:Bool):List Int:=if has=true∧(wall n has s).2=false then (wall n has s).1++[n] else (wall n has s).1
theorem iD (n:Int) (has:Bool) (s:List Int) (x:Int):wall n has (s++[x])=Df n has (wall n has s) x:=by unfold wall;rw [List.foldl_append];rfl
theorem Rk {n:Int} {has:Bool} {x:Int}:∀{s:List Int} {p:List Int×Bool},(x∈(s.foldl (Df n has) p).1∧x≠n)↔((x∈p.1∨x∈s)∧x≠n)
 |[],p=>by simp
 |y::s,p=>by
  rw [List.foldl_cons,Rk]
  unfold Df
  by_cases h1:x=n
  · subst h1;simp
  ·
   repeat' split
   all_goals (try subst y);simp [h1,or_assoc]
theorem Rl {n:Int} {has:Bool}:∀{s:List Int} {p:List Int×Bool},(p.2=true→n∈p.1)→(p.2=false→n∉p.1)→(((s.foldl (Df n has) p).2=true→n∈(s.foldl (Df n has) p).1)∧((s.foldl (Df n has) p).2=false→n∉(s.foldl (Df n has) p).1))
 |[],p,h,h'=>⟨h,h'⟩
 |y::s,p,h,h'=>by
  rw [List.foldl_cons]
  apply Rl
  ·
   unfold Df;intro h2
   repeat' split at h2
   all_goals (repeat' split)<;>simp_all
  ·
   unfold Df;intro h2
   repeat' split at h2
   all_goals (repeat' split)<;>simp_all<;>omega
theorem Xd {n:Int}:∀{s:List Int} {p:List Int×Bool},p.2=false→(s.foldl (Df n false) p).2=false
 |[],p,h=>h
 |y::s,p,h=>by rw [List.foldl_cons];apply Xd;unfold Df;split<;>simp_all
theorem Ev {s:List Int} {n x:Int}:x∈Dq s n true↔x=n∨x∈s:=by
 have hm:=Rk (n:=n) (has:=true) (x:=x) (s:=s) (p:=([],false))
 have hp:=Rl (n:=n) (has:=true) (s:=s) (p:=([],false)) AV AV
 unfold Dq wall
 by_cases hx:x=n
 ·
  subst hx
  split
  next=>simp
  next h=>simp only [true_and,Bool.not_eq_false] at h;simp [hp.1 h]
 ·
  split
  next=>simp [hx] at hm ⊢;exact hm
  next=>simp [hx] at hm ⊢;exact hm
theorem GI {s:List Int} {n x:Int}:x∈Dq s n false↔x≠n∧x∈s:=by
 have hm:=Rk (n:=n) (has:=false) (x:=x) (s:=s) (p:=([],false))
 have hp:=Rl (n:=n) (has:=false) (s:=s) (p:=([],false)) AV AV
 have hf:=Xd (n:=n) (s:=s) (p:=([],false)) rfl
 unfold Dq wall
 rw [if_neg AV]
 by_cases hx:x=n
 · subst hx;simp [hp.2 hf]
 · simp [hx] at hm ⊢;exact hm
theorem Rm {n:Int} {has:Bool}:∀{s:List Int} {p:List Int×Bool},(s.foldl (Df n has) p).1.length+(if (s.foldl (Df n has) p).2 then 0 else 1)≤p.1.length+(if p.2 then 0 else 1)+s.length
 |[],p=>Nat.le_refl _
 |y::s,p=>by
  rw [List.foldl_cons]
  refine Nat.le_trans Rm ?_
  unfold Df
  repeat' split
  all_goals (simp_all<;>omega)
theorem N7 (s:List Int) (n:Int) (has:Bool):(Dq s n has).length≤s.length+1:=by
 have h:=Rm (n:=n) (has:=has) (s:=s) (p:=([],false))
 unfold Dq wall
 split
 next h2=>rw [h2.2] at h;simp at h ⊢;omega
 next h2=>revert h;split<;>simp<;>omega
def LH (l:List BC) (s:List Int) (add:Bool) (i:Nat):Bool:=(Gn s i !=add)&&CD l (Dq s i add)
def Dm (n:Nat) (l:List BC) (s:List Int) (add:Bool):List Int:=((List.range n).filter (LH l s add)).map fun i:Nat=>(i:Int)
theorem DF {n:Int} {l:List BC} (h:BF n l=0):(0≤n∧n≤24)∧(∀r∈l,FU n r=false)∧D_ l=true∧∀i,i<n.toNat→C5 l n.toNat i i=false:=by
 unfold BF at h
 split at h
 · cases h
 next h1=>
 split at h
 · cases h
 next h2=>
 split at h
 · cases h
 next h3=>
 split at h
 · cases h
 next h4=>
 refine ⟨by omega,fun r hr=> ?_,by simpa using h3,fun i hi=> ?_⟩
 ·
  cases hb:FU n r with
  |false=>rfl
  |true=>exact absurd (List.any_eq_true.2 ⟨r,hr,hb⟩) h2
 ·
  cases hb:C5 l n.toNat i i with
  |false=>rfl
  |true=>exact absurd (show (List.range n.toNat).any (fun i=>C5 l n.toNat i i)=true from List.any_eq_true.2 ⟨i,List.mem_range.2 hi,hb⟩) h4
theorem Zx {n:Int} {l:List BC} {s:List Int} {i:Nat} (h:BF n l=0) (hc:CD l s=true) (hi:i<n.toNat) (hn:(i:Int)∉s):Dm n.toNat l s true≠[]:=by
 obtain ⟨h1,h2,_,h4⟩:=DF h
 have hU:(List.range n.toNat).filter (fun k:Nat=> !Gn s k)≠[]:=by
  intro he
  have:i∈(List.range n.toNat).filter (fun k:Nat=> !Gn s k):=List.mem_filter.2 ⟨List.mem_range.2 hi,by rw [Bool.not_eq_true'];cases hb:Gn s i with|false=>rfl|true=>exact absurd (C3.1 hb) hn⟩
  rw [he] at this;cases this
 obtain ⟨x,hx,hm⟩:=ng (R:=fun a b=>a<n.toNat∧b<n.toNat∧C5 l n.toNat a b=true) (fun a ha=>by have:=h4 a ha.1;rw [ha.2.2] at this;cases this) (fun a b c ⟨g1,g2,g3⟩ ⟨_,g4,g5⟩=>⟨g1,g4,Rj _ g2 g3 g5⟩) hU (fun a b _ _=>Classical.em _)
 obtain ⟨hx1,hx2⟩:=List.mem_filter.1 hx
 rw [List.mem_range] at hx1
 have hx3:(x:Int)∉s:=fun h=>by rw [C3.2 h] at hx2;cases hx2
 intro he
 have:((x:Nat):Int)∈Dm n.toNat l s true:=by
  unfold Dm
  refine List.mem_map.2 ⟨x,List.mem_filter.2 ⟨List.mem_range.2 hx1,?_⟩,rfl⟩
  unfold LH
  rw [Bool.and_eq_true]
  refine ⟨by cases hb:Gn s x with|false=>rfl|true=>exact absurd (C3.1 hb) hx3,Ca.2 fun r hr ht=> ?_⟩
  rw [Ev] at ht ⊢
  by_cases hf:r.fst=x
  · exact .inl hf
  right
  rcases ht with ht|ht
  ·
   have hb:=h2 r hr
   unfold FU at hb
   simp only [decide_eq_false_iff_not] at hb
   by_cases hs:r.fst∈s
   · exact hs
   exfalso
   refine hm r.fst.toNat (List.mem_filter.2 ⟨List.mem_range.2 AA,?_⟩) ⟨by omega,hx1,K1 (List.any_eq_true.2 ⟨r,hr,?_⟩) _⟩
   ·
    rw [show ((r.fst.toNat:Nat):Int)=r.fst by omega,Bool.not_eq_true']
    cases Sf:Gn s r.fst with
    |false=>rfl
    |true=>exact absurd (C3.1 Sf) hs
   · rw [Bool.and_eq_true,decide_eq_true_eq,decide_eq_true_eq];omega
  · exact Ca.1 hc r hr ht
 rw [he] at this;cases this
theorem K2:∀{L M:List Int},L.Nodup→(∀x∈L,x∈M)→L.length≤M.length
 |[],_,_,_=>Nat.zero_le _
 |x::L,M,hn,hs=>by
  rw [List.nodup_cons] at hn
  have h:=K2 (L:=L) (M:=M.erase x) hn.2 (fun y hy=>(List.mem_erase_of_ne (fun e=>hn.1 (by rw [←e];exact hy))).2 (hs y (List.mem_cons_of_mem _ hy)))
  have hx:=hs x AV
  rw [List.length_erase_of_mem hx] at h
  have:=List.length_pos_of_mem hx
  simp;omega
structure N8 (n:Int) (l:List BC) (out done:List Int):Prop where
 mem:∀x,x∈done↔x∈out
 nd:out.Nodup
 QD:∀x∈out,0≤x∧x<n
 cl:CD l done=true
 yR:∀(k:Nat) x,out[k]? =some x→∀r∈l,r.thn=x→r.fst∈out.take k
theorem N8.nil {n:Int} {l:List BC}:N8 n l [] []:=⟨fun x=>Iff.rfl,List.nodup_nil,(fun x h=>by cases h),(Ca.2 fun r _ h=>by cases h),(fun k x h=>by simp at h)⟩
theorem N8.len {n:Int} {l:List BC} {out done:List Int} (h:N8 n l out done):out.length≤n.toNat:=by
 have:=K2 (L:=out) (M:=(List.range n.toNat).map fun i:Nat=>(i:Int)) h.nd (fun x hx=>by have:=h.QD x hx;exact List.mem_map.2 ⟨x.toNat,List.mem_range.2 AA,by omega⟩)
 simpa using this
theorem N8.bes {n:Int} {l:List BC} {out done:List Int} (h:N8 n l out done) (hv:BF n l=0) (hl:out.length<n.toNat):∃x,(Dm n.toNat l done true)[0]? =some x∧N8 n l (out++[x]) (Dq done x true):=by
 have hex:∃i,i<n.toNat∧(i:Int)∉out:=by
  refine Classical.byContradiction fun hne=> ?_
  have hall:∀i,i<n.toNat→(i:Int)∈out:=fun i hi=>Classical.byContradiction fun hh=>hne ⟨i,hi,hh⟩
  have hnd:((List.range n.toNat).map fun i:Nat=>(i:Int)).Nodup:=by
   refine List.Pairwise.map _ (fun a b hab=> ?_) (List.nodup_range (n:=n.toNat))
   intro e;apply hab;omega
  have:=K2 hnd (M:=out) (fun x hx=>by
   obtain ⟨i,hi,rfl⟩:=List.mem_map.1 hx
   exact hall i (List.mem_range.1 hi))
  simp at this;omega
 obtain ⟨i,hi,hio⟩:=hex
 have hne:=Zx hv h.cl hi (fun hh=>hio ((h.mem _).1 hh))
 obtain ⟨x,hx⟩:=at_ (l:=Dm n.toNat l done true) (k:=0) (List.length_pos_iff.2 hne)
 refine ⟨x,hx,?_⟩
 obtain ⟨j,hj,rfl⟩:=List.mem_map.1 (List.mem_of_getElem? hx)
 obtain ⟨hj1,hj2⟩:=List.mem_filter.1 hj
 rw [List.mem_range] at hj1
 unfold LH at hj2
 rw [Bool.and_eq_true] at hj2
 have hjd:(j:Int)∉done:=fun hh=>by rw [C3.2 hh] at hj2;exact absurd hj2.1 AB
 have hjo:(j:Int)∉out:=fun hh=>hjd ((h.mem _).2 hh)
 refine ⟨fun y=> ?_,?_,fun y hy=> ?_,hj2.2,fun k y hk r hr ht=> ?_⟩
 · rw [Ev,h.mem,List.mem_append,List.mem_singleton];exact Or.comm
 ·
  rw [List.nodup_append]
  exact ⟨h.nd,by simp,fun a ha b hb=>by simp at hb;subst hb;intro e;subst e;exact hjo ha⟩
 ·
  rcases List.mem_append.1 hy with hy|hy
  · exact h.QD y hy
  · simp at hy;subst hy;omega
 ·
  rcases Nat.lt_or_ge k out.length with hlt|hge
  ·
   rw [List.getElem?_append_left hlt] at hk
   rw [List.take_append_of_le_length AA]
   exact h.yR k y hk r hr ht
  ·
   have hk2:k=out.length:=by
    rcases Nat.lt_or_ge k (out++[(j:Int)]).length with hh|hh
    · simp at hh;omega
    · rw [List.getElem?_eq_none hh] at hk;cases hk
   subst hk2
   rw [List.getElem?_append_right (Nat.le_refl _)] at hk
   simp at hk;subst hk
   rw [List.take_left]
   have cM:=Ca.1 hj2.2 r hr (Ev.2 (.inl ht))
   rcases Ev.1 cM with he|hm
   ·
    obtain ⟨_,g2,_,_⟩:=DF hv
    have hb:=g2 r hr
    unfold FU at hb
    simp only [decide_eq_false_iff_not] at hb
    omega
   · exact (h.mem _).1 hm
def Ej (l:List BC) (r:BC):Nat:=(l.takeWhile fun x=>Er x r).length
def GJ (l:List BC) (r:BC):List BC:=if l[Ej l r]? =some r then l else l.take (Ej l r)++[r]++l.drop (Ej l r)
theorem QE (l:List BC) (r:BC):Ej l r≤l.length:=by unfold Ej;exact (List.takeWhile_sublist _).length_le
theorem dx {l:List BC} {r:BC} {k:Nat} (hk:k<Ej l r) {x:BC} (hx:l[k]? =some x):Er x r=true:=by
 induction l generalizing k with
 |nil=>simp at hx
 |cons a l ih=>
  unfold Ej at hk
  rw [List.takeWhile_cons] at hk
  split at hk
  next h=>
   cases k with
   |zero=>simp at hx;subst hx;exact h
   |succ k=>exact ih (k:=k) (by simp at hk;exact hk) Gs
  next=>simp at hk
theorem dz {l:List BC} {r:BC} {x:BC} (hx:l[Ej l r]? =some x):Er x r=false:=by
 induction l with
 |nil=>simp at hx
 |cons a l ih=>
  unfold Ej at hx
  rw [List.takeWhile_cons] at hx
  split at hx
  next h=>exact ih (by unfold Ej;simpa using hx)
  next h=>simp at hx;subst hx;simpa using h
theorem d_ {l:List BC} {r:BC} {k:Nat} (hl:k≤l.length) (h:∀j x,j<k→l[j]? =some x→Er x r=true) (he:∀x,l[k]? =some x→Er x r=false):Ej l r=k:=by
 rcases Nat.lt_trichotomy (Ej l r) k with h1|h1|h1
 ·
  obtain ⟨x,hx⟩:=at_ (l:=l) (k:=Ej l r) AA
  have:=h _ x h1 hx;rw [dz hx] at this;cases this
 · exact h1
 ·
  obtain ⟨x,hx⟩:=at_ (l:=l) (k:=k) (by have:=QE l r;omega)
  have:=he x hx;rw [dx h1 hx] at this;cases this
theorem Rn (l:List BC) (r:BC):(GJ l r).length≤l.length+1:=by
 have:=QE l r
 unfold GJ;split<;>simp<;>omega
theorem Xe {l:List BC} {r x:BC}:x∈GJ l r↔x=r∨x∈l:=by
 unfold GJ;split
 next h=>exact ⟨.inr,fun h2=>h2.elim (fun e=>by subst e;exact List.mem_of_getElem? h) id⟩
 next=>rw [List.append_assoc,List.mem_append,List.mem_append,List.mem_singleton,←or_assoc,or_comm (a:=x∈_) (b:=x=r),or_assoc,←List.mem_append,List.take_append_drop]
theorem nh {a b:BC} (h:Er a b=false) (hn:a≠b):Er b a=true:=by
 unfold Er at*
 obtain ⟨a1,a2⟩:=a
 obtain ⟨b1,b2⟩:=b
 simp only [ne_eq,BC.mk.injEq,not_and] at*
 repeat' split at h
 all_goals repeat' split
 all_goals simp only [decide_eq_true_eq,decide_eq_false_iff_not] at*
 all_goals omega
theorem MK {l:List BC}:D_ l=true↔∀j a b,l[j]? =some a→l[j+1]? =some b→Er a b=true:=by
 induction l with
 |nil=>exact ⟨fun _ j a b h=>by simp at h,fun _=>rfl⟩
 |cons x l ih=>
  cases l with
  |nil=>exact ⟨fun _ j a b _ h=>by simp at h,fun _=>rfl⟩
  |cons y l=>
   unfold D_
   rw [Bool.and_eq_true,ih]
   refine ⟨fun ⟨h1,h2⟩ j a b ha hb=> ?_,fun h=>⟨h 0 x y rfl rfl,fun j a b ha hb=>h (j+1) a b bu FX⟩⟩
   cases j with
   |zero=>simp at ha hb;subst ha;subst hb;exact h1
   |succ j=>exact h2 j a b bu FX
theorem On {l:List BC} {r:BC} (h:D_ l=true):D_ (GJ l r)=true:=by
 unfold GJ;split
 next=>exact h
 next hne=>
 rw [MK] at h ⊢
 have hp:=QE l r
 intro j a b ha hb
 rw [List.append_assoc] at ha hb
 rcases Nat.lt_trichotomy (j+1) (Ej l r) with h1|h1|h1
 ·
  rw [List.getElem?_append_left Ir,List.getElem?_take,if_pos AA] at ha hb
  exact h j a b ha hb
 ·
  rw [List.getElem?_append_left Ir,List.getElem?_take,if_pos AA] at ha
  rw [List.getElem?_append_right Ir,List.length_take,show j+1-min (Ej l r) l.length=0 by omega] at hb
  simp at hb;subst hb
  exact dx AA ha
 ·
  rw [List.getElem?_append_right Ir,List.length_take,show j-min (Ej l r) l.length=j-Ej l r by omega] at ha
  rw [List.getElem?_append_right Ir,List.length_take,show j+1-min (Ej l r) l.length=(j-Ej l r)+1 by omega] at hb
  simp only [List.singleton_append,List.getElem?_cons_succ,List.getElem?_drop] at hb
  rcases Nat.eq_zero_or_pos (j-Ej l r) with h2|h2
  ·
   rw [h2] at ha hb
   simp at ha;subst ha
   simp at hb
   exact nh (dz hb) (fun e=>hne (by rw [hb,e]))
  ·
   obtain ⟨i,hi⟩:∃i,j-Ej l r=i+1:=⟨j-Ej l r-1,by omega⟩
   rw [hi] at ha hb
   simp only [List.singleton_append,List.getElem?_cons_succ,List.getElem?_drop] at ha
   exact h (Ej l r+i) a b ha (by rw [show Ej l r+i+1=Ej l r+(i+1) by omega];exact hb)
theorem QF {l:List BC} (h:∀r∈l,r.fst<r.thn):∀(k:Nat) {a b:Nat},C5 l k a b=true→a<b
 |0,a,b,hb=>by
  obtain ⟨r,hr,h2⟩:=List.any_eq_true.1 hb
  rw [Bool.and_eq_true,decide_eq_true_eq,decide_eq_true_eq] at h2
  have:=h r hr;omega
 |k+1,a,b,hb=>by
  simp only [C5,KP,Bool.or_eq_true,Bool.and_eq_true] at hb
  rcases hb with hb|⟨h1,h2⟩
  · exact QF h k hb
  · have:=QF h k h1;have:=QF h k h2;omega
theorem nj {n:Nat} {l:List BC} (hn:n≤24) (h:∀r∈l,(0≤r.fst∧r.fst<r.thn)∧r.thn<n) (hs:D_ l=true):BF n l=0:=by
 unfold BF
 rw [if_neg AA,if_neg ?_,if_neg (by simp [hs]),if_neg ?_]
 ·
  intro hc
  obtain ⟨i,_,hi⟩:=List.any_eq_true.1 hc
  have:=QF (fun r hr=>(h r hr).1.2) _ hi;omega
 ·
  intro hc
  obtain ⟨r,hr,hb⟩:=List.any_eq_true.1 hc
  unfold FU at hb
  rw [decide_eq_true_eq] at hb
  have:=h r hr;omega
theorem Gy {s:List Int} {n:Int} (h:n∉s):(Dq s n true).length=s.length+1:=by
 have key:∀(s:List Int) (p:List Int×Bool),n∉s→(s.foldl (Df n true) p).1.length+(if (s.foldl (Df n true) p).2 then 0 else 1)=p.1.length+(if p.2 then 0 else 1)+s.length:=by
  intro s
  induction s with
  |nil=>intro p _;rfl
  |cons y s ih=>
   intro p hp
   rw [List.foldl_cons,ih _ (fun hh=>hp (List.mem_cons_of_mem _ hh))]
   unfold Df
   rw [if_neg (fun e=>hp (by rw [e];simp))]
   split
   next h2=>simp [h2.2.1];omega
   next h2=>simp;omega
 have h2:=key s ([],false) h
 unfold Dq wall
 split
 next h3=>rw [h3.2] at h2;simp at h2 ⊢;omega
 next h3=>simp only [true_and,Bool.not_eq_false] at h3;rw [h3] at h2;simp at h2 ⊢;omega
def Da (n:Nat) (l:List BC):Nat→List Int×List Int
 |0=>([],[])
 |k+1=>match (Dm n l (Da n l k).2 true)[0]? with
  |none=>Da n l k
  |some x=>((Da n l k).1++[x],Dq (Da n l k).2 x true)
theorem JL {n:Int} {l:List BC} (hv:BF n l=0):∀(k:Nat),k≤n.toNat→N8 n l (Da n.toNat l k).1 (Da n.toNat l k).2∧(Da n.toNat l k).1.length=k
 |0,_=>⟨N8.nil,rfl⟩
 |k+1,hk=>by
  obtain ⟨h1,h2⟩:=JL hv k AA
  obtain ⟨x,hx,hr⟩:=h1.bes hv AA
  unfold Da
  rw [hx]
  exact ⟨hr,by simp [h2]⟩
theorem Xf {n:Int} {l:List BC} (hv:BF n l=0) {k:Nat} (hk:k<n.toNat):∃x,(Dm n.toNat l (Da n.toNat l k).2 true)[0]? =some x∧Da n.toNat l (k+1)=((Da n.toNat l k).1++[x],Dq (Da n.toNat l k).2 x true):=by
 obtain ⟨h1,h2⟩:=JL hv k AA
 obtain ⟨x,hx,_⟩:=h1.bes hv AA
 exact ⟨x,hx,by rw [Da];rw [hx]⟩
theorem ACz {d:Nat} {w:World} {x0 y0:Int} {x1 y1:Int}:(Op.equalIn (d+2) 61 (.agg #[.int .i64 x0,.int .i64 x1]) (.agg #[.int .i64 y0,.int .i64 y1])).run Tryz.prog w= .ok (decide (x0=y0∧x1=y1)) w:=by
 have h:=eqS (w:=w) (d:=d+1) (xs:= #[.int .i64 x0,.int .i64 x1]) (ys:= #[.int .i64 y0,.int .i64 y1]) Tryz.underlying61 BS (E_ AB (CJ C8 rfl) (CJ C8 rfl) (GW (d:=d+0) Tryz.underlying3) (E_ AB (CJ C8 rfl) (CJ C8 rfl) (GW (d:=d+0) Tryz.underlying3) (Mu)))
 refine h.trans (congrArg (fun b=>Result.ok b w) ?_)
 rw [Bool.eq_iff_iff];simp [and_assoc]
theorem uF {E:Env} {I:Ck} {o:Oper} {u:TypeId} {x y:Operand} {x0 y0:Int} {x1 y1:Int} (ho:o.op= .binOp .eql 61 x y u) (hx:VL E x (agg [is (.int .i64 x0),is (.int .i64 x1)])) (hy:VL E y (agg [is (.int .i64 y0),is (.int .i64 y1)])):Ag Tryz.prog I o E (bool (decide (x0=y0∧x1=y1))):=
 Mt [.int .i64 x0,.int .i64 x1] [.int .i64 y0,.int .i64 y1] ho hx hy BS (fun w=>by rw [show Op.equal 61 _ _=Op.equalIn (9998+2) 61 _ _ from rfl];exact ACz)
abbrev O2 (r:BC):List Pr:=[int r.fst,int r.thn]
abbrev reqs (l:List BC):Pr:=slice 2 (l.map O2)
theorem Tz {a b:BC}  :BG prog 186 [agg (O2 a),agg (O2 b)] (bool (Er a b)):=by
 refine fo func186 rfl ⟨rfl,rfl⟩ fun M0 w0=> ?_
 · repeat' first|(refine bool_eq ?_;unfold Er;split<;>first|rfl|(exfalso;omega))|(refine bool_eq ?_;unfold Er;split<;>rfl)|refine ac ?_|(refine Tr.cn rfl ?_ ?_<;>intro h q)
theorem Ro {l:List BC} {r:BC} (hl:l.length≤1000000):BG prog 150 [reqs l,agg (O2 r)] (reqs (GJ l r)):=by
 refine BG.of func150 rfl rfl Ao fun M0 w0=> ?_
 refine Tr.Cm 0 rfl fun EJ=> ?_
 have hml:(l.map O2).length=l.length:=List.length_map _
 have AHP:=QE l r
 refine Tr.seq (Tr.Aj (co rfl (Bb rfl (Va rfl)) (cm rfl (Ch.nil (Fin.go (Tr.seq (Tr.Aj (cm rfl (Ch.nil (Fin.go (GU 0 3 5 rfl (Tr.U5 [0,3] [(5,int ((Ej l r:Nat):Int))] (True) ?_ (fun h1=> ?_)))))))))))))
 refine Tr.block (Tr.BH [(0,_),(3,_)] (Y_ rfl) (fun k:Nat=>[(5,int ((k:Nat):Int))]) (fun k:Nat=>k≤l.length∧(∀j y,j<k→l[j]? =some y→Er y r=true)) (fun k:Nat=>l.length-k) 0 (⟨Nat.zero_le _,fun j y hj=>absurd hj AA⟩) ⟨ke rfl,trivial⟩ ?_)
 rintro k ⟨BU,hinv⟩
 refine Tr.seq (Tr.seq (Tr.Y0 mixed BS (cm rfl (cm rfl (co rfl (CB rfl underlying33 (vl rfl)) (co rfl (ki rfl rfl rfl rfl) (cm rfl ?_)))))))
 refine Ch.cs 11 rfl ?_ ?_<;>intro h2 q2
 obtain ⟨x,hx⟩:=at_ (l:=l) (k:=k) AA
 refine LR h2 rfl (LR h2 rfl (cy h2 rfl (AD rfl underlying33 Cw (vl rfl) (vl rfl) AA (AX hx)) (cy h2 rfl (AP rfl Fe Cw (vl rfl) rfl rfl) (cy h2 rfl (AP rfl Fe Cw (vl rfl) rfl rfl) (cy h2 rfl (AR rfl (Tz) ⟨ke rfl,ke rfl,trivial⟩) (co rfl (Pk rfl rfl h2 rfl) (Ch.nil (Fin.go (So 0 3 5 18 rfl ?_)))))))))
 refine Tr.cn rfl ?_ ?_<;>intro h3 q3
 have hq:=h3
 refine Tr.skip (Fin.go (Tr.block (Tr.Aj (cm rfl (MV rfl rfl rfl rfl AA (cm rfl (Ch.nil (Fin.block ?_))))))))
 exact Fin.AL (k+1) ⟨⟨by omega,fun j y hj hy=>by rcases Nat.lt_or_ge j k with h_|h_;exact hinv j y h_ hy;(obtain rfl:j=k:=by omega);rw [hx] at hy;cases hy;exact hq⟩,by omega⟩ ⟨⟨_,rfl,AG k⟩,ke rfl,ke rfl,trivial⟩
 have hp:Ej l r=k:=d_ BU hinv (fun y hy=>by rw [hx] at hy;cases hy;exact h3)
 refine Tr.exit (Fin.Ac (Fin.Ac (Fin.A7 (Fin.AL () trivial ⟨⟨_,rfl,int_eq (by rw [hp])⟩,ke rfl,ke rfl,trivial⟩))))
 have hp:Ej l r=k:=d_ BU hinv (fun y hy=>by have:=BM hy;have:=q2;omega)
 iterate 6 refine cnt h2 rfl ?_
 refine co rfl (LS rfl rfl h2 rfl) (Ch.nil (Fin.go (So 0 3 5 18 rfl (Tr.cond rfl (fun h=>nomatch h) (fun _=> ?_)))))
 refine Tr.exit (Fin.Ac (Fin.Ac (Fin.A7 (Fin.AL () trivial ⟨⟨_,rfl,int_eq (by rw [hp])⟩,ke rfl,ke rfl,trivial⟩))))
 refine Tr.seq (Tr.seq (Tr.Y0 mixed BS (cm rfl (cm rfl (co rfl (CB rfl underlying33 (vl rfl)) (co rfl (ki rfl rfl rfl rfl) (cm rfl ?_)))))))
 refine Ch.cs 25 rfl ?_ ?_<;>intro h4 q4
 obtain ⟨x2,hx2⟩:=at_ (l:=l) (k:=Ej l r) AA
 refine LR h4 rfl (LR h4 rfl (cy h4 rfl (AD rfl underlying33 Cw (vl rfl) (vl rfl) AA (AX hx2)) (cy h4 rfl (AP rfl Fe Cw (vl rfl) rfl rfl) (cy h4 rfl (AP rfl Fe Cw (vl rfl) rfl rfl) (cy h4 rfl (uF rfl (vl rfl) (vl rfl)) (co rfl (Pk rfl rfl h4 rfl) (Ch.nil (Fin.go (So 0 3 5 32 rfl ?_)))))))))
 refine Tr.cn rfl ?_ ?_<;>intro h5 q5
 have hput:GJ l r=l:=if_pos (by rw [hx2];have h_:=q5;cases x2;cases r;simp_all)
 refine Tr.seq (Tr.Aj (cm rfl (cm rfl (Ch.nil (Fin.go (Tr.ret (Fin.AE (Fin.LB rfl (Bg.Dc _ _) rfl ?_))))))))
 · rw [hput];exact Lr
 have hput:GJ l r=l.take (Ej l r)++[r]++l.drop (Ej l r):=if_neg (by rw [hx2];intro h_;cases h_;have h_:=q5;simp at h_)
 refine Tr.skip (Fin.go (Tr.seq (Tr.An (tm rfl (tm rfl (tp rfl (DY rfl underlying33 Cw (vl rfl) (vl rfl) AA AA) (TO.pad ?_)))))))
 refine TO.DT 0 rfl rfl AB (EB rfl rfl AB rfl underlying33 Cw Sr Sj rfl AB ⟨_,rfl,AQ _⟩ (vl rfl) Ip Iq (Br BL ⟨_,rfl,Cr 1⟩)) (fun v1=> ?_)
 refine tm rfl (TO.nil (Fin.go (Tr.seq (Tr.An (tm rfl (tp rfl (AP rfl Fe Cw (vl rfl) rfl rfl) (tp rfl (AO (xs:=[.tmp 39]) (rows:=[_]) rfl rfl underlying33 Cw Sj rfl AB ⟨⟨Am,(Va rfl)⟩,trivial⟩ AB) ?_)))))))
 refine TO.DT 0 rfl rfl AB (B7 rfl rfl rfl rfl underlying33 Cw Sr Sj (Kb rfl) (Kf rfl) (Ay BL (Ka rfl))) (fun v2=> ?_)
 refine tm rfl (TO.nil (Fin.go (GU 0 5 6 rfl (Tr.seq (Tr.An (tm rfl (tm rfl (tm rfl (tp rfl (DL rfl underlying33 Cw (vl rfl) (vl rfl) AA AA) ?_)))))))))
 refine TO.DT 0 rfl rfl AB (B7 rfl rfl rfl rfl underlying33 Cw Sr Sj (Kb rfl) (vl rfl) (Ay BL (Ka rfl))) (fun v3=> ?_)
 refine tm rfl (TO.nil (Fin.go (Tr.ret (Fin.LB rfl (Bg.Dc _ _) rfl ?_))))
 · exact j4
 have hput:GJ l r=l.take (Ej l r)++[r]++l.drop (Ej l r):=if_neg (by rw [List.getElem?_eq_none (by have:=q4;omega)];simp)
 iterate 6 refine cnt h4 rfl ?_
 refine co rfl (LS rfl rfl h4 rfl) (Ch.nil (Fin.go (So 0 3 5 32 rfl (Tr.cond rfl (fun h=>nomatch h) (fun _=> ?_)))))
 refine Tr.skip (Fin.go (Tr.seq (Tr.An (tm rfl (tm rfl (tp rfl (DY rfl underlying33 Cw (vl rfl) (vl rfl) AA AA) (TO.pad ?_)))))))
 refine TO.DT 0 rfl rfl AB (EB rfl rfl AB rfl underlying33 Cw Sr Sj rfl AB ⟨_,rfl,AQ _⟩ (vl rfl) Ip Iq (Br BL ⟨_,rfl,Cr 1⟩)) (fun v4=> ?_)
 refine tm rfl (TO.nil (Fin.go (Tr.seq (Tr.An (tm rfl (tp rfl (AP rfl Fe Cw (vl rfl) rfl rfl) (tp rfl (AO (xs:=[.tmp 39]) (rows:=[_]) rfl rfl underlying33 Cw Sj rfl AB ⟨⟨Am,(Va rfl)⟩,trivial⟩ AB) ?_)))))))
 refine TO.DT 0 rfl rfl AB (B7 rfl rfl rfl rfl underlying33 Cw Sr Sj (Kb rfl) (Kf rfl) (Ay BL (Ka rfl))) (fun v5=> ?_)
 refine tm rfl (TO.nil (Fin.go (GU 0 5 6 rfl (Tr.seq (Tr.An (tm rfl (tm rfl (tm rfl (tp rfl (DL rfl underlying33 Cw (vl rfl) (vl rfl) AA AA) ?_)))))))))
 refine TO.DT 0 rfl rfl AB (B7 rfl rfl rfl rfl underlying33 Cw Sr Sj (Kb rfl) (vl rfl) (Ay BL (Ka rfl))) (fun v6=> ?_)
 refine tm rfl (TO.nil (Fin.go (Tr.ret (Fin.LB rfl (Bg.Dc _ _) rfl ?_))))
 · exact j4
theorem GY (l:List BC):∀(a:List BC),(l.foldl GJ a).length≤a.length+l.length:=by
 induction l with
 |nil=>intro a;simp
 |cons x l ih=>intro a;have h1:=ih (GJ a x);have h2:=Rn a x;simp only [List.foldl_cons,List.length_cons];omega
theorem N9 (l:List BC):∀{a:List BC},D_ a=true→D_ (l.foldl GJ a)=true:=by
 induction l with
 |nil=>intro a h;exact h
 |cons x l ih=>intro a h;exact ih (On h)
theorem S0 (l:List BC):∀{a:List BC} {x:BC},x∈l.foldl GJ a↔x∈a∨x∈l:=by
 induction l with
 |nil=>intro a x;simp
 |cons y l ih=>intro a x;rw [List.foldl_cons,ih,Xe,List.mem_cons,or_comm (a:=x=y),or_assoc]
def Rp (a b:List BC):List BC:=b.foldl GJ (a.foldl GJ [])
theorem T0 {β γ:Type} {f:γ→β→γ} {a:γ} {l:List β} {k:Nat} {x:β} (h:l[k]? =some x):(l.take (k+1)).foldl f a=f ((l.take k).foldl f a) x:=by rw [List.take_add_one,h,List.foldl_append];rfl
theorem Zy {a b:List BC} (ha:a.length≤100000) (hb:b.length≤100000):BG prog 97 [reqs a,reqs b] (reqs (Rp a b)):=by
 refine BG.of func97 rfl rfl Ao fun M0 w0=> ?_
 refine Tr.Cm 0 rfl fun EJ=>(Tr.Cm 1 rfl fun Fo=>(Tr.seq (Tr.Aj (cm rfl (Ch.nil (Fin.go (Tr.seq (Tr.Aj (cm rfl (Ch.nil (Fin.go (Tr.seq (Tr.seq (Tr.Aj ?_))))))))))))))
 refine cm rfl (co rfl (CB rfl underlying33 (vl rfl)) (cm rfl (Ch.nil (Fin.go (Tr.block (Tr.BH [(1,_),(10,_),(11,_)] (kk3 rfl) (fun k:Nat=>[(12,int ((k:Nat):Int)),(5,reqs ((a.take k).foldl GJ []))]) (fun k:Nat=>k≤(a).length) (fun k:Nat=>(a).length-k) 0 (Nat.zero_le _) ⟨ke rfl,⟨_,rfl,AQ 2⟩,trivial⟩ ?_))))))
 rintro k BU
 refine Tr.seq (Tr.Aj (co rfl (ki rfl rfl rfl rfl) (Ch.nil (Fin.go (Tr.seq ?_)))))
 refine Tr.cn rfl ?_ ?_<;>intro h1 q1
 have Af:k<(a).length:=AH h1
 obtain ⟨x,Ah⟩:=at_ Af
 have W0:=GY (a.take k) []
 rw [List.length_take] at W0
 have yS:((a.take k).foldl GJ []).length≤1000000:=by simp at W0;omega
 refine Tr.skip (Fin.go (Tr.seq (Tr.block (Tr.seq (Tr.An (tp rfl (AD rfl underlying33 Cw (vl rfl) (vl rfl) AA (AX Ah)) (tp rfl (AP rfl Fe Cw (vl rfl) rfl rfl) ?_)))))))
 refine Tl rfl rfl rfl rfl Sj Q8 (fun b1=> ?_)
 refine TO.AK 0 rfl rfl rfl (vl rfl) (Va rfl) rfl Cw rfl rfl (TO.freeze 0 7 rfl rfl (TO.nil (Fin.go (Tr.Aj (cm rfl (co rfl (AP rfl Fe Cw (vl rfl) rfl rfl) (co rfl (AR rfl (Ro yS) ⟨ke rfl,ke rfl,trivial⟩) (cm rfl (Ch.nil (Fin.block (Fin.go (wk5 1 5 10 11 12 rfl (Tr.Aj ?_)))))))))))))
 refine MV rfl rfl rfl rfl AA (cm rfl (Ch.nil (Fin.AL (k+1) ⟨Af,by omega⟩ ⟨⟨_,rfl,AG k⟩,⟨_,rfl,Pr.le_of_eq (by rw [T0 Ah])⟩,ke rfl,ke rfl,ke rfl,trivial⟩)))
 have BK:k=(a).length:=by have:=AJ h1;omega
 subst BK
 rw [List.take_length]
 refine Tr.exit (Fin.Ac (Fin.Ac (Fin.A7 (Fin.go (Tr.seq (Tr.seq (Tr.Aj (cm rfl (co rfl (CB rfl underlying33 (vl rfl)) (cm rfl (Ch.nil (Fin.go (Tr.block (Tr.BH [(20,_),(21,_)] (Y_ rfl) (fun m:Nat=>[(22,int ((m:Nat):Int)),(5,reqs ((b.take m).foldl GJ (a.foldl GJ [])))]) (fun m:Nat=>m≤(b).length) (fun m:Nat=>(b).length-m) 0 (Nat.zero_le _) ⟨ke rfl,ke rfl,trivial⟩ ?_))))))))))))))
 rintro m NC
 refine Tr.seq (Tr.Aj (co rfl (ki rfl rfl rfl rfl) (Ch.nil (Fin.go (Tr.seq ?_)))))
 refine Tr.cn rfl ?_ ?_<;>intro h2 q2
 have EZ:m<(b).length:=AH h2
 obtain ⟨x,Ee⟩:=at_ EZ
 have W0:=GY (b.take m) (a.foldl GJ [])
 rw [List.length_take] at W0
 have yS:((b.take m).foldl GJ (a.foldl GJ [])).length≤1000000:=by have:=GY a [];simp at this;omega
 refine Tr.skip (Fin.go (Tr.seq (Tr.block (Tr.seq (Tr.An (tp rfl (AD rfl underlying33 Cw (vl rfl) (vl rfl) AA (AX Ee)) (tp rfl (AP rfl Fe Cw (vl rfl) rfl rfl) ?_)))))))
 refine Tl rfl rfl rfl rfl Sj Q8 (fun b2=> ?_)
 refine TO.AK 0 rfl rfl rfl (vl rfl) (Va rfl) rfl Cw rfl rfl (TO.freeze 0 9 rfl rfl (TO.nil (Fin.go (Tr.Aj (cm rfl (co rfl (AP rfl Fe Cw (vl rfl) rfl rfl) (co rfl (AR rfl (Ro yS) ⟨ke rfl,ke rfl,trivial⟩) (cm rfl (Ch.nil (Fin.block (Fin.go (So 5 20 21 22 rfl (Tr.Aj ?_)))))))))))))
 refine MV rfl rfl rfl rfl AA (cm rfl (Ch.nil (Fin.AL (m+1) ⟨EZ,by omega⟩ ⟨⟨_,rfl,AG m⟩,⟨_,rfl,Pr.le_of_eq (by rw [T0 Ee])⟩,ke rfl,ke rfl,trivial⟩)))
 have KI:m=(b).length:=by have:=AJ h2;omega
 subst KI
 rw [List.take_length]
 refine Tr.exit (Fin.Ac (Fin.Ac (Fin.A7 (Fin.go (Tr.seq (Tr.Aj (cm rfl (cm rfl (Ch.nil (Fin.go (Tr.ret (Fin.LB rfl (Bg.Dc _ _) rfl ?_))))))))))))
 · exact Lr
theorem Fq {l:List Int} {v:Int}  :BG prog 22 [ints l,int v] (bool (Gn l v)):=by
 refine BG.of func22 rfl rfl Ao fun M0 w0=> ?_
 refine Tr.Cm 0 rfl fun EJ=>(Tr.seq (Tr.Aj (cm rfl (Ch.nil (Fin.go (Tr.seq (Tr.seq (Tr.Aj (cm rfl (co rfl (CB rfl underlying51 (vl rfl)) (cm rfl (Ch.nil (Fin.go (Tr.block ?_))))))))))))))
 refine Tr.BH [(1,_),(7,_),(8,_)] (kk3 rfl) (fun k:Nat=>[(9,int ((k:Nat):Int))]) (fun k:Nat=>k≤(l).length∧(Gn (l.take k) v=false)) (fun k:Nat=>(l).length-k) 0 (⟨Nat.zero_le _,rfl⟩) ⟨ke rfl,trivial⟩ ?_
 rintro k ⟨BU,AZ⟩
 refine Tr.seq (Tr.Aj (co rfl (ki rfl rfl rfl rfl) (Ch.nil (Fin.go (Tr.seq ?_)))))
 refine Tr.cn rfl ?_ ?_<;>intro h1 q1
 have Af:k<(l).length:=AH h1
 obtain ⟨x,Ah⟩:=at_ Af
 refine Tr.skip (Fin.go (Tr.seq (Tr.block (Tr.seq (Tr.Aj (co rfl (AD rfl underlying51 Bt (vl rfl) (vl rfl) AA (AX Ah)) (co rfl (Fw rfl C8 rfl) (cm rfl (Ch.nil (Fin.go (Tr.seq (Tr.Aj (cm rfl ?_)))))))))))))
 refine cm rfl (co rfl (ki rfl rfl rfl rfl) (Ch.nil (Fin.go ?_)))
 refine Tr.cn rfl ?_ ?_<;>intro h2 q2
 refine Tr.seq (Tr.Aj (cm rfl (Ch.nil (Fin.go (Tr.ret (Fin.AU (Fin.AE (Fin.AE (Fin.AU (Fin.AE (Fin.LB rfl (Bg.Dc _ _) rfl ?_)))))))))))
 · refine bool_eq ?_;symm;unfold Gn;rw [List.any_eq_true];exact ⟨_,List.mem_of_getElem? Ah,by simp_all⟩
 refine Tr.skip (Fin.block (Fin.go (Tr.Aj (MV rfl rfl rfl rfl AA (cm rfl (Ch.nil ?_))))))
 exact Fin.AL (k+1) ⟨⟨Af,(by unfold Gn at AZ ⊢;rw [List.take_add_one,Ah,List.any_append,AZ];simp;omega)⟩,by omega⟩ ⟨⟨_,rfl,AG k⟩,ke rfl,ke rfl,ke rfl,trivial⟩
 have BK:k=(l).length:=by have:=AJ h1;omega
 subst BK
 refine Tr.exit (Fin.Ac (Fin.Ac (Fin.A7 (Fin.go (Tr.seq (Tr.Aj (cm rfl (Ch.nil (Fin.go (Tr.ret (Fin.LB rfl (Bg.Dc _ _) rfl ?_)))))))))))
 · exact Ue
theorem Oo {l:List BC} {s:List Int}  :BG prog 83 [reqs l,ints s] (bool (CD l s)):=by
 refine BG.of func83 rfl rfl Ao fun M0 w0=> ?_
 refine Tr.Cm 0 rfl fun EJ=>(Tr.seq (Tr.Aj (cm rfl (Ch.nil (Fin.go (Tr.seq (Tr.seq (Tr.Aj (cm rfl (co rfl (CB rfl underlying33 (vl rfl)) (cm rfl (Ch.nil (Fin.go (Tr.block ?_))))))))))))))
 refine Tr.BH [(1,_),(7,_),(8,_)] (kk3 rfl) (fun k:Nat=>[(9,int ((k:Nat):Int))]) (fun k:Nat=>k≤(l).length∧(CD (l.take k) s=true)) (fun k:Nat=>(l).length-k) 0 (⟨Nat.zero_le _,rfl⟩) ⟨ke rfl,trivial⟩ ?_
 rintro k ⟨BU,AZ⟩
 refine Tr.seq (Tr.Aj (co rfl (ki rfl rfl rfl rfl) (Ch.nil (Fin.go (Tr.seq ?_)))))
 refine Tr.cn rfl ?_ ?_<;>intro h1 q1
 have Af:k<(l).length:=AH h1
 obtain ⟨r,Ah⟩:=at_ Af
 refine Tr.skip (Fin.go (Tr.seq (Tr.block (Tr.seq (Tr.An (tp rfl (AD rfl underlying33 Cw (vl rfl) (vl rfl) AA (AX Ah)) (tp rfl (AP rfl Fe Cw (vl rfl) rfl rfl) ?_)))))))
 refine Tl rfl rfl rfl rfl Sj Q8 (fun b1=> ?_)
 refine TO.AK 0 rfl rfl rfl (vl rfl) (Va rfl) rfl Cw rfl rfl (TO.freeze 0 6 rfl rfl (TO.nil (Fin.go (Tr.seq (Tr.Aj (cm rfl (co rfl (NT rfl ZI rfl rfl) (co rfl (Fw rfl C8 rfl) (co rfl (AR rfl (Fq) ⟨ke rfl,ke rfl,trivial⟩) (cm rfl ?_))))))))))
 refine Ch.cs 17 rfl ?_ ?_<;>intro h2 q2
 refine LR h2 rfl (cy h2 rfl (NT rfl ZH rfl rfl) (cy h2 rfl (Fw rfl C8 rfl) (cy h2 rfl (AR rfl (Fq) ⟨ke rfl,ke rfl,trivial⟩) (cy h2 rfl (HB rfl (vl rfl)) (co rfl (Pk rfl rfl h2 rfl) (Ch.nil (Fin.go (wk5 1 7 8 9 23 rfl ?_))))))))
 refine Tr.cn rfl ?_ ?_<;>intro h3 q3
 refine Tr.seq (Tr.Aj (cm rfl (Ch.nil (Fin.go (Tr.ret (Fin.AU (Fin.AE (Fin.AE (Fin.AU (Fin.AE (Fin.LB rfl (Bg.Dc _ _) rfl ?_)))))))))))
 · refine bool_eq ?_;symm;unfold CD;rw [List.all_eq_false];exact ⟨_,List.mem_of_getElem? Ah,by simp_all⟩
 refine Tr.skip (Fin.block (Fin.go (Tr.Aj (MV rfl rfl rfl rfl AA (cm rfl (Ch.nil ?_))))))
 exact Fin.AL (k+1) ⟨⟨Af,bL⟩,by omega⟩ ⟨⟨_,rfl,AG k⟩,ke rfl,ke rfl,ke rfl,trivial⟩
 iterate 5 refine cnt h2 rfl ?_
 refine co rfl (LS rfl rfl h2 rfl) (Ch.nil (Fin.go (wk5 1 7 8 9 23 rfl (Tr.cond rfl (fun h=>nomatch h) (fun _=> ?_)))))
 refine Tr.skip (Fin.block (Fin.go (Tr.Aj (MV rfl rfl rfl rfl AA (cm rfl (Ch.nil ?_))))))
 exact Fin.AL (k+1) ⟨⟨Af,bL⟩,by omega⟩ ⟨⟨_,rfl,AG k⟩,ke rfl,ke rfl,ke rfl,trivial⟩
 have BK:k=(l).length:=by have:=AJ h1;omega
 subst BK
 refine Tr.exit (Fin.Ac (Fin.Ac (Fin.A7 (Fin.go (Tr.seq (Tr.Aj (cm rfl (Ch.nil (Fin.go (Tr.ret (Fin.LB rfl (Bg.Dc _ _) rfl ?_)))))))))))
 · exact Ue
theorem T2 (n:Int) (has:Bool) (s:List Int):(wall n has s).1.length≤s.length+1:=by
 have h:=Rm (n:=n) (has:=has) (s:=s) (p:=([],false))
 unfold wall;revert h;split<;>simp<;>omega
theorem Xg (n:Nat) (l:List BC) (s:List Int) (add:Bool):(Dm n l s add).length≤n:=by unfold Dm;rw [List.length_map];exact Nat.le_trans (List.length_filter_le _ _) Qi
theorem nk {n:Nat} {l:List BC} {s:List Int} {add:Bool} (h:LH l s add n=true):Dm (n+1) l s add=Dm n l s add++[(n:Int)]:=by unfold Dm;rw [List.range_succ,List.filter_append,List.map_append];simp [h]
theorem eA {n:Nat} {l:List BC} {s:List Int} {add:Bool} (h:LH l s add n=false):Dm (n+1) l s add=Dm n l s add:=by unfold Dm;rw [List.range_succ,List.filter_append,List.map_append];simp [h]
theorem fS {n:Int} {has:Bool} {s:List Int} {k:Nat} {x:Int} (h:s[k]? =some x):wall n has (s.take (k+1))=Df n has (wall n has (s.take k)) x:=by
 rw [List.take_add_one,h];exact iD n has _ x
theorem G4 {s:List Int} {n:Int} {has:Bool} (hs:s.length≤1000000):BG prog 159 [ints s,int n,bool has] (ints (Dq s n has)):=by
 refine BG.of func159 rfl rfl Ao fun M0 w0=> ?_
 refine Tr.Cm 0 rfl fun EJ=>(Tr.seq (Tr.Aj (cm rfl (Ch.nil (Fin.go (Tr.seq (Tr.Aj (cm rfl (Ch.nil (Fin.go (Tr.seq (Tr.Aj (cm rfl ?_)))))))))))))
 refine Ch.nil (Fin.go (Tr.seq (Tr.seq (Tr.Aj (cm rfl ?_)))))
 first|refine co rfl (CB rfl underlying51 (vl rfl)) ?_|refine co rfl (Ce rfl underlying51 (vl rfl)) ?_
 refine cm rfl (Ch.nil (Fin.go (Tr.block (Tr.B5 3 1 (Tr.EO [(1,_),(2,_),(11,_),(12,_)] ⟨ke rfl,ke rfl,ke rfl,ke rfl,trivial⟩ (fun k v=>[(13,int ((k:Nat):Int)),(8,bool (wall n has (s.take k)).2),(7,Ad v (ints (wall n has (s.take k)).1))]) (fun k v=>Hp M0 w0 FO ([Aw 3 1 v])) (fun k:Nat=>k≤(s).length) (fun k:Nat=>(s).length-k) 0 (.slice none 0 0) (Nat.zero_le _) ⟨ke rfl,⟨_,rfl,bool_eq rfl⟩,⟨_,rfl,Bi rfl⟩,trivial⟩ (fun _ _ h=>h) ?_)))))
 rintro k v BU
 refine Tr.seq (Tr.Aj (co rfl (ki rfl rfl rfl rfl) (Ch.nil (Fin.go (Tr.seq ?_)))))
 refine Tr.cn rfl ?_ ?_<;>intro h1 q1
 have Af:k<(s).length:=AH h1
 obtain ⟨x,Ah⟩:=at_ Af
 have hwl:=T2 n has (s.take k)
 rw [List.length_take] at hwl
 refine Tr.skip (Fin.go (Tr.seq (Tr.block (Tr.seq (Tr.Aj (co rfl (AD rfl underlying51 Bt (vl rfl) (vl rfl) AA (AX Ah)) (co rfl (Fw rfl C8 rfl) (cm rfl (Ch.nil (Fin.go (Tr.seq (Tr.seq (Tr.Aj ?_)))))))))))))
 refine cm rfl (cm rfl ?_)
 refine Ch.cs 18 rfl ?_ ?_<;>intro h2 q2
 refine LR h2 rfl (cy h2 rfl (HB rfl (vl rfl)) (co rfl (Pk rfl rfl h2 rfl) (cm rfl ?_)))
 refine Ch.cs 22 rfl ?_ ?_<;>intro h3 q3
 refine LR h3 rfl (LR h3 rfl (cy h3 rfl (ki rfl rfl rfl rfl) (co rfl (Pk rfl rfl h3 rfl) (Ch.nil (Fin.go (kZ 1 2 7 8 10 11 12 13 26 rfl ?_))))))
 refine Tr.cn rfl ?_ ?_<;>intro h4 q4
 refine Tr.An (tm rfl (tm rfl (tp rfl (AO (xs:=[.tmp 28]) (rows:=[[_]]) rfl rfl underlying51 Bt z3 rfl AB ⟨⟨Am,(Vo rfl)⟩,trivial⟩ AB) ?_)))
 refine TO.DT 0 rfl rfl AB (B7 rfl rfl rfl rfl underlying51 Bt G2 z3 (Kb rfl) (Kf rfl) (Ay BL (Ka rfl))) (fun v1=> ?_)
 refine tm rfl (tm rfl (TO.nil (Fin.go (wk8 1 2 7 8 10 11 12 13 rfl (Tr.seq (Tr.Aj (cm rfl (cm rfl (co rfl (ki rfl rfl rfl rfl) (Ch.nil (Fin.go ?_)))))))))))
 refine Tr.cn rfl ?_ ?_<;>intro h5 q5
 refine Tr.An (tm rfl (tm rfl (tp rfl (AO (xs:=[.tmp 35]) (rows:=[[_]]) rfl rfl underlying51 Bt z3 rfl AB ⟨⟨Am,(Vo rfl)⟩,trivial⟩ AB) ?_)))
 refine TO.DT 0 rfl rfl AB (B7 rfl rfl rfl rfl underlying51 Bt G2 z3 (Kb rfl) (Kf rfl) (Ay BL (Ka rfl))) (fun v2=> ?_)
 refine tm rfl (TO.nil (Fin.block (Fin.go (kY 1 2 7 8 11 12 13 rfl (Tr.Aj ?_)))))
 first|(refine MV rfl rfl rfl rfl AA ?_)|refine co rfl (ki rfl rfl rfl rfl) ?_
 refine cm rfl (Ch.nil ?_)
 exact Fin.C1 (k+1) v2 (⟨Af,by omega⟩) ⟨⟨_,rfl,AG k⟩,⟨_,rfl,bool_eq Gp⟩,⟨_,rfl,BA Gp⟩,ke rfl,ke rfl,ke rfl,ke rfl,trivial⟩ (fun _ _ h=>h)
 refine Tr.skip (Fin.block (Fin.go (Tr.Aj ?_)))
 first|(refine MV rfl rfl rfl rfl AA ?_)|refine co rfl (ki rfl rfl rfl rfl) ?_
 refine cm rfl (Ch.nil ?_)
 exact Fin.C1 (k+1) v1 (⟨Af,by omega⟩) ⟨⟨_,rfl,AG k⟩,⟨_,rfl,bool_eq Gp⟩,⟨_,rfl,BA Gp⟩,ke rfl,ke rfl,ke rfl,ke rfl,trivial⟩ (fun _ _ h=>h)
 refine Tr.skip (Fin.go (Tr.seq (Tr.Aj (cm rfl (cm rfl (co rfl (ki rfl rfl rfl rfl) (Ch.nil (Fin.go ?_))))))))
 refine Tr.cn rfl ?_ ?_<;>intro h6 q6
 refine Tr.An (tm rfl (tm rfl (tp rfl (AO (xs:=[.tmp 35]) (rows:=[[_]]) rfl rfl underlying51 Bt z3 rfl AB ⟨⟨Am,(Vo rfl)⟩,trivial⟩ AB) ?_)))
 refine TO.DT 0 rfl rfl AB (B7 rfl rfl rfl rfl underlying51 Bt G2 z3 (Kb rfl) (Kf rfl) (Ay BL (Ka rfl))) (fun v3=> ?_)
 refine tm rfl (TO.nil (Fin.block (Fin.go (kY 1 2 7 8 11 12 13 rfl (Tr.Aj ?_)))))
 first|(refine MV rfl rfl rfl rfl AA ?_)|refine co rfl (ki rfl rfl rfl rfl) ?_
 refine cm rfl (Ch.nil ?_)
 exact Fin.C1 (k+1) v3 (⟨Af,by omega⟩) ⟨⟨_,rfl,AG k⟩,⟨_,rfl,bool_eq Gp⟩,⟨_,rfl,BA Gp⟩,ke rfl,ke rfl,ke rfl,ke rfl,trivial⟩ (fun _ _ h=>h)
 refine Tr.skip (Fin.block (Fin.go (Tr.Aj ?_)))
 first|(refine MV rfl rfl rfl rfl AA ?_)|refine co rfl (ki rfl rfl rfl rfl) ?_
 refine cm rfl (Ch.nil ?_)
 exact Fin.C1 (k+1) v (⟨Af,by omega⟩) ⟨⟨_,rfl,AG k⟩,⟨_,rfl,bool_eq Gp⟩,⟨_,rfl,BA Gp⟩,ke rfl,ke rfl,ke rfl,ke rfl,trivial⟩ (fun _ _ h=>h)
 refine cnt h3 rfl (cnt h3 rfl (cnt h3 rfl (co rfl (LS rfl rfl h3 rfl) (Ch.nil (Fin.go (kZ 1 2 7 8 10 11 12 13 26 rfl (Tr.cond rfl (fun h=>nomatch h) (fun _=> ?_))))))))
 refine Tr.skip (Fin.go (Tr.seq (Tr.Aj (cm rfl (cm rfl (co rfl (ki rfl rfl rfl rfl) (Ch.nil (Fin.go ?_))))))))
 refine Tr.cn rfl ?_ ?_<;>intro h7 q7
 refine Tr.An (tm rfl (tm rfl (tp rfl (AO (xs:=[.tmp 35]) (rows:=[[_]]) rfl rfl underlying51 Bt z3 rfl AB ⟨⟨Am,(Vo rfl)⟩,trivial⟩ AB) ?_)))
 refine TO.DT 0 rfl rfl AB (B7 rfl rfl rfl rfl underlying51 Bt G2 z3 (Kb rfl) (Kf rfl) (Ay BL (Ka rfl))) (fun v4=> ?_)
 refine tm rfl (TO.nil (Fin.block (Fin.go (kY 1 2 7 8 11 12 13 rfl (Tr.Aj ?_)))))
 first|(refine MV rfl rfl rfl rfl AA ?_)|refine co rfl (ki rfl rfl rfl rfl) ?_
 refine cm rfl (Ch.nil ?_)
 exact Fin.C1 (k+1) v4 (⟨Af,by omega⟩) ⟨⟨_,rfl,AG k⟩,⟨_,rfl,bool_eq Gp⟩,⟨_,rfl,BA Gp⟩,ke rfl,ke rfl,ke rfl,ke rfl,trivial⟩ (fun _ _ h=>h)
 refine Tr.skip (Fin.block (Fin.go (Tr.Aj ?_)))
 first|(refine MV rfl rfl rfl rfl AA ?_)|refine co rfl (ki rfl rfl rfl rfl) ?_
 refine cm rfl (Ch.nil ?_)
 exact Fin.C1 (k+1) v (⟨Af,by omega⟩) ⟨⟨_,rfl,AG k⟩,⟨_,rfl,bool_eq Gp⟩,⟨_,rfl,BA Gp⟩,ke rfl,ke rfl,ke rfl,ke rfl,trivial⟩ (fun _ _ h=>h)
 refine cnt h2 rfl (cnt h2 rfl (co rfl (LS rfl rfl h2 rfl) (cm rfl (cnd rfl rfl (cnd rfl rfl (cnd rfl rfl (co rfl (LS rfl rfl rfl rfl) (Ch.nil (Fin.go (kZ 1 2 7 8 10 11 12 13 26 rfl (Tr.cond rfl (fun h=>nomatch h) (fun _=> ?_))))))))))))
 refine Tr.skip (Fin.go (Tr.seq (Tr.Aj (cm rfl (cm rfl (co rfl (ki rfl rfl rfl rfl) (Ch.nil (Fin.go ?_))))))))
 refine Tr.cn rfl ?_ ?_<;>intro h8 q8
 refine Tr.An (tm rfl (tm rfl (tp rfl (AO (xs:=[.tmp 35]) (rows:=[[_]]) rfl rfl underlying51 Bt z3 rfl AB ⟨⟨Am,(Vo rfl)⟩,trivial⟩ AB) ?_)))
 refine TO.DT 0 rfl rfl AB (B7 rfl rfl rfl rfl underlying51 Bt G2 z3 (Kb rfl) (Kf rfl) (Ay BL (Ka rfl))) (fun v5=> ?_)
 refine tm rfl (TO.nil (Fin.block (Fin.go (kY 1 2 7 8 11 12 13 rfl (Tr.Aj ?_)))))
 first|(refine MV rfl rfl rfl rfl AA ?_)|refine co rfl (ki rfl rfl rfl rfl) ?_
 refine cm rfl (Ch.nil ?_)
 exact Fin.C1 (k+1) v5 (⟨Af,by omega⟩) ⟨⟨_,rfl,AG k⟩,⟨_,rfl,bool_eq Gp⟩,⟨_,rfl,BA Gp⟩,ke rfl,ke rfl,ke rfl,ke rfl,trivial⟩ (fun _ _ h=>h)
 refine Tr.skip (Fin.block (Fin.go (Tr.Aj ?_)))
 first|(refine MV rfl rfl rfl rfl AA ?_)|refine co rfl (ki rfl rfl rfl rfl) ?_
 refine cm rfl (Ch.nil ?_)
 exact Fin.C1 (k+1) v (⟨Af,by omega⟩) ⟨⟨_,rfl,AG k⟩,⟨_,rfl,bool_eq Gp⟩,⟨_,rfl,BA Gp⟩,ke rfl,ke rfl,ke rfl,ke rfl,trivial⟩ (fun _ _ h=>h)
 have BK:k=(s).length:=by have:=AJ h1;omega
 subst BK
 rw [List.take_length]
 have hwl:=T2 n has s
 refine Tr.exit (Fin.Ac (Fin.Ac (Fin.A7 (Fin.go (Tr.seq (Tr.seq (Tr.Aj (cm rfl (cm rfl ?_)))))))))
 refine Ch.cs 40 rfl ?_ ?_<;>intro h9 q9
 refine LR h9 rfl (cy h9 rfl (HB rfl (vl rfl)) (co rfl (Pk rfl rfl h9 rfl) (Ch.nil (Fin.go ?_))))
 refine Tr.cn rfl ?_ ?_<;>intro h10 P7
 refine Tr.An (tm rfl (tm rfl (tp rfl (AO (xs:=[.tmp 45]) (rows:=[[_]]) rfl rfl underlying51 Bt z3 rfl AB ⟨⟨Am,(Vo rfl)⟩,trivial⟩ AB) ?_)))
 refine TO.DT 0 rfl rfl AB (B7 rfl rfl rfl rfl underlying51 Bt G2 z3 (Kb rfl) (Kf rfl) (Ay BL (Ka rfl))) (fun v6=> ?_)
 refine tm rfl (TO.nil (Fin.go (OZ 7 rfl (Tr.seq (Tr.Aj (cm rfl (cm rfl (Ch.nil (Fin.go (Tr.ret (Fin.LB rfl (Bg.Dc _ _) rfl ?_)))))))))))
 · exact Yp
 refine Tr.skip (Fin.go (Tr.seq (Tr.Aj (cm rfl (cm rfl (Ch.nil (Fin.go (OZ 6 rfl (Tr.ret (Fin.LB rfl (Bg.Dc _ _) rfl ?_))))))))))
 · exact Yp
 refine cnt h9 rfl (cnt h9 rfl (co rfl (LS rfl rfl h9 rfl) (Ch.nil (Fin.go (Tr.cond rfl (fun h=>nomatch h) (fun _=> ?_))))))
 refine Tr.skip (Fin.go (Tr.seq (Tr.Aj (cm rfl (cm rfl (Ch.nil (Fin.go (OZ 6 rfl (Tr.ret (Fin.LB rfl (Bg.Dc _ _) rfl ?_))))))))))
 · exact Yp
theorem KQ {n:Nat} {l:List BC} {s:List Int} {add:Bool} (hs:s.length≤100000) (hn:n≤100000):BG prog 130 [int ((n:Nat):Int),reqs l,ints s,bool add] (ints (Dm n l s add)):=by
 refine fo func130 rfl ⟨rfl,rfl⟩ fun M0 w0=> ?_
 refine a3 ?_
 refine Tr.block (Tr.B5 3 1 (Tr.EO _ (kk [11,3,2,1] rfl) (fun k v=>[(12,int ((k:Nat):Int)),(9,Ad v (ints (Dm k l s add)))]) (fun k v=>Hp M0 w0 FO ([Aw 3 1 v])) (fun k:Nat=>k≤n) (fun k:Nat=>n-k) 0 (.slice none 0 0) (Nat.zero_le _) ⟨kq,⟨_,rfl,Bi rfl⟩,trivial⟩ (fun _ _ h=>h) ?_))
 rintro k v hkn
 refine ac ?_
 refine Tr.seq ?_
 refine Tr.cn rfl ?_ ?_<;>intro h1 q1
 have hk1:k<n:=by have:=DU.D9 h1;omega
 have W0:=Xg k l s add
 refine a3 ?_
 refine co rfl (CL (Fq) rfl rfl rfl) (cm rfl (co rfl (Qy rfl underlying4 vq vq) (cm rfl ?_)))
 refine Ch.cs 20 rfl ?_ ?_<;>intro h2 q2
 refine ac ?_
 refine cy h2 rfl (Jn (G4 AA) rfl rfl rfl rfl) (cy h2 rfl (CL (Oo) rfl rfl rfl) ?_)
 refine ac ?_
 refine wk [27,12,11,10,9,3,2,1] rfl ?_
 refine Tr.cn rfl ?_ ?_<;>intro h3 q3
 refine ap ?_
 refine TO.DT 0 rfl rfl AB (B7 rfl rfl rfl rfl underlying51 Bt G2 z3 G3 F4 (Ay BL Jo)) (fun v1=> ?_)
 refine ap ?_
 refine ac ?_
 exact Fin.C1 (k+1) v1 (⟨by omega,by omega⟩) ⟨⟨_,rfl,AG k⟩,⟨_,rfl,BA (by rw [nk (by unfold LH;simp_all)];simp)⟩,kz⟩ (fun _ _ h=>h)
 refine a2 ?_
 exact Fin.C1 (k+1) v (⟨by omega,by omega⟩) ⟨⟨_,rfl,AG k⟩,⟨_,rfl,BA (by rw [eA (by unfold LH;simp_all)])⟩,kz⟩ (fun _ _ h=>h)
 refine ac ?_
 refine wk [27,12,11,10,9,3,2,1] rfl ?_
 refine a2 ?_
 exact Fin.C1 (k+1) v (⟨by omega,by omega⟩) ⟨⟨_,rfl,AG k⟩,⟨_,rfl,BA (by rw [eA (by unfold LH;simp_all)])⟩,kz⟩ (fun _ _ h=>h)
 obtain rfl:k=n:=by have:=DU.D9 h1;omega
 refine a3 ?_
 · exact Gt
theorem Zz {c:BV} {a b:List Int} {t n x:Int} (hf:c.Di a b []=0) (ht:c.has t=true) (Nc:a.length<24) (h:c.early a b t n=some x):n≤x∧(0≤x∧x≤40000)∧c.Di (a++[t]) (b++[x]) []=0:=by
 have ho:=Ge (HQ hf)
 rw [KM (by rw [HR ht];exact hf)] at h
 unfold BV.next at h
 obtain ⟨h1,h2⟩:=Ig ho
 obtain ⟨h3,⟨j,w,hj,h4,h5,h7⟩,_⟩:=Om h (Ih h1 h2) h2
 rw [Nat.zero_add] at h7
 have hw:=List.any_eq_false.1 (MI ho).2.2.1 w (List.mem_of_getElem? hj)
 have hl:=Rd h4
 simp [MG] at hw
 have hop:c.LX (a.zip b) t x=true:=(uA ho).2 ⟨j,w,hj,h4,h5,h7⟩
 refine ⟨by omega,by omega,?_⟩
 rw [←nV hf Nc ht] at hop
 exact of_decide_eq_true hop
def F5 (l:List BC) (ML:List Int) (i fr:Int):Int:=l.foldl (fun a r=>if r.thn=i then max a (ML.getD r.fst.toNat 0+1) else a) fr
theorem Rr {ML:List Int} {i:Int}:∀{l:List BC} {fr:Int},fr≤F5 l ML i fr
 |[],_=>Int.le_refl _
 |r::l,fr=>by
  have h:= @Rr ML i l (if r.thn=i then max fr (ML.getD r.fst.toNat 0+1) else fr)
  unfold F5 at h ⊢
  rw [List.foldl_cons]
  split at h
  next h2=>rw [if_pos h2];omega
  next h2=>rw [if_neg h2];exact h
theorem Rs {ML:List Int} {i:Int} {r:BC}:∀{l:List BC} {fr:Int},r∈l→r.thn=i→ML.getD r.fst.toNat 0<F5 l ML i fr
 |[],_,h,_=>by cases h
 |x::l,fr,h,h2=>by
  unfold F5
  rw [List.foldl_cons]
  rcases List.mem_cons.1 h with rfl|h
  ·
   have h3:= @Rr ML i l (if r.thn=i then max fr (ML.getD r.fst.toNat 0+1) else fr)
   unfold F5 at h3
   rw [if_pos h2] at h3 ⊢
   omega
  · exact Rs h h2
abbrev YX (t:List Int) (i:Int):Int:=t.getD i.toNat 0
open Classical in
noncomputable def K3 (c:BV) (l:List BC) (t:List Int) (fr:Int) (st:Option (List Int×List Int×List Int)) (i:Int):Option (List Int×List Int×List Int):=
 match st with
 |none=>none
 |some (ML,busy,days)=>match c.early busy days (YX t i) (F5 l ML i fr) with
  |none=>none
  |some d=>some (ML.set i.toNat d,busy++[YX t i],days++[d])
noncomputable def N_ (c:BV) (l:List BC) (t:List Int) (fr:Int) (n:Nat) (row:List Int):Option (List Int×List Int×List Int):=row.foldl (K3 c l t fr) (some (List.replicate n 0,[],[]))
theorem T3 {c:BV} {l:List BC} {t:List Int} {fr:Int}:∀(row:List Int),row.foldl (K3 c l t fr) none=none
 |[]=>rfl
 |_::row=>T3 row
theorem OA {c:BV} {l:List BC} {t:List Int} {fr:Int} {n k:Nat} {row:List Int} {i:Int} (h:row[k]? =some i):N_ c l t fr n (row.take (k+1))=K3 c l t fr (N_ c l t fr n (row.take k)) i:=by
 unfold N_
 rw [List.take_add_one,h,List.foldl_append];rfl
theorem fU {c:BV} {l:List BC} {t:List Int} {fr:Int} {n k:Nat} {row:List Int} {i:Int} {d b y:List Int} (h:row[k]? =some i) (hs:N_ c l t fr n (row.take k)=some (d,b,y)) (he:c.early b y (YX t i) (F5 l d i fr)=none):N_ c l t fr n row=none:=by
 have h1:N_ c l t fr n (row.take (k+1))=none:=by rw [OA h,hs];simp only [K3,he]
 unfold N_ at h1 ⊢
 rw [←List.take_append_drop (k+1) row,List.foldl_append,h1]
 exact T3 _
theorem uG {c:BV} {l:List BC} {t:List Int} {fr:Int} {n k:Nat} {row:List Int} {i x:Int} {d b y:List Int} (h:row[k]? =some i) (hs:N_ c l t fr n (row.take k)=some (d,b,y)) (he:c.early b y (YX t i) (F5 l d i fr)=some x):N_ c l t fr n (row.take (k+1))=some (d.set i.toNat x,b++[YX t i],y++[x]):=by
 rw [OA h,hs];simp only [K3,he]
structure S1 (c:BV) (l:List BC) (t row:List Int) (fr:Int) (n k:Nat) (ML busy days:List Int):Prop where
 len:ML.length=n
 hb:busy=(row.take k).map (YX t)
 hd:days=(row.take k).map fun i=>ML.getD i.toNat 0
 bnd:∀x∈ML,0≤x∧x≤40000
 ge:∀i∈row.take k,fr≤ML.getD i.toNat 0
 ord:∀r∈l,r.thn∈row.take k→ML.getD r.fst.toNat 0<ML.getD r.thn.toNat 0
 fit:c.Di busy days []=0
theorem Gg {l:List Int} {i j d:Int} (hi:0≤i) (hj:0≤j) (h:i.toNat<l.length):(l.set i.toNat d).getD j.toNat 0=if j=i then d else l.getD j.toNat 0:=by
 rw [List.getD_eq_getElem?_getD,List.getElem?_set]
 by_cases e:j=i
 · subst e;rw [if_pos rfl,if_pos h,if_pos rfl];rfl
 · rw [if_neg AA,if_neg e,List.getD_eq_getElem?_getD]
theorem Z0 {l:List Int} {k:Nat} {i:Int} (hn:l.Nodup) (h:l[k]? =some i):i∉l.take k:=by
 intro hm
 obtain ⟨j,hj⟩:=List.mem_iff_getElem?.1 hm
 rw [List.getElem?_take] at hj
 split at hj
 next hjk=>
  have:=(List.getElem?_inj Yt hn).1 (hj.trans h.symm)
  omega
 next=>cases hj
theorem S1.next {c:BV} {l:List BC} {t row done:List Int} {fr d i:Int} {n k:Nat} {ML busy days:List Int} (h:S1 c l t row fr n k ML busy days) (hr:N8 (n:Int) l row done) (hk:row[k]? =some i) (hl:∀r∈l,0≤r.fst∧0≤r.thn∧r.fst≠r.thn) (hn:n≤24) (ht:c.has (YX t i)=true)
  (he:c.early busy days (YX t i) (F5 l ML i fr)=some d):S1 c l t row fr n (k+1) (ML.set i.toNat d) (busy++[YX t i]) (days++[d]):=by
 have hi:=hr.QD i (List.mem_of_getElem? hk)
 have hni:=Z0 hr.nd hk
 have hlen:i.toNat<ML.length:=by rw [h.len];omega
 have U8:k<row.length:=by rcases Nat.lt_or_ge k row.length with h2|h2;exact h2;rw [List.getElem?_eq_none h2] at hk;cases hk
 have hrl:=hr.len
 have W0:busy.length<24:=by rw [h.hb,List.length_map,List.length_take];omega
 obtain ⟨e1,e2,e3⟩:=Zz h.fit ht W0 he
 have hf:= @Rr ML i l fr
 have htk:row.take (k+1)=row.take k++[i]:=by rw [List.take_add_one,hk];rfl
 have nq:∀j∈row.take k,0≤j∧j≠i:=fun j hj=>⟨(hr.QD j (List.mem_of_mem_take hj)).1,fun e=>hni (e ▸ hj)⟩
 refine ⟨by rw [List.length_set];exact h.len,by rw [htk,List.map_append,←h.hb];rfl,?_,fun x hx=> ?_,fun j hj=> ?_,fun r hrm hm=> ?_,e3⟩
 ·
  rw [htk,List.map_append,h.hd]
  have h1:∀j∈row.take k,ML.getD j.toNat 0=(ML.set i.toNat d).getD j.toNat 0:=fun j hj=>by
   rw [Gg hi.1 (nq j hj).1 hlen,if_neg (nq j hj).2]
  rw [List.map_congr_left h1]
  congr 1
  show [d]=[(ML.set i.toNat d).getD i.toNat 0]
  rw [Gg hi.1 hi.1 hlen,if_pos rfl]
 ·
  rcases List.mem_or_eq_of_mem_set hx with hx|hx
  · exact h.bnd x hx
  · subst hx;exact e2
 ·
  rw [htk,List.mem_append,List.mem_singleton] at hj
  rcases hj with hj|rfl
  · rw [Gg hi.1 (nq j hj).1 hlen,if_neg (nq j hj).2];exact h.ge j hj
  · rw [Gg hi.1 hi.1 hlen,if_pos rfl];omega
 ·
  rw [htk,List.mem_append,List.mem_singleton] at hm
  have hq:=hl r hrm
  rcases hm with hm|hm
  ·
   have h3:r.fst∈row.take k:=by
    obtain ⟨j,hj⟩:=List.mem_iff_getElem?.1 hm
    rw [List.getElem?_take] at hj
    split at hj
    next hjk=>
     have h4:=hr.yR j _ hj r hrm rfl
     exact (List.take_subset_take_left row AA) h4
    next=>cases hj
   rw [Gg hi.1 hq.1 hlen,if_neg (nq _ h3).2,Gg hi.1 hq.2.1 hlen,if_neg (nq _ hm).2]
   exact h.ord r hrm hm
  ·
   have h3:=hr.yR k i hk r hrm hm
   rw [Gg hi.1 hq.1 hlen,if_neg (nq _ h3).2,Gg hi.1 hq.2.1 hlen,if_pos hm]
   have:=Rs (ML:=ML) (i:=i) (fr:=fr) hrm hm
   omega
theorem S1.nil {c:BV} {l:List BC} {t row:List Int} {fr:Int} {n:Nat} (ho:c.own=0):S1 c l t row fr n 0 (List.replicate n 0) [] []:=
 ⟨List.length_replicate,rfl,rfl,fun x hx=>by rw [List.eq_of_mem_replicate hx];omega,fun i h=>by simp at h,fun r _ h=>by simp at h,nU ho⟩
theorem S1.run {c:BV} {l:List BC} {t row done:List Int} {fr:Int} {n:Nat} (hr:N8 (n:Int) l row done) (hl:∀r∈l,0≤r.fst∧0≤r.thn∧r.fst≠r.thn) (hn:n≤24) (ho:c.own=0) (ht:∀i:Int,0≤i→i<(n:Int)→c.has (YX t i)=true):∀(k:Nat) {d b y:List Int},k≤row.length→N_ c l t fr n (row.take k)=some (d,b,y)→S1 c l t row fr n k d b y
 |0,d,b,y,_,h=>by
  have h:some (List.replicate n 0,([]:List Int),([]:List Int))=some (d,b,y):=h
  cases h
  exact S1.nil ho
 |k+1,d,b,y,hk,h=>by
  obtain ⟨i,hi⟩:=at_ (l:=row) (k:=k) AA
  have nq:=hr.QD i (List.mem_of_getElem? hi)
  rw [OA hi] at h
  cases hs:N_ c l t fr n (row.take k) with
  |none=>rw [hs] at h;cases h
  |some p=>
   obtain ⟨d1,b1,y1⟩:=p
   have ih:=S1.run hr hl hn ho ht k AA hs
   rw [hs] at h
   simp only [K3] at h
   cases he:c.early b1 y1 (YX t i) (F5 l d1 i fr) with
   |none=>rw [he] at h;cases h
   |some x=>
    rw [he] at h
    cases h
    exact ih.next hr hi hl hn (ht i nq.1 nq.2) he
theorem N8.all {n:Nat} {l:List BC} {row done:List Int} (hr:N8 (n:Int) l row done) (hlen:row.length=n):row.Perm ((List.range n).map fun i:Nat=>(i:Int)):=by
 have hnd:((List.range n).map fun i:Nat=>(i:Int)).Nodup:=by
  refine List.Pairwise.map _ (fun a b hab=> ?_) (List.nodup_range (n:=n))
  intro e;apply hab;omega
 have hsub:∀x∈row,x∈(List.range n).map fun i:Nat=>(i:Int):=fun x hx=>by
  have:=hr.QD x hx
  exact List.mem_map.2 ⟨x.toNat,List.mem_range.2 AA,by omega⟩
 refine (List.perm_ext_iff_of_nodup hr.nd hnd).2 fun a=>⟨hsub a,fun ha=> ?_⟩
 refine Classical.byContradiction fun hna=> ?_
 have h1:=K2 (L:=a::row) (M:=(List.range n).map fun i:Nat=>(i:Int)) (List.nodup_cons.2 ⟨hna,hr.nd⟩) (fun x hx=>by
  rcases List.mem_cons.1 hx with rfl|hx
  · exact ha
  · exact hsub x hx)
 simp at h1;omega
end Go.Proofs.YtmocaapoeefgkaaGreatDoor
namespace Cp
open Go Go.RowKit Go.Great
section
variable {P:Program} {L:Lg P} {n:Fm} {fz:Nat} {E:Env} {M0:Av} {w0:World} {S:Nat→Prop} {rs:List At} {o:Oper} {g:Func} {M1:Av} {w1:World}
theorem uH {d j:Nat} {T:TypeId} {x:Operand} {ps:List Pr} (hg:o.guard=none) (hd:o.dst=some d) (hn:d<n) (ho:o.op= .box T x) (hx:VL E x (Cv ps)):
  DI P M0 w0 S n j (SR.c Bu) ⟨d,El T ps⟩ o E (Cp.ex fun b=>ptr b 0):=by
 refine ⟨hg,fun M w a rs Yz he hI hj=> ?_⟩
 obtain ⟨h0,h1⟩:=hx.ev (o:=o) he Au
 have hw:(a.eval x).cells.toList.toArray=(a.eval x).cells:=by simp
 have hrun:(execOp a.eval o).run P w= .ok (.value (.pointer (some ⟨w.heap.size,0,none⟩))) (w.alloc (.cells (a.eval x).cells.toList.toArray T)):=by simp [execOp,ho,Instr.box,newVar,newRow]
 rw [hrun]
 have hb:Below w.heap.size w (w.alloc (.cells (a.eval x).cells.toList.toArray T)):=(Below.refl _ _).alloc (Nat.le_refl _) _
 have h2:=Ext.below (M:=M) hb
 have E4:Ext M w (fun b o=>M b o∨b=w.heap.size) (w.alloc (.cells (a.eval x).cells.toList.toArray T)):=by
  refine ⟨h2.size,fun a v hc hm=>⟨fun hx=> ?_,(h2.keep a v hc hm).2⟩,fun b o ho hp hm=>⟨fun hx=> ?_,(h2.obj b o ho hp hm).2⟩⟩
  ·
   rcases hx with hx|hx
   · exact Cb
   · exact FC
  ·
   rcases hx with hx|hx
   · exact Cb
   · exact FD
 have hs1:(w.alloc (.cells (a.eval x).cells.toList.toArray T)).heap.size=w.heap.size+1:=by simp
 have hat:(SR.at_ (a.put o.dst (.pointer (some ⟨w.heap.size,0,none⟩))) ⟨d,El T ps⟩)=AF true w.heap.size T ps:=by unfold SR.at_ Slot.val;dsimp only;rw [hd,B6 Is];rfl
 refine ⟨fun b o=>M b o∨b=w.heap.size,⟨_,rfl⟩,E4,?_⟩
 rw [hat]
 refine hI.replace hj E4 hb.os hb.tape hb.output (fun k hk _=>hb.block k hk) rfl (fun b o hm _=> .inl hm) (fun b o hx=> ?_) ?_ rfl (fun b hbk=> ?_)
 ·
  rcases hx with hx|hx
  · have:=hI.bd _ _ hx;omega
  · omega
 · refine ⟨fun o=> .inr rfl,(a.eval x).cells.toList,heap_alloc_new w _,h0.st E4,h1⟩
 ·
  have Ex:some w.heap.size=some b:=hbk
  injection Ex with e1
  subst e1
  exact ⟨by rw [hs1];omega,.inr (Nat.le_refl _)⟩
end
section
variable {P:Program} {L:Lg P} {n:Fm} {fz:Nat} {E:Env} {M0:Av} {w0:World} {S:Nat→Prop} {rs:List At}
end
end Cp
namespace Cp
open Go Go.RowKit
abbrev Dx (ρ:Option Nat):Fence:={ Fence.wide with round:=ρ }
section
variable {P:Program} {ρ:Option Nat}
def Ld (o:Oper):Bool:=match o.op with
 | .defer _=>false
 |_=>true
theorem eB {o:Oper} {a:Act} {w:World} {K K':Act→World→Prop} {Q:Exit→Act→World→Prop} (hc:Ld o=true) (hK:∀a w,K a w→K' a w) (h:o.wp P a w K Q):o.wpIn (Dx ρ) 0 P a w K' Q:=by
 refine ⟨fun _ _=>trivial,?_⟩
 rw [Oper.semAt_eq _ _ _ (fun c hh=>by unfold Ld at hc;rw [hh] at hc;cases hc)]
 unfold Oper.wp at h
 generalize (execOp a.eval o).run P w=r at h ⊢
 cases r with
 |halt x w'=>cases x<;>first|exact h|exact h.elim
 |ok x w'=>
  cases x<;>first|exact h.elim|skip
  case value v=>exact hK _ _ h
  case skip=>exact hK _ _ h
  case defer d=>exact hK _ _ h
  case enter f args=>exact ⟨fun hh=>(by cases hh),callsIn_wide.2 (h.mono fun e w'' hr=>by cases e<;>first|exact hK _ _ hr|exact hr)⟩
  case row row args=>
   refine ⟨fun hh=>(by cases hh),fun c cs _=> ?_⟩
   obtain ⟨v,w2,h1,h2⟩:=h c cs
   exact ⟨v,w2,hK _ _ h1,stepsIn_wide.2 h2⟩
theorem nr {ops:Array Oper} {Q:Exit→Act→World→Prop} (hc:∀(i:Nat) o,ops[i]? =some o→Ld o=true):∀(l:List Nat) (a:Act) (w:World),wpS P ops Q l a w→wpOpsIn (Dx ρ) 0 P ops Q l a w
 |[],_,_,h=>h
 |i::l,a,w,h=>by
  have ih:=nr (Q:=Q) hc l
  unfold wpS at h
  unfold wpOpsIn
  cases ho:ops[i]? with
  |none=>rw [ho] at h;exact ih a w h
  |some o=>
   rw [ho] at h
   dsimp only at h ⊢
   split
   next hw=>rw [if_pos hw] at h;exact eB (hc i o ho) ih h
   next hw=>rw [if_neg hw] at h;exact ⟨fun _ _=>trivial,ih _ _ h⟩
theorem yT {ops:Array Oper} {Q:Exit→Act→World→Prop} (hc:∀(i:Nat) o,ops[i]? =some o→Ld o=true) {i:Nat} {K K':Act→World→Prop} {a:Act} {w:World} (hK:∀a w,K a w→K' a w) (h:Qo P ops Q i K a w):wpOpIn (Dx ρ) 0 P ops Q i K' a w:=by
 unfold Qo at h
 unfold wpOpIn
 cases ho:ops[i]? with
 |none=>rw [ho] at h;exact hK _ _ h
 |some o=>
  rw [ho] at h
  dsimp only at h ⊢
  split
  next hw=>rw [if_pos hw] at h;exact eB (hc i o ho) hK h
  next hw=>rw [if_neg hw] at h;exact ⟨fun _ _=>trivial,hK _ _ h⟩
theorem nu {ops:Array Oper} {md:Region.Mode} {Q:Exit→Act→World→Prop} (hc:∀(i:Nat) o,ops[i]? =some o→Ld o=true):∀(fuel:Nat) (listed:Array Bool) (a:Act) (w:World),Lq P md ops Q fuel listed a w→wpAnyIn (Dx ρ) 0 P md ops Q fuel listed a w
 |0,_,_,_,h=>h
 |fuel+1,_,_,_,h=>⟨h.1,fun i hi=>yT hc (nu hc fuel _) (h.2 i hi)⟩
theorem uI {l:List Oper} (hc:calm l=true):∀(i:Nat) o,l.toArray[i]? =some o→Ld o=true:=fun i o ho=>by
 have hm:o∈l:=List.mem_of_getElem? (by simpa using ho)
 have:=List.all_eq_true.1 hc o hm
 unfold Ld;revert this;cases o.op<;>simp
theorem uJ {c:Code} {Q:Exit→Act→World→Prop} {α:Type} (μ:α→Nat) (R:α→Act→World→Prop) (round:∀x a w,R x a w→c.wpIn (Dx ρ) 0 P (Exit.then (fun a' w'=>∃y,μ y<μ x∧R y a' w') Q) a w) (x:α) (a:Act) (w:World) (hx:R x a w):(Code.loop c).wpIn (Dx ρ) 0 P Q a w:=by
 intro b k cs hro hb hr
 have key:∀m x a w,μ x=m→R x a w→∃e a' w',Q e a' w'∧ArrivesIn (Machine.fenced P (Dx ρ)) P (lone (b.atR a (.code c:: .inLoop c::k)) cs w) b k cs e a' w':=by
  intro m
  induction m using Nat.strongRecOn with
  |_ m ih=>
   intro x a w hm hx
   obtain ⟨e,a₁,w₁,hq,IJ⟩:=round x a w hx b (.inLoop c::k) cs hro hb hr
   cases e with
   |normal=>
    obtain ⟨y,hlt,hy⟩:=hq
    obtain ⟨e₂,a₂,w₂,kI,Uz⟩:=ih (μ y) (hm ▸ hlt) y a₁ w₁ rfl hy
    exact ⟨e₂,a₂,w₂,kI,.of_steps (StepsIn.trans IJ (.one (fenced_calm hb hr rfl) stepR_inLoop)) Uz⟩
   |exit id=>exact ⟨_,a₁,w₁,hq,.pass (x:= .inLoop c) rfl (fun _ _=> .inl AV) IJ⟩
   |goto l=>exact ⟨_,a₁,w₁,hq,.pass (x:= .inLoop c) rfl (fun _ _=> .inl AV) IJ⟩
   |ret=>exact ⟨_,a₁,w₁,hq,.pass (x:= .inLoop c) rfl (fun _ _=> .inl AV) IJ⟩
   |panic ch=>exact ⟨_,a₁,w₁,hq,.pass (x:= .inLoop c) rfl (fun _ _=> .inl AV) IJ⟩
   |outgrown=>exact ⟨_,a₁,w₁,hq,.pass (x:= .inLoop c) rfl (fun _ _=> .inl AV) IJ⟩
 obtain ⟨e,a',w',hq,IJ⟩:=key _ x a w rfl hx
 exact ⟨e,a',w',hq,.of_steps (.one (fenced_calm hb hr rfl) stepR_loop) IJ⟩
@[reducible] def eC (P:Program) (ρ:Option Nat):Lg P where
 wp c Q a w:=c.wpIn (Dx ρ) 0 P Q a w
 mono hq h:=wpIn_mono h hq
 skip h:=wpIn_skip h
 ret h:=wpIn_ret h
 exit h:=wpIn_exit h
 seq h:=wpIn_seq h
 block h:=wpIn_block h
 cond hc ht hf:=wpIn_cond_split hc ht hf
 loop:=uJ
 region {id l Q a w} hc h:=wpIn_region (nr (fun i o ho=>by
  have hm:o∈l:=List.mem_of_getElem? (by simpa using ho)
  have:=List.all_eq_true.1 hc o hm
  unfold Ld;revert this;cases o.op<;>simp) _ _ _ (by simpa [List.range_eq_range'] using h))
 draw hc hm h:=wpIn_region_any hm (nu (uI hc) _ _ _ _ h)
end
end Cp
namespace Cp
open Go Go.RowKit Go.Great
section
variable {P:Program} {L:Lg P} {n:Fm} {fz:Nat} {E:Env} {M0:Av} {w0:World} {S:Nat→Prop} {rs:List At} {o:Oper}
end
end Cp
namespace Cp
open Go Go.RowKit
theorem Cc.LX {M:Av} {w:World} {E:Env} {o:Oper} {a:Act} (s:Nat) {α:Type} {f:α→Pr} (hs:E.lookup s=some (Cp.ex f)) (hm:s∈looks o) (he:Cc M w E o a):∃x,Cc M w ((s,f x)::E) o a:=by
 obtain ⟨x,hx⟩:=he s _ hm hs
 refine ⟨x,fun t q ht hq=> ?_⟩
 simp only [List.lookup] at hq
 by_cases hts:t=s
 · exact Uu
 · exact Ui
theorem Cc.opf {M:Av} {w:World} {E:Env} {o:Oper} {a:Act} {φ:Prop} {p:Pr} (s:Nat) (hs:E.lookup s=some (Cp.fact φ p)) (hm:s∈looks o) (he:Cc M w E o a):φ∧Cc M w ((s,p)::E) o a:=by
 obtain ⟨hφ,hx⟩:=he s _ hm hs
 refine ⟨hφ,fun t q ht hq=> ?_⟩
 simp only [List.lookup] at hq
 by_cases hts:t=s
 · exact Uu
 · exact Ui
section
variable {P:Program} {M0:Av} {w0:World} {S:Nat→Prop} {n:Fm} {j:Nat} {R R':SR} {E:Env} {o:Oper}
theorem DI.LX {p:Pr} (s:Nat) {α:Type} {f:α→Pr} (hg:o.guard=none) (hs:E.lookup s=some (Cp.ex f)) (hm:s∈looks o) (h:∀x,DI P M0 w0 S n j R R' o ((s,f x)::E) p):DI P M0 w0 S n j R R' o E p:=
 ⟨hg,fun M w a rs hsz he hI hj=>by obtain ⟨x,hx⟩:=he.LX s hs hm;exact (h x).2 M w a rs hsz hx hI hj⟩
theorem DI.opf {p q:Pr} {φ:Prop} (s:Nat) (hg:o.guard=none) (hs:E.lookup s=some (Cp.fact φ q)) (hm:s∈looks o) (h:φ→DI P M0 w0 S n j R R' o ((s,q)::E) p):DI P M0 w0 S n j R R' o E p:=
 ⟨hg,fun M w a rs hsz he hI hj=>by obtain ⟨hφ,hx⟩:=he.opf s hs hm;exact (h hφ).2 M w a rs hsz hx hI hj⟩
theorem DI.le {p q:Pr} (h:DI P M0 w0 S n j R R' o E p) (hl:Pr.le p q):DI P M0 w0 S n j R R' o E q:=by
 refine ⟨h.1,fun M w a rs hsz he hI hj=> ?_⟩
 have this:=h.2 M w a rs hsz he hI hj
 generalize (execOp a.eval o).run P w=r at this ⊢
 unfold D4 at this
 split at this
 · obtain ⟨M',h1,h2,h3⟩:=this;exact ⟨M',hl _ _ _ h1,h2,h3⟩
 · obtain ⟨M',h1,h2,h3⟩:=this;exact ⟨M',hl _ _ _ h1,h2,h3⟩
 · exact Calls.mono this fun _ _ ⟨v,M',h0,h1,h2,h3⟩=>⟨v,M',h0,hl _ _ _ h1,h2,h3⟩
 · exact this.elim
end
theorem nv {z:Array Value} {n:Nat} {u:Value} (h0:0<z.size) (h:u∈(madeCells z n).toList):u∈z.toList:=by
 simp only [madeCells,Array.toList_map,List.mem_map] at h
 obtain ⟨k,_,rfl⟩:=h
 have hk:k % z.size<z.size:=Nat.mod_lt _ h0
 rw [getElem!_pos z _ hk]
 exact Array.getElem_mem_toList hk
theorem uK {z:Array Value} {m sz i j:Nat} {u:Value} (hz:z.size=sz) (hi:i<m) (hu:z.toList[j]? =some u):(madeCells z (m*sz)).toList[i*sz+j]? =some u:=by
 have hjl:j<sz:=by
  rcases Nat.lt_or_ge j sz with h|h
  · exact h
  · rw [List.getElem?_eq_none B8] at hu;cases hu
 have hlt:i*sz+j<m*sz:=by
  have:(i+1)*sz≤m*sz:=Nat.mul_le_mul_right sz hi
  rw [Nat.add_mul] at this;omega
 have hmod:(i*sz+j) % sz=j:=by rw [Nat.mul_comm,Nat.mul_add_mod,Nat.mod_eq_of_lt hjl]
 have hjz:j<z.size:=by omega
 rw [Array.getElem?_toList] at hu ⊢
 rw [Array.getElem?_eq_getElem hjz] at hu
 simp only [madeCells]
 rw [Array.getElem?_map,Array.getElem?_range,if_pos hlt,Option.map_some,hz,hmod,getElem!_pos z _ hjz,hu]
theorem Ij {P:Program} {I:Ck} {E:Env} {o:Oper} {t e:TypeId} {x y:Operand} {sz fy m:Nat} {zs:List Value} (ho:o.op= .makeSlice t x y) (ht:P.underlying t=some (.slice e)) (hz:BB P e=some sz) (hby:Bz P e=some fy) (FJ:Ba P e=some zs) (hzl:zs.length=sz) (hsz:0<sz)
  (h1:zs.all (·.oneCell')=true) (hx:VL E x (int ((m:Nat):Int))) (hy:VL E y (int ((m:Nat):Int))) (hm:m≤maxLen) (hb:fy*m≤281474976710656):Ag P I o E (full sz (List.replicate m (zs.map is))):=
 Ag.val fun M w a he hI=>by
  have hx1:a.eval x= .int .i64 m:=hx.ev he Au
  have hy1:a.eval y= .int .i64 m:=hy.ev he Au
  unfold BB at hz
  unfold Bz at hby
  unfold Ba at FJ
  cases hi:P.info? e with
  |none=>rw [hi] at hz;cases hz
  |some i=>
   rw [hi] at hz hby FJ
   simp only [Option.map_some,Option.some.injEq,Option.map_eq_some_iff] at hz hby FJ
   obtain ⟨z,jV,FJ⟩:=FJ
   have hzc:z.cells.size=sz:=by rw [←hzl,←FJ];simp
   have hrun:=run_make (P:=P) w t e i z ht hi jV .i64 .i64 (m:Int) (m:Int) AA (Int.le_refl _) (by rw [hby];have h0:((fy*m:Nat):Int)≤281474976710656:=Int.ofNat_le.2 hb;rw [←Int.natCast_mul];exact h0) Uw
   rw [hz] at hrun
   simp only [Int.toNat_natCast] at hrun
   have YW:Below w.heap.size w (w.alloc (.cells (madeCells z.cells (m*sz)) e)):=(Below.refl _ _).alloc (Nat.le_refl _) _
   have hrl:(List.replicate m (zs.map is)).length=m:=List.length_replicate
   have hfl:Flat M w sz (List.replicate m (zs.map is)) (madeCells z.cells (m*sz)).toList:=by
    refine ⟨by rw [hrl];simp [size_madeCells],fun u hu=>List.all_eq_true.1 h1 _ (by rw [←FJ];exact nv AA hu),fun k row hr=> ?_⟩
    have hk:k<m:=by have:=BM hr;omega
    obtain rfl:row=zs.map is:=List.eq_of_mem_replicate (List.mem_of_getElem? hr)
    refine ⟨by simp [hzl],fun j p hp=> ?_⟩
    rw [List.getElem?_map,Option.map_eq_some_iff] at hp
    obtain ⟨u,hu,rfl⟩:=hp
    exact ⟨u,uK hzc hk (by rw [FJ];exact hu),rfl⟩
   refine ⟨.slice (some ⟨w.heap.size,0,none⟩) m m,w.alloc (.cells (madeCells z.cells (m*sz)) e),by simp [execOp,ho,hx1,hy1,hrun],?_,YW⟩
   have Z1:=E5 (hfl.st (Ext.below YW)) (c:=m) (Nat.le_of_eq hrl) hm (g:=w.heap.size) (fun k u hk=>⟨by rw [Qs];simpa using hk,fun hx=>by have:=I.bd _ _ hI _ _ hx;omega⟩)
   rw [hrl] at Z1
   exact ⟨Z1,_,by rw [hrl]⟩
section
variable {P:Program} {L:Lg P} {n:Fm} {E:Env} {M0:Av} {w0:World} {S:Nat→Prop} {rs:List At}
theorem Fin.FA {Q:Exit→Act→World→Prop} {x:Exit} (i j k:Nat) {sz b:Nat} {new:Bool} {T e:TypeId} {ps:List Pr} {rows:List (List Pr)} {v:Value} {p:Pr} (hi:rs[i]? =some (AF new b T ps)) (hj:rs[j]? =some (Bs e sz rows v)) (hij:j≠i) (hk:ps[k]? =some p) (hp:Pr.le p (is v)) (hl:∀r∈rows,r.length=sz)
  (kk:Fin n E (Hp M0 w0 S ((rs.set j Bu).set i (AF new b T (ps.set k (slice sz rows))))) Q x):Fin n E (Hp M0 w0 S rs) Q x:=Fin.conv (fun _ _ hs=>hs.FA hi hj hij hk hp hl) kk
end
section
variable {P:Program} {M0:Av} {w0:World} {S:Nat→Prop} {rs:List At}
def BO (b:Nat) (x:Obj):At where
 blk:=some b
 new:=true
 h M w:=(∀o,M b o)∧w.heap[b]? =some x
 st M w M' w' _ hk h:=by
  obtain ⟨h1,h2⟩:=hk b rfl
  exact ⟨fun o=>h2 o (h.1 o),h1.trans h.2⟩
theorem A9.nw {M:Av} {w:World} (h:A9 M0 w0 S rs M w) (x:Obj):
  A9 M0 w0 S (BO w.heap.size x::rs) (fun b o=>M b o∨b=w.heap.size) (w.alloc x)∧Ext M w (fun b o=>M b o∨b=w.heap.size) (w.alloc x):=by
 have hb:Below w.heap.size w (w.alloc x):=(Below.refl _ _).alloc (Nat.le_refl _) _
 have hsz:(w.alloc x).heap.size=w.heap.size+1:=by simp
 have he:Ext M w (fun b o=>M b o∨b=w.heap.size) (w.alloc x):=by
  have h2:=Ext.below (M:=M) hb
  refine ⟨h2.size,fun a v hc hm=>⟨fun hx=> ?_,(h2.keep a v hc hm).2⟩,fun b o ho hp hm=>⟨fun hx=> ?_,(h2.obj b o ho hp hm).2⟩⟩
  ·
   rcases hx with hx|hx
   · exact Cb
   · exact FC
  ·
   rcases hx with hx|hx
   · exact Cb
   · exact FD
 have hI:=(Hp M0 w0 S rs).st _ _ _ hb h
 refine ⟨⟨hI.m0,fun b o hm=> .inl (hI.m b o hm),hI.os,hI.tape,hI.output,hI.size,hI.block,fun b o hm=> ?_,fun r hr=> ?_,?_⟩,he⟩
 ·
  rcases hm with hm|hm
  · exact hI.bd b o hm
  · omega
 ·
  rcases List.mem_cons.1 hr with rfl|hr
  ·
   refine ⟨⟨fun o=> .inr rfl,heap_alloc_new w _⟩,fun b hbk=> ?_⟩
   simp only [BO,Option.some.injEq] at hbk
   subst hbk
   exact ⟨by omega,by simp [BO];exact h.size⟩
  ·
   obtain ⟨h3,h4⟩:=h.hold r hr
   exact ⟨r.st _ _ _ _ he (fun b hbk=>⟨hb.block b (h4 b hbk).1,fun _ x=> .inl x⟩) h3,fun b hbk=>⟨by have:=(h4 b hbk).1;omega,(h4 b hbk).2⟩⟩
 ·
  refine List.pairwise_cons.2 ⟨fun r hr b Mj Sf=> ?_,hI.nd⟩
  simp only [BO,Option.some.injEq] at Mj
  subst Mj
  have:=((h.hold r hr).2 _ Sf).1
  omega
theorem A9.putObj {M:Av} {w:World} {j b:Nat} {x:Obj} (y:Obj) (h:A9 M0 w0 S rs M w) (hj:rs[j]? =some (BO b x)):A9 M0 w0 S (rs.set j (BO b y)) M (w.putObj b y)∧Ext M w M (w.putObj b y):=by
 obtain ⟨⟨hM,hx⟩,hbk⟩:=h.hold _ (List.mem_of_getElem? hj)
 have hlt:b<w.heap.size:=(hbk b rfl).1
 have hsz:(w.putObj b y).heap.size=w.heap.size:=by simp [World.putObj]
 have he:Ext M w M (w.putObj b y):=by
  refine ⟨by omega,fun a v hc hm=>⟨hm,?_⟩,fun k o ho _ hm=>⟨hm,?_⟩⟩
  ·
   have hne:a.block≠b:=fun e=>hm (e ▸ hM _)
   rw [World.cell?_of_block (w:=w) (World.putObj_heap_other hne)];exact hc
  ·
   have hne:k≠b:=fun e=>hm (e ▸ hM _)
   exact (World.putObj_heap_other hne).trans ho
 refine ⟨h.replace hj he rfl rfl rfl (fun k _ hne=>World.putObj_heap_other (fun e=>hne (by rw [e];rfl))) rfl (fun _ _ hm _=>hm) (fun b' o hm=>by have:=h.bd b' o hm;omega) ⟨hM,World.putObj_heap_same hlt⟩ rfl (fun b' hb'=>⟨?_,.inl hb'⟩),he⟩
 simp only [BO,Option.some.injEq] at hb'
 subst hb';omega
end
def NJ (P:Program) (gf:Nat) (lb:Array Value) {α:Type} (enc:α→Value) (xs:List α) (own:List α→List At):Prop:=
 ∀M0 w0 S (l:Nat) (β:Type) (R Rx:List α→β→List At),
  (∀pre x d M w,(pre++[x])<+:xs→A9 M0 w0 S (own (pre++[x])++R pre d) M w→YieldAt (Dx none) 0 P l #[enc x] w fun e w'=>∃M' d',Ext M w M' w'∧
   ((e= .returned (.bool true)∧A9 M0 w0 S (own (pre++[x])++R (pre++[x]) d') M' w')∨(e= .returned (.bool false)∧A9 M0 w0 S (own (pre++[x])++Rx (pre++[x]) d') M' w')))→
  ∀d M w,A9 M0 w0 S (own []++R [] d) M w→CallsIn (Dx none) 0 P gf (#[.func (.yield l) #[] #[]]++lb) w fun e w'=>(∃v,e= .returned v)∧∃M' d',Ext M w M' w'∧
   (A9 M0 w0 S (own xs++R xs d') M' w'∨∃pre,pre<+:xs∧A9 M0 w0 S (own pre++Rx pre d') M' w')
def JM (M0:Av) (w0:World) (S:Nat→Prop) {β:Type} (rs:β→List At) (rx:Code→β→List At):Exit→Act→World→Prop
 | .normal,_,w=>∃d M,A9 M0 w0 S (rs d) M w
 | .ret,_,w=>∃d M,A9 M0 w0 S (rx .ret d) M w
 | .exit id,_,w=>∃d M,A9 M0 w0 S (rx (.exit id) d) M w
 | .goto t,_,w=>∃d M,A9 M0 w0 S (rx (.goto t) d) M w
 | .panic _,_,_=>False
 | .outgrown,_,_=>False
section
variable {P:Program} {M0:Av} {w0:World} {S:Nat→Prop} {rs:List At}
theorem Tr.range {Q:Exit→Act→World→Prop} {n:Fm} {E:Env} {α β:Type} {p gf:Nat} {g:Operand} {lb:Array Value} {enc:α→Value} {xs:List α} {own:List α→List At} {assign body:Code} (E':α→Env) (R:List α→β→List At) (Rx:Code→List α→β→List At) (d0:β)
  (hIt:NJ P gf lb enc xs own) (eg:∀args w,(callFunc gf args).run P w= .ok (.enter gf args) w) (hg:VL E g (is (.func (.func gf) #[] lb))) (O6:rs.Perm (own []++R [] d0))
  (hassign:∀l D rec M1 w1 pre x d,(pre++[x])<+:xs→∀a,a.tmps.size=n.sz→FY M1 w1 E a→∀M w,A9 M0 w0 S (own (pre++[x])++(BO l rec::BO D (.deferred (some []))::Al M1 w1::R pre d)) M w→
   assign.wpIn (Dx (some l)) 0 P (Exit.then (St ⟨n.sz,[]⟩ (E' x) (Hp M0 w0 S (own (pre++[x])++(BO l rec::BO D (.deferred (some []))::Al M1 w1::R pre d)))) (fun _ _ _=>False)) { tmps:=a.tmps.setIfInBounds p (enc x),defers:=[] } w)
  (hbody : ∀ l D rec M1 w1 pre x d, (pre ++ [x]) <+: xs → Tr (eC P (some l)) ⟨n.sz, []⟩ (E' x) (Hp M0 w0 S (own (pre ++ [x]) ++ (BO l rec :: BO D (.deferred (some [])) :: Al M1 w1 :: R pre d))) body
   (JM M0 w0 S (fun d=>own (pre++[x])++(BO l rec::BO D (.deferred (some []))::Al M1 w1::R (pre++[x]) d)) (fun c d=>own (pre++[x])++(BO l rec::BO D (.deferred (some []))::Al M1 w1::Rx c (pre++[x]) d))))
  (hdone:∀l D rec M1 w1 d,Fin ⟨n.sz,{ target:= .collected D,args:= #[] }::n.df⟩ E (Hp M0 w0 S (own xs++(BO l rec::BO D (.deferred (some []))::Al M1 w1::R xs d))) Q .normal)
  (hstop:∀l D rec M1 w1 c pre d,pre<+:xs→Tr (eC P none) ⟨n.sz,{ target:= .collected D,args:= #[] }::n.df⟩ E (Hp M0 w0 S (own pre++(BO l rec::BO D (.deferred (some []))::Al M1 w1::Rx c pre d))) c Q):
  Tr (eC P none) n E (Hp M0 w0 S rs) (.rangeFunc g #[p] assign body) Q:=by
 intro a w ⟨M,hsz,hdf,hE,hI⟩
 have hI:A9 M0 w0 S rs M w:=hI
 refine wpIn_rangeFunc ?_
 intro fn hfn
 obtain ⟨rec,Z2⟩:∃rec:LoopState→Option Code→Loop,rec=fun st pe=>{ state:=st,pending:=pe,fn,tmps:=a.tmps,params:= #[p],assign,body,defers:=w.heap.size }:=⟨_,rfl⟩
 -- what is held ahead of the call
 have hI2:=A9.perm O6 hI
 obtain ⟨hI3,e3⟩:=hI2.nw (.deferred (some []))
 obtain ⟨hI4,e4⟩:=hI3.nw (.loop (rec .ready none))
 obtain ⟨W1,hW1⟩:∃W1,(w.alloc (.deferred (some []))).alloc (.loop (rec .ready none))=W1:=⟨_,rfl⟩
 have hs1:(w.alloc (.deferred (some []))).heap.size=w.heap.size+1:=by simp
 rw [hW1,hs1] at hI4 e4
 obtain ⟨M1,hM1⟩:∃M1:Av,M1=(fun b o=>(M b o∨b=w.heap.size)∨b=w.heap.size+1):=⟨_,rfl⟩
 rw [←hM1] at hI4 e4
 have e1:Ext M w M1 W1:=e3.trans e4
 obtain ⟨l,hl⟩:∃l,l=w.heap.size+1:=⟨_,rfl⟩
 obtain ⟨D,hD⟩:∃D,D=w.heap.size:=⟨_,rfl⟩
 rw [←hl] at hI4
 rw [←hD] at hI4
 have hE1:FY M1 W1 E a:=fun s q hq=>q.st _ _ _ _ _ e1 (hE s q hq)
 have hI5:A9 M0 w0 S (own []++(BO l (.loop (rec .ready none))::BO D (.deferred (some []))::Al M1 W1::R [] d0)) M1 W1:=by
  refine A9.perm ?_ (A9.Ji hI4 (r:=Al M1 W1) rfl (Ext.refl _ _))
  refine List.Perm.trans (l₂:=(BO l (.loop (rec .ready none))::BO D (.deferred (some []))::Al M1 W1::R [] d0)++own []) ?_ List.perm_append_comm
  refine (List.Perm.swap _ _ _).trans (List.Perm.cons _ ((List.Perm.swap _ _ _).trans (List.Perm.cons _ (List.Perm.cons _ List.perm_append_comm))))
 have ix:∀(os:List At) (r:At) (tl:List At),(os++r::tl)[os.length]? =some r:=fun os r tl=>by simp
 have sx:∀(os:List At) (r r':At) (tl:List At),(os++r::tl).set os.length r'=os++r'::tl:=fun os r r' tl=>by simp
 have ix2:∀(os:List At) (r1 r2 r:At) (tl:List At),(os++r1::r2::r::tl)[os.length+2]? =some r:=fun os r1 r2 r tl=>by
  rw [List.getElem?_append_right AA];simp
 have sx2:∀(os:List At) (r1 r2 r r':At) (tl:List At),(os++r1::r2::r::tl).set (os.length+2) r'=os++r1::r2::r'::tl:=fun os r1 r2 r r' tl=>by
  rw [List.set_append_right _ _ AA];simp
 have AGA:=hdone;have AGB:=hstop
 refine ⟨l,[{ target:= .collected D,args:= #[] }],W1,{ target:= .fn (.func gf) lb,args:= #[.func (.yield l) #[] #[]] },W1,gf,#[.func (.yield l) #[] #[]]++lb,W1,?_,?_,fun _ _=>trivial,?_,fun h=>FW,?_⟩
 · rw [hl,hD,←hW1,Z2];exact run_enterLoop_outer _ _ _ _ _
 ·
  have hv:a.eval g= .func (.func gf) #[] lb:=by
   obtain ⟨q,h1,h2⟩:=hg
   exact h2 _ _ _ (C_.eval hE h1)
  simp only [resolve,hv]
  simp [go_sem]
 · simp [invoke,go_sem,eg]
 ·
  refine (hIt M0 w0 S l (Code × β) (fun pre cd => BO l (.loop (rec .ready none)) :: BO D (.deferred (some [])) :: Al M1 W1 :: R pre cd.2)
   (fun pre cd=>BO l (.loop (rec .done (some cd.1)))::BO D (.deferred (some []))::Al M1 W1::Rx cd.1 pre cd.2) ?_ (.skip,d0) M1 W1 hI5).mono ?_
  ·
   rintro pre x ⟨c0,d⟩ M2 W2 hpre hI
   have hl2:W2.heap[l]? =some (.loop (rec .ready none)):=(hI.hold (BO l (.loop (rec .ready none))) AV).1.2
   have hx2:Ext M1 W1 M2 W2:=(hI.hold (Al M1 W1) AV).1
   have hy:=run_yield (P:=P) (args:= #[enc x]) hl2 (by rw [Z2];rfl)
   have WS:A9 M0 w0 S (own (pre++[x])++(BO l (.loop (rec .ready none))::BO D (.deferred (some []))::Al M2 W2::R pre d)) M2 W2:=by
    have:=hI.C4 (r':=Al M2 W2) (ix2 _ _ _ _ _) rfl rfl (Ext.refl _ _)
    rwa [sx2] at this
   have n5:(Instr.yield l #[enc x]).run P W2= .ok (.round l fn (a.tmps.setIfInBounds p (enc x)) assign body) W2:=by
    rw [hy,Z2];simp
   have ha:=hassign l D _ M2 W2 pre x d hpre a hsz (fun s q hq=>q.st _ _ _ _ _ hx2 (hE1 s q hq)) M2 W2 WS
   refine ⟨fn,_,assign,body,n5,roundIn_of_wpIn (F:=Dx none) trivial (wpIn_mono (F:=(Dx none).inRound l) ha ?_)⟩
   intro e a3 W3 hq
   cases e with
   |normal=>
    obtain ⟨M3,hs3,hd3,hE3,hI3⟩:=hq
    have hI3:A9 M0 w0 S (own (pre++[x])++(BO l (.loop (rec .ready none))::BO D (.deferred (some []))::Al M2 W2::R pre d)) M3 W3:=hI3
    have hl3:W3.heap[l]? =some (.loop (rec .ready none)):=(hI3.hold (BO l (.loop (rec .ready none))) AV).1.2
    obtain ⟨hI4,e4⟩:=hI3.putObj (.loop { rec .ready none with state:= .busy }) (ix _ _ _)
    rw [sx] at hI4
    refine ⟨_,run_beginRound hl3 (by rw [Z2]),?_⟩
    refine wpIn_mono (F:=(Dx none).inRound l) (hbody l D _ M2 W2 pre x d hpre a3 _ ⟨M3,hs3,hd3,fun s q hq=>q.st _ _ _ _ _ e4 (hE3 s q hq),hI4⟩) ?_
    have fin:∀(jump:Option Code) (tl:List At) (W5:World) (M5:Av),A9 M0 w0 S (own (pre++[x])++(BO l (.loop { rec .ready none with state:= .busy })::BO D (.deferred (some []))::Al M2 W2::tl)) M5 W5→
      ∃w6,(Instr.endRound l jump).run P W5= .ok (.bool jump.isNone) w6∧Ext M2 W2 M5 w6∧A9 M0 w0 S (own (pre++[x])++(BO l (.loop (rec (if jump.isNone then .ready else .done) jump))::BO D (.deferred (some []))::Al M1 W1::tl)) M5 w6:=by
     intro jump tl W5 M5 h5
     have hl5:W5.heap[l]? =some (.loop { rec .ready none with state:= .busy }):=(h5.hold (BO l (.loop { rec .ready none with state:= .busy })) AV).1.2
     have hx5:Ext M2 W2 M5 W5:=(h5.hold (Al M2 W2) AV).1
     obtain ⟨h6,e6⟩:=h5.putObj (.loop { rec .ready none with state:=if jump.isNone then .ready else .done,pending:=jump }) (ix _ _ _)
     rw [sx] at h6
     have h7:=h6.C4 (r':=Al M1 W1) (ix2 _ _ _ _ _) rfl rfl (hx2.trans (hx5.trans e6))
     rw [sx2] at h7
     refine ⟨_,run_endRound jump hl5,hx5.trans e6,?_⟩
     rw [Z2] at h7 ⊢
     exact h7
    intro e5 a5 W5 hp
    cases e5 with
    |normal=>
     obtain ⟨d5,M5,h5⟩:=hp
     obtain ⟨w6,g1,g2,g3⟩:=fin none _ _ _ h5
     exact ⟨_,_,g1,M5,(.skip,d5),g2,.inl ⟨rfl,g3⟩⟩
    |ret=>
     obtain ⟨d5,M5,h5⟩:=hp
     obtain ⟨w6,g1,g2,g3⟩:=fin (some .ret) _ _ _ h5
     exact ⟨_,_,g1,M5,(.ret,d5),g2,.inr ⟨rfl,g3⟩⟩
    |exit id=>
     obtain ⟨d5,M5,h5⟩:=hp
     obtain ⟨w6,g1,g2,g3⟩:=fin (some (.exit id)) _ _ _ h5
     exact ⟨_,_,g1,M5,(.exit id,d5),g2,.inr ⟨rfl,g3⟩⟩
    |goto t=>
     obtain ⟨d5,M5,h5⟩:=hp
     obtain ⟨w6,g1,g2,g3⟩:=fin (some (.goto t)) _ _ _ h5
     exact ⟨_,_,g1,M5,(.goto t,d5),g2,.inr ⟨rfl,g3⟩⟩
    |panic ch=>exact hp.elim
    |outgrown=>exact hp.elim
   |exit id=>exact hq.elim
   |goto t=>exact hq.elim
   |ret=>exact hq.elim
   |panic ch=>exact hq.elim
   |outgrown=>exact hq.elim
  ·
   rintro e W2 ⟨⟨v,rfl⟩,M2,⟨c2,d2⟩,hx2,h2⟩
   have hend:∀(os tl:List At) (st:LoopState) (pe:Option Code),st≠ .busy→A9 M0 w0 S (os++(BO l (.loop (rec st pe))::BO D (.deferred (some []))::Al M1 W1::tl)) M2 W2→
     ∃w6,(Instr.endLoop l).run P W2= .ok pe w6∧Ext M2 W2 M2 w6∧A9 M0 w0 S (os++(BO l (.loop { rec st pe with state:= .exhausted })::BO D (.deferred (some []))::Al M1 W1::tl)) M2 w6:=by
    intro os tl st pe hst h5
    have hl5:W2.heap[l]? =some (.loop (rec st pe)):=(h5.hold (BO l (.loop (rec st pe))) AV).1.2
    obtain ⟨h6,e6⟩:=h5.putObj (.loop { rec st pe with state:= .exhausted }) (ix _ _ _)
    rw [sx] at h6
    have:=run_endLoop (P:=P) hl5 (by rw [Z2];exact hst)
    refine ⟨_,?_,e6,h6⟩
    rw [this,Z2]
   rcases h2 with h2|⟨pre,hpre,h2⟩
   ·
    obtain ⟨w6,g1,g2,g3⟩:=hend _ _ _ _ AV h2
    exact ⟨none,w6,g1,hdone l D _ M1 W1 d2 _ _ ⟨M2,hsz,by show _::a.defers=_;rw [hdf],fun s q hq=>q.st _ _ _ _ _ g2 (q.st _ _ _ _ _ hx2 (hE1 s q hq)),g3⟩⟩
   ·
    obtain ⟨w6,g1,g2,g3⟩:=hend _ _ _ _ AV h2
    exact ⟨some c2,w6,g1,hstop l D _ M1 W1 c2 pre d2 hpre _ _ ⟨M2,hsz,by show _::a.defers=_;rw [hdf],fun s q hq=>q.st _ _ _ _ _ g2 (q.st _ _ _ _ _ hx2 (hE1 s q hq)),g3⟩⟩
end
section
variable {P:Program} {M0:Av} {w0:World} {S:Nat→Prop} {rs:List At}
theorem Tr.toR {n:Fm} {E:Env} {I:Ck} {c:Code} {Q:Exit→Act→World→Prop} (h:Tr (YT P) n E I c Q):Tr (eC P none) n E I c Q:=fun a w hs=>wpIn_wide.2 (h a w hs)
theorem Tr.ofR {n:Fm} {E:Env} {I:Ck} {c:Code} {Q:Exit→Act→World→Prop} (h:Tr (eC P none) n E I c Q):Tr (YT P) n E I c Q:=fun a w hs=>wpIn_wide.1 (h a w hs)
theorem Tr.n7 {Q:Exit→Act→World→Prop} {n:Fm} {E:Env} {α β:Type} {p gf:Nat} {g:Operand} {lb:Array Value} {enc:α→Value} {xs:List α} {own:List α→List At} {assign body:Code} (E':α→Env) (R:List α→β→List At) (Rx:Code→List α→β→List At) (d0:β)
  (hIt:NJ P gf lb enc xs own) (eg:∀args w,(callFunc gf args).run P w= .ok (.enter gf args) w) (hg:VL E g (is (.func (.func gf) #[] lb))) (O6:rs.Perm (own []++R [] d0))
  (hassign:∀l D rec M1 w1 pre x d,(pre++[x])<+:xs→∀a,a.tmps.size=n.sz→FY M1 w1 E a→∀M w,A9 M0 w0 S (own (pre++[x])++(BO l rec::BO D (.deferred (some []))::Al M1 w1::R pre d)) M w→
   assign.wpIn (Dx (some l)) 0 P (Exit.then (St ⟨n.sz,[]⟩ (E' x) (Hp M0 w0 S (own (pre++[x])++(BO l rec::BO D (.deferred (some []))::Al M1 w1::R pre d)))) (fun _ _ _=>False)) { tmps:=a.tmps.setIfInBounds p (enc x),defers:=[] } w)
  (hbody : ∀ l D rec M1 w1 pre x d, (pre ++ [x]) <+: xs → Tr (eC P (some l)) ⟨n.sz, []⟩ (E' x) (Hp M0 w0 S (own (pre ++ [x]) ++ (BO l rec :: BO D (.deferred (some [])) :: Al M1 w1 :: R pre d))) body
   (JM M0 w0 S (fun d=>own (pre++[x])++(BO l rec::BO D (.deferred (some []))::Al M1 w1::R (pre++[x]) d)) (fun c d=>own (pre++[x])++(BO l rec::BO D (.deferred (some []))::Al M1 w1::Rx c (pre++[x]) d))))
  (hdone:∀l D rec M1 w1 d,Fin ⟨n.sz,{ target:= .collected D,args:= #[] }::n.df⟩ E (Hp M0 w0 S (own xs++(BO l rec::BO D (.deferred (some []))::Al M1 w1::R xs d))) Q .normal)
  (hstop:∀l D rec M1 w1 c pre d,pre<+:xs→Tr (YT P) ⟨n.sz,{ target:= .collected D,args:= #[] }::n.df⟩ E (Hp M0 w0 S (own pre++(BO l rec::BO D (.deferred (some []))::Al M1 w1::Rx c pre d))) c Q):
  Tr (YT P) n E (Hp M0 w0 S rs) (.rangeFunc g #[p] assign body) Q:=
 Tr.ofR (Tr.range E' R Rx d0 hIt eg hg O6 hassign hbody hdone fun l D rec M1 w1 c pre d hp=>(hstop l D rec M1 w1 c pre d hp).toR)
end
section
variable {P:Program}
theorem n8 {o:Oper} {x y:Operand} {ts:Array TypeId} {l:Nat} {v:Value} {a:Act} {w:World} {R:Ending→World→Prop} {K:Act→World→Prop} {Q:Exit→Act→World→Prop} (ho:o.op= .call { callee:= .value x,args:= #[y],argTypes:=ts })
  (hx:a.eval x= .func (.yield l) #[] #[]) (hy:a.eval y=v) (h:YieldAt (Dx none) 0 P l #[v] w R) (k:∀e w',R e w'→∃u,e= .returned u∧K (a.put o.dst u) w'):o.wpIn (Dx none) 0 P a w K Q:=by
 obtain ⟨fn,tmps,assign,body,hr,yU⟩:=h
 refine ⟨fun _ _=>trivial,?_⟩
 rw [Oper.semAt_eq _ _ _ (fun c hh=>by rw [ho] at hh;cases hh)]
 have hrun:(execOp a.eval o).run P w= .ok (.round l fn tmps assign body) w:=by
  have hd:(resolve a.eval { callee:= .value x,args:= #[y],argTypes:=ts } o.type).run P w= .ok { target:= .fn (.yield l) #[],args:= #[v] } w:=by simp [resolve,Deferred.ofValue,hx,hy]
  have hi:invoke (.fn (.yield l) #[]) #[v]=Instr.yield l #[v]:=rfl
  simp only [execOp,ho]
  rw [Sem.run_bind,hd]
  simp only [Result.andThen]
  rw [hi];exact hr
 rw [hrun]
 refine ⟨fun hh=>(by cases hh),RoundIn.mono yU fun e w' he=> ?_⟩
 obtain ⟨u,rfl,hk⟩:=k e w' he
 exact hk
end
end Cp
namespace Cp
open Go Go.RowKit Go.Great
structure AC0 (P:Program) (T kt et:TypeId) {κ:Type} [DecidableEq κ] (enc:κ→Value) (z0:Value):Prop where
 und:P.underlying T=some (.map kt et)
 zero:∀w,(zeroValue et).run P w= .ok z0 w
 eq:∀a b w,(Op.equal kt (enc a) (enc b)).run P w= .ok (decide (a=b)) w
 chk:∀e a w,(Instr.checkKey e 10000 kt (enc a)).run P w= .ok () w
 AE1:∃d,P.underlying kt=some d∧((∀a b,Instr.sameNow d (enc a) (enc b)=none)∨∀a b,Instr.sameNow d (enc a) (enc b)=some (decide (a=b)))
 bits:∀a,Instr.sameBits 10000 (enc a) (enc a)=true
section
variable {P:Program} {L:Lg P} {n:Fm} {z0:Value} {fz:Nat} {E:Env} {M0:Av} {w0:World} {S:Nat→Prop} {rs:List At} {o:Oper} {κ:Type} [DecidableEq κ] {enc:κ→Value}
abbrev AC1 (enc:κ→Value) (es:List (κ×Value)):List (Value×Value):=es.map fun p=>(enc p.1,p.2)
def AC2 (enc:κ→Value) (b:Nat) (es:List (κ×Value)):At where
 blk:=some b
 new:=true
 h M w:=(∀o,M b o)∧w.heap[b]? =some (.map (W6 (AC1 enc es)) es.length)
 st M w M' w' he hk h:=by
  obtain ⟨h1,h2⟩:=hk b rfl
  exact ⟨fun o=>h2 o (h.1 o),h1.trans h.2⟩
variable {Q:Exit→Act→World→Prop} {ops:Array Oper} {r:List Oper}
theorem TO.Z3 {d j b:Nat} {T kt et:TypeId} {x:Operand} {es:List (κ×Value)} (hT:AC0 P T kt et enc z0) (hg:o.guard=none) (hd:o.dst=some d) (hn:d<n) (ho:o.op= .range T x) (hx:VL E x (is (.map (some b)))) (hj:rs[j]? =some (AC2 enc b es))
  (k:∀it,TO P n ops r ((d,ptr it 0)::E) (Hp M0 w0 S (Oe it b es.length []::rs)) Q):TO P n ops (o::r) E (Hp M0 w0 S rs) Q:=
 TO.ff hg fun K M w a hsz hdf he hI hK=>by
  have h1:a.eval x=_:=hx.ev (o:=o) (CX he) Au
  obtain ⟨_,hh⟩:=(A9.hold hI _ (List.mem_of_getElem? hj)).1
  refine TO.val (v:= .pointer (some ⟨w.heap.size,0,none⟩)) (w':=w.alloc (.mapIter (some b) es.length #[] es.length)) ?_ ?_
  · simp [execOp,ho,h1,run_range_map w T kt et b _ _ hT.und hh]
  ·
   obtain ⟨h2,h3⟩:=A9.ABN (obj:= .mapIter (some b) es.length #[] es.length) (r:=Oe w.heap.size b es.length []) hI rfl rfl ⟨fun _=> .inr rfl,by rw [heap_alloc_new]⟩
   refine hK _ _ _ _ (k w.heap.size) ⟨_,by rw [B9];exact hsz,by rw [put_defers];exact hdf,?_,h2⟩
   intro s p hp
   simp only [List.lookup] at hp
   by_cases hs:s=d
   · exact Qg
   ·
    rw [show (s==d)=false by simpa using hs] at hp
    rw [hd,BZ hs]
    exact p.st _ _ _ _ _ h3 (he s p hp)
end
section
variable {P:Program} {L:Lg P} {n:Fm} {E:Env} {M0:Av} {w0:World} {S:Nat→Prop} {rs:List At} {ε:Type} {res:ε→List At} {Q:Exit→Act→World→Prop} {c:Code} {X:List ε} {f:ε→Value} {g:ε→Pr}
def n9 (f:ε→Value) (g:ε→Pr) (X:List ε):At:=⟨none,true,fun M w=>∀x∈X,(g x).h M w (f x),fun _ _ _ _ he _ h x hx=>(g x).st _ _ _ _ _ he (h x hx)⟩
end
section
variable {P:Program} {L:Lg P} {n:Fm} {E:Env} {M0:Av} {w0:World} {S:Nat→Prop} {rs:List At} {o:Oper} {Q:Exit→Act→World→Prop} {c:Code}
theorem Rt {t:TypeId} {x:Operand} {sz j i q:Nat} {T:TypeId} {rows:List (List Pr)} {row:List Pr} {p:Pr} {v:Value} (ho:o.op= .load t x) (ht:EW P t=true) (hx:VL E x (elp sz v i q)) (hl:∀r∈rows,r.length=sz) (hi:rows[i]? =some row) (hp:row[q]? =some p):
  Lu P M0 w0 S j (SR.c (Bs T sz rows v)) o E p:=by
 intro M w a rs he hI hj
 obtain ⟨a0,m0,c0,cJ,h1⟩:=hx.ev he Au
 have hj':rs[j]? =some (Bs T sz rows v):=hj
 rcases (hI.hold _ (List.mem_of_getElem? hj')).1 with ⟨rfl,A,hv⟩|⟨b,cap,spare,hv,hnc,hcm,hsp,⟨_,cs,h4,h5,h6⟩⟩
 · simp at hi
 ·
  rw [cJ] at hv
  injection hv with e1 e2 e3
  injection e1 with e1
  subst e1
  have hrl:=hl row (List.mem_of_getElem? hi)
  have hq:q<sz:=by rw [←hrl];exact BM hp
  have h7:(rows.flatten++spare.map is)[i*sz+q]? =some p:=by
   have F8:=BM hi
   have hle:(i+1)*sz≤rows.length*sz:=Nat.mul_le_mul_right sz F8
   rw [Nat.succ_mul] at hle
   rw [List.getElem?_append_left (by rw [Dr hl];omega),I_ hl hi hq];exact hp
  obtain ⟨u,hu,hh⟩:=h5.at_ _ _ h7
  have hc:w.cell? ((⟨b,0,none⟩:Addr).add (i*sz+q))=some u:=by rw [Ga];simp [World.cell?,h4,hu]
  have hrun:(execOp a.eval o).run P w= .ok (.value u) w:=by simp [execOp,ho,h1,Instr.loadAt,Instr.sureAddr,loadVar,EV ht,hc]
  rw [hrun]
  exact ⟨hh,Below.refl _ _⟩
theorem uL {M:Av} {w:World} {t ty e:TypeId} {sz bytes:Nat} {zs:List Value} {rows rows':List (List Pr)} {v u:Value} {j:Nat} (ht:P.underlying t=some (.slice e)) (hz:BB P e=some sz) (hby:Bz P e=some bytes) (FJ:Ba P e=some zs) (hzl:zs.length=sz) (hone:zs.all (·.oneCell')=true) (hsz:0<sz)
  (h:A9 M0 w0 S rs M w) (hj:rs[j]? =some (Bs e sz rows v)) (hl:∀r∈rows,r.length=sz) (hu:(slice sz rows').h M w u) (G9:rows.length+rows'.length≤maxLen) (hfit:(rows.length+rows'.length)*bytes≤140737488355328):
  ∃v' w' M',(Builtin.append_ #[t,t] ty #[v,u]).run P w= .ok v' w'∧(lens (rows.length+rows'.length)).h M' w' v'∧Ext M w M' w'∧A9 M0 w0 S (rs.set j (Bs e sz (rows++rows') v')) M' w':=by
 have hjl:=BM hj
 rcases Nat.eq_zero_or_pos rows'.length with h0|h0
 ·
  have hr0:rows'=[]:=List.eq_nil_of_length_eq_zero h0
  subst hr0
  obtain ⟨A',c',hu,_⟩:=hu
  have hv:∃A c,v= .slice A rows.length c∧rows.length≤c:=by
   rcases (h.hold _ (List.mem_of_getElem? hj)).1 with ⟨rfl,A,rfl⟩|⟨b,cap,sp,rfl,h2,_⟩
   · exact ⟨A,0,rfl,Nat.le_refl _⟩
   · exact ⟨_,_,rfl,h2⟩
  obtain ⟨A,c,jj,Sg⟩:=hv
  have hrun:=Gj (P:=P) (ty:=ty) (A:=A) (A':=A') (n:=rows.length) (c:=c) (c':=c') ht hz Sg w
  refine ⟨v,w,M,by rw [hu,jj];exact hrun,⟨A,c,by rw [jj];rfl⟩,Ext.refl _ _,?_⟩
  rw [List.append_nil]
  have hse:rs.set j (Bs e sz rows v)=rs:=by
   apply List.ext_getElem?
   intro i
   rw [List.getElem?_set]
   split
   · rename_i hij;subst hij;first|exact hj.symm|(rw [if_pos hjl];exact hj.symm)
   · rfl
  rw [hse];exact h
 ·
  rcases (h.hold _ (List.mem_of_getElem? hj)).1 with ⟨rfl,A,rfl⟩|⟨b,cap,sp,rfl,h2,h3,h4,h5⟩
  ·
   have h1:=h.blank hj
   obtain ⟨v',w',M',hrun,g1,g2,g3⟩:=W7 A (ty:=ty) ht hz hby FJ hzl hone hsz h1 (List.getElem?_set_self hjl) hu h0 Pg Pf
   rw [List.set_set] at g3
   have g4:=g3.C4 (r':=Bn e sz ([]++rows') v') (List.getElem?_set_self hjl) rfl rfl (.inr (g3.hold _ (List.mem_of_getElem? (List.getElem?_set_self hjl))).1)
   rw [List.set_set] at g4
   have g5:=A9.RY g4 (List.getElem?_set_self hjl)
   rw [List.set_set] at g5
   exact ⟨v',w',M',hrun,by simpa using g1,g2,g5⟩
  ·
   have h6:=h.XX (r':=Bn e sz rows (.slice (some ⟨b,0,none⟩) rows.length (cap+1))) hj (fun b hb=>hb) rfl (.inr ⟨b,cap+1,sp,rfl,h2,h3,h4,h5⟩)
   obtain ⟨v',w',M',hrun,g1,g2,g3⟩:=cq (ty:=ty) ht hz hby FJ hzl hone hsz h6 (List.getElem?_set_self hjl) hl hu h0 G9 hfit
   rw [List.set_set] at g3
   have g5:=A9.RY g3 (List.getElem?_set_self hjl)
   rw [List.set_set] at g5
   exact ⟨v',w',M',hrun,g1,g2,g5⟩
theorem MM {t e:TypeId} {x y:Operand} {sz' sz bytes d:Nat} {zs:List Value} {rows:List (List Pr)} {j:Nat} (hg:o.guard=none) (hd:o.dst=some d) (hn:d<n) (ho:o.op= .call { callee:= .builtin .append,args:= #[x,y],argTypes:= #[t,t] })
  (ht:P.underlying t=some (.slice e)) (hz:BB P e=some sz) (hby:Bz P e=some bytes) (FJ:Ba P e=some zs) (hzl:zs.length=sz) (hone:zs.all (·.oneCell')=true) (hsz:0<sz)
  (hx:VL E x (full sz' [])) (hy:VL E y (slice sz rows)) (G9:rows.length≤maxLen) (hfit:rows.length*bytes≤140737488355328):DI P M0 w0 S n j (SR.c Bu) ⟨d,Bs e sz rows⟩ o E (lens rows.length):=by
 refine ⟨hg,fun M w a rs Yz he hI hj=> ?_⟩
 have h2:=hy.ev he Dj
 obtain ⟨_,A,h1⟩:=hx.ev he Dj
 simp only [List.length_nil] at h1
 have hj':rs[j]? =some Bu:=hj
 have hjl:=BM hj'
 have h3:=hI.XX (r':=Bs e sz [] (.slice A 0 0)) hj' (fun b hb=>by cases A<;>cases hb) rfl (.inl ⟨rfl,A,rfl⟩)
 obtain ⟨v',w',M',hrun,g1,g2,g3⟩:=uL (ty:=o.type) ht hz hby FJ hzl hone hsz h3 (List.getElem?_set_self hjl) (fun r hr=>by cases hr) h2 Pg Pf
 rw [List.set_set] at g3
 have E6:(execOp a.eval o).run P w= .ok (.value v') w':=by simp [execOp,ho,resolve,invoke,builtin,h1,hrun]
 rw [E6]
 refine ⟨M',by simpa using g1,g2,?_⟩
 have:(SR.at_ (a.put o.dst v') ⟨d,Bs e sz rows⟩)=Bs e sz rows v':=by unfold SR.at_ Slot.val;dsimp only;rw [hd,B6 Is]
 rw [this];exact g3
end
section
variable {P:Program} {L:Lg P} {n:Fm} {E:Env} {M0:Av} {w0:World} {S:Nat→Prop} {rs:List At} {o:Oper} {Q:Exit→Act→World→Prop} {c:Code} {r:List Oper} {ops:Array Oper}
def UpR (r:At):Prop:=∀M M2 w,(∀b o,M b o→M2 b o)→r.h M w→r.h M2 w
def AC3 (ps:List Pr):Prop:=∀p∈ps,RI p
theorem HL.free {ps:List Pr} {cs:List Value} {M M2:Av} {w:World} (hf:AC3 ps) (h:HL M w ps cs):HL M2 w ps cs:=
 Wz h.length fun k p hk=>by
  obtain ⟨u,hu,hpu⟩:=h.at_ k p hk
  exact ⟨u,hu,(hf p (List.mem_of_getElem? hk)).free _ _ _ _ hpu⟩
theorem TO.perm {rs':List At} (hp:rs.Perm rs') (k:TO P n ops r E (Hp M0 w0 S rs') Q):TO P n ops r E (Hp M0 w0 S rs) Q:=TO.conv (fun _ _ hs=>hs.perm hp) k
end
section
variable {P:Program} {L:Lg P} {n:Fm} {E:Env} {M0:Av} {w0:World} {S:Nat→Prop} {rs:List At} {o:Oper} {Q:Exit→Act→World→Prop} {c:Code} {r:List Oper} {ops:Array Oper}
instance AC4:RI any:=⟨fun _ _ _ _ _=>trivial⟩
instance yV (v:Value) (p:Pr) [h9:RI p]:RI (Ad v p):=⟨fun _ _ _ _ h=>⟨h.1,h9.free _ _ _ _ h.2⟩⟩
def wH (w:World) (q:At):At:=⟨q.blk,q.new,fun _ w'=>∀b,q.blk=some b→w'.heap[b]? =w.heap[b]?,fun _ _ _ _ _ hk h b hb=>(hk b hb).1.trans (h b hb)⟩
theorem n_ {us bs:List At} (h:us.map (·.blk)=bs.map (·.blk)) (k:us.Pairwise fun r r':At=>∀b,r.blk=some b→r'.blk≠some b):bs.Pairwise fun r r':At=>∀b,r.blk=some b→r'.blk≠some b:=by
 have e1:∀l:List At,(l.Pairwise fun r r':At=>∀b,r.blk=some b→r'.blk≠some b)↔(l.map (·.blk)).Pairwise fun p q:Option Nat=>∀b,p=some b→q≠some b:=fun l=>by rw [List.pairwise_map]
 rw [e1] at k ⊢
 rw [←h];exact k
theorem A9.AHQ {α:Type} {C:α→Prop} {f:FuncId} {ps:List Pr} {post oG:α→List At} {res res2:α→Pr} {M:Av} {w:World} {vs:List Value} (hf:Fj P f ps [] C res post)
  (hI:A9 M0 w0 S rs M w) (hn:rs.all (·.new)=true) (hpost:∀x M0 w0 S rs M w,A9 M0 w0 S (post x++rs) M w→A9 M0 w0 S (oG x++rs) M w) (AGC:∀x,∀q∈oG x,UpR q)
  (hres:∀x M M2 w u,(res x).h M w u→(res2 x).h M2 w u) (hv:∀M1,Ext M w M1 w→(∀b o,M1 b o→∀q∈rs,q.blk≠some b)→HL M1 w ps vs):
  Calls P f vs.toArray w fun e' w'=>∃u M' x,e'= .returned u∧C x∧(res2 x).h M' w' u∧Ext M w M' w'∧A9 M0 w0 S (oG x++rs) M' w':=by
 have hb:∀q∈rs,∀b,q.blk=some b→b<w.heap.size∧w0.heap.size≤b:=fun q hq b hb=>by
  obtain ⟨h1,h2⟩:=(hI.hold q hq).2 b hb
  rw [if_pos (List.all_eq_true.1 hn q hq)] at h2
  exact ⟨h1,h2⟩
 have he:Ext M w (fun b o=>M b o∧∀q∈rs,q.blk≠some b) w:=Ext.less fun _ _ h=>h.1
 have hI1:A9 M0 w0 S (rs.map (wH w)) (fun b o=>M b o∧∀q∈rs,q.blk≠some b) w:=by
  refine ⟨hI.m0,fun b o hm=>⟨hI.m b o hm,fun q hq e1=>by have h1:=hI.m0 b o hm;have h2:=(hb q hq b e1).2;omega⟩,hI.os,hI.tape,hI.output,hI.size,hI.block,fun b o hm=>hI.bd b o hm.1,fun q hq=> ?_,?_⟩
  ·
   rw [List.mem_map] at hq
   obtain ⟨q,hq,rfl⟩:=hq
   exact ⟨fun _ _=>rfl,(hI.hold q hq).2⟩
  · exact n_ (by rw [List.map_map];rfl) hI.nd
 refine (hf.2 M0 w0 S (rs.map (wH w)) _ w vs hI1 (hv _ he fun _ _ h=>h.2)).mono ?_
 rintro e' w' ⟨u,M',x,rfl,hC,h2,h3,h4⟩
 have h5:=hpost x _ _ _ _ _ _ h4
 have AGD:∀q∈rs,∀b,q.blk=some b→w'.heap[b]? =w.heap[b]? :=fun q hq=>(h5.hold _ (List.mem_append_right _ (List.mem_map_of_mem hq))).1
 have hE:Ext M w (fun b o=>M' b o∨(M b o∧∃q∈rs,q.blk=some b)) w':=⟨h3.size,fun a q hc hm=>by
  obtain ⟨k1,k2⟩:=h3.keep a q hc (fun h=>hm h.1)
  exact ⟨fun h=>h.elim k1 fun h=>hm h.1,k2⟩,fun b x ho hp hm=>by
  obtain ⟨k1,k2⟩:=h3.obj b x ho hp (fun h=>hm h.1)
  exact ⟨fun h=>h.elim k1 fun h=>hm h.1,k2⟩⟩
 refine ⟨u,_,x,rfl,hC,hres x _ _ _ _ h2,hE,⟨h5.m0,fun b o hm=> .inl (h5.m b o hm),h5.os,h5.tape,h5.output,h5.size,h5.block,fun b o hm=> ?_,fun q hq=> ?_,?_⟩⟩
 ·
  rcases hm with hm|⟨hm,_⟩
  · exact h5.bd b o hm
  · exact Nat.lt_of_lt_of_le (hI.bd b o hm) h3.size
 ·
  rcases List.mem_append.1 hq with hq|hq
  ·
   obtain ⟨k1,k2⟩:=h5.hold q (List.mem_append_left _ hq)
   exact ⟨AGC x q hq _ _ _ (fun _ _ h=> .inl h) k1,k2⟩
  ·
   refine ⟨q.st _ _ _ _ hE (fun b hb=>⟨AGD q hq b hb,fun o hm=> .inr ⟨hm,q,hq,hb⟩⟩) (hI.hold q hq).1,fun b hb=> ?_⟩
   obtain ⟨k1,k2⟩:=(hI.hold q hq).2 b hb
   exact ⟨Nat.lt_of_lt_of_le k1 h3.size,k2⟩
 · exact n_ (by rw [List.map_append,List.map_append,List.map_map];rfl) h5.nd
end
section
variable {P:Program} {I:Ck} {E:Env} {o:Oper}
abbrev u32 (b:BitVec 32):Pr:=is (.int .u32 (b.toNat:Int))
theorem eD (n:Int):IntKind.u32.wrap n=n % 4294967296:=by simp [IntKind.wrap,IntKind.signed,IntKind.bits]
theorem QG (b:BitVec 32):IntKind.u32.wrap (b.toNat:Int)=(b.toNat:Int):=by rw [eD];have:=b.isLt;omega
theorem yW (b:BitVec 32) (i:Nat):IntKind.u32.wrap ((b.toNat:Int)*2 ^ (min i 32))=((b<<<i).toNat:Int):=by
 rw [eD,BitVec.toNat_shiftLeft,Nat.shiftLeft_eq]
 have e1:((b.toNat:Int)*2 ^ (min i 32))=((b.toNat*2 ^ (min i 32):Nat):Int):=by rw [Int.natCast_mul,Int.natCast_pow];rfl
 rw [e1]
 rcases Nat.le_total i 32 with h|h
 · rw [Nat.min_eq_left h];generalize b.toNat*2 ^ i=n;show ((n:Int) % 4294967296)=((n % 4294967296:Nat):Int);omega
 ·
  rw [Nat.min_eq_right h]
  obtain ⟨k,rfl⟩:=Nat.exists_eq_add_of_le h
  have h1:b.toNat*2 ^ 32 % 4294967296=0:=by rw [show (4294967296:Nat)=2 ^ 32 from rfl];exact Nat.mul_mod_left _ _
  have h2:b.toNat*2 ^ (32+k) % 2 ^ 32=0:=by rw [Nat.pow_add,←Nat.mul_assoc,Nat.mul_right_comm];exact Nat.mul_mod_left _ _
  rw [h2];generalize b.toNat*2 ^ 32=n at h1 ⊢;omega
theorem oH (b:BitVec 32) (i:Nat):(b.toNat:Int).fdiv (2 ^ (min i 32))=((b>>>i).toNat:Int):=by
 rw [BitVec.toNat_ushiftRight,Nat.shiftRight_eq_div_pow]
 have e1:(2:Int) ^ (min i 32)=((2 ^ (min i 32):Nat):Int):=by rw [Int.natCast_pow];rfl
 rw [e1,Int.fdiv_eq_ediv_of_nonneg _ (by exact Int.natCast_nonneg _)]
 rcases Nat.le_total i 32 with h|h
 · rw [Nat.min_eq_left h];norm_cast
 ·
  rw [Nat.min_eq_right h]
  have h3:=b.isLt
  have h1:b.toNat/2 ^ 32=0:=Nat.div_eq_of_lt h3
  have h2:b.toNat/2 ^ i=0:=Nat.div_eq_of_lt (Nat.lt_of_lt_of_le h3 (Nat.pow_le_pow_right AA h))
  rw [h2,←h1];norm_cast
theorem KR {t u:TypeId} {x y:Operand} {b:BitVec 32} {i:Int} (ho:o.op= .binOp .shl t x y u) (hx:VL E x (u32 b)) (hy:VL E y (int i)) (hi:0≤i):Ag P I o E (u32 (b<<<i.toNat)):=
 Ag.same fun M w a he _=>by
  have h1:a.eval x= .int .u32 b.toNat:=hx.ev he Au
  have h2:a.eval y= .int .i64 i:=hy.ev he Au
  refine ⟨.int .u32 ((b<<<i.toNat).toNat:Int),?_,rfl⟩
  rw [←yW]
  simp [execOp,ho,h1,h2,eqGuard,binOp,Op.shift,show ¬i<0 by omega,IntKind.bits]
theorem oJ {t u:TypeId} {x y:Operand} {b:BitVec 32} {i:Int} (ho:o.op= .binOp .shr t x y u) (hx:VL E x (u32 b)) (hy:VL E y (int i)) (hi:0≤i):Ag P I o E (u32 (b>>>i.toNat)):=
 Ag.same fun M w a he _=>by
  have h1:a.eval x= .int .u32 b.toNat:=hx.ev he Au
  have h2:a.eval y= .int .i64 i:=hy.ev he Au
  refine ⟨.int .u32 ((b>>>i.toNat).toNat:Int),?_,rfl⟩
  rw [←oH]
  simp [execOp,ho,h1,h2,eqGuard,binOp,Op.shift,show ¬i<0 by omega,IntKind.bits]
theorem Xh (b:BitVec 32):BitVec.ofInt 32 (b.toNat:Int)=b:=by
 apply BitVec.eq_of_toNat_eq
 rw [BitVec.toNat_ofInt]
 have:=b.isLt
 omega
theorem Ru {t u:TypeId} {x y:Operand} {b c:BitVec 32} {op:BinOp} {f:BitVec 32→BitVec 32→BitVec 32} (ho:o.op= .binOp op t x y u) (hx:VL E x (u32 b)) (hy:VL E y (u32 c))
  (hf:(op= .and∧f=fun b c=>b&&&c)∨(op= .or∧f=fun b c=>b|||c)∨(op= .andNot∧f=fun b c=>b&&&~~~c)∨(op= .xor∧f=fun b c=>b ^^^ c)):Ag P I o E (u32 (f b c)):=
 Ag.same fun M w a he _=>by
  have h1:a.eval x= .int .u32 b.toNat:=hx.ev he Au
  have h2:a.eval y= .int .u32 c.toNat:=hy.ev he Au
  refine ⟨.int .u32 ((f b c).toNat:Int),?_,rfl⟩
  have e1:=Xh b
  have e2:=Xh c
  rcases hf with ⟨rfl,rfl⟩|⟨rfl,rfl⟩|⟨rfl,rfl⟩|⟨rfl,rfl⟩
  · have e3:=QG (b&&&c);simp [execOp,ho,h1,h2,eqGuard,binOp,Op.intBits,IntKind.bits,e1,e2] at e3 ⊢;exact e3
  · have e3:=QG (b|||c);simp [execOp,ho,h1,h2,eqGuard,binOp,Op.intBits,IntKind.bits,e1,e2] at e3 ⊢;exact e3
  · have e3:=QG (b&&&~~~c);simp [execOp,ho,h1,h2,eqGuard,binOp,Op.intBits,IntKind.bits,e1,e2];exact e3.trans AV
  · have e3:=QG (b ^^^ c);simp [execOp,ho,h1,h2,eqGuard,binOp,Op.intBits,IntKind.bits,e1,e2] at e3 ⊢;exact e3
theorem Rv {t u:TypeId} {x y:Operand} {b c:BitVec 32} (ho:o.op= .binOp .and t x y u) (hx:VL E x (u32 b)) (hy:VL E y (u32 c)):Ag P I o E (u32 (b&&&c)):=Ru ho hx hy (.inl ⟨rfl,rfl⟩)
theorem NK {t u:TypeId} {x y:Operand} {b c:BitVec 32} (ho:o.op= .binOp .or t x y u) (hx:VL E x (u32 b)) (hy:VL E y (u32 c)):Ag P I o E (u32 (b|||c)):=Ru ho hx hy (.inr (.inl ⟨rfl,rfl⟩))
theorem Oq {t u:TypeId} {x y:Operand} {b c:BitVec 32} (ho:o.op= .binOp .andNot t x y u) (hx:VL E x (u32 b)) (hy:VL E y (u32 c)):Ag P I o E (u32 (b&&&~~~c)):=Ru (f:=fun b c=>b&&&~~~c) ho hx hy (.inr (.inr (.inl ⟨rfl,rfl⟩)))
theorem Qk:Pr.le (is (.int .u32 0)) (u32 0#32):=fun _ _ _ h=>h
theorem eE (b:BitVec 32):(((b.toNat:Int)==0)=(b==0#32)):=by
 rw [Bool.eq_iff_iff,beq_iff_eq,beq_iff_eq]
 constructor
 · intro h;apply BitVec.eq_of_toNat_eq;simp;omega
 · rintro rfl;rfl
theorem yX (b:BitVec 32) (i:Nat):((((b>>>i)&&&1#32).toNat:Int)==1)=b.getLsbD i:=by
 rw [Bool.eq_iff_iff,beq_iff_eq]
 have h1:((b>>>i)&&&1#32).toNat=(b.toNat>>>i) % 2:=by
  rw [BitVec.toNat_and,BitVec.toNat_ushiftRight];exact Nat.and_one_is_mod _
 rw [h1]
 unfold BitVec.getLsbD
 rw [Nat.testBit,Nat.and_comm,Nat.and_one_is_mod]
 constructor
 ·
  intro h;have:(b.toNat>>>i) % 2=1:=by omega
  rw [this];rfl
 ·
  intro h
  rcases Nat.mod_two_eq_zero_or_one (b.toNat>>>i) with h2|h2
  · rw [h2] at h;cases h
  · omega
end
end Cp
namespace Go.Proofs.YtmocaapoeefgkaaGreatDoor
open Go Go.RowKit Cp Go.Proofs.Tryz
-- sets of bits, AEV
def Jr (b:BitVec 32):Nat:=((List.range 32).find? fun i=>b.getLsbD i).getD 32
def Jc (b:BitVec 32):List Nat:=(List.range 32).filter fun i=>b.getLsbD i
def iE (b:BitVec 32) (i:Nat):BitVec 32:=b&&&~~~(1#32<<<i)
def YY (b:BitVec 32) (i:Nat):BitVec 32:=b|||(1#32<<<i)
theorem Z4 (i j:Nat):(1#32<<<i).getLsbD j=(decide (i=j)&&decide (j<32)):=by
 rw [BitVec.getLsbD_shiftLeft]
 by_cases h1:j<32
 ·
  by_cases h2:i=j
  · subst h2;simp [h1]
  ·
   by_cases h3:j<i
   · simp [h3,h2]
   ·
    have:(1#32).getLsbD (j-i)=false:=by
     rw [BitVec.getLsbD_ofNat]
     have:(1:Nat).testBit (j-i)=false:=by
      obtain ⟨k,hk⟩:∃k,j-i=k+1:=⟨j-i-1,by omega⟩
      rw [hk,Nat.testBit_succ];simp
     rw [this];simp
    rw [this];simp [h2]
 · simp [h1]
theorem Rw {b:BitVec 32} {i j:Nat} (hi:i<32):(YY b i).getLsbD j=(b.getLsbD j||decide (i=j)):=by
 unfold YY
 rw [BitVec.getLsbD_or,Z4]
 by_cases h:i=j
 · subst h;simp [hi]
 · simp [h]
theorem uM {b:BitVec 32} {i j:Nat}:(iE b i).getLsbD j=(b.getLsbD j&& !decide (i=j)):=by
 unfold iE
 rw [BitVec.getLsbD_and,BitVec.getLsbD_not,Z4]
 by_cases hj:j<32
 · simp [hj]
 ·
  have:b.getLsbD j=false:=BitVec.getLsbD_of_ge b j AA
  rw [this];simp
theorem Xi {α:Type} [DecidableEq α] {p:α→Bool} {x:α}:∀{l:List α},l.Nodup→l.find? p=some x→l.filter p=x::l.filter (fun y=>p y&& !(decide (x=y):Bool)):=by
 intro l
 induction l with
 |nil=>intro _ h;cases h
 |cons a l ih=>
  intro hn h
  obtain ⟨ha,hn⟩:=List.nodup_cons.1 hn
  rw [List.find?_cons] at h
  cases hp:p a with
  |true=>
   rw [hp] at h
   simp at h
   subst h
   rw [List.filter_cons,hp,List.filter_cons]
   simp [hp]
   exact List.filter_congr fun y hy=>by
    have:¬a=y:=fun e=>ha (e ▸ hy)
    simp [this]
  |false=>
   rw [hp] at h
   simp at h
   rw [List.filter_cons,hp,List.filter_cons,hp]
   simp
   exact ih hn D3
theorem V0 {b:BitVec 32} (h:∀i,i<32→b.getLsbD i=false):b=0#32:=BitVec.eq_of_getLsbD_eq fun i hi=>by rw [h i hi];simp
theorem oK:Jc 0#32=[]:=by decide
theorem Ry {b:BitVec 32} (h:b≠0#32):(List.range 32).find? (fun i=>b.getLsbD i)=some (Jr b):=by
 unfold Jr
 cases hf:(List.range 32).find? (fun i=>b.getLsbD i) with
 |some x=>rfl
 |none=>
  rw [List.find?_eq_none] at hf
  exact absurd (V0 fun i hi=>by simpa using hf i (List.mem_range.2 hi)) h
theorem oQ {b:BitVec 32} (h:b≠0#32):b.getLsbD (Jr b)=true:=by simpa using List.find?_some (Ry h)
theorem Z5 {b:BitVec 32} (h:b≠0#32):Jr b<32:=List.mem_range.1 (List.mem_of_find?_eq_some (Ry h))
theorem Rz {b:BitVec 32} (h:b≠0#32):Jc b=Jr b::Jc (iE b (Jr b)):=by
 unfold Jc
 rw [Xi List.nodup_range (Ry h)]
 congr 1
 exact List.filter_congr fun y _=>by rw [uM]
theorem Ft {b:BitVec 32} {i:Nat}:i∈Jc b↔b.getLsbD i=true:=by
 unfold Jc
 rw [List.mem_filter,List.mem_range]
 constructor
 · exact fun h=>h.2
 ·
  intro h
  refine ⟨?_,h⟩
  rcases Nat.lt_or_ge i 32 with h2|h2
  · exact h2
  · rw [BitVec.getLsbD_of_ge b i h2] at h;cases h
theorem eF {b:BitVec 32} {i:Nat} (h:b.getLsbD i=true):Jr b≤i:=by
 have hb:b≠0#32:=fun e=>by rw [e] at h;simp at h
 have h1:i∈Jc b:=Ft.2 h
 rw [Rz hb] at h1
 rcases List.mem_cons.1 h1 with h2|h2
 · omega
 ·
  have h3:(Jc b).Pairwise (· < ·):=List.Pairwise.filter _ List.pairwise_lt_range
  rw [Rz hb] at h3
  exact Nat.le_of_lt ((List.pairwise_cons.1 h3).1 i h2)
theorem iF {b:BitVec 32} (h:b≠0#32):b&&&(-b)=1#32<<<(Jr b):=by
 apply BitVec.eq_of_getLsbD_eq
 intro i hi
 rw [BitVec.getLsbD_and,BitVec.getLsbD_neg,Z4]
 by_cases h1:Jr b=i
 ·
  subst h1
  have:¬∃j,j<Jr b∧b.getLsbD j=true:=fun ⟨j,hj,hb⟩=>by have:=eF hb;omega
  simp [hi,oQ h,this]
 ·
  by_cases h2:Jr b<i
  ·
   have:∃j,j<i∧b.getLsbD j=true:=⟨_,h2,oQ h⟩
   simp [this,h1,hi]
  ·
   have:b.getLsbD i=false:=by
    cases hb:b.getLsbD i with
    |false=>rfl
    |true=>have:=eF hb;omega
   simp [this,h1]
def Xj:List Nat:=[0,1,28,2,29,14,24,3,30,22,20,15,25,17,4,8,31,27,13,23,21,19,16,7,26,12,18,6,11,5,10,9]
theorem uN:∀i,i<32→Xj[(((1#32<<<i)*125613361#32)>>>27).toNat]? =some i:=by decide
-- rows of bits as a relation (to stand behind Rq.lean and Bit.lean)
def D7 (n:Nat) (B:List (BitVec 32)) (M:Nat→Nat→Bool):Prop:=B.length=n∧∀b x,B[b]? =some x→∀a,x.getLsbD a=(decide (a<n)&&M a b)
theorem Fu {n:Nat} {B:List (BitVec 32)} {M N:Nat→Nat→Bool} (h:D7 n B M) (k:∀a b,a<n→b<n→M a b=N a b):D7 n B N:=by
 refine ⟨h.1,fun b x hx a=> ?_⟩
 rw [h.2 b x hx a]
 have hb:b<n:=by rw [←h.1];rcases Nat.lt_or_ge b B.length with h2|h2;exact h2;rw [List.getElem?_eq_none h2] at hx;cases hx
 by_cases ha:a<n
 · rw [k a b ha hb]
 · simp [ha]
theorem R3 (n:Nat):D7 n (List.replicate n 0#32) (fun _ _=>false):=by
 refine ⟨List.length_replicate,fun b x hx a=> ?_⟩
 have:=List.eq_of_mem_replicate (List.mem_of_getElem? hx)
 subst this;simp
theorem T4 {n:Nat} {B:List (BitVec 32)} {M N:Nat→Nat→Bool} (h:D7 n B M) {t:Nat} {y:BitVec 32} (ho:∀a b,b≠t→N a b=M a b) (hy:∀a,y.getLsbD a=(decide (a<n)&&N a t)):D7 n (B.set t y) N:=by
 refine ⟨by rw [List.length_set];exact h.1,fun b x hx a=> ?_⟩
 rw [List.getElem?_set] at hx
 split at hx
 ·
  rename_i e;subst e
  split at hx
  · cases hx;exact hy a
  · cases hx
 ·
  rename_i e
  rw [h.2 b x hx a,ho a b (fun e2=>e e2.symm)]
theorem Xk {n:Nat} {B:List (BitVec 32)} {M:Nat→Nat→Bool} (h:D7 n B M) {t f:Nat} {x:BitVec 32} (hx:B[t]? =some x) (hf:f<n) (hn:n≤32):D7 n (B.set t (YY x f)) (fun a b=>M a b||(decide (f=a)&&decide (t=b))):=by
 refine T4 h (fun a b hb=> ?_) (fun a=> ?_)
 · simp [show ¬t=b from fun e=>hb e.symm]
 ·
  rw [Rw AA,h.2 t x hx a]
  by_cases ha:a<n
  · simp [ha]
  ·
   have:¬f=a:=by omega
   simp [ha,this]
def LI (k:Nat) (m:Nat→Nat→Bool) (i a b:Nat):Bool:=if b<i then KP k m a b else m a b
theorem yY (k:Nat) (m:Nat→Nat→Bool):LI k m 0=m:=by funext a b;unfold LI;rw [if_neg AA]
theorem oV {n k:Nat} {m:Nat→Nat→Bool} {a b:Nat} (hb:b<n):LI k m n a b=KP k m a b:=by unfold LI;rw [if_pos hb]
theorem oW (k:Nat) (m:Nat→Nat→Bool) (i a:Nat):LI k m i a k=m a k:=by unfold LI;split;exact Xc k m a;rfl
theorem Xl {n k i:Nat} {m:Nat→Nat→Bool} {B:List (BitVec 32)} {x:BitVec 32} (h:D7 n B (LI k m i)) (hx:B[i]? =some x) (hk:k<n):x.getLsbD k=m k i:=by
 rw [h.2 i x hx k];unfold LI;rw [if_neg AA];simp [hk]
theorem oX {n k i:Nat} {m:Nat→Nat→Bool} {B:List (BitVec 32)} {x y:BitVec 32} (h:D7 n B (LI k m i)) (hx:B[i]? =some x) (hy:B[k]? =some y) (hm:m k i=true):D7 n (B.set i (x|||y)) (LI k m (i+1)):=by
 refine T4 h (fun a b hb=> ?_) (fun a=> ?_)
 ·
  unfold LI
  by_cases h1:b<i
  · rw [if_pos h1,if_pos AA]
  · rw [if_neg h1,if_neg AA]
 ·
  rw [BitVec.getLsbD_or,h.2 i x hx a,h.2 k y hy a,oW]
  unfold LI
  rw [if_neg AA,if_pos AA]
  unfold KP
  rw [hm]
  cases decide (a<n)<;>simp
theorem uO {n k i:Nat} {m:Nat→Nat→Bool} {B:List (BitVec 32)} (h:D7 n B (LI k m i)) (hm:m k i=false):D7 n B (LI k m (i+1)):=by
 refine Fu h fun a b _ _=> ?_
 unfold LI
 by_cases h1:b<i
 · rw [if_pos h1,if_pos AA]
 ·
  by_cases h2:b=i
  · subst h2;rw [if_neg h1,if_pos AA];unfold KP;rw [hm];simp
  · rw [if_neg h1,if_neg AA]
structure AGE (n:Nat) (l:List BC) (B A:List (BitVec 32)):Prop where
 bef:D7 n B (C5 l n)
 aft:D7 n A (fun b a=>C5 l n a b)
theorem Gh {l:List BC} {s:List Int} (h:CD l s=true):∀(k:Nat) {a b:Nat},C5 l k a b=true→(b:Int)∈s→(a:Int)∈s
 |0,a,b,hw,hb=>by
  unfold C5 Gf at hw
  rw [List.any_eq_true] at hw
  obtain ⟨r,hr,h2⟩:=hw
  simp at h2
  have:=Ca.1 h r hr (by rw [h2.2];exact hb)
  rw [h2.1] at this;exact this
 |k+1,a,b,hw,hb=>by
  have hw:KP k (C5 l k) a b=true:=hw
  unfold KP at hw
  rw [Bool.or_eq_true,Bool.and_eq_true] at hw
  rcases hw with hw|⟨h1,h2⟩
  · exact Gh h k hw hb
  · exact Gh h k h1 (Gh h k h2 hb)
def R4 (n:Nat) (s:BitVec 32) (d:List Int):Prop:=∀i:Nat,s.getLsbD i=true↔(i:Int)∈d
theorem Xm {x s:BitVec 32}:(x&&&~~~s=0#32)↔∀i,x.getLsbD i=true→s.getLsbD i=true:=by
 constructor
 ·
  intro h i hi
  have h2:=congrArg (fun y=>BitVec.getLsbD y i) h
  have hlt:i<32:=by rcases Nat.lt_or_ge i 32 with h3|h3;exact h3;rw [BitVec.getLsbD_of_ge x i h3] at hi;cases hi
  simp [hi,hlt] at h2
  exact h2
 ·
  intro h
  refine V0 fun i hi=> ?_
  rw [BitVec.getLsbD_and,BitVec.getLsbD_not]
  cases hx:x.getLsbD i with
  |false=>simp
  |true=>rw [h i hx];simp
theorem eG (n:Nat):∀m,(List.range m).filter (fun j=>decide (j<n))=List.range (min n m)
 |0=>by simp
 |m+1=>by
  rw [List.range_succ,List.filter_append,eG n m]
  by_cases h:m<n
  ·
   rw [Nat.min_eq_right AA,Nat.min_eq_right AA,List.range_succ]
   simp [h]
  ·
   rw [Nat.min_eq_left AA,Nat.min_eq_left AA]
   simp [h]
theorem yZ {x:BitVec 32} {n:Nat} {p:Nat→Bool} (h:∀j,x.getLsbD j=(decide (j<n)&&p j)) (hn:n≤32):Jc x=(List.range n).filter p:=by
 unfold Jc
 rw [List.filter_congr (q:=fun j=>decide (j<n)&&p j) (fun j _=>h j)]
 rw [show (fun j=>decide (j<n)&&p j)=fun j=>p j&&decide (j<n) from by funext j;rw [Bool.and_comm]]
 rw [←List.filter_filter,eG,Nat.min_eq_left hn]
theorem uP (b:BitVec 32):(Jc b).length≤32:=by unfold Jc;exact Nat.le_trans (List.length_filter_le _ _) AV
end Go.Proofs.YtmocaapoeefgkaaGreatDoor
namespace Cp
open Go Go.RowKit Go.Great
abbrev mark (D:Nat):Deferred:={ target:= .collected D,args:= #[] }
abbrev Xn (D:Nat):At:=BO D (.deferred (some []))
abbrev Jd (P:Program) (g:Func) (R:Ending→World→Prop):Exit→Act→World→Prop:=bodyPostM (Dx none) 0 P g R
section
variable {P:Program} {fz:Nat} {E:Env} {M0:Av} {w0:World} {S:Nat→Prop} {rs:List At} {g:Func} {R:Ending→World→Prop} {ds:List Deferred} {n:Fm} {c:Code}
theorem Fin.R5 {D:Nat} (k:Fin ⟨fz,ds⟩ E (Hp M0 w0 S rs) (Jd P g R) .ret):Fin ⟨fz,mark D::ds⟩ E (Hp M0 w0 S (Xn D::rs)) (Jd P g R) .ret:=by
 rintro a w ⟨M,h1,h2,h3,h4⟩
 have h4:A9 M0 w0 S (Xn D::rs) M w:=h4
 have hD:w.heap[D]? =some (.deferred (some [])):=(h4.hold _ (List.mem_cons_self ..)).1.2
 obtain ⟨h5,h6⟩:=h4.putObj (j:=0) (.deferred none) rfl
 have h7:=k { a with defers:=ds } (w.putObj D (.deferred none)) ⟨M,h1,rfl,fun s q hq=>q.st _ _ _ _ _ h6 (h3 s q hq),A9.J3 h5⟩
 have h2:a.defers=mark D::ds:=h2
 show LeavesInM _ _ _ _ _ _ a.defers _ _
 rw [h2]
 exact ⟨(fun h=>by cases h),.inl ⟨D,_,rfl,run_takeDeferred hD,h7⟩⟩
theorem Fin.R6 (k:Fin ⟨fz,[]⟩ E (Hp M0 w0 S rs) (bodyPost P g R) .ret):Fin ⟨fz,[]⟩ E (Hp M0 w0 S rs) (Jd P g R) .ret:=by
 rintro a w h
 obtain ⟨h1,v,h2,h3⟩:=k a w h
 show LeavesInM _ _ _ _ _ _ a.defers _ _
 rw [h1]
 exact ⟨v,h2,h3⟩
theorem Fin.eH:∀{Ds:List Nat} {rs:List At},Fin ⟨fz,[]⟩ E (Hp M0 w0 S rs) (bodyPost P g R) .ret→Fin ⟨fz,Ds.map mark⟩ E (Hp M0 w0 S (Ds.map Xn++rs)) (Jd P g R) .ret
 |[],_,k=>Fin.R6 k
 |_::_,_,k=>Fin.R5 (Fin.eH k)
theorem Fin.ya {rs:List At} (k:Fin n E (Hp M0 w0 S rs) (Jd P g R) .ret):Fin n E (Hp M0 w0 S rs) (Jd P g R) .normal:=k
theorem Ot {f:FuncId} {args:Array Value} {w:World} (hf:P.funcs[f]? =some g) (hb:g.body=some c) (h:c.wp P (Jd P g R) { tmps:=args++Array.replicate (g.ntmps-args.size) undef,defers:=[] } w):Calls P f args w R:=
 callsIn_wide.1 (callsIn_of_wp_marks (F:=Dx none) (n:=0) hf hb trivial (wpIn_wide.2 h))
variable {α:Type} {pre:List At} {C:α→Prop} {res:α→Pr} {post:α→List At} {M1:Av} {w1:World}
theorem Fj.ofM {f : FuncId} {ps : List Pr} (hf : P.funcs[f]? = some g) (hb : g.body = some c) (hname : (g.name == "runtime.NumGoroutine") = false) (hlen : ps.length ≤ g.ntmps)
  (h:∀M0 w0 S rs M1 w1,Tr (YT P) g.ntmps (Lt 0 ps) (Hp M0 w0 S (pre++Al M1 w1::rs)) c (Jd P g (Of M0 w0 S rs M1 w1 C res post))):Fj P f ps pre C res post:=by
 refine ⟨⟨g,hf,hname,by rw [hb];rfl⟩,fun M0 w0 S rs M w vs hI hv=> ?_⟩
 refine Ot hf hb (h M0 w0 S rs M w _ _ ⟨M,?_,rfl,F9 hv,?_⟩)
 ·
  have:=hv.length
  simp [this];omega
 · exact Yx
end
def Z6 (g:Nat) (HX:List Nat):At where
 blk:=none
 new:=true
 h M w:=∀(j:Nat) (x:Nat),HX[j]? =some x→w.cell? ⟨g,j,none⟩=some (.int .u8 (x:Int))∧¬M g j
 st M w M' w' he _ h:=fun j x hx=>by
  obtain ⟨h1,h2⟩:=h j x hx
  obtain ⟨h3,h4⟩:=he.keep ⟨g,j,none⟩ _ h1 h2
  exact ⟨h4,h3⟩
def CK (p:Prop):At:=⟨none,true,fun _ _=>p,fun _ _ _ _ _ _ h=>h⟩
section
variable {P:Program} {L:Lg P} {n:Fm} {E:Env} {M0:Av} {w0:World} {S:Nat→Prop} {rs:List At} {o:Oper} {r:List Oper} {ops:Array Oper} {Q:Exit→Act→World→Prop} {c:Code}
theorem Tr.prop {p:Prop} (j:Nat) (hj:rs[j]? =some (CK p)) (k:p→Tr L n E (Hp M0 w0 S rs) c Q):Tr L n E (Hp M0 w0 S rs) c Q:=fun a w hs=>by
 obtain ⟨M,h1,h2,h3,h4⟩:=hs
 have h4:A9 M0 w0 S rs M w:=h4
 exact k (h4.hold _ (List.mem_of_getElem? hj)).1 a w ⟨M,h1,h2,h3,h4⟩
theorem Fin.eI {e:Exit} {p:Prop} (hp:p) (k:Fin n E (Hp M0 w0 S (CK p::rs)) Q e):Fin n E (Hp M0 w0 S rs) Q e:=fun a w hs=>by
 obtain ⟨M,h1,h2,h3,h4⟩:=hs
 have h4:A9 M0 w0 S rs M w:=h4
 exact k a w ⟨M,h1,h2,h3,A9.Ji h4 (r:=CK p) rfl hp⟩
theorem Tr.eI {p:Prop} (hp:p) (k:Tr L n E (Hp M0 w0 S (CK p::rs)) c Q):Tr L n E (Hp M0 w0 S rs) c Q:=fun a w hs=>by
 obtain ⟨M,h1,h2,h3,h4⟩:=hs
 have h4:A9 M0 w0 S rs M w:=h4
 exact k a w ⟨M,h1,h2,h3,A9.Ji h4 (r:=CK p) rfl hp⟩
theorem yc {t:TypeId} {x:Operand} {g j i:Nat} {HX:List Nat} {y:Nat} (ho:o.op= .load t x) (ht:EW P t=true) (hx:VL E x (is (.pointer (some ⟨g,i,none⟩)))) (hy:HX[i]? =some y):Lu P M0 w0 S j (SR.c (Z6 g HX)) o E (is (.int .u8 (y:Int))):=by
 intro M w a rs he hI hj
 have h0:a.eval x= .pointer (some ⟨g,i,none⟩):=hx.ev he Au
 have hj':rs[j]? =some (Z6 g HX):=hj
 obtain ⟨h1,_⟩:=(hI.hold _ (List.mem_of_getElem? hj')).1 i y hy
 have hrun:(execOp a.eval o).run P w= .ok (.value (.int .u8 (y:Int))) w:=by simp [execOp,ho,h0,Instr.loadAt,Instr.sureAddr,loadVar,EV ht,h1]
 rw [hrun]
 exact ⟨rfl,Below.refl _ _⟩
end
section
variable {P:Program}
theorem NJ.of {gf:Nat} {lb:Array Value} {α:Type} {enc:α→Value} {xs:List α} {own:List α→List At} {g:Func} {c:Code} {ps:List Pr} (hf:P.funcs[gf]? =some g) (hb:g.body=some c) (hlen:ps.length+1≤g.ntmps) (hps:∀M w,HL M w ps lb.toList)
  (h:∀(M0:Av) (w0:World) (S:Nat→Prop) (l:Nat) (β:Type) (R Rx:List α→β→List At) (M1:Av) (w1:World),
   (∀pre x d M w,(pre++[x])<+:xs→A9 M0 w0 S (own (pre++[x])++R pre d) M w→YieldAt (Dx none) 0 P l #[enc x] w fun e w'=>∃M' d',Ext M w M' w'∧
    ((e= .returned (.bool true)∧A9 M0 w0 S (own (pre++[x])++R (pre++[x]) d') M' w')∨(e= .returned (.bool false)∧A9 M0 w0 S (own (pre++[x])++Rx (pre++[x]) d') M' w')))→
   ∀ d, Tr (eC P none) g.ntmps (Lt 0 (is (.func (.yield l) #[] #[]) :: ps)) (Hp M0 w0 S (own [] ++ Al M1 w1 :: R [] d)) c
    (Jd P g fun e w'=>(∃v,e= .returned v)∧∃M' d',Ext M1 w1 M' w'∧(A9 M0 w0 S (own xs++R xs d') M' w'∨∃pre,pre<+:xs∧A9 M0 w0 S (own pre++Rx pre d') M' w'))):NJ P gf lb enc xs own:=by
 intro M0 w0 S l β R Rx hy d M w hI
 refine callsIn_of_wp_marks (F:=Dx none) (n:=0) hf hb trivial (h M0 w0 S l β R Rx M w hy d _ _ ⟨M,?_,rfl,?_,?_⟩)
 ·
  have:=(hps M w).length
  simp at this ⊢;omega
 ·
  have h2:HL M w (is (.func (.yield l) #[] #[])::ps) ((.func (.yield l) #[] #[])::lb.toList):=⟨rfl,hps M w⟩
  have h3:=F9 (m:=g.ntmps-(#[Value.func (.yield l) #[] #[]]++lb:Array Value).size) h2
  have e1:(Value.func (.yield l) #[] #[]::lb.toList).toArray= #[Value.func (.yield l) #[] #[]]++lb:=by apply Array.ext';simp
  rw [e1] at h3;exact h3
 · exact Yx
end
section
variable {P:Program} {I:Ck} {E:Env} {o:Oper}
theorem oY {t u:TypeId} {x y:Operand} {b:BitVec 32} (ho:o.op= .binOp .eql t x y u) (hx:VL E x (u32 b)) (hy:VL E y (is (.int .u32 0))):Ag P I o E (bool (b==0#32)):=
 Ag.same fun M w a he _=>by
  have h1:a.eval x= .int .u32 b.toNat:=hx.ev he Au
  have h2:a.eval y= .int .u32 0:=hy.ev he Au
  refine ⟨.bool (b==0#32),?_,rfl⟩
  rw [←eE]
  simp [execOp,ho,h1,h2,eqGuard,binOp,Op.intCmp]
theorem oZ {t u:TypeId} {x y:Operand} {b:BitVec 32} (ho:o.op= .binOp .neq t x y u) (hx:VL E x (u32 b)) (hy:VL E y (is (.int .u32 0))):Ag P I o E (bool (!(b==0#32))):=
 Ag.same fun M w a he _=>by
  have h1:a.eval x= .int .u32 b.toNat:=hx.ev he Au
  have h2:a.eval y= .int .u32 0:=hy.ev he Au
  refine ⟨.bool (!(b==0#32)),?_,rfl⟩
  rw [←eE]
  simp [execOp,ho,h1,h2,eqGuard,binOp,Op.intCmp]
  rw [Bool.eq_iff_iff];simp
theorem yd {t u:TypeId} {x y:Operand} {b:BitVec 32} {i:Nat} (ho:o.op= .binOp .eql t x y u) (hx:VL E x (u32 ((b>>>i)&&&1#32))) (hy:VL E y (is (.int .u32 1))):Ag P I o E (bool (b.getLsbD i)):=
 Ag.same fun M w a he _=>by
  have h1:a.eval x= .int .u32 ((b>>>i)&&&1#32).toNat:=hx.ev he Au
  have h2:a.eval y= .int .u32 1:=hy.ev he Au
  refine ⟨.bool (b.getLsbD i),?_,rfl⟩
  rw [←yX]
  simp [execOp,ho,h1,h2,eqGuard,binOp,Op.intCmp]
theorem oa {t:TypeId} {x:Operand} {b:BitVec 32} (ho:o.op= .unOp .neg t x) (hx:VL E x (u32 b)):Ag P I o E (u32 (-b)):=
 Ag.same fun M w a he _=>by
  have h1:a.eval x= .int .u32 b.toNat:=hx.ev he Au
  refine ⟨.int .u32 ((-b).toNat:Int),?_,rfl⟩
  have e1:IntKind.u32.wrap (0-(b.toNat:Int))=((-b).toNat:Int):=by
   rw [eD,BitVec.toNat_neg];have:=b.isLt;omega
  rw [←e1]
  simp [execOp,ho,h1,Op.unary,Op.intArith]
theorem og {t u:TypeId} {x y:Operand} {b c:BitVec 32} (ho:o.op= .binOp .mul t x y u) (hx:VL E x (u32 b)) (hy:VL E y (u32 c)):Ag P I o E (u32 (b*c)):=
 Ag.same fun M w a he _=>by
  have h1:a.eval x= .int .u32 b.toNat:=hx.ev he Au
  have h2:a.eval y= .int .u32 c.toNat:=hy.ev he Au
  refine ⟨.int .u32 ((b*c).toNat:Int),?_,rfl⟩
  have e1:IntKind.u32.wrap ((b.toNat:Int)*(c.toNat:Int))=((b*c).toNat:Int):=by
   rw [eD,BitVec.toNat_mul]
   have e2:(b.toNat:Int)*(c.toNat:Int)=((b.toNat*c.toNat:Nat):Int):=by rw [Int.natCast_mul]
   rw [e2]
   generalize b.toNat*c.toNat=n
   show ((n:Int) % 4294967296)=((n % 4294967296:Nat):Int)
   omega
  rw [←e1]
  simp [execOp,ho,h1,h2,eqGuard,binOp,Op.intArith]
theorem uQ {t u:TypeId} {x y:Operand} {b:BitVec 32} {k:IntKind} {i:Int} (ho:o.op= .binOp .shr t x y u) (hx:VL E x (u32 b)) (hy:VL E y (is (.int k i))) (hi:0≤i):Ag P I o E (u32 (b>>>i.toNat)):=
 Ag.same fun M w a he _=>by
  have h1:a.eval x= .int .u32 b.toNat:=hx.ev he Au
  have h2:a.eval y= .int k i:=hy.ev he Au
  refine ⟨.int .u32 ((b>>>i.toNat).toNat:Int),?_,rfl⟩
  rw [←oH]
  simp [execOp,ho,h1,h2,eqGuard,binOp,Op.shift,show ¬i<0 by omega,IntKind.bits]
theorem Z7 {t e:TypeId} {x y:Operand} {k:IntKind} {i:Int} {g len:Nat} (ho:o.op= .indexAddr t x y) (ht:P.underlying t=some (.array len e)) (hz:BB P e=some 1) (hx:VL E x (is (.pointer (some ⟨g,0,none⟩)))) (hy:VL E y (is (.int k i))) (h0:0≤i) (h1:i<len):
  Ag P I o E (is (.pointer (some ⟨g,i.toNat,none⟩))):=
 Ag.same fun M w a he _=>by
  have h2:a.eval x= .pointer (some ⟨g,0,none⟩):=hx.ev he Au
  have h3:a.eval y= .int k i:=hy.ev he Au
  refine ⟨.pointer (some ⟨g,i.toNat,none⟩),?_,rfl⟩
  simp [execOp,ho,h2,h3,Instr.indexAt,asIntOf,run_underlying ht,C0 hz,h0,h1,Instr.sureAddr,Addr.add]
  intro;omega
end
end Cp
namespace Go.Proofs.YtmocaapoeefgkaaGreatDoor
open Go Go.RowKit Cp Go.Proofs.Tryz
abbrev EI:At:=Z6 0 Xj
theorem VU {b:BitVec 32} (h:b≠0#32):Xj[(((((b&&& -b)*125613361#32)>>>27).toNat:Nat):Int).toNat]? =some (Jr b):=by
 rw [Int.toNat_natCast,iF h];exact uN _ (Z5 h)
theorem uR (b:BitVec 32):(((b>>>27).toNat:Nat):Int)<32:=by
 rw [BitVec.toNat_ushiftRight,Nat.shiftRight_eq_div_pow];have:=b.isLt;omega
theorem yf {b:BitVec 32} (hb:b≠0#32):Bj prog 152 [u32 b] (int ((Jr b:Nat):Int)) (EI) (fun _=>EI):=by
 refine Bj.of func152 rfl rfl Ao fun M0 w0 S rs M1 w1=> ?_
 have WQ:=Z5 hb
 refine Tr.seq (Tr.Aj (cm rfl (Ch.nil (Fin.go (Tr.seq (Tr.seq (Tr.Aj (cm rfl (co rfl (oY rfl (vl rfl) (vl rfl)) (Ch.nil (Fin.go ?_)))))))))))
 refine Tr.cn rfl ?_ ?_<;>intro h1 q1
 exfalso;exact hb It
 refine Tr.skip (Fin.go (Tr.seq (Tr.Aj (cm rfl (cm rfl (co rfl (oa rfl (vl rfl)) (co rfl (Rv rfl (vl rfl) (vl rfl)) ?_)))))))
 refine co rfl (og (c:=125613361#32) rfl (vl rfl) (vl rfl)) ?_
 refine co rfl (uQ rfl (vl rfl) (vl rfl) AB) (co rfl (Z7 rfl underlying255 NV (vl rfl) (vl rfl) (Int.natCast_nonneg _) (uR _)) (co rfl (Cg 0 rfl (yc rfl rfl (vl rfl) (VU hb))) ?_))
 refine co rfl (kW rfl underlying5 underlying3 (vl rfl) Km) ?_
 refine cm rfl (Ch.nil (Fin.go (Tr.ret (Fin.E7 rfl rfl ?_ (fun _ _ _ _=>rfl)))))
 · exact Lr
end Go.Proofs.YtmocaapoeefgkaaGreatDoor
namespace Cp
open Go Go.RowKit Go.Great
section
variable {P:Program} {Q:Exit→Act→World→Prop} {K:Act→World→Prop} {a:Act} {w:World} {o:Oper} {ops:Array Oper}
theorem JN {i:Nat} {rest:List Nat} (ho:ops[i]? =some o) (hg:o.guard=none) (h:o.wpIn (Dx none) 0 P a w (wpOpsIn (Dx none) 0 P ops Q rest) Q):wpOpsIn (Dx none) 0 P ops Q (i::rest) a w:=by
 unfold wpOpsIn;rw [ho];dsimp only;rw [if_pos (by simp [Region.wanted,hg])];exact h
theorem eJ {x:Operand} (ho:o.op= .move x) (k:K (a.put o.dst (a.eval x)) w):o.wpIn (Dx none) 0 P a w K Q:=
 eB (by unfold Ld;rw [ho]) (fun _ _ h=>h) (by unfold Oper.wp;simp [execOp,ho];exact k)
theorem yg {t:TypeId} {x:Operand} {b:Bool} (ho:o.op= .unOp .not t x) (hx:a.eval x= .bool b) (k:K (a.put o.dst (.bool (!b))) w):o.wpIn (Dx none) 0 P a w K Q:=
 eB (by unfold Ld;rw [ho]) (fun _ _ h=>h) (by unfold Oper.wp;simp [execOp,ho,hx,Op.unary];exact k)
theorem Tr.oh {n:Fm} {E:Env} {M0 M1:Av} {w0 w1:World} {S:Nat→Prop} {id t0 t3 d0 d1 d2 d3:Nat} {o0 o1 o2 o3:Oper} {ts:Array TypeId} {ty:TypeId} {α β:Type} {l:Nat} {enc:α→Value} {xs:List α} {own:List α→List At} {R Rx:List α→β→List At} {pre:List α} {x:α} {d:β}
  (hy:∀pre x d M w,(pre++[x])<+:xs→A9 M0 w0 S (own (pre++[x])++R pre d) M w→YieldAt (Dx none) 0 P l #[enc x] w fun e w'=>∃M' d',Ext M w M' w'∧
    ((e= .returned (.bool true)∧A9 M0 w0 S (own (pre++[x])++R (pre++[x]) d') M' w')∨(e= .returned (.bool false)∧A9 M0 w0 S (own (pre++[x])++Rx (pre++[x]) d') M' w')))
  (hpre:(pre++[x])<+:xs) (g0:o0.guard=none) (g1:o1.guard=none) (g2:o2.guard=none) (g3:o3.guard=none) (p0:o0.op= .move (.tmp t0)) (p1:o1.op= .move (.tmp t3)) (p2:o2.op= .call { callee:= .value (.tmp d0),args:= #[.tmp d1],argTypes:=ts }) (p3:o3.op= .unOp .not ty (.tmp d2))
  (e0:o0.dst=some d0) (e1:o1.dst=some d1) (e2:o2.dst=some d2) (e3:o3.dst=some d3) (n0:d0<n) (n1:d1<n) (n2:d2<n) (n3:d3<n) (ne:d0≠d1∧t3≠d0)
  (h0:E.lookup t0=some (is (.func (.yield l) #[] #[]))) (h3:E.lookup t3=some (is (enc x))) (f0:E.lookup d0=none) (f1:E.lookup d1=none) (f2:E.lookup d2=none)
  (kT:∀d',Fin n ((d3,bool false)::E) (Hp M0 w0 S (own (pre++[x])++Al M1 w1::R (pre++[x]) d')) Q .normal)
  (kF:∀d',Fin n ((d3,bool true)::E) (Hp M0 w0 S (own (pre++[x])++Al M1 w1::Rx (pre++[x]) d')) Q .normal):
  Tr (eC P none) n E (Hp M0 w0 S (own (pre++[x])++Al M1 w1::R pre d)) (.region id #[o0,o1,o2,o3] false) Q:=by
 rintro a w ⟨M,hsz,hdf,hE,hI⟩
 have hI:A9 M0 w0 S (own (pre++[x])++Al M1 w1::R pre d) M w:=hI
 obtain ⟨hx,hI2⟩:=Fl hI
 have cJ:a.tmps.getD t0 undef= .func (.yield l) #[] #[]:=hE _ _ h0
 have hv3:a.tmps.getD t3 undef=enc x:=hE _ _ h3
 have fin:∀(b:Bool) (tl:List At) (w':World) (M':Av),Ext M w M' w'→A9 M0 w0 S (own (pre++[x])++tl) M' w'→
   St n ((d3,bool (!b))::E) (Hp M0 w0 S (own (pre++[x])++Al M1 w1::tl)) ((((a.put (some d0) (.func (.yield l) #[] #[])).put (some d1) (enc x)).put (some d2) (.bool b)).put (some d3) (.bool (!b))) w':=by
  intro b tl w' M' he hh
  refine ⟨M',by simp only [B9];exact hsz,by simp only [put_defers];exact hdf,fun s q hq=> ?_,A9.perm List.perm_middle.symm (A9.Ji hh (r:=Al M1 w1) rfl (hx.trans he))⟩
  simp only [List.lookup] at hq
  by_cases hs:s=d3
  · subst hs;simp at hq;subst hq;rw [B6 (by simp only [B9];rw [hsz];exact n3)];rfl
  ·
   rw [show (s==d3)=false by simpa using hs] at hq
   have VZ:s≠d2:=fun e=>by rw [e,f2] at hq;cases hq
   have hs1:s≠d1:=fun e=>by rw [e,f1] at hq;cases hq
   have hs0:s≠d0:=fun e=>by rw [e,f0] at hq;cases hq
   rw [BZ hs,BZ VZ,BZ hs1,BZ hs0]
   exact q.st _ _ _ _ _ he (hE s q hq)
 refine wpIn_region ?_
 show wpOpsIn (Dx none) 0 P _ Q [0,1,2,3] a w
 refine JN (o:=o0) rfl g0 (eJ p0 ?_)
 refine JN (o:=o1) rfl g1 (eJ p1 ?_)
 rw [e0,e1]
 have k0:a.eval (.tmp t0)= .func (.yield l) #[] #[]:=cJ
 have k3:(a.put (some d0) (a.eval (.tmp t0))).eval (.tmp t3)=enc x:=by
  show (a.put (some d0) _).tmps.getD t3 undef=_
  rw [BZ ne.2];exact hv3
 rw [k3,k0]
 refine JN (o:=o2) rfl g2 (n8 (v:=enc x) p2 ?_ ?_ (hy pre x d M w hpre hI2) ?_)
 ·
  show (Act.put _ _ _).tmps.getD d0 undef=_
  rw [BZ ne.1,B6 (by rw [hsz];exact n0)]
 ·
  show (Act.put _ _ _).tmps.getD d1 undef=_
  rw [B6 (by rw [B9,hsz];exact n1)]
 ·
  rintro e w' ⟨M',d',he,hh⟩
  have hnot:∀(b:Bool) (tl:List At),A9 M0 w0 S (own (pre++[x])++tl) M' w'→Fin n ((d3,bool (!b))::E) (Hp M0 w0 S (own (pre++[x])++Al M1 w1::tl)) Q .normal→wpOpsIn (Dx none) 0 P #[o0,o1,o2,o3] Q [3] (((a.put (some d0) (.func (.yield l) #[] #[])).put (some d1) (enc x)).put o2.dst (.bool b)) w':=by
   intro b tl hh k
   rw [e2]
   refine JN (o:=o3) rfl g3 (yg (b:=b) p3 ?_ ?_)
   ·
    show (Act.put _ _ _).tmps.getD d2 undef=_
    rw [B6 (by simp only [B9];rw [hsz];exact n2)]
   ·
    rw [e3]
    exact k _ _ (fin b tl w' M' he hh)
  rcases hh with ⟨rfl,hh⟩|⟨rfl,hh⟩
  · exact ⟨_,rfl,hnot true _ hh (kT d')⟩
  · exact ⟨_,rfl,hnot false _ hh (kF d')⟩
theorem uS {I:Ck} {E:Env} {f:Fn} {x:Operand} {u:Value} (ho:o.op= .makeFunc f #[] #[x]) (hx:VL E x (is u)):Ag P I o E (is (.func f #[] #[u])):=
 Ag.same fun M w a he _=>by
  have h1:a.eval x=u:=hx.ev he Au
  exact ⟨.func f #[] #[u],by simp [execOp,ho,Instr.makeFunc,h1],rfl⟩
end
end Cp
