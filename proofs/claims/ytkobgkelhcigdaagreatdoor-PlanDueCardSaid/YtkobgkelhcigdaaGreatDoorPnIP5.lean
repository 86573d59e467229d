/-
  Part 5 of the texts that prove this claim, merged.
-/
import Derived.RangeFuncFrom
import Derived.RangeFuncLeaves
import Derived.OrdersIn
import Derived.Test.YtkobgkelhcigdaaGreatDoorPnIP4
set_option linter.all false
set_option maxRecDepth 40000
set_option maxHeartbeats 16000000
namespace Go.Proofs.YtkobgkelhcigdaaGreatDoor
open Go Go.RowKit Cp Go.Proofs.Tryz
abbrev rowsOf (c:BB) (bs:List Nat):Pr:=slice 1 (bs.map fun b=>[is (Im c.room.length b)])
theorem Lh {c:BB} {Ab days others:List Int} (h:c.D3 Ab days others=0):Ab.length=days.length∧Ab.length≤24:=by
 have ho:=F0 h
 unfold BB.D3 at h
 rw [if_neg (not_not_intro ho)] at h
 split at h
 · cases h
 ·
  split at h
  · cases h
  · omega
theorem O4 {c:BB} {Ab days others:List Int} (h:c.D3 Ab days others=0):(Ab.zip days).all (fun p=>c.may p.1 p.2)=true:=by
 have ho:=F0 h
 unfold BB.D3 at h
 rw [if_neg (not_not_intro ho)] at h
 split at h
 · cases h
 ·
  split at h
  · cases h
  ·
   split at h
   · cases h
   ·
    split at h
    · assumption
    · cases h
theorem XW {c:BB} {Ab days:List Int} (hf:c.D3 Ab days []=0):BA prog 104 [Kk c,ints Ab,ints days] (slice 1 ((c.E2 (Ab.zip days)).map fun r=>[ints r])):=by
 refine fo func104 rfl ⟨rfl,rfl⟩ fun M0 w0=> ?_
 have hown:=F0 hf
 obtain ⟨h32,h8⟩:=O0 hown
 obtain ⟨hlen,Jk⟩:=Lh hf
 have hmay:=O4 hf
 have O5:=T3 hf
 have hm:c.room.length≤maxLen:=by unfold maxLen;omega
 refine a3 ?_
 refine Tr.block (Tr.B0 22 1 (Tr.TH [(1,_),(2,_),(3,_),(12,_)] ⟨ke rfl,ke rfl,ke rfl,ke rfl,trivial⟩ (fun (bs:List Nat) u=>[(13,int ((bs.length:Nat):Int)),(7,Ag u (rowsOf c bs))]) (fun (bs:List Nat) u=>Hp M0 w0 FR (Aq 22 1 u::DL 3 bs (List.replicate bs.length (dN c)))) (fun (bs:List Nat)=>bs.length≤c.Bj.length) (fun (bs:List Nat)=>c.Bj.length-bs.length) ([]) (.slice none 0 0) (by simp) ⟨ke rfl,⟨_,rfl,Bf (by simp)⟩,trivial⟩ (fun _ _ h=>h) ?_))
 rintro bs u Ru
 refine ac ?_
 refine Tr.seq ?_
 refine Tr.cn rfl ?_ ?_<;>intro h1 q1
 have hlt:bs.length<c.Bj.length:=AG h1
 refine ac ?_
 refine ap ?_
 refine TO.Rn rfl rfl (by decide) rfl underlying22 B4 Jf z3 rfl (vl rfl) (vl rfl) (by unfold maxLen;omega) (by omega) (fun b1=> ?_)
 refine tp rfl (AM (xs:=[.tmp 19]) (rows:=[[_]]) rfl rfl underlying76 MC z22 rfl (by decide) ⟨⟨(by exact rfl),(Vo rfl)⟩,trivial⟩ (by decide)) ?_
 refine TO.Dh 1 rfl rfl (by decide) (Bt rfl rfl rfl rfl underlying76 MC y8 z22 (Kb rfl) (Kf rfl) (Au (by exact List.Mem.head _) (Ka rfl))) (fun v1=> ?_)
 refine ap ?_
 refine K0 1 2 3 7 12 13 rfl ?_
 refine ac ?_
 refine Fin.perm (rs':=Aq 22 1 v1::DL 3 (bs++[b1]) (List.replicate (bs++[b1]).length (dN c))) ((List.Perm.swap _ _ _).trans (List.Perm.cons _ (by rw [List.length_append,List.length_singleton,List.replicate_succ'];exact (Qm (by simp)).symm))) ?_
 exact Fin.Wo (bs++[b1]) v1 (⟨by simp;omega,by simp;omega⟩) ⟨⟨_,rfl,int_eq (by simp)⟩,⟨_,rfl,A7 (by rw [List.map_append];rfl)⟩,ke rfl,ke rfl,ke rfl,ke rfl,trivial⟩ (fun _ _ h=>h)
 have Um:bs.length=c.Bj.length:=by have:=AH h1;omega
 refine a2 ?_
 refine Tr.block ?_
 refine Tr.E8 [(2,_),(3,_),(23,_),(24,_)] ⟨ke rfl,ke rfl,ke rfl,ke rfl,trivial⟩ (fun k u2=>[(25,int ((k:Nat):Int)),(7,Ag u2 (rowsOf c bs))]) (fun k u2=>Hp M0 w0 FR (Aq 22 1 u2::DL 3 bs (J4 c ((Ab.zip days).take k)))) (fun k:Nat=>k≤(Ab).length) (fun k:Nat=>(Ab).length-k) 0 u (Nat.zero_le _) ⟨ke rfl,⟨_,rfl,A7 (by simp)⟩,trivial⟩ ((by rw [List.take_zero,Y1,←Um];exact fun _ _ h=>h)) ?_
 rintro k u2 BP
 refine ac ?_
 refine Tr.seq ?_
 refine Tr.cn rfl ?_ ?_<;>intro h2 q2
 have Ai:k<(Ab).length:=AG h2
 obtain ⟨n,Af⟩:=at_ Ai
 obtain ⟨d,hd⟩:=at_ (l:=days) (k:=k) (by omega)
 have hmk:c.may n d=true:=by have:=List.all_eq_true.1 hmay (n,d) (List.mem_of_getElem? (by rw [List.getElem?_zip_eq_some];exact ⟨Af,hd⟩));exact this
 have hat:=dF hmk
 have hai:(c.at d).toNat<c.Bj.length:=by have:=(Q7 (Df d) c.Bj).2;unfold BB.at at*;omega
 obtain ⟨b0,hb0⟩:=at_ (l:=bs) (k:=(c.at d).toNat) (by omega)
 have hn8:=O5 n (List.mem_append_left _ (List.mem_of_getElem? Af))
 have hn9:0≤n∧n<c.room.length:=by unfold BB.has at hn8;simpa using hn8
 have hxn:n.toNat<c.room.length:=by omega
 have hbt:bs.length=(J4 c ((Ab.zip days).take k)).length:=by rw [E0];exact Um
 have j8:c.cnt ((Ab.zip days).take k) ((c.at d).toNat*8+n.toNat)≤24:=Nat.le_trans (qM _ _ _) (by simp;omega)
 refine a2 ?_
 refine co rfl (AA rfl underlying22 B4 (vl rfl) (vl rfl) (by omega) (by exact AP (by assumption))) ?_
 refine ac ?_
 refine Tr.perm (rs':=AB true b0 3 (Le c ((Ab.zip days).take k) (c.at d).toNat)::Aq 22 1 u2::DL 3 (bs.eraseIdx (c.at d).toNat) ((J4 c ((Ab.zip days).take k)).eraseIdx (c.at d).toNat)) (((aU hbt hb0 (Ny hai)).cons _).trans (List.Perm.swap _ _ _)) ?_
 refine Tr.rx ?_
 refine ay ?_
 refine xo rfl (fun _=>AA rfl underlying22 B4 (vl rfl) (vl rfl) (by omega) (by exact AP (by assumption))) ?_
 refine xo rfl (fun _=>Gg rfl Cz rfl) (xo rfl (fun _=>CF (m_) rfl rfl rfl) (xo rfl (fun _=>AA rfl underlying76 MC (Kb rfl) (vl rfl) (by omega) (by exact AP (by assumption))) ?_))
 refine ay ?_
 refine xo rfl (fun _=>BI rfl underlying22 B4 (vl rfl) (vl rfl) (by omega) (by omega)) ?_
 refine Iw 0 rfl rfl (A_ rfl Cz (vl rfl) (by rw [show 0+n.toNat*1=n.toNat by omega];exact Nz hxn)) ?_
 refine xo rfl (fun _=>Er rfl (vl rfl) (vl rfl) ?hin) ?_;case hin=>unfold Kz;omega
 refine xo rfl (fun _=>BI rfl underlying22 B4 (vl rfl) (vl rfl) (by omega) (by omega)) ?_
 refine Cx.Dz 0 rfl rfl (A0 rfl rfl (vl rfl) (Vo rfl) B4 rfl (by rw [Dm];omega) (Y2 h8 hxn)) ?_
 refine Cx.nil ⟨by kernel_rfl,?_⟩
 refine BH.done YY ?_
 refine ac ?_
 refine K0 2 3 7 23 24 25 rfl ?_
 refine ac ?_
 refine Fin.perm (rs':=Aq 22 1 u2::DL 3 bs (J4 c ((Ab.zip days).take (k+1)))) ((List.Perm.swap _ _ _).trans (List.Perm.cons _ (by rw [T2 Af hd,←dP h8 hai hxn];exact (Ro _ hbt hb0).symm))) ?_
 exact Fin.Da (k+1) u2 (⟨Ai,by omega⟩) ⟨⟨_,rfl,AE k⟩,⟨_,rfl,A7 (by simp)⟩,ke rfl,ke rfl,ke rfl,ke rfl,trivial⟩ (fun _ _ h=>h)
 have BJ:k=(Ab).length:=by have:=AH h2;omega
 subst BJ
 have hbt:bs.length=(J4 c ((Ab.zip days).take Ab.length)).length:=by rw [E0];exact Um
 refine ac ?_
 refine Tr.seq (Tr.drop 0 (Tr.TK 7 hbt hm dO rfl (Ak _ _) ?_))
 refine a2 ?_
 · exact Pr.le_of_eq (by rw [List.take_of_length_le (by simp;omega)];unfold J4;rw [List.map_map];exact congrArg _ (List.map_congr_left fun r _=>by show [slice 1 _]=[slice 1 _];rw [List.map_map];rfl))
theorem XX {c:BB} {l:List (Int×Int)} {i:Nat} {r:List Int} (h:(c.E2 l)[i]? =some r):i<c.Bj.length∧r=(List.range c.room.length).map fun n=>(c.cnt l (i*8+n):Int):=by
 have hi:i<c.Bj.length:=by
  rcases Nat.lt_or_ge i c.Bj.length with h'|h'
  · exact h'
  · rw [List.getElem?_eq_none (by simp [BB.E2];omega)] at h;cases h
 refine ⟨hi,?_⟩
 simp [BB.E2,List.getElem?_range hi] at h
 exact h.symm
theorem dQ {c:BB} {l:List (Int×Int)} {i n:Nat} {r:List Int} {z:Int} (hr:r=(List.range c.room.length).map fun n=>(c.cnt l (i*8+n):Int)) (h:r[n]? =some z):n<c.room.length∧z=c.cnt l (i*8+n):=by
 subst hr
 have hn:n<c.room.length:=by
  rcases Nat.lt_or_ge n c.room.length with h'|h'
  · exact h'
  · rw [List.getElem?_eq_none (by simp;omega)] at h;cases h
 refine ⟨hn,?_⟩
 simp [List.getElem?_range hn] at h
 exact h.symm
theorem O6 (c:BB) (l:List (Int×Int)):(c.E2 l).length=c.Bj.length:=by simp [BB.E2]
theorem j9 {c:BB} {Ab days:List Int}  :BA prog 103 [Kk c,ints Ab,ints days] (int (c.C9 Ab days [])):=by
 refine fo func103 rfl ⟨rfl,rfl⟩ fun M0 w0=> ?_
 refine a2 ?_
 refine co rfl (J2 (qR) rfl rfl rfl rfl) ?_
 refine ac ?_
 refine an ?_ ?_<;>intro h1 q1
 refine a2 ?_
 · refine int_eq ?_;unfold BB.C9;rw [if_pos (by assumption)]
 have hf:c.D3 Ab days []=0:=q1
 refine a2 ?_
 refine co rfl (J2 (XW (by assumption)) rfl rfl rfl rfl) ?_
 refine ac ?_
 refine Ef 3 22 23 24 rfl (Tr.block (Tr.Cv 22 rfl fun hlt=>(Tr.A9 [(3,_),(22,_),(23,_)] (L_ rfl) (fun i:Nat=>[(24,int ((i:Nat):Int))]) (fun i:Nat=>i≤(c.E2 (Ab.zip days)).length∧(∀i' n r,i'<i→c.room[n]? =some r→(c.cnt (Ab.zip days) (i'*8+n):Int)≤r)) (fun i:Nat=>(c.E2 (Ab.zip days)).length-i) 0 (⟨Nat.zero_le _,fun i' n r hi=>absurd hi (by omega)⟩) ⟨ke rfl,trivial⟩ ?_)))
 rintro i ⟨Tv,Eh⟩
 refine ac ?_
 refine Tr.seq ?_
 refine Tr.cn rfl ?_ ?_<;>intro h2 q2
 have Ip:i<(c.E2 (Ab.zip days)).length:=AG h2
 obtain ⟨row,JE⟩:=at_ Ip
 obtain ⟨hiw,hrow⟩:=XX JE
 have hrl:row.length=c.room.length:=by rw [hrow];simp
 refine ac ?_
 refine Tr.seq (Tr.block (Tr.seq (Tr.Ah (co rfl (AA rfl underlying76 MC (vl rfl) (vl rfl) (by omega) (by exact AP (by assumption))) ?_))))
 refine a2 ?_
 refine Tr.block (Tr.Cv 28 rfl fun hlr=>(Tr.A9 [(3,_),(22,_),(23,_),(24,_),(28,_),(29,_)] (mC rfl) (fun m:Nat=>[(30,int ((m:Nat):Int))]) (fun m:Nat=>m≤(row).length∧(∀n r,n<m→c.room[n]? =some r→(c.cnt (Ab.zip days) (i*8+n):Int)≤r)) (fun m:Nat=>(row).length-m) 0 (⟨Nat.zero_le _,fun n r hn=>absurd hn (by omega)⟩) ⟨ke rfl,trivial⟩ ?_))
 rintro m ⟨Lc,HG⟩
 refine ac ?_
 refine Tr.seq ?_
 refine Tr.cn rfl ?_ ?_<;>intro h3 q3
 have EB:m<(row).length:=AG h3
 obtain ⟨z,EJ⟩:=at_ EB
 obtain ⟨hmr,hz⟩:=dQ hrow EJ
 obtain ⟨r,hr⟩:=at_ hmr
 subst hz
 · repeat' first|(refine int_eq ?_;unfold BB.C9;rw [if_neg (not_not_intro hf),if_pos ⟨i,m,r,hiw,hr,by omega⟩])|exact Fin.AL (m+1) ⟨⟨EB,Vk HG hr (by omega)⟩,by omega⟩ ⟨⟨_,rfl,AE m⟩,ke rfl,ke rfl,ke rfl,ke rfl,ke rfl,ke rfl,trivial⟩|refine co rfl (AA rfl underlying22 B4 (vl rfl) (vl rfl) (by omega) (by exact AP (by assumption))) ?_|refine ac ?_|(refine Tr.cn rfl ?_ ?_<;>intro h q)
 have JF:m=(row).length:=by have:=AH h3;omega
 subst JF
 refine a2 ?_
 exact Fin.AL (i+1) ⟨⟨Ip,Vj Eh (by rw [←hrl];exact HG)⟩,by omega⟩ ⟨⟨_,rfl,AE i⟩,ke rfl,ke rfl,ke rfl,trivial⟩
 have NU:i=(c.E2 (Ab.zip days)).length:=by have:=AH h2;omega
 subst NU
 refine a3 ?_
 · refine int_eq ?_;unfold BB.C9;rw [if_neg (not_not_intro hf),if_neg (by rintro ⟨i,n,r,h1,h2,h3⟩;have:=Eh i n r (by rw [O6];exact h1) h2;omega)]
theorem Y3 {c:BB} {Ab days:List Int} {n:Int} (h:c.has n=true):c.D3 Ab days [n]=c.D3 Ab days []:=by
 unfold BB.D3
 rw [List.any_append,List.append_nil]
 simp [h]
theorem GZ {c:BB} {Ab days:List Int} {n:Int} (h:c.has n=true):c.C9 Ab days [n]=c.C9 Ab days []:=by
 unfold BB.C9;rw [Y3 h]
theorem Cb {c:BB} {Ab days os:List Int} {e:Int} (h:c.D3 Ab days os=e) (he:e≠0):c.C9 Ab days os=e:=by
 unfold BB.C9;rw [if_pos (by rw [h];exact he),h]
theorem MR {c:BB} {Ab days os:List Int} (h:¬c.own=0):c.D3 Ab days os=c.own:=by unfold BB.D3;rw [if_pos h]
theorem Vm {c:BB} {Ab days os:List Int} (h:c.own=0) (h1:Ab.length≠days.length):c.D3 Ab days os=1:=by unfold BB.D3;rw [if_neg (not_not_intro h),if_pos h1]
theorem Vn {c:BB} {Ab days os:List Int} (h:c.own=0) (h1:Ab.length=days.length) (h2:24<Ab.length):c.D3 Ab days os=3:=by unfold BB.D3;rw [if_neg (not_not_intro h),if_neg (not_not_intro h1),if_pos h2]
theorem MS {c:BB} {Ab days:List Int} {n:Int} (h:c.own=0) (h1:Ab.length=days.length) (h2:¬24<Ab.length) (h3:¬c.has n=true):c.D3 Ab days [n]=2:=by
 unfold BB.D3;rw [if_neg (not_not_intro h),if_neg (not_not_intro h1),if_neg h2,if_pos (by rw [List.any_append];simp [h3])]
theorem DE {c:BB} {Ab days:List Int} {n d e:Int} (h:c.C9 Ab days [n]=e) (he:e≠0):c.early Ab days n d=none:=by
 unfold BB.early;rw [if_neg (by rw [h];exact he)]
theorem JJ {c:BB} {Ab days:List Int} {n d:Int} (h:c.C9 Ab days [n]=0):c.early Ab days n d=c.next n d (c.free (Ab.zip days) n):=by
 unfold BB.early;rw [if_pos h]
theorem O7 {c:BB} {n day:Int} {room:Nat→Bool} (h:c.own=0) {k:Nat} {w:IC} (hw:c.Bj[k]? =some w) (hd:max day w.lo<w.hi) (hm:c.may n (max day w.lo)=true) (hr:room k=true):Dg n (max day 0) room k (c.Bj.drop k)=some (max day w.lo):=by
 have h3:=(Hf h).2 w (List.mem_of_getElem? hw)
 rw [T4 h hw hd] at hm
 rw [dD hw (by omega) hm hr,show max (max day 0) w.lo=max day w.lo by omega]
theorem JK {c:BB} {n day:Int} {room:Nat→Bool} (h:c.own=0) {k:Nat} {w:IC} (hw:c.Bj[k]? =some w) (hd:¬(max day w.lo<w.hi∧c.may n (max day w.lo)=true∧room k=true)):Dg n (max day 0) room k (c.Bj.drop k)=Dg n (max day 0) room (k+1) (c.Bj.drop (k+1)):=by
 have h3:=(Hf h).2 w (List.mem_of_getElem? hw)
 refine Y0 hw ?_
 rintro ⟨h1,h2,h5⟩
 have h4:max day w.lo<w.hi:=by omega
 exact hd ⟨h4,by rw [T4 h hw h4];exact h2,h5⟩
theorem T5 {c:BB} {Ab days:List Int} {n from_:Int}  :BA prog 83 [Kk c,ints Ab,ints days,int n,int from_] (EK [int ((c.early Ab days n from_).getD 0),bool (c.early Ab days n from_).isSome,int (c.C9 Ab days [n])]):=by
 refine fo func83 rfl ⟨rfl,rfl⟩ fun M0 w0=>(Tr.G_ 0 0 rfl rfl fun Jo=>(Tr.G_ 0 1 rfl rfl fun Jp=>(Tr.G_ 0 2 rfl rfl fun SX=>(Tr.Cv 1 rfl fun GV=>(Tr.Cv 2 rfl fun cW=> ?_)))))
 refine a2 ?_
 refine co rfl (CF (JI) rfl rfl rfl) ?_
 refine ac ?_
 refine Tr.seq (Tr.re 13 rfl (int_eq (b:=c.own) rfl) ?_)
 refine an ?_ ?_<;>intro h1 q1
 refine ac ?_
 refine Cd 10 11 12 rfl (Tr.ret (Fin.AD (Fin.Hr rfl (Bc.DZ _ _) rfl ?_ rfl ?_ rfl ?_)))
 · refine int_eq ?_;rw [DE (Cb (MR (by assumption)) (by assumption)) (by assumption)];rfl
 · refine bool_eq ?_;rw [DE (Cb (MR (by assumption)) (by assumption)) (by assumption)];rfl
 · refine int_eq ?_;exact (Cb (MR (by assumption)) (by assumption)).symm
 have hown:c.own=0:=q1
 refine a2 ?_
 refine K0 1 2 3 4 5 31 rfl ?_
 refine Tr.cn rfl ?_ ?_<;>intro h2 q2
 refine ac ?_
 refine Tr.ret (Fin.AD (Fin.Hr rfl (Bc.DZ _ _) rfl ?_ rfl ?_ rfl ?_))
 · refine int_eq ?_;rw [DE (Cb (Vm hown (by omega)) (by decide)) (by decide)];rfl
 · refine bool_eq ?_;rw [DE (Cb (Vm hown (by omega)) (by decide)) (by decide)];rfl
 · refine int_eq ?_;exact (Cb (Vm hown (by omega)) (by decide)).symm
 refine ac ?_
 refine an ?_ ?_<;>intro h3 q3
 refine ac ?_
 refine Tr.ret (Fin.AD (Fin.Hr rfl (Bc.DZ _ _) rfl ?_ rfl ?_ rfl ?_))
 · refine int_eq ?_;rw [DE (Cb (Vn hown (by omega) (by omega)) (by decide)) (by decide)];rfl
 · refine bool_eq ?_;rw [DE (Cb (Vn hown (by omega) (by omega)) (by decide)) (by decide)];rfl
 · refine int_eq ?_;exact (Cb (Vn hown (by omega) (by omega)) (by decide)).symm
 refine ac ?_
 refine ag ?_ ?_<;>intro h4 q4
 refine ac ?_
 refine K0 1 2 3 4 5 43 rfl ?_
 refine ac ?_
 refine Tr.ret (Fin.AD (Fin.Hr rfl (Bc.DZ _ _) rfl ?_ rfl ?_ rfl ?_))
 · refine int_eq ?_;rw [DE (Cb (MS hown (by omega) (by omega) (by simp [BB.has];omega)) (by decide)) (by decide)];rfl
 · refine bool_eq ?_;rw [DE (Cb (MS hown (by omega) (by omega) (by simp [BB.has];omega)) (by decide)) (by decide)];rfl
 · refine int_eq ?_;exact (Cb (MS hown (by omega) (by omega) (by simp [BB.has];omega)) (by decide)).symm
 refine ac ?_
 refine K0 1 2 3 4 5 43 rfl ?_
 refine Tr.cn rfl ?_ ?_<;>intro h5 q5
 refine ac ?_
 refine Tr.ret (Fin.AD (Fin.Hr rfl (Bc.DZ _ _) rfl ?_ rfl ?_ rfl ?_))
 · refine int_eq ?_;rw [DE (Cb (MS hown (by omega) (by omega) (by simp [BB.has];omega)) (by decide)) (by decide)];rfl
 · refine bool_eq ?_;rw [DE (Cb (MS hown (by omega) (by omega) (by simp [BB.has];omega)) (by decide)) (by decide)];rfl
 · refine int_eq ?_;exact (Cb (MS hown (by omega) (by omega) (by simp [BB.has];omega)) (by decide)).symm
 have O5:c.has n=true:=by simp [BB.has];omega
 refine a2 ?_
 refine co rfl (J2 (j9) rfl rfl rfl rfl) ?_
 refine ac ?_
 refine an ?_ ?_<;>intro h6 q6
 refine ac ?_
 refine Cd 10 11 12 rfl (Tr.ret (Fin.AD (Fin.Hr rfl (Bc.DZ _ _) rfl ?_ rfl ?_ rfl ?_)))
 · refine int_eq ?_;rw [DE (GZ O5) (by assumption)];rfl
 · refine bool_eq ?_;rw [DE (GZ O5) (by assumption)];rfl
 · refine int_eq ?_;exact (GZ O5).symm
 have Z3:c.C9 Ab days []=0:=q6
 have hf:=GY Z3
 have hfn:c.C9 Ab days [n]=0:=by rw [GZ O5];exact Z3
 refine a2 ?_
 refine co rfl (J2 (XW (by assumption)) rfl rfl rfl rfl) ?_
 refine ac ?_
 refine Ef 3 4 5 15 rfl ?_
 refine ac ?_
 refine Tr.block (Tr.A9 [(3,_),(4,_),(5,_),(15,_),(56,_),(57,_)] (mC rfl) (fun k:Nat=>[(58,int ((k:Nat):Int))]) (fun k:Nat=>k≤(c.Bj).length∧(c.next n from_ (c.free (Ab.zip days) n)=Dg n (max from_ 0) (c.free (Ab.zip days) n) k (c.Bj.drop k))) (fun k:Nat=>(c.Bj).length-k) 0 (⟨Nat.zero_le _,rfl⟩) ⟨ke rfl,trivial⟩ ?_)
 rintro k ⟨BP,AW⟩
 refine ac ?_
 refine Tr.seq ?_
 refine Tr.cn rfl ?_ ?_<;>intro h7 q7
 have Ai:k<(c.Bj).length:=AG h7
 obtain ⟨w,Af⟩:=at_ Ai
 obtain ⟨row,hrow⟩:=at_ (l:=c.E2 (Ab.zip days)) (k:=k) (by rw [O6];exact Ai)
 obtain ⟨_,hr2⟩:=XX hrow
 obtain ⟨hn0,hrm⟩:=O1 O5
 obtain ⟨z,hz⟩:=at_ (l:=row) (k:=n.toNat) (by rw [hr2];simp;have:=O5;simp [BB.has] at this;omega)
 obtain ⟨VA,Gf⟩:=dQ hr2 hz
 refine ac ?_
 refine ao ?_
 refine tp rfl (AA rfl underlying56 HS (vl rfl) (vl rfl) (by omega) (by exact AP (by assumption))) ?_
 refine tp rfl (AQ rfl OT HS (vl rfl) rfl rfl) ?_
 refine Tl rfl rfl rfl rfl YV OU (fun b1=> ?_)
 refine tm rfl ?_
 refine sf 0 17 ⟨rfl,rfl,rfl⟩ rfl rfl rfl rfl ?_
 refine ao ?_
 refine P9 3 4 5 15 16 17 56 57 58 rfl ?_
 refine ac ?_
 refine co rfl (KM rfl (vl rfl) (vl rfl)) ?_
 refine ac ?_
 refine HQ 3 4 5 15 16 17 18 56 57 58 rfl ?_
 refine ag ?_ ?_<;>intro h8 q8
 refine ac ?_
 refine cy h8 rfl (J2 (dL) rfl rfl rfl rfl) ?_
 refine ag ?_ ?_<;>intro h9 q9
 refine ac ?_
 refine cy h9 rfl (AA rfl underlying76 MC (vl rfl) (vl rfl) (by omega) (by exact AP (by assumption))) ?_
 refine ac ?_
 refine cy h9 rfl (AA rfl underlying22 B4 (vl rfl) (vl rfl) (by omega) (by exact AP (by assumption))) ?_
 refine ac ?_
 refine cy h9 rfl (AA rfl underlying22 B4 (vl rfl) (vl rfl) (by omega) (by exact AP (by assumption))) ?_
 refine ac ?_
 refine P9 3 4 5 15 18 56 57 58 93 rfl ?_
 refine Tr.cn rfl ?_ ?_<;>intro h10 QH
 refine ac ?_
 refine Tr.ret (Fin.AX (Fin.AD (Fin.AD (Fin.AX (Fin.AD (Fin.Hr rfl (Bc.DZ _ _) rfl ?_ rfl ?_ rfl ?_))))))
 · refine int_eq ?_;rw [JJ hfn,AW,O7 hown Af (by assumption) (by assumption) (by simp only [BB.free,decide_eq_true_eq];omega)];rfl
 · refine bool_eq ?_;rw [JJ hfn,AW,O7 hown Af (by assumption) (by assumption) (by simp only [BB.free,decide_eq_true_eq];omega)];rfl
 · refine int_eq ?_;exact hfn.symm
 refine a2 ?_
 exact Fin.AL (k+1) ⟨⟨Ai,(AW.trans (JK hown Af (by rintro ⟨a1,a2,a3⟩;simp only [BB.free,decide_eq_true_eq] at a3;omega)))⟩,by omega⟩ ⟨⟨_,rfl,AE k⟩,ke rfl,ke rfl,ke rfl,ke rfl,ke rfl,ke rfl,trivial⟩
 refine ac ?_
 refine P9 3 4 5 15 18 56 57 58 93 rfl ?_
 refine a2 ?_
 exact Fin.AL (k+1) ⟨⟨Ai,(AW.trans (JK hown Af (by rintro ⟨a1,a2,a3⟩;simp only [BB.free,decide_eq_true_eq] at a3;simp_all)))⟩,by omega⟩ ⟨⟨_,rfl,AE k⟩,ke rfl,ke rfl,ke rfl,ke rfl,ke rfl,ke rfl,trivial⟩
 refine ac ?_
 refine P9 3 4 5 15 18 56 57 58 93 rfl ?_
 refine a2 ?_
 exact Fin.AL (k+1) ⟨⟨Ai,(AW.trans (JK hown Af (by rintro ⟨a1,a2,a3⟩;simp only [BB.free,decide_eq_true_eq] at a3;omega)))⟩,by omega⟩ ⟨⟨_,rfl,AE k⟩,ke rfl,ke rfl,ke rfl,ke rfl,ke rfl,ke rfl,trivial⟩
 have BJ:k=(c.Bj).length:=by have:=AH h7;omega
 subst BJ
 refine a2 ?_
 refine Tr.ret (Fin.Hr rfl (Bc.DZ _ _) rfl ?_ rfl ?_ rfl ?_)
 · refine int_eq ?_;rw [JJ hfn,AW,List.drop_length];rfl
 · refine bool_eq ?_;rw [JJ hfn,AW,List.drop_length];rfl
 · refine int_eq ?_;exact hfn.symm
theorem qS {k:Int}:∀{l:List IC} {j:Nat} {w:IC},Q9 l→l[j]? =some w→Df k w=true→idx (Df k) l=j:=by
 intro l j w hp hj hin
 refine (D8 hj hin fun i y hi hy=> ?_).symm
 rw [Bool.eq_false_iff]
 intro hc
 have h1:=O2 hc
 have h2:=O2 hin
 have hij:i<l.length:=by rcases Nat.lt_or_ge i l.length with h|h;exact h;rw [List.getElem?_eq_none h] at hy;cases hy
 have hjl:j<l.length:=by rcases Nat.lt_or_ge j l.length with h|h;exact h;rw [List.getElem?_eq_none h] at hj;cases hj
 have:=List.pairwise_iff_getElem.1 hp i j hij hjl hi
 rw [List.getElem?_eq_getElem hij] at hy
 rw [List.getElem?_eq_getElem hjl] at hj
 simp at hy hj
 rw [hy,hj] at this
 omega
theorem dR {c:BB} {k:Int} {j:Nat} {w:IC} (h:c.own=0) (hj:c.Bj[j]? =some w) (hin:Df k w=true):c.at k=j:=by
 obtain ⟨h1,h2⟩:=Hf h
 exact qS (Hg h1 h2) hj hin
theorem Li {a b:List Int} (h:a.length=b.length) (x y:Int):(a++[x]).zip (b++[y])=a.zip b++[(x,y)]:=by
 rw [List.zip_append h];rfl
theorem Y4 {c:BB} {a b:List Int} {t d:Int} (hf:c.D3 a b []=0) (Jk:a.length<24) (ht:c.has t=true) (hm:c.may t d=true):c.D3 (a++[t]) (b++[d]) []=0:=by
 have ho:=F0 hf
 have hl:=(Lh hf).1
 have h1:=T3 hf
 have h2:=O4 hf
 unfold BB.D3
 rw [if_neg (not_not_intro ho),if_neg (by simp [hl]),if_neg (by simp;omega),if_neg,Li hl,List.all_append,h2,if_pos (by simp [hm])]
 rw [Bool.not_eq_true,List.any_eq_false]
 intro n hn
 have:c.has n=true:=by
  rw [List.append_nil] at hn
  rcases List.mem_append.1 hn with hn|hn
  · exact h1 n (List.mem_append_left _ hn)
  · rw [List.mem_singleton.1 hn];exact ht
 simp [this]
theorem Y5 {c:BB} {a b:List Int} {t d:Int} (hf:c.C9 a b []=0) (Jk:a.length<24) (ht:c.has t=true) (hm:c.may t d=true) (hr:c.cnt (a.zip b) ((c.at d).toNat*8+t.toNat)<c.Km t):c.C9 (a++[t]) (b++[d]) []=0:=by
 have Z3:=GY hf
 have h1:=Y4 Z3 Jk ht hm
 have ho:=F0 Z3
 obtain ⟨h32,h8⟩:=O0 ho
 have hl:=(Lh Z3).1
 unfold BB.C9
 rw [if_neg (not_not_intro h1),if_neg]
 rintro ⟨i,n,r,hi,hn,hc⟩
 rw [Li hl,Lf] at hc
 have hn8:n<8:=by
  rcases Nat.lt_or_ge n c.room.length with h|h
  · omega
  · rw [List.getElem?_eq_none h] at hn;cases hn
 have ht8:=dG ho ht
 have hno:¬c.over (a.zip b):=by
  unfold BB.C9 at hf
  rw [if_neg (not_not_intro Z3)] at hf
  intro hh;rw [if_pos hh] at hf;cases hf
 have hle:(c.cnt (a.zip b) (i*8+n):Int)≤r:=by
  rcases Int.lt_or_le r (c.cnt (a.zip b) (i*8+n):Int) with h|h
  · exact absurd ⟨i,n,r,hi,hn,h⟩ hno
  · exact h
 split at hc
 ·
  rename_i he
  have e1:(c.at d).toNat=i:=by omega
  have e2:t.toNat=n:=by omega
  have:=(O1 ht).2
  rw [e2,hn] at this
  simp at this
  rw [e1,e2] at hr
  omega
 · omega
theorem dS {c:BB} (h:c.own=0):c.C9 [] [] []=0:=by
 have hf:c.D3 [] [] []=0:=by
  unfold BB.D3
  rw [if_neg (not_not_intro h),if_neg (by simp),if_neg (by simp),if_neg (by simp),if_pos (by rfl)]
 unfold BB.C9
 rw [if_neg (not_not_intro hf),if_neg]
 rintro ⟨i,n,r,_,hn,hc⟩
 have h2:=(Kn (show c.check c.ID.length=0 from h)).2.1
 rw [List.any_eq_false] at h2
 have:=h2 r (List.mem_of_getElem? hn)
 simp [Jn] at this
 simp [BB.cnt] at hc
 omega
theorem M_ {t d x:Int} {room:Nat→Bool}:∀{l:List IC} {i:Nat},Dg t d room i l=some x→Q9 l→(∀w∈l,0≤w.lo∧w.lo<w.hi)→
  d≤x∧(∃(j:Nat) (w:IC),l[j]? =some w∧Df x w=true∧w.Ab.any (fun y=>t==y)=true∧room (i+j)=true)∧∀k,d≤k→k<x→∀(j:Nat) (w:IC),l[j]? =some w→Df k w=true→¬(w.Ab.any (fun y=>t==y)=true∧room (i+j)=true)
 |[],_,h,_,_=>by cases h
 |a::l,i,h,hp,hw=>by
  have ha:=hw a (by simp)
  unfold Dg at h
  split at h
  ·
   rename_i hc
   simp only [Option.some.injEq] at h
   subst h
   refine ⟨by omega,⟨0,a,rfl,m9 (by omega),hc.2.1,hc.2.2⟩,fun k hk hx j w hj hin=> ?_⟩
   have:=O2 hin
   match j with
   |0=>simp at hj;subst hj;omega
   |j+1=>
    have h1:=(List.pairwise_cons.1 hp).1 w (List.mem_of_getElem? (by simpa using hj))
    omega
  ·
   rename_i hc
   obtain ⟨h1,⟨j,w,hj,h2,h3,h5⟩,h4⟩:=M_ h (List.pairwise_cons.1 hp).2 (fun w hm=>hw w (List.mem_cons_of_mem _ hm))
   refine ⟨h1,⟨j+1,w,by simpa using hj,h2,h3,by rw [show i+(j+1)=i+1+j by omega];exact h5⟩,fun k hk hx j u hu hin=> ?_⟩
   match j with
   |0=>
    simp at hu;subst hu
    have:=O2 hin
    exact fun h=>hc ⟨by omega,h.1,h.2⟩
   |j+1=>
    have:=h4 k hk hx j u (by simpa using hu) hin
    rwa [show i+(j+1)=i+1+j by omega]
def BB.MB (c:BB) (l:List (Int×Int)) (t k:Int):Bool:=c.may t k&&decide ((c.cnt l ((c.at k).toNat*8+t.toNat):Int)<c.Km t)
theorem j_ {c:BB} {l:List (Int×Int)} {t k:Int} (h:c.own=0):c.MB l t k=true↔∃(j:Nat) (w:IC),c.Bj[j]? =some w∧Df k w=true∧w.Ab.any (fun y=>t==y)=true∧c.free l t j=true:=by
 unfold BB.MB
 rw [Bool.and_eq_true,j6 h,decide_eq_true_eq]
 constructor
 ·
  rintro ⟨⟨w,hw,h1,h2⟩,h3⟩
  obtain ⟨j,hj⟩:=List.mem_iff_getElem?.1 hw
  refine ⟨j,w,hj,h1,h2,?_⟩
  rw [dR h hj h1,Int.toNat_natCast] at h3
  simpa [BB.free] using h3
 ·
  rintro ⟨j,w,hj,h1,h2,h3⟩
  refine ⟨⟨w,List.mem_of_getElem? hj,h1,h2⟩,?_⟩
  rw [dR h hj h1,Int.toNat_natCast]
  simpa [BB.free] using h3
theorem dU {c:BB} {a b:List Int} {t k:Int} (hf:c.C9 a b []=0) (Jk:a.length<24) (ht:c.has t=true):decide (c.C9 (a++[t]) (b++[k]) []=0)=c.MB (a.zip b) t k:=by
 have Z3:=GY hf
 have ho:=F0 Z3
 obtain ⟨hl,_⟩:=Lh Z3
 have ht8:=dG ho ht
 rw [Bool.eq_iff_iff,decide_eq_true_eq,BB.MB,Bool.and_eq_true,decide_eq_true_eq]
 constructor
 ·
  intro h
  have h0:=GY h
  have hm:=O4 h0
  rw [Li hl,List.all_append,Bool.and_eq_true] at hm
  have hm1:c.may t k=true:=by simpa using hm.2
  refine ⟨hm1,?_⟩
  unfold BB.C9 at h
  rw [if_neg (not_not_intro h0)] at h
  have hno:¬c.over ((a++[t]).zip (b++[k])):=by intro hh;rw [if_pos hh] at h;cases h
  have hat:=dF hm1
  have hai:(c.at k).toNat<c.Bj.length:=by have:=(Q7 (Df k) c.Bj).2;unfold BB.at at*;omega
  have hr:=(O1 ht).2
  rcases Int.lt_or_le (c.cnt (a.zip b) ((c.at k).toNat*8+t.toNat)) (c.Km t) with h5|h5
  · exact h5
  ·
   refine absurd ⟨(c.at k).toNat,t.toNat,c.Km t,hai,hr,?_⟩ hno
   rw [Li hl,Lf,if_pos (by omega)]
   omega
 ·
  rintro ⟨h1,h2⟩
  exact Y5 hf Jk ht h1 h2
structure BG where
 fst:Int
 thn:Int
 deriving DecidableEq
def Ed (a b:BG):Bool:=if a.fst=b.fst then decide (a.thn<b.thn) else decide (a.fst<b.fst)
def Dy (n:Int) (r:BG):Bool:=decide (r.fst<0∨r.thn<0∨n≤r.fst∨n≤r.thn∨r.fst=r.thn)
def F1 (l:List BG) (a b:Nat):Bool:=l.any fun r=>decide (r.fst=(a:Int))&&decide (r.thn=(b:Int))
def JL (k:Nat) (m:Nat→Nat→Bool) (a b:Nat):Bool:=m a b||(m a k&&m k b)
def Cn (l:List BG):Nat→Nat→Nat→Bool
 |0=>F1 l
 |k+1=>JL k (Cn l k)
theorem Jq {l:List BG} {a b:Nat} (h:F1 l a b=true):∀k,Cn l k a b=true
 |0=>h
 |k+1=>by show (_||_)=true;rw [Jq h k];rfl
theorem O8 {l:List BG}:∀(k:Nat) {a b c:Nat},c<k→Cn l k a c=true→Cn l k c b=true→Cn l k a b=true
 |0,_,_,_,h,_,_=>absurd h (by omega)
 |k+1,a,b,c,h,h1,h2=>by
  have ih:= @O8 l k
  simp only [Cn,JL,Bool.or_eq_true,Bool.and_eq_true] at h1 h2 ⊢
  rcases Nat.lt_or_ge c k with hc|hc
  ·
   rcases h1 with h1|⟨h1,h3⟩<;>rcases h2 with h2|⟨h2,h4⟩
   · exact .inl (ih hc h1 h2)
   · exact .inr ⟨ih hc h1 h2,h4⟩
   · exact .inr ⟨h1,ih hc h3 h2⟩
   · exact .inr ⟨h1,h4⟩
  ·
   obtain rfl:c=k:=by omega
   refine .inr ⟨?_,?_⟩
   · rcases h1 with h1|⟨h1,_⟩<;>exact h1
   · rcases h2 with h2|⟨_,h2⟩<;>exact h2
def IF (k:Nat) (m:Nat→Nat→Bool) (i j a b:Nat):Bool:=if a<i∨(a=i∧b<j) then JL k m a b else m a b
theorem T6 (k:Nat) (m:Nat→Nat→Bool) (a:Nat):JL k m a k=m a k:=by unfold JL;cases m a k<;>simp
theorem dV (k:Nat) (m:Nat→Nat→Bool) (b:Nat):JL k m k b=m k b:=by unfold JL;cases m k b<;>cases m k k<;>simp
theorem kA (k:Nat) (m:Nat→Nat→Bool) (i j a:Nat):IF k m i j a k=m a k:=by unfold IF;split;exact T6 k m a;rfl
theorem kB (k:Nat) (m:Nat→Nat→Bool) (i j b:Nat):IF k m i j k b=m k b:=by unfold IF;split;exact dV k m b;rfl
def SZ (m:Nat→Nat→Bool) (i j a b:Nat):Bool:=if a=i∧b=j then true else m a b
theorem kC {k:Nat} {m:Nat→Nat→Bool} {i j:Nat} (h1:m i k=true) (h2:m k j=true):SZ (IF k m i j) i j=IF k m i (j+1):=by
 funext a b
 unfold SZ IF
 by_cases h:a=i∧b=j
 ·
  obtain ⟨rfl,rfl⟩:=h
  rw [if_pos ⟨rfl,rfl⟩,if_pos (by omega)];unfold JL;rw [h1,h2];simp
 ·
  rw [if_neg h]
  by_cases h3:a<i∨(a=i∧b<j)
  · rw [if_pos h3,if_pos (by omega)]
  · rw [if_neg h3,if_neg (by omega)]
theorem dW {k:Nat} {m:Nat→Nat→Bool} {i j:Nat} (h:(m i k&&m k j)=false):IF k m i j=IF k m i (j+1):=by
 funext a b
 unfold IF
 by_cases h3:a<i∨(a=i∧b<j)
 · rw [if_pos h3,if_pos (by omega)]
 ·
  rw [if_neg h3]
  by_cases h4:a<i∨(a=i∧b<j+1)
  ·
   obtain ⟨rfl,rfl⟩:a=i∧b=j:=by omega
   rw [if_pos h4];unfold JL;rw [h];simp
  · rw [if_neg h4]
theorem wT (k:Nat) (m:Nat→Nat→Bool):IF k m 0 0=m:=by funext a b;unfold IF;rw [if_neg (by omega)]
def dX (n:Nat) (m m':Nat→Nat→Bool):Prop:=∀a b,a<n→b<n→m a b=m' a b
theorem dY {n k:Nat} {m:Nat→Nat→Bool} {i:Nat}:dX n (IF k m i n) (IF k m (i+1) 0):=by
 intro a b _ hb
 unfold IF
 by_cases h:a<i∨(a=i∧b<n)
 · rw [if_pos h,if_pos (by omega)]
 · rw [if_neg h,if_neg (by omega)]
theorem kD {n k:Nat} {m:Nat→Nat→Bool}:dX n (IF k m n 0) (JL k m):=by
 intro a b ha _
 unfold IF;rw [if_pos (by omega)]
def wU (n:Nat) (l:List BG):Bool:=(List.range n).any fun i=>Cn l n i i
def DY:List BG→Bool
 |[]=>true
 |[_]=>true
 |a::b::l=>Ed a b&&DY (b::l)
def BC (n:Int) (l:List BG):Int:=
 if n<0∨24<n then 2 else if l.any (Dy n) then 44 else if DY l=false then 6 else if wU n.toNat l then 45 else 0
theorem dZ {R:Nat→Nat→Prop} (hi:∀a,¬R a a) (ht:∀a b c,R a b→R b c→R a c):∀{L:List Nat},L≠[]→(∀a b,a∈L→b∈L→R a b∨¬R a b)→∃x∈L,∀y∈L,¬R y x
 |[],h,_=>absurd rfl h
 |[x],_,_=>⟨x,by simp,fun y hy=>by simp at hy;subst hy;exact hi _⟩
 |x::y::l,_,hd=>by
  obtain ⟨z,hz,hm⟩:=dZ hi ht (L:=y::l) (by simp) (fun a b ha hb=>hd a b (List.mem_cons_of_mem _ ha) (List.mem_cons_of_mem _ hb))
  rcases hd x z (by simp) (List.mem_cons_of_mem _ hz) with h|h
  ·
   refine ⟨x,by simp,fun w hw=> ?_⟩
   rcases List.mem_cons.1 hw with rfl|hw
   · exact hi _
   · exact fun h2=>hm w hw (ht _ _ _ h2 h)
  ·
   refine ⟨z,List.mem_cons_of_mem _ hz,fun w hw=> ?_⟩
   rcases List.mem_cons.1 hw with rfl|hw
   · exact h
   · exact hm w hw
def Iq (s:List Int) (n:Int):Bool:=s.any fun x=>n==x
theorem D4 {s:List Int} {n:Int}:Iq s n=true↔n∈s:=by unfold Iq;rw [List.any_eq_true];exact ⟨fun ⟨x,h,h2⟩=>by simp at h2;subst h2;exact h,fun h=>⟨n,h,by simp⟩⟩
def CW (l:List BG) (s:List Int):Bool:=l.all fun r=> !(Iq s r.thn)||Iq s r.fst
theorem DP {l:List BG} {s:List Int}:CW l s=true↔∀r∈l,r.thn∈s→r.fst∈s:=by
 unfold CW;rw [List.all_eq_true]
 refine forall_congr' fun r=>forall_congr' fun _=> ?_
 rw [Bool.or_eq_true,Bool.not_eq_true',←D4,←D4]
 cases Iq s r.thn<;>simp
def CC (n:Int) (has:Bool) (p:List Int×Bool) (x:Int):List Int×Bool:=
 if x=n then (if has=true∧p.2=false∧n<x then (p.1++[n],true) else p) else if has=true∧p.2=false∧n<x then (p.1++[n]++[x],true) else (p.1++[x],p.2)
def wall (n:Int) (has:Bool) (s:List Int):List Int×Bool:=s.foldl (CC n has) ([],false)
def D5 (s:List Int) (n:Int) (has:Bool):List Int:=if has=true∧(wall n has s).2=false then (wall n has s).1++[n] else (wall n has s).1
theorem Y6 (n:Int) (has:Bool) (s:List Int) (x:Int):wall n has (s++[x])=CC n has (wall n has s) x:=by unfold wall;rw [List.foldl_append];rfl
theorem T7 {n:Int} {has:Bool} {x:Int}:∀{s:List Int} {p:List Int×Bool},(x∈(s.foldl (CC n has) p).1∧x≠n)↔((x∈p.1∨x∈s)∧x≠n)
 |[],p=>by simp
 |y::s,p=>by
  rw [List.foldl_cons,T7]
  unfold CC
  by_cases h1:x=n
  · subst h1;simp
  ·
   repeat' split
   all_goals (try subst y);simp [h1,or_assoc]
theorem T8 {n:Int} {has:Bool}:∀{s:List Int} {p:List Int×Bool},(p.2=true→n∈p.1)→(p.2=false→n∉p.1)→(((s.foldl (CC n has) p).2=true→n∈(s.foldl (CC n has) p).1)∧((s.foldl (CC n has) p).2=false→n∉(s.foldl (CC n has) p).1))
 |[],p,h,h'=>⟨h,h'⟩
 |y::s,p,h,h'=>by
  rw [List.foldl_cons]
  apply T8
  ·
   unfold CC;intro h2
   repeat' split at h2
   all_goals (repeat' split)<;>simp_all
  ·
   unfold CC;intro h2
   repeat' split at h2
   all_goals (repeat' split)<;>simp_all<;>omega
theorem DF {s:List Int} {n x:Int}:x∈D5 s n true↔x=n∨x∈s:=by
 have hm:=T7 (n:=n) (has:=true) (x:=x) (s:=s) (p:=([],false))
 have hp:=T8 (n:=n) (has:=true) (s:=s) (p:=([],false)) (by simp) (by simp)
 unfold D5 wall
 by_cases hx:x=n
 ·
  subst hx
  split
  next=>simp
  next h=>simp only [true_and,Bool.not_eq_false] at h;simp [hp.1 h]
 ·
  split
  next=>simp [hx] at hm ⊢;exact hm
  next=>simp [hx] at hm ⊢;exact hm
theorem O9 {n:Int} {has:Bool}:∀{s:List Int} {p:List Int×Bool},(s.foldl (CC n has) p).1.length+(if (s.foldl (CC n has) p).2 then 0 else 1)≤p.1.length+(if p.2 then 0 else 1)+s.length
 |[],p=>Nat.le_refl _
 |y::s,p=>by
  rw [List.foldl_cons]
  refine Nat.le_trans O9 ?_
  unfold CC
  repeat' split
  all_goals (simp_all<;>omega)
theorem MT (s:List Int) (n:Int) (has:Bool):(D5 s n has).length≤s.length+1:=by
 have h:=O9 (n:=n) (has:=has) (s:=s) (p:=([],false))
 unfold D5 wall
 split
 next h2=>rw [h2.2] at h;simp at h ⊢;omega
 next h2=>revert h;split<;>simp<;>omega
def Kq (l:List BG) (s:List Int) (add:Bool) (i:Nat):Bool:=(Iq s i !=add)&&CW l (D5 s i add)
def ED (n:Nat) (l:List BG) (s:List Int) (add:Bool):List Int:=((List.range n).filter (Kq l s add)).map fun i:Nat=>(i:Int)
theorem C3 {n:Int} {l:List BG} (h:BC n l=0):(0≤n∧n≤24)∧(∀r∈l,Dy n r=false)∧DY l=true∧∀i,i<n.toNat→Cn l n.toNat i i=false:=by
 unfold BC at h
 split at h
 · cases h
 next h1=>
 split at h
 · cases h
 next h2=>
 split at h
 · cases h
 next h3=>
 split at h
 · cases h
 next h4=>
 refine ⟨by omega,fun r hr=> ?_,by simpa using h3,fun i hi=> ?_⟩
 ·
  cases hb:Dy n r with
  |false=>rfl
  |true=>exact absurd (List.any_eq_true.2 ⟨r,hr,hb⟩) h2
 ·
  cases hb:Cn l n.toNat i i with
  |false=>rfl
  |true=>exact absurd (show (List.range n.toNat).any (fun i=>Cn l n.toNat i i)=true from List.any_eq_true.2 ⟨i,List.mem_range.2 hi,hb⟩) h4
theorem dc {n:Int} {l:List BG} {s:List Int} {i:Nat} (h:BC n l=0) (hc:CW l s=true) (hi:i<n.toNat) (hn:(i:Int)∉s):ED n.toNat l s true≠[]:=by
 obtain ⟨h1,h2,_,h4⟩:=C3 h
 have hU:(List.range n.toNat).filter (fun k:Nat=> !Iq s k)≠[]:=by
  intro he
  have:i∈(List.range n.toNat).filter (fun k:Nat=> !Iq s k):=List.mem_filter.2 ⟨List.mem_range.2 hi,by rw [Bool.not_eq_true'];cases hb:Iq s i with|false=>rfl|true=>exact absurd (D4.1 hb) hn⟩
  rw [he] at this;cases this
 obtain ⟨x,hx,hm⟩:=dZ (R:=fun a b=>a<n.toNat∧b<n.toNat∧Cn l n.toNat a b=true) (fun a ha=>by have:=h4 a ha.1;rw [ha.2.2] at this;cases this) (fun a b c ⟨g1,g2,g3⟩ ⟨_,g4,g5⟩=>⟨g1,g4,O8 _ g2 g3 g5⟩) hU (fun a b _ _=>Classical.em _)
 obtain ⟨hx1,hx2⟩:=List.mem_filter.1 hx
 rw [List.mem_range] at hx1
 have hx3:(x:Int)∉s:=fun h=>by rw [D4.2 h] at hx2;cases hx2
 intro he
 have:((x:Nat):Int)∈ED n.toNat l s true:=by
  unfold ED
  refine List.mem_map.2 ⟨x,List.mem_filter.2 ⟨List.mem_range.2 hx1,?_⟩,rfl⟩
  unfold Kq
  rw [Bool.and_eq_true]
  refine ⟨by cases hb:Iq s x with|false=>rfl|true=>exact absurd (D4.1 hb) hx3,DP.2 fun r hr ht=> ?_⟩
  rw [DF] at ht ⊢
  by_cases hf:r.fst=x
  · exact .inl hf
  right
  rcases ht with ht|ht
  ·
   have hb:=h2 r hr
   unfold Dy at hb
   simp only [decide_eq_false_iff_not] at hb
   by_cases hs:r.fst∈s
   · exact hs
   exfalso
   refine hm r.fst.toNat (List.mem_filter.2 ⟨List.mem_range.2 (by omega),?_⟩) ⟨by omega,hx1,Jq (List.any_eq_true.2 ⟨r,hr,?_⟩) _⟩
   ·
    rw [show ((r.fst.toNat:Nat):Int)=r.fst by omega,Bool.not_eq_true']
    cases Sx:Iq s r.fst with
    |false=>rfl
    |true=>exact absurd (D4.1 Sx) hs
   · rw [Bool.and_eq_true,decide_eq_true_eq,decide_eq_true_eq];omega
  · exact DP.1 hc r hr ht
 rw [he] at this;cases this
theorem Jr:∀{L M:List Int},L.Nodup→(∀x∈L,x∈M)→L.length≤M.length
 |[],_,_,_=>Nat.zero_le _
 |x::L,M,hn,hs=>by
  rw [List.nodup_cons] at hn
  have h:=Jr (L:=L) (M:=M.erase x) hn.2 (fun y hy=>(List.mem_erase_of_ne (fun e=>hn.1 (by rw [←e];exact hy))).2 (hs y (List.mem_cons_of_mem _ hy)))
  have hx:=hs x (by simp)
  rw [List.length_erase_of_mem hx] at h
  have:=List.length_pos_of_mem hx
  simp;omega
structure MU (n:Int) (l:List BG) (out done:List Int):Prop where
 mem:∀x,x∈done↔x∈out
 nd:out.Nodup
 O_:∀x∈out,0≤x∧x<n
 cl:CW l done=true
 qT:∀(k:Nat) x,out[k]? =some x→∀r∈l,r.thn=x→r.fst∈out.take k
theorem MU.nil {n:Int} {l:List BG}:MU n l [] []:=⟨fun x=>Iff.rfl,List.nodup_nil,(fun x h=>by cases h),(DP.2 fun r _ h=>by cases h),(fun k x h=>by simp at h)⟩
theorem MU.len {n:Int} {l:List BG} {out done:List Int} (h:MU n l out done):out.length≤n.toNat:=by
 have:=Jr (L:=out) (M:=(List.range n.toNat).map fun i:Nat=>(i:Int)) h.nd (fun x hx=>by have:=h.O_ x hx;exact List.mem_map.2 ⟨x.toNat,List.mem_range.2 (by omega),by omega⟩)
 simpa using this
theorem MU.bes {n:Int} {l:List BG} {out done:List Int} (h:MU n l out done) (hv:BC n l=0) (hl:out.length<n.toNat):∃x,(ED n.toNat l done true)[0]? =some x∧MU n l (out++[x]) (D5 done x true):=by
 have hex:∃i,i<n.toNat∧(i:Int)∉out:=by
  refine Classical.byContradiction fun hne=> ?_
  have hall:∀i,i<n.toNat→(i:Int)∈out:=fun i hi=>Classical.byContradiction fun hh=>hne ⟨i,hi,hh⟩
  have hnd:((List.range n.toNat).map fun i:Nat=>(i:Int)).Nodup:=by
   refine List.Pairwise.map _ (fun a b hab=> ?_) (List.nodup_range (n:=n.toNat))
   intro e;apply hab;omega
  have:=Jr hnd (M:=out) (fun x hx=>by
   obtain ⟨i,hi,rfl⟩:=List.mem_map.1 hx
   exact hall i (List.mem_range.1 hi))
  simp at this;omega
 obtain ⟨i,hi,hio⟩:=hex
 have hne:=dc hv h.cl hi (fun hh=>hio ((h.mem _).1 hh))
 obtain ⟨x,hx⟩:=at_ (l:=ED n.toNat l done true) (k:=0) (List.length_pos_iff.2 hne)
 refine ⟨x,hx,?_⟩
 obtain ⟨j,hj,rfl⟩:=List.mem_map.1 (List.mem_of_getElem? hx)
 obtain ⟨hj1,hj2⟩:=List.mem_filter.1 hj
 rw [List.mem_range] at hj1
 unfold Kq at hj2
 rw [Bool.and_eq_true] at hj2
 have hjd:(j:Int)∉done:=fun hh=>by rw [D4.2 hh] at hj2;exact absurd hj2.1 (by decide)
 have hjo:(j:Int)∉out:=fun hh=>hjd ((h.mem _).2 hh)
 refine ⟨fun y=> ?_,?_,fun y hy=> ?_,hj2.2,fun k y hk r hr ht=> ?_⟩
 · rw [DF,h.mem,List.mem_append,List.mem_singleton];exact Or.comm
 ·
  rw [List.nodup_append]
  exact ⟨h.nd,by simp,fun a ha b hb=>by simp at hb;subst hb;intro e;subst e;exact hjo ha⟩
 ·
  rcases List.mem_append.1 hy with hy|hy
  · exact h.O_ y hy
  · simp at hy;subst hy;omega
 ·
  rcases Nat.lt_or_ge k out.length with hlt|hge
  ·
   rw [List.getElem?_append_left hlt] at hk
   rw [List.take_append_of_le_length (by omega)]
   exact h.qT k y hk r hr ht
  ·
   have hk2:k=out.length:=by
    rcases Nat.lt_or_ge k (out++[(j:Int)]).length with hh|hh
    · simp at hh;omega
    · rw [List.getElem?_eq_none hh] at hk;cases hk
   subst hk2
   rw [List.getElem?_append_right (Nat.le_refl _)] at hk
   simp at hk;subst hk
   rw [List.take_left]
   have Zu:=DP.1 hj2.2 r hr (DF.2 (.inl ht))
   rcases DF.1 Zu with he|hm
   ·
    obtain ⟨_,g2,_,_⟩:=C3 hv
    have hb:=g2 r hr
    unfold Dy at hb
    simp only [decide_eq_false_iff_not] at hb
    omega
   · exact (h.mem _).1 hm
def EE (l:List BG) (r:BG):Nat:=(l.takeWhile fun x=>Ed x r).length
def Fg (l:List BG) (r:BG):List BG:=if l[EE l r]? =some r then l else l.take (EE l r)++[r]++l.drop (EE l r)
theorem N0 (l:List BG) (r:BG):EE l r≤l.length:=by unfold EE;exact (List.takeWhile_sublist _).length_le
theorem XY {l:List BG} {r:BG} {k:Nat} (hk:k<EE l r) {x:BG} (hx:l[k]? =some x):Ed x r=true:=by
 induction l generalizing k with
 |nil=>simp at hx
 |cons a l ih=>
  unfold EE at hk
  rw [List.takeWhile_cons] at hk
  split at hk
  next h=>
   cases k with
   |zero=>simp at hx;subst hx;exact h
   |succ k=>exact ih (k:=k) (by simp at hk;exact hk) (by simpa using hx)
  next=>simp at hk
theorem XZ {l:List BG} {r:BG} {x:BG} (hx:l[EE l r]? =some x):Ed x r=false:=by
 induction l with
 |nil=>simp at hx
 |cons a l ih=>
  unfold EE at hx
  rw [List.takeWhile_cons] at hx
  split at hx
  next h=>exact ih (by unfold EE;simpa using hx)
  next h=>simp at hx;subst hx;simpa using h
theorem Xa {l:List BG} {r:BG} {k:Nat} (hl:k≤l.length) (h:∀j x,j<k→l[j]? =some x→Ed x r=true) (he:∀x,l[k]? =some x→Ed x r=false):EE l r=k:=by
 rcases Nat.lt_trichotomy (EE l r) k with h1|h1|h1
 ·
  obtain ⟨x,hx⟩:=at_ (l:=l) (k:=EE l r) (by omega)
  have:=h _ x h1 hx;rw [XZ hx] at this;cases this
 · exact h1
 ·
  obtain ⟨x,hx⟩:=at_ (l:=l) (k:=k) (by have:=N0 l r;omega)
  have:=he x hx;rw [XY h1 hx] at this;cases this
theorem PB (l:List BG) (r:BG):(Fg l r).length≤l.length+1:=by
 have:=N0 l r
 unfold Fg;split<;>simp<;>omega
theorem T9 {l:List BG} {r x:BG}:x∈Fg l r↔x=r∨x∈l:=by
 unfold Fg;split
 next h=>exact ⟨.inr,fun h2=>h2.elim (fun e=>by subst e;exact List.mem_of_getElem? h) id⟩
 next=>rw [List.append_assoc,List.mem_append,List.mem_append,List.mem_singleton,←or_assoc,or_comm (a:=x∈_) (b:=x=r),or_assoc,←List.mem_append,List.take_append_drop]
theorem dh {a b:BG} (h:Ed a b=false) (hn:a≠b):Ed b a=true:=by
 unfold Ed at*
 obtain ⟨a1,a2⟩:=a
 obtain ⟨b1,b2⟩:=b
 simp only [ne_eq,BG.mk.injEq,not_and] at*
 repeat' split at h
 all_goals repeat' split
 all_goals simp only [decide_eq_true_eq,decide_eq_false_iff_not] at*
 all_goals omega
theorem Kr {l:List BG}:DY l=true↔∀j a b,l[j]? =some a→l[j+1]? =some b→Ed a b=true:=by
 induction l with
 |nil=>exact ⟨fun _ j a b h=>by simp at h,fun _=>rfl⟩
 |cons x l ih=>
  cases l with
  |nil=>exact ⟨fun _ j a b _ h=>by simp at h,fun _=>rfl⟩
  |cons y l=>
   unfold DY
   rw [Bool.and_eq_true,ih]
   refine ⟨fun ⟨h1,h2⟩ j a b ha hb=> ?_,fun h=>⟨h 0 x y rfl rfl,fun j a b ha hb=>h (j+1) a b (by simpa using ha) (by simpa using hb)⟩⟩
   cases j with
   |zero=>simp at ha hb;subst ha;subst hb;exact h1
   |succ j=>exact h2 j a b (by simpa using ha) (by simpa using hb)
theorem NA {l:List BG} {r:BG} (h:DY l=true):DY (Fg l r)=true:=by
 unfold Fg;split
 next=>exact h
 next hne=>
 rw [Kr] at h ⊢
 have hp:=N0 l r
 intro j a b ha hb
 rw [List.append_assoc] at ha hb
 rcases Nat.lt_trichotomy (j+1) (EE l r) with h1|h1|h1
 ·
  rw [List.getElem?_append_left (by rw [List.length_take];omega),List.getElem?_take,if_pos (by omega)] at ha hb
  exact h j a b ha hb
 ·
  rw [List.getElem?_append_left (by rw [List.length_take];omega),List.getElem?_take,if_pos (by omega)] at ha
  rw [List.getElem?_append_right (by rw [List.length_take];omega),List.length_take,show j+1-min (EE l r) l.length=0 by omega] at hb
  simp at hb;subst hb
  exact XY (by omega) ha
 ·
  rw [List.getElem?_append_right (by rw [List.length_take];omega),List.length_take,show j-min (EE l r) l.length=j-EE l r by omega] at ha
  rw [List.getElem?_append_right (by rw [List.length_take];omega),List.length_take,show j+1-min (EE l r) l.length=(j-EE l r)+1 by omega] at hb
  simp only [List.singleton_append,List.getElem?_cons_succ,List.getElem?_drop] at hb
  rcases Nat.eq_zero_or_pos (j-EE l r) with h2|h2
  ·
   rw [h2] at ha hb
   simp at ha;subst ha
   simp at hb
   exact dh (XZ hb) (fun e=>hne (by rw [hb,e]))
  ·
   obtain ⟨i,hi⟩:∃i,j-EE l r=i+1:=⟨j-EE l r-1,by omega⟩
   rw [hi] at ha hb
   simp only [List.singleton_append,List.getElem?_cons_succ,List.getElem?_drop] at ha
   exact h (EE l r+i) a b ha (by rw [show EE l r+i+1=EE l r+(i+1) by omega];exact hb)
theorem N1 {l:List BG} (h:∀r∈l,r.fst<r.thn):∀(k:Nat) {a b:Nat},Cn l k a b=true→a<b
 |0,a,b,hb=>by
  obtain ⟨r,hr,h2⟩:=List.any_eq_true.1 hb
  rw [Bool.and_eq_true,decide_eq_true_eq,decide_eq_true_eq] at h2
  have:=h r hr;omega
 |k+1,a,b,hb=>by
  simp only [Cn,JL,Bool.or_eq_true,Bool.and_eq_true] at hb
  rcases hb with hb|⟨h1,h2⟩
  · exact N1 h k hb
  · have:=N1 h k h1;have:=N1 h k h2;omega
theorem dj {n:Nat} {l:List BG} (hn:n≤24) (h:∀r∈l,(0≤r.fst∧r.fst<r.thn)∧r.thn<n) (hs:DY l=true):BC n l=0:=by
 unfold BC
 rw [if_neg (by omega),if_neg ?_,if_neg (by simp [hs]),if_neg ?_]
 ·
  intro hc
  obtain ⟨i,_,hi⟩:=List.any_eq_true.1 hc
  have:=N1 (fun r hr=>(h r hr).1.2) _ hi;omega
 ·
  intro hc
  obtain ⟨r,hr,hb⟩:=List.any_eq_true.1 hc
  unfold Dy at hb
  rw [decide_eq_true_eq] at hb
  have:=h r hr;omega
theorem IG {s:List Int} {n:Int} (h:n∉s):(D5 s n true).length=s.length+1:=by
 have key:∀(s:List Int) (p:List Int×Bool),n∉s→(s.foldl (CC n true) p).1.length+(if (s.foldl (CC n true) p).2 then 0 else 1)=p.1.length+(if p.2 then 0 else 1)+s.length:=by
  intro s
  induction s with
  |nil=>intro p _;rfl
  |cons y s ih=>
   intro p hp
   rw [List.foldl_cons,ih _ (fun hh=>hp (List.mem_cons_of_mem _ hh))]
   unfold CC
   rw [if_neg (fun e=>hp (by rw [e];simp))]
   split
   next h2=>simp [h2.2.1];omega
   next h2=>simp;omega
 have h2:=key s ([],false) h
 unfold D5 wall
 split
 next h3=>rw [h3.2] at h2;simp at h2 ⊢;omega
 next h3=>simp only [true_and,Bool.not_eq_false] at h3;rw [h3] at h2;simp at h2 ⊢;omega
def C4 (n:Nat) (l:List BG):Nat→List Int×List Int
 |0=>([],[])
 |k+1=>match (ED n l (C4 n l k).2 true)[0]? with
  |none=>C4 n l k
  |some x=>((C4 n l k).1++[x],D5 (C4 n l k).2 x true)
theorem II {n:Int} {l:List BG} (hv:BC n l=0):∀(k:Nat),k≤n.toNat→MU n l (C4 n.toNat l k).1 (C4 n.toNat l k).2∧(C4 n.toNat l k).1.length=k
 |0,_=>⟨MU.nil,rfl⟩
 |k+1,hk=>by
  obtain ⟨h1,h2⟩:=II hv k (by omega)
  obtain ⟨x,hx,hr⟩:=h1.bes hv (by omega)
  unfold C4
  rw [hx]
  exact ⟨hr,by simp [h2]⟩
theorem T_ {n:Int} {l:List BG} (hv:BC n l=0) {k:Nat} (hk:k<n.toNat):∃x,(ED n.toNat l (C4 n.toNat l k).2 true)[0]? =some x∧C4 n.toNat l (k+1)=((C4 n.toNat l k).1++[x],D5 (C4 n.toNat l k).2 x true):=by
 obtain ⟨h1,h2⟩:=II hv k (by omega)
 obtain ⟨x,hx,_⟩:=h1.bes hv (by omega)
 exact ⟨x,hx,by rw [C4];rw [hx]⟩
theorem qU {d:Nat} {w:World} {x0 y0:Int} {x1 y1:Int}:(Op.equalIn (d+2) 117 (.agg #[.int .i64 x0,.int .i64 x1]) (.agg #[.int .i64 y0,.int .i64 y1])).run Tryz.prog w= .ok (decide (x0=y0∧x1=y1)) w:=by
 have h:=eqS (w:=w) (d:=d+1) (xs:= #[.int .i64 x0,.int .i64 x1]) (ys:= #[.int .i64 y0,.int .i64 y1]) Tryz.underlying117 (by kernel_rfl) (Em (by decide) (Bv Cz rfl) (Bv Cz rfl) (Fq (d:=d+0) Tryz.underlying3) (Em (by decide) (Bv Cz rfl) (Bv Cz rfl) (Fq (d:=d+0) Tryz.underlying3) (LO)))
 refine h.trans (congrArg (fun b=>Result.ok b w) ?_)
 rw [Bool.eq_iff_iff];simp [and_assoc]
theorem dm {E:Env} {I:CU} {o:Oper} {u:TypeId} {x y:Operand} {x0 y0:Int} {x1 y1:Int} (ho:o.op= .binOp .eql 117 x y u) (hx:VL E x (agg [is (.int .i64 x0),is (.int .i64 x1)])) (hy:VL E y (agg [is (.int .i64 y0),is (.int .i64 y1)])):Aa Tryz.prog I o E (bool (decide (x0=y0∧x1=y1))):=
 Ob [.int .i64 x0,.int .i64 x1] [.int .i64 y0,.int .i64 y1] ho hx hy (by kernel_rfl) (fun w=>by rw [show Op.equal 117 _ _=Op.equalIn (9998+2) 117 _ _ from rfl];exact qU)
abbrev Sa (r:BG):List Pr:=[int r.fst,int r.thn]
abbrev reqs (l:List BG):Pr:=slice 2 (l.map Sa)
theorem Q_ {a b:BG}  :BA prog 66 [agg (Sa a),agg (Sa b)] (bool (Ed a b)):=by
 refine fo func66 rfl ⟨rfl,rfl⟩ fun M0 w0=> ?_
 · repeat' first|(refine bool_eq ?_;unfold Ed;split<;>first|rfl|(exfalso;omega))|refine ac ?_|(refine Tr.cn rfl ?_ ?_<;>intro h q)
theorem PC {l:List BG} {r:BG} (hl:l.length≤1000000):BA prog 60 [reqs l,agg (Sa r)] (reqs (Fg l r)):=by
 refine BA.of func60 rfl rfl (by exact Nb rfl) fun M0 w0=> ?_
 refine Tr.Cv 0 rfl fun Ew=> ?_
 have hml:(l.map Sa).length=l.length:=List.length_map _
 have AB7:=N0 l r
 refine Tr.seq (Tr.Ah (co rfl (Bb rfl (Va rfl)) (cm rfl (Ch.nil (Fin.go (Tr.seq (Tr.Ah (cm rfl (Ch.nil (Fin.go (Cd 0 3 5 rfl (Tr.S7 [0,3] [(5,int ((EE l r:Nat):Int))] (True) ?_ (fun h1=> ?_)))))))))))))
 refine Tr.block (Tr.A9 [(0,_),(3,_)] (Qj rfl) (fun k:Nat=>[(5,int ((k:Nat):Int))]) (fun k:Nat=>k≤l.length∧(∀j y,j<k→l[j]? =some y→Ed y r=true)) (fun k:Nat=>l.length-k) 0 (⟨Nat.zero_le _,fun j y hj=>absurd hj (by omega)⟩) ⟨ke rfl,trivial⟩ ?_)
 rintro k ⟨BP,hinv⟩
 refine Tr.seq (Tr.seq (Tr.gY mixed (by kernel_rfl) (cm rfl (cm rfl ?_))))
 first|refine co rfl (Bo rfl underlying33 (vl rfl)) ?_|refine co rfl (Bz rfl underlying33 (vl rfl)) ?_
 refine co rfl (ki rfl rfl rfl rfl) (cm rfl ?_)
 refine Ch.cs 11 rfl ?_ ?_<;>intro h2 q2
 obtain ⟨x,hx⟩:=at_ (l:=l) (k:=k) (by omega)
 refine Jd h2 rfl (Jd h2 rfl (cy h2 rfl (AA rfl underlying33 Bl (vl rfl) (vl rfl) (by omega) (AP hx)) (cy h2 rfl (AQ rfl Dt Bl (vl rfl) rfl rfl) (cy h2 rfl (AQ rfl Dt Bl (vl rfl) rfl rfl) (cy h2 rfl (AR rfl (Q_) ⟨ke rfl,ke rfl,trivial⟩) (co rfl (Na rfl rfl h2 rfl) (Ch.nil (Fin.go (Ef 0 3 5 18 rfl ?_)))))))))
 refine Tr.cn rfl ?_ ?_<;>intro h3 q3
 have hq:=h3
 refine Tr.skip (Fin.go (Tr.block (Tr.Ah (cm rfl ?_))))
 first|(refine J8 rfl rfl rfl rfl (by omega) ?_)|refine co rfl (ki rfl rfl rfl rfl) ?_
 refine cm rfl (Ch.nil (Fin.block ?_))
 exact Fin.AL (k+1) ⟨⟨by omega,fun j y hj hy=>by rcases Nat.lt_or_ge j k with h_|h_;exact hinv j y h_ hy;(obtain rfl:j=k:=by omega);rw [hx] at hy;cases hy;exact hq⟩,by omega⟩ ⟨⟨_,rfl,AE k⟩,ke rfl,ke rfl,trivial⟩
 have hp:EE l r=k:=Xa BP hinv (fun y hy=>by rw [hx] at hy;cases hy;exact h3)
 refine Tr.exit (Fin.Ad (Fin.Ad (Fin.Ax (Fin.AL () trivial ⟨⟨_,rfl,int_eq (by rw [hp])⟩,ke rfl,ke rfl,trivial⟩))))
 have hp:EE l r=k:=Xa BP hinv (fun y hy=>by have:=BD hy;have:=q2;omega)
 iterate 6 refine cnt h2 rfl ?_
 refine co rfl (Mq rfl rfl h2 rfl) (Ch.nil (Fin.go (Ef 0 3 5 18 rfl (Tr.cond rfl (fun h=>nomatch h) (fun _=> ?_)))))
 refine Tr.exit (Fin.Ad (Fin.Ad (Fin.Ax (Fin.AL () trivial ⟨⟨_,rfl,int_eq (by rw [hp])⟩,ke rfl,ke rfl,trivial⟩))))
 refine Tr.seq (Tr.seq (Tr.gY mixed (by kernel_rfl) (cm rfl (cm rfl ?_))))
 first|refine co rfl (Bo rfl underlying33 (vl rfl)) ?_|refine co rfl (Bz rfl underlying33 (vl rfl)) ?_
 refine co rfl (ki rfl rfl rfl rfl) (cm rfl ?_)
 refine Ch.cs 25 rfl ?_ ?_<;>intro h4 q4
 obtain ⟨x2,hx2⟩:=at_ (l:=l) (k:=EE l r) (by omega)
 refine Jd h4 rfl (Jd h4 rfl (cy h4 rfl (AA rfl underlying33 Bl (vl rfl) (vl rfl) (by omega) (AP hx2)) (cy h4 rfl (AQ rfl Dt Bl (vl rfl) rfl rfl) (cy h4 rfl (AQ rfl Dt Bl (vl rfl) rfl rfl) (cy h4 rfl (dm rfl (vl rfl) (vl rfl)) (co rfl (Na rfl rfl h4 rfl) (Ch.nil (Fin.go (Ef 0 3 5 32 rfl ?_)))))))))
 refine Tr.cn rfl ?_ ?_<;>intro h5 q5
 have hput:Fg l r=l:=if_pos (by rw [hx2];have h_:=q5;cases x2;cases r;simp_all)
 refine Tr.seq (Tr.Ah (cm rfl (cm rfl (Ch.nil (Fin.go (Tr.ret (Fin.AD (Fin.Jz rfl (Bc.DZ _ _) rfl ?_))))))))
 · rw [hput];exact Lr
 have hput:Fg l r=l.take (EE l r)++[r]++l.drop (EE l r):=if_neg (by rw [hx2];intro h_;cases h_;have h_:=q5;simp at h_)
 refine Tr.skip (Fin.go (Tr.seq (Tr.An (tm rfl (tm rfl ?_)))))
 refine tp rfl (DU rfl underlying33 Bl (vl rfl) (vl rfl) (by omega) (by first|omega|(simp;omega))) ?_
 refine TO.pad ?_
 refine TO.Dh 0 rfl rfl (by decide) (D7 rfl rfl (by decide) rfl underlying33 Bl LM z117 rfl (by decide) ⟨_,rfl,AF _⟩ (vl rfl) (by simp only [List.length_map,List.length_append,List.length_cons,List.length_nil,List.length_take,List.length_drop];unfold maxLen;omega) (by simp only [List.length_map,List.length_append,List.length_cons,List.length_nil,List.length_take,List.length_drop];omega) (Bh (by exact List.Mem.head _) ⟨_,rfl,EN 1⟩)) (fun v1=> ?_)
 refine tm rfl (TO.nil (Fin.go (Tr.seq (Tr.An (tm rfl (tp rfl (AQ rfl Dt Bl (vl rfl) rfl rfl) (tp rfl (AM (xs:=[.tmp 39]) (rows:=[_]) rfl rfl underlying33 Bl z117 rfl (by decide) ⟨⟨(by exact rfl),(Va rfl)⟩,trivial⟩ (by decide)) ?_)))))))
 refine TO.Dh 0 rfl rfl (by decide) (Bt rfl rfl rfl rfl underlying33 Bl LM z117 (Kb rfl) (Kf rfl) (Au (by exact List.Mem.head _) (Ka rfl))) (fun v2=> ?_)
 refine tm rfl (TO.nil (Fin.go (Cd 0 5 6 rfl (Tr.seq (Tr.An (tm rfl (tm rfl (tm rfl ?_))))))))
 refine tp rfl (DM rfl underlying33 Bl (vl rfl) (vl rfl) (by omega) (by first|omega|(simp;omega))) ?_
 refine TO.Dh 0 rfl rfl (by decide) (Bt rfl rfl rfl rfl underlying33 Bl LM z117 (Kb rfl) (vl rfl) (Au (by exact List.Mem.head _) (Ka rfl))) (fun v3=> ?_)
 refine tm rfl (TO.nil (Fin.go (Tr.ret (Fin.Jz rfl (Bc.DZ _ _) rfl ?_))))
 · refine Pr.le_trans (Ak _ _) (Pr.le_of_eq ?_);rw [hput];show _=slice 2 ((l.take (EE l r)++[r]++l.drop (EE l r)).map Sa);simp [List.map_take,List.map_drop]
 have hput:Fg l r=l.take (EE l r)++[r]++l.drop (EE l r):=if_neg (by rw [List.getElem?_eq_none (by have:=q4;omega)];simp)
 iterate 6 refine cnt h4 rfl ?_
 refine co rfl (Mq rfl rfl h4 rfl) (Ch.nil (Fin.go (Ef 0 3 5 32 rfl (Tr.cond rfl (fun h=>nomatch h) (fun _=> ?_)))))
 refine Tr.skip (Fin.go (Tr.seq (Tr.An (tm rfl (tm rfl ?_)))))
 refine tp rfl (DU rfl underlying33 Bl (vl rfl) (vl rfl) (by omega) (by first|omega|(simp;omega))) ?_
 refine TO.pad ?_
 refine TO.Dh 0 rfl rfl (by decide) (D7 rfl rfl (by decide) rfl underlying33 Bl LM z117 rfl (by decide) ⟨_,rfl,AF _⟩ (vl rfl) (by simp only [List.length_map,List.length_append,List.length_cons,List.length_nil,List.length_take,List.length_drop];unfold maxLen;omega) (by simp only [List.length_map,List.length_append,List.length_cons,List.length_nil,List.length_take,List.length_drop];omega) (Bh (by exact List.Mem.head _) ⟨_,rfl,EN 1⟩)) (fun v4=> ?_)
 refine tm rfl (TO.nil (Fin.go (Tr.seq (Tr.An (tm rfl (tp rfl (AQ rfl Dt Bl (vl rfl) rfl rfl) (tp rfl (AM (xs:=[.tmp 39]) (rows:=[_]) rfl rfl underlying33 Bl z117 rfl (by decide) ⟨⟨(by exact rfl),(Va rfl)⟩,trivial⟩ (by decide)) ?_)))))))
 refine TO.Dh 0 rfl rfl (by decide) (Bt rfl rfl rfl rfl underlying33 Bl LM z117 (Kb rfl) (Kf rfl) (Au (by exact List.Mem.head _) (Ka rfl))) (fun v5=> ?_)
 refine tm rfl (TO.nil (Fin.go (Cd 0 5 6 rfl (Tr.seq (Tr.An (tm rfl (tm rfl (tm rfl ?_))))))))
 refine tp rfl (DM rfl underlying33 Bl (vl rfl) (vl rfl) (by omega) (by first|omega|(simp;omega))) ?_
 refine TO.Dh 0 rfl rfl (by decide) (Bt rfl rfl rfl rfl underlying33 Bl LM z117 (Kb rfl) (vl rfl) (Au (by exact List.Mem.head _) (Ka rfl))) (fun v6=> ?_)
 refine tm rfl (TO.nil (Fin.go (Tr.ret (Fin.Jz rfl (Bc.DZ _ _) rfl ?_))))
 · refine Pr.le_trans (Ak _ _) (Pr.le_of_eq ?_);rw [hput];show _=slice 2 ((l.take (EE l r)++[r]++l.drop (EE l r)).map Sa);simp [List.map_take,List.map_drop]
theorem Fu (l:List BG):∀(a:List BG),(l.foldl Fg a).length≤a.length+l.length:=by
 induction l with
 |nil=>intro a;simp
 |cons x l ih=>intro a;have h1:=ih (Fg a x);have h2:=PB a x;simp only [List.foldl_cons,List.length_cons];omega
theorem MV (l:List BG):∀{a:List BG},DY a=true→DY (l.foldl Fg a)=true:=by
 induction l with
 |nil=>intro a h;exact h
 |cons x l ih=>intro a h;exact ih (NA h)
theorem QK (l:List BG):∀{a:List BG} {x:BG},x∈l.foldl Fg a↔x∈a∨x∈l:=by
 induction l with
 |nil=>intro a x;simp
 |cons y l ih=>intro a x;rw [List.foldl_cons,ih,T9,List.mem_cons,or_comm (a:=x=y),or_assoc]
def PD (a b:List BG):List BG:=b.foldl Fg (a.foldl Fg [])
theorem RA {β γ:Type} {f:γ→β→γ} {a:γ} {l:List β} {k:Nat} {x:β} (h:l[k]? =some x):(l.take (k+1)).foldl f a=f ((l.take k).foldl f a) x:=by rw [List.take_add_one,h,List.foldl_append];rfl
theorem Vp {a b:List BG} (ha:a.length≤100000) (hb:b.length≤100000):BA prog 43 [reqs a,reqs b] (reqs (PD a b)):=by
 refine BA.of func43 rfl rfl (by exact Nb rfl) fun M0 w0=> ?_
 refine Tr.Cv 0 rfl fun Ew=>(Tr.Cv 1 rfl fun GV=>(Tr.seq (Tr.Ah (cm rfl (Ch.nil (Fin.go (Tr.seq (Tr.Ah (cm rfl (Ch.nil (Fin.go (Tr.seq (Tr.seq (Tr.Ah ?_))))))))))))))
 refine cm rfl ?_
 first|refine co rfl (Bo rfl underlying33 (vl rfl)) ?_|refine co rfl (Bz rfl underlying33 (vl rfl)) ?_
 refine cm rfl (Ch.nil (Fin.go (Tr.block (Tr.A9 [(1,_),(10,_),(11,_)] (L_ rfl) (fun k:Nat=>[(12,int ((k:Nat):Int)),(5,reqs ((a.take k).foldl Fg []))]) (fun k:Nat=>k≤(a).length) (fun k:Nat=>(a).length-k) 0 (Nat.zero_le _) ⟨ke rfl,⟨_,rfl,AF 2⟩,trivial⟩ ?_))))
 rintro k BP
 refine Tr.seq (Tr.Ah (co rfl (ki rfl rfl rfl rfl) (Ch.nil (Fin.go (Tr.seq ?_)))))
 refine Tr.cn rfl ?_ ?_<;>intro h1 q1
 have Ai:k<(a).length:=AG h1
 obtain ⟨x,Af⟩:=at_ Ai
 have Ru:=Fu (a.take k) []
 rw [List.length_take] at Ru
 have qV:((a.take k).foldl Fg []).length≤1000000:=by simp at Ru;omega
 refine Tr.skip (Fin.go (Tr.seq (Tr.block (Tr.seq (Tr.An (tp rfl (AA rfl underlying33 Bl (vl rfl) (vl rfl) (by omega) (AP Af)) (tp rfl (AQ rfl Dt Bl (vl rfl) rfl rfl) ?_)))))))
 refine Tl rfl rfl rfl rfl z117 Iz (fun b1=> ?_)
 refine TO.AK 0 rfl rfl rfl (vl rfl) (Va rfl) rfl Bl rfl rfl (TO.freeze 0 7 rfl rfl (TO.nil (Fin.go (Tr.Ah (cm rfl (co rfl (AQ rfl Dt Bl (vl rfl) rfl rfl) (co rfl (AR rfl (PC qV) ⟨ke rfl,ke rfl,trivial⟩) (cm rfl (Ch.nil (Fin.block (Fin.go (KP 1 5 10 11 12 rfl (Tr.Ah ?_)))))))))))))
 first|(refine J8 rfl rfl rfl rfl (by omega) ?_)|refine co rfl (ki rfl rfl rfl rfl) ?_
 refine cm rfl (Ch.nil (Fin.AL (k+1) ⟨Ai,by omega⟩ ⟨⟨_,rfl,AE k⟩,⟨_,rfl,Pr.le_of_eq (by rw [RA Af])⟩,ke rfl,ke rfl,ke rfl,trivial⟩))
 have BJ:k=(a).length:=by have:=AH h1;omega
 subst BJ
 rw [List.take_length]
 refine Tr.exit (Fin.Ad (Fin.Ad (Fin.Ax (Fin.go (Tr.seq (Tr.seq (Tr.Ah (cm rfl ?_))))))))
 first|refine co rfl (Bo rfl underlying33 (vl rfl)) ?_|refine co rfl (Bz rfl underlying33 (vl rfl)) ?_
 refine cm rfl (Ch.nil (Fin.go (Tr.block (Tr.A9 [(20,_),(21,_)] (Qj rfl) (fun m:Nat=>[(22,int ((m:Nat):Int)),(5,reqs ((b.take m).foldl Fg (a.foldl Fg [])))]) (fun m:Nat=>m≤(b).length) (fun m:Nat=>(b).length-m) 0 (Nat.zero_le _) ⟨ke rfl,ke rfl,trivial⟩ ?_))))
 rintro m Lc
 refine Tr.seq (Tr.Ah (co rfl (ki rfl rfl rfl rfl) (Ch.nil (Fin.go (Tr.seq ?_)))))
 refine Tr.cn rfl ?_ ?_<;>intro h2 q2
 have EB:m<(b).length:=AG h2
 obtain ⟨x,EJ⟩:=at_ EB
 have Ru:=Fu (b.take m) (a.foldl Fg [])
 rw [List.length_take] at Ru
 have qV:((b.take m).foldl Fg (a.foldl Fg [])).length≤1000000:=by have:=Fu a [];simp at this;omega
 refine Tr.skip (Fin.go (Tr.seq (Tr.block (Tr.seq (Tr.An (tp rfl (AA rfl underlying33 Bl (vl rfl) (vl rfl) (by omega) (AP EJ)) (tp rfl (AQ rfl Dt Bl (vl rfl) rfl rfl) ?_)))))))
 refine Tl rfl rfl rfl rfl z117 Iz (fun b2=> ?_)
 refine TO.AK 0 rfl rfl rfl (vl rfl) (Va rfl) rfl Bl rfl rfl (TO.freeze 0 9 rfl rfl (TO.nil (Fin.go (Tr.Ah (cm rfl (co rfl (AQ rfl Dt Bl (vl rfl) rfl rfl) (co rfl (AR rfl (PC qV) ⟨ke rfl,ke rfl,trivial⟩) (cm rfl (Ch.nil (Fin.block (Fin.go (Ef 5 20 21 22 rfl (Tr.Ah ?_)))))))))))))
 first|(refine J8 rfl rfl rfl rfl (by omega) ?_)|refine co rfl (ki rfl rfl rfl rfl) ?_
 refine cm rfl (Ch.nil (Fin.AL (m+1) ⟨EB,by omega⟩ ⟨⟨_,rfl,AE m⟩,⟨_,rfl,Pr.le_of_eq (by rw [RA EJ])⟩,ke rfl,ke rfl,trivial⟩))
 have JF:m=(b).length:=by have:=AH h2;omega
 subst JF
 rw [List.take_length]
 refine Tr.exit (Fin.Ad (Fin.Ad (Fin.Ax (Fin.go (Tr.seq (Tr.Ah (cm rfl (cm rfl (Ch.nil (Fin.go (Tr.ret (Fin.Jz rfl (Bc.DZ _ _) rfl ?_))))))))))))
 · exact Lr
theorem JM {l:List Int} {v:Int}  :BA prog 48 [ints l,int v] (bool (Iq l v)):=by
 refine BA.of func48 rfl rfl (by exact Nb rfl) fun M0 w0=> ?_
 refine Tr.Cv 0 rfl fun Ew=>(Tr.seq (Tr.Ah (cm rfl (Ch.nil (Fin.go (Tr.seq (Tr.seq (Tr.Ah (cm rfl ?_)))))))))
 first|refine co rfl (Bo rfl underlying38 (vl rfl)) ?_|refine co rfl (Bz rfl underlying38 (vl rfl)) ?_
 refine cm rfl (Ch.nil (Fin.go (Tr.block (Tr.A9 [(1,_),(7,_),(8,_)] (L_ rfl) (fun k:Nat=>[(9,int ((k:Nat):Int))]) (fun k:Nat=>k≤(l).length∧(Iq (l.take k) v=false)) (fun k:Nat=>(l).length-k) 0 (⟨Nat.zero_le _,rfl⟩) ⟨ke rfl,trivial⟩ ?_))))
 rintro k ⟨BP,AW⟩
 refine Tr.seq (Tr.Ah (co rfl (ki rfl rfl rfl rfl) (Ch.nil (Fin.go (Tr.seq ?_)))))
 refine Tr.cn rfl ?_ ?_<;>intro h1 q1
 have Ai:k<(l).length:=AG h1
 obtain ⟨x,Af⟩:=at_ Ai
 refine Tr.skip (Fin.go (Tr.seq (Tr.block (Tr.seq (Tr.Ah (co rfl (AA rfl underlying38 B4 (vl rfl) (vl rfl) (by omega) (AP Af)) (co rfl (Gg rfl Cz rfl) (cm rfl (Ch.nil (Fin.go (Tr.seq (Tr.Ah (cm rfl ?_)))))))))))))
 refine cm rfl (co rfl (ki rfl rfl rfl rfl) (Ch.nil (Fin.go ?_)))
 refine Tr.cn rfl ?_ ?_<;>intro h2 q2
 refine Tr.seq (Tr.Ah (cm rfl (Ch.nil (Fin.go (Tr.ret (Fin.AX (Fin.AD (Fin.AD (Fin.AX (Fin.AD (Fin.Jz rfl (Bc.DZ _ _) rfl ?_)))))))))))
 · refine bool_eq ?_;symm;unfold Iq;rw [List.any_eq_true];exact ⟨_,List.mem_of_getElem? Af,by simp_all⟩
 refine Tr.skip (Fin.block (Fin.go (Tr.Ah ?_)))
 first|(refine J8 rfl rfl rfl rfl (by omega) ?_)|refine co rfl (ki rfl rfl rfl rfl) ?_
 refine cm rfl (Ch.nil ?_)
 exact Fin.AL (k+1) ⟨⟨Ai,(by unfold Iq at AW ⊢;rw [List.take_add_one,Af,List.any_append,AW];simp;omega)⟩,by omega⟩ ⟨⟨_,rfl,AE k⟩,ke rfl,ke rfl,ke rfl,trivial⟩
 have BJ:k=(l).length:=by have:=AH h1;omega
 subst BJ
 refine Tr.exit (Fin.Ad (Fin.Ad (Fin.Ax (Fin.go (Tr.seq (Tr.Ah (cm rfl (Ch.nil (Fin.go (Tr.ret (Fin.Jz rfl (Bc.DZ _ _) rfl ?_)))))))))))
 · refine bool_eq ?_;rw [List.take_length] at AW;exact AW.symm
theorem NB {l:List BG} {s:List Int}  :BA prog 25 [reqs l,ints s] (bool (CW l s)):=by
 refine BA.of func25 rfl rfl (by exact Nb rfl) fun M0 w0=> ?_
 refine Tr.Cv 0 rfl fun Ew=>(Tr.seq (Tr.Ah (cm rfl (Ch.nil (Fin.go (Tr.seq (Tr.seq (Tr.Ah (cm rfl ?_)))))))))
 first|refine co rfl (Bo rfl underlying33 (vl rfl)) ?_|refine co rfl (Bz rfl underlying33 (vl rfl)) ?_
 refine cm rfl (Ch.nil (Fin.go (Tr.block (Tr.A9 [(1,_),(7,_),(8,_)] (L_ rfl) (fun k:Nat=>[(9,int ((k:Nat):Int))]) (fun k:Nat=>k≤(l).length∧(CW (l.take k) s=true)) (fun k:Nat=>(l).length-k) 0 (⟨Nat.zero_le _,rfl⟩) ⟨ke rfl,trivial⟩ ?_))))
 rintro k ⟨BP,AW⟩
 refine Tr.seq (Tr.Ah (co rfl (ki rfl rfl rfl rfl) (Ch.nil (Fin.go (Tr.seq ?_)))))
 refine Tr.cn rfl ?_ ?_<;>intro h1 q1
 have Ai:k<(l).length:=AG h1
 obtain ⟨r,Af⟩:=at_ Ai
 refine Tr.skip (Fin.go (Tr.seq (Tr.block (Tr.seq (Tr.An (tp rfl (AA rfl underlying33 Bl (vl rfl) (vl rfl) (by omega) (AP Af)) (tp rfl (AQ rfl Dt Bl (vl rfl) rfl rfl) ?_)))))))
 refine Tl rfl rfl rfl rfl z117 Iz (fun b1=> ?_)
 refine TO.AK 0 rfl rfl rfl (vl rfl) (Va rfl) rfl Bl rfl rfl (TO.freeze 0 6 rfl rfl (TO.nil (Fin.go (Tr.seq (Tr.Ah (cm rfl (co rfl (S0 rfl Rr rfl rfl) (co rfl (Gg rfl Cz rfl) (co rfl (AR rfl (JM) ⟨ke rfl,ke rfl,trivial⟩) (cm rfl ?_))))))))))
 refine Ch.cs 17 rfl ?_ ?_<;>intro h2 q2
 refine Jd h2 rfl (cy h2 rfl (S0 rfl Rp rfl rfl) (cy h2 rfl (Gg rfl Cz rfl) (cy h2 rfl (AR rfl (JM) ⟨ke rfl,ke rfl,trivial⟩) (cy h2 rfl (G8 rfl (vl rfl)) (co rfl (Na rfl rfl h2 rfl) (Ch.nil (Fin.go (KP 1 7 8 9 23 rfl ?_))))))))
 refine Tr.cn rfl ?_ ?_<;>intro h3 q3
 refine Tr.seq (Tr.Ah (cm rfl (Ch.nil (Fin.go (Tr.ret (Fin.AX (Fin.AD (Fin.AD (Fin.AX (Fin.AD (Fin.Jz rfl (Bc.DZ _ _) rfl ?_)))))))))))
 · refine bool_eq ?_;symm;unfold CW;rw [List.all_eq_false];exact ⟨_,List.mem_of_getElem? Af,by simp_all⟩
 refine Tr.skip (Fin.block (Fin.go (Tr.Ah ?_)))
 first|(refine J8 rfl rfl rfl rfl (by omega) ?_)|refine co rfl (ki rfl rfl rfl rfl) ?_
 refine cm rfl (Ch.nil ?_)
 exact Fin.AL (k+1) ⟨⟨Ai,(by unfold CW at AW ⊢;rw [List.take_add_one,Af,List.all_append,AW];simp_all)⟩,by omega⟩ ⟨⟨_,rfl,AE k⟩,ke rfl,ke rfl,ke rfl,trivial⟩
 iterate 5 refine cnt h2 rfl ?_
 refine co rfl (Mq rfl rfl h2 rfl) (Ch.nil (Fin.go (KP 1 7 8 9 23 rfl (Tr.cond rfl (fun h=>nomatch h) (fun _=> ?_)))))
 refine Tr.skip (Fin.block (Fin.go (Tr.Ah ?_)))
 first|(refine J8 rfl rfl rfl rfl (by omega) ?_)|refine co rfl (ki rfl rfl rfl rfl) ?_
 refine cm rfl (Ch.nil ?_)
 exact Fin.AL (k+1) ⟨⟨Ai,(by unfold CW at AW ⊢;rw [List.take_add_one,Af,List.all_append,AW];simp_all)⟩,by omega⟩ ⟨⟨_,rfl,AE k⟩,ke rfl,ke rfl,ke rfl,trivial⟩
 have BJ:k=(l).length:=by have:=AH h1;omega
 subst BJ
 refine Tr.exit (Fin.Ad (Fin.Ad (Fin.Ax (Fin.go (Tr.seq (Tr.Ah (cm rfl (Ch.nil (Fin.go (Tr.ret (Fin.Jz rfl (Bc.DZ _ _) rfl ?_)))))))))))
 · refine bool_eq ?_;rw [List.take_length] at AW;exact AW.symm
theorem RB (n:Int) (has:Bool) (s:List Int):(wall n has s).1.length≤s.length+1:=by
 have h:=O9 (n:=n) (has:=has) (s:=s) (p:=([],false))
 unfold wall;revert h;split<;>simp<;>omega
theorem PF (n:Nat) (l:List BG) (s:List Int) (add:Bool):(ED n l s add).length≤n:=by unfold ED;rw [List.length_map];exact Nat.le_trans (List.length_filter_le _ _) (by rw [List.length_range];exact Nat.le_refl _)
theorem dw {n:Nat} {l:List BG} {s:List Int} {add:Bool} (h:Kq l s add n=true):ED (n+1) l s add=ED n l s add++[(n:Int)]:=by unfold ED;rw [List.range_succ,List.filter_append,List.map_append];simp [h]
theorem Xb {n:Nat} {l:List BG} {s:List Int} {add:Bool} (h:Kq l s add n=false):ED (n+1) l s add=ED n l s add:=by unfold ED;rw [List.range_succ,List.filter_append,List.map_append];simp [h]
theorem CR {n:Int} {has:Bool} {s:List Int} {k:Nat} {x:Int} (h:s[k]? =some x):wall n has (s.take (k+1))=CC n has (wall n has (s.take k)) x:=by
 rw [List.take_add_one,h];exact Y6 n has _ x
theorem Fh {s:List Int} {n:Int} {has:Bool} (hs:s.length≤1000000):BA prog 10 [ints s,int n,bool has] (ints (D5 s n has)):=by
 refine BA.of func10 rfl rfl (by exact Nb rfl) fun M0 w0=> ?_
 refine Tr.Cv 0 rfl fun Ew=>(Tr.seq (Tr.Ah (cm rfl (Ch.nil (Fin.go (Tr.seq (Tr.Ah (cm rfl (Ch.nil (Fin.go (Tr.seq (Tr.Ah (cm rfl ?_)))))))))))))
 refine Ch.nil (Fin.go (Tr.seq (Tr.seq (Tr.Ah (cm rfl ?_)))))
 first|refine co rfl (Bo rfl underlying38 (vl rfl)) ?_|refine co rfl (Bz rfl underlying38 (vl rfl)) ?_
 refine cm rfl (Ch.nil (Fin.go (Tr.block (Tr.B0 3 1 (Tr.E8 [(1,_),(2,_),(11,_),(12,_)] ⟨ke rfl,ke rfl,ke rfl,ke rfl,trivial⟩ (fun k v=>[(13,int ((k:Nat):Int)),(8,bool (wall n has (s.take k)).2),(7,Ag v (ints (wall n has (s.take k)).1))]) (fun k v=>Hp M0 w0 FR ([Aq 3 1 v])) (fun k:Nat=>k≤(s).length) (fun k:Nat=>(s).length-k) 0 (.slice none 0 0) (Nat.zero_le _) ⟨ke rfl,⟨_,rfl,bool_eq rfl⟩,⟨_,rfl,Bf rfl⟩,trivial⟩ (fun _ _ h=>h) ?_)))))
 rintro k v BP
 refine Tr.seq (Tr.Ah (co rfl (ki rfl rfl rfl rfl) (Ch.nil (Fin.go (Tr.seq ?_)))))
 refine Tr.cn rfl ?_ ?_<;>intro h1 q1
 have Ai:k<(s).length:=AG h1
 obtain ⟨x,Af⟩:=at_ Ai
 have hwl:=RB n has (s.take k)
 rw [List.length_take] at hwl
 refine Tr.skip (Fin.go (Tr.seq (Tr.block (Tr.seq (Tr.Ah (co rfl (AA rfl underlying38 B4 (vl rfl) (vl rfl) (by omega) (AP Af)) (co rfl (Gg rfl Cz rfl) (cm rfl (Ch.nil (Fin.go (Tr.seq (Tr.seq (Tr.Ah ?_)))))))))))))
 refine cm rfl (cm rfl ?_)
 refine Ch.cs 18 rfl ?_ ?_<;>intro h2 q2
 refine Jd h2 rfl (cy h2 rfl (G8 rfl (vl rfl)) (co rfl (Na rfl rfl h2 rfl) (cm rfl ?_)))
 refine Ch.cs 22 rfl ?_ ?_<;>intro h3 q3
 refine Jd h3 rfl (Jd h3 rfl (cy h3 rfl (ki rfl rfl rfl rfl) (co rfl (Na rfl rfl h3 rfl) (Ch.nil (Fin.go (P9 1 2 7 8 10 11 12 13 26 rfl ?_))))))
 refine Tr.cn rfl ?_ ?_<;>intro h4 q4
 refine Tr.An (tm rfl (tm rfl (tp rfl (AM (xs:=[.tmp 28]) (rows:=[[_]]) rfl rfl underlying38 B4 z3 rfl (by decide) ⟨⟨(by exact rfl),(Vo rfl)⟩,trivial⟩ (by decide)) ?_)))
 refine TO.Dh 0 rfl rfl (by decide) (Bt rfl rfl rfl rfl underlying38 B4 Jf z3 (Kb rfl) (Kf rfl) (Au (by exact List.Mem.head _) (Ka rfl))) (fun v1=> ?_)
 refine tm rfl (tm rfl (TO.nil (Fin.go (J0 1 2 7 8 10 11 12 13 rfl (Tr.seq (Tr.Ah (cm rfl (cm rfl (co rfl (ki rfl rfl rfl rfl) (Ch.nil (Fin.go ?_)))))))))))
 refine Tr.cn rfl ?_ ?_<;>intro h5 q5
 refine Tr.An (tm rfl (tm rfl (tp rfl (AM (xs:=[.tmp 35]) (rows:=[[_]]) rfl rfl underlying38 B4 z3 rfl (by decide) ⟨⟨(by exact rfl),(Vo rfl)⟩,trivial⟩ (by decide)) ?_)))
 refine TO.Dh 0 rfl rfl (by decide) (Bt rfl rfl rfl rfl underlying38 B4 Jf z3 (Kb rfl) (Kf rfl) (Au (by exact List.Mem.head _) (Ka rfl))) (fun v2=> ?_)
 refine tm rfl (TO.nil (Fin.block (Fin.go (Je 1 2 7 8 11 12 13 rfl (Tr.Ah ?_)))))
 first|(refine J8 rfl rfl rfl rfl (by omega) ?_)|refine co rfl (ki rfl rfl rfl rfl) ?_
 refine cm rfl (Ch.nil ?_)
 exact Fin.Da (k+1) v2 (⟨Ai,by omega⟩) ⟨⟨_,rfl,AE k⟩,⟨_,rfl,bool_eq (by rw [CR Af];unfold CC;first|(simp_all;done)|(split<;>simp_all<;>omega)|(repeat (any_goals split))<;>first|(simp_all;done)|(exfalso;omega)|(exfalso;simp_all;omega))⟩,⟨_,rfl,A7 (by rw [CR Af];unfold CC;first|(simp_all;done)|(split<;>simp_all<;>omega)|(repeat (any_goals split))<;>first|(simp_all;done)|(exfalso;omega)|(exfalso;simp_all;omega))⟩,ke rfl,ke rfl,ke rfl,ke rfl,trivial⟩ (fun _ _ h=>h)
 refine Tr.skip (Fin.block (Fin.go (Tr.Ah ?_)))
 first|(refine J8 rfl rfl rfl rfl (by omega) ?_)|refine co rfl (ki rfl rfl rfl rfl) ?_
 refine cm rfl (Ch.nil ?_)
 exact Fin.Da (k+1) v1 (⟨Ai,by omega⟩) ⟨⟨_,rfl,AE k⟩,⟨_,rfl,bool_eq (by rw [CR Af];unfold CC;first|(simp_all;done)|(split<;>simp_all<;>omega)|(repeat (any_goals split))<;>first|(simp_all;done)|(exfalso;omega)|(exfalso;simp_all;omega))⟩,⟨_,rfl,A7 (by rw [CR Af];unfold CC;first|(simp_all;done)|(split<;>simp_all<;>omega)|(repeat (any_goals split))<;>first|(simp_all;done)|(exfalso;omega)|(exfalso;simp_all;omega))⟩,ke rfl,ke rfl,ke rfl,ke rfl,trivial⟩ (fun _ _ h=>h)
 refine Tr.skip (Fin.go (Tr.seq (Tr.Ah (cm rfl (cm rfl (co rfl (ki rfl rfl rfl rfl) (Ch.nil (Fin.go ?_))))))))
 refine Tr.cn rfl ?_ ?_<;>intro h6 q6
 refine Tr.An (tm rfl (tm rfl (tp rfl (AM (xs:=[.tmp 35]) (rows:=[[_]]) rfl rfl underlying38 B4 z3 rfl (by decide) ⟨⟨(by exact rfl),(Vo rfl)⟩,trivial⟩ (by decide)) ?_)))
 refine TO.Dh 0 rfl rfl (by decide) (Bt rfl rfl rfl rfl underlying38 B4 Jf z3 (Kb rfl) (Kf rfl) (Au (by exact List.Mem.head _) (Ka rfl))) (fun v3=> ?_)
 refine tm rfl (TO.nil (Fin.block (Fin.go (Je 1 2 7 8 11 12 13 rfl (Tr.Ah ?_)))))
 first|(refine J8 rfl rfl rfl rfl (by omega) ?_)|refine co rfl (ki rfl rfl rfl rfl) ?_
 refine cm rfl (Ch.nil ?_)
 exact Fin.Da (k+1) v3 (⟨Ai,by omega⟩) ⟨⟨_,rfl,AE k⟩,⟨_,rfl,bool_eq (by rw [CR Af];unfold CC;first|(simp_all;done)|(split<;>simp_all<;>omega)|(repeat (any_goals split))<;>first|(simp_all;done)|(exfalso;omega)|(exfalso;simp_all;omega))⟩,⟨_,rfl,A7 (by rw [CR Af];unfold CC;first|(simp_all;done)|(split<;>simp_all<;>omega)|(repeat (any_goals split))<;>first|(simp_all;done)|(exfalso;omega)|(exfalso;simp_all;omega))⟩,ke rfl,ke rfl,ke rfl,ke rfl,trivial⟩ (fun _ _ h=>h)
 refine Tr.skip (Fin.block (Fin.go (Tr.Ah ?_)))
 first|(refine J8 rfl rfl rfl rfl (by omega) ?_)|refine co rfl (ki rfl rfl rfl rfl) ?_
 refine cm rfl (Ch.nil ?_)
 exact Fin.Da (k+1) v (⟨Ai,by omega⟩) ⟨⟨_,rfl,AE k⟩,⟨_,rfl,bool_eq (by rw [CR Af];unfold CC;first|(simp_all;done)|(split<;>simp_all<;>omega)|(repeat (any_goals split))<;>first|(simp_all;done)|(exfalso;omega)|(exfalso;simp_all;omega))⟩,⟨_,rfl,A7 (by rw [CR Af];unfold CC;first|(simp_all;done)|(split<;>simp_all<;>omega)|(repeat (any_goals split))<;>first|(simp_all;done)|(exfalso;omega)|(exfalso;simp_all;omega))⟩,ke rfl,ke rfl,ke rfl,ke rfl,trivial⟩ (fun _ _ h=>h)
 refine cnt h3 rfl (cnt h3 rfl (cnt h3 rfl (co rfl (Mq rfl rfl h3 rfl) (Ch.nil (Fin.go (P9 1 2 7 8 10 11 12 13 26 rfl (Tr.cond rfl (fun h=>nomatch h) (fun _=> ?_))))))))
 refine Tr.skip (Fin.go (Tr.seq (Tr.Ah (cm rfl (cm rfl (co rfl (ki rfl rfl rfl rfl) (Ch.nil (Fin.go ?_))))))))
 refine Tr.cn rfl ?_ ?_<;>intro h7 q7
 refine Tr.An (tm rfl (tm rfl (tp rfl (AM (xs:=[.tmp 35]) (rows:=[[_]]) rfl rfl underlying38 B4 z3 rfl (by decide) ⟨⟨(by exact rfl),(Vo rfl)⟩,trivial⟩ (by decide)) ?_)))
 refine TO.Dh 0 rfl rfl (by decide) (Bt rfl rfl rfl rfl underlying38 B4 Jf z3 (Kb rfl) (Kf rfl) (Au (by exact List.Mem.head _) (Ka rfl))) (fun v4=> ?_)
 refine tm rfl (TO.nil (Fin.block (Fin.go (Je 1 2 7 8 11 12 13 rfl (Tr.Ah ?_)))))
 first|(refine J8 rfl rfl rfl rfl (by omega) ?_)|refine co rfl (ki rfl rfl rfl rfl) ?_
 refine cm rfl (Ch.nil ?_)
 exact Fin.Da (k+1) v4 (⟨Ai,by omega⟩) ⟨⟨_,rfl,AE k⟩,⟨_,rfl,bool_eq (by rw [CR Af];unfold CC;first|(simp_all;done)|(split<;>simp_all<;>omega)|(repeat (any_goals split))<;>first|(simp_all;done)|(exfalso;omega)|(exfalso;simp_all;omega))⟩,⟨_,rfl,A7 (by rw [CR Af];unfold CC;first|(simp_all;done)|(split<;>simp_all<;>omega)|(repeat (any_goals split))<;>first|(simp_all;done)|(exfalso;omega)|(exfalso;simp_all;omega))⟩,ke rfl,ke rfl,ke rfl,ke rfl,trivial⟩ (fun _ _ h=>h)
 refine Tr.skip (Fin.block (Fin.go (Tr.Ah ?_)))
 first|(refine J8 rfl rfl rfl rfl (by omega) ?_)|refine co rfl (ki rfl rfl rfl rfl) ?_
 refine cm rfl (Ch.nil ?_)
 exact Fin.Da (k+1) v (⟨Ai,by omega⟩) ⟨⟨_,rfl,AE k⟩,⟨_,rfl,bool_eq (by rw [CR Af];unfold CC;first|(simp_all;done)|(split<;>simp_all<;>omega)|(repeat (any_goals split))<;>first|(simp_all;done)|(exfalso;omega)|(exfalso;simp_all;omega))⟩,⟨_,rfl,A7 (by rw [CR Af];unfold CC;first|(simp_all;done)|(split<;>simp_all<;>omega)|(repeat (any_goals split))<;>first|(simp_all;done)|(exfalso;omega)|(exfalso;simp_all;omega))⟩,ke rfl,ke rfl,ke rfl,ke rfl,trivial⟩ (fun _ _ h=>h)
 refine cnt h2 rfl (cnt h2 rfl (co rfl (Mq rfl rfl h2 rfl) (cm rfl (cnd rfl rfl (cnd rfl rfl (cnd rfl rfl (co rfl (Mq rfl rfl rfl rfl) (Ch.nil (Fin.go (P9 1 2 7 8 10 11 12 13 26 rfl (Tr.cond rfl (fun h=>nomatch h) (fun _=> ?_))))))))))))
 refine Tr.skip (Fin.go (Tr.seq (Tr.Ah (cm rfl (cm rfl (co rfl (ki rfl rfl rfl rfl) (Ch.nil (Fin.go ?_))))))))
 refine Tr.cn rfl ?_ ?_<;>intro h8 q8
 refine Tr.An (tm rfl (tm rfl (tp rfl (AM (xs:=[.tmp 35]) (rows:=[[_]]) rfl rfl underlying38 B4 z3 rfl (by decide) ⟨⟨(by exact rfl),(Vo rfl)⟩,trivial⟩ (by decide)) ?_)))
 refine TO.Dh 0 rfl rfl (by decide) (Bt rfl rfl rfl rfl underlying38 B4 Jf z3 (Kb rfl) (Kf rfl) (Au (by exact List.Mem.head _) (Ka rfl))) (fun v5=> ?_)
 refine tm rfl (TO.nil (Fin.block (Fin.go (Je 1 2 7 8 11 12 13 rfl (Tr.Ah ?_)))))
 first|(refine J8 rfl rfl rfl rfl (by omega) ?_)|refine co rfl (ki rfl rfl rfl rfl) ?_
 refine cm rfl (Ch.nil ?_)
 exact Fin.Da (k+1) v5 (⟨Ai,by omega⟩) ⟨⟨_,rfl,AE k⟩,⟨_,rfl,bool_eq (by rw [CR Af];unfold CC;first|(simp_all;done)|(split<;>simp_all<;>omega)|(repeat (any_goals split))<;>first|(simp_all;done)|(exfalso;omega)|(exfalso;simp_all;omega))⟩,⟨_,rfl,A7 (by rw [CR Af];unfold CC;first|(simp_all;done)|(split<;>simp_all<;>omega)|(repeat (any_goals split))<;>first|(simp_all;done)|(exfalso;omega)|(exfalso;simp_all;omega))⟩,ke rfl,ke rfl,ke rfl,ke rfl,trivial⟩ (fun _ _ h=>h)
 refine Tr.skip (Fin.block (Fin.go (Tr.Ah ?_)))
 first|(refine J8 rfl rfl rfl rfl (by omega) ?_)|refine co rfl (ki rfl rfl rfl rfl) ?_
 refine cm rfl (Ch.nil ?_)
 exact Fin.Da (k+1) v (⟨Ai,by omega⟩) ⟨⟨_,rfl,AE k⟩,⟨_,rfl,bool_eq (by rw [CR Af];unfold CC;first|(simp_all;done)|(split<;>simp_all<;>omega)|(repeat (any_goals split))<;>first|(simp_all;done)|(exfalso;omega)|(exfalso;simp_all;omega))⟩,⟨_,rfl,A7 (by rw [CR Af];unfold CC;first|(simp_all;done)|(split<;>simp_all<;>omega)|(repeat (any_goals split))<;>first|(simp_all;done)|(exfalso;omega)|(exfalso;simp_all;omega))⟩,ke rfl,ke rfl,ke rfl,ke rfl,trivial⟩ (fun _ _ h=>h)
 have BJ:k=(s).length:=by have:=AH h1;omega
 subst BJ
 rw [List.take_length]
 have hwl:=RB n has s
 refine Tr.exit (Fin.Ad (Fin.Ad (Fin.Ax (Fin.go (Tr.seq (Tr.seq (Tr.Ah (cm rfl (cm rfl ?_)))))))))
 refine Ch.cs 40 rfl ?_ ?_<;>intro h9 q9
 refine Jd h9 rfl (cy h9 rfl (G8 rfl (vl rfl)) (co rfl (Na rfl rfl h9 rfl) (Ch.nil (Fin.go ?_))))
 refine Tr.cn rfl ?_ ?_<;>intro h10 QH
 refine Tr.An (tm rfl (tm rfl (tp rfl (AM (xs:=[.tmp 45]) (rows:=[[_]]) rfl rfl underlying38 B4 z3 rfl (by decide) ⟨⟨(by exact rfl),(Vo rfl)⟩,trivial⟩ (by decide)) ?_)))
 refine TO.Dh 0 rfl rfl (by decide) (Bt rfl rfl rfl rfl underlying38 B4 Jf z3 (Kb rfl) (Kf rfl) (Au (by exact List.Mem.head _) (Ka rfl))) (fun v6=> ?_)
 refine tm rfl (TO.nil (Fin.go (FX 7 rfl (Tr.seq (Tr.Ah (cm rfl (cm rfl (Ch.nil (Fin.go (Tr.ret (Fin.Jz rfl (Bc.DZ _ _) rfl ?_)))))))))))
 · exact Pr.le_trans (Ak _ _) (Pr.le_of_eq (by unfold D5;first|(simp_all;done)|(rw [if_pos (by simp_all)];show _=slice 1 _;rw [List.map_append];rfl)))
 refine Tr.skip (Fin.go (Tr.seq (Tr.Ah (cm rfl (cm rfl (Ch.nil (Fin.go (FX 6 rfl (Tr.ret (Fin.Jz rfl (Bc.DZ _ _) rfl ?_))))))))))
 · exact Pr.le_trans (Ak _ _) (Pr.le_of_eq (by unfold D5;first|(simp_all;done)|(rw [if_pos (by simp_all)];show _=slice 1 _;rw [List.map_append];rfl)))
 refine cnt h9 rfl (cnt h9 rfl (co rfl (Mq rfl rfl h9 rfl) (Ch.nil (Fin.go (Tr.cond rfl (fun h=>nomatch h) (fun _=> ?_))))))
 refine Tr.skip (Fin.go (Tr.seq (Tr.Ah (cm rfl (cm rfl (Ch.nil (Fin.go (FX 6 rfl (Tr.ret (Fin.Jz rfl (Bc.DZ _ _) rfl ?_))))))))))
 · exact Pr.le_trans (Ak _ _) (Pr.le_of_eq (by unfold D5;first|(simp_all;done)|(rw [if_pos (by simp_all)];show _=slice 1 _;rw [List.map_append];rfl)))
theorem NC {n:Nat} {l:List BG} {s:List Int} {add:Bool} (hs:s.length≤100000) (hn:n≤100000):BA prog 101 [int ((n:Nat):Int),reqs l,ints s,bool add] (ints (ED n l s add)):=by
 refine fo func101 rfl ⟨rfl,rfl⟩ fun M0 w0=> ?_
 refine a3 ?_
 refine Tr.block (Tr.B0 3 1 (Tr.E8 [(1,_),(2,_),(3,_),(11,_)] ⟨ke rfl,ke rfl,ke rfl,ke rfl,trivial⟩ (fun k v=>[(12,int ((k:Nat):Int)),(9,Ag v (ints (ED k l s add)))]) (fun k v=>Hp M0 w0 FR ([Aq 3 1 v])) (fun k:Nat=>k≤n) (fun k:Nat=>n-k) 0 (.slice none 0 0) (Nat.zero_le _) ⟨ke rfl,⟨_,rfl,Bf rfl⟩,trivial⟩ (fun _ _ h=>h) ?_))
 rintro k v hkn
 refine ac ?_
 refine Tr.seq ?_
 refine Tr.cn rfl ?_ ?_<;>intro h1 q1
 have hk1:k<n:=by have:=D_.Eo h1;omega
 have Ru:=PF k l s add
 refine a3 ?_
 refine co rfl (CF (JM) rfl rfl rfl) (cm rfl (co rfl (Uw rfl underlying4 (vl rfl) (vl rfl)) (cm rfl ?_)))
 refine Ch.cs 20 rfl ?_ ?_<;>intro h2 q2
 refine ac ?_
 refine cy h2 rfl (J2 (Fh (by omega)) rfl rfl rfl rfl) (cy h2 rfl (CF (NB) rfl rfl rfl) ?_)
 refine ac ?_
 refine J0 1 2 3 9 10 11 12 27 rfl ?_
 refine Tr.cn rfl ?_ ?_<;>intro h3 q3
 refine ap ?_
 refine TO.Dh 0 rfl rfl (by decide) (Bt rfl rfl rfl rfl underlying38 B4 Jf z3 (Kb rfl) (Kf rfl) (Au (by exact List.Mem.head _) (Ka rfl))) (fun v1=> ?_)
 refine ap ?_
 refine Tr.Ah ?_
 first|(refine J8 rfl rfl rfl rfl (by omega) ?_)|refine co rfl (ki rfl rfl rfl rfl) ?_
 refine ac ?_
 exact Fin.Da (k+1) v1 (⟨by omega,by omega⟩) ⟨⟨_,rfl,AE k⟩,⟨_,rfl,A7 (by rw [dw (by unfold Kq;simp_all)];simp)⟩,ke rfl,ke rfl,ke rfl,ke rfl,trivial⟩ (fun _ _ h=>h)
 refine ac ?_
 refine Tr.Ah ?_
 first|(refine J8 rfl rfl rfl rfl (by omega) ?_)|refine co rfl (ki rfl rfl rfl rfl) ?_
 refine ac ?_
 exact Fin.Da (k+1) v (⟨by omega,by omega⟩) ⟨⟨_,rfl,AE k⟩,⟨_,rfl,A7 (by rw [Xb (by unfold Kq;simp_all)])⟩,ke rfl,ke rfl,ke rfl,ke rfl,trivial⟩ (fun _ _ h=>h)
 refine ac ?_
 refine J0 1 2 3 9 10 11 12 27 rfl ?_
 refine ac ?_
 refine Tr.Ah ?_
 first|(refine J8 rfl rfl rfl rfl (by omega) ?_)|refine co rfl (ki rfl rfl rfl rfl) ?_
 refine ac ?_
 exact Fin.Da (k+1) v (⟨by omega,by omega⟩) ⟨⟨_,rfl,AE k⟩,⟨_,rfl,A7 (by rw [Xb (by unfold Kq;simp_all)])⟩,ke rfl,ke rfl,ke rfl,ke rfl,trivial⟩ (fun _ _ h=>h)
 obtain rfl:k=n:=by have:=D_.Eo h1;omega
 refine a3 ?_
 · exact Ak _ _
theorem Vq {c:BB} {a b:List Int} {t n x:Int} (hf:c.C9 a b []=0) (ht:c.has t=true) (Jk:a.length<24) (h:c.early a b t n=some x):n≤x∧(0≤x∧x≤40000)∧c.C9 (a++[t]) (b++[x]) []=0:=by
 have ho:=F0 (GY hf)
 rw [JJ (by rw [GZ ht];exact hf)] at h
 unfold BB.next at h
 obtain ⟨h1,h2⟩:=Hf ho
 obtain ⟨h3,⟨j,w,hj,h4,h5,h7⟩,_⟩:=M_ h (Hg h1 h2) h2
 rw [Nat.zero_add] at h7
 have hw:=List.any_eq_false.1 (Kn ho).2.2.1 w (List.mem_of_getElem? hj)
 have hl:=O2 h4
 simp [Kl] at hw
 have hop:c.MB (a.zip b) t x=true:=(j_ ho).2 ⟨j,w,hj,h4,h5,h7⟩
 refine ⟨by omega,by omega,?_⟩
 rw [←dU hf Jk ht] at hop
 exact of_decide_eq_true hop
def FO (l:List BG) (Ks:List Int) (i fr:Int):Int:=l.foldl (fun a r=>if r.thn=i then max a (Ks.getD r.fst.toNat 0+1) else a) fr
theorem PG {Ks:List Int} {i:Int}:∀{l:List BG} {fr:Int},fr≤FO l Ks i fr
 |[],_=>Int.le_refl _
 |r::l,fr=>by
  have h:= @PG Ks i l (if r.thn=i then max fr (Ks.getD r.fst.toNat 0+1) else fr)
  unfold FO at h ⊢
  rw [List.foldl_cons]
  split at h
  next h2=>rw [if_pos h2];omega
  next h2=>rw [if_neg h2];exact h
theorem PI {Ks:List Int} {i:Int} {r:BG}:∀{l:List BG} {fr:Int},r∈l→r.thn=i→Ks.getD r.fst.toNat 0<FO l Ks i fr
 |[],_,h,_=>by cases h
 |x::l,fr,h,h2=>by
  unfold FO
  rw [List.foldl_cons]
  rcases List.mem_cons.1 h with rfl|h
  ·
   have h3:= @PG Ks i l (if r.thn=i then max fr (Ks.getD r.fst.toNat 0+1) else fr)
   unfold FO at h3
   rw [if_pos h2] at h3 ⊢
   omega
  · exact PI h h2
abbrev Un (t:List Int) (i:Int):Int:=t.getD i.toNat 0
open Classical in
noncomputable def Js (c:BB) (l:List BG) (t:List Int) (fr:Int) (st:Option (List Int×List Int×List Int)) (i:Int):Option (List Int×List Int×List Int):=
 match st with
 |none=>none
 |some (Ks,busy,days)=>match c.early busy days (Un t i) (FO l Ks i fr) with
  |none=>none
  |some d=>some (Ks.set i.toNat d,busy++[Un t i],days++[d])
noncomputable def MW (c:BB) (l:List BG) (t:List Int) (fr:Int) (n:Nat) (row:List Int):Option (List Int×List Int×List Int):=row.foldl (Js c l t fr) (some (List.replicate n 0,[],[]))
theorem RC {c:BB} {l:List BG} {t:List Int} {fr:Int}:∀(row:List Int),row.foldl (Js c l t fr) none=none
 |[]=>rfl
 |_::row=>RC row
theorem MX {c:BB} {l:List BG} {t:List Int} {fr:Int} {n k:Nat} {row:List Int} {i:Int} (h:row[k]? =some i):MW c l t fr n (row.take (k+1))=Js c l t fr (MW c l t fr n (row.take k)) i:=by
 unfold MW
 rw [List.take_add_one,h,List.foldl_append];rfl
theorem RD {c:BB} {l:List BG} {t:List Int} {fr:Int} {n k:Nat} {row:List Int} {i:Int} {d b y:List Int} (h:row[k]? =some i) (hs:MW c l t fr n (row.take k)=some (d,b,y)) (he:c.early b y (Un t i) (FO l d i fr)=none):MW c l t fr n row=none:=by
 have h1:MW c l t fr n (row.take (k+1))=none:=by rw [MX h,hs];simp only [Js,he]
 unfold MW at h1 ⊢
 rw [←List.take_append_drop (k+1) row,List.foldl_append,h1]
 exact RC _
theorem kE {c:BB} {l:List BG} {t:List Int} {fr:Int} {n k:Nat} {row:List Int} {i x:Int} {d b y:List Int} (h:row[k]? =some i) (hs:MW c l t fr n (row.take k)=some (d,b,y)) (he:c.early b y (Un t i) (FO l d i fr)=some x):MW c l t fr n (row.take (k+1))=some (d.set i.toNat x,b++[Un t i],y++[x]):=by
 rw [MX h,hs];simp only [Js,he]
structure QL (c:BB) (l:List BG) (t row:List Int) (fr:Int) (n k:Nat) (Ks busy days:List Int):Prop where
 len:Ks.length=n
 hb:busy=(row.take k).map (Un t)
 hd:days=(row.take k).map fun i=>Ks.getD i.toNat 0
 bnd:∀x∈Ks,0≤x∧x≤40000
 ge:∀i∈row.take k,fr≤Ks.getD i.toNat 0
 ord:∀r∈l,r.thn∈row.take k→Ks.getD r.fst.toNat 0<Ks.getD r.thn.toNat 0
 fit:c.C9 busy days []=0
theorem F2 {l:List Int} {i j d:Int} (hi:0≤i) (hj:0≤j) (h:i.toNat<l.length):(l.set i.toNat d).getD j.toNat 0=if j=i then d else l.getD j.toNat 0:=by
 rw [List.getD_eq_getElem?_getD,List.getElem?_set]
 by_cases e:j=i
 · subst e;rw [if_pos rfl,if_pos h,if_pos rfl];rfl
 · rw [if_neg (by omega),if_neg e,List.getD_eq_getElem?_getD]
theorem Vr {l:List Int} {k:Nat} {i:Int} (hn:l.Nodup) (h:l[k]? =some i):i∉l.take k:=by
 intro hm
 obtain ⟨j,hj⟩:=List.mem_iff_getElem?.1 hm
 rw [List.getElem?_take] at hj
 split at hj
 next hjk=>
  have:=(List.getElem?_inj (by rcases Nat.lt_or_ge j l.length with h2|h2;exact h2;rw [List.getElem?_eq_none h2] at hj;cases hj) hn).1 (hj.trans h.symm)
  omega
 next=>cases hj
theorem QL.next {c:BB} {l:List BG} {t row done:List Int} {fr d i:Int} {n k:Nat} {Ks busy days:List Int} (h:QL c l t row fr n k Ks busy days) (hr:MU (n:Int) l row done) (hk:row[k]? =some i) (hl:∀r∈l,0≤r.fst∧0≤r.thn∧r.fst≠r.thn) (hn:n≤24) (ht:c.has (Un t i)=true)
  (he:c.early busy days (Un t i) (FO l Ks i fr)=some d):QL c l t row fr n (k+1) (Ks.set i.toNat d) (busy++[Un t i]) (days++[d]):=by
 have hi:=hr.O_ i (List.mem_of_getElem? hk)
 have hni:=Vr hr.nd hk
 have hlen:i.toNat<Ks.length:=by rw [h.len];omega
 have Uk:k<row.length:=by rcases Nat.lt_or_ge k row.length with h2|h2;exact h2;rw [List.getElem?_eq_none h2] at hk;cases hk
 have hrl:=hr.len
 have Ru:busy.length<24:=by rw [h.hb,List.length_map,List.length_take];omega
 obtain ⟨e1,e2,e3⟩:=Vq h.fit ht Ru he
 have hf:= @PG Ks i l fr
 have nY:row.take (k+1)=row.take k++[i]:=by rw [List.take_add_one,hk];rfl
 have dx:∀j∈row.take k,0≤j∧j≠i:=fun j hj=>⟨(hr.O_ j (List.mem_of_mem_take hj)).1,fun e=>hni (e ▸ hj)⟩
 refine ⟨by rw [List.length_set];exact h.len,by rw [nY,List.map_append,←h.hb];rfl,?_,fun x hx=> ?_,fun j hj=> ?_,fun r hrm hm=> ?_,e3⟩
 ·
  rw [nY,List.map_append,h.hd]
  have h1:∀j∈row.take k,Ks.getD j.toNat 0=(Ks.set i.toNat d).getD j.toNat 0:=fun j hj=>by
   rw [F2 hi.1 (dx j hj).1 hlen,if_neg (dx j hj).2]
  rw [List.map_congr_left h1]
  congr 1
  show [d]=[(Ks.set i.toNat d).getD i.toNat 0]
  rw [F2 hi.1 hi.1 hlen,if_pos rfl]
 ·
  rcases List.mem_or_eq_of_mem_set hx with hx|hx
  · exact h.bnd x hx
  · subst hx;exact e2
 ·
  rw [nY,List.mem_append,List.mem_singleton] at hj
  rcases hj with hj|rfl
  · rw [F2 hi.1 (dx j hj).1 hlen,if_neg (dx j hj).2];exact h.ge j hj
  · rw [F2 hi.1 hi.1 hlen,if_pos rfl];omega
 ·
  rw [nY,List.mem_append,List.mem_singleton] at hm
  have hq:=hl r hrm
  rcases hm with hm|hm
  ·
   have h3:r.fst∈row.take k:=by
    obtain ⟨j,hj⟩:=List.mem_iff_getElem?.1 hm
    rw [List.getElem?_take] at hj
    split at hj
    next hjk=>
     have h4:=hr.qT j _ hj r hrm rfl
     exact (List.take_subset_take_left row (by omega)) h4
    next=>cases hj
   rw [F2 hi.1 hq.1 hlen,if_neg (dx _ h3).2,F2 hi.1 hq.2.1 hlen,if_neg (dx _ hm).2]
   exact h.ord r hrm hm
  ·
   have h3:=hr.qT k i hk r hrm hm
   rw [F2 hi.1 hq.1 hlen,if_neg (dx _ h3).2,F2 hi.1 hq.2.1 hlen,if_pos hm]
   have:=PI (Ks:=Ks) (i:=i) (fr:=fr) hrm hm
   omega
theorem QL.nil {c:BB} {l:List BG} {t row:List Int} {fr:Int} {n:Nat} (ho:c.own=0):QL c l t row fr n 0 (List.replicate n 0) [] []:=
 ⟨List.length_replicate,rfl,rfl,fun x hx=>by rw [List.eq_of_mem_replicate hx];omega,fun i h=>by simp at h,fun r _ h=>by simp at h,dS ho⟩
theorem QL.run {c:BB} {l:List BG} {t row done:List Int} {fr:Int} {n:Nat} (hr:MU (n:Int) l row done) (hl:∀r∈l,0≤r.fst∧0≤r.thn∧r.fst≠r.thn) (hn:n≤24) (ho:c.own=0) (ht:∀i:Int,0≤i→i<(n:Int)→c.has (Un t i)=true):∀(k:Nat) {d b y:List Int},k≤row.length→MW c l t fr n (row.take k)=some (d,b,y)→QL c l t row fr n k d b y
 |0,d,b,y,_,h=>by
  have h:some (List.replicate n 0,([]:List Int),([]:List Int))=some (d,b,y):=h
  cases h
  exact QL.nil ho
 |k+1,d,b,y,hk,h=>by
  obtain ⟨i,hi⟩:=at_ (l:=row) (k:=k) (by omega)
  have dx:=hr.O_ i (List.mem_of_getElem? hi)
  rw [MX hi] at h
  cases hs:MW c l t fr n (row.take k) with
  |none=>rw [hs] at h;cases h
  |some p=>
   obtain ⟨d1,b1,y1⟩:=p
   have ih:=QL.run hr hl hn ho ht k (by omega) hs
   rw [hs] at h
   simp only [Js] at h
   cases he:c.early b1 y1 (Un t i) (FO l d1 i fr) with
   |none=>rw [he] at h;cases h
   |some x=>
    rw [he] at h
    cases h
    exact ih.next hr hi hl hn (ht i dx.1 dx.2) he
theorem MU.all {n:Nat} {l:List BG} {row done:List Int} (hr:MU (n:Int) l row done) (hlen:row.length=n):row.Perm ((List.range n).map fun i:Nat=>(i:Int)):=by
 have hnd:((List.range n).map fun i:Nat=>(i:Int)).Nodup:=by
  refine List.Pairwise.map _ (fun a b hab=> ?_) (List.nodup_range (n:=n))
  intro e;apply hab;omega
 have hsub:∀x∈row,x∈(List.range n).map fun i:Nat=>(i:Int):=fun x hx=>by
  have:=hr.O_ x hx
  exact List.mem_map.2 ⟨x.toNat,List.mem_range.2 (by omega),by omega⟩
 refine (List.perm_ext_iff_of_nodup hr.nd hnd).2 fun a=>⟨hsub a,fun ha=> ?_⟩
 refine Classical.byContradiction fun hna=> ?_
 have h1:=Jr (L:=a::row) (M:=(List.range n).map fun i:Nat=>(i:Int)) (List.nodup_cons.2 ⟨hna,hr.nd⟩) (fun x hx=>by
  rcases List.mem_cons.1 hx with rfl|hx
  · exact ha
  · exact hsub x hx)
 simp at h1;omega
end Go.Proofs.YtkobgkelhcigdaaGreatDoor
namespace Cp
open Go Go.RowKit Go.Great
section
variable {P:Program} {L:Lg P} {n:Fm} {fz:Nat} {E:Env} {M0:Av} {w0:World} {S:Nat→Prop} {rs:List Ao} {o:Oper} {g:Func} {M1:Av} {w1:World}
theorem kG {d j:Nat} {T:TypeId} {x:Operand} {ps:List Pr} (hg:o.guard=none) (hd:o.dst=some d) (hn:d<n) (ho:o.op= .box T x) (hx:VL E x (DR ps)):
  DI P M0 w0 S n j (SR.c Bp) ⟨d,EO T ps⟩ o E (Cp.ex fun b=>ptr b 0):=by
 refine ⟨hg,fun M w a rs NL he hI hj=> ?_⟩
 obtain ⟨h0,h1⟩:=hx.ev (o:=o) he (by simp [ho,Op.operands])
 have hw:(a.eval x).cells.toList.toArray=(a.eval x).cells:=by simp
 have hrun:(execOp a.eval o).run P w= .ok (.value (.pointer (some ⟨w.heap.size,0,none⟩))) (w.alloc (.cells (a.eval x).cells.toList.toArray T)):=by simp [execOp,ho,Instr.box,newVar,newRow]
 rw [hrun]
 have hb:Below w.heap.size w (w.alloc (.cells (a.eval x).cells.toList.toArray T)):=(Below.refl _ _).alloc (Nat.le_refl _) _
 have h2:=Ext.below (M:=M) hb
 have Ej:Ext M w (fun b o=>M b o∨b=w.heap.size) (w.alloc (.cells (a.eval x).cells.toList.toArray T)):=by
  refine ⟨h2.size,fun a v hc hm=>⟨fun hx=> ?_,(h2.keep a v hc hm).2⟩,fun b o ho hp hm=>⟨fun hx=> ?_,(h2.obj b o ho hp hm).2⟩⟩
  ·
   rcases hx with hx|hx
   · exact hm hx
   · have:=EG hc;omega
  ·
   rcases hx with hx|hx
   · exact hm hx
   · subst hx;simp at ho
 have hs1:(w.alloc (.cells (a.eval x).cells.toList.toArray T)).heap.size=w.heap.size+1:=by simp
 have hat:(SR.at_ (a.put o.dst (.pointer (some ⟨w.heap.size,0,none⟩))) ⟨d,EO T ps⟩)=AB true w.heap.size T ps:=by unfold SR.at_ Slot.val;dsimp only;rw [hd,Ba (by rw [NL];exact hn)];rfl
 refine ⟨fun b o=>M b o∨b=w.heap.size,⟨_,rfl⟩,Ej,?_⟩
 rw [hat]
 refine hI.replace hj Ej hb.os hb.tape hb.output (fun k hk _=>hb.block k hk) rfl (fun b o hm _=> .inl hm) (fun b o hx=> ?_) ?_ rfl (fun b hbk=> ?_)
 ·
  rcases hx with hx|hx
  · have:=hI.bd _ _ hx;omega
  · omega
 · refine ⟨fun o=> .inr rfl,(a.eval x).cells.toList,heap_alloc_new w _,h0.st Ej,h1⟩
 ·
  have Ee:some w.heap.size=some b:=hbk
  injection Ee with e1
  subst e1
  exact ⟨by rw [hs1];omega,.inr (Nat.le_refl _)⟩
end
section
variable {P:Program} {L:Lg P} {n:Fm} {fz:Nat} {E:Env} {M0:Av} {w0:World} {S:Nat→Prop} {rs:List Ao}
end
end Cp
namespace Cp
open Go Go.RowKit
abbrev DQ (ρ:Option Nat):Fence:={ Fence.wide with round:=ρ }
section
variable {P:Program} {ρ:Option Nat}
def KE (o:Oper):Bool:=match o.op with
 | .defer _=>false
 |_=>true
theorem Xc {o:Oper} {a:Act} {w:World} {K K':Act→World→Prop} {Q:Exit→Act→World→Prop} (hc:KE o=true) (hK:∀a w,K a w→K' a w) (h:o.wp P a w K Q):o.wpIn (DQ ρ) 0 P a w K' Q:=by
 refine ⟨fun _ _=>trivial,?_⟩
 rw [Oper.semAt_eq _ _ _ (fun c hh=>by unfold KE at hc;rw [hh] at hc;cases hc)]
 unfold Oper.wp at h
 generalize (execOp a.eval o).run P w=r at h ⊢
 cases r with
 |halt x w'=>cases x<;>first|exact h|exact h.elim
 |ok x w'=>
  cases x<;>first|exact h.elim|skip
  case value v=>exact hK _ _ h
  case skip=>exact hK _ _ h
  case defer d=>exact hK _ _ h
  case enter f args=>exact ⟨fun hh=>(by cases hh),callsIn_wide.2 (h.mono fun e w'' hr=>by cases e<;>first|exact hK _ _ hr|exact hr)⟩
  case row row args=>
   refine ⟨fun hh=>(by cases hh),fun c cs _=> ?_⟩
   obtain ⟨v,w2,h1,h2⟩:=h c cs
   exact ⟨v,w2,hK _ _ h1,stepsIn_wide.2 h2⟩
theorem dz {ops:Array Oper} {Q:Exit→Act→World→Prop} (hc:∀(i:Nat) o,ops[i]? =some o→KE o=true):∀(l:List Nat) (a:Act) (w:World),wpS P ops Q l a w→wpOpsIn (DQ ρ) 0 P ops Q l a w
 |[],_,_,h=>h
 |i::l,a,w,h=>by
  have ih:=dz (Q:=Q) hc l
  unfold wpS at h
  unfold wpOpsIn
  cases ho:ops[i]? with
  |none=>rw [ho] at h;exact ih a w h
  |some o=>
   rw [ho] at h
   dsimp only at h ⊢
   split
   next hw=>rw [if_pos hw] at h;exact Xc (hc i o ho) ih h
   next hw=>rw [if_neg hw] at h;exact ⟨fun _ _=>trivial,ih _ _ h⟩
theorem qW {ops:Array Oper} {Q:Exit→Act→World→Prop} (hc:∀(i:Nat) o,ops[i]? =some o→KE o=true) {i:Nat} {K K':Act→World→Prop} {a:Act} {w:World} (hK:∀a w,K a w→K' a w) (h:N9 P ops Q i K a w):wpOpIn (DQ ρ) 0 P ops Q i K' a w:=by
 unfold N9 at h
 unfold wpOpIn
 cases ho:ops[i]? with
 |none=>rw [ho] at h;exact hK _ _ h
 |some o=>
  rw [ho] at h
  dsimp only at h ⊢
  split
  next hw=>rw [if_pos hw] at h;exact Xc (hc i o ho) hK h
  next hw=>rw [if_neg hw] at h;exact ⟨fun _ _=>trivial,hK _ _ h⟩
theorem d_ {ops:Array Oper} {md:Region.Mode} {Q:Exit→Act→World→Prop} (hc:∀(i:Nat) o,ops[i]? =some o→KE o=true):∀(fuel:Nat) (listed:Array Bool) (a:Act) (w:World),KK P md ops Q fuel listed a w→wpAnyIn (DQ ρ) 0 P md ops Q fuel listed a w
 |0,_,_,_,h=>h
 |fuel+1,_,_,_,h=>⟨h.1,fun i hi=>qW hc (d_ hc fuel _) (h.2 i hi)⟩
theorem kH {l:List Oper} (hc:calm l=true):∀(i:Nat) o,l.toArray[i]? =some o→KE o=true:=fun i o ho=>by
 have hm:o∈l:=List.mem_of_getElem? (by simpa using ho)
 have:=List.all_eq_true.1 hc o hm
 unfold KE;revert this;cases o.op<;>simp
theorem kI {c:Code} {Q:Exit→Act→World→Prop} {α:Type} (μ:α→Nat) (R:α→Act→World→Prop) (round:∀x a w,R x a w→c.wpIn (DQ ρ) 0 P (Exit.then (fun a' w'=>∃y,μ y<μ x∧R y a' w') Q) a w) (x:α) (a:Act) (w:World) (hx:R x a w):(Code.loop c).wpIn (DQ ρ) 0 P Q a w:=by
 intro b k cs hro hb hr
 have key:∀m x a w,μ x=m→R x a w→∃e a' w',Q e a' w'∧ArrivesIn (Machine.fenced P (DQ ρ)) P (lone (b.atR a (.code c:: .inLoop c::k)) cs w) b k cs e a' w':=by
  intro m
  induction m using Nat.strongRecOn with
  |_ m ih=>
   intro x a w hm hx
   obtain ⟨e,a₁,w₁,hq,HK⟩:=round x a w hx b (.inLoop c::k) cs hro hb hr
   cases e with
   |normal=>
    obtain ⟨y,hlt,hy⟩:=hq
    obtain ⟨e₂,a₂,w₂,Z8,RY⟩:=ih (μ y) (hm ▸ hlt) y a₁ w₁ rfl hy
    exact ⟨e₂,a₂,w₂,Z8,.of_steps (StepsIn.trans HK (.one (fenced_calm hb hr rfl) stepR_inLoop)) RY⟩
   |exit id=>exact ⟨_,a₁,w₁,hq,.pass (x:= .inLoop c) rfl (fun _ _=> .inl (by simp)) HK⟩
   |goto l=>exact ⟨_,a₁,w₁,hq,.pass (x:= .inLoop c) rfl (fun _ _=> .inl (by simp)) HK⟩
   |ret=>exact ⟨_,a₁,w₁,hq,.pass (x:= .inLoop c) rfl (fun _ _=> .inl (by simp)) HK⟩
   |panic ch=>exact ⟨_,a₁,w₁,hq,.pass (x:= .inLoop c) rfl (fun _ _=> .inl (by simp)) HK⟩
   |outgrown=>exact ⟨_,a₁,w₁,hq,.pass (x:= .inLoop c) rfl (fun _ _=> .inl (by simp)) HK⟩
 obtain ⟨e,a',w',hq,HK⟩:=key _ x a w rfl hx
 exact ⟨e,a',w',hq,.of_steps (.one (fenced_calm hb hr rfl) stepR_loop) HK⟩
@[reducible] def Xd (P:Program) (ρ:Option Nat):Lg P where
 wp c Q a w:=c.wpIn (DQ ρ) 0 P Q a w
 mono hq h:=wpIn_mono h hq
 skip h:=wpIn_skip h
 ret h:=wpIn_ret h
 exit h:=wpIn_exit h
 seq h:=wpIn_seq h
 block h:=wpIn_block h
 cond hc ht hf:=wpIn_cond_split hc ht hf
 loop:=kI
 region {id l Q a w} hc h:=wpIn_region (dz (fun i o ho=>by
  have hm:o∈l:=List.mem_of_getElem? (by simpa using ho)
  have:=List.all_eq_true.1 hc o hm
  unfold KE;revert this;cases o.op<;>simp) _ _ _ (by simpa [List.range_eq_range'] using h))
 draw hc hm h:=wpIn_region_any hm (d_ (kH hc) _ _ _ _ h)
end
end Cp
namespace Cp
open Go Go.RowKit Go.Great
section
variable {P:Program} {L:Lg P} {n:Fm} {fz:Nat} {E:Env} {M0:Av} {w0:World} {S:Nat→Prop} {rs:List Ao} {o:Oper}
end
end Cp
namespace Cp
open Go Go.RowKit
theorem CL.MB {M:Av} {w:World} {E:Env} {o:Oper} {a:Act} (s:Nat) {α:Type} {f:α→Pr} (hs:E.lookup s=some (Cp.ex f)) (hm:s∈looks o) (he:CL M w E o a):∃x,CL M w ((s,f x)::E) o a:=by
 obtain ⟨x,hx⟩:=he s _ hm hs
 refine ⟨x,fun t q ht hq=> ?_⟩
 simp only [List.lookup] at hq
 by_cases hts:t=s
 · subst hts;simp at hq;subst hq;exact hx
 · rw [show (t==s)=false by simpa using hts] at hq;exact he t q ht hq
theorem CL.opf {M:Av} {w:World} {E:Env} {o:Oper} {a:Act} {φ:Prop} {p:Pr} (s:Nat) (hs:E.lookup s=some (Cp.fact φ p)) (hm:s∈looks o) (he:CL M w E o a):φ∧CL M w ((s,p)::E) o a:=by
 obtain ⟨hφ,hx⟩:=he s _ hm hs
 refine ⟨hφ,fun t q ht hq=> ?_⟩
 simp only [List.lookup] at hq
 by_cases hts:t=s
 · subst hts;simp at hq;subst hq;exact hx
 · rw [show (t==s)=false by simpa using hts] at hq;exact he t q ht hq
section
variable {P:Program} {M0:Av} {w0:World} {S:Nat→Prop} {n:Fm} {j:Nat} {R R':SR} {E:Env} {o:Oper}
theorem DI.MB {p:Pr} (s:Nat) {α:Type} {f:α→Pr} (hg:o.guard=none) (hs:E.lookup s=some (Cp.ex f)) (hm:s∈looks o) (h:∀x,DI P M0 w0 S n j R R' o ((s,f x)::E) p):DI P M0 w0 S n j R R' o E p:=
 ⟨hg,fun M w a rs hsz he hI hj=>by obtain ⟨x,hx⟩:=he.MB s hs hm;exact (h x).2 M w a rs hsz hx hI hj⟩
theorem DI.opf {p q:Pr} {φ:Prop} (s:Nat) (hg:o.guard=none) (hs:E.lookup s=some (Cp.fact φ q)) (hm:s∈looks o) (h:φ→DI P M0 w0 S n j R R' o ((s,q)::E) p):DI P M0 w0 S n j R R' o E p:=
 ⟨hg,fun M w a rs hsz he hI hj=>by obtain ⟨hφ,hx⟩:=he.opf s hs hm;exact (h hφ).2 M w a rs hsz hx hI hj⟩
theorem DI.le {p q:Pr} (h:DI P M0 w0 S n j R R' o E p) (hl:Pr.le p q):DI P M0 w0 S n j R R' o E q:=by
 refine ⟨h.1,fun M w a rs hsz he hI hj=> ?_⟩
 have this:=h.2 M w a rs hsz he hI hj
 generalize (execOp a.eval o).run P w=r at this ⊢
 unfold Dn at this
 split at this
 · obtain ⟨M',h1,h2,h3⟩:=this;exact ⟨M',hl _ _ _ h1,h2,h3⟩
 · obtain ⟨M',h1,h2,h3⟩:=this;exact ⟨M',hl _ _ _ h1,h2,h3⟩
 · exact Calls.mono this fun _ _ ⟨v,M',h0,h1,h2,h3⟩=>⟨v,M',h0,hl _ _ _ h1,h2,h3⟩
 · exact this.elim
end
theorem eA {z:Array Value} {n:Nat} {u:Value} (h0:0<z.size) (h:u∈(madeCells z n).toList):u∈z.toList:=by
 simp only [madeCells,Array.toList_map,List.mem_map] at h
 obtain ⟨k,_,rfl⟩:=h
 have hk:k % z.size<z.size:=Nat.mod_lt _ h0
 rw [getElem!_pos z _ hk]
 exact Array.getElem_mem_toList hk
theorem kJ {z:Array Value} {m sz i j:Nat} {u:Value} (hz:z.size=sz) (hi:i<m) (hu:z.toList[j]? =some u):(madeCells z (m*sz)).toList[i*sz+j]? =some u:=by
 have hjl:j<sz:=by
  rcases Nat.lt_or_ge j sz with h|h
  · exact h
  · rw [List.getElem?_eq_none (by simp;omega)] at hu;cases hu
 have hlt:i*sz+j<m*sz:=by
  have:(i+1)*sz≤m*sz:=Nat.mul_le_mul_right sz hi
  rw [Nat.add_mul] at this;omega
 have hmod:(i*sz+j) % sz=j:=by rw [Nat.mul_comm,Nat.mul_add_mod,Nat.mod_eq_of_lt hjl]
 have hjz:j<z.size:=by omega
 rw [Array.getElem?_toList] at hu ⊢
 rw [Array.getElem?_eq_getElem hjz] at hu
 simp only [madeCells]
 rw [Array.getElem?_map,Array.getElem?_range,if_pos hlt,Option.map_some,hz,hmod,getElem!_pos z _ hjz,hu]
theorem PJ {P:Program} {I:CU} {E:Env} {o:Oper} {t e:TypeId} {x y:Operand} {sz YQ m:Nat} {zs:List Value} (ho:o.op= .makeSlice t x y) (ht:P.underlying t=some (.slice e)) (hz:Ay P e=some sz) (hby:Bk P e=some YQ) (EM:BL P e=some zs) (hzl:zs.length=sz) (hsz:0<sz)
  (h1:zs.all (·.oneCell')=true) (hx:VL E x (int ((m:Nat):Int))) (hy:VL E y (int ((m:Nat):Int))) (hm:m≤maxLen) (hb:YQ*m≤281474976710656):Aa P I o E (full sz (List.replicate m (zs.map is))):=
 Aa.val fun M w a he hI=>by
  have hx1:a.eval x= .int .i64 m:=hx.ev he (by simp [ho,Op.operands])
  have hy1:a.eval y= .int .i64 m:=hy.ev he (by simp [ho,Op.operands])
  unfold Ay at hz
  unfold Bk at hby
  unfold BL at EM
  cases hi:P.info? e with
  |none=>rw [hi] at hz;cases hz
  |some i=>
   rw [hi] at hz hby EM
   simp only [Option.map_some,Option.some.injEq,Option.map_eq_some_iff] at hz hby EM
   obtain ⟨z,Wl,EM⟩:=EM
   have Zs:z.cells.size=sz:=by rw [←hzl,←EM];simp
   have hrun:=run_make (P:=P) w t e i z ht hi Wl .i64 .i64 (m:Int) (m:Int) (by omega) (Int.le_refl _) (by rw [hby];have h0:((YQ*m:Nat):Int)≤281474976710656:=Int.ofNat_le.2 hb;rw [←Int.natCast_mul];exact h0) (by unfold maxLen at hm;omega)
   rw [hz] at hrun
   simp only [Int.toNat_natCast] at hrun
   have Um:Below w.heap.size w (w.alloc (.cells (madeCells z.cells (m*sz)) e)):=(Below.refl _ _).alloc (Nat.le_refl _) _
   have hrl:(List.replicate m (zs.map is)).length=m:=List.length_replicate
   have hfl:Flat M w sz (List.replicate m (zs.map is)) (madeCells z.cells (m*sz)).toList:=by
    refine ⟨by rw [hrl];simp [size_madeCells],fun u hu=>List.all_eq_true.1 h1 _ (by rw [←EM];exact eA (by omega) hu),fun k row hr=> ?_⟩
    have hk:k<m:=by have:=BD hr;omega
    obtain rfl:row=zs.map is:=List.eq_of_mem_replicate (List.mem_of_getElem? hr)
    refine ⟨by simp [hzl],fun j p hp=> ?_⟩
    rw [List.getElem?_map,Option.map_eq_some_iff] at hp
    obtain ⟨u,hu,rfl⟩:=hp
    exact ⟨u,kJ Zs hk (by rw [EM];exact hu),rfl⟩
   refine ⟨.slice (some ⟨w.heap.size,0,none⟩) m m,w.alloc (.cells (madeCells z.cells (m*sz)) e),by simp [execOp,ho,hx1,hy1,hrun],?_,Um⟩
   have gT:=Ek (hfl.st (Ext.below Um)) (c:=m) (Nat.le_of_eq hrl) hm (g:=w.heap.size) (fun k u hk=>⟨by rw [OD];simpa using hk,fun hx=>by have:=I.bd _ _ hI _ _ hx;omega⟩)
   rw [hrl] at gT
   exact ⟨gT,_,by rw [hrl]⟩
section
variable {P:Program} {L:Lg P} {n:Fm} {E:Env} {M0:Av} {w0:World} {S:Nat→Prop} {rs:List Ao}
theorem Fin.Mx {Q:Exit→Act→World→Prop} {x:Exit} (i j k:Nat) {sz b:Nat} {new:Bool} {T e:TypeId} {ps:List Pr} {rows:List (List Pr)} {v:Value} {p:Pr} (hi:rs[i]? =some (AB new b T ps)) (hj:rs[j]? =some (CV e sz rows v)) (hij:j≠i) (hk:ps[k]? =some p) (hp:Pr.le p (is v)) (hl:∀r∈rows,r.length=sz)
  (kk:Fin n E (Hp M0 w0 S ((rs.set j Bp).set i (AB new b T (ps.set k (slice sz rows))))) Q x):Fin n E (Hp M0 w0 S rs) Q x:=Fin.conv (fun _ _ hs=>hs.Mx hi hj hij hk hp hl) kk
end
section
variable {P:Program} {M0:Av} {w0:World} {S:Nat→Prop} {rs:List Ao}
def A8 (b:Nat) (x:Obj):Ao where
 blk:=some b
 new:=true
 h M w:=(∀o,M b o)∧w.heap[b]? =some x
 st M w M' w' _ hk h:=by
  obtain ⟨h1,h2⟩:=hk b rfl
  exact ⟨fun o=>h2 o (h.1 o),h1.trans h.2⟩
theorem At.eB {M:Av} {w:World} (h:At M0 w0 S rs M w) (x:Obj):
  At M0 w0 S (A8 w.heap.size x::rs) (fun b o=>M b o∨b=w.heap.size) (w.alloc x)∧Ext M w (fun b o=>M b o∨b=w.heap.size) (w.alloc x):=by
 have hb:Below w.heap.size w (w.alloc x):=(Below.refl _ _).alloc (Nat.le_refl _) _
 have hsz:(w.alloc x).heap.size=w.heap.size+1:=by simp
 have he:Ext M w (fun b o=>M b o∨b=w.heap.size) (w.alloc x):=by
  have h2:=Ext.below (M:=M) hb
  refine ⟨h2.size,fun a v hc hm=>⟨fun hx=> ?_,(h2.keep a v hc hm).2⟩,fun b o ho hp hm=>⟨fun hx=> ?_,(h2.obj b o ho hp hm).2⟩⟩
  ·
   rcases hx with hx|hx
   · exact hm hx
   · have:=EG hc;omega
  ·
   rcases hx with hx|hx
   · exact hm hx
   · subst hx;simp at ho
 have hI:=(Hp M0 w0 S rs).st _ _ _ hb h
 refine ⟨⟨hI.m0,fun b o hm=> .inl (hI.m b o hm),hI.os,hI.tape,hI.output,hI.size,hI.block,fun b o hm=> ?_,fun r hr=> ?_,?_⟩,he⟩
 ·
  rcases hm with hm|hm
  · exact hI.bd b o hm
  · omega
 ·
  rcases List.mem_cons.1 hr with rfl|hr
  ·
   refine ⟨⟨fun o=> .inr rfl,heap_alloc_new w _⟩,fun b hbk=> ?_⟩
   simp only [A8,Option.some.injEq] at hbk
   subst hbk
   exact ⟨by omega,by simp [A8];exact h.size⟩
  ·
   obtain ⟨h3,h4⟩:=h.hold r hr
   exact ⟨r.st _ _ _ _ he (fun b hbk=>⟨hb.block b (h4 b hbk).1,fun _ x=> .inl x⟩) h3,fun b hbk=>⟨by have:=(h4 b hbk).1;omega,(h4 b hbk).2⟩⟩
 ·
  refine List.pairwise_cons.2 ⟨fun r hr b P3 Sx=> ?_,hI.nd⟩
  simp only [A8,Option.some.injEq] at P3
  subst P3
  have:=((h.hold r hr).2 _ Sx).1
  omega
theorem At.putObj {M:Av} {w:World} {j b:Nat} {x:Obj} (y:Obj) (h:At M0 w0 S rs M w) (hj:rs[j]? =some (A8 b x)):At M0 w0 S (rs.set j (A8 b y)) M (w.putObj b y)∧Ext M w M (w.putObj b y):=by
 obtain ⟨⟨hM,hx⟩,hbk⟩:=h.hold _ (List.mem_of_getElem? hj)
 have hlt:b<w.heap.size:=(hbk b rfl).1
 have hsz:(w.putObj b y).heap.size=w.heap.size:=by simp [World.putObj]
 have he:Ext M w M (w.putObj b y):=by
  refine ⟨by omega,fun a v hc hm=>⟨hm,?_⟩,fun k o ho _ hm=>⟨hm,?_⟩⟩
  ·
   have hne:a.block≠b:=fun e=>hm (e ▸ hM _)
   rw [World.cell?_of_block (w:=w) (World.putObj_heap_other hne)];exact hc
  ·
   have hne:k≠b:=fun e=>hm (e ▸ hM _)
   exact (World.putObj_heap_other hne).trans ho
 refine ⟨h.replace hj he rfl rfl rfl (fun k _ hne=>World.putObj_heap_other (fun e=>hne (by rw [e];rfl))) rfl (fun _ _ hm _=>hm) (fun b' o hm=>by have:=h.bd b' o hm;omega) ⟨hM,World.putObj_heap_same hlt⟩ rfl (fun b' hb'=>⟨?_,.inl hb'⟩),he⟩
 simp only [A8,Option.some.injEq] at hb'
 subst hb';omega
end
def Lj (P:Program) (gf:Nat) (lb:Array Value) {α:Type} (enc:α→Value) (xs:List α) (own:List α→List Ao):Prop:=
 ∀M0 w0 S (l:Nat) (β:Type) (R Rx:List α→β→List Ao),
  (∀pre x d M w,(pre++[x])<+:xs→At M0 w0 S (own (pre++[x])++R pre d) M w→YieldAt (DQ none) 0 P l #[enc x] w fun e w'=>∃M' d',Ext M w M' w'∧
   ((e= .returned (.bool true)∧At M0 w0 S (own (pre++[x])++R (pre++[x]) d') M' w')∨(e= .returned (.bool false)∧At M0 w0 S (own (pre++[x])++Rx (pre++[x]) d') M' w')))→
  ∀d M w,At M0 w0 S (own []++R [] d) M w→CallsIn (DQ none) 0 P gf (#[.func (.yield l) #[] #[]]++lb) w fun e w'=>(∃v,e= .returned v)∧∃M' d',Ext M w M' w'∧
   (At M0 w0 S (own xs++R xs d') M' w'∨∃pre,pre<+:xs∧At M0 w0 S (own pre++Rx pre d') M' w')
def IJ (M0:Av) (w0:World) (S:Nat→Prop) {β:Type} (rs:β→List Ao) (rx:Code→β→List Ao):Exit→Act→World→Prop
 | .normal,_,w=>∃d M,At M0 w0 S (rs d) M w
 | .ret,_,w=>∃d M,At M0 w0 S (rx .ret d) M w
 | .exit id,_,w=>∃d M,At M0 w0 S (rx (.exit id) d) M w
 | .goto t,_,w=>∃d M,At M0 w0 S (rx (.goto t) d) M w
 | .panic _,_,_=>False
 | .outgrown,_,_=>False
section
variable {P:Program} {M0:Av} {w0:World} {S:Nat→Prop} {rs:List Ao}
theorem Tr.range {Q:Exit→Act→World→Prop} {n:Fm} {E:Env} {α β:Type} {p gf:Nat} {g:Operand} {lb:Array Value} {enc:α→Value} {xs:List α} {own:List α→List Ao} {assign body:Code} (E':α→Env) (R:List α→β→List Ao) (Rx:Code→List α→β→List Ao) (d0:β)
  (kK:Lj P gf lb enc xs own) (eg:∀args w,(callFunc gf args).run P w= .ok (.enter gf args) w) (hg:VL E g (is (.func (.func gf) #[] lb))) (NS:rs.Perm (own []++R [] d0))
  (hassign:∀l D rec M1 w1 pre x d,(pre++[x])<+:xs→∀a,a.tmps.size=n.sz→E4 M1 w1 E a→∀M w,At M0 w0 S (own (pre++[x])++(A8 l rec::A8 D (.deferred (some []))::Aj M1 w1::R pre d)) M w→
   assign.wpIn (DQ (some l)) 0 P (Exit.then (St ⟨n.sz,[]⟩ (E' x) (Hp M0 w0 S (own (pre++[x])++(A8 l rec::A8 D (.deferred (some []))::Aj M1 w1::R pre d)))) (fun _ _ _=>False)) { tmps:=a.tmps.setIfInBounds p (enc x),defers:=[] } w)
  (hbody : ∀ l D rec M1 w1 pre x d, (pre ++ [x]) <+: xs → Tr (Xd P (some l)) ⟨n.sz, []⟩ (E' x) (Hp M0 w0 S (own (pre ++ [x]) ++ (A8 l rec :: A8 D (.deferred (some [])) :: Aj M1 w1 :: R pre d))) body
   (IJ M0 w0 S (fun d=>own (pre++[x])++(A8 l rec::A8 D (.deferred (some []))::Aj M1 w1::R (pre++[x]) d)) (fun c d=>own (pre++[x])++(A8 l rec::A8 D (.deferred (some []))::Aj M1 w1::Rx c (pre++[x]) d))))
  (hdone:∀l D rec M1 w1 d,Fin ⟨n.sz,{ target:= .collected D,args:= #[] }::n.df⟩ E (Hp M0 w0 S (own xs++(A8 l rec::A8 D (.deferred (some []))::Aj M1 w1::R xs d))) Q .normal)
  (hstop:∀l D rec M1 w1 c pre d,pre<+:xs→Tr (Xd P none) ⟨n.sz,{ target:= .collected D,args:= #[] }::n.df⟩ E (Hp M0 w0 S (own pre++(A8 l rec::A8 D (.deferred (some []))::Aj M1 w1::Rx c pre d))) c Q):
  Tr (Xd P none) n E (Hp M0 w0 S rs) (.rangeFunc g #[p] assign body) Q:=by
 intro a w ⟨M,hsz,hdf,hE,hI⟩
 have hI:At M0 w0 S rs M w:=hI
 refine wpIn_rangeFunc ?_
 intro fn hfn
 obtain ⟨rec,Vs⟩:∃rec:LoopState→Option Code→Loop,rec=fun st pe=>{ state:=st,pending:=pe,fn,tmps:=a.tmps,params:= #[p],assign,body,defers:=w.heap.size }:=⟨_,rfl⟩
 -- what is held ahead of the call
 have hI2:=At.perm NS hI
 obtain ⟨hI3,e3⟩:=hI2.eB (.deferred (some []))
 obtain ⟨nA,e4⟩:=hI3.eB (.loop (rec .ready none))
 obtain ⟨W1,hW1⟩:∃W1,(w.alloc (.deferred (some []))).alloc (.loop (rec .ready none))=W1:=⟨_,rfl⟩
 have hs1:(w.alloc (.deferred (some []))).heap.size=w.heap.size+1:=by simp
 rw [hW1,hs1] at nA e4
 obtain ⟨M1,hM1⟩:∃M1:Av,M1=(fun b o=>(M b o∨b=w.heap.size)∨b=w.heap.size+1):=⟨_,rfl⟩
 rw [←hM1] at nA e4
 have e1:Ext M w M1 W1:=e3.trans e4
 obtain ⟨l,hl⟩:∃l,l=w.heap.size+1:=⟨_,rfl⟩
 obtain ⟨D,hD⟩:∃D,D=w.heap.size:=⟨_,rfl⟩
 rw [←hl] at nA
 rw [←hD] at nA
 have hE1:E4 M1 W1 E a:=fun s q hq=>q.st _ _ _ _ _ e1 (hE s q hq)
 have hI5:At M0 w0 S (own []++(A8 l (.loop (rec .ready none))::A8 D (.deferred (some []))::Aj M1 W1::R [] d0)) M1 W1:=by
  refine At.perm ?_ (At.Gi nA (r:=Aj M1 W1) rfl (Ext.refl _ _))
  refine List.Perm.trans (l₂:=(A8 l (.loop (rec .ready none))::A8 D (.deferred (some []))::Aj M1 W1::R [] d0)++own []) ?_ List.perm_append_comm
  refine (List.Perm.swap _ _ _).trans (List.Perm.cons _ ((List.Perm.swap _ _ _).trans (List.Perm.cons _ (List.Perm.cons _ List.perm_append_comm))))
 have ix:∀(os:List Ao) (r:Ao) (tl:List Ao),(os++r::tl)[os.length]? =some r:=fun os r tl=>by simp
 have sx:∀(os:List Ao) (r r':Ao) (tl:List Ao),(os++r::tl).set os.length r'=os++r'::tl:=fun os r r' tl=>by simp
 have ix2:∀(os:List Ao) (r1 r2 r:Ao) (tl:List Ao),(os++r1::r2::r::tl)[os.length+2]? =some r:=fun os r1 r2 r tl=>by
  rw [List.getElem?_append_right (by omega)];simp
 have sx2:∀(os:List Ao) (r1 r2 r r':Ao) (tl:List Ao),(os++r1::r2::r::tl).set (os.length+2) r'=os++r1::r2::r'::tl:=fun os r1 r2 r r' tl=>by
  rw [List.set_append_right _ _ (by omega)];simp
 have AAr:=hdone;have AAs:=hstop
 refine ⟨l,[{ target:= .collected D,args:= #[] }],W1,{ target:= .fn (.func gf) lb,args:= #[.func (.yield l) #[] #[]] },W1,gf,#[.func (.yield l) #[] #[]]++lb,W1,?_,?_,fun _ _=>trivial,?_,fun h=>(by cases h),?_⟩
 · rw [hl,hD,←hW1,Vs];exact run_enterLoop_outer _ _ _ _ _
 ·
  have hv:a.eval g= .func (.func gf) #[] lb:=by
   obtain ⟨q,h1,h2⟩:=hg
   exact h2 _ _ _ (C6.eval hE h1)
  simp only [resolve,hv]
  simp [go_sem]
 · simp [invoke,go_sem,eg]
 ·
  refine (kK M0 w0 S l (Code × β) (fun pre cd => A8 l (.loop (rec .ready none)) :: A8 D (.deferred (some [])) :: Aj M1 W1 :: R pre cd.2)
   (fun pre cd=>A8 l (.loop (rec .done (some cd.1)))::A8 D (.deferred (some []))::Aj M1 W1::Rx cd.1 pre cd.2) ?_ (.skip,d0) M1 W1 hI5).mono ?_
  ·
   rintro pre x ⟨c0,d⟩ M2 W2 hpre hI
   have mR:W2.heap[l]? =some (.loop (rec .ready none)):=(hI.hold (A8 l (.loop (rec .ready none))) (by simp)).1.2
   have hx2:Ext M1 W1 M2 W2:=(hI.hold (Aj M1 W1) (by simp)).1
   have hy:=run_yield (P:=P) (args:= #[enc x]) mR (by rw [Vs];rfl)
   have Sz:At M0 w0 S (own (pre++[x])++(A8 l (.loop (rec .ready none))::A8 D (.deferred (some []))::Aj M2 W2::R pre d)) M2 W2:=by
    have:=hI.Cl (r':=Aj M2 W2) (ix2 _ _ _ _ _) rfl rfl (Ext.refl _ _)
    rwa [sx2] at this
   have kL:(Instr.yield l #[enc x]).run P W2= .ok (.round l fn (a.tmps.setIfInBounds p (enc x)) assign body) W2:=by
    rw [hy,Vs];simp
   have ha:=hassign l D _ M2 W2 pre x d hpre a hsz (fun s q hq=>q.st _ _ _ _ _ hx2 (hE1 s q hq)) M2 W2 Sz
   refine ⟨fn,_,assign,body,kL,roundIn_of_wpIn (F:=DQ none) trivial (wpIn_mono (F:=(DQ none).inRound l) ha ?_)⟩
   intro e a3 W3 hq
   cases e with
   |normal=>
    obtain ⟨M3,hs3,hd3,hE3,hI3⟩:=hq
    have hI3:At M0 w0 S (own (pre++[x])++(A8 l (.loop (rec .ready none))::A8 D (.deferred (some []))::Aj M2 W2::R pre d)) M3 W3:=hI3
    have hl3:W3.heap[l]? =some (.loop (rec .ready none)):=(hI3.hold (A8 l (.loop (rec .ready none))) (by simp)).1.2
    obtain ⟨nA,e4⟩:=hI3.putObj (.loop { rec .ready none with state:= .busy }) (ix _ _ _)
    rw [sx] at nA
    refine ⟨_,run_beginRound hl3 (by rw [Vs]),?_⟩
    refine wpIn_mono (F:=(DQ none).inRound l) (hbody l D _ M2 W2 pre x d hpre a3 _ ⟨M3,hs3,hd3,fun s q hq=>q.st _ _ _ _ _ e4 (hE3 s q hq),nA⟩) ?_
    have fin:∀(jump:Option Code) (tl:List Ao) (W5:World) (M5:Av),At M0 w0 S (own (pre++[x])++(A8 l (.loop { rec .ready none with state:= .busy })::A8 D (.deferred (some []))::Aj M2 W2::tl)) M5 W5→
      ∃w6,(Instr.endRound l jump).run P W5= .ok (.bool jump.isNone) w6∧Ext M2 W2 M5 w6∧At M0 w0 S (own (pre++[x])++(A8 l (.loop (rec (if jump.isNone then .ready else .done) jump))::A8 D (.deferred (some []))::Aj M1 W1::tl)) M5 w6:=by
     intro jump tl W5 M5 h5
     have hl5:W5.heap[l]? =some (.loop { rec .ready none with state:= .busy }):=(h5.hold (A8 l (.loop { rec .ready none with state:= .busy })) (by simp)).1.2
     have hx5:Ext M2 W2 M5 W5:=(h5.hold (Aj M2 W2) (by simp)).1
     obtain ⟨h6,e6⟩:=h5.putObj (.loop { rec .ready none with state:=if jump.isNone then .ready else .done,pending:=jump }) (ix _ _ _)
     rw [sx] at h6
     have h7:=h6.Cl (r':=Aj M1 W1) (ix2 _ _ _ _ _) rfl rfl (hx2.trans (hx5.trans e6))
     rw [sx2] at h7
     refine ⟨_,run_endRound jump hl5,hx5.trans e6,?_⟩
     rw [Vs] at h7 ⊢
     exact h7
    intro e5 a5 W5 hp
    cases e5 with
    |normal=>
     obtain ⟨d5,M5,h5⟩:=hp
     obtain ⟨w6,g1,g2,g3⟩:=fin none _ _ _ h5
     exact ⟨_,_,g1,M5,(.skip,d5),g2,.inl ⟨rfl,g3⟩⟩
    |ret=>
     obtain ⟨d5,M5,h5⟩:=hp
     obtain ⟨w6,g1,g2,g3⟩:=fin (some .ret) _ _ _ h5
     exact ⟨_,_,g1,M5,(.ret,d5),g2,.inr ⟨rfl,g3⟩⟩
    |exit id=>
     obtain ⟨d5,M5,h5⟩:=hp
     obtain ⟨w6,g1,g2,g3⟩:=fin (some (.exit id)) _ _ _ h5
     exact ⟨_,_,g1,M5,(.exit id,d5),g2,.inr ⟨rfl,g3⟩⟩
    |goto t=>
     obtain ⟨d5,M5,h5⟩:=hp
     obtain ⟨w6,g1,g2,g3⟩:=fin (some (.goto t)) _ _ _ h5
     exact ⟨_,_,g1,M5,(.goto t,d5),g2,.inr ⟨rfl,g3⟩⟩
    |panic ch=>exact hp.elim
    |outgrown=>exact hp.elim
   |exit id=>exact hq.elim
   |goto t=>exact hq.elim
   |ret=>exact hq.elim
   |panic ch=>exact hq.elim
   |outgrown=>exact hq.elim
  ·
   rintro e W2 ⟨⟨v,rfl⟩,M2,⟨c2,d2⟩,hx2,h2⟩
   have hend:∀(os tl:List Ao) (st:LoopState) (pe:Option Code),st≠ .busy→At M0 w0 S (os++(A8 l (.loop (rec st pe))::A8 D (.deferred (some []))::Aj M1 W1::tl)) M2 W2→
     ∃w6,(Instr.endLoop l).run P W2= .ok pe w6∧Ext M2 W2 M2 w6∧At M0 w0 S (os++(A8 l (.loop { rec st pe with state:= .exhausted })::A8 D (.deferred (some []))::Aj M1 W1::tl)) M2 w6:=by
    intro os tl st pe hst h5
    have hl5:W2.heap[l]? =some (.loop (rec st pe)):=(h5.hold (A8 l (.loop (rec st pe))) (by simp)).1.2
    obtain ⟨h6,e6⟩:=h5.putObj (.loop { rec st pe with state:= .exhausted }) (ix _ _ _)
    rw [sx] at h6
    have:=run_endLoop (P:=P) hl5 (by rw [Vs];exact hst)
    refine ⟨_,?_,e6,h6⟩
    rw [this,Vs]
   rcases h2 with h2|⟨pre,hpre,h2⟩
   ·
    obtain ⟨w6,g1,g2,g3⟩:=hend _ _ _ _ (by simp) h2
    exact ⟨none,w6,g1,hdone l D _ M1 W1 d2 _ _ ⟨M2,hsz,by show _::a.defers=_;rw [hdf],fun s q hq=>q.st _ _ _ _ _ g2 (q.st _ _ _ _ _ hx2 (hE1 s q hq)),g3⟩⟩
   ·
    obtain ⟨w6,g1,g2,g3⟩:=hend _ _ _ _ (by simp) h2
    exact ⟨some c2,w6,g1,hstop l D _ M1 W1 c2 pre d2 hpre _ _ ⟨M2,hsz,by show _::a.defers=_;rw [hdf],fun s q hq=>q.st _ _ _ _ _ g2 (q.st _ _ _ _ _ hx2 (hE1 s q hq)),g3⟩⟩
end
section
variable {P:Program} {M0:Av} {w0:World} {S:Nat→Prop} {rs:List Ao}
theorem Tr.toR {n:Fm} {E:Env} {I:CU} {c:Code} {Q:Exit→Act→World→Prop} (h:Tr (Uj P) n E I c Q):Tr (Xd P none) n E I c Q:=fun a w hs=>wpIn_wide.2 (h a w hs)
theorem Tr.ofR {n:Fm} {E:Env} {I:CU} {c:Code} {Q:Exit→Act→World→Prop} (h:Tr (Xd P none) n E I c Q):Tr (Uj P) n E I c Q:=fun a w hs=>wpIn_wide.1 (h a w hs)
theorem Tr.eC {Q:Exit→Act→World→Prop} {n:Fm} {E:Env} {α β:Type} {p gf:Nat} {g:Operand} {lb:Array Value} {enc:α→Value} {xs:List α} {own:List α→List Ao} {assign body:Code} (E':α→Env) (R:List α→β→List Ao) (Rx:Code→List α→β→List Ao) (d0:β)
  (kK:Lj P gf lb enc xs own) (eg:∀args w,(callFunc gf args).run P w= .ok (.enter gf args) w) (hg:VL E g (is (.func (.func gf) #[] lb))) (NS:rs.Perm (own []++R [] d0))
  (hassign:∀l D rec M1 w1 pre x d,(pre++[x])<+:xs→∀a,a.tmps.size=n.sz→E4 M1 w1 E a→∀M w,At M0 w0 S (own (pre++[x])++(A8 l rec::A8 D (.deferred (some []))::Aj M1 w1::R pre d)) M w→
   assign.wpIn (DQ (some l)) 0 P (Exit.then (St ⟨n.sz,[]⟩ (E' x) (Hp M0 w0 S (own (pre++[x])++(A8 l rec::A8 D (.deferred (some []))::Aj M1 w1::R pre d)))) (fun _ _ _=>False)) { tmps:=a.tmps.setIfInBounds p (enc x),defers:=[] } w)
  (hbody : ∀ l D rec M1 w1 pre x d, (pre ++ [x]) <+: xs → Tr (Xd P (some l)) ⟨n.sz, []⟩ (E' x) (Hp M0 w0 S (own (pre ++ [x]) ++ (A8 l rec :: A8 D (.deferred (some [])) :: Aj M1 w1 :: R pre d))) body
   (IJ M0 w0 S (fun d=>own (pre++[x])++(A8 l rec::A8 D (.deferred (some []))::Aj M1 w1::R (pre++[x]) d)) (fun c d=>own (pre++[x])++(A8 l rec::A8 D (.deferred (some []))::Aj M1 w1::Rx c (pre++[x]) d))))
  (hdone:∀l D rec M1 w1 d,Fin ⟨n.sz,{ target:= .collected D,args:= #[] }::n.df⟩ E (Hp M0 w0 S (own xs++(A8 l rec::A8 D (.deferred (some []))::Aj M1 w1::R xs d))) Q .normal)
  (hstop:∀l D rec M1 w1 c pre d,pre<+:xs→Tr (Uj P) ⟨n.sz,{ target:= .collected D,args:= #[] }::n.df⟩ E (Hp M0 w0 S (own pre++(A8 l rec::A8 D (.deferred (some []))::Aj M1 w1::Rx c pre d))) c Q):
  Tr (Uj P) n E (Hp M0 w0 S rs) (.rangeFunc g #[p] assign body) Q:=
 Tr.ofR (Tr.range E' R Rx d0 kK eg hg NS hassign hbody hdone fun l D rec M1 w1 c pre d hp=>(hstop l D rec M1 w1 c pre d hp).toR)
end
section
variable {P:Program}
theorem eD {o:Oper} {x y:Operand} {ts:Array TypeId} {l:Nat} {v:Value} {a:Act} {w:World} {R:Ending→World→Prop} {K:Act→World→Prop} {Q:Exit→Act→World→Prop} (ho:o.op= .call { callee:= .value x,args:= #[y],argTypes:=ts })
  (hx:a.eval x= .func (.yield l) #[] #[]) (hy:a.eval y=v) (h:YieldAt (DQ none) 0 P l #[v] w R) (k:∀e w',R e w'→∃u,e= .returned u∧K (a.put o.dst u) w'):o.wpIn (DQ none) 0 P a w K Q:=by
 obtain ⟨fn,tmps,assign,body,hr,qX⟩:=h
 refine ⟨fun _ _=>trivial,?_⟩
 rw [Oper.semAt_eq _ _ _ (fun c hh=>by rw [ho] at hh;cases hh)]
 have hrun:(execOp a.eval o).run P w= .ok (.round l fn tmps assign body) w:=by
  have hd:(resolve a.eval { callee:= .value x,args:= #[y],argTypes:=ts } o.type).run P w= .ok { target:= .fn (.yield l) #[],args:= #[v] } w:=by simp [resolve,Deferred.ofValue,hx,hy]
  have hi:invoke (.fn (.yield l) #[]) #[v]=Instr.yield l #[v]:=rfl
  simp only [execOp,ho]
  rw [Sem.run_bind,hd]
  simp only [Result.andThen]
  rw [hi];exact hr
 rw [hrun]
 refine ⟨fun hh=>(by cases hh),RoundIn.mono qX fun e w' he=> ?_⟩
 obtain ⟨u,rfl,hk⟩:=k e w' he
 exact hk
end
end Cp
namespace Cp
open Go Go.RowKit Go.Great
structure wV (P:Program) (T kt et:TypeId) {κ:Type} [DecidableEq κ] (enc:κ→Value) (z0:Value):Prop where
 und:P.underlying T=some (.map kt et)
 zero:∀w,(zeroValue et).run P w= .ok z0 w
 eq:∀a b w,(Op.equal kt (enc a) (enc b)).run P w= .ok (decide (a=b)) w
 chk:∀e a w,(Instr.checkKey e 10000 kt (enc a)).run P w= .ok () w
 zO:∃d,P.underlying kt=some d∧((∀a b,Instr.sameNow d (enc a) (enc b)=none)∨∀a b,Instr.sameNow d (enc a) (enc b)=some (decide (a=b)))
 bits:∀a,Instr.sameBits 10000 (enc a) (enc a)=true
section
variable {P:Program} {L:Lg P} {n:Fm} {z0:Value} {fz:Nat} {E:Env} {M0:Av} {w0:World} {S:Nat→Prop} {rs:List Ao} {o:Oper} {κ:Type} [DecidableEq κ] {enc:κ→Value}
abbrev wW (enc:κ→Value) (es:List (κ×Value)):List (Value×Value):=es.map fun p=>(enc p.1,p.2)
def wX (enc:κ→Value) (b:Nat) (es:List (κ×Value)):Ao where
 blk:=some b
 new:=true
 h M w:=(∀o,M b o)∧w.heap[b]? =some (.map (TX (wW enc es)) es.length)
 st M w M' w' he hk h:=by
  obtain ⟨h1,h2⟩:=hk b rfl
  exact ⟨fun o=>h2 o (h.1 o),h1.trans h.2⟩
variable {Q:Exit→Act→World→Prop} {ops:Array Oper} {r:List Oper}
theorem TO.eE {d j b:Nat} {T kt et:TypeId} {x:Operand} {es:List (κ×Value)} (hT:wV P T kt et enc z0) (hg:o.guard=none) (hd:o.dst=some d) (hn:d<n) (ho:o.op= .range T x) (hx:VL E x (is (.map (some b)))) (hj:rs[j]? =some (wX enc b es))
  (k:∀it,TO P n ops r ((d,ptr it 0)::E) (Hp M0 w0 S (Mv it b es.length []::rs)) Q):TO P n ops (o::r) E (Hp M0 w0 S rs) Q:=
 TO.YK hg fun K M w a hsz hdf he hI hK=>by
  have h1:a.eval x=_:=hx.ev (o:=o) (CH he) (by simp [ho,Op.operands])
  obtain ⟨_,hh⟩:=(At.hold hI _ (List.mem_of_getElem? hj)).1
  refine TO.val (v:= .pointer (some ⟨w.heap.size,0,none⟩)) (w':=w.alloc (.mapIter (some b) es.length #[] es.length)) ?_ ?_
  · simp [execOp,ho,h1,run_range_map w T kt et b _ _ hT.und hh]
  ·
   obtain ⟨h2,h3⟩:=At.uM (obj:= .mapIter (some b) es.length #[] es.length) (r:=Mv w.heap.size b es.length []) hI rfl rfl ⟨fun _=> .inr rfl,by rw [heap_alloc_new]⟩
   refine hK _ _ _ _ (k w.heap.size) ⟨_,by rw [Bm];exact hsz,by rw [put_defers];exact hdf,?_,h2⟩
   intro s p hp
   simp only [List.lookup] at hp
   by_cases hs:s=d
   · subst hs;simp at hp;subst hp;rw [hd,Ba (by rw [hsz];exact hn)];rfl
   ·
    rw [show (s==d)=false by simpa using hs] at hp
    rw [hd,BF hs]
    exact p.st _ _ _ _ _ h3 (he s p hp)
end
section
variable {P:Program} {L:Lg P} {n:Fm} {E:Env} {M0:Av} {w0:World} {S:Nat→Prop} {rs:List Ao} {ε:Type} {res:ε→List Ao} {Q:Exit→Act→World→Prop} {c:Code} {X:List ε} {f:ε→Value} {g:ε→Pr}
def eF (f:ε→Value) (g:ε→Pr) (X:List ε):Ao:=⟨none,true,fun M w=>∀x∈X,(g x).h M w (f x),fun _ _ _ _ he _ h x hx=>(g x).st _ _ _ _ _ he (h x hx)⟩
end
section
variable {P:Program} {L:Lg P} {n:Fm} {E:Env} {M0:Av} {w0:World} {S:Nat→Prop} {rs:List Ao} {o:Oper} {Q:Exit→Act→World→Prop} {c:Code}
theorem Vt {t:TypeId} {x:Operand} {sz j i q:Nat} {T:TypeId} {rows:List (List Pr)} {row:List Pr} {p:Pr} {v:Value} (ho:o.op= .load t x) (ht:D9 P t=true) (hx:VL E x (elp sz v i q)) (hl:∀r∈rows,r.length=sz) (hi:rows[i]? =some row) (hp:row[q]? =some p):
  L7 P M0 w0 S j (SR.c (CV T sz rows v)) o E p:=by
 intro M w a rs he hI hj
 obtain ⟨a0,m0,c0,Zt,h1⟩:=hx.ev he (by simp [ho,Op.operands])
 have hj':rs[j]? =some (CV T sz rows v):=hj
 rcases (hI.hold _ (List.mem_of_getElem? hj')).1 with ⟨rfl,A,hv⟩|⟨b,cap,spare,hv,hnc,hcm,hsp,⟨_,cs,h4,h5,h6⟩⟩
 · simp at hi
 ·
  rw [Zt] at hv
  injection hv with e1 e2 e3
  injection e1 with e1
  subst e1
  have hrl:=hl row (List.mem_of_getElem? hi)
  have hq:q<sz:=by rw [←hrl];exact BD hp
  have h7:(rows.flatten++spare.map is)[i*sz+q]? =some p:=by
   have FQ:=BD hi
   have hle:(i+1)*sz≤rows.length*sz:=Nat.mul_le_mul_right sz FQ
   rw [Nat.succ_mul] at hle
   rw [List.getElem?_append_left (by rw [CZ hl];omega),H6 hl hi hq];exact hp
  obtain ⟨u,hu,hh⟩:=h5.at_ _ _ h7
  have hc:w.cell? ((⟨b,0,none⟩:Addr).add (i*sz+q))=some u:=by rw [Fx];simp [World.cell?,h4,hu]
  have hrun:(execOp a.eval o).run P w= .ok (.value u) w:=by simp [execOp,ho,h1,Instr.loadAt,Instr.sureAddr,loadVar,D6 ht,hc]
  rw [hrun]
  exact ⟨hh,Below.refl _ _⟩
theorem kM {M:Av} {w:World} {t ty e:TypeId} {sz bytes:Nat} {zs:List Value} {rows rows':List (List Pr)} {v u:Value} {j:Nat} (ht:P.underlying t=some (.slice e)) (hz:Ay P e=some sz) (hby:Bk P e=some bytes) (EM:BL P e=some zs) (hzl:zs.length=sz) (hone:zs.all (·.oneCell')=true) (hsz:0<sz)
  (h:At M0 w0 S rs M w) (hj:rs[j]? =some (CV e sz rows v)) (hl:∀r∈rows,r.length=sz) (hu:(slice sz rows').h M w u) (Fv:rows.length+rows'.length≤maxLen) (hfit:(rows.length+rows'.length)*bytes≤140737488355328):
  ∃v' w' M',(Builtin.append_ #[t,t] ty #[v,u]).run P w= .ok v' w'∧(lens (rows.length+rows'.length)).h M' w' v'∧Ext M w M' w'∧At M0 w0 S (rs.set j (CV e sz (rows++rows') v')) M' w':=by
 have hjl:=BD hj
 rcases Nat.eq_zero_or_pos rows'.length with h0|h0
 ·
  have hr0:rows'=[]:=List.eq_nil_of_length_eq_zero h0
  subst hr0
  obtain ⟨A',c',hu,_⟩:=hu
  have hv:∃A c,v= .slice A rows.length c∧rows.length≤c:=by
   rcases (h.hold _ (List.mem_of_getElem? hj)).1 with ⟨rfl,A,rfl⟩|⟨b,cap,sp,rfl,h2,_⟩
   · exact ⟨A,0,rfl,Nat.le_refl _⟩
   · exact ⟨_,_,rfl,h2⟩
  obtain ⟨A,c,XC,Wm⟩:=hv
  have hrun:=IX (P:=P) (ty:=ty) (A:=A) (A':=A') (n:=rows.length) (c:=c) (c':=c') ht hz Wm w
  refine ⟨v,w,M,by rw [hu,XC];exact hrun,⟨A,c,by rw [XC];rfl⟩,Ext.refl _ _,?_⟩
  rw [List.append_nil]
  have mz:rs.set j (CV e sz rows v)=rs:=by
   apply List.ext_getElem?
   intro i
   rw [List.getElem?_set]
   split
   · rename_i hij;subst hij;first|exact hj.symm|(rw [if_pos hjl];exact hj.symm)
   · rfl
  rw [mz];exact h
 ·
  rcases (h.hold _ (List.mem_of_getElem? hj)).1 with ⟨rfl,A,rfl⟩|⟨b,cap,sp,rfl,h2,h3,h4,h5⟩
  ·
   have h1:=h.blank hj
   obtain ⟨v',w',M',hrun,g1,g2,g3⟩:=bD A (ty:=ty) ht hz hby EM hzl hone hsz h1 (List.getElem?_set_self hjl) hu h0 (by simpa using Fv) (by simpa using hfit)
   rw [List.set_set] at g3
   have g4:=g3.Cl (r':=BX e sz ([]++rows') v') (List.getElem?_set_self hjl) rfl rfl (.inr (g3.hold _ (List.mem_of_getElem? (List.getElem?_set_self hjl))).1)
   rw [List.set_set] at g4
   have g5:=At.Ox g4 (List.getElem?_set_self hjl)
   rw [List.set_set] at g5
   exact ⟨v',w',M',hrun,by simpa using g1,g2,g5⟩
  ·
   have h6:=h.T0 (r':=BX e sz rows (.slice (some ⟨b,0,none⟩) rows.length (cap+1))) hj (fun b hb=>hb) rfl (.inr ⟨b,cap+1,sp,rfl,h2,h3,h4,h5⟩)
   obtain ⟨v',w',M',hrun,g1,g2,g3⟩:=Wy (ty:=ty) ht hz hby EM hzl hone hsz h6 (List.getElem?_set_self hjl) hl hu h0 Fv hfit
   rw [List.set_set] at g3
   have g5:=At.Ox g3 (List.getElem?_set_self hjl)
   rw [List.set_set] at g5
   exact ⟨v',w',M',hrun,g1,g2,g5⟩
theorem Vu {t e:TypeId} {x y:Operand} {sz' sz bytes d:Nat} {zs:List Value} {rows:List (List Pr)} {j:Nat} (hg:o.guard=none) (hd:o.dst=some d) (hn:d<n) (ho:o.op= .call { callee:= .builtin .append,args:= #[x,y],argTypes:= #[t,t] })
  (ht:P.underlying t=some (.slice e)) (hz:Ay P e=some sz) (hby:Bk P e=some bytes) (EM:BL P e=some zs) (hzl:zs.length=sz) (hone:zs.all (·.oneCell')=true) (hsz:0<sz)
  (hx:VL E x (full sz' [])) (hy:VL E y (slice sz rows)) (Fv:rows.length≤maxLen) (hfit:rows.length*bytes≤140737488355328):DI P M0 w0 S n j (SR.c Bp) ⟨d,CV e sz rows⟩ o E (lens rows.length):=by
 refine ⟨hg,fun M w a rs NL he hI hj=> ?_⟩
 have h2:=hy.ev he (by simp [ho,Op.operands,Call.operands])
 obtain ⟨_,A,h1⟩:=hx.ev he (by simp [ho,Op.operands,Call.operands])
 simp only [List.length_nil] at h1
 have hj':rs[j]? =some Bp:=hj
 have hjl:=BD hj'
 have h3:=hI.T0 (r':=CV e sz [] (.slice A 0 0)) hj' (fun b hb=>by cases A<;>cases hb) rfl (.inl ⟨rfl,A,rfl⟩)
 obtain ⟨v',w',M',hrun,g1,g2,g3⟩:=kM (ty:=o.type) ht hz hby EM hzl hone hsz h3 (List.getElem?_set_self hjl) (fun r hr=>by cases hr) h2 (by simpa using Fv) (by simpa using hfit)
 rw [List.set_set] at g3
 have E7:(execOp a.eval o).run P w= .ok (.value v') w':=by simp [execOp,ho,resolve,invoke,builtin,h1,hrun]
 rw [E7]
 refine ⟨M',by simpa using g1,g2,?_⟩
 have:(SR.at_ (a.put o.dst v') ⟨d,CV e sz rows⟩)=CV e sz rows v':=by unfold SR.at_ Slot.val;dsimp only;rw [hd,Ba (by rw [NL];exact hn)]
 rw [this];exact g3
end
section
variable {P:Program} {L:Lg P} {n:Fm} {E:Env} {M0:Av} {w0:World} {S:Nat→Prop} {rs:List Ao} {o:Oper} {Q:Exit→Act→World→Prop} {c:Code} {r:List Oper} {ops:Array Oper}
def UpR (r:Ao):Prop:=∀M M2 w,(∀b o,M b o→M2 b o)→r.h M w→r.h M2 w
def wY (ps:List Pr):Prop:=∀p∈ps,MI p
theorem HL.free {ps:List Pr} {cs:List Value} {M M2:Av} {w:World} (hf:wY ps) (h:HL M w ps cs):HL M2 w ps cs:=
 Qr h.length fun k p hk=>by
  obtain ⟨u,hu,gb⟩:=h.at_ k p hk
  exact ⟨u,hu,(hf p (List.mem_of_getElem? hk)).free _ _ _ _ gb⟩
theorem TO.perm {rs':List Ao} (hp:rs.Perm rs') (k:TO P n ops r E (Hp M0 w0 S rs') Q):TO P n ops r E (Hp M0 w0 S rs) Q:=TO.conv (fun _ _ hs=>hs.perm hp) k
end
section
variable {P:Program} {L:Lg P} {n:Fm} {E:Env} {M0:Av} {w0:World} {S:Nat→Prop} {rs:List Ao} {o:Oper} {Q:Exit→Act→World→Prop} {c:Code} {r:List Oper} {ops:Array Oper}
instance wZ:MI any:=⟨fun _ _ _ _ _=>trivial⟩
instance qY (v:Value) (p:Pr) [h9:MI p]:MI (Ag v p):=⟨fun _ _ _ _ h=>⟨h.1,h9.free _ _ _ _ h.2⟩⟩
def nB (w:World) (q:Ao):Ao:=⟨q.blk,q.new,fun _ w'=>∀b,q.blk=some b→w'.heap[b]? =w.heap[b]?,fun _ _ _ _ _ hk h b hb=>(hk b hb).1.trans (h b hb)⟩
theorem eG {us bs:List Ao} (h:us.map (·.blk)=bs.map (·.blk)) (k:us.Pairwise fun r r':Ao=>∀b,r.blk=some b→r'.blk≠some b):bs.Pairwise fun r r':Ao=>∀b,r.blk=some b→r'.blk≠some b:=by
 have e1:∀l:List Ao,(l.Pairwise fun r r':Ao=>∀b,r.blk=some b→r'.blk≠some b)↔(l.map (·.blk)).Pairwise fun p q:Option Nat=>∀b,p=some b→q≠some b:=fun l=>by rw [List.pairwise_map]
 rw [e1] at k ⊢
 rw [←h];exact k
theorem At.AB8 {α:Type} {C:α→Prop} {f:FuncId} {ps:List Pr} {post eH:α→List Ao} {res res2:α→Pr} {M:Av} {w:World} {vs:List Value} (hf:HV P f ps [] C res post)
  (hI:At M0 w0 S rs M w) (hn:rs.all (·.new)=true) (hpost:∀x M0 w0 S rs M w,At M0 w0 S (post x++rs) M w→At M0 w0 S (eH x++rs) M w) (AAt:∀x,∀q∈eH x,UpR q)
  (hres:∀x M M2 w u,(res x).h M w u→(res2 x).h M2 w u) (hv:∀M1,Ext M w M1 w→(∀b o,M1 b o→∀q∈rs,q.blk≠some b)→HL M1 w ps vs):
  Calls P f vs.toArray w fun e' w'=>∃u M' x,e'= .returned u∧C x∧(res2 x).h M' w' u∧Ext M w M' w'∧At M0 w0 S (eH x++rs) M' w':=by
 have hb:∀q∈rs,∀b,q.blk=some b→b<w.heap.size∧w0.heap.size≤b:=fun q hq b hb=>by
  obtain ⟨h1,h2⟩:=(hI.hold q hq).2 b hb
  rw [if_pos (List.all_eq_true.1 hn q hq)] at h2
  exact ⟨h1,h2⟩
 have he:Ext M w (fun b o=>M b o∧∀q∈rs,q.blk≠some b) w:=Ext.less fun _ _ h=>h.1
 have hI1:At M0 w0 S (rs.map (nB w)) (fun b o=>M b o∧∀q∈rs,q.blk≠some b) w:=by
  refine ⟨hI.m0,fun b o hm=>⟨hI.m b o hm,fun q hq e1=>by have h1:=hI.m0 b o hm;have h2:=(hb q hq b e1).2;omega⟩,hI.os,hI.tape,hI.output,hI.size,hI.block,fun b o hm=>hI.bd b o hm.1,fun q hq=> ?_,?_⟩
  ·
   rw [List.mem_map] at hq
   obtain ⟨q,hq,rfl⟩:=hq
   exact ⟨fun _ _=>rfl,(hI.hold q hq).2⟩
  · exact eG (by rw [List.map_map];rfl) hI.nd
 refine (hf.2 M0 w0 S (rs.map (nB w)) _ w vs hI1 (hv _ he fun _ _ h=>h.2)).mono ?_
 rintro e' w' ⟨u,M',x,rfl,hC,h2,h3,h4⟩
 have h5:=hpost x _ _ _ _ _ _ h4
 have AAu:∀q∈rs,∀b,q.blk=some b→w'.heap[b]? =w.heap[b]? :=fun q hq=>(h5.hold _ (List.mem_append_right _ (List.mem_map_of_mem hq))).1
 have hE:Ext M w (fun b o=>M' b o∨(M b o∧∃q∈rs,q.blk=some b)) w':=⟨h3.size,fun a q hc hm=>by
  obtain ⟨k1,k2⟩:=h3.keep a q hc (fun h=>hm h.1)
  exact ⟨fun h=>h.elim k1 fun h=>hm h.1,k2⟩,fun b x ho hp hm=>by
  obtain ⟨k1,k2⟩:=h3.obj b x ho hp (fun h=>hm h.1)
  exact ⟨fun h=>h.elim k1 fun h=>hm h.1,k2⟩⟩
 refine ⟨u,_,x,rfl,hC,hres x _ _ _ _ h2,hE,⟨h5.m0,fun b o hm=> .inl (h5.m b o hm),h5.os,h5.tape,h5.output,h5.size,h5.block,fun b o hm=> ?_,fun q hq=> ?_,?_⟩⟩
 ·
  rcases hm with hm|⟨hm,_⟩
  · exact h5.bd b o hm
  · exact Nat.lt_of_lt_of_le (hI.bd b o hm) h3.size
 ·
  rcases List.mem_append.1 hq with hq|hq
  ·
   obtain ⟨k1,k2⟩:=h5.hold q (List.mem_append_left _ hq)
   exact ⟨AAt x q hq _ _ _ (fun _ _ h=> .inl h) k1,k2⟩
  ·
   refine ⟨q.st _ _ _ _ hE (fun b hb=>⟨AAu q hq b hb,fun o hm=> .inr ⟨hm,q,hq,hb⟩⟩) (hI.hold q hq).1,fun b hb=> ?_⟩
   obtain ⟨k1,k2⟩:=(hI.hold q hq).2 b hb
   exact ⟨Nat.lt_of_lt_of_le k1 h3.size,k2⟩
 · exact eG (by rw [List.map_append,List.map_append,List.map_map];rfl) h5.nd
end
section
variable {P:Program} {I:CU} {E:Env} {o:Oper}
abbrev u32 (b:BitVec 32):Pr:=is (.int .u32 (b.toNat:Int))
theorem Xe (n:Int):IntKind.u32.wrap n=n % 4294967296:=by simp [IntKind.wrap,IntKind.signed,IntKind.bits]
theorem N2 (b:BitVec 32):IntKind.u32.wrap (b.toNat:Int)=(b.toNat:Int):=by rw [Xe];have:=b.isLt;omega
theorem qZ (b:BitVec 32) (i:Nat):IntKind.u32.wrap ((b.toNat:Int)*2 ^ (min i 32))=((b<<<i).toNat:Int):=by
 rw [Xe,BitVec.toNat_shiftLeft,Nat.shiftLeft_eq]
 have e1:((b.toNat:Int)*2 ^ (min i 32))=((b.toNat*2 ^ (min i 32):Nat):Int):=by rw [Int.natCast_mul,Int.natCast_pow];rfl
 rw [e1]
 rcases Nat.le_total i 32 with h|h
 · rw [Nat.min_eq_left h];generalize b.toNat*2 ^ i=n;show ((n:Int) % 4294967296)=((n % 4294967296:Nat):Int);omega
 ·
  rw [Nat.min_eq_right h]
  obtain ⟨k,rfl⟩:=Nat.exists_eq_add_of_le h
  have h1:b.toNat*2 ^ 32 % 4294967296=0:=by rw [show (4294967296:Nat)=2 ^ 32 from rfl];exact Nat.mul_mod_left _ _
  have h2:b.toNat*2 ^ (32+k) % 2 ^ 32=0:=by rw [Nat.pow_add,←Nat.mul_assoc,Nat.mul_right_comm];exact Nat.mul_mod_left _ _
  rw [h2];generalize b.toNat*2 ^ 32=n at h1 ⊢;omega
theorem eI (b:BitVec 32) (i:Nat):(b.toNat:Int).fdiv (2 ^ (min i 32))=((b>>>i).toNat:Int):=by
 rw [BitVec.toNat_ushiftRight,Nat.shiftRight_eq_div_pow]
 have e1:(2:Int) ^ (min i 32)=((2 ^ (min i 32):Nat):Int):=by rw [Int.natCast_pow];rfl
 rw [e1,Int.fdiv_eq_ediv_of_nonneg _ (by exact Int.natCast_nonneg _)]
 rcases Nat.le_total i 32 with h|h
 · rw [Nat.min_eq_left h];norm_cast
 ·
  rw [Nat.min_eq_right h]
  have h3:=b.isLt
  have h1:b.toNat/2 ^ 32=0:=Nat.div_eq_of_lt h3
  have h2:b.toNat/2 ^ i=0:=Nat.div_eq_of_lt (Nat.lt_of_lt_of_le h3 (Nat.pow_le_pow_right (by omega) h))
  rw [h2,←h1];norm_cast
theorem JN {t u:TypeId} {x y:Operand} {b:BitVec 32} {i:Int} (ho:o.op= .binOp .shl t x y u) (hx:VL E x (u32 b)) (hy:VL E y (int i)) (hi:0≤i):Aa P I o E (u32 (b<<<i.toNat)):=
 Aa.same fun M w a he _=>by
  have h1:a.eval x= .int .u32 b.toNat:=hx.ev he (by simp [ho,Op.operands])
  have h2:a.eval y= .int .i64 i:=hy.ev he (by simp [ho,Op.operands])
  refine ⟨.int .u32 ((b<<<i.toNat).toNat:Int),?_,rfl⟩
  rw [←qZ]
  simp [execOp,ho,h1,h2,eqGuard,binOp,Op.shift,show ¬i<0 by omega,IntKind.bits]
theorem eJ {t u:TypeId} {x y:Operand} {b:BitVec 32} {i:Int} (ho:o.op= .binOp .shr t x y u) (hx:VL E x (u32 b)) (hy:VL E y (int i)) (hi:0≤i):Aa P I o E (u32 (b>>>i.toNat)):=
 Aa.same fun M w a he _=>by
  have h1:a.eval x= .int .u32 b.toNat:=hx.ev he (by simp [ho,Op.operands])
  have h2:a.eval y= .int .i64 i:=hy.ev he (by simp [ho,Op.operands])
  refine ⟨.int .u32 ((b>>>i.toNat).toNat:Int),?_,rfl⟩
  rw [←eI]
  simp [execOp,ho,h1,h2,eqGuard,binOp,Op.shift,show ¬i<0 by omega,IntKind.bits]
theorem UA (b:BitVec 32):BitVec.ofInt 32 (b.toNat:Int)=b:=by
 apply BitVec.eq_of_toNat_eq
 rw [BitVec.toNat_ofInt]
 have:=b.isLt
 omega
theorem PK {t u:TypeId} {x y:Operand} {b c:BitVec 32} {op:BinOp} {f:BitVec 32→BitVec 32→BitVec 32} (ho:o.op= .binOp op t x y u) (hx:VL E x (u32 b)) (hy:VL E y (u32 c))
  (hf:(op= .and∧f=fun b c=>b&&&c)∨(op= .or∧f=fun b c=>b|||c)∨(op= .andNot∧f=fun b c=>b&&&~~~c)∨(op= .xor∧f=fun b c=>b ^^^ c)):Aa P I o E (u32 (f b c)):=
 Aa.same fun M w a he _=>by
  have h1:a.eval x= .int .u32 b.toNat:=hx.ev he (by simp [ho,Op.operands])
  have h2:a.eval y= .int .u32 c.toNat:=hy.ev he (by simp [ho,Op.operands])
  refine ⟨.int .u32 ((f b c).toNat:Int),?_,rfl⟩
  have e1:=UA b
  have e2:=UA c
  rcases hf with ⟨rfl,rfl⟩|⟨rfl,rfl⟩|⟨rfl,rfl⟩|⟨rfl,rfl⟩
  · have e3:=N2 (b&&&c);simp [execOp,ho,h1,h2,eqGuard,binOp,Op.intBits,IntKind.bits,e1,e2] at e3 ⊢;exact e3
  · have e3:=N2 (b|||c);simp [execOp,ho,h1,h2,eqGuard,binOp,Op.intBits,IntKind.bits,e1,e2] at e3 ⊢;exact e3
  · have e3:=N2 (b&&&~~~c);simp [execOp,ho,h1,h2,eqGuard,binOp,Op.intBits,IntKind.bits,e1,e2];exact e3.trans (by simp)
  · have e3:=N2 (b ^^^ c);simp [execOp,ho,h1,h2,eqGuard,binOp,Op.intBits,IntKind.bits,e1,e2] at e3 ⊢;exact e3
theorem UB {t u:TypeId} {x y:Operand} {b c:BitVec 32} (ho:o.op= .binOp .and t x y u) (hx:VL E x (u32 b)) (hy:VL E y (u32 c)):Aa P I o E (u32 (b&&&c)):=PK ho hx hy (.inl ⟨rfl,rfl⟩)
theorem Ll {t u:TypeId} {x y:Operand} {b c:BitVec 32} (ho:o.op= .binOp .or t x y u) (hx:VL E x (u32 b)) (hy:VL E y (u32 c)):Aa P I o E (u32 (b|||c)):=PK ho hx hy (.inr (.inl ⟨rfl,rfl⟩))
theorem JO {t u:TypeId} {x y:Operand} {b c:BitVec 32} (ho:o.op= .binOp .andNot t x y u) (hx:VL E x (u32 b)) (hy:VL E y (u32 c)):Aa P I o E (u32 (b&&&~~~c)):=PK (f:=fun b c=>b&&&~~~c) ho hx hy (.inr (.inr (.inl ⟨rfl,rfl⟩)))
theorem Lm:Pr.le (is (.int .u32 0)) (u32 0#32):=fun _ _ _ h=>h
theorem Xf (b:BitVec 32):(((b.toNat:Int)==0)=(b==0#32)):=by
 rw [Bool.eq_iff_iff,beq_iff_eq,beq_iff_eq]
 constructor
 · intro h;apply BitVec.eq_of_toNat_eq;simp;omega
 · rintro rfl;rfl
theorem qa (b:BitVec 32) (i:Nat):((((b>>>i)&&&1#32).toNat:Int)==1)=b.getLsbD i:=by
 rw [Bool.eq_iff_iff,beq_iff_eq]
 have h1:((b>>>i)&&&1#32).toNat=(b.toNat>>>i) % 2:=by
  rw [BitVec.toNat_and,BitVec.toNat_ushiftRight];exact Nat.and_one_is_mod _
 rw [h1]
 unfold BitVec.getLsbD
 rw [Nat.testBit,Nat.and_comm,Nat.and_one_is_mod]
 constructor
 ·
  intro h;have:(b.toNat>>>i) % 2=1:=by omega
  rw [this];rfl
 ·
  intro h
  rcases Nat.mod_two_eq_zero_or_one (b.toNat>>>i) with h2|h2
  · rw [h2] at h;cases h
  · omega
end
end Cp
namespace Go.Proofs.YtkobgkelhcigdaaGreatDoor
open Go Go.RowKit Cp Go.Proofs.Tryz
-- sets of bits, yY
def Ir (b:BitVec 32):Nat:=((List.range 32).find? fun i=>b.getLsbD i).getD 32
def K1 (b:BitVec 32):List Nat:=(List.range 32).filter fun i=>b.getLsbD i
def Y7 (b:BitVec 32) (i:Nat):BitVec 32:=b&&&~~~(1#32<<<i)
def Vv (b:BitVec 32) (i:Nat):BitVec 32:=b|||(1#32<<<i)
theorem Vw (i j:Nat):(1#32<<<i).getLsbD j=(decide (i=j)&&decide (j<32)):=by
 rw [BitVec.getLsbD_shiftLeft]
 by_cases h1:j<32
 ·
  by_cases h2:i=j
  · subst h2;simp [h1]
  ·
   by_cases h3:j<i
   · simp [h3,h2]
   ·
    have:(1#32).getLsbD (j-i)=false:=by
     rw [BitVec.getLsbD_ofNat]
     have:(1:Nat).testBit (j-i)=false:=by
      obtain ⟨k,hk⟩:∃k,j-i=k+1:=⟨j-i-1,by omega⟩
      rw [hk,Nat.testBit_succ];simp
     rw [this];simp
    rw [this];simp [h2]
 · simp [h1]
theorem Vx {b:BitVec 32} {i j:Nat} (hi:i<32):(Vv b i).getLsbD j=(b.getLsbD j||decide (i=j)):=by
 unfold Vv
 rw [BitVec.getLsbD_or,Vw]
 by_cases h:i=j
 · subst h;simp [hi]
 · simp [h]
theorem kN {b:BitVec 32} {i j:Nat}:(Y7 b i).getLsbD j=(b.getLsbD j&& !decide (i=j)):=by
 unfold Y7
 rw [BitVec.getLsbD_and,BitVec.getLsbD_not,Vw]
 by_cases hj:j<32
 · simp [hj]
 ·
  have:b.getLsbD j=false:=BitVec.getLsbD_of_ge b j (by omega)
  rw [this];simp
theorem UC {α:Type} [DecidableEq α] {p:α→Bool} {x:α}:∀{l:List α},l.Nodup→l.find? p=some x→l.filter p=x::l.filter (fun y=>p y&& !(decide (x=y):Bool)):=by
 intro l
 induction l with
 |nil=>intro _ h;cases h
 |cons a l ih=>
  intro hn h
  obtain ⟨ha,hn⟩:=List.nodup_cons.1 hn
  rw [List.find?_cons] at h
  cases hp:p a with
  |true=>
   rw [hp] at h
   simp at h
   subst h
   rw [List.filter_cons,hp,List.filter_cons]
   simp [hp]
   exact List.filter_congr fun y hy=>by
    have:¬a=y:=fun e=>ha (e ▸ hy)
    simp [this]
  |false=>
   rw [hp] at h
   simp at h
   rw [List.filter_cons,hp,List.filter_cons,hp]
   simp
   exact ih hn (by simpa using h)
theorem Xg {b:BitVec 32} (h:∀i,i<32→b.getLsbD i=false):b=0#32:=BitVec.eq_of_getLsbD_eq fun i hi=>by rw [h i hi];simp
theorem eK:K1 0#32=[]:=by decide
theorem PL {b:BitVec 32} (h:b≠0#32):(List.range 32).find? (fun i=>b.getLsbD i)=some (Ir b):=by
 unfold Ir
 cases hf:(List.range 32).find? (fun i=>b.getLsbD i) with
 |some x=>rfl
 |none=>
  rw [List.find?_eq_none] at hf
  exact absurd (Xg fun i hi=>by simpa using hf i (List.mem_range.2 hi)) h
theorem eL {b:BitVec 32} (h:b≠0#32):b.getLsbD (Ir b)=true:=by simpa using List.find?_some (PL h)
theorem Vy {b:BitVec 32} (h:b≠0#32):Ir b<32:=List.mem_range.1 (List.mem_of_find?_eq_some (PL h))
theorem PM {b:BitVec 32} (h:b≠0#32):K1 b=Ir b::K1 (Y7 b (Ir b)):=by
 unfold K1
 rw [UC List.nodup_range (PL h)]
 congr 1
 exact List.filter_congr fun y _=>by rw [kN]
theorem Jt {b:BitVec 32} {i:Nat}:i∈K1 b↔b.getLsbD i=true:=by
 unfold K1
 rw [List.mem_filter,List.mem_range]
 constructor
 · exact fun h=>h.2
 ·
  intro h
  refine ⟨?_,h⟩
  rcases Nat.lt_or_ge i 32 with h2|h2
  · exact h2
  · rw [BitVec.getLsbD_of_ge b i h2] at h;cases h
theorem Xh {b:BitVec 32} {i:Nat} (h:b.getLsbD i=true):Ir b≤i:=by
 have hb:b≠0#32:=fun e=>by rw [e] at h;simp at h
 have h1:i∈K1 b:=Jt.2 h
 rw [PM hb] at h1
 rcases List.mem_cons.1 h1 with h2|h2
 · omega
 ·
  have h3:(K1 b).Pairwise (· < ·):=List.Pairwise.filter _ List.pairwise_lt_range
  rw [PM hb] at h3
  exact Nat.le_of_lt ((List.pairwise_cons.1 h3).1 i h2)
theorem Y8 {b:BitVec 32} (h:b≠0#32):b&&&(-b)=1#32<<<(Ir b):=by
 apply BitVec.eq_of_getLsbD_eq
 intro i hi
 rw [BitVec.getLsbD_and,BitVec.getLsbD_neg,Vw]
 by_cases h1:Ir b=i
 ·
  subst h1
  have:¬∃j,j<Ir b∧b.getLsbD j=true:=fun ⟨j,hj,hb⟩=>by have:=Xh hb;omega
  simp [hi,eL h,this]
 ·
  by_cases h2:Ir b<i
  ·
   have:∃j,j<i∧b.getLsbD j=true:=⟨_,h2,eL h⟩
   simp [this,h1,hi]
  ·
   have:b.getLsbD i=false:=by
    cases hb:b.getLsbD i with
    |false=>rfl
    |true=>have:=Xh hb;omega
   simp [this,h1]
def UD:List Nat:=[0,1,28,2,29,14,24,3,30,22,20,15,25,17,4,8,31,27,13,23,21,19,16,7,26,12,18,6,11,5,10,9]
theorem kO:∀i,i<32→UD[(((1#32<<<i)*125613361#32)>>>27).toNat]? =some i:=by decide
-- rows of bits as a relation (to stand behind Rq.lean and Bit.lean)
def ES (n:Nat) (B:List (BitVec 32)) (M:Nat→Nat→Bool):Prop:=B.length=n∧∀b x,B[b]? =some x→∀a,x.getLsbD a=(decide (a<n)&&M a b)
theorem Ln {n:Nat} {B:List (BitVec 32)} {M N:Nat→Nat→Bool} (h:ES n B M) (k:∀a b,a<n→b<n→M a b=N a b):ES n B N:=by
 refine ⟨h.1,fun b x hx a=> ?_⟩
 rw [h.2 b x hx a]
 have hb:b<n:=by rw [←h.1];rcases Nat.lt_or_ge b B.length with h2|h2;exact h2;rw [List.getElem?_eq_none h2] at hx;cases hx
 by_cases ha:a<n
 · rw [k a b ha hb]
 · simp [ha]
theorem Vz (n:Nat):ES n (List.replicate n 0#32) (fun _ _=>false):=by
 refine ⟨List.length_replicate,fun b x hx a=> ?_⟩
 have:=List.eq_of_mem_replicate (List.mem_of_getElem? hx)
 subst this;simp
theorem RE {n:Nat} {B:List (BitVec 32)} {M N:Nat→Nat→Bool} (h:ES n B M) {t:Nat} {y:BitVec 32} (ho:∀a b,b≠t→N a b=M a b) (hy:∀a,y.getLsbD a=(decide (a<n)&&N a t)):ES n (B.set t y) N:=by
 refine ⟨by rw [List.length_set];exact h.1,fun b x hx a=> ?_⟩
 rw [List.getElem?_set] at hx
 split at hx
 ·
  rename_i e;subst e
  split at hx
  · cases hx;exact hy a
  · cases hx
 ·
  rename_i e
  rw [h.2 b x hx a,ho a b (fun e2=>e e2.symm)]
theorem eM {n:Nat} {B:List (BitVec 32)} {M:Nat→Nat→Bool} (h:ES n B M) {t f:Nat} {x:BitVec 32} (hx:B[t]? =some x) (hf:f<n) (hn:n≤32):ES n (B.set t (Vv x f)) (fun a b=>M a b||(decide (f=a)&&decide (t=b))):=by
 refine RE h (fun a b hb=> ?_) (fun a=> ?_)
 · simp [show ¬t=b from fun e=>hb e.symm]
 ·
  rw [Vx (by omega),h.2 t x hx a]
  by_cases ha:a<n
  · simp [ha]
  ·
   have:¬f=a:=by omega
   simp [ha,this]
def J5 (k:Nat) (m:Nat→Nat→Bool) (i a b:Nat):Bool:=if b<i then JL k m a b else m a b
theorem qb (k:Nat) (m:Nat→Nat→Bool):J5 k m 0=m:=by funext a b;unfold J5;rw [if_neg (by omega)]
theorem eN {n k:Nat} {m:Nat→Nat→Bool} {a b:Nat} (hb:b<n):J5 k m n a b=JL k m a b:=by unfold J5;rw [if_pos hb]
theorem eO (k:Nat) (m:Nat→Nat→Bool) (i a:Nat):J5 k m i a k=m a k:=by unfold J5;split;exact T6 k m a;rfl
theorem UE {n k i:Nat} {m:Nat→Nat→Bool} {B:List (BitVec 32)} {x:BitVec 32} (h:ES n B (J5 k m i)) (hx:B[i]? =some x) (hk:k<n):x.getLsbD k=m k i:=by
 rw [h.2 i x hx k];unfold J5;rw [if_neg (by omega)];simp [hk]
theorem eP {n k i:Nat} {m:Nat→Nat→Bool} {B:List (BitVec 32)} {x y:BitVec 32} (h:ES n B (J5 k m i)) (hx:B[i]? =some x) (hy:B[k]? =some y) (hm:m k i=true):ES n (B.set i (x|||y)) (J5 k m (i+1)):=by
 refine RE h (fun a b hb=> ?_) (fun a=> ?_)
 ·
  unfold J5
  by_cases h1:b<i
  · rw [if_pos h1,if_pos (by omega)]
  · rw [if_neg h1,if_neg (by omega)]
 ·
  rw [BitVec.getLsbD_or,h.2 i x hx a,h.2 k y hy a,eO]
  unfold J5
  rw [if_neg (by omega),if_pos (by omega)]
  unfold JL
  rw [hm]
  cases decide (a<n)<;>simp
theorem kP {n k i:Nat} {m:Nat→Nat→Bool} {B:List (BitVec 32)} (h:ES n B (J5 k m i)) (hm:m k i=false):ES n B (J5 k m (i+1)):=by
 refine Ln h fun a b _ _=> ?_
 unfold J5
 by_cases h1:b<i
 · rw [if_pos h1,if_pos (by omega)]
 ·
  by_cases h2:b=i
  · subst h2;rw [if_neg h1,if_pos (by omega)];unfold JL;rw [hm];simp
  · rw [if_neg h1,if_neg (by omega)]
structure AAv (n:Nat) (l:List BG) (B A:List (BitVec 32)):Prop where
 bef:ES n B (Cn l n)
 aft:ES n A (fun b a=>Cn l n a b)
theorem F3 {l:List BG} {s:List Int} (h:CW l s=true):∀(k:Nat) {a b:Nat},Cn l k a b=true→(b:Int)∈s→(a:Int)∈s
 |0,a,b,hw,hb=>by
  unfold Cn F1 at hw
  rw [List.any_eq_true] at hw
  obtain ⟨r,hr,h2⟩:=hw
  simp at h2
  have:=DP.1 h r hr (by rw [h2.2];exact hb)
  rw [h2.1] at this;exact this
 |k+1,a,b,hw,hb=>by
  have hw:JL k (Cn l k) a b=true:=hw
  unfold JL at hw
  rw [Bool.or_eq_true,Bool.and_eq_true] at hw
  rcases hw with hw|⟨h1,h2⟩
  · exact F3 h k hw hb
  · exact F3 h k h1 (F3 h k h2 hb)
def PN (n:Nat) (s:BitVec 32) (d:List Int):Prop:=∀i:Nat,s.getLsbD i=true↔(i:Int)∈d
theorem PO {x s:BitVec 32}:(x&&&~~~s=0#32)↔∀i,x.getLsbD i=true→s.getLsbD i=true:=by
 constructor
 ·
  intro h i hi
  have h2:=congrArg (fun y=>BitVec.getLsbD y i) h
  have hlt:i<32:=by rcases Nat.lt_or_ge i 32 with h3|h3;exact h3;rw [BitVec.getLsbD_of_ge x i h3] at hi;cases hi
  simp [hi,hlt] at h2
  exact h2
 ·
  intro h
  refine Xg fun i hi=> ?_
  rw [BitVec.getLsbD_and,BitVec.getLsbD_not]
  cases hx:x.getLsbD i with
  |false=>simp
  |true=>rw [h i hx];simp
theorem kQ {n:Int} {l:List BG} {B:List (BitVec 32)} {s x:BitVec 32} {d:List Int} {i:Nat} (hv:BC n l=0) (hB:ES n.toNat B (Cn l n.toNat)) (hs:PN n.toNat s d) (hc:CW l d=true) (hx:B[i]? =some x) (hi:i<n.toNat):
  Kq l d true i=(!s.getLsbD i&&(x&&&~~~s==0#32)):=by
 obtain ⟨h0,h1,h2,h3⟩:=C3 hv
 rw [Bool.eq_iff_iff]
 unfold Kq
 have e1:(Iq d (i:Int) !=true)= !s.getLsbD i:=by
  cases hg:s.getLsbD i with
  |true=>have:=(hs i).1 hg;rw [D4.2 this];rfl
  |false=>
   have:¬(i:Int)∈d:=fun e=>by have:=(hs i).2 e;rw [hg] at this;cases this
   have h4:Iq d (i:Int)=false:=by cases h5:Iq d (i:Int) with|false=>rfl|true=>exact absurd (D4.1 h5) this
   rw [h4];rfl
 rw [e1,Bool.and_eq_true,Bool.and_eq_true,beq_iff_eq,PO]
 refine and_congr_right fun hni=> ?_
 constructor
 ·
  intro Zu a ha
  rw [hB.2 i x hx a,Bool.and_eq_true,decide_eq_true_eq] at ha
  have:=F3 Zu _ ha.2 (DF.2 (.inl rfl))
  rcases DF.1 this with h5|h5
  ·
   have h6:a=i:=by omega
   subst h6
   rw [h3 a hi] at ha;cases ha.2
  · exact (hs a).2 h5
 ·
  intro h
  rw [DP]
  intro r hr hm
  rcases DF.1 hm with h5|h5
  ·
   have hb:=h1 r hr
   unfold Dy at hb
   rw [decide_eq_false_iff_not] at hb
   refine DF.2 (.inr ?_)
   have h6:=(hs r.fst.toNat).1 (h r.fst.toNat (by
    rw [hB.2 i x hx,Bool.and_eq_true,decide_eq_true_eq]
    refine ⟨by omega,Jq ?_ _⟩
    unfold F1
    rw [List.any_eq_true]
    exact ⟨r,hr,by simp;omega⟩))
   rw [Int.toNat_of_nonneg (by omega)] at h6
   exact h6
  · exact DF.2 (.inr (DP.1 hc r hr h5))
-- ABl, list, by bits (behind AAv.lean)
theorem Xi (n:Nat):∀m,(List.range m).filter (fun j=>decide (j<n))=List.range (min n m)
 |0=>by simp
 |m+1=>by
  rw [List.range_succ,List.filter_append,Xi n m]
  by_cases h:m<n
  ·
   rw [Nat.min_eq_right (by omega),Nat.min_eq_right (by omega),List.range_succ]
   simp [h]
  ·
   rw [Nat.min_eq_left (by omega),Nat.min_eq_left (by omega)]
   simp [h]
theorem qc {x:BitVec 32} {n:Nat} {p:Nat→Bool} (h:∀j,x.getLsbD j=(decide (j<n)&&p j)) (hn:n≤32):K1 x=(List.range n).filter p:=by
 unfold K1
 rw [List.filter_congr (q:=fun j=>decide (j<n)&&p j) (fun j _=>h j)]
 rw [show (fun j=>decide (j<n)&&p j)=fun j=>p j&&decide (j<n) from by funext j;rw [Bool.and_comm]]
 rw [←List.filter_filter,Xi,Nat.min_eq_left hn]
theorem qd {n:Int} {l:List BG} {d:List Int} {out:BitVec 32} (h:∀j,out.getLsbD j=(decide (j<n.toNat)&&Kq l d true j)) (hn:n.toNat≤32):ED n.toNat l d true=(K1 out).map fun i:Nat=>(i:Int):=by
 unfold ED;rw [qc h hn]
theorem kR (b:BitVec 32):(K1 b).length≤32:=by unfold K1;exact Nat.le_trans (List.length_filter_le _ _) (by simp)
end Go.Proofs.YtkobgkelhcigdaaGreatDoor
namespace Cp
open Go Go.RowKit Go.Great
abbrev mark (D:Nat):Deferred:={ target:= .collected D,args:= #[] }
abbrev UF (D:Nat):Ao:=A8 D (.deferred (some []))
abbrev Ih (P:Program) (g:Func) (R:Ending→World→Prop):Exit→Act→World→Prop:=bodyPostM (DQ none) 0 P g R
section
variable {P:Program} {fz:Nat} {E:Env} {M0:Av} {w0:World} {S:Nat→Prop} {rs:List Ao} {g:Func} {R:Ending→World→Prop} {ds:List Deferred} {n:Fm} {c:Code}
theorem Fin.Sb {D:Nat} (k:Fin ⟨fz,ds⟩ E (Hp M0 w0 S rs) (Ih P g R) .ret):Fin ⟨fz,mark D::ds⟩ E (Hp M0 w0 S (UF D::rs)) (Ih P g R) .ret:=by
 rintro a w ⟨M,h1,h2,h3,h4⟩
 have h4:At M0 w0 S (UF D::rs) M w:=h4
 have hD:w.heap[D]? =some (.deferred (some [])):=(h4.hold _ (List.mem_cons_self ..)).1.2
 obtain ⟨h5,h6⟩:=h4.putObj (j:=0) (.deferred none) rfl
 have h7:=k { a with defers:=ds } (w.putObj D (.deferred none)) ⟨M,h1,rfl,fun s q hq=>q.st _ _ _ _ _ h6 (h3 s q hq),At.K_ h5⟩
 have h2:a.defers=mark D::ds:=h2
 show LeavesInM _ _ _ _ _ _ a.defers _ _
 rw [h2]
 exact ⟨(fun h=>by cases h),.inl ⟨D,_,rfl,run_takeDeferred hD,h7⟩⟩
theorem Fin.RF (k:Fin ⟨fz,[]⟩ E (Hp M0 w0 S rs) (bodyPost P g R) .ret):Fin ⟨fz,[]⟩ E (Hp M0 w0 S rs) (Ih P g R) .ret:=by
 rintro a w h
 obtain ⟨h1,v,h2,h3⟩:=k a w h
 show LeavesInM _ _ _ _ _ _ a.defers _ _
 rw [h1]
 exact ⟨v,h2,h3⟩
theorem Fin.Xj:∀{Ds:List Nat} {rs:List Ao},Fin ⟨fz,[]⟩ E (Hp M0 w0 S rs) (bodyPost P g R) .ret→Fin ⟨fz,Ds.map mark⟩ E (Hp M0 w0 S (Ds.map UF++rs)) (Ih P g R) .ret
 |[],_,k=>Fin.RF k
 |_::_,_,k=>Fin.Sb (Fin.Xj k)
theorem Fin.qg {rs:List Ao} (k:Fin n E (Hp M0 w0 S rs) (Ih P g R) .ret):Fin n E (Hp M0 w0 S rs) (Ih P g R) .normal:=k
theorem ND {f:FuncId} {args:Array Value} {w:World} (hf:P.funcs[f]? =some g) (hb:g.body=some c) (h:c.wp P (Ih P g R) { tmps:=args++Array.replicate (g.ntmps-args.size) undef,defers:=[] } w):Calls P f args w R:=
 callsIn_wide.1 (callsIn_of_wp_marks (F:=DQ none) (n:=0) hf hb trivial (wpIn_wide.2 h))
variable {α:Type} {pre:List Ao} {C:α→Prop} {res:α→Pr} {post:α→List Ao} {M1:Av} {w1:World}
theorem HV.ofM {f : FuncId} {ps : List Pr} (hf : P.funcs[f]? = some g) (hb : g.body = some c) (hname : (g.name == "runtime.NumGoroutine") = false) (hlen : ps.length ≤ g.ntmps)
  (h:∀M0 w0 S rs M1 w1,Tr (Uj P) g.ntmps (KL 0 ps) (Hp M0 w0 S (pre++Aj M1 w1::rs)) c (Ih P g (Oi M0 w0 S rs M1 w1 C res post))):HV P f ps pre C res post:=by
 refine ⟨⟨g,hf,hname,by rw [hb];rfl⟩,fun M0 w0 S rs M w vs hI hv=> ?_⟩
 refine ND hf hb (h M0 w0 S rs M w _ _ ⟨M,?_,rfl,FT hv,?_⟩)
 ·
  have:=hv.length
  simp [this];omega
 · exact At.perm List.perm_middle.symm (At.Gi hI (r:=Aj M w) rfl (Ext.refl _ _))
end
def V0 (g:Nat) (Gh:List Nat):Ao where
 blk:=none
 new:=true
 h M w:=∀(j:Nat) (x:Nat),Gh[j]? =some x→w.cell? ⟨g,j,none⟩=some (.int .u8 (x:Int))∧¬M g j
 st M w M' w' he _ h:=fun j x hx=>by
  obtain ⟨h1,h2⟩:=h j x hx
  obtain ⟨h3,h4⟩:=he.keep ⟨g,j,none⟩ _ h1 h2
  exact ⟨h4,h3⟩
def Bx (p:Prop):Ao:=⟨none,true,fun _ _=>p,fun _ _ _ _ _ _ h=>h⟩
section
variable {P:Program} {L:Lg P} {n:Fm} {E:Env} {M0:Av} {w0:World} {S:Nat→Prop} {rs:List Ao} {o:Oper} {r:List Oper} {ops:Array Oper} {Q:Exit→Act→World→Prop} {c:Code}
theorem Tr.prop {p:Prop} (j:Nat) (hj:rs[j]? =some (Bx p)) (k:p→Tr L n E (Hp M0 w0 S rs) c Q):Tr L n E (Hp M0 w0 S rs) c Q:=fun a w hs=>by
 obtain ⟨M,h1,h2,h3,h4⟩:=hs
 have h4:At M0 w0 S rs M w:=h4
 exact k (h4.hold _ (List.mem_of_getElem? hj)).1 a w ⟨M,h1,h2,h3,h4⟩
theorem Fin.Xk {e:Exit} {p:Prop} (hp:p) (k:Fin n E (Hp M0 w0 S (Bx p::rs)) Q e):Fin n E (Hp M0 w0 S rs) Q e:=fun a w hs=>by
 obtain ⟨M,h1,h2,h3,h4⟩:=hs
 have h4:At M0 w0 S rs M w:=h4
 exact k a w ⟨M,h1,h2,h3,At.Gi h4 (r:=Bx p) rfl hp⟩
theorem Tr.Xk {p:Prop} (hp:p) (k:Tr L n E (Hp M0 w0 S (Bx p::rs)) c Q):Tr L n E (Hp M0 w0 S rs) c Q:=fun a w hs=>by
 obtain ⟨M,h1,h2,h3,h4⟩:=hs
 have h4:At M0 w0 S rs M w:=h4
 exact k a w ⟨M,h1,h2,h3,At.Gi h4 (r:=Bx p) rfl hp⟩
theorem qh {t:TypeId} {x:Operand} {g j i:Nat} {Gh:List Nat} {y:Nat} (ho:o.op= .load t x) (ht:D9 P t=true) (hx:VL E x (is (.pointer (some ⟨g,i,none⟩)))) (hy:Gh[i]? =some y):L7 P M0 w0 S j (SR.c (V0 g Gh)) o E (is (.int .u8 (y:Int))):=by
 intro M w a rs he hI hj
 have h0:a.eval x= .pointer (some ⟨g,i,none⟩):=hx.ev he (by simp [ho,Op.operands])
 have hj':rs[j]? =some (V0 g Gh):=hj
 obtain ⟨h1,_⟩:=(hI.hold _ (List.mem_of_getElem? hj')).1 i y hy
 have hrun:(execOp a.eval o).run P w= .ok (.value (.int .u8 (y:Int))) w:=by simp [execOp,ho,h0,Instr.loadAt,Instr.sureAddr,loadVar,D6 ht,h1]
 rw [hrun]
 exact ⟨rfl,Below.refl _ _⟩
end
section
variable {P:Program}
theorem Lj.of {gf:Nat} {lb:Array Value} {α:Type} {enc:α→Value} {xs:List α} {own:List α→List Ao} {g:Func} {c:Code} {ps:List Pr} (hf:P.funcs[gf]? =some g) (hb:g.body=some c) (hlen:ps.length+1≤g.ntmps) (hps:∀M w,HL M w ps lb.toList)
  (h:∀(M0:Av) (w0:World) (S:Nat→Prop) (l:Nat) (β:Type) (R Rx:List α→β→List Ao) (M1:Av) (w1:World),
   (∀pre x d M w,(pre++[x])<+:xs→At M0 w0 S (own (pre++[x])++R pre d) M w→YieldAt (DQ none) 0 P l #[enc x] w fun e w'=>∃M' d',Ext M w M' w'∧
    ((e= .returned (.bool true)∧At M0 w0 S (own (pre++[x])++R (pre++[x]) d') M' w')∨(e= .returned (.bool false)∧At M0 w0 S (own (pre++[x])++Rx (pre++[x]) d') M' w')))→
   ∀ d, Tr (Xd P none) g.ntmps (KL 0 (is (.func (.yield l) #[] #[]) :: ps)) (Hp M0 w0 S (own [] ++ Aj M1 w1 :: R [] d)) c
    (Ih P g fun e w'=>(∃v,e= .returned v)∧∃M' d',Ext M1 w1 M' w'∧(At M0 w0 S (own xs++R xs d') M' w'∨∃pre,pre<+:xs∧At M0 w0 S (own pre++Rx pre d') M' w'))):Lj P gf lb enc xs own:=by
 intro M0 w0 S l β R Rx hy d M w hI
 refine callsIn_of_wp_marks (F:=DQ none) (n:=0) hf hb trivial (h M0 w0 S l β R Rx M w hy d _ _ ⟨M,?_,rfl,?_,?_⟩)
 ·
  have:=(hps M w).length
  simp at this ⊢;omega
 ·
  have h2:HL M w (is (.func (.yield l) #[] #[])::ps) ((.func (.yield l) #[] #[])::lb.toList):=⟨rfl,hps M w⟩
  have h3:=FT (m:=g.ntmps-(#[Value.func (.yield l) #[] #[]]++lb:Array Value).size) h2
  have e1:(Value.func (.yield l) #[] #[]::lb.toList).toArray= #[Value.func (.yield l) #[] #[]]++lb:=by apply Array.ext';simp
  rw [e1] at h3;exact h3
 · exact At.perm List.perm_middle.symm (At.Gi hI (r:=Aj M w) rfl (Ext.refl _ _))
end
section
variable {P:Program} {I:CU} {E:Env} {o:Oper}
theorem eR {t u:TypeId} {x y:Operand} {b:BitVec 32} (ho:o.op= .binOp .eql t x y u) (hx:VL E x (u32 b)) (hy:VL E y (is (.int .u32 0))):Aa P I o E (bool (b==0#32)):=
 Aa.same fun M w a he _=>by
  have h1:a.eval x= .int .u32 b.toNat:=hx.ev he (by simp [ho,Op.operands])
  have h2:a.eval y= .int .u32 0:=hy.ev he (by simp [ho,Op.operands])
  refine ⟨.bool (b==0#32),?_,rfl⟩
  rw [←Xf]
  simp [execOp,ho,h1,h2,eqGuard,binOp,Op.intCmp]
theorem eS {t u:TypeId} {x y:Operand} {b:BitVec 32} (ho:o.op= .binOp .neq t x y u) (hx:VL E x (u32 b)) (hy:VL E y (is (.int .u32 0))):Aa P I o E (bool (!(b==0#32))):=
 Aa.same fun M w a he _=>by
  have h1:a.eval x= .int .u32 b.toNat:=hx.ev he (by simp [ho,Op.operands])
  have h2:a.eval y= .int .u32 0:=hy.ev he (by simp [ho,Op.operands])
  refine ⟨.bool (!(b==0#32)),?_,rfl⟩
  rw [←Xf]
  simp [execOp,ho,h1,h2,eqGuard,binOp,Op.intCmp]
  rw [Bool.eq_iff_iff];simp
theorem qi {t u:TypeId} {x y:Operand} {b:BitVec 32} {i:Nat} (ho:o.op= .binOp .eql t x y u) (hx:VL E x (u32 ((b>>>i)&&&1#32))) (hy:VL E y (is (.int .u32 1))):Aa P I o E (bool (b.getLsbD i)):=
 Aa.same fun M w a he _=>by
  have h1:a.eval x= .int .u32 ((b>>>i)&&&1#32).toNat:=hx.ev he (by simp [ho,Op.operands])
  have h2:a.eval y= .int .u32 1:=hy.ev he (by simp [ho,Op.operands])
  refine ⟨.bool (b.getLsbD i),?_,rfl⟩
  rw [←qa]
  simp [execOp,ho,h1,h2,eqGuard,binOp,Op.intCmp]
theorem eT {t:TypeId} {x:Operand} {b:BitVec 32} (ho:o.op= .unOp .neg t x) (hx:VL E x (u32 b)):Aa P I o E (u32 (-b)):=
 Aa.same fun M w a he _=>by
  have h1:a.eval x= .int .u32 b.toNat:=hx.ev he (by simp [ho,Op.operands])
  refine ⟨.int .u32 ((-b).toNat:Int),?_,rfl⟩
  have e1:IntKind.u32.wrap (0-(b.toNat:Int))=((-b).toNat:Int):=by
   rw [Xe,BitVec.toNat_neg];have:=b.isLt;omega
  rw [←e1]
  simp [execOp,ho,h1,Op.unary,Op.intArith]
theorem eU {t u:TypeId} {x y:Operand} {b c:BitVec 32} (ho:o.op= .binOp .mul t x y u) (hx:VL E x (u32 b)) (hy:VL E y (u32 c)):Aa P I o E (u32 (b*c)):=
 Aa.same fun M w a he _=>by
  have h1:a.eval x= .int .u32 b.toNat:=hx.ev he (by simp [ho,Op.operands])
  have h2:a.eval y= .int .u32 c.toNat:=hy.ev he (by simp [ho,Op.operands])
  refine ⟨.int .u32 ((b*c).toNat:Int),?_,rfl⟩
  have e1:IntKind.u32.wrap ((b.toNat:Int)*(c.toNat:Int))=((b*c).toNat:Int):=by
   rw [Xe,BitVec.toNat_mul]
   have e2:(b.toNat:Int)*(c.toNat:Int)=((b.toNat*c.toNat:Nat):Int):=by rw [Int.natCast_mul]
   rw [e2]
   generalize b.toNat*c.toNat=n
   show ((n:Int) % 4294967296)=((n % 4294967296:Nat):Int)
   omega
  rw [←e1]
  simp [execOp,ho,h1,h2,eqGuard,binOp,Op.intArith]
theorem kS {t u:TypeId} {x y:Operand} {b:BitVec 32} {k:IntKind} {i:Int} (ho:o.op= .binOp .shr t x y u) (hx:VL E x (u32 b)) (hy:VL E y (is (.int k i))) (hi:0≤i):Aa P I o E (u32 (b>>>i.toNat)):=
 Aa.same fun M w a he _=>by
  have h1:a.eval x= .int .u32 b.toNat:=hx.ev he (by simp [ho,Op.operands])
  have h2:a.eval y= .int k i:=hy.ev he (by simp [ho,Op.operands])
  refine ⟨.int .u32 ((b>>>i.toNat).toNat:Int),?_,rfl⟩
  rw [←eI]
  simp [execOp,ho,h1,h2,eqGuard,binOp,Op.shift,show ¬i<0 by omega,IntKind.bits]
theorem V1 {t e:TypeId} {x y:Operand} {k:IntKind} {i:Int} {g len:Nat} (ho:o.op= .indexAddr t x y) (ht:P.underlying t=some (.array len e)) (hz:Ay P e=some 1) (hx:VL E x (is (.pointer (some ⟨g,0,none⟩)))) (hy:VL E y (is (.int k i))) (h0:0≤i) (h1:i<len):
  Aa P I o E (is (.pointer (some ⟨g,i.toNat,none⟩))):=
 Aa.same fun M w a he _=>by
  have h2:a.eval x= .pointer (some ⟨g,0,none⟩):=hx.ev he (by simp [ho,Op.operands])
  have h3:a.eval y= .int k i:=hy.ev he (by simp [ho,Op.operands])
  refine ⟨.pointer (some ⟨g,i.toNat,none⟩),?_,rfl⟩
  simp [execOp,ho,h2,h3,Instr.indexAt,asIntOf,run_underlying ht,Ce hz,h0,h1,Instr.sureAddr,Addr.add]
  intro;omega
end
end Cp
namespace Go.Proofs.YtkobgkelhcigdaaGreatDoor
open Go Go.RowKit Cp Go.Proofs.Tryz
abbrev FC:Ao:=V0 0 UD
theorem R5 {b:BitVec 32} (h:b≠0#32):UD[(((((b&&& -b)*125613361#32)>>>27).toNat:Nat):Int).toNat]? =some (Ir b):=by
 rw [Int.toNat_natCast,Y8 h];exact kO _ (Vy h)
theorem kU (b:BitVec 32):(((b>>>27).toNat:Nat):Int)<32:=by
 rw [BitVec.toNat_ushiftRight,Nat.shiftRight_eq_div_pow];have:=b.isLt;omega
theorem qj {b:BitVec 32} (hb:b≠0#32):CX prog 117 [u32 b] (int ((Ir b:Nat):Int)) (FC) (fun _=>FC):=by
 refine CX.of func117 rfl rfl (by exact Nb rfl) fun M0 w0 S rs M1 w1=> ?_
 have Yk:=Vy hb
 refine Tr.seq (Tr.Ah (cm rfl (Ch.nil (Fin.go (Tr.seq (Tr.seq (Tr.Ah (cm rfl (co rfl (eR rfl (vl rfl) (vl rfl)) (Ch.nil (Fin.go ?_)))))))))))
 refine Tr.cn rfl ?_ ?_<;>intro h1 q1
 exfalso;exact hb (by simpa using h1)
 refine Tr.skip (Fin.go (Tr.seq (Tr.Ah (cm rfl (cm rfl (co rfl (eT rfl (vl rfl)) (co rfl (UB rfl (vl rfl) (vl rfl)) ?_)))))))
 refine co rfl (eU (c:=125613361#32) rfl (vl rfl) (vl rfl)) ?_
 refine co rfl (kS rfl (vl rfl) (vl rfl) (by decide)) (co rfl (V1 rfl underlying263 L1 (vl rfl) (vl rfl) (Int.natCast_nonneg _) (kU _)) (co rfl (DK 0 rfl (qh rfl rfl (vl rfl) (R5 hb))) ?_))
 refine co rfl (aJ rfl underlying5 underlying3 (vl rfl) (by unfold Kz;omega)) ?_
 refine cm rfl (Ch.nil (Fin.go (Tr.ret (Fin.Qg rfl rfl ?_ (fun _ _ _ _=>rfl)))))
 · exact Lr
end Go.Proofs.YtkobgkelhcigdaaGreatDoor
namespace Cp
open Go Go.RowKit Go.Great
section
variable {P:Program} {Q:Exit→Act→World→Prop} {K:Act→World→Prop} {a:Act} {w:World} {o:Oper} {ops:Array Oper}
theorem IK {i:Nat} {rest:List Nat} (ho:ops[i]? =some o) (hg:o.guard=none) (h:o.wpIn (DQ none) 0 P a w (wpOpsIn (DQ none) 0 P ops Q rest) Q):wpOpsIn (DQ none) 0 P ops Q (i::rest) a w:=by
 unfold wpOpsIn;rw [ho];dsimp only;rw [if_pos (by simp [Region.wanted,hg])];exact h
theorem Xl {x:Operand} (ho:o.op= .move x) (k:K (a.put o.dst (a.eval x)) w):o.wpIn (DQ none) 0 P a w K Q:=
 Xc (by unfold KE;rw [ho]) (fun _ _ h=>h) (by unfold Oper.wp;simp [execOp,ho];exact k)
theorem ql {t:TypeId} {x:Operand} {b:Bool} (ho:o.op= .unOp .not t x) (hx:a.eval x= .bool b) (k:K (a.put o.dst (.bool (!b))) w):o.wpIn (DQ none) 0 P a w K Q:=
 Xc (by unfold KE;rw [ho]) (fun _ _ h=>h) (by unfold Oper.wp;simp [execOp,ho,hx,Op.unary];exact k)
theorem Tr.eV {n:Fm} {E:Env} {M0 M1:Av} {w0 w1:World} {S:Nat→Prop} {id t0 t3 d0 d1 d2 d3:Nat} {o0 o1 o2 o3:Oper} {ts:Array TypeId} {ty:TypeId} {α β:Type} {l:Nat} {enc:α→Value} {xs:List α} {own:List α→List Ao} {R Rx:List α→β→List Ao} {pre:List α} {x:α} {d:β}
  (hy:∀pre x d M w,(pre++[x])<+:xs→At M0 w0 S (own (pre++[x])++R pre d) M w→YieldAt (DQ none) 0 P l #[enc x] w fun e w'=>∃M' d',Ext M w M' w'∧
    ((e= .returned (.bool true)∧At M0 w0 S (own (pre++[x])++R (pre++[x]) d') M' w')∨(e= .returned (.bool false)∧At M0 w0 S (own (pre++[x])++Rx (pre++[x]) d') M' w')))
  (hpre:(pre++[x])<+:xs) (g0:o0.guard=none) (g1:o1.guard=none) (g2:o2.guard=none) (g3:o3.guard=none) (p0:o0.op= .move (.tmp t0)) (p1:o1.op= .move (.tmp t3)) (p2:o2.op= .call { callee:= .value (.tmp d0),args:= #[.tmp d1],argTypes:=ts }) (p3:o3.op= .unOp .not ty (.tmp d2))
  (e0:o0.dst=some d0) (e1:o1.dst=some d1) (e2:o2.dst=some d2) (e3:o3.dst=some d3) (n0:d0<n) (n1:d1<n) (n2:d2<n) (n3:d3<n) (ne:d0≠d1∧t3≠d0)
  (h0:E.lookup t0=some (is (.func (.yield l) #[] #[]))) (h3:E.lookup t3=some (is (enc x))) (f0:E.lookup d0=none) (f1:E.lookup d1=none) (f2:E.lookup d2=none)
  (kT:∀d',Fin n ((d3,bool false)::E) (Hp M0 w0 S (own (pre++[x])++Aj M1 w1::R (pre++[x]) d')) Q .normal)
  (kF:∀d',Fin n ((d3,bool true)::E) (Hp M0 w0 S (own (pre++[x])++Aj M1 w1::Rx (pre++[x]) d')) Q .normal):
  Tr (Xd P none) n E (Hp M0 w0 S (own (pre++[x])++Aj M1 w1::R pre d)) (.region id #[o0,o1,o2,o3] false) Q:=by
 rintro a w ⟨M,hsz,hdf,hE,hI⟩
 have hI:At M0 w0 S (own (pre++[x])++Aj M1 w1::R pre d) M w:=hI
 obtain ⟨hx,hI2⟩:=YX hI
 have Zt:a.tmps.getD t0 undef= .func (.yield l) #[] #[]:=hE _ _ h0
 have hv3:a.tmps.getD t3 undef=enc x:=hE _ _ h3
 have fin:∀(b:Bool) (tl:List Ao) (w':World) (M':Av),Ext M w M' w'→At M0 w0 S (own (pre++[x])++tl) M' w'→
   St n ((d3,bool (!b))::E) (Hp M0 w0 S (own (pre++[x])++Aj M1 w1::tl)) ((((a.put (some d0) (.func (.yield l) #[] #[])).put (some d1) (enc x)).put (some d2) (.bool b)).put (some d3) (.bool (!b))) w':=by
  intro b tl w' M' he hh
  refine ⟨M',by simp only [Bm];exact hsz,by simp only [put_defers];exact hdf,fun s q hq=> ?_,At.perm List.perm_middle.symm (At.Gi hh (r:=Aj M1 w1) rfl (hx.trans he))⟩
  simp only [List.lookup] at hq
  by_cases hs:s=d3
  · subst hs;simp at hq;subst hq;rw [Ba (by simp only [Bm];rw [hsz];exact n3)];rfl
  ·
   rw [show (s==d3)=false by simpa using hs] at hq
   have R9:s≠d2:=fun e=>by rw [e,f2] at hq;cases hq
   have hs1:s≠d1:=fun e=>by rw [e,f1] at hq;cases hq
   have hs0:s≠d0:=fun e=>by rw [e,f0] at hq;cases hq
   rw [BF hs,BF R9,BF hs1,BF hs0]
   exact q.st _ _ _ _ _ he (hE s q hq)
 refine wpIn_region ?_
 show wpOpsIn (DQ none) 0 P _ Q [0,1,2,3] a w
 refine IK (o:=o0) rfl g0 (Xl p0 ?_)
 refine IK (o:=o1) rfl g1 (Xl p1 ?_)
 rw [e0,e1]
 have k0:a.eval (.tmp t0)= .func (.yield l) #[] #[]:=Zt
 have k3:(a.put (some d0) (a.eval (.tmp t0))).eval (.tmp t3)=enc x:=by
  show (a.put (some d0) _).tmps.getD t3 undef=_
  rw [BF ne.2];exact hv3
 rw [k3,k0]
 refine IK (o:=o2) rfl g2 (eD (v:=enc x) p2 ?_ ?_ (hy pre x d M w hpre hI2) ?_)
 ·
  show (Act.put _ _ _).tmps.getD d0 undef=_
  rw [BF ne.1,Ba (by rw [hsz];exact n0)]
 ·
  show (Act.put _ _ _).tmps.getD d1 undef=_
  rw [Ba (by rw [Bm,hsz];exact n1)]
 ·
  rintro e w' ⟨M',d',he,hh⟩
  have hnot:∀(b:Bool) (tl:List Ao),At M0 w0 S (own (pre++[x])++tl) M' w'→Fin n ((d3,bool (!b))::E) (Hp M0 w0 S (own (pre++[x])++Aj M1 w1::tl)) Q .normal→wpOpsIn (DQ none) 0 P #[o0,o1,o2,o3] Q [3] (((a.put (some d0) (.func (.yield l) #[] #[])).put (some d1) (enc x)).put o2.dst (.bool b)) w':=by
   intro b tl hh k
   rw [e2]
   refine IK (o:=o3) rfl g3 (ql (b:=b) p3 ?_ ?_)
   ·
    show (Act.put _ _ _).tmps.getD d2 undef=_
    rw [Ba (by simp only [Bm];rw [hsz];exact n2)]
   ·
    rw [e3]
    exact k _ _ (fin b tl w' M' he hh)
  rcases hh with ⟨rfl,hh⟩|⟨rfl,hh⟩
  · exact ⟨_,rfl,hnot true _ hh (kT d')⟩
  · exact ⟨_,rfl,hnot false _ hh (kF d')⟩
theorem kV {I:CU} {E:Env} {f:Fn} {x:Operand} {u:Value} (ho:o.op= .makeFunc f #[] #[x]) (hx:VL E x (is u)):Aa P I o E (is (.func f #[] #[u])):=
 Aa.same fun M w a he _=>by
  have h1:a.eval x=u:=hx.ev he (by simp [ho,Op.operands])
  exact ⟨.func f #[] #[u],by simp [execOp,ho,Instr.makeFunc,h1],rfl⟩
end
section
variable {P:Program} {L:Lg P} {n:Fm} {fz:Nat} {E:Env} {M0:Av} {w0:World} {S:Nat→Prop} {o:Oper}
def JP (p:Pr) (v:Value):Ao:=⟨none,true,fun M w=>p.h M w v,fun M w M' w' he _ h=>p.st M w M' w' v he h⟩
def nC (e:TypeId) (zs:List Value) (v:Value):Ao:=match v with| .slice (some a) _ _=>AB true a.block e (zs.map is)|_=>Bp
def eW (R:Value→Value→Value→Ao) (u:Value):Ao:=match u with| .tuple t=>R (t.getD 1 undef) (t.getD 2 undef) (t.getD 0 undef)|_=>Bp
def UG (R:Value→Value→Ao) (u:Value):Ao:=match u with| .tuple t=>R (t.getD 1 undef) (t.getD 0 undef)|_=>Bp
theorem V2 {a:Act} {d s t:Nat} {R:Value→Value→Value→Ao}:SR.at_ a ⟨.three d s t,eW R⟩=R (a.tmps.getD s undef) (a.tmps.getD t undef) (a.tmps.getD d undef):=rfl
theorem N3 {a:Act} {d s:Nat} {R:Value→Value→Ao}:SR.at_ a ⟨.two d s,UG R⟩=R (a.tmps.getD s undef) (a.tmps.getD d undef):=rfl
theorem Dn.conv {a:Act} {M:Av} {w:World} {p q:Pr} {j:Nat} {R1 R2:SR} {rs:List Ao} {r:Result Next} (hq:Pr.le p q) (hR:∀v,R1.at_ (a.put o.dst v)=R2.at_ (a.put o.dst v)) (h:Dn P M0 w0 S o a M w p j R1 rs r):Dn P M0 w0 S o a M w q j R2 rs r:=by
 cases r with
 |halt x w'=>exact h
 |ok x w'=>
  cases x
  case value v=>obtain ⟨M',g1,g2,g3⟩:=h;exact ⟨M',hq _ _ _ g1,g2,by rw [←hR];exact g3⟩
  case skip=>obtain ⟨M',g1,g2,g3⟩:=h;exact ⟨M',hq _ _ _ g1,g2,by rw [←hR];exact g3⟩
  case enter f args=>
   refine Calls.mono h ?_
   rintro e w'' ⟨v,M',g0,g1,g2,g3⟩
   exact ⟨v,M',g0,hq _ _ _ g1,g2,by rw [←hR];exact g3⟩
  all_goals exact h
theorem IL {M:Av} {w:World} {a:Act} (h:CL M w E o a) (s:Nat) {p0:Pr} (nZ:p0.h M w (a.tmps.getD s undef)):CL M w ((s,Ag (a.tmps.getD s undef) p0)::E) o a:=fun c p hc hp=>by
 simp only [List.lookup] at hp
 by_cases hcs:c=s
 · subst hcs;simp only [beq_self_eq_true,Option.some.injEq] at hp;subst hp;exact ⟨rfl,nZ⟩
 · rw [show (c==s)=false by simpa using hcs] at hp;exact h c p hc hp
theorem qm {j d s t:Nat} {R:SR} {p1 p2 q:Pr} {p:Value→Value→Pr} {R':Value→Value→Value→Ao} (hd:o.dst=some d) (hs:d≠s) (ht:d≠t) (hq:∀v1 v2,Pr.le (p v1 v2) q) (hg:o.guard=none) (h1:E.lookup s=some p1) (h2:E.lookup t=some p2) (hls:s∈looks o) (hlt:t∈looks o) (h:∀v1 v2,DI P M0 w0 S n j R ⟨d,R' v1 v2⟩ o ((s,Ag v1 p1)::(t,Ag v2 p2)::E) (p v1 v2)):DI P M0 w0 S n j R ⟨.three d s t,eW R'⟩ o E q:=by
 refine ⟨hg,fun M w a rs hsz he hI hj=> ?_⟩
 refine Dn.conv (hq _ _) (fun v=> ?_) ((h (a.tmps.getD s undef) (a.tmps.getD t undef)).2 M w a rs hsz (IL (IL he t (he t p2 hlt h2)) s (he s p1 hls h1)) hI hj)
 rw [V2,hd,BF (Ne.symm hs),BF (Ne.symm ht)];rfl
theorem eX {j d:Nat} {p:Pr} (hg:o.guard=none) (hd:o.dst=some d) (hn:d<n) (h:∀I,Aa P I o E p):DI P M0 w0 S n j (SR.c Bp) ⟨d,JP p⟩ o E p:=by
 refine ⟨hg,fun M w a rs hsz he hI hj=> ?_⟩
 have hj':rs[j]? =some Bp:=hj
 have hat:∀v,SR.at_ (a.put o.dst v) ⟨d,JP p⟩=JP p v:=fun v=>by show JP p ((a.put o.dst v).tmps.getD d undef)=_;rw [hd,Ba (by rw [hsz];exact hn)]
 have kW:=h (Hp M0 w0 S rs) M w a he hI
 revert kW
 generalize (execOp a.eval o).run P w=r
 intro kW
 have key:∀v w',p.h M w' v→Below w.heap.size w w'→∃M',p.h M' w' v∧Ext M w M' w'∧At M0 w0 S (rs.set j (SR.at_ (a.put o.dst v) ⟨d,JP p⟩)) M' w':=fun v w' hv hb=>by
  refine ⟨M,hv,Ext.below hb,?_⟩
  rw [hat]
  exact At.Cl ((Hp M0 w0 S rs).st _ _ _ hb hI) hj' rfl rfl hv
 cases r with
 |halt x w'=>exact kW
 |ok x w'=>
  cases x
  case value v=>exact key v w' kW.1 kW.2
  case skip=>exact key undef w' kW.1 kW.2
  case enter f args=>
   obtain ⟨hb,hc⟩:=kW
   refine Calls.mono hc ?_
   rintro e w'' ⟨v,g0,g1,g2⟩
   obtain ⟨M',k1,k2,k3⟩:=key v w'' g1 (Mj hb g2)
   exact ⟨v,M',g0,k1,k2,k3⟩
  all_goals exact kW
theorem eY {t e:TypeId} {x y:Operand} {d j m YQ:Nat} {z:Value} (hg:o.guard=none) (hd:o.dst=some d) (hn:d<n) (ho:o.op= .makeSlice t x y) (ht:P.underlying t=some (.slice e)) (hs:Ay P e=some 1) (hby:Bk P e=some YQ) (hz:BL P e=some [z]) (h1:z.oneCell'=true)
  (hx:VL E x (int ((m:Nat):Int))) (hy:VL E y (int ((m:Nat):Int))) (hm:m≤maxLen) (hb:YQ*m≤281474976710656):DI P M0 w0 S n j (SR.c Bp) ⟨d,nC e (List.replicate m z)⟩ o E (Cp.ex fun b=>is (Im m b)):=by
 refine ⟨hg,fun M w a rs NL he hI hj=> ?_⟩
 have hx1:a.eval x= .int .i64 m:=hx.ev he (by simp [ho,Op.operands])
 have hy1:a.eval y= .int .i64 m:=hy.ev he (by simp [ho,Op.operands])
 have hi:∃i,P.info? e=some i∧i.size=1∧i.bytes=YQ∧∃z',i.zero=some z'∧z'.cells= #[z]:=by
  unfold Ay at hs;unfold Bk at hby;unfold BL at hz
  cases hi:P.info? e with
  |none=>rw [hi] at hs;cases hs
  |some i=>
   rw [hi] at hs hby hz
   simp at hs hby hz
   obtain ⟨z',h2,h3⟩:=hz
   exact ⟨i,rfl,hs,hby,z',h2,by rw [←Array.toList_inj,h3]⟩
 obtain ⟨i,hi,hi1,hi2,z',FE,Gf⟩:=hi
 have hmk:madeCells z'.cells m=(List.replicate m z).toArray:=by
  rw [Gf]
  apply Array.ext
  · simp [madeCells]
  ·
   intro j h1 h2
   simp [madeCells,Nat.mod_one]
 have hrun:=run_make (P:=P) w t e i z' ht hi FE .i64 .i64 (m:Int) (m:Int) (by omega) (Int.le_refl _) (by rw [hi2];have h0:((YQ*m:Nat):Int)≤281474976710656:=Int.ofNat_le.2 hb;rw [←Int.natCast_mul];exact h0) (by unfold maxLen at hm;omega)
 rw [hi1] at hrun
 simp only [Int.toNat_natCast,Nat.mul_one] at hrun
 rw [hmk] at hrun
 have E7:(execOp a.eval o).run P w= .ok (.value (Im m w.heap.size)) (w.alloc (.cells (List.replicate m z).toArray e)):=by simp [execOp,ho,hx1,hy1,hrun]
 rw [E7]
 have hb:Below w.heap.size w (w.alloc (.cells (List.replicate m z).toArray e)):=(Below.refl _ _).alloc (Nat.le_refl _) _
 have h2:=Ext.below (M:=M) hb
 have Ej:Ext M w (fun b o=>M b o∨b=w.heap.size) (w.alloc (.cells (List.replicate m z).toArray e)):=by
  refine ⟨h2.size,fun a v hc hm=>⟨fun hx=> ?_,(h2.keep a v hc hm).2⟩,fun b o ho hp hm=>⟨fun hx=> ?_,(h2.obj b o ho hp hm).2⟩⟩
  ·
   rcases hx with hx|hx
   · exact hm hx
   · have:=EG hc;omega
  ·
   rcases hx with hx|hx
   · exact hm hx
   · subst hx;simp at ho
 have hs1:(w.alloc (.cells (List.replicate m z).toArray e)).heap.size=w.heap.size+1:=by simp
 have hat:(SR.at_ (a.put o.dst (Im m w.heap.size)) ⟨d,nC e (List.replicate m z)⟩)=AB true w.heap.size e ((List.replicate m z).map is):=by unfold SR.at_ Slot.val;dsimp only;rw [hd,Ba (by rw [NL];exact hn)];rfl
 refine ⟨fun b o=>M b o∨b=w.heap.size,⟨_,rfl⟩,Ej,?_⟩
 rw [hat]
 refine hI.replace hj Ej hb.os hb.tape hb.output (fun k hk _=>hb.block k hk) rfl (fun b o hm _=> .inl hm) (fun b o hx=> ?_) ?_ rfl (fun b hbk=> ?_)
 ·
  rcases hx with hx|hx
  · have:=hI.bd _ _ hx;omega
  · omega
 · exact ⟨fun o=> .inr rfl,List.replicate m z,heap_alloc_new w _,J7 _ _ _,fun c hc=>by rw [List.eq_of_mem_replicate hc];exact h1⟩
 ·
  have Ee:some w.heap.size=some b:=hbk
  injection Ee with e1
  subst e1
  exact ⟨by rw [hs1];omega,.inr (Nat.le_refl _)⟩
theorem MY {s:Nat} {op:Op} (h:(Operand.tmp s)∈op.operands.toList) (ho:o.op=op):s∈looks o:=List.mem_filterMap.2 ⟨_,by rw [ho];exact h,rfl⟩
theorem kX {d j s x y:Nat} {T:TypeId} {ps:Value→Value→List Pr} (hg:o.guard=none) (hd:o.dst=some d) (hn:d<n) (ho:o.op= .box T (.tmp s)) (hx:d≠x) (hy:d≠y):
  DI P M0 w0 S n j ⟨.three s x y,eW fun v1 v2=>JP (agg (ps v1 v2))⟩ ⟨.three d x y,eW fun v1 v2=>EO T (ps v1 v2)⟩ o E (Cp.ex fun b=>ptr b 0):=by
 refine ⟨hg,fun M w a rs hsz he hI hj=> ?_⟩
 have hj':rs[j]? =some (JP (agg (ps (a.tmps.getD x undef) (a.tmps.getD y undef))) (a.tmps.getD s undef)):=hj
 have hjl:j<rs.length:=by rcases Nat.lt_or_ge j rs.length with h|h;exact h;rw [List.getElem?_eq_none h] at hj';cases hj'
 have hr:=(hI.hold _ (List.mem_of_getElem? hj')).1
 have hI2:At M0 w0 S (rs.set j Bp) M w:=At.Cl hI hj' rfl rfl trivial
 have gV:CL M w ((s,agg (ps (a.tmps.getD x undef) (a.tmps.getD y undef)))::E) o a:=fun c p hc hp=>by
  simp only [List.lookup] at hp
  by_cases hcs:c=s
  · subst hcs;simp only [beq_self_eq_true,Option.some.injEq] at hp;subst hp;exact hr
  · rw [show (c==s)=false by simpa using hcs] at hp;exact he c p hc hp
 have h:=(kG (P:=P) (M0:=M0) (w0:=w0) (S:=S) (n:=n) (j:=j) (T:=T) (ps:=ps (a.tmps.getD x undef) (a.tmps.getD y undef)) (E:=(s,agg (ps (a.tmps.getD x undef) (a.tmps.getD y undef)))::E) hg hd hn ho (VL.le ⟨_,List.lookup_cons_self,Pr.le_refl _⟩ (AZ _))).2 M w a _ hsz gV hI2 (by rw [List.getElem?_set_self hjl];rfl)
 have h2:Dn P M0 w0 S o a M w (Cp.ex fun b=>ptr b 0) j ⟨d,EO T (ps (a.tmps.getD x undef) (a.tmps.getD y undef))⟩ rs ((execOp a.eval o).run P w):=by
  revert h
  generalize (execOp a.eval o).run P w=r
  intro h
  cases r with
  |halt x w'=>exact h
  |ok x w'=>
   cases x
   case value v=>simpa only [Dn,List.set_set] using h
   case skip=>simpa only [Dn,List.set_set] using h
   case enter f args=>simpa only [Dn,List.set_set] using h
   all_goals exact h
 refine Dn.conv (Pr.le_refl _) (fun v=> ?_) h2
 rw [V2,hd,BF (Ne.symm hx),BF (Ne.symm hy)];rfl
theorem Y9 {t:TypeId} {s y:Tmp} {j:Nat} {T:TypeId} {ps:List Pr} {p:Pr} [One p] (hg:o.guard=none) (hd:o.dst=none) (ho:o.op= .store t (.tmp s) (.tmp y)) (hsy:s≠y) (hx:E.lookup s=some (Cp.ex fun b=>ptr b 0)) (hy:E.lookup y=some p)
  (hz:Ay P t=some 1) (hl:ps.length=1):DI P M0 w0 S n j ⟨s,EO T ps⟩ ⟨.two s y,UG fun v=>EO T [Ag v p]⟩ o E any:=by
 refine ⟨hg,fun M w a rs hsz he hI hj=> ?_⟩
 have hyl:y∈looks o:=MY (op:= .store t (.tmp s) (.tmp y)) (by simp [Op.operands]) ho
 have gV:CL M w ((y,Ag (a.tmps.getD y undef) p)::E) o a:=fun c q hc hq=>by
  simp only [List.lookup] at hq
  by_cases hcs:c=y
  · subst hcs;simp only [beq_self_eq_true,Option.some.injEq] at hq;subst hq;exact ⟨rfl,he _ p hyl hy⟩
  · rw [show (c==y)=false by simpa using hcs] at hq;exact he c q hc hq
 have h:=(DC (P:=P) (M0:=M0) (w0:=w0) (S:=S) (n:=n) (j:=j) (T:=T) (ps:=ps) (qs:=[Ag (a.tmps.getD y undef) p]) (E:=(y,Ag (a.tmps.getD y undef) p)::E) hg hd ho (by simp only [List.lookup];rw [show (s==y)=false by simpa using hsy];exact hx) (VL.le ⟨_,List.lookup_cons_self,Pr.le_refl _⟩ (Ae _)) hz rfl hl).2 M w a rs hsz gV hI hj
 refine Dn.conv (Pr.le_refl _) (fun v=> ?_) h
 rw [N3,hd];rfl
theorem BH.pin {Q:Exit→Act→World→Prop} {rs:List SR} (s:Nat) {p:Pr} (hs:E.lookup s=some p) (k:∀v,BH n M0 w0 S ((s,Ag v p)::E) rs Q):BH n M0 w0 S E rs Q:=by
 rintro a w ⟨M,g1,g2,g3,g4⟩
 refine k (a.tmps.getD s undef) a w ⟨M,g1,g2,fun c z hz=> ?_,g4⟩
 simp only [List.lookup] at hz
 by_cases hcs:c=s
 · subst hcs;simp only [beq_self_eq_true,Option.some.injEq] at hz;subst hz;exact ⟨rfl,g3 c p hs⟩
 · rw [show (c==s)=false by simpa using hcs] at hz;exact g3 c z hz
theorem BH.fix {Q:Exit→Act→World→Prop} {rs:List SR} (j:Nat) {R:SR} (r:Ao) (hR:rs[j]? =some R) (hs:∀a:Act,(∃M w,E4 M w E a)→R.at_ a=r) (k:BH n M0 w0 S E (rs.set j (SR.c r)) Q):BH n M0 w0 S E rs Q:=by
 rintro a w ⟨M,g1,g2,g3,g4⟩
 refine k a w ⟨M,g1,g2,g3,?_⟩
 have e:=hs a ⟨M,w,g3⟩
 have e3:(rs.set j (SR.c r)).map (·.at_ a)=rs.map (·.at_ a):=by
  apply List.ext_getElem?
  intro m
  rw [List.getElem?_map,List.getElem?_map,List.getElem?_set]
  by_cases nW:j=m
  ·
   subst nW
   have hjl:j<rs.length:=by rcases Nat.lt_or_ge j rs.length with h|h;exact h;rw [List.getElem?_eq_none h] at hR;cases hR
   rw [if_pos rfl,if_pos hjl,hR]
   show some ((SR.c r).at_ a)=some (R.at_ a)
   rw [e];rfl
  · rw [if_neg nW]
 rw [e3];exact g4
theorem MZ {M:Av} {w:World} {a:Act} {s:Nat} {v:Value} {p:Pr} (h:E4 M w E a) (hs:E.lookup s=some (Ag v p)):a.tmps.getD s undef=v:=(h s _ hs).1
theorem BH.qn {Q:Exit→Act→World→Prop} {rs:List SR} (j s:Nat) {f:Value→Ao} {v:Value} {p:Pr} (hR:rs[j]? =some ⟨s,f⟩) (hs:E.lookup s=some (Ag v p)) (k:BH n M0 w0 S E (rs.set j (SR.c (f v))) Q):BH n M0 w0 S E rs Q:=
 BH.fix j _ hR (fun a ⟨_,_,h⟩=>by show f (a.tmps.getD s undef)=_;rw [MZ h hs]) k
theorem BH.qo {Q:Exit→Act→World→Prop} {rs:List SR} (j d s:Nat) {f:Value→Value→Ao} {u v:Value} {p q:Pr} (hR:rs[j]? =some ⟨.two d s,UG f⟩) (hd:E.lookup d=some (Ag u p)) (hs:E.lookup s=some (Ag v q)) (k:BH n M0 w0 S E (rs.set j (SR.c (f v u))) Q):BH n M0 w0 S E rs Q:=
 BH.fix j _ hR (fun a ⟨_,_,h⟩=>by rw [N3,MZ h hs,MZ h hd]) k
theorem BH.AAw {Q:Exit→Act→World→Prop} {rs:List SR} (j d s t:Nat) {f:Value→Value→Value→Ao} {u v1 v2:Value} {p q1 q2:Pr} (hR:rs[j]? =some ⟨.three d s t,eW f⟩) (hd:E.lookup d=some (Ag u p)) (hs:E.lookup s=some (Ag v1 q1)) (ht:E.lookup t=some (Ag v2 q2)) (k:BH n M0 w0 S E (rs.set j (SR.c (f v1 v2 u))) Q):BH n M0 w0 S E rs Q:=
 BH.fix j _ hR (fun a ⟨_,_,h⟩=>by rw [V2,MZ h hs,MZ h ht,MZ h hd]) k
end
section
variable {P:Program} {L:Lg P} {n:Fm} {fz:Nat} {E:Env} {I:CU} {M0:Av} {w0:World} {S:Nat→Prop} {rs:List Ao} {Q:Exit→Act→World→Prop} {c:Code}
theorem Fin.shape {e:Exit} (s:Nat) {v:Value} (form:Nat→Value) (hs:E.lookup s=some (Ag v (Cp.ex fun b=>is (form b)))) (k:∀b,v=form b→Fin n ((s,is (form b))::E) (Hp M0 w0 S rs) Q e):Fin n E (Hp M0 w0 S rs) Q e:=by
 intro a w hst
 obtain ⟨M,h1,h2,he,h4⟩:=hst
 obtain ⟨h5,b,h6⟩:=he s _ hs
 have hv:v=form b:=by rw [←h5];exact h6
 refine k b hv a w ⟨M,h1,h2,fun c z hz=> ?_,h4⟩
 simp only [List.lookup] at hz
 by_cases hcs:c=s
 · subst hcs;simp only [beq_self_eq_true,Option.some.injEq] at hz;subst hz;exact h6
 · rw [show (c==s)=false by simpa using hcs] at hz;exact he c z hz
theorem Fin.JQ {e:Exit} (j:Nat) {r:Ao} (r':Ao) (hi:rs[j]? =some r) (h:r=r') (k:Fin n E (Hp M0 w0 S (rs.set j r')) Q e):Fin n E (Hp M0 w0 S rs) Q e:=by
 subst h
 have hjl:j<rs.length:=by rcases Nat.lt_or_ge j rs.length with h|h;exact h;rw [List.getElem?_eq_none h] at hi;cases hi
 have e1:rs.set j r=rs:=by
  apply List.ext_getElem?
  intro m
  rw [List.getElem?_set]
  by_cases nW:j=m
  · subst nW;rw [if_pos rfl,if_pos hjl,hi]
  · rw [if_neg nW]
 rw [e1] at k;exact k
theorem Tr.we {α:Type} (ni:α→Fm) (Ei:α→Env) (Ii:α→CU) (C:α→Prop) (μ:α→Nat) (x0:α) (hn:ni x0=n) (h0:C x0) (hs:CD E (Ei x0)) (hI:∀M w,I.h M w→(Ii x0).h M w)
  (k:∀x,C x→Tr L (ni x) (Ei x) (Ii x) c (Exit.then (fun a w=>∃y,(C y∧μ y<μ x)∧St (ni y) (Ei y) (Ii y) a w) Q)):Tr L n E I (.loop c) Q:=by
 intro a w hst
 refine L.loop μ (fun x a w=>C x∧St (ni x) (Ei x) (Ii x) a w) (fun x a w ⟨hc,h⟩=> ?_) x0 a w ⟨h0,?_⟩
 ·
  refine L.mono ?_ (k x hc a w h)
  intro e a w hq
  cases e with
  |normal=>obtain ⟨y,⟨h1,h2⟩,h3⟩:=hq;exact ⟨y,h2,h1,h3⟩
  |_=>exact hq
 · rw [hn];exact hst.sub hs hI
theorem Fin.Lp {e:Exit} {rs':List Ao} (hp:rs.Perm rs') (k:Fin n E (Hp M0 w0 S rs') Q e):Fin n E (Hp M0 w0 S rs) Q e:=fun a w ⟨M,h1,h2,h3,h4⟩=>k a w ⟨M,h1,h2,h3,At.perm hp h4⟩
theorem CX.ofM {f : FuncId} {g : Func} {ps : List Pr} {res : Pr} {R : Ao} {R' : Value → Ao} (hf : P.funcs[f]? = some g) (hb : g.body = some c) (hname : (g.name == "runtime.NumGoroutine") = false) (hlen : ps.length ≤ g.ntmps)
  (h:∀M0 w0 S rs M1 w1,Tr (Uj P) g.ntmps (KL 0 ps) (Hp M0 w0 S (R::Aj M1 w1::rs)) c (Ih P g (OK M0 w0 S rs M1 w1 res R'))):CX P f ps res R R':=by
 refine ⟨⟨g,hf,hname,by rw [hb];rfl⟩,fun M0 w0 S rs M w vs hI hv=> ?_⟩
 refine ND hf hb (h M0 w0 S rs M w _ _ ⟨M,?_,rfl,FT hv,?_⟩)
 ·
  have:=hv.length
  simp [this];omega
 · exact At.perm (List.Perm.swap _ _ _) (At.Gi hI (r:=Aj M w) rfl (Ext.refl _ _))
end
section
variable {P:Program} {L:Lg P} {n:Fm} {fz:Nat} {E:Env} {I:CU} {M0:Av} {w0:World} {S:Nat→Prop} {rs:List Ao} {Q:Exit→Act→World→Prop} {c:Code}
abbrev Fi (l D:Nat) (rec:Obj) (M1:Av) (w1:World) (rs:List Ao):List Ao:=A8 l rec::A8 D (.deferred (some []))::Aj M1 w1::rs
theorem Tr.qp {α:Type} {p gf:Nat} {g:Operand} {lb:Array Value} {enc:α→Value} {xs:List α} {own:List α→List Ao} {assign body:Code} (q:Nat) (K:Env) (hK:CD E K) (R:List α→List Ao)
  (kK:Lj P gf lb enc xs own) (eg:Entry P gf) (hg:VL E g (is (.func (.func gf) #[] lb))) (NS:rs.Perm (own []++R [])) (hp:K.lookup p=none) (hpn:p<n.sz)
  (hassign:∀l D rec M1 w1 pre x,(pre++[x])<+:xs→Tr (Xd P (some l)) ⟨n.sz,[]⟩ ((p,is (enc x))::K) (Hp M0 w0 S (own (pre++[x])++Fi l D rec M1 w1 (R pre))) assign (Exit.then (St ⟨n.sz,[]⟩ ((q,is (enc x))::K) (Hp M0 w0 S (own (pre++[x])++Fi l D rec M1 w1 (R pre)))) (fun _ _ _=>False)))
  (hbody : ∀ l D rec M1 w1 pre x, (pre ++ [x]) <+: xs → Tr (Xd P (some l)) ⟨n.sz, []⟩ ((q, is (enc x)) :: K) (Hp M0 w0 S (own (pre ++ [x]) ++ Fi l D rec M1 w1 (R pre))) body
   (IJ M0 w0 S (fun _:Unit=>own (pre++[x])++Fi l D rec M1 w1 (R (pre++[x]))) (fun _ _=>own (pre++[x])++Fi l D rec M1 w1 [Bx False])))
  (hdone:∀l D rec M1 w1,Fin ⟨n.sz,mark D::n.df⟩ E (Hp M0 w0 S (own xs++Fi l D rec M1 w1 (R xs))) Q .normal):
  Tr (Uj P) n E (Hp M0 w0 S rs) (.rangeFunc g #[p] assign body) Q:=by
 refine Tr.eC (fun x=>(q,is (enc x))::K) (fun pre (_:Unit)=>R pre) (fun _ _ _=>[Bx False]) () kK (fun args w=>DH eg args w) hg NS ?_ ?_ (fun l D rec M1 w1 _=>hdone l D rec M1 w1) ?_
 ·
  intro l D rec M1 w1 pre x d hpre a hsz hE M w hI
  have hx:Ext M1 w1 M w:=(hI.hold (Aj M1 w1) (by simp)).1
  refine hassign l D rec M1 w1 pre x hpre _ w ⟨M,by simpa using hsz,rfl,fun s z hq=> ?_,hI⟩
  simp only [List.lookup] at hq
  by_cases hs:s=p
  ·
   subst hs
   simp only [beq_self_eq_true,Option.some.injEq] at hq
   subst hq
   show (a.tmps.setIfInBounds s (enc x)).getD s undef=enc x
   simp [Array.getD_eq_getD_getElem?,hsz,hpn]
  ·
   rw [show (s==p)=false by simpa using hs] at hq
   obtain ⟨z',FE,Gf⟩:=hK.spec s z hq
   have h2:=z.st _ _ _ _ _ hx (Gf _ _ _ (hE s z' FE))
   show z.h M w ((a.tmps.setIfInBounds p (enc x)).getD s undef)
   have e1:(a.tmps.setIfInBounds p (enc x)).getD s undef=a.tmps.getD s undef:=by
    simp only [Array.getD_eq_getD_getElem?]
    rw [Array.getElem?_setIfInBounds_ne (fun e=>hs e.symm)]
   rw [e1];exact h2
 ·
  intro l D rec M1 w1 pre x d hpre
  exact hbody l D rec M1 w1 pre x hpre
 ·
  intro l D rec M1 w1 c pre d hpre a w ⟨M,_,_,_,h⟩
  have h:At M0 w0 S (own pre++Fi l D rec M1 w1 [Bx False]) M w:=h
  exact ((h.hold (Bx False) (by simp)).1).elim
theorem Fin.st {E1:Env} {Q':Exit→Act→World→Prop} (hs:CD E E1):Fin n E I (Exit.then (St n E1 I) Q') .normal:=fun _ _ h=>h.sub hs (fun _ _ h=>h)
theorem Fin.rnd {β:Type} {rr:β→List Ao} {rx:Code→β→List Ao} (d:β) (hp:rs.Perm (rr d)):Fin n E (Hp M0 w0 S rs) (IJ M0 w0 S rr rx) .normal:=fun _ _ ⟨M,_,_,_,h⟩=>⟨d,M,At.perm hp h⟩
theorem Tr.qq {α β:Type} (K:Env) (hK:CD E K) (ni:α→β→Fm) (Ei:α→β→Env) (Ii:α→β→CU) (C:α→β→Prop) (μ:α→β→Nat) (x0:α) (y0:β) (hn:ni x0 y0=n) (h0:C x0 y0) (hs:CD E (Ei x0 y0)) (hI:∀M w,I.h M w→(Ii x0 y0).h M w)
  (k:∀x y,C x y→Tr L (ni x y) (Ei x y++K) (Ii x y) c (Exit.then (fun a w=>∃x' y',(C x' y'∧μ x' y'<μ x y)∧St (ni x' y') (Ei x' y'++K) (Ii x' y') a w) Q)):Tr L n E I (.loop c) Q:=
 Tr.we (fun p : α × β => ni p.1 p.2) (fun p => Ei p.1 p.2 ++ K) (fun p => Ii p.1 p.2) (fun p => C p.1 p.2) (fun p => μ p.1 p.2) (x0, y0) hn h0 (K5 hs hK) hI
  fun ⟨x,y⟩ hC a w hst=>L.mono (fun e a w hq=>by
   cases e with
   |normal=>obtain ⟨x',y',h1,h2⟩:=hq;exact ⟨(x',y'),h1,h2⟩
   |_=>exact hq) (k x y hC a w hst)
theorem Fin.wg {α β:Type} {ni:α→β→Fm} {E1:α→β→Env} {I1:α→β→CU} {C:α→β→Prop} (i:α) (j:β) (hn:ni i j=n) (hC:C i j) (hs:CD E (E1 i j)) (hI:∀M w,I.h M w→(I1 i j).h M w):Fin n E I (Exit.then (fun a w=>∃x y,C x y∧St (ni x y) (E1 x y) (I1 x y) a w) Q) .normal:=
 fun _ _ hst=>⟨i,j,hC,by rw [hn];exact hst.sub hs hI⟩
end
section
variable {P:Program} {fz:Nat} {E:Env} {M0 M1:Av} {w0 w1:World} {S:Nat→Prop} {g:Func} {α β:Type} {xs:List α} {own:List α→List Ao} {R Rx:List α→β→List Ao}
theorem Fin.wh {d:β} (hr:g.results= #[]):Fin ⟨fz,[]⟩ E (Hp M0 w0 S (own xs++Aj M1 w1::R xs d)) (Ih P g fun e w'=>(∃v,e= .returned v)∧∃M' d',Ext M1 w1 M' w'∧(At M0 w0 S (own xs++R xs d') M' w'∨∃pre,pre<+:xs∧At M0 w0 S (own pre++Rx pre d') M' w')) .normal:=by
 refine Fin.qg (Fin.RF ?_)
 rintro a w ⟨M,_,hd,he,hi⟩
 obtain ⟨h1,h2⟩:=YX hi
 exact ⟨hd,_,results0 hr,⟨_,rfl⟩,M,d,h1,.inl h2⟩
theorem Fin.qt {d:β} {pre:List α} (hr:g.results= #[]) (hp:pre<+:xs):Fin ⟨fz,[]⟩ E (Hp M0 w0 S (own pre++Aj M1 w1::Rx pre d)) (Ih P g fun e w'=>(∃v,e= .returned v)∧∃M' d',Ext M1 w1 M' w'∧(At M0 w0 S (own xs++R xs d') M' w'∨∃pre,pre<+:xs∧At M0 w0 S (own pre++Rx pre d') M' w')) .ret:=by
 refine Fin.RF ?_
 rintro a w ⟨M,_,hd,he,hi⟩
 obtain ⟨h1,h2⟩:=YX hi
 exact ⟨hd,_,results0 hr,⟨_,rfl⟩,M,d,h1,.inr ⟨pre,hp,h2⟩⟩
theorem CX.qu {f:FuncId} {args:List Pr} {form:Nat→Value} {r':Value→Ao} (h:HV P f args [] (fun _=>True) (fun b=>is (form b)) (fun b=>[r' (form b)])):CX P f args (Cp.ex fun b=>is (form b)) Bp r':=by
 refine ⟨h.1,fun M0 w0 S rs M w vs hI hv=>(h.2 M0 w0 S rs M w vs (At.K_ hI) hv).mono ?_⟩
 rintro e w' ⟨v,M',b,rfl,_,h1,h2,h3⟩
 obtain rfl:v=form b:=h1
 exact ⟨_,M',rfl,⟨b,rfl⟩,h2,h3⟩
end
end Cp
