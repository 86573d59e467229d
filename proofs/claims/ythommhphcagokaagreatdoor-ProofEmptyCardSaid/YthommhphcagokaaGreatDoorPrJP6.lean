/-
  ProofEmpty: whatever the input, the law of this name returns true and its arguments read as before; the table of trailing zeros is tied to the program. No conditions.
-/
import Derived.Test.YthommhphcagokaaGreatDoorTie
import Derived.Test.YthommhphcagokaaGreatDoorCards
import Derived.LaidMore
import Derived.OpenShut
import Derived.Stop.Joined
import Derived.ProofKit
import Derived.Test.YthommhphcagokaaGreatDoorPrJP5
set_option linter.all false
set_option maxRecDepth 40000
set_option maxHeartbeats 16000000
namespace Go.Proofs.YthommhphcagokaaGreatDoor
open Go Go.RowKit Cp Go.Proofs.Tryz
variable{E:Env}{l:List Int}{j k:Nat}{o:Oper}{P:Program}{v:Value}{w0:World}
def Yj(a:Int):List Int:=if a=5\/a=6\/a=10\/a=11 then[2048,1024,512,3072,1023,4096,16384]else if a=7\/a=12 then[256,160,224,384,521]else if a=9 then[65,44,87]else if a=13 then[768,512,1024]else if a=14 then[128,40]else if a=15 then[168,112]else if a=16\/a=17 then[128,256]else[0]
theorem YE{a z:Int}(ha:a∈[5,7,5,6,8,9])(hz:z∈Yj a):E6 a z 2=true/\(0<=a/\a<=40000)/\(0<=z/\z<=40000):=by
 have ha:a=5\/a=7\/a=6\/a=8\/a=9:=by simp at ha;omega
 rcases ha with rfl|rfl|rfl|rfl|rfl<;>(simp[Yj]at hz;(try rcases hz with rfl|rfl|rfl|rfl|rfl|rfl|rfl);all_goals exact⟨by decide+kernel,by omega,by omega⟩)
theorem QU{b:Nat}{s:DS}{a:Int}  :BW prog 49 [ptr b 0,int a] (Cp.ex fun z:Int=>fact (z∈Yj a) (int z)) (CT b s) (fun _=>EW 66 b):=by
 refine BW.of func49 rfl rfl Af fun M0 w0 S rs M1 w1=>?_;refine a2 ?_;refine an ?_ ?_<;>intro h1 q1
 refine ac ?_;refine Tr.cond rfl (fun _=>?_) (fun h=>nomatch h1.symm.trans h);refine ap ?_;refine TO.EJ 0 rfl rfl AB (Ab rfl rfl AB rfl (DB (l:=[2048,1024,512,3072,1023,4096,16384]) AO AO) ⟨kq,Cs,trivial⟩) ?_;refine ap ?_;refine Tr.ret (Fin.Az (Fin.AP (Fin.CJ 0 _ rfl rfl (Fin.Ci [] rfl (AZ.tmp rfl Lr) ?_ (fun _ _ _ _=>rfl)))))
 .exact Nr
 refine an ?_ ?_<;>intro h2 q2
 refine ac ?_;refine Tr.cond rfl (fun _=>?_) (fun h=>nomatch h2.symm.trans h);refine ap ?_;refine TO.EJ 0 rfl rfl AB (Ab rfl rfl AB rfl (DB (l:=[2048,1024,512,3072,1023,4096,16384]) AO AO) ⟨kq,Cs,trivial⟩) ?_;refine ap ?_;refine Tr.ret (Fin.Az (Fin.AP (Fin.CJ 0 _ rfl rfl (Fin.Ci [] rfl (AZ.tmp rfl Lr) ?_ (fun _ _ _ _=>rfl)))))
 .exact Nr
 refine an ?_ ?_<;>intro h3 q3
 refine ac ?_;refine Tr.cond rfl (fun _=>?_) (fun h=>nomatch h3.symm.trans h);refine ap ?_;refine TO.EJ 0 rfl rfl AB (Ab rfl rfl AB rfl (DB (l:=[2048,1024,512,3072,1023,4096,16384]) AO AO) ⟨kq,Cs,trivial⟩) ?_;refine ap ?_;refine Tr.ret (Fin.Az (Fin.AP (Fin.CJ 0 _ rfl rfl (Fin.Ci [] rfl (AZ.tmp rfl Lr) ?_ (fun _ _ _ _=>rfl)))))
 .exact Nr
 refine an ?_ ?_<;>intro h4 q4
 refine ap ?_;refine TO.EJ 0 rfl rfl AB (Ab rfl rfl AB rfl (DB (l:=[2048,1024,512,3072,1023,4096,16384]) AO AO) ⟨kq,Cs,trivial⟩) ?_;refine ap ?_;refine wk [4] rfl (Tr.ret (Fin.Az (Fin.AP (Fin.CJ 0 _ rfl rfl (Fin.Ci [] rfl (AZ.tmp rfl Lr) ?_ (fun _ _ _ _=>rfl))))))
 .exact Nr
 refine an ?_ ?_<;>intro h5 q5
 refine ac ?_;refine Tr.cond rfl (fun _=>?_) (fun h=>nomatch h5.symm.trans h);refine ap ?_;refine TO.EJ 0 rfl rfl AB (Ab rfl rfl AB rfl (DB (l:=[256,160,224,384,521]) AO AO) ⟨kq,Cs,trivial⟩) ?_;refine ap ?_;refine wk [4] rfl (Tr.ret (Fin.Az (Fin.AP (Fin.CJ 0 _ rfl rfl (Fin.Ci [] rfl (AZ.tmp rfl Lr) ?_ (fun _ _ _ _=>rfl))))))
 .exact VS
 refine ac ?_;refine wk [14,5,0] rfl ?_;refine Tr.cn rfl ?_ ?_<;>intro h6 q6
 refine ap ?_;refine TO.EJ 0 rfl rfl AB (Ab rfl rfl AB rfl (DB (l:=[256,160,224,384,521]) AO AO) ⟨kq,Cs,trivial⟩) ?_;refine ap ?_;refine Tr.ret (Fin.Az (Fin.AP (Fin.CJ 0 _ rfl rfl (Fin.Ci [] rfl (AZ.tmp rfl Lr) ?_ (fun _ _ _ _=>rfl)))))
 .exact VS
 refine an ?_ ?_<;>intro h7 q7
 refine ap ?_;refine TO.EJ 0 rfl rfl AB (Ab rfl rfl AB rfl (DB (l:=[65,44,87]) AO AO) ⟨kq,Cs,trivial⟩) ?_;refine ap ?_;refine Tr.ret (Fin.Az (Fin.AP (Fin.CJ 0 _ rfl rfl (Fin.Ci [] rfl (AZ.tmp rfl Lr) ?_ (fun _ _ _ _=>rfl)))))
 .exact BN (s.of [65,44,87]) (BS Nn Lr)
 refine an ?_ ?_<;>intro h8 q8
 refine ap ?_;refine TO.EJ 0 rfl rfl AB (Ab rfl rfl AB rfl (DB (l:=[768,512,1024]) AO AO) ⟨kq,Cs,trivial⟩) ?_;refine ap ?_;refine Tr.ret (Fin.Az (Fin.AP (Fin.CJ 0 _ rfl rfl (Fin.Ci [] rfl (AZ.tmp rfl Lr) ?_ (fun _ _ _ _=>rfl)))))
 .exact BN (s.of [768,512,1024]) (BS Nn Lr)
 refine an ?_ ?_<;>intro h9 q9
 refine ap ?_;refine TO.EJ 0 rfl rfl AB (Ab rfl rfl AB rfl (DB (l:=[128,40]) AO AO) ⟨kq,Cs,trivial⟩) ?_;refine ap ?_;refine Tr.ret (Fin.Az (Fin.AP (Fin.CJ 0 _ rfl rfl (Fin.Ci [] rfl (AZ.tmp rfl Lr) ?_ (fun _ _ _ _=>rfl)))))
 .exact BN (s.of [128,40]) (BS Nn Lr)
 refine an ?_ ?_<;>intro h10 MB
 refine ap ?_;refine TO.EJ 0 rfl rfl AB (Ab rfl rfl AB rfl (DB (l:=[168,112]) AO AO) ⟨kq,Cs,trivial⟩) ?_;refine ap ?_;refine wk [4] rfl (Tr.ret (Fin.Az (Fin.AP (Fin.CJ 0 _ rfl rfl (Fin.Ci [] rfl (AZ.tmp rfl Lr) ?_ (fun _ _ _ _=>rfl))))))
 .exact BN (s.of [168,112]) (BS Nn Lr)
 refine an ?_ ?_<;>intro h11 O8
 refine ac ?_;refine Tr.cond rfl (fun _=>?_) (fun h=>nomatch h11.symm.trans h);refine ap ?_;refine TO.EJ 0 rfl rfl AB (Ab rfl rfl AB rfl (DB (l:=[128,256]) AO AO) ⟨kq,Cs,trivial⟩) ?_;refine ap ?_;refine wk [4] rfl (Tr.ret (Fin.Az (Fin.AP (Fin.CJ 0 _ rfl rfl (Fin.Ci [] rfl (AZ.tmp rfl Lr) ?_ (fun _ _ _ _=>rfl))))))
 .exact VV
 refine ac ?_;refine wk [40,0] rfl ?_;refine Tr.cn rfl ?_ ?_<;>intro h12 Re
 refine ap ?_;refine TO.EJ 0 rfl rfl AB (Ab rfl rfl AB rfl (DB (l:=[128,256]) AO AO) ⟨kq,Cs,trivial⟩) ?_;refine ap ?_;refine Tr.ret (Fin.Az (Fin.AP (Fin.CJ 0 _ rfl rfl (Fin.Ci [] rfl (AZ.tmp rfl Lr) ?_ (fun _ _ _ _=>rfl)))))
 .exact VV
 refine a2 ?_;refine Tr.ret (Fin.CJ 0 _ rfl rfl (Fin.Ci [] rfl (AZ.tmp rfl Lr) ?_ (fun _ _ _ _=>rfl)))
 .exact BN 0 (BS (by unfold Yj;(repeat (rw[if_neg AA]));simp) Lr)
abbrev pE(k:Int×Int):Prop:=E6 k.1 k.2 2=true/\(0<=k.1/\k.1<=40000)/\(0<=k.2/\k.2<=40000)
theorem bW:Pr.le (agg [Dn .i64,Dn .i64]) (Cp.ex fun x:Int=>Cp.ex fun y:Int=>agg [int x,int y]):=by
 rintro M w v ⟨cs,h1,h2,h3⟩
 match cs,h3 with
 |[c,d],⟨⟨x,hx⟩,⟨y,hy⟩,_⟩=>exact⟨x,y,_,h1,h2,hx,hy,trivial⟩
theorem bX{b:Nat}{s:DS}  :BW prog 48 [ptr b 0] (Cp.ex fun k:Int×Int=>fact (pE k) (agg [int k.1,int k.2])) (CT b s) (fun _=>EW 66 b):=by
 refine BW.of func48 rfl rfl Af fun M0 w0 S rs M1 w1=>?_;refine Tr.seq (Tr.Al ?_);refine Tl rfl rfl rfl rfl z75 BZ (fun b1=>?_);refine ap ?_;refine ap ?_;refine TO.EJ 1 rfl rfl AB (Ab rfl rfl AB rfl (DB (l:=[5,7,5,6,8,9]) AO AO) ⟨kq,Cs,trivial⟩) ?_;refine ap ?_;refine ap ?_;refine TO.EJ 1 rfl rfl AB (Ab rfl rfl AB rfl (QU) ⟨kq,kz⟩) ?_;refine TO.ex 10 rfl (fun z1=>TO.fact 10 rfl fun H8=>?_);refine tp rfl (oD) (TO.Aa 0 rfl rfl rfl vq Ce rfl Bb rfl rfl (TO.nil (Fin.Gt 1 rfl (fun s1=>?_))));refine Fin.go (Tr.ret (Fin.CJ 1 _ rfl rfl (Fin.Ci [_] rfl (AZ.cell 0 rfl rfl A7 Bb rfl (Lr)) ?_ (fun _ _ _ _=>rfl))))
 .exact BN (s.of [5,7,5,6,8,9],z1) (BS (YE (s.DE AO) H8) Lr)
abbrev F3:List Pr:=[Dn .i64,(Cp.ex fun l:List UInt8=>str l),Dn .i64,Dn .i64,Dn .i64,Dn .i64,Dn .i64,Dn .i64,Dn .i64,Dn .i64,Dn .i64,Dn .i64]
abbrev TW:List (List Pr):=[F3,F3,F3,F3,F3,F3,F3,F3,F3,F3,F3,F3,F3,F3,F3,F3]
theorem bY{i:Int}(h:0<=i/\i<16):TW[i.toNat]? =some F3:=by
 have:TW=List.replicate 16 F3:=rfl;rw[this,List.getElem?_replicate,if_pos AA]
theorem Bu{a l m x1 y1 x2 y2 x3 y3 x4 y4:Int}{s:List UInt8}  :Am prog 270 [int a,str s,agg [int x1,int y1],agg [int x2,int y2],agg [int x3,int y3],agg [int x4,int y4],int l,int m] (agg F3):=by
 refine Am.of func270 rfl rfl Af fun M0 w0=>?_;refine Tr.seq (Tr.Al ?_)
 iterate 4 refine tp rfl (Bc rfl (Va rfl)) ?_
 refine Tl rfl rfl rfl rfl GD DQ (fun b1=>?_);refine TO.nil (Fin.go (Tr.seq (Tr.Al (tm rfl (tm rfl ?_)))))
 iterate 4 refine tp rfl (AJ rfl A7 Bb (vl rfl) rfl rfl) ?_
 refine tm rfl (tm rfl (tp rfl (Ad (rows:=[(0,[_]),(1,[_]),(2,_),(3,_),(4,_),(5,_),(6,[_]),(7,[_])]) rfl KV DQ ⟨⟨rfl,(Vo rfl)⟩,⟨⟨rfl,(Vo rfl)⟩,⟨⟨rfl,(Va rfl)⟩,⟨⟨rfl,(Va rfl)⟩,⟨⟨rfl,(Va rfl)⟩,⟨⟨rfl,(Va rfl)⟩,⟨⟨rfl,(Vo rfl)⟩,⟨⟨rfl,(Vo rfl)⟩,trivial⟩⟩⟩⟩⟩⟩⟩⟩ rfl) (TO.re 25 (agg F3) rfl (Au ⟨BF _ _,BN _ (Lr),BF _ _,BF _ _,BF _ _,BF _ _,BF _ _,BF _ _,BF _ _,BF _ _,BF _ _,BF _ _,trivial⟩) (TO.Aa 0 rfl rfl rfl (vl rfl) (Va rfl) rfl B4 rfl rfl (TO.nil (Fin.go (eG 16 rfl (Tr.ret (Fin.Br rfl (AZ.cell 0 rfl rfl C7 B4 rfl (Lr)) ?_)))))))))
 .exact Lr
theorem QV   :Am prog 226 [] (slice 12 TW):=by
 refine fo func226 rfl ⟨rfl,rfl⟩ fun M0 w0=>?_;refine ac ?_;refine Tr.seq (Tr.Al (tp rfl (Bm (Ap) rfl rfl rfl) (tp rfl (Bm (Ap) rfl rfl rfl) (tp rfl (Ad (rows:=[]) rfl RL BZ trivial rfl) ?_))));refine Tl rfl rfl rfl rfl z75 BZ (fun b1=>?_);refine Tl rfl rfl rfl rfl z75 BZ (fun b2=>?_);refine Tl rfl rfl rfl rfl z75 BZ (fun b3=>?_);refine sf 2 1 ⟨rfl,rfl,rfl⟩ rfl rfl rfl rfl ?_;refine sf 1 2 ⟨rfl,rfl,rfl⟩ rfl rfl rfl rfl ?_;refine sf 0 3 ⟨rfl,rfl,rfl⟩ rfl rfl rfl rfl ?_;refine ao ?_;refine Tr.seq (Tr.Al (tp rfl (Bm (Ap) rfl rfl rfl) (tp rfl (Bm (Ap) rfl rfl rfl) ?_)));refine Tl rfl rfl rfl rfl z75 BZ (fun b4=>?_);refine Tl rfl rfl rfl rfl z75 BZ (fun b5=>?_);refine sf 1 4 ⟨rfl,rfl,rfl⟩ rfl rfl rfl rfl ?_;refine sf 0 5 ⟨rfl,rfl,rfl⟩ rfl rfl rfl rfl ?_;refine ao ?_;refine wk [5,4,3,2,1] rfl (Tr.seq (Tr.Al (tp rfl (Bm (Ap) rfl rfl rfl) (tp rfl (Bm (Ap) rfl rfl rfl) (tp rfl (Bm (Ap) rfl rfl rfl) ?_)))));refine Tl rfl rfl rfl rfl z75 BZ (fun b6=>?_);refine Tl rfl rfl rfl rfl z75 BZ (fun b7=>?_);refine Tl rfl rfl rfl rfl z75 BZ (fun b8=>?_);refine sf 2 6 ⟨rfl,rfl,rfl⟩ rfl rfl rfl rfl ?_;refine sf 1 7 ⟨rfl,rfl,rfl⟩ rfl rfl rfl rfl ?_;refine sf 0 8 ⟨rfl,rfl,rfl⟩ rfl rfl rfl rfl ?_;refine ao ?_;refine wk [8,7,6,5,4,3,2,1] rfl (Tr.seq (Tr.Al ?_))
 iterate 4 refine tp rfl (Bm (Ap) rfl rfl rfl) ?_
 refine Tl rfl rfl rfl rfl z75 BZ (fun b9=>?_);refine Tl rfl rfl rfl rfl z75 BZ (fun b10=>?_);refine Tl rfl rfl rfl rfl z75 BZ (fun b11=>?_);refine Tl rfl rfl rfl rfl z75 BZ (fun b12=>?_);refine sf 3 9 ⟨rfl,rfl,rfl⟩ rfl rfl rfl rfl ?_;refine sf 2 10 ⟨rfl,rfl,rfl⟩ rfl rfl rfl rfl ?_;refine sf 1 11 ⟨rfl,rfl,rfl⟩ rfl rfl rfl rfl ?_;refine sf 0 12 ⟨rfl,rfl,rfl⟩ rfl rfl rfl rfl ?_;refine ao ?_;refine wk [12,11,10,9,8,7,6,5,4,3,2,1] rfl (Tr.seq (Tr.Al (tp rfl (Bm (Ap) rfl rfl rfl) (tp rfl (Bm (Ap) rfl rfl rfl) ?_))));refine Tl rfl rfl rfl rfl z75 BZ (fun b13=>?_);refine Tl rfl rfl rfl rfl z75 BZ (fun b14=>?_);refine sf 1 13 ⟨rfl,rfl,rfl⟩ rfl rfl rfl rfl ?_;refine sf 0 14 ⟨rfl,rfl,rfl⟩ rfl rfl rfl rfl ?_;refine ao ?_;refine wk [14,13,12,11,10,9,8,7,6,5,4,3,2,1] rfl ?_;refine ac ?_;refine co rfl (AQ rfl (Bu) ⟨kq,kz⟩) ?_;refine ac ?_;refine co rfl (AQ rfl (Bu) ⟨kq,kz⟩) ?_;refine ac ?_;refine co rfl (AQ rfl (Bu) ⟨kq,kz⟩) (co rfl (Bm (Ap) rfl rfl rfl) (co rfl (Bm (Ap) rfl rfl rfl) ?_));refine ac ?_;refine co rfl (AQ rfl (Bu) ⟨kq,kz⟩) (co rfl (Bm (Ap) rfl rfl rfl) ?_);refine ac ?_;refine co rfl (AQ rfl (Bu) ⟨kq,kz⟩) ?_;refine ac ?_;refine co rfl (AQ rfl (Bu) ⟨kq,kz⟩) (co rfl (Bm (Ap) rfl rfl rfl) ?_);refine ac ?_;refine co rfl (AQ rfl (Bu) ⟨kq,kz⟩) ?_;refine ac ?_;refine co rfl (AQ rfl (Bu) ⟨kq,kz⟩) (co rfl (AJ rfl A7 Bb vq rfl rfl) (co rfl (Bm (Ap) rfl rfl rfl) (co rfl (Bm (Ap) rfl rfl rfl) (co rfl (AJ rfl A7 Bb vq rfl rfl) (co rfl (AQ rfl (Bu) ⟨kq,kz⟩) ?_)))));refine ac ?_;refine co rfl (AQ rfl (Bu) ⟨kq,kz⟩) (co rfl (Bm (Ap) rfl rfl rfl) (co rfl (Bm (Ap) rfl rfl rfl) ?_));refine ac ?_;refine co rfl (AQ rfl (Bu) ⟨kq,kz⟩) ?_;refine ac ?_;refine co rfl (AQ rfl (Bu) ⟨kq,kz⟩) ?_;refine ac ?_;refine co rfl (AQ rfl (Bu) ⟨kq,kz⟩) ?_;refine ac ?_;refine co rfl (AQ rfl (Bu) ⟨kq,kz⟩) ?_;refine ac ?_;refine co rfl (AQ rfl (Bu) ⟨kq,kz⟩) (co rfl (Bm (Ap) rfl rfl rfl) ?_);refine ac ?_;refine co rfl (AQ rfl (Bu) ⟨kq,kz⟩) (co rfl (AG (xs:=[.tmp 33,.tmp 38,.tmp 43,.tmp 48,.tmp 53,.tmp 58,.tmp 63,.tmp 68,.tmp 73,.tmp 78,.tmp 83,.tmp 88,.tmp 93,.tmp 98,.tmp 103,.tmp 108]) (rows:=TW) rfl rfl underlying320 B4 GD rfl AB ⟨⟨AK,VL.le vq (AE _)⟩,⟨⟨AK,VL.le vq (AE _)⟩,⟨⟨AK,VL.le vq (AE _)⟩,⟨⟨AK,VL.le vq (AE _)⟩,⟨⟨AK,VL.le vq (AE _)⟩,⟨⟨AK,VL.le vq (AE _)⟩,⟨⟨AK,VL.le vq (AE _)⟩,⟨⟨AK,VL.le vq (AE _)⟩,⟨⟨AK,VL.le vq (AE _)⟩,⟨⟨AK,VL.le vq (AE _)⟩,⟨⟨AK,VL.le vq (AE _)⟩,⟨⟨AK,VL.le vq (AE _)⟩,⟨⟨AK,VL.le vq (AE _)⟩,⟨⟨AK,VL.le vq (AE _)⟩,⟨⟨AK,VL.le vq (AE _)⟩,⟨⟨AK,VL.le vq (AE _)⟩,trivial⟩⟩⟩⟩⟩⟩⟩⟩⟩⟩⟩⟩⟩⟩⟩⟩ AB) ?_);refine ac ?_;refine wk [0] rfl ?_;refine ac ?_
 .exact Ak _ _
theorem Rz{code:Int}  :Am prog 168 [int code] (D8 [agg F3,Dn .i64]):=by
 refine fo func168 rfl ⟨rfl,rfl⟩ fun M0 w0=>(Tr.seq (Tr.Al ?_));refine Tl rfl rfl rfl rfl GD DQ (fun b1=>?_);refine ap ?_;refine ag ?_ ?_<;>intro h1 q1
 refine ac ?_;refine Tr.cond rfl (fun _=>?_) (fun h=>nomatch h);refine Tr.seq (Tr.Al (tp rfl (Ad (rows:=[]) rfl KV DQ trivial rfl) (TO.Aa 0 rfl rfl rfl vq Ce rfl B4 rfl rfl (tm rfl (TO.nil (Fin.go (Tr.ret (Fin.AP (Fin.BU rfl (AZ.cell 0 rfl rfl C7 B4 rfl Lr) (AZ.tmp rfl Lr) ?_)))))))))
 .exact VN
 refine an ?_ ?_<;>intro h2 q2
 refine ap ?_;refine Tr.ret (Fin.AP (Fin.BU rfl (AZ.cell 0 rfl rfl C7 B4 rfl Lr) (AZ.tmp rfl Lr) ?_))
 .exact VN
 have hin:1<=code/\code<=16:=by omega
 refine ac ?_;refine Tr.seq (Tr.Al (tp rfl (Ya (QV) rfl) ?_));refine ap ?_;refine tp rfl (AD rfl underlying320 B4 vq vq AA (bY AA)) ?_;refine ap ?_;refine wk [3,2] rfl (Tr.ret (Fin.BU rfl (AZ.cell 0 rfl rfl C7 B4 rfl Lr) (AZ.tmp rfl Lr) ?_))
 .exact CH ⟨Lr,BF _ _,trivial⟩
theorem JX{code:Int}  :Am prog 158 [int code] (Dn .i64):=by
 refine fo func158 rfl ⟨rfl,rfl⟩ fun M0 w0=>?_;refine ac ?_;refine ao ?_;refine tp rfl (BQ (Rz) rfl rfl) ?_;refine ao ?_;refine TO.ex 9 rfl fun x9=>?_;refine Tl rfl rfl rfl rfl GD DQ (fun b1=>?_);refine sf 0 3 ⟨rfl,rfl,rfl⟩ rfl rfl rfl rfl ?_;refine ao ?_;refine an ?_ ?_<;>intro h1 q1
 refine a2 ?_
 .exact BF _ _
 refine ac ?_;refine ao ?_;refine TO.re 13 (Cp.ex fun x:Int=>Cp.ex fun y:Int=>agg [int x,int y]) rfl (by exact bW) ?_;refine TO.ex 13 rfl fun x13=>(TO.ex 13 rfl fun y13=>(tp rfl (BQ (KY) rfl rfl) ?_));refine ao ?_;refine wk [2] rfl ?_;refine ac ?_
 .exact BF _ _
theorem QW{o p:List Int}(h:o.Perm p)(j:Nat)(x:Int):(o.take j++[x]++o.drop j).Perm (p++[x]):=by
 refine List.Perm.trans (List.perm_append_comm.append_right _:(o.take j++[x]++o.drop j).Perm ([x]++o.take j++o.drop j)) ?_;rw[List.append_assoc,List.take_append_drop];exact(List.perm_append_comm).trans (h.append_right [x])
theorem YF(hl:l.length<=1000):Am prog 91 [ints l] (Cp.ex fun o:List Int=>fact (o.Perm l) (ints o)):=by
 refine fo func91 rfl ⟨rfl,rfl⟩ fun M0 w0=>?_;refine a3 ?_;refine Tr.block (Tr.Lq _ (kk [0] rfl) (fun(i:Nat) (out:List Int)=>[(4,int ((i:Nat):Int)),(3,ints out)]) (fun(i:Nat) (out:List Int)=>Hp M0 w0 Hj ([])) (fun(i:Nat) (out:List Int)=>i<=l.length/\out.Perm (l.take i)) (fun(i:Nat) (out:List Int)=>l.length-i) (0) ([])  (⟨by omega,.refl _⟩) ⟨kq,⟨_,rfl,AL 1⟩,trivial⟩ (fun _ _ h=>h) ?_);rintro i out  ⟨hi1,pF⟩;have hi2:out.length=i:=by rw[pF.length_eq,List.length_take];omega
 refine an ?_ ?_<;>intro h1 q1
 have Ey:i<l.length:=by have:=EK.FP h1;omega
 obtain⟨x,hx⟩:=at_ (l:=l) (k:=i) Ey;refine a2 ?_;refine Tr.seq (Tr.block (Tr.GA [(0,_),(3,_),(4,_)] ⟨ke rfl,ke rfl,ke rfl,trivial⟩ (fun(j:Int)=>[(5,int j)]) (fun(j:Int)=>Hp M0 w0 Hj ([])) (fun(j:Int)=>0<=j/\j<=(out.length:Nat)) (fun(j:Int)=>j.toNat) (_)  (⟨by omega,by omega⟩) ⟨ke rfl,trivial⟩ (fun _ _ h=>h) ?_));rintro j  ⟨jK,hj2⟩;refine ag ?_ ?_<;>intro h2 q2
 have hj0:j>0:=of_decide_eq_true h2;obtain⟨y,VG⟩:=at_ (l:=out) (k:=(j-1).toNat) AA;refine ac ?_;refine cy h2 rfl (AD rfl underlying22 C_ vq vq AA (B9 VG)) (cy h2 rfl (FH rfl DP rfl) (cy h2 rfl (BQ (JX) rfl rfl) ?_));refine ac ?_;refine cy h2 rfl (AD rfl underlying22 C_ vq vq AA (Aj hx)) (cy h2 rfl (FH rfl DP rfl) (cy h2 rfl (BQ (JX) rfl rfl) (cy h2 rfl (fk rfl vq vq) ?_)));refine ac ?_;refine wk [29,5,4,3,0] rfl (Tr.ex 29 rfl fun u9=>?_);refine Tr.cn rfl ?_ ?_<;>intro h3 q3
 refine a2 ?_;exact Fin.Gc (j-1)  (⟨⟨by omega,by omega⟩,by omega⟩) ⟨⟨_,rfl,int_eq AA⟩,kz⟩ (fun _ _ h=>h);refine ac ?_;refine Tr.pad (Tr.rx (xo rfl (fun _=>AG (xs:=[]) (rows:=[]) rfl rfl underlying22 C_ z3 rfl AB trivial AB) ?_));refine ay ?_;refine xo rfl (fun _=>EX rfl underlying22 C_ vq vq AA CU) ?_;refine Cx.ef 0 rfl rfl AB (Ba rfl rfl AB rfl underlying22 C_ Y6 z3 rfl AB Cs vq Jk Jl (BT BH vq)) ?_;refine ay ?_;refine xo rfl (fun _=>AD rfl underlying22 C_ vq vq AA (Aj hx)) (xo rfl (fun _=>FH rfl DP rfl) (xo rfl (fun _=>AG (xs:=[.tmp 40]) (rows:=[[_]]) rfl rfl underlying22 C_ z3 rfl AB ⟨⟨AK,CD⟩,trivial⟩ AB) ?_));refine Cx.ef 0 rfl rfl AB (Ba rfl rfl AB rfl underlying22 C_ Y6 z3 rfl AB vq Cs Jk Jl E8) ?_;refine ay ?_;refine xo rfl (fun _=>Gg rfl underlying22 C_ vq vq AA CU) ?_;refine Cx.ef 0 rfl rfl AB (Ba rfl rfl AB rfl underlying22 C_ Y6 z3 rfl AB vq vq Jk Jl E8) ?_;refine Cx.ef 0 rfl rfl AB (Ho rfl rfl AB rfl vq) ?_;refine Cx.nil ⟨by kernel_rfl,?_⟩;refine CF.open_ 0 3 rfl rfl (fun v1=>?_);refine CF.done Z0 ?_;refine ac ?_;refine wk [4,3,0] rfl ?_;refine ac ?_;refine Fin.drop 0 ?_;exact Fin.Hr (i+1) ((out.take j.toNat++[x]++out.drop j.toNat))  (⟨⟨by omega,by rw[List.take_add_one,hx];exact QW pF _ _⟩,by omega⟩) ⟨⟨_,rfl,AM i⟩,⟨_,rfl,Pr.le_trans (As _ _) (Pr.le_of_eq Vc)⟩,kz⟩ (fun _ _ h=>h);refine ac ?_;refine wk [29,5,4,3,0] rfl ?_;refine ac ?_;refine Tr.pad (Tr.rx (xo rfl (fun _=>AG (xs:=[]) (rows:=[]) rfl rfl underlying22 C_ z3 rfl AB trivial AB) ?_));refine ay ?_;refine xo rfl (fun _=>EX rfl underlying22 C_ vq vq AA AA) ?_;refine Cx.ef 0 rfl rfl AB (Ba rfl rfl AB rfl underlying22 C_ Y6 z3 rfl AB Cs vq Jk Jl (BT BH vq)) ?_;refine ay ?_;refine xo rfl (fun _=>AD rfl underlying22 C_ vq vq AA (Aj hx)) (xo rfl (fun _=>FH rfl DP rfl) (xo rfl (fun _=>AG (xs:=[.tmp 40]) (rows:=[[_]]) rfl rfl underlying22 C_ z3 rfl AB ⟨⟨AK,CD⟩,trivial⟩ AB) ?_));refine Cx.ef 0 rfl rfl AB (Ba rfl rfl AB rfl underlying22 C_ Y6 z3 rfl AB vq Cs Jk Jl E8) ?_;refine ay ?_;refine xo rfl (fun _=>Gg rfl underlying22 C_ vq vq AA AA) ?_;refine Cx.ef 0 rfl rfl AB (Ba rfl rfl AB rfl underlying22 C_ Y6 z3 rfl AB vq vq Jk Jl E8) ?_;refine Cx.ef 0 rfl rfl AB (Ho rfl rfl AB rfl vq) ?_;refine Cx.nil ⟨by kernel_rfl,?_⟩;refine CF.open_ 0 3 rfl rfl (fun v2=>?_);refine CF.done Z0 ?_;refine ac ?_;refine wk [4,3,0] rfl ?_;refine ac ?_;refine Fin.drop 0 ?_;exact Fin.Hr (i+1) ((out.take j.toNat++[x]++out.drop j.toNat))  (⟨⟨by omega,by rw[List.take_add_one,hx];exact QW pF _ _⟩,by omega⟩) ⟨⟨_,rfl,AM i⟩,⟨_,rfl,Pr.le_trans (As _ _) (Pr.le_of_eq Vc)⟩,kz⟩ (fun _ _ h=>h);have hie:i=l.length:=by have:=EK.FP h1;omega
 rw[hie,List.take_length]at pF;refine a2 ?_;refine Tr.ret (Fin.Br rfl (AZ.tmp rfl Lr) ?_)
 .exact BN out (BS pF Lr)
def bZ(l:List Int):Prop:=(∀x∈l,1<=x/\x<=16)/\l.Nodup
theorem bf:bZ []:=⟨fun x h=>by simp at h,List.nodup_nil⟩
theorem YG{x:Int}(h:bZ l)(hx:1<=x/\x<=16)(hn:(l.any fun y=>x==y)=false):bZ (l++[x]):=by
 refine⟨fun y hy=>?_,?_⟩
 .
  rcases List.mem_append.1 hy with hy|hy
  .exact h.1 y hy
  .simp at hy;subst hy;exact hx
 .
  rw[List.nodup_append];refine⟨h.2,by simp,fun y hy z hz=>?_⟩;simp at hz;subst hz;intro he;subst he;rw[List.any_eq_false]at hn;exact hn y hy AO
theorem YH{o:List Int}(h:bZ l)(hp:o.Perm l):bZ o:=⟨fun x hx=>h.1 x (hp.mem_iff.1 hx),hp.nodup_iff.2 h.2⟩
theorem iY(h:bZ l):Dr l=true:=by
 unfold Dr;refine Be.2 fun j hj=>?_;obtain⟨x,hx⟩:=at_ hj;unfold C5;rw[hx,Option.getD_some,Bool.and_eq_true,decide_eq_true_eq];refine⟨h.1 x (List.mem_of_getElem? hx),?_⟩;rw[Bool.not_eq_true',List.any_eq_false];intro y hy he;have he:x=y:=by simpa using he
 subst he;obtain⟨i,hi,hiy⟩:=List.mem_take_iff_getElem.1 hy;have h1:l[i]? =some x:=by rw[List.getElem?_eq_getElem AA,hiy]
 have hjx:l[j]=x:=by rw[List.getElem?_eq_getElem hj]at hx;exact Option.some.inj hx
 have:=(List.getElem_inj h.2 (h₀:=(show i<l.length by omega)) (h₁:=hj)).1 (by rw[hiy,hjx]);omega
theorem R3{b:Nat}{s:DS}  :BW prog 47 [ptr b 0] (Cp.ex fun l:List Int=>fact (l.length<=10/\bZ l) (ints l)) (CT b s) (fun _=>EW 66 b):=by
 refine BW.of func47 rfl rfl Af fun M0 w0 S rs M1 w1=>?_;have hv9:=s.B8 (n:=9) AA;refine a2 ?_;refine ap ?_;refine TO.EJ 0 rfl rfl AB (Ab rfl rfl AB rfl (Bp AA AA) ⟨ke rfl,ke rfl,trivial⟩) ?_;refine ap ?_;refine Tr.block (Tr.Cm 3 1 ?_);refine Tr.Dl [(0,_)] ⟨ke rfl,trivial⟩ (fun(l:List Int) (k:Int) (s2:DS) u=>[(4,int k),(3,An u (ints l))]) (fun(l:List Int) (k:Int) (s2:DS) u=>Hp M0 w0 S (A8 3 1 u::CT b s2::Ah M1 w1::rs)) (fun(l:List Int) (k:Int) (s2:DS)=>0<=k/\k+l.length<=10/\bZ l) (fun(l:List Int) (k:Int) (s2:DS)=>k.toNat) ([]) (_) (_) (.slice none 0 0) (⟨by omega,by simp;omega,bf⟩) ⟨ke rfl,⟨_,rfl,CG rfl⟩,trivial⟩ (fun _ _ h=>h) ?_;rintro l k s2 u ⟨hk1,hk2,Yh⟩;refine an ?_ ?_<;>intro h1 q1
 have hk0:k>0:=of_decide_eq_true h1;have u_:=s2.B8 (n:=16) AA;refine ac ?_;refine ap ?_;refine TO.EJ 1 rfl rfl AB (Ab rfl rfl AB rfl (Bp AA AA) ⟨ke rfl,ke rfl,trivial⟩) ?_;refine ap ?_;refine ac ?_;refine co rfl (AQ rfl (GI) ⟨It,kz⟩) ?_;refine an ?_ ?_<;>intro h2 q2
 refine ap ?_;refine TO.EV 0 rfl rfl AB (Dp rfl rfl rfl rfl underlying22 C_ Y6 z3 It Cs (Bx BH Jd)) (fun v1=>?_);refine ap ?_;refine wk [4,3,0] rfl ?_;refine ac ?_;exact Fin.CR (l++[1+s2.val 16]) (k-1) (_) v1 (⟨⟨by omega,by simp;omega,YG Yh AA (by have h_:=h2;simpa using h_)⟩,by omega⟩) ⟨⟨_,rfl,int_eq AA⟩,⟨_,rfl,B7 EO⟩,kz⟩ (fun _ _ h=>h);refine a2 ?_;exact Fin.CR (l) (k-1) (_) u (⟨⟨by omega,by omega,Yh⟩,by omega⟩) ⟨⟨_,rfl,int_eq AA⟩,⟨_,rfl,B7 AO⟩,kz⟩ (fun _ _ h=>h);have hk0:¬k>0:=of_decide_eq_false h1;refine ac ?_;refine ap ?_;refine TO.EJ 1 rfl rfl AB (Ab rfl rfl AB rfl (HR AA AA) ⟨ke rfl,ke rfl,trivial⟩) ?_;refine ap ?_;refine Tr.cn rfl ?_ ?_<;>intro h3 q3
 refine ap ?_;refine tp rfl (AQ rfl (YF (l:=l) AA) ⟨It,trivial⟩) ?_;refine TO.ex 27 rfl (fun x27=>TO.fact 27 rfl fun pG=>?_);refine ap ?_;refine ac ?_;refine Tr.ret (Fin.CJ 1 _ rfl rfl (Fin.Ci [_] rfl (AZ.tmp rfl Lr) ?_ (fun _ _ _ _=>rfl)))
 .exact BN x27 (BS ⟨by have:=pG.length_eq;omega,YH Yh pG⟩ Lr)
 refine a2 ?_;refine Tr.ret (Fin.CJ 1 _ rfl rfl (Fin.Ci [_] rfl (AZ.tmp rfl Lr) ?_ (fun _ _ _ _=>rfl)))
 .exact BN l (BS ⟨by omega,Yh⟩ (As _ _))
def anL:List (List Int):=[[1,2],[1,2],[1],[2,11],[]]
def haL:List (List Int):=[[1,2,3,4],[2,3,4],[3,4]]
def Qi(L:List (List Int))(i:Int):List Int:=(L[i.toNat]?).getD []
theorem TX{L:List (List Int)}{i:Int}(h:0<=i/\i<(L.length:Nat)):(L.map fun l=>[ints l])[i.toNat]? =some [ints (Qi L i)]:=by
 have hl:i.toNat<L.length:=by omega
 unfold Qi;rw[List.getElem?_map,List.getElem?_eq_getElem hl];rfl
theorem TY{L:List (List Int)}(h:∀l∈L,l.length<=4)(i:Int):(Qi L i).length<=4:=by
 unfold Qi;cases hx:L[i.toNat]? with
 |none=>show 0<=4;omega
 |some l=>exact h l (List.mem_of_getElem? hx)
theorem Ta(i:Int):(Qi anL i).length<=4:=TY AB i
theorem bg(i:Int):(Qi haL i).length<=4:=TY AB i
theorem Tc{L:List (List Int)}{p:List Int->Prop}(h:∀l∈L,p l)(h0:p [])(i:Int):p (Qi L i):=by
 unfold Qi;cases hx:L[i.toNat]? with
 |none=>exact h0
 |some l=>exact h l (List.mem_of_getElem? hx)
theorem iZ(i:Int):J7 (Qi anL i)=true/\(Qi anL i).all D4=true:=Tc (p:=fun l=>J7 l=true/\l.all D4=true) Hg Hg i
theorem ia(i:Int):J7 (Qi haL i)=true/\(Qi haL i).all Fl=true:=Tc (p:=fun l=>J7 l=true/\l.all Fl=true) Hg Hg i
theorem ig{name:List UInt8}{le mo:Int}{su an ha:List Int}{own Z3:Bool}{ids:List Fj}(hw:FW name=true)(h1:1<=le/\le<=mo/\mo<=4)(hs:bZ su)(hi:ids.length<=4)(hib:∀y∈ids,NP y=true)(h4:an.length<=4)(han:J7 an=true/\an.all D4=true)(hha:J7 ha=true/\ha.all Fl=true):Ct ⟨name,le,mo,su,own,ids,an,ha,Z3⟩=true:=by
 unfold Ct;simp only[Bool.and_eq_true,decide_eq_true_eq];exact⟨⟨⟨⟨⟨⟨⟨⟨hw,h1.1⟩,h1.2.1⟩,h1.2.2⟩,iY hs⟩,⟨⟨⟨hi,by omega⟩,han.1⟩,hha.1⟩⟩,List.all_eq_true.2 hib⟩,han.2⟩,hha.2⟩
theorem YI{a k id:Int}{l:List Cn}(hk:E6 a k 2=true)(hid:0<=id/\id<=40000)(hl:(l.length<=3/\∀c∈l,BD c=true)/\P3 a k id l=true):NP ⟨a,k,id,l⟩=true:=by
 unfold NP;rw[CA];simp only[Bool.and_eq_true,decide_eq_true_eq];exact⟨⟨⟨⟨hk,by unfold D4;simp;omega⟩,by have:=hl.1.1;omega⟩,List.all_eq_true.2 hl.1.2⟩,hl.2⟩
theorem Ni{l:List Fj}{y:Fj}(h:∀x∈l,NP x=true)(hy:NP y=true):∀x∈l++[y],NP x=true:=by
 intro x hx;rcases List.mem_append.1 hx with hx|hx
 .exact h x hx
 .simp at hx;subst hx;exact hy
theorem QX{l:List Fj}{y:Fj}(h:∀x∈l,x.fits/\x.small)(hy:y.fits/\y.small):∀x∈l++[y],x.fits/\x.small:=by
 intro x hx;rcases List.mem_append.1 hx with hx|hx
 .exact h x hx
 .simp at hx;subst hx;exact hy
theorem Ow{b:Nat}{s:DS}{name:List UInt8}(hn:CV [name,name++[120]]=true)(hw:FW name=true):BW prog 31 [ptr b 0,str name] (Cp.ex fun x:C8=>fact (x.sz 2000/\Ct x=true/\x.name=name) (agg (BL x))) (CT b s) (fun _=>EW 66 b):=by
 refine BW.of func31 rfl rfl Af fun M0 w0 S rs M1 w1=>?_;have hof:=s.DE (l:=[1,1,2,3]) AO;simp at hof;refine Tr.seq (Tr.Al ?_);refine Tl rfl rfl rfl rfl Ma Gf (fun b1=>?_);refine TO.nil (Fin.go (Tr.seq (Tr.Al (tm rfl (tm rfl (tp rfl (AG (xs:=[.const (.int .i64 (1)),.const (.int .i64 (1)),.const (.int .i64 (2)),.const (.int .i64 (3))]) (rows:=[[_],[_],[_],[_]]) rfl rfl underlying22 C_ z3 rfl AB ⟨⟨AK,(Vo rfl)⟩,⟨⟨AK,(Vo rfl)⟩,⟨⟨AK,(Vo rfl)⟩,⟨⟨AK,(Vo rfl)⟩,trivial⟩⟩⟩⟩ AB) ?_))))));refine TO.EJ 1 rfl rfl AB (Ab rfl rfl AB rfl (DB (l:=[1,1,2,3]) AO AO) ⟨ke rfl,(Kf rfl),trivial⟩) ?_;refine tm rfl (TO.EJ 1 rfl rfl AB (Ab rfl rfl AB rfl (R3) ⟨ke rfl,trivial⟩) ?_);refine TO.ex 15 rfl (fun z1=>TO.fact 15 rfl fun H8=>?_);refine tm rfl ?_;refine TO.Gt 1 rfl (fun s1=>?_);refine TO.EJ 1 rfl rfl AB (Ab rfl rfl AB rfl (HR AA AA) ⟨ke rfl,ke rfl,trivial⟩) (tm rfl (TO.EJ 1 rfl rfl AB (Ab rfl rfl AB rfl (HR AA AA) ⟨ke rfl,ke rfl,trivial⟩) (tp rfl (Ad (rows:=[(0,[_]),(1,[_]),(3,[_]),(4,[_]),(8,[_])]) rfl WU Gf ⟨⟨rfl,(Vo rfl)⟩,⟨⟨rfl,(Vo rfl)⟩,⟨⟨rfl,(Vo rfl)⟩,⟨⟨rfl,(Vo rfl)⟩,⟨⟨rfl,(Vo rfl)⟩,trivial⟩⟩⟩⟩⟩ rfl) ?_)));refine Tl rfl rfl rfl rfl Ma Gf (fun b2=>?_);refine TO.Aa 0 rfl rfl rfl (vl rfl) (Va rfl) rfl Co rfl rfl (TO.nil (Fin.go (eH 0 1 4 5 rfl (Tr.seq ?_))));have hva:=s1.Ai.Ai.B8 (n:=5-s.of [1,1,2,3]) AA;refine Tr.O7 0 [str name,int (s.of [1,1,2,3]),int 0,ints z1,bool (s1.val 2==2-1),is (.slice none 0 0),is (.slice none 0 0),is (.slice none 0 0),bool (s1.Ai.val 2==2-1)] rfl BI (Tr.V0 mixed [none,some (0,0,false,0),none,none,some (0,0,false,0),none,some (0,2,true,0),none,none,some (0,0,true,0)] BI (xo rfl (fun _=>AU rfl OO (vl rfl)) (KS 0 rfl rfl (Bw rfl DP (vl rfl) rfl) (xm rfl (xo rfl (fun _=>AU rfl OO (vl rfl)) (KS 0 rfl rfl (Bw rfl DP (vl rfl) rfl) ?_))))));refine xo rfl (fun _=>Q7 rfl (vl rfl) (vl rfl) ?hin) ?_;case hin=>unfold Mb;omega
 refine Cx.ef 2 rfl rfl AB (Ab rfl rfl AB rfl (Bp AA AA) ⟨ke rfl,ke rfl,trivial⟩) ?_;refine xo rfl (fun _=>Ek rfl (vl rfl) (vl rfl) ?hin) ?_;case hin=>unfold Mb;omega
 refine xo rfl (fun _=>AU rfl OP (vl rfl)) (Cx.Ej 0 rfl rfl (BG rfl rfl (vl rfl) (Vo rfl) C_ rfl Af rfl) ?_);refine Cx.nil ⟨rfl,?_⟩;refine CF.done (Cu.cons (Cu.cons (Cu.cons (Cu.cons (Cu.map _))))) (Fin.go (Tr.Zt [(0,_),(1,_),(4,_),(5,_)] ⟨ke rfl,ke rfl,ke rfl,ke rfl,trivial⟩ (fun(le:Int) (mo:Int) (s5:DS)=>[]) (fun(le:Int) (mo:Int) (s5:DS)=>Hp M0 w0 S (AF true b2 73 [str name,int le,int mo,ints z1,bool (s1.val 2==2-1),is (.slice none 0 0),is (.slice none 0 0),is (.slice none 0 0),bool (s1.Ai.val 2==2-1)]::AF true b1 73 (([.string (ByteArray.mk #[]),.int .i64 0,.int .i64 0,.slice none 0 0,.bool false,.slice none 0 0,.slice none 0 0,.slice none 0 0,.bool false]:List Value).map is)::CT b s5::Ah M1 w1::rs)) (fun(le:Int) (mo:Int) (s5:DS)=>1<=le/\le<=mo/\mo<=4) ?_ ?_));refine Tr.seq (Tr.Al (tm rfl (TO.EJ 2 rfl rfl AB (Ab rfl rfl AB rfl (Bp AA AA) ⟨ke rfl,ke rfl,trivial⟩) (tp rfl (ki rfl rfl rfl rfl) (TO.nil (Fin.go (wk5 0 1 4 5 32 rfl ?_)))))));refine Tr.cn rfl ?_ ?_<;>intro h1 q1
 refine Tr.Al (tm rfl (tp rfl (AG (xs:=[.const (.int .i64 (3)),.const (.int .i64 (4)),.const (.int .i64 (2))]) (rows:=[[_],[_],[_]]) rfl rfl underlying22 C_ z3 rfl AB ⟨⟨AK,(Vo rfl)⟩,⟨⟨AK,(Vo rfl)⟩,⟨⟨AK,(Vo rfl)⟩,trivial⟩⟩⟩ AB) ?_));refine TO.EJ 2 rfl rfl AB (Ab rfl rfl AB rfl (DB (l:=[3,4,2]) AO AO) ⟨ke rfl,(Kf rfl),trivial⟩) ?_;refine tp rfl (AU rfl OO (vl rfl)) (TO.Ej 0 rfl rfl (BG rfl rfl (vl rfl) (Vo rfl) C_ rfl Af rfl) (tp rfl (AU rfl OP (vl rfl)) (TO.Ej 0 rfl rfl (BG rfl rfl (vl rfl) (Vo rfl) C_ rfl Af rfl) (TO.nil (Fin.O7 0 [str name,int 1,int (s1.Ai.Ai.Ai.Ai.of [3,4,2]),ints z1,bool (s1.val 2==2-1),is (.slice none 0 0),is (.slice none 0 0),is (.slice none 0 0),bool (s1.Ai.val 2==2-1)] rfl BI ?_)))));exact Fin.E0 (1) (_) (_)  ((by have h_:=s1.Ai.Ai.Ai.Ai.DE (l:=[3,4,2]) AO;simp at h_;omega)) ⟨ke rfl,ke rfl,ke rfl,ke rfl,trivial⟩ (fun _ _ h=>h);refine Tr.skip (Fin.O7 0 [str name,int (s.of [1,1,2,3]),int (s.of [1,1,2,3]+s1.Ai.Ai.val (5-s.of [1,1,2,3])),ints z1,bool (s1.val 2==2-1),is (.slice none 0 0),is (.slice none 0 0),is (.slice none 0 0),bool (s1.Ai.val 2==2-1)] rfl BI (Fin.E0 ((s.of [1,1,2,3])) (_) (_)  (AA) ⟨ke rfl,ke rfl,ke rfl,ke rfl,trivial⟩ (fun _ _ h=>h)));rintro le mo s5  hle;refine Tr.seq (Tr.seq ?_);have pH:=s5.DE (l:=[1,2,1,3,0]) AO;simp at pH;refine Tr.Al (tm rfl (tp rfl (AG (xs:=[.const (.int .i64 (1)),.const (.int .i64 (2)),.const (.int .i64 (1)),.const (.int .i64 (3)),.const (.int .i64 (0))]) (rows:=[[_],[_],[_],[_],[_]]) rfl rfl underlying22 C_ z3 rfl AB ⟨⟨AK,(Vo rfl)⟩,⟨⟨AK,(Vo rfl)⟩,⟨⟨AK,(Vo rfl)⟩,⟨⟨AK,(Vo rfl)⟩,⟨⟨AK,(Vo rfl)⟩,trivial⟩⟩⟩⟩⟩ AB) ?_));refine TO.EJ 2 rfl rfl AB (Ab rfl rfl AB rfl (DB (l:=[1,2,1,3,0]) AO AO) ⟨ke rfl,(Kf rfl),trivial⟩) ?_;refine tm rfl (TO.nil (Fin.go (Tr.block (Tr.Fy 0 [str name,int le,int mo,ints z1,bool (s1.val 2==2-1),An (.slice none 0 0) (slice 4 (([]:List Fj).map EI)),is (.slice none 0 0),is (.slice none 0 0),bool (s1.Ai.val 2==2-1)] rfl ⟨Lr,Lr,Lr,Lr,Lr,CG rfl,Lr,Lr,Lr,trivial⟩ (Tr.Cm 78 4 ?_)))));refine Tr.Dl [(0,_),(1,_),(4,_),(5,_)] ⟨ke rfl,ke rfl,ke rfl,ke rfl,trivial⟩ (fun(ids:List Fj) (k:Int) (s2:DS) v=>[(6,int k)]) (fun(ids:List Fj) (k:Int) (s2:DS) v=>Hp M0 w0 S (A8 78 4 v::AF true b2 73 [str name,int le,int mo,ints z1,bool (s1.val 2==2-1),An v (Rb ids),is (.slice none 0 0),is (.slice none 0 0),bool (s1.Ai.val 2==2-1)]::AF true b1 73 (([.string (ByteArray.mk #[]),.int .i64 0,.int .i64 0,.slice none 0 0,.bool false,.slice none 0 0,.slice none 0 0,.slice none 0 0,.bool false]:List Value).map is)::CT b s2::Ah M1 w1::rs)) (fun(ids:List Fj) (k:Int) (s2:DS)=>0<=k/\k+ids.length<=3/\(∀y∈ids,y.fits/\y.small)/\∀y∈ids,NP y=true) (fun(ids:List Fj) (k:Int) (s2:DS)=>k.toNat) ([]) (_) (_) (.slice none 0 0) (⟨by omega,by simp;omega,fun y h=>by simp at h,fun y h=>by simp at h⟩) ⟨ke rfl,trivial⟩ (fun _ _ h=>h) ?_;rintro ids k s2 v ⟨hk1,hk2,U1,hk4⟩;refine Tr.seq (Tr.seq (Tr.Bk (cm rfl (co rfl (ki rfl rfl rfl rfl) (Ch.nil (Fin.go ?_))))));refine Tr.cn rfl ?_ ?_<;>intro h2 q2
 have hk0:k>0:=of_decide_eq_true h2;refine Tr.skip (Fin.go (Tr.seq (Tr.block (Tr.seq (Tr.Al (tm rfl (TO.EJ 3 rfl rfl AB (Ab rfl rfl AB rfl (bX) ⟨ke rfl,trivial⟩) ?_)))))));refine TO.ex 46 rfl (fun z2=>TO.fact 46 rfl fun PN=>?_);refine Tl rfl rfl rfl rfl z75 BZ (fun b3=>?_);refine TO.Aa 0 rfl rfl rfl (vl rfl) (Va rfl) rfl Bb rfl rfl (TO.nil (Fin.Gt 4 rfl (fun s2=>?_)));refine Fin.go (Tr.Zu [(0,_),(1,_),(4,_),(5,_),(6,_),(7,_)] ⟨ke rfl,ke rfl,ke rfl,ke rfl,ke rfl,ke rfl,trivial⟩ (fun(ka:Int) (kb:Int) (s6:DS) w=>[]) (fun(ka:Int) (kb:Int) (s6:DS) w=>Hp M0 w0 S (AF true b3 75 [int ka,int kb]::A8 78 4 w::AF true b2 73 [str name,int le,int mo,ints z1,bool (s1.val 2==2-1),An w (Rb ids),is (.slice none 0 0),is (.slice none 0 0),bool (s1.Ai.val 2==2-1)]::AF true b1 73 (([.string (ByteArray.mk #[]),.int .i64 0,.int .i64 0,.slice none 0 0,.bool false,.slice none 0 0,.slice none 0 0,.slice none 0 0,.bool false]:List Value).map is)::CT b s6::Ah M1 w1::rs)) (fun(ka:Int) (kb:Int) (s6:DS)=>pE (ka,kb)) ?_ ?_);refine Tr.seq (Tr.Al (tm rfl (TO.EJ 4 rfl rfl AB (Ab rfl rfl AB rfl (Bp AA AA) ⟨ke rfl,ke rfl,trivial⟩) (tp rfl (ki rfl rfl rfl rfl) (TO.nil (Fin.go (wk7 0 1 4 5 6 7 49 rfl ?_)))))));refine Tr.cn rfl ?_ ?_<;>intro h3 q3
 refine Tr.seq (Tr.Al (tm rfl (tp rfl (AG (xs:=[.const (.int .i64 (5)),.const (.int .i64 (7))]) (rows:=[[_],[_]]) rfl rfl underlying22 C_ z3 rfl AB ⟨⟨AK,(Vo rfl)⟩,⟨⟨AK,(Vo rfl)⟩,trivial⟩⟩ AB) ?_)));refine TO.EJ 4 rfl rfl AB (Ab rfl rfl AB rfl (DB (l:=[5,7]) AO AO) ⟨ke rfl,(Kf rfl),trivial⟩) ?_;refine tp rfl (Ad (rows:=[(0,[_]),(1,[_])]) rfl RL BZ ⟨⟨rfl,(Vo rfl)⟩,⟨⟨rfl,(Vo rfl)⟩,trivial⟩⟩ rfl) (TO.Aa 0 rfl rfl rfl (vl rfl) (Va rfl) rfl Bb rfl rfl (TO.nil (Fin.go (Tr.Al (tm rfl (tp rfl (AU rfl WV (vl rfl)) (TO.rd 0 rfl rfl rfl AB (Bw rfl DP (vl rfl) rfl) (TO.EJ 4 rfl rfl AB (Ab rfl rfl AB rfl (QU) ⟨ke rfl,ke rfl,trivial⟩) ?_))))))));refine TO.ex 57 rfl (fun z3=>TO.fact 57 rfl fun hz3=>?_);refine tp rfl (AU rfl WW (vl rfl)) (TO.Ej 0 rfl rfl (BG rfl rfl (vl rfl) (Vo rfl) C_ rfl Af rfl) (TO.nil (Fin.Gt 4 rfl (fun s3=>?_))));refine Fin.O7 0 [int (s2.Ai.of [5,7]),int z3] rfl BI ?_;exact Fin.CR (_) (_) (_) v ((by exact YE (by have:=s2.Ai.DE (l:=[5,7]) AO;simp at this ⊢;omega) hz3)) ⟨ke rfl,ke rfl,ke rfl,ke rfl,ke rfl,ke rfl,trivial⟩ (fun _ _ h=>h);refine Tr.skip (Fin.O7 0 [int z2.1,int z2.2] rfl BI (Fin.CR (_) (_) (_) v ((by exact PN)) ⟨ke rfl,ke rfl,ke rfl,ke rfl,ke rfl,ke rfl,trivial⟩ (fun _ _ h=>h)));rintro ka kb s6 w hkey;refine Tr.seq ?_;have uP:=s6.B8 (n:=20) AA;refine Tr.Al (tm rfl (TO.EJ 4 rfl rfl AB (Ab rfl rfl AB rfl (Bp AA AA) ⟨ke rfl,ke rfl,trivial⟩) ?_));refine tp rfl (Ek rfl (vl rfl) (vl rfl) ?hin) ?_;case hin=>unfold Mb;omega
 refine tm rfl (TO.nil (Fin.go (Tr.seq (Tr.Al (TO.rd 0 rfl rfl rfl AB (Cv rfl A7 Bb (vl rfl) rfl rfl) (tm rfl (tp rfl (Ad (rows:=[(0,_),(1,[_])]) rfl lB Pg ⟨⟨rfl,(Va rfl)⟩,⟨⟨rfl,(Vo rfl)⟩,trivial⟩⟩ rfl) ?_)))))));refine Tl rfl rfl rfl rfl Ts Pg (fun b4=>?_);refine TO.Aa 0 rfl rfl rfl (vl rfl) (Va rfl) rfl EF rfl rfl (TO.nil (Fin.go (wk8 0 1 4 5 6 7 8 9 rfl (Tr.seq (Tr.seq (Tr.Al (tm rfl (TO.EJ 5 rfl rfl AB (Ab rfl rfl AB rfl (HR AA AA) ⟨ke rfl,ke rfl,trivial⟩) (tp rfl (LX rfl (vl rfl)) (TO.nil (Fin.go ?_)))))))))));refine Tr.cn rfl ?_ ?_<;>intro h4 q4
 refine Tr.Al (tm rfl (tm rfl (TO.rd 1 rfl rfl rfl AB (Cv rfl A7 Bb (vl rfl) rfl rfl) (tm rfl (TO.EJ 5 rfl rfl AB (Ab rfl rfl AB rfl (Um hn hkey.1 hkey.2.1 hkey.2.2 AA) ⟨ke rfl,ke rfl,ke rfl,ke rfl,trivial⟩) ?_)))));refine TO.ex 72 rfl (fun z4=>TO.fact 72 rfl fun hz4=>?_);refine tp rfl (AU rfl RM (vl rfl)) (TO.Ej 0 rfl rfl (BG rfl rfl (vl rfl) (Vo rfl) k_ rfl Af rfl) (TO.nil (Fin.Gt 5 rfl (fun s4=>?_))));refine Fin.go (Tr.drop 1 (wk6 0 1 4 5 6 9 rfl (Tr.Al (tp rfl (AU rfl HE (vl rfl)) (TO.rd 2 rfl rfl rfl AB (Bw rfl WT (vl rfl) rfl) (TO.rd 0 rfl rfl rfl AB (Cv rfl KT EF (vl rfl) rfl rfl) (tp rfl (AG (xs:=[.tmp 76]) (rows:=[EI (⟨ka,kb,100+s6.val 20,z4⟩:Fj)]) rfl rfl underlying71 EF Ts rfl AB ⟨⟨AK,VL.le (vl rfl) (Pr.le_trans (Au (qs:=EI (⟨ka,kb,100+s6.val 20,z4⟩:Fj)) ⟨Lr,Lr,Lr,Lr,trivial⟩) (AE _))⟩,trivial⟩ AB) ?_)))))));refine TO.EV 1 rfl rfl AB (Dp rfl rfl rfl rfl underlying71 EF eZ Ts (Kb rfl) (Kf rfl) (Bx BH (Ka rfl))) (fun v1=>?_);refine tp rfl (AU rfl HE (vl rfl)) (TO.Ej 2 rfl rfl (BG rfl rfl (vl rfl) (Vo rfl) WS rfl Af rfl) (TO.nil (Fin.block (Fin.go (Tr.drop 0 (Tr.Bk (cm rfl (csu rfl rfl rfl rfl AA (cm rfl (Ch.nil ?_))))))))));refine Fin.Fy 1 [str name,int le,int mo,ints z1,bool (s1.val 2==2-1),An v1 (Rb (ids++[(⟨ka,kb,100+s6.val 20,z4⟩:Fj)])),is (.slice none 0 0),is (.slice none 0 0),bool (s1.Ai.val 2==2-1)] rfl ⟨Lr,Lr,Lr,Lr,Lr,B7 EO,Lr,Lr,Lr,trivial⟩ ?_;exact Fin.CR (ids++[(⟨ka,kb,100+s6.val 20,z4⟩:Fj)]) (k-1) (_) v1 (⟨⟨by omega,by simp;omega,QX U1 (QT hz4.1),Ni hk4 (YI hkey.1 AA hz4)⟩,by omega⟩) ⟨⟨_,rfl,int_eq AA⟩,ke rfl,ke rfl,ke rfl,ke rfl,trivial⟩ (fun _ _ h=>h);refine Tr.skip (Fin.go (Tr.drop 1 (Tr.Al (tp rfl (AU rfl HE (vl rfl)) (TO.rd 2 rfl rfl rfl AB (Bw rfl WT (vl rfl) rfl) (TO.rd 0 rfl rfl rfl AB (Cv rfl KT EF (vl rfl) rfl rfl) (tp rfl (AG (xs:=[.tmp 76]) (rows:=[EI (⟨ka,kb,100+s6.val 20,[]⟩:Fj)]) rfl rfl underlying71 EF Ts rfl AB ⟨⟨AK,VL.le (vl rfl) (Pr.le_trans (Au (qs:=EI (⟨ka,kb,100+s6.val 20,[]⟩:Fj)) ⟨Lr,Lr,Lr,AL 15,trivial⟩) (AE _))⟩,trivial⟩ AB) ?_)))))));refine TO.EV 1 rfl rfl AB (Dp rfl rfl rfl rfl underlying71 EF eZ Ts (Kb rfl) (Kf rfl) (Bx BH (Ka rfl))) (fun v2=>?_);refine tp rfl (AU rfl HE (vl rfl)) (TO.Ej 2 rfl rfl (BG rfl rfl (vl rfl) (Vo rfl) WS rfl Af rfl) (TO.nil (Fin.block (Fin.go (Tr.drop 0 (wk5 0 1 4 5 6 rfl (Tr.Bk (cm rfl (csu rfl rfl rfl rfl AA (cm rfl (Ch.nil ?_)))))))))));refine Fin.Fy 1 [str name,int le,int mo,ints z1,bool (s1.val 2==2-1),An v2 (Rb (ids++[(⟨ka,kb,100+s6.val 20,[]⟩:Fj)])),is (.slice none 0 0),is (.slice none 0 0),bool (s1.Ai.val 2==2-1)] rfl ⟨Lr,Lr,Lr,Lr,Lr,B7 EO,Lr,Lr,Lr,trivial⟩ ?_;exact Fin.CR (ids++[(⟨ka,kb,100+s6.val 20,[]⟩:Fj)]) (k-1) (_) v2 (⟨⟨by omega,by simp;omega,QX U1 (QT ⟨by simp,fun c h=>by simp at h⟩),Ni hk4 (YI hkey.1 AA ⟨⟨by simp,fun c h=>by simp at h⟩,rfl⟩)⟩,by omega⟩) ⟨⟨_,rfl,int_eq AA⟩,ke rfl,ke rfl,ke rfl,ke rfl,trivial⟩ (fun _ _ h=>h);have hk0:¬k>0:=of_decide_eq_false h2;refine Tr.exit (Fin.BJ (Fin.BJ (Fin.Bv (Fin.go (Tr.seq ?_)))));have hv5:=s2.B8 (n:=5) AA;refine Tr.Al (tp rfl (AG (xs:=[.const (.int .i64 (1)),.const (.int .i64 (2))]) (rows:=[[_],[_]]) rfl rfl underlying22 C_ z3 rfl AB ⟨⟨AK,(Vo rfl)⟩,⟨⟨AK,(Vo rfl)⟩,trivial⟩⟩ AB) ?_);refine tp rfl (AG (xs:=[.const (.int .i64 (1)),.const (.int .i64 (2))]) (rows:=[[_],[_]]) rfl rfl underlying22 C_ z3 rfl AB ⟨⟨AK,(Vo rfl)⟩,⟨⟨AK,(Vo rfl)⟩,trivial⟩⟩ AB) ?_;refine tp rfl (AG (xs:=[.const (.int .i64 (1))]) (rows:=[[_]]) rfl rfl underlying22 C_ z3 rfl AB ⟨⟨AK,(Vo rfl)⟩,trivial⟩ AB) ?_;refine tp rfl (AG (xs:=[.const (.int .i64 (2)),.const (.int .i64 (11))]) (rows:=[[_],[_]]) rfl rfl underlying22 C_ z3 rfl AB ⟨⟨AK,(Vo rfl)⟩,⟨⟨AK,(Vo rfl)⟩,trivial⟩⟩ AB) ?_;refine tp rfl (AG (xs:=[.tmp 80,.tmp 81,.tmp 82,.tmp 83,.const (.slice none 0 0)]) (rows:=[[_],[_],[_],[_],[_]]) rfl rfl underlying69 Kl z22 rfl AB ⟨⟨AK,⟨_,rfl,Pr.le_trans (Ak _ _) (AH _)⟩⟩,⟨⟨AK,⟨_,rfl,Pr.le_trans (Ak _ _) (AH _)⟩⟩,⟨⟨AK,⟨_,rfl,Pr.le_trans (Ak _ _) (AH _)⟩⟩,⟨⟨AK,⟨_,rfl,Pr.le_trans (Ak _ _) (AH _)⟩⟩,⟨⟨AK,⟨_,rfl,Pr.le_trans (AL 1) (AH _)⟩⟩,trivial⟩⟩⟩⟩⟩ AB) ?_;refine tm rfl (TO.EJ 3 rfl rfl AB (Ab rfl rfl AB rfl (Bp AA AA) ⟨ke rfl,ke rfl,trivial⟩) ?_);refine tp rfl (AD rfl underlying69 Kl (Kf rfl) (vl rfl) AA (show(anL.map fun l=>[ints l])[_]? =_ from TX (show 0<=_/\_<((5:Nat):Int)from hv5))) ?_;refine tp rfl (FH rfl Ls rfl) (tp rfl (AU rfl RJ (vl rfl)) (TO.Ej 1 rfl rfl (BG rfl rfl (vl rfl) (Vo rfl) Kl rfl Af rfl) (TO.nil (Fin.go (wk3 0 4 5 rfl (Tr.seq ?_))))));have hv3:=s2.Ai.B8 (n:=3) AA;refine Tr.Al (tp rfl (AG (xs:=[.const (.int .i64 (1)),.const (.int .i64 (2)),.const (.int .i64 (3)),.const (.int .i64 (4))]) (rows:=[[_],[_],[_],[_]]) rfl rfl underlying22 C_ z3 rfl AB ⟨⟨AK,(Vo rfl)⟩,⟨⟨AK,(Vo rfl)⟩,⟨⟨AK,(Vo rfl)⟩,⟨⟨AK,(Vo rfl)⟩,trivial⟩⟩⟩⟩ AB) ?_);refine tp rfl (AG (xs:=[.const (.int .i64 (2)),.const (.int .i64 (3)),.const (.int .i64 (4))]) (rows:=[[_],[_],[_]]) rfl rfl underlying22 C_ z3 rfl AB ⟨⟨AK,(Vo rfl)⟩,⟨⟨AK,(Vo rfl)⟩,⟨⟨AK,(Vo rfl)⟩,trivial⟩⟩⟩ AB) ?_;refine tp rfl (AG (xs:=[.const (.int .i64 (3)),.const (.int .i64 (4))]) (rows:=[[_],[_]]) rfl rfl underlying22 C_ z3 rfl AB ⟨⟨AK,(Vo rfl)⟩,⟨⟨AK,(Vo rfl)⟩,trivial⟩⟩ AB) ?_;refine tp rfl (AG (xs:=[.tmp 90,.tmp 91,.tmp 92]) (rows:=[[_],[_],[_]]) rfl rfl underlying69 Kl z22 rfl AB ⟨⟨AK,⟨_,rfl,Pr.le_trans (Ak _ _) (AH _)⟩⟩,⟨⟨AK,⟨_,rfl,Pr.le_trans (Ak _ _) (AH _)⟩⟩,⟨⟨AK,⟨_,rfl,Pr.le_trans (Ak _ _) (AH _)⟩⟩,trivial⟩⟩⟩ AB) ?_;refine tm rfl (TO.EJ 3 rfl rfl AB (Ab rfl rfl AB rfl (Bp AA AA) ⟨ke rfl,ke rfl,trivial⟩) ?_);refine tp rfl (AD rfl underlying69 Kl (Kf rfl) (vl rfl) AA (show(haL.map fun l=>[ints l])[_]? =_ from TX (show 0<=_/\_<((3:Nat):Int)from hv3))) ?_;refine tp rfl (FH rfl Ls rfl) (tp rfl (AU rfl RK (vl rfl)) (TO.Ej 1 rfl rfl (BG rfl rfl (vl rfl) (Vo rfl) Kl rfl Af rfl) (TO.nil (Fin.go (Tr.seq (Tr.Al (TO.rd 1 rfl rfl rfl AB (Cv rfl Dm Co (vl rfl) rfl rfl) (TO.Aa 2 rfl rfl rfl (vl rfl) (Va rfl) rfl Co rfl rfl (TO.nil (Fin.go (Tr.ret (Fin.CJ 3 _ rfl rfl (Fin.Ci [_,_,_] rfl (AZ.cell 2 rfl rfl Dm Co rfl (Lr)) ?_ (fun _ _ _ _=>rfl))))))))))))))
 .exact BN ⟨name,le,mo,z1,(s1.val 2==2-1),ids,Qi anL (s2.val 5),Qi haL (s2.Ai.val 3),(s1.Ai.val 2==2-1)⟩ (BS ⟨⟨by have:=DU (Iy hn).1;show name.length<=_;unfold maxLen;omega,by show z1.length<=_;have:=H8.1;omega,by have:=Ta (s2.val 5);show(Qi _ _).length<=_;omega,by have:=bg (s2.Ai.val 3);show(Qi _ _).length<=_;omega,by show ids.length<=_;omega,U1⟩,ig hw hle H8.2 AA hk4 (Ta _) (iZ _) (ia _),rfl⟩ (Au ⟨Lr,Lr,Lr,Lr,Lr,As _ _,Lr,Lr,Lr,trivial⟩))
def kA:List (Int×Int):=[(2,0),(1,0),(5,2048),(16,128),(3,0),(15,168)]
def Td(v:Int):Int×Int:=kA[v.toNat]?.getD (2,0)
theorem pI{v:Int}(h:0<=v/\v<6):(kA.map fun u=>[int u.1,int u.2])[v.toNat]? =some [int (Td v).1,int (Td v).2]:=by
 have hl:v.toNat<kA.length:=by show v.toNat<6;omega
 unfold Td;rw[List.getElem?_map,List.getElem?_eq_getElem hl];rfl
theorem ij:∀u∈kA,Bf u.1 u.2>0:=by decide+kernel
theorem dj(v:Int):Bf (Td v).1 (Td v).2>0:=by
 unfold Td;cases h:kA[v.toNat]? with
 |none=>decide+kernel
 |some u=>exact ij u (List.mem_of_getElem? h)
def Ir:Nat->DS->Int->List P9->List P9×Int×DS
 |0,s,day,l=>(l,day,s)
 |k+1,s,day,l=>Ir k s.Ai.Ai (day+1+s.Ai.of [5,30,0,100]) (l++[⟨(Td (s.val 6)).1,(Td (s.val 6)).2,day⟩])
abbrev DF(s:DS):List P9×Int×DS:=Ir (1+s.Ai.Ai.Ai.val 3).toNat s.Ai.Ai.Ai.Ai (s.Ai.Ai.val 20) []
def Kh(s:DS)(name:List UInt8):II:=⟨name,1+s.val 2,1+s.Ai.val 4,(DF s).1,((DF s).1[0]?.getD DT).day+(DF s).2.2.of [50,300,0,3000]⟩
def pJ(s:DS):DS:=(DF s).2.2.Ai
structure Un(l:List P9)(day:Int):Prop where
 lo:0<=day
 hi:day<=20+101*(l.length:Nat)
 at_:∀j,j<l.length->Du l j=true
 lt:∀x∈l,x.day<day
theorem QY{l:List P9}{day d:Int}{u:Int×Int}(h:Un l day)(h3:l.length<=3)(hu:Bf u.1 u.2>0)(hd:0<=d/\d<=100):Un (l++[⟨u.1,u.2,day⟩]) (day+1+d):=by
 have h0:=h.lo;have h1:=h.hi;refine⟨by omega,by rw[List.length_append];simp;omega,fun j hj=>?_,fun x hx=>?_⟩
 .
  rw[List.length_append]at hj;simp at hj;rcases Nat.lt_or_ge j l.length with hl|hl
  .
   have:=h.at_ j hl;unfold Du at this ⊢;rw[List.getElem?_append_left hl,List.getElem?_append_left (show j-1<l.length by omega)];exact this
  .
   have:j=l.length:=by omega
   subst this;unfold Du;rw[List.getElem?_append_right (Nat.le_refl _),Nat.sub_self];rcases Nat.eq_zero_or_pos l.length with hz|hz
   .
    obtain rfl:=List.eq_nil_of_length_eq_zero hz;simp[hu];simp at h1;omega
   .
    obtain⟨y,hy⟩:=at_ (l:=l) (k:=l.length-1) AA;rw[List.getElem?_append_left (show l.length-1<l.length by omega),hy];have:=h.lt y (List.mem_of_getElem? hy);simp[hu];omega
 .
  rcases List.mem_append.1 hx with hx|hx
  .have:=h.lt x hx;omega
  .simp at hx;subst hx;show day<_;omega
theorem R4(s:DS):0<=s.of [5,30,0,100]/\s.of [5,30,0,100]<=100:=by have:=s.DE (l:=[5,30,0,100]) AO;simp at this;omega
theorem YJ(s:DS):0<=s.of [50,300,0,3000]/\s.of [50,300,0,3000]<=3000:=by have:=s.DE (l:=[50,300,0,3000]) AO;simp at this;omega
theorem Nj:∀(k:Nat) (s:DS) (day:Int) (l:List P9),Un l day->l.length+k<=3->Un (Ir k s day l).1 (Ir k s day l).2.1/\(Ir k s day l).1.length=l.length+k
 |0,s,day,l,h,_=>⟨h,rfl⟩
 |k+1,s,day,l,h,hk=>by
  have:=Nj k s.Ai.Ai (day+1+s.Ai.of [5,30,0,100]) (l++[⟨(Td (s.val 6)).1,(Td (s.val 6)).2,day⟩]) (QY h AA (dj _) (R4 _)) CU;refine⟨this.1,?_⟩;show(Ir k _ _ _).1.length=_;rw[this.2];simp;omega
structure Mm(x:II):Prop where
 ok:Ep x=true
 name:x.name.length<=32
 links:x.links.length<=3
theorem Ox{s:DS}{name:List UInt8}(hn:named name=true):Mm (Kh s name):=by
 have h2:=s.B8 (n:=2) AA;have h4:=s.Ai.B8 (n:=4) AA;have NU:=s.Ai.Ai.B8 (n:=20) AA;have h3:=s.Ai.Ai.Ai.B8 (n:=3) AA;have hI:Un [] (s.Ai.Ai.val 20):=⟨by omega,by simp;omega,fun j hj=>by simp at hj,fun x hx=>by simp at hx⟩;obtain⟨hL,hl⟩:=Nj (1+s.Ai.Ai.Ai.val 3).toNat s.Ai.Ai.Ai.Ai (s.Ai.Ai.val 20) [] hI CU;simp only[List.length_nil,Nat.zero_add]at hl;have hlen:(DF s).1.length=(1+s.Ai.Ai.Ai.val 3).toNat:=hl;have hu:=YJ (DF s).2.2;obtain⟨c,hc⟩:=at_ (l:=(DF s).1) (k:=0) AA;have hg:=getD_at (d:=DT) hc;have hc1:=hL.lt c (List.mem_of_getElem? hc);have hc2:=hL.hi;refine⟨D9.2 ⟨hn,?_,?_,?_,?_,?_,hL.at_,?_,?_⟩,DU hn,?_⟩
 .show 1+s.val 2=1\/1+s.val 2=2;omega
 .show 1<=1+s.Ai.val 4;omega
 .show 1+s.Ai.val 4<=4;omega
 .show 1<=(DF s).1.length;omega
 .show(DF s).1.length<=8;omega
 .show((DF s).1[0]?.getD DT).day<=((DF s).1[0]?.getD DT).day+_;omega
 .show((DF s).1[0]?.getD DT).day+_<=40000;rw[hg];omega
 .show(DF s).1.length<=3;omega
theorem Oy{b:Nat}{s:DS}{name:List UInt8}  :BW prog 29 [ptr b 0,str name] (agg (Fp (Kh s name))) (CT b s) (fun _=>CT b (pJ s)):=by
 refine BW.of func29 rfl rfl Af fun M0 w0 S rs M1 w1=>?_;have Tp:=s.B8 (n:=2) AA;have hv4:=s.Ai.B8 (n:=4) AA;have uP:=s.Ai.Ai.B8 (n:=20) AA;have hv3:=s.Ai.Ai.Ai.B8 (n:=3) AA;refine Tr.seq (Tr.Al ?_);refine Tl rfl rfl rfl rfl z85 WY (fun b1=>?_);refine ao ?_;refine ao ?_;refine TO.EJ 1 rfl rfl AB (Ab rfl rfl AB rfl (Bp AA AA) ⟨ke rfl,ke rfl,trivial⟩) ?_;refine ao ?_;refine TO.EJ 1 rfl rfl AB (Ab rfl rfl AB rfl (Bp AA AA) ⟨ke rfl,ke rfl,trivial⟩) ?_;refine ao ?_;refine Tl rfl rfl rfl rfl z85 WY (fun b2=>?_);refine TO.Aa 0 rfl rfl rfl vq Ce rfl G2 rfl rfl ?_;refine ao ?_;refine ao ?_;refine TO.EJ 2 rfl rfl AB (Ab rfl rfl AB rfl (Bp AA AA) ⟨ke rfl,ke rfl,trivial⟩) ?_;refine ao ?_;refine wk [6,5,4,0] rfl ?_;refine ao ?_;refine TO.EJ 2 rfl rfl AB (Ab rfl rfl AB rfl (Bp AA AA) ⟨ke rfl,ke rfl,trivial⟩) ?_;refine ao ?_;refine Tr.block (Tr.Fy 0 [str name,int (1+s.val 2),int (1+s.Ai.val 4),An (.slice none 0 0) (Xe []),is (.int .i64 0)] rfl ⟨Lr,Lr,Lr,CG rfl,Lr,trivial⟩ (Tr.Cm 127 3 ?_));refine Tr.WJ _ (kk [5,4,0] rfl) (fun(k:Int) (day:Int) (l:List P9) (s2:DS) v=>[(7,int k),(6,int day)]) (fun(k:Int) (day:Int) (l:List P9) (s2:DS) v=>Hp M0 w0 S (A8 127 3 v::AF true b2 85 [str name,int (1+s.val 2),int (1+s.Ai.val 4),An v (Xe l),is (.int .i64 0)]::AF true b1 85 (([.string (ByteArray.mk #[]),.int .i64 0,.int .i64 0,.slice none 0 0,.int .i64 0]:List Value).map is)::CT b s2::Ah M1 w1::rs)) (fun(k:Int) (day:Int) (l:List P9) (s2:DS)=>(0<=k/\k+l.length<=3/\1<=k+l.length/\Un l day)/\Ir k.toNat s2 day l=DF s) (fun(k:Int) (day:Int) (l:List P9) (s2:DS)=>k.toNat) (_) (_) ([]) (_) (.slice none 0 0) (⟨⟨by omega,by simp;omega,by simp;omega,⟨by omega,by simp;omega,fun j hj=>by simp at hj,fun x hx=>by simp at hx⟩⟩,rfl⟩) ⟨kq,kz⟩ (fun _ _ h=>h) ?_;rintro k day l s2 v ⟨⟨hk0,hk1,hk2,hL⟩,hR⟩;have hL0:=hL.lo;have hL1:=hL.hi;have hof:=R4 s2.Ai;refine an ?_ ?_<;>intro h1 q1
 have U1:0<k:=of_decide_eq_true h1;have hv6:=s2.B8 (n:=6) AA;refine ac ?_;refine ao ?_;refine TO.EJ 3 rfl rfl AB (Ab rfl rfl AB rfl (Bp AA AA) ⟨ke rfl,ke rfl,trivial⟩) ?_;refine tp rfl (AD rfl underlying125 Bb Cs vq AA (show(kA.map fun u=>[int u.1,int u.2])[_]? =_ from pI hv6)) ?_;refine tp rfl (AJ rfl A7 Bb vq rfl rfl) ?_;refine Tl rfl rfl rfl rfl z75 BZ (fun b3=>?_);refine sf 0 8 ⟨rfl,rfl,rfl⟩ rfl rfl rfl rfl ?_;refine ao ?_;refine wk [8,7,6,5,4,0] rfl ?_;refine ao ?_;refine TO.EV 0 rfl rfl AB (Dp rfl rfl rfl rfl underlying83 FJ cq z127 It Cs (Bx BH Jd)) (fun v1=>?_);refine tp rfl (AU rfl RO vq) (TO.Ej 1 rfl rfl (BG rfl rfl vq CD lC rfl Af rfl) ?_);refine ao ?_;refine wk [7,6,5,4,0] rfl ?_;refine ao ?_;refine TO.EJ 3 rfl rfl AB (Ab rfl rfl AB rfl (DB (l:=[5,30,0,100]) AO AO) ⟨kq,Cs,trivial⟩) ?_;refine ao ?_;refine ac ?_;refine Fin.Fy 1 [str name,int (1+s.val 2),int (1+s.Ai.val 4),An v1 (Xe (l++[(⟨(Td (s2.val 6)).1,(Td (s2.val 6)).2,day⟩:P9)])),is (.int .i64 0)] rfl ⟨Lr,Lr,Lr,B7 EO,Lr,trivial⟩ ?_;exact Fin.Y3 (k-1) (_) (l++[(⟨(Td (s2.val 6)).1,(Td (s2.val 6)).2,day⟩:P9)]) (_) v1 (⟨⟨⟨by omega,by simp;omega,by simp;omega,QY hL AA (dj _) (R4 _)⟩,by rw[←hR,show k.toNat=(k-1).toNat+1 by omega];rfl⟩,by omega⟩) ⟨⟨_,rfl,int_eq AA⟩,⟨_,rfl,int_eq AA⟩,kz⟩ (fun _ _ h=>h);have U1:¬0<k:=of_decide_eq_false h1;obtain rfl:k=0:=by omega
 obtain⟨c0,hc0⟩:=at_ (l:=l) (k:=0) AA;have dW:=getD_at (d:=DT) hc0;have vA:=hL.lt c0 (List.mem_of_getElem? hc0);have vB:0<=c0.day:=by have h_:=hL.at_ 0 (BO hc0);unfold Du at h_;rw[dW]at h_;simp at h_;omega
 have pH:=YJ s2;have hR1:(DF s).1=l:=by rw[←hR];rfl
 obtain rfl:s2=(DF s).2.2:=by rw[←hR];rfl
 refine ac ?_;refine Tr.seq (Tr.rx ?_);refine ay ?_;refine xo rfl (fun _=>AD rfl underlying83 FJ It vq AA (Aj (k:=0) hc0)) ?_;refine ay ?_;refine xo rfl (fun _=>oI) ?_;refine Cx.ef 3 rfl rfl AB (Ab rfl rfl AB rfl (DB (l:=[50,300,0,3000]) AO AO) ⟨kq,Cs,trivial⟩) ?_;refine ay ?_;refine Cx.nil ⟨by kernel_rfl,?_⟩;refine CF.done al5 (Fin.go (wk [5,4] rfl ?_));refine ao ?_;refine TO.Aa 2 rfl rfl rfl vq Ce rfl G2 rfl rfl ?_;refine ao ?_;refine Tr.ret (Fin.Ci [_,_,_] rfl (AZ.cell 2 rfl rfl Ph G2 rfl Lr) ?_ (fun _ _ _ _=>rfl))
 .exact Au ⟨Lr,Lr,Lr,Pr.le_trans (As _ _) (Pr.le_of_eq (by show _=Xe (DF s).1;rw[hR1])),int_eq (by show _=((DF s).1[0]?.getD DT).day+_;rw[hR1,dW]),trivial⟩
structure PC(n:Nat)(i j:Int)(l:List G3):Prop where
 at_:∀k,k<l.length->B6 n l k=true
 lt:∀g∈l,g.client<i\/(g.client=i/\g.server<j)
theorem PC.nil(n:Nat)(i j:Int):PC n i j []:=⟨fun k hk=>by simp at hk,fun g hg=>by simp at hg⟩
theorem PC.step{n:Nat}{i j:Int}{l:List G3}(h:PC n i j l):PC n i (j+1) l:=⟨h.at_,fun g hg=>by have:=h.lt g hg;omega⟩
theorem PC.row{n:Nat}{i j:Int}{l:List G3}(h:PC n i j l):PC n (i+1) 0 l:=⟨h.at_,fun g hg=>by have:=h.lt g hg;omega⟩
theorem PC.snoc{n:Nat}{i j:Int}{l:List G3}(h:PC n i j l)(hi:0<=i/\i<n)(hj:0<=j/\j<n)(hn:i≠j):PC n i (j+1) (l++[⟨i,j⟩]):=by
 refine⟨fun k hk=>?_,fun g hg=>?_⟩
 .
  rw[List.length_append]at hk;simp at hk;rcases Nat.lt_or_ge k l.length with hl|hl
  .
   have:=h.at_ k hl;unfold B6 at this ⊢;rw[List.getElem?_append_left hl,List.getElem?_append_left (show k-1<l.length by omega)];exact this
  .
   have:k=l.length:=by omega
   subst this;unfold B6;rw[List.getElem?_append_right (Nat.le_refl _),Nat.sub_self];rcases Nat.eq_zero_or_pos l.length with hz|hz
   .
    obtain rfl:=List.eq_nil_of_length_eq_zero hz;simp;omega
   .
    obtain⟨y,hy⟩:=Cp.at_ (l:=l) (k:=l.length-1) AA;rw[List.getElem?_append_left (show l.length-1<l.length by omega),hy];have:=h.lt y (List.mem_of_getElem? hy);simp;omega
 .
  rcases List.mem_append.1 hg with hg|hg
  .have:=h.lt g hg;omega
  .simp at hg;subst hg;right;exact⟨rfl,by show j<j+1;omega⟩
theorem YK:∀i,i<2->Lib.compareBytes (FM[i]?.getD []) (FM[i+1]?.getD [])= -1:=by decide+kernel
structure MV(e:FQ):Prop where
 n2:2<=e.C9.length
 n3:e.C9.length<=3
 snd:aL e.C9
 ed:∀k,k<e.Ay.length->B6 e.C9.length e.Ay k=true
 g1:1<=e.Ay.length
 g3:e.Ay.length<=3
 it:∀x∈e.items,Mm x
 i2:e.items.length<=2
theorem MV.ok{e:FQ}(h:MV e):C4 e=true:=by
 have h3:=h.n3;have g3:=h.g3;have i2:=h.i2;refine C2.2 ⟨fun j hj=>?_,by omega,h.ed,by omega,List.all_eq_true.2 fun x hx=>(h.it x hx).ok,by omega⟩;obtain⟨x,hx⟩:=at_ hj;have hs:=h.snd j x hx;unfold Kj;rw[hx,Option.getD_some,DK.2 (aO hs),Bool.true_and,Bool.or_eq_true,decide_eq_true_eq,decide_eq_true_eq];rcases Nat.eq_zero_or_pos j with hz|hz
 .exact .inl hz
 .
  right;obtain⟨y,hy⟩:=at_ (l:=e.C9) (k:=j-1) AA;have O9:=h.snd _ y hy;rw[hy,Option.getD_some];have:=YK (j-1) AA;rw[O9.name,show j-1+1=j by omega,hs.name]at this;exact this
theorem MV.fits{e:FQ}(h:MV e):e.fits:=by
 have h3:=h.n3;have g3:=h.g3;have i2:=h.i2;refine⟨fun x hx=>?_,fun x hx=>by have:=(h.it x hx).name;unfold maxLen;omega,by omega,by omega,by omega⟩;obtain⟨i,hi⟩:=List.getElem?_of_mem hx;exact⟨NY (h.snd i x hi),MK (h.snd i x hi)⟩
abbrev Gr:List UInt8:=[98,97,99,107,117,112]
abbrev Oz:List UInt8:=[100,101,101,100]
theorem O0(s:DS):named (F0 s [Gr,Oz])=true:=by
 have h:=s.B8 (n:=2) AA;unfold F0;have:s.val (([Gr,Oz]:List (List UInt8)).length:Nat)=0\/s.val (([Gr,Oz]:List (List UInt8)).length:Nat)=1:=by show s.val 2=0\/s.val 2=1;omega
 rcases this with h|h<;>rw[h]<;>decide
theorem MW{l:List II}{y:II}(h:∀x∈l,Mm x)(hy:Mm y):∀x∈l++[y],Mm x:=by grind
theorem YL{b:Nat}{s:DS}  :BW prog 8 [ptr b 0] (Cp.ex fun e:FQ=>fact (MV e) (agg (Bn e))) (CT b s) (fun _=>EW 66 b):=by
 refine BW.of func8 rfl rfl Af fun M0 w0 S rs M1 w1=>?_;have Tp:=s.B8 (n:=2) AA;have O6:(FM.take (2+s.val 2).toNat).length=(2+s.val 2).toNat:=by rw[List.length_take];show min _ 3=_;omega
 refine Tr.seq (Tr.Al ?_);refine Tl rfl rfl rfl rfl z32 Lt (fun b1=>?_);refine TO.nil (Fin.go (Tr.seq (Tr.Al ?_)));refine Tl rfl rfl rfl rfl z32 Lt (fun b2=>?_);refine TO.nil (Fin.go (Tr.seq (Tr.Al (tp rfl (AG (xs:=[.const (.string ⟨[97,112,112].toArray⟩),.const (.string ⟨[100,98].toArray⟩),.const (.string ⟨[119,101,98].toArray⟩)]) (rows:=[[_],[_],[_]]) rfl rfl underlying67 G4 z9 rfl AB ⟨⟨AK,(Vo rfl)⟩,⟨⟨AK,(Vo rfl)⟩,⟨⟨AK,(Vo rfl)⟩,trivial⟩⟩⟩ AB) ?_))));refine tm rfl (TO.EJ 2 rfl rfl AB (Ab rfl rfl AB rfl (Bp AA AA) ⟨ke rfl,ke rfl,trivial⟩) ?_);refine tp rfl (Ek rfl (vl rfl) (vl rfl) ?hin) ?_;case hin=>unfold Mb;omega
 refine tp rfl (EX rfl underlying67 G4 (Kf rfl) (vl rfl) AA CU) ?_;refine tm rfl (TO.nil (Fin.go (Tr.seq (Tr.seq (Tr.Bk (cm rfl (co rfl (A9 rfl underlying67 (vl rfl)) (cm rfl (Ch.nil (Fin.go (Tr.block ?_)))))))))));refine Tr.re 16 rfl (Pr.le_of_eq (by show slice 1 (List.take _ (FM.map fun t=>[str t]))=_;rw[←List.map_take]):Pr.le _ (Px (FM.take (2+s.val 2).toNat))) ?_;refine Tr.re 17 rfl (int_eq (by simp;rfl):Pr.le _ (int (((FM.take (2+s.val 2).toNat).length:Nat):Int))) ?_;refine Tr.Fy 0 [An (.slice none 0 0) (slice 9 (([]:List C8).map BL)),is (.slice none 0 0),is (.slice none 0 0)] rfl ⟨CG rfl,Lr,Lr,trivial⟩ (Tr.Cm 73 9 (Tr.Dl [(0,_),(2,_),(3,_),(4,_),(16,_),(17,_)] ⟨ke rfl,ke rfl,ke rfl,ke rfl,ke rfl,ke rfl,trivial⟩ (fun(k:Nat) (es:List C8) (s2:DS) v=>[(18,int ((k:Nat):Int))]) (fun(k:Nat) (es:List C8) (s2:DS) v=>Hp M0 w0 S (A8 73 9 v::AF true b2 32 [An v (slice 9 (es.map BL)),is (.slice none 0 0),is (.slice none 0 0)]::AF true b1 32 (([.slice none 0 0,.slice none 0 0,.slice none 0 0]:List Value).map is)::CT b s2::Ah M1 w1::rs)) (fun(k:Nat) (es:List C8) (s2:DS)=>k<=(2+s.val 2).toNat/\es.length=k/\aL es) (fun(k:Nat) (es:List C8) (s2:DS)=>(2+s.val 2).toNat-k) (0) ([]) (_) (.slice none 0 0) (⟨by omega,rfl,fun i e h=>by simp at h⟩) ⟨ke rfl,trivial⟩ (fun _ _ h=>h) ?_));rintro k es s2 v ⟨hk1,hk2,U1⟩;refine Tr.seq (Tr.Bk (co rfl (ki rfl rfl rfl rfl) (Ch.nil (Fin.go (Tr.seq ?_)))));refine Tr.cn rfl ?_ ?_<;>intro h1 q1
 have hkn:k<(2+s.val 2).toNat:=by have:=EK.FP h1;rw[O6]at this;omega
 obtain⟨nm,hnm⟩:=at_ (l:=FM.take (2+s.val 2).toNat) (k:=k) AA;have E4:FM[k]? =some nm:=P8 hnm;have hso:=Xc (s2.Ai.val 3);have vC:k<3:=BO E4;have hvs:=s2.Ai.B8 (n:=3) AA;have hof:=gr s2;refine Tr.skip (Fin.go (Tr.seq (Tr.block (Tr.seq (Tr.Bk (cm rfl (co rfl (AD rfl underlying67 G4 (vl rfl) (vl rfl) AA (Aj hnm)) (co rfl (FH rfl J0 rfl) (cm rfl (cm rfl (Ch.nil (Fin.go (Tr.seq (Tr.pad ?_))))))))))))));refine Tr.V0 mixed [none,none,none,some (0,4,true,0),none,none,none,none,none,some (0,4,true,0),none,none,none,some (0,4,true,0),none,none,none,some (0,4,true,0),none,some (0,0,true,7),some (7,0,true,7)] BI (xm rfl (xm rfl (xo rfl (fun _=>AG (xs:=[.const (.int .i64 (3)),.const (.int .i64 (3)),.const (.int .i64 (4))]) (rows:=[[_],[_],[_]]) rfl rfl underlying22 C_ z3 rfl AB ⟨⟨AK,(Vo rfl)⟩,⟨⟨AK,(Vo rfl)⟩,⟨⟨AK,(Vo rfl)⟩,trivial⟩⟩⟩ AB) ?_)));refine Cx.ef 4 rfl rfl AB (Ab rfl rfl AB rfl (DB (l:=[3,3,4]) AO AO) ⟨ke rfl,(Kf rfl),trivial⟩) ?_;refine xo rfl (fun _=>AG (xs:=[.const (.int .i64 (10)),.const (.int .i64 (8)),.const (.int .i64 (2))]) (rows:=[[_],[_],[_]]) rfl rfl underlying22 C_ z3 rfl AB ⟨⟨AK,(Vo rfl)⟩,⟨⟨AK,(Vo rfl)⟩,⟨⟨AK,(Vo rfl)⟩,trivial⟩⟩⟩ AB) ?_;refine xo rfl (fun _=>AG (xs:=[.const (.int .i64 (8)),.const (.int .i64 (2))]) (rows:=[[_],[_]]) rfl rfl underlying22 C_ z3 rfl AB ⟨⟨AK,(Vo rfl)⟩,⟨⟨AK,(Vo rfl)⟩,trivial⟩⟩ AB) ?_;refine xo rfl (fun _=>AG (xs:=[.const (.int .i64 (2)),.const (.int .i64 (10)),.const (.int .i64 (8)),.const (.int .i64 (3))]) (rows:=[[_],[_],[_],[_]]) rfl rfl underlying22 C_ z3 rfl AB ⟨⟨AK,(Vo rfl)⟩,⟨⟨AK,(Vo rfl)⟩,⟨⟨AK,(Vo rfl)⟩,⟨⟨AK,(Vo rfl)⟩,trivial⟩⟩⟩⟩ AB) ?_;refine xo rfl (fun _=>AG (xs:=[.tmp 27,.tmp 28,.tmp 29]) (rows:=[[_],[_],[_]]) rfl rfl underlying69 Kl z22 rfl AB ⟨⟨AK,⟨_,rfl,Pr.le_trans (Ak _ _) (AH _)⟩⟩,⟨⟨AK,⟨_,rfl,Pr.le_trans (Ak _ _) (AH _)⟩⟩,⟨⟨AK,⟨_,rfl,Pr.le_trans (Ak _ _) (AH _)⟩⟩,trivial⟩⟩⟩ AB) ?_;refine xm rfl (Cx.ef 4 rfl rfl AB (Ab rfl rfl AB rfl (Bp AA AA) ⟨ke rfl,ke rfl,trivial⟩) ?_);refine xo rfl (fun _=>AD rfl underlying69 Kl (Kf rfl) (vl rfl) AA (show(Kq.map fun l=>[ints l])[_]? =_ from aK hvs)) ?_;refine xo rfl (fun _=>FH rfl Ls rfl) (xm rfl (Cx.ef 4 rfl rfl AB (Ab rfl rfl AB rfl (HR AA AA) ⟨ke rfl,ke rfl,trivial⟩) (xo rfl (fun _=>AG (xs:=[.const (.int .i64 (1))]) (rows:=[[_]]) rfl rfl underlying22 C_ z3 rfl AB ⟨⟨AK,(Vo rfl)⟩,trivial⟩ AB) ?_)));refine xo rfl (fun _=>AG (xs:=[.const (.int .i64 (2)),.const (.int .i64 (3))]) (rows:=[[_],[_]]) rfl rfl underlying22 C_ z3 rfl AB ⟨⟨AK,(Vo rfl)⟩,⟨⟨AK,(Vo rfl)⟩,trivial⟩⟩ AB) ?_;refine xm rfl (Cx.ef 4 rfl rfl AB (Ab rfl rfl AB rfl (HR AA AA) ⟨ke rfl,ke rfl,trivial⟩) (xo rfl (fun _=>Ad (rows:=[(0,[_]),(1,[_]),(2,[_]),(3,[_]),(4,[_]),(6,[_]),(7,[_]),(8,[_])]) rfl WU Gf ⟨⟨rfl,(Vo rfl)⟩,⟨⟨rfl,(Vo rfl)⟩,⟨⟨rfl,(Vo rfl)⟩,⟨⟨rfl,(Vo rfl)⟩,⟨⟨rfl,(Vo rfl)⟩,⟨⟨rfl,⟨_,rfl,Pr.le_trans (Ak _ _) (AH _)⟩⟩,⟨⟨rfl,⟨_,rfl,Pr.le_trans (Ak _ _) (AH _)⟩⟩,⟨⟨rfl,(Vo rfl)⟩,trivial⟩⟩⟩⟩⟩⟩⟩⟩ rfl) (Cx.ef 0 rfl rfl AB (J3 rfl rfl AB rfl Ma Gf) (Cx.Ej 0 rfl rfl (J4 rfl rfl rfl rfl (Va rfl) Co rfl rfl) ?_))));refine Cx.nil ⟨rfl,?_⟩;refine CF.open_ 0 7 rfl rfl (fun v1=>?_);refine CF.done (Cu.cons (Cu.cons (Cu.cons (Cu.cons (Cu.cons (Cu.cons (Cu.map _))))))) (Fin.YZ 7 0 _ rfl rfl (fun _=>rfl) (fun b3=>?_));refine Fin.go (eI 0 2 3 4 5 6 7 16 17 18 rfl (Tr.seq (Tr.seq (Tr.Fy 0 [str nm,int 1,int (s2.of [3,3,4]),ints (Ik (s2.Ai.val 3)),bool (s2.Ai.Ai.val 2==2-1),is (.slice none 0 0),ints [1],ints [2,3],bool (s2.Ai.Ai.Ai.val 3==3-1)] rfl ⟨Lr,Lr,Lr,Lr,Lr,Lr,Lr,Lr,Lr,trivial⟩ (Tr.Bk (co rfl (AU rfl OP (vl rfl)) (co rfl (DO 0 rfl (Bw rfl DP (vl rfl) rfl)) (co rfl (ki rfl rfl rfl rfl) (Ch.nil (Fin.go ?_))))))))));refine Tr.cn rfl ?_ ?_<;>intro h2 q2
 refine Tr.Al (tp rfl (AG (xs:=[.const (.int .i64 (14))]) (rows:=[[_]]) rfl rfl underlying22 C_ z3 rfl AB ⟨⟨AK,(Vo rfl)⟩,trivial⟩ AB) ?_);refine tp rfl (AU rfl OQ (vl rfl)) (TO.rd 0 rfl rfl rfl AB (Bw rfl Ls (vl rfl) rfl) (TO.pad ?_));refine TO.EV 0 rfl rfl AB (Dp rfl rfl rfl rfl underlying22 C_ Y6 z3 (Kf rfl) (vl rfl) (BT BH (vl rfl))) (fun v2=>?_);refine tp rfl (AU rfl OQ (vl rfl)) (TO.Ej 1 rfl rfl (BG rfl rfl (vl rfl) (Vo rfl) Kl rfl Af rfl) (TO.nil (Fin.go (eI 0 2 3 4 5 6 7 16 17 18 rfl (Tr.seq (Tr.Al (tm rfl (tp rfl (AQ rfl (dV) trivial) (tm rfl ?_)))))))));refine tp rfl (Ek rfl (vl rfl) (vl rfl) ?hin) ?_;case hin=>unfold Mb;omega
 refine tp rfl (AQ rfl (Xb (name:=nm) (a:=5) (b:=2048) (id:=100+(k:Nat)) (to:=901) (key:=1) (Og E4 AA AA) (NX AA) AA) ⟨ke rfl,ke rfl,ke rfl,ke rfl,ke rfl,trivial⟩) ?_;refine TO.ex 54 rfl (fun Qf=>TO.fact 54 rfl fun MU=>?_);refine tp rfl (AG (xs:=[.tmp 54]) (rows:=[_]) rfl rfl underlying71 EF Ts rfl AB ⟨⟨AK,(Va rfl)⟩,trivial⟩ AB) ?_;refine tp rfl (AU rfl HE (vl rfl)) (TO.Ej 1 rfl rfl (BG rfl rfl (vl rfl) (Vo rfl) WS rfl Af rfl) (TO.nil (Fin.go (wk8 0 2 3 4 7 16 17 18 rfl (Tr.Al (tp rfl (AU rfl IX (vl rfl)) (TO.rd 3 rfl rfl rfl AB (Bw rfl WL (vl rfl) rfl) (TO.rd 1 rfl rfl rfl AB (Cv rfl Dm Co (vl rfl) rfl rfl) (tp rfl (AG (xs:=[.tmp 59]) (rows:=[BL (⟨nm,1,s2.of [3,3,4],14::Ik (s2.Ai.val 3),(s2.Ai.Ai.val 2==2-1),[HS nm 5 2048 (100+(k:Nat)) 901 1 Qf],[1],[2,3],(s2.Ai.Ai.Ai.val 3==3-1)⟩:C8)]) rfl rfl underlying28 Co Ma rfl AB ⟨⟨AK,VL.le (vl rfl) (Pr.le_trans (Au (qs:=BL (⟨nm,1,s2.of [3,3,4],14::Ik (s2.Ai.val 3),(s2.Ai.Ai.val 2==2-1),[HS nm 5 2048 (100+(k:Nat)) 901 1 Qf],[1],[2,3],(s2.Ai.Ai.Ai.val 3==3-1)⟩:C8)) ⟨Lr,Lr,Lr,Pr.le_trans (As _ _) (Pr.le_of_eq rfl),Lr,Ak _ _,Lr,Lr,Lr,trivial⟩) (AE _))⟩,trivial⟩ AB) ?_)))))))));refine TO.EV 2 rfl rfl AB (Dp rfl rfl rfl rfl underlying28 Co ZA Ma (Kb rfl) (Kf rfl) (Bx BH (Ka rfl))) (fun v3=>?_);refine tp rfl (AU rfl IX (vl rfl)) (TO.Ej 3 rfl rfl (BG rfl rfl (vl rfl) (Vo rfl) Y8 rfl Af rfl) (TO.nil (Fin.block (Fin.go (Tr.drop 1 (wk7 0 2 3 4 16 17 18 rfl (Tr.Bk (Y0 rfl rfl rfl rfl AA (cm rfl (Ch.nil ?_))))))))));refine Fin.Fy 2 [An v3 (slice 9 ((es++[(⟨nm,1,s2.of [3,3,4],14::Ik (s2.Ai.val 3),(s2.Ai.Ai.val 2==2-1),[HS nm 5 2048 (100+(k:Nat)) 901 1 Qf],[1],[2,3],(s2.Ai.Ai.Ai.val 3==3-1)⟩:C8)]).map BL)),is (.slice none 0 0),is (.slice none 0 0)] rfl ⟨B7 EO,Lr,Lr,trivial⟩ ?_;refine Fin.drop 0 ?_;exact Fin.CR (k+1) (es++[(⟨nm,1,s2.of [3,3,4],14::Ik (s2.Ai.val 3),(s2.Ai.Ai.val 2==2-1),[HS nm 5 2048 (100+(k:Nat)) 901 1 Qf],[1],[2,3],(s2.Ai.Ai.Ai.val 3==3-1)⟩:C8)]) (_) v3 (⟨⟨by omega,by rw[List.length_append,hk2];rfl,P7 U1 ⟨by rw[hk2];exact E4,rfl,hof,.inr ⟨_,P6 hvs,rfl⟩,⟨Qf,MU,by rw[hk2]⟩,rfl,rfl⟩⟩,by omega⟩) ⟨⟨_,rfl,AM k⟩,ke rfl,ke rfl,ke rfl,ke rfl,ke rfl,ke rfl,trivial⟩ (fun _ _ h=>h);refine Tr.skip (Fin.go (Tr.seq (Tr.Al (tm rfl (tp rfl (AQ rfl (dV) trivial) (tm rfl ?_))))));refine tp rfl (Ek rfl (vl rfl) (vl rfl) ?hin) ?_;case hin=>unfold Mb;omega
 refine tp rfl (AQ rfl (Xb (name:=nm) (a:=5) (b:=2048) (id:=100+(k:Nat)) (to:=901) (key:=1) (Og E4 AA AA) (NX AA) AA) ⟨ke rfl,ke rfl,ke rfl,ke rfl,ke rfl,trivial⟩) ?_;refine TO.ex 54 rfl (fun Qf=>TO.fact 54 rfl fun MU=>?_);refine tp rfl (AG (xs:=[.tmp 54]) (rows:=[_]) rfl rfl underlying71 EF Ts rfl AB ⟨⟨AK,(Va rfl)⟩,trivial⟩ AB) ?_;refine tp rfl (AU rfl HE (vl rfl)) (TO.Ej 0 rfl rfl (BG rfl rfl (vl rfl) (Vo rfl) WS rfl Af rfl) (TO.nil (Fin.go (wk8 0 2 3 4 7 16 17 18 rfl (Tr.Al (tp rfl (AU rfl IX (vl rfl)) (TO.rd 2 rfl rfl rfl AB (Bw rfl WL (vl rfl) rfl) (TO.rd 0 rfl rfl rfl AB (Cv rfl Dm Co (vl rfl) rfl rfl) (tp rfl (AG (xs:=[.tmp 59]) (rows:=[BL (⟨nm,1,s2.of [3,3,4],Ik (s2.Ai.val 3),(s2.Ai.Ai.val 2==2-1),[HS nm 5 2048 (100+(k:Nat)) 901 1 Qf],[1],[2,3],(s2.Ai.Ai.Ai.val 3==3-1)⟩:C8)]) rfl rfl underlying28 Co Ma rfl AB ⟨⟨AK,VL.le (vl rfl) (Pr.le_trans (Au (qs:=BL (⟨nm,1,s2.of [3,3,4],Ik (s2.Ai.val 3),(s2.Ai.Ai.val 2==2-1),[HS nm 5 2048 (100+(k:Nat)) 901 1 Qf],[1],[2,3],(s2.Ai.Ai.Ai.val 3==3-1)⟩:C8)) ⟨Lr,Lr,Lr,Lr,Lr,Ak _ _,Lr,Lr,Lr,trivial⟩) (AE _))⟩,trivial⟩ AB) ?_)))))))));refine TO.EV 1 rfl rfl AB (Dp rfl rfl rfl rfl underlying28 Co ZA Ma (Kb rfl) (Kf rfl) (Bx BH (Ka rfl))) (fun v4=>?_);refine tp rfl (AU rfl IX (vl rfl)) (TO.Ej 2 rfl rfl (BG rfl rfl (vl rfl) (Vo rfl) Y8 rfl Af rfl) (TO.nil (Fin.block (Fin.go (Tr.drop 0 (wk7 0 2 3 4 16 17 18 rfl (Tr.Bk (Y0 rfl rfl rfl rfl AA (cm rfl (Ch.nil ?_))))))))));refine Fin.Fy 1 [An v4 (slice 9 ((es++[(⟨nm,1,s2.of [3,3,4],Ik (s2.Ai.val 3),(s2.Ai.Ai.val 2==2-1),[HS nm 5 2048 (100+(k:Nat)) 901 1 Qf],[1],[2,3],(s2.Ai.Ai.Ai.val 3==3-1)⟩:C8)]).map BL)),is (.slice none 0 0),is (.slice none 0 0)] rfl ⟨B7 EO,Lr,Lr,trivial⟩ ?_;exact Fin.CR (k+1) (es++[(⟨nm,1,s2.of [3,3,4],Ik (s2.Ai.val 3),(s2.Ai.Ai.val 2==2-1),[HS nm 5 2048 (100+(k:Nat)) 901 1 Qf],[1],[2,3],(s2.Ai.Ai.Ai.val 3==3-1)⟩:C8)]) (_) v4 (⟨⟨by omega,by rw[List.length_append,hk2];rfl,P7 U1 ⟨by rw[hk2];exact E4,rfl,hof,.inl (P6 hvs),⟨Qf,MU,by rw[hk2]⟩,rfl,rfl⟩⟩,by omega⟩) ⟨⟨_,rfl,AM k⟩,ke rfl,ke rfl,ke rfl,ke rfl,ke rfl,ke rfl,trivial⟩ (fun _ _ h=>h);have U2:k=(2+s.val 2).toNat:=by have:=EK.FP h1;rw[O6]at this;omega
 refine Tr.exit (Fin.BJ (Fin.BJ (Fin.Bv (Fin.go (Tr.seq (Tr.seq (Tr.Fy 1 [slice 9 (es.map BL),is (.slice none 0 0),is (.slice none 0 0)] rfl ⟨As _ _,Lr,Lr,trivial⟩ (Tr.drop 0 (Tr.Bk (cm rfl (co rfl (A9 rfl underlying67 (vl rfl)) (cm rfl (Ch.nil (Fin.go ?_))))))))))))));refine Tr.block ?_;refine Tr.re 65 rfl (int_eq (by simp;rfl):Pr.le _ (int (((FM.take (2+s.val 2).toNat).length:Nat):Int))) ?_;refine Tr.Fy 0 [slice 9 (es.map BL),An (.slice none 0 0) (Dy []),is (.slice none 0 0)] rfl ⟨Lr,CG rfl,Lr,trivial⟩ (Tr.Cm 82 2 (Tr.Dl [(0,_),(2,_),(3,_),(4,_),(65,_)] ⟨ke rfl,ke rfl,ke rfl,ke rfl,ke rfl,trivial⟩ (fun(i:Nat) (gs:List G3) (s3:DS) w=>[(66,int ((i:Nat):Int))]) (fun(i:Nat) (gs:List G3) (s3:DS) w=>Hp M0 w0 S (A8 82 2 w::AF true b2 32 [slice 9 (es.map BL),An w (Dy gs),is (.slice none 0 0)]::AF true b1 32 (([.slice none 0 0,.slice none 0 0,.slice none 0 0]:List Value).map is)::CT b s3::Ah M1 w1::rs)) (fun(i:Nat) (gs:List G3) (s3:DS)=>i<=(2+s.val 2).toNat/\gs.length<=3/\PC (2+s.val 2).toNat i 0 gs) (fun(i:Nat) (gs:List G3) (s3:DS)=>(2+s.val 2).toNat-i) (0) ([]) (_) (.slice none 0 0) (⟨by omega,by simp,PC.nil _ _ _⟩) ⟨ke rfl,trivial⟩ (fun _ _ h=>h) ?_));rintro i gs s3 w ⟨hi1,hi2,hi3⟩;refine Tr.seq (Tr.Bk (co rfl (ki rfl rfl rfl rfl) (Ch.nil (Fin.go (Tr.seq ?_)))));refine Tr.cn rfl ?_ ?_<;>intro h3 q3
 have hin:i<(2+s.val 2).toNat:=by have:=EK.FP h3;rw[O6]at this;omega
 refine Tr.skip (Fin.go (Tr.seq (Tr.block (Tr.seq (Tr.Bk (cm rfl (cm rfl (Ch.nil (Fin.go (Tr.seq (Tr.Bk (cm rfl (co rfl (A9 rfl underlying67 (vl rfl)) ?_)))))))))))));refine cm rfl (Ch.nil (Fin.go (Tr.block ?_)));refine Tr.re 70 rfl (int_eq (by simp;rfl):Pr.le _ (int (((FM.take (2+s.val 2).toNat).length:Nat):Int))) ?_;refine Tr.Dl [(0,_),(2,_),(3,_),(4,_),(8,_),(65,_),(66,_),(70,_)] ⟨ke rfl,ke rfl,ke rfl,ke rfl,ke rfl,ke rfl,ke rfl,ke rfl,trivial⟩ (fun(j:Nat) (Ki:List G3) (s4:DS) u=>[(71,int ((j:Nat):Int))]) (fun(j:Nat) (Ki:List G3) (s4:DS) u=>Hp M0 w0 S (A8 82 2 u::AF true b2 32 [slice 9 (es.map BL),An u (Dy Ki),is (.slice none 0 0)]::AF true b1 32 (([.slice none 0 0,.slice none 0 0,.slice none 0 0]:List Value).map is)::CT b s4::Ah M1 w1::rs)) (fun(j:Nat) (Ki:List G3) (s4:DS)=>j<=(2+s.val 2).toNat/\Ki.length<=3/\PC (2+s.val 2).toNat i j Ki) (fun(j:Nat) (Ki:List G3) (s4:DS)=>(2+s.val 2).toNat-j) (0) (gs) (_) w (⟨by omega,hi2,hi3⟩) ⟨ke rfl,trivial⟩ (fun _ _ h=>h) ?_;rintro j Ki s4 u ⟨jK,hj2,VG⟩;refine Tr.seq (Tr.Bk (co rfl (ki rfl rfl rfl rfl) (Ch.nil (Fin.go (Tr.seq ?_)))));refine Tr.cn rfl ?_ ?_<;>intro h4 q4
 have hjn:j<(2+s.val 2).toNat:=by have:=EK.FP h4;rw[O6]at this;omega
 refine Tr.skip (Fin.go (Tr.seq (Tr.block (Tr.seq (Tr.Bk (cm rfl (cm rfl (Ch.nil (Fin.go (Tr.seq (Tr.Al (tm rfl (tm rfl ?_)))))))))))));refine tp rfl (ki rfl rfl rfl rfl) (tm rfl ?_);refine TO.cases 77 rfl (fun h5=>?_) (fun h5=>?_);have q5:=EK.FP h5;refine TO.dM rfl rfl rfl h5 rfl AB (Ez rfl (vl rfl)) (TO.mT 3 rfl rfl rfl h5 rfl rfl AB (Ab rfl rfl AB rfl (Bp AA AA) ⟨ke rfl,ke rfl,trivial⟩) (TO.dM rfl rfl rfl h5 rfl AB (ki rfl rfl rfl rfl) (tp rfl (Sb rfl rfl h5 rfl) (tm rfl ?_))));refine TO.cases 82 rfl (fun h6=>?_) (fun h6=>?_);have q6:=EK.FP h6;refine TO.dM rfl rfl rfl h6 rfl AB (AU rfl J1 (vl rfl)) (TO.dM rfl rfl rfl h6 rfl AB (DO 1 rfl (Bw rfl Si (vl rfl) rfl)) (TO.dM rfl rfl rfl h6 rfl AB (Hl rfl underlying29 (Kb rfl)) (TO.dM rfl rfl rfl h6 rfl AB (ki rfl rfl rfl rfl) (tp rfl (Sb rfl rfl h6 rfl) (TO.nil (Fin.go (eJ 0 2 3 4 8 9 65 66 70 71 87 rfl ?_)))))));refine Tr.cn rfl ?_ ?_<;>intro h7 q7
 refine Tr.Al (tp rfl (AU rfl J1 (vl rfl)) (TO.rd 1 rfl rfl rfl AB (Bw rfl Si (vl rfl) rfl) (tm rfl (tm rfl (tp rfl (Ad (rows:=[(0,[_]),(1,[_])]) rfl eu RN ⟨⟨rfl,(Vo rfl)⟩,⟨⟨rfl,(Vo rfl)⟩,trivial⟩⟩ rfl) (tp rfl (AG (xs:=[.tmp 92]) (rows:=[_]) rfl rfl underlying29 GC ZB rfl AB ⟨⟨AK,(Va rfl)⟩,trivial⟩ AB) ?_))))));refine TO.EV 0 rfl rfl AB (Dp rfl rfl rfl rfl underlying29 GC eo ZB (Kb rfl) (Kf rfl) (Bx BH (Ka rfl))) (fun v5=>?_);refine tp rfl (AU rfl J1 (vl rfl)) (TO.Ej 1 rfl rfl (BG rfl rfl (vl rfl) (Vo rfl) eP rfl Af rfl) (TO.nil (Fin.block (Fin.go (wk9 0 2 3 4 8 65 66 70 71 rfl (Tr.Bk (Y0 rfl rfl rfl rfl AA (cm rfl (Ch.nil ?_)))))))));refine Fin.Fy 1 [slice 9 (es.map BL),An v5 (Dy (Ki++[(⟨((i:Nat):Int),((j:Nat):Int)⟩:G3)])),is (.slice none 0 0)] rfl ⟨Lr,B7 EO,Lr,trivial⟩ ?_;exact Fin.CR (j+1) (Ki++[(⟨((i:Nat):Int),((j:Nat):Int)⟩:G3)]) (_) v5 (⟨⟨by omega,by simp;omega,VG.snoc ⟨by omega,by omega⟩ ⟨by omega,by omega⟩ AA⟩,by omega⟩) ⟨⟨_,rfl,AM j⟩,ke rfl,ke rfl,ke rfl,ke rfl,ke rfl,ke rfl,ke rfl,ke rfl,trivial⟩ (fun _ _ h=>h);refine Tr.skip (Fin.block (Fin.go (Tr.Bk (Y0 rfl rfl rfl rfl AA (cm rfl (Ch.nil (Fin.CR (j+1) (Ki) (_) u (⟨⟨by omega,hj2,VG.step⟩,by omega⟩) ⟨⟨_,rfl,AM j⟩,ke rfl,ke rfl,ke rfl,ke rfl,ke rfl,ke rfl,ke rfl,ke rfl,trivial⟩ (fun _ _ h=>h))))))));have q6:=EK.FP h6
 iterate 4 refine TO.dN rfl rfl rfl (Ec h6) rfl AB ?_
 refine tp rfl (Sc rfl rfl h6 rfl) (TO.nil (Fin.go (eJ 0 2 3 4 8 9 65 66 70 71 87 rfl (Tr.cond rfl (fun h=>nomatch h) (fun _=>?_)))));refine Tr.skip (Fin.block (Fin.go (Tr.Bk (Y0 rfl rfl rfl rfl AA (cm rfl (Ch.nil (Fin.CR (j+1) (Ki) (_) u (⟨⟨by omega,hj2,VG.step⟩,by omega⟩) ⟨⟨_,rfl,AM j⟩,ke rfl,ke rfl,ke rfl,ke rfl,ke rfl,ke rfl,ke rfl,ke rfl,trivial⟩ (fun _ _ h=>h))))))));have q5:=EK.FP h5;refine TO.dN rfl rfl rfl (Ec h5) rfl AB (TO.dN rfl rfl rfl (Ec h5) rfl AB (TO.dN rfl rfl rfl (Ec h5) rfl AB (tp rfl (Sc rfl rfl h5 rfl) (tm rfl ?_))))
 iterate 4 refine TO.dN rfl rfl rfl (Ec rfl) rfl AB ?_
 refine tp rfl (Sc rfl rfl rfl rfl) (TO.nil (Fin.go (eJ 0 2 3 4 8 9 65 66 70 71 87 rfl (Tr.cond rfl (fun h=>nomatch h) (fun _=>?_)))));refine Tr.skip (Fin.block (Fin.go (Tr.Bk (Y0 rfl rfl rfl rfl AA (cm rfl (Ch.nil (Fin.CR (j+1) (Ki) (_) u (⟨⟨by omega,hj2,VG.step⟩,by omega⟩) ⟨⟨_,rfl,AM j⟩,ke rfl,ke rfl,ke rfl,ke rfl,ke rfl,ke rfl,ke rfl,ke rfl,trivial⟩ (fun _ _ h=>h))))))));have hje:j=(2+s.val 2).toNat:=by have:=EK.FP h4;rw[O6]at this;omega
 refine Tr.exit (Fin.BJ (Fin.BJ (Fin.Bv (Fin.block (Fin.go (Tr.Bk (Y0 rfl rfl rfl rfl AA (cm rfl (Ch.nil (Fin.CR (i+1) (Ki) (_) u (⟨⟨by omega,hj2,VG.row⟩,by omega⟩) ⟨⟨_,rfl,AM i⟩,ke rfl,ke rfl,ke rfl,ke rfl,ke rfl,trivial⟩ (fun _ _ h=>h)))))))))));have hie:i=(2+s.val 2).toNat:=by have:=EK.FP h3;rw[O6]at this;omega
 refine Tr.exit (Fin.BJ (Fin.BJ (Fin.Bv (Fin.go (Tr.seq (Tr.seq (Tr.Bk (co rfl (AU rfl J1 (vl rfl)) (co rfl (DO 1 rfl (Bw rfl Si (vl rfl) rfl)) (co rfl (Hl rfl underlying29 (Kb rfl)) (co rfl (ki rfl rfl rfl rfl) (Ch.nil (Fin.go ?_)))))))))))));refine Tr.cn rfl ?_ ?_<;>intro h8 q8
 refine Tr.Al (tp rfl (Ad (rows:=[(0,[_]),(1,[_])]) rfl eu RN ⟨⟨rfl,(Vo rfl)⟩,⟨⟨rfl,(Vo rfl)⟩,trivial⟩⟩ rfl) (tp rfl (AG (xs:=[.tmp 102]) (rows:=[_]) rfl rfl underlying29 GC ZB rfl AB ⟨⟨AK,(Va rfl)⟩,trivial⟩ AB) ?_));refine tp rfl (AU rfl J1 (vl rfl)) (TO.Ej 1 rfl rfl (BG rfl rfl (vl rfl) (Vo rfl) eP rfl Af rfl) (TO.nil (Fin.go (wk3 0 2 3 rfl (Tr.seq (Tr.seq ?_))))));have hv9:=s3.B8 (n:=3) AA;obtain⟨U0,hge,kE,kG,kH⟩:∃l:List G3,l=[⟨0,1⟩]/\(∀k,k<l.length->B6 (2+s.val 2).toNat l k=true)/\1<=l.length/\l.length<=3:=⟨_,rfl,((PC.nil (2+s.val 2).toNat 0 1).snoc ⟨by omega,by omega⟩ ⟨by omega,by omega⟩ AA).at_,by simp,by simp⟩;refine Tr.Fy 1 [slice 9 (es.map BL),Dy U0,is (.slice none 0 0)] rfl ⟨Lr,Pr.le_trans (Ak _ _) (Pr.le_of_eq (by rw[hge];rfl)),Lr,trivial⟩ ?_;refine Tr.drop 0 (Tr.Al (tm rfl (TO.EJ 2 rfl rfl AB (Ab rfl rfl AB rfl (Bp AA AA) ⟨ke rfl,ke rfl,trivial⟩) (tm rfl (TO.nil (Fin.go (Tr.block (Tr.Fy 0 [slice 9 (es.map BL),Dy U0,An (.slice none 0 0) (H_ [])] rfl ⟨Lr,Lr,CG rfl,trivial⟩ (Tr.Cm 85 5 ?_)))))))));refine Tr.Dl [(0,_),(2,_),(3,_)] ⟨ke rfl,ke rfl,ke rfl,trivial⟩ (fun(q:Int) (its:List II) (s5:DS) x=>[(10,int q)]) (fun(q:Int) (its:List II) (s5:DS) x=>Hp M0 w0 S (A8 85 5 x::AF true b2 32 [slice 9 (es.map BL),Dy U0,An x (H_ its)]::AF true b1 32 (([.slice none 0 0,.slice none 0 0,.slice none 0 0]:List Value).map is)::CT b s5::Ah M1 w1::rs)) (fun(q:Int) (its:List II) (s5:DS)=>0<=q/\q+its.length<=2/\∀x∈its,Mm x) (fun(q:Int) (its:List II) (s5:DS)=>q.toNat) (_) ([]) (_) (.slice none 0 0) (⟨by omega,by simp;omega,fun x h=>by simp at h⟩) ⟨ke rfl,trivial⟩ (fun _ _ h=>h) ?_;rintro q its s5 x ⟨hq1,Qe,hqi⟩;refine Tr.seq (Tr.seq (Tr.Bk (cm rfl (co rfl (ki rfl rfl rfl rfl) (Ch.nil (Fin.go ?_))))));refine Tr.cn rfl ?_ ?_<;>intro h9 q9
 have Wk:0<q:=of_decide_eq_true h9;refine Tr.skip (Fin.go (Tr.seq (Tr.block (Tr.pad (Tr.V0 mixed [none,some (0,2,false,0),none,none,none,some (0,4,true,0),some (0,4,true,0),none,some (0,1,true,119),none,some (0,2,true,119)] BI (xo rfl (fun _=>AU rfl IY (vl rfl)) (KS 2 rfl rfl (Bw rfl WM (vl rfl) rfl) (xm rfl (xm rfl (xo rfl (fun _=>AG (xs:=[.const (.string ⟨[98,97,99,107,117,112].toArray⟩),.const (.string ⟨[100,101,101,100].toArray⟩)]) (rows:=[[_],[_]]) rfl rfl underlying67 G4 z9 rfl AB ⟨⟨AK,(Vo rfl)⟩,⟨⟨AK,(Vo rfl)⟩,trivial⟩⟩ AB) ?_))))))))));refine Cx.ef 4 rfl rfl AB (Ab rfl rfl AB rfl (MJ (l:=[[98,97,99,107,117,112],[100,101,101,100]]) AO AO) ⟨ke rfl,(Kf rfl),trivial⟩) ?_;refine Cx.ef 4 rfl rfl AB (Ab rfl rfl AB rfl (Oy) ⟨ke rfl,ke rfl,trivial⟩) (xo rfl (fun _=>AG (xs:=[.tmp 117]) (rows:=[_]) rfl rfl underlying30 G2 z85 rfl AB ⟨⟨AK,(Va rfl)⟩,trivial⟩ AB) ?_);refine Cx.ef 1 rfl rfl AB (Dp rfl rfl rfl rfl underlying30 G2 ZC z85 (Kb rfl) (Kf rfl) (Bx BH (Ka rfl))) ?_;refine xo rfl (fun _=>AU rfl IY (vl rfl)) (Cx.Ej 2 rfl rfl (E9 rfl rfl rfl (vl rfl) rfl Y9 Af) ?_);refine Cx.nil ⟨rfl,?_⟩;refine CF.NF 1 2 119 rfl rfl AB rfl (fun v6=>?_);refine CF.done (Cu.cons (Cu.cons (Cu.cons (Cu.cons (Cu.cons (Cu.cons (Cu.map _))))))) (Fin.block (Fin.go (Tr.drop 0 (eH 0 2 3 10 rfl (Tr.Bk (cm rfl (csu rfl rfl rfl rfl AA (cm rfl (Ch.nil ?_)))))))));refine Fin.Fy 1 [slice 9 (es.map BL),Dy U0,An v6 (H_ (its++[(Kh s5.Ai (F0 s5 [Gr,Oz]))]))] rfl ⟨Lr,Lr,B7 EO,trivial⟩ ?_;exact Fin.CR (q-1) (its++[(Kh s5.Ai (F0 s5 [Gr,Oz]))]) (_) v6 (⟨⟨by omega,by simp;omega,MW hqi (Ox (O0 s5))⟩,by omega⟩) ⟨⟨_,rfl,int_eq AA⟩,ke rfl,ke rfl,ke rfl,trivial⟩ (fun _ _ h=>h);have Wk:¬0<q:=of_decide_eq_false h9;refine Tr.exit (Fin.BJ (Fin.BJ (Fin.Bv (Fin.go (Tr.seq (Tr.Al (TO.rd 1 rfl rfl rfl AB (Cv rfl HD Ge (vl rfl) rfl rfl) (TO.Aa 2 rfl rfl rfl (vl rfl) (Va rfl) rfl Ge rfl rfl (TO.nil (Fin.go (Tr.ret (Fin.CJ 3 _ rfl rfl (Fin.Ci [_,_,_] rfl (AZ.cell 2 rfl rfl HD Ge rfl (Lr)) ?_ (fun _ _ _ _=>rfl))))))))))))))
 .exact VM
 refine Tr.skip (Fin.go (Tr.seq (Tr.seq ?_)));have hv9:=s3.B8 (n:=3) AA;obtain⟨U0,hge,kE,kG,kH⟩:∃l:List G3,l=gs/\(∀k,k<l.length->B6 (2+s.val 2).toNat l k=true)/\1<=l.length/\l.length<=3:=⟨_,rfl,hi3.at_,by have h_:=h8;simp at h_;exact List.length_pos_iff.2 h_,hi2⟩;refine Tr.Fy 1 [slice 9 (es.map BL),Dy U0,is (.slice none 0 0)] rfl ⟨Lr,Pr.le_trans (As _ _) (Pr.le_of_eq (by rw[hge])),Lr,trivial⟩ (Tr.drop 0 (Tr.Al (tm rfl (TO.EJ 2 rfl rfl AB (Ab rfl rfl AB rfl (Bp AA AA) ⟨ke rfl,ke rfl,trivial⟩) (tm rfl (TO.nil (Fin.go (eH 0 2 3 10 rfl (Tr.block (Tr.Fy 0 [slice 9 (es.map BL),Dy U0,An (.slice none 0 0) (H_ [])] rfl ⟨Lr,Lr,CG rfl,trivial⟩ (Tr.Cm 85 5 ?_)))))))))));refine Tr.Dl [(0,_),(2,_),(3,_)] ⟨ke rfl,ke rfl,ke rfl,trivial⟩ (fun(q:Int) (its:List II) (s5:DS) x=>[(10,int q)]) (fun(q:Int) (its:List II) (s5:DS) x=>Hp M0 w0 S (A8 85 5 x::AF true b2 32 [slice 9 (es.map BL),Dy U0,An x (H_ its)]::AF true b1 32 (([.slice none 0 0,.slice none 0 0,.slice none 0 0]:List Value).map is)::CT b s5::Ah M1 w1::rs)) (fun(q:Int) (its:List II) (s5:DS)=>0<=q/\q+its.length<=2/\∀x∈its,Mm x) (fun(q:Int) (its:List II) (s5:DS)=>q.toNat) (_) ([]) (_) (.slice none 0 0) (⟨by omega,by simp;omega,fun x h=>by simp at h⟩) ⟨ke rfl,trivial⟩ (fun _ _ h=>h) ?_;rintro q its s5 x ⟨hq1,Qe,hqi⟩;refine Tr.seq (Tr.seq (Tr.Bk (cm rfl (co rfl (ki rfl rfl rfl rfl) (Ch.nil (Fin.go ?_))))));refine Tr.cn rfl ?_ ?_<;>intro h10 MB
 have Wk:0<q:=of_decide_eq_true h10;refine Tr.skip (Fin.go (Tr.seq (Tr.block (Tr.pad (Tr.V0 mixed [none,some (0,2,false,0),none,none,none,some (0,4,true,0),some (0,4,true,0),none,some (0,1,true,119),none,some (0,2,true,119)] BI (xo rfl (fun _=>AU rfl IY (vl rfl)) (KS 2 rfl rfl (Bw rfl WM (vl rfl) rfl) (xm rfl (xm rfl (xo rfl (fun _=>AG (xs:=[.const (.string ⟨[98,97,99,107,117,112].toArray⟩),.const (.string ⟨[100,101,101,100].toArray⟩)]) (rows:=[[_],[_]]) rfl rfl underlying67 G4 z9 rfl AB ⟨⟨AK,(Vo rfl)⟩,⟨⟨AK,(Vo rfl)⟩,trivial⟩⟩ AB) ?_))))))))));refine Cx.ef 4 rfl rfl AB (Ab rfl rfl AB rfl (MJ (l:=[[98,97,99,107,117,112],[100,101,101,100]]) AO AO) ⟨ke rfl,(Kf rfl),trivial⟩) ?_;refine Cx.ef 4 rfl rfl AB (Ab rfl rfl AB rfl (Oy) ⟨ke rfl,ke rfl,trivial⟩) (xo rfl (fun _=>AG (xs:=[.tmp 117]) (rows:=[_]) rfl rfl underlying30 G2 z85 rfl AB ⟨⟨AK,(Va rfl)⟩,trivial⟩ AB) ?_);refine Cx.ef 1 rfl rfl AB (Dp rfl rfl rfl rfl underlying30 G2 ZC z85 (Kb rfl) (Kf rfl) (Bx BH (Ka rfl))) ?_;refine xo rfl (fun _=>AU rfl IY (vl rfl)) (Cx.Ej 2 rfl rfl (E9 rfl rfl rfl (vl rfl) rfl Y9 Af) ?_);refine Cx.nil ⟨rfl,?_⟩;refine CF.NF 1 2 119 rfl rfl AB rfl (fun v7=>?_);refine CF.done (Cu.cons (Cu.cons (Cu.cons (Cu.cons (Cu.cons (Cu.cons (Cu.map _))))))) (Fin.block (Fin.go (Tr.drop 0 (eH 0 2 3 10 rfl (Tr.Bk (cm rfl (csu rfl rfl rfl rfl AA (cm rfl (Ch.nil ?_)))))))));refine Fin.Fy 1 [slice 9 (es.map BL),Dy U0,An v7 (H_ (its++[(Kh s5.Ai (F0 s5 [Gr,Oz]))]))] rfl ⟨Lr,Lr,B7 EO,trivial⟩ ?_;exact Fin.CR (q-1) (its++[(Kh s5.Ai (F0 s5 [Gr,Oz]))]) (_) v7 (⟨⟨by omega,by simp;omega,MW hqi (Ox (O0 s5))⟩,by omega⟩) ⟨⟨_,rfl,int_eq AA⟩,ke rfl,ke rfl,ke rfl,trivial⟩ (fun _ _ h=>h);have Wk:¬0<q:=of_decide_eq_false h10;refine Tr.exit (Fin.BJ (Fin.BJ (Fin.Bv (Fin.go (Tr.seq (Tr.Al (TO.rd 1 rfl rfl rfl AB (Cv rfl HD Ge (vl rfl) rfl rfl) (TO.Aa 2 rfl rfl rfl (vl rfl) (Va rfl) rfl Ge rfl rfl (TO.nil (Fin.go (Tr.ret (Fin.CJ 3 _ rfl rfl (Fin.Ci [_,_,_] rfl (AZ.cell 2 rfl rfl HD Ge rfl (Lr)) ?_ (fun _ _ _ _=>rfl))))))))))))))
 .exact VM
def IK:List (List UInt8):=[[97,112,112],[100,98],[109,97,105,108],[119,101,98]]
theorem Te{M0:Av}{S:Nat->Prop}{n:Fm}{R R':SR}{p p0:Pr}(s:Nat){α:Type}{f:α->Pr}{φ:α->Prop}(hg:o.guard=none)(hs:E.lookup s=some p0)(hp:Pr.le p0 (Cp.ex fun x=>fact (φ x) (f x)))(hm:s∈looks o)(h:∀x,φ x->DW P M0 w0 S n j R R' o ((s,f x)::E) p):DW P M0 w0 S n j R R' o E p:=
 ⟨hg,fun M w a rs hsz he hI hj=>by
  obtain⟨x,hx,hv⟩:=hp _ _ _ (he s _ hm hs);refine(h x hx).2 M w a rs hsz (fun t q ht hq=>?_) hI hj;simp only[List.lookup]at hq
  by_cases hts:t=s
  .subst hts;simp at hq;subst hq;exact hv
  .rw[show(t==s)=false by simpa using hts]at hq;exact he t q ht hq⟩
theorem QZ:∀nm∈IK,CV [nm,nm++[120]]=true/\FW nm=true:=by decide+kernel
theorem YM:∀i,i<3->Lib.compareBytes (IK[i]?.getD []) (IK[i+1]?.getD [])= -1:=by decide+kernel
def bh(es:List C8):Prop:=∀(i:Nat) e,es[i]? =some e->e.sz 2000/\Ct e=true/\IK[i]? =some e.name
theorem bh.nil:bh []:=fun i e h=>by simp at h
theorem bh.snoc{es:List C8}{x:C8}(h:bh es)(hx:x.sz 2000/\Ct x=true/\IK[es.length]? =some x.name):bh (es++[x]):=by
 intro i e hi;rcases Nat.lt_or_ge i es.length with hl|hl
 .rw[List.getElem?_append_left hl]at hi;exact h i e hi
 .
  rw[List.getElem?_append_right hl]at hi
  have:i-es.length=0:=by
   rcases Nat.eq_zero_or_pos (i-es.length)with h0|h0
   .exact h0
   .rw[List.getElem?_eq_none CU]at hi;cases hi
  rw[this]at hi;simp at hi;subst hi;rw[show i=es.length by omega];exact hx
abbrev Qj(k:Nat):Pr:=Cp.ex fun es:List C8=>fact (es.length=k/\bh es) (slice 9 (es.map BL))
theorem bk:Pr.le (is (.slice none 0 0)) (An (.slice none 0 0) (Qj 0)):=fun M w v h=>⟨h,[],⟨rfl,bh.nil⟩,AL 9 M w v h⟩
theorem Uo:Pr.le (An v (Qj k)) (Cp.ex fun es:List C8=>fact (es.length=k/\bh es) (An v (slice 9 (es.map BL)))):=fun _ _ _ ⟨h1,es,h2,h3⟩=>⟨es,h2,h1,h3⟩
structure dm(e:FQ):Prop where
 n4:e.C9.length<=4
 ep:bh e.C9
 ed:∀k,k<e.Ay.length->B6 e.C9.length e.Ay k=true
 g16:e.Ay.length<=16
 it:∀x∈e.items,Mm x
 i2:e.items.length<=2
theorem dm.ok{e:FQ}(h:dm e):C4 e=true:=by
 have h3:=h.n4;have g3:=h.g16;have i2:=h.i2;refine C2.2 ⟨fun j hj=>?_,by omega,h.ed,by omega,List.all_eq_true.2 fun x hx=>(h.it x hx).ok,by omega⟩;obtain⟨x,hx⟩:=at_ hj;obtain⟨_,hs,hn⟩:=h.ep j x hx;unfold Kj;rw[hx,Option.getD_some,hs,Bool.true_and,Bool.or_eq_true,decide_eq_true_eq,decide_eq_true_eq];rcases Nat.eq_zero_or_pos j with hz|hz
 .exact .inl hz
 .
  right;obtain⟨y,hy⟩:=at_ (l:=e.C9) (k:=j-1) AA;obtain⟨_,_,hn2⟩:=h.ep _ y hy;rw[hy,Option.getD_some];have:=YM (j-1) AA;rw[hn2,show j-1+1=j by omega,hn]at this;exact this
theorem dm.fits{e:FQ}(h:dm e):e.fits:=by
 have h3:=h.n4;have g3:=h.g16;have i2:=h.i2;refine⟨fun x hx=>?_,fun x hx=>by have:=(h.it x hx).name;unfold maxLen;omega,by omega,by omega,by omega⟩;obtain⟨i,hi⟩:=List.getElem?_of_mem hx;obtain⟨hz,_,_⟩:=h.ep i x hi;exact⟨hz.fits,hz.small AA⟩
theorem bl{n:Nat}{gs:List G3}{its:List II}{x:Value}(hn:n<=4)(hg:∀k,k<gs.length->B6 n gs k=true)(hgl:gs.length<=16)(hi:∀x∈its,Mm x)(Ey:its.length<=2):Pr.le (agg [Qj n,Dy gs,An x (H_ its)]) (Cp.ex fun e:FQ=>fact (dm e) (agg (Bn e))):=by
 rintro M w v ⟨cs,h1,h2,h3⟩
 match cs,h3 with
 |[c1,c2,c3],⟨⟨es,Zo,he⟩,h5,h6,_⟩=>
  exact⟨⟨es,gs,its⟩,⟨by show es.length<=4;rw[Zo.1];exact hn,Zo.2,by show ∀k,k<gs.length->B6 es.length gs k=true;rw[Zo.1];exact hg,hgl,hi,Ey⟩,[c1,c2,c3],h1,h2,he,h5,h6.2,trivial⟩
theorem R5{b:Nat}{s:DS}  :BW prog 10 [ptr b 0] (Cp.ex fun e:FQ=>fact (dm e) (agg (Bn e))) (CT b s) (fun _=>EW 66 b):=by
 refine BW.of func10 rfl rfl Af fun M0 w0 S rs M1 w1=>?_;have hv3:=s.B8 (n:=3) AA;have O6:(IK.take (2+s.val 3).toNat).length=(2+s.val 3).toNat:=by rw[List.length_take];show min _ 4=_;omega
 refine Tr.seq (Tr.Al ?_);refine Tl rfl rfl rfl rfl z32 Lt (fun b1=>?_);refine ap ?_;refine Tr.seq (Tr.Al ?_);refine Tl rfl rfl rfl rfl z32 Lt (fun b2=>?_);refine ap ?_;refine ap ?_;refine TO.EJ 2 rfl rfl AB (Ab rfl rfl AB rfl (Bp AA AA) ⟨ke rfl,ke rfl,trivial⟩) ?_;refine tp rfl (Ek rfl vq vq ?hin) ?_;case hin=>unfold Mb;omega
 refine tp rfl (EX rfl underlying67 G4 Cs vq AA CU) ?_;refine ap ?_;refine ac ?_;refine Tr.block ?_;refine Tr.re 4 rfl (Pr.le_of_eq (by show slice 1 (List.take _ (IK.map fun t=>[str t]))=_;rw[←List.map_take]):Pr.le _ (Px (IK.take (2+s.val 3).toNat))) ?_;refine Tr.Fy 0 [An (.slice none 0 0) (Qj 0),is (.slice none 0 0),is (.slice none 0 0)] rfl ⟨bk,Lr,Lr,trivial⟩ (Tr.Cm 73 9 (Tr.JB _ (kk [4,3,2,0] rfl) (fun(k:Nat) (s2:DS) v=>[(5,int ((k:Nat):Int))]) (fun(k:Nat) (s2:DS) v=>Hp M0 w0 S (A8 73 9 v::AF true b2 32 [An v (Qj k),is (.slice none 0 0),is (.slice none 0 0)]::AF true b1 32 (([.slice none 0 0,.slice none 0 0,.slice none 0 0]:List Value).map is)::CT b s2::Ah M1 w1::rs)) (fun(k:Nat) (s2:DS)=>k<=(2+s.val 3).toNat) (fun(k:Nat) (s2:DS)=>(2+s.val 3).toNat-k) (0) (_) (.slice none 0 0) (AA) kz (fun _ _ h=>h) ?_));rintro k s2 v hk1;refine an ?_ ?_<;>intro h1 q1
 have hkn:k<(2+s.val 3).toNat:=by have:=EK.FP h1;rw[O6]at this;omega
 obtain⟨nm,hnm⟩:=at_ (l:=IK.take (2+s.val 3).toNat) (k:=k) AA;have E4:IK[k]? =some nm:=P8 hnm;have pK:=List.mem_of_getElem? E4;refine ac ?_;refine Tr.seq (Tr.block (Tr.pad (Tr.rx ?_)));refine ax ?_;refine xo rfl (fun _=>AD rfl underlying67 G4 vq vq AA (Aj hnm)) (xo rfl (fun _=>FH rfl J0 rfl) (Cx.ef 4 rfl rfl AB (Ab rfl rfl AB rfl (Ow (QZ nm pK).1 (QZ nm pK).2) ⟨kq,kz⟩) (xo rfl (fun _=>Ac.YZ 27 rfl AB fun x=>Ac.opf 27 rfl AB fun hx=>Ac.le (AG (xs:=[.tmp 27]) (rows:=[BL x]) rfl rfl underlying28 Co Ma rfl AB ⟨⟨AK,VL.le vq (AE _)⟩,trivial⟩ AB) (BN x (BS hx Lr):Pr.le _ (Cp.ex fun x:C8=>fact (x.sz 2000/\Ct x=true/\x.name=nm) (full 9 [BL x])))) ?_)));refine Cx.ef 1 rfl rfl AB (Te 21 rfl rfl Uo AB fun es Zo=>Te 28 rfl rfl Lr AB fun x hx=>DW.le (Dp rfl rfl rfl rfl underlying28 Co ZA Ma It Cs (Bx BH Jd)) (BN (es++[x]) (BS ⟨by simp[Zo.1],Zo.2.snoc ⟨hx.1,hx.2.1,by rw[hx.2.2,Zo.1];exact E4⟩⟩ (Pr.le_of_eq EO)):Pr.le _ (Qj (k+1)))) ?_;refine xo rfl (fun _=>AU rfl IX vq) (Cx.Ej 2 rfl rfl (E9 rfl rfl rfl vq rfl Y8 Af) ?_);refine Cx.nil ⟨by kernel_rfl,?_⟩;refine CF.NF 1 2 29 rfl rfl AB rfl (fun v1=>?_);refine CF.done al6 (Fin.Gt 4 rfl (fun s1=>?_));refine ac ?_;refine Tr.drop 0 (wk [5,4,3,2,0] rfl ?_);refine ac ?_;refine Fin.Fy 1 [An v1 (Qj (k+1)),is (.slice none 0 0),is (.slice none 0 0)] rfl ⟨Lr,Lr,Lr,trivial⟩ (Fin.K6 (k+1) (_) v1 (⟨by omega,by omega⟩) ⟨⟨_,rfl,AM k⟩,kz⟩ (fun _ _ h=>h));have U2:k=(2+s.val 3).toNat:=by have:=EK.FP h1;rw[O6]at this;omega
 refine ac ?_;refine Tr.seq (Tr.seq ?_);refine Tr.Fy 1 [Qj (2+s.val 3).toNat,is (.slice none 0 0),is (.slice none 0 0)] rfl ⟨(by rw[U2];exact As _ _),Lr,Lr,trivial⟩ ?_;refine Tr.drop 0 ?_;refine ac ?_;refine Tr.block (Tr.Fy 0 [Qj (2+s.val 3).toNat,An (.slice none 0 0) (Dy []),is (.slice none 0 0)] rfl ⟨Lr,CG rfl,Lr,trivial⟩ (Tr.Cm 82 2 (Tr.Dl _ (kk [4,3,2,0] rfl) (fun(i:Nat) (gs:List G3) (s3:DS) w=>[(6,int ((i:Nat):Int))]) (fun(i:Nat) (gs:List G3) (s3:DS) w=>Hp M0 w0 S (A8 82 2 w::AF true b2 32 [Qj (2+s.val 3).toNat,An w (Dy gs),is (.slice none 0 0)]::AF true b1 32 (([.slice none 0 0,.slice none 0 0,.slice none 0 0]:List Value).map is)::CT b s3::Ah M1 w1::rs)) (fun(i:Nat) (gs:List G3) (s3:DS)=>i<=(2+s.val 3).toNat/\gs.length<=4*i/\PC (2+s.val 3).toNat i 0 gs) (fun(i:Nat) (gs:List G3) (s3:DS)=>(2+s.val 3).toNat-i) (0) ([]) (_) (.slice none 0 0) (⟨by omega,by simp,PC.nil _ _ _⟩) kz (fun _ _ h=>h) ?_)));rintro i gs s3 w ⟨hi1,hi2,hi3⟩;refine an ?_ ?_<;>intro h2 q2
 have hin:i<(2+s.val 3).toNat:=by have:=EK.FP h2;rw[O6]at this;omega
 refine a2 ?_;refine Tr.block (Tr.Dl _ (kk [6,4,3,2,0] rfl) (fun(j:Nat) (Ki:List G3) (s4:DS) u=>[(7,int ((j:Nat):Int))]) (fun(j:Nat) (Ki:List G3) (s4:DS) u=>Hp M0 w0 S (A8 82 2 u::AF true b2 32 [Qj (2+s.val 3).toNat,An u (Dy Ki),is (.slice none 0 0)]::AF true b1 32 (([.slice none 0 0,.slice none 0 0,.slice none 0 0]:List Value).map is)::CT b s4::Ah M1 w1::rs)) (fun(j:Nat) (Ki:List G3) (s4:DS)=>j<=(2+s.val 3).toNat/\Ki.length<=4*i+j/\PC (2+s.val 3).toNat i j Ki) (fun(j:Nat) (Ki:List G3) (s4:DS)=>(2+s.val 3).toNat-j) (0) (gs) (_) w (⟨by omega,hi2,hi3⟩) kz (fun _ _ h=>h) ?_);rintro j Ki s4 u ⟨jK,hj2,VG⟩;refine an ?_ ?_<;>intro h3 q3
 have hjn:j<(2+s.val 3).toNat:=by have:=EK.FP h3;rw[O6]at this;omega
 have hw3:=s4.B8 (n:=3) AA;refine ac ?_;refine ap ?_;refine TO.cases 46 rfl (fun h4=>?_) (fun h4=>?_);have q4:=EK.FP h4;refine TO.dM rfl rfl rfl h4 rfl AB (Ez rfl (vl rfl)) (TO.mT 3 rfl rfl rfl h4 rfl rfl AB (Ab rfl rfl AB rfl (Bp AA AA) ⟨ke rfl,ke rfl,trivial⟩) (TO.dM rfl rfl rfl h4 rfl AB (ki rfl rfl rfl rfl) ?_));refine ap ?_;refine wk [50,7,6,4,3,2,0] rfl ?_;refine Tr.cn rfl ?_ ?_<;>intro h5 q5
 refine ap ?_;refine TO.EV 0 rfl rfl AB (Dp rfl rfl rfl rfl underlying29 GC eo ZB It Cs (Bx BH Jd)) (fun v2=>?_);refine ap ?_;refine wk [7,6,4,3,2,0] rfl ?_;refine ac ?_;refine Fin.Fy 1 [Qj (2+s.val 3).toNat,An v2 (Dy (Ki++[(⟨((i:Nat):Int),((j:Nat):Int)⟩:G3)])),is (.slice none 0 0)] rfl ⟨Lr,B7 EO,Lr,trivial⟩ ?_;exact Fin.CR (j+1) (Ki++[(⟨((i:Nat):Int),((j:Nat):Int)⟩:G3)]) (_) v2 (⟨⟨by omega,by simp;omega,VG.snoc ⟨by omega,by omega⟩ ⟨by omega,by omega⟩ GP⟩,by omega⟩) ⟨⟨_,rfl,AM j⟩,kz⟩ (fun _ _ h=>h);refine a2 ?_;exact Fin.CR (j+1) (Ki) (_) u (⟨⟨by omega,by omega,VG.step⟩,by omega⟩) ⟨⟨_,rfl,AM j⟩,kz⟩ (fun _ _ h=>h);have q4:=EK.FP h4;refine TO.dN rfl rfl rfl (Ec h4) rfl AB (TO.dN rfl rfl rfl (Ec h4) rfl AB (TO.dN rfl rfl rfl (Ec h4) rfl AB ?_));refine ap ?_;refine wk [50,7,6,4,3,2,0] rfl ?_;refine a2 ?_;exact Fin.CR (j+1) (Ki) (_) u (⟨⟨by omega,by omega,VG.step⟩,by omega⟩) ⟨⟨_,rfl,AM j⟩,kz⟩ (fun _ _ h=>h);have hje:j=(2+s.val 3).toNat:=by have:=EK.FP h3;rw[O6]at this;omega
 refine a2 ?_;exact Fin.CR (i+1) (Ki) (_) u (⟨⟨by omega,by omega,VG.row⟩,by omega⟩) ⟨⟨_,rfl,AM i⟩,kz⟩ (fun _ _ h=>h);have hie:i=(2+s.val 3).toNat:=by have:=EK.FP h2;rw[O6]at this;omega
 refine ac ?_;refine Tr.seq (Tr.seq ?_);have hv9:=s3.B8 (n:=3) AA;refine Tr.Fy 1 [Qj (2+s.val 3).toNat,Dy gs,is (.slice none 0 0)] rfl ⟨Lr,As _ _,Lr,trivial⟩ (Tr.drop 0 ?_);refine ap ?_;refine TO.EJ 2 rfl rfl AB (Ab rfl rfl AB rfl (Bp AA AA) ⟨ke rfl,ke rfl,trivial⟩) ?_;refine ap ?_;refine Tr.block (Tr.Fy 0 [Qj (2+s.val 3).toNat,Dy gs,An (.slice none 0 0) (H_ [])] rfl ⟨Lr,Lr,CG rfl,trivial⟩ (Tr.Cm 85 5 ?_));refine Tr.Dl [(0,_),(2,_),(3,_)] ⟨ke rfl,ke rfl,ke rfl,trivial⟩ (fun(q:Int) (its:List II) (s5:DS) x=>[(8,int q)]) (fun(q:Int) (its:List II) (s5:DS) x=>Hp M0 w0 S (A8 85 5 x::AF true b2 32 [Qj (2+s.val 3).toNat,Dy gs,An x (H_ its)]::AF true b1 32 (([.slice none 0 0,.slice none 0 0,.slice none 0 0]:List Value).map is)::CT b s5::Ah M1 w1::rs)) (fun(q:Int) (its:List II) (s5:DS)=>0<=q/\q+its.length<=2/\∀x∈its,Mm x) (fun(q:Int) (its:List II) (s5:DS)=>q.toNat) (_) ([]) (_) (.slice none 0 0) (⟨by omega,by simp;omega,fun x h=>by simp at h⟩) ⟨ke rfl,trivial⟩ (fun _ _ h=>h) ?_;rintro q its s5 x ⟨hq1,Qe,hqi⟩;refine an ?_ ?_<;>intro h6 q6
 have Wk:0<q:=of_decide_eq_true h6;refine ac ?_;refine Tr.seq (Tr.block (Tr.pad (Tr.rx ?_)));refine ax ?_;refine xo rfl (fun _=>oI) ?_;refine Cx.ef 4 rfl rfl AB (Ab rfl rfl AB rfl (MJ (l:=[[98,97,99,107,117,112],[100,101,101,100]]) AO AO) ⟨kq,Cs,trivial⟩) ?_;refine Cx.ef 4 rfl rfl AB (Ab rfl rfl AB rfl (Oy) ⟨ke rfl,ke rfl,trivial⟩) (xo rfl (fun _=>AG (xs:=[.tmp 71]) (rows:=[_]) rfl rfl underlying30 G2 z85 rfl AB ⟨⟨AK,(Va rfl)⟩,trivial⟩ AB) ?_);refine Cx.ef 1 rfl rfl AB (Dp rfl rfl rfl rfl underlying30 G2 ZC z85 It Cs (Bx BH Jd)) ?_;refine xo rfl (fun _=>AU rfl IY vq) (Cx.Ej 2 rfl rfl (E9 rfl rfl rfl vq rfl Y9 Af) ?_);refine Cx.nil ⟨by kernel_rfl,?_⟩;refine CF.NF 1 2 73 rfl rfl AB rfl (fun v3=>?_);refine CF.done al6 ?_;refine ac ?_;refine Tr.drop 0 (wk [8,3,2,0] rfl ?_);refine ac ?_;refine Fin.Fy 1 [Qj (2+s.val 3).toNat,Dy gs,An v3 (H_ (its++[(Kh s5.Ai (F0 s5 [Gr,Oz]))]))] rfl ⟨Lr,Lr,B7 EO,trivial⟩ ?_;exact Fin.CR (q-1) (its++[(Kh s5.Ai (F0 s5 [Gr,Oz]))]) (_) v3 (⟨⟨by omega,by simp;omega,MW hqi (Ox (O0 s5))⟩,by omega⟩) ⟨⟨_,rfl,int_eq AA⟩,kz⟩ (fun _ _ h=>h);have Wk:¬0<q:=of_decide_eq_false h6;refine ac ?_;refine ap ?_;refine Tr.ret (Fin.CJ 3 _ rfl rfl (Fin.Ci [_,_,_] rfl (AZ.cell 2 rfl rfl HD Ge rfl Lr) ?_ (fun _ _ _ _=>rfl)))
 .exact bl AA hi3.at_ AA hqi AA
theorem MV.sz{e:FQ}(h:MV e):e.sz 5:=by
 have h3:=h.n3;have g3:=h.g3;have i2:=h.i2;refine⟨fun x hx=>?_,fun x hx=>⟨by have:=(h.it x hx).name;unfold maxLen;omega,by have:=(h.it x hx).links;omega⟩,by omega,by omega,by omega⟩;obtain⟨i,hi⟩:=List.getElem?_of_mem hx;exact aP (h.snd i x hi)
theorem Up{e:FQ}{n:Nat}(hz:e.sz n)(hn:n<=1000000):Am Tryz.prog 99 [agg (Bn e)] (agg (Bn e)):=by
 have h:=UO (e:=e) hz hn;refine⟨h.1,fun M w vs hb hv=>?_⟩;refine(h.2 M w Hj [] M w vs (A0.begin hb) hv).mono ?_;rintro e' w' ⟨v,M',x,rfl,_,h1,h2,h3⟩;obtain⟨M2,j1,j2,j3⟩:=A0.Zw (j:=0) h3 rfl (CK fun _=>rfl);obtain⟨cs,hc,g1,g2⟩:=(agg [is x,Dy e.Ay,H_ e.items]).st _ _ _ _ _ j1 h1;refine⟨v,rfl,?_,j2.below⟩;exact(agg (Bn e)).st _ _ _ _ _ (Ext.less j2.m) ⟨cs,hc,g1,HL.set (k:=0) g2 rfl fun u hu=>by rw[show u=x from hu];exact j3⟩
end Go.Proofs.YthommhphcagokaaGreatDoor
namespace Cp
open Go Go.RowKit
section
variable{P:Program}{Q:Exit->Act->World->Prop}
theorem Tr.once{L:Lg P}{n:Fm}{E:Env}{I:B3}{c:Code}(h:Tr L n E I c (Exit.then (fun a w=>L.wp c (Exit.then (fun _ _=>False) Q) a w) Q)):Tr L n E I (.loop c) Q:=fun a w hst=>
 L.loop (fun b:Bool=>if b then 1 else 0) (fun b a w=>if b=true then St n E I a w else L.wp c (Exit.then (fun _ _=>False) Q) a w) (fun b a w hx=>by
  cases b with
  |true=>exact L.mono (fun e a w h=>by cases e with|normal=>exact⟨false,by decide,h⟩|_=>exact h) (h a w hx)
  |false=>exact L.mono (fun e a w h=>by cases e with|normal=>exact h.elim|_=>exact h) hx) true a w hst
theorem Fin.again{L:Lg P}{n:Fm}{E:Env}{I:B3}{c:Code}(h:Tr L n E I c (Exit.then (fun _ _=>False) Q)):Fin n E I (Exit.then (fun a w=>L.wp c (Exit.then (fun _ _=>False) Q) a w) Q) .normal:=fun a w hst=>h a w hst
end
end Cp
namespace Go.Proofs.YthommhphcagokaaGreatDoor
open Go Go.RowKit Cp Go.Proofs.Tryz
variable{s:FQ}
theorem dm.sz{e:FQ}(h:dm e):e.sz 2000:=by
 have h3:=h.n4;have g3:=h.g16;have i2:=h.i2;refine⟨fun x hx=>?_,fun x hx=>⟨by have:=(h.it x hx).name;unfold maxLen;omega,by have:=(h.it x hx).links;omega⟩,by omega,by omega,by omega⟩;obtain⟨i,hi⟩:=List.getElem?_of_mem hx;exact(h.ep i x hi).1
theorem YN   :Am prog 184 [int 0,slice 2 [],slice 1 []] (D8 [slice 2 [],int 0]):=by
 refine fo func184 rfl ⟨rfl,rfl⟩ fun M0 w0=>?_;refine a2 ?_;refine co rfl (Bm (ML) rfl rfl rfl) ?_;refine ac ?_;refine an ?_ ?_<;>intro h1 q1
 exact absurd h1 AB;refine a2 ?_;refine co rfl (Bm (aU) rfl rfl rfl) ?_;refine ac ?_;refine wk [11,8,2] rfl ?_;refine an ?_ ?_<;>intro h2 q2
 exact absurd h2 AB;refine a3 ?_;refine co rfl (A9 rfl underlying50 vq) ?_;refine ac ?_;refine Tr.block (Tr.DR ?_);refine ac ?_;refine Tr.seq ?_;refine Tr.cn rfl ?_ ?_<;>intro h3 q3
 exact absurd h3 AB;have:=h3;refine a2 ?_;refine Tr.ret (Fin.EC rfl (Cy.GV _ _) rfl ?_ rfl ?_)
 .exact AL 2
 .exact Lr
theorem Uq   :Am prog 176 [ref [int 0,slice 1 [],slice 1 []],is (.int .u32 0)] (is (.int .u32 0)):=by
 refine fo func176 rfl ⟨rfl,rfl⟩ fun M0 w0=>?_;refine a3 ?_;refine Tr.block (Tr.DR ?_);refine ac ?_;refine Tr.seq ?_;refine Tr.cn rfl ?_ ?_<;>intro h1 q1
 exact absurd h1 AB;have:=h1;refine a3 ?_
 .exact Lr
theorem bn   :Am prog 303 [any,int 0,int 0,any] (JD):=by
 refine fo func303 rfl ⟨rfl,rfl⟩ fun M0 w0=>?_;refine ac ?_;refine Tr.block (Tr.DR ?_);refine an ?_ ?_<;>intro h1 q1
 exact absurd h1 AB;have:=h1;refine Tr.exit (Fin.BJ (Fin.BJ (Fin.Bv (Fin.Zm rfl))))
theorem bp   :Am prog 258 [any,int 0,int 0,any,any] (JD):=by
 refine fo func258 rfl ⟨rfl,rfl⟩ fun M0 w0=>?_;refine a2 ?_;refine Tr.block (Tr.DR ?_);refine ac ?_;refine an ?_ ?_<;>intro h1 q1
 refine ac ?_;refine co rfl (dO (bn) rfl rfl rfl rfl rfl) ?_;refine ac ?_;refine Tr.ret (Fin.AP (Fin.Az (Fin.AP (Fin.Az (Fin.mD rfl)))));exact absurd h1 AB
theorem Ur   :Am prog 217 [slice 1 [],any] (JD):=by
 refine fo func217 rfl ⟨rfl,rfl⟩ fun M0 w0=>?_;refine ac ?_;refine co rfl (A9 rfl underlying239 vq) ?_;refine a2 ?_;refine co rfl (BX rfl underlying3 underlying331 vq) (co rfl (AQ rfl (iA) ⟨⟨_,rfl,Pr.le_of_eq rfl⟩,trivial⟩) (cm rfl (co rfl (AQ rfl (bp) ⟨⟨_,rfl,FB _⟩,kq,kq,⟨_,rfl,FB _⟩,⟨_,rfl,FB _⟩,trivial⟩) (Ch.nil (Fin.Zm rfl)))))
theorem iq{i:Int}(hz:s.sz 2000)(hb:C4 s=true)(hi:0<=i/\i<(s.Ay.length:Nat)):Am prog 183 [agg (Bn s),slice 8 [],int i] (D8 [slice 1 [],int 0]):=by
 refine fo func183 rfl ⟨rfl,rfl⟩ fun M0 w0=>?_;have hlg:=hz.lg;refine a2 ?_;refine co rfl (BQ (GJ (hz.fits AA)) rfl rfl) ?_;refine an ?_ ?_<;>intro h1 q1
 exfalso;simp[hb]at h1;refine ac ?_;refine co rfl (A9 rfl underlying42 vq) ?_;refine an ?_ ?_<;>intro h2 q2
 exact absurd h2 AB;refine ag ?_ ?_<;>intro h3 q3
 exfalso;have:=q3;omega;refine ac ?_;refine wk [20,3,2,1] rfl ?_;refine Tr.cn rfl ?_ ?_<;>intro h4 q4
 exfalso;have:=q4;omega;refine a3 ?_;refine co rfl (A9 rfl underlying42 vq) ?_;refine ac ?_;refine Tr.block (Tr.DR ?_);refine ac ?_;refine Tr.seq ?_;refine Tr.cn rfl ?_ ?_<;>intro h5 q5
 exact absurd h5 AB;have:=h5;refine a2 ?_;refine Tr.ret (Fin.EC rfl (Cy.GV _ _) rfl ?_ rfl ?_)
 .exact AL 1
 .exact Lr
theorem pL(hz:s.sz 2000)(hb:C4 s=true):Am prog 56 [agg (Bn s),slice 8 [],slice 1 []] (D8 [agg (Bn s),int 0]):=by
 refine fo func56 rfl ⟨rfl,rfl⟩ fun M0 w0=>(Tr.seq (Tr.Al (tp rfl (Bc rfl Ce) ?_)));refine Tl rfl rfl rfl rfl z32 Lt (fun b1=>?_);refine ao ?_;refine ac ?_;refine co rfl (BQ (GJ (hz.fits AA)) rfl rfl) ?_;refine an ?_ ?_<;>intro h1 q1
 exfalso;simp[hb]at h1;refine ac ?_;refine co rfl (A9 rfl underlying42 vq) ?_;refine an ?_ ?_<;>intro h2 q2
 exact absurd h2 AB;refine a3 ?_;refine co rfl (A9 rfl underlying50 vq) ?_;refine ac ?_;refine wk [27,26,25,8,6,3,2,1] rfl (Tr.block (Tr.DR ?_));refine ac ?_;refine Tr.seq ?_;refine Tr.cn rfl ?_ ?_<;>intro h3 q3
 exact absurd h3 AB;have:=h3;refine ac ?_;refine ao ?_;refine tp rfl (BQ (Up hz AA) rfl rfl) ?_;refine Tl rfl rfl rfl rfl z32 Lt (fun b2=>?_);refine sf 0 11 ⟨rfl,rfl,rfl⟩ rfl rfl rfl rfl ?_;refine ao ?_;refine wk [11,6,2,1] rfl ?_;refine ac ?_;refine co rfl (A9 rfl underlying50 vq) ?_;refine ac ?_;refine Tr.block (Tr.DR ?_);refine ac ?_;refine Tr.seq ?_;refine Tr.cn rfl ?_ ?_<;>intro h4 q4
 exact absurd h4 AB;have:=h4;refine ac ?_;refine ao ?_;refine TO.Aa 0 rfl rfl rfl vq Ce rfl Ge rfl rfl ?_;refine ao ?_;refine Tr.ret (Fin.BU rfl (AZ.cell 0 rfl rfl HD Ge rfl Lr) (AZ.tmp rfl Lr) ?_)
 .exact Lr
theorem Us{n:Int}  :Am prog 55 [IB,slice 1 [],int n] (int n):=by
 refine fo func55 rfl ⟨rfl,rfl⟩ fun M0 w0=>?_;refine a2 ?_;refine co rfl (A9 rfl underlying50 vq) ?_;refine ac ?_;refine Tr.block (Tr.DR ?_);refine ac ?_;refine Tr.seq ?_;refine Tr.cn rfl ?_ ?_<;>intro h1 q1
 exact absurd h1 AB;have:=h1;refine a3 ?_
 .exact Lr
theorem bq{i:Int}(hz:s.sz 2000)(hb:C4 s=true)(hi:0<=i/\i<(s.Ay.length:Nat)):Am prog 129 [agg (Bn s),IB,int i] (agg [slice 1 [],slice 2 []]):=by
 refine fo func129 rfl ⟨rfl,rfl⟩ fun M0 w0=>(Tr.seq (Tr.Al (tp rfl (Bc rfl Ce) (tp rfl (Bc rfl Ce) ?_))));refine Tl rfl rfl rfl rfl lS Wg (fun b1=>?_);refine ap ?_;refine ac ?_;refine co rfl (Tx (iq hz hb hi) rfl rfl rfl rfl) ?_;refine ac ?_;refine wk [7,6,4] rfl ?_;refine ac ?_;refine co rfl (A9 rfl underlying42 vq) ?_;refine ac ?_;refine co rfl (Tx (YN) rfl rfl rfl rfl) ?_;refine ac ?_;refine wk [9,7,6] rfl ?_;refine ap ?_;refine Tr.ret (Fin.Br rfl (AZ.cell 0 rfl rfl Wf cw rfl Lr) ?_)
 .exact Lr
theorem YO   :Am prog 132 [agg [slice 1 [],slice 2 []],slice 1 []] (is (.slice none 0 0)):=by
 refine fo func132 rfl ⟨rfl,rfl⟩ fun M0 w0=>?_;refine a3 ?_;refine co rfl (A9 rfl underlying50 vq) ?_;refine ac ?_;refine Tr.block (Tr.DR ?_);refine ac ?_;refine Tr.seq ?_;refine Tr.cn rfl ?_ ?_<;>intro h1 q1
 exact absurd h1 AB;have:=h1;refine a3 ?_
 .exact Lr
theorem R6(hz:s.sz 2000)(hb:C4 s=true):Am prog 51 [agg (Bn s),IB] (int 0):=by
 refine Am.of func51 rfl rfl Af fun M0 w0=>?_;refine Tr.seq (Tr.Bk (co rfl (Bc rfl (Va rfl)) (co rfl (Bc rfl (Va rfl)) (cm rfl (Ch.nil (Fin.go (Tr.seq (Tr.seq (Tr.Bk (co rfl (AJ rfl HD Ge (vl rfl) rfl rfl) (co rfl (AQ rfl (GJ (hz.fits AA)) ⟨ke rfl,trivial⟩) (co rfl (ki rfl rfl rfl rfl) (Ch.nil (Fin.go ?_))))))))))))));refine Tr.cn rfl ?_ ?_<;>intro h1 q1
 exfalso;simp[hb]at h1;refine Tr.skip (Fin.go (Tr.seq (Tr.Bk (co rfl (U6 rfl ON rfl rfl) (co rfl (FH rfl Sj rfl) (co rfl (A9 rfl underlying42 (vl rfl)) (cm rfl (Ch.nil (Fin.go (Tr.seq (Tr.Bk (co rfl (KO rfl rfl) (cm rfl ?_)))))))))))));refine Ch.nil (Fin.go (Tr.seq (Tr.Bk (cm rfl (Ch.nil (Fin.go (Tr.seq (Tr.seq (Tr.Bk (cm rfl (co rfl (ki rfl rfl rfl rfl) (cm rfl ?_))))))))))));refine Ch.cs 17 rfl ?_ ?_<;>intro h2 q2
 exact absurd h2 AB;refine cy h2 rfl (U6 rfl ON rfl rfl) (cy h2 rfl (FH rfl Sj rfl) (Hq h2 rfl (cy h2 rfl (AQ rfl (Xo) ⟨ke rfl,⟨_,rfl,FB _⟩,trivial⟩) (co rfl (Sc rfl rfl h2 rfl) (cm rfl ?_)))));refine Ch.cs 23 rfl ?_ ?_<;>intro h3 q3
 iterate 5 refine cnf h3 rfl ?_
 refine co rfl (Sb rfl rfl h3 rfl) (cm rfl ?_)
 iterate 4 refine cR rfl rfl ?_
 refine co rfl (Sb rfl rfl rfl rfl) (cm rfl ?_)
 iterate 5 refine cR rfl rfl ?_
 refine co rfl (Sb rfl rfl rfl rfl) (Ch.nil (Fin.go (eG 42 rfl (Tr.cond rfl (fun _=>?_) (fun h=>nomatch h)))));refine Tr.seq (Tr.Bk (cm rfl (Ch.nil (Fin.go (Tr.ret (Fin.AP (Fin.Vw rfl (Cy.GV _ _) rfl ?_)))))))
 .refine int_eq ?_;simp_all
 refine cy h3 rfl (U6 rfl RI rfl rfl) (cy h3 rfl (FH rfl Ls rfl) (cy h3 rfl (A9 rfl underlying22 (vl rfl)) (Hq h3 rfl (cy h3 rfl (ki rfl rfl rfl rfl) (co rfl (Sc rfl rfl h3 rfl) (cm rfl ?_))))));refine Ch.cs 30 rfl ?_ ?_<;>intro h4 q4
 iterate 4 refine cnf h4 rfl ?_
 refine co rfl (Sb rfl rfl h4 rfl) (cm rfl ?_)
 iterate 5 refine cR rfl rfl ?_
 refine co rfl (Sb rfl rfl rfl rfl) (Ch.nil (Fin.go (eG 42 rfl (Tr.cond rfl (fun _=>?_) (fun h=>nomatch h)))));refine Tr.seq (Tr.Bk (cm rfl (Ch.nil (Fin.go (Tr.ret (Fin.AP (Fin.Vw rfl (Cy.GV _ _) rfl ?_)))))))
 .refine int_eq ?_;simp_all
 refine cy h4 rfl (U6 rfl RI rfl rfl) (cy h4 rfl (FH rfl Ls rfl) (Hq h4 rfl (cy h4 rfl (AQ rfl (Xn) ⟨ke rfl,⟨_,rfl,FB _⟩,trivial⟩) (co rfl (Sc rfl rfl h4 rfl) (cm rfl ?_)))));refine Ch.cs 36 rfl ?_ ?_<;>intro h5 q5
 iterate 5 refine cnf h5 rfl ?_
 refine co rfl (Sb rfl rfl h5 rfl) (Ch.nil (Fin.go (eG 42 rfl (Tr.cond rfl (fun _=>?_) (fun h=>nomatch h)))));refine Tr.seq (Tr.Bk (cm rfl (Ch.nil (Fin.go (Tr.ret (Fin.AP (Fin.Vw rfl (Cy.GV _ _) rfl ?_)))))))
 .refine int_eq ?_;simp_all
 refine Hq h5 rfl (cy h5 rfl (U6 rfl WO rfl rfl) (cy h5 rfl (FH rfl cW rfl) (cy h5 rfl (AQ rfl (Na) ⟨ke rfl,ke rfl,trivial⟩) (cy h5 rfl (ki rfl rfl rfl rfl) (co rfl (Sc rfl rfl h5 rfl) (Ch.nil (Fin.go (eG 42 rfl ?_))))))));refine Tr.cn rfl ?_ ?_<;>intro h6 q6
 exact absurd h6 AB;refine Tr.skip (Fin.go (Tr.seq (Tr.Bk (cm rfl (Ch.nil (Fin.go (Tr.ret (Fin.Vw rfl (Cy.GV _ _) rfl ?_))))))))
 .exact Lr
instance kB (x:Option Nat):One (is (.map x)):=⟨by rintro M w v rfl;exact⟨rfl,rfl⟩⟩
theorem bt   :JE (α:=Value) prog 161 [int 0,slice 2 []] [] (fun _=>True) (fun v=>D8 [An v (lens 1),int 0]) (fun v=>[Cq 50 1 [[is (.slice none 0 0)]] v]):=by
 refine JE.ofM func161 rfl rfl Af fun M0 w0 S rs M1 w1=>?_;refine a2 ?_;refine co rfl (Bm (ML) rfl rfl rfl) ?_;refine ac ?_;refine an ?_ ?_<;>intro h1 q1
 exact absurd h1 AB;refine ac ?_;refine Tr.seq (Tr.Al (TO.pad ?_));refine TO.EV 0 rfl rfl AB (J5 (xs:=[.const (.slice none 0 0)]) (rows:=[[is (.slice none 0 0)]]) rfl rfl AB rfl rfl underlying135 WQ z50 rfl AB ⟨⟨AK,VL.le vq (AH _)⟩,trivial⟩ AB AB) (fun v1=>?_);refine tm rfl (TO.nil (Fin.go (wk [8,6] rfl ?_)));refine ac ?_;refine Tr.block (Tr.once ?_);refine ac ?_;refine co rfl (A9 rfl underlying239 Cs) ?_;refine an ?_ ?_<;>intro h2 q2
 have:=h2;refine ac ?_;refine Tr.block (Tr.seq (Tr.Al ?_));refine TO.mF (fun n:Int=>Value.int .i64 n) rfl rfl AB rfl (fun b1=>?_);refine Tl rfl rfl rfl rfl sG lZ (fun b2=>?_);refine sf 0 10 ⟨rfl,rfl,rfl⟩ rfl rfl rfl rfl ?_;refine TO.nil (Fin.go (Tr.seq (Tr.Al ?_)));refine Tl rfl rfl rfl rfl sE lT (fun b3=>?_);refine TO.nil (Fin.go ?_);refine ac ?_;refine co rfl (A9 rfl underlying239 Cs) ?_;refine ac ?_;refine wk [35,34,33,11,10,8,6] rfl (Tr.block (Tr.once ?_));refine ac ?_;refine Tr.seq ?_;refine Tr.cn rfl ?_ ?_<;>intro h3 q3
 have:=h3;refine ac ?_;refine Tr.seq (Tr.block (Tr.seq (Tr.Al ?_)));refine tp rfl (AD rfl underlying239 Sl Cs vq AA (show[[is (Value.int .u32 0)]][Int.toNat 0]? =some _ from rfl)) ?_;refine tp rfl (FH rfl We rfl) ?_;refine Tl rfl rfl rfl rfl ZS cv (fun b4=>?_);refine sf 0 13 ⟨rfl,rfl,rfl⟩ rfl rfl rfl rfl ?_;refine TO.nil (Fin.go ?_);refine ac ?_;refine co rfl (Bm (Uq) rfl rfl rfl) (co rfl (BQ (aV) rfl rfl) ?_);refine ac ?_;refine wk [42,35,34,33,13,11,10,8,6] rfl (Tr.block (wk [35,34,33,11,10,8,6,42] rfl (Tr.Pw rfl Af iC (iB) (fun Dk=>?_))));refine ac ?_;refine Tr.seq (Tr.Bk (Ch.op rfl rfl Af (Ez rfl vq) (Ch.op rfl rfl Af (L5 rfl underlying135 (VL.le vq (As _ _))) (Ch.op rfl rfl Af (DO 1 rfl (Bw rfl Ly vq rfl)) (Ch.op rfl rfl Af (Hu rfl underlying239 vq) (Ch.op rfl rfl Af WA (Ch.op rfl rfl Af WA ?_)))))));refine an ?_ ?_<;>intro h4 q4
 exact absurd h4 AB;refine ac ?_;refine Tr.Bk ?_;refine Ch.op rfl rfl Af (Ek rfl vq vq ?hin) ?_;case hin=>unfold Mb;omega
 refine Ch.op rfl rfl Af (Ez rfl vq) (Ch.nil (Fin.again (Tr.seq (Tr.Bk (Ch.op rfl rfl Af WA ?_)))));refine ac ?_;refine wk [36,35,34,33,11,10,8,6] rfl (Tr.seq ?_);refine Tr.cn rfl ?_ ?_<;>intro h5 q5
 exact absurd h5 AB;have:=h5;refine ac ?_;refine Tr.seq (Tr.Bk (Ch.op rfl rfl Af (DO 1 rfl (Bw rfl Ly vq rfl)) (Ch.op rfl rfl Af (AQ rfl (Ur) ⟨⟨_,rfl,AL 1⟩,⟨_,rfl,FB _⟩,trivial⟩) ?_)));refine ac ?_;refine Tr.seq (Tr.seq (Tr.Bk (Ch.op rfl rfl Af (DO 1 rfl (Bw rfl Ly vq rfl)) (Ch.op rfl rfl Af (Hu rfl underlying239 vq) (Ch.op rfl rfl Af (Ez rfl vq) ?_)))));refine ac ?_;refine Tr.block (Tr.DR (Tr.seq (Tr.Bk (Ch.op rfl rfl Af WA ?_))));refine ac ?_;refine wk [70,69,68,67,11,8,6] rfl (Tr.seq ?_);refine Tr.cn rfl ?_ ?_<;>intro h6 q6
 exact absurd h6 AB;have:=h6;refine ac ?_;refine Tr.Bk (Ch.op rfl rfl Af (DO 1 rfl (Bw rfl Ly vq rfl)) (Ch.op rfl rfl Af (E7 rfl vq) ?_));refine ac ?_;refine Fin.again (Tr.seq (Tr.seq (Tr.Bk (Ch.op rfl rfl Af (Ez rfl vq) (Ch.op rfl rfl Af (Hu rfl underlying239 vq) (Ch.op rfl rfl Af WA ?_))))));refine ac ?_;refine Tr.drop 1 ?_;refine Tr.cn rfl ?_ ?_<;>intro h7 q7
 exact absurd h7 AB;have:=h7;refine ac ?_;refine Tr.seq (Tr.Bk (Ch.op rfl rfl Af (Ez rfl vq) (Ch.op rfl rfl Af (E7 rfl vq) (Ch.op rfl rfl Af (E7 rfl vq) ?_))));refine ac ?_;refine wk [5,4] rfl (Tr.ret (Fin.Oc (Fin.MC (Fin.drop 0 (Fin.mM (v1) rfl (AZ.tmp rfl Lr) (AZ.tmp rfl Lr) trivial ?_ (List.Perm.refl _))))))
 .exact CH ⟨Lr,Lr,trivial⟩
 exact absurd h3 AB;exact absurd h2 AB
theorem Ut{i:Int}(hz:s.sz 2000)(hb:C4 s=true)(hi:0<=i/\i<(s.Ay.length:Nat)):Am prog 98 [agg (Bn s),IB,int i] (D8 [slice 1 [[is (.slice none 0 0)]],int 0]):=by
 refine fo func98 rfl ⟨rfl,rfl⟩ fun M0 w0=>?_;refine ac ?_;refine ao ?_;refine tp rfl (Tx (bq hz hb hi) rfl rfl rfl rfl) ?_;refine Tl rfl rfl rfl rfl lS Wg (fun b1=>?_);refine sf 0 8 ⟨rfl,rfl,rfl⟩ rfl rfl rfl rfl ?_;refine ao ?_;refine ao ?_;refine tp rfl (A9 rfl underlying50 vq) ?_;refine ao ?_;refine TO.Wp _ rfl rfl AB rfl (bt) ⟨kq,kz⟩ (List.Perm.refl _) (fun x1 _=>?_);refine ao ?_;refine wk [10,9,8] rfl ?_;refine an ?_ ?_<;>intro h1 q1
 exact absurd h1 AB;refine ac ?_;refine Tr.seq (Tr.seq (Tr.JC 0 rfl fun b2 rV sp2 Tp j_ hm2 O9=>?_));subst Tp;refine ac ?_;refine co rfl (L5 rfl underlying135 (VL.le vq (As _ _))) ?_;refine ac ?_;refine Tr.block (Tr.once ?_);refine ac ?_;refine Tr.seq ?_;refine Tr.cn rfl ?_ ?_<;>intro h2 q2
 have:=h2;refine a2 ?_;refine co rfl (Fe rfl underlying135 WQ Jd vq AA AA) ?_;refine ac ?_;refine wk [31,30,29,12,11,9,8] rfl ?_;refine ao ?_;refine tp rfl (AQ rfl (YO) ⟨kq,⟨_,rfl,AL 1⟩,trivial⟩) (tp rfl (Fe rfl underlying135 WQ Jd vq AA AA) (TO.Ej 0 rfl rfl (BG rfl rfl vq CD WQ rfl AO rfl) ?_));refine ao ?_;refine ac ?_;refine Fin.again ?_;refine ac ?_;refine wk [32,31,30,29,9,8] rfl (Tr.seq ?_);refine Tr.cn rfl ?_ ?_<;>intro h3 q3
 exact absurd h3 AB;have:=h3;refine ac ?_;refine Tr.seq ?_;refine Tr.RP (sz:=1) [[is (.slice none 0 0)]] 0 9 rfl rfl (FF _ _) (by intro r hr;simp at hr;subst hr;rfl) j_ hm2 (by simpa using O9) ?_;refine ac ?_;refine Tr.ret (Fin.EC rfl (Cy.GV _ _) rfl ?_ rfl ?_)
 .exact Eu
 .exact Lr
 exact absurd h2 AB
theorem YP(hz:s.sz 2000)(hb:C4 s=true):Am prog 53 [agg (Bn s),IB] (D8 [slice 1 (List.replicate s.Ay.length [slice 1 [[is (.slice none 0 0)]]]),int 0]):=by
 refine fo func53 rfl ⟨rfl,rfl⟩ fun M0 w0=>?_;have h40:=(C2.1 hb).cF
 iterate 4 refine ac ?_
 refine Tr.block (Tr.Cm 135 1 (Tr.Lp _ (kk [13,3,2] rfl) (fun(k:Nat) v=>[(14,int ((k:Nat):Int)),(7,int ((k:Nat):Int)),(6,An v (slice 1 (List.replicate k [slice 1 [[is (.slice none 0 0)]]])))]) (fun(k:Nat) v=>Hp M0 w0 Hj ([A8 135 1 v])) (fun(k:Nat)=>k<=s.Ay.length) (fun(k:Nat)=>s.Ay.length-k) (0) (.slice none 0 0) (Nat.zero_le _) ⟨kq,kq,⟨_,rfl,CG rfl⟩,trivial⟩ (fun _ _ h=>h) ?_));rintro k v hk0;refine ac ?_;refine Tr.seq ?_;refine Tr.cn rfl ?_ ?_<;>intro h1 q1
 have hk:k<s.Ay.length:=AV h1;refine ac ?_;refine ac ?_;refine ac ?_;refine co rfl (Tx (Ut hz hb (i:=((k:Nat):Int)) AA) rfl rfl rfl rfl) ?_;refine ac ?_;refine wk [14,13,10,9,7,6,3,2] rfl ?_;refine ac ?_;refine co rfl (Ac.le (A9 rfl underlying135 (vl rfl)) (int_eq rfl:Pr.le _ (int 1))) ?_;refine ac ?_;refine Tr.seq (Tr.seq (Tr.Bk (cm rfl (co rfl WA (cm rfl ?_)))));refine Ch.cs 30 rfl ?_ ?_<;>intro h2 q2
 exact absurd h2 AB;refine ac ?_;refine wk [33,14,13,9,7,6,3,2] rfl ?_;refine Tr.cn rfl ?_ ?_<;>intro h3 q3
 exfalso;have:=q3;omega;refine ac ?_;refine ap ?_;refine TO.EV 0 rfl rfl AB (Dp rfl rfl rfl rfl underlying89 Wd lK lN It Cs (Bx BH Jd)) (fun v1=>?_);refine ap ?_;refine ac ?_;exact Fin.OJ (k+1) v1 (⟨hk,by omega⟩) ⟨⟨_,rfl,AM k⟩,⟨_,rfl,AM k⟩,⟨_,rfl,B7 (by rw[←List.replicate_succ'])⟩,kz⟩ (fun _ _ h=>h);have U2:k=s.Ay.length:=by have:=AW h1;omega
 refine ac ?_;refine ac ?_;refine Tr.ret (Fin.EC rfl (Cy.GV _ _) rfl ?_ rfl ?_)
 .exact Pr.le_trans (As _ _) (Pr.le_of_eq (by rw[U2]))
 .exact Lr
theorem R7{fr CW:Int}(hz:s.sz 2000)(hb:C4 s=true)(hd:(0<=fr/\fr<=40000)/\(0<=CW/\CW<=40000)):Am prog 32 [agg (Bn s),IB,int fr,int CW] (D8 [slice 1 (List.replicate s.Ay.length [slice 1 [[is (.slice none 0 0)]]]),int 0]):=by
 refine fo func32 rfl ⟨rfl,rfl⟩ fun M0 w0=>?_;refine a2 ?_;refine co rfl (Bm (R6 hz hb) rfl rfl rfl) ?_;refine ac ?_;refine an ?_ ?_<;>intro h1 q1
 exact absurd h1 AB;refine a2 ?_;refine co rfl (BQ (LA) rfl rfl) ?_;refine ag ?_ ?_<;>intro h2 q2
 exfalso;simp at h2;omega;refine Hq h2 rfl (cy h2 rfl (BQ (LA) rfl rfl) ?_);refine ac ?_;refine wk [24,5,4] rfl ?_;refine Tr.cn rfl ?_ ?_<;>intro h3 q3
 exfalso;simp at h3;omega;refine a2 ?_;refine co rfl (Bm (YP hz hb) rfl rfl rfl) ?_;refine ac ?_;refine Tr.ret (Fin.EC rfl (Cy.GV _ _) rfl ?_ rfl ?_)
 .exact Lr
 .exact Lr
theorem R8{fr CW:Int}:Am prog 33 [agg (Bn s),IB,slice 1 (List.replicate s.Ay.length [slice 1 [[is (.slice none 0 0)]]]),int fr,int CW] (fn (.func 54) [ref [slice 1 (List.replicate s.Ay.length [slice 1 [[is (.slice none 0 0)]]])],ref [slice 8 [],slice 2 [],slice 1 []],ref [int fr],ref [int CW],ref (Bn s)]):=by
 refine fo func33 rfl ⟨rfl,rfl⟩ fun M0 w0=>?_;refine a3 ?_
 .exact Lr
end Go.Proofs.YthommhphcagokaaGreatDoor
namespace Cp
open Go Go.RowKit Go.Great
variable{a:Act}{ts:Array TypeId}{ps:List Pr}{rs:List At}{o:Oper}{p:Pr}{v:Value}{w w0:World}
section
variable{P:Program}{ρ:Option Nat}
theorem O1{Q1 Q:Exit->Act->World->Prop}(hQ:∀e a w,e≠Exit.normal->Q1 e a w->Q e a w)(h:LetsOut Q1):LetsOut Q:=h.elim fun a h=>h.elim fun w h=>⟨a,w,hQ _ _ _ (fun hh=>by cases hh) h⟩
theorem ir{K K':Act->World->Prop}{Q1 Q:Exit->Act->World->Prop}(hc:Gw o=true)(hK:∀a w,K a w->K' a w)(hQ:∀e a w,e≠Exit.normal->Q1 e a w->Q e a w)(h:o.wp P a w K Q1):o.wpIn (CS ρ) 0 P a w K' Q:=by
 refine⟨fun _ _=>trivial,?_⟩;rw[Oper.semAt_eq _ _ _ (fun c hh=>by unfold Gw at hc;rw[hh]at hc;cases hc)];unfold Oper.wp at h
 generalize (execOp a.eval o).run P w=r at h ⊢
 cases r with
 |halt x w'=>cases x<;>first|exact hQ _ _ _ (fun hh=>by cases hh) h|exact h|exact h.elim
 |ok x w'=>
  cases x<;>first|exact h.elim|skip
  case value v=>exact hK _ _ h
  case skip=>exact hK _ _ h
  case defer d=>exact hK _ _ h
  case enter f args=>
   refine⟨fun hh=>(by cases hh),callsIn_wide.2 (h.mono fun e w'' hr=>?_)⟩;cases e with
   |returned v=>exact hK _ _ hr
   |panicked c=>exact hQ _ _ _ (fun hh=>by cases hh) hr
   |outgrown=>exact O1 hQ hr
  case row row args=>
   refine⟨fun hh=>(by cases hh),fun c cs _=>?_⟩;obtain⟨v,w2,h1,h2⟩:=h c cs;exact⟨v,w2,hK _ _ h1,stepsIn_wide.2 h2⟩
theorem Nk{ops:Array Oper}{Q1 Q:Exit->Act->World->Prop}{l2:List Nat}(hn:∀a w,Q1 .normal a w->wpOpsIn (CS ρ) 0 P ops Q l2 a w)(hQ:∀e a w,e≠Exit.normal->Q1 e a w->Q e a w):∀(l:List Nat),(∀(i:Nat) o,i∈l->ops[i]? =some o->Gw o=true)->∀(a:Act) (w:World),wpS P ops Q1 l a w->wpOpsIn (CS ρ) 0 P ops Q (l++l2) a w
 |[],_,a,w,h=>hn a w h
 |i::l,hc,a,w,h=>by
  have ih:=Nk (Q:=Q) hn hQ l (fun j o hj=>hc j o (List.mem_cons_of_mem _ hj));unfold wpS at h;show wpOpsIn (CS ρ) 0 P ops Q (i::(l++l2)) a w;unfold wpOpsIn;cases ho:ops[i]? with
  |none=>rw[ho]at h;exact ih a w h
  |some o=>
   rw[ho]at h
   dsimp only at h ⊢
   split
   next hw=>rw[if_pos hw]at h;exact ir (hc i o (List.mem_cons_self ..) ho) ih hQ h
   next hw=>rw[if_neg hw]at h;exact⟨fun _ _=>trivial,ih _ _ h⟩
end
section
variable{P:Program}{n:Fm}{I:B3}
theorem Tf{ops:Array Oper}{K K':Env->Prop}(hk:∀E,K E->K' E):∀(l:List Oper) (E:Env),Ch P n I ops l E K->Ch P n I ops l E K'
 |[],E,h=>hk E h
 |_::l,_,⟨p,h1,h2,h3⟩=>⟨p,h1,h2,Tf hk l _ h3⟩
theorem MX{ops:Array Oper}{Q:Exit->Act->World->Prop}:∀(l:List Oper) (k:Nat) (E:Env),(∀j o,l[j]? =some o->ops[k+j]? =some o)->
  Ch P n I ops l E (fun E'=>∀a w,St n E' I a w->Q .normal a w)->∀a w,St n E I a w->wpS P ops Q (List.range' k l.length) a w
 |[],k,E,_,h,a,w,hs=>h a w hs
 |o::l,k,E,hl,h,a,w,hs=>by
  have h0:ops[k]? =some o:=by simpa using hl 0 o rfl
  obtain⟨p,hg,hd,hr⟩:=h;obtain⟨M,hn,hdf,he,hI⟩:=hs;simp only[List.length_cons,List.range'_succ,wpS,h0];refine Hh hg (CB he) (fun j want d q hgd hj hq=>he d q hq) hI ?_
  .
   intro v w' hp hb;refine MX l (k+1) _ (fun j o' h'=>by have:=hl (j+1) o' h';simpa[Nat.add_assoc,Nat.add_comm 1 j]using this) hr _ _ ⟨M,?_,?_,?_,I.st _ _ _ hb hI⟩
   .rw[Bo];exact hn
   .rw[put_defers];exact hdf
   .exact he.put hb hp (fun d h=>by rw[hn];exact hd d h)
end
section
variable{P:Program}{Q:Exit->Act->World->Prop}
theorem Tr.YQ{n:Fm}{E:Env}{M0 M1:Av}{w1:World}{S:Nat->Prop}{id t0 t1 d2 d3:Nat}{l:List Oper}(k:Nat){o2 o3:Oper}{ty:TypeId}{α β:Type}{lv:Nat}{enc:α->Value}{xs:List α}{own:List α->List At}{R Rx:List α->β->List At}{pre:List α}{x:α}{d:β}(hy:∀pre x d M w,(pre++[x])<+:xs->A0 M0 w0 S (own (pre++[x])++R pre d) M w->YieldAt (CS none) 0 P lv #[enc x] w fun e w'=>∃M' d',Ext M w M' w'/\
    ((e= .returned (.bool true)/\A0 M0 w0 S (own (pre++[x])++R (pre++[x]) d') M' w')\/(e= .returned (.bool false)/\A0 M0 w0 S (own (pre++[x])++Rx (pre++[x]) d') M' w'))) (hpre:(pre++[x])<+:xs) (hd:l.drop k=[o2,o3]) (hk:l.length=k+2) (g2:o2.guard=none) (g3:o3.guard=none) (p2:o2.op= .call { callee:= .value (.tmp t0),args:= #[.tmp t1],argTypes:=ts }) (p3:o3.op= .unOp .not ty (.tmp d2)) (e2:o2.dst=some d2) (e3:o3.dst=some d3) (n2:d2<n) (n3:d3<n) (hc:calm (l.take k)=true) (h:Ch P n (Hp M0 w0 S (own (pre++[x])++Ah M1 w1::R pre d)) l.toArray (l.take k) E (fun E'=>E'.lookup t0=some (is (.func (.yield lv) #[] #[]))/\VL E' (.tmp t1) (is (enc x))/\E'.lookup d2=none/\
   (∀d',Fin n ((d3,bool false)::E') (Hp M0 w0 S (own (pre++[x])++Ah M1 w1::R (pre++[x]) d')) Q .normal)/\∀d',Fin n ((d3,bool true)::E') (Hp M0 w0 S (own (pre++[x])++Ah M1 w1::Rx (pre++[x]) d')) Q .normal)):
  Tr (VC P none) n E (Hp M0 w0 S (own (pre++[x])++Ah M1 w1::R pre d)) (.region id l.toArray false) Q:=by
 intro a w hst;have hl:∀j,l[k+j]? =[o2,o3][j]? :=fun j=>by rw[←hd,List.getElem?_drop]
 have h2:l.toArray[k]? =some o2:=by have:=hl 0;simpa using this
 have h3:l.toArray[k+1]? =some o3:=by have:=hl 1;simpa using this
 have hlen:(l.take k).length=k:=by rw[List.length_take];omega
 have hat:∀(i:Nat) o,i<k->l.toArray[i]? =some o->(l.take k)[i]? =some o:=fun i o hi ho=>by rw[List.getElem?_take,if_pos hi];simpa using ho
 have hc1:=Sy hc;refine wpIn_region ?_
 have hr:List.range' 0 k++[k,k+1]=List.range l.toArray.size:=by
  rw[List.size_toArray,hk,List.range_eq_range',show k+2=k+(1+1)by omega,←List.range'_append];simp[List.range'_succ]
 show wpOpsIn (CS none) 0 P _ Q (List.range l.toArray.size) a w;rw[←hr]
 let Q1:Exit->Act->World->Prop:=fun e a w=>e= .normal->wpOpsIn (CS none) 0 P l.toArray Q [k,k+1] a w
 have hw:=MX (ops:=l.toArray) (Q:=fun e a w=>e= .normal/\wpOpsIn (CS none) 0 P l.toArray Q [k,k+1] a w) (l.take k) 0 E (fun j o hj=>by
  rw[Nat.zero_add];rw[List.getElem?_take]at hj
  split at hj
  .exact Et
  .cases hj) (Tf (fun E' hE'=>?_) _ _ h) a w hst
 .
  rw[hlen]at hw
  exact Nk (fun a w h=>h.2) (fun e a w hne h=>absurd h.1 hne) _ (fun i o hi ho=>by
   have hik:i<k:=by have:=(List.mem_range'_1.1 hi).2;omega
   exact hc1 i o (by simpa using hat i o hik ho)) a w hw
 .
  rintro a w ⟨M,hsz,hdf,hE,hI⟩;refine⟨rfl,?_⟩;obtain⟨f0,f1,f2,kT,kF⟩:=hE';have hI:A0 M0 w0 S (own (pre++[x])++Ah M1 w1::R pre d) M w:=hI;obtain⟨hx,hI2⟩:=Wq hI;have Yv:a.eval (.tmp t0)= .func (.yield lv) #[] #[]:=hE _ _ f0;have Tu:a.eval (.tmp t1)=enc x:=by obtain⟨q,hq,hle⟩:=f1;exact hle _ _ _ (hE t1 q hq)
  refine MD (o:=o2) h2 g2 (XI (v:=enc x) p2 Yv Tu (hy pre x d M w hpre hI2) ?_);rintro e w' ⟨M',d',he,hh⟩
  have fin:∀(b:Bool) (tl:List At),A0 M0 w0 S (own (pre++[x])++tl) M' w'->
    St n ((d3,bool (!b))::E') (Hp M0 w0 S (own (pre++[x])++Ah M1 w1::tl)) ((a.put (some d2) (.bool b)).put (some d3) (.bool (!b))) w':=by
   intro b tl hh;refine⟨M',by simp only[Bo];exact hsz,by simp only[put_defers];exact hdf,fun s q hq=>?_,A0.perm List.perm_middle.symm (A0.G8 hh (r:=Ah M1 w1) rfl (hx.trans he))⟩;simp only[List.lookup]at hq
   by_cases hs:s=d3
   .subst hs;simp at hq;subst hq;rw[Bq (by simp only[Bo];rw[hsz];exact n3)];rfl
   .
    rw[show(s==d3)=false by simpa using hs]at hq;have O9:s≠d2:=fun e=>by rw[e,f2]at hq;cases hq
    rw[Bh hs,Bh O9];exact q.st _ _ _ _ _ he (hE s q hq)
  have hnot:∀(b:Bool) (tl:List At),A0 M0 w0 S (own (pre++[x])++tl) M' w'->Fin n ((d3,bool (!b))::E') (Hp M0 w0 S (own (pre++[x])++Ah M1 w1::tl)) Q .normal->wpOpsIn (CS none) 0 P l.toArray Q [k+1] (a.put o2.dst (.bool b)) w':=by
   intro b tl hh kk;rw[e2];refine MD (o:=o3) h3 g3 (gB (b:=b) p3 ?_ ?_)
   .
    show(Act.put _ _ _).tmps.getD d2 undef=_;rw[Bq (by rw[hsz];exact n2)]
   .
    rw[e3];exact kk _ _ (fin b tl hh)
  rcases hh with⟨rfl,hh⟩|⟨rfl,hh⟩
  .exact⟨_,rfl,hnot true _ hh (kT d')⟩
  .exact⟨_,rfl,hnot false _ hh (kF d')⟩
theorem Tr.MY{L:Lg P}{n:Fm}{E:Env}{M0:Av}{S:Nat->Prop}{c:Code}(j s i:Nat){vs:List Value}(hj:rs[j]? =some (Em ps vs))(hp:ps[i]? =some p)(hv:vs[i]? =some v)(hs:E.lookup s=some (is v))(k:Tr L n ((s,p)::E) (Hp M0 w0 S rs) c Q):Tr L n E (Hp M0 w0 S rs) c Q:=by
 rintro a w ⟨M,h1,h2,h3,h4⟩;have h4:A0 M0 w0 S rs M w:=h4;have hl:HL M w ps vs:=(h4.hold _ (List.mem_of_getElem? hj)).1;refine k a w ⟨M,h1,h2,fun t q ht=>?_,h4⟩;rw[List.lookup_cons]at ht
 by_cases e:t=s
 .
  subst e;simp at ht;subst ht;have hav:a.tmps.getD t undef=v:=h3 _ _ hs;obtain⟨u,hu,hq⟩:=HL.at_ hl i _ hp;rw[hv]at hu;cases hu;rw[hav];exact hq
 .
  rw[show(t==s)=false by simpa using e]at ht;exact h3 t q ht
theorem Tr.iw{L:Lg P}{n:Fm}{E:Env}{M0:Av}{S:Nat->Prop}{c:Code}(s:Nat){gf:Nat}(hs:E.lookup s=some (fn (.func gf) ps))(k:∀cs,cs.length=ps.length->Tr L n ((s,is (.func (.func gf) #[] cs.toArray))::E) (Hp M0 w0 S (Em ps cs::rs)) c Q):Tr L n E (Hp M0 w0 S rs) c Q:=by
 rintro a w ⟨M,h1,h2,h3,h4⟩;have h4:A0 M0 w0 S rs M w:=h4;obtain⟨cs,hv,hl⟩:=h3 s _ hs;refine k cs hl.length a w ⟨M,h1,h2,fun t q ht=>?_,A0.G8 h4 (r:=Em ps cs) rfl hl⟩;rw[List.lookup_cons]at ht
 by_cases e:t=s
 .subst e;simp at ht;subst ht;exact hv
 .
  rw[show(t==s)=false by simpa using e]at ht;exact h3 t q ht
theorem YR{β:Type}{l:List β}(h:l.length=5):∃a b c d e,l=[a,b,c,d,e]:=by
 match l,h with
 |[a,b,c,d,e],_=>exact⟨a,b,c,d,e,rfl⟩
end
section
variable{P:Program}{L:Lg P}{n:Fm}{fz:Nat}{E:Env}{I:B3}{M0:Av}{w0:World}{S:Nat->Prop}{rs:List At}{Q:Exit->Act->World->Prop}{c:Code}
theorem Tr.iy{α β:Type}{p gf:Nat}{g:Operand}{lb:Array Value}{enc:α->Value}{xs:List α}{own:List α->List At}{assign body:Code}(q:Nat)(pq:α->Pr)(K:Env)(hK:CE E K)(R RX:List α->β->List At)(d0:β)
  (fq:HH P gf lb enc xs own) (eg:Entry P gf) (hg:VL E g (is (.func (.func gf) #[] lb))) (fu:rs.Perm (own []++R [] d0)) (hp:K.lookup p=none) (nv:p<n.sz)
  (hassign:∀l D rec M1 w1 pre x d,(pre++[x])<+:xs->Tr (VC P (some l)) ⟨n.sz,[]⟩ ((p,is (enc x))::K) (Hp M0 w0 S (own (pre++[x])++GH l D rec M1 w1 (R pre d))) assign (Exit.then (St ⟨n.sz,[]⟩ ((q,pq x)::K) (Hp M0 w0 S (own (pre++[x])++GH l D rec M1 w1 (R pre d)))) (fun _ _ _=>False)))
  (hbody : ∀ l D rec M1 w1 pre x d, (pre ++ [x]) <+: xs -> Tr (VC P (some l)) ⟨n.sz, []⟩ ((q, pq x) :: K) (Hp M0 w0 S (own (pre ++ [x]) ++ GH l D rec M1 w1 (R pre d))) body
   (Hx M0 w0 S (fun d:β=>own (pre++[x])++GH l D rec M1 w1 (R (pre++[x]) d)) (fun c d=>own (pre++[x])++GH l D rec M1 w1 (B1 (c= .ret)::RX (pre++[x]) d))))
  (hdone:∀l D rec M1 w1 d,Fin ⟨n.sz,mark D::n.df⟩ E (Hp M0 w0 S (own xs++GH l D rec M1 w1 (R xs d))) Q .normal)
  (hstop:∀l D rec M1 w1 pre d,pre<+:xs->Fin ⟨n.sz,mark D::n.df⟩ E (Hp M0 w0 S (own pre++GH l D rec M1 w1 (RX pre d))) Q .ret):
  Tr (Qc P) n E (Hp M0 w0 S rs) (.rangeFunc g #[p] assign body) Q:=by
 refine Tr.XH (fun x=>(q,pq x)::K) R (fun c pre d=>B1 (c= .ret)::RX pre d) d0 fq (fun args w=>DV eg args w) hg fu ?_ ?_ hdone ?_
 .
  intro l D rec M1 w1 pre x d hpre a hsz hE M w hI;have hx:Ext M1 w1 M w:=(hI.hold (Ah M1 w1) AO).1;refine hassign l D rec M1 w1 pre x d hpre _ w ⟨M,by simpa using hsz,rfl,fun s z hq=>?_,hI⟩;simp only[List.lookup]at hq
  by_cases hs:s=p
  .
   subst hs;simp only[beq_self_eq_true,Option.some.injEq]at hq;subst hq;show(a.tmps.setIfInBounds s (enc x)).getD s undef=enc x;simp[Array.getD_eq_getD_getElem?,hsz,nv]
  .
   rw[show(s==p)=false by simpa using hs]at hq;obtain⟨z',H8,PN⟩:=hK.spec s z hq;have h2:=z.st _ _ _ _ _ hx (PN _ _ _ (hE s z' H8));show z.h M w ((a.tmps.setIfInBounds p (enc x)).getD s undef)
   have e1:(a.tmps.setIfInBounds p (enc x)).getD s undef=a.tmps.getD s undef:=by
    simp only[Array.getD_eq_getD_getElem?];rw[Array.getElem?_setIfInBounds_ne (fun e=>hs e.symm)]
   rw[e1];exact h2
 .
  intro l D rec M1 w1 pre x d hpre;exact hbody l D rec M1 w1 pre x d hpre
 .
  intro l D rec M1 w1 c pre d hpre a w ⟨M,h1,h2,h3,h⟩;have h:A0 M0 w0 S (own pre++GH l D rec M1 w1 (B1 (c= .ret)::RX pre d)) M w:=h;have hc:c= .ret:=(h.hold (B1 (c= .ret)) AO).1;subst hc
  have h5:A0 M0 w0 S (B1 (Code.ret= .ret)::(own pre++GH l D rec M1 w1 (RX pre d))) M w:=by
   refine A0.perm ?_ h;have:=List.perm_middle (a:=B1 (Code.ret= .ret)) (l₁:=own pre++[Aw l rec,Aw D (.deferred (some [])),Ah M1 w1]) (l₂:=RX pre d)
   simpa[GH]using this
  exact Tr.ret (hstop l D rec M1 w1 pre d hpre) a w ⟨M,h1,h2,h3,A0.Gs h5⟩
end
end Cp
namespace Go.Proofs.YthommhphcagokaaGreatDoor
open Go Go.RowKit Cp Go.Proofs.Tryz
variable{I:B3}{E:Env}{s:FQ}{d j k m:Nat}{o:Oper}{w:World}
def jdV(s:FQ)(fr CW:Int)(k:Nat):Value:= .agg #[.int .i64 ((k:Nat):Int),.slice none 0 0,.int .i64 (ID s ((k:Nat):Int) fr CW).1,.int .i64 (ID s ((k:Nat):Int) fr CW).2.1,.bool ((ID s ((k:Nat):Int) fr CW).2.2==0)]
theorem pM{fr CW:Int}:Pr.le (agg [int ((k:Nat):Int),is (.slice none 0 0),int (ID s ((k:Nat):Int) fr CW).1,int (ID s ((k:Nat):Int) fr CW).2.1,bool ((ID s ((k:Nat):Int) fr CW).2.2==0)]) (is (jdV s fr CW k)):=by
 rintro M w v ⟨cs,h1,h2,h3⟩
 match cs,h3 with
 |[c1,c2,c3,c4,c5],⟨e1,e2,e3,e4,e5,_⟩=>cases e1;cases e2;cases e3;cases e4;cases e5;exact h1
theorem Uu{n:Nat}(h:k<n):(List.range k++[k])<+:List.range n:=by
 rw[←List.range_succ];have e:(List.range n).take (k+1)=List.range (k+1):=by rw[List.take_range,Nat.min_eq_left h]
 rw[←e];exact List.take_prefix _ _
theorem Uv{fr CW:Int}{v1 v2 v3 v4 v5:Value}(hz:s.sz 2000)(hb:C4 s=true)(hft:fr<=CW):HH prog 54 #[v1,v2,v3,v4,v5] (jdV s fr CW) (List.range s.Ay.length) (fun _=>[Em [ref [slice 1 (List.replicate s.Ay.length [slice 1 [[is (.slice none 0 0)]]])],ref [slice 8 [],slice 2 [],slice 1 []],ref [int fr],ref [int CW],ref (Bn s)] [v1,v2,v3,v4,v5]]):=by
 refine HH.of (ps:=[is v1,is v2,is v3,is v4,is v5]) func54 rfl Af (fun _ _=>⟨rfl,rfl,rfl,rfl,rfl,trivial⟩) ?_;intro M0 w0 S l β R Rx M1 w1 hy d;have h40:=(C2.1 hb).cF;refine Tr.seq (Tr.MY 0 1 0 rfl rfl rfl rfl (Tr.MY 0 2 1 rfl rfl rfl rfl (Tr.MY 0 3 2 rfl rfl rfl rfl (Tr.MY 0 4 3 rfl rfl rfl rfl (Tr.MY 0 5 4 rfl rfl rfl rfl (Tr.Bk (co rfl (FH rfl cj rfl) (co rfl (A9 rfl underlying89 (vl rfl)) (cm rfl (Ch.nil (Fin.go (Tr.block (Tr.Lq [(0,_),(2,_),(3,_),(4,_),(5,_),(15,_),(16,_)] ⟨ke rfl,ke rfl,ke rfl,ke rfl,ke rfl,ke rfl,ke rfl,trivial⟩ (fun(k:Nat) (d2:β)=>[(17,int ((k:Nat):Int))]) (fun(k:Nat) (d2:β)=>Hp M0 w0 S (Em [ref [slice 1 (List.replicate s.Ay.length [slice 1 [[is (.slice none 0 0)]]])],ref [slice 8 [],slice 2 [],slice 1 []],ref [int fr],ref [int CW],ref (Bn s)] [v1,v2,v3,v4,v5]::Ah M1 w1::R (List.range k) d2)) (fun(k:Nat) (d2:β)=>k<=s.Ay.length) (fun(k:Nat) (d2:β)=>s.Ay.length-k) (0) (d)  (Nat.zero_le _) ⟨ke rfl,trivial⟩ (fun _ _ h=>h) ?_)))))))))))));rintro k d2  hk0;refine Tr.seq (Tr.Bk (co rfl (ki rfl rfl rfl rfl) (Ch.nil (Fin.go (Tr.seq ?_)))));refine Tr.cn rfl ?_ ?_<;>intro h1 q1
 have hk:k<s.Ay.length:=by have:=EK.FP h1;simp at this;omega
 have hpx:=Uu hk;refine Tr.skip (Fin.go (Tr.seq (Tr.block (Tr.seq (Tr.Bk (cm rfl ?_))))));refine co rfl (AD rfl underlying89 Wd (vl rfl) (vl rfl) AA (show(List.replicate s.Ay.length [slice 1 [[is (.slice none 0 0)]]])[((k:Nat):Int).toNat]? =some [slice 1 [[is (.slice none 0 0)]]]by rw[Int.toNat_natCast,List.getElem?_replicate,if_pos hk])) ?_;refine co rfl (FH rfl fF rfl) (cm rfl (cm rfl (Ch.nil (Fin.go (eI 0 2 3 4 5 7 8 15 16 17 rfl (Tr.seq (Tr.Bk (cm rfl (co rfl (A9 rfl underlying135 (vl rfl)) (cm rfl (Ch.nil (Fin.go (Tr.block (Tr.once ?_))))))))))))));refine Tr.seq (Tr.Bk (co rfl (ki rfl rfl rfl rfl) (Ch.nil (Fin.go (WB 0 2 3 4 5 7 15 16 17 22 23 24 25 rfl (Tr.seq ?_))))));refine Tr.cn rfl ?_ ?_<;>intro h2 q2
 have:=h2;refine Tr.skip (Fin.go (Tr.seq (Tr.block (Tr.seq (Tr.Bk ?_)))));refine co rfl (AD rfl underlying135 WQ (vl rfl) (vl rfl) AA (show[[is (.slice none 0 0)]][Int.toNat 0]? =some _ from rfl)) ?_;refine co rfl (FH rfl cY rfl) (cm rfl (Ch.nil (Fin.go (WB 0 2 3 4 5 7 10 15 16 17 22 23 24 rfl (Tr.seq (Tr.Bk (co rfl (AJ rfl cX ku (vl rfl) rfl rfl) (cm rfl (co rfl (FH rfl DP rfl) (co rfl (AQ rfl (Us) ⟨ke rfl,⟨_,rfl,AL 1⟩,ke rfl,trivial⟩) (cm rfl (Ch.nil (Fin.go ?_)))))))))))));refine kZ 0 2 3 4 5 7 10 11 15 16 17 22 23 24 rfl (Tr.seq (Tr.seq (Tr.Bk (cm rfl (co rfl (FH rfl DP rfl) (co rfl (ki rfl rfl rfl rfl) (Ch.nil (Fin.go (kf 0 2 3 4 5 7 10 11 15 16 17 22 23 24 34 rfl ?_)))))))));refine Tr.cn rfl ?_ ?_<;>intro h3 q3
 exfalso;have:=q3;omega;refine Tr.skip (Fin.go (kZ 0 2 3 4 5 7 10 11 15 16 17 22 23 24 rfl (Tr.seq (Tr.Al (tp rfl (AJ rfl HD Ge (vl rfl) rfl rfl) (tp rfl (U6 rfl ON rfl rfl) (tp rfl (FH rfl Sj rfl) (tm rfl (tp rfl (AQ rfl (pL hz hb) ⟨ke rfl,ke rfl,⟨_,rfl,AL 1⟩,trivial⟩) (tm rfl (tp rfl (FD rfl (vl rfl) rfl) (tp rfl (FD rfl (vl rfl) rfl) ?_))))))))))));refine Tl rfl rfl rfl rfl z32 Lt (fun b1=>?_);refine TO.Aa 0 rfl rfl rfl (vl rfl) (Va rfl) rfl Ge rfl rfl (TO.freeze 0 12 rfl rfl (tm rfl (TO.nil (Fin.go (rZ 0 2 3 4 5 7 10 11 12 13 15 16 17 22 23 24 rfl (Tr.seq (Tr.Al ?_)))))));refine Tl rfl rfl rfl rfl Sk E2 (fun b2=>?_);refine TO.nil (Fin.go (rj 0 2 3 4 5 7 10 11 12 13 14 15 16 17 22 23 24 rfl (Tr.seq (Tr.seq (Tr.Bk (cm rfl (co rfl (ki rfl rfl rfl rfl) (Ch.nil (Fin.go (rq 0 2 3 4 5 7 10 11 12 13 14 15 16 17 22 23 24 44 rfl ?_))))))))));refine Tr.cn rfl ?_ ?_<;>intro h4 q4
 refine Tr.Al (tp rfl (AJ rfl HD Ge (vl rfl) rfl rfl) (tm rfl (tm rfl (tp rfl (FH rfl DP rfl) ?_))));refine tp rfl (AQ rfl (Uj (s:=s) (Ao:=((k:Nat):Int)) (hz.fits AA)) ⟨ke rfl,ke rfl,ke rfl,ke rfl,trivial⟩) ?_;refine tm rfl (tp rfl (FD rfl (vl rfl) rfl) (tp rfl (FD rfl (vl rfl) rfl) (TO.Aa 0 rfl rfl rfl (vl rfl) (Va rfl) rfl Bs rfl rfl (tm rfl (TO.nil (Fin.go (kf 0 2 3 4 5 7 10 13 14 15 16 17 22 23 24 rfl (Tr.seq (Tr.freeze 0 14 rfl rfl (Tr.YQ 8 (own:=fun _=>[Em [ref [slice 1 (List.replicate s.Ay.length [slice 1 [[is (.slice none 0 0)]]])],ref [slice 8 [],slice 2 [],slice 1 []],ref [int fr],ref [int CW],ref (Bn s)] [v1,v2,v3,v4,v5]]) (pre:=List.range k) (x:=k) (d:=d2) hy hpx rfl rfl rfl rfl rfl rfl rfl rfl Af Af rfl ?_))))))))));refine cm rfl (cm rfl (cm rfl (co rfl (AJ rfl B0 Bs (vl rfl) rfl rfl) (co rfl (Ad (rows:=[(0,[_]),(1,[_]),(2,_)]) rfl r7 eR ⟨⟨rfl,(Vo rfl)⟩,⟨⟨rfl,(Vo rfl)⟩,⟨⟨rfl,(Va rfl)⟩,trivial⟩⟩⟩ rfl) (cm rfl (co rfl (ki rfl rfl rfl rfl) (co rfl (Ad (rows:=[(0,_),(1,[_])]) rfl sB lE ⟨⟨rfl,(Va rfl)⟩,⟨⟨rfl,(Vo rfl)⟩,trivial⟩⟩ rfl) (Ch.nil ?_))))))));refine⟨rfl,⟨_,rfl,pM⟩,rfl,fun d3=>?_,fun d3=>?_⟩;refine Fin.go (WB 0 2 3 4 5 7 15 16 17 22 23 24 62 rfl (Tr.cond rfl (fun h=>nomatch h) (fun _=>?_)));refine Tr.skip (Fin.block (Fin.go (Tr.Bk (Y0 rfl rfl rfl rfl AA (cm rfl (Ch.nil (Fin.again (Tr.seq (Tr.Bk (co rfl (ki rfl rfl rfl rfl) (Ch.nil (Fin.go (WB 0 2 3 4 5 7 15 16 17 22 23 24 25 rfl (Tr.seq ?_))))))))))))));refine Tr.cn rfl ?_ ?_<;>intro h5 q5
 exact absurd h5 AB;have:=h5;refine Tr.exit (Fin.BJ (Fin.BJ (Fin.Bv (Fin.block (Fin.go (Tr.Bk (Y0 rfl rfl rfl rfl AA (cm rfl (Ch.nil ?_)))))))));exact Fin.Hr (k+1) (d3)  (⟨hk,by omega⟩) ⟨⟨_,rfl,AM k⟩,ke rfl,ke rfl,ke rfl,ke rfl,ke rfl,ke rfl,ke rfl,trivial⟩ ((by rw[List.range_succ];exact fun _ _ h=>h));refine Fin.go (WB 0 2 3 4 5 7 15 16 17 22 23 24 62 rfl (Tr.cond rfl (fun _=>?_) (fun h=>nomatch h)));refine Tr.ret (Fin.Az (Fin.AP (Fin.AP (Fin.Az (Fin.Az (Fin.AP (Fin.AP (Fin.Az (Fin.gD (g:=f54) (own:=fun _=>[Em [ref [slice 1 (List.replicate s.Ay.length [slice 1 [[is (.slice none 0 0)]]])],ref [slice 8 [],slice 2 [],slice 1 []],ref [int fr],ref [int CW],ref (Bn s)] [v1,v2,v3,v4,v5]]) (R:=R) (Rx:=Rx) (d:=d3) rfl hpx)))))))));exact absurd h4 AB;exact absurd h2 AB;obtain rfl:k=s.Ay.length:=by have:=EK.FP h1;simp at this;omega
 refine Tr.exit (Fin.BJ (Fin.BJ (Fin.Bv (Fin.nw (g:=f54) (own:=fun _=>[Em [ref [slice 1 (List.replicate s.Ay.length [slice 1 [[is (.slice none 0 0)]]])],ref [slice 8 [],slice 2 [],slice 1 []],ref [int fr],ref [int CW],ref (Bn s)] [v1,v2,v3,v4,v5]]) (xs:=List.range s.Ay.length) (R:=R) (Rx:=Rx) (d:=d2) rfl))))
theorem Uw:Entry Tryz.prog 54:=⟨_,Tryz.func54,rfl,rfl⟩
abbrev MZ(s:FQ)(fr CW:Int)(k:Nat):List Pr:=[int ((k:Nat):Int),is (.slice none 0 0),int (ID s ((k:Nat):Int) fr CW).1,int (ID s ((k:Nat):Int) fr CW).2.1]
theorem iz{fr CW:Int}:Pr.le (is (jdV s fr CW k)) (agg (MZ s fr CW k++[bool ((ID s ((k:Nat):Int) fr CW).2.2==0)])):=fun M w v h=>
 ⟨_,h,by intro c hc;simp at hc;rcases hc with rfl|rfl|rfl|rfl|rfl<;>rfl,rfl,rfl,rfl,rfl,rfl,trivial⟩
theorem bu{xs pre:List Nat}{x:Nat}(h:(pre++[x])<+:xs):x∈xs:=h.subset AO
theorem Tg{n:Nat}{pre:List Nat}{x:Nat}(h:(pre++[x])<+:List.range n):pre.length<n:=by have:=h.length_le;simp at this;omega
def Th(s:FQ)(fr CW:Int)(l:List Nat):Prop:=∀i∈l,(ID s ((i:Nat):Int) fr CW).2.2=0
def Gx(s:FQ)(fr CW:Int):Bool:=(List.range s.Ay.length).all fun k=>(ID s ((k:Nat):Int) fr CW).2.2==0
def Ks(s:FQ)(fr CW:Int):List Nat:=if Gx s fr CW then List.range s.Ay.length else[]
theorem YS{fr CW:Int}(h:Th s fr CW (List.range s.Ay.length)):Gx s fr CW=true:=List.all_eq_true.2 fun i hi=>by simpa using h i hi
theorem bw{fr CW:Int}(hk:k∈List.range s.Ay.length)(h:((ID s ((k:Nat):Int) fr CW).2.2==0)=false):Gx s fr CW=false:=by
 unfold Gx;rw[List.all_eq_false];exact⟨k,hk,by rw[h];decide⟩
theorem R9{fr CW:Int}(hz:s.sz 2000)(hb:C4 s=true)(hd:(0<=fr/\fr<=40000)/\(0<=CW/\CW<=40000))(hft:fr<=CW):BW prog 12 [agg (Bn s),IB,int fr,int CW] (D8 [agg [slice 4 ((Ks s fr CW).map (MZ s fr CW))],int (if Gx s fr CW then 0 else 42)]) (Bj) (fun _=>Bj):=by
 refine BW.ofM func12 rfl rfl Af fun M0 w0 S rs M1 w1=>?_;have h40:=(C2.1 hb).cF;refine Tr.seq (Tr.Al (tp rfl (Bc rfl Ce) (tp rfl (Bc rfl Ce) ?_)));refine Tl rfl rfl rfl rfl z38 Lw (fun b1=>?_);refine Tl rfl rfl rfl rfl kr Y_ (fun b2=>?_);refine ao ?_;refine ac ?_;refine co rfl (dO (R7 hz hb hd) rfl rfl rfl rfl rfl) ?_;refine ac ?_;refine wk [11,10,9,8,5,4,3,2] rfl ?_;refine an ?_ ?_<;>intro h1 q1
 exact absurd h1 AB;refine ac ?_;refine Tr.seq (Tr.Al ?_);refine Tl rfl rfl rfl rfl z38 Lw (fun b3=>?_);refine ao ?_;refine ac ?_;refine co rfl (jP (R8 (s:=s)) rfl rfl rfl rfl rfl rfl) ?_;refine ac ?_;refine wk [31,12,9,8] rfl (Tr.block (Tr.iw 31 rfl fun cs hcs=>?_));obtain⟨v1,v2,v3,v4,v5,rfl⟩:=YR hcs;refine Tr.Fy 1 [An (.slice none 0 0) (slice 4 ((([]:List Nat)).map (MZ s fr CW)))] rfl ⟨CG rfl,trivial⟩ (Tr.Cm 52 4 (Tr.S1 (p:=Th s fr CW []) (fun i h=>(by cases h)) ?_));refine Tr.iy 13 (fun x:Nat=>ref (MZ s fr CW x++[bool ((ID s ((x:Nat):Int) fr CW).2.2==0)])) _ (kk [12,9,8] rfl) (fun pre vr=>B1 (Th s fr CW pre)::A8 52 4 vr::AF true b3 38 [An vr (slice 4 ((pre).map (MZ s fr CW)))]::AF true b2 39 [int 0]::AF true b1 38 [is (.slice none 0 0)]::Bj::Ah M1 w1::rs) (fun pre vr=>B1 (Gx s fr CW=false)::A8 52 4 vr::AF true b3 38 [any]::AF true b2 39 [int 42]::AF true b1 38 [is (.slice none 0 0)]::Bj::Ah M1 w1::rs) (.slice none 0 0) (Uv (v1:=v1) (v2:=v2) (v3:=v3) (v4:=v4) (v5:=v5) hz hb hft) Uw vq ((GZ (j:=2) rfl).trans (List.Perm.cons _ (List.Perm.refl _))) rfl Af ?_ ?_ ?_ ?_;rintro lk Dk rk Mr wr pre x vr hpre;refine Tr.Al ?_;refine Tl rfl rfl rfl rfl z96 lE (fun b4=>?_);refine TO.Aa 0 rfl rfl rfl vq (VL.le vq (Pr.le_trans iz (AE _))) rfl sA rfl rfl (TO.freeze 0 13 rfl rfl (TO.nil (Fin.st ⟨kq,kz⟩)));rintro lk Dk rk Mr wr pre x vr hpre;refine an ?_ ?_<;>intro h2 q2
 refine ao ?_;refine TO.Aa 8 rfl rfl rfl vq Ce rfl OM rfl rfl (TO.Aa 7 rfl rfl rfl vq CD rfl Pf rfl rfl ?_);refine ao ?_;refine Tr.ret (Fin.AP (Fin.Az (Fin.Fy 6 [any] rfl ⟨FB _,trivial⟩ (Fin.XJ 4 rfl (q:=Gx s fr CW=false) (fun _=>bw (bu hpre) Cc) ?_))));exact Fin.gE vr (List.Perm.refl _);refine ac ?_;refine ao ?_;refine TO.rd 6 rfl rfl rfl AB (Bw rfl cV vq rfl) ?_;refine ao ?_;refine TO.EV 5 rfl rfl AB (Ba rfl rfl AB rfl underlying36 WR k6 z52 rfl AB It Cs (by simp only[List.length_append,List.length_map,List.length_cons,List.length_nil];have:=Tg hpre;unfold maxLen;omega) (by simp only[List.length_append,List.length_map,List.length_cons,List.length_nil];have:=Tg hpre;omega) (Bx BH Jd)) (fun v1=>?_);refine tp rfl (AU rfl WN vq) (TO.Aa 6 rfl rfl rfl vq CD rfl r6 rfl rfl ?_);refine ao ?_;refine Fin.Fy 6 [An v1 (slice 4 (((pre++[x])).map (MZ s fr CW)))] rfl ⟨B7 EO,trivial⟩ ?_;refine Fin.XJ 4 rfl (q:=Th s fr CW (pre++[x])) (fun h i hi=>by rcases List.mem_append.1 hi with hi|hi;exact h i hi;(rw[List.mem_singleton]at hi;subst hi;simp_all)) ?_;exact Fin.rnd v1 (List.Perm.refl _);rintro lk Dk rk Mr wr vr;refine Fin.prop 4 rfl fun hok=>?_;have bz:=YS hok;refine Fin.drop 0 (Fin.drop 0 (Fin.drop 1 (Fin.drop 1 ?_)));refine ac ?_;refine Tr.seq (Tr.Al (TO.rd 2 rfl rfl rfl Af (Cv rfl Lu OM vq rfl rfl) (TO.Aa 4 rfl rfl rfl vq Ce rfl OM rfl rfl (TO.Aa 3 rfl rfl rfl vq CD rfl Pf rfl rfl ?_))));refine ao ?_;refine Tr.ret (Fin.Oc (Fin.MC (Fin.Sh [_,_,_,_] rfl (AZ.cell 3 rfl rfl Lu OM rfl Lr) (AZ.S2 2 rfl rfl Lx Lr) ?_)))
 .exact CH ⟨Au ⟨Pr.le_trans (As _ _) (Pr.le_of_eq (by unfold Ks;rw[if_pos bz])),trivial⟩,int_eq (if_pos bz).symm,trivial⟩
 rintro lk Dk rk Mr wr pre vr hpre;refine Fin.prop 4 rfl fun hno=>(Fin.drop 0 (Fin.drop 0 (Fin.drop 1 (Fin.drop 1 (Fin.Az (Fin.AP (Fin.Oc (Fin.MC (Fin.Sh [_,_,_,_] rfl (AZ.cell 3 rfl rfl Lu OM rfl Lr) (AZ.S2 2 rfl rfl Lx Lr) ?_)))))))))
 .exact CH ⟨Au ⟨Pr.le_trans (AL 4) (Pr.le_of_eq (by unfold Ks;rw[hno];rfl)),trivial⟩,int_eq (by rw[hno];rfl),trivial⟩
theorem Ux{fr CW:Int}(hz:s.sz 2000)(hb:C4 s=true)(hd:(0<=fr/\fr<=40000)/\(0<=CW/\CW<=40000))(hft:fr<=CW):Am Tryz.prog 12 [agg (Bn s),IB,int fr,int CW] (D8 [agg [slice 4 ((Ks s fr CW).map (MZ s fr CW))],int (if Gx s fr CW then 0 else 42)]):=(R9 hz hb hd hft).pure
theorem YT   :Am prog 93 [agg (([.int .i64 0,.int .i64 0,.int .i64 0,.int .i64 0,.int .i64 0,.int .i64 0,.int .i64 0,.slice none 0 0]:List Value).map is),ref (Bn Dz)] (bool true):=by
 refine fo func93 rfl ⟨rfl,rfl⟩ fun M0 w0=>?_
 .repeat' first|exact absurd h AB|exact Lr|refine ac ?_|(refine Ch.cg rfl rfl rfl ?_ ?_<;>intro h q)
theorem YU:Entry Tryz.prog 93:=⟨_,Tryz.func93,rfl,rfl⟩
theorem i6   :Am prog 159 [slice 8 [(([.int .i64 0,.int .i64 0,.int .i64 0,.int .i64 0,.int .i64 0,.int .i64 0,.int .i64 0,.slice none 0 0]:List Value).map is)],Mc prog (fun _:Unit=>[agg (([.int .i64 0,.int .i64 0,.int .i64 0,.int .i64 0,.int .i64 0,.int .i64 0,.int .i64 0,.slice none 0 0]:List Value).map is)]) (fun _=>bool true)] (int 0):=by
 refine fo func159 rfl ⟨rfl,rfl⟩ fun M0 w0=>?_;refine a2 ?_;refine co rfl (A9 rfl underlying42 vq) ?_;refine ac ?_;refine Tr.block (Tr.DR ?_);refine ac ?_;refine Tr.seq ?_;refine Tr.cn rfl ?_ ?_<;>intro h1 q1
 have:=h1
 .repeat' first|exact Lr|exact absurd h AB|refine co rfl (AD rfl underlying42 WZ vq vq AA (show[(([.int .i64 0,.int .i64 0,.int .i64 0,.int .i64 0,.int .i64 0,.int .i64 0,.int .i64 0,.slice none 0 0]:List Value).map is)][Int.toNat 0]? =some _ from rfl)) ?_|refine co rfl (AJ rfl fC WZ vq rfl rfl) ?_|refine co rfl (Dg (dom:=fun _:Unit=>[agg (([.int .i64 0,.int .i64 0,.int .i64 0,.int .i64 0,.int .i64 0,.int .i64 0,.int .i64 0,.slice none 0 0]:List Value).map is)]) () rfl vq kz) ?_|refine ac ?_|(refine Tr.cn rfl ?_ ?_<;>intro h q)
 exact absurd h1 AB
theorem i7   :Am prog 95 [slice 8 [(([.int .i64 0,.int .i64 0,.int .i64 0,.int .i64 0,.int .i64 0,.int .i64 0,.int .i64 0,.slice none 0 0]:List Value).map is)],Mc prog (fun _:Unit=>[agg (([.int .i64 0,.int .i64 0,.int .i64 0,.int .i64 0,.int .i64 0,.int .i64 0,.int .i64 0,.slice none 0 0]:List Value).map is)]) (fun _=>bool true)] (bool true):=by
 refine fo func95 rfl ⟨rfl,rfl⟩ fun M0 w0=>?_;refine a2 ?_;refine co rfl (Bm (i6) rfl rfl rfl) ?_;refine a2 ?_
 .exact Lr
theorem R_   :Am prog 51 [agg (Bn Dz),agg [slice 8 [(([.int .i64 0,.int .i64 0,.int .i64 0,.int .i64 0,.int .i64 0,.int .i64 0,.int .i64 0,.slice none 0 0]:List Value).map is)],slice 2 [],slice 1 []]] (int 49):=by
 refine fo func51 rfl ⟨rfl,rfl⟩ fun M0 w0=>?_
 .repeat' first|exact absurd h AB|exact Lr|refine co rfl (BQ (GJ (Xm.fits AA)) rfl rfl) ?_|refine co rfl (A9 rfl underlying42 vq) ?_|refine cy h rfl (AQ rfl (i7) ⟨kq,⟨_,rfl,Ck (dom:=fun _:Unit=>[agg (([.int .i64 0,.int .i64 0,.int .i64 0,.int .i64 0,.int .i64 0,.int .i64 0,.int .i64 0,.slice none 0 0]:List Value).map is)]) (res:=fun _=>bool true) YU fun _=>YT⟩,trivial⟩) ?_|refine ac ?_|(refine Tr.cn rfl ?_ ?_<;>intro h q)|(refine Ch.cg rfl rfl rfl ?_ ?_<;>intro h q)
theorem SA   :Am prog 32 [agg (Bn Dz),agg [slice 8 [(([.int .i64 0,.int .i64 0,.int .i64 0,.int .i64 0,.int .i64 0,.int .i64 0,.int .i64 0,.slice none 0 0]:List Value).map is)],slice 2 [],slice 1 []],int 0,int 1] (D8 [slice 1 [],int 49]):=by
 refine fo func32 rfl ⟨rfl,rfl⟩ fun M0 w0=>?_;refine a2 ?_;refine co rfl (Bm (R_) rfl rfl rfl) ?_;refine ac ?_;refine an ?_ ?_<;>intro h1 q1
 refine ac ?_;refine Tr.ret (Fin.AP (Fin.EC rfl (Cy.GV _ _) rfl ?_ rfl ?_))
 .exact AL 1
 .exact Lr
 exact absurd h1 AB
theorem SB   :BW prog 12 [agg (Bn Dz),agg [slice 8 [(([.int .i64 0,.int .i64 0,.int .i64 0,.int .i64 0,.int .i64 0,.int .i64 0,.int .i64 0,.slice none 0 0]:List Value).map is)],slice 2 [],slice 1 []],int 0,int 1] (D8 [Xl,int 49]) (Bj) (fun _=>Bj):=by
 refine BW.ofM func12 rfl rfl Af fun M0 w0 S rs M1 w1=>?_;refine Tr.seq (Tr.Al (tp rfl (Bc rfl Ce) (tp rfl (Bc rfl Ce) ?_)));refine Tl rfl rfl rfl rfl z38 Lw (fun b1=>?_);refine Tl rfl rfl rfl rfl kr Y_ (fun b2=>?_);refine ap ?_;refine ac ?_;refine co rfl (dO (SA) rfl rfl rfl rfl rfl) ?_;refine ac ?_;refine wk [11,10,9,8,5,4,3,2] rfl ?_;refine an ?_ ?_<;>intro h1 q1
 refine ap ?_;refine Tr.ret (Fin.AP (Fin.MC (Fin.Sh [_,_] rfl (AZ.cell 1 rfl rfl Lu OM rfl Lr) (AZ.S2 0 rfl rfl Lx Lr) ?_)));refine CH ⟨?_,?_,trivial⟩
 .exact Au ⟨AL 4,trivial⟩
 .exact Lr
 exact absurd h1 AB
theorem Uy:Am Tryz.prog 12 [agg (Bn Dz),agg [slice 8 [(([.int .i64 0,.int .i64 0,.int .i64 0,.int .i64 0,.int .i64 0,.int .i64 0,.int .i64 0,.slice none 0 0]:List Value).map is)],slice 2 [],slice 1 []],int 0,int 1] (D8 [Xl,int 49]):=SB.pure
theorem i9   :Am prog 83 [slice 4 [(([.int .i64 0,.slice none 0 0,.int .i64 0,.int .i64 0]:List Value).map is)],slice 4 [],any] (bool false):=by
 refine fo func83 rfl ⟨rfl,rfl⟩ fun M0 w0=>?_
 .repeat' first|exact Lr|exact absurd h AB|refine co rfl (A9 rfl underlying36 vq) (cm rfl (co rfl (A9 rfl underlying36 vq) ?_))|refine ac ?_|(refine Tr.cn rfl ?_ ?_<;>intro h q)
theorem Uz   :Am prog 45 [agg [slice 4 [(([.int .i64 0,.slice none 0 0,.int .i64 0,.int .i64 0]:List Value).map is)]],Xl] (bool false):=by
 refine fo func45 rfl ⟨rfl,rfl⟩ fun M0 w0=>?_;refine a2 ?_;refine co rfl (AQ rfl (i9) ⟨kq,kq,⟨_,rfl,FB _⟩,trivial⟩) ?_;refine a2 ?_
 .exact Lr
theorem Qa   :Am prog 24 [agg (Bn Dz),IB,int 0,int 1,agg [slice 4 [(([.int .i64 0,.slice none 0 0,.int .i64 0,.int .i64 0]:List Value).map is)]]] (int 50):=by
 refine fo func24 rfl ⟨rfl,rfl⟩ fun M0 w0=>?_;refine ac ?_;refine ao ?_;refine tp rfl (dO (Nc) rfl rfl rfl rfl rfl) ?_;refine ao ?_;refine Tl rfl rfl rfl rfl z38 Lw (fun b1=>?_);refine sf 0 11 ⟨rfl,rfl,rfl⟩ rfl rfl rfl rfl ?_;refine ao ?_
 .repeat' first|exact absurd h AB|exact Lr|refine co rfl (Bm (Uz) rfl rfl rfl) ?_|refine ac ?_|(refine Tr.cn rfl ?_ ?_<;>intro h q)
theorem SC   :Am prog 6 [] (bool true):=by
 refine fo func6 rfl ⟨rfl,rfl⟩ fun M0 w0=>?_;refine ac ?_;refine ao ?_;refine tp rfl (JI (m:=1) rfl underlying42 WZ lF sC rfl AB AB ⟨_,rfl,int_eq rfl⟩ ⟨_,rfl,int_eq rfl⟩ AB AB) ?_;refine tp rfl (Ad (rows:=[(0,[_])]) rfl k4 k5 ⟨⟨rfl,⟨_,rfl,Pr.le_trans (Ak 8 _) (AH _)⟩⟩,trivial⟩ rfl) (tp rfl (AQ rfl (Uy) ⟨⟨_,rfl,Au ⟨AL 9,AL 2,AL 5,trivial⟩⟩,⟨_,rfl,Au ⟨Lr,AL 2,AL 1,trivial⟩⟩,kz⟩) ?_);refine ao ?_;refine Tl rfl rfl rfl rfl z38 Lw (fun b1=>?_);refine sf 0 1 ⟨rfl,rfl,rfl⟩ rfl rfl rfl rfl ?_;refine ao ?_;refine ao ?_;refine tp rfl (AQ rfl (Nc) ⟨⟨_,rfl,Au ⟨AL 9,AL 2,AL 5,trivial⟩⟩,⟨_,rfl,Au ⟨AL 8,AL 2,AL 1,trivial⟩⟩,kz⟩) ?_;refine ao ?_;refine Tl rfl rfl rfl rfl z38 Lw (fun b2=>?_);refine sf 0 3 ⟨rfl,rfl,rfl⟩ rfl rfl rfl rfl ?_;refine ao ?_
 .repeat' first|exact Lr|exact absurd h AB|refine cy h rfl (A9 rfl underlying36 vq) ?_|refine cy h rfl (JI (m:=1) rfl underlying36 WR k6 z52 rfl AB AB ⟨_,rfl,int_eq rfl⟩ ⟨_,rfl,int_eq rfl⟩ AB AB) ?_|refine cy h rfl (Ad (rows:=[(0,[_])]) rfl ko Lw ⟨⟨rfl,⟨_,rfl,Pr.le_trans (Ak 4 _) (AH _)⟩⟩,trivial⟩ rfl) (cy h rfl (AQ rfl (Qa) ⟨⟨_,rfl,Au ⟨AL 9,AL 2,AL 5,trivial⟩⟩,⟨_,rfl,Au ⟨AL 8,AL 2,AL 1,trivial⟩⟩,kq,kq,⟨_,rfl,Au ⟨Lr,trivial⟩⟩,trivial⟩) ?_)|refine ac ?_|(refine Ch.cg rfl rfl rfl ?_ ?_<;>intro h q)
theorem b_{k a b:Int}(h:(ID s k a b).2.2=0):ID s k a b=Jg s k a/\(Jg s k a).2.2=0:=by
 unfold ID at h ⊢
 split at h
 .next h1=>exact absurd h h1
 .
  next h1=>
  rw[if_neg h1]
  split at h
  .next h2=>exact absurd h h2
  .
   next h2=>
   rw[if_neg h2]
   split at h
   .exact absurd h AB
   .next h3=>rw[if_neg h3];exact⟨rfl,h⟩
theorem cA{fr CW:Int}(h:(Ks s fr CW)[k]? =some j):Gx s fr CW=true/\k=j/\k<s.Ay.length:=by
 unfold Ks at h
 split at h
 .
  next hg=>
  have hk:=BO h;rw[List.length_range]at hk;rw[List.getElem?_range hk]at h;exact⟨hg,Option.some.inj h,hk⟩
 .simp at h
theorem cB{fr CW:Int}(hg:Gx s fr CW=true)(hk:k<s.Ay.length):(ID s ((k:Nat):Int) fr CW).2.2=0:=by
 have:=List.all_eq_true.1 hg k (List.mem_range.2 hk)
 simpa using this
def upTo(s:FQ)(fr CW:Int)(m:Nat):Bool:=(List.range m).all fun k=>(ID s ((k:Nat):Int) fr CW).2.2==0
theorem Nl{fr CW:Int}:upTo s fr CW (m+1)=(upTo s fr CW m&&((ID s ((m:Nat):Int) fr CW).2.2==0)):=by unfold upTo;rw[List.range_succ,List.all_append];simp
theorem pN{x0 y0:Int}{x1 y1:Int}:(Op.equalIn (d+2) 47 (.agg #[.int .i64 x0,.int .i64 x1]) (.agg #[.int .i64 y0,.int .i64 y1])).run Tryz.prog w= .ok (decide (x0=y0/\x1=y1)) w:=by
 have h:=eqS (w:=w) (d:=d+1) (xs:= #[.int .i64 x0,.int .i64 x1]) (ys:= #[.int .i64 y0,.int .i64 y1]) Tryz.underlying47 BI (GF AB (Cr DP rfl) (Cr DP rfl) (Ht (d:=d+0) Tryz.underlying3) (GF AB (Cr DP rfl) (Cr DP rfl) (Ht (d:=d+0) Tryz.underlying3) (OW)));refine h.trans (congrArg (fun b=>Result.ok b w) ?_);rw[Bool.eq_iff_iff];simp[and_assoc]
theorem cC{u:TypeId}{x y:Operand}{x0 y0:Int}{x1 y1:Int}(ho:o.op= .binOp .neq 47 x y u)(hx:VL E x (agg [is (.int .i64 x0),is (.int .i64 x1)]))(hy:VL E y (agg [is (.int .i64 y0),is (.int .i64 y1)])):Ac Tryz.prog I o E (bool (!decide (x0=y0/\x1=y1))):=
 Wi [.int .i64 x0,.int .i64 x1] [.int .i64 y0,.int .i64 y1] ho hx hy BI (fun w=>by rw[show Op.equal 47 _ _=Op.equalIn (9998+2) 47 _ _ from rfl];exact pN)
theorem O2{t:List Int}{a b:Int}(ha:0<=a/\a<65536)(hb0:0<=b/\b<65536):Am prog 3 [ints t,is (.int .u16 a),is (.int .u16 b)] (bool true):=by
 refine fo func3 rfl ⟨rfl,rfl⟩ fun M0 w0=>?_;refine ac ?_;refine ac ?_;refine co rfl (BQ (aI) rfl rfl) ?_;refine ac ?_;refine Tr.cn rfl ?_ ?_<;>intro h1 q1
 refine Tr.seq (Tr.Bk (co rfl (Ya (SC) rfl) ?_));refine ac ?_;refine ac ?_
 .exact Lr
 have ht4:t.length<=400:=by simp_all
 have ht9:t.length<=1000000000:=by omega
 refine ac ?_;refine ao ?_;refine TO.pad ?_;refine TO.EV 0 rfl rfl AB (Ga rfl rfl AB rfl (gq (l:=t) ht9) kz) (fun v1=>?_);refine TO.YZ 26 0 _ rfl rfl (fun _=>rfl) (fun b1=>?_);refine ao ?_;refine ao ?_;refine TO.EJ 0 rfl rfl AB (Ab rfl rfl AB rfl (YL) kz) ?_;refine TO.ex 28 rfl (fun z1=>TO.fact 28 rfl fun H8=>?_);refine Tl rfl rfl rfl rfl z32 Lt (fun b2=>?_);refine TO.Aa 0 rfl rfl rfl vq Ce rfl Ge rfl rfl (TO.nil (Fin.Gt 1 rfl (fun s1=>?_)));refine Fin.go (Tr.Zs _ (kk [8,2,1] rfl) (fun(e:FQ) (s9:DS)=>[]) (fun(e:FQ) (s9:DS)=>Hp M0 w0 Hj ([AF true b2 32 (Bn e),CT b1 s9])) (fun(e:FQ) (s9:DS)=>e.sz 2000/\C4 e=true) ?_ ?_);refine ao ?_;refine TO.EJ 1 rfl rfl AB (Ab rfl rfl AB rfl (Bp AA AA) ⟨ke rfl,ke rfl,trivial⟩) ?_;refine ao ?_;refine wk [31,8,7,2,1] rfl ?_;refine Tr.cn rfl ?_ ?_<;>intro h2 q2
 refine ao ?_;refine TO.EJ 1 rfl rfl AB (Ab rfl rfl AB rfl (R5) kz) ?_;refine TO.ex 33 rfl (fun z2=>TO.fact 33 rfl fun PN=>?_);refine TO.Aa 0 rfl rfl rfl vq Ce rfl Ge rfl rfl (TO.nil (Fin.Gt 1 rfl (fun s2=>?_)));exact Fin.Hr (_) (_)  ((by exact⟨PN.sz,PN.ok⟩)) ⟨kq,kz⟩ (fun _ _ h=>h);refine Tr.skip (Fin.Hr (_) (_)  ((by exact⟨H8.sz.le_ AA,H8.ok⟩)) ⟨kq,kz⟩ (fun _ _ h=>h));rintro e s9  ⟨hez,heb⟩;refine Tr.freeze 0 8 rfl rfl (Tr.drop 0 ?_);have hef:=hez.fits AA;have h40:=(C2.1 heb).cF;refine ac ?_;refine co rfl (PV rfl underlying23 underlying3 vq I0) ?_;refine co rfl (Bm (Xa AA AA) rfl rfl rfl) ?_;refine ac ?_;refine ac ?_;refine co rfl (PV rfl underlying23 underlying3 vq I0) ?_;refine co rfl (Bm (Xa AA AA) rfl rfl rfl) ?_;refine ac ?_;refine ao ?_;refine tp rfl (AQ rfl (Ux hez heb ⟨⟨by omega,by omega⟩,by omega,by omega⟩ AA) ⟨ke rfl,⟨_,rfl,Au ⟨AL 8,AL 2,AL 1,trivial⟩⟩,ke rfl,ke rfl,trivial⟩) ?_;refine ao ?_;refine Tl rfl rfl rfl rfl z38 Lw (fun b3=>?_);refine sf 0 11 ⟨rfl,rfl,rfl⟩ rfl rfl rfl rfl ?_;refine ao ?_;refine wk [12,11,10,9,8] rfl ?_;refine ac ?_;refine ac ?_;refine Tr.block (Tr.BP _ (kk [52,12,11,10,9,8] rfl) (fun m:Nat=>[(53,int ((m:Nat):Int)),(13,bool (upTo e (a % 60) (a % 60+b % 60) m))]) (fun m:Nat=>m<=(e.Ay.length)) (fun m:Nat=>(e.Ay.length)-m) 0 (Nat.zero_le _) ⟨kq,⟨_,rfl,bool_eq rfl⟩,trivial⟩ ?_);rintro m TD;refine ac ?_;refine Tr.seq ?_;refine Tr.cn rfl ?_ ?_<;>intro h3 q3
 have HU:m<(e.Ay.length):=AV h3;refine ac ?_;refine ac ?_;refine ao ?_;refine tp rfl (dO (Uk hef) rfl rfl rfl rfl rfl) ?_;refine ao ?_;refine Tl rfl rfl rfl rfl Sk E2 (fun b4=>?_);refine sf 0 15 ⟨rfl,rfl,rfl⟩ rfl rfl rfl rfl ?_;refine ao ?_;refine wk [53,52,16,13,12,11,10,9,8] rfl ?_;refine ac ?_;refine Ch.cs 65 rfl ?_ ?_<;>intro h4 q4
 refine ac ?_;refine wk [53,52,13,12,11,10,9,8] rfl ?_;refine ac ?_;exact Fin.AR (m+1) ⟨HU,by omega⟩ ⟨⟨_,rfl,AM m⟩,⟨_,rfl,bool_eq (by rw[Nl];simp_all)⟩,kz⟩;refine ac ?_;refine wk [53,52,13,12,11,10,9,8] rfl ?_;refine ac ?_;exact Fin.AR (m+1) ⟨HU,by omega⟩ ⟨⟨_,rfl,AM m⟩,⟨_,rfl,bool_eq (by rw[Nl];simp_all)⟩,kz⟩;have Oi:m=(e.Ay.length):=by have:=AW h3;omega
 subst Oi;refine ac ?_;refine ac ?_;refine Tr.cn rfl ?_ ?_<;>intro h5 q5
 have bz:Gx e (a % 60) (a % 60+b % 60)=false:=X9 h5;have hpl:Ks e (a % 60) (a % 60+b % 60)=[]:=if_neg (by rw[bz];decide);refine ac ?_;refine Ch.cs 74 rfl ?_ ?_<;>intro h6 q6
 refine ac ?_;refine Ch.cs 80 rfl ?_ ?_<;>intro h7 q7
 refine cy h7 rfl (Ya (SC) rfl) ?_;refine ac ?_;refine wk [6] rfl ?_;refine ac ?_
 .exact Lr
 exfalso;simp[hpl]at h7;exfalso;simp[bz]at h6;have bz:Gx e (a % 60) (a % 60+b % 60)=true:=dc h5;have hpl:Ks e (a % 60) (a % 60+b % 60)=List.range e.Ay.length:=if_pos bz;refine ac ?_;refine ac ?_;refine Ch.cs 85 rfl ?_ ?_<;>intro h8 q8
 exfalso;simp[bz]at h8;refine ac ?_;refine wk [93,11,9,8] rfl ?_;refine Tr.cn rfl ?_ ?_<;>intro h9 q9
 exfalso;simp[hpl]at h9;refine ac ?_;refine ac ?_;refine Tr.block (Tr.BP _ (kk [96,95,9,8] rfl) (fun k:Nat=>[(97,int ((k:Nat):Int))]) (fun k:Nat=>k<=((Ks e (a % 60) (a % 60+b % 60))).length) (fun k:Nat=>((Ks e (a % 60) (a % 60+b % 60))).length-k) 0 (Nat.zero_le _) kz ?_);rintro k BR;refine ac ?_;refine Tr.seq ?_;refine Tr.cn rfl ?_ ?_<;>intro h10 MB
 have Ae:k<((Ks e (a % 60) (a % 60+b % 60))).length:=AV h10;obtain⟨j,Ag⟩:=at_ Ae;obtain⟨_,hjk,PR⟩:=cA Ag;subst hjk;have hgd:=cB bz PR;obtain⟨hdw,hw0⟩:=b_ hgd;refine ac ?_;refine ao ?_;refine tp rfl (AD rfl underlying36 WR vq vq AA (Aj Ag)) (tp rfl (AJ rfl cZ WR vq rfl rfl) ?_);refine Tl rfl rfl rfl rfl z52 eR (fun b5=>?_);refine tm rfl ?_;refine sf 0 18 ⟨rfl,rfl,rfl⟩ rfl rfl rfl rfl ?_;refine ao ?_;refine ao ?_;refine tp rfl (Tx (MT hef) rfl rfl rfl rfl) ?_;refine ao ?_;refine Tl rfl rfl rfl rfl Sk E2 (fun b6=>?_);refine sf 0 19 ⟨rfl,rfl,rfl⟩ rfl rfl rfl rfl ?_;refine ao ?_;refine wk [97,96,95,20,19,18,17,9,8] rfl ?_;refine ac ?_;refine Ch.cs 111 rfl ?_ ?_<;>intro h11 O8
 exfalso;simp[hw0]at h11;refine ac ?_;refine Ch.cs 117 rfl ?_ ?_<;>intro h12 Re
 exfalso;simp at h12;refine ac ?_;refine cy h12 rfl (Hu rfl underlying50 vq) (cy h12 rfl WA (co rfl (Sc rfl rfl h12 rfl) (cm rfl ?_)));refine Ch.cs 123 rfl ?_ ?_<;>intro Je VD
 exact absurd Je AB;refine cy Je rfl (U6 rfl eU rfl rfl) (cy Je rfl (AJ rfl B0 Bs (vl rfl) rfl rfl) (cy Je rfl (AJ rfl B0 Bs (vl rfl) rfl rfl) (cy Je rfl (cC rfl (vl rfl) (vl rfl)) ?_)));refine ac ?_;refine wk [128,97,96,95,9,8] rfl ?_;refine Tr.cn rfl ?_ ?_<;>intro Mh Z9
 exfalso;simp[hdw]at Mh;refine ac ?_;refine ac ?_;exact Fin.AR (k+1) ⟨Ae,by omega⟩ ⟨⟨_,rfl,AM k⟩,kz⟩;have BB:k=((Ks e (a % 60) (a % 60+b % 60))).length:=by have:=AW h10;omega
 refine ac ?_;refine Tr.seq (Tr.Bk (co rfl (Ya (SC) rfl) ?_));refine ac ?_;refine ac ?_
 .exact Lr
end Go.Proofs.YthommhphcagokaaGreatDoor
namespace Go.Proofs.YthommhphcagokaaGreatDoor
open Go Go.RowKit Cp Go.ChangeShapes Go.WideShapes Go.ChangeAt Go.Proofs.Tryz
theorem u16_in{n:Int}(h:(Lit.int .u16 n).wf=true):0<=n/\n<65536:=by
 simp only[Lit.wf,Bool.and_eq_true,decide_eq_true_eq]at h;have h1:IntKind.u16.min=0:=rfl;have h2:IntKind.u16.max=65535:=rfl;omega
theorem YV (os : Os) (args : Array Value) : laidMetH Tryz.prog [("math/bits.deBruijn32tab", Rows.laid_math_bits_deBruijn32tab)] ((World.doorLaid Tryz.prog 14 os).forCall (fun _ _ => 0) ⟨#[], args, []⟩).memory :=
 laidMetH_of_parts3 (fuel:=33) (laidMet_of_run' 33 BI BI) BI BI
theorem JY(os:Os)(started:os.Started)(H:Type)(enc:TypeId×Value->H):
  ReturnsInHanded {} Tryz.checked os 3 .any (fun w args => (Rows.proofEmptySpec.pre enc Tryz.prog Tryz.f3 [] false w args ∧ laidMetH Tryz.prog [("math/bits.deBruijn32tab", Rows.laid_math_bits_deBruijn32tab)] w) ∧ sizedMet enc Tryz.prog Tryz.f3 (OpenSpec.ofChange Rows.proofEmptySpec) false w args) (Rows.proofEmptySpec.post enc Tryz.prog Tryz.f3 false true false false) := by
 refine returnsInHanded_of_change_and (C := Tryz.checked) (X := fun w _ => laidMetH Tryz.prog [("math/bits.deBruijn32tab", Rows.laid_math_bits_deBruijn32tab)] w) (fun _ _ _ hh h => h.of_heap hh) uA started BI Tryz.func3
  (ChangeSpec.witness_shaped (enc := enc) (C := Tryz.checked) (os := os) (X := fun w _ => laidMetH Tryz.prog [("math/bits.deBruijn32tab", Rows.laid_math_bits_deBruijn32tab)] w) false (World.doorLaid Tryz.prog 14 os) #[.slice none 0 0, .int .u16 0, .int .u16 0] 8 rfl (World.shaped_of_RefB BI BI) BI BI BI (YV os _)) ?_
 intro W base args ds gs before pO hW vD _ _ _;have hval:∀(j:Nat) t v,Tryz.f3.params[j]? =some t->args[j]? =some v->Value.okWide Tryz.prog W .any base t v:=pO;have hW':=hW;obtain⟨p,q,hA0,hV,hpq,hfz,hnd⟩:=hW;have hA:DataW.TrodAll enc Tryz.prog W 0 (fun _=>true) true Tryz.f3.params.toList args.toList ds p:=hA0;have YY:=hA;rw[Tryz.params3]at hA hval;obtain⟨v0,v1,v2,d0,d1,d2,p0,p1,p2,rfl,rfl,hp,h0,h1,h2⟩:=trodAll_three YY;obtain⟨rfl,rfl⟩:=trodVars_none hV;obtain⟨a0,_,e0⟩:=OI (RV Tryz.underlying22 Tryz.underlying3 BI) h0 (by obtain⟨_,_,_,rfl⟩:=okWide_slice Tryz.underlying22 (hval 0 22 v0 rfl rfl);rfl);obtain⟨a1,hf1,e1⟩:=OI (Jy Tryz.underlying23) h1 (by obtain⟨_,rfl⟩:=okWide_int Tryz.underlying23 (hval 1 23 v1 rfl rfl);rfl);obtain⟨a2,hf2,e2⟩:=OI (Jy Tryz.underlying23) h2 (by obtain⟨_,rfl⟩:=okWide_int Tryz.underlying23 (hval 2 23 v2 rfl rfl);rfl);refine((O2 (u16_in hf1) (u16_in hf2)).2 kj W [v0,v1,v2] (eK W) ⟨e0,e1,e2,trivial⟩).mono fun e W' ⟨v,he,hv,hb⟩=>?_;subst he;obtain rfl:v= .bool true:=hv;exact⟨_,rfl,WE W8 BI rfl Tryz.underlying4 rfl YY (by rw[hpq];simp) hW' rfl hb⟩
theorem JZ:(Rows.proofEmptyRow.inPlace==Tryz.pinned.checked.prog.inPlace 3)=true:=by kernel_rfl
theorem Ja:(Rows.proofEmptyRow.unfollowed==Tryz.pinned.checked.prog.unfollowed 3)=true:=by kernel_rfl
theorem Jb:(Rows.proofEmptyRow.recurses==Tryz.pinned.checked.prog.recurses 3)=true:=by kernel_rfl
theorem Jc:(Rows.proofEmptyRow.named==Tryz.pinned.checked.prog.varsNamed 3)=true:=by kernel_rfl
theorem KI:joinedFacts Tryz.pinned.checked.prog 3 Tryz.f3 Rows.proofEmptySpec Rows.proofEmptyRow=true:=by
 unfold joinedFacts;rw[JZ,Ja,Jb,Jc]
 kernel_rfl
theorem proofEmpty_holds:Rows.ProofEmptySaid:=
 OpenClaim.holds_of_wide 3 Tryz.f3 rfl rfl rfl rfl rfl rfl rfl ⟨rfl, rfl, rfl, rfl, rfl⟩ rfl rfl rfl rfl rfl BI Tryz.func3 KI
  (of_decide_eq_true BI) (by unfold Func.isWrapper;first|(rw[if_pos Hg];kernel_rfl)|(rw[if_neg Hg];exact⟨rfl,rfl⟩))
  (fun os started H enc _=>JY os started H enc)
theorem Mn:Rows.proofEmptyRow.wfByText (OpenSpec.ofChange Rows.proofEmptySpec)=true:=by kernel_rfl
theorem Mo:Tryz.pinned.checked.prog.mainIs=some (Rows.proofEmptyCard.stood.harness.1,Rows.proofEmptyCard.stood.harness.2.toList):=by kernel_rfl
theorem Mp : Tryz.prog.funcNamed "cipherplan/cipherplanlaw32.ProofEmpty" = some 3 := by kernel_rfl
theorem Mq:false=Tryz.pinned.checked.prog.looks []:=by kernel_rfl
theorem YW{P:Program}{l:List FuncId}(h:P.funcs.toList.any Func.goes=false):(l.any fun g=>(P.funcs[g]?).any Func.goes)=false:=by
 rw[List.any_eq_false]at h ⊢;intro g _ hg;cases hx:P.funcs[g]? with
 |none=>rw[hx]at hg;exact absurd hg AB
 |some fn=>rw[hx]at hg;exact h fn (Array.mem_toList_iff.2 (Array.mem_of_getElem? hx)) hg
theorem Qb{P:Program}(h:P.funcs.toList.any Func.goes=false)(f:FuncId):P.goes f=false:=by
 unfold Program.goes;rw[YW h,←Array.any_toList,h,Bool.and_false];rfl
theorem cE{P:Program}{c:OpenClaim}(h:P.funcs.toList.any Func.goes=false):false=c.goesBy P:=by
 symm
 unfold OpenClaim.goesBy Program.goesAt Program.goesFrom;have h1:∀o:Option FuncId,o.any P.goes=false:=fun o=>by cases o with|none=>rfl|some f=>exact Qb h f
 rw[h1,Bool.false_or]
 split
 .rfl
 .rw[List.any_eq_false];intro f _ hf;rw[Qb h]at hf;cases hf
theorem Ms:false=Rows.proofEmptyRow.goesBy Tryz.pinned.checked.prog:=cE BI
theorem Mt:([22,23,23].all fun u=> !Tryz.prog.wantsStandIn u)=true:=by kernel_rfl
theorem proofEmpty_card_holds:Rows.ProofEmptyCardSaid:=
 Claim7.holds_tied_plain_at .later [] [.data] true Rows.proofEmptyCard.stood.harness false proofEmpty_holds (fun _ h => by cases h) Mn (fun _ h => by cases h) proofEmpty_row_tie rfl ⟨rfl, rfl⟩ Mo rfl
  (fun f fn hf hfn=>by
   obtain rfl:f=3:=Option.some.inj (Mp.symm.trans hf)|>.symm
   obtain rfl:fn=Tryz.f3:=(Option.some.inj (Tryz.func3.symm.trans hfn)).symm
   exact⟨Mq,fun j t ht=>by
    rw[Tryz.params3]at ht;have hm:t∈[22,23,23]:=by simpa using Array.mem_of_getElem? ht
    exact(show Tryz.prog.wantsStandIn t=false by simpa using List.all_eq_true.1 Mt t hm)⟩)
  Ms
end Go.Proofs.YthommhphcagokaaGreatDoor
