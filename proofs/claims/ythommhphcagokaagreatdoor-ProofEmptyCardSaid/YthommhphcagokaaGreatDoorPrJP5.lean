/-
  Part 5 of the texts that prove this claim, merged.
-/
import Derived.Test.YthommhphcagokaaGreatDoorPrJP4
set_option linter.all false
set_option maxRecDepth 40000
set_option maxHeartbeats 16000000
namespace Go.Proofs.YthommhphcagokaaGreatDoor
open Go Go.RowKit Cp Go.Proofs.Tryz
variable{I:B3}{E:Env}{s:FQ}{day:Int}{rows:List (List Pr)}{l:List Int}{i k m:Nat}{o:Oper}{p:Pr}{P:Program}{v:Value}
abbrev IB:Pr:=agg [slice 8 [],slice 2 [],slice 1 []]
abbrev Xl:Pr:=agg [slice 4 []]
theorem Xm:FQ.sz Dz 0:=⟨(fun x h=>by cases h),(fun x h=>by cases h),by decide,by decide,by decide⟩
theorem hO   :Am prog 160 [slice 1 [],any] (int (-1)):=by
 refine fo func160 rfl ⟨rfl,rfl⟩ fun M0 w0=>?_;refine a2 ?_;refine co rfl (A9 rfl underlying22 vq) ?_;refine ac ?_;refine Tr.block (Tr.DR ?_);refine ac ?_;refine Tr.seq ?_;refine Tr.cn rfl ?_ ?_<;>intro h1 q1
 exact absurd h1 AB;have:=h1;refine a3 ?_
 .exact Lr
theorem Xn   :Am prog 96 [slice 1 [],any] (bool false):=by
 refine fo func96 rfl ⟨rfl,rfl⟩ fun M0 w0=>?_;refine a2 ?_;refine co rfl (Bm (hO) rfl rfl rfl) ?_;refine a2 ?_
 .exact Lr
theorem hY   :Am prog 159 [slice 8 [],any] (int (-1)):=by
 refine fo func159 rfl ⟨rfl,rfl⟩ fun M0 w0=>?_;refine a2 ?_;refine co rfl (A9 rfl underlying42 vq) ?_;refine ac ?_;refine Tr.block (Tr.DR ?_);refine ac ?_;refine Tr.seq ?_;refine Tr.cn rfl ?_ ?_<;>intro h1 q1
 exact absurd h1 AB;have:=h1;refine a3 ?_
 .exact Lr
theorem Xo   :Am prog 95 [slice 8 [],any] (bool false):=by
 refine fo func95 rfl ⟨rfl,rfl⟩ fun M0 w0=>?_;refine a2 ?_;refine co rfl (Bm (hY) rfl rfl rfl) ?_;refine a2 ?_
 .exact Lr
theorem Xp   :Am prog 294 [is (.int .u64 0)] (any):=by
 refine fo func294 rfl ⟨rfl,rfl⟩ fun M0 w0=>?_;have hw:IntKind.u8.wrap 0=0:=rfl;refine ac ?_;refine an ?_ ?_<;>intro h1 q1
 exact absurd h1 AB;refine ac ?_;refine an ?_ ?_<;>intro h2 q2
 exact absurd h2 AB;refine ac ?_;refine an ?_ ?_<;>intro h3 q3
 exact absurd h3 AB;refine a2 ?_;refine co rfl (BX rfl underlying393 underlying5 vq) ?_;refine co rfl (K7 rfl underlying9 vq vq AA (List.getElem?_eq_getElem (by show _<256;omega))) ?_;refine co rfl (BX rfl underlying5 underlying3 vq) ?_;refine ac ?_;refine wk [2] rfl ?_;refine ac ?_
 .exact FB _
theorem iA   :Am prog 245 [is (.int .u64 0)] (any):=by
 refine fo func245 rfl ⟨rfl,rfl⟩ fun M0 w0=>?_;refine a3 ?_;refine co rfl (BQ (Xp) rfl rfl) ?_;refine a2 ?_
 .exact Lr
theorem Xq   :Am prog 148 [int 0,slice 2 []] (ref [int 0,slice 1 [],slice 1 []]):=by
 refine fo func148 rfl ⟨rfl,rfl⟩ fun M0 w0=>?_;refine ac ?_;refine Tr.seq (Tr.pad (Tr.rx ?_));refine ax ?_;refine xo rfl (fun _=>JI (m:=0) rfl underlying239 Sl cr ZS rfl AB AB ⟨_,rfl,int_eq rfl⟩ ⟨_,rfl,int_eq rfl⟩ AB AB) ?_;refine xm rfl ?_;refine xo rfl (fun _=>JI (m:=0) rfl underlying239 Sl cr ZS rfl AB AB ⟨_,rfl,int_eq rfl⟩ ⟨_,rfl,int_eq rfl⟩ AB AB) ?_;refine xo rfl (fun _=>Ad (rows:=[(0,[_]),(1,[_]),(2,[_])]) rfl lU lV ⟨⟨rfl,CD⟩,⟨⟨rfl,⟨_,rfl,Pr.le_trans (Ak 1 _) (AH _)⟩⟩,⟨⟨rfl,⟨_,rfl,Pr.le_trans (Ak 1 _) (AH _)⟩⟩,trivial⟩⟩⟩ rfl) (xo rfl (fun _=>Bc rfl Ce) (Cx.ef 0 rfl rfl AB (J3 rfl rfl AB rfl sD lP) (Cx.Ej 0 rfl rfl (J4 rfl rfl rfl rfl CD lO rfl rfl) ?_)));refine Cx.nil ⟨by kernel_rfl,?_⟩;refine CF.open_ 0 5 rfl rfl (fun v1=>?_);refine CF.done Z0 (Fin.YZ 5 0 _ rfl rfl (fun _=>rfl) (fun b1=>?_));refine Fin.go ?_;refine ac ?_;refine co rfl (A9 rfl underlying43 vq) ?_;refine ac ?_;refine Tr.block (Tr.DR ?_);refine ac ?_;refine wk [22,21,20,19,5,0] rfl (Tr.seq ?_);refine Tr.cn rfl ?_ ?_<;>intro h1 q1
 exact absurd h1 AB;have:=h1;refine a2 ?_;refine Tr.block (Tr.DR ?_);refine ac ?_;refine Tr.seq ?_;refine Tr.cn rfl ?_ ?_<;>intro h2 q2
 exact absurd h2 AB;have:=h2;refine a2 ?_;refine Tr.block (Tr.DR ?_);refine ac ?_;refine Tr.seq ?_;refine Tr.cn rfl ?_ ?_<;>intro h3 q3
 exact absurd h3 AB;have:=h3;refine a2 ?_;refine Tr.drop 0 (wk [4] rfl ?_);refine ac ?_
 .exact Lr
theorem ML   :Am prog 77 [int 0,slice 2 []] (D8 [ref [int 0,slice 1 [],slice 1 []],int 0]):=by
 refine fo func77 rfl ⟨rfl,rfl⟩ fun M0 w0=>?_;refine ac ?_;refine Tr.seq (Tr.seq (Tr.Bk (cm rfl (co rfl WA (cm rfl ?_)))));refine Ch.cs 14 rfl ?_ ?_<;>intro h1 q1
 exact absurd h1 AB;refine ac ?_;refine Tr.cn rfl ?_ ?_<;>intro h2 q2
 exact absurd h2 AB;refine ac ?_;refine ac ?_;refine co rfl (A9 rfl underlying43 vq) ?_;refine ac ?_;refine Tr.block (Tr.DR ?_);refine ac ?_;refine Tr.seq ?_;refine Tr.cn rfl ?_ ?_<;>intro h3 q3
 exact absurd h3 AB;have:=h3;refine ac ?_;refine ac ?_;refine co rfl (A9 rfl underlying43 vq) ?_;refine ac ?_;refine wk [54,53,1,0] rfl (Tr.block (Tr.DR ?_));refine ac ?_;refine Tr.seq ?_;refine Tr.cn rfl ?_ ?_<;>intro h4 q4
 exact absurd h4 AB;have:=h4;refine ac ?_;refine ac ?_;refine co rfl (Bm (Xq) rfl rfl rfl) ?_;refine ac ?_;refine ac ?_;refine co rfl (A9 rfl underlying239 vq) ?_;refine ac ?_;refine wk [81,80,79,9] rfl (Tr.block (Tr.DR ?_));refine ac ?_;refine Tr.seq ?_;refine Tr.cn rfl ?_ ?_<;>intro h5 q5
 exact absurd h5 AB;have:=h5;refine ac ?_;refine ac ?_;refine Tr.ret (Fin.EC rfl (Cy.GV _ _) rfl ?_ rfl ?_)
 .exact Lr
 .exact Lr
theorem Na   :Am prog 97 [int 0,slice 2 []] (int 0):=by
 refine fo func97 rfl ⟨rfl,rfl⟩ fun M0 w0=>?_;refine a2 ?_;refine co rfl (Bm (ML) rfl rfl rfl) ?_;refine a3 ?_
 .exact Lr
theorem aU   :Am prog 78 [ref [int 0,slice 1 [],slice 1 []],slice 1 []] (D8 [is (.int .u32 0),bool true]):=by
 refine fo func78 rfl ⟨rfl,rfl⟩ fun M0 w0=>?_
 iterate 4 refine ac ?_
 refine co rfl (A9 rfl underlying50 vq) ?_;refine ac ?_;refine Tr.block (Tr.DR ?_);refine ac ?_;refine Tr.seq ?_;refine Tr.cn rfl ?_ ?_<;>intro h1 q1
 exact absurd h1 AB;have:=h1;refine a2 ?_;refine Tr.ret (Fin.EC rfl (Cy.GV _ _) rfl ?_ rfl ?_)
 .exact Lr
 .exact Lr
theorem iB   :Am prog 204 [any,ref [is (.int .u32 0)]] (JD):=by
 refine fo func204 rfl ⟨rfl,rfl⟩ fun M0 w0=>(Tr.block (Tr.DR ?_));refine an ?_ ?_<;>intro h1 q1
 exact absurd h1 AB;have:=h1;refine Tr.exit (Fin.BJ (Fin.BJ (Fin.Bv (Fin.Zm rfl))))
theorem iC:Entry Tryz.prog 204:=⟨_,Tryz.func204,rfl,rfl⟩
theorem aV   :Am prog 150 [is (.int .u32 0)] (fn (.func 204) [ref [is (.int .u32 0)]]):=by
 refine fo func150 rfl ⟨rfl,rfl⟩ fun M0 w0=>?_;refine a2 ?_;refine Tr.ret (Fin.Br rfl (AZ.tmp rfl Lr) ?_)
 .exact Lr
theorem LA{n:Int}  :Am prog 52 [int n] (bool (decide (0<=n)&&decide (n<=40000))):=by
 refine fo func52 rfl ⟨rfl,rfl⟩ fun M0 w0=>?_;refine ac ?_;refine ac ?_;refine Ch.cs 5 rfl ?_ ?_<;>intro h1 q1
 refine ac ?_;refine ac ?_
 .refine bool_eq ?_;simp_all
 refine ac ?_;refine ac ?_
 .exact Iz
theorem Rr   :Am prog 51 [agg (Bn Dz),IB] (int 0):=by
 refine fo func51 rfl ⟨rfl,rfl⟩ fun M0 w0=>?_
 .repeat' first|exact absurd h AB|(refine int_eq ?_;simp_all)|exact Lr|refine co rfl (BQ (GJ (Xm.fits AA)) rfl rfl) ?_|refine co rfl (A9 rfl underlying42 vq) ?_|refine cy h rfl (AQ rfl (Xo) ⟨kq,⟨_,rfl,FB _⟩,trivial⟩) ?_|refine cy h rfl (A9 rfl underlying22 vq) ?_|refine cy h rfl (AQ rfl (Xn) ⟨kq,⟨_,rfl,FB _⟩,trivial⟩) ?_|refine cy h rfl (Bm (Na) rfl rfl rfl) ?_|refine ac ?_|(refine Tr.cn rfl ?_ ?_<;>intro h q)|(refine Ch.cg rfl rfl rfl ?_ ?_<;>intro h q)
theorem Xr   :Am prog 53 [agg (Bn Dz),IB] (D8 [slice 1 [],int 0]):=by
 refine fo func53 rfl ⟨rfl,rfl⟩ fun M0 w0=>?_
 iterate 4 refine ac ?_
 refine Tr.block (Tr.DR ?_);refine ac ?_;refine Tr.seq ?_;refine Tr.cn rfl ?_ ?_<;>intro h1 q1
 exact absurd h1 AB;have:=h1;refine a2 ?_;refine wk [5,4] rfl (Tr.ret (Fin.EC rfl (Cy.GV _ _) rfl ?_ rfl ?_))
 .exact AL 1
 .exact Lr
theorem Rs   :Am prog 32 [agg (Bn Dz),IB,int 0,int 1] (D8 [slice 1 [],int 0]):=by
 refine fo func32 rfl ⟨rfl,rfl⟩ fun M0 w0=>?_;refine ac ?_;refine ac ?_;refine co rfl (Bm (Rr) rfl rfl rfl) ?_;refine ac ?_;refine ac ?_;refine Tr.cn rfl ?_ ?_<;>intro h1 q1
 exact absurd h1 AB;refine ac ?_;refine ac ?_;refine co rfl (BQ (LA) rfl rfl) (co rfl (LX rfl vq) (cm rfl ?_));refine Ch.cs 20 rfl ?_ ?_<;>intro h2 q2
 exact absurd h2 AB;refine Hq h2 rfl (cy h2 rfl (BQ (LA) rfl rfl) ?_);refine ac ?_;refine wk [24,5,4] rfl ?_;refine Tr.cn rfl ?_ ?_<;>intro h3 q3
 exact absurd h3 AB;refine ac ?_;refine ac ?_;refine co rfl (Bm (Xr) rfl rfl rfl) ?_;refine ac ?_;refine Tr.ret (Fin.EC rfl (Cy.GV _ _) rfl ?_ rfl ?_)
 .exact Lr
 .exact Lr
theorem UP   :Am prog 54 [any,ref [slice 1 []],ref [slice 8 [],slice 2 [],slice 1 []],ref [int 0],ref [int 1],ref (Bn Dz)] (JD):=by
 refine fo func54 rfl ⟨rfl,rfl⟩ fun M0 w0=>?_;refine ac ?_;refine co rfl (A9 rfl underlying89 vq) ?_;refine ac ?_;refine Tr.block (Tr.DR ?_);refine ac ?_;refine Tr.seq ?_;refine Tr.cn rfl ?_ ?_<;>intro h1 q1
 exact absurd h1 AB;have:=h1;refine Tr.exit (Fin.BJ (Fin.BJ (Fin.Bv (Fin.Zm rfl))))
theorem UQ:Entry Tryz.prog 54:=⟨_,Tryz.func54,rfl,rfl⟩
theorem Rt   :Am prog 33 [agg (Bn Dz),IB,slice 1 [],int 0,int 1] (fn (.func 54) [ref [slice 1 []],ref [slice 8 [],slice 2 [],slice 1 []],ref [int 0],ref [int 1],ref (Bn Dz)]):=by
 refine fo func33 rfl ⟨rfl,rfl⟩ fun M0 w0=>?_;refine a3 ?_
 .exact Lr
theorem Ru   :BW prog 12 [agg (Bn Dz),IB,int 0,int 1] (D8 [Xl,int 0]) (Bj) (fun _=>Bj):=by
 refine BW.ofM func12 rfl rfl Af fun M0 w0 S rs M1 w1=>?_;refine Tr.seq (Tr.Al (tp rfl (Bc rfl Ce) (tp rfl (Bc rfl Ce) ?_)));refine Tl rfl rfl rfl rfl z38 Lw (fun b1=>?_);refine Tl rfl rfl rfl rfl kr Y_ (fun b2=>?_);refine ap ?_;refine ac ?_;refine co rfl (dO (Rs) rfl rfl rfl rfl rfl) ?_;refine ac ?_;refine wk [11,10,9,8,5,4,3,2] rfl ?_;refine an ?_ ?_<;>intro h1 q1
 exact absurd h1 AB;refine ac ?_;refine Tr.seq (Tr.Al ?_);refine Tl rfl rfl rfl rfl z38 Lw (fun b3=>?_);refine ap ?_;refine ac ?_;refine co rfl (jP (Rt) rfl rfl rfl rfl rfl rfl) ?_;refine ac ?_;refine wk [31,12,9,8] rfl (Tr.block (wk [12,9,8,31] rfl (Tr.Pw rfl Af UQ (UP) (fun Dk=>?_))));refine ac ?_;refine Tr.seq (Tr.Al (TO.rd 1 rfl rfl rfl Af (Cv rfl Lu OM vq rfl rfl) ?_));refine ap ?_;refine Tr.drop 1 (Tr.ret (Fin.Oc (Fin.MC (Fin.Sh [_,_] rfl (AZ.cell 1 rfl rfl Lu OM rfl Lr) (AZ.S2 0 rfl rfl Lx Lr) ?_))));refine CH ⟨?_,?_,trivial⟩
 .exact Au ⟨AL 4,trivial⟩
 .exact Lr
theorem Nc:Am Tryz.prog 12 [agg (Bn Dz),IB,int 0,int 1] (D8 [Xl,int 0]):=Ru.pure
structure Su where
 code:Int
 x1:Int
 x2:Int
 s1:Int
 s2:Int
 c1:Int
 c2:Int
 m1:Int
 m2:Int
 lo:Int
 hi:Int
abbrev uM:Pr:=Cp.ex fun l:List UInt8=>str l
abbrev Bg(s:Su):List Pr:=[int s.code,uM,int s.x1,int s.x2,int s.s1,int s.s2,int s.c1,int s.c2,int s.m1,int s.m2,int s.lo,int s.hi]
def Yf:List Su:=[⟨1,10,0,5,0,14,128,19,0,1,2⟩,⟨2,10,0,5,0,14,128,20,0,1,3⟩,⟨3,10,0,5,0,15,168,20,0,1,3⟩,⟨4,11,1024,6,0,15,168,20,0,1,3⟩,⟨5,11,1024,5,0,15,168,20,0,1,3⟩,⟨6,10,0,5,0,16,128,20,0,1,3⟩,⟨7,11,2048,5,0,16,128,20,0,1,3⟩,⟨8,12,256,5,0,16,128,20,0,1,3⟩,⟨9,12,256,7,0,16,256,21,0,3,3⟩,⟨10,12,256,5,0,17,128,22,0,3,3⟩,⟨11,12,384,7,0,17,256,22,0,3,3⟩,⟨12,12,256,5,0,18,0,22,0,3,3⟩,⟨13,10,0,5,0,17,256,22,0,3,3⟩,⟨14,12,256,0,0,17,128,22,0,4,4⟩,⟨15,12,256,0,0,18,0,22,0,4,4⟩,⟨16,13,768,0,0,17,256,22,0,4,4⟩]
abbrev Xs:Su:=⟨0,0,0,0,0,0,0,0,0,0,0⟩
def G7(code:Int):Bool:=decide (1<=code/\code<=16)
def Gz(code:Int):Su:=if G7 code then Yf[(code-1).toNat]?.getD Xs else Xs
theorem Xt{code:Int}(h:1<=code/\code<=16):Yf[(code-1).toNat]? =some (Gz code):=by
 obtain⟨x,hx⟩:=at_ (l:=Yf) (k:=(code-1).toNat) (by show _<16;omega);unfold Gz G7;rw[if_pos (decide_eq_true h),hx];rfl
theorem Bt{a l m x1 y1 x2 y2 x3 y3 x4 y4:Int}{s:List UInt8}  :Am prog 270 [int a,str s,agg [int x1,int y1],agg [int x2,int y2],agg [int x3,int y3],agg [int x4,int y4],int l,int m] (agg (Bg ⟨a,x1,y1,x2,y2,x3,y3,x4,y4,l,m⟩)):=by
 refine Am.of func270 rfl rfl Af fun M0 w0=>?_;refine Tr.seq (Tr.Al ?_)
 iterate 4 refine tp rfl (Bc rfl (Va rfl)) ?_
 refine Tl rfl rfl rfl rfl GD DQ (fun b1=>?_);refine TO.nil (Fin.go (Tr.seq (Tr.Al (tm rfl (tm rfl ?_)))))
 iterate 4 refine tp rfl (AJ rfl A7 Bb (vl rfl) rfl rfl) ?_
 refine tm rfl (tm rfl (tp rfl (Ad (rows:=[(0,[_]),(1,[_]),(2,_),(3,_),(4,_),(5,_),(6,[_]),(7,[_])]) rfl KV DQ ⟨⟨rfl,(Vo rfl)⟩,⟨⟨rfl,(Vo rfl)⟩,⟨⟨rfl,(Va rfl)⟩,⟨⟨rfl,(Va rfl)⟩,⟨⟨rfl,(Va rfl)⟩,⟨⟨rfl,(Va rfl)⟩,⟨⟨rfl,(Vo rfl)⟩,⟨⟨rfl,(Vo rfl)⟩,trivial⟩⟩⟩⟩⟩⟩⟩⟩ rfl) (TO.re 25 (agg (Bg ⟨a,x1,y1,x2,y2,x3,y3,x4,y4,l,m⟩)) rfl (Au ⟨Lr,BN _ (Lr),Lr,Lr,Lr,Lr,Lr,Lr,Lr,Lr,Lr,Lr,trivial⟩) (TO.Aa 0 rfl rfl rfl (vl rfl) (Va rfl) rfl B4 rfl rfl (TO.nil (Fin.go (eG 16 rfl (Tr.ret (Fin.Br rfl (AZ.cell 0 rfl rfl C7 B4 rfl (Lr)) ?_)))))))))
 .exact Lr
theorem P_   :Am prog 226 [] (slice 12 (Yf.map Bg)):=by
 refine fo func226 rfl ⟨rfl,rfl⟩ fun M0 w0=>?_;refine ac ?_;refine Tr.seq (Tr.Al (tp rfl (Bm (Ap) rfl rfl rfl) (tp rfl (Bm (Ap) rfl rfl rfl) (tp rfl (Ad (rows:=[]) rfl RL BZ trivial rfl) ?_))));refine Tl rfl rfl rfl rfl z75 BZ (fun b1=>?_);refine Tl rfl rfl rfl rfl z75 BZ (fun b2=>?_);refine Tl rfl rfl rfl rfl z75 BZ (fun b3=>?_);refine sf 2 1 ⟨rfl,rfl,rfl⟩ rfl rfl rfl rfl ?_;refine sf 1 2 ⟨rfl,rfl,rfl⟩ rfl rfl rfl rfl ?_;refine sf 0 3 ⟨rfl,rfl,rfl⟩ rfl rfl rfl rfl ?_;refine ao ?_;refine Tr.seq (Tr.Al (tp rfl (Bm (Ap) rfl rfl rfl) (tp rfl (Bm (Ap) rfl rfl rfl) ?_)));refine Tl rfl rfl rfl rfl z75 BZ (fun b4=>?_);refine Tl rfl rfl rfl rfl z75 BZ (fun b5=>?_);refine sf 1 4 ⟨rfl,rfl,rfl⟩ rfl rfl rfl rfl ?_;refine sf 0 5 ⟨rfl,rfl,rfl⟩ rfl rfl rfl rfl ?_;refine ao ?_;refine wk [5,4,3,2,1] rfl (Tr.seq (Tr.Al (tp rfl (Bm (Ap) rfl rfl rfl) (tp rfl (Bm (Ap) rfl rfl rfl) (tp rfl (Bm (Ap) rfl rfl rfl) ?_)))));refine Tl rfl rfl rfl rfl z75 BZ (fun b6=>?_);refine Tl rfl rfl rfl rfl z75 BZ (fun b7=>?_);refine Tl rfl rfl rfl rfl z75 BZ (fun b8=>?_);refine sf 2 6 ⟨rfl,rfl,rfl⟩ rfl rfl rfl rfl ?_;refine sf 1 7 ⟨rfl,rfl,rfl⟩ rfl rfl rfl rfl ?_;refine sf 0 8 ⟨rfl,rfl,rfl⟩ rfl rfl rfl rfl ?_;refine ao ?_;refine wk [8,7,6,5,4,3,2,1] rfl (Tr.seq (Tr.Al ?_))
 iterate 4 refine tp rfl (Bm (Ap) rfl rfl rfl) ?_
 refine Tl rfl rfl rfl rfl z75 BZ (fun b9=>?_);refine Tl rfl rfl rfl rfl z75 BZ (fun b10=>?_);refine Tl rfl rfl rfl rfl z75 BZ (fun b11=>?_);refine Tl rfl rfl rfl rfl z75 BZ (fun b12=>?_);refine sf 3 9 ⟨rfl,rfl,rfl⟩ rfl rfl rfl rfl ?_;refine sf 2 10 ⟨rfl,rfl,rfl⟩ rfl rfl rfl rfl ?_;refine sf 1 11 ⟨rfl,rfl,rfl⟩ rfl rfl rfl rfl ?_;refine sf 0 12 ⟨rfl,rfl,rfl⟩ rfl rfl rfl rfl ?_;refine ao ?_;refine wk [12,11,10,9,8,7,6,5,4,3,2,1] rfl (Tr.seq (Tr.Al (tp rfl (Bm (Ap) rfl rfl rfl) (tp rfl (Bm (Ap) rfl rfl rfl) ?_))));refine Tl rfl rfl rfl rfl z75 BZ (fun b13=>?_);refine Tl rfl rfl rfl rfl z75 BZ (fun b14=>?_);refine sf 1 13 ⟨rfl,rfl,rfl⟩ rfl rfl rfl rfl ?_;refine sf 0 14 ⟨rfl,rfl,rfl⟩ rfl rfl rfl rfl ?_;refine ao ?_;refine wk [14,13,12,11,10,9,8,7,6,5,4,3,2,1] rfl ?_;refine ac ?_;refine co rfl (AQ rfl (Bt) ⟨kq,kz⟩) ?_;refine ac ?_;refine co rfl (AQ rfl (Bt) ⟨kq,kz⟩) ?_;refine ac ?_;refine co rfl (AQ rfl (Bt) ⟨kq,kz⟩) (co rfl (Bm (Ap) rfl rfl rfl) (co rfl (Bm (Ap) rfl rfl rfl) ?_));refine ac ?_;refine co rfl (AQ rfl (Bt) ⟨kq,kz⟩) (co rfl (Bm (Ap) rfl rfl rfl) ?_);refine ac ?_;refine co rfl (AQ rfl (Bt) ⟨kq,kz⟩) ?_;refine ac ?_;refine co rfl (AQ rfl (Bt) ⟨kq,kz⟩) (co rfl (Bm (Ap) rfl rfl rfl) ?_);refine ac ?_;refine co rfl (AQ rfl (Bt) ⟨kq,kz⟩) ?_;refine ac ?_;refine co rfl (AQ rfl (Bt) ⟨kq,kz⟩) (co rfl (AJ rfl A7 Bb vq rfl rfl) (co rfl (Bm (Ap) rfl rfl rfl) (co rfl (Bm (Ap) rfl rfl rfl) (co rfl (AJ rfl A7 Bb vq rfl rfl) (co rfl (AQ rfl (Bt) ⟨kq,kz⟩) ?_)))));refine ac ?_;refine co rfl (AQ rfl (Bt) ⟨kq,kz⟩) (co rfl (Bm (Ap) rfl rfl rfl) (co rfl (Bm (Ap) rfl rfl rfl) ?_));refine ac ?_;refine co rfl (AQ rfl (Bt) ⟨kq,kz⟩) ?_;refine ac ?_;refine co rfl (AQ rfl (Bt) ⟨kq,kz⟩) ?_;refine ac ?_;refine co rfl (AQ rfl (Bt) ⟨kq,kz⟩) ?_;refine ac ?_;refine co rfl (AQ rfl (Bt) ⟨kq,kz⟩) ?_;refine ac ?_;refine co rfl (AQ rfl (Bt) ⟨kq,kz⟩) (co rfl (Bm (Ap) rfl rfl rfl) ?_);refine ac ?_;refine co rfl (AQ rfl (Bt) ⟨kq,kz⟩) (co rfl (AG (xs:=[.tmp 33,.tmp 38,.tmp 43,.tmp 48,.tmp 53,.tmp 58,.tmp 63,.tmp 68,.tmp 73,.tmp 78,.tmp 83,.tmp 88,.tmp 93,.tmp 98,.tmp 103,.tmp 108]) (rows:=(Yf.map Bg)) rfl rfl underlying320 B4 GD rfl AB ⟨⟨AK,VL.le vq (AE _)⟩,⟨⟨AK,VL.le vq (AE _)⟩,⟨⟨AK,VL.le vq (AE _)⟩,⟨⟨AK,VL.le vq (AE _)⟩,⟨⟨AK,VL.le vq (AE _)⟩,⟨⟨AK,VL.le vq (AE _)⟩,⟨⟨AK,VL.le vq (AE _)⟩,⟨⟨AK,VL.le vq (AE _)⟩,⟨⟨AK,VL.le vq (AE _)⟩,⟨⟨AK,VL.le vq (AE _)⟩,⟨⟨AK,VL.le vq (AE _)⟩,⟨⟨AK,VL.le vq (AE _)⟩,⟨⟨AK,VL.le vq (AE _)⟩,⟨⟨AK,VL.le vq (AE _)⟩,⟨⟨AK,VL.le vq (AE _)⟩,⟨⟨AK,VL.le vq (AE _)⟩,trivial⟩⟩⟩⟩⟩⟩⟩⟩⟩⟩⟩⟩⟩⟩⟩⟩ AB) ?_);refine ac ?_;refine wk [0] rfl ?_;refine ac ?_
 .exact Ak _ _
theorem MM{code:Int}  :Am prog 168 [int code] (D8 [agg (Bg (Gz code)),int (if G7 code then 0 else 8)]):=by
 refine fo func168 rfl ⟨rfl,rfl⟩ fun M0 w0=>(Tr.seq (Tr.Al ?_));refine Tl rfl rfl rfl rfl GD DQ (fun b1=>?_);refine ap ?_;refine ag ?_ ?_<;>intro h1 q1
 refine ac ?_;refine Tr.cond rfl (fun _=>?_) (fun h=>nomatch h);refine Tr.seq (Tr.Al (tp rfl (Ad (rows:=[]) rfl KV DQ trivial rfl) (TO.Aa 0 rfl rfl rfl vq Ce rfl B4 rfl rfl (tm rfl (TO.nil (Fin.go (Tr.ret (Fin.AP (Fin.BU rfl (AZ.cell 0 rfl rfl C7 B4 rfl Lr) (AZ.tmp rfl Lr) ?_)))))))))
 .exact VQ
 refine an ?_ ?_<;>intro h2 q2
 refine ap ?_;refine Tr.ret (Fin.AP (Fin.BU rfl (AZ.cell 0 rfl rfl C7 B4 rfl Lr) (AZ.tmp rfl Lr) ?_))
 .exact VQ
 have hin:1<=code/\code<=16:=by omega
 refine ac ?_;refine Tr.seq (Tr.Al (tp rfl (Ya (P_) rfl) ?_));refine ap ?_;refine tp rfl (AD rfl underlying320 B4 vq vq AA (B9 (f:=Bg) (Xt AA))) ?_;refine ap ?_;refine wk [3,2] rfl (Tr.ret (Fin.BU rfl (AZ.cell 0 rfl rfl C7 B4 rfl Lr) (AZ.tmp rfl Lr) ?_))
 .exact SE
section
variable{P:Program}{I:B3}{E:Env}{o:Oper}
end
def Iw(s:Su)(x:Fj):Bool:=decide (s.s1=0)||decide (x.Bl=s.s1)
def Gm(ids:List Fj)(code:Int):Int:=if G7 code then idx (Iw (Gz code)) ids else -1
def DM(sv:C8)(offer:List Int)(v code:Int):Bool:=G7 code&&(offer.any fun x=>code==x)&&(sv.BC.any fun x=>code==x)&&decide ((Gz code).lo<=v)&&decide (v<=(Gz code).hi)&&decide (0<=Gm sv.ids code)
theorem IJ{e:C8}{code:Int}(hl:e.ids.length<=1000000):Am prog 105 [agg (BL e),int code] (D8 [int (Gm e.ids code),bool (decide (0<=Gm e.ids code))]):=by
 refine fo func105 rfl ⟨rfl,rfl⟩ fun M0 w0=>?_;refine ac ?_;refine ao ?_;refine tp rfl (BQ (MM (code:=code)) rfl rfl) ?_;refine ao ?_;refine Tl rfl rfl rfl rfl GD DQ (fun b1=>?_);refine sf 0 6 ⟨rfl,rfl,rfl⟩ rfl rfl rfl rfl ?_;refine ao ?_;refine ac ?_;refine wk [15,6,2] rfl ?_;refine Tr.cn rfl ?_ ?_<;>intro h1 q1
 have hK:Gm e.ids code= -1:=by unfold Gm;exact if_neg (fun h_=>by rw[if_pos h_]at h1;exact absurd h1 AB)
 refine ac ?_;refine Tr.ret (Fin.AP (Fin.EC rfl (Cy.GV _ _) rfl ?_ rfl ?_))
 .refine int_eq ?_;exact hK.symm
 .refine bool_eq ?_;rw[hK];rfl
 have hs:G7 code=true:=by cases h_:G7 code with|true=>rfl|false=>exact absurd h1 K3
 have hK:Gm e.ids code=idx (Iw (Gz code)) e.ids:=by unfold Gm;exact if_pos hs
 refine a2 ?_;refine Tr.block (Tr.BP _ (kk [6,2] rfl) (fun k:Nat=>[(8,int ((k:Nat):Int))]) (fun k:Nat=>k<=(e.ids).length/\(∀j y,j<k->e.ids[j]? =some y->Iw (Gz code) y=false)) (fun k:Nat=>(e.ids).length-k) 0 (⟨Nat.zero_le _,fun j y hj=>absurd hj AA⟩) kz ?_);rintro k ⟨BR,AY⟩;refine an ?_ ?_<;>intro h2 q2
 have Ae:k<(e.ids).length:=AV h2;obtain⟨x,Ag⟩:=at_ Ae;refine ac ?_;refine ag ?_ ?_<;>intro h3 q3
 refine ac ?_;refine wk [39,8,6,2] rfl ?_;refine ac ?_;refine Tr.ret (Fin.Az (Fin.AP (Fin.AP (Fin.Az (Fin.AP (Fin.EC rfl (Cy.GV _ _) rfl ?_ rfl ?_))))))
 .exact SJ
 .exact Ve
 refine ac ?_;refine cy h3 rfl (AD rfl underlying71 EF vq vq AA (Aj Ag)) ?_;refine ac ?_;refine wk [39,8,6,2] rfl ?_;refine Tr.cn rfl ?_ ?_<;>intro h4 q4
 refine ac ?_;refine Tr.ret (Fin.Az (Fin.AP (Fin.AP (Fin.Az (Fin.AP (Fin.EC rfl (Cy.GV _ _) rfl ?_ rfl ?_))))))
 .exact SJ
 .exact Ve
 refine a2 ?_;exact Fin.AR (k+1) ⟨⟨Ae,Cf (p:=Iw (Gz code)) Ag Yl AY⟩,by omega⟩ ⟨⟨_,rfl,AM k⟩,kz⟩;have BB:k=(e.ids).length:=by have:=AW h2;omega
 subst BB;refine a2 ?_;refine Tr.ret (Fin.EC rfl (Cy.GV _ _) rfl ?_ rfl ?_)
 .refine int_eq ?_;rw[hK];exact G9 AY
 .refine bool_eq ?_;rw[hK,←G9 AY];rfl
theorem TE{ids:List Fj}{code:Int}(h:0<=Gm ids code):∃x,ids[(Gm ids code).toNat]? =some x:=by
 unfold Gm at h ⊢
 split at h
 .
  rename_i hs
  rw[if_pos hs];unfold idx at h ⊢;cases hf:ids.findIdx? (Iw (Gz code))with
  |none=>rw[hf]at h;simp at h
  |some i=>
   obtain⟨hi,_⟩:=List.findIdx?_eq_some_iff_getElem.1 hf;exact⟨ids[i],by simp[hi]⟩
 .omega
theorem QA{e:C8}{of:List Int}{v code:Int}(h:DM e of v code=true):0<=Gm e.ids code:=by grind [DM]
theorem Mk{e:C8}{of:List Int}{v code:Int}(hl:e.ids.length<=1000000):Am prog 104 [agg (BL e),ints of,int v,int code] (bool (DM e of v code)):=by
 refine fo func104 rfl ⟨rfl,rfl⟩ fun M0 w0=>?_;refine ac ?_;refine ao ?_;refine tp rfl (BQ (MM (code:=code)) rfl rfl) ?_;refine ao ?_;refine Tl rfl rfl rfl rfl GD DQ (fun b1=>?_);refine sf 0 9 ⟨rfl,rfl,rfl⟩ rfl rfl rfl rfl ?_;refine ao ?_;refine ac ?_;refine Ch.cs 20 rfl ?_ ?_<;>intro h1 q1
 refine ac ?_;refine wk [44,4,3] rfl ?_;refine ac ?_;refine ac ?_
 .exact Ku
 refine ac ?_;refine cy h1 rfl (Bm (GI) rfl rfl rfl) ?_;refine ac ?_;refine Ch.cs 26 rfl ?_ ?_<;>intro h2 q2
 refine ac ?_;refine wk [44,4,3] rfl ?_;refine ac ?_;refine ac ?_
 .refine bool_eq ?_;unfold DM;simp_all;intros;exfalso;exact q2 _ B5 rfl
 refine ac ?_;refine cy h2 rfl (Bm (GI) rfl rfl rfl) ?_;refine ac ?_;refine Ch.cs 33 rfl ?_ ?_<;>intro h3 q3
 refine ac ?_;refine wk [44,4,3] rfl ?_;refine ac ?_;refine ac ?_
 .refine bool_eq ?_;unfold DM;simp_all;intros;exfalso;exact q3 _ B5 rfl
 refine ac ?_;refine Ch.cs 39 rfl ?_ ?_<;>intro h4 q4
 refine ac ?_;refine wk [44,4,3] rfl ?_;refine ac ?_;refine ac ?_
 .refine bool_eq ?_;unfold DM;simp_all;intros;omega
 refine ac ?_;refine wk [44,4,3] rfl ?_;refine Tr.cn rfl ?_ ?_<;>intro h5 q5
 refine ac ?_;refine ac ?_
 .refine bool_eq ?_;unfold DM;simp_all;intros;omega
 refine ac ?_;refine ac ?_;refine co rfl (Bm (IJ (e:=e) (code:=code) hl) rfl rfl rfl) ?_;refine ac ?_;refine ac ?_;refine ac ?_
 .exact Ku
theorem iD{e:C8}(h:Ct e=true):1<=e.least/\e.least<=4/\e.most<=4:=by grind [Ct]
abbrev KK(l:List Int):Pr:=slice 1 (l.map fun n=>[is (.int .u8 n)])
abbrev BE(t:Int)(b:List Int)(n:Bool)(q:Pr):List Pr:=[int t,KK b,bool n,q]
structure Lv where
 t:Int
 b:List Int
 ht:t=1\/t=2\/t=12
 hb:b.length<=64
abbrev Er(x:Lv):List Pr:=BE x.t x.b false (slice 4 [])
inductive Ev where
 |lf (x:Lv)
 |nd (l:List Lv) (h:l.length<=20)
def Ev.t:Ev->Int
 | .lf x=>x.t
 | .nd _ _=>48
def Ev.b:Ev->List Int
 | .lf x=>x.b
 | .nd _ _=>[]
def Ev.n:Ev->Bool
 | .lf _=>false
 | .nd _ _=>true
def Ev.q:Ev->Pr
 | .lf _=>slice 4 []
 | .nd l _=>slice 4 (l.map Er)
abbrev CO(e:Ev):List Pr:=BE e.t e.b e.n e.q
def FR(n:Int):List Int:=if n<128 then[n]else if n<256 then[129,n]else[130,n/256,n % 256]
def KB(t:Int)(c:List Int):List Int:=t::(FR (c.length:Nat)++c)
def FN(x:Lv):List Int:=KB x.t x.b
def HJ:Ev->List Int
 | .lf x=>FN x
 | .nd l _=>KB 48 (l.flatMap FN)
theorem JP(n:Int):1<=(FR n).length/\(FR n).length<=3:=by unfold FR;split;simp;split<;>simp
theorem QB(t:Int)(c:List Int):(KB t c).length<=c.length+4:=by
 have:=(JP (c.length:Nat)).2;unfold KB;simp;omega
theorem Gj{α:Type}{g:α->List Int}{B:Nat}:∀(l:List α),(∀x∈l,(g x).length<=B)->(l.flatMap g).length<=l.length*B
 |[],_=>by simp
 |a::l,h=>by
  have h1:=h a (List.mem_cons_self ..);have h2:=Gj l fun x hx=>h x (List.mem_cons_of_mem _ hx);rw[List.flatMap_cons,List.length_append,List.length_cons,Nat.succ_mul];omega
theorem GK(x:Lv):(FN x).length<=68:=by have:=QB x.t x.b;have:=x.hb;unfold FN;omega
theorem KC(x:Ev):(HJ x).length<=1364:=by
 cases x with
 |lf x=>have:=GK x;show(FN x).length<=_;omega
 |nd l h=>
  have h1:=Gj (g:=FN) l fun x _=>GK x;have h2:=QB 48 (l.flatMap FN);have h3:l.length*68<=20*68:=Nat.mul_le_mul_right 68 h;show(KB 48 (l.flatMap FN)).length<=_;omega
theorem Kc{n:Int}(h0:0<=n)(h1:n<256):IntKind.u8.wrap n=n:=IntWalk.u8_in n ⟨h0,by omega⟩
theorem KD{α:Type}{g:α->List Int}{l:List α}{x:α}(h:l[k]? =some x):(l.take (k+1)).flatMap g=(l.take k).flatMap g++g x:=by rw[List.take_add_one,h,List.flatMap_append];simp
theorem JQ{α:Type}{g:α->List Int}{B:Nat}{l:List α}(k:Nat)(h:∀x∈l,(g x).length<=B):((l.take k).flatMap g).length<=l.length*B:=by
 have h1:=Gj (l.take k) fun x hx=>h x (List.mem_of_mem_take hx);have h2:(l.take k).length*B<=l.length*B:=Nat.mul_le_mul_right B Jp;omega
def iE(op:BinOp)(k:IntKind)(m n:Int):Int:=match op with
 | .and=>k.wrap (BitVec.ofInt k.bits m&&&BitVec.ofInt k.bits n).toNat
 |_=>k.wrap (BitVec.ofInt k.bits m ^^^ BitVec.ofInt k.bits n).toNat
section
variable{P:Program}{I:B3}{E:Env}{o:Oper}
theorem LB{op:BinOp}{t u:TypeId}{x y:Operand}{k:IntKind}{m n:Int}(hop:(op== .xor||op== .and)=true)(ho:o.op= .binOp op t x y u)(hx:VL E x (is (.int k m)))(hy:VL E y (is (.int k n))):Ac P I o E (is (.int k (iE op k m n))):=
 Ac.same fun M w a he _=>by
  have h1:a.eval x= .int k m:=hx.ev he Ax;have h2:a.eval y= .int k n:=hy.ev he Ax;cases op<;>simp at hop<;>exact⟨_,by simp[execOp,ho,h1,h2,eqGuard,binOp,Op.intBits];rfl,rfl⟩
theorem Ol{t u:TypeId}{x y:Operand}{k k':IntKind}{m c:Int}{r:Int}(ho:o.op= .binOp .shr t x y u)(hx:VL E x (is (.int k m)))(hy:VL E y (is (.int k' c)))(hc:0<=c)(hr:m.fdiv (2 ^ (min c.toNat k.bits))=r):Ac P I o E (is (.int k r)):=
 Ac.same fun M w a he _=>by
  have h1:a.eval x= .int k m:=hx.ev he Ax;have h2:a.eval y= .int k' c:=hy.ev he Ax;have hn:¬c<0:=by omega
  subst hr;exact⟨_,by simp[execOp,ho,h1,h2,eqGuard,binOp,Op.shift,hn],rfl⟩
end
structure dZ{α:Type}(t:Int)(b:List Int)(n:Bool)(l:List α):Prop where
 h:(n=false/\(t=1\/t=2\/t=12)/\l=[])\/(n=true/\t=48/\b=[])
theorem dZ.tag{α:Type}{t:Int}{b:List Int}{n:Bool}{l:List α}(h:dZ t b n l):t=1\/t=2\/t=12\/t=48:=by have:=h.h;omega
theorem dZ.bit{α:Type}{t:Int}{b:List Int}{n:Bool}{l:List α}(h:dZ t b n l):(iE .and .i64 t 32 !=0)=n:=by
 rcases h.h with⟨rfl,h1,_⟩|⟨rfl,rfl,_⟩
 .rcases h1 with rfl|rfl|rfl<;>decide
 .decide
theorem iF{n:Int}(h:n=1\/n=2\/n=12\/n=48):Am prog 424 [int n] (bool true):=by
 refine fo func424 rfl ⟨rfl,rfl⟩ fun M0 w0=>?_;refine ac ?_;refine ag ?_ ?_<;>intro h1 q1
 refine ag ?_ ?_<;>intro h2 q2
 refine Hq h2 rfl (cy h2 rfl (LB AB rfl vq vq) ?_);refine a2 ?_
 .refine bool_eq ?_;rcases h with rfl|rfl|rfl|rfl<;>decide
 refine a2 ?_
 .exact Ky
 refine a2 ?_
 .exact Ky
theorem ox{α:Type}{T:α->Int}{B:α->List Int}{N:α->Bool}{Q:α->Pr}{l:List α}   :Am prog 433 [slice 4 (l.map (fun x:α=>BE (T x) (B x) (N x) (Q x))),Mc prog (fun x:α=>[agg (BE (T x) (B x) (N x) (Q x))]) (fun _=>bool false)] (int (-1)):=by
 refine fo func433 rfl ⟨rfl,rfl⟩ fun M0 w0=>(Tr.D6 0 rfl fun DZ=>?_);refine a2 ?_;refine Tr.block (Tr.BP _ (kk [7,1,0] rfl) (fun k:Nat=>[(8,int ((k:Nat):Int))]) (fun k:Nat=>k<=(l).length) (fun k:Nat=>(l).length-k) 0 (Nat.zero_le _) kz ?_);rintro k BR;refine ac ?_;refine Tr.seq ?_;refine Tr.cn rfl ?_ ?_<;>intro h1 q1
 have Ae:k<(l).length:=AV h1;obtain⟨x,Ag⟩:=at_ Ae;refine a3 ?_;refine co rfl (AD rfl underlying246 Aq vq vq AA DL) ?_;refine co rfl (AJ rfl BA Aq vq rfl rfl) (co rfl (Dg x rfl vq kz) ?_);refine an ?_ ?_<;>intro h2 q2
 cases h2;refine a2 ?_;exact Fin.AR (k+1) ⟨Ae,by omega⟩ ⟨⟨_,rfl,AM k⟩,kz⟩;have BB:k=(l).length:=by have:=AW h1;omega
 refine a3 ?_
 .exact Lr
theorem TG{α:Type}{T:α->Int}{B:α->List Int}{N:α->Bool}{Q:α->Pr}{l:List α}   :Am prog 425 [slice 4 (l.map (fun x:α=>BE (T x) (B x) (N x) (Q x))),Mc prog (fun x:α=>[agg (BE (T x) (B x) (N x) (Q x))]) (fun _=>bool false)] (bool false):=by
 refine fo func425 rfl ⟨rfl,rfl⟩ fun M0 w0=>?_;refine a2 ?_;refine co rfl (Bm (ox) rfl rfl rfl) ?_;refine a2 ?_
 .exact Lr
theorem Gn{α:Type}{T:α->Int}{B:α->List Int}{N:α->Bool}{Q:α->Pr}{x:α}  (h:Am prog 405 [agg (BE (T x) (B x) (N x) (Q x))] (bool true)):Am prog 426 [agg (BE (T x) (B x) (N x) (Q x))] (bool false):=by
 refine fo func426 rfl ⟨rfl,rfl⟩ fun M0 w0=>?_;refine a2 ?_;refine co rfl (BQ (h) rfl rfl) ?_;refine a2 ?_
 .exact Lr
theorem Gp:Entry Tryz.prog 426:=⟨_,Tryz.func426,rfl,rfl⟩
theorem KE{α:Type}{T:α->Int}{B:α->List Int}{N:α->Bool}{Q:α->Pr}{l:List α}{t:Int}{b:List Int}{n:Bool}  (ok:dZ t b n l)(h:∀x:α,Am prog 405 [agg (BE (T x) (B x) (N x) (Q x))] (bool true)):Am prog 405 [agg (BE t b n (slice 4 (l.map (fun x:α=>BE (T x) (B x) (N x) (Q x)))))] (bool true):=by
 refine fo func405 rfl ⟨rfl,rfl⟩ fun M0 w0=>(Tr.PL 0 1 rfl rfl fun aW=>(Tr.PL 0 3 rfl rfl fun JR=>?_));have V1:=ok.bit;refine ac ?_;refine ac ?_;refine co rfl (BQ (iF ok.tag) rfl rfl) (co rfl (LX rfl vq) (cm rfl ?_));refine Ch.cs 7 rfl ?_ ?_<;>intro h1 q1
 cases h1;refine cy h1 rfl (U6 rfl OS rfl rfl) (cy h1 rfl (FH rfl eO rfl) (cy h1 rfl (U6 rfl OR rfl rfl) (cy h1 rfl (FH rfl DP rfl) (cy h1 rfl (LB AB rfl (vl rfl) (vl rfl)) (cy h1 rfl (ki rfl rfl rfl rfl) (cy h1 rfl (RF rfl underlying4 (vl rfl) (vl rfl)) ?_))))));refine ac ?_;refine Ch.cs 16 rfl ?_ ?_<;>intro h2 q2
 exfalso;rcases ok.h with⟨rfl,O_,rfl⟩|⟨rfl,O_,rfl⟩<;>simp_all
 refine ac ?_;refine Ch.cs 19 rfl ?_ ?_<;>intro h3 q3
 refine ac ?_;refine Ch.cs 26 rfl ?_ ?_<;>intro h4 q4
 exfalso;rcases ok.h with⟨rfl,O_,rfl⟩|⟨rfl,O_,rfl⟩<;>simp_all
 refine ac ?_;refine Ch.cs 30 rfl ?_ ?_<;>intro h5 q5
 refine ac ?_;refine wk [36,1] rfl ?_;refine Tr.cn rfl ?_ ?_<;>intro h6 q6
 exfalso;rcases ok.h with⟨rfl,O_,rfl⟩|⟨rfl,O_,rfl⟩<;>simp_all
 refine ac ?_;refine ac ?_;refine co rfl (AQ rfl (TG (l:=l)) ⟨kq,⟨_,rfl,Ck Gp fun x=>Gn (h x)⟩,trivial⟩) ?_;refine ac ?_;refine ac ?_
 .exact Lr
 refine ac ?_;refine wk [36,1] rfl ?_;refine ac ?_;refine ac ?_;refine co rfl (AQ rfl (TG (l:=l)) ⟨kq,⟨_,rfl,Ck Gp fun x=>Gn (h x)⟩,trivial⟩) ?_;refine ac ?_;refine ac ?_
 .exact Lr
 refine ac ?_;refine Ch.cs 30 rfl ?_ ?_<;>intro h7 q7
 refine ac ?_;refine wk [36,1] rfl ?_;refine Tr.cn rfl ?_ ?_<;>intro h8 q8
 exfalso;rcases ok.h with⟨rfl,O_,rfl⟩|⟨rfl,O_,rfl⟩<;>simp_all
 refine ac ?_;refine ac ?_;refine co rfl (AQ rfl (TG (l:=l)) ⟨kq,⟨_,rfl,Ck Gp fun x=>Gn (h x)⟩,trivial⟩) ?_;refine ac ?_;refine ac ?_
 .exact Lr
 refine ac ?_;refine wk [36,1] rfl ?_;refine ac ?_;refine ac ?_;refine co rfl (AQ rfl (TG (l:=l)) ⟨kq,⟨_,rfl,Ck Gp fun x=>Gn (h x)⟩,trivial⟩) ?_;refine ac ?_;refine ac ?_
 .exact Lr
theorem MN{α:Type}{T:α->Int}{B:α->List Int}{N:α->Bool}{Q:α->Pr}{l:List α}{t:Int}{b:List Int}{n:Bool}(h:∀x:α,Am prog 406 [agg (BE (T x) (B x) (N x) (Q x))] (Cp.ex fun d:Int=>fact (0<=d/\d<=(m:Nat)) (int d)))(hm:m<=1000):Am prog 406 [agg (BE t b n (slice 4 (l.map (fun x:α=>BE (T x) (B x) (N x) (Q x)))))] (Cp.ex fun d:Int=>fact (0<=d/\d<=(m+1:Nat)) (int d)):=by
 refine fo func406 rfl ⟨rfl,rfl⟩ fun M0 w0=>(Tr.PL 0 3 rfl rfl fun JR=>?_);refine a3 ?_;refine Tr.block (Tr.BP _ (kk [8,7] rfl) (fun k:Nat=>[(9,int ((k:Nat):Int)),(3,Cp.ex fun d:Int=>fact (0<=d/\d<=(m:Nat)) (int d))]) (fun k:Nat=>k<=(l).length) (fun k:Nat=>(l).length-k) 0 (Nat.zero_le _) ⟨kq,⟨_,rfl,BN 0 (BS AA Lr)⟩,trivial⟩ ?_);rintro k BR;refine Tr.ex 3 rfl fun d3=>Tr.fact 3 rfl fun hd3=>?_;refine ac ?_;refine Tr.seq ?_;refine Tr.cn rfl ?_ ?_<;>intro h1 q1
 have Ae:k<(l).length:=AV h1;obtain⟨x,Ag⟩:=at_ Ae;refine ac ?_;refine Tr.seq (Tr.block (Tr.seq (Tr.Al (tp rfl (AD rfl underlying246 Aq vq vq AA (Aj Ag)) (tp rfl (AJ rfl BA Aq vq rfl rfl) ?_)))));refine Tl rfl rfl rfl rfl C1 Ca (fun b1=>?_);refine sf 0 5 ⟨rfl,rfl,rfl⟩ rfl rfl rfl rfl ?_;refine ao ?_;refine ao ?_;refine tp rfl (BQ (h x) rfl rfl) ?_;refine TO.ex 15 rfl (fun z15=>TO.fact 15 rfl fun u6=>?_);refine tp rfl (OC rfl vq vq) ?_;refine ao ?_;refine wk [9,8,7,3] rfl ?_;refine ac ?_;exact Fin.AR (k+1) ⟨Ae,by omega⟩ ⟨⟨_,rfl,AM k⟩,⟨_,rfl,BN _ (BS AA Lr)⟩,kz⟩;have BB:k=(l).length:=by have:=AW h1;omega
 refine ac ?_;refine ao ?_;refine ac ?_
 .exact N6
abbrev IC(l:List Int):List (List Pr):=l.map fun n=>[is (.int .u8 n)]
theorem HV(l:List Int)(n:Int):IC (l++[n])=IC l++[[is (.int .u8 n)]]:=List.map_append
theorem ER{α:Type}{l:List α}{x:α}(h:l[k]? =some x):l.take (k+1)=l.take k++[x]:=by rw[List.take_add_one,h];rfl
theorem JS{t u:TypeId}{x y:Operand}{m:Int}(ho:o.op= .binOp .shr t x y u)(hx:VL E x (int m))(hy:VL E y (is (.int .u64 8)))(h0:0<=m):Ac P I o E (int (m/256)):=
 Ol ho hx hy AB (by rw[show(2:Int) ^ (min (8:Int).toNat IntKind.i64.bits)=256 from rfl];exact Int.fdiv_eq_ediv_of_nonneg m AA)
theorem aX{n:Int}{c:Nat}(h0:128<=n)(h1:n<65536)(hc:(c=1/\n<256)\/(c=2/\256<=n))(hk:k<c):(FR n)[k+1]? =some (IntKind.u8.wrap (n.fdiv (2 ^ (min (8*((c:Nat)-1-(k:Nat):Int)).toNat IntKind.i64.bits)))):=by
 have h8:(2:Int) ^ (min (8*(1:Int)).toNat IntKind.i64.bits)=256:=rfl;have h9:(2:Int) ^ (min (8*(0:Int)).toNat IntKind.i64.bits)=1:=rfl;unfold FR;rw[if_neg AA];rcases hc with⟨rfl,hn⟩|⟨rfl,hn⟩
 .
  obtain rfl:k=0:=by omega
  rw[if_pos hn,show((1:Nat):Int)-1-((0:Nat):Int)=0 by omega,h9,Int.fdiv_one,Kc AA hn];rfl
 .
  rw[if_neg AA];rcases(by omega:k=0\/k=1)with rfl|rfl
  .rw[show((2:Nat):Int)-1-((0:Nat):Int)=1 by omega,h8,Int.fdiv_eq_ediv_of_nonneg n AA,Kc AA AA];rfl
  .rw[show((2:Nat):Int)-1-((1:Nat):Int)=0 by omega,h9,Int.fdiv_one,IntKind.wrap_u8];rfl
theorem UR{n:Int}{c:Nat}(h0:128<=n)(hc:(c=1/\n<256)\/(c=2/\256<=n)):(FR n).take 1=[IntKind.u8.wrap (128+(c:Int))]/\(FR n).length=c+1:=by
 unfold FR;rw[if_neg AA];rcases hc with⟨rfl,hn⟩|⟨rfl,hn⟩
 .rw[if_pos hn];exact⟨rfl,rfl⟩
 .rw[if_neg AA];exact⟨rfl,rfl⟩
theorem iG{n:Int}(hl:l.length<=1000000)(h0:0<=n)(h1:n<65536):BW prog 428 [An v p,int n] (lens (IC (l++FR n)).length) (BM 5 1 (IC (l)) v) (fun v=>BM 5 1 (IC (l++FR n)) v):=by
 refine BW.of func428 rfl rfl Af fun M0 w0 S rs M1 w1=>?_;refine ac ?_;refine ac ?_;refine Tr.cn rfl ?_ ?_<;>intro h1 q1
 refine ap ?_;refine tp rfl (BX rfl underlying3 underlying5 vq) (tp rfl (AG (xs:=[.tmp 12]) (rows:=[[_]]) rfl rfl underlying180 D7 z5 rfl AB ⟨⟨AK,CD⟩,trivial⟩ AB) ?_);refine TO.EV 0 rfl rfl AB (GG rfl rfl AB rfl underlying180 D7 Is z5 rfl AB AB vq Cs (CK fun _=>rfl) N7 LO Jm) (fun v1=>?_);refine ap ?_;refine Tr.ret (Fin.AP ?_);refine Fin.Ll rfl rfl ?_ (by rintro _ _ _ ⟨rfl,_⟩;rw[show FR n=[IntKind.u8.wrap n]by unfold FR;rw[if_pos AA,Kc h0 AA],HV])
 .exact Pr.le_trans (As _ _) (Pr.le_of_eq (by congr 1;rw[show FR n=[IntKind.u8.wrap n]by unfold FR;rw[if_pos AA,Kc h0 AA]];simp))
 refine ac ?_;refine ac ?_;refine ac ?_;refine Tr.block (Tr.Lq _ (kk [1,0] rfl) (fun(m:Int) (c:Int)=>[(6,int m),(5,int c)]) (fun(m:Int) (c:Int)=>Hp M0 w0 S (BM 5 1 ((IC l)) v::Ah M1 w1::rs)) (fun(m:Int) (c:Int)=>(m=n/\c=0)\/(m=n/256/\c=1)\/(m=n/256/256/\c=2/\256<=n)) (fun(m:Int) (c:Int)=>m.toNat) (n) (0)  (.inl ⟨rfl,rfl⟩) ⟨kq,kz⟩ (fun _ _ h=>h) ?_);rintro m c  U5;refine ac ?_;refine Tr.cn rfl ?_ ?_<;>intro h2 q2
 have hm0:=EK.FP h2;refine ac ?_;refine ac ?_;refine ac ?_;refine co rfl (JS rfl vq vq AA) ?_;refine ac ?_;exact Fin.Hr (m/256) (c+1)  (⟨by omega,by omega⟩) ⟨kq,kz⟩ (fun _ _ h=>h);have hm0:=EK.FP h2;have hcc:(c=1/\n<256)\/(c=2/\256<=n):=by omega
 obtain⟨c,rfl⟩:∃d:Nat,c=(d:Int):=⟨c.toNat,by omega⟩;have hcd:(c=1/\n<256)\/(c=2/\256<=n):=by omega
 obtain⟨hld,hll⟩:=UR AA hcd;refine ac ?_;refine ap ?_;refine tp rfl (BX rfl underlying3 underlying5 vq) (tp rfl (AG (xs:=[.tmp 25]) (rows:=[[_]]) rfl rfl underlying180 D7 z5 rfl AB ⟨⟨AK,CD⟩,trivial⟩ AB) ?_);refine TO.EV 0 rfl rfl AB (GG rfl rfl AB rfl underlying180 D7 Is z5 rfl AB AB vq Cs (CK fun _=>rfl) N7 LO Jm) (fun v2=>?_);refine ap ?_;refine ac ?_;refine wk [7,1,0] rfl (Tr.block ?_);refine Tr.Lp _ (kk [1] rfl) (fun(k:Nat) u=>[(7,int (((c:Nat):Int)-1-((k:Nat):Int))),(0,An u (lens (IC (l++(FR n).take (k+1))).length))]) (fun(k:Nat) u=>Hp M0 w0 S (BM 5 1 (IC (l++(FR n).take (k+1))) u::Ah M1 w1::rs)) (fun(k:Nat)=>k<=c) (fun(k:Nat)=>c-k) (0) v2 (Nat.zero_le _) ⟨⟨_,rfl,int_eq AA⟩,⟨_,rfl,K8 (by rw[hld];simp)⟩,trivial⟩ ((by rw[hld,HV];exact fun _ _ h=>h)) ?_;rintro k u hkc;refine ac ?_;refine Tr.cn rfl ?_ ?_<;>intro h3 q3
 have hk0:k<c:=by have:=EK.FP h3;omega
 have hat:=aX (n:=n) AA AA hcd hk0;refine ac ?_;refine Tr.seq (Tr.block (Tr.Al (tm rfl (tm rfl (tm rfl ?_)))));refine tp rfl (dx rfl (vl rfl) (vl rfl) ?hin) ?_;case hin=>unfold Mb;omega
 refine tp rfl (Ol rfl (vl rfl) (vl rfl) AA rfl) (tp rfl (BX rfl underlying3 underlying5 (vl rfl)) (tp rfl (AG (xs:=[.tmp 39]) (rows:=[[_]]) rfl rfl underlying180 D7 z5 rfl AB ⟨⟨AK,(Vo rfl)⟩,trivial⟩ AB) ?_));refine TO.EV 0 rfl rfl AB (GG rfl rfl AB rfl underlying180 D7 Is z5 rfl AB AB vq Cs (CK fun _=>rfl) N7 LO Jm) (fun v3=>?_);refine ap ?_;refine wk [7,1,0] rfl ?_;refine ac ?_;exact Fin.OJ (k+1) v3 (⟨by omega,by omega⟩) ⟨⟨_,rfl,int_eq AA⟩,⟨_,rfl,K8 (by rw[ER hat];simp;omega)⟩,kz⟩ ((by rw[ER hat,←List.append_assoc,HV];exact fun _ _ h=>h));have hk0:k=c:=by have:=EK.FP h3;omega
 refine ac ?_;refine ac ?_;refine Tr.ret ?_;refine Fin.Ll rfl rfl ?_ (by rintro _ _ _ ⟨rfl,_⟩;rw[hk0,←hll,List.take_length])
 .exact Pr.le_trans (As _ _) (Pr.le_of_eq (by congr 1;rw[hk0,←hll,List.take_length]))
theorem Om{α:Type}{T:α->Int}{B:α->List Int}{N:α->Bool}{Q:α->Pr}{l:List α}{t:Int}{b:List Int}{n:Bool}{g:α->List Int}{M:Nat}  (hE:∀(x:α) (v:Value) (p:Pr) (bs:List Int),bs.length<=20000->BW prog 407 [An v p,agg (BE (T x) (B x) (N x) (Q x))] (lens (IC (bs++g x)).length) (BM 5 1 (IC (bs)) v) (fun v=>BM 5 1 (IC (bs++g x)) v))(hg:∀x∈l,(g x).length<=M)(hM:l.length*M<=20000):Am prog 427 [agg (BE t b n (slice 4 (l.map (fun x:α=>BE (T x) (B x) (N x) (Q x)))))] (KK (if n then l.flatMap g else b)):=by
 refine fo func427 rfl ⟨rfl,rfl⟩ fun M0 w0=>(Tr.PL 0 3 rfl rfl fun JR=>?_);refine ac ?_;refine an ?_ ?_<;>intro h1 q1
 refine a2 ?_
 .rw[if_neg Cc];exact Lr
 refine a3 ?_;refine Tr.block (Tr.OY 5 1 (Tr.Fv _ (kk [13,12] rfl) (fun k u=>[(14,int ((k:Nat):Int)),(3,An u (lens (IC ((l.take k).flatMap g)).length))]) (fun k u=>Hp M0 w0 Hj ([BM 5 1 (IC ((l.take k).flatMap g)) u])) (fun k:Nat=>k<=(l).length) (fun k:Nat=>(l).length-k) 0 (.slice none 0 0) (Nat.zero_le _) ⟨kq,⟨_,rfl,L4 rfl⟩,trivial⟩ (fun _ _ h=>h) ?_));rintro k u BR;refine ac ?_;refine Tr.seq ?_;refine Tr.cn rfl ?_ ?_<;>intro h2 q2
 have Ae:k<(l).length:=AV h2;obtain⟨x,Ag⟩:=at_ Ae;refine ac ?_;refine Tr.seq (Tr.block (Tr.seq (Tr.Al (tp rfl (AD rfl underlying246 Aq vq vq AA (Aj Ag)) (tp rfl (AJ rfl BA Aq vq rfl rfl) ?_)))));refine Tl rfl rfl rfl rfl C1 Ca (fun b1=>?_);refine sf 0 5 ⟨rfl,rfl,rfl⟩ rfl rfl rfl rfl ?_;refine ao ?_;refine ao ?_;refine TO.EV 0 rfl rfl AB (Ga rfl rfl AB rfl (hE x _ _ _ (by have:=JQ k hg;omega)) ⟨kq,kz⟩) (fun v1=>?_);refine ao ?_;refine wk [14,13,12,3] rfl ?_;refine ac ?_;exact Fin.IE (k+1) v1 (⟨Ae,by omega⟩) ⟨⟨_,rfl,AM k⟩,⟨_,rfl,K8 (by rw[KD Ag])⟩,kz⟩ (by rw[KD Ag];exact fun _ _ h=>h);have BB:k=(l).length:=by have:=AW h2;omega
 subst BB;rw[List.take_length];refine ac ?_;refine Tr.seq (Tr.Zv 0 3 rfl rfl (CK fun _=>rfl) ?_);refine a2 ?_
 .rw[if_pos Cc];exact As _ _
theorem aY{n:Int}(hr:rows=IC l)(hl:l.length<=1000000)(h0:0<=n)(h1:n<65536):BW Tryz.prog 428 [An v p,int n] (lens (IC (l++FR n)).length) (BM 5 1 rows v) (fun v=>BM 5 1 (IC (l++FR n)) v):=by
 subst hr;exact iG hl h0 h1
theorem On{bs c b:List Int}{t:Int}{n:Bool}{q:Pr}(hc:Am prog 427 [agg (BE t b n q)] (KK c))(hl:bs.length<=20000)(jG:c.length<=20000)(ht:0<=t/\t<256):BW prog 407 [An v p,agg (BE t b n q)] (lens (IC (bs++KB t c)).length) (BM 5 1 (IC (bs)) v) (fun v=>BM 5 1 (IC (bs++KB t c)) v):=by
 refine BW.of func407 rfl rfl Af fun M0 w0 S rs M1 w1=>?_;have hlb:=(JP (c.length:Nat)).2;refine a2 ?_;refine co rfl (BQ (hc) rfl rfl) ?_;refine ac ?_;refine ap ?_;refine tp rfl (BX rfl underlying3 underlying5 vq) (tp rfl (AG (xs:=[.tmp 11]) (rows:=[[_]]) rfl rfl underlying180 D7 z5 rfl AB ⟨⟨AK,CD⟩,trivial⟩ AB) ?_);refine TO.EV 0 rfl rfl AB (L6 rfl rfl AB rfl underlying180 D7 Is z5 rfl AB AB vq Cs (CK fun _=>rfl) LO Jm) (fun v1=>?_);refine ap ?_;refine TO.EV 0 rfl rfl AB (Ga rfl rfl AB rfl (aY (l:=bs++[t]) (n:=(c.length:Nat)) (by rw[HV,Kc ht.1 ht.2]) CU AA AA) ⟨kq,kz⟩) (fun v2=>?_);refine tm rfl ?_;refine TO.EV 0 rfl rfl AB (L6 rfl rfl AB rfl underlying180 D7 Is z5 rfl AB AB vq vq (CK fun _=>rfl) LO Jm) (fun v3=>?_);refine ap ?_;refine wk [4] rfl (Tr.ret ?_);refine Fin.Ll rfl rfl ?_ (by rintro _ _ _ ⟨rfl,_⟩;simp[KB,IC,Kc ht.1 ht.2])
 .exact Pr.le_trans (As _ _) (Pr.le_of_eq (by congr 1;simp[KB];omega))
theorem US{e b:List Int}{t:Int}{n:Bool}{q:Pr}  (hf:Am prog 405 [agg (BE t b n q)] (bool true))(hd:Am prog 406 [agg (BE t b n q)] (Cp.ex fun d:Int=>fact (0<=d/\d<=(16:Nat)) (int d)))(he:∀(v:Value) (p:Pr),BW prog 407 [An v p,agg (BE t b n q)] (lens (IC ([]++e)).length) (BM 5 1 (IC ([])) v) (fun v=>BM 5 1 (IC ([]++e)) v)):Am prog 397 [agg (BE t b n q)] (D8 [KK (if 4096<e.length then[]else e),int (if 4096<e.length then 3 else 0)]):=by
 refine fo func397 rfl ⟨rfl,rfl⟩ fun M0 w0=>?_;refine a2 ?_;refine co rfl (BQ (hf) rfl rfl) ?_;refine an ?_ ?_<;>intro h1 q1
 cases h1;refine ac ?_;refine ap ?_;refine tp rfl (BQ (hd) rfl rfl) ?_;refine TO.ex 9 rfl (fun z9=>TO.fact 9 rfl fun hz9=>?_);refine ap ?_;refine Tr.cn rfl ?_ ?_<;>intro h2 q2
 exfalso;have:=q2;omega;refine ac ?_;refine Tr.seq (Tr.OY 5 1 ?_);refine ap ?_;refine TO.EV 0 rfl rfl AB (Ga rfl rfl AB rfl (he _ _) ⟨⟨_,rfl,L4 (by rfl)⟩,kz⟩) (fun v1=>?_);refine ap ?_;refine ac ?_;refine co rfl (L5 rfl underlying180 It) ?_;refine ac ?_;refine wk [15,4] rfl ?_;refine Tr.cn rfl ?_ ?_<;>intro h3 q3
 have h4:4096<e.length:=by have:=q3;simp at this;omega
 refine ac ?_;refine Tr.ret (Fin.AP (Fin.EC rfl (Cy.GV _ _) rfl ?_ rfl ?_))
 .rw[if_pos h4];exact AL 1
 .exact int_eq (by rw[if_pos h4])
 have h4:¬4096<e.length:=by have:=q3;simp at this;omega
 refine ac ?_;refine Tr.seq (Tr.Zv 0 4 rfl rfl (CK fun _=>rfl) ?_);refine ac ?_;refine Tr.ret (Fin.EC rfl (Cy.GV _ _) rfl ?_ rfl ?_)
 .rw[if_neg h4];exact As _ _
 .exact int_eq (by rw[if_neg h4])
theorem Xu(hl:l.length<=1000000):Am prog 434 [KK l] (KK l):=by
 refine fo func434 rfl ⟨rfl,rfl⟩ fun M0 w0=>?_;refine a2 ?_;refine co rfl (EE rfl underlying180 vq) ?_;refine ac ?_;refine Tr.ex 4 rfl (fun z1=>Tr.fact 4 rfl fun H8=>?_);refine Tr.cn rfl ?_ ?_<;>intro h1 q1
 have om:l=[]:=by have:=H8 h1;simp_all
 refine a2 ?_
 .rw[om];exact AL 1
 refine ac ?_;refine ap ?_;refine TO.pad ?_;refine TO.EV 0 rfl rfl AB (Dp rfl rfl rfl rfl underlying180 D7 Is z5 Cs vq (BT BH vq)) (fun v1=>?_);refine ap ?_;refine ac ?_
 .exact Pr.le_trans (As _ _) (Pr.le_of_eq rfl)
theorem KF{α:Type}{T:α->Int}{B:α->List Int}{N:α->Bool}{Q:α->Pr}[∀x,One (Q x)]{l:List α}  (h:∀x:α,Am prog 429 [Q x] (Q x))(hb:∀x:α,(B x).length<=1000000)(hl:l.length<=1000):Am prog 429 [slice 4 (l.map (fun x:α=>BE (T x) (B x) (N x) (Q x)))] (slice 4 (l.map (fun x:α=>BE (T x) (B x) (N x) (Q x)))):=by
 refine fo func429 rfl ⟨rfl,rfl⟩ fun M0 w0=>(Tr.D6 0 rfl fun DZ=>?_);refine a3 ?_;refine Tr.block (Tr.Cm 248 4 (Tr.Fv _ (kk [7,6] rfl) (fun k u=>[(8,int ((k:Nat):Int)),(3,An u (slice 4 ((l.take k).map (fun x:α=>BE (T x) (B x) (N x) (Q x)))))]) (fun k u=>Hp M0 w0 Hj ([A8 248 4 u])) (fun k:Nat=>k<=(l).length) (fun k:Nat=>(l).length-k) 0 (.slice none 0 0) (Nat.zero_le _) ⟨kq,⟨_,rfl,CG rfl⟩,trivial⟩ (fun _ _ h=>h) ?_));rintro k u BR;refine ac ?_;refine Tr.seq ?_;refine Tr.cn rfl ?_ ?_<;>intro h1 q1
 have Ae:k<(l).length:=AV h1;obtain⟨x,Ag⟩:=at_ Ae;refine ac ?_;refine Tr.seq (Tr.block (Tr.seq (Tr.Al (tp rfl (AD rfl underlying246 Aq vq vq AA (Aj Ag)) (tp rfl (AJ rfl BA Aq vq rfl rfl) ?_)))));refine Tl rfl rfl rfl rfl C1 Ca (fun b1=>?_);refine ap ?_;refine Tr.seq (Tr.rx ?_);refine ay ?_;refine xo rfl (fun _=>BQ (Xu (hb x)) rfl rfl) ?_;refine ay ?_;refine xo rfl (fun _=>BQ (h x) rfl rfl) ?_;refine ay ?_;refine Cx.nil ⟨by kernel_rfl,?_⟩;refine CF.done dP (Fin.go (wk [8,7,6,5,3] rfl ?_));refine ap ?_;refine TO.EV 1 rfl rfl AB (Ba rfl rfl AB rfl underlying246 Aq NG C1 rfl AB It Cs FU FV (Bx BH Jd)) (fun v1=>?_);refine ap ?_;refine Tr.drop 0 ?_;refine ac ?_;exact Fin.IE (k+1) v1 (⟨Ae,by omega⟩) ⟨⟨_,rfl,AM k⟩,⟨_,rfl,B7 (by rw[ER Ag,List.map_append];rfl)⟩,kz⟩ (fun _ _ h=>h);have BB:k=(l).length:=by have:=AW h1;omega
 subst BB;rw[List.take_length];refine a3 ?_
 .exact Eu
theorem Xv{α:Type}{T:α->Int}{B:α->List Int}{N:α->Bool}{Q:α->Pr}{l:List α}  (h:Am prog 429 [slice 4 (l.map (fun x:α=>BE (T x) (B x) (N x) (Q x)))] (slice 4 (l.map (fun x:α=>BE (T x) (B x) (N x) (Q x))))):Am prog 409 [slice 4 (l.map (fun x:α=>BE (T x) (B x) (N x) (Q x)))] (agg (BE 48 [] true (slice 4 (l.map (fun x:α=>BE (T x) (B x) (N x) (Q x)))))):=by
 refine fo func409 rfl ⟨rfl,rfl⟩ fun M0 w0=>(Tr.seq (Tr.Al ?_));refine Tl rfl rfl rfl rfl C1 Ca (fun b1=>?_);refine ap ?_;refine ap ?_;refine tp rfl (BQ (h) rfl rfl) ?_;refine ap ?_;refine Tr.ret (Fin.Br rfl (AZ.cell 0 rfl rfl BA Aq rfl Lr) ?_)
 .exact Au ⟨Lr,AL 1,Lr,Lr,trivial⟩
theorem aZ{α:Type}{T:α->Int}{B:α->List Int}{N:α->Bool}{Q:α->Pr}{l:List α}  (h:Am prog 429 [slice 4 (l.map (fun x:α=>BE (T x) (B x) (N x) (Q x)))] (slice 4 (l.map (fun x:α=>BE (T x) (B x) (N x) (Q x))))):Am prog 413 [slice 4 (l.map (fun x:α=>BE (T x) (B x) (N x) (Q x)))] (agg (BE 48 [] true (slice 4 (l.map (fun x:α=>BE (T x) (B x) (N x) (Q x)))))):=by
 refine fo func413 rfl ⟨rfl,rfl⟩ fun M0 w0=>(Tr.seq (Tr.Al ?_));refine Tl rfl rfl rfl rfl C1 Ca (fun b1=>?_);refine ap ?_;refine ap ?_;refine tp rfl (BQ (Xv h) rfl rfl) ?_;refine ap ?_;refine Tr.ret (Fin.Br rfl (AZ.cell 0 rfl rfl BA Aq rfl Lr) ?_)
 .exact Lr
def Q3(s:List UInt8):List Int:=s.map fun c=>((c.toNat:Nat):Int)
def Xw(b:Bool):List Int:=if b then[255]else[0]
theorem aa{s:List UInt8}(hs:s.length<=1000):Am prog 408 [str s] (agg (BE 12 (Q3 s) false (slice 4 []))):=by
 refine fo func408 rfl ⟨rfl,rfl⟩ fun M0 w0=>(Tr.seq (Tr.Al ?_));refine Tl rfl rfl rfl rfl C1 Ca (fun b1=>?_);refine ap ?_;refine ap ?_;refine tp rfl (HG rfl underlying9 underlying180 underlying5 vq (by unfold maxLen;omega)) ?_;refine ap ?_;refine Tr.ret (Fin.Br rfl (AZ.cell 0 rfl rfl BA Aq rfl Lr) ?_)
 .exact Vi
theorem af{b:Bool}  :Am prog 412 [bool b] (agg (BE 1 (Xw b) false (slice 4 []))):=by
 refine fo func412 rfl ⟨rfl,rfl⟩ fun M0 w0=>(Tr.seq (Tr.Al ?_));refine Tl rfl rfl rfl rfl C1 Ca (fun b1=>?_);refine ap ?_;refine an ?_ ?_<;>intro h1 q1
 refine ap ?_;refine tp rfl (Ad (rows:=[(0,[_]),(1,[_])]) rfl KU Ca ⟨⟨rfl,CD⟩,⟨⟨rfl,⟨_,rfl,Pr.le_trans (Ak _ _) (AH _)⟩⟩,trivial⟩⟩ rfl) ?_;refine ap ?_;refine Tr.ret (Fin.AP (Fin.Br rfl (AZ.cell 0 rfl rfl BA Aq rfl Lr) ?_))
 .exact Nv
 refine ac ?_;refine ap ?_;refine tp rfl (Ad (rows:=[(0,[_]),(1,[_])]) rfl KU Ca ⟨⟨rfl,CD⟩,⟨⟨rfl,⟨_,rfl,Pr.le_trans (Ak _ _) (AH _)⟩⟩,trivial⟩⟩ rfl) ?_;refine ap ?_;refine Tr.ret (Fin.Br rfl (AZ.cell 0 rfl rfl BA Aq rfl Lr) ?_)
 .exact Nv
def Ef(n:Int):List Int:=[n/72057594037927936 % 256,n/281474976710656 % 256,n/1099511627776 % 256,n/4294967296 % 256,n/16777216 % 256,n/65536 % 256,n/256 % 256,n % 256]
def trimB:List Int->List Int
 |a::b::r=>if a=0/\b<128 then trimB (b::r)else a::b::r
 |l=>l
def Oo(n:Int):List Int:=trimB (Ef n)
theorem BV{a b:Int}{r:List Int}(h:a=0/\b<128):trimB (a::b::r)=trimB (b::r):=by conv=>lhs;unfold trimB;rw[if_pos h]
theorem Gq{a b:Int}{r:List Int}(h:¬(a=0/\b<128)):trimB (a::b::r)=a::b::r:=by unfold trimB;rw[if_neg h]
theorem Nd:∀l:List Int,(trimB l).length<=l.length
 |[]=>Nat.le_refl _
 |[_]=>Nat.le_refl _
 |a::b::r=>by
  unfold trimB
  split
  .have:=Nd (b::r);simp only[List.length_cons]at this ⊢;omega
  .exact Nat.le_refl _
theorem Xx(n:Int):(Oo n).length<=8:=Nd (Ef n)
theorem iH{n:Int}(h0:0<=n)(hk:k<8):(Ef n)[k]? =some (IntKind.u8.wrap (n.fdiv (2 ^ (min (56-8*(k:Int)).toNat IntKind.u64.bits)))):=by
 rw[IntKind.wrap_u8]
 match k,hk with
 |0,_=>rw[show(2:Int) ^ (min (56-8*((0:Nat):Int)).toNat IntKind.u64.bits)=72057594037927936 from rfl,Int.fdiv_eq_ediv_of_nonneg n AA];rfl
 |1,_=>rw[show(2:Int) ^ (min (56-8*((1:Nat):Int)).toNat IntKind.u64.bits)=281474976710656 from rfl,Int.fdiv_eq_ediv_of_nonneg n AA];rfl
 |2,_=>rw[show(2:Int) ^ (min (56-8*((2:Nat):Int)).toNat IntKind.u64.bits)=1099511627776 from rfl,Int.fdiv_eq_ediv_of_nonneg n AA];rfl
 |3,_=>rw[show(2:Int) ^ (min (56-8*((3:Nat):Int)).toNat IntKind.u64.bits)=4294967296 from rfl,Int.fdiv_eq_ediv_of_nonneg n AA];rfl
 |4,_=>rw[show(2:Int) ^ (min (56-8*((4:Nat):Int)).toNat IntKind.u64.bits)=16777216 from rfl,Int.fdiv_eq_ediv_of_nonneg n AA];rfl
 |5,_=>rw[show(2:Int) ^ (min (56-8*((5:Nat):Int)).toNat IntKind.u64.bits)=65536 from rfl,Int.fdiv_eq_ediv_of_nonneg n AA];rfl
 |6,_=>rw[show(2:Int) ^ (min (56-8*((6:Nat):Int)).toNat IntKind.u64.bits)=256 from rfl,Int.fdiv_eq_ediv_of_nonneg n AA];rfl
 |7,_=>rw[show(2:Int) ^ (min (56-8*((7:Nat):Int)).toNat IntKind.u64.bits)=1 from rfl,Int.fdiv_one];rfl
theorem TH{a:Int}(h:l[k]? =some a):(IC (l.drop k))[(0:Int).toNat]? =some [is (.int .u8 a)]:=by rw[List.getElem?_map,List.getElem?_drop,show k+(0:Int).toNat=k from rfl,h];rfl
theorem iI{a:Int}(h:l[k+1]? =some a):(IC (l.drop k))[(1:Int).toNat]? =some [is (.int .u8 a)]:=by rw[List.getElem?_map,List.getElem?_drop,show k+(1:Int).toNat=k+1 from rfl,h];rfl
theorem Xy{a b:Int}(ha:l[k]? =some a)(hb:l[k+1]? =some b):l.drop k=a::b::l.drop (k+2)/\l.drop (k+1)=b::l.drop (k+2):=by
 have h1:=BO ha;have h2:=BO hb;rw[List.getElem?_eq_getElem h1]at ha;rw[List.getElem?_eq_getElem h2]at hb;cases ha;cases hb;have e2:=List.drop_eq_getElem_cons h2;exact⟨by rw[List.drop_eq_getElem_cons h1,e2],e2⟩
theorem Ip{n:Int}(hn:0<=n/\n<=1099511627776):Am prog 410 [int n] (agg (BE 2 (Oo n) false (slice 4 []))):=by
 refine fo func410 rfl ⟨rfl,rfl⟩ fun M0 w0=>?_;have uN:IntKind.u64.wrap n=n:=IntWalk.u64_in _ ⟨by omega,by omega⟩;refine Tr.seq (Tr.Al ?_);refine Tl rfl rfl rfl rfl C1 Ca (fun b1=>?_);refine ap ?_;refine a2 ?_;refine Tr.block (Tr.Cm 5 1 (Tr.Lp _ (kk [2,0] rfl) (fun(k:Nat) u=>[(4,int (56-8*((k:Nat):Int))),(3,An u (KK ((Ef n).take k)))]) (fun(k:Nat) u=>Hp M0 w0 Hj ([A8 5 1 u,AF true b1 248 (([.int .i64 0,.slice none 0 0,.bool false,.slice none 0 0]:List Value).map is)])) (fun(k:Nat)=>k<=8) (fun(k:Nat)=>8-k) (0) (.slice none 0 0) (Nat.zero_le _) ⟨⟨_,rfl,int_eq AA⟩,⟨_,rfl,CG rfl⟩,trivial⟩ (fun _ _ h=>h) ?_));rintro k u hk8;refine an ?_ ?_<;>intro h1 q1
 have hk:k<8:=by have:=EK.FP h1;omega
 have hat:=iH hn.1 hk;refine ac ?_;refine ap ?_;refine tp rfl (BX rfl underlying3 underlying393 vq) (tm rfl (tp rfl (Ol rfl vq vq AA rfl) (tp rfl (BX rfl underlying393 underlying5 vq) (tp rfl (AG (xs:=[.tmp 14]) (rows:=[[_]]) rfl rfl underlying180 D7 z5 rfl AB ⟨⟨AK,CD⟩,trivial⟩ AB) ?_))));refine TO.EV 0 rfl rfl AB (Ba rfl rfl AB rfl underlying180 D7 Is z5 rfl AB It Cs FU FV (Bx BH Jd)) (fun v1=>?_);refine ap ?_;refine wk [4,3,2,0] rfl ?_;refine ac ?_;exact Fin.OJ (k+1) v1 (⟨by omega,by omega⟩) ⟨⟨_,rfl,int_eq AA⟩,⟨_,rfl,B7 (by rw[ER hat,uN];exact(HV _ _).symm)⟩,kz⟩ (fun _ _ h=>h);have hk:k=8:=by have:=EK.FP h1;omega
 subst hk;refine ac ?_;refine Tr.seq (Tr.block ?_);refine Tr.GA _ (kk [2] rfl) (fun(k:Nat)=>[(3,KK ((Ef n).drop k))]) (fun(k:Nat)=>Hp M0 w0 Hj ([A8 5 1 u,AF true b1 248 (([.int .i64 0,.slice none 0 0,.bool false,.slice none 0 0]:List Value).map is)])) (fun(k:Nat)=>k<=7/\trimB ((Ef n).drop k)=trimB (Ef n)/\∀a,(Ef n)[k]? =some a->a<128) (fun(k:Nat)=>8-k) (0)  (⟨by omega,rfl,fun a h=>by cases h;omega⟩) ⟨⟨_,rfl,Pr.le_trans (As _ _) (Pr.le_of_eq rfl)⟩,trivial⟩ (fun _ _ h=>h) ?_;rintro k  ⟨hk1,htr,hhd⟩;obtain⟨a,ha⟩:=at_ (l:=Ef n) (k:=k) (show _<8 by omega);have hlt:=hhd a ha;refine ag ?_ ?_<;>intro h2 q2
 have hk7:k<7:=by have:=q2;simp[Ef]at this;omega
 obtain⟨b,hb⟩:=at_ (l:=Ef n) (k:=k+1) (show _<8 by omega);obtain⟨hd1,hd2⟩:=Xy ha hb;refine Hq h2 rfl (cy h2 rfl (AD rfl underlying180 D7 vq vq AA (TH ha)) ?_);refine ag ?_ ?_<;>intro h3 q3
 have ha0:a=0:=by have:=q3;omega
 refine Hq h3 rfl (cy h3 rfl (AD rfl underlying180 D7 vq vq AA (iI hb)) ?_);refine ag ?_ ?_<;>intro h4 q4
 have M4:a=0/\b<128:=by have:=q4;omega
 rw[hd1,BV M4,←hd2]at htr;refine ac ?_;refine wk [43,3,2] rfl ?_;refine a2 ?_;refine co rfl (Gg rfl underlying180 D7 vq vq AA GN) ?_;refine ac ?_;exact Fin.Gc (k+1)  (⟨⟨by omega,htr,fun c hc=>by rw[hb]at hc;cases hc;omega⟩,by omega⟩) ⟨⟨_,rfl,Pr.le_of_eq (by rw[←List.map_drop,List.drop_drop];rfl)⟩,kz⟩ (fun _ _ h=>h);have M4:¬(a=0/\b<128):=by have:=q4;omega
 have hex:(Ef n).drop k=Oo n:=by
  show _=trimB (Ef n);rw[←htr,hd1,Gq M4]
 refine Hq h4 rfl (cy h4 rfl (AD rfl underlying180 D7 vq vq AA (TH ha)) ?_);refine ag ?_ ?_<;>intro h5 q5
 exfalso;have:=q5;omega;refine ac ?_;refine wk [43,3,2] rfl ?_;refine ac ?_;refine ap ?_;refine Tr.ret (Fin.Br rfl (AZ.cell 1 rfl rfl BA Aq rfl Lr) ?_)
 .exact Ny
 have ha0:¬a=0:=by have:=q3;omega
 have hex:(Ef n).drop k=Oo n:=by
  show _=trimB (Ef n);rw[←htr,hd1,Gq (fun h=>ha0 h.1)]
 refine ac ?_;refine cy rfl rfl (AD rfl underlying180 D7 vq vq AA (TH ha)) ?_;refine ag ?_ ?_<;>intro h6 q6
 exfalso;have:=q6;omega;refine ac ?_;refine wk [43,3,2] rfl ?_;refine ac ?_;refine ap ?_;refine Tr.ret (Fin.Br rfl (AZ.cell 1 rfl rfl BA Aq rfl Lr) ?_)
 .exact Ny
 have hk7:k=7:=by have:=q2;simp[Ef]at this;omega
 have hex:(Ef n).drop k=Oo n:=by rw[hk7]at htr ⊢;exact htr
 refine ac ?_;refine wk [43,3,2] rfl ?_;refine ac ?_;refine ap ?_;refine Tr.ret (Fin.Br rfl (AZ.cell 1 rfl rfl BA Aq rfl Lr) ?_)
 .exact Ny
theorem iJ{n:Int}(h:n=1\/n=2\/n=12\/n=48):Am prog 255 [int n] (bool true):=by
 refine fo func255 rfl ⟨rfl,rfl⟩ fun M0 w0=>?_;refine ac ?_;refine ag ?_ ?_<;>intro h1 q1
 refine ag ?_ ?_<;>intro h2 q2
 refine Hq h2 rfl (cy h2 rfl (IU rfl vq vq AA) ?_);refine a2 ?_
 .refine bool_eq ?_;rcases h with rfl|rfl|rfl|rfl<;>decide
 refine a2 ?_
 .exact Ky
 refine a2 ?_
 .exact Ky
theorem dZ.quo{α:Type}{t:Int}{b:List Int}{n:Bool}{l:List α}(h:dZ t b n l):((IntKind.i64.wrap (t.tdiv 32)).tmod 2==1)=n:=by
 rcases h.h with⟨rfl,h1,_⟩|⟨rfl,rfl,_⟩
 .rcases h1 with rfl|rfl|rfl<;>decide
 .decide
theorem KG{α:Type}{T:α->Int}{B:α->List Int}{N:α->Bool}{Q:α->Pr}{l:List α}{t:Int}{b:List Int}{n:Bool}  (ok:dZ t b n l)(h:∀x:α,Am prog 209 [agg (BE (T x) (B x) (N x) (Q x))] (bool true)):Am prog 209 [agg (BE t b n (slice 4 (l.map (fun x:α=>BE (T x) (B x) (N x) (Q x)))))] (bool true):=by
 refine fo func209 rfl ⟨rfl,rfl⟩ fun M0 w0=>(Tr.PL 0 1 rfl rfl fun aW=>(Tr.PL 0 3 rfl rfl fun JR=>?_));have V1:=ok.quo;refine ac ?_;refine ac ?_;refine co rfl (BQ (iJ ok.tag) rfl rfl) (co rfl (LX rfl vq) (cm rfl ?_));refine Ch.cs 8 rfl ?_ ?_<;>intro h1 q1
 cases h1;refine cy h1 rfl (U6 rfl OS rfl rfl) (cy h1 rfl (FH rfl eO rfl) (cy h1 rfl (U6 rfl OR rfl rfl) (cy h1 rfl (FH rfl DP rfl) (cy h1 rfl (Jj rfl (vl rfl) (vl rfl) AA) (cy h1 rfl (IU rfl (vl rfl) (vl rfl) AA) (cy h1 rfl (ki rfl rfl rfl rfl) (cy h1 rfl (RF rfl underlying4 (vl rfl) (vl rfl)) ?_)))))));refine ac ?_;refine Ch.cs 18 rfl ?_ ?_<;>intro h2 q2
 exfalso;rcases ok.h with⟨rfl,O_,rfl⟩|⟨rfl,O_,rfl⟩<;>simp_all
 refine ac ?_;refine Ch.cs 21 rfl ?_ ?_<;>intro h3 q3
 refine ac ?_;refine Ch.cs 28 rfl ?_ ?_<;>intro h4 q4
 exfalso;rcases ok.h with⟨rfl,O_,rfl⟩|⟨rfl,O_,rfl⟩<;>simp_all
 refine ac ?_;refine Ch.cs 32 rfl ?_ ?_<;>intro h5 q5
 refine ac ?_;refine wk [38,1] rfl ?_;refine Tr.cn rfl ?_ ?_<;>intro h6 q6
 exfalso;rcases ok.h with⟨rfl,O_,rfl⟩|⟨rfl,O_,rfl⟩<;>simp_all
 refine ac ?_;refine ac ?_;refine Tr.block (Tr.BP _ (kk [1] rfl) (fun k:Nat=>[(3,int ((k:Nat):Int))]) (fun k:Nat=>k<=(l).length) (fun k:Nat=>(l).length-k) 0 (Nat.zero_le _) kz ?_);rintro k BR;refine ac ?_;refine Tr.cn rfl ?_ ?_<;>intro h7 q7
 have Ae:k<(l).length:=AV h7;obtain⟨x,Ag⟩:=at_ Ae;refine ac ?_;refine ac ?_;refine co rfl (AD rfl underlying246 Aq vq vq AA (Aj Ag)) (co rfl (AJ rfl BA Aq vq rfl rfl) (co rfl (BQ (h x) rfl rfl) ?_));refine ac ?_;refine wk [52,3,1] rfl ?_;refine Tr.cn rfl ?_ ?_<;>intro h8 q8
 cases h8;refine ac ?_;refine ac ?_;exact Fin.AR (k+1) ⟨Ae,by omega⟩ ⟨⟨_,rfl,AM k⟩,kz⟩;have BB:k=(l).length:=by have:=AW h7;omega
 refine ac ?_;refine ac ?_;refine ac ?_
 .exact Lr
 refine ac ?_;refine wk [38,1] rfl ?_;refine ac ?_;refine ac ?_;refine Tr.block (Tr.BP _ (kk [1] rfl) (fun k:Nat=>[(3,int ((k:Nat):Int))]) (fun k:Nat=>k<=(l).length) (fun k:Nat=>(l).length-k) 0 (Nat.zero_le _) kz ?_);rintro k BR;refine ac ?_;refine Tr.cn rfl ?_ ?_<;>intro h9 q9
 have Ae:k<(l).length:=AV h9;obtain⟨x,Ag⟩:=at_ Ae;refine ac ?_;refine ac ?_;refine co rfl (AD rfl underlying246 Aq vq vq AA (Aj Ag)) (co rfl (AJ rfl BA Aq vq rfl rfl) (co rfl (BQ (h x) rfl rfl) ?_));refine ac ?_;refine wk [52,3,1] rfl ?_;refine Tr.cn rfl ?_ ?_<;>intro h10 MB
 cases h10;refine ac ?_;refine ac ?_;exact Fin.AR (k+1) ⟨Ae,by omega⟩ ⟨⟨_,rfl,AM k⟩,kz⟩;have BB:k=(l).length:=by have:=AW h9;omega
 refine ac ?_;refine ac ?_;refine ac ?_
 .exact Lr
 refine ac ?_;refine Ch.cs 32 rfl ?_ ?_<;>intro h11 O8
 refine ac ?_;refine wk [38,1] rfl ?_;refine Tr.cn rfl ?_ ?_<;>intro h12 Re
 exfalso;rcases ok.h with⟨rfl,O_,rfl⟩|⟨rfl,O_,rfl⟩<;>simp_all
 refine ac ?_;refine ac ?_;refine Tr.block (Tr.BP _ (kk [1] rfl) (fun k:Nat=>[(3,int ((k:Nat):Int))]) (fun k:Nat=>k<=(l).length) (fun k:Nat=>(l).length-k) 0 (Nat.zero_le _) kz ?_);rintro k BR;refine ac ?_;refine Tr.cn rfl ?_ ?_<;>intro Je VD
 have Ae:k<(l).length:=AV Je;obtain⟨x,Ag⟩:=at_ Ae;refine ac ?_;refine ac ?_;refine co rfl (AD rfl underlying246 Aq vq vq AA (Aj Ag)) (co rfl (AJ rfl BA Aq vq rfl rfl) (co rfl (BQ (h x) rfl rfl) ?_));refine ac ?_;refine wk [52,3,1] rfl ?_;refine Tr.cn rfl ?_ ?_<;>intro Mh Z9
 cases Mh;refine ac ?_;refine ac ?_;exact Fin.AR (k+1) ⟨Ae,by omega⟩ ⟨⟨_,rfl,AM k⟩,kz⟩;have BB:k=(l).length:=by have:=AW Je;omega
 refine ac ?_;refine ac ?_;refine ac ?_
 .exact Lr
 refine ac ?_;refine wk [38,1] rfl ?_;refine ac ?_;refine ac ?_;refine Tr.block (Tr.BP _ (kk [1] rfl) (fun k:Nat=>[(3,int ((k:Nat):Int))]) (fun k:Nat=>k<=(l).length) (fun k:Nat=>(l).length-k) 0 (Nat.zero_le _) kz ?_);rintro k BR;refine ac ?_;refine Tr.cn rfl ?_ ?_<;>intro Rf gW
 have Ae:k<(l).length:=AV Rf;obtain⟨x,Ag⟩:=at_ Ae;refine ac ?_;refine ac ?_;refine co rfl (AD rfl underlying246 Aq vq vq AA (Aj Ag)) (co rfl (AJ rfl BA Aq vq rfl rfl) (co rfl (BQ (h x) rfl rfl) ?_));refine ac ?_;refine wk [52,3,1] rfl ?_;refine Tr.cn rfl ?_ ?_<;>intro h16 gm
 cases h16;refine ac ?_;refine ac ?_;exact Fin.AR (k+1) ⟨Ae,by omega⟩ ⟨⟨_,rfl,AM k⟩,kz⟩;have BB:k=(l).length:=by have:=AW Rf;omega
 refine ac ?_;refine ac ?_;refine ac ?_
 .exact Lr
theorem MO{α:Type}{T:α->Int}{B:α->List Int}{N:α->Bool}{Q:α->Pr}{l:List α}{t:Int}{b:List Int}{n:Bool}(h:∀x:α,Am prog 210 [agg (BE (T x) (B x) (N x) (Q x))] (Cp.ex fun d:Int=>fact (0<=d/\d<=(m:Nat)) (int d)))(hm:m<=1000):Am prog 210 [agg (BE t b n (slice 4 (l.map (fun x:α=>BE (T x) (B x) (N x) (Q x)))))] (Cp.ex fun d:Int=>fact (0<=d/\d<=(m+1:Nat)) (int d)):=by
 refine fo func210 rfl ⟨rfl,rfl⟩ fun M0 w0=>(Tr.PL 0 3 rfl rfl fun JR=>?_);refine a3 ?_;refine Tr.block (Tr.BP _ (kk [1] rfl) (fun k:Nat=>[(4,int ((k:Nat):Int)),(3,Cp.ex fun d:Int=>fact (0<=d/\d<=(m:Nat)) (int d))]) (fun k:Nat=>k<=(l).length) (fun k:Nat=>(l).length-k) 0 (Nat.zero_le _) ⟨kq,⟨_,rfl,BN 0 (BS AA Lr)⟩,trivial⟩ ?_);rintro k BR;refine Tr.ex 3 rfl fun d3=>Tr.fact 3 rfl fun hd3=>?_;refine an ?_ ?_<;>intro h1 q1
 have Ae:k<(l).length:=AV h1;obtain⟨x,Ag⟩:=at_ Ae;refine ac ?_;refine ap ?_;refine tp rfl (AD rfl underlying246 Aq vq vq AA (Aj Ag)) (tp rfl (AJ rfl BA Aq vq rfl rfl) (tp rfl (BQ (h x) rfl rfl) ?_));refine TO.ex 18 rfl (fun z18=>TO.fact 18 rfl fun oK=>?_);refine tp rfl (OC rfl vq vq) ?_;refine ap ?_;refine wk [4,3,1] rfl ?_;refine ac ?_;exact Fin.AR (k+1) ⟨Ae,by omega⟩ ⟨⟨_,rfl,AM k⟩,⟨_,rfl,BN _ (BS AA Lr)⟩,kz⟩;have BB:k=(l).length:=by have:=AW h1;omega
 refine ac ?_;refine ap ?_;refine ac ?_
 .exact N6
theorem UT{n:Int}(h0:0<=n)(h1:n<65536):Am prog 256 [int n] (KK (FR n)):=by
 refine fo func256 rfl ⟨rfl,rfl⟩ fun M0 w0=>?_;refine ac ?_;refine an ?_ ?_<;>intro h1 q1
 refine ac ?_;refine co rfl (BX rfl underlying3 underlying5 vq) ?_;refine a2 ?_
 .refine Pr.le_trans (Ak 1 _) (Pr.le_of_eq ?_);rw[Kc h0 AA];unfold FR;rw[if_pos AA];rfl
 refine a2 ?_;refine Tr.seq (Tr.block (Tr.Cm 5 1 (Tr.JB [] trivial (fun(m:Int) (c:List Int) u=>[(0,int m),(3,An u (KK c))]) (fun(m:Int) (c:List Int) u=>Hp M0 w0 Hj ([A8 5 1 u])) (fun(m:Int) (c:List Int)=>(m=n/\c=[])\/(m=n/256/\c=[n % 256])\/(m=n/256/256/\c=[n/256,n % 256]/\256<=n)) (fun(m:Int) (c:List Int)=>m.toNat) (n) ([]) (.slice none 0 0) (.inl ⟨rfl,rfl⟩) ⟨kq,⟨_,rfl,CG rfl⟩,trivial⟩ (fun _ _ h=>h) ?_)));rintro m c u U5;have jG:c.length<=2:=by rcases U5 with⟨_,rfl⟩|⟨_,rfl⟩|⟨_,rfl,_⟩<;>simp
 refine an ?_ ?_<;>intro h2 q2
 have hm0:=EK.FP h2;have hwm:IntKind.u8.wrap (m.tmod 256)=m % 256:=by rw[IntKind.wrap_u8,Int.tmod_eq_emod_of_nonneg AA];omega
 refine ac ?_;refine ap ?_;refine tp rfl (IU rfl vq vq AA) (tp rfl (BX rfl underlying3 underlying5 vq) ?_);refine ap ?_;refine TO.pad ?_;refine TO.EV 0 rfl rfl AB (Ba rfl rfl AB rfl underlying180 D7 Is z5 rfl AB Cs It FU FV (BT BH vq)) (fun v1=>?_);refine ap ?_;refine ac ?_;refine co rfl (Jj rfl vq vq AA) ?_;refine ac ?_;refine Fin.drop 1 ?_;exact Fin.K6 (m/256) ((m % 256)::c) v1 (⟨by rcases U5 with⟨rfl,rfl⟩|⟨rfl,rfl⟩|⟨rfl,rfl,h2_⟩;exact .inr (.inl ⟨rfl,rfl⟩);exact .inr (.inr ⟨rfl,by rw[show n/256 % 256=n/256 by omega],by omega⟩);(exfalso;omega),by omega⟩) ⟨⟨_,rfl,int_eq (by rw[Int.tdiv_eq_ediv_of_nonneg AA,GW I0])⟩,⟨_,rfl,B7 (by rw[hwm];rfl)⟩,trivial⟩ (fun _ _ h=>h);have hm0:=EK.FP h2;refine ac ?_;refine ap ?_;refine tp rfl (Hl rfl underlying180 It) ?_;refine tp rfl (Ek rfl vq vq ?hin) ?_;case hin=>unfold Mb;omega
 refine tp rfl (BX rfl underlying3 underlying5 vq) ?_;refine ap ?_;refine TO.pad ?_;refine TO.EV 0 rfl rfl AB (Ba rfl rfl AB rfl underlying180 D7 Is z5 rfl AB Cs It FU FV (BT BH vq)) (fun v2=>?_);refine ap ?_;refine ac ?_
 .refine Pr.le_trans (As _ _) (Pr.le_of_eq ?_);unfold FR;rw[if_neg AA];rcases U5 with⟨rfl,rfl⟩|⟨rfl,rfl⟩|⟨rfl,rfl,h2_⟩;(exfalso;omega);(rw[if_pos AA,show n % 256=n by omega];rfl);(rw[if_neg AA];rfl)
theorem Rv{α:Type}{T:α->Int}{B:α->List Int}{N:α->Bool}{Q:α->Pr}{l:List α}{t:Int}{b:List Int}{n:Bool}{g:α->List Int}{M:Nat}  (hE:∀x:α,Am prog 211 [agg (BE (T x) (B x) (N x) (Q x))] (KK (g x)))(hg:∀x∈l,(g x).length<=M)(hM:l.length*M<=20000)(hb:b.length<=20000)(ht:0<=t/\t<256):Am prog 211 [agg (BE t b n (slice 4 (l.map (fun x:α=>BE (T x) (B x) (N x) (Q x)))))] (KK (KB t (b++l.flatMap g))):=by
 refine fo func211 rfl ⟨rfl,rfl⟩ fun M0 w0=>(Tr.PL 0 3 rfl rfl fun JR=>?_);refine ac ?_;refine ap ?_;refine TO.pad ?_;refine TO.EV 0 rfl rfl AB (Ba rfl rfl AB rfl underlying180 D7 Is z5 rfl AB Cs vq FU FV (BT BH vq)) (fun v1=>?_);refine ap ?_;refine ac ?_;refine Tr.block (Tr.Fv _ (kk [1] rfl) (fun k u=>[(4,int ((k:Nat):Int)),(3,An u (KK (b++(l.take k).flatMap g)))]) (fun k u=>Hp M0 w0 Hj ([A8 5 1 u])) (fun k:Nat=>k<=(l).length) (fun k:Nat=>(l).length-k) 0 v1 (Nat.zero_le _) ⟨kq,⟨_,rfl,B7 AO⟩,trivial⟩ (fun _ _ h=>h) ?_);rintro k u BR;have hfl:=JQ k hg;refine an ?_ ?_<;>intro h1 q1
 have Ae:k<(l).length:=AV h1;obtain⟨x,Ag⟩:=at_ Ae;have hgx:=hg x (List.mem_of_getElem? Ag);have hM1:M<=20000:=Nat.le_trans (Nat.le_mul_of_pos_left M AA) hM;refine ac ?_;refine ap ?_;refine tp rfl (AD rfl underlying246 Aq vq vq AA (Aj Ag)) (tp rfl (AJ rfl BA Aq vq rfl rfl) (tp rfl (BQ (hE x) rfl rfl) ?_));refine TO.EV 0 rfl rfl AB (Ba rfl rfl AB rfl underlying180 D7 Is z5 rfl AB It vq FU FV (Bx BH Jd)) (fun v2=>?_);refine ap ?_;refine wk [4,3,1] rfl ?_;refine ac ?_;exact Fin.IE (k+1) v2 (⟨Ae,by omega⟩) ⟨⟨_,rfl,AM k⟩,⟨_,rfl,B7 (by rw[KD Ag];simp)⟩,kz⟩ (fun _ _ h=>h);have BB:k=(l).length:=by have:=AW h1;omega
 subst BB;rw[List.take_length]at hfl ⊢;have hll:=(JP ((b++l.flatMap g).length:Nat)).2;have u7:=(JP ((b.length+(l.flatMap g).length:Nat):Int)).2;refine ac ?_;refine Tr.seq (Tr.pad (Tr.rx ?_));refine ay ?_;refine xo rfl (fun _=>BX rfl underlying3 underlying5 vq) (xo rfl (fun _=>AG (xs:=[.tmp 26]) (rows:=[[_]]) rfl rfl underlying180 D7 z5 rfl AB ⟨⟨AK,CD⟩,trivial⟩ AB) ?_);refine xm rfl (xo rfl (fun _=>Hl rfl underlying180 It) ?_);refine xo rfl (fun _=>AQ rfl (UT (n:=((b++l.flatMap g).length:Nat)) AA (by rw[List.length_append];omega)) ⟨⟨_,rfl,int_eq AO⟩,trivial⟩) ?_;refine Cx.ef 0 rfl rfl AB (Ba rfl rfl AB rfl underlying180 D7 Is z5 rfl AB Cs vq FU FV (BT BH vq)) ?_;refine xm rfl ?_;refine Cx.ef 0 rfl rfl AB (Ba rfl rfl AB rfl underlying180 D7 Is z5 rfl AB vq It FU FV E8) ?_;refine Cx.ef 0 rfl rfl AB (Ho rfl rfl AB rfl vq) ?_;refine Cx.nil ⟨by kernel_rfl,?_⟩;refine CF.open_ 0 2 rfl rfl (fun v3=>?_);refine CF.done dP (Fin.go (wk [2] rfl ?_));refine ac ?_
 .refine Pr.le_trans (As _ _) (Pr.le_of_eq ?_);rw[Kc ht.1 ht.2];unfold KK;simp[KB]
theorem UU{e b:List Int}{t:Int}{n:Bool}{q:Pr}  (hf:Am prog 209 [agg (BE t b n q)] (bool true))(hd:Am prog 210 [agg (BE t b n q)] (Cp.ex fun d:Int=>fact (0<=d/\d<=(16:Nat)) (int d)))(he:Am prog 211 [agg (BE t b n q)] (KK e)):Am prog 156 [agg (BE t b n q)] (D8 [KK (if 4096<e.length then[]else e),int (if 4096<e.length then 3 else 0)]):=by
 refine fo func156 rfl ⟨rfl,rfl⟩ fun M0 w0=>?_;refine a2 ?_;refine co rfl (BQ (hf) rfl rfl) ?_;refine an ?_ ?_<;>intro h1 q1
 cases h1;refine ac ?_;refine ap ?_;refine tp rfl (BQ (hd) rfl rfl) ?_;refine TO.ex 9 rfl (fun z9=>TO.fact 9 rfl fun hz9=>?_);refine ap ?_;refine Tr.cn rfl ?_ ?_<;>intro h2 q2
 exfalso;have:=q2;omega;refine a2 ?_;refine co rfl (BQ (he) rfl rfl) ?_;refine a2 ?_;refine wk [15,4] rfl ?_;refine Tr.cn rfl ?_ ?_<;>intro h3 q3
 have h4:4096<e.length:=by have:=q3;omega
 refine ac ?_;refine Tr.ret (Fin.AP (Fin.EC rfl (Cy.GV _ _) rfl ?_ rfl ?_))
 .rw[if_pos h4];exact AL 1
 .exact int_eq (by rw[if_pos h4])
 have h4:¬4096<e.length:=by have:=q3;omega
 refine a2 ?_;refine Tr.ret (Fin.EC rfl (Cy.GV _ _) rfl ?_ rfl ?_)
 .rw[if_neg h4];exact Lr
 .exact int_eq (by rw[if_neg h4])
theorem KH{α:Type}{T:α->Int}{B:α->List Int}{N:α->Bool}{Q:α->Pr}[∀x,One (Q x)]{l:List α}  (h:∀x:α,Am prog 257 [Q x] (Q x))(hb:∀x:α,(B x).length<=1000000)(hl:l.length<=1000):Am prog 257 [slice 4 (l.map (fun x:α=>BE (T x) (B x) (N x) (Q x)))] (slice 4 (l.map (fun x:α=>BE (T x) (B x) (N x) (Q x)))):=by
 refine fo func257 rfl ⟨rfl,rfl⟩ fun M0 w0=>(Tr.D6 0 rfl fun DZ=>?_);refine ac ?_;refine ac ?_;refine ac ?_;refine Tr.block (Tr.Cm 248 4 (Tr.Fv _ (kk [0] rfl) (fun k u=>[(4,int ((k:Nat):Int)),(3,An u (slice 4 ((l.take k).map (fun x:α=>BE (T x) (B x) (N x) (Q x)))))]) (fun k u=>Hp M0 w0 Hj ([A8 248 4 u])) (fun k:Nat=>k<=(l).length) (fun k:Nat=>(l).length-k) 0 (.slice none 0 0) (Nat.zero_le _) ⟨kq,⟨_,rfl,CG rfl⟩,trivial⟩ (fun _ _ h=>h) ?_));rintro k u BR;refine ac ?_;refine Tr.cn rfl ?_ ?_<;>intro h1 q1
 have Ae:k<(l).length:=AV h1;obtain⟨x,Ag⟩:=at_ Ae;have hbx:=hb x;refine ac ?_;refine ap ?_;refine tp rfl (AD rfl underlying246 Aq vq vq AA (Aj Ag)) (tp rfl (AJ rfl BA Aq vq rfl rfl) ?_);refine Tl rfl rfl rfl rfl C1 Ca (fun b1=>?_);refine ap ?_;refine ap ?_;refine TO.pad ?_;refine TO.EV 0 rfl rfl AB (Ba rfl rfl AB rfl underlying180 D7 Is z5 rfl AB Cs vq FU FV (BT BH vq)) (fun v1=>?_);refine ap ?_;refine wk [5,4,3,0] rfl ?_;refine ap ?_;refine tp rfl (BQ (h x) rfl rfl) ?_;refine ap ?_;refine Tr.Al (tm rfl (TO.rd 1 rfl rfl rfl AB (Cv rfl BA Aq (vl rfl) rfl rfl) (tp rfl (AG (xs:=[.tmp 26]) (rows:=[BE (T x) (B x) (N x) (Q x)]) rfl rfl underlying246 Aq C1 rfl AB ⟨⟨AK,VL.le (vl rfl) (Pr.le_trans (Au (qs:=BE (T x) (B x) (N x) (Q x)) ⟨Lr,Pr.le_trans (As _ _) (Pr.le_of_eq rfl),Lr,Lr,trivial⟩) (AE _))⟩,trivial⟩ AB) ?_)));refine TO.EV 2 rfl rfl AB (Ba rfl rfl AB rfl underlying246 Aq NG C1 rfl AB It Cs FU FV (Bx BH Jd)) (fun v2=>?_);refine ap ?_;refine Tr.drop 1 ?_;refine ac ?_;refine Fin.drop 0 ?_;exact Fin.IE (k+1) v2 (⟨Ae,by omega⟩) ⟨⟨_,rfl,AM k⟩,⟨_,rfl,B7 (by rw[ER Ag,List.map_append];rfl)⟩,kz⟩ (fun _ _ h=>h);have BB:k=(l).length:=by have:=AW h1;omega
 subst BB;rw[List.take_length];refine ac ?_;refine ac ?_;refine ac ?_
 .exact Eu
theorem Oq{α:Type}{T:α->Int}{B:α->List Int}{N:α->Bool}{Q:α->Pr}{l:List α}  (h:Am prog 257 [slice 4 (l.map (fun x:α=>BE (T x) (B x) (N x) (Q x)))] (slice 4 (l.map (fun x:α=>BE (T x) (B x) (N x) (Q x))))):Am prog 213 [slice 4 (l.map (fun x:α=>BE (T x) (B x) (N x) (Q x)))] (agg (BE 48 [] true (slice 4 (l.map (fun x:α=>BE (T x) (B x) (N x) (Q x)))))):=by
 refine fo func213 rfl ⟨rfl,rfl⟩ fun M0 w0=>(Tr.seq (Tr.Al ?_));refine Tl rfl rfl rfl rfl C1 Ca (fun b1=>?_);refine ap ?_;refine ap ?_;refine tp rfl (BQ (h) rfl rfl) ?_;refine ap ?_;refine Tr.ret (Fin.Br rfl (AZ.cell 0 rfl rfl BA Aq rfl Lr) ?_)
 .exact Au ⟨Lr,AL 1,Lr,Lr,trivial⟩
theorem ah{s:List UInt8}(hs:s.length<=1000):Am prog 212 [str s] (agg (BE 12 (Q3 s) false (slice 4 []))):=by
 refine fo func212 rfl ⟨rfl,rfl⟩ fun M0 w0=>(Tr.seq (Tr.Al ?_));refine Tl rfl rfl rfl rfl C1 Ca (fun b1=>?_);refine ap ?_;refine ap ?_;refine tp rfl (HG rfl underlying9 underlying180 underlying5 vq (by unfold maxLen;omega)) ?_;refine ap ?_;refine Tr.ret (Fin.Br rfl (AZ.cell 0 rfl rfl BA Aq rfl Lr) ?_)
 .exact Vi
theorem aj{b:Bool}  :Am prog 216 [bool b] (agg (BE 1 (Xw b) false (slice 4 []))):=by
 refine fo func216 rfl ⟨rfl,rfl⟩ fun M0 w0=>(Tr.seq (Tr.Al ?_));refine Tl rfl rfl rfl rfl C1 Ca (fun b1=>?_);refine ap ?_;refine an ?_ ?_<;>intro h1 q1
 refine ap ?_;refine tp rfl (Ad (rows:=[(0,[_]),(1,[_])]) rfl KU Ca ⟨⟨rfl,CD⟩,⟨⟨rfl,⟨_,rfl,Pr.le_trans (Ak _ _) (AH _)⟩⟩,trivial⟩⟩ rfl) ?_;refine ap ?_;refine Tr.ret (Fin.AP (Fin.Br rfl (AZ.cell 0 rfl rfl BA Aq rfl Lr) ?_))
 .exact Nv
 refine ac ?_;refine ap ?_;refine tp rfl (Ad (rows:=[(0,[_]),(1,[_])]) rfl KU Ca ⟨⟨rfl,CD⟩,⟨⟨rfl,⟨_,rfl,Pr.le_trans (Ak _ _) (AH _)⟩⟩,trivial⟩⟩ rfl) ?_;refine ap ?_;refine Tr.ret (Fin.Br rfl (AZ.cell 0 rfl rfl BA Aq rfl Lr) ?_)
 .exact Nv
theorem Vr{a:Int}(h:l[6-k]? =some a)(hk:k<=6):slice 1 (IC (l.drop (6-k)))=slice 1 ([[is (.int .u8 a)]]++IC (l.drop (7-k))):=by
 have h1:=BO h;rw[List.getElem?_eq_getElem h1]at h;cases h;rw[List.drop_eq_getElem_cons h1,show 6-k+1=7-k by omega];rfl
def xk(n:Int):Nat->Int
 |0=>n/256
 |k+1=>xk n k/256
theorem iK{n:Int}(hk:k<=6):(Ef n)[6-k]? =some (IntKind.u8.wrap (xk n k)):=by
 rw[IntKind.wrap_u8]
 match k,hk with
 |0,_=>rfl
 |1,_=>exact congrArg some (by show n/65536 % 256=n/256/256 % 256;omega)
 |2,_=>exact congrArg some (by show n/16777216 % 256=n/256/256/256 % 256;omega)
 |3,_=>exact congrArg some (by show n/4294967296 % 256=n/256/256/256/256 % 256;omega)
 |4,_=>exact congrArg some (by show n/1099511627776 % 256=n/256/256/256/256/256 % 256;omega)
 |5,_=>exact congrArg some (by show n/281474976710656 % 256=n/256/256/256/256/256/256 % 256;omega)
 |6,_=>exact congrArg some (by show n/72057594037927936 % 256=n/256/256/256/256/256/256/256 % 256;omega)
theorem iL{n:Int}{h:Int}(h0:0<=n)(h1:n<=1099511627776)(hk:k<=5)(hh:(Ef n)[7-k]? =some h)(hx:xk n k=0)(hl:h<128)(hg:∀g,(Ef n)[8-k]? =some g->k≠0->xk n (k-1)≠0\/128<=g):(Ef n).drop (7-k)=Oo n:=by
 symm
 unfold Oo
 match k,hk with
 |0,_=>cases hh;unfold xk at hx;show trimB [_,_,_,_,_,_,_,_]=[n % 256];rw[BV ⟨by omega,by omega⟩,BV ⟨by omega,by omega⟩,BV ⟨by omega,by omega⟩,BV ⟨by omega,by omega⟩,BV ⟨by omega,by omega⟩,BV ⟨by omega,by omega⟩,BV ⟨by omega,by omega⟩];rfl
 |1,_=>cases hh;have hg:=hg _ rfl AB;simp only[xk,Nat.sub_self]at hx hg;show trimB [_,_,_,_,_,_,_,_]=[n/256 % 256,n % 256];rw[BV ⟨by omega,by omega⟩,BV ⟨by omega,by omega⟩,BV ⟨by omega,by omega⟩,BV ⟨by omega,by omega⟩,BV ⟨by omega,by omega⟩,BV ⟨by omega,by omega⟩,Gq AA]
 |2,_=>cases hh;have hg:=hg _ rfl AB;simp only[xk]at hx hg;show trimB [_,_,_,_,_,_,_,_]=[n/65536 % 256,n/256 % 256,n % 256];rw[BV ⟨by omega,by omega⟩,BV ⟨by omega,by omega⟩,BV ⟨by omega,by omega⟩,BV ⟨by omega,by omega⟩,BV ⟨by omega,by omega⟩,Gq AA]
 |3,_=>cases hh;have hg:=hg _ rfl AB;simp only[xk]at hx hg;show trimB [_,_,_,_,_,_,_,_]=[n/16777216 % 256,n/65536 % 256,n/256 % 256,n % 256];rw[BV ⟨by omega,by omega⟩,BV ⟨by omega,by omega⟩,BV ⟨by omega,by omega⟩,BV ⟨by omega,by omega⟩,Gq AA]
 |4,_=>cases hh;have hg:=hg _ rfl AB;simp only[xk]at hx hg;show trimB [_,_,_,_,_,_,_,_]=[n/4294967296 % 256,n/16777216 % 256,n/65536 % 256,n/256 % 256,n % 256];rw[BV ⟨by omega,by omega⟩,BV ⟨by omega,by omega⟩,BV ⟨by omega,by omega⟩,Gq AA]
 |5,_=>cases hh;have hg:=hg _ rfl AB;simp only[xk]at hx hg;show trimB [_,_,_,_,_,_,_,_]=[n/1099511627776 % 256,n/4294967296 % 256,n/16777216 % 256,n/65536 % 256,n/256 % 256,n % 256];rw[BV ⟨by omega,by omega⟩,BV ⟨by omega,by omega⟩,Gq AA]
theorem TI{n:Int}{h:Int}(h0:0<=n)(h1:n<=1099511627776)(hh:(Ef n)[7-5]? =some h):xk n 5=0/\h<128:=by
 cases hh;exact⟨by show n/256/256/256/256/256/256=0;omega,by show n/1099511627776 % 256<128;omega⟩
theorem Iq{n:Int}(hn:0<=n/\n<=1099511627776):Am prog 214 [int n] (agg (BE 2 (Oo n) false (slice 4 []))):=by
 refine Am.of func214 rfl rfl Af fun M0 w0=>?_;refine Tr.seq (Tr.Al ?_);refine Tl rfl rfl rfl rfl C1 Ca (fun b1=>?_);refine TO.nil (Fin.go (Tr.seq (Tr.Bk (cm rfl (co rfl (BX rfl underlying3 underlying5 (vl rfl)) (co rfl (AG (xs:=[.tmp 6]) (rows:=[[_]]) rfl rfl underlying180 D7 z5 rfl AB ⟨⟨AK,(Vo rfl)⟩,trivial⟩ AB) ?_))))));refine cm rfl (Ch.nil (Fin.go (Tr.seq (Tr.seq (Tr.Bk (cm rfl (co rfl (JS rfl (vl rfl) (vl rfl) AA) (cm rfl (Ch.nil (Fin.go (Tr.block ?_)))))))))));refine Tr.GA [(2,_)] ⟨ke rfl,trivial⟩ (fun(k:Nat)=>[(4,int (xk n k)),(3,KK ((Ef n).drop (7-k)))]) (fun(k:Nat)=>Hp M0 w0 Hj ([AF true b1 248 (([.int .i64 0,.slice none 0 0,.bool false,.slice none 0 0]:List Value).map is)])) (fun(k:Nat)=>k<=5/\0<=xk n k/\∀g,(Ef n)[8-k]? =some g->k≠0->xk n (k-1)≠0\/128<=g) (fun(k:Nat)=>6-k) (0)  (⟨by omega,by show 0<=n/256;omega,fun g _ h=>absurd rfl h⟩) ⟨ke rfl,⟨_,rfl,Pr.le_trans (Ak 1 _) (Pr.le_of_eq (by rw[IntKind.wrap_u8];rfl))⟩,trivial⟩ (fun _ _ h=>h) ?_;rintro k  ⟨hk1,hx0,hst⟩;obtain⟨h,hh⟩:=at_ (l:=Ef n) (k:=7-k) (show _<8 by omega);have hdg:=iK (n:=n) (k:=k) AA;have hdl:((Ef n).drop (7-k)).length=k+1:=by rw[List.length_drop];show 8-(7-k)=k+1;omega
 refine Tr.seq (Tr.seq (Tr.Bk (cm rfl (co rfl (ki rfl rfl rfl rfl) (cm rfl ?_)))));refine Ch.cs 12 rfl ?_ ?_<;>intro h1 q1
 have hx1:¬xk n k=0:=by have:=q1;omega
 refine Hq h1 rfl (cy h1 rfl (ki rfl rfl rfl rfl) (co rfl (Sb rfl rfl h1 rfl) (cm rfl ?_)));refine Ch.cs 16 rfl ?_ ?_<;>intro h2 q2
 have hgo:xk n k≠0\/128<=h:= .inl hx1;refine cnf h2 rfl (cnf h2 rfl (cnf h2 rfl ?_))
 iterate 4 refine cu rfl ?_
 refine cnf h2 rfl (co rfl (Sb rfl rfl h2 rfl) (cm rfl (cR rfl rfl (cR rfl rfl (cR rfl rfl ?_)))))
 iterate 4 refine cu rfl ?_
 refine cR rfl rfl (co rfl (Sb rfl rfl rfl rfl) (Ch.nil (Fin.go (eH 2 3 4 35 rfl (Tr.cond rfl (fun _=>?_) (fun h=>nomatch h))))));refine Tr.skip (Fin.go (Tr.seq (Tr.block (Tr.Al (tm rfl (tp rfl (BX rfl underlying3 underlying5 (vl rfl)) (tp rfl (AG (xs:=[.tmp 39]) (rows:=[[_]]) rfl rfl underlying180 D7 z5 rfl AB ⟨⟨AK,(Vo rfl)⟩,trivial⟩ AB) ?_)))))));refine tm rfl (TO.pad ?_);refine TO.EV 0 rfl rfl AB (Ba rfl rfl AB rfl underlying180 D7 Is z5 rfl AB (Kf rfl) (vl rfl) FU FV (BT BH (vl rfl))) (fun v1=>?_);refine tm rfl (TO.nil (Fin.block (Fin.go (Tr.Bk (cm rfl (co rfl (JS rfl (vl rfl) (vl rfl) AA) (cm rfl (Ch.nil (Fin.drop 0 ?_)))))))));exact Fin.Gc (k+1)  (⟨⟨by rcases Nat.lt_or_ge k 5 with h_|h_;omega;(obtain rfl:k=5:=by omega);have:=TI hn.1 hn.2 hh;omega,by show 0<=xk n k/256;omega,fun g hg _=>by rw[show 8-(k+1)=7-k by omega,hh]at hg;cases hg;exact hgo⟩,by omega⟩) ⟨ke rfl,⟨_,rfl,Pr.le_trans (As _ _) (Pr.le_of_eq SH)⟩,ke rfl,trivial⟩ (fun _ _ h=>h);exfalso;have:=q2;omega;have hx1:xk n k=0:=by have:=q1;omega
 refine cnt h1 rfl (cnt h1 rfl (co rfl (Sc rfl rfl h1 rfl) (cm rfl (Hq rfl rfl (cy rfl rfl (ki rfl rfl rfl rfl) (Hq rfl rfl ?_))))));refine Ch.cs 19 rfl ?_ ?_<;>intro h3 q3
 refine Hq h3 rfl (cy h3 rfl (AD rfl underlying180 D7 (vl rfl) (vl rfl) AA (TH hh)) (cy h3 rfl (FH rfl Y7 rfl) (cy h3 rfl (ki rfl rfl rfl rfl) (cy rfl rfl (Sb rfl rfl h3 rfl) (co rfl (Sc rfl rfl rfl rfl) (cm rfl ?_))))));refine Ch.cs 26 rfl ?_ ?_<;>intro h4 q4
 have hgo:xk n k≠0\/128<=h:= .inr (by have:=q4;omega);refine cnf h4 rfl (cnf h4 rfl (cnf h4 rfl ?_))
 iterate 4 refine cu rfl ?_
 refine cnf h4 rfl (co rfl (Sb rfl rfl h4 rfl) (Ch.nil (Fin.go (eH 2 3 4 35 rfl (Tr.cond rfl (fun _=>?_) (fun h=>nomatch h))))));refine Tr.skip (Fin.go (Tr.seq (Tr.block (Tr.Al (tm rfl (tp rfl (BX rfl underlying3 underlying5 (vl rfl)) (tp rfl (AG (xs:=[.tmp 39]) (rows:=[[_]]) rfl rfl underlying180 D7 z5 rfl AB ⟨⟨AK,(Vo rfl)⟩,trivial⟩ AB) ?_)))))));refine tm rfl (TO.pad ?_);refine TO.EV 0 rfl rfl AB (Ba rfl rfl AB rfl underlying180 D7 Is z5 rfl AB (Kf rfl) (vl rfl) FU FV (BT BH (vl rfl))) (fun v2=>?_);refine tm rfl (TO.nil (Fin.block (Fin.go (Tr.Bk (cm rfl (co rfl (JS rfl (vl rfl) (vl rfl) AA) (cm rfl (Ch.nil (Fin.drop 0 ?_)))))))));exact Fin.Gc (k+1)  (⟨⟨by rcases Nat.lt_or_ge k 5 with h_|h_;omega;(obtain rfl:k=5:=by omega);have:=TI hn.1 hn.2 hh;omega,by show 0<=xk n k/256;omega,fun g hg _=>by rw[show 8-(k+1)=7-k by omega,hh]at hg;cases hg;exact hgo⟩,by omega⟩) ⟨ke rfl,⟨_,rfl,Pr.le_trans (As _ _) (Pr.le_of_eq SH)⟩,ke rfl,trivial⟩ (fun _ _ h=>h);have hh1:h<128:=by have:=q4;omega
 have hex:=iL hn.1 hn.2 hk1 hh hx1 hh1 hst;refine Hq h4 rfl (cy h4 rfl (ki rfl rfl rfl rfl) (Hq h4 rfl ?_));refine Ch.cs 29 rfl ?_ ?_<;>intro h5 q5
 exfalso;have:=q5;omega
 iterate 4 refine cnt h5 rfl ?_
 refine cy h4 rfl (Sc rfl rfl h5 rfl) (co rfl (Sc rfl rfl h4 rfl) (Ch.nil (Fin.go (eH 2 3 4 35 rfl (Tr.cond rfl (fun h=>nomatch h) (fun _=>?_))))));refine Tr.exit (Fin.BJ (Fin.BJ (Fin.Bv (Fin.go (Tr.seq (Tr.Al (tm rfl (tp rfl (Ad (rows:=[(0,[_]),(1,[_])]) rfl KU Ca ⟨⟨rfl,(Vo rfl)⟩,⟨⟨rfl,(Vo rfl)⟩,trivial⟩⟩ rfl) (TO.Aa 0 rfl rfl rfl (vl rfl) (Va rfl) rfl Aq rfl rfl (TO.nil (Fin.go (Tr.ret (Fin.Br rfl (AZ.cell 0 rfl rfl BA Aq rfl (Lr)) ?_)))))))))))))
 .exact Ny
 exfalso;have:=q3;omega
def Ml(n:Int):Lv:=⟨2,Oo n,.inr (.inl rfl),by have:=Xx n;omega⟩
def PF(s:List UInt8):Lv:=⟨12,(Q3 s).take 64,.inr (.inr rfl),by rw[List.length_take];omega⟩
def lfB(b:Bool):Lv:=⟨1,Xw b,.inl rfl,by cases b<;>decide⟩
def QC(a b:Int):Ev:= .nd [Ml a,Ml b] AO
def Ke(c:Cn):List Ev:=[.lf (Ml c.FK),.lf (PF c.EZ),.lf (PF c.DY),QC c.JJ c.Fh,.lf (Ml c.Da),QC c.J6 c.IG,.lf (Ml c.from_),.lf (Ml c.CW),.lf (lfB c.auth),.lf (Ml c.path),.nd ((c.names.map PF).take 20) Jp]
def UW(c:Cn):List Int:=KB 48 ((Ke c).flatMap HJ)
theorem TJ{s:List UInt8}(h:s.length<=64):Er (PF s)=BE 12 (Q3 s) false (slice 4 []):=by
 show BE 12 ((Q3 s).take 64) false _=_;rw[List.take_of_length_le (by unfold Q3;rw[List.length_map];exact h)]
instance {e:Ev}:One e.q:=by cases e<;>exact inferInstanceAs (One (slice _ _))
abbrev nV:Pr:=slice 4 []
theorem df0(x:Lv):Am Tryz.prog 405 [agg (Er x)] (bool true):=KE (α:=Empty) (T:=fun _=>0) (B:=fun _=>[]) (N:=fun _=>false) (Q:=fun _=>nV) (l:=[]) ⟨.inl ⟨rfl,x.ht,rfl⟩⟩ (fun x=>x.elim)
theorem df1(x:Ev):Am Tryz.prog 405 [agg (CO x)] (bool true):=by
 cases x with
 |lf x=>exact df0 x
 |nd l h=>exact KE (T:=Lv.t) (B:=Lv.b) (N:=fun _=>false) (Q:=fun _=>nV) (l:=l) ⟨.inr ⟨rfl,rfl,rfl⟩⟩ df0
theorem dd0(x:Lv):Am Tryz.prog 406 [agg (Er x)] (Cp.ex fun d:Int=>fact (0<=d/\d<=(1:Nat)) (int d)):=MN (α:=Empty) (T:=fun _=>0) (B:=fun _=>[]) (N:=fun _=>false) (Q:=fun _=>nV) (l:=[]) (m:=0) (fun x=>x.elim) AA
theorem TK{n:Nat}(h:m<=n):Pr.le (Cp.ex fun d:Int=>fact (0<=d/\d<=(m:Nat)) (int d)) (Cp.ex fun d:Int=>fact (0<=d/\d<=(n:Nat)) (int d)):=fun _ _ _ ⟨d,hd,hv⟩=>⟨d,by omega,hv⟩
theorem dd1(x:Ev):Am Tryz.prog 406 [agg (CO x)] (Cp.ex fun d:Int=>fact (0<=d/\d<=(2:Nat)) (int d)):=by
 cases x with
 |lf x=>exact(dd0 x).le (fun _ _ _ h=>h) (TK AA)
 |nd l h=>exact MN (T:=Lv.t) (B:=Lv.b) (N:=fun _=>false) (Q:=fun _=>nV) (l:=l) (m:=1) dd0 AA
theorem de0(x:Lv)(v:Value)(p:Pr)(bs:List Int)(h:bs.length<=20000):BW Tryz.prog 407 [An v p,agg (Er x)] (lens (IC (bs++FN x)).length) (BM 5 1 (IC bs) v) (fun v=>BM 5 1 (IC (bs++FN x)) v):=
 On (t:=x.t) (c:=x.b) (Om (α:=Empty) (T:=fun _=>0) (B:=fun _=>[]) (N:=fun _=>false) (Q:=fun _=>nV) (l:=[]) (g:=fun _=>[]) (M:=0) (fun x=>x.elim) (fun x=>x.elim) (Nat.zero_le _)) h (by have:=x.hb;omega) (by have:=x.ht;omega)
theorem de1(x:Ev)(v:Value)(p:Pr)(bs:List Int)(h:bs.length<=20000):BW Tryz.prog 407 [An v p,agg (CO x)] (lens (IC (bs++HJ x)).length) (BM 5 1 (IC bs) v) (fun v=>BM 5 1 (IC (bs++HJ x)) v):=by
 cases x with
 |lf x=>exact de0 x v p bs h
 |nd l hl=>
  have h68:l.length*68<=20*68:=Nat.mul_le_mul_right 68 hl;have hf:=Gj (g:=FN) l fun x _=>GK x;exact On (t:=48) (c:=l.flatMap FN) (Om (T:=Lv.t) (B:=Lv.b) (N:=fun _=>false) (Q:=fun _=>nV) (l:=l) (g:=FN) (M:=68) de0 (fun x _=>GK x) AA) h AA AA
theorem dp0(x:Lv):Am Tryz.prog 429 [nV] nV:=KF (α:=Empty) (T:=fun _=>0) (B:=fun _=>[]) (N:=fun _=>false) (Q:=fun _=>nV) (l:=[]) (fun x=>x.elim) (fun x=>x.elim) (Nat.zero_le _)
theorem dp1(l:List Lv)(h:l.length<=20):Am Tryz.prog 429 [slice 4 (l.map Er)] (slice 4 (l.map Er)):=KF (T:=Lv.t) (B:=Lv.b) (N:=fun _=>false) (Q:=fun _=>nV) dp0 (fun x=>by have:=x.hb;omega) AA
theorem dp2(l:List Ev)(h:l.length<=20):Am Tryz.prog 429 [slice 4 (l.map CO)] (slice 4 (l.map CO)):=
 KF (T:=Ev.t) (B:=Ev.b) (N:=Ev.n) (Q:=Ev.q) (fun x=>by cases x with|lf x=>exact dp0 x|nd l h=>exact dp1 l h) (fun x=>by cases x with|lf x=>have:=x.hb;show x.b.length<=_;omega|nd l h=>exact Nat.zero_le _) AA
theorem UX(c:Cn):((Ke c).flatMap HJ).length<=15004:=by
 have h:=Gj (g:=HJ) (B:=1364) (Ke c) fun x _=>KC x;rw[show(Ke c).length=11 from rfl]at h;omega
abbrev ak(c:Cn):Pr:=agg (BE 48 [] true (slice 4 ((Ke c).map CO)))
abbrev oy(e:List Int):Pr:=D8 [KK (if 4096<e.length then[]else e),int (if 4096<e.length then 3 else 0)]
theorem dE2(c:Cn):Am Tryz.prog 397 [ak c] (oy (UW c)):=
 US (KE (T := Ev.t) (B := Ev.b) (N := Ev.n) (Q := Ev.q) ⟨.inr ⟨rfl, rfl, rfl⟩⟩ df1) ((MN (T := Ev.t) (B := Ev.b) (N := Ev.n) (Q := Ev.q) (m := 2) dd1 AA).le (fun _ _ _ h => h) (TK AA))
  (fun v p=>On (bs:=[]) (t:=48) (c:=(Ke c).flatMap HJ) (Om (T:=Ev.t) (B:=Ev.b) (N:=Ev.n) (Q:=Ev.q) (g:=HJ) (M:=1364) de1 (fun x _=>KC x) (show 11*1364<=20000 by decide)) (Nat.zero_le _) (by have:=UX c;omega) AA)
theorem xf0(x:Lv):Am Tryz.prog 209 [agg (Er x)] (bool true):=KG (α:=Empty) (T:=fun _=>0) (B:=fun _=>[]) (N:=fun _=>false) (Q:=fun _=>nV) (l:=[]) ⟨.inl ⟨rfl,x.ht,rfl⟩⟩ (fun x=>x.elim)
theorem xf1(x:Ev):Am Tryz.prog 209 [agg (CO x)] (bool true):=by
 cases x with
 |lf x=>exact xf0 x
 |nd l h=>exact KG (T:=Lv.t) (B:=Lv.b) (N:=fun _=>false) (Q:=fun _=>nV) (l:=l) ⟨.inr ⟨rfl,rfl,rfl⟩⟩ xf0
theorem xd0(x:Lv):Am Tryz.prog 210 [agg (Er x)] (Cp.ex fun d:Int=>fact (0<=d/\d<=(1:Nat)) (int d)):=MO (α:=Empty) (T:=fun _=>0) (B:=fun _=>[]) (N:=fun _=>false) (Q:=fun _=>nV) (l:=[]) (m:=0) (fun x=>x.elim) AA
theorem xd1(x:Ev):Am Tryz.prog 210 [agg (CO x)] (Cp.ex fun d:Int=>fact (0<=d/\d<=(2:Nat)) (int d)):=by
 cases x with
 |lf x=>exact(xd0 x).le (fun _ _ _ h=>h) (TK AA)
 |nd l h=>exact MO (T:=Lv.t) (B:=Lv.b) (N:=fun _=>false) (Q:=fun _=>nV) (l:=l) (m:=1) xd0 AA
theorem xp0(x:Lv):Am Tryz.prog 211 [agg (Er x)] (KK (FN x)):=
 (Rv (α:=Empty) (T:=fun _=>0) (B:=fun _=>[]) (N:=fun _=>false) (Q:=fun _=>nV) (l:=[]) (g:=fun _=>[]) (M:=0) (fun x=>x.elim) (fun x=>x.elim) (Nat.zero_le _) (by have:=x.hb;omega) (by have:=x.ht;omega)).le (fun _ _ _ h=>h) (Pr.le_of_eq (by show KK (KB x.t (x.b++[]))=_;rw[List.append_nil];rfl))
theorem xp1(x:Ev):Am Tryz.prog 211 [agg (CO x)] (KK (HJ x)):=by
 cases x with
 |lf x=>exact xp0 x
 |nd l hl=>
  have h68:l.length*68<=20*68:=Nat.mul_le_mul_right 68 hl;exact Rv (T:=Lv.t) (B:=Lv.b) (N:=fun _=>false) (Q:=fun _=>nV) (l:=l) (g:=FN) (M:=68) xp0 (fun x _=>GK x) AA (Nat.zero_le _) (show(0:Int)<=48/\(48:Int)<256 by omega)
theorem xc0(x:Lv):Am Tryz.prog 257 [nV] nV:=KH (α:=Empty) (T:=fun _=>0) (B:=fun _=>[]) (N:=fun _=>false) (Q:=fun _=>nV) (l:=[]) (fun x=>x.elim) (fun x=>x.elim) (Nat.zero_le _)
theorem xc1(l:List Lv)(h:l.length<=20):Am Tryz.prog 257 [slice 4 (l.map Er)] (slice 4 (l.map Er)):=KH (T:=Lv.t) (B:=Lv.b) (N:=fun _=>false) (Q:=fun _=>nV) xc0 (fun x=>by have:=x.hb;omega) AA
theorem xc2(l:List Ev)(h:l.length<=20):Am Tryz.prog 257 [slice 4 (l.map CO)] (slice 4 (l.map CO)):=
 KH (T:=Ev.t) (B:=Ev.b) (N:=Ev.n) (Q:=Ev.q) (fun x=>by cases x with|lf x=>exact xc0 x|nd l h=>exact xc1 l h) (fun x=>by cases x with|lf x=>have:=x.hb;show x.b.length<=_;omega|nd l h=>exact Nat.zero_le _) AA
theorem xE2(c:Cn):Am Tryz.prog 156 [ak c] (oy (UW c)):=
 UU (KG (T := Ev.t) (B := Ev.b) (N := Ev.n) (Q := Ev.q) ⟨.inr ⟨rfl, rfl, rfl⟩⟩ xf1) ((MO (T := Ev.t) (B := Ev.b) (N := Ev.n) (Q := Ev.q) (m := 2) xd1 AA).le (fun _ _ _ h => h) (TK AA))
  (Rv (T:=Ev.t) (B:=Ev.b) (N:=Ev.n) (Q:=Ev.q) (g:=HJ) (M:=1364) xp1 (fun x _=>KC x) (show 11*1364<=20000 by decide) (Nat.zero_le _) AA)
theorem H6{s:List UInt8}(h:named s=true):s.length<=32:=by unfold named at h;simp at h;omega
theorem aq:∀r∈EH,∀x∈r.sizes,0<=x/\x<=40000:=by decide+kernel
theorem LC{a b k:Int}(h:E6 a b k=true):(0<=a/\a<=40000)/\(0<=b/\b<=40000):=by
 have h1:=(Rj h).1;rw[decide_eq_true_eq]at h1;unfold Bf at h1
 split at h1
 next ha=>
  refine⟨by omega,?_⟩
  split at h1
  .split at h1<;>omega
  .
   split at h1
   .split at h1<;>omega
   .
    split at h1
    .
     split at h1
     next hc=>
      obtain⟨x,hx,hb⟩:=List.any_eq_true.1 hc;simp only[Mw,List.mem_cons,List.not_mem_nil,or_false]at hx;have:b=x:=by simpa using hb
      omega
     .omega
    .
     split at h1
     .
      split at h1
      next hc=>
       have hn:(Cl a).sizes.any (fun x=>b==x)=true:=by
        cases he:(Cl a).sizes.any (fun x=>b==x)with
        |true=>rfl
        |false=>
         have:=Hv (fun x=>b==x) (Cl a).sizes;rw[he]at this;simp at this;omega
       obtain⟨x,hx,hb⟩:=List.any_eq_true.1 hn;have:b=x:=by simpa using hb
       subst this;exact aq _ (Ty ha) _ hx
      .omega
     .omega
 .omega
def MP(c:Cn):List Int×Int:=if BD c then(if 4096<(UW c).length then([],3)else(UW c,0))else([],9)
def Nf(s x:Int):Int:=IntKind.u32.wrap (iE .xor .u32 s (IntKind.u32.wrap x)*16777619)
def iM(l:List Int):Int:=IntKind.i64.wrap (l.foldl Nf 2166136261)
def Kg(c:Cn)(key:Int):Bool:=decide ((MP c).2=0)&&decide (c.H9=key/\c.XK=iM (MP c).1)
theorem Ng{x s:Int}(h:l[k]? =some x):(l.take (k+1)).foldl Nf s=Nf ((l.take k).foldl Nf s) x:=by rw[ER h,List.foldl_append];rfl
theorem QD{c:Cn}(h:BD c=true):MP c=(if 4096<(UW c).length then([],3)else(UW c,0)):=if_pos h
theorem MQ{s:List UInt8}(hs:s.length<=64):Am Tryz.prog 408 [str s] (agg (Er (PF s))):=by
 rw[TJ hs];exact aa AA
theorem Xz{a b:Int}(ha:0<=a/\a<=40000)(hb:0<=b/\b<=40000):Am prog 411 [agg [int a,int b]] (agg (CO (QC a b))):=by
 refine fo func411 rfl ⟨rfl,rfl⟩ fun M0 w0=>(Tr.seq (Tr.Al (tp rfl (Bc rfl Ce) ?_)));refine Tl rfl rfl rfl rfl C1 Ca (fun b1=>?_);refine ap ?_;refine Tr.seq (Tr.rx ?_);refine ay ?_;refine xo rfl (fun _=>BQ (Ip AA) rfl rfl) ?_;refine ay ?_;refine xo rfl (fun _=>BQ (Ip AA) rfl rfl) (xo rfl (fun _=>AG (xs:=[.tmp 5,.tmp 8]) (rows:=[_,_]) rfl rfl underlying246 Aq C1 rfl AB ⟨⟨AK,(Va rfl)⟩,⟨⟨AK,(Va rfl)⟩,trivial⟩⟩ AB) ?_);refine xo rfl (fun _=>AQ rfl (Xv (T:=Lv.t) (B:=Lv.b) (N:=fun _=>false) (Q:=fun _=>nV) (l:=[Ml a,Ml b]) (dp1 _ AO)) ⟨⟨_,rfl,Ak 4 _⟩,trivial⟩) ?_;refine Cx.Ej 0 rfl rfl (BG rfl rfl vq Ce Aq rfl Af rfl) ?_;refine Cx.nil ⟨by kernel_rfl,?_⟩;refine CF.done Z0 (Fin.go (Tr.ret (Fin.Br rfl (AZ.cell 0 rfl rfl BA Aq rfl Lr) ?_)))
 .exact Lr
theorem av{c:Cn}(hv:BD c=true):Am prog 398 [agg (CM c)] (ak c):=by
 refine fo func398 rfl ⟨rfl,rfl⟩ fun M0 w0=>?_;obtain⟨hs0,hs1,Ko,hsub,hnm,hkey,hk0,hk1,NW,gb,gh,gj,gl,hf0,hft,ht1,Yx,mN,hap⟩:=FT hv;have U2:=LC hkey;have oz:=LC NW;have E4:=hnm;unfold CV at E4;rw[Bool.and_eq_true,Be,decide_eq_true_eq]at E4;obtain⟨hall,XW⟩:=E4;have Qd:=H6 Ko;have U3:=H6 hsub;refine Tr.seq (Tr.Al (tp rfl (Bc rfl Ce) ?_));refine Tl rfl rfl rfl rfl C1 Ca (fun b1=>?_);refine ap ?_;refine a2 ?_;refine Tr.block (Tr.Cm 248 4 (Tr.Fv _ (kk [8,7,2,1] rfl) (fun k v=>[(9,int ((k:Nat):Int)),(3,An v (slice 4 (((c.names.map PF).take k).map Er)))]) (fun k v=>Hp M0 w0 Hj ([A8 248 4 v,AF true b1 248 (([.int .i64 0,.slice none 0 0,.bool false,.slice none 0 0]:List Value).map is)])) (fun k:Nat=>k<=(c.names).length) (fun k:Nat=>(c.names).length-k) 0 (.slice none 0 0) (Nat.zero_le _) ⟨kq,⟨_,rfl,CG rfl⟩,trivial⟩ (fun _ _ h=>h) ?_));rintro k v BR;refine ac ?_;refine Tr.seq ?_;refine Tr.cn rfl ?_ ?_<;>intro h1 q1
 have Ae:k<(c.names).length:=AV h1;obtain⟨s,Ag⟩:=at_ Ae;have hsn:=H6 (Hy (hall k AA) Ag);refine ac ?_;refine Tr.seq (Tr.block (Tr.seq (Tr.Bk (co rfl (AD rfl underlying67 G4 vq vq AA (Aj Ag)) ?_))));refine ac ?_;refine ap ?_;refine tp rfl (BQ (MQ AA) rfl rfl) (tp rfl (AG (xs:=[.tmp 15]) (rows:=[_]) rfl rfl underlying246 Aq C1 rfl AB ⟨⟨AK,(Va rfl)⟩,trivial⟩ AB) ?_);refine TO.EV 0 rfl rfl AB (Ba rfl rfl AB rfl underlying246 Aq NG C1 rfl AB It Cs FU FV (Bx BH Jd)) (fun v1=>?_);refine ap ?_;refine wk [9,8,7,3,2,1] rfl ?_;refine ac ?_;exact Fin.IE (k+1) v1 (⟨Ae,by omega⟩) ⟨⟨_,rfl,AM k⟩,⟨_,rfl,B7 Vq⟩,kz⟩ (fun _ _ h=>h);have BB:k=(c.names).length:=by have:=AW h1;omega
 refine ac ?_;refine Tr.seq (Tr.rx ?_);refine ay ?_;refine xo rfl (fun _=>BQ (Ip AA) rfl rfl) ?_;refine ay ?_;refine xo rfl (fun _=>BQ (MQ AA) rfl rfl) ?_;refine ay ?_;refine xo rfl (fun _=>BQ (MQ AA) rfl rfl) ?_;refine ay ?_;refine xo rfl (fun _=>BQ (Xz U2.1 U2.2) rfl rfl) ?_;refine ay ?_;refine xo rfl (fun _=>BQ (Ip AA) rfl rfl) ?_;refine ay ?_;refine xo rfl (fun _=>BQ (Xz oz.1 oz.2) rfl rfl) ?_;refine ay ?_;refine xo rfl (fun _=>BQ (Ip AA) rfl rfl) ?_;refine ay ?_;refine xo rfl (fun _=>BQ (Ip AA) rfl rfl) ?_;refine ay ?_;refine xo rfl (fun _=>BQ (af) rfl rfl) ?_;refine ay ?_;refine xo rfl (fun _=>BQ (Ip AA) rfl rfl) (xm rfl ?_);refine xo rfl (fun _=>AQ rfl (aZ (T:=Lv.t) (B:=Lv.b) (N:=fun _=>false) (Q:=fun _=>nV) (l:=(c.names.map PF).take 20) (dp1 _ Jp)) ⟨⟨_,rfl,Pr.le_trans (As _ _) (Pr.le_of_eq VZ)⟩,trivial⟩) ?_;refine xo rfl (fun _=>AG (xs:=[.tmp 21,.tmp 24,.tmp 27,.tmp 30,.tmp 33,.tmp 36,.tmp 39,.tmp 42,.tmp 45,.tmp 48,.tmp 50]) (rows:=[CO (.lf (Ml c.FK)),CO (.lf (PF c.EZ)),CO (.lf (PF c.DY)),CO (QC c.JJ c.Fh),CO (.lf (Ml c.Da)),CO (QC c.J6 c.IG),CO (.lf (Ml c.from_)),CO (.lf (Ml c.CW)),CO (.lf (lfB c.auth)),CO (.lf (Ml c.path)),CO (.nd ((c.names.map PF).take 20) Jp)]) rfl rfl underlying246 Aq C1 rfl AB ⟨⟨AK,VL.le (vl rfl) (AE _)⟩,⟨⟨AK,VL.le (vl rfl) (AE _)⟩,⟨⟨AK,VL.le (vl rfl) (AE _)⟩,⟨⟨AK,VL.le (vl rfl) (AE _)⟩,⟨⟨AK,VL.le (vl rfl) (AE _)⟩,⟨⟨AK,VL.le (vl rfl) (AE _)⟩,⟨⟨AK,VL.le (vl rfl) (AE _)⟩,⟨⟨AK,VL.le (vl rfl) (AE _)⟩,⟨⟨AK,VL.le (vl rfl) (AE _)⟩,⟨⟨AK,VL.le (vl rfl) (AE _)⟩,⟨⟨AK,VL.le (vl rfl) (AE _)⟩,trivial⟩⟩⟩⟩⟩⟩⟩⟩⟩⟩⟩ AB) ?_;refine xo rfl (fun _=>AQ rfl (Xv (T:=Ev.t) (B:=Ev.b) (N:=Ev.n) (Q:=Ev.q) (l:=Ke c) (dp2 _ (show 11<=20 by decide))) ⟨⟨_,rfl,Ak 4 _⟩,trivial⟩) ?_;refine Cx.Ej 1 rfl rfl (BG rfl rfl vq Ce Aq rfl Af rfl) ?_;refine Cx.nil ⟨by kernel_rfl,?_⟩;refine CF.done dP (Fin.go (wk [2] rfl (Tr.ret (Fin.Br rfl (AZ.cell 1 rfl rfl BA Aq rfl Lr) ?_))))
 .exact Lr
theorem MR{s:List UInt8}(hs:s.length<=64):Am Tryz.prog 212 [str s] (agg (Er (PF s))):=by
 rw[TJ hs];exact ah AA
theorem X0{a b:Int}(ha:0<=a/\a<=40000)(hb:0<=b/\b<=40000):Am prog 215 [agg [int a,int b]] (agg (CO (QC a b))):=by
 refine fo func215 rfl ⟨rfl,rfl⟩ fun M0 w0=>(Tr.seq (Tr.Al (tp rfl (Bc rfl Ce) ?_)));refine Tl rfl rfl rfl rfl C1 Ca (fun b1=>?_);refine ap ?_;refine Tr.seq (Tr.rx ?_);refine ay ?_;refine xo rfl (fun _=>BQ (Iq AA) rfl rfl) ?_;refine ay ?_;refine xo rfl (fun _=>BQ (Iq AA) rfl rfl) (xo rfl (fun _=>AG (xs:=[.tmp 5,.tmp 8]) (rows:=[_,_]) rfl rfl underlying246 Aq C1 rfl AB ⟨⟨AK,(Va rfl)⟩,⟨⟨AK,(Va rfl)⟩,trivial⟩⟩ AB) ?_);refine xo rfl (fun _=>AQ rfl (Oq (T:=Lv.t) (B:=Lv.b) (N:=fun _=>false) (Q:=fun _=>nV) (l:=[Ml a,Ml b]) (xc1 _ AO)) ⟨⟨_,rfl,Ak 4 _⟩,trivial⟩) ?_;refine Cx.Ej 0 rfl rfl (BG rfl rfl vq Ce Aq rfl Af rfl) ?_;refine Cx.nil ⟨by kernel_rfl,?_⟩;refine CF.done Z0 (Fin.go (Tr.ret (Fin.Br rfl (AZ.cell 0 rfl rfl BA Aq rfl Lr) ?_)))
 .exact Lr
theorem az{c:Cn}(hv:BD c=true):Am prog 157 [agg (CM c)] (ak c):=by
 refine fo func157 rfl ⟨rfl,rfl⟩ fun M0 w0=>?_;obtain⟨hs0,hs1,Ko,hsub,hnm,hkey,hk0,hk1,NW,gb,gh,gj,gl,hf0,hft,ht1,Yx,mN,hap⟩:=FT hv;have U2:=LC hkey;have oz:=LC NW;have E4:=hnm;unfold CV at E4;rw[Bool.and_eq_true,Be,decide_eq_true_eq]at E4;obtain⟨hall,XW⟩:=E4;have Qd:=H6 Ko;have U3:=H6 hsub;refine Tr.seq (Tr.Al (tp rfl (Bc rfl Ce) ?_));refine Tl rfl rfl rfl rfl C1 Ca (fun b1=>?_);refine ap ?_;refine a2 ?_;refine Tr.block (Tr.Cm 248 4 (Tr.Fv _ (kk [2,1] rfl) (fun k v=>[(4,int ((k:Nat):Int)),(3,An v (slice 4 (((c.names.map PF).take k).map Er)))]) (fun k v=>Hp M0 w0 Hj ([A8 248 4 v,AF true b1 248 (([.int .i64 0,.slice none 0 0,.bool false,.slice none 0 0]:List Value).map is)])) (fun k:Nat=>k<=(c.names).length) (fun k:Nat=>(c.names).length-k) 0 (.slice none 0 0) (Nat.zero_le _) ⟨kq,⟨_,rfl,CG rfl⟩,trivial⟩ (fun _ _ h=>h) ?_));rintro k v BR;refine an ?_ ?_<;>intro h1 q1
 have Ae:k<(c.names).length:=AV h1;obtain⟨s,Ag⟩:=at_ Ae;have hsn:=H6 (Hy (hall k AA) Ag);refine ac ?_;refine ap ?_;refine tp rfl (AD rfl underlying67 G4 vq vq AA DL) ?_;refine tp rfl (FH rfl J0 rfl) (tp rfl (BQ (MR AA) rfl rfl) (tp rfl (AG (xs:=[.tmp 18]) (rows:=[_]) rfl rfl underlying246 Aq C1 rfl AB ⟨⟨AK,(Va rfl)⟩,trivial⟩ AB) ?_));refine TO.EV 0 rfl rfl AB (Ba rfl rfl AB rfl underlying246 Aq NG C1 rfl AB It Cs FU FV (Bx BH Jd)) (fun v1=>?_);refine ap ?_;refine wk [4,3,2,1] rfl ?_;refine ac ?_;exact Fin.IE (k+1) v1 (⟨Ae,by omega⟩) ⟨⟨_,rfl,AM k⟩,⟨_,rfl,B7 Vq⟩,kz⟩ (fun _ _ h=>h);have BB:k=(c.names).length:=by have:=AW h1;omega
 refine ac ?_;refine Tr.seq (Tr.rx ?_);refine ay ?_;refine xo rfl (fun _=>BQ (Iq AA) rfl rfl) ?_;refine ay ?_;refine xo rfl (fun _=>BQ (MR AA) rfl rfl) ?_;refine ay ?_;refine xo rfl (fun _=>BQ (MR AA) rfl rfl) ?_;refine ay ?_;refine xo rfl (fun _=>BQ (X0 U2.1 U2.2) rfl rfl) ?_;refine ay ?_;refine xo rfl (fun _=>BQ (Iq AA) rfl rfl) ?_;refine ay ?_;refine xo rfl (fun _=>BQ (X0 oz.1 oz.2) rfl rfl) ?_;refine ay ?_;refine xo rfl (fun _=>BQ (Iq AA) rfl rfl) ?_;refine ay ?_;refine xo rfl (fun _=>BQ (Iq AA) rfl rfl) ?_;refine ay ?_;refine xo rfl (fun _=>BQ (aj) rfl rfl) ?_;refine ay ?_;refine xo rfl (fun _=>BQ (Iq AA) rfl rfl) (xm rfl ?_);refine xo rfl (fun _=>AQ rfl (Oq (T:=Lv.t) (B:=Lv.b) (N:=fun _=>false) (Q:=fun _=>nV) (l:=(c.names.map PF).take 20) (xc1 _ Jp)) ⟨⟨_,rfl,Pr.le_trans (As _ _) (Pr.le_of_eq VZ)⟩,trivial⟩) ?_;refine xo rfl (fun _=>AG (xs:=[.tmp 23,.tmp 26,.tmp 29,.tmp 32,.tmp 35,.tmp 38,.tmp 41,.tmp 44,.tmp 47,.tmp 50,.tmp 52]) (rows:=[CO (.lf (Ml c.FK)),CO (.lf (PF c.EZ)),CO (.lf (PF c.DY)),CO (QC c.JJ c.Fh),CO (.lf (Ml c.Da)),CO (QC c.J6 c.IG),CO (.lf (Ml c.from_)),CO (.lf (Ml c.CW)),CO (.lf (lfB c.auth)),CO (.lf (Ml c.path)),CO (.nd ((c.names.map PF).take 20) Jp)]) rfl rfl underlying246 Aq C1 rfl AB ⟨⟨AK,VL.le (vl rfl) (AE _)⟩,⟨⟨AK,VL.le (vl rfl) (AE _)⟩,⟨⟨AK,VL.le (vl rfl) (AE _)⟩,⟨⟨AK,VL.le (vl rfl) (AE _)⟩,⟨⟨AK,VL.le (vl rfl) (AE _)⟩,⟨⟨AK,VL.le (vl rfl) (AE _)⟩,⟨⟨AK,VL.le (vl rfl) (AE _)⟩,⟨⟨AK,VL.le (vl rfl) (AE _)⟩,⟨⟨AK,VL.le (vl rfl) (AE _)⟩,⟨⟨AK,VL.le (vl rfl) (AE _)⟩,⟨⟨AK,VL.le (vl rfl) (AE _)⟩,trivial⟩⟩⟩⟩⟩⟩⟩⟩⟩⟩⟩ AB) ?_;refine xo rfl (fun _=>AQ rfl (Oq (T:=Ev.t) (B:=Ev.b) (N:=Ev.n) (Q:=Ev.q) (l:=Ke c) (xc2 _ (show 11<=20 by decide))) ⟨⟨_,rfl,Ak 4 _⟩,trivial⟩) ?_;refine Cx.Ej 1 rfl rfl (BG rfl rfl vq Ce Aq rfl Af rfl) ?_;refine Cx.nil ⟨by kernel_rfl,?_⟩;refine CF.done dP (Fin.go (wk [2] rfl (Tr.ret (Fin.Br rfl (AZ.cell 1 rfl rfl BA Aq rfl Lr) ?_))))
 .exact Lr
theorem X1{c:Cn}(hc:c.fits):Am prog 384 [agg (CM c)] (D8 [KK (MP c).1,int (MP c).2]):=by
 refine fo func384 rfl ⟨rfl,rfl⟩ fun M0 w0=>?_;refine a2 ?_;refine co rfl (BQ (Py hc) rfl rfl) ?_;refine an ?_ ?_<;>intro h1 q1
 have hv:¬BD c=true:=fun h_=>absurd h1 K3;have hB:MP c=([],9):=if_neg hv;refine ac ?_;refine Tr.ret (Fin.AP (Fin.EC rfl (Cy.GV _ _) rfl ?_ rfl ?_))
 .rw[hB];exact AL 1
 .exact int_eq (by rw[hB])
 have hv:BD c=true:=by cases a_:BD c with|true=>rfl|false=>exact absurd h1 (by rw[a_];decide)
 have hB:=QD hv;refine a2 ?_;refine co rfl (BQ (av hv) rfl rfl) (co rfl (BQ (dE2 c) rfl rfl) ?_);refine ac ?_;refine Tr.ret (Fin.EC rfl (Cy.GV _ _) rfl ?_ rfl ?_)
 .rw[hB];exact Pr.le_of_eq (by split<;>rfl)
 .exact int_eq (by rw[hB];split<;>rfl)
theorem X2{c:Cn}  :Am prog 88 [agg (CM c)] (D8 [KK (MP c).1,int (MP c).2]):=by
 refine fo func88 rfl ⟨rfl,rfl⟩ fun M0 w0=>?_;refine a2 ?_;refine co rfl (BQ (Im (c:=c)) rfl rfl) ?_;refine an ?_ ?_<;>intro h1 q1
 have hv:¬BD c=true:=fun h_=>absurd h1 K3;have hB:MP c=([],9):=if_neg hv;refine ac ?_;refine Tr.ret (Fin.AP (Fin.EC rfl (Cy.GV _ _) rfl ?_ rfl ?_))
 .rw[hB];exact AL 1
 .exact int_eq (by rw[hB])
 have hv:BD c=true:=by cases a_:BD c with|true=>rfl|false=>exact absurd h1 (by rw[a_];decide)
 have hB:=QD hv;refine a2 ?_;refine co rfl (BQ (az hv) rfl rfl) (co rfl (BQ (xE2 c) rfl rfl) ?_);refine ac ?_;refine Tr.ret (Fin.EC rfl (Cy.GV _ _) rfl ?_ rfl ?_)
 .rw[hB];exact Pr.le_of_eq (by split<;>rfl)
 .exact int_eq (by rw[hB];split<;>rfl)
theorem iN:Am prog 385 [KK l] (int (iM l)):=by
 refine fo func385 rfl ⟨rfl,rfl⟩ fun M0 w0=>(Tr.D6 0 rfl fun DZ=>?_);refine a3 ?_;refine Tr.block (Tr.BP _ (kk [7,6] rfl) (fun k:Nat=>[(8,int ((k:Nat):Int)),(3,is (.int .u32 ((l.take k).foldl Nf 2166136261)))]) (fun k:Nat=>k<=(l).length) (fun k:Nat=>(l).length-k) 0 (Nat.zero_le _) ⟨kq,kz⟩ ?_);rintro k BR;refine ac ?_;refine Tr.seq ?_;refine Tr.cn rfl ?_ ?_<;>intro h1 q1
 have Ae:k<(l).length:=AV h1;obtain⟨x,Ag⟩:=at_ Ae;refine ac ?_;refine Tr.seq (Tr.block (Tr.seq (Tr.Bk (co rfl (AD rfl underlying180 D7 vq vq AA (Aj Ag)) ?_))));refine a2 ?_;refine co rfl (BX rfl underlying5 underlying169 vq) (co rfl (LB AB rfl vq vq) ?_);refine ac ?_;refine wk [8,7,6,3] rfl ?_;refine ac ?_;exact Fin.AR (k+1) ⟨Ae,by omega⟩ ⟨⟨_,rfl,AM k⟩,⟨_,rfl,Pr.le_of_eq (by rw[Ng Ag];rfl)⟩,kz⟩;have BB:k=(l).length:=by have:=AW h1;omega
 subst BB;rw[List.take_length];refine a2 ?_;refine co rfl (BX rfl underlying169 underlying3 vq) ?_;refine a2 ?_
 .exact Lr
theorem iO:Am prog 89 [KK l] (int (iM l)):=by
 refine fo func89 rfl ⟨rfl,rfl⟩ fun M0 w0=>(Tr.D6 0 rfl fun DZ=>?_);refine a3 ?_;refine Tr.block (Tr.BP _ (kk [0] rfl) (fun k:Nat=>[(4,int ((k:Nat):Int)),(3,is (.int .u32 ((l.take k).foldl Nf 2166136261)))]) (fun k:Nat=>k<=(l).length) (fun k:Nat=>(l).length-k) 0 (Nat.zero_le _) ⟨kq,kz⟩ ?_);rintro k BR;refine an ?_ ?_<;>intro h1 q1
 have Ae:k<(l).length:=AV h1;obtain⟨x,Ag⟩:=at_ Ae;refine a2 ?_;refine co rfl (AD rfl underlying180 D7 vq vq AA (Aj Ag)) (co rfl (FH rfl Y7 rfl) (co rfl (BX rfl underlying5 underlying169 vq) (co rfl (LB AB rfl vq vq) ?_)));refine ac ?_;refine wk [4,3,0] rfl ?_;refine ac ?_;exact Fin.AR (k+1) ⟨Ae,by omega⟩ ⟨⟨_,rfl,AM k⟩,⟨_,rfl,Pr.le_of_eq (by rw[Ng Ag];rfl)⟩,kz⟩;have BB:k=(l).length:=by have:=AW h1;omega
 subst BB;rw[List.take_length];refine a2 ?_;refine co rfl (BX rfl underlying169 underlying3 vq) ?_;refine a2 ?_
 .exact Lr
theorem UY{c:Cn}{key:Int}(hc:c.fits):Am prog 368 [agg (CM c),int key] (bool (Kg c key)):=by
 refine fo func368 rfl ⟨rfl,rfl⟩ fun M0 w0=>?_
 .repeat' first|(refine bool_eq ?_;unfold Kg;simp_all)|refine co rfl (BQ (X1 hc) rfl rfl) ?_|refine cy h rfl (BQ (iN (l:=(MP c).1)) rfl rfl) ?_|refine cy h rfl (oD) (cy h rfl (XR rfl vq vq) ?_)|refine ac ?_|(refine Ch.cg rfl rfl rfl ?_ ?_<;>intro h q)
theorem Nh{c:Cn}{key:Int}  :Am prog 229 [agg (CM c),int key] (bool (Kg c key)):=by
 refine fo func229 rfl ⟨rfl,rfl⟩ fun M0 w0=>?_
 .repeat' first|(refine bool_eq ?_;unfold Kg;simp_all;rw[Bool.eq_iff_iff];simp)|(refine bool_eq ?_;unfold Kg;simp_all)|refine co rfl (BQ (X2 (c:=c)) rfl rfl) ?_|refine cy h rfl (BQ (iO (l:=(MP c).1)) rfl rfl) ?_|refine ac ?_|(refine Ch.cg rfl rfl rfl ?_ ?_<;>intro h q)
def My(c:Cn)(i:Nat):Bool:=decide (i=0)||(c.auth&&decide ((i:Int)-1<=c.path))
def Ot(l:List Cn)(an ha:List Int)(day:Int)(nm:List UInt8)(e:Int)(i:Nat)(c:Cn):Bool:=
 if e=9 then !BD c
 else if e=14 then decide (i=0)&& !(c.names.any fun x=>decide (nm=x))
 else if e=13 then decide (day<c.from_)||decide (c.CW<=day)
 else if e=7 then !(ha.any fun x=>c.J6==x)
 else if e=11 then(match l[i+1]? with|none=>false|some d=>decide (¬c.EZ=d.DY))
 else if e=15 then !My c i
 else if e=10 then !Kg c (match l[i+1]? with|none=>c.H9|some d=>d.Da)
 else(match l[i+1]? with|none=> !(an.any fun x=>c.H9==x)|some _=>false)
def Rw(l:List Cn)(an ha:List Int)(day:Int)(nm:List UInt8)(e:Int)(i:Nat):Bool:=match l[i]? with
 |none=>true
 |some c=> !Ot l an ha day nm e i c
def PB(l:List Cn)(an ha:List Int)(day:Int)(nm:List UInt8)(e:Int):Bool:= !allI (Rw l an ha day nm e) l.length
def FO(q:Int->Bool):List Int->Int
 |[]=>0
 |e::r=>if q e=true then e else FO q r
abbrev Eg:List Int:=[9,14,13,7,11,15,10,12]
def F1(l:List Cn)(an ha:List Int)(day:Int)(nm:List UInt8):Int:=if l.length=0 then 4 else if 8<l.length then 3 else FO (PB l an ha day nm) Eg
section
variable{l:List Cn}{an ha:List Int}{day:Int}{nm:List UInt8}{e:Int}{k:Nat}{c:Cn}
theorem H7(h:l[k]? =some c):Rw l an ha day nm e k= !Ot l an ha day nm e k c:=by unfold Rw;rw[h]
theorem JT(h:l[k]? =some c)(hw:Ot l an ha day nm e k c=true):PB l an ha day nm e=true:=by
 unfold PB;rw[D_ (p:=Rw l an ha day nm e) (k:=k) (BO h) (by rw[H7 h,hw];rfl)];rfl
theorem JU(h:∀j,j<l.length->Rw l an ha day nm e j=true):PB l an ha day nm e=false:=by
 unfold PB;rw[Be.2 h];rfl
theorem DD{q:Int->Bool}{r:List Int}{e:Int}(h:r[m]? =some e):FO q (r.drop m)=if q e=true then e else FO q (r.drop (m+1)):=by
 have h1:=BO h;rw[List.getElem?_eq_getElem h1]at h;cases h;rw[List.drop_eq_getElem_cons h1];rfl
theorem TL{p:Cn->Bool}(h:∀i c,l[i]? =some c->Ot l an ha day nm e i c=p c):PB l an ha day nm e=l.any p:=by
 cases Vp:l.any p with
 |true=>
  obtain⟨c,hc,hp⟩:=List.any_eq_true.1 Vp;obtain⟨i,hi⟩:=List.getElem?_of_mem hc;exact JT hi (by rw[h i c hi,hp])
 |false=>
  refine JU fun j hj=>?_;obtain⟨c,hc⟩:=at_ hj;rw[H7 hc,h j c hc];have:=List.any_eq_false.1 Vp c (List.mem_of_getElem? hc)
  simpa using this
end
theorem bA{l:List Cn}{c:Cn}(hc:l[i]? =some c):Am prog 367 [Fi l,int ((i:Nat):Int)] (bool (My c i)):=by
 refine fo func367 rfl ⟨rfl,rfl⟩ fun M0 w0=>(Tr.D6 0 rfl fun DZ=>?_);have Ey:=BO hc
 .exact VK
theorem bB{l:List Cn}{c:Cn}(hc:l[i]? =some c):Am prog 228 [Fi l,int ((i:Nat):Int)] (bool (My c i)):=by
 refine fo func228 rfl ⟨rfl,rfl⟩ fun M0 w0=>(Tr.D6 0 rfl fun DZ=>?_);have Ey:=BO hc
 .exact VK
theorem bC{β:Type}{p:β->Bool}{l:List β}{x:β}(hx:l[k]? =some x)(hp:p x=true):l.any p=true:=List.any_eq_true.2 ⟨x,List.mem_of_getElem? hx,hp⟩
theorem any_none{β:Type}{p:β->Bool}{l:List β}(h:∀j y,j<l.length->l[j]? =some y->p y=false):l.any p=false:=by
 rw[List.any_eq_false];intro x hx;obtain⟨i,hi⟩:=List.getElem?_of_mem hx;rw[h i x (BO hi) hi];decide
theorem bD{l:List (List UInt8)}{s:List UInt8}  :Am prog 227 [Px l,str s] (bool (l.any fun x=>decide (s=x))):=by
 refine fo func227 rfl ⟨rfl,rfl⟩ fun M0 w0=>(Tr.D6 0 rfl fun DZ=>?_);refine a2 ?_;refine Tr.block (Tr.BP _ (kk [1,0] rfl) (fun k:Nat=>[(5,int ((k:Nat):Int))]) (fun k:Nat=>k<=(l).length/\(∀j y,j<k->l[j]? =some y->decide (s=y)=false)) (fun k:Nat=>(l).length-k) 0 (⟨Nat.zero_le _,fun j y hj=>absurd hj AA⟩) kz ?_);rintro k ⟨BR,AY⟩;refine an ?_ ?_<;>intro h1 q1
 have Ae:k<(l).length:=AV h1;obtain⟨x,Ag⟩:=at_ Ae
 .repeat' first|exact bool_eq (bC Ag Cc).symm|(exact Fin.AR (k+1) ⟨⟨Ae,Cf (p:=fun x=>decide (s=x)) Ag (by simp_all;exact fun h=>q h.symm) AY⟩,by omega⟩ ⟨⟨_,rfl,AM k⟩,kz⟩)|refine co rfl (AD rfl underlying67 G4 vq vq AA (Aj Ag)) ?_|refine ac ?_|(refine Tr.cn rfl ?_ ?_<;>intro h q)
 have BB:k=(l).length:=by have:=AW h1;omega
 subst BB;refine a3 ?_
 .exact bool_eq (any_none AY).symm
theorem X3{l:List Cn}{an ha:List Int}{nm:List UInt8}{e:Int}{c:Cn}(hc:l[i]? =some c):Am prog 170 [int e,Fi l,int ((i:Nat):Int),ints an,ints ha,int day,str nm] (bool (Ot l an ha day nm e i c)):=by
 refine fo func170 rfl ⟨rfl,rfl⟩ fun M0 w0=>(Tr.D6 1 rfl fun oV=>?_);have Ey:=BO hc;refine ac ?_;refine ao ?_;refine tp rfl (AD rfl underlying76 CC vq vq AA (Aj hc)) ?_;refine ao ?_;refine Tl rfl rfl rfl rfl J2 Gu (fun b1=>?_);refine sf 0 15 ⟨rfl,rfl,rfl⟩ rfl rfl rfl rfl ?_;refine ao ?_;refine wk [16,15,6,5,4,3,2,1,0] rfl ?_;refine ac ?_;refine ac ?_;refine Tr.cn rfl ?_ ?_<;>intro h1 q1
 obtain rfl:e=9:=by have:=q1;omega
 have hw:Ot l an ha day nm 9 i c=(!BD c):=rfl;refine ac ?_;refine co rfl (BQ (Im (c:=c)) rfl rfl) ?_;refine ac ?_;refine wk [14] rfl ?_;refine ac ?_
 .refine bool_eq ?_;rw[hw];cases BD c<;>rfl
 have n9:¬e=9:=by have:=q1;omega
 refine ac ?_;refine wk [32,26,16,15,6,5,4,3,2,1] rfl ?_;refine Tr.cn rfl ?_ ?_<;>intro h2 q2
 obtain rfl:e=14:=by have:=q2;omega
 have hw:Ot l an ha day nm 14 i c=(decide (i=0)&& !(c.names.any fun x=>decide (nm=x))):=rfl;refine ac ?_;refine Ch.cs 36 rfl ?_ ?_<;>intro h3 q3
 refine ac ?_;refine cy h3 rfl (Bm (bD) rfl rfl rfl) ?_;refine ac ?_;refine wk [14] rfl ?_;refine ac ?_
 .exact Kw
 refine ac ?_;refine wk [14] rfl ?_;refine ac ?_
 .exact Kw
 have n14:¬e=14:=by have:=q2;omega
 refine ac ?_;refine Tr.cn rfl ?_ ?_<;>intro h4 q4
 obtain rfl:e=13:=by have:=q4;omega
 have hw:Ot l an ha day nm 13 i c=(decide (day<c.from_)||decide (c.CW<=day)):=rfl;refine ac ?_;refine Ch.cs 49 rfl ?_ ?_<;>intro h5 q5
 refine ac ?_;refine wk [14] rfl ?_;refine ac ?_
 .exact Kw
 refine ac ?_;refine wk [14] rfl ?_;refine ac ?_
 .refine bool_eq ?_;rw[hw];simp_all;omega
 have n13:¬e=13:=by have:=q4;omega
 refine ac ?_;refine wk [55,26,16,15,4,3,2,1] rfl ?_;refine Tr.cn rfl ?_ ?_<;>intro h6 q6
 obtain rfl:e=7:=by have:=q6;omega
 have hw:Ot l an ha day nm 7 i c=(!(ha.any fun x=>c.J6==x)):=rfl;refine ac ?_;refine co rfl (Bm (GI) rfl rfl rfl) ?_;refine ac ?_;refine wk [14] rfl ?_;refine ac ?_
 .exact GO
 have n7:¬e=7:=by have:=q6;omega
 refine ac ?_;refine Tr.cn rfl ?_ ?_<;>intro h7 q7
 obtain rfl:e=11:=by have:=q7;omega
 have hw:Ot l an ha day nm 11 i c=((match l[i+1]? with|none=>false|some d=>decide (¬c.EZ=d.DY))):=rfl;refine ac ?_;refine Ch.cs 67 rfl ?_ ?_<;>intro h8 q8
 obtain⟨d,hd⟩:=at_ (l:=l) (k:=i+1) (by have:=q8;omega);rw[hd]at hw;refine ac ?_;refine cy h8 rfl (AD rfl underlying76 CC vq vq AA (B9 (show l[(((i:Nat):Int)+1).toNat]? =some d by rw[show(((i:Nat):Int)+1).toNat=i+1 by omega];exact hd))) ?_;refine ac ?_;refine wk [14] rfl ?_;refine ac ?_
 .exact Kw
 have hd:l[i+1]? =none:=List.getElem?_eq_none (by have:=q8;omega);rw[hd]at hw;refine ac ?_;refine wk [14] rfl ?_;refine ac ?_
 .exact GO
 have n11:¬e=11:=by have:=q7;omega
 refine ac ?_;refine Tr.cn rfl ?_ ?_<;>intro h9 q9
 obtain rfl:e=15:=by have:=q9;omega
 have hw:Ot l an ha day nm 15 i c=(!My c i):=rfl;refine ac ?_;refine co rfl (Bm (bB hc) rfl rfl rfl) ?_;refine ac ?_;refine wk [14] rfl ?_;refine ac ?_
 .exact GO
 have n15:¬e=15:=by have:=q9;omega
 refine ac ?_;refine wk [84,16,15,3,2,1] rfl ?_;refine Tr.cn rfl ?_ ?_<;>intro h10 MB
 obtain rfl:e=10:=by have:=MB;omega
 have hw:Ot l an ha day nm 10 i c=(!Kg c (match l[i+1]? with|none=>c.H9|some d=>d.Da)):=rfl;refine ac ?_;refine Tr.cn rfl ?_ ?_<;>intro h11 O8
 have hd:l[i+1]? =none:=List.getElem?_eq_none (by have:=O8;omega);rw[hd]at hw;refine ac ?_;refine co rfl (Bm (Nh) rfl rfl rfl) ?_;refine ac ?_;refine wk [14] rfl ?_;refine ac ?_
 .exact GO
 obtain⟨d,hd⟩:=at_ (l:=l) (k:=i+1) (by have:=O8;omega);rw[hd]at hw;refine ac ?_;refine ac ?_;refine co rfl (AD rfl underlying76 CC vq vq AA (B9 (show l[(((i:Nat):Int)+1).toNat]? =some d by rw[show(((i:Nat):Int)+1).toNat=i+1 by omega];exact hd))) ?_;refine ac ?_;refine co rfl (Bm (Nh) rfl rfl rfl) ?_;refine ac ?_;refine wk [14] rfl ?_;refine ac ?_
 .exact GO
 have n10:¬e=10:=by have:=MB;omega
 have hw:Ot l an ha day nm e i c=(match l[i+1]? with|none=> !(an.any fun x=>c.H9==x)|some _=>false):=by unfold Ot;rw[if_neg n9,if_neg n14,if_neg n13,if_neg n7,if_neg n11,if_neg n15,if_neg n10]
 refine ac ?_;refine ac ?_;refine Ch.cs 103 rfl ?_ ?_<;>intro h12 Re
 have hd:l[i+1]? =none:=List.getElem?_eq_none (by have:=Re;omega);rw[hd]at hw;refine ac ?_;refine cy h12 rfl (Bm (GI) rfl rfl rfl) ?_;refine ac ?_;refine wk [14] rfl ?_;refine ac ?_
 .exact GO
 obtain⟨d,hd⟩:=at_ (l:=l) (k:=i+1) (by have:=Re;omega);rw[hd]at hw;refine ac ?_;refine wk [14] rfl ?_;refine ac ?_
 .exact GO
theorem X4{l:List Cn}{an ha:List Int}{nm:List UInt8}:Am prog 106 [Fi l,ints an,ints ha,int day,str nm] (int (F1 l an ha day nm)):=by
 refine fo func106 rfl ⟨rfl,rfl⟩ fun M0 w0=>(Tr.D6 0 rfl fun DZ=>?_);refine ac ?_;refine ac ?_;refine Tr.cn rfl ?_ ?_<;>intro h1 q1
 have hC:F1 l an ha day nm=4:=if_pos K0;refine ac ?_;refine ac ?_
 .exact int_eq (by rw[hC])
 have iP:¬l.length=0:=by have:=q1;omega
 refine ac ?_;refine ac ?_;refine Tr.cn rfl ?_ ?_<;>intro h2 q2
 have hC:F1 l an ha day nm=3:=(if_neg iP).trans (if_pos K1);refine ac ?_;refine ac ?_
 .exact int_eq (by rw[hC])
 have hC:F1 l an ha day nm=FO (PB l an ha day nm) Eg:=(if_neg iP).trans (if_neg K1);refine ac ?_;refine Tr.seq (Tr.Bk (co rfl (AG (xs:=[.const (.int .i64 (9)),.const (.int .i64 (14)),.const (.int .i64 (13)),.const (.int .i64 (7)),.const (.int .i64 (11)),.const (.int .i64 (15)),.const (.int .i64 (10)),.const (.int .i64 (12))]) (rows:=(Eg.map fun n=>[int n])) rfl rfl underlying263 Pf kr rfl AB ⟨⟨AK,VL.le vq (AH _)⟩,⟨⟨AK,VL.le vq (AH _)⟩,⟨⟨AK,VL.le vq (AH _)⟩,⟨⟨AK,VL.le vq (AH _)⟩,⟨⟨AK,VL.le vq (AH _)⟩,⟨⟨AK,VL.le vq (AH _)⟩,⟨⟨AK,VL.le vq (AH _)⟩,⟨⟨AK,VL.le vq (AH _)⟩,trivial⟩⟩⟩⟩⟩⟩⟩⟩ AB) ?_));refine ac ?_;refine ac ?_;refine Tr.block (Tr.BP _ (kk [11,4,3,2,1,0] rfl) (fun m:Nat=>[(12,int ((m:Nat):Int))]) (fun m:Nat=>m<=(Eg).length/\(F1 l an ha day nm=FO (PB l an ha day nm) (Eg.drop m))) (fun m:Nat=>(Eg).length-m) 0 (⟨Nat.zero_le _,hC⟩) kz ?_);rintro m ⟨TD,Eb⟩;refine ac ?_;refine co rfl (Hl rfl underlying263 Cs) ?_;refine ac ?_;refine Tr.cn rfl ?_ ?_<;>intro h3 q3
 have HU:m<(Eg).length:=AV h3;obtain⟨e,IA⟩:=at_ HU;have hm8:m<8:=HU;refine ac ?_;refine ac ?_;refine Tr.block (Tr.BP _ (kk [12,11,4,3,2,1,0] rfl) (fun k:Nat=>[(13,int ((k:Nat):Int))]) (fun k:Nat=>k<=(l).length/\(∀j,j<k->Rw l an ha day nm e j=true)) (fun k:Nat=>(l).length-k) 0 (⟨Nat.zero_le _,fun j hj=>absurd hj AA⟩) kz ?_);rintro k ⟨BR,AY⟩;refine ac ?_;refine Tr.cn rfl ?_ ?_<;>intro h4 q4
 have Ae:k<(l).length:=AV h4;obtain⟨c,Ag⟩:=at_ Ae;refine ac ?_;refine ac ?_;refine co rfl (AD rfl underlying263 Pf Cs vq AA (Aj IA)) ?_;refine ac ?_;refine co rfl (AQ rfl (X3 (e:=e) (l:=l) (i:=k) (c:=c) Ag) ⟨kq,kz⟩) ?_;refine ac ?_;refine wk [43,13,12,11,4,3,2,1,0] rfl ?_;refine Tr.cn rfl ?_ ?_<;>intro h5 q5
 have hw:=JT Ag h5;rw[DD IA,if_pos hw]at Eb;refine ac ?_;refine co rfl (AD rfl underlying263 Pf Cs vq AA (Aj IA)) ?_;refine ac ?_;refine wk [10] rfl ?_;refine ac ?_
 .exact int_eq Eb.symm
 refine ac ?_;refine ac ?_;exact Fin.AR (k+1) ⟨⟨Ae,Bi AY (by rw[H7 Ag];simp_all)⟩,by omega⟩ ⟨⟨_,rfl,AM k⟩,kz⟩;have BB:k=(l).length:=by have:=AW h4;omega
 subst BB;refine ac ?_;refine ac ?_;exact Fin.AR (m+1) ⟨⟨HU,by rw[DD IA,if_neg (by rw[JU AY];decide)]at Eb;exact Eb⟩,by omega⟩ ⟨⟨_,rfl,AM m⟩,kz⟩;have Oi:m=(Eg).length:=by have:=AW h3;omega
 subst Oi;refine ac ?_;refine ac ?_;refine ac ?_
 .exact int_eq Eb.symm
theorem iQ{l:List Cn}{p:Cn->Bool}  :Am prog 365 [Fi l,Mc prog (fun x:{c:Cn//c∈l}=>[agg (CM x.1)]) (fun x=>bool (p x.1))] (int (idx p l)):=by
 refine fo func365 rfl ⟨rfl,rfl⟩ fun M0 w0=>(Tr.D6 0 rfl fun DZ=>?_);refine a2 ?_;refine Tr.block (Tr.BP _ (kk [7,1,0] rfl) (fun k:Nat=>[(8,int ((k:Nat):Int))]) (fun k:Nat=>k<=(l).length/\(∀j y,j<k->l[j]? =some y->p y=false)) (fun k:Nat=>(l).length-k) 0 (⟨Nat.zero_le _,fun j y hj=>absurd hj AA⟩) kz ?_);rintro k ⟨BR,AY⟩;refine ac ?_;refine Tr.seq ?_;refine Tr.cn rfl ?_ ?_<;>intro h1 q1
 have Ae:k<(l).length:=AV h1;obtain⟨x,Ag⟩:=at_ Ae
 .repeat' first|exact int_eq (DC Ag B5 AY)|exact Fin.AR (k+1) ⟨⟨Ae,Cf Ag B5 AY⟩,by omega⟩ ⟨⟨_,rfl,AM k⟩,ke rfl,ke rfl,ke rfl,trivial⟩|refine co rfl (AD rfl underlying76 CC (vl rfl) (vl rfl) AA DL) ?_|refine co rfl (AJ rfl FI CC (vl rfl) rfl rfl) ?_|refine co rfl (Dg ⟨x,List.mem_of_getElem? Ag⟩ rfl (vl rfl) ⟨ke rfl,trivial⟩) ?_|refine ac ?_|(refine Tr.cn rfl ?_ ?_<;>intro h q)
 have BB:k=(l).length:=by have:=AW h1;omega
 subst BB;refine a3 ?_
 .exact HX
theorem X5{l:List Cn}{p:Cn->Bool}  :Am prog 326 [Fi l,Mc prog (fun x:{c:Cn//c∈l}=>[agg (CM x.1)]) (fun x=>bool (p x.1))] (bool (l.any p)):=by
 refine fo func326 rfl ⟨rfl,rfl⟩ fun M0 w0=>?_;refine a2 ?_;refine co rfl (Bm (iQ) rfl rfl rfl) ?_;refine a2 ?_
 .exact bool_eq (Hv p l)
theorem bE{l:List (List UInt8)}{v:List UInt8}  :Am prog 366 [Px l,str v] (int (idx (fun x=>decide (v=x)) l)):=by
 refine fo func366 rfl ⟨rfl,rfl⟩ fun M0 w0=>(Tr.D6 0 rfl fun DZ=>?_);refine a2 ?_;refine Tr.block (Tr.BP _ (kk [7,1,0] rfl) (fun k:Nat=>[(8,int ((k:Nat):Int))]) (fun k:Nat=>k<=(l).length/\(∀j y,j<k->l[j]? =some y->decide (v=y)=false)) (fun k:Nat=>(l).length-k) 0 (⟨Nat.zero_le _,fun j y hj=>absurd hj AA⟩) kz ?_);rintro k ⟨BR,AY⟩;refine ac ?_;refine Tr.seq ?_;refine Tr.cn rfl ?_ ?_<;>intro h1 q1
 have Ae:k<(l).length:=AV h1;obtain⟨x,Ag⟩:=at_ Ae
 .repeat' first|exact int_eq (DC (p:=fun x=>decide (v=x)) Ag Cc AY)|exact Fin.AR (k+1) ⟨⟨Ae,Cf (p:=fun x=>decide (v=x)) Ag Cc AY⟩,by omega⟩ ⟨⟨_,rfl,AM k⟩,kz⟩|refine co rfl (AD rfl underlying67 G4 vq vq AA (Aj Ag)) ?_|refine ac ?_|(refine Tr.cn rfl ?_ ?_<;>intro h q)
 have BB:k=(l).length:=by have:=AW h1;omega
 subst BB;refine a3 ?_
 .exact HX
theorem bF{l:List (List UInt8)}{v:List UInt8}  :Am prog 328 [Px l,str v] (bool (l.any fun x=>decide (v=x))):=by
 refine fo func328 rfl ⟨rfl,rfl⟩ fun M0 w0=>?_;refine a2 ?_;refine co rfl (Bm (bE) rfl rfl rfl) ?_;refine a2 ?_
 .exact bool_eq (Hv _ l)
theorem UZ{l:List Cn}{c:Cn}(hc:l[i]? =some c):Am prog 369 [Fi l,int ((i:Nat):Int)] (int (match l[i+1]? with|none=>c.H9|some d=>d.Da)):=by
 refine fo func369 rfl ⟨rfl,rfl⟩ fun M0 w0=>(Tr.D6 0 rfl fun DZ=>?_);have Ey:=BO hc;refine ac ?_;refine an ?_ ?_<;>intro h1 q1
 obtain⟨d,hd⟩:=at_ (l:=l) (k:=i+1) K0;rw[hd];refine ac ?_;refine co rfl (AD rfl underlying76 CC vq vq AA (B9 (show l[(((i:Nat):Int)+1).toNat]? =some d by rw[show(((i:Nat):Int)+1).toNat=i+1 by omega];exact hd))) ?_;refine a2 ?_
 .exact Lr
 have hd:l[i+1]? =none:=List.getElem?_eq_none K0;rw[hd];refine a2 ?_;refine co rfl (AD rfl underlying76 CC vq vq AA (Aj hc)) ?_;refine a2 ?_
 .exact Lr
theorem X6{l:List Cn}{an ha:List Int}{nm:List UInt8}{e:Int}(hf:∀c∈l,c.fits)(he:e=11\/e=15\/e=10):Am prog 331 [Fi l,int e] (bool (PB l an ha day nm e)):=by
 refine fo func331 rfl ⟨rfl,rfl⟩ fun M0 w0=>(Tr.D6 0 rfl fun DZ=>?_);refine ac ?_;refine ac ?_;refine Tr.block (Tr.BP _ (kk [8,1,0] rfl) (fun k:Nat=>[(9,int ((k:Nat):Int))]) (fun k:Nat=>k<=(l).length/\(∀j,j<k->Rw l an ha day nm e j=true)) (fun k:Nat=>(l).length-k) 0 (⟨Nat.zero_le _,fun j hj=>absurd hj AA⟩) kz ?_);rintro k ⟨BR,AY⟩;refine ac ?_;refine Tr.seq ?_;refine Tr.cn rfl ?_ ?_<;>intro h1 q1
 have Ae:k<(l).length:=AV h1;obtain⟨c,Ag⟩:=at_ Ae;refine ac ?_;refine ac ?_;refine ac ?_;refine wk [9,8,5,1,0] rfl (Tr.Tn [0,1,8,9] [(6,bool (Ot l an ha day nm e k c))] (True) ?_ (fun h2=>?_));refine ac ?_;refine ac ?_;refine Tr.cn rfl ?_ ?_<;>intro h3 q3
 obtain rfl:e=11:=by have:=q3;omega
 have hw:Ot l an ha day nm 11 k c=((match l[k+1]? with|none=>false|some d=>decide (¬c.EZ=d.DY))):=rfl;refine ac ?_;refine Ch.cs 29 rfl ?_ ?_<;>intro h4 q4
 obtain⟨d,hd⟩:=at_ (l:=l) (k:=k+1) (by have:=q4;omega);rw[hd]at hw;refine ac ?_;refine cy h4 rfl (AD rfl underlying76 CC vq vq AA (Aj Ag)) ?_;refine ac ?_;refine cy h4 rfl (AD rfl underlying76 CC vq vq AA (Aj (k:=k+1) hd)) ?_;refine ac ?_;exact Fin.AR () trivial ⟨⟨_,rfl,bool_eq (by rw[hw];simp_all)⟩,kz⟩;have hd:l[k+1]? =none:=List.getElem?_eq_none (by have:=q4;omega);rw[hd]at hw;refine ac ?_;exact Fin.AR () trivial ⟨⟨_,rfl,bool_eq (by exact hw.symm)⟩,kz⟩;have n11:¬e=11:=by have:=q3;omega
 refine ac ?_;refine Tr.cn rfl ?_ ?_<;>intro h5 q5
 obtain rfl:e=15:=by have:=q5;omega
 have hw:Ot l an ha day nm 15 k c= !My c k:=rfl;refine ac ?_;refine co rfl (Bm (bA Ag) rfl rfl rfl) ?_;refine ac ?_;exact Fin.AR () trivial ⟨⟨_,rfl,bool_eq (by exact hw.symm)⟩,kz⟩;obtain rfl:e=10:=by have:=q5;omega
 have hw:Ot l an ha day nm 10 k c=(!Kg c (match l[k+1]? with|none=>c.H9|some d=>d.Da)):=rfl;refine ac ?_;refine co rfl (AD rfl underlying76 CC vq vq AA (Aj Ag)) ?_;refine ac ?_;refine co rfl (Bm (UZ Ag) rfl rfl rfl) ?_;refine co rfl (Bm (UY (hf c (List.mem_of_getElem? Ag))) rfl rfl rfl) ?_;refine ac ?_;exact Fin.AR () trivial ⟨⟨_,rfl,bool_eq (by exact hw.symm)⟩,kz⟩;refine ac ?_;refine Tr.cn rfl ?_ ?_<;>intro h6 q6
 refine ac ?_;refine ac ?_
 .exact bool_eq (JT Ag B5).symm
 refine ac ?_;refine ac ?_;exact Fin.AR (k+1) ⟨⟨Ae,Bi AY (by rw[H7 Ag];simp_all)⟩,by omega⟩ ⟨⟨_,rfl,AM k⟩,kz⟩;have BB:k=(l).length:=by have:=AW h1;omega
 subst BB;refine ac ?_;refine ac ?_;refine ac ?_
 .exact bool_eq (JU AY).symm
def MS(ha:List Int)(day e:Int)(c:Cn):Bool:=if e=13 then decide (day<c.from_)||decide (c.CW<=day)else !(ha.any fun x=>c.J6==x)
section
variable{l:List Cn}{an ha:List Int}{day:Int}{nm:List UInt8}
theorem QE{e:Int}(h:e=13\/e=7):PB l an ha day nm e=l.any (MS ha day e):=TL fun i c _=>by rcases h with rfl|rfl<;>rfl
theorem QF:PB l an ha day nm 9=l.any fun c=> !BD c:=TL fun i c _=>rfl
theorem QG{c:Cn}(hc:l[0]? =some c):PB l an ha day nm 14= !(c.names.any fun x=>decide (nm=x)):=by
 cases hn:(c.names.any fun x=>decide (nm=x))with
 |false=>exact JT hc (by show(decide (0=0)&& !(c.names.any fun x=>decide (nm=x)))=true;rw[hn];rfl)
 |true=>
  refine JU fun j hj=>?_;obtain⟨d,hd⟩:=at_ hj;rw[H7 hd];show(!(decide (j=0)&& !(d.names.any fun x=>decide (nm=x))))=true;rcases Nat.eq_zero_or_pos j with h0|h0
  .subst h0;rw[hc]at hd;cases hd;rw[hn];rfl
  .rw[decide_eq_false (show ¬j=0 by omega)];rfl
theorem QH{c:Cn}(h0:¬l.length=0)(hc:l[l.length-1]? =some c):PB l an ha day nm 12= !(an.any fun x=>c.H9==x):=by
 have hl:l[l.length-1+1]? =none:=List.getElem?_eq_none AA
 have hw:Ot l an ha day nm 12 (l.length-1) c= !(an.any fun x=>c.H9==x):=by
  show(match l[l.length-1+1]? with|none=> !(an.any fun x=>c.H9==x)|some _=>false)=_;rw[hl]
 cases hn:(an.any fun x=>c.H9==x)with
 |false=>exact JT hc (by rw[hw,hn];rfl)
 |true=>
  refine JU fun j hj=>?_;obtain⟨d,hd⟩:=at_ hj;rw[H7 hd];rcases Nat.lt_or_ge j (l.length-1)with h1|h1
  .
   obtain⟨g,hg⟩:=at_ (l:=l) (k:=j+1) AA;show(!(match l[j+1]? with|none=> !(an.any fun x=>d.H9==x)|some _=>false))=true;rw[hg];rfl
  .
   obtain rfl:j=l.length-1:=by omega
   rw[hc]at hd;cases hd;rw[hw,hn];rfl
theorem bG{e:Int}(hk:k<2)(h:Eg[2+k]? =some e):([int 13,int 7]:List Pr)[((k:Nat):Int).toNat]? =some (int e)/\(e=13\/e=7):=by
 match k,hk with
 |0,_=>cases h;exact⟨rfl,.inl rfl⟩
 |1,_=>cases h;exact⟨rfl,.inr rfl⟩
theorem Ua{e:Int}(hk:k<3)(h:Eg[4+k]? =some e):([int 11,int 15,int 10]:List Pr)[((k:Nat):Int).toNat]? =some (int e)/\(e=11\/e=15\/e=10):=by
 match k,hk with
 |0,_=>cases h;exact⟨rfl,.inl rfl⟩
 |1,_=>cases h;exact⟨rfl,.inr (.inl rfl)⟩
 |2,_=>cases h;exact⟨rfl,.inr (.inr rfl)⟩
end
theorem bH{c:Cn}{ha:List Int}{e:Int}:Am prog 330 [agg (CM c),ints ha,int day,int e] (bool (MS ha day e c)):=by
 refine fo func330 rfl ⟨rfl,rfl⟩ fun M0 w0=>?_;refine ac ?_;refine ac ?_;refine Tr.cn rfl ?_ ?_<;>intro h1 q1
 refine ac ?_;refine Ch.cs 15 rfl ?_ ?_<;>intro h2 q2
 refine ac ?_;refine wk [8] rfl ?_;refine ac ?_
 .refine bool_eq ?_;unfold MS;simp_all
 refine ac ?_;refine wk [8] rfl ?_;refine ac ?_
 .refine bool_eq ?_;unfold MS;simp_all;omega
 refine ac ?_;refine ac ?_;refine co rfl (Bm (D3) rfl rfl rfl) ?_;refine ac ?_;refine ac ?_
 .refine bool_eq ?_;unfold MS;simp_all
theorem Ub{c:Cn}(hc:c.fits):Am prog 327 [agg (CM c)] (bool (!BD c)):=by
 refine fo func327 rfl ⟨rfl,rfl⟩ fun M0 w0=>?_;refine a2 ?_;refine co rfl (BQ (Pz hc) rfl rfl) ?_;refine a2 ?_
 .refine bool_eq ?_;cases BD c<;>rfl
theorem Uc:Entry Tryz.prog 327:=⟨_,Tryz.func327,rfl,rfl⟩
theorem Ud{c:Cn}{ha:List Int}{e:Int}:Am prog 329 [agg (CM c),ref [ints ha],ref [int day],ref [int e]] (bool (MS ha day e c)):=by
 refine fo func329 rfl ⟨rfl,rfl⟩ fun M0 w0=>?_;refine a2 ?_;refine co rfl (dO (bH) rfl rfl rfl rfl rfl) ?_;refine a2 ?_
 .exact Lr
theorem Ue:Entry Tryz.prog 329:=⟨_,Tryz.func329,rfl,rfl⟩
theorem X7{l:List Cn}{an ha:List Int}{nm:List UInt8}(hf:∀c∈l,c.fits):Am prog 268 [Fi l,ints an,ints ha,int day,str nm] (int (F1 l an ha day nm)):=by
 refine fo func268 rfl ⟨rfl,rfl⟩ fun M0 w0=>(Tr.D6 0 rfl fun DZ=>?_);refine ac ?_;refine ac ?_;refine Tr.cn rfl ?_ ?_<;>intro h1 q1
 have hC:F1 l an ha day nm=4:=if_pos K0;refine ac ?_;refine ac ?_
 .exact FX
 have iP:¬l.length=0:=by have:=q1;omega
 refine ac ?_;refine Tr.cn rfl ?_ ?_<;>intro h2 q2
 have hC:F1 l an ha day nm=3:=(if_neg iP).trans (if_pos K1);refine ac ?_;refine ac ?_
 .exact FX
 have hE:F1 l an ha day nm=FO (PB l an ha day nm) (Eg.drop 0):=(if_neg iP).trans (if_neg K1);obtain⟨c,hc⟩:=at_ (l:=l) (k:=0) AA;refine ac ?_;refine co rfl (AQ rfl (X5 (p:=fun c=> !BD c)) ⟨kq,⟨_,rfl,Ck Uc fun x=>Ub (hf x.1 x.2)⟩,trivial⟩) ?_;refine ac ?_;refine wk [23,8,7,4,1,0] rfl ?_;refine Tr.cn rfl ?_ ?_<;>intro h3 q3
 have hC:F1 l an ha day nm=9:=by rw[DD (m:=0) (e:=9) rfl,if_pos (QF.trans h3)]at hE;exact hE
 refine ac ?_;refine ac ?_
 .exact FX
 replace hE:F1 l an ha day nm=FO (PB l an ha day nm) (Eg.drop 1):=by rw[DD (m:=0) (e:=9) rfl,if_neg (by rw[QF];simp_all)]at hE;exact hE
 refine ac ?_;refine co rfl (AD rfl underlying76 CC vq vq AA (Aj (k:=0) hc)) ?_;refine ac ?_;refine co rfl (Bm (bF) rfl rfl rfl) ?_;refine ac ?_;refine wk [26,8,7,1,0] rfl ?_;refine Tr.cn rfl ?_ ?_<;>intro h4 q4
 have hC:F1 l an ha day nm=14:=by rw[DD (m:=1) (e:=14) rfl,if_pos ((QG hc).trans h4)]at hE;exact hE
 refine ac ?_;refine ac ?_
 .exact FX
 replace hE:F1 l an ha day nm=FO (PB l an ha day nm) (Eg.drop (2+0)):=by rw[DD (m:=1) (e:=14) rfl,if_neg (by rw[QG hc];simp_all)]at hE;exact hE
 refine ac ?_;refine ac ?_;refine Tr.block (Tr.GA _ (kk [34,8,7,1,0] rfl) (fun(k:Nat)=>[(35,int ((k:Nat):Int))]) (fun(k:Nat)=>Hp M0 w0 Hj ([])) (fun(k:Nat)=>k<=2/\F1 l an ha day nm=FO (PB l an ha day nm) (Eg.drop (2+k))) (fun(k:Nat)=>2-k) (0)  (⟨Nat.zero_le _,hE⟩) kz (fun _ _ h=>h) ?_);rintro k  ⟨hk0,o9⟩;refine ac ?_;refine Tr.seq ?_;refine Tr.cn rfl ?_ ?_<;>intro h5 q5
 have hkn:k<2:=by have:=EK.FP h5;omega
 obtain⟨e,hex⟩:=at_ (l:=Eg) (k:=2+k) (show _<8 by omega);obtain⟨har,hee⟩:=bG hkn hex;rw[DD hex]at o9;refine ac ?_;refine Tr.seq (Tr.block (Tr.seq (Tr.Al (tp rfl (NO rfl underlying406 Lx Pf vq vq AA AA har) ?_))));refine Tl rfl rfl rfl rfl kr Y_ (fun b1=>?_);refine sf 0 12 ⟨rfl,rfl,rfl⟩ rfl rfl rfl rfl ?_;refine ao ?_;refine ac ?_;refine co rfl (AQ rfl (X5 (p:=MS ha day e)) ⟨kq,⟨_,rfl,Ck Ue fun x=>Ud⟩,trivial⟩) ?_;refine ac ?_;refine wk [40,35,34,12,8,7,1,0] rfl ?_;refine Tr.cn rfl ?_ ?_<;>intro h6 q6
 have hW:=(QE (l:=l) (an:=an) (ha:=ha) (day:=day) (nm:=nm) hee).trans h6;have hC:F1 l an ha day nm=e:=o9.trans (if_pos hW);refine ac ?_;refine ac ?_
 .exact FX
 have hW:=(QE (l:=l) (an:=an) (ha:=ha) (day:=day) (nm:=nm) hee).trans h6;refine ac ?_;refine ac ?_;exact Fin.Gc (k+1)  (⟨⟨by omega,by rw[if_neg Cc]at o9;exact o9⟩,by omega⟩) ⟨⟨_,rfl,AM k⟩,kz⟩ (fun _ _ h=>h);obtain rfl:k=2:=by have:=EK.FP h5;omega
 have hE:=o9;refine ac ?_;refine ac ?_;refine Tr.block (Tr.GA _ (kk [43,1,0] rfl) (fun(k:Nat)=>[(44,int ((k:Nat):Int))]) (fun(k:Nat)=>Hp M0 w0 Hj ([])) (fun(k:Nat)=>k<=3/\F1 l an ha day nm=FO (PB l an ha day nm) (Eg.drop (4+k))) (fun(k:Nat)=>3-k) (0)  (⟨Nat.zero_le _,hE⟩) kz (fun _ _ h=>h) ?_);rintro k  ⟨hk0,o_⟩;refine ac ?_;refine Tr.seq ?_;refine Tr.cn rfl ?_ ?_<;>intro h7 q7
 have hkn:k<3:=by have:=EK.FP h7;omega
 obtain⟨e,hex⟩:=at_ (l:=Eg) (k:=4+k) (show _<8 by omega);obtain⟨har,hee⟩:=Ua hkn hex;rw[DD hex]at o_;refine ac ?_;refine Tr.seq (Tr.block (Tr.seq (Tr.Bk (co rfl (NO rfl underlying408 Lx Pf vq vq AA AA har) ?_))));refine ac ?_;refine ac ?_;refine co rfl (Bm (X6 (an:=an) (ha:=ha) (day:=day) (nm:=nm) hf hee) rfl rfl rfl) ?_;refine ac ?_;refine Tr.cn rfl ?_ ?_<;>intro h8 q8
 have hC:F1 l an ha day nm=e:=o_.trans (if_pos h8);refine ac ?_;refine ac ?_
 .exact FX
 refine ac ?_;refine ac ?_;exact Fin.Gc (k+1)  (⟨⟨by omega,by rw[if_neg Cc]at o_;exact o_⟩,by omega⟩) ⟨⟨_,rfl,AM k⟩,kz⟩ (fun _ _ h=>h);obtain rfl:k=3:=by have:=EK.FP h7;omega
 have hE:=o_;refine ac ?_;refine Tr.seq (Tr.seq ?_);obtain⟨z,hz⟩:=at_ (l:=l) (k:=l.length-1) AA;refine ac ?_;refine co rfl (AD rfl underlying76 CC vq vq AA (B9 (show l[(((l.length:Nat):Int)-1).toNat]? =some z by rw[show(((l.length:Nat):Int)-1).toNat=l.length-1 by omega];exact hz))) ?_;refine ac ?_;refine co rfl (Bm (D3) rfl rfl rfl) ?_;refine ac ?_;refine wk [62] rfl ?_;refine Tr.cn rfl ?_ ?_<;>intro h9 q9
 have hC:F1 l an ha day nm=12:=by rw[DD (m:=7) (e:=12) rfl,if_pos ((QH iP hz).trans h9)]at hE;exact hE
 refine ac ?_;refine ac ?_
 .exact FX
 have hC:F1 l an ha day nm=0:=by rw[DD (m:=7) (e:=12) rfl,if_neg (by rw[QH iP hz];simp_all)]at hE;exact hE
 refine ac ?_;refine ac ?_;refine ac ?_
 .exact FX
def VF(k:Nat):List Su:=Yf.take k++(Yf.drop k).map fun s=>{ s with code:=0 }
theorem Uf(s:Su):(Bg s).length=12:=rfl
theorem X8(hk:k<16):∃x,(VF k)[k]? =some x/\(Bg x).set 0 (int (((k:Nat):Int)+1))=Bg (Gz (((k:Nat):Int)+1))/\(VF k).set k (Gz (((k:Nat):Int)+1))=VF (k+1):=by
 have h:k=0\/k=1\/k=2\/k=3\/k=4\/k=5\/k=6\/k=7\/k=8\/k=9\/k=10\/k=11\/k=12\/k=13\/k=14\/k=15:=by omega
 rcases h with rfl|rfl|rfl|rfl|rfl|rfl|rfl|rfl|rfl|rfl|rfl|rfl|rfl|rfl|rfl|rfl<;>exact⟨_,rfl,rfl,rfl⟩
theorem bI(k:Nat):(VF k).length=16:=by
 unfold VF;rw[List.length_append,List.length_map,List.length_take,List.length_drop];show min k 16+(16-k)=16;omega
theorem bJ{o:Nat}(hk:k<16)(ho:o=k*12)(qs:List Pr):((((VF k).map Bg).flatten++qs).take o)++[int (((k:Nat):Int)+1)]++(((VF k).map Bg).flatten++qs).drop (o+1)=((VF (k+1)).map Bg).flatten++qs:=by
 obtain⟨x,h1,h2,h3⟩:=X8 hk;subst ho;rw[←h3];exact RQ Uf h1 AB h2
theorem iR(k:Nat):((VF k).map Bg).flatten.length=192:=by
 rw[DA (sz:=12) SO,List.length_map,bI]
theorem Ug   :Am prog 247 [] (slice 12 (Yf.map Bg)):=by
 refine fo func247 rfl ⟨rfl,rfl⟩ fun M0 w0=>?_;have hs0:((VF 0).map Bg).length=16:=rfl;refine ac ?_;refine Tr.seq (Tr.Al ?_)
 iterate 4 refine tp rfl (Bm (DI) rfl rfl rfl) ?_
 refine tp rfl (Ad (rows:=[]) rfl RL BZ trivial rfl) ?_;refine Tl rfl rfl rfl rfl z75 BZ (fun b1=>?_);refine Tl rfl rfl rfl rfl z75 BZ (fun b2=>?_);refine Tl rfl rfl rfl rfl z75 BZ (fun b3=>?_);refine Tl rfl rfl rfl rfl z75 BZ (fun b4=>?_);refine Tl rfl rfl rfl rfl z75 BZ (fun b5=>?_);refine sf 4 1 ⟨rfl,rfl,rfl⟩ rfl rfl rfl rfl ?_;refine sf 3 2 ⟨rfl,rfl,rfl⟩ rfl rfl rfl rfl ?_;refine sf 2 3 ⟨rfl,rfl,rfl⟩ rfl rfl rfl rfl ?_;refine sf 1 4 ⟨rfl,rfl,rfl⟩ rfl rfl rfl rfl ?_;refine sf 0 5 ⟨rfl,rfl,rfl⟩ rfl rfl rfl rfl ?_;refine TO.nil (Fin.go (wk [5,4,3,2,1] rfl (Tr.seq (Tr.Al ?_))))
 iterate 5 refine tp rfl (Bm (DI) rfl rfl rfl) ?_
 refine Tl rfl rfl rfl rfl z75 BZ (fun b6=>?_);refine Tl rfl rfl rfl rfl z75 BZ (fun b7=>?_);refine Tl rfl rfl rfl rfl z75 BZ (fun b8=>?_);refine Tl rfl rfl rfl rfl z75 BZ (fun b9=>?_);refine Tl rfl rfl rfl rfl z75 BZ (fun b10=>?_);refine sf 4 6 ⟨rfl,rfl,rfl⟩ rfl rfl rfl rfl ?_;refine sf 3 7 ⟨rfl,rfl,rfl⟩ rfl rfl rfl rfl ?_;refine sf 2 8 ⟨rfl,rfl,rfl⟩ rfl rfl rfl rfl ?_;refine sf 1 9 ⟨rfl,rfl,rfl⟩ rfl rfl rfl rfl ?_;refine sf 0 10 ⟨rfl,rfl,rfl⟩ rfl rfl rfl rfl ?_;refine TO.nil (Fin.go (wk [10,9,8,7,6,5,4,3,2,1] rfl (Tr.seq (Tr.Al ?_))))
 iterate 4 refine tp rfl (Bm (DI) rfl rfl rfl) ?_
 refine Tl rfl rfl rfl rfl z75 BZ (fun b11=>?_);refine Tl rfl rfl rfl rfl z75 BZ (fun b12=>?_);refine Tl rfl rfl rfl rfl z75 BZ (fun b13=>?_);refine Tl rfl rfl rfl rfl z75 BZ (fun b14=>?_);refine sf 3 11 ⟨rfl,rfl,rfl⟩ rfl rfl rfl rfl ?_;refine sf 2 12 ⟨rfl,rfl,rfl⟩ rfl rfl rfl rfl ?_;refine sf 1 13 ⟨rfl,rfl,rfl⟩ rfl rfl rfl rfl ?_;refine sf 0 14 ⟨rfl,rfl,rfl⟩ rfl rfl rfl rfl ?_;refine TO.nil (Fin.go (wk [14,13,12,11,10,9,8,7,6,5,4,3,2,1] rfl (Tr.seq (Tr.pad (Tr.rx (xo rfl (fun _=>AJ rfl A7 Bb vq rfl rfl) (xo rfl (fun _=>AJ rfl A7 Bb vq rfl rfl) (xo rfl (fun _=>Bm (DI) rfl rfl rfl) (xo rfl (fun _=>AJ rfl A7 Bb vq rfl rfl) (xo rfl (fun _=>oD) (xo rfl (fun _=>AJ rfl A7 Bb vq rfl rfl) (xo rfl (fun _=>AJ rfl A7 Bb vq rfl rfl) (xo rfl (fun _=>Bm (DI) rfl rfl rfl) ?_)))))))))))));refine xo rfl (fun _=>AJ rfl A7 Bb vq rfl rfl) (xo rfl (fun _=>oD) ?_)
 iterate 4 refine xo rfl (fun _=>AJ rfl A7 Bb vq rfl rfl) ?_
 refine xo rfl (fun _=>oD) (xo rfl (fun _=>Bm (DI) rfl rfl rfl) (xo rfl (fun _=>AJ rfl A7 Bb vq rfl rfl) (xo rfl (fun _=>AJ rfl A7 Bb vq rfl rfl) (xo rfl (fun _=>AJ rfl A7 Bb vq rfl rfl) (xo rfl (fun _=>oD) (xo rfl (fun _=>Bm (DI) rfl rfl rfl) (xo rfl (fun _=>AJ rfl A7 Bb vq rfl rfl) (xo rfl (fun _=>AJ rfl A7 Bb vq rfl rfl) (xo rfl (fun _=>AJ rfl A7 Bb vq rfl rfl) (xo rfl (fun _=>oD) ?_))))))))))
 iterate 4 refine xo rfl (fun _=>AJ rfl A7 Bb vq rfl rfl) ?_
 refine xo rfl (fun _=>oD) (xo rfl (fun _=>Bm (DI) rfl rfl rfl) (xo rfl (fun _=>AJ rfl A7 Bb vq rfl rfl) (xo rfl (fun _=>AJ rfl A7 Bb vq rfl rfl) (xo rfl (fun _=>AJ rfl A7 Bb vq rfl rfl) (xo rfl (fun _=>oD) ?_)))))
 iterate 4 refine xo rfl (fun _=>AJ rfl A7 Bb vq rfl rfl) ?_
 refine xo rfl (fun _=>oD) (xo rfl (fun _=>AJ rfl A7 Bb vq rfl rfl) (xo rfl (fun _=>AJ rfl A7 Bb vq rfl rfl) (xo rfl (fun _=>Bm (DI) rfl rfl rfl) (xo rfl (fun _=>Bm (DI) rfl rfl rfl) (xo rfl (fun _=>oD) ?_)))))
 iterate 4 refine xo rfl (fun _=>AJ rfl A7 Bb vq rfl rfl) ?_
 refine xo rfl (fun _=>oD) (xo rfl (fun _=>Bm (DI) rfl rfl rfl) (xo rfl (fun _=>AJ rfl A7 Bb vq rfl rfl) (xo rfl (fun _=>AJ rfl A7 Bb vq rfl rfl) (xo rfl (fun _=>AJ rfl A7 Bb vq rfl rfl) (xo rfl (fun _=>oD) ?_)))))
 iterate 4 refine xo rfl (fun _=>AJ rfl A7 Bb vq rfl rfl) ?_
 refine xo rfl (fun _=>oD) ?_
 iterate 4 refine xo rfl (fun _=>AJ rfl A7 Bb vq rfl rfl) ?_
 refine xo rfl (fun _=>oD) ?_
 iterate 4 refine xo rfl (fun _=>AJ rfl A7 Bb vq rfl rfl) ?_
 refine xo rfl (fun _=>oD) ?_
 iterate 4 refine xo rfl (fun _=>AJ rfl A7 Bb vq rfl rfl) ?_
 refine xo rfl (fun _=>oD) (xo rfl (fun _=>Bm (DI) rfl rfl rfl) (xo rfl (fun _=>AJ rfl A7 Bb vq rfl rfl) (xo rfl (fun _=>AJ rfl A7 Bb vq rfl rfl) (xo rfl (fun _=>AJ rfl A7 Bb vq rfl rfl) (xo rfl (fun _=>oD) (Cx.ef 0 rfl rfl AB (J5 (xs:=[.tmp 35,.tmp 40,.tmp 45,.tmp 50,.tmp 55,.tmp 60,.tmp 65,.tmp 70,.tmp 75,.tmp 80,.tmp 85,.tmp 90,.tmp 95,.tmp 100,.tmp 105,.tmp 110]) (rows:=((VF 0).map Bg)) rfl rfl AB rfl rfl underlying320 B4 GD rfl AB ⟨⟨AK,VL.le vq (Pr.le_trans (Au (qs:=Bg ⟨0,_,_,_,_,_,_,_,_,_,_⟩) (show Fc [int 0,is (.string _),int _,int _,int _,int _,int _,int _,int _,int _,int _,int _] (Bg ⟨0,_,_,_,_,_,_,_,_,_,_⟩)from⟨Lr,BN _ Lr,Lr,Lr,Lr,Lr,Lr,Lr,Lr,Lr,Lr,Lr,trivial⟩)) (AE _))⟩,⟨⟨AK,VL.le vq (Pr.le_trans (Au (qs:=Bg ⟨0,_,_,_,_,_,_,_,_,_,_⟩) (show Fc [int 0,is (.string _),int _,int _,int _,int _,int _,int _,int _,int _,int _,int _] (Bg ⟨0,_,_,_,_,_,_,_,_,_,_⟩)from⟨Lr,BN _ Lr,Lr,Lr,Lr,Lr,Lr,Lr,Lr,Lr,Lr,Lr,trivial⟩)) (AE _))⟩,⟨⟨AK,VL.le vq (Pr.le_trans (Au (qs:=Bg ⟨0,_,_,_,_,_,_,_,_,_,_⟩) (show Fc [int 0,is (.string _),int _,int _,int _,int _,int _,int _,int _,int _,int _,int _] (Bg ⟨0,_,_,_,_,_,_,_,_,_,_⟩)from⟨Lr,BN _ Lr,Lr,Lr,Lr,Lr,Lr,Lr,Lr,Lr,Lr,Lr,trivial⟩)) (AE _))⟩,⟨⟨AK,VL.le vq (Pr.le_trans (Au (qs:=Bg ⟨0,_,_,_,_,_,_,_,_,_,_⟩) (show Fc [int 0,is (.string _),int _,int _,int _,int _,int _,int _,int _,int _,int _,int _] (Bg ⟨0,_,_,_,_,_,_,_,_,_,_⟩)from⟨Lr,BN _ Lr,Lr,Lr,Lr,Lr,Lr,Lr,Lr,Lr,Lr,Lr,trivial⟩)) (AE _))⟩,⟨⟨AK,VL.le vq (Pr.le_trans (Au (qs:=Bg ⟨0,_,_,_,_,_,_,_,_,_,_⟩) (show Fc [int 0,is (.string _),int _,int _,int _,int _,int _,int _,int _,int _,int _,int _] (Bg ⟨0,_,_,_,_,_,_,_,_,_,_⟩)from⟨Lr,BN _ Lr,Lr,Lr,Lr,Lr,Lr,Lr,Lr,Lr,Lr,Lr,trivial⟩)) (AE _))⟩,⟨⟨AK,VL.le vq (Pr.le_trans (Au (qs:=Bg ⟨0,_,_,_,_,_,_,_,_,_,_⟩) (show Fc [int 0,is (.string _),int _,int _,int _,int _,int _,int _,int _,int _,int _,int _] (Bg ⟨0,_,_,_,_,_,_,_,_,_,_⟩)from⟨Lr,BN _ Lr,Lr,Lr,Lr,Lr,Lr,Lr,Lr,Lr,Lr,Lr,trivial⟩)) (AE _))⟩,⟨⟨AK,VL.le vq (Pr.le_trans (Au (qs:=Bg ⟨0,_,_,_,_,_,_,_,_,_,_⟩) (show Fc [int 0,is (.string _),int _,int _,int _,int _,int _,int _,int _,int _,int _,int _] (Bg ⟨0,_,_,_,_,_,_,_,_,_,_⟩)from⟨Lr,BN _ Lr,Lr,Lr,Lr,Lr,Lr,Lr,Lr,Lr,Lr,Lr,trivial⟩)) (AE _))⟩,⟨⟨AK,VL.le vq (Pr.le_trans (Au (qs:=Bg ⟨0,_,_,_,_,_,_,_,_,_,_⟩) (show Fc [int 0,is (.string _),int _,int _,int _,int _,int _,int _,int _,int _,int _,int _] (Bg ⟨0,_,_,_,_,_,_,_,_,_,_⟩)from⟨Lr,BN _ Lr,Lr,Lr,Lr,Lr,Lr,Lr,Lr,Lr,Lr,Lr,trivial⟩)) (AE _))⟩,⟨⟨AK,VL.le vq (Pr.le_trans (Au (qs:=Bg ⟨0,_,_,_,_,_,_,_,_,_,_⟩) (show Fc [int 0,is (.string _),int _,int _,int _,int _,int _,int _,int _,int _,int _,int _] (Bg ⟨0,_,_,_,_,_,_,_,_,_,_⟩)from⟨Lr,BN _ Lr,Lr,Lr,Lr,Lr,Lr,Lr,Lr,Lr,Lr,Lr,trivial⟩)) (AE _))⟩,⟨⟨AK,VL.le vq (Pr.le_trans (Au (qs:=Bg ⟨0,_,_,_,_,_,_,_,_,_,_⟩) (show Fc [int 0,is (.string _),int _,int _,int _,int _,int _,int _,int _,int _,int _,int _] (Bg ⟨0,_,_,_,_,_,_,_,_,_,_⟩)from⟨Lr,BN _ Lr,Lr,Lr,Lr,Lr,Lr,Lr,Lr,Lr,Lr,Lr,trivial⟩)) (AE _))⟩,⟨⟨AK,VL.le vq (Pr.le_trans (Au (qs:=Bg ⟨0,_,_,_,_,_,_,_,_,_,_⟩) (show Fc [int 0,is (.string _),int _,int _,int _,int _,int _,int _,int _,int _,int _,int _] (Bg ⟨0,_,_,_,_,_,_,_,_,_,_⟩)from⟨Lr,BN _ Lr,Lr,Lr,Lr,Lr,Lr,Lr,Lr,Lr,Lr,Lr,trivial⟩)) (AE _))⟩,⟨⟨AK,VL.le vq (Pr.le_trans (Au (qs:=Bg ⟨0,_,_,_,_,_,_,_,_,_,_⟩) (show Fc [int 0,is (.string _),int _,int _,int _,int _,int _,int _,int _,int _,int _,int _] (Bg ⟨0,_,_,_,_,_,_,_,_,_,_⟩)from⟨Lr,BN _ Lr,Lr,Lr,Lr,Lr,Lr,Lr,Lr,Lr,Lr,Lr,trivial⟩)) (AE _))⟩,⟨⟨AK,VL.le vq (Pr.le_trans (Au (qs:=Bg ⟨0,_,_,_,_,_,_,_,_,_,_⟩) (show Fc [int 0,is (.string _),int _,int _,int _,int _,int _,int _,int _,int _,int _,int _] (Bg ⟨0,_,_,_,_,_,_,_,_,_,_⟩)from⟨Lr,BN _ Lr,Lr,Lr,Lr,Lr,Lr,Lr,Lr,Lr,Lr,Lr,trivial⟩)) (AE _))⟩,⟨⟨AK,VL.le vq (Pr.le_trans (Au (qs:=Bg ⟨0,_,_,_,_,_,_,_,_,_,_⟩) (show Fc [int 0,is (.string _),int _,int _,int _,int _,int _,int _,int _,int _,int _,int _] (Bg ⟨0,_,_,_,_,_,_,_,_,_,_⟩)from⟨Lr,BN _ Lr,Lr,Lr,Lr,Lr,Lr,Lr,Lr,Lr,Lr,Lr,trivial⟩)) (AE _))⟩,⟨⟨AK,VL.le vq (Pr.le_trans (Au (qs:=Bg ⟨0,_,_,_,_,_,_,_,_,_,_⟩) (show Fc [int 0,is (.string _),int _,int _,int _,int _,int _,int _,int _,int _,int _,int _] (Bg ⟨0,_,_,_,_,_,_,_,_,_,_⟩)from⟨Lr,BN _ Lr,Lr,Lr,Lr,Lr,Lr,Lr,Lr,Lr,Lr,Lr,trivial⟩)) (AE _))⟩,⟨⟨AK,VL.le vq (Pr.le_trans (Au (qs:=Bg ⟨0,_,_,_,_,_,_,_,_,_,_⟩) (show Fc [int 0,is (.string _),int _,int _,int _,int _,int _,int _,int _,int _,int _,int _] (Bg ⟨0,_,_,_,_,_,_,_,_,_,_⟩)from⟨Lr,BN _ Lr,Lr,Lr,Lr,Lr,Lr,Lr,Lr,Lr,Lr,Lr,trivial⟩)) (AE _))⟩,trivial⟩⟩⟩⟩⟩⟩⟩⟩⟩⟩⟩⟩⟩⟩⟩⟩ AB AB) ?_))))));refine Cx.ef 0 rfl rfl AB (Ho rfl rfl AB rfl vq) ?_;refine Cx.nil ⟨by kernel_rfl,?_⟩;refine CF.open_ 0 15 rfl rfl (fun v1=>?_);refine CF.done Z0 (Fin.go (wk [15] rfl (Tr.seq (Tr.seq (Tr.JC 0 rfl fun b15 nx ny gK gL gM gN=>?_)))));subst gK;refine ac ?_;refine co rfl (Sr rfl underlying320 Jd) ?_;refine ac ?_;refine Tr.block (Tr.GA _ (kk [113,15] rfl) (fun(k:Nat)=>[(114,int ((k:Nat):Int))]) (fun(k:Nat)=>Hp M0 w0 Hj ([AF true b15 260 (((VF (k)).map Bg).flatten++ny.map is)])) (fun(k:Nat)=>k<=16) (fun(k:Nat)=>16-k) (0)  (Nat.zero_le _) kz (fun _ _ h=>h) ?_);rintro k  hk0;refine ac ?_;refine Tr.seq ?_;refine Tr.cn rfl ?_ ?_<;>intro h1 q1
 have gO:k<16:=AV h1;refine a2 ?_;refine Tr.Al (tm rfl (tm rfl (tm rfl ?_)));refine tp rfl (Ek rfl vq vq ?hin) ?_;case hin=>unfold Mb;omega
 refine tp rfl (Fe rfl underlying320 B4 Jd vq AA AA) (tp rfl (AU rfl Sn vq) ?_);refine TO.Ej 0 rfl rfl (BG rfl rfl vq CD C_ rfl (by rw[List.length_append,iR];show _<=192+_;omega) (bJ gO AA _)) ?_;refine TO.nil ?_;refine a2 ?_;exact Fin.Gc (k+1)  (⟨by omega,by omega⟩) ⟨⟨_,rfl,AM k⟩,kz⟩ (fun _ _ h=>h);have hk:k=16:=by have:=AW h1;omega
 subst hk;refine ac ?_;refine Tr.seq ?_;refine Tr.RP (sz:=12) (Yf.map Bg) 0 15 rfl rfl (FF _ _) SO gL gM (by rw[List.length_map];exact gN) ?_;refine a2 ?_
 .exact Eu
theorem QI{code:Int}  :Am prog 198 [int code] (D8 [agg (Bg (Gz code)),int (if G7 code then 0 else 8)]):=by
 refine fo func198 rfl ⟨rfl,rfl⟩ fun M0 w0=>?_;have hL:Yf.length=16:=rfl;refine Tr.seq (Tr.Al ?_);refine Tl rfl rfl rfl rfl GD DQ (fun b1=>?_);refine ap ?_;refine Tr.seq (Tr.Bk (co rfl (Ya (Ug) rfl) ?_));refine ac ?_;refine ag ?_ ?_<;>intro h1 q1
 refine ac ?_;refine Tr.cond rfl (fun _=>?_) (fun h=>nomatch h);refine Tr.seq (Tr.Al (tp rfl (Ad (rows:=[]) rfl KV DQ trivial rfl) (TO.Aa 0 rfl rfl rfl vq Ce rfl B4 rfl rfl (tm rfl (TO.nil (Fin.go (wk [3,2] rfl (Tr.ret (Fin.AP (Fin.BU rfl (AZ.cell 0 rfl rfl C7 B4 rfl Lr) (AZ.tmp rfl Lr) ?_))))))))))
 .exact VO
 refine an ?_ ?_<;>intro h2 q2
 refine ap ?_;refine wk [3,2] rfl (Tr.ret (Fin.AP (Fin.BU rfl (AZ.cell 0 rfl rfl C7 B4 rfl Lr) (AZ.tmp rfl Lr) ?_)))
 .exact VO
 have hin:1<=code/\code<=16:=by omega
 refine ac ?_;refine ap ?_;refine tp rfl (AD rfl underlying320 B4 vq vq AA (B9 (f:=Bg) (Xt AA))) ?_;refine ap ?_;refine wk [3,2] rfl (Tr.ret (Fin.BU rfl (AZ.cell 0 rfl rfl C7 B4 rfl Lr) (AZ.tmp rfl Lr) ?_))
 .exact SE
theorem X9{b:Bool}(h:(!b)=true):b=false:=by cases b<;>simp_all
theorem dc{b:Bool}(h:(!b)=false):b=true:=by cases b<;>simp_all
def X_(e:C8)(su:List Int):List Int:=if e.own then e.BC else su
def bK(c e:C8)(day v:Int)(su:List Int):Int×Int×Int:=
 match (X_ e su)[(idx (DM e su v) (X_ e su)).toNat]? with
 |none=>(0,0,28)
 |some x=>match e.ids[(Gm e.ids x).toNat]? with
  |none=>(0,0,29)
  |some y=>if F1 y.chain c.anchors c.hashes day e.name=0 then(v,x,0)else(0,0,29)
def F2(c e:C8)(day most:Int)(su:List Int):Int×Int×Int:=
 if(Ct c&&Ct e)=false then(0,0,19)else if day<0\/40000<day\/most<1\/4<most then(0,0,2)
 else if min most e.most<c.least\/min most e.most<e.least then(0,0,27)else if idx (DM e su (min most e.most)) (X_ e su)<0 then(0,0,28)else bK c e day (min most e.most) su
abbrev TN(e:C8)(v:Int)(su:List Int):List Pr:=[str e.name,int e.least,int e.most,ints e.BC,bool e.own,Rb e.ids,ints e.anchors,ints e.hashes,bool e.Z3,int v,ints su]
section
variable{c e:C8}{day most:Int}{su:List Int}
theorem GL(h:(Ct c&&Ct e)=false):F2 c e day most su=(0,0,19):=if_pos h
theorem LM(h:(Ct c&&Ct e)=true)(h2:day<0\/40000<day\/most<1\/4<most):F2 c e day most su=(0,0,2):=(if_neg GQ).trans (if_pos h2)
theorem LQ(h:(Ct c&&Ct e)=true)(h2:¬(day<0\/40000<day\/most<1\/4<most))(h3:min most e.most<c.least\/min most e.most<e.least):F2 c e day most su=(0,0,27):=(if_neg GQ).trans ((if_neg h2).trans (if_pos h3))
theorem TP(h:(Ct c&&Ct e)=true)(h2:¬(day<0\/40000<day\/most<1\/4<most))(h3:¬(min most e.most<c.least\/min most e.most<e.least)):F2 c e day most su=if idx (DM e su (min most e.most)) (X_ e su)<0 then(0,0,28)else bK c e day (min most e.most) su:=(if_neg GQ).trans ((if_neg h2).trans (if_neg h3))
theorem TQ{v x:Int}{y:Fj}(hx:(X_ e su)[(idx (DM e su v) (X_ e su)).toNat]? =some x)(hy:e.ids[(Gm e.ids x).toNat]? =some y):bK c e day v su=if F1 y.chain c.anchors c.hashes day e.name=0 then(v,x,0)else(0,0,29):=by
 unfold bK;rw[hx];dsimp only;rw[hy]
end
theorem iS{s:Su}{x:Fj}  :Am prog 325 [agg (EI x),ref (Bg s)] (bool (Iw s x)):=by
 refine fo func325 rfl ⟨rfl,rfl⟩ fun M0 w0=>?_;refine ac ?_;refine ac ?_;refine Ch.cs 8 rfl ?_ ?_<;>intro h1 q1
 refine ac ?_;refine wk [3] rfl ?_;refine ac ?_
 .refine bool_eq ?_;unfold Iw;simp_all
 refine ac ?_;refine wk [3] rfl ?_;refine ac ?_
 .refine bool_eq ?_;unfold Iw;simp_all;cases h_:(x.Bl==s.s1)<;>simp_all
theorem iT:Entry Tryz.prog 325:=⟨_,Tryz.func325,rfl,rfl⟩
theorem dh{e:C8}{code:Int}  :Am prog 267 [agg (BL e),int code] (D8 [int (Gm e.ids code),bool (decide (0<=Gm e.ids code))]):=by
 refine fo func267 rfl ⟨rfl,rfl⟩ fun M0 w0=>?_;refine ac ?_;refine ao ?_;refine tp rfl (BQ (QI (code:=code)) rfl rfl) ?_;refine ao ?_;refine Tl rfl rfl rfl rfl GD DQ (fun b1=>?_);refine sf 0 6 ⟨rfl,rfl,rfl⟩ rfl rfl rfl rfl ?_;refine ao ?_;refine ac ?_;refine wk [15,6,2] rfl ?_;refine Tr.cn rfl ?_ ?_<;>intro h1 q1
 have hK:Gm e.ids code= -1:=by unfold Gm;exact if_neg (fun h_=>by rw[if_pos h_]at h1;exact absurd h1 AB)
 refine ac ?_;refine Tr.ret (Fin.AP (Fin.EC rfl (Cy.GV _ _) rfl ?_ rfl ?_))
 .refine int_eq ?_;exact hK.symm
 .refine bool_eq ?_;rw[hK];rfl
 have hs:G7 code=true:=by cases h_:G7 code with|true=>rfl|false=>exact absurd h1 K3
 have hK:Gm e.ids code=idx (Iw (Gz code)) e.ids:=by unfold Gm;exact if_pos hs
 refine a2 ?_;refine co rfl (AQ rfl (gT (l:=e.ids) (p:=Iw (Gz code))) ⟨kq,⟨_,rfl,Ck (dom:=fun x:Fj=>[agg (EI x)]) (res:=fun x=>bool (Iw (Gz code) x)) iT fun x=>iS⟩,trivial⟩) ?_;refine a2 ?_;refine Tr.ret (Fin.EC rfl (Cy.GV _ _) rfl ?_ rfl ?_)
 .refine int_eq ?_;exact hK.symm
 .refine bool_eq ?_;rw[hK]
theorem bL{e:C8}{of:List Int}{v code:Int}  :Am prog 266 [agg (TN e v of),int code] (bool (DM e of v code)):=by
 refine fo func266 rfl ⟨rfl,rfl⟩ fun M0 w0=>?_;refine ac ?_;refine ao ?_;refine tp rfl (BQ (QI (code:=code)) rfl rfl) ?_;refine ao ?_;refine Tl rfl rfl rfl rfl GD DQ (fun b1=>?_);refine sf 0 5 ⟨rfl,rfl,rfl⟩ rfl rfl rfl rfl ?_;refine ao ?_;refine ac ?_;refine Ch.cs 16 rfl ?_ ?_<;>intro h1 q1
 refine ac ?_;refine wk [44,2,1] rfl ?_;refine ac ?_;refine ac ?_
 .exact Ku
 refine ac ?_;refine Ch.cs 23 rfl ?_ ?_<;>intro h2 q2
 refine ac ?_;refine wk [44,2,1] rfl ?_;refine ac ?_;refine ac ?_
 .refine bool_eq ?_;unfold DM;simp_all;omega
 refine ac ?_;refine Ch.cs 30 rfl ?_ ?_<;>intro h3 q3
 refine ac ?_;refine wk [44,2,1] rfl ?_;refine ac ?_;refine ac ?_
 .refine bool_eq ?_;unfold DM;simp_all;omega
 refine ac ?_;refine cy h3 rfl (Bm (D3) rfl rfl rfl) ?_;refine ac ?_;refine Ch.cs 37 rfl ?_ ?_<;>intro h4 q4
 refine ac ?_;refine wk [44,2,1] rfl ?_;refine ac ?_;refine ac ?_
 .refine bool_eq ?_;unfold DM;simp_all;intros;exfalso;exact q4 _ B5 rfl
 refine ac ?_;refine cy h4 rfl (Bm (D3) rfl rfl rfl) ?_;refine ac ?_;refine wk [44,2,1] rfl ?_;refine Tr.cn rfl ?_ ?_<;>intro h5 q5
 refine ac ?_;refine ac ?_
 .refine bool_eq ?_;unfold DM;simp_all;intros;exfalso;exact q5 _ B5 rfl
 refine ac ?_;refine ac ?_;refine co rfl (Bm (dh (e:=e) (code:=code)) rfl rfl rfl) ?_;refine ac ?_;refine ac ?_;refine wk [4] rfl ?_;refine ac ?_
 .exact Ku
theorem bM:Entry Tryz.prog 266:=⟨_,Tryz.func266,rfl,rfl⟩
theorem iU{e:C8}{of:List Int}{v:Int}  :Am prog 264 [agg (TN e v of)] (ints of):=by
 refine fo func264 rfl ⟨rfl,rfl⟩ fun M0 w0=>?_;refine a3 ?_
 .exact Lr
theorem iV:Entry Tryz.prog 264:=⟨_,Tryz.func264,rfl,rfl⟩
theorem bN{e:C8}{of:List Int}{v:Int}  :Am prog 265 [agg (TN e v of)] (ints e.BC):=by
 refine fo func265 rfl ⟨rfl,rfl⟩ fun M0 w0=>?_;refine a3 ?_
 .exact Lr
theorem bO:Entry Tryz.prog 265:=⟨_,Tryz.func265,rfl,rfl⟩
theorem QJ{c e:C8}(hc:c.fits)(he:e.fits):Am prog 224 [agg (BL c),agg (BL e)] (bool (Ct c&&Ct e)):=by
 refine fo func224 rfl ⟨rfl,rfl⟩ fun M0 w0=>?_
 .repeat' first|(refine bool_eq ?_;cases O_:Ct c<;>cases h2_:Ct e<;>simp_all)|refine co rfl (BQ (MF hc) rfl rfl) ?_|refine cy h rfl (AJ rfl Dm Co vq rfl rfl) (cy h rfl (BQ (MF he) rfl rfl) ?_)|refine ac ?_|(refine Ch.cg rfl rfl rfl ?_ ?_<;>intro h q)
theorem bP{c e:C8}{most:Int}{su:List Int}(hc:c.fits)(he:e.fits):Am prog 225 [agg (BL c),agg (BL e),int day,int most,ints su] (D8 [agg [int (F2 c e day most su).1,int (F2 c e day most su).2.1],int (F2 c e day most su).2.2]):=by
 refine fo func225 rfl ⟨rfl,rfl⟩ fun M0 w0=>?_;obtain⟨od,Yg⟩:∃od,X_ e su=od:=⟨_,rfl⟩;refine Tr.seq (Tr.Al (tp rfl (Bc rfl Ce) (tp rfl (Bc rfl Ce) ?_)));refine Tl rfl rfl rfl rfl Sk E2 (fun b1=>?_);refine ao ?_;refine ac ?_;refine co rfl (Bm (QJ hc he) rfl rfl rfl) ?_;refine an ?_ ?_<;>intro h1 q1
 have hN:=GL (c:=c) (e:=e) (day:=day) (most:=most) (su:=su) (X9 h1);refine ao ?_;refine TO.Aa 0 rfl rfl rfl vq Ce rfl Bs rfl rfl ?_;refine ao ?_;refine Tr.ret (Fin.Az (Fin.AP (Fin.BU rfl (AZ.cell 0 rfl rfl B0 Bs rfl Lr) (AZ.tmp rfl Lr) ?_)))
 .exact EN
 have hr:(Ct c&&Ct e)=true:=dc h1;refine ag ?_ ?_<;>intro h2 q2
 refine ac ?_;refine wk [24,10,6,5,4,3,2] rfl (Tr.cond rfl (fun _=>?_) (fun h=>nomatch h));refine Tr.seq (Tr.Al (tp rfl (Ad (rows:=[]) rfl Mg E2 trivial rfl) (TO.Aa 0 rfl rfl rfl vq Ce rfl Bs rfl rfl ?_)));refine ao ?_;refine Tr.ret (Fin.Az (Fin.AP (Fin.BU rfl (AZ.cell 0 rfl rfl B0 Bs rfl Lr) (AZ.tmp rfl Lr) ?_)))
 .exact Ji
 refine ag ?_ ?_<;>intro h3 q3
 refine ac ?_;refine wk [24,10,6,5,4,3,2] rfl (Tr.cond rfl (fun _=>?_) (fun h=>nomatch h));refine Tr.seq (Tr.Al (tp rfl (Ad (rows:=[]) rfl Mg E2 trivial rfl) (TO.Aa 0 rfl rfl rfl vq Ce rfl Bs rfl rfl ?_)));refine ao ?_;refine Tr.ret (Fin.Az (Fin.AP (Fin.BU rfl (AZ.cell 0 rfl rfl B0 Bs rfl Lr) (AZ.tmp rfl Lr) ?_)))
 .exact Ji
 refine ag ?_ ?_<;>intro h4 q4
 refine ac ?_;refine wk [24,10,6,5,4,3,2] rfl (Tr.cond rfl (fun _=>?_) (fun h=>nomatch h));refine Tr.seq (Tr.Al (tp rfl (Ad (rows:=[]) rfl Mg E2 trivial rfl) (TO.Aa 0 rfl rfl rfl vq Ce rfl Bs rfl rfl ?_)));refine ao ?_;refine Tr.ret (Fin.Az (Fin.AP (Fin.BU rfl (AZ.cell 0 rfl rfl B0 Bs rfl Lr) (AZ.tmp rfl Lr) ?_)))
 .exact Ji
 refine ac ?_;refine wk [24,10,6,5,4,3,2] rfl ?_;refine Tr.cn rfl ?_ ?_<;>intro h5 q5
 have hN:=LM (su:=su) hr (day:=day) (most:=most) GP;refine ao ?_;refine TO.Aa 0 rfl rfl rfl vq Ce rfl Bs rfl rfl ?_;refine ao ?_;refine Tr.ret (Fin.Az (Fin.AP (Fin.BU rfl (AZ.cell 0 rfl rfl B0 Bs rfl Lr) (AZ.tmp rfl Lr) ?_)))
 .exact EN
 have hg:¬(day<0\/40000<day\/most<1\/4<most):=by simp_all<;>omega
 refine ac ?_;refine ao ?_;refine tp rfl (Q8 rfl vq vq) ?_;refine ao ?_;refine TO.re 46 (agg (TN e (min most e.most) su)) rfl (Pr.le_of_eq rfl) ?_;refine Tl rfl rfl rfl rfl sH c_ (fun b2=>?_);refine sf 0 12 ⟨rfl,rfl,rfl⟩ rfl rfl rfl rfl ?_;refine ao ?_;refine wk [12,10,6,5,2] rfl ?_;refine ag ?_ ?_<;>intro h6 q6
 refine ac ?_;refine wk [58,12,10,6,5,2] rfl (Tr.cond rfl (fun _=>?_) (fun h=>nomatch h));refine Tr.seq (Tr.Al (tp rfl (Ad (rows:=[]) rfl Mg E2 trivial rfl) (TO.Aa 0 rfl rfl rfl vq Ce rfl Bs rfl rfl ?_)));refine ao ?_;refine Tr.ret (Fin.AP (Fin.BU rfl (AZ.cell 0 rfl rfl B0 Bs rfl Lr) (AZ.tmp rfl Lr) ?_))
 .exact Vd
 refine ac ?_;refine wk [58,12,10,6,5,2] rfl ?_;refine Tr.cn rfl ?_ ?_<;>intro h7 q7
 have hN:=LQ (su:=su) hr hg GP;refine ao ?_;refine TO.Aa 0 rfl rfl rfl vq Ce rfl Bs rfl rfl ?_;refine ao ?_;refine Tr.ret (Fin.AP (Fin.BU rfl (AZ.cell 0 rfl rfl B0 Bs rfl Lr) (AZ.tmp rfl Lr) ?_))
 .exact EN
 have hG:=TP (su:=su) hr hg GP;rw[Yg]at hG;refine a2 ?_;refine co rfl (Lc rfl vq) ?_;refine ac ?_;refine wk [13,12,10,6,5,2] rfl (Tr.Tn [2,5,6,10,12] [(13,Mc prog (fun _:Unit=>[]) (fun _:Unit=>ints od))] (True) ?_ (fun h8=>?_));refine an ?_ ?_<;>intro h9 q9
 refine ac ?_;refine co rfl (Lc rfl vq) ?_;refine ac ?_;exact Fin.AR () trivial ⟨⟨_,rfl,(by rw[show od=e.BC by rw[←Yg];exact if_pos B5];exact IM bO fun _=>bN)⟩,kz⟩;refine Tr.skip ?_;exact Fin.AR () trivial ⟨⟨_,rfl,(by rw[show od=su by rw[←Yg];exact if_neg Cc];exact IM iV fun _=>iU)⟩,kz⟩;refine ac ?_;refine co rfl (Dg (dom:=fun _:Unit=>[]) () rfl vq trivial) ?_;refine a2 ?_;refine co rfl (Lc rfl vq) ?_;refine co rfl (AQ rfl (JH (l:=od) (p:=DM e su (min most e.most))) ⟨kq,⟨_,rfl,IM (dom:=fun x:Int=>[int x]) (res:=fun x=>bool (DM e su (min most e.most) x)) bM fun _=>bL⟩,trivial⟩) ?_;refine ac ?_;refine wk [15,14,12,10,6,5,2] rfl ?_;refine an ?_ ?_<;>intro h10 MB
 have hN:=hG.trans (if_pos MB);refine ao ?_;refine TO.Aa 0 rfl rfl rfl vq Ce rfl Bs rfl rfl ?_;refine ao ?_;refine Tr.ret (Fin.AP (Fin.BU rfl (AZ.cell 0 rfl rfl B0 Bs rfl Lr) (AZ.tmp rfl Lr) ?_))
 .exact EN
 replace hG:=hG.trans (if_neg (by have:=MB;omega))
 obtain⟨x,hx,hpx,_⟩:=Z6 (l:=od) (p:=DM e su (min most e.most)) (by have:=MB;omega);have Yx:=QA hpx;obtain⟨y,hy⟩:=TE Yx
 replace hG:=hG.trans (TQ (by rw[Yg];exact hx) hy)
 refine a2 ?_;refine co rfl (AD rfl underlying22 C_ vq vq AA (B9 hx)) (co rfl (FH rfl DP rfl) ?_);refine co rfl (Bm (dh (e:=e)) rfl rfl rfl) ?_;refine ac ?_;refine wk [16,15,14,12,10,6,5,2] rfl ?_;refine ac ?_;refine co rfl (AD rfl underlying71 EF vq vq AA (B9 hy)) ?_;refine ac ?_;refine co rfl (jP (X7 (he.ids y (List.mem_of_getElem? hy))) rfl rfl rfl rfl rfl rfl) ?_;refine ac ?_;refine wk [98,15,14,12,10] rfl ?_;refine Tr.cn rfl ?_ ?_<;>intro h11 O8
 have hN:=hG.trans (if_neg (by simpa using h11));refine ao ?_;refine TO.Aa 0 rfl rfl rfl vq Ce rfl Bs rfl rfl ?_;refine ao ?_;refine Tr.ret (Fin.AP (Fin.BU rfl (AZ.cell 0 rfl rfl B0 Bs rfl Lr) (AZ.tmp rfl Lr) ?_))
 .exact EN
 have hN:=hG.trans (if_pos (by simpa using h11));refine ac ?_;refine Tr.seq (Tr.rx ?_);refine ay ?_;refine xo rfl (fun _=>AD rfl underlying22 C_ vq vq AA (B9 hx)) ?_;refine ay ?_;refine Cx.nil ⟨by kernel_rfl,?_⟩;refine CF.done Z0 (Fin.go (Tr.ret (Fin.BU rfl (AZ.cell 0 rfl rfl B0 Bs rfl Lr) (AZ.tmp rfl Lr) ?_)))
 .exact EN
theorem Uh{c e:C8}(hc:c.fits)(he:e.fits):Am prog 166 [agg (BL c),agg (BL e),int day] (D8 [agg [int (F2 c e day c.most c.BC).1,int (F2 c e day c.most c.BC).2.1],int (F2 c e day c.most c.BC).2.2]):=by
 refine fo func166 rfl ⟨rfl,rfl⟩ fun M0 w0=>(Tr.seq (Tr.Al (tp rfl (Bc rfl Ce) (tp rfl (Bc rfl Ce) ?_))));refine Tl rfl rfl rfl rfl Sk E2 (fun b1=>?_);refine ap ?_;refine ac ?_;refine co rfl (Bm (QJ hc he) rfl rfl rfl) ?_;refine an ?_ ?_<;>intro h1 q1
 have hN:=GL (c:=c) (e:=e) (day:=day) (most:=c.most) (su:=c.BC) (X9 h1);refine ap ?_;refine Tr.ret (Fin.AP (Fin.BU rfl (AZ.cell 0 rfl rfl B0 Bs rfl Lr) (AZ.tmp rfl Lr) ?_))
 .exact EN
 refine ac ?_;refine ap ?_;refine tp rfl (jP (bP hc he) rfl rfl rfl rfl rfl rfl) ?_;refine ap ?_;refine wk [7,6] rfl (Tr.ret (Fin.BU rfl (AZ.cell 0 rfl rfl B0 Bs rfl Lr) (AZ.tmp rfl Lr) ?_))
 .exact Lr
theorem bQ{c e:C8}{most:Int}{su:List Int}(hc:c.small)(he:e.small)(Yh:su.length<=1000000):Am prog 59 [agg (BL c),agg (BL e),int day,int most,ints su] (D8 [agg [int (F2 c e day most su).1,int (F2 c e day most su).2.1],int (F2 c e day most su).2.2]):=by
 refine fo func59 rfl ⟨rfl,rfl⟩ fun M0 w0=>(Tr.D6 4 rfl fun uk=>?_);obtain⟨od,Yg⟩:∃od,X_ e su=od:=⟨_,rfl⟩;have hol:od.length<=9223372036854775807:=by have:=he.BC;rw[←Yg];unfold X_;split<;>omega
 refine Tr.seq (Tr.Al (tp rfl (Bc rfl Ce) (tp rfl (Bc rfl Ce) ?_)));refine Tl rfl rfl rfl rfl Sk E2 (fun b1=>?_);refine ap ?_;refine ac ?_;refine co rfl (BQ (KA hc) rfl rfl) ?_;refine ag ?_ ?_<;>intro h1 q1
 refine ac ?_;refine Tr.cond rfl (fun _=>?_) (fun h=>nomatch h);refine Tr.seq (Tr.Al (tp rfl (Ad (rows:=[]) rfl Mg E2 trivial rfl) (TO.Aa 0 rfl rfl rfl vq Ce rfl Bs rfl rfl (tm rfl (TO.nil (Fin.go (wk [11,10] rfl (Tr.ret (Fin.AP (Fin.BU rfl (AZ.cell 0 rfl rfl B0 Bs rfl Lr) (AZ.tmp rfl Lr) ?_))))))))))
 .have hN:=GL (c:=c) (e:=e) (day:=day) (most:=most) (su:=su) Cc;exact CH ⟨Pr.le_of_eq dw,int_eq dn,trivial⟩
 refine cy h1 rfl (AJ rfl Dm Co vq rfl rfl) (cy h1 rfl (BQ (KA he) rfl rfl) ?_);refine an ?_ ?_<;>intro h2 q2
 have hN:=GL (c:=c) (e:=e) (day:=day) (most:=most) (su:=su) (by cases O_:Ct c<;>cases h2_:Ct e<;>simp_all);refine ap ?_;refine wk [11,10] rfl (Tr.ret (Fin.AP (Fin.BU rfl (AZ.cell 0 rfl rfl B0 Bs rfl Lr) (AZ.tmp rfl Lr) ?_)))
 .exact EN
 have hr:(Ct c&&Ct e)=true:=by cases O_:Ct c<;>cases h2_:Ct e<;>simp_all
 refine ac ?_;refine ag ?_ ?_<;>intro h3 q3
 refine ac ?_;refine wk [39,10,6,5,4,3,2] rfl (Tr.cond rfl (fun _=>?_) (fun h=>nomatch h));refine Tr.seq (Tr.Al (tp rfl (Ad (rows:=[]) rfl Mg E2 trivial rfl) (TO.Aa 0 rfl rfl rfl vq Ce rfl Bs rfl rfl (tm rfl (TO.nil (Fin.go (Tr.ret (Fin.AP (Fin.BU rfl (AZ.cell 0 rfl rfl B0 Bs rfl Lr) (AZ.tmp rfl Lr) ?_)))))))))
 .exact Ji
 refine ag ?_ ?_<;>intro h4 q4
 refine ac ?_;refine wk [39,10,6,5,4,3,2] rfl (Tr.cond rfl (fun _=>?_) (fun h=>nomatch h));refine Tr.seq (Tr.Al (tp rfl (Ad (rows:=[]) rfl Mg E2 trivial rfl) (TO.Aa 0 rfl rfl rfl vq Ce rfl Bs rfl rfl (tm rfl (TO.nil (Fin.go (Tr.ret (Fin.AP (Fin.BU rfl (AZ.cell 0 rfl rfl B0 Bs rfl Lr) (AZ.tmp rfl Lr) ?_)))))))))
 .exact Ji
 refine ag ?_ ?_<;>intro h5 q5
 refine ac ?_;refine wk [39,10,6,5,4,3,2] rfl (Tr.cond rfl (fun _=>?_) (fun h=>nomatch h));refine Tr.seq (Tr.Al (tp rfl (Ad (rows:=[]) rfl Mg E2 trivial rfl) (TO.Aa 0 rfl rfl rfl vq Ce rfl Bs rfl rfl (tm rfl (TO.nil (Fin.go (Tr.ret (Fin.AP (Fin.BU rfl (AZ.cell 0 rfl rfl B0 Bs rfl Lr) (AZ.tmp rfl Lr) ?_)))))))))
 .exact Ji
 refine ac ?_;refine wk [39,10,6,5,4,3,2] rfl ?_;refine Tr.cn rfl ?_ ?_<;>intro h6 q6
 have hN:=LM (su:=su) hr (day:=day) (most:=most) GP;refine ap ?_;refine Tr.ret (Fin.AP (Fin.BU rfl (AZ.cell 0 rfl rfl B0 Bs rfl Lr) (AZ.tmp rfl Lr) ?_))
 .exact EN
 have hg:¬(day<0\/40000<day\/most<1\/4<most):=by simp_all<;>omega
 refine a2 ?_;refine co rfl (Q8 rfl vq vq) ?_;refine ac ?_;refine ag ?_ ?_<;>intro h7 q7
 refine ac ?_;refine wk [54,12,10,6,5,4,2] rfl (Tr.cond rfl (fun _=>?_) (fun h=>nomatch h));refine Tr.seq (Tr.Al (tp rfl (Ad (rows:=[]) rfl Mg E2 trivial rfl) (TO.Aa 0 rfl rfl rfl vq Ce rfl Bs rfl rfl (tm rfl (TO.nil (Fin.go (Tr.ret (Fin.AP (Fin.BU rfl (AZ.cell 0 rfl rfl B0 Bs rfl Lr) (AZ.tmp rfl Lr) ?_)))))))))
 .exact Vd
 refine ac ?_;refine wk [54,12,10,6,5,4,2] rfl ?_;refine Tr.cn rfl ?_ ?_<;>intro h8 q8
 have hN:=LQ (su:=su) hr hg GP;refine ap ?_;refine Tr.ret (Fin.AP (Fin.BU rfl (AZ.cell 0 rfl rfl B0 Bs rfl Lr) (AZ.tmp rfl Lr) ?_))
 .exact EN
 have hG:=TP (su:=su) hr hg GP;rw[Yg]at hG;refine a2 ?_;refine wk [13,12,10,6,5,4,2] rfl (Tr.Tn [2,4,5,6,10,12] [(13,ints od)] (True) ?_ (fun h9=>?_));refine an ?_ ?_<;>intro h10 MB
 refine ac ?_;exact Fin.AR () trivial ⟨⟨_,rfl,Pr.le_of_eq (by rw[←Yg];unfold X_;simp_all)⟩,kz⟩;refine Tr.skip ?_;exact Fin.AR () trivial ⟨⟨_,rfl,Pr.le_of_eq (by rw[←Yg];unfold X_;simp_all)⟩,kz⟩;refine ac ?_;refine Tr.block (Tr.BP _ (kk [13,12,10,6,5,4,2] rfl) (fun k:Nat=>[(14,int ((k:Nat):Int))]) (fun k:Nat=>k<=(od).length/\(∀j y,j<k->od[j]? =some y->DM e su (min most e.most) y=false)) (fun k:Nat=>(od).length-k) 0 (⟨Nat.zero_le _,fun j y hj=>absurd hj AA⟩) kz ?_);rintro k ⟨BR,AY⟩;refine an ?_ ?_<;>intro h11 O8
 have Ae:k<(od).length:=AV h11;obtain⟨x,Ag⟩:=at_ Ae;refine a2 ?_;refine co rfl (AD rfl underlying22 C_ vq vq AA (Aj Ag)) (co rfl (FH rfl DP rfl) ?_);refine co rfl (dO (Mk (e:=e) he.Yi) rfl rfl rfl rfl rfl) ?_;refine ac ?_;refine wk [75,14,13,12,10,6,5,4,2] rfl ?_;refine Tr.cn rfl ?_ ?_<;>intro h12 Re
 refine a2 ?_;exact Fin.AR (k+1) ⟨⟨Ae,Cf (p:=DM e su (min most e.most)) Ag Cc AY⟩,by omega⟩ ⟨⟨_,rfl,AM k⟩,kz⟩;have hp:DM e su (min most e.most) x=true:=by simpa using h12
 have hi:=DC Ag hp AY
 replace hG:=hG.trans (if_neg (by rw[←hi];omega))
 have Yx:=QA hp;obtain⟨y,hy⟩:=TE Yx
 replace hG:=hG.trans (TQ (by rw[Yg,←hi,Int.toNat_natCast];exact Ag) hy)
 refine a2 ?_;refine co rfl (AD rfl underlying22 C_ vq vq AA (Aj Ag)) (co rfl (FH rfl DP rfl) ?_);refine co rfl (Bm (IJ (e:=e) he.Yi) rfl rfl rfl) ?_;refine ac ?_;refine wk [15,14,13,12,10,6,5,2] rfl ?_;refine ac ?_;refine co rfl (AD rfl underlying71 EF vq vq AA (B9 hy)) ?_;refine ac ?_;refine co rfl (jP (X4) rfl rfl rfl rfl rfl rfl) ?_;refine ac ?_;refine wk [99,14,13,12,10] rfl ?_;refine Tr.cn rfl ?_ ?_<;>intro Je VD
 have hN:=hG.trans (if_neg (by simpa using Je));refine ap ?_;refine Tr.ret (Fin.AP (Fin.Az (Fin.AP (Fin.AP (Fin.Az (Fin.AP (Fin.BU rfl (AZ.cell 0 rfl rfl B0 Bs rfl Lr) (AZ.tmp rfl Lr) ?_)))))))
 .exact EN
 have hN:=hG.trans (if_pos (by simpa using Je));refine ac ?_;refine ap ?_;refine tp rfl (AD rfl underlying22 C_ vq vq AA (Aj Ag)) ?_;refine ap ?_;refine Tr.ret (Fin.Az (Fin.AP (Fin.AP (Fin.Az (Fin.AP (Fin.BU rfl (AZ.cell 0 rfl rfl B0 Bs rfl Lr) (AZ.tmp rfl Lr) ?_))))))
 .exact EN
 have BB:k=(od).length:=by have:=AW h11;omega
 subst BB;have hN:=hG.trans (if_pos (by rw[←G9 AY];decide));refine ac ?_;refine ap ?_;refine wk [11,10] rfl (Tr.ret (Fin.BU rfl (AZ.cell 0 rfl rfl B0 Bs rfl Lr) (AZ.tmp rfl Lr) ?_))
 .exact EN
theorem QK{c e:C8}:F2 c e day (max 1 (min 4 c.most)) c.BC=F2 c e day c.most c.BC:=by
 cases h:(Ct c&&Ct e)with
 |false=>rw[GL h,GL h]
 |true=>
  have h1:=iD (by rw[Bool.and_eq_true]at h;exact h.1)
  have h2:c.least<=c.most:=by
   rw[Bool.and_eq_true]at h;have h3:=h.1;unfold Ct at h3;simp only[Bool.and_eq_true,decide_eq_true_eq]at h3;omega
  rw[show max 1 (min 4 c.most)=c.most by omega]
theorem Ui{c e:C8}(hc:c.small)(he:e.small):Am prog 35 [agg (BL c),agg (BL e),int day] (D8 [agg [int (F2 c e day c.most c.BC).1,int (F2 c e day c.most c.BC).2.1],int (F2 c e day c.most c.BC).2.2]):=by
 refine fo func35 rfl ⟨rfl,rfl⟩ fun M0 w0=>?_;have Yh:=hc.BC;rw[←QK (c:=c) (e:=e) (day:=day)];refine Tr.seq (Tr.Al (tp rfl (Bc rfl Ce) (tp rfl (Bc rfl Ce) ?_)));refine Tl rfl rfl rfl rfl Sk E2 (fun b1=>?_);refine ap ?_;refine ap ?_;refine tp rfl (Q8 rfl vq vq) (tp rfl (OC rfl vq vq) ?_);refine ap ?_;refine tp rfl (jP (bQ hc he AA) rfl rfl rfl rfl rfl rfl) ?_;refine ap ?_;refine wk [7,6] rfl (Tr.ret (Fin.BU rfl (AZ.cell 0 rfl rfl B0 Bs rfl Lr) (AZ.tmp rfl Lr) ?_))
 .exact Lr
def Jg(s:FQ)(Ao day:Int):Int×Int×Int:=
 if C4 s=false then(0,0,31)else if Ao<0\/(s.Ay.length:Int)<=Ao then(0,0,4)
 else F2 (s.C9[(s.Ay[Ao.toNat]?.getD Db).client.toNat]?.getD Cw) (s.C9[(s.Ay[Ao.toNat]?.getD Db).server.toNat]?.getD Cw) day (s.C9[(s.Ay[Ao.toNat]?.getD Db).client.toNat]?.getD Cw).most (s.C9[(s.Ay[Ao.toNat]?.getD Db).client.toNat]?.getD Cw).BC
def ID(s:FQ)(Ao a b:Int):Int×Int×Int:=
 if(Jg s Ao a).2.2≠0 then(0,0,(Jg s Ao a).2.2)else if(Jg s Ao b).2.2≠0 then(0,0,(Jg s Ao b).2.2)else if b<a then(0,0,13)else Jg s Ao a
theorem bR{Ao:Int}(h:C4 s=false):Jg s Ao day=(0,0,31):=if_pos h
theorem YA{Ao:Int}(h:C4 s=true)(h2:Ao<0\/(s.Ay.length:Int)<=Ao):Jg s Ao day=(0,0,4):=(if_neg GQ).trans (if_pos h2)
theorem YB{Ao:Int}{g:G3}{c e:C8}(h:C4 s=true)(h2:¬(Ao<0\/(s.Ay.length:Int)<=Ao))(hg:s.Ay[Ao.toNat]? =some g)(hc:s.C9[g.client.toNat]? =some c)(he:s.C9[g.server.toNat]? =some e):Jg s Ao day=F2 c e day c.most c.BC:=by
 refine(if_neg GQ).trans ((if_neg h2).trans ?_);rw[hg,Option.getD_some,hc,he];rfl
theorem Ou{Ao:Int}(h:C4 s=true)(h2:¬(Ao<0\/(s.Ay.length:Int)<=Ao)):∃g c e,s.Ay[Ao.toNat]? =some g/\0<=g.client/\0<=g.server/\s.C9[g.client.toNat]? =some c/\s.C9[g.server.toNat]? =some e:=by
 have ok:=C2.1 h;obtain⟨g,hg⟩:=at_ (l:=s.Ay) (k:=Ao.toNat) AA;have h3:=ok.ed Ao.toNat AA;unfold B6 at h3;rw[getD_at hg]at h3;simp only[Bool.and_eq_true,decide_eq_true_eq]at h3;obtain⟨c,hc⟩:=at_ (l:=s.C9) (k:=g.client.toNat) AA;obtain⟨e,he⟩:=at_ (l:=s.C9) (k:=g.server.toNat) AA;exact⟨g,c,e,hg,by omega,by omega,hc,he⟩
def Kr(s:FQ)(Ao:Int):C8×C8:=if C4 s=true/\¬(Ao<0\/(s.Ay.length:Int)<=Ao)then(s.C9[(s.Ay[Ao.toNat]?.getD Db).client.toNat]?.getD Cw,s.C9[(s.Ay[Ao.toNat]?.getD Db).server.toNat]?.getD Cw)else(Cw,Cw)
theorem TR{Ao:Int}{g:G3}{c e:C8}(h:C4 s=true)(h2:¬(Ao<0\/(s.Ay.length:Int)<=Ao))(hg:s.Ay[Ao.toNat]? =some g)(hc:s.C9[g.client.toNat]? =some c)(he:s.C9[g.server.toNat]? =some e):Kr s Ao=(c,e):=by
 unfold Kr;rw[if_pos ⟨h,h2⟩,hg,Option.getD_some,hc,he];rfl
theorem SD{Ao:Int}(h:C4 s=false\/Ao<0\/(s.Ay.length:Int)<=Ao):Kr s Ao=(Cw,Cw):=by
 unfold Kr;refine if_neg fun h1=>?_;rcases h with h|h
 .rw[h]at h1;exact absurd h1.1 AB
 .exact h1.2 h
def QL(s:FQ)(Ao:Int):Int:=if C4 s=false then 31 else if Ao<0\/(s.Ay.length:Int)<=Ao then 4 else 0
theorem JV{Ao:Int}(h:C4 s=false):QL s Ao=31:=if_pos h
theorem HW{Ao:Int}(h:C4 s=true)(h2:Ao<0\/(s.Ay.length:Int)<=Ao):QL s Ao=4:=(if_neg GQ).trans (if_pos h2)
theorem Ov{Ao:Int}(h:C4 s=true)(h2:¬(Ao<0\/(s.Ay.length:Int)<=Ao)):QL s Ao=0:=(if_neg GQ).trans (if_neg h2)
theorem TS{Ao:Int}(h:¬QL s Ao≠0):C4 s=true/\¬(Ao<0\/(s.Ay.length:Int)<=Ao):=by
 cases hb:C4 s with
 |false=>exact absurd (by rw[JV hb];decide) h
 |true=>exact⟨rfl,fun h2=>h (by rw[HW hb h2];decide)⟩
theorem TT{Ao:Int}(h:QL s Ao≠0):Jg s Ao day=(0,0,QL s Ao):=by
 cases hb:C4 s with
 |false=>rw[bR hb,JV hb]
 |true=>
  by_cases hr:Ao<0\/(s.Ay.length:Int)<=Ao
  .rw[YA hb hr,HW hb hr]
  .exact absurd (Ov hb hr) h
theorem bS{Ao:Int}(hs:s.fits):Am prog 164 [agg (Bn s),int Ao] (int (QL s Ao)):=by
 refine fo func164 rfl ⟨rfl,rfl⟩ fun M0 w0=>?_;have hl:=hs.lg;refine a2 ?_;refine co rfl (BQ (GJ hs) rfl rfl) ?_;refine an ?_ ?_<;>intro h1 q1
 refine a2 ?_
 .exact int_eq (JV (by cases h_:C4 s<;>simp_all)).symm
 have hb:C4 s=true:=by cases h_:C4 s<;>simp_all
 .repeat' first|exact int_eq (HW hb AA).symm|exact int_eq (Ov hb AA).symm|refine ac ?_|(refine Tr.cn rfl ?_ ?_<;>intro h q)|(refine Ch.cg rfl rfl rfl ?_ ?_<;>intro h q)
theorem iW{Ao:Int}{g:G3}{c e:C8}(h0:0<=Ao)(hg:s.Ay[Ao.toNat]? =some g)(hg1:0<=g.client)(j_:0<=g.server)(hc:s.C9[g.client.toNat]? =some c)(he:s.C9[g.server.toNat]? =some e):Am prog 165 [agg (Bn s),int Ao] (D8 [agg (BL c),agg (BL e)]):=by
 refine fo func165 rfl ⟨rfl,rfl⟩ fun M0 w0=>(Tr.seq (Tr.Al (tp rfl (Bc rfl Ce) ?_)));refine Tl rfl rfl rfl rfl Ma Gf (fun b1=>?_);refine Tl rfl rfl rfl rfl Ma Gf (fun b2=>?_);refine ao ?_;refine ao ?_;refine tp rfl (AD rfl underlying29 GC vq vq AA (B9 hg)) (tp rfl (AJ rfl WX GC vq rfl rfl) ?_);refine Tl rfl rfl rfl rfl ZB RN (fun b3=>?_);refine sf 0 6 ⟨rfl,rfl,rfl⟩ rfl rfl rfl rfl ?_;refine ao ?_;refine Tr.seq (Tr.rx ?_);refine ay ?_;refine xo rfl (fun _=>AD rfl underlying28 Co vq vq AA (B9 hc)) ?_;refine ay ?_;refine xo rfl (fun _=>AD rfl underlying28 Co vq vq AA (B9 he)) ?_;refine ay ?_;refine Cx.nil ⟨by kernel_rfl,?_⟩;refine CF.done dP (Fin.go (wk [5,4] rfl (Tr.ret (Fin.BU rfl (AZ.cell 1 rfl rfl Dm Co rfl Lr) (AZ.cell 0 rfl rfl Dm Co rfl Lr) ?_))));refine CH ⟨?_,?_,trivial⟩
 .exact Lr
 .exact Lr
theorem QM{Ao:Int}(hs:s.fits):Am prog 101 [agg (Bn s),int Ao,int day] (D8 [agg [int (Jg s Ao day).1,int (Jg s Ao day).2.1],int (Jg s Ao day).2.2]):=by
 refine fo func101 rfl ⟨rfl,rfl⟩ fun M0 w0=>(Tr.seq (Tr.Al (tp rfl (Bc rfl Ce) ?_)));refine Tl rfl rfl rfl rfl Sk E2 (fun b1=>?_);refine ao ?_;refine ac ?_;refine co rfl (Bm (bS hs) rfl rfl rfl) ?_;refine ac ?_;refine an ?_ ?_<;>intro h1 q1
 have hN:=TT (day:=day) He;refine ao ?_;refine TO.Aa 0 rfl rfl rfl vq Ce rfl Bs rfl rfl ?_;refine ao ?_;refine Tr.ret (Fin.AP (Fin.BU rfl (AZ.cell 0 rfl rfl B0 Bs rfl Lr) (AZ.tmp rfl Lr) ?_))
 .exact Fq
 obtain⟨hb,hr⟩:=TS (s:=s) (Ao:=Ao) He;obtain⟨g,c,e,hg,hg1,j_,hc,he⟩:=Ou hb hr;have hN:=YB (day:=day) hb hr hg hc he;refine ac ?_;refine ao ?_;refine tp rfl (Bm (iW AA hg hg1 j_ hc he) rfl rfl rfl) ?_;refine ao ?_;refine Tl rfl rfl rfl rfl Ma Gf (fun b2=>?_);refine Tl rfl rfl rfl rfl Ma Gf (fun b3=>?_);refine sf 1 9 ⟨rfl,rfl,rfl⟩ rfl rfl rfl rfl ?_;refine sf 0 10 ⟨rfl,rfl,rfl⟩ rfl rfl rfl rfl ?_;refine ao ?_;refine wk [10,9,6,2] rfl ?_;refine ao ?_;refine tp rfl (Tx (Uh (hs.C9 c (List.mem_of_getElem? hc)).1 (hs.C9 e (List.mem_of_getElem? he)).1) rfl rfl rfl rfl) ?_;refine ao ?_;refine TO.Aa 0 rfl rfl rfl vq Ce rfl Bs rfl rfl ?_;refine ao ?_;refine Tr.ret (Fin.BU rfl (AZ.cell 0 rfl rfl B0 Bs rfl Lr) (AZ.tmp rfl Lr) ?_)
 .exact Fq
theorem Uj{Ao fr to:Int}(hs:s.fits):Am prog 57 [agg (Bn s),int Ao,int fr,int to] (D8 [agg [int (ID s Ao fr to).1,int (ID s Ao fr to).2.1],int (ID s Ao fr to).2.2]):=by
 refine fo func57 rfl ⟨rfl,rfl⟩ fun M0 w0=>(Tr.seq (Tr.Al (tp rfl (Bc rfl Ce) ?_)));refine Tl rfl rfl rfl rfl Sk E2 (fun b1=>?_);refine ao ?_;refine ao ?_;refine tp rfl (Tx (QM hs) rfl rfl rfl rfl) ?_;refine ao ?_;refine Tl rfl rfl rfl rfl Sk E2 (fun b2=>?_);refine sf 0 10 ⟨rfl,rfl,rfl⟩ rfl rfl rfl rfl ?_;refine ao ?_;refine wk [11,10,8,4,3,2,1] rfl ?_;refine an ?_ ?_<;>intro h1 q1
 have hN:ID s Ao fr to=(0,0,(Jg s Ao fr).2.2):=if_pos He;refine ao ?_;refine TO.Aa 0 rfl rfl rfl vq Ce rfl Bs rfl rfl ?_;refine ao ?_;refine Tr.ret (Fin.AP (Fin.BU rfl (AZ.cell 0 rfl rfl B0 Bs rfl Lr) (AZ.tmp rfl Lr) ?_))
 .exact Fq
 have Vp:¬(Jg s Ao fr).2.2≠0:=by simpa using h1
 refine ac ?_;refine ao ?_;refine tp rfl (Tx (QM hs) rfl rfl rfl rfl) ?_;refine ao ?_;refine Tl rfl rfl rfl rfl Sk E2 (fun b3=>?_);refine sf 0 12 ⟨rfl,rfl,rfl⟩ rfl rfl rfl rfl ?_;refine ao ?_;refine wk [13,10,8,3,2] rfl ?_;refine an ?_ ?_<;>intro h2 q2
 have hN:ID s Ao fr to=(0,0,(Jg s Ao to).2.2):=(if_neg Vp).trans (if_pos (by simpa using h2));refine ao ?_;refine TO.Aa 0 rfl rfl rfl vq Ce rfl Bs rfl rfl ?_;refine ao ?_;refine Tr.ret (Fin.AP (Fin.BU rfl (AZ.cell 0 rfl rfl B0 Bs rfl Lr) (AZ.tmp rfl Lr) ?_))
 .exact Fq
 have a_:¬(Jg s Ao to).2.2≠0:=by simpa using h2
 refine ac ?_;refine an ?_ ?_<;>intro h3 q3
 have hN:ID s Ao fr to=(0,0,13):=(if_neg Vp).trans ((if_neg a_).trans (if_pos K2));refine ao ?_;refine TO.Aa 0 rfl rfl rfl vq Ce rfl Bs rfl rfl ?_;refine ao ?_;refine Tr.ret (Fin.AP (Fin.BU rfl (AZ.cell 0 rfl rfl B0 Bs rfl Lr) (AZ.tmp rfl Lr) ?_))
 .exact Fq
 have hN:ID s Ao fr to=Jg s Ao fr:=(if_neg Vp).trans ((if_neg a_).trans (if_neg K2));refine ac ?_;refine ao ?_;refine TO.Aa 0 rfl rfl rfl vq Ce rfl Bs rfl rfl ?_;refine ao ?_;refine Tr.ret (Fin.BU rfl (AZ.cell 0 rfl rfl B0 Bs rfl Lr) (AZ.tmp rfl Lr) ?_)
 .exact Vn
theorem bT{Ao:Int}(hs:s.fits):Am prog 34 [agg (Bn s),int Ao] (D8 [agg (BL (Kr s Ao).1),agg (BL (Kr s Ao).2),int (QL s Ao)]):=by
 refine fo func34 rfl ⟨rfl,rfl⟩ fun M0 w0=>?_;have hl:=hs.lg;refine Tr.seq (Tr.Al (tp rfl (Bc rfl Ce) ?_));refine Tl rfl rfl rfl rfl Ma Gf (fun b1=>?_);refine Tl rfl rfl rfl rfl Ma Gf (fun b2=>?_);refine ap ?_;refine ac ?_;refine co rfl (BQ (Rq hs) rfl rfl) ?_;refine an ?_ ?_<;>intro h1 q1
 have hb:C4 s=false:=by cases h_:C4 s<;>simp_all
 have hX:=SD (Ao:=Ao) (.inl hb);have hN:=JV (Ao:=Ao) hb;refine ap ?_;refine Tr.ret (Fin.AP (Fin.Sg rfl (AZ.cell 1 rfl rfl Dm Co rfl Lr) (AZ.cell 0 rfl rfl Dm Co rfl Lr) (AZ.tmp rfl Lr) ?_))
 .exact CH ⟨Pr.le_trans (Au (qs:=BL Cw) ⟨Lr,Lr,Lr,AL 1,Lr,AL 4,AL 1,AL 1,Lr,trivial⟩) (Pr.le_of_eq SP),Pr.le_trans (Au (qs:=BL Cw) ⟨Lr,Lr,Lr,AL 1,Lr,AL 4,AL 1,AL 1,Lr,trivial⟩) (Pr.le_of_eq SP),int_eq hN.symm,trivial⟩
 have hb:C4 s=true:=by cases h_:C4 s<;>simp_all
 refine ac ?_;refine ag ?_ ?_<;>intro h2 q2
 refine ac ?_;refine wk [20,5,4,2,1] rfl (Tr.cond rfl (fun _=>?_) (fun h=>nomatch h));refine Tr.seq (Tr.Al (tp rfl (Ad (rows:=[]) rfl WU Gf trivial rfl) (tp rfl (Ad (rows:=[]) rfl WU Gf trivial rfl) (TO.Aa 1 rfl rfl rfl vq Ce rfl Co rfl rfl (TO.Aa 0 rfl rfl rfl vq Ce rfl Co rfl rfl (tm rfl (TO.nil (Fin.go (Tr.ret (Fin.AP (Fin.Sg rfl (AZ.cell 1 rfl rfl Dm Co rfl Lr) (AZ.cell 0 rfl rfl Dm Co rfl Lr) (AZ.tmp rfl Lr) ?_)))))))))))
 .exact VH
 refine ac ?_;refine wk [20,5,4,2,1] rfl ?_;refine Tr.cn rfl ?_ ?_<;>intro h3 q3
 refine ap ?_;refine Tr.ret (Fin.AP (Fin.Sg rfl (AZ.cell 1 rfl rfl Dm Co rfl Lr) (AZ.cell 0 rfl rfl Dm Co rfl Lr) (AZ.tmp rfl Lr) ?_))
 .exact VH
 have hr:¬(Ao<0\/(s.Ay.length:Int)<=Ao):=by have:=q3;omega
 obtain⟨g,c,e,hg,hg1,j_,hc,he⟩:=Ou hb hr;have hX:=TR hb hr hg hc he;have hN:=Ov hb hr;refine ac ?_;refine Tr.seq (Tr.rx ?_);refine ay ?_;refine xo rfl (fun _=>AD rfl underlying29 GC vq vq AA (B9 hg)) ?_;refine ay ?_;refine xo rfl (fun _=>AD rfl underlying28 Co vq vq AA (B9 hc)) ?_;refine ay ?_;refine xo rfl (fun _=>AD rfl underlying29 GC vq vq AA (B9 hg)) ?_;refine ay ?_;refine xo rfl (fun _=>AD rfl underlying28 Co vq vq AA (B9 he)) ?_;refine ay ?_;refine Cx.nil ⟨by kernel_rfl,?_⟩;refine CF.done dP (Fin.go (wk [6,5,4] rfl (Tr.ret (Fin.Sg rfl (AZ.cell 1 rfl rfl Dm Co rfl Lr) (AZ.cell 0 rfl rfl Dm Co rfl Lr) (AZ.tmp rfl Lr) ?_))))
 .exact CH ⟨Pr.le_of_eq (by rw[hX]<;>rfl),Pr.le_of_eq (by rw[hX]<;>rfl),int_eq hN.symm,trivial⟩
theorem MT{Ao:Int}(hs:s.fits):Am prog 14 [agg (Bn s),int Ao,int day] (D8 [agg [int (Jg s Ao day).1,int (Jg s Ao day).2.1],int (Jg s Ao day).2.2]):=by
 refine fo func14 rfl ⟨rfl,rfl⟩ fun M0 w0=>(Tr.seq (Tr.Al (tp rfl (Bc rfl Ce) ?_)));refine Tl rfl rfl rfl rfl Sk E2 (fun b1=>?_);refine ao ?_;refine ao ?_;refine tp rfl (Bm (bT hs) rfl rfl rfl) ?_;refine ao ?_;refine Tl rfl rfl rfl rfl Ma Gf (fun b2=>?_);refine Tl rfl rfl rfl rfl Ma Gf (fun b3=>?_);refine sf 1 8 ⟨rfl,rfl,rfl⟩ rfl rfl rfl rfl ?_;refine sf 0 9 ⟨rfl,rfl,rfl⟩ rfl rfl rfl rfl ?_;refine ao ?_;refine wk [10,9,8,6,2] rfl ?_;refine an ?_ ?_<;>intro h1 q1
 have hN:=TT (day:=day) He;refine ao ?_;refine TO.Aa 0 rfl rfl rfl vq Ce rfl Bs rfl rfl ?_;refine ao ?_;refine Tr.ret (Fin.AP (Fin.BU rfl (AZ.cell 0 rfl rfl B0 Bs rfl Lr) (AZ.tmp rfl Lr) ?_))
 .exact Fq
 obtain⟨hb,hr⟩:=TS (s:=s) (Ao:=Ao) He;obtain⟨g,c,e,hg,hg1,j_,hc,he⟩:=Ou hb hr;have hX:=TR hb hr hg hc he;have RB:(Kr s Ao).1.small/\(Kr s Ao).2.small:=by rw[hX];exact⟨(hs.C9 c (List.mem_of_getElem? hc)).2,(hs.C9 e (List.mem_of_getElem? he)).2⟩
 have hN:Jg s Ao day=F2 (Kr s Ao).1 (Kr s Ao).2 day (Kr s Ao).1.most (Kr s Ao).1.BC:=by rw[hX];exact YB (day:=day) hb hr hg hc he
 refine ac ?_;refine ao ?_;refine tp rfl (Tx (Ui RB.1 RB.2) rfl rfl rfl rfl) ?_;refine ao ?_;refine TO.Aa 0 rfl rfl rfl vq Ce rfl Bs rfl rfl ?_;refine ao ?_;refine wk [7,6] rfl (Tr.ret (Fin.BU rfl (AZ.cell 0 rfl rfl B0 Bs rfl Lr) (AZ.tmp rfl Lr) ?_))
 .exact Fq
theorem Uk{Ao fr to:Int}(hs:s.fits):Am prog 13 [agg (Bn s),int Ao,int fr,int to] (D8 [agg [int (ID s Ao fr to).1,int (ID s Ao fr to).2.1],int (ID s Ao fr to).2.2]):=by
 refine fo func13 rfl ⟨rfl,rfl⟩ fun M0 w0=>(Tr.seq (Tr.Al (tp rfl (Bc rfl Ce) ?_)));refine Tl rfl rfl rfl rfl Sk E2 (fun b1=>?_);refine ao ?_;refine ao ?_;refine tp rfl (Tx (MT hs) rfl rfl rfl rfl) ?_;refine ao ?_;refine Tl rfl rfl rfl rfl Sk E2 (fun b2=>?_);refine sf 0 10 ⟨rfl,rfl,rfl⟩ rfl rfl rfl rfl ?_;refine ao ?_;refine wk [11,10,8,4,3,2,1] rfl ?_;refine an ?_ ?_<;>intro h1 q1
 have hN:ID s Ao fr to=(0,0,(Jg s Ao fr).2.2):=if_pos He;refine ao ?_;refine TO.Aa 0 rfl rfl rfl vq Ce rfl Bs rfl rfl ?_;refine ao ?_;refine Tr.ret (Fin.AP (Fin.BU rfl (AZ.cell 0 rfl rfl B0 Bs rfl Lr) (AZ.tmp rfl Lr) ?_))
 .exact Fq
 have Vp:¬(Jg s Ao fr).2.2≠0:=by simpa using h1
 refine a2 ?_;refine co rfl (Tx (MT hs) rfl rfl rfl rfl) ?_;refine ac ?_;refine wk [11,10,8,3,2] rfl ?_;refine an ?_ ?_<;>intro h2 q2
 have hN:ID s Ao fr to=(0,0,(Jg s Ao to).2.2):=(if_neg Vp).trans (if_pos (by simpa using h2));refine ao ?_;refine TO.Aa 0 rfl rfl rfl vq Ce rfl Bs rfl rfl ?_;refine ao ?_;refine Tr.ret (Fin.AP (Fin.BU rfl (AZ.cell 0 rfl rfl B0 Bs rfl Lr) (AZ.tmp rfl Lr) ?_))
 .exact Fq
 have a_:¬(Jg s Ao to).2.2≠0:=by simpa using h2
 refine ac ?_;refine an ?_ ?_<;>intro h3 q3
 have hN:ID s Ao fr to=(0,0,13):=(if_neg Vp).trans ((if_neg a_).trans (if_pos K2));refine ao ?_;refine TO.Aa 0 rfl rfl rfl vq Ce rfl Bs rfl rfl ?_;refine ao ?_;refine Tr.ret (Fin.AP (Fin.BU rfl (AZ.cell 0 rfl rfl B0 Bs rfl Lr) (AZ.tmp rfl Lr) ?_))
 .exact Fq
 have hN:ID s Ao fr to=Jg s Ao fr:=(if_neg Vp).trans ((if_neg a_).trans (if_neg K2));refine ac ?_;refine ao ?_;refine TO.Aa 0 rfl rfl rfl vq Ce rfl Bs rfl rfl ?_;refine ao ?_;refine Tr.ret (Fin.BU rfl (AZ.cell 0 rfl rfl B0 Bs rfl Lr) (AZ.tmp rfl Lr) ?_)
 .exact Vn
abbrev JW(En su:List UInt8)(a c id sg:Int)(au:Bool)(sr h fr CW pa:Int)(nm:List (List UInt8))(key s:Int):Cn:=⟨sr,En,su,a,c,id,h,0,fr,CW,au,pa,nm,key,s⟩
abbrev uO(a k id:Int):Pr:=Cp.ex fun c:Cn=>fact (BD c=true/\c.JJ=a/\c.Fh=k/\c.Da=id) (agg (CM c))
structure MkH(En su:List UInt8)(a c id sg:Int):Prop where
 En:named En=true
 su:CV [su,su++[120]]=true
 key:E6 a c 2=true
 a:0<=a/\a<=40000
 c:0<=c/\c<=40000
 id:0<=id/\id<=40000
 sg:0<=sg/\sg<=40000
theorem Iy{su t:List UInt8}(h:CV [su,t]=true):named su=true/\CV [su]=true:=by
 unfold CV at h;rw[Bool.and_eq_true]at h;have h0:=Be.1 h.1 0 AO;have h1:named su=true:=by unfold nameAt at h0;simp at h0;exact h0
 refine⟨h1,?_⟩;unfold CV;rw[Bool.and_eq_true];refine⟨Be.2 fun j hj=>?_,by simp⟩;have:j=0:=by simp at hj;omega
 subst this;unfold nameAt;simp[h1]
theorem QN{h:Int}(hh:h∈[3,2,4,1]):E6 h 0 1=true/\0<=h/\h<=40000:=by
 simp at hh;rcases hh with rfl|rfl|rfl|rfl<;>exact⟨by decide+kernel,by omega,by omega⟩
theorem Eh{En su:List UInt8}{a c id sg:Int}(hm:MkH En su a c id sg){au:Bool}{sr h fr CW pa key s:Int}{nm:List (List UInt8)}(Ry:0<=sr/\sr<1000)(hh:h∈[3,2,4,1])(hfr:fr∈[0,5,10])(hto:CW∈[1000,100,50,20])(hpa:0<=pa/\pa<=3)(hau:au=true\/pa=0)(hnm:nm=[su]\/nm=[su,su++[120]])(hk:0<=key/\key<=2147483648)(hs:0<=s/\s<4294967296):
  BD (JW En su a c id sg au sr h fr CW pa nm key s)=true:=by
 have h1:=Iy hm.su;have hi:=hm.id;simp at hfr hto;refine S8 ⟨Ry.1,by show sr<=_;omega,hm.En,h1.1,?_,hm.key,hi.1,by show id<=_;omega,(QN hh).1,hk.1,hk.2,hs.1,hs.2,by show 0<=fr;omega,by show fr<=CW;omega,by show CW<=_;omega,hpa.1,by show pa<=_;omega,hau⟩;rcases hnm with rfl|rfl
 .exact h1.2
 .exact hm.su
theorem LD{En su:List UInt8}{a c id sg:Int}(hm:MkH En su a c id sg){au:Bool}{sr h fr CW pa key s:Int}{nm:List (List UInt8)}(Ry:0<=sr/\sr<1000)(hh:h∈[3,2,4,1]):(JW En su a c id sg au sr h fr CW pa nm key s).Mj:=
 ⟨by show sr<=_;omega,Int.le_trans hm.id.2 AB,hm.a,hm.c,(QN hh).2,by show(0:Int)<=0/\(0:Int)<=40000;omega⟩
theorem QO{b:Nat}{s:DS}{En su:List UInt8}{a c id sg:Int}{au:Bool}(hm:MkH En su a c id sg):BW prog 92 [ptr b 0,str En,str su,agg [int a,int c],int id,int sg,bool au] (uO a c id) (CT b s) (fun _=>EW 66 b):=by
 refine BW.of func92 rfl rfl Af fun M0 w0 S rs M1 w1=>?_;have Ry:=s.B8 (n:=1000) AA;have hh:=s.Ai.DE (l:=[3,2,4,1]) AO;have hfr:=s.Ai.Ai.DE (l:=[0,5,10]) AO;have hto:=s.Ai.Ai.Ai.DE (l:=[1000,100,50,20]) AO;have hpp:=s.Ai.Ai.Ai.Ai.DE (l:=[3,0,1]) AO;have hpa:0<=s.Ai.Ai.Ai.Ai.of [3,0,1]/\s.Ai.Ai.Ai.Ai.of [3,0,1]<=3:=by simp at hpp;omega
 have Ul:0<=sg/\sg<=2147483648:=⟨hm.sg.1,by have:=hm.sg.2;omega⟩;refine Tr.seq (Tr.Al (tp rfl (Bc rfl Ce) ?_));refine Tl rfl rfl rfl rfl J2 Gu (fun b1=>?_);refine ap ?_;refine Tr.seq (Tr.pad (Tr.rx (xm rfl (Cx.ef 2 rfl rfl AB (Ab rfl rfl AB rfl (Bp AA AA) ⟨ke rfl,ke rfl,trivial⟩) ?_))));refine ax ?_;refine xo rfl (fun _=>oI) ?_;refine Cx.ef 2 rfl rfl AB (Ab rfl rfl AB rfl (DB (l:=[3,2,4,1]) AO AO) ⟨kq,Cs,trivial⟩) ?_;refine ax ?_;refine xo rfl (fun _=>oI) ?_;refine Cx.ef 2 rfl rfl AB (Ab rfl rfl AB rfl (DB (l:=[0,5,10]) AO AO) ⟨kq,Cs,trivial⟩) ?_;refine xm rfl (xo rfl (fun _=>oI) ?_);refine Cx.ef 2 rfl rfl AB (Ab rfl rfl AB rfl (DB (l:=[1000,100,50,20]) AO AO) ⟨kq,Cs,trivial⟩) ?_;refine xm rfl (xo rfl (fun _=>Ad (qs:=[int (s.val 1000),str En,str su,int a,int c,int id,int (s.Ai.of [3,2,4,1]),int 0,int (s.Ai.Ai.of [0,5,10]),int (s.Ai.Ai.Ai.of [1000,100,50,20]),bool au,int 0,is (.slice none 0 0),int 0,int 0]) (rows:=[(0,[_]),(1,[_]),(2,[_]),(3,_),(4,[_]),(5,_),(6,[_]),(7,[_]),(8,[_])]) rfl ck Gu ⟨⟨rfl,CD⟩,⟨⟨rfl,CD⟩,⟨⟨rfl,CD⟩,⟨⟨rfl,Ce⟩,⟨⟨rfl,CD⟩,⟨⟨rfl,Ce⟩,⟨⟨rfl,CD⟩,⟨⟨rfl,CD⟩,⟨⟨rfl,CD⟩,trivial⟩⟩⟩⟩⟩⟩⟩⟩⟩ BI) (Cx.ef 0 rfl rfl AB (J3 rfl rfl AB rfl J2 Gu) (Cx.Ej 0 rfl rfl (J4 rfl rfl rfl rfl Ce CC rfl rfl) ?_)));refine Cx.nil ⟨by kernel_rfl,?_⟩;refine CF.open_ 0 15 rfl rfl (fun v1=>?_);refine CF.done al4 (Fin.YZ 15 0 _ rfl rfl (fun _=>rfl) (fun b2=>?_));refine Fin.go (wk [15,14,6,5,2,0] rfl (Tr.seq (Tr.seq (Tr.O7 0 [int (s.val 1000),str En,str su,int a,int c,int id,int (s.Ai.of [3,2,4,1]),int 0,int (s.Ai.Ai.of [0,5,10]),int (s.Ai.Ai.Ai.of [1000,100,50,20]),bool au,int 0,is (.slice none 0 0),int 0,int 0] rfl BI ?_))));refine an ?_ ?_<;>intro h1 q1
 refine Tr.O7 0 [int (s.val 1000),str En,str su,int a,int c,int id,int (s.Ai.of [3,2,4,1]),int 0,int (s.Ai.Ai.of [0,5,10]),int (s.Ai.Ai.Ai.of [1000,100,50,20]),bool au,int 0,is (.slice none 0 0),int 0,int 0] rfl BI ?_;refine ap ?_;refine TO.EJ 2 rfl rfl AB (Ab rfl rfl AB rfl (DB (l:=[3,0,1]) AO AO) ⟨kq,Cs,trivial⟩) ?_;refine ap ?_;refine Tr.seq (Tr.O7 0 [int (s.val 1000),str En,str su,int a,int c,int id,int (s.Ai.of [3,2,4,1]),int 0,int (s.Ai.Ai.of [0,5,10]),int (s.Ai.Ai.Ai.of [1000,100,50,20]),bool au,int (s.Ai.Ai.Ai.Ai.of [3,0,1]),is (.slice none 0 0),int 0,int 0] rfl BI ?_);refine ap ?_;refine wk [15,14,5,2,0] rfl (Tr.seq (Tr.seq (Tr.O7 0 [int (s.val 1000),str En,str su,int a,int c,int id,int (s.Ai.of [3,2,4,1]),int 0,int (s.Ai.Ai.of [0,5,10]),int (s.Ai.Ai.Ai.of [1000,100,50,20]),bool au,int (s.Ai.Ai.Ai.Ai.of [3,0,1]),full 1 [[str su]],int 0,int 0] rfl BI ?_)));refine ap ?_;refine TO.EJ 2 rfl rfl AB (Ab rfl rfl AB rfl (HR AA AA) ⟨ke rfl,ke rfl,trivial⟩) ?_;refine ap ?_;refine Tr.cn rfl ?_ ?_<;>intro h2 q2
 refine Tr.O7 0 [int (s.val 1000),str En,str su,int a,int c,int id,int (s.Ai.of [3,2,4,1]),int 0,int (s.Ai.Ai.of [0,5,10]),int (s.Ai.Ai.Ai.of [1000,100,50,20]),bool au,int (s.Ai.Ai.Ai.Ai.of [3,0,1]),full 1 [[str su]],int 0,int 0] rfl BI ?_;refine ap ?_;refine tp rfl (W_ rfl vq vq Vf) ?_;refine tp rfl (AG (xs:=[.tmp 47]) (rows:=[[_]]) rfl rfl underlying67 G4 z9 rfl AB ⟨⟨AK,CD⟩,trivial⟩ AB) ?_;refine tp rfl (Hw rfl underlying67 G4 by9 z9 rfl AB vq Cs Vl SI) ?_;refine ap ?_;refine wk [15,14,5] rfl (Tr.seq (Tr.O7 0 [int (s.val 1000),str En,str su,int a,int c,int id,int (s.Ai.of [3,2,4,1]),int 0,int (s.Ai.Ai.of [0,5,10]),int (s.Ai.Ai.Ai.of [1000,100,50,20]),bool au,int (s.Ai.Ai.Ai.Ai.of [3,0,1]),slice 1 ([[str su]]++[[str (su++[120])]]),int 0,int 0] rfl BI ?_));have hv:BD (Ea (JW En su a c id sg au (s.val 1000) (s.Ai.of [3,2,4,1]) (s.Ai.Ai.of [0,5,10]) (s.Ai.Ai.Ai.of [1000,100,50,20]) (s.Ai.Ai.Ai.Ai.of [3,0,1]) [su,su++[120]] 0 0) 0 0)=true:=Eh hm Ry hh hfr hto hpa (.inl h1) (.inr rfl) (key:=0) (s:=0) AA AA;have ht:(Ea (JW En su a c id sg au (s.val 1000) (s.Ai.of [3,2,4,1]) (s.Ai.Ai.of [0,5,10]) (s.Ai.Ai.Ai.of [1000,100,50,20]) (s.Ai.Ai.Ai.Ai.of [3,0,1]) [su,su++[120]] 0 0) 0 0).Mj:=LD hm Ry hh;refine Tr.Fy 0 (CM (JW En su a c id sg au (s.val 1000) (s.Ai.of [3,2,4,1]) (s.Ai.Ai.of [0,5,10]) (s.Ai.Ai.Ai.of [1000,100,50,20]) (s.Ai.Ai.Ai.Ai.of [3,0,1]) [su,su++[120]] 0 0)) rfl ⟨Lr,Lr,Lr,Lr,Lr,Lr,Lr,Lr,Lr,Lr,Lr,Lr,Lr,Lr,Lr,trivial⟩ ?_;refine ap ?_;refine tp rfl (Bm (HQ (key:=sg) hv ht Ul) rfl rfl rfl) ?_;refine TO.ex 54 rfl (fun Qf=>TO.fact 54 rfl fun MU=>?_);refine ap ?_;refine ap ?_;refine Tr.drop 0 (Tr.ret (Fin.CJ 1 _ rfl rfl (Fin.Ci [_] rfl (AZ.cell 0 rfl rfl FI CC rfl Lr) ?_ (fun _ _ _ _=>rfl))))
 .exact BN _ (BS ⟨Eh hm Ry hh hfr hto hpa (.inl h1) (.inr rfl) Ul MU,rfl,rfl,rfl⟩ Lr)
 refine ac ?_;refine Tr.seq (Tr.O7 0 [int (s.val 1000),str En,str su,int a,int c,int id,int (s.Ai.of [3,2,4,1]),int 0,int (s.Ai.Ai.of [0,5,10]),int (s.Ai.Ai.Ai.of [1000,100,50,20]),bool au,int (s.Ai.Ai.Ai.Ai.of [3,0,1]),full 1 [[str su]],int 0,int 0] rfl BI ?_);have hv:BD (Ea (JW En su a c id sg au (s.val 1000) (s.Ai.of [3,2,4,1]) (s.Ai.Ai.of [0,5,10]) (s.Ai.Ai.Ai.of [1000,100,50,20]) (s.Ai.Ai.Ai.Ai.of [3,0,1]) [su] 0 0) 0 0)=true:=Eh hm Ry hh hfr hto hpa (.inl h1) (.inl rfl) (key:=0) (s:=0) AA AA;have ht:(Ea (JW En su a c id sg au (s.val 1000) (s.Ai.of [3,2,4,1]) (s.Ai.Ai.of [0,5,10]) (s.Ai.Ai.Ai.of [1000,100,50,20]) (s.Ai.Ai.Ai.Ai.of [3,0,1]) [su] 0 0) 0 0).Mj:=LD hm Ry hh;refine Tr.Fy 0 (CM (JW En su a c id sg au (s.val 1000) (s.Ai.of [3,2,4,1]) (s.Ai.Ai.of [0,5,10]) (s.Ai.Ai.Ai.of [1000,100,50,20]) (s.Ai.Ai.Ai.Ai.of [3,0,1]) [su] 0 0)) rfl ⟨Lr,Lr,Lr,Lr,Lr,Lr,Lr,Lr,Lr,Lr,Lr,Lr,Ak _ _,Lr,Lr,trivial⟩ ?_;refine ap ?_;refine tp rfl (Bm (HQ (key:=sg) hv ht Ul) rfl rfl rfl) ?_;refine TO.ex 54 rfl (fun Qf=>TO.fact 54 rfl fun MU=>?_);refine ap ?_;refine ap ?_;refine Tr.drop 0 (wk [14] rfl (Tr.ret (Fin.CJ 1 _ rfl rfl (Fin.Ci [_] rfl (AZ.cell 0 rfl rfl FI CC rfl Lr) ?_ (fun _ _ _ _=>rfl)))))
 .exact BN _ (BS ⟨Eh hm Ry hh hfr hto hpa (.inl h1) (.inl rfl) Ul MU,rfl,rfl,rfl⟩ Lr)
 refine ac ?_;refine Tr.seq (Tr.O7 0 [int (s.val 1000),str En,str su,int a,int c,int id,int (s.Ai.of [3,2,4,1]),int 0,int (s.Ai.Ai.of [0,5,10]),int (s.Ai.Ai.Ai.of [1000,100,50,20]),bool au,int 0,is (.slice none 0 0),int 0,int 0] rfl BI ?_);refine ap ?_;refine Tr.seq (Tr.seq (Tr.O7 0 [int (s.val 1000),str En,str su,int a,int c,int id,int (s.Ai.of [3,2,4,1]),int 0,int (s.Ai.Ai.of [0,5,10]),int (s.Ai.Ai.Ai.of [1000,100,50,20]),bool au,int 0,full 1 [[str su]],int 0,int 0] rfl BI ?_));refine ap ?_;refine TO.EJ 2 rfl rfl AB (Ab rfl rfl AB rfl (HR AA AA) ⟨ke rfl,ke rfl,trivial⟩) ?_;refine ap ?_;refine Tr.cn rfl ?_ ?_<;>intro h3 q3
 refine Tr.O7 0 [int (s.val 1000),str En,str su,int a,int c,int id,int (s.Ai.of [3,2,4,1]),int 0,int (s.Ai.Ai.of [0,5,10]),int (s.Ai.Ai.Ai.of [1000,100,50,20]),bool au,int 0,full 1 [[str su]],int 0,int 0] rfl BI ?_;refine ap ?_;refine tp rfl (W_ rfl vq vq Vf) ?_;refine tp rfl (AG (xs:=[.tmp 47]) (rows:=[[_]]) rfl rfl underlying67 G4 z9 rfl AB ⟨⟨AK,CD⟩,trivial⟩ AB) ?_;refine tp rfl (Hw rfl underlying67 G4 by9 z9 rfl AB vq Cs Vl SI) ?_;refine ap ?_;refine wk [15,14,5] rfl (Tr.seq (Tr.O7 0 [int (s.val 1000),str En,str su,int a,int c,int id,int (s.Ai.of [3,2,4,1]),int 0,int (s.Ai.Ai.of [0,5,10]),int (s.Ai.Ai.Ai.of [1000,100,50,20]),bool au,int 0,slice 1 ([[str su]]++[[str (su++[120])]]),int 0,int 0] rfl BI ?_));have hv:BD (Ea (JW En su a c id sg au (s.val 1000) (s.Ai.of [3,2,4,1]) (s.Ai.Ai.of [0,5,10]) (s.Ai.Ai.Ai.of [1000,100,50,20]) 0 [su,su++[120]] 0 0) 0 0)=true:=Eh hm Ry hh hfr hto (pa:=0) AA (.inr rfl) (.inr rfl) (key:=0) (s:=0) AA AA;have ht:(Ea (JW En su a c id sg au (s.val 1000) (s.Ai.of [3,2,4,1]) (s.Ai.Ai.of [0,5,10]) (s.Ai.Ai.Ai.of [1000,100,50,20]) 0 [su,su++[120]] 0 0) 0 0).Mj:=LD hm Ry hh;refine Tr.Fy 0 (CM (JW En su a c id sg au (s.val 1000) (s.Ai.of [3,2,4,1]) (s.Ai.Ai.of [0,5,10]) (s.Ai.Ai.Ai.of [1000,100,50,20]) 0 [su,su++[120]] 0 0)) rfl ⟨Lr,Lr,Lr,Lr,Lr,Lr,Lr,Lr,Lr,Lr,Lr,Lr,Lr,Lr,Lr,trivial⟩ ?_;refine ap ?_;refine tp rfl (Bm (HQ (key:=sg) hv ht Ul) rfl rfl rfl) ?_;refine TO.ex 54 rfl (fun Qf=>TO.fact 54 rfl fun MU=>?_);refine ap ?_;refine ap ?_;refine Tr.drop 0 (Tr.ret (Fin.CJ 1 _ rfl rfl (Fin.Ci [_] rfl (AZ.cell 0 rfl rfl FI CC rfl Lr) ?_ (fun _ _ _ _=>rfl))))
 .exact BN _ (BS ⟨Eh hm Ry hh hfr hto (pa:=0) AA (.inr rfl) (.inr rfl) Ul MU,rfl,rfl,rfl⟩ Lr)
 refine ac ?_;refine Tr.seq (Tr.O7 0 [int (s.val 1000),str En,str su,int a,int c,int id,int (s.Ai.of [3,2,4,1]),int 0,int (s.Ai.Ai.of [0,5,10]),int (s.Ai.Ai.Ai.of [1000,100,50,20]),bool au,int 0,full 1 [[str su]],int 0,int 0] rfl BI ?_);have hv:BD (Ea (JW En su a c id sg au (s.val 1000) (s.Ai.of [3,2,4,1]) (s.Ai.Ai.of [0,5,10]) (s.Ai.Ai.Ai.of [1000,100,50,20]) 0 [su] 0 0) 0 0)=true:=Eh hm Ry hh hfr hto (pa:=0) AA (.inr rfl) (.inl rfl) (key:=0) (s:=0) AA AA;have ht:(Ea (JW En su a c id sg au (s.val 1000) (s.Ai.of [3,2,4,1]) (s.Ai.Ai.of [0,5,10]) (s.Ai.Ai.Ai.of [1000,100,50,20]) 0 [su] 0 0) 0 0).Mj:=LD hm Ry hh;refine Tr.Fy 0 (CM (JW En su a c id sg au (s.val 1000) (s.Ai.of [3,2,4,1]) (s.Ai.Ai.of [0,5,10]) (s.Ai.Ai.Ai.of [1000,100,50,20]) 0 [su] 0 0)) rfl ⟨Lr,Lr,Lr,Lr,Lr,Lr,Lr,Lr,Lr,Lr,Lr,Lr,Ak _ _,Lr,Lr,trivial⟩ ?_;refine ap ?_;refine tp rfl (Bm (HQ (key:=sg) hv ht Ul) rfl rfl rfl) ?_;refine TO.ex 54 rfl (fun Qf=>TO.fact 54 rfl fun MU=>?_);refine ap ?_;refine wk [15,14] rfl ?_;refine ap ?_;refine Tr.drop 0 (Tr.ret (Fin.CJ 1 _ rfl rfl (Fin.Ci [_] rfl (AZ.cell 0 rfl rfl FI CC rfl Lr) ?_ (fun _ _ _ _=>rfl))))
 .exact BN _ (BS ⟨Eh hm Ry hh hfr hto (pa:=0) AA (.inr rfl) (.inl rfl) Ul MU,rfl,rfl,rfl⟩ Lr)
abbrev iX(a k id:Int):Pr:=Cp.ex fun l:List Cn=>fact ((l.length<=3/\∀c∈l,BD c=true)/\P3 a k id l=true) (Fi l)
def YC:List (List UInt8):=[[99,97],[99,98],[99,99]]
theorem YD{su:List UInt8}(h:su∈YC):CV [su,su++[120]]=true:=by
 unfold YC at h;simp at h;rcases h with rfl|rfl|rfl<;>decide+kernel
theorem bU:E6 5 2048 2=true:=by decide+kernel
theorem bV{En su:List UInt8}{id sg:Int}(hi:named En=true)(h:su∈YC)(hid:0<=id/\id<=40000)(Ul:0<=sg/\sg<=40000):MkH En su 5 2048 id sg:=⟨hi,YD h,bU,by omega,by omega,hid,Ul⟩
theorem Um{b:Nat}{s:DS}{nm:List UInt8}{a c id:Int}(hn:CV [nm,nm++[120]]=true)(hk:E6 a c 2=true)(ha:0<=a/\a<=40000)(hc:0<=c/\c<=40000)(hid:0<=id/\id<=40000):BW prog 50 [ptr b 0,str nm,agg [int a,int c],int id] (iX a c id) (CT b s) (fun _=>EW 66 b):=by
 refine BW.of func50 rfl rfl Af fun M0 w0 S rs M1 w1=>?_;have hof:=s.DE (l:=[1,0,2]) AO;simp at hof;have Tu:=s.Ai.B8 (n:=2) AA;refine ac ?_;refine ao ?_;refine TO.EJ 0 rfl rfl AB (Ab rfl rfl AB rfl (DB (l:=[1,0,2]) AO AO) ⟨kq,Cs,trivial⟩) ?_;refine ao ?_;refine ao ?_;refine TO.EJ 0 rfl rfl AB (Ab rfl rfl AB rfl (Bp AA AA) ⟨ke rfl,ke rfl,trivial⟩) ?_;refine ao ?_;refine ac ?_;refine ac ?_;refine Tr.block ?_;refine Tr.WI [(0,_),(1,_),(3,_),(6,_),(9,_)] ⟨ke rfl,ke rfl,ke rfl,ke rfl,ke rfl,trivial⟩ (fun(ab:List Cn) (sg:Int) (En:List UInt8) (s2:DS)=>[(13,int ((ab.length:Nat):Int)),(12,Fi ab),(10,int sg),(11,str En)]) (fun(ab:List Cn) (sg:Int) (En:List UInt8) (s2:DS)=>Hp M0 w0 S (CT b s2::Ah M1 w1::rs)) (fun(ab:List Cn) (sg:Int) (En:List UInt8) (s2:DS)=>ab.length<=2/\(∀c∈ab,BD c=true)/\named En=true/\(0<=sg/\sg<=40000)) (fun(ab:List Cn) (sg:Int) (En:List UInt8) (s2:DS)=>2-ab.length) ([]) (_) (_) (_)  (⟨by show 0<=2;omega,fun c h=>by simp at h,by decide,by omega⟩) ⟨ke rfl,⟨_,rfl,AL 15⟩,ke rfl,ke rfl,trivial⟩ (fun _ _ h=>h) ?_;rintro ab sg En s2  ⟨hk1,U1,Ko,Ul⟩;refine ac ?_;refine Tr.cn rfl ?_ ?_<;>intro h1 q1
 have hlt:((ab.length:Nat):Int)<s.of [1,0,2]:=of_decide_eq_true h1;obtain⟨su,Yh⟩:=at_ (l:=YC) (k:=ab.length) (by show _<3;omega);refine ac ?_;refine ac ?_;refine co rfl (AD rfl underlying67 G4 Cs vq AA (show(YC.map fun t=>[str t])[_]? =_ from Aj Yh)) ?_;refine ac ?_;refine wk [14,13,12,11,10,9,6,3,1,0] rfl ?_;refine ao ?_;refine TO.EJ 0 rfl rfl AB (Ab rfl rfl AB rfl (QO (bV Ko (List.mem_of_getElem? Yh) AA Ul)) ⟨ke rfl,ke rfl,ke rfl,ke rfl,ke rfl,ke rfl,ke rfl,trivial⟩) ?_;refine TO.ex 38 rfl (fun z1=>TO.fact 38 rfl fun H8=>?_);refine Tl rfl rfl rfl rfl J2 Gu (fun b1=>?_);refine sf 0 15 ⟨rfl,rfl,rfl⟩ rfl rfl rfl rfl ?_;refine TO.nil (Fin.Gt 0 rfl (fun s1=>?_));refine Fin.go (wk [15,14,13,12,9,6,3,1,0] rfl ?_);refine ac ?_;refine co rfl (Hw rfl underlying76 CC Wa J2 rfl AB vq vq Vg Vj) ?_;refine ac ?_;refine wk [14,13,12,9,6,3,1,0] rfl ?_;refine ac ?_;refine ac ?_;exact Fin.Y2 (z1::ab) (11+(ab.length:Nat)) (su) (_)  (⟨⟨by simp;omega,fun c hc=>(List.mem_cons.1 hc).elim (fun h=>h ▸ H8.1) (U1 c),(Iy (YD (List.mem_of_getElem? Yh))).1,by omega⟩,by simp;omega⟩) ⟨⟨_,rfl,AM ab.length⟩,kz⟩ (fun _ _ h=>h);refine ac ?_;refine ao ?_;refine TO.EJ 0 rfl rfl AB (Ab rfl rfl AB rfl (QO ⟨Ko,hn,hk,ha,hc,hid,Ul⟩) ⟨kq,kz⟩) ?_;refine TO.ex 52 rfl (fun z2=>TO.fact 52 rfl fun PN=>?_);refine ao ?_;refine tp rfl (Hw rfl underlying76 CC Wa J2 rfl AB vq vq Vg Vj) ?_;refine tm rfl (TO.nil (Fin.Gt 0 rfl (fun s2=>?_)));refine Fin.go (eG 8 rfl (Tr.ret (Fin.CJ 0 _ rfl rfl (Fin.Ci [] rfl (AZ.tmp rfl (Lr)) ?_ (fun _ _ _ _=>rfl)))))
 .exact BN (z2::ab) (BS ⟨⟨by simp;omega,fun c hc=>(List.mem_cons.1 hc).elim (fun h=>h ▸ PN.1) (U1 c)⟩,by show(decide _&&_)=true;simp[PN.2]⟩ Lr)
theorem QS{c:Cn}(h:BD c=true):c.fits/\c.names.length<=8:=by
 obtain⟨_,_,Ko,hsub,hnm,_⟩:=FT h;have h1:=DU Ko;have h2:=DU hsub;unfold CV at hnm;rw[Bool.and_eq_true]at hnm;refine⟨⟨by unfold maxLen;omega,by unfold maxLen;omega,fun t ht=>?_⟩,by simpa using hnm.2⟩;obtain⟨i,hi,rfl⟩:=List.mem_iff_getElem.1 ht;have:=Be.1 hnm.1 i hi;have:=DU (Hy this (List.getElem?_eq_getElem hi));unfold maxLen;omega
theorem QT{l:List Cn}(h:l.length<=3/\∀c∈l,BD c=true){a c id:Int}:(⟨a,c,id,l⟩:Fj).fits/\(⟨a,c,id,l⟩:Fj).small:=
 ⟨fun c hc=>(QS (h.2 c hc)).1,by show l.length<=_;omega,fun c hc=>by have:=(QS (h.2 c hc)).2;omega⟩
end Go.Proofs.YthommhphcagokaaGreatDoor
