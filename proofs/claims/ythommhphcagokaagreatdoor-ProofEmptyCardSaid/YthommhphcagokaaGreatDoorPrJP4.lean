/-
  Part 4 of the texts that prove this claim, merged.
-/
import Derived.Test.YthommhphcagokaaGreatDoorPrJP3
set_option linter.all false
set_option maxRecDepth 40000
set_option maxHeartbeats 16000000
namespace Go.Proofs.YthommhphcagokaaGreatDoor
open Go Go.RowKit Cp Go.Proofs.Tryz
variable{I:B3}{E:Env}{f:FuncId}{Bl:Int}{rows:List (List Pr)}{l:List Int}{d i j k m:Nat}{o:Oper}{x:Operand}{p:Pr}{P:Program}{w:World}
theorem JL{β γ:Type}{f:β->γ}{l:List β}(h:l≠[]):0<(l.map f).length:=by rw[List.length_map];exact List.length_pos_iff.2 h
theorem T3{l:List (Int)}(h0:l≠[])(hl:l.length<=1000000):BW prog 178 [slice 1 (l.map (fun n:Int=>[int n]))] (lens (l.map (fun n:Int=>[int n])).length) (Bj) (fun v=>Cq 3 1 (l.map (fun n:Int=>[int n])) v):=by
 refine BW.of func178 rfl rfl Af fun M0 w0 S rs M1 w1=>?_;have hpos:=JL (f:=(fun n:Int=>[int n])) h0;refine a2 ?_;refine co rfl (EE rfl underlying22 vq) ?_;refine ac ?_;refine Tr.ex 4 rfl (fun z1=>Tr.fact 4 rfl fun H8=>?_);refine Tr.cn rfl ?_ ?_<;>intro h1 q1
 exfalso;have:=H8 h1;simp_all;refine ac ?_;refine ap ?_;refine TO.pad ?_;refine TO.EV 0 rfl rfl AB (Gh rfl rfl AB rfl underlying22 C_ Y6 z3 rfl AB AB vq vq hpos Nz GN) (fun v1=>?_);refine ap ?_;refine Tr.ret (Fin.drop 1 ?_);refine Fin.Ll rfl rfl ?_ Kx
 .exact Eu
theorem T4   :Am prog 178 [slice 1 []] (full 1 []):=by
 refine fo func178 rfl ⟨rfl,rfl⟩ fun M0 w0=>?_;refine a2 ?_;refine co rfl (EE rfl underlying22 vq) ?_;refine ac ?_;refine Tr.ex 4 rfl (fun z1=>Tr.fact 4 rfl fun H8=>?_)
 .repeat' first|exact HB 1|exact Lr|refine co rfl (JG rfl underlying22 C_ vq vq) ?_|refine ac ?_|(refine Tr.cn rfl ?_ ?_<;>intro h q)
theorem J8{l:List (Int)}(hl:l.length<=1000000):Am Tryz.prog 178 [slice 1 (l.map (fun n:Int=>[int n]))] (slice 1 (l.map (fun n:Int=>[int n]))):=by
 by_cases h0:l=[]
 .subst h0;exact Am.le T4 (fun _ _ _ h=>h) (Ak _ _)
 .exact(BW.mP (rows:=(l.map (fun n:Int=>[int n]))) (CK fun _=>rfl) (T3 h0 hl)).pure
theorem T5{l:List (Fj)}(h0:l≠[])(hl:l.length<=1000000):BW prog 221 [slice 4 (l.map EI)] (lens (l.map EI).length) (Bj) (fun v=>Cq 78 4 (l.map EI) v):=by
 refine BW.of func221 rfl rfl Af fun M0 w0 S rs M1 w1=>?_;have hpos:=JL (f:=EI) h0;refine a2 ?_;refine co rfl (EE rfl underlying71 vq) ?_;refine ac ?_;refine Tr.ex 4 rfl (fun z1=>Tr.fact 4 rfl fun H8=>?_);refine Tr.cn rfl ?_ ?_<;>intro h1 q1
 exfalso;have:=H8 h1;simp_all;refine ac ?_;refine ap ?_;refine TO.pad ?_;refine TO.EV 0 rfl rfl AB (Gh rfl rfl AB rfl underlying71 EF eZ Ts rfl AB AB vq vq hpos Nz GN) (fun v1=>?_);refine ap ?_;refine Tr.ret (Fin.drop 1 ?_);refine Fin.Ll rfl rfl ?_ Kx
 .exact Eu
theorem T6   :Am prog 221 [slice 4 []] (full 4 []):=by
 refine fo func221 rfl ⟨rfl,rfl⟩ fun M0 w0=>?_;refine a2 ?_;refine co rfl (EE rfl underlying71 vq) ?_;refine ac ?_;refine Tr.ex 4 rfl (fun z1=>Tr.fact 4 rfl fun H8=>?_)
 .repeat' first|exact HB 4|exact Lr|refine co rfl (JG rfl underlying71 EF vq vq) ?_|refine ac ?_|(refine Tr.cn rfl ?_ ?_<;>intro h q)
theorem T7{l:List (Fj)}(hl:l.length<=1000000):BW Tryz.prog 221 [slice 4 (l.map EI)] (lens l.length) Bj (fun v=>CL 78 4 (l.map EI) v):=by
 by_cases h0:l=[]
 .subst h0;exact BW.Po T6
 .
  have:=BW.L9 (by intro h;exact h0 EP) (T5 h0 hl)
  rwa [List.length_map]at this
theorem T8{l:List (Cn)}(h0:l≠[])(hl:l.length<=925904528640):BW prog 260 [slice 15 (l.map CM)] (lens (l.map CM).length) (Bj) (fun v=>Cq 122 15 (l.map CM) v):=by
 refine BW.of func260 rfl rfl Af fun M0 w0 S rs M1 w1=>?_;have hpos:=JL (f:=CM) h0;refine a2 ?_;refine co rfl (EE rfl underlying76 vq) ?_;refine ac ?_;refine Tr.ex 4 rfl (fun z1=>Tr.fact 4 rfl fun H8=>?_);refine Tr.cn rfl ?_ ?_<;>intro h1 q1
 exfalso;have:=H8 h1;simp_all;refine ac ?_;refine ap ?_;refine TO.pad ?_;refine TO.EV 0 rfl rfl AB (Gh rfl rfl AB rfl underlying76 CC Wa J2 rfl AB AB vq vq hpos Nz GN) (fun v1=>?_);refine ap ?_;refine Tr.ret (Fin.drop 1 ?_);refine Fin.Ll rfl rfl ?_ Kx
 .exact Eu
theorem T9   :Am prog 260 [slice 15 []] (full 15 []):=by
 refine fo func260 rfl ⟨rfl,rfl⟩ fun M0 w0=>?_;refine a2 ?_;refine co rfl (EE rfl underlying76 vq) ?_;refine ac ?_;refine Tr.ex 4 rfl (fun z1=>Tr.fact 4 rfl fun H8=>?_)
 .repeat' first|exact HB 15|exact Lr|refine co rfl (JG rfl underlying76 CC vq vq) ?_|refine ac ?_|(refine Tr.cn rfl ?_ ?_<;>intro h q)
theorem T_{l:List (Cn)}(hl:l.length<=925904528640):BW Tryz.prog 260 [slice 15 (l.map CM)] (lens l.length) Bj (fun v=>CL 122 15 (l.map CM) v):=by
 by_cases h0:l=[]
 .subst h0;exact BW.Po T9
 .
  have:=BW.L9 (by intro h;exact h0 EP) (T8 h0 hl)
  rwa [List.length_map]at this
theorem UA{l:List (List UInt8)}(h0:l≠[])(hl:l.length<=8796093022208):BW prog 261 [slice 1 (l.map (fun t:List UInt8=>[str t]))] (lens (l.map (fun t:List UInt8=>[str t])).length) (Bj) (fun v=>Cq 9 1 (l.map (fun t:List UInt8=>[str t])) v):=by
 refine BW.of func261 rfl rfl Af fun M0 w0 S rs M1 w1=>?_;have hpos:=JL (f:=(fun t:List UInt8=>[str t])) h0;refine a2 ?_;refine co rfl (EE rfl underlying67 vq) ?_;refine ac ?_;refine Tr.ex 4 rfl (fun z1=>Tr.fact 4 rfl fun H8=>?_);refine Tr.cn rfl ?_ ?_<;>intro h1 q1
 exfalso;have:=H8 h1;simp_all;refine ac ?_;refine ap ?_;refine TO.pad ?_;refine TO.EV 0 rfl rfl AB (Gh rfl rfl AB rfl underlying67 G4 by9 z9 rfl AB AB vq vq hpos Nz GN) (fun v1=>?_);refine ap ?_;refine Tr.ret (Fin.drop 1 ?_);refine Fin.Ll rfl rfl ?_ Kx
 .exact Eu
theorem UB   :Am prog 261 [slice 1 []] (full 1 []):=by
 refine fo func261 rfl ⟨rfl,rfl⟩ fun M0 w0=>?_;refine a2 ?_;refine co rfl (EE rfl underlying67 vq) ?_;refine ac ?_;refine Tr.ex 4 rfl (fun z1=>Tr.fact 4 rfl fun H8=>?_)
 .repeat' first|exact HB 1|exact Lr|refine co rfl (JG rfl underlying67 G4 vq vq) ?_|refine ac ?_|(refine Tr.cn rfl ?_ ?_<;>intro h q)
theorem UC{l:List (List UInt8)}(hl:l.length<=8796093022208):Am Tryz.prog 261 [slice 1 (l.map (fun t:List UInt8=>[str t]))] (slice 1 (l.map (fun t:List UInt8=>[str t]))):=by
 by_cases h0:l=[]
 .subst h0;exact Am.le UB (fun _ _ _ h=>h) (Ak _ _)
 .exact(BW.mP (rows:=(l.map (fun t:List UInt8=>[str t]))) (CK fun _=>rfl) (UA h0 hl)).pure
theorem gT{l:List Fj}{p:Fj->Bool}  :Am prog 324 [Rb l,Mc prog (fun x:Fj=>[agg (EI x)]) (fun x=>bool (p x))] (int (idx p l)):=by
 refine fo func324 rfl ⟨rfl,rfl⟩ fun M0 w0=>(Tr.D6 0 rfl fun DZ=>?_);refine a2 ?_;refine Tr.block (Tr.BP _ (kk [7,1,0] rfl) (fun k:Nat=>[(8,int ((k:Nat):Int))]) (fun k:Nat=>k<=(l).length/\(∀j y,j<k->l[j]? =some y->p y=false)) (fun k:Nat=>(l).length-k) 0 (⟨Nat.zero_le _,fun j y hj=>absurd hj AA⟩) kz ?_);rintro k ⟨BR,AY⟩;refine ac ?_;refine Tr.seq ?_;refine Tr.cn rfl ?_ ?_<;>intro h1 q1
 have Ae:k<(l).length:=AV h1;obtain⟨x,Ag⟩:=at_ Ae
 .repeat' first|exact int_eq (DC Ag B5 AY)|exact Fin.AR (k+1) ⟨⟨Ae,Cf Ag B5 AY⟩,by omega⟩ ⟨⟨_,rfl,AM k⟩,kz⟩|refine co rfl (AD rfl underlying71 EF vq vq AA DL) ?_|refine co rfl (AJ rfl KT EF vq rfl rfl) (co rfl (Dg x rfl vq kz) ?_)|refine ac ?_|(refine Tr.cn rfl ?_ ?_<;>intro h q)
 have BB:k=(l).length:=by have:=AW h1;omega
 subst BB;refine a3 ?_
 .exact HX
structure Fj.small(x:Fj):Prop where
 chain:x.chain.length<=925904528640
 names:∀c∈x.chain,c.names.length<=8796093022208
theorem XP{x:Fj}(hx:x.small):Am prog 222 [agg (EI x)] (agg (EI x)):=by
 refine fo func222 rfl ⟨rfl,rfl⟩ fun M0 w0=>?_;have hch:=hx.chain;refine Tr.seq (Tr.Al ?_);refine TO.V8 rfl rfl AB rfl Ce (fun b1=>?_);refine Tl rfl rfl rfl rfl Ts Pg (fun b2=>?_);refine ao ?_;refine ao ?_;refine TO.pad ?_;refine TO.EV 0 rfl rfl AB (Ga rfl rfl AB rfl (T_ (l:=x.chain) AA) kz) (fun v1=>?_);refine tp rfl (AU rfl RM vq) (TO.Ej 2 rfl rfl (BG rfl rfl vq CD k_ rfl Af rfl) ?_);refine ao ?_;refine ac ?_;refine co rfl (DO 0 rfl (Ss rfl underlying76 Jd)) ?_;refine ac ?_;refine Tr.block (Tr.re 11 rfl (int_eq (by rw[List.length_map])) (Tr.BP _ (kk [11,10,2,1] rfl) (fun k:Nat=>[(12,int ((k:Nat):Int))]) (fun k:Nat=>k<=(x.chain).length) (fun k:Nat=>(x.chain).length-k) 0 (Nat.zero_le _) kz ?_));rintro k BR;refine ac ?_;refine Tr.seq ?_;refine Tr.cn rfl ?_ ?_<;>intro h1 q1
 have Ae:k<(x.chain).length:=AV h1;obtain⟨c,Ag⟩:=at_ Ae;have hcn:=hx.names c (List.mem_of_getElem? Ag);refine ac ?_;refine ao ?_;refine tp rfl (DO 0 rfl (OZ rfl underlying76 CC Jd vq AA GN)) ?_;refine tp rfl (DO 0 rfl (NM rfl FI CC vq (CK fun _=>rfl) Nx)) ?_;refine Tl rfl rfl rfl rfl J2 Gu (fun b3=>?_);refine tm rfl ?_;refine sf 0 4 ⟨rfl,rfl,rfl⟩ rfl rfl rfl rfl ?_;refine ao ?_;refine Tr.rx ?_;refine ax ?_;refine xo rfl (fun _=>BQ (UC hcn) rfl rfl) ?_;refine KS 0 rfl rfl (OZ rfl underlying76 CC Jd vq AA GN) ?_;refine xo rfl (fun _=>RT rfl Pj vq) ?_;refine Cx.Ej 0 rfl rfl (L_ rfl rfl vq CD k7 rfl (CK fun _=>rfl) Nx AB (Pq (f:=CM) Ag rfl)) ?_;refine Cx.nil ⟨by kernel_rfl,?_⟩;refine CF.done al3 ?_;refine ac ?_;refine wk [12,11,10,2,1] rfl ?_;refine ac ?_;exact Fin.AR (k+1) ⟨Ae,by omega⟩ ⟨⟨_,rfl,AM k⟩,kz⟩;have BB:k=(x.chain).length:=by have:=AW h1;omega
 subst BB;refine ac ?_;refine Tr.seq (Tr.L8 2 0 3 rfl rfl AB rfl (FF _ _) (CK fun _=>rfl) ?_);refine ao ?_;refine TO.Aa 1 rfl rfl rfl vq Ce rfl EF rfl rfl ?_;refine ao ?_;refine Tr.drop 0 (Tr.drop 1 (Tr.ret (Fin.Br rfl (AZ.cell 0 rfl rfl KT EF rfl Lr) ?_)))
 .exact Lr
structure Chg where
 oH:Int
 kind:Int
 number:Int
 at_:Int
 idn:Fj
theorem Z6{β:Type}{p:β->Bool}{l:List β}(h:0<=idx p l):∃x,l[(idx p l).toNat]? =some x/\p x=true/\(idx p l).toNat<l.length:=by
 unfold idx at*;cases hf:l.findIdx? p with
 |none=>rw[hf]at h;simp at h
 |some i=>
  rw[List.findIdx?_eq_some_iff_getElem]at hf;obtain⟨h1,h2,_⟩:=hf;refine⟨l[i],?_,h2,by simpa using h1⟩;simp
theorem Ws.perm{args:List Pr}{pre post post':List At}{res:Pr}(h:Ws P f args pre res post)(hp:post.Perm post'):Ws P f args pre res post':=
 ⟨h.1,fun M0 w0 S rs M w vs hI hv=>(h.2 M0 w0 S rs M w vs hI hv).mono fun _e _w' ⟨v,M',x,h1,h2,h3,h4,h5⟩=>⟨v,M',x,h1,h2,h3,h4,A0.perm (hp.append_right rs) h5⟩⟩
def dS(x:Fj):Bool:=decide (x.Bl=0/\x.bits=0)&&x.Da==0&&(((x.chain.length:Nat):Int)==0)
def oJ(c:Chg):Bool:=if c.kind=1 then dS c.idn else if c.kind=5 then c.number==0 else c.at_==0&&dS c.idn
structure C8.small(e:C8):Prop where
 BC:e.BC.length<=1000000
 anchors:e.anchors.length<=1000000
 hashes:e.hashes.length<=1000000
 Yi:e.ids.length<=1000000
 ids:∀x∈e.ids,x.small
def Cw:C8:=⟨[],0,0,[],false,[],[],[],false⟩
theorem XQ{e:C8}(RB:e.small):Am prog 162 [agg (BL e)] (agg (BL e)):=by
 refine fo func162 rfl ⟨rfl,rfl⟩ fun M0 w0=>?_;have hs1:=RB.BC;have O9:=RB.anchors;have hs3:=RB.hashes;have hs4:=RB.Yi;refine Tr.seq (Tr.Al ?_);refine TO.V8 rfl rfl AB rfl Ce (fun b1=>?_);refine Tl rfl rfl rfl rfl Ma Gf (fun b2=>?_);refine ao ?_;refine Tr.seq (Tr.pad (Tr.rx ?_));refine ax ?_;refine xo rfl (fun _=>BQ (J8 (l:=e.BC) hs1) rfl rfl) ?_;refine ax ?_;refine xo rfl (fun _=>BQ (J8 (l:=e.anchors) O9) rfl rfl) ?_;refine ax ?_;refine xo rfl (fun _=>BQ (J8 (l:=e.hashes) hs3) rfl rfl) ?_;refine ax ?_;refine Cx.ef 0 rfl rfl AB (Ga rfl rfl AB rfl (T7 (l:=e.ids) hs4) kz) ?_;refine xo rfl (fun _=>AU rfl OQ vq) (Cx.Ej 2 rfl rfl (BG rfl rfl vq CD Kl rfl Af rfl) (xo rfl (fun _=>AU rfl RJ vq) (Cx.Ej 2 rfl rfl (BG rfl rfl vq CD Kl rfl Af rfl) (xo rfl (fun _=>AU rfl RK vq) (Cx.Ej 2 rfl rfl (BG rfl rfl vq CD Kl rfl Af rfl) (xo rfl (fun _=>AU rfl HE vq) (Cx.Ej 2 rfl rfl (E9 rfl rfl rfl vq rfl WS Af) ?_)))))));refine Cx.nil ⟨by kernel_rfl,?_⟩;refine CF.NF 0 2 16 rfl rfl AB rfl (fun v1=>?_);refine CF.done al3 (Fin.go (wk [2,1] rfl ?_));refine ac ?_;refine co rfl (DO 0 rfl (Ss rfl underlying71 Jd)) ?_;refine ac ?_;refine Tr.block (Tr.re 23 rfl (int_eq (by rw[List.length_map])) (Tr.BP _ (kk [23,22,2,1] rfl) (fun k:Nat=>[(24,int ((k:Nat):Int))]) (fun k:Nat=>k<=(e.ids).length) (fun k:Nat=>(e.ids).length-k) 0 (Nat.zero_le _) kz ?_));rintro k BR;refine ac ?_;refine Tr.seq ?_;refine Tr.cn rfl ?_ ?_<;>intro h1 q1
 have Ae:k<(e.ids).length:=AV h1;obtain⟨x,Ag⟩:=at_ Ae;have hxs:=RB.ids x (List.mem_of_getElem? Ag);refine ac ?_;refine ao ?_;refine tp rfl (DO 0 rfl (OZ rfl underlying71 EF Jd vq AA GN)) ?_;refine tp rfl (DO 0 rfl (NM rfl KT EF vq (CK fun _=>rfl) Nx)) ?_;refine Tl rfl rfl rfl rfl Ts Pg (fun b3=>?_);refine tm rfl ?_;refine sf 0 4 ⟨rfl,rfl,rfl⟩ rfl rfl rfl rfl ?_;refine ao ?_;refine Tr.rx ?_;refine ax ?_;refine xo rfl (fun _=>BQ (XP hxs) rfl rfl) ?_;refine KS 0 rfl rfl (OZ rfl underlying71 EF Jd vq AA GN) ?_;refine Cx.Ej 0 rfl rfl (L_ rfl rfl vq Ce EF rfl (CK fun _=>rfl) Nx AB (Pq (f:=EI) (q:=0) (m:=4) Ag rfl)) ?_;refine Cx.nil ⟨by kernel_rfl,?_⟩;refine CF.done al3 ?_;refine ac ?_;refine wk [24,23,22,2,1] rfl ?_;refine ac ?_;exact Fin.AR (k+1) ⟨Ae,by omega⟩ ⟨⟨_,rfl,AM k⟩,kz⟩;have BB:k=(e.ids).length:=by have:=AW h1;omega
 subst BB;refine ac ?_;refine Tr.seq (Tr.L8 2 0 5 rfl rfl AB rfl (FF _ _) (CK fun _=>rfl) ?_);refine ao ?_;refine TO.Aa 1 rfl rfl rfl vq Ce rfl Co rfl rfl ?_;refine ao ?_;refine Tr.drop 0 (Tr.drop 1 (Tr.ret (Fin.Br rfl (AZ.cell 0 rfl rfl Dm Co rfl Lr) ?_)))
 .exact Lr
def uD(c:Chg):Prop:=(1<=c.kind/\c.kind<=12)/\oJ c=true
instance (c:Chg):Decidable (uD c):=inferInstanceAs (Decidable (_/\_))
structure dU(e:C8):Prop where
 name:FW e.name=true
 least:1<=e.least
 lm:e.least<=e.most
 most:e.most<=4
 BC:Dr e.BC=true
 Yi:e.ids.length<=4
 kC:e.anchors.length<=16
 anc:J7 e.anchors=true
 hash:J7 e.hashes=true
 ids:e.ids.all NP=true
 keys:e.anchors.all D4=true
 hsh:e.hashes.all Fl=true
theorem DK{e:C8}:Ct e=true↔dU e:=by
 unfold Ct;simp only[Bool.and_eq_true,decide_eq_true_eq];exact⟨fun⟨⟨⟨⟨⟨⟨⟨⟨a,b⟩,c⟩,d⟩,f⟩,⟨⟨⟨g,h⟩,i⟩,j⟩⟩,k⟩,l⟩,m⟩=>⟨a,b,c,d,f,g,h,i,j,k,l,m⟩,fun⟨a,b,c,d,f,g,h,i,j,k,l,m⟩=>⟨⟨⟨⟨⟨⟨⟨⟨a,b⟩,c⟩,d⟩,f⟩,⟨⟨⟨g,h⟩,i⟩,j⟩⟩,k⟩,l⟩,m⟩⟩
theorem gU{x0 y0:Int}{x1 y1:Int}:(Op.equalIn (d+2) 120 (.agg #[.int .i64 x0,.int .i64 x1]) (.agg #[.int .i64 y0,.int .i64 y1])).run Tryz.prog w= .ok (decide (x0=y0/\x1=y1)) w:=by
 have h:=eqS (w:=w) (d:=d+1) (xs:= #[.int .i64 x0,.int .i64 x1]) (ys:= #[.int .i64 y0,.int .i64 y1]) Tryz.underlying120 BI (GF AB (Cr DP rfl) (Cr DP rfl) (Ht (d:=d+0) Tryz.underlying3) (GF AB (Cr DP rfl) (Cr DP rfl) (Ht (d:=d+0) Tryz.underlying3) (OW)));refine h.trans (congrArg (fun b=>Result.ok b w) ?_);rw[Bool.eq_iff_iff];simp[and_assoc]
theorem XR{u:TypeId}{y:Operand}{x0 y0:Int}{x1 y1:Int}(ho:o.op= .binOp .eql 120 x y u)(hx:VL E x (agg [is (.int .i64 x0),is (.int .i64 x1)]))(hy:VL E y (agg [is (.int .i64 y0),is (.int .i64 y1)])):Ac Tryz.prog I o E (bool (decide (x0=y0/\x1=y1))):=
 Pn [.int .i64 x0,.int .i64 x1] [.int .i64 y0,.int .i64 y1] ho hx hy BI (fun w=>by rw[show Op.equal 120 _ _=Op.equalIn (9998+2) 120 _ _ from rfl];exact gU)
deriving instance DecidableEq for Cn
deriving instance DecidableEq for Fj
deriving instance DecidableEq for C8
deriving instance DecidableEq for Chg
section
variable{α:Type}{p:α->Bool}{l:List α}{a:α}{i:Nat}
end
theorem Rd(h:Dr l=true){n:Int}(hi:l[i]? =some n)(hj:l[j]? =some n):i=j:=by
 unfold Dr at h;rw[Be]at h
 have key:∀{a b:Nat},a<b->l[a]? =some n->l[b]? =some n->False:=by
  intro a b hab ha hb;have:=h b (BO hb);unfold C5 at this;rw[getD_at hb]at this;simp only[Bool.and_eq_true,Bool.not_eq_true',List.any_eq_false]at this;have:=this.2 n (List.mem_of_getElem? (show(l.take b)[a]? =some n by rw[List.getElem?_take,if_pos hab];exact ha));simp at this
 rcases Nat.lt_trichotomy i j with h1|h1|h1
 .exact(key h1 hi hj).elim
 .exact h1
 .exact(key h1 hj hi).elim
abbrev NS:List Pr:=[Dn .u8]
abbrev S5(m:Nat):Pr:=slice 1 (List.replicate m NS)
abbrev Dx(B:Nat):Pr:=Cp.ex fun m:Nat=>fact (m<=B) (S5 m)
abbrev P4:Pr:=Cp.ex fun b:Bool=>bool b
abbrev BK(q:Pr):List Pr:=[Dn .i64,Dx 1000,P4,q]
abbrev HK(row:List Pr):Pr:=Cp.ex fun m:Nat=>fact (m<=20) (slice 4 (List.replicate m row))
abbrev Ih(D:Nat):Pr:=Cp.ex fun d:Int=>fact (0<=d/\d<=(D:Nat)) (int d)
theorem HM{r:List Pr}(h:k<m):(List.replicate m r)[((k:Nat):Int).toNat]? =some r:=by rw[Int.toNat_natCast,List.getElem?_replicate,if_pos h]
theorem S6{r:List Pr}:List.replicate m r++[r]=List.replicate (m+1) r:=by rw[List.replicate_succ']
theorem JM{r:List Pr}:List.replicate m r++List.replicate k r=List.replicate (m+k) r:=by rw[List.replicate_append_replicate]
theorem Fc.refl:∀l:List Pr,Fc l l
 |[]=>trivial
 |_::l=>⟨Pr.le_refl _,Fc.refl l⟩
theorem PW{sz:Nat}{rows':List (List Pr)}(hl:rows.length=rows'.length)(h:∀(i:Nat) r r',rows[i]? =some r->rows'[i]? =some r'->r.length=r'.length/\∀(j:Nat) p p',r[j]? =some p->r'[j]? =some p'->Pr.le p p'):Pr.le (slice sz rows) (slice sz rows'):=by
 rintro M w v ⟨a,cap,h1,h2,h3,h4,h5⟩;refine⟨a,cap,by rw[←hl];exact h1,by rw[←hl];exact h2,h3,h4,fun i row hr=>?_⟩;have hi:i<rows.length:=by rw[hl];exact BO hr
 have jE:=List.getElem?_eq_getElem hi;obtain⟨g1,g2⟩:=h i _ _ jE hr;obtain⟨k1,ad,k2,k3⟩:=h5 i _ jE;refine⟨by rw[←g1];exact k1,ad,k2,fun j p' hp'=>?_⟩;have hj:j<rows[i].length:=by rw[g1];exact BO hp'
 have hp:=List.getElem?_eq_getElem hj;obtain⟨u,c1,c2,c3,c4⟩:=k3 j _ hp;exact⟨u,c1,c2,c3,g2 j _ _ hp hp' _ _ _ c4⟩
theorem UD{sz:Nat}{r:List Pr}(h:∀q∈rows,q.length=r.length/\∀(j:Nat) p p',q[j]? =some p->r[j]? =some p'->Pr.le p p'):Pr.le (slice sz rows) (slice sz (List.replicate rows.length r)):=by grind [PW,BO]
theorem Qv{β:Type}{l:List β}{f:β->Int}:Pr.le (slice 1 (l.map fun x=>[is (.int .u8 (f x))])) (S5 l.length):=by
 have:=UD (sz:=1) (rows:=l.map fun x=>[is (.int .u8 (f x))]) (r:=NS) (by
  intro q hq;obtain⟨x,_,rfl⟩:=List.mem_map.1 hq;refine⟨rfl,fun j p p' hp hp'=>?_⟩;cases j with
  |zero=>simp at hp hp';subst hp;subst hp';exact BF _ _
  |succ j=>simp at hp)
 rwa [List.length_map]at this
theorem EL{B:Nat}(h:m<=B)(hp:Pr.le p (S5 m)):Pr.le p (Dx B):=BN m (BS h hp)
theorem Am.BK{row:List Pr}{res:Pr}(h:∀(t:Int) (b:Nat) (n:Bool) (m:Nat),b<=1000->m<=20->Am P f [agg [int t,S5 b,bool n,slice 4 (List.replicate m row)]] res):Am P f [agg (BK (HK row))] res:=by
 refine⟨(h 0 0 false 0 AA AA).1,fun M w vs hb hv=>?_⟩
 match vs,hv with
 |[u0],Tu=>
  obtain⟨⟨cs,rfl,ho,hcs⟩,_⟩:=Tu
  match cs,hcs with
  |[c0,c1,c2,c3],hc=>
   obtain⟨⟨t,h0⟩,⟨b,M4,h1⟩,⟨n,h2⟩,⟨m,hm1,h3⟩,_⟩:=hc;exact(h t b n m M4 hm1).2 M w _ hb ⟨⟨_,rfl,ho,h0,h1,h2,h3,trivial⟩,trivial⟩
theorem Am.XS{res:Pr}(h:∀(t:Int) (b:Nat) (n:Bool),b<=1000->Am P f [agg [int t,S5 b,bool n,slice 4 []]] res):Am P f [agg [Dn .i64,Dx 1000,P4,slice 4 []]] res:=by
 refine⟨(h 0 0 false AA).1,fun M w vs hb hv=>?_⟩
 match vs,hv with
 |[u0],Tu=>
  obtain⟨⟨cs,rfl,ho,hcs⟩,_⟩:=Tu
  match cs,hcs with
  |[c0,c1,c2,c3],hc=>
   obtain⟨⟨t,h0⟩,⟨b,M4,h1⟩,⟨n,h2⟩,h3,_⟩:=hc;exact(h t b n M4).2 M w _ hb ⟨⟨_,rfl,ho,h0,h1,h2,h3,trivial⟩,trivial⟩
theorem gV{n:Int}  :Am prog 255 [int n] (bool (decide (1<=n)&&decide (n<=255)&&(n.tmod 32 !=31))):=by
 refine fo func255 rfl ⟨rfl,rfl⟩ fun M0 w0=>?_;refine ac ?_;refine ag ?_ ?_<;>intro h1 q1
 refine ag ?_ ?_<;>intro h2 q2
 refine Hq h2 rfl (cy h2 rfl (IU rfl vq vq AA) ?_);refine a2 ?_
 .refine bool_eq ?_;simp_all
 refine a2 ?_
 .exact Iz
 refine a2 ?_
 .exact Iz
theorem J9{t:Int}{b:Nat}{n:Bool}{q:Pr}(hb:b<=1000)(hm:m<=20)(ih:m=0\/Am prog 209 [agg (BK q)] (P4)):Am prog 209 [agg [int t,S5 b,bool n,slice 4 (List.replicate m (BK q))]] (P4):=by
 refine fo func209 rfl ⟨rfl,rfl⟩ fun M0 w0=>?_;have hlr:(List.replicate m (BK q)).length=m:=List.length_replicate;have hlb:(List.replicate b NS).length=b:=List.length_replicate;refine a2 ?_;refine co rfl (BQ (gV) rfl rfl) ?_;refine ag ?_ ?_<;>intro h1 q1
 refine ac ?_;refine wk [38,1] rfl ?_;refine a2 ?_
 .exact Ew
 refine ac ?_;refine cy h1 rfl (Jj rfl vq vq AA) (cy h1 rfl (IU rfl vq vq AA) (cy h1 rfl WA (cy h1 rfl (RF rfl underlying4 vq vq) ?_)));refine ag ?_ ?_<;>intro h2 q2
 refine ac ?_;refine wk [38,1] rfl ?_;refine a2 ?_
 .exact Ew
 refine ag ?_ ?_<;>intro h3 q3
 refine ac ?_;refine cy h3 rfl (A9 rfl underlying180 vq) ?_;refine ag ?_ ?_<;>intro h4 q4
 refine ac ?_;refine wk [38,1] rfl ?_;refine a2 ?_
 .exact Ew
 refine ag ?_ ?_<;>intro h5 q5
 refine ac ?_;refine cy h5 rfl (A9 rfl underlying246 vq) ?_;refine ac ?_;refine wk [38,1] rfl ?_;refine Tr.cn rfl ?_ ?_<;>intro h6 q6
 refine a2 ?_
 .exact Ew
 refine a2 ?_;refine Tr.block (Tr.BP _ (kk [1] rfl) (fun k:Nat=>[(3,int ((k:Nat):Int))]) (fun k:Nat=>k<=((List.replicate m (BK q)).length)) (fun k:Nat=>((List.replicate m (BK q)).length)-k) 0 (Nat.zero_le _) kz ?_);rintro k BR;refine ac ?_;refine co rfl (A9 rfl underlying246 vq) ?_;refine an ?_ ?_<;>intro h7 q7
 have Ae:k<((List.replicate m (BK q)).length):=AV h7;have hkm:k<m:=by simpa using Ae
 have ih2:=ih.resolve_left AA;refine ac ?_;refine ap ?_;refine tp rfl (AD rfl underlying246 Aq vq vq AA (HM hkm)) (tp rfl (AJ rfl BA Aq vq rfl rfl) (tp rfl (BQ (ih2) rfl rfl) ?_));refine TO.ex 51 rfl (fun z51=>?_);refine ap ?_
 .exact Nq
 have BB:k=((List.replicate m (BK q)).length):=by have:=AW h7;omega
 refine a3 ?_
 .exact Ew
 refine ac ?_;refine wk [38,1] rfl ?_;refine a2 ?_;refine Tr.block (Tr.BP _ (kk [1] rfl) (fun k:Nat=>[(3,int ((k:Nat):Int))]) (fun k:Nat=>k<=((List.replicate m (BK q)).length)) (fun k:Nat=>((List.replicate m (BK q)).length)-k) 0 (Nat.zero_le _) kz ?_);rintro k BR;refine ac ?_;refine co rfl (A9 rfl underlying246 vq) ?_;refine an ?_ ?_<;>intro h9 q9
 have Ae:k<((List.replicate m (BK q)).length):=AV h9;have hkm:k<m:=by simpa using Ae
 have ih2:=ih.resolve_left AA;refine ac ?_;refine ap ?_;refine tp rfl (AD rfl underlying246 Aq vq vq AA (HM hkm)) (tp rfl (AJ rfl BA Aq vq rfl rfl) (tp rfl (BQ (ih2) rfl rfl) ?_));refine TO.ex 51 rfl (fun z51=>?_);refine ap ?_
 .exact Nq
 have BB:k=((List.replicate m (BK q)).length):=by have:=AW h9;omega
 refine a3 ?_
 .exact Ew
 refine ag ?_ ?_<;>intro h11 O8
 refine ac ?_;refine cy h11 rfl (A9 rfl underlying246 vq) ?_;refine ac ?_;refine wk [38,1] rfl ?_;refine Tr.cn rfl ?_ ?_<;>intro h12 Re
 refine a2 ?_
 .exact Ew
 refine a2 ?_;refine Tr.block (Tr.BP _ (kk [1] rfl) (fun k:Nat=>[(3,int ((k:Nat):Int))]) (fun k:Nat=>k<=((List.replicate m (BK q)).length)) (fun k:Nat=>((List.replicate m (BK q)).length)-k) 0 (Nat.zero_le _) kz ?_);rintro k BR;refine ac ?_;refine co rfl (A9 rfl underlying246 vq) ?_;refine an ?_ ?_<;>intro Je VD
 have Ae:k<((List.replicate m (BK q)).length):=AV Je;have hkm:k<m:=by simpa using Ae
 have ih2:=ih.resolve_left AA;refine ac ?_;refine ap ?_;refine tp rfl (AD rfl underlying246 Aq vq vq AA (HM hkm)) (tp rfl (AJ rfl BA Aq vq rfl rfl) (tp rfl (BQ (ih2) rfl rfl) ?_));refine TO.ex 51 rfl (fun z51=>?_);refine ap ?_
 .exact Nq
 have BB:k=((List.replicate m (BK q)).length):=by have:=AW Je;omega
 refine a3 ?_
 .exact Ew
 refine ac ?_;refine wk [38,1] rfl ?_;refine a2 ?_;refine Tr.block (Tr.BP _ (kk [1] rfl) (fun k:Nat=>[(3,int ((k:Nat):Int))]) (fun k:Nat=>k<=((List.replicate m (BK q)).length)) (fun k:Nat=>((List.replicate m (BK q)).length)-k) 0 (Nat.zero_le _) kz ?_);rintro k BR;refine ac ?_;refine co rfl (A9 rfl underlying246 vq) ?_;refine an ?_ ?_<;>intro Rf gW
 have Ae:k<((List.replicate m (BK q)).length):=AV Rf;have hkm:k<m:=by simpa using Ae
 have ih2:=ih.resolve_left AA;refine ac ?_;refine ap ?_;refine tp rfl (AD rfl underlying246 Aq vq vq AA (HM hkm)) (tp rfl (AJ rfl BA Aq vq rfl rfl) (tp rfl (BQ (ih2) rfl rfl) ?_));refine TO.ex 51 rfl (fun z51=>?_);refine ap ?_
 .exact Nq
 have BB:k=((List.replicate m (BK q)).length):=by have:=AW Rf;omega
 refine a3 ?_
 .exact Ew
theorem MG{t:Int}{b:Nat}{n:Bool}{q:Pr}{D:Nat}(hb:b<=1000)(hm:m<=20)(hD:D<=1000)(ih:m=0\/Am prog 210 [agg (BK q)] (Ih D)):Am prog 210 [agg [int t,S5 b,bool n,slice 4 (List.replicate m (BK q))]] (Ih (D+1)):=by
 refine fo func210 rfl ⟨rfl,rfl⟩ fun M0 w0=>?_;have hlr:(List.replicate m (BK q)).length=m:=List.length_replicate;have hlb:(List.replicate b NS).length=b:=List.length_replicate;refine ac ?_;refine ac ?_;refine ac ?_;refine Tr.block (Tr.BP _ (kk [1] rfl) (fun k:Nat=>[(4,int ((k:Nat):Int)),(3,Ih D)]) (fun k:Nat=>k<=((List.replicate m (BK q)).length)) (fun k:Nat=>((List.replicate m (BK q)).length)-k) 0 (Nat.zero_le _) ⟨kq,⟨_,rfl,BN 0 (BS AA Lr)⟩,trivial⟩ ?_);rintro k BR;refine ac ?_;refine co rfl (A9 rfl underlying246 vq) ?_;refine ac ?_;refine Tr.cn rfl ?_ ?_<;>intro h1 q1
 have Ae:k<((List.replicate m (BK q)).length):=AV h1;have hkm:k<m:=by simpa using Ae
 have ih2:=ih.resolve_left AA;refine ac ?_;refine Tr.seq (Tr.block (Tr.Al (tm rfl ?_)));refine TO.ex 12 rfl (fun z12=>TO.fact 12 rfl fun ux=>?_);refine tp rfl (U6 rfl Sm rfl rfl) (tp rfl (FH rfl Wh rfl) (tm rfl (tp rfl (AD rfl underlying246 Aq (vl rfl) (vl rfl) AA (HM hkm)) (tp rfl (AJ rfl BA Aq (vl rfl) rfl rfl) (tp rfl (BQ (ih2) rfl rfl) ?_)))));refine TO.ex 18 rfl (fun z18=>TO.fact 18 rfl fun oK=>?_);refine tp rfl (OC rfl vq vq) ?_;refine ap ?_;refine wk [4,3,1] rfl ?_;refine ac ?_;exact Fin.AR (k+1) ⟨Ae,by omega⟩ ⟨⟨_,rfl,AM k⟩,⟨_,rfl,BN _ (BS AA Lr)⟩,kz⟩;have BB:k=((List.replicate m (BK q)).length):=by have:=AW h1;omega
 refine ac ?_;refine ap ?_;refine TO.ex 20 rfl (fun z20=>TO.fact 20 rfl fun uy=>?_);refine ap ?_;refine ac ?_
 .exact N6
def MH(n:Nat):Nat:=if h:n=0 then 0 else 1+MH (n/256)
termination_by n
decreasing_by omega
theorem NT:MH 0=0:=by unfold MH;simp
theorem P5{n:Nat}(h:0<n):MH n=1+MH (n/256):=by conv=>lhs;unfold MH;rw[dif_neg AA]
theorem Od:∀(n:Nat),MH n<=n:=by
 intro n
 induction n using Nat.strongRecOn with
 |_ n ih=>
  rcases Nat.eq_zero_or_pos n with h|h
  .subst h;rw[NT];omega
  .rw[P5 h];have:=ih (n/256) AA;omega
def UE(n:Nat):Nat:=if n<128 then 1 else 1+MH n
theorem S7(n:Nat):UE n<=n+1:=by unfold UE;have:=Od n;split<;>omega
theorem Yk(k:Int):Pr.le (slice 1 [[is (.int .u8 k)]]) (S5 1):=Qv (l:=[()]) (f:=fun _=>k)
theorem UF{n:Nat}(hn:n<=100000000):Am prog 256 [int ((n:Nat):Int)] (S5 (UE n)):=by
 refine fo func256 rfl ⟨rfl,rfl⟩ fun M0 w0=>?_;refine ac ?_;refine an ?_ ?_<;>intro h1 q1
 refine ac ?_;refine co rfl (BX rfl underlying3 underlying5 vq) (co rfl (AG (xs:=[.tmp 7]) (rows:=[NS]) rfl rfl underlying180 D7 z5 rfl AB ⟨⟨AK,VL.le vq (Pr.le_trans (BF _ _) (AH _))⟩,trivial⟩ AB) ?_);refine a2 ?_
 .refine Pr.le_trans (Ak _ _) (Pr.le_of_eq ?_);unfold UE;rw[if_pos AA];rfl
 refine a2 ?_;refine Tr.seq (Tr.block (Tr.Cm 5 1 (Tr.JB [] trivial (fun(k:Nat) (acc:Nat) v=>[(0,int ((k:Nat):Int)),(3,An v (S5 acc))]) (fun(k:Nat) (acc:Nat) v=>Hp M0 w0 Hj ([A8 5 1 v])) (fun(k:Nat) (acc:Nat)=>MH k+acc=MH n/\k<=n) (fun(k:Nat) (acc:Nat)=>k) (n) (0) (.slice none 0 0) (⟨by omega,by omega⟩) ⟨kq,⟨_,rfl,CG rfl⟩,trivial⟩ (fun _ _ h=>h) ?_)));rintro k acc v ⟨hk1,hk2⟩;refine an ?_ ?_<;>intro h2 q2
 have hk0:0<k:=by have:=EK.FP h2;omega
 have hdg:=P5 hk0;have hle:=Od n;refine ac ?_;refine ap ?_;refine tp rfl (IU rfl vq vq AA) (tp rfl (BX rfl underlying3 underlying5 vq) (tp rfl (AG (xs:=[.tmp 13]) (rows:=[NS]) rfl rfl underlying180 D7 z5 rfl AB ⟨⟨AK,VL.le vq (Pr.le_trans (BF _ _) (AH _))⟩,trivial⟩ AB) ?_));refine tm rfl (TO.pad ?_);refine TO.EV 0 rfl rfl AB (Dp rfl rfl rfl rfl underlying180 D7 Is z5 Cs It (BT BH vq)) (fun v1=>?_);refine ap ?_;refine ac ?_;refine co rfl (Jj rfl vq vq AA) ?_;refine ac ?_;refine Fin.drop 1 ?_;exact Fin.K6 (k/256) (acc+1) v1 (⟨⟨by omega,by omega⟩,by omega⟩) ⟨⟨_,rfl,int_eq (by rw[Int.tdiv_eq_ediv_of_nonneg AA,GW I0];omega)⟩,⟨_,rfl,B7 (by rw[show([NS]:List (List Pr))=List.replicate 1 NS from rfl,JM,Nat.add_comm])⟩,trivial⟩ (fun _ _ h=>h);have hk0:k=0:=by have:=EK.FP h2;omega
 subst hk0;have hle:=Od n;rw[NT]at hk1;refine ac ?_;refine ap ?_;refine tp rfl (A9 rfl underlying180 It) (tp rfl WA (tp rfl (BX rfl underlying3 underlying5 vq) (tp rfl (AG (xs:=[.tmp 22]) (rows:=[NS]) rfl rfl underlying180 D7 z5 rfl AB ⟨⟨AK,VL.le vq (Pr.le_trans (BF _ _) (AH _))⟩,trivial⟩ AB) ?_)));refine tm rfl (TO.pad ?_);refine TO.EV 0 rfl rfl AB (Dp rfl rfl rfl rfl underlying180 D7 Is z5 Cs It (BT BH vq)) (fun v2=>?_);refine ap ?_;refine ac ?_
 .refine Pr.le_trans (As _ _) (Pr.le_of_eq ?_);unfold UE;rw[if_neg AA,show([NS]:List (List Pr))=List.replicate 1 NS from rfl,JM,show acc=MH n by omega]
theorem Rh{t:Int}{b:Nat}{n:Bool}{q:Pr}{B:Nat}(hb:b<=1000)(hm:m<=20)(hB:B<=1000000)(ih:m=0\/Am prog 211 [agg (BK q)] (Dx B)):Am prog 211 [agg [int t,S5 b,bool n,slice 4 (List.replicate m (BK q))]] (Dx (2*(1000+20*B)+2)):=by
 refine fo func211 rfl ⟨rfl,rfl⟩ fun M0 w0=>?_;have hlr:(List.replicate m (BK q)).length=m:=List.length_replicate;have hlb:(List.replicate b NS).length=b:=List.length_replicate;refine ac ?_;refine ap ?_;refine TO.pad ?_;refine TO.EV 0 rfl rfl AB (Dp rfl rfl rfl rfl underlying180 D7 Is z5 Cs vq (BT BH vq)) (fun v1=>?_);refine ap ?_;refine ac ?_;refine Tr.block (Tr.JB _ (kk [1] rfl) (fun(k:Nat) (acc:Nat) v=>[(4,int ((k:Nat):Int)),(3,An v (S5 acc))]) (fun(k:Nat) (acc:Nat) v=>Hp M0 w0 Hj ([A8 5 1 v])) (fun(k:Nat) (acc:Nat)=>k<=m/\acc<=b+k*B) (fun(k:Nat) (acc:Nat)=>m-k) (0) (b) v1 (⟨by omega,by omega⟩) ⟨kq,⟨_,rfl,B7 AO⟩,trivial⟩ (fun _ _ h=>h) ?_);rintro k acc v ⟨hk1,hk2⟩;have hkB:k*B<=20*B:=Nat.mul_le_mul_right B AA;refine ac ?_;refine co rfl (A9 rfl underlying246 vq) ?_;refine an ?_ ?_<;>intro h1 q1
 have hkm:k<m:=by have:=EK.FP h1;rw[hlr]at this;omega
 have ih2:=ih.resolve_left AA;refine ac ?_;refine ap ?_;refine tp rfl (AD rfl underlying246 Aq vq vq AA (HM hkm)) (tp rfl (AJ rfl BA Aq vq rfl rfl) (tp rfl (BQ (ih2) rfl rfl) ?_));refine TO.ex 22 rfl (fun z22=>TO.fact 22 rfl fun uz=>?_);refine TO.EV 0 rfl rfl AB (Dp rfl rfl rfl rfl underlying180 D7 Is z5 It vq (Bx BH Jd)) (fun v2=>?_);refine ap ?_;refine wk [4,3,1] rfl ?_;refine ac ?_;exact Fin.K6 (k+1) (acc+z22) v2 (⟨⟨by omega,by rw[Nat.succ_mul];omega⟩,by omega⟩) ⟨⟨_,rfl,AM k⟩,⟨_,rfl,B7 (by rw[JM])⟩,kz⟩ (fun _ _ h=>h);have U2:k=m:=by have:=EK.FP h1;rw[hlr]at this;omega
 have hll:=S7 acc;refine ac ?_;refine Tr.seq (Tr.pad (Tr.rx ?_));refine ay ?_;refine xo rfl (fun _=>BX rfl underlying3 underlying5 vq) (xo rfl (fun _=>AG (xs:=[.tmp 26]) (rows:=[NS]) rfl rfl underlying180 D7 z5 rfl AB ⟨⟨AK,VL.le vq (Pr.le_trans (BF _ _) (AH _))⟩,trivial⟩ AB) ?_);refine xm rfl (xo rfl (fun _=>A9 rfl underlying180 It) ?_);refine xo rfl (fun _=>AQ rfl (UF (n:=acc) AA) ⟨⟨_,rfl,int_eq AO⟩,trivial⟩) ?_;refine Cx.ef 0 rfl rfl AB (Dp rfl rfl rfl rfl underlying180 D7 Is z5 Cs vq (BT BH vq)) ?_;refine xm rfl ?_;refine Cx.ef 0 rfl rfl AB (Dp rfl rfl rfl rfl underlying180 D7 Is z5 vq It E8) ?_;refine Cx.ef 0 rfl rfl AB (Ho rfl rfl AB rfl vq) ?_;refine Cx.nil ⟨by kernel_rfl,?_⟩;refine CF.open_ 0 2 rfl rfl (fun v3=>?_);refine CF.done dP (Fin.go (wk [2] rfl ?_));refine ac ?_
 .exact EL (m:=1+UE acc+acc) (by have:=S7 acc;omega) (Pr.le_trans (As _ _) (Pr.le_of_eq (by rw[show([NS]:List (List Pr))=List.replicate 1 NS from rfl,JM,JM])))
theorem UG{q:Pr}{D B:Nat}(hf:Am prog 209 [agg (BK q)] P4)(hd:Am prog 210 [agg (BK q)] (Ih D))(hp:Am prog 211 [agg (BK q)] (Dx B)):Am prog 156 [agg (BK q)] (D8 [Dx B,Dn .i64]):=by
 refine fo func156 rfl ⟨rfl,rfl⟩ fun M0 w0=>?_;refine ac ?_;refine ap ?_;refine tp rfl (BQ (hf) rfl rfl) ?_;refine TO.ex 6 rfl (fun z6=>?_);refine ap ?_;refine Tr.cn rfl ?_ ?_<;>intro h1 q1
 refine ac ?_;refine Tr.ret (Fin.AP (Fin.EC rfl (Cy.GV _ _) rfl ?_ rfl ?_))
 .exact N3
 .exact BF _ _
 refine ac ?_;refine ap ?_;refine tp rfl (BQ (hd) rfl rfl) ?_;refine TO.ex 9 rfl (fun z9=>TO.fact 9 rfl fun hz9=>?_);refine ap ?_;refine Tr.cn rfl ?_ ?_<;>intro h2 q2
 refine ac ?_;refine Tr.ret (Fin.AP (Fin.EC rfl (Cy.GV _ _) rfl ?_ rfl ?_))
 .exact N3
 .exact BF _ _
 refine a2 ?_;refine co rfl (BQ (hp) rfl rfl) ?_;refine ac ?_;refine ap ?_;refine TO.ex 13 rfl (fun z13=>TO.fact 13 rfl fun u5=>?_);refine tp rfl (A9 rfl underlying180 vq) ?_;refine ap ?_;refine wk [15,4] rfl ?_;refine Tr.cn rfl ?_ ?_<;>intro h3 q3
 refine ac ?_;refine Tr.ret (Fin.AP (Fin.EC rfl (Cy.GV _ _) rfl ?_ rfl ?_))
 .exact N3
 .exact BF _ _
 refine a2 ?_;refine Tr.ret (Fin.EC rfl (Cy.GV _ _) rfl ?_ rfl ?_)
 .exact Lr
 .exact BF _ _
theorem Z7:IntKind.u8.wrap 0=0:=rfl
def oQ(x:Int):Nat:=if x<=0 then 0 else if x<256 then 1 else if x<65536 then 2 else if x<16777216 then 3 else if x<4294967296 then 4 else if x<1099511627776 then 5 else 6+x.toNat
theorem XT{x:Int}(h:0<x):oQ (x/256)<oQ x:=by
 unfold oQ
 repeat' split
 all_goals omega
def JN(x h:Int):Nat:=if x=0 then(if 128<=h then 1 else 0)else oQ x+1
theorem Z8{n h:Int}(h0:0<=n)(h1:n<=1099511627776):JN (n/256) h<=400:=by
 unfold JN oQ
 repeat' split
 all_goals omega
theorem FL{x h:Int}{t:Nat}(h0:0<=x)(hc:x≠0\/128<=h)(hi:t+JN x h<=400):(0<=x/256/\t+1+JN (x/256) (IntKind.u8.wrap x)<=400)/\JN (x/256) (IntKind.u8.wrap x)<JN x h:=by grind [JN,Z7,XT]
theorem Fo{t u:TypeId}{y:Operand}{m:Int}(ho:o.op= .binOp .shr t x y u)(hx:VL E x (int m))(hy:VL E y (is (.int .u64 8)))(h0:0<=m):Ac P I o E (int (m/256)):=
 Ac.same fun M w a he _=>by
  have h1:a.eval x= .int .i64 m:=hx.ev he Ax;have h2:a.eval y= .int .u64 8:=hy.ev he Ax;refine⟨.int .i64 (m.fdiv 256),?_,congrArg (Value.int .i64) (Int.fdiv_eq_ediv_of_nonneg m AA)⟩;simp only[execOp,ho,h1,h2];simp[eqGuard,binOp,Op.shift,IntKind.bits]
abbrev q0:Pr:=slice 4 []
theorem Ij{n:Int}(hn:0<=n/\n<=1099511627776):Am prog 214 [int n] (agg (BK q0)):=by
 refine fo func214 rfl ⟨rfl,rfl⟩ fun M0 w0=>(Tr.seq (Tr.Al ?_));refine Tl rfl rfl rfl rfl C1 Ca (fun b1=>?_);refine ap ?_;refine ac ?_;refine co rfl (BX rfl underlying3 underlying5 vq) ?_;refine a2 ?_;refine co rfl (Fo rfl vq vq AA) ?_;refine ac ?_;refine Tr.block ?_;refine Tr.WH _ (kk [2] rfl) (fun(x:Int) (h:Int) (t:List Int)=>[(4,int x),(3,slice 1 ((h::t).map fun n=>[is (.int .u8 n)]))]) (fun(x:Int) (h:Int) (t:List Int)=>Hp M0 w0 Hj ([AF true b1 248 (([.int .i64 0,.slice none 0 0,.bool false,.slice none 0 0]:List Value).map is)])) (fun(x:Int) (h:Int) (t:List Int)=>0<=x/\t.length+JN x h<=400) (fun(x:Int) (h:Int) (t:List Int)=>JN x h) (n/256) (IntKind.u8.wrap n) ([])  (⟨by omega,by simp only[List.length_nil];have:=Z8 (h:=IntKind.u8.wrap n) hn.1 hn.2;omega⟩) ⟨kq,⟨_,rfl,Pr.le_trans (Ak _ _) (Pr.le_of_eq rfl)⟩,trivial⟩ (fun _ _ h=>h) ?_;rintro x h t  ⟨hx0,gX⟩;refine ag ?_ ?_<;>intro h1 q1
 refine ag ?_ ?_<;>intro h2 q2
 refine ac ?_;refine wk [35,4,3,2] rfl ?_;refine ac ?_;refine ap ?_;refine tp rfl (BX rfl underlying3 underlying5 vq) ?_;refine ap ?_;refine TO.pad ?_;refine TO.EV 0 rfl rfl AB (Dp rfl rfl rfl rfl underlying180 D7 Is z5 Cs vq (BT BH vq)) (fun v1=>?_);refine ap ?_;refine ac ?_;refine co rfl (Fo rfl vq vq AA) ?_;refine ac ?_;refine Fin.drop 0 (Fin.E0 (x/256) (IntKind.u8.wrap x) (h::t)  ((FL hx0 AA gX)) ⟨kq,⟨_,rfl,Pr.le_trans (As _ _) (Pr.le_of_eq rfl)⟩,kz⟩ (fun _ _ h=>h));refine ag ?_ ?_<;>intro h3 q3
 refine Hq h3 rfl ?_;refine cy h3 rfl (AD rfl underlying180 D7 vq vq AA (Aj (k:=0) rfl)) ?_;refine ag ?_ ?_<;>intro h4 q4
 refine ac ?_;refine wk [35,4,3,2] rfl ?_;refine ac ?_;refine ap ?_;refine tp rfl (BX rfl underlying3 underlying5 vq) ?_;refine ap ?_;refine TO.pad ?_;refine TO.EV 0 rfl rfl AB (Dp rfl rfl rfl rfl underlying180 D7 Is z5 Cs vq (BT BH vq)) (fun v2=>?_);refine ap ?_;refine ac ?_;refine co rfl (Fo rfl vq vq AA) ?_;refine ac ?_;refine Fin.drop 0 (Fin.E0 (x/256) (IntKind.u8.wrap x) (h::t)  ((FL hx0 AA gX)) ⟨kq,⟨_,rfl,Pr.le_trans (As _ _) (Pr.le_of_eq rfl)⟩,kz⟩ (fun _ _ h=>h));refine ag ?_ ?_<;>intro h5 q5
 refine Hq h5 rfl ?_;refine cy h5 rfl (AD rfl underlying180 D7 vq vq AA (Aj (k:=0) rfl)) ?_;refine ac ?_;refine wk [35,4,3,2] rfl ?_;refine Tr.cn rfl ?_ ?_<;>intro h6 q6
 have gY:=h6;refine ac ?_;refine ap ?_;refine tp rfl (BX rfl underlying3 underlying5 vq) ?_;refine ap ?_;refine TO.pad ?_;refine TO.EV 0 rfl rfl AB (Dp rfl rfl rfl rfl underlying180 D7 Is z5 Cs vq (BT BH vq)) (fun v3=>?_);refine ap ?_;refine ac ?_;refine co rfl (Fo rfl vq vq AA) ?_;refine ac ?_;refine Fin.drop 0 (Fin.E0 (x/256) (IntKind.u8.wrap x) (h::t)  ((FL hx0 AA gX)) ⟨kq,⟨_,rfl,Pr.le_trans (As _ _) (Pr.le_of_eq rfl)⟩,kz⟩ (fun _ _ h=>h));have gY:=h6;refine ac ?_;refine ap ?_;refine Tr.ret (Fin.Br rfl (AZ.cell 0 rfl rfl BA Aq rfl Lr) ?_)
 .exact G6
 refine ac ?_;refine wk [35,4,3,2] rfl ?_;refine ac ?_;refine ap ?_;refine Tr.ret (Fin.Br rfl (AZ.cell 0 rfl rfl BA Aq rfl Lr) ?_)
 .exact G6
 refine ag ?_ ?_<;>intro h7 q7
 refine Hq h7 rfl ?_;refine cy h7 rfl (AD rfl underlying180 D7 vq vq AA (Aj (k:=0) rfl)) ?_;refine ac ?_;refine wk [35,4,3,2] rfl ?_;refine Tr.cn rfl ?_ ?_<;>intro h8 q8
 have gY:=h8;refine ac ?_;refine ap ?_;refine tp rfl (BX rfl underlying3 underlying5 vq) ?_;refine ap ?_;refine TO.pad ?_;refine TO.EV 0 rfl rfl AB (Dp rfl rfl rfl rfl underlying180 D7 Is z5 Cs vq (BT BH vq)) (fun v4=>?_);refine ap ?_;refine ac ?_;refine co rfl (Fo rfl vq vq AA) ?_;refine ac ?_;refine Fin.drop 0 (Fin.E0 (x/256) (IntKind.u8.wrap x) (h::t)  ((FL hx0 AA gX)) ⟨kq,⟨_,rfl,Pr.le_trans (As _ _) (Pr.le_of_eq rfl)⟩,kz⟩ (fun _ _ h=>h));have gY:=h8;refine ac ?_;refine ap ?_;refine Tr.ret (Fin.Br rfl (AZ.cell 0 rfl rfl BA Aq rfl Lr) ?_)
 .exact G6
 refine ac ?_;refine wk [35,4,3,2] rfl ?_;refine ac ?_;refine ap ?_;refine Tr.ret (Fin.Br rfl (AZ.cell 0 rfl rfl BA Aq rfl Lr) ?_)
 .exact G6
 refine ag ?_ ?_<;>intro h9 q9
 refine Hq h9 rfl ?_;refine cy h9 rfl (AD rfl underlying180 D7 vq vq AA (Aj (k:=0) rfl)) ?_;refine ag ?_ ?_<;>intro h10 MB
 refine ac ?_;refine wk [35,4,3,2] rfl ?_;refine ac ?_;refine ap ?_;refine tp rfl (BX rfl underlying3 underlying5 vq) ?_;refine ap ?_;refine TO.pad ?_;refine TO.EV 0 rfl rfl AB (Dp rfl rfl rfl rfl underlying180 D7 Is z5 Cs vq (BT BH vq)) (fun v5=>?_);refine ap ?_;refine ac ?_;refine co rfl (Fo rfl vq vq AA) ?_;refine ac ?_;refine Fin.drop 0 (Fin.E0 (x/256) (IntKind.u8.wrap x) (h::t)  ((FL hx0 AA gX)) ⟨kq,⟨_,rfl,Pr.le_trans (As _ _) (Pr.le_of_eq rfl)⟩,kz⟩ (fun _ _ h=>h));refine ag ?_ ?_<;>intro h11 O8
 refine Hq h11 rfl ?_;refine cy h11 rfl (AD rfl underlying180 D7 vq vq AA (Aj (k:=0) rfl)) ?_;refine ac ?_;refine wk [35,4,3,2] rfl ?_;refine Tr.cn rfl ?_ ?_<;>intro h12 Re
 have gY:=h12;refine ac ?_;refine ap ?_;refine tp rfl (BX rfl underlying3 underlying5 vq) ?_;refine ap ?_;refine TO.pad ?_;refine TO.EV 0 rfl rfl AB (Dp rfl rfl rfl rfl underlying180 D7 Is z5 Cs vq (BT BH vq)) (fun v6=>?_);refine ap ?_;refine ac ?_;refine co rfl (Fo rfl vq vq AA) ?_;refine ac ?_;refine Fin.drop 0 (Fin.E0 (x/256) (IntKind.u8.wrap x) (h::t)  ((FL hx0 AA gX)) ⟨kq,⟨_,rfl,Pr.le_trans (As _ _) (Pr.le_of_eq rfl)⟩,kz⟩ (fun _ _ h=>h));have gY:=h12;refine ac ?_;refine ap ?_;refine Tr.ret (Fin.Br rfl (AZ.cell 0 rfl rfl BA Aq rfl Lr) ?_)
 .exact G6
 refine ac ?_;refine wk [35,4,3,2] rfl ?_;refine ac ?_;refine ap ?_;refine Tr.ret (Fin.Br rfl (AZ.cell 0 rfl rfl BA Aq rfl Lr) ?_)
 .exact G6
 refine ag ?_ ?_<;>intro Je VD
 refine Hq Je rfl ?_;refine cy Je rfl (AD rfl underlying180 D7 vq vq AA (Aj (k:=0) rfl)) ?_;refine ac ?_;refine wk [35,4,3,2] rfl ?_;refine Tr.cn rfl ?_ ?_<;>intro Mh Z9
 have gY:=Mh;refine ac ?_;refine ap ?_;refine tp rfl (BX rfl underlying3 underlying5 vq) ?_;refine ap ?_;refine TO.pad ?_;refine TO.EV 0 rfl rfl AB (Dp rfl rfl rfl rfl underlying180 D7 Is z5 Cs vq (BT BH vq)) (fun v7=>?_);refine ap ?_;refine ac ?_;refine co rfl (Fo rfl vq vq AA) ?_;refine ac ?_;refine Fin.drop 0 (Fin.E0 (x/256) (IntKind.u8.wrap x) (h::t)  ((FL hx0 AA gX)) ⟨kq,⟨_,rfl,Pr.le_trans (As _ _) (Pr.le_of_eq rfl)⟩,kz⟩ (fun _ _ h=>h));have gY:=Mh;refine ac ?_;refine ap ?_;refine Tr.ret (Fin.Br rfl (AZ.cell 0 rfl rfl BA Aq rfl Lr) ?_)
 .exact G6
 refine ac ?_;refine wk [35,4,3,2] rfl ?_;refine ac ?_;refine ap ?_;refine Tr.ret (Fin.Br rfl (AZ.cell 0 rfl rfl BA Aq rfl Lr) ?_)
 .exact G6
theorem Oe{s:List UInt8}(hs:s.length<=1000):Am prog 212 [str s] (agg (BK q0)):=by
 refine fo func212 rfl ⟨rfl,rfl⟩ fun M0 w0=>(Tr.seq (Tr.Al ?_));refine Tl rfl rfl rfl rfl C1 Ca (fun b1=>?_);refine ap ?_;refine ap ?_;refine tp rfl (HG rfl underlying9 underlying180 underlying5 vq (by unfold maxLen;omega)) ?_;refine ap ?_;refine Tr.ret (Fin.Br rfl (AZ.cell 0 rfl rfl BA Aq rfl Lr) ?_)
 .exact Au ⟨BF _ _,EL (m:=s.length) AA (Qv (f:=fun c:UInt8=>((c.toNat:Nat):Int))),BN _ Lr,AL 4,trivial⟩
theorem Z_{b:Bool}  :Am prog 216 [bool b] (agg (BK q0)):=by
 refine fo func216 rfl ⟨rfl,rfl⟩ fun M0 w0=>(Tr.seq (Tr.Al ?_));refine Tl rfl rfl rfl rfl C1 Ca (fun b1=>?_);refine ap ?_;refine an ?_ ?_<;>intro h1 q1
 refine ap ?_;refine tp rfl (Ad (rows:=[(0,[_]),(1,[_])]) rfl KU Ca ⟨⟨rfl,CD⟩,⟨⟨rfl,⟨_,rfl,Pr.le_trans (Ak _ _) (AH _)⟩⟩,trivial⟩⟩ rfl) ?_;refine ap ?_;refine Tr.ret (Fin.AP (Fin.Br rfl (AZ.cell 0 rfl rfl BA Aq rfl Lr) ?_))
 .exact Vh
 refine ac ?_;refine ap ?_;refine tp rfl (Ad (rows:=[(0,[_]),(1,[_])]) rfl KU Ca ⟨⟨rfl,CD⟩,⟨⟨rfl,⟨_,rfl,Pr.le_trans (Ak _ _) (AH _)⟩⟩,trivial⟩⟩ rfl) ?_;refine ap ?_;refine Tr.ret (Fin.Br rfl (AZ.cell 0 rfl rfl BA Aq rfl Lr) ?_)
 .exact Vh
theorem J_{q:Pr}[One q](hm:m<=20)(ih:m=0\/Am prog 257 [q] q):Am prog 257 [slice 4 (List.replicate m (BK q))] (slice 4 (List.replicate m (BK q))):=by
 refine fo func257 rfl ⟨rfl,rfl⟩ fun M0 w0=>?_;have hlr:(List.replicate m (BK q)).length=m:=List.length_replicate;refine ac ?_;refine ac ?_;refine ac ?_;refine Tr.block (Tr.Cm 248 4 (Tr.Fv _ (kk [0] rfl) (fun k v=>[(4,int ((k:Nat):Int)),(3,An v (slice 4 (List.replicate k (BK q))))]) (fun k v=>Hp M0 w0 Hj ([A8 248 4 v])) (fun k:Nat=>k<=((List.replicate m (BK q)).length)) (fun k:Nat=>((List.replicate m (BK q)).length)-k) 0 (.slice none 0 0) (Nat.zero_le _) ⟨kq,⟨_,rfl,CG rfl⟩,trivial⟩ (fun _ _ h=>h) ?_));rintro k v BR;refine ac ?_;refine co rfl (A9 rfl underlying246 vq) ?_;refine ac ?_;refine Tr.cn rfl ?_ ?_<;>intro h1 q1
 have Ae:k<((List.replicate m (BK q)).length):=AV h1;have hkm:k<m:=by simpa using Ae
 have ih2:=ih.resolve_left AA;refine ac ?_;refine ap ?_;refine tp rfl (AD rfl underlying246 Aq vq vq AA (HM hkm)) (tp rfl (AJ rfl BA Aq vq rfl rfl) ?_);refine Tl rfl rfl rfl rfl C1 Ca (fun b1=>?_);refine ap ?_;refine ap ?_;refine TO.ex 18 rfl (fun z18=>TO.fact 18 rfl fun oK=>?_);refine TO.pad ?_;refine TO.EV 0 rfl rfl AB (Dp rfl rfl rfl rfl underlying180 D7 Is z5 Cs vq (BT BH vq)) (fun v1=>?_);refine ap ?_;refine wk [5,4,3,0] rfl ?_;refine ap ?_;refine tp rfl (BQ (ih2) rfl rfl) ?_;refine ap ?_;refine Tr.Al (tm rfl (TO.rd 1 rfl rfl rfl AB (Cv rfl BA Aq (vl rfl) rfl rfl) (tp rfl (AG (xs:=[.tmp 26]) (rows:=[BK q]) rfl rfl underlying246 Aq C1 rfl AB ⟨⟨AK,VL.le (vl rfl) (Pr.le_trans (Au (qs:=BK q) ⟨Lr,EL (m:=z18) AA (Pr.le_trans (As _ _) (Pr.le_of_eq rfl)),Lr,Lr,trivial⟩) (AE _))⟩,trivial⟩ AB) ?_)));refine TO.EV 2 rfl rfl AB (Dp rfl rfl rfl rfl underlying246 Aq NG C1 (Kb rfl) (Kf rfl) (Bx BH (Ka rfl))) (fun v2=>?_);refine ap ?_;refine Tr.drop 1 ?_;refine ac ?_;refine Fin.drop 0 (Fin.IE (k+1) v2 (⟨Ae,by omega⟩) ⟨⟨_,rfl,AM k⟩,⟨_,rfl,B7 (by rw[S6])⟩,kz⟩ (fun _ _ h=>h));have BB:k=((List.replicate m (BK q)).length):=by have:=AW h1;omega
 refine ac ?_;refine ac ?_;refine ac ?_
 .exact Pr.le_trans (As _ _) (Pr.le_of_eq (by rw[BB,hlr]))
theorem Of{q:Pr}(hm:m<=20)(hc:Am prog 257 [slice 4 (List.replicate m (BK q))] (slice 4 (List.replicate m (BK q)))):Am prog 213 [slice 4 (List.replicate m (BK q))] (agg (BK (HK (BK q)))):=by
 refine fo func213 rfl ⟨rfl,rfl⟩ fun M0 w0=>(Tr.seq (Tr.Al ?_));refine Tl rfl rfl rfl rfl C1 Ca (fun b1=>?_);refine ap ?_;refine ap ?_;refine tp rfl (BQ (hc) rfl rfl) ?_;refine ap ?_;refine Tr.ret (Fin.Br rfl (AZ.cell 0 rfl rfl BA Aq rfl Lr) ?_)
 .exact Au ⟨BF _ _,EL (m:=0) AA (AL 1),BN _ Lr,BN m (BS hm Lr),trivial⟩
def HN(b:Int)(l m:List Int):Int:=if 0<=idx (fun x=>b==x) l then(m[(idx (fun x=>b==x) l).toNat]?).getD 0 else 0
theorem UH{b:Int}{m:List Int}{x z:Int}(hx:l[k]? =some x)(he:x=b)(hz:m[k]? =some z)(h:∀j y,j<k->l[j]? =some y->(b==y)=false):z=HN b l m:=by
 have:=DC (p:=fun x=>b==x) hx (by simp[he]) h;unfold HN;rw[←this,if_pos AA,Int.toNat_natCast,hz];rfl
theorem Ri{b:Int}{m:List Int}(h:∀j y,j<l.length->l[j]? =some y->(b==y)=false):0=HN b l m:=by grind [G9,HN]
def Es(Bl:Int):Int:=if Bl=1 then 18 else if Bl=2 then 60 else if Bl=3\/Bl=8\/Bl=21 then 128 else if Bl=4 then 192 else if Bl=18\/Bl=22 then 256 else if Bl=19 then 64 else if Bl=20 then 80 else 0
def KJ(b:Int):Int:=if b<512\/b>16384 then 0 else if b<1024 then 56 else if b<2048 then 80 else if b<3072 then 112 else if b<7680 then 128 else if b<15360 then 192 else 256
theorem XU(b:Int):KJ b=if 512<=b/\b<=16384 then W9 b else 0:=by
 have h1:W9 b=if b<1024 then 56 else if b<2048 then 80 else if b<3072 then 112 else if b<7680 then 128 else if b<15360 then 192 else 256:=rfl
 rw[h1];unfold KJ
 by_cases h:512<=b/\b<=16384
 .rw[if_pos h,if_neg AA]
 .rw[if_neg h,if_pos AA]
theorem Gk{b:Int}{m:List Int}(hl:l.length<=m.length):Am prog 253 [int b,ints l,ints m] (int (HN b l m)):=by
 refine fo func253 rfl ⟨rfl,rfl⟩ fun M0 w0=>(Tr.D6 1 rfl fun oV=>?_);refine a2 ?_;refine Tr.block (Tr.BP _ (kk [2,1,0] rfl) (fun k:Nat=>[(7,int ((k:Nat):Int))]) (fun k:Nat=>k<=(l).length/\(∀j y,j<k->l[j]? =some y->(b==y)=false)) (fun k:Nat=>(l).length-k) 0 (⟨Nat.zero_le _,fun j y hj=>absurd hj AA⟩) kz ?_);rintro k ⟨BR,AY⟩;refine an ?_ ?_<;>intro h1 q1
 have Ae:k<(l).length:=AV h1;obtain⟨x,Ag⟩:=at_ Ae;obtain⟨z,hz⟩:=at_ (l:=m) (k:=k) AA
 .repeat' first|exact int_eq (UH Ag B5 hz AY)|(exact Fin.AR (k+1) ⟨⟨Ae,Cf (p:=fun x=>b==x) Ag CU AY⟩,by omega⟩ ⟨⟨_,rfl,AM k⟩,kz⟩)|refine co rfl (AD rfl underlying22 C_ vq vq AA DL) ?_|refine ac ?_|(refine Tr.cn rfl ?_ ?_<;>intro h q)
 have BB:k=(l).length:=by have:=AW h1;omega
 subst BB;refine a3 ?_
 .exact int_eq (Ri AY)
theorem XV:Am prog 254 [int Bl] (int (Es Bl)):=by
 refine fo func254 rfl ⟨rfl,rfl⟩ fun M0 w0=>?_;refine a2 ?_;refine an ?_ ?_<;>intro h1 q1
 refine a2 ?_
 .refine int_eq ?_;unfold Es;(repeat (rw[if_pos AA]))
 refine an ?_ ?_<;>intro h2 q2
 refine a2 ?_
 .exact Jn
 refine an ?_ ?_<;>intro h3 q3
 refine ac ?_;refine Tr.cond rfl (fun _=>?_) (fun h=>nomatch h3.symm.trans h);refine a2 ?_
 .exact Jn
 refine an ?_ ?_<;>intro h4 q4
 refine ac ?_;refine Tr.cond rfl (fun _=>?_) (fun h=>nomatch h4.symm.trans h);refine a2 ?_
 .exact Jn
 refine an ?_ ?_<;>intro h5 q5
 refine a2 ?_
 .exact Jn
 refine ac ?_;refine wk [12,3] rfl ?_;refine Tr.cn rfl ?_ ?_<;>intro h6 q6
 refine a2 ?_
 .exact Jn
 refine an ?_ ?_<;>intro h7 q7
 refine ac ?_;refine Tr.cond rfl (fun _=>?_) (fun h=>nomatch h7.symm.trans h);refine a2 ?_
 .exact Jn
 .repeat' first|(refine int_eq ?_;unfold Es;(repeat (first|rw[if_pos AA]|rw[if_neg AA])))|(refine int_eq ?_;unfold Es;(repeat (rw[if_neg AA])))|refine ac ?_|(refine Tr.cn rfl ?_ ?_<;>intro h q)
theorem Gl{b:Int}  :Am prog 252 [int b] (int (KJ b)):=by
 refine fo func252 rfl ⟨rfl,rfl⟩ fun M0 w0=>?_;refine ac ?_;refine ac ?_;refine Ch.cs 6 rfl ?_ ?_<;>intro h1 q1
 refine ac ?_;refine ac ?_;refine ac ?_
 .refine int_eq ?_;unfold KJ;(repeat (rw[if_pos AA]))
 refine ac ?_;refine Tr.cn rfl ?_ ?_<;>intro h2 q2
 refine ac ?_;refine ac ?_
 .refine int_eq ?_;unfold KJ;(repeat (rw[if_pos AA]))
 refine ac ?_;refine Tr.cn rfl ?_ ?_<;>intro h3 q3
 refine ac ?_;refine ac ?_
 .exact LP
 refine ac ?_;refine wk [13,0] rfl ?_;refine Tr.cn rfl ?_ ?_<;>intro h4 q4
 refine ac ?_;refine ac ?_
 .exact LP
 refine ac ?_;refine Tr.cn rfl ?_ ?_<;>intro h5 q5
 refine ac ?_;refine ac ?_
 .exact LP
 refine ac ?_;refine Tr.cn rfl ?_ ?_<;>intro h6 q6
 refine ac ?_;refine ac ?_
 .exact LP
 refine ac ?_;refine Tr.cn rfl ?_ ?_<;>intro h7 q7
 refine ac ?_;refine ac ?_
 .exact LP
 refine ac ?_;refine ac ?_;refine ac ?_
 .refine int_eq ?_;unfold KJ;(repeat (rw[if_neg AA]))
theorem aA(b c:Int):HN b [0] [c]=if b=0 then c else 0:=by grind [HN,idx]
theorem N2{b:Int}(h:Bl=5\/Bl=6\/Bl=10\/Bl=11):KJ b=Bf Bl b:=by
 rw[XU];rcases h with rfl|rfl|rfl|rfl<;>rfl
theorem Mi{b:Int}(h:¬(Bl=5\/Bl=6\/Bl=7\/Bl=9\/Bl=10\/Bl=11\/Bl=12\/Bl=13\/Bl=14\/Bl=15\/Bl=16\/Bl=17)):HN b [0] [Es Bl]=Bf Bl b:=by
 rw[aA]
 by_cases hin:1<=Bl/\Bl<=22
 .
  have ha:Bl=1\/Bl=2\/Bl=3\/Bl=4\/Bl=8\/Bl=18\/Bl=19\/Bl=20\/Bl=21\/Bl=22:=by omega
  rcases ha with rfl|rfl|rfl|rfl|rfl|rfl|rfl|rfl|rfl|rfl<;>rfl
 .
  have h1:Es Bl=0:=by unfold Es;(repeat (first|rw[if_pos AA]|rw[if_neg AA]))
  unfold Bf;rw[h1,if_neg hin];split<;>rfl
theorem Iu{b:Int}(h:Bl=7\/Bl=12):Bf Bl b=if(Mw.any fun x=>b==x)=true then b.tdiv 2 else 0:=by
 rcases h with rfl|rfl<;>rfl
theorem KY{bits:Int}:Am prog 207 [agg [int Bl,int bits]] (int (Bf Bl bits)):=by
 refine fo func207 rfl ⟨rfl,rfl⟩ fun M0 w0=>?_
 iterate 4 refine ac ?_
 refine Tr.cn rfl ?_ ?_<;>intro h1 q1
 refine ac ?_;refine Tr.cond rfl (fun _=>?_) (fun h=>nomatch h1.symm.trans h);refine ac ?_;refine co rfl (BQ (Gl) rfl rfl) ?_;refine a2 ?_
 .exact Kt
 refine an ?_ ?_<;>intro h2 q2
 refine ac ?_;refine Tr.cond rfl (fun _=>?_) (fun h=>nomatch h2.symm.trans h);refine ac ?_;refine co rfl (BQ (Gl) rfl rfl) ?_;refine ac ?_;refine wk [2] rfl ?_;refine ac ?_
 .exact Kt
 refine an ?_ ?_<;>intro h3 q3
 refine ac ?_;refine Tr.cond rfl (fun _=>?_) (fun h=>nomatch h3.symm.trans h);refine ac ?_;refine co rfl (BQ (Gl) rfl rfl) ?_;refine ac ?_;refine wk [2] rfl ?_;refine ac ?_
 .exact Kt
 refine ac ?_;refine wk [8,7,3,1] rfl ?_;refine Tr.cn rfl ?_ ?_<;>intro h4 q4
 refine ac ?_;refine co rfl (BQ (Gl) rfl rfl) ?_;refine a2 ?_
 .exact Kt
 refine an ?_ ?_<;>intro h5 q5
 refine ac ?_;refine Tr.cond rfl (fun _=>?_) (fun h=>nomatch h5.symm.trans h)
 .exact VI
 refine an ?_ ?_<;>intro h11 O8
 .exact VI
 refine an ?_ ?_<;>intro Yc gZ
 refine ac ?_;refine co rfl (AQ rfl (Gk (l:=[44,65,87]) (m:=[128,192,256]) AO) ⟨kq,Cs,Cs,trivial⟩) ?_;refine ac ?_;refine wk [2] rfl ?_;refine ac ?_
 .refine int_eq ?_;have ha:Bl=9:=AA;rcases ha with rfl<;>rfl
 refine an ?_ ?_<;>intro Qh oW
 refine ac ?_;refine co rfl (AQ rfl (Gk (l:=[512,768,1024]) (m:=[128,192,256]) AO) ⟨kq,Cs,Cs,trivial⟩) ?_;refine ac ?_;refine wk [2] rfl ?_;refine ac ?_
 .refine int_eq ?_;have ha:Bl=13:=AA;rcases ha with rfl<;>rfl
 refine ac ?_;refine wk [50,7,3,1] rfl ?_;refine Tr.cn rfl ?_ ?_<;>intro Yd oX
 refine ac ?_;refine co rfl (AQ rfl (Gk (l:=[40,128]) (m:=[40,60]) AO) ⟨kq,Cs,Cs,trivial⟩) ?_;refine a2 ?_
 .refine int_eq ?_;have ha:Bl=14:=AA;rcases ha with rfl<;>rfl
 refine an ?_ ?_<;>intro NU q20
 refine ac ?_;refine co rfl (AQ rfl (Gk (l:=[112,168]) (m:=[80,112]) AO) ⟨kq,Cs,Cs,trivial⟩) ?_;refine a2 ?_
 .refine int_eq ?_;have ha:Bl=15:=AA;rcases ha with rfl<;>rfl
 refine an ?_ ?_<;>intro Ye q21
 refine ac ?_;refine Tr.cond rfl (fun _=>?_) (fun h=>nomatch Ye.symm.trans h);refine ac ?_;refine co rfl (AQ rfl (Gk (l:=[128,256]) (m:=[128,256]) AO) ⟨kq,Cs,Cs,trivial⟩) ?_;refine a2 ?_
 .refine int_eq ?_;have ha:Bl=16\/Bl=17:=AA;rcases ha with rfl|rfl<;>rfl
 .repeat' first|(refine int_eq ?_;have ha:Bl=16\/Bl=17:=AA;rcases ha with rfl|rfl<;>rfl)|(refine int_eq ?_;exact Mi AA)|refine co rfl (AQ rfl (Gk (l:=[128,256]) (m:=[128,256]) AO) ⟨kq,Cs,Cs,trivial⟩) ?_|refine co rfl (BQ (XV) rfl rfl) (co rfl (AG (xs:=[.tmp 73]) (rows:=[[_]]) rfl rfl underlying22 C_ z3 rfl AB ⟨⟨AK,CD⟩,trivial⟩ AB) ?_)|refine co rfl (AQ rfl (Gk (l:=[0]) (m:=[Es Bl]) AO) ⟨kq,Cs,Cs,trivial⟩) ?_|refine ac ?_|(refine Tr.cn rfl ?_ ?_<;>intro h q)
theorem JO{bits:Int}:Am prog 154 [agg [int Bl,int bits]] (bool (decide (Bf Bl bits>0))):=by
 refine fo func154 rfl ⟨rfl,rfl⟩ fun M0 w0=>?_;refine a2 ?_;refine co rfl (BQ (KY) rfl rfl) ?_;refine a2 ?_
 .exact Lr
def ga:List (List UInt8×Int):=EH.map fun r=>(r.name,r.kind)
theorem aB(h:1<=Bl/\Bl<=22):ga[Bl.toNat]? =some ((Cl Bl).name,(Cl Bl).kind):=by
 unfold ga;rw[List.getElem?_map,Fg h];rfl
theorem aC   :Am prog 208 [] (slice 2 (ga.map fun r=>[str r.1,int r.2])):=by
 refine fo func208 rfl ⟨rfl,rfl⟩ fun M0 w0=>?_;refine a2 ?_;refine wk [0] rfl ?_;refine ac ?_
 .exact Ak _ _
theorem K_:Am prog 155 [int Bl] (int (Cl Bl).kind):=by
 refine fo func155 rfl ⟨rfl,rfl⟩ fun M0 w0=>?_;refine ac ?_;refine ag ?_ ?_<;>intro h1 q1
 refine a3 ?_
 .refine int_eq ?_;unfold Cl;rw[if_neg AA];rfl
 refine an ?_ ?_<;>intro h2 q2
 refine a2 ?_
 .refine int_eq ?_;unfold Cl;rw[if_neg AA];rfl
 have hin:1<=Bl/\Bl<=22:=by omega
 refine ac ?_;refine Tr.seq (Tr.Bk (co rfl (Ya (aC) rfl) (cm rfl (co rfl (AD rfl underlying301 cx vq vq AA (B9 (f:=fun r:List UInt8×Int=>[str r.1,int r.2]) (aB hin))) ?_))));refine a2 ?_
 .exact Lr
theorem HO{bits:Int}:Am prog 153 [agg [int Bl,int bits]] (bool (decide (Bf Bl bits>0)&&(Cl Bl).kind==2)):=by
 refine fo func153 rfl ⟨rfl,rfl⟩ fun M0 w0=>?_;refine ac ?_;refine ac ?_;refine co rfl (BQ (JO) rfl rfl) (cm rfl ?_);refine Ch.cs 5 rfl ?_ ?_<;>intro h1 q1
 refine ac ?_;refine cy h1 rfl (BQ (K_) rfl rfl) ?_;refine ac ?_;refine ac ?_
 .refine bool_eq ?_;simp_all
 refine ac ?_;refine ac ?_
 .exact Iz
structure Cn.vf(c:Cn):Prop where
 s0:0<=c.FK
 s1:c.FK<=1099511627776
 En:named c.EZ=true
 sub:named c.DY=true
 nm:CV c.names=true
 key:E6 c.JJ c.Fh 2=true
 k0:0<=c.Da
 k1:c.Da<=2147483648
 hash:E6 c.J6 c.IG 1=true
 sk0:0<=c.H9
 sk1:c.H9<=2147483648
 su0:0<=c.XK
 su1:c.XK<4294967296
 f0:0<=c.from_
 ft:c.from_<=c.CW
 t1:c.CW<=40000
 p0:0<=c.path
 p1:c.path<=8
 ap:c.auth=true\/c.path=0
theorem FT{c:Cn}(hv:BD c=true):c.vf:=by
 simp only[BD,D4,T0,Bool.and_eq_true,Bool.or_eq_true,decide_eq_true_eq,beq_iff_eq]at hv;obtain⟨⟨⟨⟨⟨⟨⟨h1,h2⟩,h3⟩,h4⟩,h5⟩,⟨⟨⟨⟨h6,⟨h7,h8⟩⟩,h9⟩,⟨h10,h11⟩⟩,⟨h12,Je⟩⟩⟩,⟨⟨Mh,Rf⟩,h16⟩⟩,⟨⟨Yc,Qh⟩,Yd⟩⟩:=hv;exact⟨h1,h2,h3,h4,h5,h6,h7,h8,h9,h10,h11,h12,Je,Mh,Rf,h16,Yc,Qh,Yd⟩
theorem S8{c:Cn}(h:c.vf):BD c=true:=by
 simp only[BD,D4,T0,Bool.and_eq_true,Bool.or_eq_true,decide_eq_true_eq,beq_iff_eq];exact⟨⟨⟨⟨⟨⟨⟨h.s0,h.s1⟩,h.En⟩,h.sub⟩,h.nm⟩,⟨⟨⟨⟨h.key,⟨h.k0,h.k1⟩⟩,h.hash⟩,⟨h.sk0,h.sk1⟩⟩,⟨h.su0,h.su1⟩⟩⟩,⟨⟨h.f0,h.ft⟩,h.t1⟩⟩,⟨⟨h.p0,h.p1⟩,h.ap⟩⟩
theorem Rj{a b k:Int}(h:E6 a b k=true):decide (Bf a b>0)=true/\(Cl a).kind=k:=by
 unfold E6 at h;simpa using h
theorem Hy{l:List (List UInt8)}{s:List UInt8}(h:nameAt l k=true)(hs:l[k]? =some s):named s=true:=by
 unfold nameAt at h;rw[hs]at h;simp at h;exact h.1
theorem S9{l:List (List UInt8)}{s y:List UInt8}(h:nameAt l k=true)(hs:l[k]? =some s)(hy:l[k-1]? =some y)(hk:0<k):decide (Lib.compareBytes y s= -1)=true:=by grind [nameAt]
theorem NV{c:Cn}(hv:BD c=true):Am prog 87 [agg (CM c)] (int 0):=by
 refine fo func87 rfl ⟨rfl,rfl⟩ fun M0 w0=>?_;obtain⟨hs0,hs1,Ko,hsub,hnm,hkey,hk0,hk1,NW,gb,gh,gj,gl,hf0,hft,ht1,Yx,mN,hap⟩:=FT hv;obtain⟨oY,oZ⟩:=Rj hkey;obtain⟨hh1,hh2⟩:=Rj NW;have E4:=hnm;unfold CV at E4;rw[Bool.and_eq_true,Be,decide_eq_true_eq]at E4;obtain⟨hall,XW⟩:=E4;refine ac ?_;refine ag ?_ ?_<;>intro h1 q1
 exfalso;have:=q1;omega;refine ag ?_ ?_<;>intro h2 q2
 exfalso;have:=q2;omega;refine ac ?_;refine cy h2 rfl (BQ (E3) rfl rfl) ?_;refine ag ?_ ?_<;>intro h3 q3
 rw[Ko]at h3;exact absurd h3 AB;refine ac ?_;refine cy h3 rfl (BQ (E3) rfl rfl) ?_;refine ag ?_ ?_<;>intro h4 q4
 rw[hsub]at h4;exact absurd h4 AB;refine ac ?_;refine cy h4 rfl (BQ (HO) rfl rfl) ?_;refine ag ?_ ?_<;>intro h5 q5
 rw[oY,oZ]at h5;exact absurd h5 AB;refine ag ?_ ?_<;>intro h6 q6
 exfalso;have:=q6;omega;refine ac ?_;refine wk [39,1] rfl ?_;refine Tr.cn rfl ?_ ?_<;>intro h7 q7
 exfalso;have:=q7;omega;refine a2 ?_;refine co rfl (BQ (JO) rfl rfl) ?_;refine ag ?_ ?_<;>intro h8 q8
 rw[hh1]at h8;exact absurd h8 AB;refine ac ?_;refine cy h8 rfl (BQ (K_) rfl rfl) ?_;refine ag ?_ ?_<;>intro h9 q9
 rw[hh2]at h9;exact absurd h9 AB;refine ag ?_ ?_<;>intro h10 MB
 exfalso;have:=MB;omega;refine ag ?_ ?_<;>intro h11 O8
 exfalso;have:=O8;omega;refine ac ?_;refine wk [67,1] rfl ?_;refine Tr.cn rfl ?_ ?_<;>intro h12 Re
 exfalso;have:=Re;omega;refine ac ?_;refine ag ?_ ?_<;>intro Je VD
 exfalso;have:=VD;omega;refine ag ?_ ?_<;>intro Mh Z9
 exfalso;have:=Z9;omega;refine ag ?_ ?_<;>intro Rf gW
 refine ag ?_ ?_<;>intro h16 gm
 exfalso;have:=gm;simp_all;refine ac ?_;refine wk [91,1] rfl ?_;refine Tr.cn rfl ?_ ?_<;>intro Yc gZ
 exfalso;have:=gZ;omega;refine a2 ?_;refine Tr.block (Tr.BP _ (kk [1] rfl) (fun k:Nat=>[(3,int ((k:Nat):Int))]) (fun k:Nat=>k<=(c.names).length) (fun k:Nat=>(c.names).length-k) 0 (Nat.zero_le _) kz ?_);rintro k BR;refine an ?_ ?_<;>intro Qh oW
 have Ae:k<(c.names).length:=AV Qh;obtain⟨s,Ag⟩:=at_ Ae;have hat:=hall k AA;have hna:=Hy hat Ag;refine a2 ?_;refine co rfl (AD rfl underlying67 G4 vq vq AA (Aj Ag)) (co rfl (FH rfl J0 rfl) (co rfl (BQ (E3) rfl rfl) ?_));refine ag ?_ ?_<;>intro Yd oX
 exfalso;rw[hna]at Yd;exact absurd Yd AB;refine ag ?_ ?_<;>intro NU q20
 have HP:0<k:=by simpa using NU
 obtain⟨y,hy⟩:=at_ (l:=c.names) (k:=k-1) AA;have hlt:=S9 hat Ag hy HP;refine ac ?_;refine cy NU rfl (AD rfl underlying67 G4 vq vq AA EM) ?_;refine ac ?_;refine cy NU rfl (AD rfl underlying67 G4 vq vq AA (Aj Ag)) (cy NU rfl (FH rfl J0 rfl) (cy NU rfl (Ia rfl vq vq) ?_));refine ac ?_;refine wk [123,3,1] rfl ?_;refine Tr.cn rfl ?_ ?_<;>intro Ye q21
 exfalso;rw[hlt]at Ye;exact absurd Ye AB;refine a2 ?_;exact Fin.AR (k+1) ⟨Ae,by omega⟩ ⟨⟨_,rfl,AM k⟩,kz⟩;refine ac ?_;refine wk [123,3,1] rfl ?_;refine a2 ?_;exact Fin.AR (k+1) ⟨Ae,by omega⟩ ⟨⟨_,rfl,AM k⟩,kz⟩;have BB:k=(c.names).length:=by have:=AW Qh;omega
 refine ac ?_;refine ag ?_ ?_<;>intro h22 q22
 exfalso;have:=q22;omega;refine ag ?_ ?_<;>intro h23 q23
 exfalso;have:=q23;omega;refine ag ?_ ?_<;>intro h24 q24
 exfalso;have:=q24;omega;refine ac ?_;refine wk [145] rfl ?_;refine Tr.cn rfl ?_ ?_<;>intro h25 q25
 exfalso;have:=q25;omega;refine a3 ?_
 .exact Lr
 refine ac ?_;refine wk [91,1] rfl ?_;refine Tr.cn rfl ?_ ?_<;>intro h26 q26
 exfalso;have:=q26;omega;refine a2 ?_;refine Tr.block (Tr.BP _ (kk [1] rfl) (fun k:Nat=>[(3,int ((k:Nat):Int))]) (fun k:Nat=>k<=(c.names).length) (fun k:Nat=>(c.names).length-k) 0 (Nat.zero_le _) kz ?_);rintro k BR;refine an ?_ ?_<;>intro oa q27
 have Ae:k<(c.names).length:=AV oa;obtain⟨s,Ag⟩:=at_ Ae;have hat:=hall k AA;have hna:=Hy hat Ag;refine a2 ?_;refine co rfl (AD rfl underlying67 G4 vq vq AA (Aj Ag)) (co rfl (FH rfl J0 rfl) (co rfl (BQ (E3) rfl rfl) ?_));refine ag ?_ ?_<;>intro h28 q28
 exfalso;rw[hna]at h28;exact absurd h28 AB;refine ag ?_ ?_<;>intro VE q29
 have HP:0<k:=by simpa using VE
 obtain⟨y,hy⟩:=at_ (l:=c.names) (k:=k-1) AA;have hlt:=S9 hat Ag hy HP;refine ac ?_;refine cy VE rfl (AD rfl underlying67 G4 vq vq AA EM) ?_;refine ac ?_;refine cy VE rfl (AD rfl underlying67 G4 vq vq AA (Aj Ag)) (cy VE rfl (FH rfl J0 rfl) (cy VE rfl (Ia rfl vq vq) ?_));refine ac ?_;refine wk [123,3,1] rfl ?_;refine Tr.cn rfl ?_ ?_<;>intro h30 q30
 exfalso;rw[hlt]at h30;exact absurd h30 AB;refine a2 ?_;exact Fin.AR (k+1) ⟨Ae,by omega⟩ ⟨⟨_,rfl,AM k⟩,kz⟩;refine ac ?_;refine wk [123,3,1] rfl ?_;refine a2 ?_;exact Fin.AR (k+1) ⟨Ae,by omega⟩ ⟨⟨_,rfl,AM k⟩,kz⟩;have BB:k=(c.names).length:=by have:=AW oa;omega
 refine ac ?_;refine ag ?_ ?_<;>intro h31 q31
 exfalso;have:=q31;omega;refine ag ?_ ?_<;>intro h32 q32
 exfalso;have:=q32;omega;refine ag ?_ ?_<;>intro h33 q33
 exfalso;have:=q33;omega;refine ac ?_;refine wk [145] rfl ?_;refine Tr.cn rfl ?_ ?_<;>intro h34 q34
 exfalso;have:=q34;omega;refine a3 ?_
 .exact Lr
abbrev aD:Pr:=Cp.ex fun n:Int=>fact (0<=n/\n<4294967296) (is (.int .u32 n))
abbrev og:Pr:=Cp.ex fun n:Int=>fact (0<=n/\n<4294967296) (int n)
theorem aE:Pr.le aD (Dn .u32):=fun _ _ _ ⟨n,_,h⟩=>⟨n,h⟩
section
variable{P:Program}{I:B3}{E:Env}{o:Oper}
theorem XX{s t:TypeId}{k k':IntKind}(ho:o.op= .convert s t x)(hs:P.underlying s=some (.int k))(ht:P.underlying t=some (.int k'))(hx:VL E x (Dn k)):Ac P I o E (Dn k'):=
 Ac.same fun M w a he _=>by
  obtain⟨n,h1⟩:=hx.ev he Ax;have h1:a.eval x= .int k n:=h1;refine⟨.int k' (k'.wrap n),?_,_,rfl⟩;simp[execOp,ho,h1,convert,run_underlying hs,run_underlying ht,Conv.intToInt,Sem.run_bind]
theorem aF{t u:TypeId}{y:Operand}(ho:o.op= .binOp .mul t x y u)(hx:VL E x (Dn .u32))(hy:VL E y (Dn .u32)):Ac P I o E aD:=
 Ac.same fun M w a he _=>by
  obtain⟨m,h1⟩:=hx.ev he Ax;obtain⟨n,h2⟩:=hy.ev he Ax;have h1:a.eval x= .int .u32 m:=h1;have h2:a.eval y= .int .u32 n:=h2;refine⟨.int .u32 (IntKind.u32.wrap (m*n)),by simp[execOp,ho,h1,h2,eqGuard,binOp,Op.intArith],_,?_,rfl⟩;rw[IntKind.wrap_u32];omega
theorem UI{s t:TypeId}(ho:o.op= .convert s t x)(hs:P.underlying s=some (.int .u32))(ht:P.underlying t=some (.int .i64))(hx:VL E x aD):Ac P I o E og:=
 Ac.same fun M w a he _=>by
  obtain⟨n,hn,h1⟩:=hx.ev he Ax;have h1:a.eval x= .int .u32 n:=h1;refine⟨.int .i64 (IntKind.i64.wrap n),?_,n,hn,by rw[GW I0];rfl⟩;simp[execOp,ho,h1,convert,run_underlying hs,run_underlying ht,Conv.intToInt,Sem.run_bind]
end
theorem Am.HK{row:List Pr}(h:∀m,m<=20->Am P f [slice 4 (List.replicate m row)] (slice 4 (List.replicate m row))):Am P f [Go.Proofs.YthommhphcagokaaGreatDoor.HK row] (Go.Proofs.YthommhphcagokaaGreatDoor.HK row):=by
 refine⟨(h 0 AA).1,fun M w vs hb hv=>?_⟩
 match vs,hv with
 |[u0],Tu=>
  obtain⟨⟨m,hm,h0⟩,_⟩:=Tu;exact((h m hm).2 M w [u0] hb ⟨h0,trivial⟩).mono fun e w' ⟨v,h1,h2,h3⟩=>⟨v,h1,⟨m,hm,h2⟩,h3⟩
theorem Am.Dx{B:Nat}{res:Pr}(h:∀m,m<=B->Am P f [S5 m] res):Am P f [Go.Proofs.YthommhphcagokaaGreatDoor.Dx B] res:=by
 refine⟨(h 0 AA).1,fun M w vs hb hv=>?_⟩
 match vs,hv with
 |[u0],Tu=>
  obtain⟨⟨m,hm,h0⟩,_⟩:=Tu;exact(h m hm).2 M w [u0] hb ⟨h0,trivial⟩
abbrev Jf:Pr:=HK (BK q0)
abbrev oh:Pr:=HK (BK Jf)
theorem KZ:Pr.le q0 Jf:=BN 0 (BS AA (Pr.le_refl _))
theorem rc0:Am Tryz.prog 257 [q0] q0:=J_ (m:=0) (q:=q0) AA (.inl rfl)
theorem rc1(m:Nat)(hm:m<=20):Am Tryz.prog 257 [slice 4 (List.replicate m (BK q0))] (slice 4 (List.replicate m (BK q0))):=J_ hm (.inr rc0)
theorem rc2(m:Nat)(hm:m<=20):Am Tryz.prog 257 [slice 4 (List.replicate m (BK Jf))] (slice 4 (List.replicate m (BK Jf))):=J_ hm (.inr (Am.HK rc1))
theorem rf0:Am Tryz.prog 209 [agg (BK q0)] P4:=Am.XS fun t b n hb=>J9 (m:=0) (q:=q0) hb AA (.inl rfl)
theorem rf1:Am Tryz.prog 209 [agg (BK Jf)] P4:=Am.BK fun t b n m hb hm=>J9 hb hm (.inr rf0)
theorem rf2:Am Tryz.prog 209 [agg (BK oh)] P4:=Am.BK fun t b n m hb hm=>J9 hb hm (.inr rf1)
theorem rd0:Am Tryz.prog 210 [agg (BK q0)] (Ih 1):=Am.XS fun t b n hb=>MG (m:=0) (q:=q0) (D:=0) hb AA AA (.inl rfl)
theorem rd1:Am Tryz.prog 210 [agg (BK Jf)] (Ih 2):=Am.BK fun t b n m hb hm=>MG hb hm AA (.inr rd0)
theorem rd2:Am Tryz.prog 210 [agg (BK oh)] (Ih 3):=Am.BK fun t b n m hb hm=>MG hb hm AA (.inr rd1)
theorem rp0:Am Tryz.prog 211 [agg (BK q0)] (Dx 2002):=Am.XS fun t b n hb=>Rh (m:=0) (q:=q0) (B:=0) hb AA AA (.inl rfl)
theorem rp1:Am Tryz.prog 211 [agg (BK Jf)] (Dx 82082):=Am.BK fun t b n m hb hm=>Rh (B:=2002) hb hm AA (.inr rp0)
theorem rp2:Am Tryz.prog 211 [agg (BK oh)] (Dx 3285282):=Am.BK fun t b n m hb hm=>Rh (B:=82082) hb hm AA (.inr rp1)
theorem rE2:Am Tryz.prog 156 [agg (BK oh)] (D8 [Dx 3285282,Dn .i64]):=UG rf2 rd2 rp2
structure Cn.Mj(c:Cn):Prop where
 FK:c.FK<=1099511627776
 Da:c.Da<=2147483648
 JJ:0<=c.JJ/\c.JJ<=40000
 Fh:0<=c.Fh/\c.Fh<=40000
 J6:0<=c.J6/\c.J6<=40000
 IG:0<=c.IG/\c.IG<=40000
theorem DU{s:List UInt8}(h:named s=true):s.length<=32:=by unfold named at h;simp at h;omega
theorem S_{a b:Int}(ha:0<=a/\a<=40000)(hb:0<=b/\b<=40000):Am prog 215 [agg [int a,int b]] (agg (BK Jf)):=by
 refine fo func215 rfl ⟨rfl,rfl⟩ fun M0 w0=>(Tr.seq (Tr.Al (tp rfl (Bc rfl Ce) ?_)));refine Tl rfl rfl rfl rfl C1 Ca (fun b1=>?_);refine ap ?_;refine Tr.seq (Tr.rx ?_);refine ay ?_;refine xo rfl (fun _=>BQ (Ij AA) rfl rfl) ?_;refine ay ?_;refine xo rfl (fun _=>BQ (Ij AA) rfl rfl) (xo rfl (fun _=>AG (xs:=[.tmp 5,.tmp 8]) (rows:=[_,_]) rfl rfl underlying246 Aq C1 rfl AB ⟨⟨AK,(Va rfl)⟩,⟨⟨AK,(Va rfl)⟩,trivial⟩⟩ AB) ?_);refine xo rfl (fun _=>AQ rfl (Of (m:=2) (q:=q0) AA (rc1 _ AA)) ⟨Cs,trivial⟩) ?_;refine Cx.Ej 0 rfl rfl (BG rfl rfl vq Ce Aq rfl Af rfl) ?_;refine Cx.nil ⟨by kernel_rfl,?_⟩;refine CF.done Z0 (Fin.go (Tr.ret (Fin.Br rfl (AZ.cell 0 rfl rfl BA Aq rfl Lr) ?_)))
 .exact Lr
theorem XY{c:Cn}(hv:BD c=true)(ht:c.Mj):Am prog 157 [agg (CM c)] (agg (BK oh)):=by
 refine fo func157 rfl ⟨rfl,rfl⟩ fun M0 w0=>?_;obtain⟨hs0,hs1,Ko,hsub,hnm,hkey,hk0,hk1,NW,gb,gh,gj,gl,hf0,hft,ht1,Yx,mN,hap⟩:=FT hv;obtain⟨g1,g2,g3,g4,g5,g6⟩:=ht;have E4:=hnm;unfold CV at E4;rw[Bool.and_eq_true,Be,decide_eq_true_eq]at E4;obtain⟨hall,XW⟩:=E4;have Qd:=DU Ko;have U3:=DU hsub;refine Tr.seq (Tr.Al (tp rfl (Bc rfl Ce) ?_));refine Tl rfl rfl rfl rfl C1 Ca (fun b1=>?_);refine ap ?_;refine a2 ?_;refine Tr.block (Tr.Cm 248 4 (Tr.Fv _ (kk [2,1] rfl) (fun k v=>[(4,int ((k:Nat):Int)),(3,An v (slice 4 (List.replicate k (BK q0))))]) (fun k v=>Hp M0 w0 Hj ([A8 248 4 v,AF true b1 248 (([.int .i64 0,.slice none 0 0,.bool false,.slice none 0 0]:List Value).map is)])) (fun k:Nat=>k<=(c.names).length) (fun k:Nat=>(c.names).length-k) 0 (.slice none 0 0) (Nat.zero_le _) ⟨kq,⟨_,rfl,CG rfl⟩,trivial⟩ (fun _ _ h=>h) ?_));rintro k v BR;refine an ?_ ?_<;>intro h1 q1
 have Ae:k<(c.names).length:=AV h1;obtain⟨s,Ag⟩:=at_ Ae;have hsn:=DU (Hy (hall k AA) Ag);refine ac ?_;refine ap ?_;refine tp rfl (AD rfl underlying67 G4 vq vq AA DL) ?_;refine tp rfl (FH rfl J0 rfl) (tp rfl (BQ (Oe AA) rfl rfl) (tp rfl (AG (xs:=[.tmp 18]) (rows:=[_]) rfl rfl underlying246 Aq C1 rfl AB ⟨⟨AK,(Va rfl)⟩,trivial⟩ AB) ?_));refine TO.EV 0 rfl rfl AB (Dp rfl rfl rfl rfl underlying246 Aq NG C1 It Cs (Bx BH Jd)) (fun v1=>?_);refine ap ?_;refine wk [4,3,2,1] rfl ?_;refine ac ?_;exact Fin.IE (k+1) v1 (⟨Ae,by omega⟩) ⟨⟨_,rfl,AM k⟩,⟨_,rfl,B7 (by rw[S6])⟩,kz⟩ (fun _ _ h=>h);have BB:k=(c.names).length:=by have:=AW h1;omega
 refine ac ?_;refine Tr.seq (Tr.rx ?_);refine ay ?_;refine xo rfl (fun _=>BQ (Ij AA) rfl rfl) ?_;refine ay ?_;refine xo rfl (fun _=>BQ (Oe AA) rfl rfl) ?_;refine ay ?_;refine xo rfl (fun _=>BQ (Oe AA) rfl rfl) ?_;refine ay ?_;refine xo rfl (fun _=>BQ (S_ g3 g4) rfl rfl) ?_;refine ay ?_;refine xo rfl (fun _=>BQ (Ij AA) rfl rfl) ?_;refine ay ?_;refine xo rfl (fun _=>BQ (S_ g5 g6) rfl rfl) ?_;refine ay ?_;refine xo rfl (fun _=>BQ (Ij AA) rfl rfl) ?_;refine ay ?_;refine xo rfl (fun _=>BQ (Ij AA) rfl rfl) ?_;refine ay ?_;refine xo rfl (fun _=>BQ (Z_) rfl rfl) ?_;refine ay ?_;refine xo rfl (fun _=>BQ (Ij AA) rfl rfl) (xm rfl ?_);refine xo rfl (fun _=>AQ rfl (Of (m:=c.names.length) (q:=q0) AA (rc1 _ AA)) ⟨⟨_,rfl,Pr.le_trans (As _ _) (Pr.le_of_eq (by rw[BB]))⟩,trivial⟩) ?_;refine xo rfl (fun _=>AG (xs:=[.tmp 23,.tmp 26,.tmp 29,.tmp 32,.tmp 35,.tmp 38,.tmp 41,.tmp 44,.tmp 47,.tmp 50,.tmp 52]) (rows:=[BK Jf,BK Jf,BK Jf,BK Jf,BK Jf,BK Jf,BK Jf,BK Jf,BK Jf,BK Jf,BK Jf]) rfl rfl underlying246 Aq C1 rfl AB ⟨⟨AK,VL.le (vl rfl) (Pr.le_trans (Au (qs:=BK Jf) ⟨Lr,Lr,Lr,KZ,trivial⟩) (AE _))⟩,⟨⟨AK,VL.le (vl rfl) (Pr.le_trans (Au (qs:=BK Jf) ⟨Lr,Lr,Lr,KZ,trivial⟩) (AE _))⟩,⟨⟨AK,VL.le (vl rfl) (Pr.le_trans (Au (qs:=BK Jf) ⟨Lr,Lr,Lr,KZ,trivial⟩) (AE _))⟩,⟨⟨AK,VL.le (vl rfl) (AE _)⟩,⟨⟨AK,VL.le (vl rfl) (Pr.le_trans (Au (qs:=BK Jf) ⟨Lr,Lr,Lr,KZ,trivial⟩) (AE _))⟩,⟨⟨AK,VL.le (vl rfl) (AE _)⟩,⟨⟨AK,VL.le (vl rfl) (Pr.le_trans (Au (qs:=BK Jf) ⟨Lr,Lr,Lr,KZ,trivial⟩) (AE _))⟩,⟨⟨AK,VL.le (vl rfl) (Pr.le_trans (Au (qs:=BK Jf) ⟨Lr,Lr,Lr,KZ,trivial⟩) (AE _))⟩,⟨⟨AK,VL.le (vl rfl) (Pr.le_trans (Au (qs:=BK Jf) ⟨Lr,Lr,Lr,KZ,trivial⟩) (AE _))⟩,⟨⟨AK,VL.le (vl rfl) (Pr.le_trans (Au (qs:=BK Jf) ⟨Lr,Lr,Lr,KZ,trivial⟩) (AE _))⟩,⟨⟨AK,VL.le (vl rfl) (AE _)⟩,trivial⟩⟩⟩⟩⟩⟩⟩⟩⟩⟩⟩ AB) ?_;refine xo rfl (fun _=>AQ rfl (Of (m:=11) (q:=Jf) AA (rc2 _ AA)) ⟨Cs,trivial⟩) ?_;refine Cx.Ej 1 rfl rfl (BG rfl rfl vq Ce Aq rfl Af rfl) ?_;refine Cx.nil ⟨by kernel_rfl,?_⟩;refine CF.done dP (Fin.go (wk [2] rfl (Tr.ret (Fin.Br rfl (AZ.cell 1 rfl rfl BA Aq rfl Lr) ?_))))
 .exact Lr
theorem UJ{c:Cn}(hv:BD c=true)(ht:c.Mj):Am prog 88 [agg (CM c)] (D8 [Dx 3285282,Dn .i64]):=by
 refine fo func88 rfl ⟨rfl,rfl⟩ fun M0 w0=>?_;refine a2 ?_;refine co rfl (BQ (NV hv) rfl rfl) ?_;refine an ?_ ?_<;>intro h1 q1
 exact absurd h1 AB;refine a2 ?_;refine co rfl (BQ (XY hv ht) rfl rfl) (co rfl (BQ (rE2) rfl rfl) ?_);refine ac ?_;refine Tr.ret (Fin.EC rfl (Cy.GV _ _) rfl ?_ rfl ?_)
 .exact Lr
 .exact Lr
theorem aG(hm:m<=100000000):Am prog 89 [S5 m] (og):=by
 refine fo func89 rfl ⟨rfl,rfl⟩ fun M0 w0=>?_;have hlr:(List.replicate m NS).length=m:=List.length_replicate;refine a3 ?_;refine Tr.block (Tr.BP _ (kk [0] rfl) (fun k:Nat=>[(4,int ((k:Nat):Int)),(3,aD)]) (fun k:Nat=>k<=((List.replicate m NS).length)) (fun k:Nat=>((List.replicate m NS).length)-k) 0 (Nat.zero_le _) ⟨kq,⟨_,rfl,BN _ (BS AA Lr)⟩,trivial⟩ ?_);rintro k BR;refine ac ?_;refine co rfl (A9 rfl underlying180 vq) ?_;refine an ?_ ?_<;>intro h1 q1
 have Ae:k<((List.replicate m NS).length):=AV h1;have hkm:k<m:=by simpa using Ae
 refine a2 ?_;refine co rfl (AD rfl underlying180 D7 vq vq AA (HM hkm)) (co rfl (FH rfl Y7 rfl) (co rfl (XX rfl underlying5 underlying169 vq) (co rfl (Zr AB rfl (VL.le vq aE) vq) (co rfl (aF rfl vq (VL.le vq (BF _ _))) ?_))));refine ac ?_;refine wk [4,3,0] rfl ?_;refine ac ?_;exact Fin.AR (k+1) ⟨Ae,by omega⟩ ⟨⟨_,rfl,AM k⟩,kz⟩;have BB:k=((List.replicate m NS).length):=by have:=AW h1;omega
 refine a2 ?_;refine co rfl (UI rfl underlying169 underlying3 vq) ?_;refine a2 ?_
 .exact Lr
theorem XZ{c:Cn}(hn:c.names.length<=1000):Am prog 86 [agg (CM c)] (agg (CM c)):=by
 refine fo func86 rfl ⟨rfl,rfl⟩ fun M0 w0=>(Tr.seq (Tr.Al ?_));refine TO.V8 rfl rfl AB rfl Ce (fun b1=>?_);refine Tl rfl rfl rfl rfl J2 Gu (fun b2=>?_);refine ap ?_;refine ap ?_;refine TO.pad ?_;refine TO.EV 0 rfl rfl AB (Dp rfl rfl rfl rfl underlying67 G4 by9 z9 Cs vq (BT BH vq)) (fun v1=>?_);refine ap ?_;refine ap ?_;refine Tr.drop 2 (Tr.ret (Fin.Br rfl (AZ.cell 1 rfl rfl FI CC rfl Lr) ?_))
 .exact Au ⟨Lr,Lr,Lr,Lr,Lr,Lr,Lr,Lr,Lr,Lr,Lr,Lr,Pr.le_trans (As _ _) (Pr.le_of_eq AO),Lr,Lr,trivial⟩
abbrev Ea(c:Cn)(key s:Int):Cn:=⟨c.FK,c.EZ,c.DY,c.JJ,c.Fh,c.Da,c.J6,c.IG,c.from_,c.CW,c.auth,c.path,c.names,key,s⟩
theorem HQ{c:Cn}{key:Int}(hv:BD (Ea c 0 0)=true)(ht:(Ea c 0 0).Mj)(hk:0<=key/\key<=2147483648):Am prog 46 [agg (CM c),int key] (Cp.ex fun s:Int=>fact (0<=s/\s<4294967296) (D8 [agg (CM (Ea c key s)),int 0])):=by
 refine fo func46 rfl ⟨rfl,rfl⟩ fun M0 w0=>?_;have hnn:c.names.length<=1000:=by have:=(FT hv).nm;unfold CV at this;simp at this;omega
 refine Tr.seq (Tr.Al ?_);refine TO.V8 rfl rfl AB rfl Ce (fun b1=>?_);refine Tl rfl rfl rfl rfl J2 Gu (fun b2=>?_);refine ap ?_;refine ap ?_;refine tp rfl (BQ (XZ (c:=c) hnn) rfl rfl) ?_;refine ap ?_;refine ap ?_;refine ac ?_;refine co rfl (BQ (NV (c:=Ea c 0 0) hv) rfl rfl) ?_;refine co rfl WA (cm rfl ?_);refine Ch.cs 15 rfl ?_ ?_<;>intro h1 q1
 exact absurd h1 AB;refine Hq h1 rfl (cy h1 rfl (ki rfl rfl rfl rfl) (co rfl (Sc rfl rfl h1 rfl) (cm rfl ?_)));refine Ch.cs 19 rfl ?_ ?_<;>intro h2 q2
 exfalso;have:=q2;omega;refine ac ?_;refine wk [22,4,2,1] rfl ?_;refine Tr.cn rfl ?_ ?_<;>intro h3 q3
 exfalso;have:=q3;omega;refine ac ?_;refine ac ?_;refine co rfl (BQ (UJ (c:=Ea c 0 0) hv ht) rfl rfl) ?_;refine ac ?_;refine ap ?_;refine tp rfl (BQ (Am.Dx fun m hm=>aG AA) rfl rfl) ?_;refine TO.ex 31 rfl (fun z31=>TO.fact 31 rfl fun uE=>?_);refine ap ?_;refine wk [4,2] rfl ?_;refine ap ?_;refine Tr.drop 1 (Tr.ret (Fin.BU rfl (AZ.cell 0 rfl rfl FI CC rfl Lr) (AZ.tmp rfl Lr) ?_))
 .exact BN z31 (BS uE Lr)
abbrev CT(b:Nat)(s:DS):At:=Pc 66 b s
theorem aH(n:Int){k:Int}(hk:1<=k):(n.tmod k+k).tmod k=n % k:=by
 have h1: -k<n.tmod k:=by have:=Int.lt_tmod_of_pos n (b:=k) AA;omega
 rw[Int.tmod_eq_emod_of_nonneg AA,Int.tmod_def,show n-k*n.tdiv k+k=n+k*(1-n.tdiv k)by rw[Int.mul_sub];omega,Int.add_mul_emod_self_left]
theorem gp(n:Int){k:Int}(hk:1<=k): -k<n.tmod k/\n.tmod k<k:=by
 have h1:=Int.lt_tmod_of_pos n (b:=k) AA;have h2:=Int.tmod_lt_of_pos n (b:=k) AA;omega
theorem aI:Am prog 5 [ints l] (bool (decide (l.length<=400))):=by
 refine fo func5 rfl ⟨rfl,rfl⟩ fun M0 w0=>?_;refine a3 ?_
 .exact Iz
theorem Xa{n k:Int}(hk:1<=k)(hk2:k<=1000000000):Am prog 11 [int n,int k] (int (n % k)):=by
 refine fo func11 rfl ⟨rfl,rfl⟩ fun M0 w0=>?_;have hm:=gp n hk;have hp:=aH n hk
 .repeat' first|(exfalso;omega)|(refine int_eq ?_;exact hp)|refine co rfl (IU rfl vq vq AA) ?_|refine ac ?_|(refine Tr.cn rfl ?_ ?_<;>intro h q)
theorem Bp{b:Nat}{s:DS}{n:Int}(hn:1<=n)(hn2:n<=1000000000):BW prog 9 [ptr b 0,int n] (int (s.val n)) (CT b s) (fun _=>CT b s.Ai):=by
 refine BW.of func9 rfl rfl Af fun M0 w0 S rs M1 w1=>?_;have hs:=s.h;have O9:=s.h2;refine ac ?_;refine an ?_ ?_<;>intro h1 q1
 refine ac ?_;refine Tr.ret (Fin.AP ?_);rw[DS.Y5 (s:=s) AA];refine Fin.Ci [] rfl (AZ.tmp rfl Lr) ?_ (fun _ _ _ _=>rfl)
 .refine int_eq ?_;exact(DS.Y4 AA n).symm
 have hlt:s.at_<s.l.length:=by omega
 obtain⟨x,hx⟩:=at_ hlt;refine ac ?_;refine ap ?_;refine wk [1,0] rfl ?_;refine ac ?_;refine co rfl (AD rfl underlying22 C_ vq vq AA (by rw[show((s.at_:Nat):Int)+1-1=((s.at_:Nat):Int)by omega];exact Aj hx)) ?_;refine ac ?_;refine co rfl (Bm (Xa AA AA) rfl rfl rfl) ?_;refine ac ?_;refine wk [4] rfl (Tr.ret ?_);rw[DS.eM hlt];refine Fin.Ci [] rfl (AZ.tmp rfl Lr) ?_ (fun _ _ _ _=>rfl)
 .refine int_eq ?_;exact(DS.eL hx n).symm
theorem DB{b:Nat}{s:DS}(hl:l≠[])(j9:l.length<=1000000000):BW prog 25 [ptr b 0,ints l] (int (s.of l)) (CT b s) (fun _=>CT b s.Ai):=by
 refine BW.of func25 rfl rfl Af fun M0 w0 S rs M1 w1=>?_;have om:1<=(l.length:Int):=by have:=List.length_pos_iff.2 hl;omega
 have hv:=s.B8 om;obtain⟨x,hx⟩:=at_ (l:=l) (k:=(s.val l.length).toNat) AA;refine ac ?_;refine ap ?_;refine TO.EJ 0 rfl rfl AB (Ab rfl rfl AB rfl (Bp AA AA) ⟨kq,kz⟩) (tp rfl (AD rfl underlying22 C_ vq vq AA (B9 hx)) ?_);refine ap ?_;refine Tr.ret (Fin.Ci [] rfl (AZ.tmp rfl Lr) ?_ (fun _ _ _ _=>rfl))
 .refine int_eq ?_;unfold DS.of;rw[hx];rfl
theorem HR{b:Nat}{s:DS}{n:Int}(hn:1<=n)(hn2:n<=1000000000):BW prog 26 [ptr b 0,int n] (bool (s.val n==n-1)) (CT b s) (fun _=>CT b s.Ai):=by
 refine BW.of func26 rfl rfl Af fun M0 w0 S rs M1 w1=>?_;refine ac ?_;refine ap ?_;refine TO.EJ 0 rfl rfl AB (Ab rfl rfl AB rfl (Bp AA AA) ⟨kq,kz⟩) ?_;refine ap ?_;refine Tr.ret (Fin.Ci [] rfl (AZ.tmp rfl Lr) ?_ (fun _ _ _ _=>rfl))
 .exact Lr
def aJ(l:List Int)(hl:l.length<=1000000000)(v:Value):At:=match v with| .pointer (some a)=>Pc 66 a.block ⟨l,0,Nat.zero_le _,hl⟩|_=>Bj
theorem gq(hl:l.length<=1000000000):BW prog 7 [ints l] (ex fun b=>ptr b 0) (Bj) (aJ l hl):=by
 refine BW.of func7 rfl rfl Af fun M0 w0 S rs M1 w1=>?_;refine ac ?_;refine ap ?_;refine TO.V8 rfl rfl AB rfl Ce (fun b1=>?_);refine ap ?_;refine Tr.ret (Fin.drop 1 ?_);refine Fin.Ci [] rfl (AZ.tmp rfl Lr) ?_ (by rintro _ _ _ rfl;rfl)
 .exact BN b1 Lr
abbrev MI(name:List UInt8)(a b id to key s:Int):Cn:=⟨id,[114,111,111,116],name,a,b,id,3,0,0,to,false,0,[name],key,s⟩
abbrev HS(name:List UInt8)(a b id to key s:Int):Fj:=⟨a,b,id,[MI name a b id to key s]⟩
abbrev oo(name:List UInt8)(a b id to key:Int):Pr:=Cp.ex fun s:Int=>fact (0<=s/\s<4294967296) (agg (EI (HS name a b id to key s)))
theorem dV   :Am prog 28 [] (agg [int 5,int 2048]):=by
 refine fo func28 rfl ⟨rfl,rfl⟩ fun M0 w0=>(Tr.seq (Tr.Al ?_));refine Tl rfl rfl rfl rfl z75 BZ (fun b1=>?_);refine ap ?_;refine ap ?_;refine Tr.ret (Fin.Br rfl (AZ.cell 0 rfl rfl A7 Bb rfl Lr) ?_)
 .exact Lr
theorem Xb{name:List UInt8}{a b id to key:Int}(hv:BD (MI name a b id to 0 0)=true)(ht:(MI name a b id to 0 0).Mj)(hk:0<=key/\key<=2147483648):Am prog 27 [str name,agg [int a,int b],int id,int key,int to] (oo name a b id to key):=by
 refine fo func27 rfl ⟨rfl,rfl⟩ fun M0 w0=>(Tr.seq (Tr.Al (tp rfl (Bc rfl Ce) ?_)));refine Tl rfl rfl rfl rfl Ts Pg (fun b1=>?_);refine ap ?_;refine ap ?_;refine tp rfl (Ad (rows:=[(0,[_]),(1,[_]),(2,[_]),(3,_),(4,[_]),(5,_),(7,[_]),(10,[_])]) rfl ck Gu ⟨⟨rfl,CD⟩,⟨⟨rfl,CD⟩,⟨⟨rfl,CD⟩,⟨⟨rfl,Ce⟩,⟨⟨rfl,CD⟩,⟨⟨rfl,Ce⟩,⟨⟨rfl,CD⟩,⟨⟨rfl,⟨_,rfl,Pr.le_trans (Ak _ _) (AH _)⟩⟩,trivial⟩⟩⟩⟩⟩⟩⟩⟩ rfl) (TO.re 20 (agg (CM (MI name a b id to 0 0))) rfl (Pr.le_of_eq rfl) ?_);refine Tl rfl rfl rfl rfl J2 Gu (fun b2=>?_);refine ap ?_;refine wk [11,10,6,3,2] rfl ?_;refine ap ?_;refine tp rfl (Bm (HQ (c:=MI name a b id to 0 0) hv ht hk) rfl rfl rfl) ?_;refine TO.ex 24 rfl (fun z24=>TO.fact 24 rfl fun uF=>?_);refine ap ?_;refine ap ?_;refine tp rfl (Ad (rows:=[(0,_),(1,[_]),(2,[_])]) rfl lB Pg ⟨⟨rfl,Ce⟩,⟨⟨rfl,CD⟩,⟨⟨rfl,⟨_,rfl,Pr.le_trans (Ak _ _) (AH _)⟩⟩,trivial⟩⟩⟩ rfl) ?_;refine ap ?_;refine Tr.drop 0 (wk [10] rfl (Tr.ret (Fin.Br rfl (AZ.cell 0 rfl rfl KT EF rfl Lr) ?_)))
 .exact BN z24 (BS uF Lr)
def F0(s:DS)(l:List (List UInt8)):List UInt8:=(l[(s.val l.length).toNat]?).getD []
theorem MJ{b:Nat}{s:DS}{l:List (List UInt8)}(hl:l≠[])(j9:l.length<=1000000000):BW prog 30 [ptr b 0,Px l] (str (F0 s l)) (CT b s) (fun _=>CT b s.Ai):=by
 refine BW.of func30 rfl rfl Af fun M0 w0 S rs M1 w1=>?_;have om:1<=(l.length:Int):=by have:=List.length_pos_iff.2 hl;omega
 have hv:=s.B8 om;obtain⟨x,hx⟩:=at_ (l:=l) (k:=(s.val l.length).toNat) AA;refine ac ?_;refine ap ?_;refine TO.EJ 0 rfl rfl AB (Ab rfl rfl AB rfl (Bp AA AA) ⟨kq,kz⟩) (tp rfl (AD rfl underlying67 G4 vq vq AA (B9 hx)) ?_);refine ap ?_;refine Tr.ret (Fin.Ci [] rfl (AZ.tmp rfl Lr) ?_ (fun _ _ _ _=>rfl))
 .refine Pr.le_of_eq ?_;unfold F0;rw[hx];rfl
def FM:List (List UInt8):=[[97,112,112],[100,98],[119,101,98]]
def Kq:List (List Int):=[[10,8,2],[8,2],[2,10,8,3]]
def Ik(i:Int):List Int:=(Kq[i.toNat]?).getD []
theorem aK{i:Int}(h:0<=i/\i<3):(Kq.map fun l=>[ints l])[i.toNat]? =some [ints (Ik i)]:=by
 have hl:i.toNat<Kq.length:=by show i.toNat<3;omega
 unfold Ik;rw[List.getElem?_map,List.getElem?_eq_getElem hl];rfl
theorem P6{i:Int}(h:0<=i/\i<3):Ik i∈Kq:=by
 have hl:i.toNat<Kq.length:=by show i.toNat<3;omega
 unfold Ik;rw[List.getElem?_eq_getElem hl];exact List.getElem_mem hl
structure Rk(i:Nat)(e:C8):Prop where
 name:FM[i]? =some e.name
 least:e.least=1
 most:e.most=3\/e.most=4
 BC:e.BC∈Kq\/∃l∈Kq,e.BC=14::l
 ids:∃s:Int,(0<=s/\s<4294967296)/\e.ids=[HS e.name 5 2048 (100+(i:Nat)) 901 1 s]
 anchors:e.anchors=[1]
 hashes:e.hashes=[2,3]
def aL(es:List C8):Prop:=∀(i:Nat) e,es[i]? =some e->Rk i e
theorem P7{es:List C8}{e:C8}(h:aL es)(he:Rk es.length e):aL (es++[e]):=by
 intro i x hx;rcases Nat.lt_or_ge i es.length with hi|hi
 .rw[List.getElem?_append_left hi]at hx;exact h i x hx
 .
  rcases Nat.eq_or_lt_of_le hi with hi|hi
  .subst hi;rw[List.getElem?_append_right (Nat.le_refl _),Nat.sub_self]at hx;simp at hx;subst hx;exact he
  .rw[List.getElem?_eq_none CU]at hx;cases hx
theorem Og{nm:List UInt8}(h:FM[k]? =some nm){s:Int}(hs:0<=s/\s<4294967296){key:Int}(hk:0<=key/\key<=2):BD (MI nm 5 2048 (100+(k:Nat)) 901 key s)=true:=by
 have hlt:k<3:=BO h
 have hn:named nm=true:=by
  have hm:=List.mem_of_getElem? h
  revert hm;unfold FM;intro hm;simp at hm
  rcases hm with rfl|rfl|rfl<;>decide
 refine S8 ⟨?_,?_,by show named [114,111,111,116]=true;decide,hn,?_,by show E6 5 2048 2=true;decide+kernel,?_,?_,by show E6 3 0 1=true;decide+kernel,hk.1,?_,hs.1,hs.2,by show(0:Int)<=0;omega,by show(0:Int)<=901;omega,by show(901:Int)<=40000;omega,by show(0:Int)<=0;omega,by show(0:Int)<=8;omega,.inr rfl⟩
 .show 0<=(100:Int)+(k:Nat);omega
 .show(100:Int)+(k:Nat)<=_;omega
 .
  show CV [nm]=true;unfold CV;rw[Bool.and_eq_true];refine⟨Be.2 fun j hj=>?_,by simp⟩;have:j=0:=by simp at hj;omega
  subst this;unfold nameAt;simp[hn]
 .show 0<=(100:Int)+(k:Nat);omega
 .show(100:Int)+(k:Nat)<=_;omega
 .show key<=_;omega
theorem NX{nm:List UInt8}(h:k<3):(MI nm 5 2048 (100+(k:Nat)) 901 0 0).Mj:=
 ⟨by show(100:Int)+(k:Nat)<=1099511627776;omega,by show(100:Int)+(k:Nat)<=2147483648;omega,⟨by show(0:Int)<=5;omega,by show(5:Int)<=40000;omega⟩,⟨by show(0:Int)<=2048;omega,by show(2048:Int)<=40000;omega⟩,⟨by show(0:Int)<=3;omega,by show(3:Int)<=40000;omega⟩,⟨by show(0:Int)<=0;omega,by show(0:Int)<=40000;omega⟩⟩
theorem P8{β:Type}{l:List β}{n:Nat}{x:β}(h:(l.take n)[k]? =some x):l[k]? =some x:=by
 have hlt:=BO h;rw[List.length_take]at hlt;rw[List.getElem?_take,if_pos AA]at h;exact h
theorem Xc(i:Int):(Ik i).length<=4:=by
 unfold Ik;cases h:Kq[i.toNat]? with
 |none=>show 0<=4;omega
 |some l=>
  have hm:=List.mem_of_getElem? h;show l.length<=4;unfold Kq at hm;simp at hm;rcases hm with rfl|rfl|rfl<;>simp
theorem gr(s:DS):s.of [3,3,4]=3\/s.of [3,3,4]=4:=by have:=s.DE (l:=[3,3,4]) AO;simp at this;exact this
abbrev oq:List (List Int):=Kq++Kq.map (14:: ·)
theorem HT{e:C8}(h:Rk i e):e.BC∈oq:=by
 rcases h.BC with h|⟨l,h,h2⟩
 .exact List.mem_append_left _ h
 .rw[h2];exact List.mem_append_right _ (List.mem_map_of_mem h)
theorem Oh:∀l∈oq,Dr l=true/\l.length<=5:=by decide+kernel
theorem TC:∀n∈FM,FW n=true/\n.length<=3:=by decide+kernel
theorem aM:[2,3].all Fl=true:=by decide+kernel
theorem aN:E6 5 2048 2=true:=by decide+kernel
theorem Xd{nm:List UInt8}{id:Int}(h:FM[k]? =some nm)(hid:id=100+(k:Nat)){s:Int}(hs:0<=s/\s<4294967296):NP (HS nm 5 2048 id 901 1 s)=true:=by
 subst hid;have hk:k<3:=BO h;have hv:=Og h hs (key:=1) AA;have hk2:D4 (100+(k:Nat))=true:=by unfold D4;simp;omega
 unfold NP ME;simp only[aN,hk2,List.all_cons,List.all_nil,hv];simp
theorem aO{e:C8}(h:Rk i e):dU e:=by
 have hn:=TC _ (List.mem_of_getElem? h.name);have hs:=Oh _ (HT h);obtain⟨s,hs1,O9⟩:=h.ids;have hm:=h.most;have hl:=h.least;refine⟨hn.1,by omega,by omega,by omega,hs.1,by rw[O9];simp,by rw[h.anchors];simp,by rw[h.anchors];decide,by rw[h.hashes];decide,?_,by rw[h.anchors];decide,by rw[h.hashes];exact aM⟩;rw[O9];simp only[List.all_cons,List.all_nil,Xd h.name rfl hs1,Bool.and_self]
theorem NY{e:C8}(h:Rk i e):e.fits:=by
 have hn:=TC _ (List.mem_of_getElem? h.name);obtain⟨s,hs1,O9⟩:=h.ids;refine⟨by unfold maxLen;omega,fun x hx c hc=>?_⟩;rw[O9]at hx;simp at hx;subst hx;simp at hc;subst hc;exact⟨by show 4<=maxLen;unfold maxLen;omega,by show e.name.length<=maxLen;unfold maxLen;omega,fun n hn2=>by simp at hn2;subst hn2;unfold maxLen;omega⟩
theorem MK{e:C8}(h:Rk i e):e.small:=by
 have hs:=Oh _ (HT h);obtain⟨s,hs1,O9⟩:=h.ids;refine⟨by omega,by rw[h.anchors];simp,by rw[h.hashes];simp,by rw[O9];simp,fun x hx=>?_⟩;rw[O9]at hx;simp at hx;subst hx;exact⟨by simp,fun c hc=>by simp at hc;subst hc;simp⟩
structure C8.sz(e:C8)(n:Nat):Prop where
 name:e.name.length<=maxLen
 BC:e.BC.length<=n
 anchors:e.anchors.length<=n
 hashes:e.hashes.length<=n
 Yi:e.ids.length<=n
 ids:∀x∈e.ids,x.fits/\x.small
theorem C8.sz.fits{e:C8}{n:Nat}(h:e.sz n):e.fits:=⟨h.name,fun x hx=>(h.ids x hx).1⟩
theorem C8.sz.small{e:C8}{n:Nat}(h:e.sz n)(hn:n<=1000000):e.small:=⟨by have:=h.BC;omega,by have:=h.anchors;omega,by have:=h.hashes;omega,by have:=h.Yi;omega,fun x hx=>(h.ids x hx).2⟩
theorem C8.sz.le{e:C8}{n:Nat}(h:e.sz n)(hn:n<=m):e.sz m:=⟨h.name,Nat.le_trans h.BC hn,Nat.le_trans h.anchors hn,Nat.le_trans h.hashes hn,Nat.le_trans h.Yi hn,h.ids⟩
theorem aP{e:C8}(h:Rk i e):e.sz 5:=by
 have hs:=Oh _ (HT h);have h1:=NY h;have h2:=MK h;obtain⟨s,hs1,O9⟩:=h.ids;exact⟨h1.name,hs.2,by rw[h.anchors];simp,by rw[h.hashes];simp,by rw[O9];simp,fun x hx=>⟨h1.ids x hx,h2.ids x hx⟩⟩
abbrev uG(l:List C8):Pr:=slice 9 (l.map BL)
structure P9 where
 Bl:Int
 bits:Int
 day:Int
 deriving DecidableEq
abbrev uH(x:P9):List Pr:=[int x.Bl,int x.bits,int x.day]
abbrev Xe(l:List P9):Pr:=slice 3 (l.map uH)
structure II where
 name:List UInt8
 kind:Int
 E5:Int
 links:List P9
 Il:Int
 deriving DecidableEq
abbrev Fp(x:II):List Pr:=[str x.name,int x.kind,int x.E5,Xe x.links,int x.Il]
abbrev H_(l:List II):Pr:=slice 5 (l.map Fp)
structure G3 where
 client:Int
 server:Int
 deriving DecidableEq
abbrev uI(x:G3):List Pr:=[int x.client,int x.server]
abbrev Dy(l:List G3):Pr:=slice 2 (l.map uI)
abbrev DT:P9:=⟨0,0,0⟩
abbrev Db:G3:=⟨0,0⟩
def Du(l:List P9)(i:Nat):Bool:=decide (Bf (l[i]?.getD DT).Bl (l[i]?.getD DT).bits>0)&&decide (0<=(l[i]?.getD DT).day)&&decide ((l[i]?.getD DT).day<=40000)&&(decide (i=0)||decide ((l[i-1]?.getD DT).day<(l[i]?.getD DT).day))
def Ep(x:II):Bool:=(named x.name&&decide (x.kind=1\/x.kind=2)&&decide (1<=x.E5)&&decide (x.E5<=4)&&decide (1<=x.links.length)&&decide (x.links.length<=8))&&allI (Du x.links) x.links.length&&(decide ((x.links[0]?.getD DT).day<=x.Il)&&decide (x.Il<=40000))
structure ot(x:II):Prop where
 name:named x.name=true
 kind:x.kind=1\/x.kind=2
 p1:1<=x.E5
 p4:x.E5<=4
 l1:1<=x.links.length
 l8:x.links.length<=8
 lnk:∀j,j<x.links.length->Du x.links j=true
 u0:(x.links[0]?.getD DT).day<=x.Il
 u1:x.Il<=40000
theorem D9{x:II}:Ep x=true↔ot x:=by
 unfold Ep;simp only[Bool.and_eq_true,decide_eq_true_eq,Be];exact⟨fun⟨⟨⟨⟨⟨⟨⟨h1,h2⟩,h3⟩,h4⟩,h5⟩,h6⟩,h7⟩,h8,h9⟩=>⟨h1,h2,h3,h4,h5,h6,h7,h8,h9⟩,fun h=>⟨⟨⟨⟨⟨⟨⟨h.name,h.kind⟩,h.p1⟩,h.p4⟩,h.l1⟩,h.l8⟩,h.lnk⟩,h.u0,h.u1⟩⟩
def B6(n:Nat)(l:List G3)(i:Nat):Bool:=(decide (0<=(l[i]?.getD Db).client/\(l[i]?.getD Db).client<n)&&decide (0<=(l[i]?.getD Db).server/\(l[i]?.getD Db).server<n)&&decide ((l[i]?.getD Db).client≠(l[i]?.getD Db).server))&&(decide (i=0)||decide ((l[i-1]?.getD Db).client<(l[i]?.getD Db).client\/((l[i-1]?.getD Db).client=(l[i]?.getD Db).client/\(l[i-1]?.getD Db).server<(l[i]?.getD Db).server)))
def GM(n:Nat)(l:List G3):Bool:=allI (B6 n l) l.length&&decide (l.length<=40)
theorem UK{x:II}(hx:x.name.length<=maxLen):Am prog 75 [agg (Fp x)] (int (if Ep x then 0 else 30)):=by
 refine fo func75 rfl ⟨rfl,rfl⟩ fun M0 w0=>?_;refine ac ?_;refine wk [1] rfl (Tr.Tn [1] [(3,bool (decide (x.kind=1\/x.kind=2)))] (True) ?_ (fun h1=>?_));refine ac ?_;refine Ch.cs 9 rfl ?_ ?_<;>intro h2 q2
 refine ac ?_;exact Fin.AR () trivial ⟨⟨_,rfl,bool_eq (by simp_all [Bool.beq_eq_decide_eq])⟩,kz⟩;refine ac ?_;exact Fin.AR () trivial ⟨⟨_,rfl,bool_eq (by simp_all [Bool.beq_eq_decide_eq])⟩,kz⟩;refine wk2 1 3 rfl (Tr.Tn [1] [] ((named x.name=true/\(x.kind=1\/x.kind=2)/\1<=x.E5/\x.E5<=4)/\1<=x.links.length/\x.links.length<=8) ?_ (fun hpre=>?_));refine ac ?_;refine co rfl (BQ (K9 hx) rfl rfl) ?_;refine ac ?_;refine Ch.cs 18 rfl ?_ ?_<;>intro h4 q4
 refine ac ?_;refine wk [43,1] rfl ?_;refine ac ?_;refine ac ?_
 .exact VP
 refine ac ?_;refine Ch.cs 22 rfl ?_ ?_<;>intro h5 q5
 refine ac ?_;refine wk [43,1] rfl ?_;refine ac ?_;refine ac ?_
 .exact Ed
 refine ac ?_;refine Ch.cs 27 rfl ?_ ?_<;>intro h6 q6
 refine ac ?_;refine wk [43,1] rfl ?_;refine ac ?_;refine ac ?_
 .exact Ed
 refine ac ?_;refine Ch.cs 32 rfl ?_ ?_<;>intro h7 q7
 refine ac ?_;refine wk [43,1] rfl ?_;refine ac ?_;refine ac ?_
 .exact Ed
 refine ac ?_;refine Ch.cs 38 rfl ?_ ?_<;>intro h8 q8
 refine ac ?_;refine wk [43,1] rfl ?_;refine ac ?_;refine ac ?_
 .exact Ed
 refine ac ?_;refine wk [43,1] rfl ?_;refine Tr.cn rfl ?_ ?_<;>intro h9 q9
 refine ac ?_;refine ac ?_
 .exact Ed
 refine Tr.skip (Fin.AR () ⟨⟨by simp_all,by simp_all,by omega,by omega⟩,by omega,by omega⟩ kz);obtain⟨⟨hq1,Qe,Wk,hq4⟩,hq5,hq6⟩:=hpre;obtain⟨c0,hc0⟩:=at_ (l:=x.links) (k:=0) AA;have dW:=getD_at (d:=DT) hc0;refine ac ?_;refine Tr.block (Tr.BP _ (kk [46,45,1] rfl) (fun k:Nat=>[(47,int ((k:Nat):Int))]) (fun k:Nat=>k<=(x.links).length/\(∀j,j<k->Du x.links j=true)) (fun k:Nat=>(x.links).length-k) 0 (⟨Nat.zero_le _,fun j hj=>absurd hj AA⟩) kz ?_);rintro k ⟨BR,AY⟩;refine ac ?_;refine Tr.seq ?_;refine Tr.cn rfl ?_ ?_<;>intro h10 MB
 have Ae:k<(x.links).length:=AV h10;obtain⟨c,Ag⟩:=at_ Ae;have hg:=getD_at (d:=DT) Ag;refine ac ?_;refine ao ?_;refine tp rfl (AD rfl underlying83 FJ vq vq AA (Aj Ag)) (tp rfl (AJ rfl fE FJ vq rfl rfl) ?_);refine Tl rfl rfl rfl rfl z127 Wc (fun b1=>?_);refine tm rfl ?_;refine sf 0 5 ⟨rfl,rfl,rfl⟩ rfl rfl rfl rfl ?_;refine ao ?_;refine ac ?_;refine co rfl (BQ (Ob) rfl rfl) ?_;refine ac ?_;refine Ch.cs 56 rfl ?_ ?_<;>intro h11 O8
 refine ac ?_;refine wk [81,47,46,45,1] rfl ?_;refine ac ?_;refine ac ?_
 .exact Mu
 refine ac ?_;refine Ch.cs 61 rfl ?_ ?_<;>intro h12 Re
 refine ac ?_;refine wk [81,47,46,45,1] rfl ?_;refine ac ?_;refine ac ?_
 .exact Mu
 refine ac ?_;refine Ch.cs 66 rfl ?_ ?_<;>intro Je VD
 refine ac ?_;refine wk [81,47,46,45,1] rfl ?_;refine ac ?_;refine ac ?_
 .exact Mu
 refine ac ?_;refine Ch.cs 69 rfl ?_ ?_<;>intro Mh Z9
 have hk0:0<k:=by simpa using Mh
 obtain⟨y,hy⟩:=at_ (l:=x.links) (k:=k-1) AA;have Iv:=getD_at (d:=DT) hy;refine ac ?_;refine cy Mh rfl (AD rfl underlying83 FJ vq vq AA EM) ?_;refine ac ?_;refine wk [81,47,46,45,1] rfl ?_;refine Tr.cn rfl ?_ ?_<;>intro Rf gW
 refine ac ?_;refine ac ?_
 .refine int_eq (if_neg (fun hv=>?_)).symm;have ok:=D9.1 hv;have o1:=ok.name;have o2:=ok.kind;have o3:=ok.p1;have o4:=ok.p4;have o5:=ok.l1;have o6:=ok.l8;have o7:=ok.u0;have o8:=ok.u1;(have h_:=ok.lnk k AA;unfold Du at h_;rw[hg,Iv]at h_;simp_all;omega)
 refine ac ?_;refine ac ?_;exact Fin.AR (k+1) ⟨⟨Ae,Bi AY (by unfold Du;rw[hg,Iv];simp_all)⟩,by omega⟩ ⟨⟨_,rfl,AM k⟩,kz⟩;have HP:¬0<k:=by simpa using Mh
 refine ac ?_;refine wk [81,47,46,45,1] rfl ?_;refine ac ?_;refine ac ?_;exact Fin.AR (k+1) ⟨⟨Ae,Bi AY (by unfold Du;rw[hg];simp_all)⟩,by omega⟩ ⟨⟨_,rfl,AM k⟩,kz⟩;have BB:k=(x.links).length:=by have:=AW h10;omega
 subst BB;refine ac ?_;refine ac ?_;refine co rfl (AD rfl underlying83 FJ vq vq AA (Aj (k:=0) hc0)) ?_;refine ac ?_;refine Ch.cs 91 rfl ?_ ?_<;>intro h16 gm
 refine ac ?_;refine wk [95] rfl ?_;refine ac ?_;refine ac ?_
 .exact Qw
 refine ac ?_;refine wk [95] rfl ?_;refine Tr.cn rfl ?_ ?_<;>intro Yc gZ
 refine ac ?_;refine ac ?_
 .exact Ed
 refine ac ?_;refine ac ?_;refine ac ?_
 .refine int_eq (if_pos (D9.2 ⟨hq1,Qe,Wk,hq4,hq5,hq6,AY,by rw[dW];omega,by omega⟩)).symm
theorem Rl{x:II}  :Am prog 103 [agg (Fp x)] (int (if Ep x then 0 else 30)):=by
 refine fo func103 rfl ⟨rfl,rfl⟩ fun M0 w0=>?_;refine ac ?_;refine wk [1] rfl (Tr.Tn [1] [] ((named x.name=true/\(x.kind=1\/x.kind=2)/\1<=x.E5/\x.E5<=4)/\1<=x.links.length/\x.links.length<=8/\(x.links[0]?.getD DT).day<=x.Il/\x.Il<=40000) ?_ (fun hpre=>?_));refine ac ?_;refine co rfl (BQ (E3) rfl rfl) ?_;refine ag ?_ ?_<;>intro h2 q2
 refine ac ?_;refine wk [54,1] rfl ?_;refine a2 ?_
 .exact VP
 refine ag ?_ ?_<;>intro h3 q3
 refine ag ?_ ?_<;>intro h4 q4
 refine ac ?_;refine wk [54,1] rfl ?_;refine a2 ?_
 .exact Ed
 refine ag ?_ ?_<;>intro h5 q5
 refine ac ?_;refine wk [54,1] rfl ?_;refine a2 ?_
 .exact Ed
 refine ag ?_ ?_<;>intro h6 q6
 refine ac ?_;refine wk [54,1] rfl ?_;refine a2 ?_
 .exact Ed
 refine ag ?_ ?_<;>intro h7 q7
 refine ac ?_;refine wk [54,1] rfl ?_;refine a2 ?_
 .exact Ed
 refine ag ?_ ?_<;>intro h8 q8
 refine ac ?_;refine wk [54,1] rfl ?_;refine a2 ?_
 .exact Ed
 refine ag ?_ ?_<;>intro h9 q9
 refine ac ?_;refine wk [54,1] rfl ?_;refine a2 ?_
 .exact Ed
 obtain⟨c0,hc0⟩:=at_ (l:=x.links) (k:=0) AA;have dW:=getD_at (d:=DT) hc0;refine ac ?_;refine cy h9 rfl (AD rfl underlying83 FJ vq vq AA (Aj (k:=0) hc0)) ?_;refine ac ?_;refine wk [54,1] rfl ?_;refine Tr.cn rfl ?_ ?_<;>intro h10 MB
 refine a2 ?_
 .exact Qw
 refine Tr.skip ?_;exact Fin.AR () ⟨⟨by simp_all,by omega,by omega,by omega⟩,by omega,by omega,by rw[dW];omega,by omega⟩ kz;refine ag ?_ ?_<;>intro h11 O8
 refine ac ?_;refine wk [54,1] rfl ?_;refine a2 ?_
 .exact Ed
 refine ag ?_ ?_<;>intro h12 Re
 refine ac ?_;refine wk [54,1] rfl ?_;refine a2 ?_
 .exact Ed
 refine ag ?_ ?_<;>intro Je VD
 refine ac ?_;refine wk [54,1] rfl ?_;refine a2 ?_
 .exact Ed
 refine ag ?_ ?_<;>intro Mh Z9
 refine ac ?_;refine wk [54,1] rfl ?_;refine a2 ?_
 .exact Ed
 refine ag ?_ ?_<;>intro Rf gW
 refine ac ?_;refine wk [54,1] rfl ?_;refine a2 ?_
 .exact Ed
 obtain⟨c0,hc0⟩:=at_ (l:=x.links) (k:=0) AA;have dW:=getD_at (d:=DT) hc0;refine ac ?_;refine cy Rf rfl (AD rfl underlying83 FJ vq vq AA (Aj (k:=0) hc0)) ?_;refine ac ?_;refine wk [54,1] rfl ?_;refine Tr.cn rfl ?_ ?_<;>intro h16 gm
 refine a2 ?_
 .exact Qw
 refine Tr.skip ?_;exact Fin.AR () ⟨⟨by simp_all,by omega,by omega,by omega⟩,by omega,by omega,by rw[dW];omega,by omega⟩ kz;obtain⟨⟨hq1,Qe,Wk,hq4⟩,hq5,hq6,hq7,hq8⟩:=hpre;refine ac ?_;refine Tr.block (Tr.BP _ (kk [1] rfl) (fun k:Nat=>[(3,int ((k:Nat):Int))]) (fun k:Nat=>k<=(x.links).length/\(∀j,j<k->Du x.links j=true)) (fun k:Nat=>(x.links).length-k) 0 (⟨Nat.zero_le _,fun j hj=>absurd hj AA⟩) kz ?_);rintro k ⟨BR,AY⟩;refine an ?_ ?_<;>intro Yc gZ
 have Ae:k<(x.links).length:=AV Yc;obtain⟨c,Ag⟩:=at_ Ae;have hg:=getD_at (d:=DT) Ag;refine a2 ?_;refine co rfl (AD rfl underlying83 FJ vq vq AA (Aj Ag)) ?_;refine ac ?_;refine co rfl (BQ (JO) rfl rfl) ?_;refine ag ?_ ?_<;>intro Qh oW
 refine ac ?_;refine wk [107,3,1] rfl ?_;refine a2 ?_
 .exact Mu
 refine ac ?_;refine cy Qh rfl (AD rfl underlying83 FJ vq vq AA (Aj Ag)) ?_;refine ag ?_ ?_<;>intro Yd oX
 refine ac ?_;refine wk [107,3,1] rfl ?_;refine a2 ?_
 .exact Mu
 refine ac ?_;refine cy Yd rfl (AD rfl underlying83 FJ vq vq AA (Aj Ag)) ?_;refine ag ?_ ?_<;>intro NU q20
 refine ac ?_;refine wk [107,3,1] rfl ?_;refine a2 ?_
 .exact Mu
 refine ag ?_ ?_<;>intro Ye q21
 have hk0:0<k:=by simpa using Ye
 obtain⟨y,hy⟩:=at_ (l:=x.links) (k:=k-1) AA;have Iv:=getD_at (d:=DT) hy
 .repeat' first|(refine int_eq (if_neg (fun hv=>?_)).symm;have ok:=D9.1 hv;have o1:=ok.name;have o2:=ok.kind;have o3:=ok.p1;have o4:=ok.p4;have o5:=ok.l1;have o6:=ok.l8;have o7:=ok.u0;have o8:=ok.u1;(have h_:=ok.lnk k AA;unfold Du at h_;rw[hg,Iv]at h_;simp_all;omega))|(exact Fin.AR (k+1) ⟨⟨Ae,Bi AY (by unfold Du;rw[hg,Iv];simp_all)⟩,by omega⟩ ⟨⟨_,rfl,AM k⟩,kz⟩)|(refine cy Ye rfl (AD rfl underlying83 FJ vq vq AA EM) ?_)|refine cy Ye rfl (AD rfl underlying83 FJ vq vq AA (Aj Ag)) ?_|refine ac ?_|(refine Tr.cn rfl ?_ ?_<;>intro h q)
 have HP:¬0<k:=by simpa using Ye
 refine ac ?_;refine wk [107,3,1] rfl ?_;refine a2 ?_;exact Fin.AR (k+1) ⟨⟨Ae,Bi AY (by unfold Du;rw[hg];simp_all)⟩,by omega⟩ ⟨⟨_,rfl,AM k⟩,kz⟩;have BB:k=(x.links).length:=by have:=AW Yc;omega
 subst BB;refine a3 ?_
 .refine int_eq (if_pos (D9.2 ⟨hq1,Qe,Wk,hq4,hq5,hq6,AY,by omega,by omega⟩)).symm
theorem Xf{l:List G3}{n:Nat}  :Am prog 76 [Dy l,int ((n:Nat):Int)] (bool (GM n l)):=by
 refine fo func76 rfl ⟨rfl,rfl⟩ fun M0 w0=>(Tr.D6 0 rfl fun DZ=>?_);refine ac ?_;refine ac ?_;refine Tr.block (Tr.BP _ (kk [8,7,1,0] rfl) (fun k:Nat=>[(9,int ((k:Nat):Int))]) (fun k:Nat=>k<=(l).length/\(∀j,j<k->B6 n l j=true)) (fun k:Nat=>(l).length-k) 0 (⟨Nat.zero_le _,fun j hj=>absurd hj AA⟩) kz ?_);rintro k ⟨BR,AY⟩;refine ac ?_;refine Tr.seq ?_;refine Tr.cn rfl ?_ ?_<;>intro h1 q1
 have Ae:k<(l).length:=AV h1;obtain⟨c,Ag⟩:=at_ Ae;have hg:=getD_at (d:=Db) Ag;refine ac ?_;refine ao ?_;refine tp rfl (AD rfl underlying29 GC vq vq AA (Aj Ag)) (tp rfl (AJ rfl WX GC vq rfl rfl) ?_);refine Tl rfl rfl rfl rfl ZB RN (fun b1=>?_);refine tm rfl ?_;refine sf 0 6 ⟨rfl,rfl,rfl⟩ rfl rfl rfl rfl ?_;refine ao ?_;refine ac ?_;refine Ch.cs 17 rfl ?_ ?_<;>intro h2 q2
 refine ac ?_;refine wk [40,9,8,7,6,5,1,0] rfl ?_;refine ac ?_;refine ac ?_
 .exact Nt
 refine ac ?_;refine Ch.cs 23 rfl ?_ ?_<;>intro h3 q3
 refine ac ?_;refine wk [40,9,8,7,6,5,1,0] rfl ?_;refine ac ?_;refine ac ?_
 .exact Nt
 refine ac ?_;refine Ch.cs 28 rfl ?_ ?_<;>intro h4 q4
 refine ac ?_;refine wk [40,9,8,7,6,5,1,0] rfl ?_;refine ac ?_;refine ac ?_
 .exact Nt
 refine ac ?_;refine Ch.cs 34 rfl ?_ ?_<;>intro h5 q5
 refine ac ?_;refine wk [40,9,8,7,6,5,1,0] rfl ?_;refine ac ?_;refine ac ?_
 .exact Nt
 refine ac ?_;refine wk [40,9,8,7,6,5,1,0] rfl ?_;refine Tr.cn rfl ?_ ?_<;>intro h6 q6
 refine ac ?_;refine ac ?_
 .refine bool_eq ?_;unfold GM;rw[D_ (p:=B6 n l) (k:=k) AA N4];rfl
 refine ac ?_;refine ac ?_;refine Ch.cs 43 rfl ?_ ?_<;>intro h7 q7
 have hk0:0<k:=by simpa using h7
 obtain⟨y,hy⟩:=at_ (l:=l) (k:=k-1) AA;have Iv:=getD_at (d:=Db) hy;refine ac ?_;refine cy h7 rfl (AD rfl underlying29 GC vq vq AA EM) ?_;refine ac ?_;refine Ch.cs 53 rfl ?_ ?_<;>intro h8 q8
 refine ac ?_;refine wk [75,9,8,7,1,0] rfl ?_;refine ac ?_;refine ac ?_
 .exact Vb
 refine ac ?_;refine cy h8 rfl (AD rfl underlying29 GC vq vq AA EM) ?_;refine ac ?_;refine Ch.cs 63 rfl ?_ ?_<;>intro h9 q9
 refine ac ?_;refine cy h9 rfl (AD rfl underlying29 GC vq vq AA EM) ?_;refine ac ?_;refine wk [75,9,8,7,1,0] rfl ?_;refine Tr.cn rfl ?_ ?_<;>intro h10 MB
 refine ac ?_;refine ac ?_
 .exact Vb
 refine ac ?_;refine ac ?_;exact Fin.AR (k+1) ⟨⟨Ae,Bi AY (by unfold B6;rw[hg,Iv];simp_all)⟩,by omega⟩ ⟨⟨_,rfl,AM k⟩,kz⟩;refine ac ?_;refine wk [75,9,8,7,1,0] rfl ?_;refine ac ?_;refine ac ?_;exact Fin.AR (k+1) ⟨⟨Ae,Bi AY Vm⟩,by omega⟩ ⟨⟨_,rfl,AM k⟩,kz⟩;have HP:¬0<k:=by simpa using h7
 refine ac ?_;refine wk [75,9,8,7,1,0] rfl ?_;refine ac ?_;refine ac ?_;exact Fin.AR (k+1) ⟨⟨Ae,Bi AY N4⟩,by omega⟩ ⟨⟨_,rfl,AM k⟩,kz⟩;have BB:k=(l).length:=by have:=AW h1;omega
 subst BB;refine ac ?_;refine ac ?_;refine ac ?_
 .refine bool_eq ?_;unfold GM;rw[JF AY,Bool.true_and,decide_eq_decide];omega
def aQ(n:Nat):Bool:=decide ((97<=n/\n<=122)\/(65<=n/\n<=90)\/(48<=n/\n<=57)\/n=45\/n=95\/n=46)
theorem Rm:∀n∈List.range 256,Dq [45,95,46] (UInt8.ofNat n)=aQ n:=by decide+kernel
theorem NZ(c:UInt8):Dq [45,95,46] c=aQ c.toNat:=by
 have h:=Rm c.toNat (List.mem_range.2 c.toNat_lt);rw[UInt8.ofNat_toNat]at h;exact h
theorem Xg{s:List UInt8}  :Am prog 167 [str s] (bool (FW s)):=by
 refine fo func167 rfl ⟨rfl,rfl⟩ fun M0 w0=>?_;refine ac ?_;refine ag ?_ ?_<;>intro h1 q1
 refine a3 ?_
 .exact SG
 refine an ?_ ?_<;>intro h2 q2
 refine a2 ?_
 .exact SG
 refine a2 ?_;refine Tr.block (Tr.BP _ (kk [0] rfl) (fun k:Nat=>[(3,int ((k:Nat):Int))]) (fun k:Nat=>k<=(s).length/\(∀j y,j<k->s[j]? =some y->(!Dq [45,95,46] y)=false)) (fun k:Nat=>(s).length-k) 0 (⟨Nat.zero_le _,fun j y hj=>absurd hj AA⟩) kz ?_);rintro k ⟨BR,AY⟩;refine an ?_ ?_<;>intro h3 q3
 have Ae:k<(s).length:=AV h3;obtain⟨c,Ag⟩:=at_ Ae
 .repeat' first|(refine bool_eq ?_;unfold FW;rw[Gi (p:=Dq [45,95,46]) Ag (by rw[NZ];unfold aQ;simp;omega)];rfl)|(exact Fin.AR (k+1) ⟨⟨Ae,Cf (p:=fun c=> !Dq [45,95,46] c) Ag (by rw[NZ];unfold aQ;simp;omega) AY⟩,by omega⟩ ⟨⟨_,rfl,AM k⟩,kz⟩)|refine co rfl (K7 rfl underlying9 vq vq AA (OU B5)) ?_|refine ac ?_|(refine Tr.cn rfl ?_ ?_<;>intro h q)|(refine Ch.cg rfl rfl rfl ?_ ?_<;>intro h q)
 have BB:k=(s).length:=by have:=AW h3;omega
 subst BB;refine a3 ?_
 .refine bool_eq ?_;unfold FW;rw[EG AY,Bool.true_and];symm;rw[decide_eq_true_eq];omega
theorem Ap{a b:Int}  :Am prog 269 [int a,int b] (agg [int a,int b]):=by
 refine fo func269 rfl ⟨rfl,rfl⟩ fun M0 w0=>(Tr.seq (Tr.Al ?_));refine Tl rfl rfl rfl rfl z75 BZ (fun b1=>?_);refine ap ?_;refine ap ?_;refine Tr.ret (Fin.Br rfl (AZ.cell 0 rfl rfl A7 Bb rfl Lr) ?_)
 .exact Lr
theorem B2{a l m x1 y1 x2 y2 x3 y3 x4 y4:Int}{s:List UInt8}  :Am prog 270 [int a,str s,agg [int x1,int y1],agg [int x2,int y2],agg [int x3,int y3],agg [int x4,int y4],int l,int m] (agg CN):=by
 refine fo func270 rfl ⟨rfl,rfl⟩ fun M0 w0=>(Tr.seq (Tr.Al ?_))
 iterate 4 refine tp rfl (Bc rfl Ce) ?_
 refine Tl rfl rfl rfl rfl GD DQ (fun b1=>?_);refine ap ?_;refine Tr.seq (Tr.Al (tm rfl (tm rfl ?_)))
 iterate 4 refine tp rfl (AJ rfl A7 Bb vq rfl rfl) ?_
 refine tm rfl (tm rfl (tp rfl (oD) (TO.re 25 (agg CN) rfl (Cd rfl) ?_)));refine ap ?_;refine wk [16] rfl (Tr.ret (Fin.Br rfl (AZ.cell 0 rfl rfl C7 B4 rfl Lr) ?_))
 .exact Lr
theorem Rn   :Am prog 226 [] (slice 12 Cg):=by
 refine fo func226 rfl ⟨rfl,rfl⟩ fun M0 w0=>?_;refine ac ?_;refine Tr.seq (Tr.Al (tp rfl (Bm (Ap) rfl rfl rfl) (tp rfl (Bm (Ap) rfl rfl rfl) (tp rfl (Ad (rows:=[]) rfl RL BZ trivial rfl) ?_))));refine Tl rfl rfl rfl rfl z75 BZ (fun b1=>?_);refine Tl rfl rfl rfl rfl z75 BZ (fun b2=>?_);refine Tl rfl rfl rfl rfl z75 BZ (fun b3=>?_);refine sf 2 1 ⟨rfl,rfl,rfl⟩ rfl rfl rfl rfl ?_;refine sf 1 2 ⟨rfl,rfl,rfl⟩ rfl rfl rfl rfl ?_;refine sf 0 3 ⟨rfl,rfl,rfl⟩ rfl rfl rfl rfl ?_;refine ao ?_;refine Tr.seq (Tr.Al (tp rfl (Bm (Ap) rfl rfl rfl) (tp rfl (Bm (Ap) rfl rfl rfl) ?_)));refine Tl rfl rfl rfl rfl z75 BZ (fun b4=>?_);refine Tl rfl rfl rfl rfl z75 BZ (fun b5=>?_);refine sf 1 4 ⟨rfl,rfl,rfl⟩ rfl rfl rfl rfl ?_;refine sf 0 5 ⟨rfl,rfl,rfl⟩ rfl rfl rfl rfl ?_;refine ao ?_;refine wk [5,4,3,2,1] rfl (Tr.seq (Tr.Al (tp rfl (Bm (Ap) rfl rfl rfl) (tp rfl (Bm (Ap) rfl rfl rfl) (tp rfl (Bm (Ap) rfl rfl rfl) ?_)))));refine Tl rfl rfl rfl rfl z75 BZ (fun b6=>?_);refine Tl rfl rfl rfl rfl z75 BZ (fun b7=>?_);refine Tl rfl rfl rfl rfl z75 BZ (fun b8=>?_);refine sf 2 6 ⟨rfl,rfl,rfl⟩ rfl rfl rfl rfl ?_;refine sf 1 7 ⟨rfl,rfl,rfl⟩ rfl rfl rfl rfl ?_;refine sf 0 8 ⟨rfl,rfl,rfl⟩ rfl rfl rfl rfl ?_;refine ao ?_;refine wk [8,7,6,5,4,3,2,1] rfl (Tr.seq (Tr.Al ?_))
 iterate 4 refine tp rfl (Bm (Ap) rfl rfl rfl) ?_
 refine Tl rfl rfl rfl rfl z75 BZ (fun b9=>?_);refine Tl rfl rfl rfl rfl z75 BZ (fun b10=>?_);refine Tl rfl rfl rfl rfl z75 BZ (fun b11=>?_);refine Tl rfl rfl rfl rfl z75 BZ (fun b12=>?_);refine sf 3 9 ⟨rfl,rfl,rfl⟩ rfl rfl rfl rfl ?_;refine sf 2 10 ⟨rfl,rfl,rfl⟩ rfl rfl rfl rfl ?_;refine sf 1 11 ⟨rfl,rfl,rfl⟩ rfl rfl rfl rfl ?_;refine sf 0 12 ⟨rfl,rfl,rfl⟩ rfl rfl rfl rfl ?_;refine ao ?_;refine wk [12,11,10,9,8,7,6,5,4,3,2,1] rfl (Tr.seq (Tr.Al (tp rfl (Bm (Ap) rfl rfl rfl) (tp rfl (Bm (Ap) rfl rfl rfl) ?_))));refine Tl rfl rfl rfl rfl z75 BZ (fun b13=>?_);refine Tl rfl rfl rfl rfl z75 BZ (fun b14=>?_);refine sf 1 13 ⟨rfl,rfl,rfl⟩ rfl rfl rfl rfl ?_;refine sf 0 14 ⟨rfl,rfl,rfl⟩ rfl rfl rfl rfl ?_;refine ao ?_;refine wk [14,13,12,11,10,9,8,7,6,5,4,3,2,1] rfl ?_;refine ac ?_;refine co rfl (AQ rfl (B2) ⟨kq,kz⟩) ?_;refine ac ?_;refine co rfl (AQ rfl (B2) ⟨kq,kz⟩) ?_;refine ac ?_;refine co rfl (AQ rfl (B2) ⟨kq,kz⟩) (co rfl (Bm (Ap) rfl rfl rfl) (co rfl (Bm (Ap) rfl rfl rfl) ?_));refine ac ?_;refine co rfl (AQ rfl (B2) ⟨kq,kz⟩) (co rfl (Bm (Ap) rfl rfl rfl) ?_);refine ac ?_;refine co rfl (AQ rfl (B2) ⟨kq,kz⟩) ?_;refine ac ?_;refine co rfl (AQ rfl (B2) ⟨kq,kz⟩) (co rfl (Bm (Ap) rfl rfl rfl) ?_);refine ac ?_;refine co rfl (AQ rfl (B2) ⟨kq,kz⟩) ?_;refine ac ?_;refine co rfl (AQ rfl (B2) ⟨kq,kz⟩) (co rfl (AJ rfl A7 Bb vq rfl rfl) (co rfl (Bm (Ap) rfl rfl rfl) (co rfl (Bm (Ap) rfl rfl rfl) (co rfl (AJ rfl A7 Bb vq rfl rfl) (co rfl (AQ rfl (B2) ⟨kq,kz⟩) ?_)))));refine ac ?_;refine co rfl (AQ rfl (B2) ⟨kq,kz⟩) (co rfl (Bm (Ap) rfl rfl rfl) (co rfl (Bm (Ap) rfl rfl rfl) ?_));refine ac ?_;refine co rfl (AQ rfl (B2) ⟨kq,kz⟩) ?_;refine ac ?_;refine co rfl (AQ rfl (B2) ⟨kq,kz⟩) ?_;refine ac ?_;refine co rfl (AQ rfl (B2) ⟨kq,kz⟩) ?_;refine ac ?_;refine co rfl (AQ rfl (B2) ⟨kq,kz⟩) ?_;refine ac ?_;refine co rfl (AQ rfl (B2) ⟨kq,kz⟩) (co rfl (Bm (Ap) rfl rfl rfl) ?_);refine ac ?_;refine co rfl (AQ rfl (B2) ⟨kq,kz⟩) (co rfl (AG (xs:=[.tmp 33,.tmp 38,.tmp 43,.tmp 48,.tmp 53,.tmp 58,.tmp 63,.tmp 68,.tmp 73,.tmp 78,.tmp 83,.tmp 88,.tmp 93,.tmp 98,.tmp 103,.tmp 108]) (rows:=Cg) rfl rfl underlying320 B4 GD rfl AB ⟨⟨AK,VL.le vq (AE _)⟩,⟨⟨AK,VL.le vq (AE _)⟩,⟨⟨AK,VL.le vq (AE _)⟩,⟨⟨AK,VL.le vq (AE _)⟩,⟨⟨AK,VL.le vq (AE _)⟩,⟨⟨AK,VL.le vq (AE _)⟩,⟨⟨AK,VL.le vq (AE _)⟩,⟨⟨AK,VL.le vq (AE _)⟩,⟨⟨AK,VL.le vq (AE _)⟩,⟨⟨AK,VL.le vq (AE _)⟩,⟨⟨AK,VL.le vq (AE _)⟩,⟨⟨AK,VL.le vq (AE _)⟩,⟨⟨AK,VL.le vq (AE _)⟩,⟨⟨AK,VL.le vq (AE _)⟩,⟨⟨AK,VL.le vq (AE _)⟩,⟨⟨AK,VL.le vq (AE _)⟩,trivial⟩⟩⟩⟩⟩⟩⟩⟩⟩⟩⟩⟩⟩⟩⟩⟩ AB) ?_);refine ac ?_;refine wk [0] rfl ?_;refine ac ?_
 .exact Ak _ _
theorem UL{code:Int}  :Am prog 168 [int code] (D8 [agg CN,int (if 1<=code/\code<=16 then 0 else 8)]):=by
 refine fo func168 rfl ⟨rfl,rfl⟩ fun M0 w0=>(Tr.seq (Tr.Al ?_));refine Tl rfl rfl rfl rfl GD DQ (fun b1=>?_);refine ap ?_;refine ag ?_ ?_<;>intro h1 q1
 refine ac ?_;refine Tr.cond rfl (fun _=>?_) (fun h=>nomatch h);refine Tr.seq (Tr.Al (tp rfl (Ad (rows:=[]) rfl KV DQ trivial rfl) (TO.Aa 0 rfl rfl rfl vq Ce rfl B4 rfl rfl (tm rfl (TO.nil (Fin.go (Tr.ret (Fin.AP (Fin.BU rfl (AZ.cell 0 rfl rfl C7 B4 rfl Lr) (AZ.tmp rfl Lr) ?_)))))))))
 .exact SL
 refine an ?_ ?_<;>intro h2 q2
 refine ap ?_;refine Tr.ret (Fin.AP (Fin.BU rfl (AZ.cell 0 rfl rfl C7 B4 rfl Lr) (AZ.tmp rfl Lr) ?_))
 .exact SN
 have hin:1<=code/\code<=16:=by omega
 refine ac ?_;refine Tr.seq (Tr.Al (tp rfl (Ya (Rn) rfl) ?_));refine ap ?_;refine tp rfl (AD rfl underlying320 B4 vq vq AA (P0 AA)) ?_;refine ap ?_;refine wk [3,2] rfl (Tr.ret (Fin.BU rfl (AZ.cell 0 rfl rfl C7 B4 rfl Lr) (AZ.tmp rfl Lr) ?_))
 .exact CH ⟨Lr,int_eq (by rw[if_pos hin]),trivial⟩
theorem GI{v:Int}:Am prog 90 [ints l,int v] (bool (l.any fun x=>v==x)):=by
 refine fo func90 rfl ⟨rfl,rfl⟩ fun M0 w0=>(Tr.D6 0 rfl fun DZ=>?_);refine a2 ?_;refine Tr.block (Tr.BP _ (kk [1,0] rfl) (fun k:Nat=>[(5,int ((k:Nat):Int))]) (fun k:Nat=>k<=(l).length/\((l.take k).any (fun x=>v==x)=false)) (fun k:Nat=>(l).length-k) 0 (⟨Nat.zero_le _,rfl⟩) kz ?_);rintro k ⟨BR,AY⟩;refine an ?_ ?_<;>intro h1 q1
 have Ae:k<(l).length:=AV h1;obtain⟨x,Ag⟩:=at_ Ae
 .repeat' first|(refine bool_eq ?_;symm;rw[List.any_eq_true];exact⟨_,List.mem_of_getElem? Ag,by simp_all⟩)|(exact Fin.AR (k+1) ⟨⟨Ae,(by rw[List.take_add_one,Ag,List.any_append,AY];simp;omega)⟩,by omega⟩ ⟨⟨_,rfl,AM k⟩,kz⟩)|refine co rfl (AD rfl underlying22 C_ vq vq AA DL) ?_|refine ac ?_|(refine Tr.cn rfl ?_ ?_<;>intro h q)
 have BB:k=(l).length:=by have:=AW h1;omega
 subst BB;refine a3 ?_
 .refine bool_eq ?_;rw[List.take_length]at AY;exact AY.symm
theorem Cj{l:List (List UInt8)}:CV l=true↔(∀j,j<l.length->nameAt l j=true)/\l.length<=8:=by unfold CV;rw[Bool.and_eq_true,Be,decide_eq_true_eq]
theorem Hz{l:List (List UInt8)}{s:List UInt8}(hs:l[k]? =some s)(h1:named s=true)(h2:0<k->∃y,l[k-1]? =some y/\Lib.compareBytes y s= -1):nameAt l k=true:=by grind [nameAt]
theorem Im{c:Cn}  :Am prog 87 [agg (CM c)] (int (if BD c then 0 else 9)):=by
 refine fo func87 rfl ⟨rfl,rfl⟩ fun M0 w0=>?_;refine ac ?_;refine ag ?_ ?_<;>intro h1 q1
 refine ac ?_;refine wk [39,1] rfl ?_;refine a2 ?_
 .exact G5
 refine ag ?_ ?_<;>intro h2 q2
 refine ac ?_;refine wk [39,1] rfl ?_;refine a2 ?_
 .exact G5
 refine ac ?_;refine cy h2 rfl (BQ (E3) rfl rfl) ?_;refine ag ?_ ?_<;>intro h3 q3
 refine ac ?_;refine wk [39,1] rfl ?_;refine a2 ?_
 .exact LL
 refine ac ?_;refine cy h3 rfl (BQ (E3) rfl rfl) ?_;refine ag ?_ ?_<;>intro h4 q4
 refine ac ?_;refine wk [39,1] rfl ?_;refine a2 ?_
 .exact LL
 refine ac ?_;refine cy h4 rfl (BQ (HO) rfl rfl) ?_;refine ag ?_ ?_<;>intro h5 q5
 refine ac ?_;refine wk [39,1] rfl ?_;refine a2 ?_
 .exact LL
 refine ag ?_ ?_<;>intro h6 q6
 refine ac ?_;refine wk [39,1] rfl ?_;refine a2 ?_
 .exact G5
 refine ac ?_;refine wk [39,1] rfl ?_;refine Tr.cn rfl ?_ ?_<;>intro h7 q7
 refine a2 ?_
 .exact G5
 refine a2 ?_;refine co rfl (BQ (JO) rfl rfl) ?_;refine ag ?_ ?_<;>intro h8 q8
 refine ac ?_;refine wk [67,1] rfl ?_;refine a2 ?_
 .refine int_eq (if_neg (fun hv=>?_)).symm;have vf:=FT hv;obtain⟨Qk,Ql,LF,LG,Gy,E_,Qm,Qn,Dt,LH,LI,LJ,LK,Qo,Qp,Qq,Qr,Qs,Qt⟩:=vf;have Qu:=(Cj.1 Gy).2;unfold E6 at E_ Dt;simp_all;omega
 refine ac ?_;refine cy h8 rfl (BQ (K_) rfl rfl) ?_;refine ag ?_ ?_<;>intro h9 q9
 refine ac ?_;refine wk [67,1] rfl ?_;refine a2 ?_
 .exact LL
 refine ag ?_ ?_<;>intro h10 MB
 refine ac ?_;refine wk [67,1] rfl ?_;refine a2 ?_
 .exact G5
 refine ag ?_ ?_<;>intro h11 O8
 refine ac ?_;refine wk [67,1] rfl ?_;refine a2 ?_
 .exact G5
 refine ac ?_;refine wk [67,1] rfl ?_;refine Tr.cn rfl ?_ ?_<;>intro h12 Re
 refine a2 ?_
 .exact G5
 refine ac ?_;refine ag ?_ ?_<;>intro Je VD
 refine ac ?_;refine wk [91,1] rfl ?_;refine a2 ?_
 .exact G5
 refine ag ?_ ?_<;>intro Mh Z9
 refine ac ?_;refine wk [91,1] rfl ?_;refine a2 ?_
 .exact G5
 refine ag ?_ ?_<;>intro Rf gW
 refine ag ?_ ?_<;>intro h16 gm
 refine ac ?_;refine wk [91,1] rfl ?_;refine a2 ?_
 .exact LL
 refine ac ?_;refine wk [91,1] rfl ?_;refine Tr.cn rfl ?_ ?_<;>intro Yc gZ
 refine a2 ?_
 .exact G5
 refine a2 ?_;refine Tr.block (Tr.BP _ (kk [1] rfl) (fun k:Nat=>[(3,int ((k:Nat):Int))]) (fun k:Nat=>k<=(c.names).length/\(∀j,j<k->nameAt c.names j=true)) (fun k:Nat=>(c.names).length-k) 0 (⟨Nat.zero_le _,fun j hj=>absurd hj AA⟩) kz ?_);rintro k ⟨BR,AY⟩;refine an ?_ ?_<;>intro Qh oW
 have Ae:k<(c.names).length:=AV Qh;obtain⟨s,Ag⟩:=at_ Ae;refine a2 ?_;refine co rfl (AD rfl underlying67 G4 vq vq AA (Aj Ag)) (co rfl (FH rfl J0 rfl) (co rfl (BQ (E3) rfl rfl) ?_));refine ag ?_ ?_<;>intro Yd oX
 refine ac ?_;refine wk [123,3,1] rfl ?_;refine a2 ?_
 .exact VJ
 refine ag ?_ ?_<;>intro NU q20
 have HP:0<k:=by simpa using NU
 obtain⟨y,hy⟩:=at_ (l:=c.names) (k:=k-1) AA
 .repeat' first|(refine int_eq (if_neg (fun hv=>?_)).symm;have vf:=FT hv;obtain⟨Qk,Ql,LF,LG,Gy,E_,Qm,Qn,Dt,LH,LI,LJ,LK,Qo,Qp,Qq,Qr,Qs,Qt⟩:=vf;have Qu:=(Cj.1 Gy).2;unfold E6 at E_ Dt;have kD:=(Cj.1 Gy).1 k AA;unfold nameAt at kD;simp_all)|(exact Fin.AR (k+1) ⟨⟨Ae,(fun j hj=>by rcases Nat.lt_or_eq_of_le (Nat.le_of_lt_succ hj)with h_|h_;exact AY j h_;(subst h_;refine Hz Ag Cc (fun h0=>?_);exact⟨y,hy,by simp_all⟩))⟩,by omega⟩ ⟨⟨_,rfl,AM k⟩,kz⟩)|(refine cy NU rfl (AD rfl underlying67 G4 vq vq AA EM) ?_)|refine cy NU rfl (AD rfl underlying67 G4 vq vq AA (Aj Ag)) (cy NU rfl (FH rfl J0 rfl) (cy NU rfl (Ia rfl vq vq) ?_))|refine ac ?_|(refine Tr.cn rfl ?_ ?_<;>intro h q)
 have HP:¬0<k:=by simpa using NU
 refine ac ?_;refine wk [123,3,1] rfl ?_;refine a2 ?_;exact Fin.AR (k+1) ⟨⟨Ae,(fun j hj=>by rcases Nat.lt_or_eq_of_le (Nat.le_of_lt_succ hj)with h_|h_;exact AY j h_;(subst h_;refine Hz Ag Cc (fun h0=>?_);exact absurd h0 HP))⟩,by omega⟩ ⟨⟨_,rfl,AM k⟩,kz⟩;have BB:k=(c.names).length:=by have:=AW Qh;omega
 subst BB
 .repeat' first|(refine int_eq (if_neg (fun hv=>?_)).symm;have vf:=FT hv;obtain⟨Qk,Ql,LF,LG,Gy,E_,Qm,Qn,Dt,LH,LI,LJ,LK,Qo,Qp,Qq,Qr,Qs,Qt⟩:=vf;have Qu:=(Cj.1 Gy).2;unfold E6 at E_ Dt;omega)|(refine int_eq (if_pos (S8 ⟨by omega,by omega,by simp_all,by simp_all,Cj.2 ⟨AY,by omega⟩,by unfold E6;simp_all,by omega,by omega,by unfold E6;simp_all,by omega,by omega,by omega,by omega,by omega,by omega,by omega,by omega,by omega,by right;omega⟩)).symm)|refine ac ?_|(refine Tr.cn rfl ?_ ?_<;>intro h q)|(refine Ch.cg rfl rfl rfl ?_ ?_<;>intro h q)
 refine ac ?_;refine wk [91,1] rfl ?_;refine Tr.cn rfl ?_ ?_<;>intro h26 q26
 refine a2 ?_
 .exact G5
 refine a2 ?_;refine Tr.block (Tr.BP _ (kk [1] rfl) (fun k:Nat=>[(3,int ((k:Nat):Int))]) (fun k:Nat=>k<=(c.names).length/\(∀j,j<k->nameAt c.names j=true)) (fun k:Nat=>(c.names).length-k) 0 (⟨Nat.zero_le _,fun j hj=>absurd hj AA⟩) kz ?_);rintro k ⟨BR,AY⟩;refine an ?_ ?_<;>intro oa q27
 have Ae:k<(c.names).length:=AV oa;obtain⟨s,Ag⟩:=at_ Ae;refine a2 ?_;refine co rfl (AD rfl underlying67 G4 vq vq AA (Aj Ag)) (co rfl (FH rfl J0 rfl) (co rfl (BQ (E3) rfl rfl) ?_));refine ag ?_ ?_<;>intro h28 q28
 refine ac ?_;refine wk [123,3,1] rfl ?_;refine a2 ?_
 .exact VJ
 refine ag ?_ ?_<;>intro VE q29
 have HP:0<k:=by simpa using VE
 obtain⟨y,hy⟩:=at_ (l:=c.names) (k:=k-1) AA
 .repeat' first|(refine int_eq (if_neg (fun hv=>?_)).symm;have vf:=FT hv;obtain⟨Qk,Ql,LF,LG,Gy,E_,Qm,Qn,Dt,LH,LI,LJ,LK,Qo,Qp,Qq,Qr,Qs,Qt⟩:=vf;have Qu:=(Cj.1 Gy).2;unfold E6 at E_ Dt;have kD:=(Cj.1 Gy).1 k AA;unfold nameAt at kD;simp_all)|(exact Fin.AR (k+1) ⟨⟨Ae,(fun j hj=>by rcases Nat.lt_or_eq_of_le (Nat.le_of_lt_succ hj)with h_|h_;exact AY j h_;(subst h_;refine Hz Ag Cc (fun h0=>?_);exact⟨y,hy,by simp_all⟩))⟩,by omega⟩ ⟨⟨_,rfl,AM k⟩,kz⟩)|(refine cy VE rfl (AD rfl underlying67 G4 vq vq AA EM) ?_)|refine cy VE rfl (AD rfl underlying67 G4 vq vq AA (Aj Ag)) (cy VE rfl (FH rfl J0 rfl) (cy VE rfl (Ia rfl vq vq) ?_))|refine ac ?_|(refine Tr.cn rfl ?_ ?_<;>intro h q)
 have HP:¬0<k:=by simpa using VE
 refine ac ?_;refine wk [123,3,1] rfl ?_;refine a2 ?_;exact Fin.AR (k+1) ⟨⟨Ae,(fun j hj=>by rcases Nat.lt_or_eq_of_le (Nat.le_of_lt_succ hj)with h_|h_;exact AY j h_;(subst h_;refine Hz Ag Cc (fun h0=>?_);exact absurd h0 HP))⟩,by omega⟩ ⟨⟨_,rfl,AM k⟩,kz⟩;have BB:k=(c.names).length:=by have:=AW oa;omega
 subst BB
 .repeat' first|(refine int_eq (if_neg (fun hv=>?_)).symm;have vf:=FT hv;obtain⟨Qk,Ql,LF,LG,Gy,E_,Qm,Qn,Dt,LH,LI,LJ,LK,Qo,Qp,Qq,Qr,Qs,Qt⟩:=vf;have Qu:=(Cj.1 Gy).2;unfold E6 at E_ Dt;omega)|(refine int_eq (if_pos (S8 ⟨by omega,by omega,by simp_all,by simp_all,Cj.2 ⟨AY,by omega⟩,by unfold E6;simp_all,by omega,by omega,by unfold E6;simp_all,by omega,by omega,by omega,by omega,by omega,by omega,by omega,by omega,by omega,by left;simp_all⟩)).symm)|refine ac ?_|(refine Tr.cn rfl ?_ ?_<;>intro h q)|(refine Ch.cg rfl rfl rfl ?_ ?_<;>intro h q)
theorem and1{a b:Bool}(h:(a&&b)=true):a=true:=by simp at h;exact h.1
theorem gu{a b:Bool}(h:(a&&b)=true):b=true:=by simp at h;exact h.2
theorem Xh:∀(n:Nat) (l:List Int),(∀x∈l,1<=x/\x<=(n:Int))->l.Nodup->l.length<=n
 |0,l,h,_=>by
  cases l with
  |nil=>exact Nat.le_refl _
  |cons a l=>have:=h a (List.mem_cons_self ..);omega
 |n+1,l,h,hn=>by
  have ih:=Xh n (l.erase ((n:Int)+1)) (fun x hx=>by
   have h1:=h x (List.mem_of_mem_erase hx);have h2:=(hn.mem_erase_iff.1 hx).1
   omega) (hn.erase _)
  rw[List.length_erase]at ih
  split at ih<;>omega
theorem Mv(h:Dr l=true):l.length<=16:=by
 refine Xh 16 l (fun x hx=>?_) ?_
 .
  obtain⟨j,hj⟩:=List.getElem?_of_mem hx;have h1:=Be.1 (show allI (C5 l) l.length=true from h) j (BO hj);unfold C5 at h1;rw[getD_at hj]at h1;have:=and1 h1
  simpa using this
 .
  refine List.pairwise_iff_getElem.2 fun i j hi hj hij he=>?_;have:=Rd h (List.getElem?_eq_getElem hi) (by rw[he];exact List.getElem?_eq_getElem hj);omega
theorem Xi{p:Int->Bool}(h:∀j,j<l.length->p (l[j]?.getD 0)=true):l.all p=true:=List.all_eq_true.2 fun x hx=>by
 obtain⟨j,hj⟩:=List.getElem?_of_mem hx;have:=h j (BO hj);rw[getD_at hj]at this;exact this
theorem UM{bits id:Int}{l:List Cn}:Am prog 169 [agg [int Bl,int bits],int id,Fi l] (bool (ME Bl bits id l)):=by
 refine fo func169 rfl ⟨rfl,rfl⟩ fun M0 w0=>(Tr.D6 2 rfl fun n5=>?_);refine a2 ?_;refine co rfl (BQ (HO) rfl rfl) ?_;refine ag ?_ ?_<;>intro h1 q1
 refine ac ?_;refine wk [23,3,2,1] rfl ?_;refine a2 ?_
 .refine bool_eq ?_;rw[CA];unfold E6 D4;simp_all
 refine ag ?_ ?_<;>intro h2 q2
 refine ac ?_;refine wk [23,3,2,1] rfl ?_;refine a2 ?_
 .exact Q6
 refine ag ?_ ?_<;>intro h3 q3
 refine ac ?_;refine wk [23,3,2,1] rfl ?_;refine a2 ?_
 .exact Q6
 refine ac ?_;refine wk [23,3,2,1] rfl ?_;refine Tr.cn rfl ?_ ?_<;>intro h4 q4
 refine a2 ?_
 .exact Q6
 refine a2 ?_;refine Tr.block (Tr.BP _ (kk [3,2,1] rfl) (fun k:Nat=>[(7,int ((k:Nat):Int))]) (fun k:Nat=>k<=(l).length/\(∀j y,j<k->l[j]? =some y->(!BD y)=false)) (fun k:Nat=>(l).length-k) 0 (⟨Nat.zero_le _,fun j y hj=>absurd hj AA⟩) kz ?_);rintro k ⟨BR,AY⟩;refine an ?_ ?_<;>intro h5 q5
 have Ae:k<(l).length:=AV h5;obtain⟨c,Ag⟩:=at_ Ae
 .repeat' first|(refine bool_eq ?_;rw[CA];unfold E6 D4;rw[Gi (p:=BD) Ag Cc];simp)|exact Fin.AR (k+1) ⟨⟨Ae,Cf (p:=fun c=> !BD c) Ag Cc AY⟩,by omega⟩ ⟨⟨_,rfl,AM k⟩,kz⟩|refine co rfl (AD rfl underlying76 CC vq vq AA (Aj Ag)) (co rfl (AJ rfl FI CC vq rfl rfl) (co rfl (BQ (Im) rfl rfl) ?_))|refine ac ?_|(refine Tr.cn rfl ?_ ?_<;>intro h q)
 have BB:k=(l).length:=by have:=AW h5;omega
 subst BB;have hall:=EG AY;refine ac ?_;refine ag ?_ ?_<;>intro h7 q7
 refine ac ?_;refine wk [6] rfl ?_;refine ac ?_
 .refine bool_eq ?_;rw[CA];unfold E6 D4;rw[hall,NQ Cc];simp_all
 obtain⟨c0,hc0⟩:=at_ (l:=l) (k:=0) (by have:=h7;simp at this;exact List.length_pos_iff.2 this);refine Hq h7 rfl ?_;refine cy h7 rfl (AD rfl underlying76 CC vq vq AA (Aj (k:=0) hc0)) ?_;refine ac ?_;refine cy h7 rfl (Sv rfl vq vq) (Hq h7 rfl ?_);refine Ch.cs 46 rfl ?_ ?_<;>intro h8 q8
 refine Hq h8 rfl ?_;refine cy h8 rfl (AD rfl underlying76 CC vq vq AA (Aj (k:=0) hc0)) ?_;refine ac ?_;refine wk [6] rfl ?_;refine ac ?_
 .refine bool_eq ?_;rw[CA];unfold E6 D4;rw[hall,JK hc0];clear hall AY hc0;simp_all;omega
 refine ac ?_;refine wk [6] rfl ?_;refine ac ?_
 .refine bool_eq ?_;rw[CA];unfold E6 D4;rw[hall,JK hc0];clear hall AY hc0;simp_all
theorem Ro{e:C8}(hs3:e.hashes.length<=17592186044416):Am prog 102 [agg (BL e)] (int (if Ct e then 0 else 19)):=by
 refine fo func102 rfl ⟨rfl,rfl⟩ fun M0 w0=>?_;refine ac ?_;refine ac ?_;refine co rfl (BQ (Xg) rfl rfl) ?_;refine ac ?_;refine Ch.cs 13 rfl ?_ ?_<;>intro h1 q1
 refine ac ?_;refine wk [47,1] rfl ?_;refine ac ?_;refine ac ?_
 .refine int_eq (if_neg (fun hv=>?_)).symm;have ok:=DK.1 hv;have v1:=ok.name;have v2:=ok.least;have v3:=ok.lm;have v4:=ok.most;have v5:=Mv ok.BC;have v6:=ok.Yi;have v7:=ok.kC;simp_all
 refine ac ?_;refine Ch.cs 18 rfl ?_ ?_<;>intro h2 q2
 refine ac ?_;refine wk [47,1] rfl ?_;refine ac ?_;refine ac ?_
 .exact Jh
 refine ac ?_;refine Ch.cs 25 rfl ?_ ?_<;>intro h3 q3
 refine ac ?_;refine wk [47,1] rfl ?_;refine ac ?_;refine ac ?_
 .exact Jh
 refine ac ?_;refine Ch.cs 30 rfl ?_ ?_<;>intro h4 q4
 refine ac ?_;refine wk [47,1] rfl ?_;refine ac ?_;refine ac ?_
 .exact Jh
 refine ac ?_;refine Ch.cs 36 rfl ?_ ?_<;>intro h5 q5
 refine ac ?_;refine wk [47,1] rfl ?_;refine ac ?_;refine ac ?_
 .exact Jh
 refine ac ?_;refine Ch.cs 42 rfl ?_ ?_<;>intro h6 q6
 refine ac ?_;refine wk [47,1] rfl ?_;refine ac ?_;refine ac ?_
 .exact Jh
 refine ac ?_;refine wk [47,1] rfl ?_;refine Tr.cn rfl ?_ ?_<;>intro h7 q7
 refine ac ?_;refine ac ?_
 .exact Jh
 refine ac ?_;refine ac ?_;refine Tr.block (Tr.BP _ (kk [1] rfl) (fun i:Nat=>[(3,int ((i:Nat):Int))]) (fun i:Nat=>i<=(e.BC).length/\(∀j,j<i->C5 e.BC j=true)) (fun i:Nat=>(e.BC).length-i) 0 (⟨Nat.zero_le _,fun j hj=>absurd hj AA⟩) kz ?_);rintro i ⟨uh,Xj⟩;refine ac ?_;refine Tr.cn rfl ?_ ?_<;>intro h8 q8
 have ou:i<(e.BC).length:=AV h8;obtain⟨x,gv⟩:=at_ ou;have hg:=getD_at (d:=(0:Int)) gv;refine ac ?_;refine ao ?_;refine tp rfl (AD rfl underlying22 C_ vq vq AA (Aj gv)) (tp rfl (FH rfl DP rfl) (tp rfl (BQ (UL) rfl rfl) ?_));refine ao ?_;refine Tl rfl rfl rfl rfl GD DQ (fun b1=>?_);refine sf 0 4 ⟨rfl,rfl,rfl⟩ rfl rfl rfl rfl ?_;refine ao ?_;refine wk [5,3,1] rfl ?_;refine ac ?_;refine Ch.cs 66 rfl ?_ ?_<;>intro h9 q9
 have gQ:¬(1<=x/\x<=16):=by intro hh;rw[if_pos hh]at h9;exact absurd h9 AB
 refine ac ?_;refine wk [77,3,1] rfl ?_;refine ac ?_;refine ac ?_
 .refine int_eq (if_neg (fun hv=>?_)).symm;have ok:=DK.1 hv;have h_:=Be.1 (show allI (C5 e.BC) e.BC.length=true from ok.BC) i AA;unfold C5 at h_;rw[hg]at h_;exact gQ (by simpa using and1 h_)
 have hin:1<=x/\x<=16:=by refine Decidable.byContradiction fun hh=>?_;rw[if_neg hh]at h9;exact absurd h9 AB
 refine ac ?_;refine cy h9 rfl (EX rfl underlying22 C_ vq vq AA CU) ?_;refine ac ?_;refine cy h9 rfl (AD rfl underlying22 C_ vq vq AA (Aj gv)) (cy h9 rfl (FH rfl DP rfl) ?_);refine cy h9 rfl (AQ rfl (GI (l:=e.BC.take i) (v:=x)) ⟨⟨_,rfl,Pr.le_of_eq (by rw[←List.map_take,Int.toNat_natCast])⟩,kz⟩) ?_;refine ac ?_;refine wk [77,3,1] rfl ?_;refine Tr.cn rfl ?_ ?_<;>intro h10 MB
 refine ac ?_;refine ac ?_
 .refine int_eq (if_neg (fun hv=>?_)).symm;have ok:=DK.1 hv;have h_:=Be.1 (show allI (C5 e.BC) e.BC.length=true from ok.BC) i AA;unfold C5 at h_;rw[hg]at h_;exact absurd (by assumption:((e.BC.take i).any fun y=>x==y)=true) (by have h2:=gu h_;rw[Bool.not_eq_true']at h2;rw[h2];decide)
 refine ac ?_;refine ac ?_;exact Fin.AR (i+1) ⟨⟨ou,Bi Xj Q5⟩,by omega⟩ ⟨⟨_,rfl,AM i⟩,kz⟩;have uJ:i=(e.BC).length:=by have:=AW h8;omega
 subst uJ;refine ac ?_;refine ac ?_;refine Tr.block (Tr.BP _ (kk [1] rfl) (fun m:Nat=>[(6,int ((m:Nat):Int))]) (fun m:Nat=>m<=(e.ids).length/\(∀j y,j<m->e.ids[j]? =some y->(!NP y)=false)) (fun m:Nat=>(e.ids).length-m) 0 (⟨Nat.zero_le _,fun j y hj=>absurd hj AA⟩) kz ?_);rintro m ⟨TD,Eb⟩;refine ac ?_;refine Tr.cn rfl ?_ ?_<;>intro h11 O8
 have HU:m<(e.ids).length:=AV h11;obtain⟨x,IA⟩:=at_ HU;refine ac ?_;refine ac ?_;refine co rfl (AD rfl underlying71 EF vq vq AA (Aj IA)) ?_;refine ac ?_;refine co rfl (AD rfl underlying71 EF vq vq AA (Aj IA)) ?_;refine ac ?_;refine co rfl (AD rfl underlying71 EF vq vq AA (Aj IA)) ?_;refine ac ?_;refine co rfl (Tx (UM) rfl rfl rfl rfl) ?_;refine ac ?_;refine wk [104,6,1] rfl ?_;refine Tr.cn rfl ?_ ?_<;>intro h12 Re
 refine ac ?_;refine ac ?_
 .refine int_eq (if_neg (fun hv=>?_)).symm;have ok:=DK.1 hv;have h_:=List.all_eq_true.1 ok.ids x (List.mem_of_getElem? IA);unfold NP at h_;simp_all
 refine ac ?_;refine ac ?_;exact Fin.AR (m+1) ⟨⟨HU,Cf (p:=fun c=> !NP c) IA (by unfold NP;simp_all) Eb⟩,by omega⟩ ⟨⟨_,rfl,AM m⟩,kz⟩;have Oi:m=(e.ids).length:=by have:=AW h11;omega
 subst Oi;have hall:=EG Eb;refine ac ?_;refine ac ?_;refine Tr.block (Tr.BP _ (kk [1] rfl) (fun o:Nat=>[(7,int ((o:Nat):Int))]) (fun o:Nat=>o<=(e.anchors).length/\(∀j,j<o->(Eo e.anchors j&&D4 (e.anchors[j]?.getD 0))=true)) (fun o:Nat=>(e.anchors).length-o) 0 (⟨Nat.zero_le _,fun j hj=>absurd hj AA⟩) kz ?_);rintro o ⟨ow,Io⟩;refine ac ?_;refine Tr.cn rfl ?_ ?_<;>intro Je VD
 have UN:o<(e.anchors).length:=AV Je;obtain⟨a,Nu⟩:=at_ UN;have hg:=getD_at (d:=(0:Int)) Nu;refine ac ?_;refine ac ?_;refine co rfl (AD rfl underlying22 C_ vq vq AA (Aj Nu)) ?_;refine ac ?_;refine Ch.cs 118 rfl ?_ ?_<;>intro Mh Z9
 refine ac ?_;refine wk [143,7,1] rfl ?_;refine ac ?_;refine ac ?_
 .exact VT
 refine ac ?_;refine cy Mh rfl (AD rfl underlying22 C_ vq vq AA (Aj Nu)) ?_;refine ac ?_;refine Ch.cs 126 rfl ?_ ?_<;>intro Rf gW
 refine ac ?_;refine wk [143,7,1] rfl ?_;refine ac ?_;refine ac ?_
 .exact VT
 refine ac ?_;refine Ch.cs 129 rfl ?_ ?_<;>intro h16 gm
 have hk0:0<o:=by simpa using h16
 obtain⟨y,hy⟩:=at_ (l:=e.anchors) (k:=o-1) AA;have Iv:=getD_at (d:=(0:Int)) hy;refine ac ?_;refine cy h16 rfl (AD rfl underlying22 C_ vq vq AA (by rw[show((o:Nat):Int)-1=((o-1:Nat):Int)by omega];exact Aj hy)) ?_;refine ac ?_;refine cy h16 rfl (AD rfl underlying22 C_ vq vq AA (Aj Nu)) ?_;refine ac ?_;refine wk [143,7,1] rfl ?_;refine Tr.cn rfl ?_ ?_<;>intro Yc gZ
 refine ac ?_;refine ac ?_
 .refine int_eq (if_neg (fun hv=>?_)).symm;have ok:=DK.1 hv;have h_:=Be.1 (show allI (Eo e.anchors) e.anchors.length=true from ok.anc) o AA;unfold Eo at h_;rw[hg,Iv]at h_;simp at h_;omega
 refine ac ?_;refine ac ?_;exact Fin.AR (o+1) ⟨⟨UN,(fun j hj=>by rcases Nat.lt_or_eq_of_le (Nat.le_of_lt_succ hj)with h_|h_;exact Io j h_;(subst h_;unfold Eo D4;rw[hg];rw[Iv];simp_all))⟩,by omega⟩ ⟨⟨_,rfl,AM o⟩,kz⟩;have HP:¬0<o:=by simpa using h16
 refine ac ?_;refine wk [143,7,1] rfl ?_;refine ac ?_;refine ac ?_;exact Fin.AR (o+1) ⟨⟨UN,(fun j hj=>by rcases Nat.lt_or_eq_of_le (Nat.le_of_lt_succ hj)with h_|h_;exact Io j h_;(subst h_;unfold Eo D4;rw[hg];simp_all))⟩,by omega⟩ ⟨⟨_,rfl,AM o⟩,kz⟩;have gw:o=(e.anchors).length:=by have:=AW Je;omega
 subst gw;refine ac ?_;refine ac ?_;refine Tr.block (Tr.BP _ (kk [1] rfl) (fun q:Nat=>[(8,int ((q:Nat):Int))]) (fun q:Nat=>q<=(e.hashes).length/\(∀j,j<q->(Eo e.hashes j&&Fl (e.hashes[j]?.getD 0))=true)) (fun q:Nat=>(e.hashes).length-q) 0 (⟨Nat.zero_le _,fun j hj=>absurd hj AA⟩) kz ?_);rintro q ⟨uj,Oj⟩;refine ac ?_;refine Tr.cn rfl ?_ ?_<;>intro Qh oW
 have gy:q<(e.hashes).length:=AV Qh;obtain⟨a,aR⟩:=at_ gy;have hg:=getD_at (d:=(0:Int)) aR;refine ac ?_;refine ac ?_;refine co rfl (AD rfl underlying22 C_ vq vq AA (Aj aR)) (co rfl (FH rfl DP rfl) (co rfl (BQ (K_) rfl rfl) ?_));refine ac ?_;refine Ch.cs 158 rfl ?_ ?_<;>intro Yd oX
 refine ac ?_;refine wk [175,8,1] rfl ?_;refine ac ?_;refine ac ?_
 .refine int_eq (if_neg (fun hv=>?_)).symm;have ok:=DK.1 hv;have h_:=List.all_eq_true.1 ok.hsh a (List.mem_of_getElem? aR);unfold Fl at h_;simp_all
 refine ac ?_;refine Ch.cs 161 rfl ?_ ?_<;>intro NU q20
 have hk0:0<q:=by simpa using NU
 obtain⟨y,hy⟩:=at_ (l:=e.hashes) (k:=q-1) AA;have Iv:=getD_at (d:=(0:Int)) hy;refine ac ?_;refine cy NU rfl (AD rfl underlying22 C_ vq vq AA (by rw[show((q:Nat):Int)-1=((q-1:Nat):Int)by omega];exact Aj hy)) ?_;refine ac ?_;refine cy NU rfl (AD rfl underlying22 C_ vq vq AA (Aj aR)) ?_;refine ac ?_;refine wk [175,8,1] rfl ?_;refine Tr.cn rfl ?_ ?_<;>intro Ye q21
 refine ac ?_;refine ac ?_
 .refine int_eq (if_neg (fun hv=>?_)).symm;have ok:=DK.1 hv;have h_:=Be.1 (show allI (Eo e.hashes) e.hashes.length=true from ok.hash) q AA;unfold Eo at h_;rw[hg,Iv]at h_;simp at h_;omega
 refine ac ?_;refine ac ?_;exact Fin.AR (q+1) ⟨⟨gy,(fun j hj=>by rcases Nat.lt_or_eq_of_le (Nat.le_of_lt_succ hj)with h_|h_;exact Oj j h_;(subst h_;unfold Eo Fl;rw[hg];rw[Iv];simp_all))⟩,by omega⟩ ⟨⟨_,rfl,AM q⟩,kz⟩;have HP:¬0<q:=by simpa using NU
 refine ac ?_;refine wk [175,8,1] rfl ?_;refine ac ?_;refine ac ?_;exact Fin.AR (q+1) ⟨⟨gy,(fun j hj=>by rcases Nat.lt_or_eq_of_le (Nat.le_of_lt_succ hj)with h_|h_;exact Oj j h_;(subst h_;unfold Eo Fl;rw[hg];simp_all))⟩,by omega⟩ ⟨⟨_,rfl,AM q⟩,kz⟩;have uK:q=(e.hashes).length:=by have:=AW Qh;omega
 subst uK;refine ac ?_;refine ac ?_;refine ac ?_
 .refine int_eq (if_pos (DK.2 ⟨by simp_all,by omega,by omega,by omega,Be.2 Xj,by omega,by omega,Be.2 (fun j hj=>and1 (Io j hj)),Be.2 (fun j hj=>and1 (Oj j hj)),hall,Xi (fun j hj=>gu (Io j hj)),Xi (fun j hj=>gu (Oj j hj))⟩)).symm
theorem KA{e:C8}(RB:e.small):Am Tryz.prog 102 [agg (BL e)] (int (if Ct e then 0 else 19)):=Ro (by have:=RB.hashes;omega)
structure FQ where
 C9:List C8
 Ay:List G3
 items:List II
 deriving DecidableEq
abbrev Bn(e:FQ):List Pr:=[uG e.C9,Dy e.Ay,H_ e.items]
abbrev Dz:FQ:=⟨[],[],[]⟩
structure FQ.fits(e:FQ):Prop where
 C9:∀x∈e.C9,x.fits/\x.small
 items:∀x∈e.items,x.name.length<=maxLen
 le:e.C9.length<=1000000000000
 lg:e.Ay.length<=1000000000000
 li:e.items.length<=1000000000000
def Kj(l:List C8)(i:Nat):Bool:=Ct (l[i]?.getD Cw)&&(decide (i=0)||decide (Lib.compareBytes (l[i-1]?.getD Cw).name (l[i]?.getD Cw).name= -1))
def C4(e:FQ):Bool:=(allI (Kj e.C9) e.C9.length&&decide (e.C9.length<=16))&&GM e.C9.length e.Ay&&(e.items.all Ep&&decide (e.items.length<=30))
structure dX(e:FQ):Prop where
 ep:∀j,j<e.C9.length->Kj e.C9 j=true
 e16:e.C9.length<=16
 ed:∀j,j<e.Ay.length->B6 e.C9.length e.Ay j=true
 cF:e.Ay.length<=40
 it:e.items.all Ep=true
 i30:e.items.length<=30
theorem C2{e:FQ}:C4 e=true↔dX e:=by
 unfold C4 GM;simp only[Bool.and_eq_true,decide_eq_true_eq,Be];exact⟨fun⟨⟨⟨h1,h2⟩,h3,h4⟩,h5,h6⟩=>⟨h1,h2,h3,h4,h5,h6⟩,fun h=>⟨⟨⟨h.ep,h.e16⟩,h.ed,h.cF⟩,h.it,h.i30⟩⟩
theorem Mx{e:FQ}(h:dX e):GM e.C9.length e.Ay=true:=by unfold GM;simp only[Bool.and_eq_true,decide_eq_true_eq,Be];exact⟨h.ed,h.cF⟩
theorem gz{x:II}(hx:x.name.length<=maxLen):Am prog 74 [agg (Fp x)] (bool (!Ep x)):=by
 refine fo func74 rfl ⟨rfl,rfl⟩ fun M0 w0=>?_;refine a2 ?_;refine co rfl (BQ (UK hx) rfl rfl) ?_;refine a2 ?_
 .refine bool_eq ?_;cases h_:Ep x<;>simp_all
theorem g_:Entry Tryz.prog 74:=⟨_,Tryz.func74,rfl,rfl⟩
theorem aS{α:Type}{g:α->II}{l:List α}{p:α->Bool}  :Am prog 146 [slice 5 (l.map fun x=>Fp (g x)),Mc prog (fun x:α=>[agg (Fp (g x))]) (fun x=>bool (p x))] (int (idx p l)):=by
 refine fo func146 rfl ⟨rfl,rfl⟩ fun M0 w0=>(Tr.D6 0 rfl fun DZ=>?_);refine a2 ?_;refine Tr.block (Tr.BP _ (kk [7,1,0] rfl) (fun k:Nat=>[(8,int ((k:Nat):Int))]) (fun k:Nat=>k<=(l).length/\(∀j y,j<k->l[j]? =some y->p y=false)) (fun k:Nat=>(l).length-k) 0 (⟨Nat.zero_le _,fun j y hj=>absurd hj AA⟩) kz ?_);rintro k ⟨BR,AY⟩;refine ac ?_;refine Tr.seq ?_;refine Tr.cn rfl ?_ ?_<;>intro h1 q1
 have Ae:k<(l).length:=AV h1;obtain⟨x,Ag⟩:=at_ Ae
 .repeat' first|exact int_eq (DC Ag B5 AY)|exact Fin.AR (k+1) ⟨⟨Ae,Cf Ag B5 AY⟩,by omega⟩ ⟨⟨_,rfl,AM k⟩,kz⟩|refine co rfl (AD rfl underlying30 G2 vq vq AA DL) ?_|refine co rfl (AJ rfl Ph G2 vq rfl rfl) (co rfl (Dg x rfl vq kz) ?_)|refine ac ?_|(refine Tr.cn rfl ?_ ?_<;>intro h q)
 have BB:k=(l).length:=by have:=AW h1;omega
 subst BB;refine a3 ?_
 .exact HX
theorem aT{α:Type}{g:α->II}{l:List α}{p:α->Bool}  :Am prog 73 [slice 5 (l.map fun x=>Fp (g x)),Mc prog (fun x:α=>[agg (Fp (g x))]) (fun x=>bool (p x))] (bool (l.any p)):=by
 refine fo func73 rfl ⟨rfl,rfl⟩ fun M0 w0=>?_;refine a2 ?_;refine co rfl (Bm (aS) rfl rfl rfl) ?_;refine a2 ?_
 .exact bool_eq (Hv p l)
theorem Rp{l:List II}(h:∀x∈l,x.name.length<=maxLen):∃m:List {x:II//x.name.length<=maxLen},(m.map fun x=>Fp x.1)=l.map Fp/\(m.any fun x=> !Ep x.1)= !l.all Ep:=by
 refine⟨l.attach.map fun x=>⟨x.1,h x.1 x.2⟩,?_,?_⟩
 .rw[List.map_map];exact List.attach_map_val (f:=Fp) ▸ rfl
 .
  rw[←S3,List.any_map];show(l.attach.any fun x=> !Ep x.1)=_;rw[Bool.eq_iff_iff];simp
theorem GJ{e:FQ}(hf:e.fits):Am prog 39 [agg (Bn e)] (int (if C4 e then 0 else 31)):=by
 refine fo func39 rfl ⟨rfl,rfl⟩ fun M0 w0=>?_;have hl1:=hf.le;have j9:=hf.lg;have hl3:=hf.li;obtain⟨mi,uL,eB⟩:=Rp hf.items;refine ac ?_;refine ac ?_;refine Tr.block (Tr.BP _ (kk [8,7,1] rfl) (fun k:Nat=>[(9,int ((k:Nat):Int))]) (fun k:Nat=>k<=(e.C9).length/\(∀j,j<k->Kj e.C9 j=true)) (fun k:Nat=>(e.C9).length-k) 0 (⟨Nat.zero_le _,fun j hj=>absurd hj AA⟩) kz ?_);rintro k ⟨BR,AY⟩;refine ac ?_;refine Tr.seq ?_;refine Tr.cn rfl ?_ ?_<;>intro h1 q1
 have Ae:k<(e.C9).length:=AV h1;obtain⟨x,Ag⟩:=at_ Ae;have hg:=getD_at (d:=Cw) Ag;have oG:=hf.C9 x (List.mem_of_getElem? Ag);refine ac ?_;refine ao ?_;refine tp rfl (AD rfl underlying28 Co vq vq AA (Aj Ag)) (tp rfl (AJ rfl Dm Co vq rfl rfl) ?_);refine Tl rfl rfl rfl rfl Ma Gf (fun b1=>?_);refine tm rfl ?_;refine sf 0 4 ⟨rfl,rfl,rfl⟩ rfl rfl rfl rfl ?_;refine ao ?_;refine ac ?_;refine co rfl (BQ (MF oG.1) rfl rfl) ?_;refine ac ?_;refine Ch.cs 17 rfl ?_ ?_<;>intro h2 q2
 refine ac ?_;refine wk [32,9,8,7,1] rfl ?_;refine ac ?_;refine ac ?_
 .exact VY
 refine ac ?_;refine Ch.cs 20 rfl ?_ ?_<;>intro h3 q3
 have hk0:0<k:=by simpa using h3
 obtain⟨y,hy⟩:=at_ (l:=e.C9) (k:=k-1) AA;have Iv:=getD_at (d:=Cw) hy;refine ac ?_;refine cy h3 rfl (AD rfl underlying28 Co vq vq AA EM) ?_;refine ac ?_;refine cy h3 rfl (Ia rfl vq vq) ?_;refine ac ?_;refine wk [32,9,8,7,1] rfl ?_;refine Tr.cn rfl ?_ ?_<;>intro h4 q4
 refine ac ?_;refine ac ?_
 .exact VX
 refine ac ?_;refine ac ?_;exact Fin.AR (k+1) ⟨⟨Ae,Bi AY (by unfold Kj;rw[hg,Iv];simp_all)⟩,by omega⟩ ⟨⟨_,rfl,AM k⟩,kz⟩;have HP:¬0<k:=by simpa using h3
 refine ac ?_;refine wk [32,9,8,7,1] rfl ?_;refine ac ?_;refine ac ?_;exact Fin.AR (k+1) ⟨⟨Ae,Bi AY (by unfold Kj;rw[hg];simp_all)⟩,by omega⟩ ⟨⟨_,rfl,AM k⟩,kz⟩;have BB:k=(e.C9).length:=by have:=AW h1;omega
 subst BB;have Xk:=AY;refine ac ?_;refine ac ?_;refine co rfl (AQ rfl (aT (g:=fun x:{x:II//x.name.length<=maxLen}=>x.1) (l:=mi) (p:=fun x=> !Ep x.1)) ⟨⟨_,rfl,Pr.le_of_eq (by rw[uL])⟩,⟨_,rfl,Ck (dom:=fun x:{x:II//x.name.length<=maxLen}=>[agg (Fp x.1)]) (res:=fun x=>bool (!Ep x.1)) g_ (fun x=>gz x.2)⟩,trivial⟩) ?_;refine ac ?_;refine ac ?_;refine Ch.cs 38 rfl ?_ ?_<;>intro h5 q5
 refine ac ?_;refine wk [58] rfl ?_;refine ac ?_;refine ac ?_
 .exact VU
 refine ac ?_;refine Ch.cs 44 rfl ?_ ?_<;>intro h6 q6
 refine ac ?_;refine wk [58] rfl ?_;refine ac ?_;refine ac ?_
 .exact LN
 refine ac ?_;refine Ch.cs 50 rfl ?_ ?_<;>intro h7 q7
 refine ac ?_;refine wk [58] rfl ?_;refine ac ?_;refine ac ?_
 .exact LN
 refine ac ?_;refine cy h7 rfl (Bm (Xf (l:=e.Ay) (n:=e.C9.length)) rfl rfl rfl) ?_;refine ac ?_;refine wk [58] rfl ?_;refine Tr.cn rfl ?_ ?_<;>intro h8 q8
 refine ac ?_;refine ac ?_
 .exact VU
 refine ac ?_;refine ac ?_;refine ac ?_
 .refine int_eq (if_pos ?_).symm;unfold C4;simp_all [Be];omega
theorem Rq{e:FQ}(hf:e.fits):Am prog 58 [agg (Bn e)] (int (if C4 e then 0 else 31)):=by
 refine fo func58 rfl ⟨rfl,rfl⟩ fun M0 w0=>?_;have hl1:=hf.le;have j9:=hf.lg;have hl3:=hf.li;refine ac ?_;refine ac ?_;refine Ch.cs 11 rfl ?_ ?_<;>intro h1 q1
 refine ac ?_;refine wk [22,1] rfl ?_;refine ac ?_;refine ac ?_
 .exact LN
 refine ac ?_;refine Ch.cs 17 rfl ?_ ?_<;>intro h2 q2
 refine ac ?_;refine wk [22,1] rfl ?_;refine ac ?_;refine ac ?_
 .exact LN
 refine ac ?_;refine wk [22,1] rfl ?_;refine Tr.cn rfl ?_ ?_<;>intro h3 q3
 refine ac ?_;refine ac ?_
 .exact LN
 refine ac ?_;refine ac ?_;refine Tr.block (Tr.BP _ (kk [1] rfl) (fun k:Nat=>[(3,int ((k:Nat):Int))]) (fun k:Nat=>k<=(e.C9).length/\(∀j,j<k->Kj e.C9 j=true)) (fun k:Nat=>(e.C9).length-k) 0 (⟨Nat.zero_le _,fun j hj=>absurd hj AA⟩) kz ?_);rintro k ⟨BR,AY⟩;refine ac ?_;refine Tr.cn rfl ?_ ?_<;>intro h4 q4
 have Ae:k<(e.C9).length:=AV h4;obtain⟨x,Ag⟩:=at_ Ae;have hg:=getD_at (d:=Cw) Ag;have oG:=hf.C9 x (List.mem_of_getElem? Ag);refine ac ?_;refine ac ?_;refine co rfl (AD rfl underlying28 Co vq vq AA (Aj Ag)) (co rfl (AJ rfl Dm Co vq rfl rfl) (co rfl (BQ (KA oG.2) rfl rfl) ?_));refine ac ?_;refine Ch.cs 37 rfl ?_ ?_<;>intro h5 q5
 refine ac ?_;refine wk [56,3,1] rfl ?_;refine ac ?_;refine ac ?_
 .exact VY
 refine ac ?_;refine Ch.cs 40 rfl ?_ ?_<;>intro h6 q6
 have hk0:0<k:=by simpa using h6
 obtain⟨y,hy⟩:=at_ (l:=e.C9) (k:=k-1) AA;have Iv:=getD_at (d:=Cw) hy;refine ac ?_;refine cy h6 rfl (AD rfl underlying28 Co vq vq AA EM) ?_;refine ac ?_;refine cy h6 rfl (AD rfl underlying28 Co vq vq AA (Aj Ag)) ?_;refine ac ?_;refine cy h6 rfl (Ia rfl vq vq) ?_;refine ac ?_;refine wk [56,3,1] rfl ?_;refine Tr.cn rfl ?_ ?_<;>intro h7 q7
 refine ac ?_;refine ac ?_
 .exact VX
 refine ac ?_;refine ac ?_;exact Fin.AR (k+1) ⟨⟨Ae,Bi AY (by unfold Kj;rw[hg,Iv];simp_all)⟩,by omega⟩ ⟨⟨_,rfl,AM k⟩,kz⟩;have HP:¬0<k:=by simpa using h6
 refine ac ?_;refine wk [56,3,1] rfl ?_;refine ac ?_;refine ac ?_;exact Fin.AR (k+1) ⟨⟨Ae,Bi AY (by unfold Kj;rw[hg];simp_all)⟩,by omega⟩ ⟨⟨_,rfl,AM k⟩,kz⟩;have BB:k=(e.C9).length:=by have:=AW h4;omega
 subst BB;have Xk:=AY;refine ac ?_;refine ac ?_;refine Tr.block (Tr.BP _ (kk [1] rfl) (fun m:Nat=>[(4,int ((m:Nat):Int))]) (fun m:Nat=>m<=(e.Ay).length/\(∀j,j<m->B6 e.C9.length e.Ay j=true)) (fun m:Nat=>(e.Ay).length-m) 0 (⟨Nat.zero_le _,fun j hj=>absurd hj AA⟩) kz ?_);rintro m ⟨TD,Eb⟩;refine ac ?_;refine Tr.cn rfl ?_ ?_<;>intro h8 q8
 have HU:m<(e.Ay).length:=AV h8;obtain⟨c,IA⟩:=at_ HU;have hg:=getD_at (d:=Db) IA;refine ac ?_;refine ao ?_;refine tp rfl (AD rfl underlying29 GC vq vq AA (Aj IA)) (tp rfl (AJ rfl WX GC vq rfl rfl) ?_);refine Tl rfl rfl rfl rfl ZB RN (fun b1=>?_);refine sf 0 5 ⟨rfl,rfl,rfl⟩ rfl rfl rfl rfl ?_;refine ao ?_;refine wk [5,4,1] rfl ?_;refine ac ?_;refine Ch.cs 72 rfl ?_ ?_<;>intro h9 q9
 refine ac ?_;refine wk [99,5,4,1] rfl ?_;refine ac ?_;refine ac ?_
 .exact Ns
 refine ac ?_;refine Ch.cs 80 rfl ?_ ?_<;>intro h10 MB
 refine ac ?_;refine wk [99,5,4,1] rfl ?_;refine ac ?_;refine ac ?_
 .exact Ns
 refine ac ?_;refine Ch.cs 85 rfl ?_ ?_<;>intro h11 O8
 refine ac ?_;refine wk [99,5,4,1] rfl ?_;refine ac ?_;refine ac ?_
 .exact Ns
 refine ac ?_;refine Ch.cs 93 rfl ?_ ?_<;>intro h12 Re
 refine ac ?_;refine wk [99,5,4,1] rfl ?_;refine ac ?_;refine ac ?_
 .exact Ns
 refine ac ?_;refine wk [99,5,4,1] rfl ?_;refine Tr.cn rfl ?_ ?_<;>intro Je VD
 refine ac ?_;refine ac ?_
 .refine int_eq (if_neg (fun hv=>?_)).symm;have ok:=C2.1 hv;(have h_:=ok.ed m AA;unfold B6 at h_;rw[hg]at h_;simp_all)
 refine ac ?_;refine ac ?_;refine Ch.cs 102 rfl ?_ ?_<;>intro Mh Z9
 have hk0:0<m:=by simpa using Mh
 obtain⟨y,hy⟩:=at_ (l:=e.Ay) (k:=m-1) AA;have Iv:=getD_at (d:=Db) hy;refine ac ?_;refine cy Mh rfl (AD rfl underlying29 GC vq vq AA Q2) ?_;refine ac ?_;refine Ch.cs 113 rfl ?_ ?_<;>intro Rf gW
 refine ac ?_;refine wk [137,4,1] rfl ?_;refine ac ?_;refine ac ?_
 .exact VW
 refine ac ?_;refine cy Rf rfl (AD rfl underlying29 GC vq vq AA Q2) ?_;refine ac ?_;refine Ch.cs 124 rfl ?_ ?_<;>intro h16 gm
 refine ac ?_;refine cy h16 rfl (AD rfl underlying29 GC vq vq AA Q2) ?_;refine ac ?_;refine wk [137,4,1] rfl ?_;refine Tr.cn rfl ?_ ?_<;>intro Yc gZ
 refine ac ?_;refine ac ?_
 .exact VW
 refine ac ?_;refine ac ?_;exact Fin.AR (m+1) ⟨⟨HU,Bi Eb (by unfold B6;rw[hg,Iv];simp_all)⟩,by omega⟩ ⟨⟨_,rfl,AM m⟩,kz⟩;refine ac ?_;refine wk [137,4,1] rfl ?_;refine ac ?_;refine ac ?_;exact Fin.AR (m+1) ⟨⟨HU,Bi Eb Vm⟩,by omega⟩ ⟨⟨_,rfl,AM m⟩,kz⟩;have HP:¬0<m:=by simpa using Mh
 refine ac ?_;refine wk [137,4,1] rfl ?_;refine ac ?_;refine ac ?_;exact Fin.AR (m+1) ⟨⟨HU,Bi Eb N4⟩,by omega⟩ ⟨⟨_,rfl,AM m⟩,kz⟩;have Oi:m=(e.Ay).length:=by have:=AW h8;omega
 subst Oi;refine ac ?_;refine ac ?_;refine Tr.block (Tr.BP _ (kk [1] rfl) (fun o:Nat=>[(6,int ((o:Nat):Int))]) (fun o:Nat=>o<=(e.items).length/\(∀j y,j<o->e.items[j]? =some y->(!Ep y)=false)) (fun o:Nat=>(e.items).length-o) 0 (⟨Nat.zero_le _,fun j y hj=>absurd hj AA⟩) kz ?_);rintro o ⟨ow,Io⟩;refine ac ?_;refine Tr.cn rfl ?_ ?_<;>intro Qh oW
 have UN:o<(e.items).length:=AV Qh;obtain⟨x,Nu⟩:=at_ UN;refine ac ?_;refine ac ?_;refine co rfl (AD rfl underlying30 G2 vq vq AA (Aj Nu)) (co rfl (AJ rfl Ph G2 vq rfl rfl) (co rfl (BQ (Rl) rfl rfl) ?_));refine ac ?_;refine wk [151,6,1] rfl ?_;refine Tr.cn rfl ?_ ?_<;>intro Yd oX
 refine ac ?_;refine ac ?_
 .refine int_eq (if_neg (fun hv=>?_)).symm;have ok:=C2.1 hv;(have h_:=List.all_eq_true.1 ok.it x (List.mem_of_getElem? Nu);simp_all)
 refine ac ?_;refine ac ?_;exact Fin.AR (o+1) ⟨⟨UN,Cf (p:=fun c=> !Ep c) Nu Cc Io⟩,by omega⟩ ⟨⟨_,rfl,AM o⟩,kz⟩;have gw:o=(e.items).length:=by have:=AW Qh;omega
 subst gw;have hall:=EG Io;refine ac ?_;refine ac ?_;refine ac ?_
 .refine int_eq (if_pos (C2.2 ⟨Xk,by omega,Eb,by omega,hall,by omega⟩)).symm
def setAt(n:Int)(l:List Int)(i:Nat):Bool:=decide (0<=l[i]?.getD 0)&&decide (l[i]?.getD 0<n)&&(decide (i=0)||decide (l[i-1]?.getD 0<l[i]?.getD 0))
def Km(n:Int)(l:List Int):Bool:=allI (setAt n l) l.length
structure FQ.sz(e:FQ)(n:Nat):Prop where
 C9:∀x∈e.C9,x.sz n
 items:∀x∈e.items,x.name.length<=maxLen/\x.links.length<=1000000
 le:e.C9.length<=1000000
 lg:e.Ay.length<=1000000
 li:e.items.length<=1000000
theorem FQ.sz.fits{e:FQ}{n:Nat}(h:e.sz n)(hn:n<=1000000):e.fits:=
 ⟨fun x hx=>⟨(h.C9 x hx).fits,(h.C9 x hx).small hn⟩,fun x hx=>(h.items x hx).1,by have:=h.le;omega,by have:=h.lg;omega,by have:=h.li;omega⟩
theorem FQ.sz.le_{e:FQ}{n m:Nat}(h:e.sz n)(hn:n<=m):e.sz m:=⟨fun x hx=>(h.C9 x hx).le hn,h.items,h.le,h.lg,h.li⟩
theorem dY{β γ:Type}{f:β->γ}{l:List β}{k:Nat}{x:β}(h:l[k]? =some x):(l.take k).map f++[f x]=(l.take (k+1)).map f:=by rw[List.take_add_one,h,List.map_append];rfl
theorem UO{e:FQ}{n:Nat}(hz:e.sz n)(hn:n<=1000000):Tw prog 99 [agg (Bn e)] (fun x=>agg [is x,Dy e.Ay,H_ e.items]) (fun x=>[CL 73 9 (e.C9.map BL) x]):=by
 refine Tw.of func99 rfl rfl Af fun M0 w0 S rs M1 w1=>?_;have hl1:=hz.le;have j9:=hz.lg;have hl3:=hz.li;refine Tr.seq (Tr.Al (tp rfl (Bc rfl Ce) ?_));refine Tl rfl rfl rfl rfl z32 Lt (fun b1=>?_);refine ao ?_;refine ao ?_;refine tp rfl (Hw rfl underlying29 GC eo ZB rfl AB vq vq Qx Qy) ?_;refine tp rfl (oD) ?_;refine Tl rfl rfl rfl rfl z32 Lt (fun b2=>?_);refine TO.Aa 0 rfl rfl rfl vq Ce rfl Ge rfl rfl ?_;refine ao ?_;refine ac ?_;refine wk [16,15,14,3,2,1] rfl (Tr.block (Tr.Fy 0 [An (.slice none 0 0) (lens ((e.C9.take 0).map BL).length),Dy e.Ay,is (.slice none 0 0)] rfl ⟨L4 rfl,Pr.le_of_eq rfl,Lr,trivial⟩ (Tr.OY 73 9 (Tr.Fv _ (kk [15,14,3,2,1] rfl) (fun k v=>[(16,int ((k:Nat):Int))]) (fun k v=>Hp M0 w0 S (BM 73 9 ((e.C9.take k).map BL) v::AF true b2 32 [An v (lens ((e.C9.take k).map BL).length),Dy e.Ay,is (.slice none 0 0)]::AF true b1 32 (([.slice none 0 0,.slice none 0 0,.slice none 0 0]:List Value).map is)::Ah M1 w1::rs)) (fun k:Nat=>k<=(e.C9).length) (fun k:Nat=>(e.C9).length-k) 0 (.slice none 0 0) (Nat.zero_le _) kz (fun _ _ h=>h) ?_))));rintro k v BR;refine ac ?_;refine Tr.seq ?_;refine Tr.cn rfl ?_ ?_<;>intro h1 q1
 have Ae:k<(e.C9).length:=AV h1;obtain⟨x,Ag⟩:=at_ Ae;have hxs:=(hz.C9 x (List.mem_of_getElem? Ag)).small hn;refine ac ?_;refine Tr.seq (Tr.block (Tr.seq (Tr.Al (tp rfl (AD rfl underlying28 Co vq vq AA DL) ?_))));refine tp rfl (AJ rfl Dm Co vq rfl rfl) ?_;refine Tl rfl rfl rfl rfl Ma Gf (fun b3=>?_);refine sf 0 5 ⟨rfl,rfl,rfl⟩ rfl rfl rfl rfl ?_;refine ao ?_;refine Tr.pad (Tr.rx ?_);refine ax ?_;refine xo rfl (fun _=>BQ (XQ hxs) rfl rfl) (xo rfl (fun _=>AG (xs:=[.tmp 23]) (rows:=[_]) rfl rfl underlying28 Co Ma rfl AB ⟨⟨AK,(Va rfl)⟩,trivial⟩ AB) ?_);refine Cx.ef 1 rfl rfl AB (GG rfl rfl AB rfl underlying28 Co ZA Ma rfl AB AB (vl rfl) (Kf rfl) (CK fun _=>rfl) (Nat.zero_lt_succ _) (by simp only[List.length_map,List.length_take,List.length_cons,List.length_nil];unfold maxLen;omega) (by simp only[List.length_map,List.length_take,List.length_cons,List.length_nil];omega)) ?_;refine xo rfl (fun _=>AU rfl IX vq) (Cx.Ej 2 rfl rfl (E9 rfl rfl rfl vq rfl Y8 Af) ?_);refine Cx.nil ⟨by kernel_rfl,?_⟩;refine CF.NF 1 2 25 rfl rfl AB rfl (fun v1=>?_);refine CF.done al5 ?_;refine ac ?_;refine Tr.drop 0 (wk [16,15,14,3,2,1] rfl ?_);refine ac ?_;refine Fin.Fy 1 [An v1 (lens ((e.C9.take (k+1)).map BL).length),Dy e.Ay,is (.slice none 0 0)] rfl ⟨K8 Jm,Lr,Lr,trivial⟩ ?_;rw[dY (f:=BL) Ag];exact Fin.IE (k+1) v1 (⟨Ae,by omega⟩) ⟨⟨_,rfl,AM k⟩,kz⟩ (fun _ _ h=>h);have BB:k=(e.C9).length:=by have:=AW h1;omega
 subst BB;rw[List.take_length];refine a2 ?_;refine Tr.block (Tr.Fy 1 [An v (lens (e.C9.map BL).length),Dy e.Ay,An (.slice none 0 0) (H_ (e.items.take 0))] rfl ⟨Lr,Lr,CG rfl,trivial⟩ (Tr.Cm 85 5 (Tr.Fv _ (kk [30,29,3,2] rfl) (fun m u=>[(31,int ((m:Nat):Int))]) (fun m u=>Hp M0 w0 S (A8 85 5 u::BM 73 9 (e.C9.map BL) v::AF true b2 32 [An v (lens (e.C9.map BL).length),Dy e.Ay,An u (H_ (e.items.take m))]::AF true b1 32 (([.slice none 0 0,.slice none 0 0,.slice none 0 0]:List Value).map is)::Ah M1 w1::rs)) (fun m:Nat=>m<=(e.items).length) (fun m:Nat=>(e.items).length-m) 0 (.slice none 0 0) (Nat.zero_le _) kz (fun _ _ h=>h) ?_)));rintro m u TD;refine ac ?_;refine Tr.seq ?_;refine Tr.cn rfl ?_ ?_<;>intro h2 q2
 have HU:m<(e.items).length:=AV h2;obtain⟨y,IA⟩:=at_ HU;have hyl:=(hz.items y (List.mem_of_getElem? IA)).2;refine ac ?_;refine Tr.seq (Tr.block (Tr.seq (Tr.Al (tp rfl (AD rfl underlying30 G2 vq vq AA DL) ?_))));refine tp rfl (AJ rfl Ph G2 vq rfl rfl) ?_;refine Tl rfl rfl rfl rfl z85 WY (fun b4=>?_);refine TO.Aa 0 rfl rfl rfl vq Ce rfl G2 rfl rfl ?_;refine ao ?_;refine ao ?_;refine tp rfl (Hw rfl underlying83 FJ cq z127 rfl AB vq vq Qx Qy) ?_;refine tp rfl (AU rfl RO vq) (TO.Ej 0 rfl rfl (BG rfl rfl vq CD lC rfl Af rfl) ?_);refine ao ?_;refine wk [31,30,29,7,3,2] rfl ?_;refine ao ?_;refine TO.EV 1 rfl rfl AB (Ba rfl rfl AB rfl underlying30 G2 ZC z85 rfl AB It Cs Qx Qy (Bx BH Jd)) (fun v2=>?_);refine tp rfl (AU rfl IY vq) (TO.Ej 3 rfl rfl (BG rfl rfl vq CD Y9 rfl Af rfl) ?_);refine ao ?_;refine Tr.drop 0 ?_;refine ac ?_;refine Fin.Fy 2 [An v (lens (e.C9.map BL).length),Dy e.Ay,An v2 (H_ (e.items.take (m+1)))] rfl ⟨Lr,Lr,B7 (dY (f:=Fp) IA),trivial⟩ (Fin.IE (m+1) v2 (⟨HU,by omega⟩) ⟨⟨_,rfl,AM m⟩,kz⟩ (fun _ _ h=>h));have Oi:m=(e.items).length:=by have:=AW h2;omega
 subst Oi;refine ac ?_;refine ao ?_;refine TO.Aa 3 rfl rfl rfl vq Ce rfl Ge rfl rfl ?_;refine ao ?_;refine Tr.ret (Fin.Pv 1 rfl (Fin.drop 0 (Fin.drop 1 (Fin.fT (Fin.sN v [_] rfl (AZ.cell 0 rfl rfl HD Ge rfl Lr) ?_ (List.Perm.refl _))))))
 .exact Au ⟨FF _ _,Lr,Pr.le_trans (As _ _) (Pr.le_of_eq (by rw[List.take_length])),trivial⟩
end Go.Proofs.YthommhphcagokaaGreatDoor
