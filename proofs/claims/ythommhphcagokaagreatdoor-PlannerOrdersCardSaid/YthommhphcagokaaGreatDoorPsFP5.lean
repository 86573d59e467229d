/-
  Part 5 of the texts that prove this claim, merged.
-/
import Derived.Test.YthommhphcagokaaGreatDoorPsFP4
set_option linter.all false
set_option maxRecDepth 40000
set_option maxHeartbeats 16000000
namespace Go.Proofs.YthommhphcagokaaGreatDoor
open Go Go.RowKit Cp Go.Proofs.Tryz
variable{I:Cj}{E:Env}{e e2:DY}{f:FuncId}{rows:List (List Pr)}{l:List Int}{nm:List UInt8}{d i j k m ob wb:Nat}{o:Oper}{x:Operand}{p p3 p5 p6 p7:Pr}{P:Program}{v:Value}{w:World}
theorem gA{x at_:Int}(hr:¬(0<=at_/\at_<=(e.AR.length:Nat))):BC prog 354 [ptr ob 3,int at_,int x] [Br ob e (is v) p5 p6 p7,An 3 1 (e.AR.map fun n=>[int n]) v] (int 2) []:=by
 refine BC.of func354 rfl rfl Ag fun M0 w0 S rs M1 w1=>(Tr.seq ?_);have hml:(e.AR.map fun n=>[int n]).length=e.AR.length:=List.length_map _;refine ac ?_;refine ag ?_ ?_<;>intro h1 q1
 have hq9:=q1;refine a2 ?_;refine Tr.ret (Fin.AF (Fin.drop 0 (Fin.drop 0 (Fin.Cl rfl (AL.tmp rfl Lr) ?_ (List.Perm.refl _)))))
 .exact Lr
 refine ac ?_;refine cy h1 rfl (Bi 1 rfl (GJ rfl underlying22 vq)) ?_;refine an ?_ ?_<;>intro h2 q2
 refine ac ?_;refine Tr.ret (Fin.AF (Fin.drop 0 (Fin.drop 0 (Fin.Cl rfl (AL.tmp rfl Lr) ?_ (List.Perm.refl _)))))
 .exact Lr
 exfalso;simp_all
theorem XD{x at_:Int}(hr:0<=at_/\at_<=(e.AR.length:Nat))(hl:e.AR.length<=1000000):BC prog 354 [ptr ob 3,int at_,int x] [Br ob e (is v) p5 p6 p7,An 3 1 (e.AR.map fun n=>[int n]) v] (int 0) [Br ob e (ints (e.AR.take at_.toNat++[x]++e.AR.drop at_.toNat)) p5 p6 p7]:=by
 refine BC.of func354 rfl rfl Ag fun M0 w0 S rs M1 w1=>(Tr.seq ?_);have hml:(e.AR.map fun n=>[int n]).length=e.AR.length:=List.length_map _;refine ac ?_;refine ag ?_ ?_<;>intro h1 q1
 exfalso;have:=q1;omega;refine ac ?_;refine cy h1 rfl (Bi 1 rfl (GJ rfl underlying22 vq)) ?_;refine an ?_ ?_<;>intro h2 q2
 exfalso;simp_all;omega;refine ac ?_;refine ap ?_;refine TO.LC 1 rfl rfl AB (Au rfl rfl AB rfl (VR (l:=e.AR) (x:=x) (i:=at_.toNat) AA hl) ⟨kq,⟨_,rfl,int_eq AA⟩,Ec,trivial⟩) ?_;refine ap ?_;refine Tr.weak [] trivial ?_;refine ac ?_;refine Tr.ret (Fin.drop 1 (Fin.Cl rfl (AL.tmp rfl Lr) ?_ (List.Perm.refl _)))
 .exact Lr
theorem XE{c b:Bl}(hr:¬(0<=c.at_/\c.at_<=(e.AR.length:Nat))):BC prog 312 [ptr wb 0] [Bk wb ob c b,Br ob e (is v) p5 p6 p7,An 3 1 (e.AR.map fun n=>[int n]) v] (int 2) []:=by
 refine BC.of func312 rfl rfl Ag fun M0 w0 S rs M1 w1=>?_;refine ac ?_;refine Tr.seq (Tr.rx ?_);refine ay ?_;refine Cx.ef 2 rfl rfl AB (Au rfl rfl AB rfl (VT (l:=e.AR)) ⟨kq,kz⟩) ?_;refine xm rfl ?_;refine Cx.nil ⟨by kernel_rfl,?_⟩;refine BG.done N1 (Fin.go (wk [3,0] rfl (Tr.seq (Tr.seq (Tr.Du mixed 16 BQ (AY.op rfl rfl AB (BX rfl vq) (AY.op rfl rfl AB (A8 rfl vq) (AY.op rfl rfl AB (AG rfl Jb vq) (AY.op rfl rfl AB (Bi 0 rfl (A9 rfl MF vq rfl)) (AY.op rfl rfl AB (A8 rfl vq) (AY.op rfl rfl AB (AG rfl GG vq) (AY.op rfl rfl AB (BX rfl vq) (AY.op rfl rfl AB (A8 rfl vq) ?_)))))))))))));refine AY.op rfl rfl AB (AG rfl EK vq) (AY.op rfl rfl AB (AG rfl JZ vq) (AY.op rfl rfl AB (Bi 0 rfl (A9 rfl DP vq rfl)) (AY.op rfl rfl AB (BX rfl vq) (AY.op rfl rfl AB (A8 rfl vq) (AY.op rfl rfl AB (AG rfl EK vq) (AY.op rfl rfl AB (AG rfl JY vq) (AY.op rfl rfl AB (Bi 0 rfl (A9 rfl DP vq rfl)) ?_)))))));refine AY.turn _ rfl AB (E_ _ rfl rfl (gA (e:=e) (x:=c.number) (at_:=c.at_) hr) ⟨kq,kz⟩ ((AM (j:=1) rfl).trans (List.Perm.cons _ ((AM (j:=1) rfl).trans (List.Perm.cons _ (List.Perm.refl _)))))) ?_;refine ac ?_;refine wk [4,3,0] rfl ?_;refine an ?_ ?_<;>intro h1 q1
 refine ac ?_;refine Tr.ret (Fin.AF (Fin.drop 0 (Fin.Cl rfl (AL.tmp rfl Lr) ?_ (List.Perm.refl _))))
 .exact Lr
 exact absurd h1 AB
theorem XF{c b:Bl}(hr:0<=c.at_/\c.at_<=(e.AR.length:Nat))(hl:e.AR.length<=1000000)(h:(e.AR.any fun y=>c.number==y)=true):BC prog 312 [ptr wb 0] [Bk wb ob c b,Br ob e (is v) p5 p6 p7,An 3 1 (e.AR.map fun n=>[int n]) v] (int 41) []:=by
 refine BC.of func312 rfl rfl Ag fun M0 w0 S rs M1 w1=>?_;refine ac ?_;refine Tr.seq (Tr.rx ?_);refine ay ?_;refine Cx.ef 2 rfl rfl AB (Au rfl rfl AB rfl (VT (l:=e.AR)) ⟨kq,kz⟩) ?_;refine xm rfl ?_;refine Cx.nil ⟨by kernel_rfl,?_⟩;refine BG.done N1 (Fin.go (wk [3,0] rfl (Tr.seq (Tr.seq (Tr.Du mixed 16 BQ (AY.op rfl rfl AB (BX rfl vq) (AY.op rfl rfl AB (A8 rfl vq) (AY.op rfl rfl AB (AG rfl Jb vq) (AY.op rfl rfl AB (Bi 0 rfl (A9 rfl MF vq rfl)) (AY.op rfl rfl AB (A8 rfl vq) (AY.op rfl rfl AB (AG rfl GG vq) (AY.op rfl rfl AB (BX rfl vq) (AY.op rfl rfl AB (A8 rfl vq) ?_)))))))))))));refine AY.op rfl rfl AB (AG rfl EK vq) (AY.op rfl rfl AB (AG rfl JZ vq) (AY.op rfl rfl AB (Bi 0 rfl (A9 rfl DP vq rfl)) (AY.op rfl rfl AB (BX rfl vq) (AY.op rfl rfl AB (A8 rfl vq) (AY.op rfl rfl AB (AG rfl EK vq) (AY.op rfl rfl AB (AG rfl JY vq) (AY.op rfl rfl AB (Bi 0 rfl (A9 rfl DP vq rfl)) ?_)))))));refine AY.turn _ rfl AB (E_ _ rfl rfl (XD (e:=e) (x:=c.number) (at_:=c.at_) hr hl) ⟨kq,kz⟩ ((AM (j:=1) rfl).trans (List.Perm.cons _ ((AM (j:=1) rfl).trans (List.Perm.cons _ (List.Perm.refl _)))))) ?_;refine ac ?_;refine wk [4,3,0] rfl ?_;refine an ?_ ?_<;>intro h1 q1
 exact absurd h1 AB;refine ac ?_;refine an ?_ ?_<;>intro h2 q2
 refine ac ?_;refine Tr.ret (Fin.AF (Fin.drop 0 (Fin.drop 0 (Fin.Cl rfl (AL.tmp rfl Lr) ?_ (List.Perm.refl _)))))
 .exact Lr
 rw[h]at h2;exact absurd h2 AB
theorem XG{c b:Bl}(hr:0<=c.at_/\c.at_<=(e.AR.length:Nat))(hl:e.AR.length<=1000000)(h:(e.AR.any fun y=>c.number==y)=false):BC prog 312 [ptr wb 0] [Bk wb ob c b,Br ob e (is v) p5 p6 p7,An 3 1 (e.AR.map fun n=>[int n]) v] (int 0) [Br ob e (ints (e.AR.take c.at_.toNat++[c.number]++e.AR.drop c.at_.toNat)) p5 p6 p7,Bk wb ob c ⟨b.AZ,2,c.number,b.at_,b.CO⟩]:=by
 refine BC.of func312 rfl rfl Ag fun M0 w0 S rs M1 w1=>?_;refine ac ?_;refine Tr.seq (Tr.rx ?_);refine ay ?_;refine Cx.ef 2 rfl rfl AB (Au rfl rfl AB rfl (VT (l:=e.AR)) ⟨kq,kz⟩) ?_;refine xm rfl ?_;refine Cx.nil ⟨by kernel_rfl,?_⟩;refine BG.done N1 (Fin.go (wk [3,0] rfl (Tr.seq (Tr.seq (Tr.Du mixed 16 BQ (AY.op rfl rfl AB (BX rfl vq) (AY.op rfl rfl AB (A8 rfl vq) (AY.op rfl rfl AB (AG rfl Jb vq) (AY.op rfl rfl AB (Bi 0 rfl (A9 rfl MF vq rfl)) (AY.op rfl rfl AB (A8 rfl vq) (AY.op rfl rfl AB (AG rfl GG vq) (AY.op rfl rfl AB (BX rfl vq) (AY.op rfl rfl AB (A8 rfl vq) ?_)))))))))))));refine AY.op rfl rfl AB (AG rfl EK vq) (AY.op rfl rfl AB (AG rfl JZ vq) (AY.op rfl rfl AB (Bi 0 rfl (A9 rfl DP vq rfl)) (AY.op rfl rfl AB (BX rfl vq) (AY.op rfl rfl AB (A8 rfl vq) (AY.op rfl rfl AB (AG rfl EK vq) (AY.op rfl rfl AB (AG rfl JY vq) (AY.op rfl rfl AB (Bi 0 rfl (A9 rfl DP vq rfl)) ?_)))))));refine AY.turn _ rfl AB (E_ _ rfl rfl (XD (e:=e) (x:=c.number) (at_:=c.at_) hr hl) ⟨kq,kz⟩ ((AM (j:=1) rfl).trans (List.Perm.cons _ ((AM (j:=1) rfl).trans (List.Perm.cons _ (List.Perm.refl _)))))) ?_;refine ac ?_;refine wk [4,3,0] rfl ?_;refine an ?_ ?_<;>intro h1 q1
 exact absurd h1 AB;refine ac ?_;refine an ?_ ?_<;>intro h2 q2
 rw[h]at h2;exact absurd h2 AB;refine ac ?_;refine ap ?_;refine Tr.weak [] trivial ?_;refine ac ?_;refine Tr.ret (Fin.Cl rfl (AL.tmp rfl Lr) ?_ (List.Perm.refl _))
 .exact Lr
theorem Jj{x:Int}(h:DI l x=true):Dl l x<l.length:=by
 by_cases hp:Dl l x<l.length
 .exact hp
 .unfold DI at h;rw[List.getElem?_eq_none AA]at h;cases h
theorem sO{c b:Bl}{bk:Int}(hs:HR e.anchors)(hl:e.anchors.length<=1000000)(h:DI e.anchors c.number=true):BC prog 362 [ptr wb 0,ptr ob 6,int bk] [Bk wb ob c b,Br ob e p3 p5 (is v) p7,An 3 1 (e.anchors.map fun n=>[int n]) v] (int 41) []:=by
 refine BC.of func362 rfl rfl Ag fun M0 w0 S rs M1 w1=>?_;refine ac ?_;refine Tr.seq (Tr.rx ?_);refine ay ?_;refine Cx.ef 2 rfl rfl AB (Au rfl rfl AB rfl (KZ (l:=e.anchors) hs hl) ⟨kq,kz⟩) ?_;refine ay ?_;refine Cx.nil ⟨by kernel_rfl,?_⟩;refine BG.done N1 (Fin.go (wk [8,7,2,1,0] rfl ?_));refine an ?_ ?_<;>intro h1 q1
 refine ac ?_;refine Tr.ret (Fin.AF (Fin.drop 0 (Fin.drop 0 (Fin.drop 0 (Fin.Cl rfl (AL.tmp rfl Lr) ?_ (List.Perm.refl _))))))
 .exact Lr
 rw[h]at h1;exact absurd h1 AB
theorem VY{c b:Bl}(hs:HR e.anchors)(hl:e.anchors.length<=1000000)(h:DI e.anchors c.number=true):BC prog 318 [ptr wb 0] [Bk wb ob c b,Br ob e p3 p5 (is v) p7,An 3 1 (e.anchors.map fun n=>[int n]) v] (int 41) []:=by
 refine BC.of func318 rfl rfl Ag fun M0 w0 S rs M1 w1=>?_;refine ac ?_;refine ap ?_;refine TO.Df _ rfl rfl AB rfl (sO (e:=e) (c:=c) (b:=b) hs hl h) ⟨kq,kz⟩ ((AM (j:=0) rfl).trans (List.Perm.cons _ ((AM (j:=0) rfl).trans (List.Perm.cons _ ((AM (j:=0) rfl).trans (List.Perm.cons _ (List.Perm.refl _))))))) ?_;refine ap ?_;refine Tr.ret (Fin.Cl rfl (AL.tmp rfl Lr) ?_ (List.Perm.refl _))
 .exact Lr
theorem sP{c b:Bl}{bk:Int}(hs:HR e.anchors)(hl:e.anchors.length<=1000000)(h:DI e.anchors c.number=false):BC prog 362 [ptr wb 0,ptr ob 6,int bk] [Bk wb ob c b,Br ob e p3 p5 (is v) p7,An 3 1 (e.anchors.map fun n=>[int n]) v] (int 0) [Bk wb ob c ⟨b.AZ,bk,c.number,b.at_,b.CO⟩,Br ob e p3 p5 (ints (OY e.anchors c.number)) p7]:=by
 refine BC.of func362 rfl rfl Ag fun M0 w0 S rs M1 w1=>?_;refine ac ?_;refine Tr.seq (Tr.rx ?_);refine ay ?_;refine Cx.ef 2 rfl rfl AB (Au rfl rfl AB rfl (KZ (l:=e.anchors) hs hl) ⟨kq,kz⟩) ?_;refine ay ?_;refine Cx.nil ⟨by kernel_rfl,?_⟩;refine BG.done N1 (Fin.go (wk [8,7,2,1,0] rfl ?_));refine an ?_ ?_<;>intro h1 q1
 rw[h]at h1;exact absurd h1 AB;refine ac ?_;refine Tr.seq (Tr.rx ?_);refine ay ?_;refine xo rfl (fun _=>AX (xs:=[.tmp 31]) (rows:=[[_]]) rfl rfl underlying22 C4 z3 rfl AB ⟨⟨Ab,Cf⟩,trivial⟩ AB) ?_;refine Cx.ef 2 rfl rfl AB (Au rfl rfl AB rfl (VR (l:=e.anchors) (x:=c.number) (i:=Dl e.anchors c.number) (QN _ _) hl) ⟨kq,kq,Ec,trivial⟩) ?_;refine ay ?_;refine Cx.nil ⟨by kernel_rfl,?_⟩;refine BG.done N1 (Fin.go (wk [2,0] rfl ?_));refine ap ?_;refine Tr.weak [] trivial ?_;refine ac ?_;refine Tr.ret (Fin.drop 2 (Fin.Cl rfl (AL.tmp rfl Lr) ?_ (List.Perm.refl _)))
 .exact Lr
theorem VZ{c b:Bl}(hs:HR e.anchors)(hl:e.anchors.length<=1000000)(h:DI e.anchors c.number=false):BC prog 318 [ptr wb 0] [Bk wb ob c b,Br ob e p3 p5 (is v) p7,An 3 1 (e.anchors.map fun n=>[int n]) v] (int 0) [Bk wb ob c ⟨b.AZ,8,c.number,b.at_,b.CO⟩,Br ob e p3 p5 (ints (OY e.anchors c.number)) p7]:=by
 refine BC.of func318 rfl rfl Ag fun M0 w0 S rs M1 w1=>?_;refine ac ?_;refine ap ?_;refine TO.Df _ rfl rfl AB rfl (sP (e:=e) (c:=c) (b:=b) hs hl h) ⟨kq,kz⟩ ((AM (j:=0) rfl).trans (List.Perm.cons _ ((AM (j:=0) rfl).trans (List.Perm.cons _ ((AM (j:=0) rfl).trans (List.Perm.cons _ (List.Perm.refl _))))))) ?_;refine ap ?_;refine Tr.ret (Fin.Cl rfl (AL.tmp rfl Lr) ?_ (List.Perm.refl _))
 .exact Lr
theorem mJ{c b:Bl}{bk:Int}(hs:HR e.anchors)(hl:e.anchors.length<=1000000)(h:DI e.anchors c.number=false):BC prog 363 [ptr wb 0,ptr ob 6,int bk] [Bk wb ob c b,Br ob e p3 p5 (is v) p7,An 3 1 (e.anchors.map fun n=>[int n]) v] (int 41) []:=by
 refine BC.of func363 rfl rfl Ag fun M0 w0 S rs M1 w1=>?_;refine ac ?_;refine Tr.seq (Tr.rx ?_);refine ay ?_;refine Cx.ef 2 rfl rfl AB (Au rfl rfl AB rfl (KZ (l:=e.anchors) hs hl) ⟨kq,kz⟩) ?_;refine ay ?_;refine Cx.nil ⟨by kernel_rfl,?_⟩;refine BG.done N1 (Fin.go (wk [8,7,2,1,0] rfl ?_));refine an ?_ ?_<;>intro h1 q1
 refine ac ?_;refine Tr.ret (Fin.AF (Fin.drop 0 (Fin.drop 0 (Fin.drop 0 (Fin.Cl rfl (AL.tmp rfl Lr) ?_ (List.Perm.refl _))))))
 .exact Lr
 rw[h]at h1;exact absurd h1 AB
theorem Sq{c b:Bl}(hs:HR e.anchors)(hl:e.anchors.length<=1000000)(h:DI e.anchors c.number=false):BC prog 319 [ptr wb 0] [Bk wb ob c b,Br ob e p3 p5 (is v) p7,An 3 1 (e.anchors.map fun n=>[int n]) v] (int 41) []:=by
 refine BC.of func319 rfl rfl Ag fun M0 w0 S rs M1 w1=>?_;refine ac ?_;refine ap ?_;refine TO.Df _ rfl rfl AB rfl (mJ (e:=e) (c:=c) (b:=b) hs hl h) ⟨kq,kz⟩ ((AM (j:=0) rfl).trans (List.Perm.cons _ ((AM (j:=0) rfl).trans (List.Perm.cons _ ((AM (j:=0) rfl).trans (List.Perm.cons _ (List.Perm.refl _))))))) ?_;refine ap ?_;refine Tr.ret (Fin.Cl rfl (AL.tmp rfl Lr) ?_ (List.Perm.refl _))
 .exact Lr
theorem mK{c b:Bl}{bk:Int}(hs:HR e.anchors)(hl:e.anchors.length<=1000000)(h:DI e.anchors c.number=true):BC prog 363 [ptr wb 0,ptr ob 6,int bk] [Bk wb ob c b,Br ob e p3 p5 (is v) p7,An 3 1 (e.anchors.map fun n=>[int n]) v] (int 0) [Bk wb ob c ⟨b.AZ,bk,c.number,b.at_,b.CO⟩,Br ob e p3 p5 (ints (e.anchors.eraseIdx (Dl e.anchors c.number))) p7]:=by
 refine BC.of func363 rfl rfl Ag fun M0 w0 S rs M1 w1=>?_;have ADJ:=Jj h;refine ac ?_;refine Tr.seq (Tr.rx ?_);refine ay ?_;refine Cx.ef 2 rfl rfl AB (Au rfl rfl AB rfl (KZ (l:=e.anchors) hs hl) ⟨kq,kz⟩) ?_;refine ay ?_;refine Cx.nil ⟨by kernel_rfl,?_⟩;refine BG.done N1 (Fin.go (wk [8,7,2,1,0] rfl ?_));refine an ?_ ?_<;>intro h1 q1
 rw[h]at h1;exact absurd h1 AB;refine ac ?_;refine ap ?_;refine TO.LC 2 rfl rfl AB (Au rfl rfl AB rfl (VS (l:=e.anchors) (i:=Dl e.anchors c.number) (Jj h) hl) ⟨kq,⟨_,rfl,int_eq AA⟩,⟨_,rfl,int_eq AA⟩,trivial⟩) ?_;refine ap ?_;refine wk [2,0] rfl ?_;refine ap ?_;refine Tr.weak [] trivial ?_;refine ac ?_;refine Tr.ret (Fin.drop 2 (Fin.Cl rfl (AL.tmp rfl Lr) ?_ (List.Perm.refl _)))
 .exact Lr
theorem Sr{c b:Bl}(hs:HR e.anchors)(hl:e.anchors.length<=1000000)(h:DI e.anchors c.number=true):BC prog 319 [ptr wb 0] [Bk wb ob c b,Br ob e p3 p5 (is v) p7,An 3 1 (e.anchors.map fun n=>[int n]) v] (int 0) [Bk wb ob c ⟨b.AZ,7,c.number,b.at_,b.CO⟩,Br ob e p3 p5 (ints (e.anchors.eraseIdx (Dl e.anchors c.number))) p7]:=by
 refine BC.of func319 rfl rfl Ag fun M0 w0 S rs M1 w1=>?_;refine ac ?_;refine ap ?_;refine TO.Df _ rfl rfl AB rfl (mK (e:=e) (c:=c) (b:=b) hs hl h) ⟨kq,kz⟩ ((AM (j:=0) rfl).trans (List.Perm.cons _ ((AM (j:=0) rfl).trans (List.Perm.cons _ ((AM (j:=0) rfl).trans (List.Perm.cons _ (List.Perm.refl _))))))) ?_;refine ap ?_;refine Tr.ret (Fin.Cl rfl (AL.tmp rfl Lr) ?_ (List.Perm.refl _))
 .exact Lr
theorem sQ{c b:Bl}{bk:Int}(hs:HR e.hashes)(hl:e.hashes.length<=1000000)(h:DI e.hashes c.number=true):BC prog 362 [ptr wb 0,ptr ob 7,int bk] [Bk wb ob c b,Br ob e p3 p5 p6 (is v),An 3 1 (e.hashes.map fun n=>[int n]) v] (int 41) []:=by
 refine BC.of func362 rfl rfl Ag fun M0 w0 S rs M1 w1=>?_;refine ac ?_;refine Tr.seq (Tr.rx ?_);refine ay ?_;refine Cx.ef 2 rfl rfl AB (Au rfl rfl AB rfl (KZ (l:=e.hashes) hs hl) ⟨kq,kz⟩) ?_;refine ay ?_;refine Cx.nil ⟨by kernel_rfl,?_⟩;refine BG.done N1 (Fin.go (wk [8,7,2,1,0] rfl ?_));refine an ?_ ?_<;>intro h1 q1
 refine ac ?_;refine Tr.ret (Fin.AF (Fin.drop 0 (Fin.drop 0 (Fin.drop 0 (Fin.Cl rfl (AL.tmp rfl Lr) ?_ (List.Perm.refl _))))))
 .exact Lr
 rw[h]at h1;exact absurd h1 AB
theorem ZM{c b:Bl}(hs:HR e.hashes)(hl:e.hashes.length<=1000000)(h:DI e.hashes c.number=true):BC prog 320 [ptr wb 0] [Bk wb ob c b,Br ob e p3 p5 p6 (is v),An 3 1 (e.hashes.map fun n=>[int n]) v] (int 41) []:=by
 refine BC.of func320 rfl rfl Ag fun M0 w0 S rs M1 w1=>?_;refine ac ?_;refine ap ?_;refine TO.Df _ rfl rfl AB rfl (sQ (e:=e) (c:=c) (b:=b) hs hl h) ⟨kq,kz⟩ ((AM (j:=0) rfl).trans (List.Perm.cons _ ((AM (j:=0) rfl).trans (List.Perm.cons _ ((AM (j:=0) rfl).trans (List.Perm.cons _ (List.Perm.refl _))))))) ?_;refine ap ?_;refine Tr.ret (Fin.Cl rfl (AL.tmp rfl Lr) ?_ (List.Perm.refl _))
 .exact Lr
theorem sS{c b:Bl}{bk:Int}(hs:HR e.hashes)(hl:e.hashes.length<=1000000)(h:DI e.hashes c.number=false):BC prog 362 [ptr wb 0,ptr ob 7,int bk] [Bk wb ob c b,Br ob e p3 p5 p6 (is v),An 3 1 (e.hashes.map fun n=>[int n]) v] (int 0) [Bk wb ob c ⟨b.AZ,bk,c.number,b.at_,b.CO⟩,Br ob e p3 p5 p6 (ints (OY e.hashes c.number))]:=by
 refine BC.of func362 rfl rfl Ag fun M0 w0 S rs M1 w1=>?_;refine ac ?_;refine Tr.seq (Tr.rx ?_);refine ay ?_;refine Cx.ef 2 rfl rfl AB (Au rfl rfl AB rfl (KZ (l:=e.hashes) hs hl) ⟨kq,kz⟩) ?_;refine ay ?_;refine Cx.nil ⟨by kernel_rfl,?_⟩;refine BG.done N1 (Fin.go (wk [8,7,2,1,0] rfl ?_));refine an ?_ ?_<;>intro h1 q1
 rw[h]at h1;exact absurd h1 AB;refine ac ?_;refine Tr.seq (Tr.rx ?_);refine ay ?_;refine xo rfl (fun _=>AX (xs:=[.tmp 31]) (rows:=[[_]]) rfl rfl underlying22 C4 z3 rfl AB ⟨⟨Ab,Cf⟩,trivial⟩ AB) ?_;refine Cx.ef 2 rfl rfl AB (Au rfl rfl AB rfl (VR (l:=e.hashes) (x:=c.number) (i:=Dl e.hashes c.number) (QN _ _) hl) ⟨kq,kq,Ec,trivial⟩) ?_;refine ay ?_;refine Cx.nil ⟨by kernel_rfl,?_⟩;refine BG.done N1 (Fin.go (wk [2,0] rfl ?_));refine ap ?_;refine Tr.weak [] trivial ?_;refine ac ?_;refine Tr.ret (Fin.drop 2 (Fin.Cl rfl (AL.tmp rfl Lr) ?_ (List.Perm.refl _)))
 .exact Lr
theorem ZN{c b:Bl}(hs:HR e.hashes)(hl:e.hashes.length<=1000000)(h:DI e.hashes c.number=false):BC prog 320 [ptr wb 0] [Bk wb ob c b,Br ob e p3 p5 p6 (is v),An 3 1 (e.hashes.map fun n=>[int n]) v] (int 0) [Bk wb ob c ⟨b.AZ,10,c.number,b.at_,b.CO⟩,Br ob e p3 p5 p6 (ints (OY e.hashes c.number))]:=by
 refine BC.of func320 rfl rfl Ag fun M0 w0 S rs M1 w1=>?_;refine ac ?_;refine ap ?_;refine TO.Df _ rfl rfl AB rfl (sS (e:=e) (c:=c) (b:=b) hs hl h) ⟨kq,kz⟩ ((AM (j:=0) rfl).trans (List.Perm.cons _ ((AM (j:=0) rfl).trans (List.Perm.cons _ ((AM (j:=0) rfl).trans (List.Perm.cons _ (List.Perm.refl _))))))) ?_;refine ap ?_;refine Tr.ret (Fin.Cl rfl (AL.tmp rfl Lr) ?_ (List.Perm.refl _))
 .exact Lr
theorem mL{c b:Bl}{bk:Int}(hs:HR e.hashes)(hl:e.hashes.length<=1000000)(h:DI e.hashes c.number=false):BC prog 363 [ptr wb 0,ptr ob 7,int bk] [Bk wb ob c b,Br ob e p3 p5 p6 (is v),An 3 1 (e.hashes.map fun n=>[int n]) v] (int 41) []:=by
 refine BC.of func363 rfl rfl Ag fun M0 w0 S rs M1 w1=>?_;refine ac ?_;refine Tr.seq (Tr.rx ?_);refine ay ?_;refine Cx.ef 2 rfl rfl AB (Au rfl rfl AB rfl (KZ (l:=e.hashes) hs hl) ⟨kq,kz⟩) ?_;refine ay ?_;refine Cx.nil ⟨by kernel_rfl,?_⟩;refine BG.done N1 (Fin.go (wk [8,7,2,1,0] rfl ?_));refine an ?_ ?_<;>intro h1 q1
 refine ac ?_;refine Tr.ret (Fin.AF (Fin.drop 0 (Fin.drop 0 (Fin.drop 0 (Fin.Cl rfl (AL.tmp rfl Lr) ?_ (List.Perm.refl _))))))
 .exact Lr
 rw[h]at h1;exact absurd h1 AB
theorem XH{c b:Bl}(hs:HR e.hashes)(hl:e.hashes.length<=1000000)(h:DI e.hashes c.number=false):BC prog 321 [ptr wb 0] [Bk wb ob c b,Br ob e p3 p5 p6 (is v),An 3 1 (e.hashes.map fun n=>[int n]) v] (int 41) []:=by
 refine BC.of func321 rfl rfl Ag fun M0 w0 S rs M1 w1=>?_;refine ac ?_;refine ap ?_;refine TO.Df _ rfl rfl AB rfl (mL (e:=e) (c:=c) (b:=b) hs hl h) ⟨kq,kz⟩ ((AM (j:=0) rfl).trans (List.Perm.cons _ ((AM (j:=0) rfl).trans (List.Perm.cons _ ((AM (j:=0) rfl).trans (List.Perm.cons _ (List.Perm.refl _))))))) ?_;refine ap ?_;refine Tr.ret (Fin.Cl rfl (AL.tmp rfl Lr) ?_ (List.Perm.refl _))
 .exact Lr
theorem mM{c b:Bl}{bk:Int}(hs:HR e.hashes)(hl:e.hashes.length<=1000000)(h:DI e.hashes c.number=true):BC prog 363 [ptr wb 0,ptr ob 7,int bk] [Bk wb ob c b,Br ob e p3 p5 p6 (is v),An 3 1 (e.hashes.map fun n=>[int n]) v] (int 0) [Bk wb ob c ⟨b.AZ,bk,c.number,b.at_,b.CO⟩,Br ob e p3 p5 p6 (ints (e.hashes.eraseIdx (Dl e.hashes c.number)))]:=by
 refine BC.of func363 rfl rfl Ag fun M0 w0 S rs M1 w1=>?_;have ADJ:=Jj h;refine ac ?_;refine Tr.seq (Tr.rx ?_);refine ay ?_;refine Cx.ef 2 rfl rfl AB (Au rfl rfl AB rfl (KZ (l:=e.hashes) hs hl) ⟨kq,kz⟩) ?_;refine ay ?_;refine Cx.nil ⟨by kernel_rfl,?_⟩;refine BG.done N1 (Fin.go (wk [8,7,2,1,0] rfl ?_));refine an ?_ ?_<;>intro h1 q1
 rw[h]at h1;exact absurd h1 AB;refine ac ?_;refine ap ?_;refine TO.LC 2 rfl rfl AB (Au rfl rfl AB rfl (VS (l:=e.hashes) (i:=Dl e.hashes c.number) (Jj h) hl) ⟨kq,⟨_,rfl,int_eq AA⟩,⟨_,rfl,int_eq AA⟩,trivial⟩) ?_;refine ap ?_;refine wk [2,0] rfl ?_;refine ap ?_;refine Tr.weak [] trivial ?_;refine ac ?_;refine Tr.ret (Fin.drop 2 (Fin.Cl rfl (AL.tmp rfl Lr) ?_ (List.Perm.refl _)))
 .exact Lr
theorem XI{c b:Bl}(hs:HR e.hashes)(hl:e.hashes.length<=1000000)(h:DI e.hashes c.number=true):BC prog 321 [ptr wb 0] [Bk wb ob c b,Br ob e p3 p5 p6 (is v),An 3 1 (e.hashes.map fun n=>[int n]) v] (int 0) [Bk wb ob c ⟨b.AZ,9,c.number,b.at_,b.CO⟩,Br ob e p3 p5 p6 (ints (e.hashes.eraseIdx (Dl e.hashes c.number)))]:=by
 refine BC.of func321 rfl rfl Ag fun M0 w0 S rs M1 w1=>?_;refine ac ?_;refine ap ?_;refine TO.Df _ rfl rfl AB rfl (mM (e:=e) (c:=c) (b:=b) hs hl h) ⟨kq,kz⟩ ((AM (j:=0) rfl).trans (List.Perm.cons _ ((AM (j:=0) rfl).trans (List.Perm.cons _ ((AM (j:=0) rfl).trans (List.Perm.cons _ (List.Perm.refl _))))))) ?_;refine ap ?_;refine Tr.ret (Fin.Cl rfl (AL.tmp rfl Lr) ?_ (List.Perm.refl _))
 .exact Lr
theorem QS{c b:Bl}{cb:Nat}{n:Int}(h:n=c.number):BC prog 356 [ptr wb 0,ptr cb 0] [Bk wb ob c b,AE true cb 3 [int n]] (int 41) [Bk wb ob c b,AE true cb 3 [int n]]:=by
 refine BC.of func356 rfl rfl Ag fun M0 w0 S rs M1 w1=>?_;refine ac ?_;refine an ?_ ?_<;>intro h1 q1
 refine ac ?_;refine Tr.ret (Fin.AF (Fin.Cl rfl (AL.tmp rfl Lr) ?_ (List.Perm.refl _)))
 .exact Lr
 exfalso;have:=q1;omega
theorem QT{c b:Bl}{cb:Nat}{n:Int}(h:n≠c.number):BC prog 356 [ptr wb 0,ptr cb 0] [Bk wb ob c b,AE true cb 3 [int n]] (int 0) [Bk wb ob c ⟨b.AZ,c.kind,n,b.at_,b.CO⟩,AE true cb 3 [int c.number]]:=by
 refine BC.of func356 rfl rfl Ag fun M0 w0 S rs M1 w1=>?_;refine ac ?_;refine an ?_ ?_<;>intro h1 q1
 exfalso;have:=q1;omega;refine ac ?_;refine Tr.seq (Tr.rx ?_);refine ay ?_;refine Cx.nil ⟨by kernel_rfl,?_⟩;refine BG.done ko (Fin.go (wk [1,0] rfl ?_));refine ap ?_;refine ac ?_;refine Tr.ret (Fin.Cl rfl (AL.tmp rfl Lr) ?_ (List.Perm.refl _))
 .exact Lr
theorem ZO{c b:Bl}(h:e.most=c.number):BC prog 356 [ptr wb 0,ptr ob 2] [Bk wb ob c b,Br ob e p3 p5 p6 p7] (int 41) [Bk wb ob c b,Br ob e p3 p5 p6 p7]:=by
 refine BC.of func356 rfl rfl Ag fun M0 w0 S rs M1 w1=>?_;refine ac ?_;refine an ?_ ?_<;>intro h1 q1
 refine ac ?_;refine Tr.ret (Fin.AF (Fin.Cl rfl (AL.tmp rfl Lr) ?_ (List.Perm.refl _)))
 .exact Lr
 exfalso;have:=q1;omega
theorem ZP{c b:Bl}(h:e.most≠c.number):BC prog 356 [ptr wb 0,ptr ob 2] [Bk wb ob c b,Br ob e p3 p5 p6 p7] (int 0) [Bk wb ob c ⟨b.AZ,c.kind,e.most,b.at_,b.CO⟩,Br ob { e with most:=c.number } p3 p5 p6 p7]:=by
 refine BC.of func356 rfl rfl Ag fun M0 w0 S rs M1 w1=>?_;refine ac ?_;refine an ?_ ?_<;>intro h1 q1
 exfalso;have:=q1;omega;refine ac ?_;refine Tr.seq (Tr.rx ?_);refine ay ?_;refine Cx.nil ⟨by kernel_rfl,?_⟩;refine BG.done ko (Fin.go (wk [1,0] rfl ?_));refine ap ?_;refine ac ?_;refine Tr.ret (Fin.Cl rfl (AL.tmp rfl Lr) ?_ (List.Perm.refl _))
 .exact Lr
theorem XJ{c b:Bl}(h:e.most=c.number):BC prog 314 [ptr wb 0] [Bk wb ob c b,Br ob e p3 p5 p6 p7] (int 41) []:=by
 refine BC.of func314 rfl rfl Ag fun M0 w0 S rs M1 w1=>?_;refine ac ?_;refine ap ?_;refine TO.Df _ rfl rfl AB rfl (ZO (e:=e) (c:=c) (b:=b) h) ⟨kq,kz⟩ ((AM (j:=0) rfl).trans (List.Perm.cons _ ((AM (j:=0) rfl).trans (List.Perm.cons _ (List.Perm.refl _))))) ?_;refine ap ?_;refine Tr.ret (Fin.drop 0 (Fin.drop 0 (Fin.Cl rfl (AL.tmp rfl Lr) ?_ (List.Perm.refl _))))
 .exact Lr
theorem XK{c b:Bl}(h:e.most≠c.number):BC prog 314 [ptr wb 0] [Bk wb ob c b,Br ob e p3 p5 p6 p7] (int 0) [Bk wb ob c ⟨b.AZ,c.kind,e.most,b.at_,b.CO⟩,Br ob { e with most:=c.number } p3 p5 p6 p7]:=by
 refine BC.of func314 rfl rfl Ag fun M0 w0 S rs M1 w1=>?_;refine ac ?_;refine ap ?_;refine TO.Df _ rfl rfl AB rfl (ZP (e:=e) (c:=c) (b:=b) h) ⟨kq,kz⟩ ((AM (j:=0) rfl).trans (List.Perm.cons _ ((AM (j:=0) rfl).trans (List.Perm.cons _ (List.Perm.refl _))))) ?_;refine ap ?_;refine Tr.ret (Fin.Cl rfl (AL.tmp rfl Lr) ?_ (List.Perm.refl _))
 .exact Lr
theorem XL{c b:Bl}(h:e.least=c.number):BC prog 356 [ptr wb 0,ptr ob 1] [Bk wb ob c b,Br ob e p3 p5 p6 p7] (int 41) [Bk wb ob c b,Br ob e p3 p5 p6 p7]:=by
 refine BC.of func356 rfl rfl Ag fun M0 w0 S rs M1 w1=>?_;refine ac ?_;refine an ?_ ?_<;>intro h1 q1
 refine ac ?_;refine Tr.ret (Fin.AF (Fin.Cl rfl (AL.tmp rfl Lr) ?_ (List.Perm.refl _)))
 .exact Lr
 exfalso;have:=q1;omega
theorem XM{c b:Bl}(h:e.least≠c.number):BC prog 356 [ptr wb 0,ptr ob 1] [Bk wb ob c b,Br ob e p3 p5 p6 p7] (int 0) [Bk wb ob c ⟨b.AZ,c.kind,e.least,b.at_,b.CO⟩,Br ob { e with least:=c.number } p3 p5 p6 p7]:=by
 refine BC.of func356 rfl rfl Ag fun M0 w0 S rs M1 w1=>?_;refine ac ?_;refine an ?_ ?_<;>intro h1 q1
 exfalso;have:=q1;omega;refine ac ?_;refine Tr.seq (Tr.rx ?_);refine ay ?_;refine Cx.nil ⟨by kernel_rfl,?_⟩;refine BG.done ko (Fin.go (wk [1,0] rfl ?_));refine ap ?_;refine ac ?_;refine Tr.ret (Fin.Cl rfl (AL.tmp rfl Lr) ?_ (List.Perm.refl _))
 .exact Lr
theorem Vb{c b:Bl}(h:e.least=c.number):BC prog 315 [ptr wb 0] [Bk wb ob c b,Br ob e p3 p5 p6 p7] (int 41) []:=by
 refine BC.of func315 rfl rfl Ag fun M0 w0 S rs M1 w1=>?_;refine ac ?_;refine ap ?_;refine TO.Df _ rfl rfl AB rfl (XL (e:=e) (c:=c) (b:=b) h) ⟨kq,kz⟩ ((AM (j:=0) rfl).trans (List.Perm.cons _ ((AM (j:=0) rfl).trans (List.Perm.cons _ (List.Perm.refl _))))) ?_;refine ap ?_;refine Tr.ret (Fin.drop 0 (Fin.drop 0 (Fin.Cl rfl (AL.tmp rfl Lr) ?_ (List.Perm.refl _))))
 .exact Lr
theorem Vc{c b:Bl}(h:e.least≠c.number):BC prog 315 [ptr wb 0] [Bk wb ob c b,Br ob e p3 p5 p6 p7] (int 0) [Bk wb ob c ⟨b.AZ,c.kind,e.least,b.at_,b.CO⟩,Br ob { e with least:=c.number } p3 p5 p6 p7]:=by
 refine BC.of func315 rfl rfl Ag fun M0 w0 S rs M1 w1=>?_;refine ac ?_;refine ap ?_;refine TO.Df _ rfl rfl AB rfl (XM (e:=e) (c:=c) (b:=b) h) ⟨kq,kz⟩ ((AM (j:=0) rfl).trans (List.Perm.cons _ ((AM (j:=0) rfl).trans (List.Perm.cons _ (List.Perm.refl _))))) ?_;refine ap ?_;refine Tr.ret (Fin.Cl rfl (AL.tmp rfl Lr) ?_ (List.Perm.refl _))
 .exact Lr
abbrev FB(b:Bool):Int:=if b then 1 else 0
theorem Pg{c b:Bl}(hr:¬(0<=c.number/\c.number<=1)):BC prog 364 [ptr wb 0,ptr ob 8] [Bk wb ob c b,Br ob e p3 p5 p6 p7] (int 2) []:=by
 refine BC.of func364 rfl rfl Ag fun M0 w0 S rs M1 w1=>?_;refine ac ?_;refine ag ?_ ?_<;>intro h1 q1
 have AGZ:=q1;refine ac ?_;refine wk [20,1,0] rfl ?_;refine ac ?_;refine Tr.ret (Fin.AF (Fin.drop 0 (Fin.drop 0 (Fin.Cl rfl (AL.tmp rfl Lr) ?_ (List.Perm.refl _)))))
 .exact Lr
 refine ac ?_;refine wk [20,1,0] rfl ?_;refine Tr.cn rfl ?_ ?_<;>intro h2 q2
 refine ac ?_;refine Tr.ret (Fin.AF (Fin.drop 0 (Fin.drop 0 (Fin.Cl rfl (AL.tmp rfl Lr) ?_ (List.Perm.refl _)))))
 .exact Lr
 exfalso;simp_all
theorem Ph{c b:Bl}(hr:¬(0<=c.number/\c.number<=1)):BC prog 322 [ptr wb 0] [Bk wb ob c b,Br ob e p3 p5 p6 p7] (int 2) []:=by
 refine BC.of func322 rfl rfl Ag fun M0 w0 S rs M1 w1=>?_;refine ac ?_;refine ap ?_;refine TO.Df _ rfl rfl AB rfl (Pg (e:=e) (c:=c) (b:=b) hr) ⟨kq,kz⟩ ((AM (j:=0) rfl).trans (List.Perm.cons _ ((AM (j:=0) rfl).trans (List.Perm.cons _ (List.Perm.refl _))))) ?_;refine ap ?_;refine Tr.ret (Fin.Cl rfl (AL.tmp rfl Lr) ?_ (List.Perm.refl _))
 .exact Lr
theorem Pj{c b:Bl}{k:Int}(hr:0<=c.number/\c.number<=1)(hk:FB e.HQ=k)(h:k=c.number):BC prog 364 [ptr wb 0,ptr ob 8] [Bk wb ob c b,Br ob e p3 p5 p6 p7] (int 41) []:=by
 refine BC.of func364 rfl rfl Ag fun M0 w0 S rs M1 w1=>?_;refine ac ?_;refine ag ?_ ?_<;>intro h1 q1
 exfalso;have:=q1;omega;refine ac ?_;refine wk [20,1,0] rfl ?_;refine Tr.cn rfl ?_ ?_<;>intro h2 q2
 exfalso;simp_all;omega;refine ac ?_;refine Tr.seq (Tr.At ?_);refine Tl rfl rfl rfl rfl z3 zo3 (fun b1=>?_);refine ap ?_;refine an ?_ ?_<;>intro h3 q3
 obtain rfl:k=1:=by rw[←hk];unfold FB;simp_all
 refine ap ?_;refine ap ?_;refine TO.Df _ rfl rfl AB rfl (QS (c:=c) (b:=b) h) ⟨kq,kz⟩ ((AM (j:=1) rfl).trans (List.Perm.cons _ ((AM (j:=0) rfl).trans (List.Perm.cons _ (List.Perm.refl _))))) ?_;refine ap ?_;refine ap ?_;refine Tr.drop 1 (wk [6] rfl ?_);refine ac ?_;refine Tr.ret (Fin.drop 0 (Fin.drop 0 (Fin.Cl rfl (AL.tmp rfl Lr) ?_ (List.Perm.refl _))))
 .exact Lr
 obtain rfl:k=0:=by rw[←hk];unfold FB;simp_all
 refine ac ?_;refine ap ?_;refine TO.Df _ rfl rfl AB rfl (QS (c:=c) (b:=b) h) ⟨kq,kz⟩ ((AM (j:=1) rfl).trans (List.Perm.cons _ ((AM (j:=0) rfl).trans (List.Perm.cons _ (List.Perm.refl _))))) ?_;refine ap ?_;refine ap ?_;refine Tr.drop 1 (wk [6] rfl ?_);refine ac ?_;refine Tr.ret (Fin.drop 0 (Fin.drop 0 (Fin.Cl rfl (AL.tmp rfl Lr) ?_ (List.Perm.refl _))))
 .exact Lr
theorem Pk{c b:Bl}{k:Int}(hr:0<=c.number/\c.number<=1)(hk:FB e.HQ=k)(h:k=c.number):BC prog 322 [ptr wb 0] [Bk wb ob c b,Br ob e p3 p5 p6 p7] (int 41) []:=by
 refine BC.of func322 rfl rfl Ag fun M0 w0 S rs M1 w1=>?_;refine ac ?_;refine ap ?_;refine TO.Df _ rfl rfl AB rfl (Pj (e:=e) (c:=c) (b:=b) hr hk h) ⟨kq,kz⟩ ((AM (j:=0) rfl).trans (List.Perm.cons _ ((AM (j:=0) rfl).trans (List.Perm.cons _ (List.Perm.refl _))))) ?_;refine ap ?_;refine Tr.ret (Fin.Cl rfl (AL.tmp rfl Lr) ?_ (List.Perm.refl _))
 .exact Lr
theorem Pm{c b:Bl}{k:Int}(hr:0<=c.number/\c.number<=1)(hk:FB e.HQ=k)(h:k≠c.number):BC prog 364 [ptr wb 0,ptr ob 8] [Bk wb ob c b,Br ob e p3 p5 p6 p7] (int 0) [Bk wb ob c ⟨b.AZ,c.kind,k,b.at_,b.CO⟩,Br ob { e with HQ:=(c.number==1) } p3 p5 p6 p7]:=by
 refine BC.of func364 rfl rfl Ag fun M0 w0 S rs M1 w1=>?_;refine ac ?_;refine ag ?_ ?_<;>intro h1 q1
 exfalso;have:=q1;omega;refine ac ?_;refine wk [20,1,0] rfl ?_;refine Tr.cn rfl ?_ ?_<;>intro h2 q2
 exfalso;simp_all;omega;refine ac ?_;refine Tr.seq (Tr.At ?_);refine Tl rfl rfl rfl rfl z3 zo3 (fun b1=>?_);refine ap ?_;refine an ?_ ?_<;>intro h3 q3
 obtain rfl:k=1:=by rw[←hk];unfold FB;simp_all
 refine ap ?_;refine ap ?_;refine TO.Df _ rfl rfl AB rfl (QT (c:=c) (b:=b) h) ⟨kq,kz⟩ ((AM (j:=1) rfl).trans (List.Perm.cons _ ((AM (j:=0) rfl).trans (List.Perm.cons _ (List.Perm.refl _))))) ?_;refine ap ?_;refine ap ?_;refine Tr.drop 1 (wk [6] rfl ?_);refine ac ?_;refine Tr.ret (Fin.Cl rfl (AL.tmp rfl Lr) ?_ (List.Perm.refl _))
 .exact Lr
 obtain rfl:k=0:=by rw[←hk];unfold FB;simp_all
 refine ac ?_;refine ap ?_;refine TO.Df _ rfl rfl AB rfl (QT (c:=c) (b:=b) h) ⟨kq,kz⟩ ((AM (j:=1) rfl).trans (List.Perm.cons _ ((AM (j:=0) rfl).trans (List.Perm.cons _ (List.Perm.refl _))))) ?_;refine ap ?_;refine ap ?_;refine Tr.drop 1 (wk [6] rfl ?_);refine ac ?_;refine Tr.ret (Fin.Cl rfl (AL.tmp rfl Lr) ?_ (List.Perm.refl _))
 .exact Lr
theorem Pn{c b:Bl}{k:Int}(hr:0<=c.number/\c.number<=1)(hk:FB e.HQ=k)(h:k≠c.number):BC prog 322 [ptr wb 0] [Bk wb ob c b,Br ob e p3 p5 p6 p7] (int 0) [Bk wb ob c ⟨b.AZ,c.kind,k,b.at_,b.CO⟩,Br ob { e with HQ:=(c.number==1) } p3 p5 p6 p7]:=by
 refine BC.of func322 rfl rfl Ag fun M0 w0 S rs M1 w1=>?_;refine ac ?_;refine ap ?_;refine TO.Df _ rfl rfl AB rfl (Pm (e:=e) (c:=c) (b:=b) hr hk h) ⟨kq,kz⟩ ((AM (j:=0) rfl).trans (List.Perm.cons _ ((AM (j:=0) rfl).trans (List.Perm.cons _ (List.Perm.refl _))))) ?_;refine ap ?_;refine Tr.ret (Fin.Cl rfl (AL.tmp rfl Lr) ?_ (List.Perm.refl _))
 .exact Lr
theorem Vd{c b:Bl}(hr:¬(0<=c.number/\c.number<=1)):BC prog 364 [ptr wb 0,ptr ob 4] [Bk wb ob c b,Br ob e p3 p5 p6 p7] (int 2) []:=by
 refine BC.of func364 rfl rfl Ag fun M0 w0 S rs M1 w1=>?_;refine ac ?_;refine ag ?_ ?_<;>intro h1 q1
 have AGZ:=q1;refine ac ?_;refine wk [20,1,0] rfl ?_;refine ac ?_;refine Tr.ret (Fin.AF (Fin.drop 0 (Fin.drop 0 (Fin.Cl rfl (AL.tmp rfl Lr) ?_ (List.Perm.refl _)))))
 .exact Lr
 refine ac ?_;refine wk [20,1,0] rfl ?_;refine Tr.cn rfl ?_ ?_<;>intro h2 q2
 refine ac ?_;refine Tr.ret (Fin.AF (Fin.drop 0 (Fin.drop 0 (Fin.Cl rfl (AL.tmp rfl Lr) ?_ (List.Perm.refl _)))))
 .exact Lr
 exfalso;simp_all
theorem Ve{c b:Bl}(hr:¬(0<=c.number/\c.number<=1)):BC prog 323 [ptr wb 0] [Bk wb ob c b,Br ob e p3 p5 p6 p7] (int 2) []:=by
 refine BC.of func323 rfl rfl Ag fun M0 w0 S rs M1 w1=>?_;refine ac ?_;refine ap ?_;refine TO.Df _ rfl rfl AB rfl (Vd (e:=e) (c:=c) (b:=b) hr) ⟨kq,kz⟩ ((AM (j:=0) rfl).trans (List.Perm.cons _ ((AM (j:=0) rfl).trans (List.Perm.cons _ (List.Perm.refl _))))) ?_;refine ap ?_;refine Tr.ret (Fin.Cl rfl (AL.tmp rfl Lr) ?_ (List.Perm.refl _))
 .exact Lr
theorem Vf{c b:Bl}{k:Int}(hr:0<=c.number/\c.number<=1)(hk:FB e.own=k)(h:k=c.number):BC prog 364 [ptr wb 0,ptr ob 4] [Bk wb ob c b,Br ob e p3 p5 p6 p7] (int 41) []:=by
 refine BC.of func364 rfl rfl Ag fun M0 w0 S rs M1 w1=>?_;refine ac ?_;refine ag ?_ ?_<;>intro h1 q1
 exfalso;have:=q1;omega;refine ac ?_;refine wk [20,1,0] rfl ?_;refine Tr.cn rfl ?_ ?_<;>intro h2 q2
 exfalso;simp_all;omega;refine ac ?_;refine Tr.seq (Tr.At ?_);refine Tl rfl rfl rfl rfl z3 zo3 (fun b1=>?_);refine ap ?_;refine an ?_ ?_<;>intro h3 q3
 obtain rfl:k=1:=by rw[←hk];unfold FB;simp_all
 refine ap ?_;refine ap ?_;refine TO.Df _ rfl rfl AB rfl (QS (c:=c) (b:=b) h) ⟨kq,kz⟩ ((AM (j:=1) rfl).trans (List.Perm.cons _ ((AM (j:=0) rfl).trans (List.Perm.cons _ (List.Perm.refl _))))) ?_;refine ap ?_;refine ap ?_;refine Tr.drop 1 (wk [6] rfl ?_);refine ac ?_;refine Tr.ret (Fin.drop 0 (Fin.drop 0 (Fin.Cl rfl (AL.tmp rfl Lr) ?_ (List.Perm.refl _))))
 .exact Lr
 obtain rfl:k=0:=by rw[←hk];unfold FB;simp_all
 refine ac ?_;refine ap ?_;refine TO.Df _ rfl rfl AB rfl (QS (c:=c) (b:=b) h) ⟨kq,kz⟩ ((AM (j:=1) rfl).trans (List.Perm.cons _ ((AM (j:=0) rfl).trans (List.Perm.cons _ (List.Perm.refl _))))) ?_;refine ap ?_;refine ap ?_;refine Tr.drop 1 (wk [6] rfl ?_);refine ac ?_;refine Tr.ret (Fin.drop 0 (Fin.drop 0 (Fin.Cl rfl (AL.tmp rfl Lr) ?_ (List.Perm.refl _))))
 .exact Lr
theorem Vg{c b:Bl}{k:Int}(hr:0<=c.number/\c.number<=1)(hk:FB e.own=k)(h:k=c.number):BC prog 323 [ptr wb 0] [Bk wb ob c b,Br ob e p3 p5 p6 p7] (int 41) []:=by
 refine BC.of func323 rfl rfl Ag fun M0 w0 S rs M1 w1=>?_;refine ac ?_;refine ap ?_;refine TO.Df _ rfl rfl AB rfl (Vf (e:=e) (c:=c) (b:=b) hr hk h) ⟨kq,kz⟩ ((AM (j:=0) rfl).trans (List.Perm.cons _ ((AM (j:=0) rfl).trans (List.Perm.cons _ (List.Perm.refl _))))) ?_;refine ap ?_;refine Tr.ret (Fin.Cl rfl (AL.tmp rfl Lr) ?_ (List.Perm.refl _))
 .exact Lr
theorem Vh{c b:Bl}{k:Int}(hr:0<=c.number/\c.number<=1)(hk:FB e.own=k)(h:k≠c.number):BC prog 364 [ptr wb 0,ptr ob 4] [Bk wb ob c b,Br ob e p3 p5 p6 p7] (int 0) [Bk wb ob c ⟨b.AZ,c.kind,k,b.at_,b.CO⟩,Br ob { e with own:=(c.number==1) } p3 p5 p6 p7]:=by
 refine BC.of func364 rfl rfl Ag fun M0 w0 S rs M1 w1=>?_;refine ac ?_;refine ag ?_ ?_<;>intro h1 q1
 exfalso;have:=q1;omega;refine ac ?_;refine wk [20,1,0] rfl ?_;refine Tr.cn rfl ?_ ?_<;>intro h2 q2
 exfalso;simp_all;omega;refine ac ?_;refine Tr.seq (Tr.At ?_);refine Tl rfl rfl rfl rfl z3 zo3 (fun b1=>?_);refine ap ?_;refine an ?_ ?_<;>intro h3 q3
 obtain rfl:k=1:=by rw[←hk];unfold FB;simp_all
 refine ap ?_;refine ap ?_;refine TO.Df _ rfl rfl AB rfl (QT (c:=c) (b:=b) h) ⟨kq,kz⟩ ((AM (j:=1) rfl).trans (List.Perm.cons _ ((AM (j:=0) rfl).trans (List.Perm.cons _ (List.Perm.refl _))))) ?_;refine ap ?_;refine ap ?_;refine Tr.drop 1 (wk [6] rfl ?_);refine ac ?_;refine Tr.ret (Fin.Cl rfl (AL.tmp rfl Lr) ?_ (List.Perm.refl _))
 .exact Lr
 obtain rfl:k=0:=by rw[←hk];unfold FB;simp_all
 refine ac ?_;refine ap ?_;refine TO.Df _ rfl rfl AB rfl (QT (c:=c) (b:=b) h) ⟨kq,kz⟩ ((AM (j:=1) rfl).trans (List.Perm.cons _ ((AM (j:=0) rfl).trans (List.Perm.cons _ (List.Perm.refl _))))) ?_;refine ap ?_;refine ap ?_;refine Tr.drop 1 (wk [6] rfl ?_);refine ac ?_;refine Tr.ret (Fin.Cl rfl (AL.tmp rfl Lr) ?_ (List.Perm.refl _))
 .exact Lr
theorem Vi{c b:Bl}{k:Int}(hr:0<=c.number/\c.number<=1)(hk:FB e.own=k)(h:k≠c.number):BC prog 323 [ptr wb 0] [Bk wb ob c b,Br ob e p3 p5 p6 p7] (int 0) [Bk wb ob c ⟨b.AZ,c.kind,k,b.at_,b.CO⟩,Br ob { e with own:=(c.number==1) } p3 p5 p6 p7]:=by
 refine BC.of func323 rfl rfl Ag fun M0 w0 S rs M1 w1=>?_;refine ac ?_;refine ap ?_;refine TO.Df _ rfl rfl AB rfl (Vh (e:=e) (c:=c) (b:=b) hr hk h) ⟨kq,kz⟩ ((AM (j:=0) rfl).trans (List.Perm.cons _ ((AM (j:=0) rfl).trans (List.Perm.cons _ (List.Perm.refl _))))) ?_;refine ap ?_;refine Tr.ret (Fin.Cl rfl (AL.tmp rfl Lr) ?_ (List.Perm.refl _))
 .exact Lr
theorem mN(Cb:e.small):KR prog 162 [agg (As e)] (fun x=>agg (mD e (ints e.AR) (G7 e.ids) (is x) (ints e.hashes))) (fun x=>[An 3 1 (e.anchors.map fun n=>[int n]) x]):=by
 refine KR.of func162 rfl rfl Ag fun M0 w0 S rs M1 w1=>?_;have hs1:=Cb.AR;have N2:=Cb.anchors;have YM:=Cb.hashes;have jD:=Cb.SY;refine Tr.seq (Tr.At ?_);refine TO.Iu rfl rfl AB rfl CM (fun b1=>?_);refine Tl rfl rfl rfl rfl HU Dn (fun b2=>?_);refine ao ?_;refine Tr.seq (Tr.pad (Tr.pad (Tr.rx ?_)));refine ax ?_;refine xo rfl (fun _=>BS (Dy (l:=e.AR) hs1) rfl rfl) ?_;refine ax ?_;refine Cx.ef 0 rfl rfl AB (EI rfl rfl AB rfl (OW (l:=e.anchors) N2) kz) ?_;refine ax ?_;refine xo rfl (fun _=>BS (Dy (l:=e.hashes) YM) rfl rfl) ?_;refine ax ?_;refine Cx.ef 1 rfl rfl AB (EI rfl rfl AB rfl (I9 (l:=e.ids) jD) kz) ?_;refine xo rfl (fun _=>AG rfl GG vq) (Cx.ED 3 rfl rfl (BP rfl rfl vq Cf HO rfl Ag rfl) (xo rfl (fun _=>AG rfl MB vq) (Cx.ED 3 rfl rfl (EL rfl rfl rfl vq rfl HO Ag) (xo rfl (fun _=>AG rfl MC vq) (Cx.ED 3 rfl rfl (OQ rfl rfl rfl vq Cf HO rfl (fun _=>by exact Nat.le_of_ble_eq_true rfl)) (xo rfl (fun _=>AG rfl Ge vq) (Cx.ED 3 rfl rfl (OP rfl rfl rfl vq rfl Sj (fun _=>by exact Nat.le_of_ble_eq_true rfl)) ?_)))))));refine Cx.nil ⟨by kernel_rfl,?_⟩;refine BG.kU 0 1 3 10 16 rfl rfl rfl AB AB AB AB rfl rfl (fun v1 v2=>?_);refine BG.done al5 (Fin.go (wk [2,1] rfl ?_));refine ac ?_;refine co rfl (Bi 1 rfl (GJ rfl underlying71 E4)) ?_;refine ac ?_;refine Tr.block (Tr.re 23 rfl (int_eq JM) (Tr.BV _ (kk [23,22,2,1] rfl) (fun k:Nat=>[(24,int ((k:Nat):Int))]) (fun k:Nat=>k<=(e.ids).length) (fun k:Nat=>(e.ids).length-k) 0 (Nat.zero_le _) kz ?_));rintro k BN;refine ac ?_;refine Tr.seq ?_;refine Tr.cn rfl ?_ ?_<;>intro h1 q1
 have Ae:k<(e.ids).length:=AQ h1;obtain⟨x,Ad⟩:=at_ Ae;have hxs:=Cb.ids x (List.mem_of_getElem? Ad);refine ac ?_;refine ao ?_;refine tp rfl (Bi 1 rfl (FH rfl underlying71 B8 E4 vq AA Cg)) ?_;refine tp rfl (Bi 1 rfl (Fv rfl G5 B8 vq (Ar fun _=>rfl) G_)) ?_;refine Tl rfl rfl rfl rfl NH MD (fun b3=>?_);refine tm rfl ?_;refine sf 0 4 ⟨rfl,rfl,rfl⟩ rfl rfl rfl rfl ?_;refine ao ?_;refine Tr.rx ?_;refine ax ?_;refine xo rfl (fun _=>BS (GM hxs) rfl rfl) ?_;refine Jv 1 rfl rfl (FH rfl underlying71 B8 E4 vq AA Cg) ?_;refine Cx.ED 1 rfl rfl (E3 rfl rfl vq CM B8 rfl (Ar fun _=>rfl) G_ AB (I6 (f:=BT) (q:=0) (m:=4) Ad rfl)) ?_;refine Cx.nil ⟨by kernel_rfl,?_⟩;refine BG.done al5 ?_;refine ac ?_;refine wk [24,23,22,2,1] rfl ?_;refine ac ?_;exact Fin.AP (k+1) ⟨Ae,by omega⟩ ⟨⟨_,rfl,AK k⟩,kz⟩;have BA:k=(e.ids).length:=by have:=AU h1;omega
 subst BA;refine ac ?_;refine Tr.seq (Tr.II 3 1 5 rfl rfl AB rfl (Cy _ _) (Ar fun _=>rfl) ?_);refine ao ?_;refine TO.Ac 2 rfl rfl rfl vq CM rfl Bj rfl rfl ?_;refine ao ?_;refine Tr.drop 1 (Tr.drop 2 (Tr.ret (Fin.OR (Fin.fI v1 [_] rfl (AL.cell 0 rfl rfl Bw Bj rfl Lr) ?_ (List.Perm.refl _)))))
 .exact Az ⟨Lr,Lr,Lr,Lr,Lr,Lr,Cy _ _,Lr,Lr,trivial⟩
theorem mO(Cb:e.small):KR prog 162 [agg (As e)] (fun x=>agg (mD e (ints e.AR) (G7 e.ids) (ints e.anchors) (is x))) (fun x=>[An 3 1 (e.hashes.map fun n=>[int n]) x]):=by
 refine KR.of func162 rfl rfl Ag fun M0 w0 S rs M1 w1=>?_;have hs1:=Cb.AR;have N2:=Cb.anchors;have YM:=Cb.hashes;have jD:=Cb.SY;refine Tr.seq (Tr.At ?_);refine TO.Iu rfl rfl AB rfl CM (fun b1=>?_);refine Tl rfl rfl rfl rfl HU Dn (fun b2=>?_);refine ao ?_;refine Tr.seq (Tr.pad (Tr.pad (Tr.rx ?_)));refine ax ?_;refine xo rfl (fun _=>BS (Dy (l:=e.AR) hs1) rfl rfl) ?_;refine ax ?_;refine xo rfl (fun _=>BS (Dy (l:=e.anchors) N2) rfl rfl) ?_;refine ax ?_;refine Cx.ef 0 rfl rfl AB (EI rfl rfl AB rfl (OW (l:=e.hashes) YM) kz) ?_;refine ax ?_;refine Cx.ef 1 rfl rfl AB (EI rfl rfl AB rfl (I9 (l:=e.ids) jD) kz) ?_;refine xo rfl (fun _=>AG rfl GG vq) (Cx.ED 3 rfl rfl (BP rfl rfl vq Cf HO rfl Ag rfl) (xo rfl (fun _=>AG rfl MB vq) (Cx.ED 3 rfl rfl (BP rfl rfl vq Cf HO rfl Ag rfl) (xo rfl (fun _=>AG rfl MC vq) (Cx.ED 3 rfl rfl (EL rfl rfl rfl vq rfl HO Ag) (xo rfl (fun _=>AG rfl Ge vq) (Cx.ED 3 rfl rfl (OP rfl rfl rfl vq rfl Sj (fun _=>by exact Nat.le_of_ble_eq_true rfl)) ?_)))))));refine Cx.nil ⟨by kernel_rfl,?_⟩;refine BG.kU 0 1 3 13 16 rfl rfl rfl AB AB AB AB rfl rfl (fun v1 v2=>?_);refine BG.done al5 (Fin.go (wk [2,1] rfl ?_));refine ac ?_;refine co rfl (Bi 1 rfl (GJ rfl underlying71 E4)) ?_;refine ac ?_;refine Tr.block (Tr.re 23 rfl (int_eq JM) (Tr.BV _ (kk [23,22,2,1] rfl) (fun k:Nat=>[(24,int ((k:Nat):Int))]) (fun k:Nat=>k<=(e.ids).length) (fun k:Nat=>(e.ids).length-k) 0 (Nat.zero_le _) kz ?_));rintro k BN;refine ac ?_;refine Tr.seq ?_;refine Tr.cn rfl ?_ ?_<;>intro h1 q1
 have Ae:k<(e.ids).length:=AQ h1;obtain⟨x,Ad⟩:=at_ Ae;have hxs:=Cb.ids x (List.mem_of_getElem? Ad);refine ac ?_;refine ao ?_;refine tp rfl (Bi 1 rfl (FH rfl underlying71 B8 E4 vq AA Cg)) ?_;refine tp rfl (Bi 1 rfl (Fv rfl G5 B8 vq (Ar fun _=>rfl) G_)) ?_;refine Tl rfl rfl rfl rfl NH MD (fun b3=>?_);refine tm rfl ?_;refine sf 0 4 ⟨rfl,rfl,rfl⟩ rfl rfl rfl rfl ?_;refine ao ?_;refine Tr.rx ?_;refine ax ?_;refine xo rfl (fun _=>BS (GM hxs) rfl rfl) ?_;refine Jv 1 rfl rfl (FH rfl underlying71 B8 E4 vq AA Cg) ?_;refine Cx.ED 1 rfl rfl (E3 rfl rfl vq CM B8 rfl (Ar fun _=>rfl) G_ AB (I6 (f:=BT) (q:=0) (m:=4) Ad rfl)) ?_;refine Cx.nil ⟨by kernel_rfl,?_⟩;refine BG.done al5 ?_;refine ac ?_;refine wk [24,23,22,2,1] rfl ?_;refine ac ?_;exact Fin.AP (k+1) ⟨Ae,by omega⟩ ⟨⟨_,rfl,AK k⟩,kz⟩;have BA:k=(e.ids).length:=by have:=AU h1;omega
 subst BA;refine ac ?_;refine Tr.seq (Tr.II 3 1 5 rfl rfl AB rfl (Cy _ _) (Ar fun _=>rfl) ?_);refine ao ?_;refine TO.Ac 2 rfl rfl rfl vq CM rfl Bj rfl rfl ?_;refine ao ?_;refine Tr.drop 1 (Tr.drop 2 (Tr.ret (Fin.OR (Fin.fI v1 [_] rfl (AL.cell 0 rfl rfl Bw Bj rfl Lr) ?_ (List.Perm.refl _)))))
 .exact Az ⟨Lr,Lr,Lr,Lr,Lr,Lr,Lr,Cy _ _,Lr,trivial⟩
theorem XN(Cb:e.small):Aq prog 162 [agg (As e)] (agg (As e)):=by
 refine fo func162 rfl ⟨rfl,rfl⟩ fun M0 w0=>?_;have hs1:=Cb.AR;have N2:=Cb.anchors;have YM:=Cb.hashes;have jD:=Cb.SY;refine Tr.seq (Tr.At ?_);refine TO.Iu rfl rfl AB rfl CM (fun b1=>?_);refine Tl rfl rfl rfl rfl HU Dn (fun b2=>?_);refine ao ?_;refine Tr.seq (Tr.pad (Tr.rx ?_));refine ax ?_;refine xo rfl (fun _=>BS (Dy (l:=e.AR) hs1) rfl rfl) ?_;refine ax ?_;refine xo rfl (fun _=>BS (Dy (l:=e.anchors) N2) rfl rfl) ?_;refine ax ?_;refine xo rfl (fun _=>BS (Dy (l:=e.hashes) YM) rfl rfl) ?_;refine ax ?_;refine Cx.ef 0 rfl rfl AB (EI rfl rfl AB rfl (I9 (l:=e.ids) jD) kz) ?_;refine xo rfl (fun _=>AG rfl GG vq) (Cx.ED 2 rfl rfl (BP rfl rfl vq Cf HO rfl Ag rfl) (xo rfl (fun _=>AG rfl MB vq) (Cx.ED 2 rfl rfl (BP rfl rfl vq Cf HO rfl Ag rfl) (xo rfl (fun _=>AG rfl MC vq) (Cx.ED 2 rfl rfl (BP rfl rfl vq Cf HO rfl Ag rfl) (xo rfl (fun _=>AG rfl Ge vq) (Cx.ED 2 rfl rfl (EL rfl rfl rfl vq rfl Sj Ag) ?_)))))));refine Cx.nil ⟨by kernel_rfl,?_⟩;refine BG.RN 0 2 16 rfl rfl AB rfl (fun v1=>?_);refine BG.done ko (Fin.go (wk [2,1] rfl ?_));refine ac ?_;refine co rfl (Bi 0 rfl (GJ rfl underlying71 E4)) ?_;refine ac ?_;refine Tr.block (Tr.re 23 rfl (int_eq JM) (Tr.BV _ (kk [23,22,2,1] rfl) (fun k:Nat=>[(24,int ((k:Nat):Int))]) (fun k:Nat=>k<=(e.ids).length) (fun k:Nat=>(e.ids).length-k) 0 (Nat.zero_le _) kz ?_));rintro k BN;refine ac ?_;refine Tr.seq ?_;refine Tr.cn rfl ?_ ?_<;>intro h1 q1
 have Ae:k<(e.ids).length:=AQ h1;obtain⟨x,Ad⟩:=at_ Ae;have hxs:=Cb.ids x (List.mem_of_getElem? Ad);refine ac ?_;refine ao ?_;refine tp rfl (Bi 0 rfl (FH rfl underlying71 B8 E4 vq AA Cg)) ?_;refine tp rfl (Bi 0 rfl (Fv rfl G5 B8 vq (Ar fun _=>rfl) G_)) ?_;refine Tl rfl rfl rfl rfl NH MD (fun b3=>?_);refine tm rfl ?_;refine sf 0 4 ⟨rfl,rfl,rfl⟩ rfl rfl rfl rfl ?_;refine ao ?_;refine Tr.rx ?_;refine ax ?_;refine xo rfl (fun _=>BS (GM hxs) rfl rfl) ?_;refine Jv 0 rfl rfl (FH rfl underlying71 B8 E4 vq AA Cg) ?_;refine Cx.ED 0 rfl rfl (E3 rfl rfl vq CM B8 rfl (Ar fun _=>rfl) G_ AB (I6 (f:=BT) (q:=0) (m:=4) Ad rfl)) ?_;refine Cx.nil ⟨by kernel_rfl,?_⟩;refine BG.done ko ?_;refine ac ?_;refine wk [24,23,22,2,1] rfl ?_;refine ac ?_;exact Fin.AP (k+1) ⟨Ae,by omega⟩ ⟨⟨_,rfl,AK k⟩,kz⟩;have BA:k=(e.ids).length:=by have:=AU h1;omega
 subst BA;refine ac ?_;refine Tr.seq (Tr.II 2 0 5 rfl rfl AB rfl (Cy _ _) (Ar fun _=>rfl) ?_);refine ao ?_;refine TO.Ac 1 rfl rfl rfl vq CM rfl Bj rfl rfl ?_;refine ao ?_;refine Tr.drop 0 (Tr.drop 1 (Tr.ret (Fin.B4 rfl (AL.cell 0 rfl rfl Bw Bj rfl Lr) ?_)))
 .exact Lr
def Ca(e2:DY)(b:Bl)(err:Int):DY×Bl×Int:=if err≠0 then(BO,Bh,err)else if B5 e2=true then(e2,b,0)else(BO,Bh,18)
theorem XO{c b:Bl}{fk:Nat}{err:Int}(hf:e.fits)(Cb:e.small)(hce:B5 e=true)(hk:1<=c.kind/\c.kind<=12)(Na:KB c=true)(hkp:FJ[c.kind.toNat]? =some (fn (.func fk) []))(hbk:b.CO.small)(Sn:e2.fits)(hm:(err≠0/\∀(wb ob:Nat) (v:Value),BC prog fk [ptr wb 0] [Bk wb ob c (CH c),Br ob e (ints e.AR) (is v) (ints e.anchors) (ints e.hashes),An 78 4 (e.ids.map BT) v] (int err) [])\/(err=0/\∀(wb ob:Nat) (v:Value),BC prog fk [ptr wb 0] [Bk wb ob c (CH c),Br ob e (ints e.AR) (is v) (ints e.anchors) (ints e.hashes),An 78 4 (e.ids.map BT) v] (int 0) [Bk wb ob c b,AE true ob 73 (As e2)])):Aq prog 223 [agg (As e),agg (B7 c)] (EB [agg (As (Ca e2 b err).1),agg (B7 (Ca e2 b err).2.1),int (Ca e2 b err).2.2]):=by
 refine fo func223 rfl ⟨rfl,rfl⟩ fun M0 w0=>(Tr.seq (Tr.At (tp rfl (BE rfl CM) (tp rfl (BE rfl CM) ?_))));refine Tl rfl rfl rfl rfl HU Dn (fun b1=>?_);refine Tl rfl rfl rfl rfl I3 GS (fun b2=>?_);refine ap ?_;refine ac ?_;refine co rfl (BS (Dj hf) rfl rfl) ?_;refine an ?_ ?_<;>intro h1 q1
 exfalso;rw[if_pos hce]at h1;exact absurd h1 AB;refine ac ?_;refine ag ?_ ?_<;>intro h2 q2
 exfalso;have:=q2;omega;refine ag ?_ ?_<;>intro h3 q3
 exfalso;have:=q3;omega;refine cy h3 rfl (AO rfl Ck CD vq rfl rfl) ?_;refine cy h3 rfl (BS (OX (c:=c)) rfl rfl) ?_;refine ac ?_;refine wk [27,5,4,3,2] rfl ?_;refine Tr.cn rfl ?_ ?_<;>intro h4 q4
 rw[Na]at h4;exact absurd h4 AB;refine ac ?_;refine ap ?_;refine TO.Ri rfl rfl AB rfl (mF Cb) kz (fun v1=>?_);refine Tl rfl rfl rfl rfl HU Dn (fun b3=>?_);refine ap ?_;refine ap ?_;refine TO.Iu rfl rfl AB rfl CM (fun b4=>?_);refine ap ?_;refine wk [8,7,5,4,3] rfl (Tr.seq (Tr.seq (Tr.leC 0 (ptr b3 0::Ru c (CH c)) rfl ⟨Lr,Lr,Lr,Lr,Lr,Lr,Lr,Lr,Lr,Lr,Lr,Lr,Lr,Lr,Lr,Lr,AH 15,trivial⟩ ?_)));rcases hm with⟨he,hm⟩|⟨he,hm⟩
 refine Tr.Du mixed 5 BQ (AY.op rfl rfl AB (Ta (Gz) rfl) (AY.op rfl rfl AB (Lf rfl GH rfl rfl) (AY.op rfl rfl AB (FO rfl DP rfl) (AY.op rfl rfl AB (Dx rfl underlying358 Ic Ll vq vq AA AA hkp) (AY.op rfl rfl AB (BX rfl vq) ?_)))));refine AY.turn _ rfl AB (EA _ rfl rfl vq (hm _ _ _) kz ((AM (j:=0) rfl).trans (List.Perm.cons _ ((AM (j:=0) rfl).trans (List.Perm.cons _ ((AM (j:=0) rfl).trans (List.Perm.cons _ (List.Perm.refl _)))))))) ?_;refine a2 ?_;refine wk [45,9,8,7,5,4] rfl ?_;refine Tr.cn rfl ?_ ?_<;>intro h5 q5
 have hX:Ca e2 b err=(BO,Bh,err):=if_pos he;refine ap ?_;refine Tr.ret (Fin.AF (Fin.EY rfl (AL.cell 1 rfl rfl Bw Bj rfl Lr) (AL.cell 0 rfl rfl Ck CD rfl Lr) (AL.tmp rfl Lr) ?_));refine BU ⟨?_,?_,?_,trivial⟩
 .exact IW
 .exact IY
 .exact Fe
 exfalso;have:=q5;omega;refine Tr.Du mixed 5 BQ (AY.op rfl rfl AB (Ta (Gz) rfl) (AY.op rfl rfl AB (Lf rfl GH rfl rfl) (AY.op rfl rfl AB (FO rfl DP rfl) (AY.op rfl rfl AB (Dx rfl underlying358 Ic Ll vq vq AA AA hkp) (AY.op rfl rfl AB (BX rfl vq) ?_)))));refine AY.turn _ rfl AB (EA _ rfl rfl vq (hm _ _ _) kz ((AM (j:=0) rfl).trans (List.Perm.cons _ ((AM (j:=0) rfl).trans (List.Perm.cons _ ((AM (j:=0) rfl).trans (List.Perm.cons _ (List.Perm.refl _)))))))) ?_;refine a2 ?_;refine wk [45,9,8,7,5,4] rfl ?_;refine Tr.cn rfl ?_ ?_<;>intro h6 q6
 exact absurd h6 AB;refine a2 ?_;refine co rfl (BS (Dj (e:=e2) Sn) rfl rfl) ?_;refine an ?_ ?_<;>intro h7 q7
 have Jk:¬B5 e2=true:=by intro h_;rw[if_pos h_]at h7;exact absurd h7 AB
 have hX:Ca e2 b err=(BO,Bh,18):=(if_neg (fun h_=>h_ he)).trans (if_neg Jk);refine ap ?_;refine Tr.ret (Fin.AF (Fin.EY rfl (AL.cell 3 rfl rfl Bw Bj rfl Lr) (AL.cell 2 rfl rfl Ck CD rfl Lr) (AL.tmp rfl Lr) ?_));refine BU ⟨?_,?_,?_,trivial⟩
 .exact IW
 .exact IY
 .exact Fe
 have Jk:B5 e2=true:=Decidable.byContradiction fun h_=>by rw[if_neg h_]at h7;exact absurd h7 AB
 have hX:Ca e2 b err=(e2,b,0):=(if_neg (fun h_=>h_ he)).trans (if_pos Jk);refine ac ?_;refine Tr.seq (Tr.rx ?_);refine ay ?_;refine xo rfl (fun _=>BS (NZ (c:=b) hbk) rfl rfl) ?_;refine ay ?_;refine Cx.nil ⟨by kernel_rfl,?_⟩;refine BG.done N1 (Fin.go (wk [6,5,4] rfl (Tr.ret (Fin.EY rfl (AL.cell 3 rfl rfl Bw Bj rfl Lr) (AL.cell 2 rfl rfl Ck CD rfl Lr) (AL.tmp rfl Lr) ?_))));refine BU ⟨?_,?_,?_,trivial⟩
 .exact Gs
 .exact Gs
 .exact Fe
theorem XP{c b:Bl}{fk:Nat}{err:Int}(hf:e.fits)(Cb:e.small)(hce:B5 e=true)(hk:1<=c.kind/\c.kind<=12)(Na:KB c=true)(hkp:FJ[c.kind.toNat]? =some (fn (.func fk) []))(hbk:b.CO.small)(Sn:e2.fits)(hm:(err≠0/\∀(wb ob:Nat) (v:Value),BC prog fk [ptr wb 0] [Bk wb ob c (CH c),Br ob e (is v) (G7 e.ids) (ints e.anchors) (ints e.hashes),An 3 1 (e.AR.map fun n=>[int n]) v] (int err) [])\/(err=0/\∀(wb ob:Nat) (v:Value),BC prog fk [ptr wb 0] [Bk wb ob c (CH c),Br ob e (is v) (G7 e.ids) (ints e.anchors) (ints e.hashes),An 3 1 (e.AR.map fun n=>[int n]) v] (int 0) [Bk wb ob c b,AE true ob 73 (As e2)])):Aq prog 223 [agg (As e),agg (B7 c)] (EB [agg (As (Ca e2 b err).1),agg (B7 (Ca e2 b err).2.1),int (Ca e2 b err).2.2]):=by
 refine fo func223 rfl ⟨rfl,rfl⟩ fun M0 w0=>(Tr.seq (Tr.At (tp rfl (BE rfl CM) (tp rfl (BE rfl CM) ?_))));refine Tl rfl rfl rfl rfl HU Dn (fun b1=>?_);refine Tl rfl rfl rfl rfl I3 GS (fun b2=>?_);refine ap ?_;refine ac ?_;refine co rfl (BS (Dj hf) rfl rfl) ?_;refine an ?_ ?_<;>intro h1 q1
 exfalso;rw[if_pos hce]at h1;exact absurd h1 AB;refine ac ?_;refine ag ?_ ?_<;>intro h2 q2
 exfalso;have:=q2;omega;refine ag ?_ ?_<;>intro h3 q3
 exfalso;have:=q3;omega;refine cy h3 rfl (AO rfl Ck CD vq rfl rfl) ?_;refine cy h3 rfl (BS (OX (c:=c)) rfl rfl) ?_;refine ac ?_;refine wk [27,5,4,3,2] rfl ?_;refine Tr.cn rfl ?_ ?_<;>intro h4 q4
 rw[Na]at h4;exact absurd h4 AB;refine ac ?_;refine ap ?_;refine TO.Ri rfl rfl AB rfl (mG Cb) kz (fun v1=>?_);refine Tl rfl rfl rfl rfl HU Dn (fun b3=>?_);refine ap ?_;refine ap ?_;refine TO.Iu rfl rfl AB rfl CM (fun b4=>?_);refine ap ?_;refine wk [8,7,5,4,3] rfl (Tr.seq (Tr.seq (Tr.leC 0 (ptr b3 0::Ru c (CH c)) rfl ⟨Lr,Lr,Lr,Lr,Lr,Lr,Lr,Lr,Lr,Lr,Lr,Lr,Lr,Lr,Lr,Lr,AH 15,trivial⟩ ?_)));rcases hm with⟨he,hm⟩|⟨he,hm⟩
 refine Tr.Du mixed 5 BQ (AY.op rfl rfl AB (Ta (Gz) rfl) (AY.op rfl rfl AB (Lf rfl GH rfl rfl) (AY.op rfl rfl AB (FO rfl DP rfl) (AY.op rfl rfl AB (Dx rfl underlying358 Ic Ll vq vq AA AA hkp) (AY.op rfl rfl AB (BX rfl vq) ?_)))));refine AY.turn _ rfl AB (EA _ rfl rfl vq (hm _ _ _) kz ((AM (j:=0) rfl).trans (List.Perm.cons _ ((AM (j:=0) rfl).trans (List.Perm.cons _ ((AM (j:=0) rfl).trans (List.Perm.cons _ (List.Perm.refl _)))))))) ?_;refine a2 ?_;refine wk [45,9,8,7,5,4] rfl ?_;refine Tr.cn rfl ?_ ?_<;>intro h5 q5
 have hX:Ca e2 b err=(BO,Bh,err):=if_pos he;refine ap ?_;refine Tr.ret (Fin.AF (Fin.EY rfl (AL.cell 1 rfl rfl Bw Bj rfl Lr) (AL.cell 0 rfl rfl Ck CD rfl Lr) (AL.tmp rfl Lr) ?_));refine BU ⟨?_,?_,?_,trivial⟩
 .exact IW
 .exact IY
 .exact Fe
 exfalso;have:=q5;omega;refine Tr.Du mixed 5 BQ (AY.op rfl rfl AB (Ta (Gz) rfl) (AY.op rfl rfl AB (Lf rfl GH rfl rfl) (AY.op rfl rfl AB (FO rfl DP rfl) (AY.op rfl rfl AB (Dx rfl underlying358 Ic Ll vq vq AA AA hkp) (AY.op rfl rfl AB (BX rfl vq) ?_)))));refine AY.turn _ rfl AB (EA _ rfl rfl vq (hm _ _ _) kz ((AM (j:=0) rfl).trans (List.Perm.cons _ ((AM (j:=0) rfl).trans (List.Perm.cons _ ((AM (j:=0) rfl).trans (List.Perm.cons _ (List.Perm.refl _)))))))) ?_;refine a2 ?_;refine wk [45,9,8,7,5,4] rfl ?_;refine Tr.cn rfl ?_ ?_<;>intro h6 q6
 exact absurd h6 AB;refine a2 ?_;refine co rfl (BS (Dj (e:=e2) Sn) rfl rfl) ?_;refine an ?_ ?_<;>intro h7 q7
 have Jk:¬B5 e2=true:=by intro h_;rw[if_pos h_]at h7;exact absurd h7 AB
 have hX:Ca e2 b err=(BO,Bh,18):=(if_neg (fun h_=>h_ he)).trans (if_neg Jk);refine ap ?_;refine Tr.ret (Fin.AF (Fin.EY rfl (AL.cell 3 rfl rfl Bw Bj rfl Lr) (AL.cell 2 rfl rfl Ck CD rfl Lr) (AL.tmp rfl Lr) ?_));refine BU ⟨?_,?_,?_,trivial⟩
 .exact IW
 .exact IY
 .exact Fe
 have Jk:B5 e2=true:=Decidable.byContradiction fun h_=>by rw[if_neg h_]at h7;exact absurd h7 AB
 have hX:Ca e2 b err=(e2,b,0):=(if_neg (fun h_=>h_ he)).trans (if_pos Jk);refine ac ?_;refine Tr.seq (Tr.rx ?_);refine ay ?_;refine xo rfl (fun _=>BS (NZ (c:=b) hbk) rfl rfl) ?_;refine ay ?_;refine Cx.nil ⟨by kernel_rfl,?_⟩;refine BG.done N1 (Fin.go (wk [6,5,4] rfl (Tr.ret (Fin.EY rfl (AL.cell 3 rfl rfl Bw Bj rfl Lr) (AL.cell 2 rfl rfl Ck CD rfl Lr) (AL.tmp rfl Lr) ?_))));refine BU ⟨?_,?_,?_,trivial⟩
 .exact Gs
 .exact Gs
 .exact Fe
theorem XQ{c b:Bl}{fk:Nat}{err:Int}(hf:e.fits)(Cb:e.small)(hce:B5 e=true)(hk:1<=c.kind/\c.kind<=12)(Na:KB c=true)(hkp:FJ[c.kind.toNat]? =some (fn (.func fk) []))(hbk:b.CO.small)(Sn:e2.fits)(hm:(err≠0/\∀(wb ob:Nat) (v:Value),BC prog fk [ptr wb 0] [Bk wb ob c (CH c),Br ob e (ints e.AR) (G7 e.ids) (is v) (ints e.hashes),An 3 1 (e.anchors.map fun n=>[int n]) v] (int err) [])\/(err=0/\∀(wb ob:Nat) (v:Value),BC prog fk [ptr wb 0] [Bk wb ob c (CH c),Br ob e (ints e.AR) (G7 e.ids) (is v) (ints e.hashes),An 3 1 (e.anchors.map fun n=>[int n]) v] (int 0) [Bk wb ob c b,AE true ob 73 (As e2)])):Aq prog 223 [agg (As e),agg (B7 c)] (EB [agg (As (Ca e2 b err).1),agg (B7 (Ca e2 b err).2.1),int (Ca e2 b err).2.2]):=by
 refine fo func223 rfl ⟨rfl,rfl⟩ fun M0 w0=>(Tr.seq (Tr.At (tp rfl (BE rfl CM) (tp rfl (BE rfl CM) ?_))));refine Tl rfl rfl rfl rfl HU Dn (fun b1=>?_);refine Tl rfl rfl rfl rfl I3 GS (fun b2=>?_);refine ap ?_;refine ac ?_;refine co rfl (BS (Dj hf) rfl rfl) ?_;refine an ?_ ?_<;>intro h1 q1
 exfalso;rw[if_pos hce]at h1;exact absurd h1 AB;refine ac ?_;refine ag ?_ ?_<;>intro h2 q2
 exfalso;have:=q2;omega;refine ag ?_ ?_<;>intro h3 q3
 exfalso;have:=q3;omega;refine cy h3 rfl (AO rfl Ck CD vq rfl rfl) ?_;refine cy h3 rfl (BS (OX (c:=c)) rfl rfl) ?_;refine ac ?_;refine wk [27,5,4,3,2] rfl ?_;refine Tr.cn rfl ?_ ?_<;>intro h4 q4
 rw[Na]at h4;exact absurd h4 AB;refine ac ?_;refine ap ?_;refine TO.Ri rfl rfl AB rfl (mN Cb) kz (fun v1=>?_);refine Tl rfl rfl rfl rfl HU Dn (fun b3=>?_);refine ap ?_;refine ap ?_;refine TO.Iu rfl rfl AB rfl CM (fun b4=>?_);refine ap ?_;refine wk [8,7,5,4,3] rfl (Tr.seq (Tr.seq (Tr.leC 0 (ptr b3 0::Ru c (CH c)) rfl ⟨Lr,Lr,Lr,Lr,Lr,Lr,Lr,Lr,Lr,Lr,Lr,Lr,Lr,Lr,Lr,Lr,AH 15,trivial⟩ ?_)));rcases hm with⟨he,hm⟩|⟨he,hm⟩
 refine Tr.Du mixed 5 BQ (AY.op rfl rfl AB (Ta (Gz) rfl) (AY.op rfl rfl AB (Lf rfl GH rfl rfl) (AY.op rfl rfl AB (FO rfl DP rfl) (AY.op rfl rfl AB (Dx rfl underlying358 Ic Ll vq vq AA AA hkp) (AY.op rfl rfl AB (BX rfl vq) ?_)))));refine AY.turn _ rfl AB (EA _ rfl rfl vq (hm _ _ _) kz ((AM (j:=0) rfl).trans (List.Perm.cons _ ((AM (j:=0) rfl).trans (List.Perm.cons _ ((AM (j:=0) rfl).trans (List.Perm.cons _ (List.Perm.refl _)))))))) ?_;refine a2 ?_;refine wk [45,9,8,7,5,4] rfl ?_;refine Tr.cn rfl ?_ ?_<;>intro h5 q5
 have hX:Ca e2 b err=(BO,Bh,err):=if_pos he;refine ap ?_;refine Tr.ret (Fin.AF (Fin.EY rfl (AL.cell 1 rfl rfl Bw Bj rfl Lr) (AL.cell 0 rfl rfl Ck CD rfl Lr) (AL.tmp rfl Lr) ?_));refine BU ⟨?_,?_,?_,trivial⟩
 .exact IW
 .exact IY
 .exact Fe
 exfalso;have:=q5;omega;refine Tr.Du mixed 5 BQ (AY.op rfl rfl AB (Ta (Gz) rfl) (AY.op rfl rfl AB (Lf rfl GH rfl rfl) (AY.op rfl rfl AB (FO rfl DP rfl) (AY.op rfl rfl AB (Dx rfl underlying358 Ic Ll vq vq AA AA hkp) (AY.op rfl rfl AB (BX rfl vq) ?_)))));refine AY.turn _ rfl AB (EA _ rfl rfl vq (hm _ _ _) kz ((AM (j:=0) rfl).trans (List.Perm.cons _ ((AM (j:=0) rfl).trans (List.Perm.cons _ ((AM (j:=0) rfl).trans (List.Perm.cons _ (List.Perm.refl _)))))))) ?_;refine a2 ?_;refine wk [45,9,8,7,5,4] rfl ?_;refine Tr.cn rfl ?_ ?_<;>intro h6 q6
 exact absurd h6 AB;refine a2 ?_;refine co rfl (BS (Dj (e:=e2) Sn) rfl rfl) ?_;refine an ?_ ?_<;>intro h7 q7
 have Jk:¬B5 e2=true:=by intro h_;rw[if_pos h_]at h7;exact absurd h7 AB
 have hX:Ca e2 b err=(BO,Bh,18):=(if_neg (fun h_=>h_ he)).trans (if_neg Jk);refine ap ?_;refine Tr.ret (Fin.AF (Fin.EY rfl (AL.cell 3 rfl rfl Bw Bj rfl Lr) (AL.cell 2 rfl rfl Ck CD rfl Lr) (AL.tmp rfl Lr) ?_));refine BU ⟨?_,?_,?_,trivial⟩
 .exact IW
 .exact IY
 .exact Fe
 have Jk:B5 e2=true:=Decidable.byContradiction fun h_=>by rw[if_neg h_]at h7;exact absurd h7 AB
 have hX:Ca e2 b err=(e2,b,0):=(if_neg (fun h_=>h_ he)).trans (if_pos Jk);refine ac ?_;refine Tr.seq (Tr.rx ?_);refine ay ?_;refine xo rfl (fun _=>BS (NZ (c:=b) hbk) rfl rfl) ?_;refine ay ?_;refine Cx.nil ⟨by kernel_rfl,?_⟩;refine BG.done N1 (Fin.go (wk [6,5,4] rfl (Tr.ret (Fin.EY rfl (AL.cell 3 rfl rfl Bw Bj rfl Lr) (AL.cell 2 rfl rfl Ck CD rfl Lr) (AL.tmp rfl Lr) ?_))));refine BU ⟨?_,?_,?_,trivial⟩
 .exact Gs
 .exact Gs
 .exact Fe
theorem XR{c b:Bl}{fk:Nat}{err:Int}(hf:e.fits)(Cb:e.small)(hce:B5 e=true)(hk:1<=c.kind/\c.kind<=12)(Na:KB c=true)(hkp:FJ[c.kind.toNat]? =some (fn (.func fk) []))(hbk:b.CO.small)(Sn:e2.fits)(hm:(err≠0/\∀(wb ob:Nat) (v:Value),BC prog fk [ptr wb 0] [Bk wb ob c (CH c),Br ob e (ints e.AR) (G7 e.ids) (ints e.anchors) (is v),An 3 1 (e.hashes.map fun n=>[int n]) v] (int err) [])\/(err=0/\∀(wb ob:Nat) (v:Value),BC prog fk [ptr wb 0] [Bk wb ob c (CH c),Br ob e (ints e.AR) (G7 e.ids) (ints e.anchors) (is v),An 3 1 (e.hashes.map fun n=>[int n]) v] (int 0) [Bk wb ob c b,AE true ob 73 (As e2)])):Aq prog 223 [agg (As e),agg (B7 c)] (EB [agg (As (Ca e2 b err).1),agg (B7 (Ca e2 b err).2.1),int (Ca e2 b err).2.2]):=by
 refine fo func223 rfl ⟨rfl,rfl⟩ fun M0 w0=>(Tr.seq (Tr.At (tp rfl (BE rfl CM) (tp rfl (BE rfl CM) ?_))));refine Tl rfl rfl rfl rfl HU Dn (fun b1=>?_);refine Tl rfl rfl rfl rfl I3 GS (fun b2=>?_);refine ap ?_;refine ac ?_;refine co rfl (BS (Dj hf) rfl rfl) ?_;refine an ?_ ?_<;>intro h1 q1
 exfalso;rw[if_pos hce]at h1;exact absurd h1 AB;refine ac ?_;refine ag ?_ ?_<;>intro h2 q2
 exfalso;have:=q2;omega;refine ag ?_ ?_<;>intro h3 q3
 exfalso;have:=q3;omega;refine cy h3 rfl (AO rfl Ck CD vq rfl rfl) ?_;refine cy h3 rfl (BS (OX (c:=c)) rfl rfl) ?_;refine ac ?_;refine wk [27,5,4,3,2] rfl ?_;refine Tr.cn rfl ?_ ?_<;>intro h4 q4
 rw[Na]at h4;exact absurd h4 AB;refine ac ?_;refine ap ?_;refine TO.Ri rfl rfl AB rfl (mO Cb) kz (fun v1=>?_);refine Tl rfl rfl rfl rfl HU Dn (fun b3=>?_);refine ap ?_;refine ap ?_;refine TO.Iu rfl rfl AB rfl CM (fun b4=>?_);refine ap ?_;refine wk [8,7,5,4,3] rfl (Tr.seq (Tr.seq (Tr.leC 0 (ptr b3 0::Ru c (CH c)) rfl ⟨Lr,Lr,Lr,Lr,Lr,Lr,Lr,Lr,Lr,Lr,Lr,Lr,Lr,Lr,Lr,Lr,AH 15,trivial⟩ ?_)));rcases hm with⟨he,hm⟩|⟨he,hm⟩
 refine Tr.Du mixed 5 BQ (AY.op rfl rfl AB (Ta (Gz) rfl) (AY.op rfl rfl AB (Lf rfl GH rfl rfl) (AY.op rfl rfl AB (FO rfl DP rfl) (AY.op rfl rfl AB (Dx rfl underlying358 Ic Ll vq vq AA AA hkp) (AY.op rfl rfl AB (BX rfl vq) ?_)))));refine AY.turn _ rfl AB (EA _ rfl rfl vq (hm _ _ _) kz ((AM (j:=0) rfl).trans (List.Perm.cons _ ((AM (j:=0) rfl).trans (List.Perm.cons _ ((AM (j:=0) rfl).trans (List.Perm.cons _ (List.Perm.refl _)))))))) ?_;refine a2 ?_;refine wk [45,9,8,7,5,4] rfl ?_;refine Tr.cn rfl ?_ ?_<;>intro h5 q5
 have hX:Ca e2 b err=(BO,Bh,err):=if_pos he;refine ap ?_;refine Tr.ret (Fin.AF (Fin.EY rfl (AL.cell 1 rfl rfl Bw Bj rfl Lr) (AL.cell 0 rfl rfl Ck CD rfl Lr) (AL.tmp rfl Lr) ?_));refine BU ⟨?_,?_,?_,trivial⟩
 .exact IW
 .exact IY
 .exact Fe
 exfalso;have:=q5;omega;refine Tr.Du mixed 5 BQ (AY.op rfl rfl AB (Ta (Gz) rfl) (AY.op rfl rfl AB (Lf rfl GH rfl rfl) (AY.op rfl rfl AB (FO rfl DP rfl) (AY.op rfl rfl AB (Dx rfl underlying358 Ic Ll vq vq AA AA hkp) (AY.op rfl rfl AB (BX rfl vq) ?_)))));refine AY.turn _ rfl AB (EA _ rfl rfl vq (hm _ _ _) kz ((AM (j:=0) rfl).trans (List.Perm.cons _ ((AM (j:=0) rfl).trans (List.Perm.cons _ ((AM (j:=0) rfl).trans (List.Perm.cons _ (List.Perm.refl _)))))))) ?_;refine a2 ?_;refine wk [45,9,8,7,5,4] rfl ?_;refine Tr.cn rfl ?_ ?_<;>intro h6 q6
 exact absurd h6 AB;refine a2 ?_;refine co rfl (BS (Dj (e:=e2) Sn) rfl rfl) ?_;refine an ?_ ?_<;>intro h7 q7
 have Jk:¬B5 e2=true:=by intro h_;rw[if_pos h_]at h7;exact absurd h7 AB
 have hX:Ca e2 b err=(BO,Bh,18):=(if_neg (fun h_=>h_ he)).trans (if_neg Jk);refine ap ?_;refine Tr.ret (Fin.AF (Fin.EY rfl (AL.cell 3 rfl rfl Bw Bj rfl Lr) (AL.cell 2 rfl rfl Ck CD rfl Lr) (AL.tmp rfl Lr) ?_));refine BU ⟨?_,?_,?_,trivial⟩
 .exact IW
 .exact IY
 .exact Fe
 have Jk:B5 e2=true:=Decidable.byContradiction fun h_=>by rw[if_neg h_]at h7;exact absurd h7 AB
 have hX:Ca e2 b err=(e2,b,0):=(if_neg (fun h_=>h_ he)).trans (if_pos Jk);refine ac ?_;refine Tr.seq (Tr.rx ?_);refine ay ?_;refine xo rfl (fun _=>BS (NZ (c:=b) hbk) rfl rfl) ?_;refine ay ?_;refine Cx.nil ⟨by kernel_rfl,?_⟩;refine BG.done N1 (Fin.go (wk [6,5,4] rfl (Tr.ret (Fin.EY rfl (AL.cell 3 rfl rfl Bw Bj rfl Lr) (AL.cell 2 rfl rfl Ck CD rfl Lr) (AL.tmp rfl Lr) ?_))));refine BU ⟨?_,?_,?_,trivial⟩
 .exact Gs
 .exact Gs
 .exact Fe
theorem XS{c b:Bl}{fk:Nat}{err:Int}(hf:e.fits)(Cb:e.small)(hce:B5 e=true)(hk:1<=c.kind/\c.kind<=12)(Na:KB c=true)(hkp:FJ[c.kind.toNat]? =some (fn (.func fk) []))(hbk:b.CO.small)(Sn:e2.fits)(hm:(err≠0/\∀(wb ob:Nat),BC prog fk [ptr wb 0] [Bk wb ob c (CH c),Br ob e (ints e.AR) (G7 e.ids) (ints e.anchors) (ints e.hashes)] (int err) [])\/(err=0/\∀(wb ob:Nat),BC prog fk [ptr wb 0] [Bk wb ob c (CH c),Br ob e (ints e.AR) (G7 e.ids) (ints e.anchors) (ints e.hashes)] (int 0) [Bk wb ob c b,AE true ob 73 (As e2)])):Aq prog 223 [agg (As e),agg (B7 c)] (EB [agg (As (Ca e2 b err).1),agg (B7 (Ca e2 b err).2.1),int (Ca e2 b err).2.2]):=by
 refine fo func223 rfl ⟨rfl,rfl⟩ fun M0 w0=>(Tr.seq (Tr.At (tp rfl (BE rfl CM) (tp rfl (BE rfl CM) ?_))));refine Tl rfl rfl rfl rfl HU Dn (fun b1=>?_);refine Tl rfl rfl rfl rfl I3 GS (fun b2=>?_);refine ap ?_;refine ac ?_;refine co rfl (BS (Dj hf) rfl rfl) ?_;refine an ?_ ?_<;>intro h1 q1
 exfalso;rw[if_pos hce]at h1;exact absurd h1 AB;refine ac ?_;refine ag ?_ ?_<;>intro h2 q2
 exfalso;have:=q2;omega;refine ag ?_ ?_<;>intro h3 q3
 exfalso;have:=q3;omega;refine cy h3 rfl (AO rfl Ck CD vq rfl rfl) ?_;refine cy h3 rfl (BS (OX (c:=c)) rfl rfl) ?_;refine ac ?_;refine wk [27,5,4,3,2] rfl ?_;refine Tr.cn rfl ?_ ?_<;>intro h4 q4
 rw[Na]at h4;exact absurd h4 AB;refine ac ?_;refine ap ?_;refine tp rfl (BS (XN Cb) rfl rfl) ?_;refine Tl rfl rfl rfl rfl HU Dn (fun b3=>?_);refine ap ?_;refine ap ?_;refine TO.Iu rfl rfl AB rfl CM (fun b4=>?_);refine ap ?_;refine wk [8,7,5,4,3] rfl (Tr.seq (Tr.seq (Tr.leC 0 (ptr b3 0::Ru c (CH c)) rfl ⟨Lr,Lr,Lr,Lr,Lr,Lr,Lr,Lr,Lr,Lr,Lr,Lr,Lr,Lr,Lr,Lr,AH 15,trivial⟩ ?_)));rcases hm with⟨he,hm⟩|⟨he,hm⟩
 refine Tr.Du mixed 5 BQ (AY.op rfl rfl AB (Ta (Gz) rfl) (AY.op rfl rfl AB (Lf rfl GH rfl rfl) (AY.op rfl rfl AB (FO rfl DP rfl) (AY.op rfl rfl AB (Dx rfl underlying358 Ic Ll vq vq AA AA hkp) (AY.op rfl rfl AB (BX rfl vq) ?_)))));refine AY.turn _ rfl AB (EA _ rfl rfl vq (hm _ _) kz ((AM (j:=0) rfl).trans (List.Perm.cons _ ((AM (j:=0) rfl).trans (List.Perm.cons _ (List.Perm.refl _)))))) ?_;refine a2 ?_;refine wk [45,9,8,7,5,4] rfl ?_;refine Tr.cn rfl ?_ ?_<;>intro h5 q5
 have hX:Ca e2 b err=(BO,Bh,err):=if_pos he;refine ap ?_;refine Tr.ret (Fin.AF (Fin.EY rfl (AL.cell 1 rfl rfl Bw Bj rfl Lr) (AL.cell 0 rfl rfl Ck CD rfl Lr) (AL.tmp rfl Lr) ?_));refine BU ⟨?_,?_,?_,trivial⟩
 .exact IW
 .exact IY
 .exact Fe
 exfalso;have:=q5;omega;refine Tr.Du mixed 5 BQ (AY.op rfl rfl AB (Ta (Gz) rfl) (AY.op rfl rfl AB (Lf rfl GH rfl rfl) (AY.op rfl rfl AB (FO rfl DP rfl) (AY.op rfl rfl AB (Dx rfl underlying358 Ic Ll vq vq AA AA hkp) (AY.op rfl rfl AB (BX rfl vq) ?_)))));refine AY.turn _ rfl AB (EA _ rfl rfl vq (hm _ _) kz ((AM (j:=0) rfl).trans (List.Perm.cons _ ((AM (j:=0) rfl).trans (List.Perm.cons _ (List.Perm.refl _)))))) ?_;refine a2 ?_;refine wk [45,9,8,7,5,4] rfl ?_;refine Tr.cn rfl ?_ ?_<;>intro h6 q6
 exact absurd h6 AB;refine a2 ?_;refine co rfl (BS (Dj (e:=e2) Sn) rfl rfl) ?_;refine an ?_ ?_<;>intro h7 q7
 have Jk:¬B5 e2=true:=by intro h_;rw[if_pos h_]at h7;exact absurd h7 AB
 have hX:Ca e2 b err=(BO,Bh,18):=(if_neg (fun h_=>h_ he)).trans (if_neg Jk);refine ap ?_;refine Tr.ret (Fin.AF (Fin.EY rfl (AL.cell 3 rfl rfl Bw Bj rfl Lr) (AL.cell 2 rfl rfl Ck CD rfl Lr) (AL.tmp rfl Lr) ?_));refine BU ⟨?_,?_,?_,trivial⟩
 .exact IW
 .exact IY
 .exact Fe
 have Jk:B5 e2=true:=Decidable.byContradiction fun h_=>by rw[if_neg h_]at h7;exact absurd h7 AB
 have hX:Ca e2 b err=(e2,b,0):=(if_neg (fun h_=>h_ he)).trans (if_pos Jk);refine ac ?_;refine Tr.seq (Tr.rx ?_);refine ay ?_;refine xo rfl (fun _=>BS (NZ (c:=b) hbk) rfl rfl) ?_;refine ay ?_;refine Cx.nil ⟨by kernel_rfl,?_⟩;refine BG.done N1 (Fin.go (wk [6,5,4] rfl (Tr.ret (Fin.EY rfl (AL.cell 3 rfl rfl Bw Bj rfl Lr) (AL.cell 2 rfl rfl Ck CD rfl Lr) (AL.tmp rfl Lr) ?_))));refine BU ⟨?_,?_,?_,trivial⟩
 .exact Gs
 .exact Gs
 .exact Fe
theorem sU{c:Bl}(hf:e.fits)(hce:B5 e=false):Aq prog 223 [agg (As e),agg (B7 c)] (EB [agg (As BO),agg (B7 Bh),int 19]):=by
 refine fo func223 rfl ⟨rfl,rfl⟩ fun M0 w0=>(Tr.seq (Tr.At (tp rfl (BE rfl CM) (tp rfl (BE rfl CM) ?_))));refine Tl rfl rfl rfl rfl HU Dn (fun b1=>?_);refine Tl rfl rfl rfl rfl I3 GS (fun b2=>?_);refine ap ?_;refine ac ?_;refine co rfl (BS (Dj hf) rfl rfl) ?_;refine an ?_ ?_<;>intro h1 q1
 refine ap ?_;refine Tr.ret (Fin.AF (Fin.EY rfl (AL.cell 1 rfl rfl Bw Bj rfl Lr) (AL.cell 0 rfl rfl Ck CD rfl Lr) (AL.tmp rfl Lr) ?_));refine BU ⟨?_,?_,?_,trivial⟩
 .exact UO
 .exact Pt
 .exact Lr
 exfalso;rw[if_neg (by rw[hce];decide)]at h1;exact absurd h1 AB
theorem sV{c:Bl}(hf:e.fits)(hce:B5 e=true)(hk:¬((1<=c.kind/\c.kind<=12)/\KB c=true)):Aq prog 223 [agg (As e),agg (B7 c)] (EB [agg (As BO),agg (B7 Bh),int 40]):=by
 refine fo func223 rfl ⟨rfl,rfl⟩ fun M0 w0=>(Tr.seq (Tr.At (tp rfl (BE rfl CM) (tp rfl (BE rfl CM) ?_))));refine Tl rfl rfl rfl rfl HU Dn (fun b1=>?_);refine Tl rfl rfl rfl rfl I3 GS (fun b2=>?_);refine ap ?_;refine ac ?_;refine co rfl (BS (Dj hf) rfl rfl) ?_;refine an ?_ ?_<;>intro h1 q1
 exfalso;rw[if_pos hce]at h1;exact absurd h1 AB;refine ac ?_;refine ag ?_ ?_<;>intro h2 q2
 have AHV:=q2;refine ac ?_;refine wk [27,5,4,3,2] rfl (Tr.cond rfl (fun _=>?_) (fun h=>nomatch h));refine Tr.seq (Tr.At (tp rfl (Al (rows:=[]) rfl fB Dn trivial rfl) (tp rfl (Al (rows:=[]) rfl NI GS trivial rfl) (TO.Ac 1 rfl rfl rfl vq CM rfl Bj rfl rfl (TO.Ac 0 rfl rfl rfl vq CM rfl CD rfl rfl (tm rfl (TO.nil (Fin.go (Tr.ret (Fin.AF (Fin.EY rfl (AL.cell 1 rfl rfl Bw Bj rfl Lr) (AL.cell 0 rfl rfl Ck CD rfl Lr) (AL.tmp rfl Lr) ?_)))))))))));refine BU ⟨?_,?_,?_,trivial⟩
 .exact UO
 .exact Pt
 .exact Lr
 refine ag ?_ ?_<;>intro h3 q3
 have AGa:=q3;refine ac ?_;refine wk [27,5,4,3,2] rfl (Tr.cond rfl (fun _=>?_) (fun h=>nomatch h));refine Tr.seq (Tr.At (tp rfl (Al (rows:=[]) rfl fB Dn trivial rfl) (tp rfl (Al (rows:=[]) rfl NI GS trivial rfl) (TO.Ac 1 rfl rfl rfl vq CM rfl Bj rfl rfl (TO.Ac 0 rfl rfl rfl vq CM rfl CD rfl rfl (tm rfl (TO.nil (Fin.go (Tr.ret (Fin.AF (Fin.EY rfl (AL.cell 1 rfl rfl Bw Bj rfl Lr) (AL.cell 0 rfl rfl Ck CD rfl Lr) (AL.tmp rfl Lr) ?_)))))))))));refine BU ⟨?_,?_,?_,trivial⟩
 .exact UO
 .exact Pt
 .exact Lr
 have AGa:=q3;refine cy h3 rfl (AO rfl Ck CD vq rfl rfl) ?_;refine cy h3 rfl (BS (OX (c:=c)) rfl rfl) ?_;refine ac ?_;refine wk [27,5,4,3,2] rfl ?_;refine Tr.cn rfl ?_ ?_<;>intro h4 q4
 refine ap ?_;refine Tr.ret (Fin.AF (Fin.EY rfl (AL.cell 1 rfl rfl Bw Bj rfl Lr) (AL.cell 0 rfl rfl Ck CD rfl Lr) (AL.tmp rfl Lr) ?_));refine BU ⟨?_,?_,?_,trivial⟩
 .exact UO
 .exact Pt
 .exact Lr
 exfalso;apply hk;simp_all
abbrev J1(e:DY)(c:Bl):Int:=idx (fun y=>c.number==y) e.AR
def BL(e:DY)(c:Bl):Except Int (DY×Bl):=
 if c.kind = 1 then
  if ¬(0<=c.at_/\c.at_<=(e.AR.length:Nat))then .error 2
  else if(e.AR.any fun y=>c.number==y)=true then .error 41
  else .ok ({ e with AR:=e.AR.take c.at_.toNat++[c.number]++e.AR.drop c.at_.toNat },⟨c.AZ,2,c.number,0,Bg⟩)
 else if c.kind = 2 then
  if J1 e c<0 then .error 41 else .ok ({ e with AR:=e.AR.eraseIdx (J1 e c).toNat },⟨c.AZ,1,c.number,J1 e c,Bg⟩)
 else if c.kind = 3 then
  if e.most=c.number then .error 41 else .ok ({ e with most:=c.number },⟨c.AZ,c.kind,e.most,0,Bg⟩)
 else if c.kind = 4 then
  if e.least=c.number then .error 41 else .ok ({ e with least:=c.number },⟨c.AZ,c.kind,e.least,0,Bg⟩)
 else if c.kind = 5 then
  if ¬(0<=c.at_/\c.at_<=(e.ids.length:Nat))then .error 2
  else if 0<=BI c.CO.Bm e.ids then .error 41
  else .ok ({ e with ids:=e.ids.take c.at_.toNat++[c.CO]++e.ids.drop c.at_.toNat },⟨c.AZ,6,c.CO.Bm,0,Bg⟩)
 else if c.kind = 6 then
  match e.ids[(BI c.number e.ids).toNat]? with
  |none=> .error 41
  |some x=>
   if BI c.number e.ids<0 then .error 41
   else if((e.ids.drop (BI c.number e.ids+1).toNat).any fun x=>x.Bm==c.number)=true then .error 5
   else .ok ({ e with ids:=e.ids.eraseIdx (BI c.number e.ids).toNat },⟨c.AZ,5,0,BI c.number e.ids,x⟩)
 else if c.kind = 7 then
  if DI e.anchors c.number=true then .error 41 else .ok ({ e with anchors:=OY e.anchors c.number },⟨c.AZ,8,c.number,0,Bg⟩)
 else if c.kind = 8 then
  if DI e.anchors c.number=true then .ok ({ e with anchors:=e.anchors.eraseIdx (Dl e.anchors c.number) },⟨c.AZ,7,c.number,0,Bg⟩)else .error 41
 else if c.kind = 9 then
  if DI e.hashes c.number=true then .error 41 else .ok ({ e with hashes:=OY e.hashes c.number },⟨c.AZ,10,c.number,0,Bg⟩)
 else if c.kind = 10 then
  if DI e.hashes c.number=true then .ok ({ e with hashes:=e.hashes.eraseIdx (Dl e.hashes c.number) },⟨c.AZ,9,c.number,0,Bg⟩)else .error 41
 else if c.kind = 11 then
  if ¬(0<=c.number/\c.number<=1)then .error 2
  else if FB e.HQ=c.number then .error 41 else .ok ({ e with HQ:=(c.number==1) },⟨c.AZ,c.kind,FB e.HQ,0,Bg⟩)
 else
  if ¬(0<=c.number/\c.number<=1)then .error 2
  else if FB e.own=c.number then .error 41 else .ok ({ e with own:=(c.number==1) },⟨c.AZ,c.kind,FB e.own,0,Bg⟩)
def F4(c:Bl):Prop:=(1<=c.kind/\c.kind<=12)/\KB c=true
instance (c:Bl):Decidable (F4 c):=inferInstanceAs (Decidable (_/\_))
def Cr(e:DY)(c:Bl):DY×Bl×Int:=
 if B5 e=false then(BO,Bh,19)
 else if ¬F4 c then(BO,Bh,40)
 else match BL e c with
  | .error f=>(BO,Bh,f)
  | .ok (e2,b)=>if B5 e2=true then(e2,b,0)else(BO,Bh,18)
theorem QU{c:Bl}(h:c.kind=1):BL e c=
  (
  if ¬(0<=c.at_/\c.at_<=(e.AR.length:Nat))then .error 2
  else if(e.AR.any fun y=>c.number==y)=true then .error 41
  else .ok ({ e with AR:=e.AR.take c.at_.toNat++[c.number]++e.AR.drop c.at_.toNat },⟨c.AZ,2,c.number,0,Bg⟩)):=by
 unfold BL;rw[if_pos h]
theorem QV{c:Bl}(h:c.kind=2):BL e c=
  (
  if J1 e c<0 then .error 41 else .ok ({ e with AR:=e.AR.eraseIdx (J1 e c).toNat },⟨c.AZ,1,c.number,J1 e c,Bg⟩)):=by
 unfold BL;rw[if_neg Gr];rw[if_pos h]
theorem QW{c:Bl}(h:c.kind=3):BL e c=
  (
  if e.most=c.number then .error 41 else .ok ({ e with most:=c.number },⟨c.AZ,c.kind,e.most,0,Bg⟩)):=by grind [BL]
theorem QX{c:Bl}(h:c.kind=4):BL e c=
  (
  if e.least=c.number then .error 41 else .ok ({ e with least:=c.number },⟨c.AZ,c.kind,e.least,0,Bg⟩)):=by grind [BL]
theorem QY{c:Bl}(h:c.kind=5):BL e c=
  (
  if ¬(0<=c.at_/\c.at_<=(e.ids.length:Nat))then .error 2
  else if 0<=BI c.CO.Bm e.ids then .error 41
  else .ok ({ e with ids:=e.ids.take c.at_.toNat++[c.CO]++e.ids.drop c.at_.toNat },⟨c.AZ,6,c.CO.Bm,0,Bg⟩)):=by grind [BL]
theorem QZ{c:Bl}(h:c.kind=6):BL e c=
  (
  match e.ids[(BI c.number e.ids).toNat]? with
  |none=> .error 41
  |some x=>
   if BI c.number e.ids<0 then .error 41
   else if((e.ids.drop (BI c.number e.ids+1).toNat).any fun x=>x.Bm==c.number)=true then .error 5
   else .ok ({ e with ids:=e.ids.eraseIdx (BI c.number e.ids).toNat },⟨c.AZ,5,0,BI c.number e.ids,x⟩)):=by grind [BL]
theorem Qa{c:Bl}(h:c.kind=7):BL e c=
  (
  if DI e.anchors c.number=true then .error 41 else .ok ({ e with anchors:=OY e.anchors c.number },⟨c.AZ,8,c.number,0,Bg⟩)):=by grind [BL]
theorem Qb{c:Bl}(h:c.kind=8):BL e c=
  (
  if DI e.anchors c.number=true then .ok ({ e with anchors:=e.anchors.eraseIdx (Dl e.anchors c.number) },⟨c.AZ,7,c.number,0,Bg⟩)else .error 41):=by grind [BL]
theorem Qc{c:Bl}(h:c.kind=9):BL e c=
  (
  if DI e.hashes c.number=true then .error 41 else .ok ({ e with hashes:=OY e.hashes c.number },⟨c.AZ,10,c.number,0,Bg⟩)):=by grind [BL]
theorem Nc{c:Bl}(h:c.kind=10):BL e c=
  (
  if DI e.hashes c.number=true then .ok ({ e with hashes:=e.hashes.eraseIdx (Dl e.hashes c.number) },⟨c.AZ,9,c.number,0,Bg⟩)else .error 41):=by simp_all [BL]
theorem Nd{c:Bl}(h:c.kind=11):BL e c=
  (
  if ¬(0<=c.number/\c.number<=1)then .error 2
  else if FB e.HQ=c.number then .error 41 else .ok ({ e with HQ:=(c.number==1) },⟨c.AZ,c.kind,FB e.HQ,0,Bg⟩)):=by simp_all [BL]
theorem Nf{c:Bl}(h:c.kind=12):BL e c=
  (
  if ¬(0<=c.number/\c.number<=1)then .error 2
  else if FB e.own=c.number then .error 41 else .ok ({ e with own:=(c.number==1) },⟨c.AZ,c.kind,FB e.own,0,Bg⟩)):=by simp_all [BL]
theorem HV{c:Bl}{f:Int}(h:B5 e=true)(hc:F4 c)(hs:BL e c= .error f):Cr e c=(BO,Bh,f):=by grind [Cr]
theorem I_{c:Bl}{b:Bl}(h:B5 e=true)(hc:F4 c)(hs:BL e c= .ok (e2,b))(h2:B5 e2=true):Cr e c=(e2,b,0):=by grind [Cr]
theorem LJ{c:Bl}{b:Bl}(h:B5 e=true)(hc:F4 c)(hs:BL e c= .ok (e2,b))(h2:B5 e2=false):Cr e c=(BO,Bh,18):=by grind [Cr]
abbrev Rv(r:DY×Bl×Int):Pr:=EB [agg (As r.1),agg (B7 r.2.1),int r.2.2]
structure dD(e:DY):Prop where
 name:KF e.name=true
 least:1<=e.least
 lm:e.least<=e.most
 most:e.most<=4
 AR:Gy e.AR=true
 SY:e.ids.length<=4
 AAx:e.anchors.length<=16
 anc:VQ e.anchors=true
 hash:VQ e.hashes=true
 ids:e.ids.all fS=true
 keys:e.anchors.all G3=true
 hsh:e.hashes.all KY=true
theorem DR:B5 e=true↔dD e:=by
 unfold B5;simp only[Bool.and_eq_true,decide_eq_true_eq];exact⟨fun⟨⟨⟨⟨⟨⟨⟨⟨a,b⟩,c⟩,d⟩,f⟩,⟨⟨⟨g,h⟩,i⟩,j⟩⟩,k⟩,l⟩,m⟩=>⟨a,b,c,d,f,g,h,i,j,k,l,m⟩,fun⟨a,b,c,d,f,g,h,i,j,k,l,m⟩=>⟨⟨⟨⟨⟨⟨⟨⟨a,b⟩,c⟩,d⟩,f⟩,⟨⟨⟨g,h⟩,i⟩,j⟩⟩,k⟩,l⟩,m⟩⟩
theorem Qd{c:Bl}{fk:Nat}(hf:e.fits)(Cb:e.small)(hce:B5 e=true)(hc:F4 c)(hkp:FJ[c.kind.toNat]? =some (fn (.func fk) [])){f:Int}(hs:BL e c= .error f)(he:f≠0)(hm:∀(wb ob:Nat) (v:Value),BC Tryz.prog fk [ptr wb 0] [Bk wb ob c (CH c),Br ob e (ints e.AR) (is v) (ints e.anchors) (ints e.hashes),An 78 4 (e.ids.map BT) v] (int f) []):Aq Tryz.prog 223 [agg (As e),agg (B7 c)] (Rv (Cr e c)):=by
 have:=XO (e2:=BO) (b:=Bh) hf Cb hce hc.1 hc.2 hkp ⟨by show 0<=_;omega,fun x hx=>by cases hx⟩ ⟨by show 0<=_;omega,fun x hx=>by cases hx⟩ (.inl ⟨he,hm⟩);rw[HV hce hc hs];rwa [show Ca BO Bh f=(BO,Bh,f)from if_pos he]at this
theorem mP{c:Bl}{fk:Nat}(hf:e.fits)(Cb:e.small)(hce:B5 e=true)(hc:F4 c)(hkp:FJ[c.kind.toNat]? =some (fn (.func fk) [])){b:Bl}(hs:BL e c= .ok (e2,b))(hbk:b.CO.small)(Sn:e2.fits)(hm:∀(wb ob:Nat) (v:Value),BC Tryz.prog fk [ptr wb 0] [Bk wb ob c (CH c),Br ob e (ints e.AR) (is v) (ints e.anchors) (ints e.hashes),An 78 4 (e.ids.map BT) v] (int 0) [Bk wb ob c b,AE true ob 73 (As e2)]):Aq Tryz.prog 223 [agg (As e),agg (B7 c)] (Rv (Cr e c)):=by
 have:=XO (err:=0) hf Cb hce hc.1 hc.2 hkp hbk Sn (.inr ⟨rfl,hm⟩);cases h2:B5 e2 with
 |true=>rw[I_ hce hc hs h2];rwa [show Ca e2 b 0=(e2,b,0)from(if_neg (fun h_=>h_ rfl)).trans (if_pos h2)]at this
 |false=>rw[LJ hce hc hs h2];rwa [show Ca e2 b 0=(BO,Bh,18)from(if_neg (fun h_=>h_ rfl)).trans (if_neg JO)]at this
theorem Vj{c:Bl}{fk:Nat}(hf:e.fits)(Cb:e.small)(hce:B5 e=true)(hc:F4 c)(hkp:FJ[c.kind.toNat]? =some (fn (.func fk) [])){f:Int}(hs:BL e c= .error f)(he:f≠0)(hm:∀(wb ob:Nat) (v:Value),BC Tryz.prog fk [ptr wb 0] [Bk wb ob c (CH c),Br ob e (is v) (G7 e.ids) (ints e.anchors) (ints e.hashes),An 3 1 (e.AR.map fun n=>[int n]) v] (int f) []):Aq Tryz.prog 223 [agg (As e),agg (B7 c)] (Rv (Cr e c)):=by
 have:=XP (e2:=BO) (b:=Bh) hf Cb hce hc.1 hc.2 hkp ⟨by show 0<=_;omega,fun x hx=>by cases hx⟩ ⟨by show 0<=_;omega,fun x hx=>by cases hx⟩ (.inl ⟨he,hm⟩);rw[HV hce hc hs];rwa [show Ca BO Bh f=(BO,Bh,f)from if_pos he]at this
theorem mQ{c:Bl}{fk:Nat}(hf:e.fits)(Cb:e.small)(hce:B5 e=true)(hc:F4 c)(hkp:FJ[c.kind.toNat]? =some (fn (.func fk) [])){b:Bl}(hs:BL e c= .ok (e2,b))(hbk:b.CO.small)(Sn:e2.fits)(hm:∀(wb ob:Nat) (v:Value),BC Tryz.prog fk [ptr wb 0] [Bk wb ob c (CH c),Br ob e (is v) (G7 e.ids) (ints e.anchors) (ints e.hashes),An 3 1 (e.AR.map fun n=>[int n]) v] (int 0) [Bk wb ob c b,AE true ob 73 (As e2)]):Aq Tryz.prog 223 [agg (As e),agg (B7 c)] (Rv (Cr e c)):=by
 have:=XP (err:=0) hf Cb hce hc.1 hc.2 hkp hbk Sn (.inr ⟨rfl,hm⟩);cases h2:B5 e2 with
 |true=>rw[I_ hce hc hs h2];rwa [show Ca e2 b 0=(e2,b,0)from(if_neg (fun h_=>h_ rfl)).trans (if_pos h2)]at this
 |false=>rw[LJ hce hc hs h2];rwa [show Ca e2 b 0=(BO,Bh,18)from(if_neg (fun h_=>h_ rfl)).trans (if_neg JO)]at this
theorem dF{c:Bl}{fk:Nat}(hf:e.fits)(Cb:e.small)(hce:B5 e=true)(hc:F4 c)(hkp:FJ[c.kind.toNat]? =some (fn (.func fk) [])){f:Int}(hs:BL e c= .error f)(he:f≠0)(hm:∀(wb ob:Nat) (v:Value),BC Tryz.prog fk [ptr wb 0] [Bk wb ob c (CH c),Br ob e (ints e.AR) (G7 e.ids) (is v) (ints e.hashes),An 3 1 (e.anchors.map fun n=>[int n]) v] (int f) []):Aq Tryz.prog 223 [agg (As e),agg (B7 c)] (Rv (Cr e c)):=by
 have:=XQ (e2:=BO) (b:=Bh) hf Cb hce hc.1 hc.2 hkp ⟨by show 0<=_;omega,fun x hx=>by cases hx⟩ ⟨by show 0<=_;omega,fun x hx=>by cases hx⟩ (.inl ⟨he,hm⟩);rw[HV hce hc hs];rwa [show Ca BO Bh f=(BO,Bh,f)from if_pos he]at this
theorem mR{c:Bl}{fk:Nat}(hf:e.fits)(Cb:e.small)(hce:B5 e=true)(hc:F4 c)(hkp:FJ[c.kind.toNat]? =some (fn (.func fk) [])){b:Bl}(hs:BL e c= .ok (e2,b))(hbk:b.CO.small)(Sn:e2.fits)(hm:∀(wb ob:Nat) (v:Value),BC Tryz.prog fk [ptr wb 0] [Bk wb ob c (CH c),Br ob e (ints e.AR) (G7 e.ids) (is v) (ints e.hashes),An 3 1 (e.anchors.map fun n=>[int n]) v] (int 0) [Bk wb ob c b,AE true ob 73 (As e2)]):Aq Tryz.prog 223 [agg (As e),agg (B7 c)] (Rv (Cr e c)):=by
 have:=XQ (err:=0) hf Cb hce hc.1 hc.2 hkp hbk Sn (.inr ⟨rfl,hm⟩);cases h2:B5 e2 with
 |true=>rw[I_ hce hc hs h2];rwa [show Ca e2 b 0=(e2,b,0)from(if_neg (fun h_=>h_ rfl)).trans (if_pos h2)]at this
 |false=>rw[LJ hce hc hs h2];rwa [show Ca e2 b 0=(BO,Bh,18)from(if_neg (fun h_=>h_ rfl)).trans (if_neg JO)]at this
theorem dG{c:Bl}{fk:Nat}(hf:e.fits)(Cb:e.small)(hce:B5 e=true)(hc:F4 c)(hkp:FJ[c.kind.toNat]? =some (fn (.func fk) [])){f:Int}(hs:BL e c= .error f)(he:f≠0)(hm:∀(wb ob:Nat) (v:Value),BC Tryz.prog fk [ptr wb 0] [Bk wb ob c (CH c),Br ob e (ints e.AR) (G7 e.ids) (ints e.anchors) (is v),An 3 1 (e.hashes.map fun n=>[int n]) v] (int f) []):Aq Tryz.prog 223 [agg (As e),agg (B7 c)] (Rv (Cr e c)):=by
 have:=XR (e2:=BO) (b:=Bh) hf Cb hce hc.1 hc.2 hkp ⟨by show 0<=_;omega,fun x hx=>by cases hx⟩ ⟨by show 0<=_;omega,fun x hx=>by cases hx⟩ (.inl ⟨he,hm⟩);rw[HV hce hc hs];rwa [show Ca BO Bh f=(BO,Bh,f)from if_pos he]at this
theorem mS{c:Bl}{fk:Nat}(hf:e.fits)(Cb:e.small)(hce:B5 e=true)(hc:F4 c)(hkp:FJ[c.kind.toNat]? =some (fn (.func fk) [])){b:Bl}(hs:BL e c= .ok (e2,b))(hbk:b.CO.small)(Sn:e2.fits)(hm:∀(wb ob:Nat) (v:Value),BC Tryz.prog fk [ptr wb 0] [Bk wb ob c (CH c),Br ob e (ints e.AR) (G7 e.ids) (ints e.anchors) (is v),An 3 1 (e.hashes.map fun n=>[int n]) v] (int 0) [Bk wb ob c b,AE true ob 73 (As e2)]):Aq Tryz.prog 223 [agg (As e),agg (B7 c)] (Rv (Cr e c)):=by
 have:=XR (err:=0) hf Cb hce hc.1 hc.2 hkp hbk Sn (.inr ⟨rfl,hm⟩);cases h2:B5 e2 with
 |true=>rw[I_ hce hc hs h2];rwa [show Ca e2 b 0=(e2,b,0)from(if_neg (fun h_=>h_ rfl)).trans (if_pos h2)]at this
 |false=>rw[LJ hce hc hs h2];rwa [show Ca e2 b 0=(BO,Bh,18)from(if_neg (fun h_=>h_ rfl)).trans (if_neg JO)]at this
theorem LK{c:Bl}{fk:Nat}(hf:e.fits)(Cb:e.small)(hce:B5 e=true)(hc:F4 c)(hkp:FJ[c.kind.toNat]? =some (fn (.func fk) [])){f:Int}(hs:BL e c= .error f)(he:f≠0)(hm:∀(wb ob:Nat),BC Tryz.prog fk [ptr wb 0] [Bk wb ob c (CH c),Br ob e (ints e.AR) (G7 e.ids) (ints e.anchors) (ints e.hashes)] (int f) []):Aq Tryz.prog 223 [agg (As e),agg (B7 c)] (Rv (Cr e c)):=by
 have:=XS (e2:=BO) (b:=Bh) hf Cb hce hc.1 hc.2 hkp ⟨by show 0<=_;omega,fun x hx=>by cases hx⟩ ⟨by show 0<=_;omega,fun x hx=>by cases hx⟩ (.inl ⟨he,hm⟩);rw[HV hce hc hs];rwa [show Ca BO Bh f=(BO,Bh,f)from if_pos he]at this
theorem Vk{c:Bl}{fk:Nat}(hf:e.fits)(Cb:e.small)(hce:B5 e=true)(hc:F4 c)(hkp:FJ[c.kind.toNat]? =some (fn (.func fk) [])){b:Bl}(hs:BL e c= .ok (e2,b))(hbk:b.CO.small)(Sn:e2.fits)(hm:∀(wb ob:Nat),BC Tryz.prog fk [ptr wb 0] [Bk wb ob c (CH c),Br ob e (ints e.AR) (G7 e.ids) (ints e.anchors) (ints e.hashes)] (int 0) [Bk wb ob c b,AE true ob 73 (As e2)]):Aq Tryz.prog 223 [agg (As e),agg (B7 c)] (Rv (Cr e c)):=by
 have:=XS (err:=0) hf Cb hce hc.1 hc.2 hkp hbk Sn (.inr ⟨rfl,hm⟩);cases h2:B5 e2 with
 |true=>rw[I_ hce hc hs h2];rwa [show Ca e2 b 0=(e2,b,0)from(if_neg (fun h_=>h_ rfl)).trans (if_pos h2)]at this
 |false=>rw[LJ hce hc hs h2];rwa [show Ca e2 b 0=(BO,Bh,18)from(if_neg (fun h_=>h_ rfl)).trans (if_neg JO)]at this
theorem Dz:Bg.small:=⟨by show 0<=_;omega,fun c hc=>by cases hc⟩
theorem sW{l:List E9}{x:E9}(h:∀y∈l,y.fits)(hx:x.fits):∀y∈l.take i++[x]++l.drop i,y.fits:=by grind
theorem sX{l:List E9}(h:∀y∈l,y.fits):∀y∈l.eraseIdx i,y.fits:=fun y hy=>h y (List.mem_of_mem_eraseIdx hy)
theorem yW{c:Bl}(hf:e.fits)(Cb:e.small)(hcf:c.CO.fits)(hcs:c.CO.small):Aq Tryz.prog 223 [agg (As e),agg (B7 c)] (Rv (Cr e c)):=by
 cases hce:B5 e with
 |false=>rw[show Cr e c=(BO,Bh,19)from if_pos hce];exact sU hf hce
 |true=>
 by_cases hc:F4 c
 case neg=>rw[show Cr e c=(BO,Bh,40)from(if_neg (by rw[hce];decide)).trans (if_pos hc)];exact sV hf hce hc
 have ok:=DR.1 hce;have hk:=hc.1;have h0:c.kind=1\/c.kind=2\/c.kind=3\/c.kind=4\/c.kind=5\/c.kind=6\/c.kind=7\/c.kind=8\/c.kind=9\/c.kind=10\/c.kind=11\/c.kind=12:=by omega
 rcases h0 with h1|h2|h3|h4|h5|h6|h7|h8|h9|h10|h11|h12
 .
  -- kind 1
  by_cases hr:0<=c.at_/\c.at_<=(e.AR.length:Nat)
  by_cases h:(e.AR.any fun y=>c.number==y)=true
  .exact Vj hf Cb hce hc (fk:=312) (by rw[h1];rfl) (by unfold BL;rw[if_pos h1];rw[if_neg (fun h=>h hr)];exact if_pos h) AB (fun wb ob v=>XF (e:=e) (c:=c) (b:=CH c) hr Cb.AR h)
  .exact mQ hf Cb hce hc (fk:=312) (e2:={ e with AR:=e.AR.take c.at_.toNat++[c.number]++e.AR.drop c.at_.toNat }) (b:=⟨c.AZ,2,c.number,0,Bg⟩) (by rw[h1];rfl) (by unfold BL;rw[if_pos h1];rw[if_neg (fun h=>h hr)];exact if_neg h) Dz ⟨hf.name,hf.ids⟩ (fun wb ob v=>BC.perm (XG (e:=e) (c:=c) (b:=CH c) hr Cb.AR (Bool.eq_false_iff.2 h)) (List.Perm.swap _ _ _))
  .exact Vj hf Cb hce hc (fk:=312) (by rw[h1];rfl) (by unfold BL;rw[if_pos h1];exact if_pos hr) AB (fun wb ob v=>XE (e:=e) (c:=c) (b:=CH c) hr)
 .
  -- kind 2
  by_cases h:J1 e c<0
  .exact Vj hf Cb hce hc (fk:=313) (by rw[h2];rfl) (by unfold BL;rw[if_neg JO];rw[if_pos h2];exact if_pos h) AB (fun wb ob v=>VU (e:=e) (c:=c) (b:=CH c) h)
  .exact mQ hf Cb hce hc (fk:=313) (e2:={ e with AR:=e.AR.eraseIdx (J1 e c).toNat }) (b:=⟨c.AZ,1,c.number,J1 e c,Bg⟩) (by rw[h2];rfl) (by unfold BL;rw[if_neg JO];rw[if_pos h2];exact if_neg h) Dz ⟨hf.name,hf.ids⟩ (fun wb ob v=>VV (e:=e) (c:=c) (b:=CH c) (by unfold J1 at h;omega) Cb.AR)
 .
  -- kind 3
  by_cases h:e.most=c.number
  .exact LK hf Cb hce hc (fk:=314) (by rw[h3];rfl) (by unfold BL;rw[if_neg P_];rw[if_neg P_];rw[if_pos h3];exact if_pos h) AB (fun wb ob=>XJ (e:=e) (c:=c) (b:=CH c) h)
  .exact Vk hf Cb hce hc (fk:=314) (e2:={ e with most:=c.number }) (b:=⟨c.AZ,c.kind,e.most,0,Bg⟩) (by rw[h3];rfl) (by unfold BL;rw[if_neg P_];rw[if_neg P_];rw[if_pos h3];exact if_neg h) Dz ⟨hf.name,hf.ids⟩ (fun wb ob=>XK (e:=e) (c:=c) (b:=CH c) h)
 .
  -- kind 4
  by_cases h:e.least=c.number
  .exact LK hf Cb hce hc (fk:=315) (by rw[h4];rfl) (by unfold BL;rw[if_neg K6];rw[if_neg K6];rw[if_neg K6];rw[if_pos h4];exact if_pos h) AB (fun wb ob=>Vb (e:=e) (c:=c) (b:=CH c) h)
  .exact Vk hf Cb hce hc (fk:=315) (e2:={ e with least:=c.number }) (b:=⟨c.AZ,c.kind,e.least,0,Bg⟩) (by rw[h4];rfl) (by unfold BL;rw[if_neg K6];rw[if_neg K6];rw[if_neg K6];rw[if_pos h4];exact if_neg h) Dz ⟨hf.name,hf.ids⟩ (fun wb ob=>Vc (e:=e) (c:=c) (b:=CH c) h)
 .
  -- kind 5
  by_cases hr:0<=c.at_/\c.at_<=(e.ids.length:Nat)
  by_cases h:0<=BI c.CO.Bm e.ids
  .exact Qd hf Cb hce hc (fk:=316) (by rw[h5];rfl) (by unfold BL;rw[if_neg FU];rw[if_neg FU];rw[if_neg FU];rw[if_neg FU];rw[if_pos h5];rw[if_neg (fun h=>h hr)];exact if_pos h) AB (fun wb ob v=>fu (e:=e) (c:=c) (b:=CH c) hcs hr Cb.SY h)
  .exact mP hf Cb hce hc (fk:=316) (e2:={ e with ids:=e.ids.take c.at_.toNat++[c.CO]++e.ids.drop c.at_.toNat }) (b:=⟨c.AZ,6,c.CO.Bm,0,Bg⟩) (by rw[h5];rfl) (by unfold BL;rw[if_neg FU];rw[if_neg FU];rw[if_neg FU];rw[if_neg FU];rw[if_pos h5];rw[if_neg (fun h=>h hr)];exact if_neg h) Dz ⟨hf.name,sW hf.ids hcf⟩ (fun wb ob v=>BC.perm (fy (e:=e) (c:=c) (b:=CH c) hcs hr Cb.SY AA) (List.Perm.swap _ _ _))
  .exact Qd hf Cb hce hc (fk:=316) (by rw[h5];rfl) (by unfold BL;rw[if_neg FU];rw[if_neg FU];rw[if_neg FU];rw[if_neg FU];rw[if_pos h5];exact if_pos hr) AB (fun wb ob v=>fq (e:=e) (c:=c) (b:=CH c) hcs hr)
 .
  -- kind 6
  by_cases h:BI c.number e.ids<0
  .exact Qd hf Cb hce hc (fk:=317) (by rw[h6];rfl) (by unfold BL;rw[if_neg Ff];rw[if_neg Ff];rw[if_neg Ff];rw[if_neg Ff];rw[if_neg Ff];rw[if_pos h6];cases e.ids[(BI c.number e.ids).toNat]? <;>first|rfl|exact if_pos h) AB (fun wb ob v=>ZJ (e:=e) (c:=c) (b:=CH c) (x:=Bg) h)
  obtain⟨x,hx,_,_⟩:=Ji (p:=fun x:E9=>x.Bm==c.number) (l:=e.ids) (by unfold BI at h;omega);have hx:e.ids[(BI c.number e.ids).toNat]? =some x:=hx
  by_cases ht:((e.ids.drop (BI c.number e.ids+1).toNat).any fun x=>x.Bm==c.number)=true
  .exact Qd hf Cb hce hc (fk:=317) (by rw[h6];rfl) (by unfold BL;rw[if_neg Ff];rw[if_neg Ff];rw[if_neg Ff];rw[if_neg Ff];rw[if_neg Ff];rw[if_pos h6];rw[hx];exact(if_neg h).trans (if_pos ht)) AB (fun wb ob v=>ZK (e:=e) (c:=c) (b:=CH c) (x:=x) AA hx ht Cb.SY)
  .exact mP hf Cb hce hc (fk:=317) (e2:={ e with ids:=e.ids.eraseIdx (BI c.number e.ids).toNat }) (b:=⟨c.AZ,5,0,BI c.number e.ids,x⟩) (by rw[h6];rfl) (by unfold BL;rw[if_neg Ff];rw[if_neg Ff];rw[if_neg Ff];rw[if_neg Ff];rw[if_neg Ff];rw[if_pos h6];rw[hx];exact(if_neg h).trans (if_neg ht)) (Cb.ids x (List.mem_of_getElem? hx)) ⟨hf.name,sX hf.ids⟩ (fun wb ob v=>ZL (e:=e) (c:=c) (b:=CH c) (x:=x) AA hx (Bool.eq_false_iff.2 ht) Cb.SY)
 .
  -- kind 7
  by_cases h:DI e.anchors c.number=true
  .exact dF hf Cb hce hc (fk:=318) (by rw[h7];rfl) (by unfold BL;rw[if_neg FV];rw[if_neg FV];rw[if_neg FV];rw[if_neg FV];rw[if_neg FV];rw[if_neg FV];rw[if_pos h7];exact if_pos h) AB (fun wb ob v=>VY (e:=e) (c:=c) (b:=CH c) (FX ok.anc) Cb.anchors h)
  .exact mR hf Cb hce hc (fk:=318) (e2:={ e with anchors:=OY e.anchors c.number }) (b:=⟨c.AZ,8,c.number,0,Bg⟩) (by rw[h7];rfl) (by unfold BL;rw[if_neg FV];rw[if_neg FV];rw[if_neg FV];rw[if_neg FV];rw[if_neg FV];rw[if_neg FV];rw[if_pos h7];exact if_neg h) Dz ⟨hf.name,hf.ids⟩ (fun wb ob v=>VZ (e:=e) (c:=c) (b:=CH c) (FX ok.anc) Cb.anchors (Bool.eq_false_iff.2 h))
 .
  -- kind 8
  by_cases h:DI e.anchors c.number=true
  .exact mR hf Cb hce hc (fk:=319) (e2:={ e with anchors:=e.anchors.eraseIdx (Dl e.anchors c.number) }) (b:=⟨c.AZ,7,c.number,0,Bg⟩) (by rw[h8];rfl) (by unfold BL;rw[if_neg Ej];rw[if_neg Ej];rw[if_neg Ej];rw[if_neg Ej];rw[if_neg Ej];rw[if_neg Ej];rw[if_neg Ej];rw[if_pos h8];exact if_pos h) Dz ⟨hf.name,hf.ids⟩ (fun wb ob v=>Sr (e:=e) (c:=c) (b:=CH c) (FX ok.anc) Cb.anchors h)
  .exact dF hf Cb hce hc (fk:=319) (by rw[h8];rfl) (by unfold BL;rw[if_neg Ej];rw[if_neg Ej];rw[if_neg Ej];rw[if_neg Ej];rw[if_neg Ej];rw[if_neg Ej];rw[if_neg Ej];rw[if_pos h8];exact if_neg h) AB (fun wb ob v=>Sq (e:=e) (c:=c) (b:=CH c) (FX ok.anc) Cb.anchors (Bool.eq_false_iff.2 h))
 .
  -- kind 9
  by_cases h:DI e.hashes c.number=true
  .exact dG hf Cb hce hc (fk:=320) (by rw[h9];rfl) (by unfold BL;rw[if_neg FE];rw[if_neg FE];rw[if_neg FE];rw[if_neg FE];rw[if_neg FE];rw[if_neg FE];rw[if_neg FE];rw[if_neg FE];rw[if_pos h9];exact if_pos h) AB (fun wb ob v=>ZM (e:=e) (c:=c) (b:=CH c) (FX ok.hash) Cb.hashes h)
  .exact mS hf Cb hce hc (fk:=320) (e2:={ e with hashes:=OY e.hashes c.number }) (b:=⟨c.AZ,10,c.number,0,Bg⟩) (by rw[h9];rfl) (by unfold BL;rw[if_neg FE];rw[if_neg FE];rw[if_neg FE];rw[if_neg FE];rw[if_neg FE];rw[if_neg FE];rw[if_neg FE];rw[if_neg FE];rw[if_pos h9];exact if_neg h) Dz ⟨hf.name,hf.ids⟩ (fun wb ob v=>ZN (e:=e) (c:=c) (b:=CH c) (FX ok.hash) Cb.hashes (Bool.eq_false_iff.2 h))
 .
  -- kind 10
  by_cases h:DI e.hashes c.number=true
  .exact mS hf Cb hce hc (fk:=321) (e2:={ e with hashes:=e.hashes.eraseIdx (Dl e.hashes c.number) }) (b:=⟨c.AZ,9,c.number,0,Bg⟩) (by rw[h10];rfl) (by unfold BL;rw[if_neg Ee];rw[if_neg Ee];rw[if_neg Ee];rw[if_neg Ee];rw[if_neg Ee];rw[if_neg Ee];rw[if_neg Ee];rw[if_neg Ee];rw[if_neg Ee];rw[if_pos h10];exact if_pos h) Dz ⟨hf.name,hf.ids⟩ (fun wb ob v=>XI (e:=e) (c:=c) (b:=CH c) (FX ok.hash) Cb.hashes h)
  .exact dG hf Cb hce hc (fk:=321) (by rw[h10];rfl) (by unfold BL;rw[if_neg Ee];rw[if_neg Ee];rw[if_neg Ee];rw[if_neg Ee];rw[if_neg Ee];rw[if_neg Ee];rw[if_neg Ee];rw[if_neg Ee];rw[if_neg Ee];rw[if_pos h10];exact if_neg h) AB (fun wb ob v=>XH (e:=e) (c:=c) (b:=CH c) (FX ok.hash) Cb.hashes (Bool.eq_false_iff.2 h))
 .
  -- kind 11
  by_cases hr:0<=c.number/\c.number<=1
  by_cases h:FB e.HQ=c.number
  .exact LK hf Cb hce hc (fk:=322) (by rw[h11];rfl) (by unfold BL;rw[if_neg Ct];rw[if_neg Ct];rw[if_neg Ct];rw[if_neg Ct];rw[if_neg Ct];rw[if_neg Ct];rw[if_neg Ct];rw[if_neg Ct];rw[if_neg Ct];rw[if_neg Ct];rw[if_pos h11];rw[if_neg (fun h=>h hr)];exact if_pos h) AB (fun wb ob=>Pk (e:=e) (c:=c) (b:=CH c) hr rfl h)
  .exact Vk hf Cb hce hc (fk:=322) (e2:={ e with HQ:=(c.number==1) }) (b:=⟨c.AZ,c.kind,FB e.HQ,0,Bg⟩) (by rw[h11];rfl) (by unfold BL;rw[if_neg Ct];rw[if_neg Ct];rw[if_neg Ct];rw[if_neg Ct];rw[if_neg Ct];rw[if_neg Ct];rw[if_neg Ct];rw[if_neg Ct];rw[if_neg Ct];rw[if_neg Ct];rw[if_pos h11];rw[if_neg (fun h=>h hr)];exact if_neg h) Dz ⟨hf.name,hf.ids⟩ (fun wb ob=>Pn (e:=e) (c:=c) (b:=CH c) hr rfl h)
  .exact LK hf Cb hce hc (fk:=322) (by rw[h11];rfl) (by unfold BL;rw[if_neg Ct];rw[if_neg Ct];rw[if_neg Ct];rw[if_neg Ct];rw[if_neg Ct];rw[if_neg Ct];rw[if_neg Ct];rw[if_neg Ct];rw[if_neg Ct];rw[if_neg Ct];rw[if_pos h11];exact if_pos hr) AB (fun wb ob=>Ph (e:=e) (c:=c) (b:=CH c) hr)
 .
  -- kind 12
  by_cases hr:0<=c.number/\c.number<=1
  by_cases h:FB e.own=c.number
  .exact LK hf Cb hce hc (fk:=323) (by rw[h12];rfl) (by unfold BL;rw[if_neg Cc];rw[if_neg Cc];rw[if_neg Cc];rw[if_neg Cc];rw[if_neg Cc];rw[if_neg Cc];rw[if_neg Cc];rw[if_neg Cc];rw[if_neg Cc];rw[if_neg Cc];rw[if_neg Cc];rw[if_neg (fun h=>h hr)];exact if_pos h) AB (fun wb ob=>Vg (e:=e) (c:=c) (b:=CH c) hr rfl h)
  .exact Vk hf Cb hce hc (fk:=323) (e2:={ e with own:=(c.number==1) }) (b:=⟨c.AZ,c.kind,FB e.own,0,Bg⟩) (by rw[h12];rfl) (by unfold BL;rw[if_neg Cc];rw[if_neg Cc];rw[if_neg Cc];rw[if_neg Cc];rw[if_neg Cc];rw[if_neg Cc];rw[if_neg Cc];rw[if_neg Cc];rw[if_neg Cc];rw[if_neg Cc];rw[if_neg Cc];rw[if_neg (fun h=>h hr)];exact if_neg h) Dz ⟨hf.name,hf.ids⟩ (fun wb ob=>Vi (e:=e) (c:=c) (b:=CH c) hr rfl h)
  .exact LK hf Cb hce hc (fk:=323) (by rw[h12];rfl) (by unfold BL;rw[if_neg Cc];rw[if_neg Cc];rw[if_neg Cc];rw[if_neg Cc];rw[if_neg Cc];rw[if_neg Cc];rw[if_neg Cc];rw[if_neg Cc];rw[if_neg Cc];rw[if_neg Cc];rw[if_neg Cc];exact if_pos hr) AB (fun wb ob=>Ve (e:=e) (c:=c) (b:=CH c) hr)
theorem gB{c:Bl}(hf:e.fits)(Cb:e.small)(hcf:c.CO.fits)(hcs:c.CO.small):Aq prog 163 [agg (As e),agg (B7 c)] (EB [agg (As (Cr e c).1),int (Cr e c).2.2]):=by
 refine fo func163 rfl ⟨rfl,rfl⟩ fun M0 w0=>(Tr.seq (Tr.At (tp rfl (BE rfl CM) (tp rfl (BE rfl CM) ?_))));refine Tl rfl rfl rfl rfl HU Dn (fun b1=>?_);refine ao ?_;refine ao ?_;refine tp rfl (CG (yW hf Cb hcf hcs) rfl rfl rfl) ?_;refine ao ?_;refine Tl rfl rfl rfl rfl HU Dn (fun b2=>?_);refine Tl rfl rfl rfl rfl I3 GS (fun b3=>?_);refine sf 1 6 ⟨rfl,rfl,rfl⟩ rfl rfl rfl rfl ?_;refine sf 0 7 ⟨rfl,rfl,rfl⟩ rfl rfl rfl rfl ?_;refine ao ?_;refine wk [8,6,4] rfl ?_;refine ao ?_;refine TO.Ac 0 rfl rfl rfl vq CM rfl Bj rfl rfl ?_;refine ao ?_;refine Tr.ret (Fin.Bf rfl (AL.cell 0 rfl rfl Bw Bj rfl Lr) (AL.tmp rfl Lr) ?_);refine BU ⟨?_,?_,trivial⟩
 .exact Lr
 .exact Lr
theorem mT{x0 y0:Int}{x1 y1:Int}:(Op.equalIn (d+2) 120 (.agg #[.int .i64 x0,.int .i64 x1]) (.agg #[.int .i64 y0,.int .i64 y1])).run Tryz.prog w= .ok (decide (x0=y0/\x1=y1)) w:=by
 have h:=eqS (w:=w) (d:=d+1) (xs:= #[.int .i64 x0,.int .i64 x1]) (ys:= #[.int .i64 y0,.int .i64 y1]) Tryz.underlying120 BQ (NM AB (Ft DP rfl) (Ft DP rfl) (NN (d:=d+0) Tryz.underlying3) (NM AB (Ft DP rfl) (Ft DP rfl) (NN (d:=d+0) Tryz.underlying3) (cE)));refine h.trans (congrArg (fun b=>Result.ok b w) ?_);rw[Bool.eq_iff_iff];simp[and_assoc]
theorem mU{u:TypeId}{y:Operand}{x0 y0:Int}{x1 y1:Int}(ho:o.op= .binOp .eql 120 x y u)(hx:VL E x (agg [is (.int .i64 x0),is (.int .i64 x1)]))(hy:VL E y (agg [is (.int .i64 y0),is (.int .i64 y1)])):Af Tryz.prog I o E (bool (decide (x0=y0/\x1=y1))):=
 Wq [.int .i64 x0,.int .i64 x1] [.int .i64 y0,.int .i64 y1] ho hx hy BQ (fun w=>by rw[show Op.equal 120 _ _=Op.equalIn (9998+2) 120 _ _ from rfl];exact mT)
theorem mV{u:TypeId}{y:Operand}{x0 y0:Int}{x1 y1:Int}(ho:o.op= .binOp .neq 120 x y u)(hx:VL E x (agg [is (.int .i64 x0),is (.int .i64 x1)]))(hy:VL E y (agg [is (.int .i64 y0),is (.int .i64 y1)])):Af Tryz.prog I o E (bool (!decide (x0=y0/\x1=y1))):=
 Wr [.int .i64 x0,.int .i64 x1] [.int .i64 y0,.int .i64 y1] ho hx hy BQ (fun w=>by rw[show Op.equal 120 _ _=Op.equalIn (9998+2) 120 _ _ from rfl];exact mT)
deriving instance DecidableEq for EF
deriving instance DecidableEq for E9
deriving instance DecidableEq for DY
deriving instance DecidableEq for Bl
theorem vg{α:Type}{a b:List α}{x y:α}(ha:a[k]? =some x)(hb:b[k]? =some y)(h:a.take k=b.take k)(e:x=y):a.take (k+1)=b.take (k+1):=by
 rw[List.take_add_one,List.take_add_one,ha,hb,h,e]
theorem vh{α:Type}{a b:List α}(hl:a.length=b.length)(h:a.take a.length=b.take a.length):a=b:=by
 rw[List.take_length,hl,List.take_length]at h;exact h
theorem ZQ{a b:EF}(hn:a.names.length<=8796093022208):Aq prog 394 [agg (C9 a),agg (C9 b)] (bool (decide (a=b))):=by
 refine fo func394 rfl ⟨rfl,rfl⟩ fun M0 w0=>?_;refine ac ?_;refine ag ?_ ?_<;>intro h1 q1
 refine ac ?_;refine wk [89,3,2] rfl ?_;refine a2 ?_
 .exact Fa
 refine ag ?_ ?_<;>intro h2 q2
 refine ac ?_;refine wk [89,3,2] rfl ?_;refine a2 ?_
 .exact Fa
 refine ag ?_ ?_<;>intro h3 q3
 refine ac ?_;refine wk [89,3,2] rfl ?_;refine a2 ?_
 .exact Fa
 refine ac ?_;refine cy h3 rfl (VN rfl vq vq) ?_;refine ag ?_ ?_<;>intro h4 q4
 refine ac ?_;refine wk [89,3,2] rfl ?_;refine a2 ?_
 .exact Fa
 refine ag ?_ ?_<;>intro h5 q5
 refine ac ?_;refine wk [89,3,2] rfl ?_;refine a2 ?_
 .exact Fa
 refine ac ?_;refine cy h5 rfl (VN rfl vq vq) ?_;refine ag ?_ ?_<;>intro h6 q6
 refine ac ?_;refine wk [89,3,2] rfl ?_;refine a2 ?_
 .exact Fa
 refine ag ?_ ?_<;>intro h7 q7
 refine ac ?_;refine wk [89,3,2] rfl ?_;refine a2 ?_
 .exact Fa
 refine ag ?_ ?_<;>intro h8 q8
 refine ac ?_;refine wk [89,3,2] rfl ?_;refine a2 ?_
 .exact Fa
 refine ac ?_;refine cy h8 rfl (Uy rfl underlying4 vq vq) ?_;refine ag ?_ ?_<;>intro h9 q9
 refine ac ?_;refine wk [89,3,2] rfl ?_;refine a2 ?_
 .exact Fa
 refine ag ?_ ?_<;>intro h10 NT
 refine ac ?_;refine wk [89,3,2] rfl ?_;refine a2 ?_
 .exact Fa
 refine ac ?_;refine cy h10 rfl (mV rfl vq vq) ?_;refine ag ?_ ?_<;>intro h11 Rl
 refine ac ?_;refine wk [89,3,2] rfl ?_;refine a2 ?_
 .exact Fa
 refine ac ?_;refine wk [89,3,2] rfl ?_;refine Tr.cn rfl ?_ ?_<;>intro h12 Tn
 refine a2 ?_
 .exact Fa
 have jE:a.names.length=b.names.length:=by simp_all;omega
 refine a2 ?_;refine Tr.block (Tr.BV _ (kk [92,3,2] rfl) (fun k:Nat=>[(93,int ((k:Nat):Int))]) (fun k:Nat=>k<=(a.names).length/\(a.names.take k=b.names.take k)) (fun k:Nat=>(a.names).length-k) 0 (⟨Nat.zero_le _,rfl⟩) kz ?_);rintro k ⟨BN,AW⟩;refine ac ?_;refine Tr.seq ?_;refine Tr.cn rfl ?_ ?_<;>intro LX YN
 have Ae:k<(a.names).length:=AQ LX;obtain⟨x,Ad⟩:=at_ Ae;obtain⟨y,hy⟩:=at_ (l:=b.names) (k:=k) AA
 .repeat' first|(refine bool_eq ?_;symm;rw[decide_eq_false_iff_not];rintro rfl;rw[Ad]at hy;cases hy;simp_all)|exact Fin.AP (k+1) ⟨⟨Ae,vg Ad hy AW CU⟩,by omega⟩ ⟨⟨_,rfl,AK k⟩,kz⟩|refine co rfl (AD rfl underlying67 Lj vq vq AA (Ap Ad)) ?_|refine co rfl (AD rfl underlying67 Lj vq vq AA (Ap hy)) ?_|refine ac ?_|(refine Tr.cn rfl ?_ ?_<;>intro h q)
 have BA:k=(a.names).length:=by have:=AU LX;omega
 subst BA;refine a3 ?_
 .refine bool_eq ?_;have hnn:=vh jE AW;clear AW jE;cases a;cases b;simp_all
theorem ZR{a b:E9}(hs:a.small):Aq prog 377 [agg (BT a),agg (BT b)] (bool (decide (a=b))):=by
 refine fo func377 rfl ⟨rfl,rfl⟩ fun M0 w0=>?_;have hsc:=hs.chain;refine a2 ?_;refine co rfl (VN rfl vq vq) (cm rfl ?_);refine Ch.cs 11 rfl ?_ ?_<;>intro h1 q1
 refine ac ?_;refine wk [26,3,2] rfl ?_;refine a2 ?_
 .exact Fa
 refine ag ?_ ?_<;>intro h2 q2
 refine ac ?_;refine wk [26,3,2] rfl ?_;refine a2 ?_
 .exact Fa
 refine ac ?_;refine wk [26,3,2] rfl ?_;refine Tr.cn rfl ?_ ?_<;>intro h3 q3
 refine a2 ?_
 .exact Fa
 have jE:a.chain.length=b.chain.length:=by simp_all;omega
 refine a2 ?_;refine Tr.block (Tr.BV _ (kk [29,3,2] rfl) (fun k:Nat=>[(30,int ((k:Nat):Int))]) (fun k:Nat=>k<=(a.chain).length/\(a.chain.take k=b.chain.take k)) (fun k:Nat=>(a.chain).length-k) 0 (⟨Nat.zero_le _,rfl⟩) kz ?_);rintro k ⟨BN,AW⟩;refine ac ?_;refine Tr.seq ?_;refine Tr.cn rfl ?_ ?_<;>intro h4 q4
 have Ae:k<(a.chain).length:=AQ h4;obtain⟨x,Ad⟩:=at_ Ae;obtain⟨y,hy⟩:=at_ (l:=b.chain) (k:=k) AA;have hxn:=hs.names x (List.mem_of_getElem? Ad)
 .repeat' first|(refine bool_eq ?_;symm;rw[decide_eq_false_iff_not];rintro rfl;rw[Ad]at hy;cases hy;simp_all)|exact Fin.AP (k+1) ⟨⟨Ae,vg Ad hy AW CU⟩,by omega⟩ ⟨⟨_,rfl,AK k⟩,kz⟩|refine co rfl (AD rfl underlying76 DD vq vq AA (Ap Ad)) ?_|refine co rfl (AD rfl underlying76 DD vq vq AA (Ap hy)) (co rfl (AO rfl Ja DD vq rfl rfl) (co rfl (CG (ZQ hxn) rfl rfl rfl) ?_))|refine ac ?_|(refine Tr.cn rfl ?_ ?_<;>intro h q)
 have BA:k=(a.chain).length:=by have:=AU h4;omega
 subst BA;refine a3 ?_
 .refine bool_eq ?_;have hnn:=vh jE AW;clear AW jE hs;cases a;cases b;simp_all
theorem dH{k:Int}(hk:1<=k/\k<=12):k=1\/k=2\/k=3\/k=4\/k=5\/k=6\/k=7\/k=8\/k=9\/k=10\/k=11\/k=12:=by omega
theorem XT{c:Bl}{f:Int}(hc:F4 c)(h:BL e c= .error f):f≠0:=by
 rcases dH hc.1 with hk|hk|hk|hk|hk|hk|hk|hk|hk|hk|hk|hk
 .rw[QU hk]at h;(repeat' (split at h))<;>first|(injection h with h;omega)|(cases h;done)
 .rw[QV hk]at h;(repeat' (split at h))<;>first|(injection h with h;omega)|(cases h;done)
 .rw[QW hk]at h;(repeat' (split at h))<;>first|(injection h with h;omega)|(cases h;done)
 .rw[QX hk]at h;(repeat' (split at h))<;>first|(injection h with h;omega)|(cases h;done)
 .rw[QY hk]at h;(repeat' (split at h))<;>first|(injection h with h;omega)|(cases h;done)
 .rw[QZ hk]at h;(repeat' (split at h))<;>first|(injection h with h;omega)|(cases h;done)
 .rw[Qa hk]at h;(repeat' (split at h))<;>first|(injection h with h;omega)|(cases h;done)
 .rw[Qb hk]at h;(repeat' (split at h))<;>first|(injection h with h;omega)|(cases h;done)
 .rw[Qc hk]at h;(repeat' (split at h))<;>first|(injection h with h;omega)|(cases h;done)
 .rw[Nc hk]at h;(repeat' (split at h))<;>first|(injection h with h;omega)|(cases h;done)
 .rw[Nd hk]at h;(repeat' (split at h))<;>first|(injection h with h;omega)|(cases h;done)
 .rw[Nf hk]at h;(repeat' (split at h))<;>first|(injection h with h;omega)|(cases h;done)
theorem gC{c:Bl}{x:DY}{b:Bl}(h:Cr e c=(x,b,0)):dD e/\F4 c/\BL e c= .ok (x,b)/\dD x:=by
 unfold Cr at h
 split at h
 .cases h
 next h1=>
 split at h
 .cases h
 next h2=>
 have h1 : B5 e = true := by cases hh : B5 e with
  |true=>rfl
  |false=>exact absurd hh h1
 have h2:F4 c:=Classical.not_not.1 h2;cases hs:BL e c with
 |error f=>
  rw[hs]at h;simp only[Prod.mk.injEq]at h;exact absurd h.2.2 (XT h2 hs)
 |ok r=>
  obtain⟨x',b'⟩:=r;rw[hs]at h;simp only at h
  split at h
  next h3=>simp only[Prod.mk.injEq,and_true]at h;obtain⟨rfl,rfl⟩:=h;exact⟨DR.1 h1,h2,rfl,DR.1 h3⟩
  .cases h
section
variable{α:Type}{p:α->Bool}{l:List α}{a:α}{i:Nat}
end
theorem ZS(h:Gy l=true){n:Int}(hi:l[i]? =some n)(hj:l[j]? =some n):i=j:=by
 unfold Gy at h;rw[B0]at h
 have key:∀{a b:Nat},a<b->l[a]? =some n->l[b]? =some n->False:=by
  intro a b hab ha hb;have:=h b (A7 hb);unfold Em at this;rw[getD_at hb]at this;simp only[Bool.and_eq_true,Bool.not_eq_true',List.any_eq_false]at this;have:=this.2 n (List.mem_of_getElem? (show(l.take b)[a]? =some n by rw[List.getElem?_take,if_pos hab];exact ha));simp at this
 rcases Nat.lt_trichotomy i j with h1|h1|h1
 .exact(key h1 hi hj).elim
 .exact h1
 .exact(key h1 hj hi).elim
abbrev To:List Pr:=[MK .u8]
abbrev dI(m:Nat):Pr:=slice 1 (List.replicate m To)
abbrev Fj(B:Nat):Pr:=Cp.ex fun m:Nat=>fact (m<=B) (dI m)
abbrev XU:Pr:=Cp.ex fun b:Bool=>bool b
abbrev Bs(q:Pr):List Pr:=[MK .i64,Fj 1000,XU,q]
abbrev Kc(row:List Pr):Pr:=Cp.ex fun m:Nat=>fact (m<=20) (slice 4 (List.replicate m row))
abbrev MU(D:Nat):Pr:=Cp.ex fun d:Int=>fact (0<=d/\d<=(D:Nat)) (int d)
theorem Ke{r:List Pr}(h:k<m):(List.replicate m r)[((k:Nat):Int).toNat]? =some r:=by rw[Int.toNat_natCast,List.getElem?_replicate,if_pos h]
theorem dJ{r:List Pr}:List.replicate m r++[r]=List.replicate (m+1) r:=by rw[List.replicate_succ']
theorem Ng{r:List Pr}:List.replicate m r++List.replicate k r=List.replicate (m+k) r:=by rw[List.replicate_append_replicate]
theorem Hh.refl:∀l:List Pr,Hh l l
 |[]=>trivial
 |_::l=>⟨Pr.le_refl _,Hh.refl l⟩
theorem Wh{sz:Nat}{rows':List (List Pr)}(hl:rows.length=rows'.length)(h:∀(i:Nat) r r',rows[i]? =some r->rows'[i]? =some r'->r.length=r'.length/\∀(j:Nat) p p',r[j]? =some p->r'[j]? =some p'->Pr.le p p'):Pr.le (slice sz rows) (slice sz rows'):=by
 rintro M w v ⟨a,cap,h1,h2,h3,h4,h5⟩;refine⟨a,cap,by rw[←hl];exact h1,by rw[←hl];exact h2,h3,h4,fun i row hr=>?_⟩;have hi:i<rows.length:=by rw[hl];exact A7 hr
 have hr0:=List.getElem?_eq_getElem hi;obtain⟨g1,g2⟩:=h i _ _ hr0 hr;obtain⟨k1,ad,k2,k3⟩:=h5 i _ hr0;refine⟨by rw[←g1];exact k1,ad,k2,fun j p' hp'=>?_⟩;have hj:j<rows[i].length:=by rw[g1];exact A7 hp'
 have hp:=List.getElem?_eq_getElem hj;obtain⟨u,c1,c2,c3,c4⟩:=k3 j _ hp;exact⟨u,c1,c2,c3,g2 j _ _ hp hp' _ _ _ c4⟩
theorem gD{sz:Nat}{r:List Pr}(h:∀q∈rows,q.length=r.length/\∀(j:Nat) p p',q[j]? =some p->r[j]? =some p'->Pr.le p p'):Pr.le (slice sz rows) (slice sz (List.replicate rows.length r)):=by grind [Wh,A7]
theorem Ya{β:Type}{l:List β}{f:β->Int}:Pr.le (slice 1 (l.map fun x=>[is (.int .u8 (f x))])) (dI l.length):=by
 have:=gD (sz:=1) (rows:=l.map fun x=>[is (.int .u8 (f x))]) (r:=To) (by
  intro q hq;obtain⟨x,_,rfl⟩:=List.mem_map.1 hq;refine⟨rfl,fun j p p' hp hp'=>?_⟩;cases j with
  |zero=>simp at hp hp';subst hp;subst hp';exact Eh _ _
  |succ j=>simp at hp)
 rwa [List.length_map]at this
theorem GX{B:Nat}(h:m<=B)(hp:Pr.le p (dI m)):Pr.le p (Fj B):=Co m (EG h hp)
theorem Aq.Bs{row:List Pr}{res:Pr}(h:∀(t:Int) (b:Nat) (n:Bool) (m:Nat),b<=1000->m<=20->Aq P f [agg [int t,dI b,bool n,slice 4 (List.replicate m row)]] res):Aq P f [agg (Bs (Kc row))] res:=by
 refine⟨(h 0 0 false 0 AA AA).1,fun M w vs hb hv=>?_⟩
 match vs,hv with
 |[u0],O2=>
  obtain⟨⟨cs,rfl,ho,hcs⟩,_⟩:=O2
  match cs,hcs with
  |[c0,c1,c2,c3],hc=>
   obtain⟨⟨t,h0⟩,⟨b,N0,h1⟩,⟨n,h2⟩,⟨m,hm1,h3⟩,_⟩:=hc;exact(h t b n m N0 hm1).2 M w _ hb ⟨⟨_,rfl,ho,h0,h1,h2,h3,trivial⟩,trivial⟩
theorem Aq.mW{res:Pr}(h:∀(t:Int) (b:Nat) (n:Bool),b<=1000->Aq P f [agg [int t,dI b,bool n,slice 4 []]] res):Aq P f [agg [MK .i64,Fj 1000,XU,slice 4 []]] res:=by
 refine⟨(h 0 0 false AA).1,fun M w vs hb hv=>?_⟩
 match vs,hv with
 |[u0],O2=>
  obtain⟨⟨cs,rfl,ho,hcs⟩,_⟩:=O2
  match cs,hcs with
  |[c0,c1,c2,c3],hc=>
   obtain⟨⟨t,h0⟩,⟨b,N0,h1⟩,⟨n,h2⟩,h3,_⟩:=hc;exact(h t b n N0).2 M w _ hb ⟨⟨_,rfl,ho,h0,h1,h2,h3,trivial⟩,trivial⟩
theorem yX{n:Int}  :Aq prog 255 [int n] (bool (decide (1<=n)&&decide (n<=255)&&(n.tmod 32 !=31))):=by
 refine fo func255 rfl ⟨rfl,rfl⟩ fun M0 w0=>?_;refine ac ?_;refine ag ?_ ?_<;>intro h1 q1
 refine ag ?_ ?_<;>intro h2 q2
 refine JW h2 rfl (cy h2 rfl (L6 rfl vq vq AA) ?_);refine a2 ?_
 .exact F7
 refine a2 ?_
 .exact Gq
 refine a2 ?_
 .exact Gq
theorem OZ{t:Int}{b:Nat}{n:Bool}{q:Pr}(hb:b<=1000)(hm:m<=20)(ih:m=0\/Aq prog 209 [agg (Bs q)] (XU)):Aq prog 209 [agg [int t,dI b,bool n,slice 4 (List.replicate m (Bs q))]] (XU):=by
 refine fo func209 rfl ⟨rfl,rfl⟩ fun M0 w0=>?_;have hlr:(List.replicate m (Bs q)).length=m:=List.length_replicate;have hlb:(List.replicate b To).length=b:=List.length_replicate;refine a2 ?_;refine co rfl (BS (yX) rfl rfl) ?_;refine ag ?_ ?_<;>intro h1 q1
 refine ac ?_;refine wk [38,1] rfl ?_;refine a2 ?_
 .exact HN
 refine ac ?_;refine cy h1 rfl (N7 rfl vq vq AA) (cy h1 rfl (L6 rfl vq vq AA) (cy h1 rfl Yr (cy h1 rfl (Uy rfl underlying4 vq vq) ?_)));refine ag ?_ ?_<;>intro h2 q2
 refine ac ?_;refine wk [38,1] rfl ?_;refine a2 ?_
 .exact HN
 refine ag ?_ ?_<;>intro h3 q3
 refine ac ?_;refine cy h3 rfl (BJ rfl underlying180 vq) ?_;refine ag ?_ ?_<;>intro h4 q4
 refine ac ?_;refine wk [38,1] rfl ?_;refine a2 ?_
 .exact HN
 refine ag ?_ ?_<;>intro h5 q5
 refine ac ?_;refine cy h5 rfl (BJ rfl underlying246 vq) ?_;refine ac ?_;refine wk [38,1] rfl ?_;refine Tr.cn rfl ?_ ?_<;>intro h6 q6
 refine a2 ?_
 .exact HN
 refine a2 ?_;refine Tr.block (Tr.BV _ (kk [1] rfl) (fun k:Nat=>[(3,int ((k:Nat):Int))]) (fun k:Nat=>k<=((List.replicate m (Bs q)).length)) (fun k:Nat=>((List.replicate m (Bs q)).length)-k) 0 (Nat.zero_le _) kz ?_);rintro k BN;refine ac ?_;refine co rfl (BJ rfl underlying246 vq) ?_;refine an ?_ ?_<;>intro h7 q7
 have Ae:k<((List.replicate m (Bs q)).length):=AQ h7;have hkm:k<m:=by simpa using Ae
 have ih2:=ih.resolve_left AA;refine ac ?_;refine ap ?_;refine tp rfl (AD rfl underlying246 BH vq vq AA (Ke hkm)) (tp rfl (AO rfl Bn BH vq rfl rfl) (tp rfl (BS (ih2) rfl rfl) ?_));refine TO.ex 51 rfl (fun z51=>?_);refine ap ?_
 .exact UJ
 have BA:k=((List.replicate m (Bs q)).length):=by have:=AU h7;omega
 refine a3 ?_
 .exact HN
 refine ac ?_;refine wk [38,1] rfl ?_;refine a2 ?_;refine Tr.block (Tr.BV _ (kk [1] rfl) (fun k:Nat=>[(3,int ((k:Nat):Int))]) (fun k:Nat=>k<=((List.replicate m (Bs q)).length)) (fun k:Nat=>((List.replicate m (Bs q)).length)-k) 0 (Nat.zero_le _) kz ?_);rintro k BN;refine ac ?_;refine co rfl (BJ rfl underlying246 vq) ?_;refine an ?_ ?_<;>intro h9 q9
 have Ae:k<((List.replicate m (Bs q)).length):=AQ h9;have hkm:k<m:=by simpa using Ae
 have ih2:=ih.resolve_left AA;refine ac ?_;refine ap ?_;refine tp rfl (AD rfl underlying246 BH vq vq AA (Ke hkm)) (tp rfl (AO rfl Bn BH vq rfl rfl) (tp rfl (BS (ih2) rfl rfl) ?_));refine TO.ex 51 rfl (fun z51=>?_);refine ap ?_
 .exact UJ
 have BA:k=((List.replicate m (Bs q)).length):=by have:=AU h9;omega
 refine a3 ?_
 .exact HN
 refine ag ?_ ?_<;>intro h11 Rl
 refine ac ?_;refine cy h11 rfl (BJ rfl underlying246 vq) ?_;refine ac ?_;refine wk [38,1] rfl ?_;refine Tr.cn rfl ?_ ?_<;>intro h12 Tn
 refine a2 ?_
 .exact HN
 refine a2 ?_;refine Tr.block (Tr.BV _ (kk [1] rfl) (fun k:Nat=>[(3,int ((k:Nat):Int))]) (fun k:Nat=>k<=((List.replicate m (Bs q)).length)) (fun k:Nat=>((List.replicate m (Bs q)).length)-k) 0 (Nat.zero_le _) kz ?_);rintro k BN;refine ac ?_;refine co rfl (BJ rfl underlying246 vq) ?_;refine an ?_ ?_<;>intro LX YN
 have Ae:k<((List.replicate m (Bs q)).length):=AQ LX;have hkm:k<m:=by simpa using Ae
 have ih2:=ih.resolve_left AA;refine ac ?_;refine ap ?_;refine tp rfl (AD rfl underlying246 BH vq vq AA (Ke hkm)) (tp rfl (AO rfl Bn BH vq rfl rfl) (tp rfl (BS (ih2) rfl rfl) ?_));refine TO.ex 51 rfl (fun z51=>?_);refine ap ?_
 .exact UJ
 have BA:k=((List.replicate m (Bs q)).length):=by have:=AU LX;omega
 refine a3 ?_
 .exact HN
 refine ac ?_;refine wk [38,1] rfl ?_;refine a2 ?_;refine Tr.block (Tr.BV _ (kk [1] rfl) (fun k:Nat=>[(3,int ((k:Nat):Int))]) (fun k:Nat=>k<=((List.replicate m (Bs q)).length)) (fun k:Nat=>((List.replicate m (Bs q)).length)-k) 0 (Nat.zero_le _) kz ?_);rintro k BN;refine ac ?_;refine co rfl (BJ rfl underlying246 vq) ?_;refine an ?_ ?_<;>intro Ss pS
 have Ae:k<((List.replicate m (Bs q)).length):=AQ Ss;have hkm:k<m:=by simpa using Ae
 have ih2:=ih.resolve_left AA;refine ac ?_;refine ap ?_;refine tp rfl (AD rfl underlying246 BH vq vq AA (Ke hkm)) (tp rfl (AO rfl Bn BH vq rfl rfl) (tp rfl (BS (ih2) rfl rfl) ?_));refine TO.ex 51 rfl (fun z51=>?_);refine ap ?_
 .exact UJ
 have BA:k=((List.replicate m (Bs q)).length):=by have:=AU Ss;omega
 refine a3 ?_
 .exact HN
theorem Rw{t:Int}{b:Nat}{n:Bool}{q:Pr}{D:Nat}(hb:b<=1000)(hm:m<=20)(hD:D<=1000)(ih:m=0\/Aq prog 210 [agg (Bs q)] (MU D)):Aq prog 210 [agg [int t,dI b,bool n,slice 4 (List.replicate m (Bs q))]] (MU (D+1)):=by
 refine fo func210 rfl ⟨rfl,rfl⟩ fun M0 w0=>?_;have hlr:(List.replicate m (Bs q)).length=m:=List.length_replicate;have hlb:(List.replicate b To).length=b:=List.length_replicate;refine ac ?_;refine ac ?_;refine ac ?_;refine Tr.block (Tr.BV _ (kk [1] rfl) (fun k:Nat=>[(4,int ((k:Nat):Int)),(3,MU D)]) (fun k:Nat=>k<=((List.replicate m (Bs q)).length)) (fun k:Nat=>((List.replicate m (Bs q)).length)-k) 0 (Nat.zero_le _) ⟨kq,⟨_,rfl,Co 0 (EG AA Lr)⟩,trivial⟩ ?_);rintro k BN;refine ac ?_;refine co rfl (BJ rfl underlying246 vq) ?_;refine ac ?_;refine Tr.cn rfl ?_ ?_<;>intro h1 q1
 have Ae:k<((List.replicate m (Bs q)).length):=AQ h1;have hkm:k<m:=by simpa using Ae
 have ih2:=ih.resolve_left AA;refine ac ?_;refine Tr.seq (Tr.block (Tr.At (tm rfl ?_)));refine TO.ex 12 rfl (fun z12=>TO.fact 12 rfl fun AHW=>?_);refine tp rfl (Lf rfl cB rfl rfl) (tp rfl (FO rfl kM rfl) (tm rfl (tp rfl (AD rfl underlying246 BH (vl rfl) (vl rfl) AA (Ke hkm)) (tp rfl (AO rfl Bn BH (vl rfl) rfl rfl) (tp rfl (BS (ih2) rfl rfl) ?_)))));refine TO.ex 18 rfl (fun z18=>TO.fact 18 rfl fun ADL=>?_);refine tp rfl (Ur rfl vq vq) ?_;refine ap ?_;refine wk [4,3,1] rfl ?_;refine ac ?_;exact Fin.AP (k+1) ⟨Ae,by omega⟩ ⟨⟨_,rfl,AK k⟩,⟨_,rfl,Co _ (EG AA Lr)⟩,kz⟩;have BA:k=((List.replicate m (Bs q)).length):=by have:=AU h1;omega
 refine ac ?_;refine ap ?_;refine TO.ex 20 rfl (fun z20=>TO.fact 20 rfl fun AHX=>?_);refine ap ?_;refine ac ?_
 .exact Uj
def Ry(n:Nat):Nat:=if h:n=0 then 0 else 1+Ry (n/256)
termination_by n
decreasing_by omega
theorem Tp:Ry 0=0:=by unfold Ry;simp
theorem XV{n:Nat}(h:0<n):Ry n=1+Ry (n/256):=by conv=>lhs;unfold Ry;rw[dif_neg AA]
theorem Vl:∀(n:Nat),Ry n<=n:=by
 intro n
 induction n using Nat.strongRecOn with
 |_ n ih=>
  rcases Nat.eq_zero_or_pos n with h|h
  .subst h;rw[Tp];omega
  .rw[XV h];have:=ih (n/256) AA;omega
def gE(n:Nat):Nat:=if n<128 then 1 else 1+Ry n
theorem dK(n:Nat):gE n<=n+1:=by unfold gE;have:=Vl n;split<;>omega
theorem pV(k:Int):Pr.le (slice 1 [[is (.int .u8 k)]]) (dI 1):=Ya (l:=[()]) (f:=fun _=>k)
theorem gF{n:Nat}(hn:n<=100000000):Aq prog 256 [int ((n:Nat):Int)] (dI (gE n)):=by
 refine fo func256 rfl ⟨rfl,rfl⟩ fun M0 w0=>?_;refine ac ?_;refine an ?_ ?_<;>intro h1 q1
 refine ac ?_;refine co rfl (B9 rfl underlying3 underlying5 vq) (co rfl (AX (xs:=[.tmp 7]) (rows:=[To]) rfl rfl underlying180 Fq z5 rfl AB ⟨⟨Ab,VL.le vq (Pr.le_trans (Eh _ _) (AV _))⟩,trivial⟩ AB) ?_);refine a2 ?_
 .refine Pr.le_trans (A_ _ _) (Pr.le_of_eq ?_);unfold gE;rw[if_pos AA];rfl
 refine a2 ?_;refine Tr.seq (Tr.block (Tr.Dt 5 1 (Tr.RL [] trivial (fun(k:Nat) (acc:Nat) v=>[(0,int ((k:Nat):Int)),(3,Aj v (dI acc))]) (fun(k:Nat) (acc:Nat) v=>Hp M0 w0 Ju ([Bc 5 1 v])) (fun(k:Nat) (acc:Nat)=>Ry k+acc=Ry n/\k<=n) (fun(k:Nat) (acc:Nat)=>k) (n) (0) (.slice none 0 0) (⟨by omega,by omega⟩) ⟨kq,⟨_,rfl,DA rfl⟩,trivial⟩ (fun _ _ h=>h) ?_)));rintro k acc v ⟨hk1,hk2⟩;refine an ?_ ?_<;>intro h2 q2
 have hk0:0<k:=by have:=Fy.HC h2;omega
 have hdg:=XV hk0;have hle:=Vl n;refine ac ?_;refine ap ?_;refine tp rfl (L6 rfl vq vq AA) (tp rfl (B9 rfl underlying3 underlying5 vq) (tp rfl (AX (xs:=[.tmp 13]) (rows:=[To]) rfl rfl underlying180 Fq z5 rfl AB ⟨⟨Ab,VL.le vq (Pr.le_trans (Eh _ _) (AV _))⟩,trivial⟩ AB) ?_));refine tm rfl (TO.pad ?_);refine TO.EV 0 rfl rfl AB (FI rfl rfl rfl rfl underlying180 Fq Mo z5 Ec Ij (Bv BW vq)) (fun v1=>?_);refine ap ?_;refine ac ?_;refine co rfl (N7 rfl vq vq AA) ?_;refine ac ?_;refine Fin.drop 1 ?_;exact Fin.EJ (k/256) (acc+1) v1 (⟨⟨by omega,by omega⟩,by omega⟩) ⟨⟨_,rfl,int_eq (by rw[Int.tdiv_eq_ediv_of_nonneg AA,Gt H8];omega)⟩,⟨_,rfl,CZ (by rw[show([To]:List (List Pr))=List.replicate 1 To from rfl,Ng,Nat.add_comm])⟩,trivial⟩ (fun _ _ h=>h);have hk0:k=0:=by have:=Fy.HC h2;omega
 subst hk0;have hle:=Vl n;rw[Tp]at hk1;refine ac ?_;refine ap ?_;refine tp rfl (BJ rfl underlying180 Ij) (tp rfl Yr (tp rfl (B9 rfl underlying3 underlying5 vq) (tp rfl (AX (xs:=[.tmp 22]) (rows:=[To]) rfl rfl underlying180 Fq z5 rfl AB ⟨⟨Ab,VL.le vq (Pr.le_trans (Eh _ _) (AV _))⟩,trivial⟩ AB) ?_)));refine tm rfl (TO.pad ?_);refine TO.EV 0 rfl rfl AB (FI rfl rfl rfl rfl underlying180 Fq Mo z5 Ec Ij (Bv BW vq)) (fun v2=>?_);refine ap ?_;refine ac ?_
 .refine Pr.le_trans (A0 _ _) (Pr.le_of_eq ?_);unfold gE;rw[if_neg AA,show([To]:List (List Pr))=List.replicate 1 To from rfl,Ng,show acc=Ry n by omega]
theorem ZT{t:Int}{b:Nat}{n:Bool}{q:Pr}{B:Nat}(hb:b<=1000)(hm:m<=20)(hB:B<=1000000)(ih:m=0\/Aq prog 211 [agg (Bs q)] (Fj B)):Aq prog 211 [agg [int t,dI b,bool n,slice 4 (List.replicate m (Bs q))]] (Fj (2*(1000+20*B)+2)):=by
 refine fo func211 rfl ⟨rfl,rfl⟩ fun M0 w0=>?_;have hlr:(List.replicate m (Bs q)).length=m:=List.length_replicate;have hlb:(List.replicate b To).length=b:=List.length_replicate;refine ac ?_;refine ap ?_;refine TO.pad ?_;refine TO.EV 0 rfl rfl AB (FI rfl rfl rfl rfl underlying180 Fq Mo z5 Ec vq (Bv BW vq)) (fun v1=>?_);refine ap ?_;refine ac ?_;refine Tr.block (Tr.RL _ (kk [1] rfl) (fun(k:Nat) (acc:Nat) v=>[(4,int ((k:Nat):Int)),(3,Aj v (dI acc))]) (fun(k:Nat) (acc:Nat) v=>Hp M0 w0 Ju ([Bc 5 1 v])) (fun(k:Nat) (acc:Nat)=>k<=m/\acc<=b+k*B) (fun(k:Nat) (acc:Nat)=>m-k) (0) (b) v1 (⟨by omega,by omega⟩) ⟨kq,⟨_,rfl,CZ Ai⟩,trivial⟩ (fun _ _ h=>h) ?_);rintro k acc v ⟨hk1,hk2⟩;have hkB:k*B<=20*B:=Nat.mul_le_mul_right B AA;refine ac ?_;refine co rfl (BJ rfl underlying246 vq) ?_;refine an ?_ ?_<;>intro h1 q1
 have hkm:k<m:=by have:=Fy.HC h1;rw[hlr]at this;omega
 have ih2:=ih.resolve_left AA;refine ac ?_;refine ap ?_;refine tp rfl (AD rfl underlying246 BH vq vq AA (Ke hkm)) (tp rfl (AO rfl Bn BH vq rfl rfl) (tp rfl (BS (ih2) rfl rfl) ?_));refine TO.ex 22 rfl (fun z22=>TO.fact 22 rfl fun AHY=>?_);refine TO.EV 0 rfl rfl AB (FI rfl rfl rfl rfl underlying180 Fq Mo z5 Ij vq (CA BW E4)) (fun v2=>?_);refine ap ?_;refine wk [4,3,1] rfl ?_;refine ac ?_;exact Fin.EJ (k+1) (acc+z22) v2 (⟨⟨by omega,by rw[Nat.succ_mul];omega⟩,by omega⟩) ⟨⟨_,rfl,AK k⟩,⟨_,rfl,CZ (by rw[Ng])⟩,kz⟩ (fun _ _ h=>h);have ia:k=m:=by have:=Fy.HC h1;rw[hlr]at this;omega
 have jE:=dK acc;refine ac ?_;refine Tr.seq (Tr.pad (Tr.rx ?_));refine ay ?_;refine xo rfl (fun _=>B9 rfl underlying3 underlying5 vq) (xo rfl (fun _=>AX (xs:=[.tmp 26]) (rows:=[To]) rfl rfl underlying180 Fq z5 rfl AB ⟨⟨Ab,VL.le vq (Pr.le_trans (Eh _ _) (AV _))⟩,trivial⟩ AB) ?_);refine xm rfl (xo rfl (fun _=>BJ rfl underlying180 Ij) ?_);refine xo rfl (fun _=>Aa rfl (gF (n:=acc) AA) ⟨⟨_,rfl,int_eq Ai⟩,trivial⟩) ?_;refine Cx.ef 0 rfl rfl AB (FI rfl rfl rfl rfl underlying180 Fq Mo z5 Ec vq (Bv BW vq)) ?_;refine xm rfl ?_;refine Cx.ef 0 rfl rfl AB (FI rfl rfl rfl rfl underlying180 Fq Mo z5 vq Ij TD) ?_;refine Cx.ef 0 rfl rfl AB (ND rfl rfl AB rfl vq) ?_;refine Cx.nil ⟨by kernel_rfl,?_⟩;refine BG.open_ 0 2 rfl rfl (fun v3=>?_);refine BG.done WN (Fin.go (wk [2] rfl ?_));refine ac ?_
 .exact GX (m:=1+gE acc+acc) (by have:=dK acc;omega) (Pr.le_trans (A0 _ _) (Pr.le_of_eq (by rw[show([To]:List (List Pr))=List.replicate 1 To from rfl,Ng,Ng])))
theorem gG{q:Pr}{D B:Nat}(hf:Aq prog 209 [agg (Bs q)] XU)(hd:Aq prog 210 [agg (Bs q)] (MU D))(hp:Aq prog 211 [agg (Bs q)] (Fj B)):Aq prog 156 [agg (Bs q)] (EB [Fj B,MK .i64]):=by
 refine fo func156 rfl ⟨rfl,rfl⟩ fun M0 w0=>?_;refine ac ?_;refine ap ?_;refine tp rfl (BS (hf) rfl rfl) ?_;refine TO.ex 6 rfl (fun z6=>?_);refine ap ?_;refine Tr.cn rfl ?_ ?_<;>intro h1 q1
 refine ac ?_;refine Tr.ret (Fin.AF (Fin.C_ rfl (CL.Eo _ _) rfl ?_ rfl ?_))
 .exact Ue
 .exact Eh _ _
 refine ac ?_;refine ap ?_;refine tp rfl (BS (hd) rfl rfl) ?_;refine TO.ex 9 rfl (fun z9=>TO.fact 9 rfl fun hz9=>?_);refine ap ?_;refine Tr.cn rfl ?_ ?_<;>intro h2 q2
 refine ac ?_;refine Tr.ret (Fin.AF (Fin.C_ rfl (CL.Eo _ _) rfl ?_ rfl ?_))
 .exact Ue
 .exact Eh _ _
 refine a2 ?_;refine co rfl (BS (hp) rfl rfl) ?_;refine ac ?_;refine ap ?_;refine TO.ex 13 rfl (fun z13=>TO.fact 13 rfl fun AHZ=>?_);refine tp rfl (BJ rfl underlying180 vq) ?_;refine ap ?_;refine wk [15,4] rfl ?_;refine Tr.cn rfl ?_ ?_<;>intro h3 q3
 refine ac ?_;refine Tr.ret (Fin.AF (Fin.C_ rfl (CL.Eo _ _) rfl ?_ rfl ?_))
 .exact Ue
 .exact Eh _ _
 refine a2 ?_;refine Tr.ret (Fin.C_ rfl (CL.Eo _ _) rfl ?_ rfl ?_)
 .exact Lr
 .exact Eh _ _
theorem sY:IntKind.u8.wrap 0=0:=rfl
def lvI(x:Int):Nat:=if x<=0 then 0 else if x<256 then 1 else if x<65536 then 2 else if x<16777216 then 3 else if x<4294967296 then 4 else if x<1099511627776 then 5 else 6+x.toNat
theorem mX{x:Int}(h:0<x):lvI (x/256)<lvI x:=by
 unfold lvI
 repeat' split
 all_goals omega
def Nh(x h:Int):Nat:=if x=0 then(if 128<=h then 1 else 0)else lvI x+1
theorem sZ{n h:Int}(h0:0<=n)(h1:n<=1099511627776):Nh (n/256) h<=400:=by
 unfold Nh lvI
 repeat' split
 all_goals omega
theorem Hq{x h:Int}{t:Nat}(h0:0<=x)(hc:x≠0\/128<=h)(hi:t+Nh x h<=400):(0<=x/256/\t+1+Nh (x/256) (IntKind.u8.wrap x)<=400)/\Nh (x/256) (IntKind.u8.wrap x)<Nh x h:=by grind [Nh,sY,mX]
theorem IK{t u:TypeId}{y:Operand}{m:Int}(ho:o.op= .binOp .shr t x y u)(hx:VL E x (int m))(hy:VL E y (is (.int .u64 8)))(h0:0<=m):Af P I o E (int (m/256)):=
 Af.same fun M w a he _=>by
  have h1:a.eval x= .int .i64 m:=hx.ev he Am;have h2:a.eval y= .int .u64 8:=hy.ev he Am;refine⟨.int .i64 (m.fdiv 256),?_,congrArg (Value.int .i64) (Int.fdiv_eq_ediv_of_nonneg m AA)⟩;simp only[execOp,ho,h1,h2];simp[eqGuard,binOp,Op.shift,IntKind.bits]
abbrev q0:Pr:=slice 4 []
theorem MV{n:Int}(hn:0<=n/\n<=1099511627776):Aq prog 214 [int n] (agg (Bs q0)):=by
 refine fo func214 rfl ⟨rfl,rfl⟩ fun M0 w0=>(Tr.seq (Tr.At ?_));refine Tl rfl rfl rfl rfl EE DW (fun b1=>?_);refine ap ?_;refine ac ?_;refine co rfl (B9 rfl underlying3 underlying5 vq) ?_;refine a2 ?_;refine co rfl (IK rfl vq vq AA) ?_;refine ac ?_;refine Tr.block ?_;refine Tr.RM _ (kk [2] rfl) (fun(x:Int) (h:Int) (t:List Int)=>[(4,int x),(3,slice 1 ((h::t).map fun n=>[is (.int .u8 n)]))]) (fun(x:Int) (h:Int) (t:List Int)=>Hp M0 w0 Ju ([AE true b1 248 (([.int .i64 0,.slice none 0 0,.bool false,.slice none 0 0]:List Value).map is)])) (fun(x:Int) (h:Int) (t:List Int)=>0<=x/\t.length+Nh x h<=400) (fun(x:Int) (h:Int) (t:List Int)=>Nh x h) (n/256) (IntKind.u8.wrap n) ([])  (⟨by omega,by simp only[List.length_nil];have:=sZ (h:=IntKind.u8.wrap n) hn.1 hn.2;omega⟩) ⟨kq,⟨_,rfl,Pr.le_trans (A_ _ _) (Pr.le_of_eq rfl)⟩,trivial⟩ (fun _ _ h=>h) ?_;rintro x h t  ⟨hx0,hmu⟩;refine ag ?_ ?_<;>intro h1 q1
 refine ag ?_ ?_<;>intro h2 q2
 refine ac ?_;refine wk [35,4,3,2] rfl ?_;refine ac ?_;refine ap ?_;refine tp rfl (B9 rfl underlying3 underlying5 vq) ?_;refine ap ?_;refine TO.pad ?_;refine TO.EV 0 rfl rfl AB (FI rfl rfl rfl rfl underlying180 Fq Mo z5 Ec vq (Bv BW vq)) (fun v1=>?_);refine ap ?_;refine ac ?_;refine co rfl (IK rfl vq vq AA) ?_;refine ac ?_;refine Fin.drop 0 (Fin.Gx (x/256) (IntKind.u8.wrap x) (h::t)  ((Hq hx0 AA hmu)) ⟨kq,⟨_,rfl,Pr.le_trans (A0 _ _) (Pr.le_of_eq rfl)⟩,kz⟩ (fun _ _ h=>h));refine ag ?_ ?_<;>intro h3 q3
 refine JW h3 rfl ?_;refine cy h3 rfl (AD rfl underlying180 Fq vq vq AA (Ap (k:=0) rfl)) ?_;refine ag ?_ ?_<;>intro h4 q4
 refine ac ?_;refine wk [35,4,3,2] rfl ?_;refine ac ?_;refine ap ?_;refine tp rfl (B9 rfl underlying3 underlying5 vq) ?_;refine ap ?_;refine TO.pad ?_;refine TO.EV 0 rfl rfl AB (FI rfl rfl rfl rfl underlying180 Fq Mo z5 Ec vq (Bv BW vq)) (fun v2=>?_);refine ap ?_;refine ac ?_;refine co rfl (IK rfl vq vq AA) ?_;refine ac ?_;refine Fin.drop 0 (Fin.Gx (x/256) (IntKind.u8.wrap x) (h::t)  ((Hq hx0 AA hmu)) ⟨kq,⟨_,rfl,Pr.le_trans (A0 _ _) (Pr.le_of_eq rfl)⟩,kz⟩ (fun _ _ h=>h));refine ag ?_ ?_<;>intro h5 q5
 refine JW h5 rfl ?_;refine cy h5 rfl (AD rfl underlying180 Fq vq vq AA (Ap (k:=0) rfl)) ?_;refine ac ?_;refine wk [35,4,3,2] rfl ?_;refine Tr.cn rfl ?_ ?_<;>intro h6 q6
 have hc_:=h6;refine ac ?_;refine ap ?_;refine tp rfl (B9 rfl underlying3 underlying5 vq) ?_;refine ap ?_;refine TO.pad ?_;refine TO.EV 0 rfl rfl AB (FI rfl rfl rfl rfl underlying180 Fq Mo z5 Ec vq (Bv BW vq)) (fun v3=>?_);refine ap ?_;refine ac ?_;refine co rfl (IK rfl vq vq AA) ?_;refine ac ?_;refine Fin.drop 0 (Fin.Gx (x/256) (IntKind.u8.wrap x) (h::t)  ((Hq hx0 AA hmu)) ⟨kq,⟨_,rfl,Pr.le_trans (A0 _ _) (Pr.le_of_eq rfl)⟩,kz⟩ (fun _ _ h=>h));have hc_:=h6;refine ac ?_;refine ap ?_;refine Tr.ret (Fin.B4 rfl (AL.cell 0 rfl rfl Bn BH rfl Lr) ?_)
 .exact J6
 refine ac ?_;refine wk [35,4,3,2] rfl ?_;refine ac ?_;refine ap ?_;refine Tr.ret (Fin.B4 rfl (AL.cell 0 rfl rfl Bn BH rfl Lr) ?_)
 .exact J6
 refine ag ?_ ?_<;>intro h7 q7
 refine JW h7 rfl ?_;refine cy h7 rfl (AD rfl underlying180 Fq vq vq AA (Ap (k:=0) rfl)) ?_;refine ac ?_;refine wk [35,4,3,2] rfl ?_;refine Tr.cn rfl ?_ ?_<;>intro h8 q8
 have hc_:=h8;refine ac ?_;refine ap ?_;refine tp rfl (B9 rfl underlying3 underlying5 vq) ?_;refine ap ?_;refine TO.pad ?_;refine TO.EV 0 rfl rfl AB (FI rfl rfl rfl rfl underlying180 Fq Mo z5 Ec vq (Bv BW vq)) (fun v4=>?_);refine ap ?_;refine ac ?_;refine co rfl (IK rfl vq vq AA) ?_;refine ac ?_;refine Fin.drop 0 (Fin.Gx (x/256) (IntKind.u8.wrap x) (h::t)  ((Hq hx0 AA hmu)) ⟨kq,⟨_,rfl,Pr.le_trans (A0 _ _) (Pr.le_of_eq rfl)⟩,kz⟩ (fun _ _ h=>h));have hc_:=h8;refine ac ?_;refine ap ?_;refine Tr.ret (Fin.B4 rfl (AL.cell 0 rfl rfl Bn BH rfl Lr) ?_)
 .exact J6
 refine ac ?_;refine wk [35,4,3,2] rfl ?_;refine ac ?_;refine ap ?_;refine Tr.ret (Fin.B4 rfl (AL.cell 0 rfl rfl Bn BH rfl Lr) ?_)
 .exact J6
 refine ag ?_ ?_<;>intro h9 q9
 refine JW h9 rfl ?_;refine cy h9 rfl (AD rfl underlying180 Fq vq vq AA (Ap (k:=0) rfl)) ?_;refine ag ?_ ?_<;>intro h10 NT
 refine ac ?_;refine wk [35,4,3,2] rfl ?_;refine ac ?_;refine ap ?_;refine tp rfl (B9 rfl underlying3 underlying5 vq) ?_;refine ap ?_;refine TO.pad ?_;refine TO.EV 0 rfl rfl AB (FI rfl rfl rfl rfl underlying180 Fq Mo z5 Ec vq (Bv BW vq)) (fun v5=>?_);refine ap ?_;refine ac ?_;refine co rfl (IK rfl vq vq AA) ?_;refine ac ?_;refine Fin.drop 0 (Fin.Gx (x/256) (IntKind.u8.wrap x) (h::t)  ((Hq hx0 AA hmu)) ⟨kq,⟨_,rfl,Pr.le_trans (A0 _ _) (Pr.le_of_eq rfl)⟩,kz⟩ (fun _ _ h=>h));refine ag ?_ ?_<;>intro h11 Rl
 refine JW h11 rfl ?_;refine cy h11 rfl (AD rfl underlying180 Fq vq vq AA (Ap (k:=0) rfl)) ?_;refine ac ?_;refine wk [35,4,3,2] rfl ?_;refine Tr.cn rfl ?_ ?_<;>intro h12 Tn
 have hc_:=h12;refine ac ?_;refine ap ?_;refine tp rfl (B9 rfl underlying3 underlying5 vq) ?_;refine ap ?_;refine TO.pad ?_;refine TO.EV 0 rfl rfl AB (FI rfl rfl rfl rfl underlying180 Fq Mo z5 Ec vq (Bv BW vq)) (fun v6=>?_);refine ap ?_;refine ac ?_;refine co rfl (IK rfl vq vq AA) ?_;refine ac ?_;refine Fin.drop 0 (Fin.Gx (x/256) (IntKind.u8.wrap x) (h::t)  ((Hq hx0 AA hmu)) ⟨kq,⟨_,rfl,Pr.le_trans (A0 _ _) (Pr.le_of_eq rfl)⟩,kz⟩ (fun _ _ h=>h));have hc_:=h12;refine ac ?_;refine ap ?_;refine Tr.ret (Fin.B4 rfl (AL.cell 0 rfl rfl Bn BH rfl Lr) ?_)
 .exact J6
 refine ac ?_;refine wk [35,4,3,2] rfl ?_;refine ac ?_;refine ap ?_;refine Tr.ret (Fin.B4 rfl (AL.cell 0 rfl rfl Bn BH rfl Lr) ?_)
 .exact J6
 refine ag ?_ ?_<;>intro LX YN
 refine JW LX rfl ?_;refine cy LX rfl (AD rfl underlying180 Fq vq vq AA (Ap (k:=0) rfl)) ?_;refine ac ?_;refine wk [35,4,3,2] rfl ?_;refine Tr.cn rfl ?_ ?_<;>intro MW mY
 have hc_:=MW;refine ac ?_;refine ap ?_;refine tp rfl (B9 rfl underlying3 underlying5 vq) ?_;refine ap ?_;refine TO.pad ?_;refine TO.EV 0 rfl rfl AB (FI rfl rfl rfl rfl underlying180 Fq Mo z5 Ec vq (Bv BW vq)) (fun v7=>?_);refine ap ?_;refine ac ?_;refine co rfl (IK rfl vq vq AA) ?_;refine ac ?_;refine Fin.drop 0 (Fin.Gx (x/256) (IntKind.u8.wrap x) (h::t)  ((Hq hx0 AA hmu)) ⟨kq,⟨_,rfl,Pr.le_trans (A0 _ _) (Pr.le_of_eq rfl)⟩,kz⟩ (fun _ _ h=>h));have hc_:=MW;refine ac ?_;refine ap ?_;refine Tr.ret (Fin.B4 rfl (AL.cell 0 rfl rfl Bn BH rfl Lr) ?_)
 .exact J6
 refine ac ?_;refine wk [35,4,3,2] rfl ?_;refine ac ?_;refine ap ?_;refine Tr.ret (Fin.B4 rfl (AL.cell 0 rfl rfl Bn BH rfl Lr) ?_)
 .exact J6
theorem Vm{s:List UInt8}(hs:s.length<=1000):Aq prog 212 [str s] (agg (Bs q0)):=by
 refine fo func212 rfl ⟨rfl,rfl⟩ fun M0 w0=>(Tr.seq (Tr.At ?_));refine Tl rfl rfl rfl rfl EE DW (fun b1=>?_);refine ap ?_;refine ap ?_;refine tp rfl (KL rfl underlying9 underlying180 underlying5 vq HJ) ?_;refine ap ?_;refine Tr.ret (Fin.B4 rfl (AL.cell 0 rfl rfl Bn BH rfl Lr) ?_)
 .exact Az ⟨Eh _ _,GX (m:=s.length) AA (Ya (f:=fun c:UInt8=>((c.toNat:Nat):Int))),Co _ Lr,AH 4,trivial⟩
theorem sj{b:Bool}  :Aq prog 216 [bool b] (agg (Bs q0)):=by
 refine fo func216 rfl ⟨rfl,rfl⟩ fun M0 w0=>(Tr.seq (Tr.At ?_));refine Tl rfl rfl rfl rfl EE DW (fun b1=>?_);refine ap ?_;refine an ?_ ?_<;>intro h1 q1
 refine ap ?_;refine tp rfl (Al (rows:=[(0,[_]),(1,[_])]) rfl PG DW ⟨⟨rfl,Cf⟩,⟨⟨rfl,⟨_,rfl,Pr.le_trans (A_ _ _) (AV _)⟩⟩,trivial⟩⟩ rfl) ?_;refine ap ?_;refine Tr.ret (Fin.AF (Fin.B4 rfl (AL.cell 0 rfl rfl Bn BH rfl Lr) ?_))
 .exact aZ
 refine ac ?_;refine ap ?_;refine tp rfl (Al (rows:=[(0,[_]),(1,[_])]) rfl PG DW ⟨⟨rfl,Cf⟩,⟨⟨rfl,⟨_,rfl,Pr.le_trans (A_ _ _) (AV _)⟩⟩,trivial⟩⟩ rfl) ?_;refine ap ?_;refine Tr.ret (Fin.B4 rfl (AL.cell 0 rfl rfl Bn BH rfl Lr) ?_)
 .exact aZ
theorem Oa{q:Pr}[One q](hm:m<=20)(ih:m=0\/Aq prog 257 [q] q):Aq prog 257 [slice 4 (List.replicate m (Bs q))] (slice 4 (List.replicate m (Bs q))):=by
 refine fo func257 rfl ⟨rfl,rfl⟩ fun M0 w0=>?_;have hlr:(List.replicate m (Bs q)).length=m:=List.length_replicate;refine ac ?_;refine ac ?_;refine ac ?_;refine Tr.block (Tr.Dt 248 4 (Tr.Ez _ (kk [0] rfl) (fun k v=>[(4,int ((k:Nat):Int)),(3,Aj v (slice 4 (List.replicate k (Bs q))))]) (fun k v=>Hp M0 w0 Ju ([Bc 248 4 v])) (fun k:Nat=>k<=((List.replicate m (Bs q)).length)) (fun k:Nat=>((List.replicate m (Bs q)).length)-k) 0 (.slice none 0 0) (Nat.zero_le _) ⟨kq,⟨_,rfl,DA rfl⟩,trivial⟩ (fun _ _ h=>h) ?_));rintro k v BN;refine ac ?_;refine co rfl (BJ rfl underlying246 vq) ?_;refine ac ?_;refine Tr.cn rfl ?_ ?_<;>intro h1 q1
 have Ae:k<((List.replicate m (Bs q)).length):=AQ h1;have hkm:k<m:=by simpa using Ae
 have ih2:=ih.resolve_left AA;refine ac ?_;refine ap ?_;refine tp rfl (AD rfl underlying246 BH vq vq AA (Ke hkm)) (tp rfl (AO rfl Bn BH vq rfl rfl) ?_);refine Tl rfl rfl rfl rfl EE DW (fun b1=>?_);refine ap ?_;refine ap ?_;refine TO.ex 18 rfl (fun z18=>TO.fact 18 rfl fun ADL=>?_);refine TO.pad ?_;refine TO.EV 0 rfl rfl AB (FI rfl rfl rfl rfl underlying180 Fq Mo z5 Ec vq (Bv BW vq)) (fun v1=>?_);refine ap ?_;refine wk [5,4,3,0] rfl ?_;refine ap ?_;refine tp rfl (BS (ih2) rfl rfl) ?_;refine ap ?_;refine Tr.At (tm rfl (TO.rd 1 rfl rfl rfl AB (Di rfl Bn BH (vl rfl) rfl rfl) (tp rfl (AX (xs:=[.tmp 26]) (rows:=[Bs q]) rfl rfl underlying246 BH EE rfl AB ⟨⟨Ab,VL.le (vl rfl) (Pr.le_trans (Az (qs:=Bs q) ⟨Lr,GX (m:=z18) AA (Pr.le_trans (A0 _ _) (Pr.le_of_eq rfl)),Lr,Lr,trivial⟩) (AJ _))⟩,trivial⟩ AB) ?_)));refine TO.EV 2 rfl rfl AB (FI rfl rfl rfl rfl underlying246 BH TJ EE (Kb rfl) (Kf rfl) (CA BW (Ka rfl))) (fun v2=>?_);refine ap ?_;refine Tr.drop 1 ?_;refine ac ?_;refine Fin.drop 0 (Fin.EX (k+1) v2 (⟨Ae,by omega⟩) ⟨⟨_,rfl,AK k⟩,⟨_,rfl,CZ (by rw[dJ])⟩,kz⟩ (fun _ _ h=>h));have BA:k=((List.replicate m (Bs q)).length):=by have:=AU h1;omega
 refine ac ?_;refine ac ?_;refine ac ?_
 .exact Pr.le_trans (A0 _ _) (Pr.le_of_eq (by rw[BA,hlr]))
theorem Vn{q:Pr}(hm:m<=20)(hc:Aq prog 257 [slice 4 (List.replicate m (Bs q))] (slice 4 (List.replicate m (Bs q)))):Aq prog 213 [slice 4 (List.replicate m (Bs q))] (agg (Bs (Kc (Bs q)))):=by
 refine fo func213 rfl ⟨rfl,rfl⟩ fun M0 w0=>(Tr.seq (Tr.At ?_));refine Tl rfl rfl rfl rfl EE DW (fun b1=>?_);refine ap ?_;refine ap ?_;refine tp rfl (BS (hc) rfl rfl) ?_;refine ap ?_;refine Tr.ret (Fin.B4 rfl (AL.cell 0 rfl rfl Bn BH rfl Lr) ?_)
 .exact Az ⟨Eh _ _,GX (m:=0) AA (AH 1),Co _ Lr,Co m (EG hm Lr),trivial⟩
structure EF.vf(c:EF):Prop where
 s0:0<=c.Ho
 s1:c.Ho<=1099511627776
 iss:named c.Gk=true
 sub:named c.FA=true
 nm:E6 c.names=true
 key:IQ c.OU c.I8 2=true
 k0:0<=c.Bm
 k1:c.Bm<=2147483648
 hash:IQ c.OV c.Ls 1=true
 sk0:0<=c.LY
 sk1:c.LY<=2147483648
 su0:0<=c.l6
 su1:c.l6<4294967296
 f0:0<=c.from_
 ft:c.from_<=c.DC
 t1:c.DC<=40000
 p0:0<=c.path
 p1:c.path<=8
 ap:c.auth=true\/c.path=0
theorem Ik{c:EF}(hv:CE c=true):c.vf:=by
 simp only[CE,G3,fR,Bool.and_eq_true,Bool.or_eq_true,decide_eq_true_eq,beq_iff_eq]at hv;obtain⟨⟨⟨⟨⟨⟨⟨h1,h2⟩,h3⟩,h4⟩,h5⟩,⟨⟨⟨⟨h6,⟨h7,h8⟩⟩,h9⟩,⟨h10,h11⟩⟩,⟨h12,LX⟩⟩⟩,⟨⟨MW,Ss⟩,h16⟩⟩,⟨⟨PK,Sa⟩,jA⟩⟩:=hv;exact⟨h1,h2,h3,h4,h5,h6,h7,h8,h9,h10,h11,h12,LX,MW,Ss,h16,PK,Sa,jA⟩
theorem dL{c:EF}(h:c.vf):CE c=true:=by
 simp only[CE,G3,fR,Bool.and_eq_true,Bool.or_eq_true,decide_eq_true_eq,beq_iff_eq];exact⟨⟨⟨⟨⟨⟨⟨h.s0,h.s1⟩,h.iss⟩,h.sub⟩,h.nm⟩,⟨⟨⟨⟨h.key,⟨h.k0,h.k1⟩⟩,h.hash⟩,⟨h.sk0,h.sk1⟩⟩,⟨h.su0,h.su1⟩⟩⟩,⟨⟨h.f0,h.ft⟩,h.t1⟩⟩,⟨⟨h.p0,h.p1⟩,h.ap⟩⟩
theorem ZU{a b k:Int}(h:IQ a b k=true):decide (CJ a b>0)=true/\(Dh a).kind=k:=by
 unfold IQ at h;simpa using h
theorem Ni{l:List (List UInt8)}{s:List UInt8}(h:nameAt l k=true)(hs:l[k]? =some s):named s=true:=by
 unfold nameAt at h;rw[hs]at h;simp at h;exact h.1
theorem dM{l:List (List UInt8)}{s y:List UInt8}(h:nameAt l k=true)(hs:l[k]? =some s)(hy:l[k-1]? =some y)(hk:0<k):decide (Lib.compareBytes y s= -1)=true:=by grind [nameAt]
theorem Tq{c:EF}(hv:CE c=true):Aq prog 87 [agg (C9 c)] (int 0):=by
 refine fo func87 rfl ⟨rfl,rfl⟩ fun M0 w0=>?_;obtain⟨hs0,hs1,ZV,hsub,hnm,hkey,hk0,hk1,Ts,yY,yZ,ya,yc,hf0,hft,ht1,eu,hp1,hap⟩:=Ik hv;obtain⟨ADM,ADN⟩:=ZU hkey;obtain⟨hh1,hh2⟩:=ZU Ts;have Ie:=hnm;unfold E6 at Ie;rw[Bool.and_eq_true,B0,decide_eq_true_eq]at Ie;obtain⟨hall,mZ⟩:=Ie;refine ac ?_;refine ag ?_ ?_<;>intro h1 q1
 exfalso;have:=q1;omega;refine ag ?_ ?_<;>intro h2 q2
 exfalso;have:=q2;omega;refine ac ?_;refine cy h2 rfl (BS (HP) rfl rfl) ?_;refine ag ?_ ?_<;>intro h3 q3
 rw[ZV]at h3;exact absurd h3 AB;refine ac ?_;refine cy h3 rfl (BS (HP) rfl rfl) ?_;refine ag ?_ ?_<;>intro h4 q4
 rw[hsub]at h4;exact absurd h4 AB;refine ac ?_;refine cy h4 rfl (BS (KT) rfl rfl) ?_;refine ag ?_ ?_<;>intro h5 q5
 rw[ADM,ADN]at h5;exact absurd h5 AB;refine ag ?_ ?_<;>intro h6 q6
 exfalso;have:=q6;omega;refine ac ?_;refine wk [39,1] rfl ?_;refine Tr.cn rfl ?_ ?_<;>intro h7 q7
 exfalso;have:=q7;omega;refine a2 ?_;refine co rfl (BS (NU) rfl rfl) ?_;refine ag ?_ ?_<;>intro h8 q8
 rw[hh1]at h8;exact absurd h8 AB;refine ac ?_;refine cy h8 rfl (BS (QK) rfl rfl) ?_;refine ag ?_ ?_<;>intro h9 q9
 rw[hh2]at h9;exact absurd h9 AB;refine ag ?_ ?_<;>intro h10 NT
 exfalso;have:=NT;omega;refine ag ?_ ?_<;>intro h11 Rl
 exfalso;have:=Rl;omega;refine ac ?_;refine wk [67,1] rfl ?_;refine Tr.cn rfl ?_ ?_<;>intro h12 Tn
 exfalso;have:=Tn;omega;refine ac ?_;refine ag ?_ ?_<;>intro LX YN
 exfalso;have:=YN;omega;refine ag ?_ ?_<;>intro MW mY
 exfalso;have:=mY;omega;refine ag ?_ ?_<;>intro Ss pS
 refine ag ?_ ?_<;>intro h16 q16
 exfalso;have:=q16;simp_all;refine ac ?_;refine wk [91,1] rfl ?_;refine Tr.cn rfl ?_ ?_<;>intro PK pR
 exfalso;have:=pR;omega;refine a2 ?_;refine Tr.block (Tr.BV _ (kk [1] rfl) (fun k:Nat=>[(3,int ((k:Nat):Int))]) (fun k:Nat=>k<=(c.names).length) (fun k:Nat=>(c.names).length-k) 0 (Nat.zero_le _) kz ?_);rintro k BN;refine an ?_ ?_<;>intro Sa q18
 have Ae:k<(c.names).length:=AQ Sa;obtain⟨s,Ad⟩:=at_ Ae;have hat:=hall k AA;have hna:=Ni hat Ad;refine a2 ?_;refine co rfl (AD rfl underlying67 Lj vq vq AA (Ap Ad)) (co rfl (FO rfl OK rfl) (co rfl (BS (HP) rfl rfl) ?_));refine ag ?_ ?_<;>intro jA q19
 exfalso;rw[hna]at jA;exact absurd jA AB;refine ag ?_ ?_<;>intro Pf q20
 have J2:0<k:=by simpa using Pf
 obtain⟨y,hy⟩:=at_ (l:=c.names) (k:=k-1) AA;have hlt:=dM hat Ad hy J2;refine ac ?_;refine cy Pf rfl (AD rfl underlying67 Lj vq vq AA F2) ?_;refine ac ?_;refine cy Pf rfl (AD rfl underlying67 Lj vq vq AA (Ap Ad)) (cy Pf rfl (FO rfl OK rfl) (cy Pf rfl (MH rfl vq vq) ?_));refine ac ?_;refine wk [123,3,1] rfl ?_;refine Tr.cn rfl ?_ ?_<;>intro cR q21
 exfalso;rw[hlt]at cR;exact absurd cR AB;refine a2 ?_;exact Fin.AP (k+1) ⟨Ae,by omega⟩ ⟨⟨_,rfl,AK k⟩,kz⟩;refine ac ?_;refine wk [123,3,1] rfl ?_;refine a2 ?_;exact Fin.AP (k+1) ⟨Ae,by omega⟩ ⟨⟨_,rfl,AK k⟩,kz⟩;have BA:k=(c.names).length:=by have:=AU Sa;omega
 refine ac ?_;refine ag ?_ ?_<;>intro h22 q22
 exfalso;have:=q22;omega;refine ag ?_ ?_<;>intro h23 q23
 exfalso;have:=q23;omega;refine ag ?_ ?_<;>intro h24 q24
 exfalso;have:=q24;omega;refine ac ?_;refine wk [145] rfl ?_;refine Tr.cn rfl ?_ ?_<;>intro h25 q25
 exfalso;have:=q25;omega;refine a3 ?_
 .exact Lr
 refine ac ?_;refine wk [91,1] rfl ?_;refine Tr.cn rfl ?_ ?_<;>intro h26 q26
 exfalso;have:=q26;omega;refine a2 ?_;refine Tr.block (Tr.BV _ (kk [1] rfl) (fun k:Nat=>[(3,int ((k:Nat):Int))]) (fun k:Nat=>k<=(c.names).length) (fun k:Nat=>(c.names).length-k) 0 (Nat.zero_le _) kz ?_);rintro k BN;refine an ?_ ?_<;>intro h27 q27
 have Ae:k<(c.names).length:=AQ h27;obtain⟨s,Ad⟩:=at_ Ae;have hat:=hall k AA;have hna:=Ni hat Ad;refine a2 ?_;refine co rfl (AD rfl underlying67 Lj vq vq AA (Ap Ad)) (co rfl (FO rfl OK rfl) (co rfl (BS (HP) rfl rfl) ?_));refine ag ?_ ?_<;>intro h28 q28
 exfalso;rw[hna]at h28;exact absurd h28 AB;refine ag ?_ ?_<;>intro jF q29
 have J2:0<k:=by simpa using jF
 obtain⟨y,hy⟩:=at_ (l:=c.names) (k:=k-1) AA;have hlt:=dM hat Ad hy J2;refine ac ?_;refine cy jF rfl (AD rfl underlying67 Lj vq vq AA F2) ?_;refine ac ?_;refine cy jF rfl (AD rfl underlying67 Lj vq vq AA (Ap Ad)) (cy jF rfl (FO rfl OK rfl) (cy jF rfl (MH rfl vq vq) ?_));refine ac ?_;refine wk [123,3,1] rfl ?_;refine Tr.cn rfl ?_ ?_<;>intro h30 q30
 exfalso;rw[hlt]at h30;exact absurd h30 AB;refine a2 ?_;exact Fin.AP (k+1) ⟨Ae,by omega⟩ ⟨⟨_,rfl,AK k⟩,kz⟩;refine ac ?_;refine wk [123,3,1] rfl ?_;refine a2 ?_;exact Fin.AP (k+1) ⟨Ae,by omega⟩ ⟨⟨_,rfl,AK k⟩,kz⟩;have BA:k=(c.names).length:=by have:=AU h27;omega
 refine ac ?_;refine ag ?_ ?_<;>intro h31 q31
 exfalso;have:=q31;omega;refine ag ?_ ?_<;>intro h32 q32
 exfalso;have:=q32;omega;refine ag ?_ ?_<;>intro h33 q33
 exfalso;have:=q33;omega;refine ac ?_;refine wk [145] rfl ?_;refine Tr.cn rfl ?_ ?_<;>intro h34 q34
 exfalso;have:=q34;omega;refine a3 ?_
 .exact Lr
abbrev sk:Pr:=Cp.ex fun n:Int=>fact (0<=n/\n<4294967296) (is (.int .u32 n))
abbrev ADO:Pr:=Cp.ex fun n:Int=>fact (0<=n/\n<4294967296) (int n)
theorem sn:Pr.le sk (MK .u32):=fun _ _ _ ⟨n,_,h⟩=>⟨n,h⟩
section
variable{P:Program}{I:Cj}{E:Env}{o:Oper}
theorem me{s t:TypeId}{k k':IntKind}(ho:o.op= .convert s t x)(hs:P.underlying s=some (.int k))(ht:P.underlying t=some (.int k'))(hx:VL E x (MK k)):Af P I o E (MK k'):=
 Af.same fun M w a he _=>by
  obtain⟨n,h1⟩:=hx.ev he Am;have h1:a.eval x= .int k n:=h1;refine⟨.int k' (k'.wrap n),?_,_,rfl⟩;simp[execOp,ho,h1,convert,run_underlying hs,run_underlying ht,Conv.intToInt,Sem.run_bind]
theorem sq{t u:TypeId}{y:Operand}(ho:o.op= .binOp .mul t x y u)(hx:VL E x (MK .u32))(hy:VL E y (MK .u32)):Af P I o E sk:=
 Af.same fun M w a he _=>by
  obtain⟨m,h1⟩:=hx.ev he Am;obtain⟨n,h2⟩:=hy.ev he Am;have h1:a.eval x= .int .u32 m:=h1;have h2:a.eval y= .int .u32 n:=h2;refine⟨.int .u32 (IntKind.u32.wrap (m*n)),by simp[execOp,ho,h1,h2,eqGuard,binOp,Op.intArith],_,?_,rfl⟩;rw[IntKind.wrap_u32];omega
theorem gH{s t:TypeId}(ho:o.op= .convert s t x)(hs:P.underlying s=some (.int .u32))(ht:P.underlying t=some (.int .i64))(hx:VL E x sk):Af P I o E ADO:=
 Af.same fun M w a he _=>by
  obtain⟨n,hn,h1⟩:=hx.ev he Am;have h1:a.eval x= .int .u32 n:=h1;refine⟨.int .i64 (IntKind.i64.wrap n),?_,n,hn,by rw[Gt H8];rfl⟩;simp[execOp,ho,h1,convert,run_underlying hs,run_underlying ht,Conv.intToInt,Sem.run_bind]
end
theorem Aq.Kc{row:List Pr}(h:∀m,m<=20->Aq P f [slice 4 (List.replicate m row)] (slice 4 (List.replicate m row))):Aq P f [Go.Proofs.YthommhphcagokaaGreatDoor.Kc row] (Go.Proofs.YthommhphcagokaaGreatDoor.Kc row):=by
 refine⟨(h 0 AA).1,fun M w vs hb hv=>?_⟩
 match vs,hv with
 |[u0],O2=>
  obtain⟨⟨m,hm,h0⟩,_⟩:=O2;exact((h m hm).2 M w [u0] hb ⟨h0,trivial⟩).mono fun e w' ⟨v,h1,h2,h3⟩=>⟨v,h1,⟨m,hm,h2⟩,h3⟩
theorem Aq.Fj{B:Nat}{res:Pr}(h:∀m,m<=B->Aq P f [dI m] res):Aq P f [Go.Proofs.YthommhphcagokaaGreatDoor.Fj B] res:=by
 refine⟨(h 0 AA).1,fun M w vs hb hv=>?_⟩
 match vs,hv with
 |[u0],O2=>
  obtain⟨⟨m,hm,h0⟩,_⟩:=O2;exact(h m hm).2 M w [u0] hb ⟨h0,trivial⟩
abbrev N3:Pr:=Kc (Bs q0)
abbrev qA2:Pr:=Kc (Bs N3)
theorem PN:Pr.le q0 N3:=Co 0 (EG AA (Pr.le_refl _))
theorem rc0:Aq Tryz.prog 257 [q0] q0:=Oa (m:=0) (q:=q0) AA (.inl rfl)
theorem rc1(m:Nat)(hm:m<=20):Aq Tryz.prog 257 [slice 4 (List.replicate m (Bs q0))] (slice 4 (List.replicate m (Bs q0))):=Oa hm (.inr rc0)
theorem rc2(m:Nat)(hm:m<=20):Aq Tryz.prog 257 [slice 4 (List.replicate m (Bs N3))] (slice 4 (List.replicate m (Bs N3))):=Oa hm (.inr (Aq.Kc rc1))
theorem rf0:Aq Tryz.prog 209 [agg (Bs q0)] XU:=Aq.mW fun t b n hb=>OZ (m:=0) (q:=q0) hb AA (.inl rfl)
theorem rf1:Aq Tryz.prog 209 [agg (Bs N3)] XU:=Aq.Bs fun t b n m hb hm=>OZ hb hm (.inr rf0)
theorem rf2:Aq Tryz.prog 209 [agg (Bs qA2)] XU:=Aq.Bs fun t b n m hb hm=>OZ hb hm (.inr rf1)
theorem rd0:Aq Tryz.prog 210 [agg (Bs q0)] (MU 1):=Aq.mW fun t b n hb=>Rw (m:=0) (q:=q0) (D:=0) hb AA AA (.inl rfl)
theorem rd1:Aq Tryz.prog 210 [agg (Bs N3)] (MU 2):=Aq.Bs fun t b n m hb hm=>Rw hb hm AA (.inr rd0)
theorem rd2:Aq Tryz.prog 210 [agg (Bs qA2)] (MU 3):=Aq.Bs fun t b n m hb hm=>Rw hb hm AA (.inr rd1)
theorem rp0:Aq Tryz.prog 211 [agg (Bs q0)] (Fj 2002):=Aq.mW fun t b n hb=>ZT (m:=0) (q:=q0) (B:=0) hb AA AA (.inl rfl)
theorem rp1:Aq Tryz.prog 211 [agg (Bs N3)] (Fj 82082):=Aq.Bs fun t b n m hb hm=>ZT (B:=2002) hb hm AA (.inr rp0)
theorem rp2:Aq Tryz.prog 211 [agg (Bs qA2)] (Fj 3285282):=Aq.Bs fun t b n m hb hm=>ZT (B:=82082) hb hm AA (.inr rp1)
theorem rE2:Aq Tryz.prog 156 [agg (Bs qA2)] (EB [Fj 3285282,MK .i64]):=gG rf2 rd2 rp2
structure EF.gI(c:EF):Prop where
 Ho:c.Ho<=1099511627776
 Bm:c.Bm<=2147483648
 OU:0<=c.OU/\c.OU<=40000
 I8:0<=c.I8/\c.I8<=40000
 OV:0<=c.OV/\c.OV<=40000
 Ls:0<=c.Ls/\c.Ls<=40000
theorem LL{s:List UInt8}(h:named s=true):s.length<=32:=by unfold named at h;simp at h;omega
theorem dN{a b:Int}(ha:0<=a/\a<=40000)(hb:0<=b/\b<=40000):Aq prog 215 [agg [int a,int b]] (agg (Bs N3)):=by
 refine fo func215 rfl ⟨rfl,rfl⟩ fun M0 w0=>(Tr.seq (Tr.At (tp rfl (BE rfl CM) ?_)));refine Tl rfl rfl rfl rfl EE DW (fun b1=>?_);refine ap ?_;refine Tr.seq (Tr.rx ?_);refine ay ?_;refine xo rfl (fun _=>BS (MV AA) rfl rfl) ?_;refine ay ?_;refine xo rfl (fun _=>BS (MV AA) rfl rfl) (xo rfl (fun _=>AX (xs:=[.tmp 5,.tmp 8]) (rows:=[_,_]) rfl rfl underlying246 BH EE rfl AB ⟨⟨Ab,(Va rfl)⟩,⟨⟨Ab,(Va rfl)⟩,trivial⟩⟩ AB) ?_);refine xo rfl (fun _=>Aa rfl (Vn (m:=2) (q:=q0) AA (rc1 _ AA)) ⟨Ec,trivial⟩) ?_;refine Cx.ED 0 rfl rfl (BP rfl rfl vq CM BH rfl Ag rfl) ?_;refine Cx.nil ⟨by kernel_rfl,?_⟩;refine BG.done al1 (Fin.go (Tr.ret (Fin.B4 rfl (AL.cell 0 rfl rfl Bn BH rfl Lr) ?_)))
 .exact Lr
theorem mg{c:EF}(hv:CE c=true)(ht:c.gI):Aq prog 157 [agg (C9 c)] (agg (Bs qA2)):=by
 refine fo func157 rfl ⟨rfl,rfl⟩ fun M0 w0=>?_;obtain⟨hs0,hs1,ZV,hsub,hnm,hkey,hk0,hk1,Ts,yY,yZ,ya,yc,hf0,hft,ht1,eu,hp1,hap⟩:=Ik hv;obtain⟨g1,g2,g3,g4,g5,g6⟩:=ht;have Ie:=hnm;unfold E6 at Ie;rw[Bool.and_eq_true,B0,decide_eq_true_eq]at Ie;obtain⟨hall,mZ⟩:=Ie;have QB:=LL ZV;have WI:=LL hsub;refine Tr.seq (Tr.At (tp rfl (BE rfl CM) ?_));refine Tl rfl rfl rfl rfl EE DW (fun b1=>?_);refine ap ?_;refine a2 ?_;refine Tr.block (Tr.Dt 248 4 (Tr.Ez _ (kk [2,1] rfl) (fun k v=>[(4,int ((k:Nat):Int)),(3,Aj v (slice 4 (List.replicate k (Bs q0))))]) (fun k v=>Hp M0 w0 Ju ([Bc 248 4 v,AE true b1 248 (([.int .i64 0,.slice none 0 0,.bool false,.slice none 0 0]:List Value).map is)])) (fun k:Nat=>k<=(c.names).length) (fun k:Nat=>(c.names).length-k) 0 (.slice none 0 0) (Nat.zero_le _) ⟨kq,⟨_,rfl,DA rfl⟩,trivial⟩ (fun _ _ h=>h) ?_));rintro k v BN;refine an ?_ ?_<;>intro h1 q1
 have Ae:k<(c.names).length:=AQ h1;obtain⟨s,Ad⟩:=at_ Ae;have hsn:=LL (Ni (hall k AA) Ad);refine ac ?_;refine ap ?_;refine tp rfl (AD rfl underlying67 Lj vq vq AA DZ) ?_;refine tp rfl (FO rfl OK rfl) (tp rfl (BS (Vm AA) rfl rfl) (tp rfl (AX (xs:=[.tmp 18]) (rows:=[_]) rfl rfl underlying246 BH EE rfl AB ⟨⟨Ab,(Va rfl)⟩,trivial⟩ AB) ?_));refine TO.EV 0 rfl rfl AB (FI rfl rfl rfl rfl underlying246 BH TJ EE Ij Ec (CA BW E4)) (fun v1=>?_);refine ap ?_;refine wk [4,3,2,1] rfl ?_;refine ac ?_;exact Fin.EX (k+1) v1 (⟨Ae,by omega⟩) ⟨⟨_,rfl,AK k⟩,⟨_,rfl,CZ (by rw[dJ])⟩,kz⟩ (fun _ _ h=>h);have BA:k=(c.names).length:=by have:=AU h1;omega
 refine ac ?_;refine Tr.seq (Tr.rx ?_);refine ay ?_;refine xo rfl (fun _=>BS (MV AA) rfl rfl) ?_;refine ay ?_;refine xo rfl (fun _=>BS (Vm AA) rfl rfl) ?_;refine ay ?_;refine xo rfl (fun _=>BS (Vm AA) rfl rfl) ?_;refine ay ?_;refine xo rfl (fun _=>BS (dN g3 g4) rfl rfl) ?_;refine ay ?_;refine xo rfl (fun _=>BS (MV AA) rfl rfl) ?_;refine ay ?_;refine xo rfl (fun _=>BS (dN g5 g6) rfl rfl) ?_;refine ay ?_;refine xo rfl (fun _=>BS (MV AA) rfl rfl) ?_;refine ay ?_;refine xo rfl (fun _=>BS (MV AA) rfl rfl) ?_;refine ay ?_;refine xo rfl (fun _=>BS (sj) rfl rfl) ?_;refine ay ?_;refine xo rfl (fun _=>BS (MV AA) rfl rfl) (xm rfl ?_);refine xo rfl (fun _=>Aa rfl (Vn (m:=c.names.length) (q:=q0) AA (rc1 _ AA)) ⟨⟨_,rfl,Pr.le_trans (A0 _ _) (Pr.le_of_eq (by rw[BA]))⟩,trivial⟩) ?_;refine xo rfl (fun _=>AX (xs:=[.tmp 23,.tmp 26,.tmp 29,.tmp 32,.tmp 35,.tmp 38,.tmp 41,.tmp 44,.tmp 47,.tmp 50,.tmp 52]) (rows:=[Bs N3,Bs N3,Bs N3,Bs N3,Bs N3,Bs N3,Bs N3,Bs N3,Bs N3,Bs N3,Bs N3]) rfl rfl underlying246 BH EE rfl AB ⟨⟨Ab,VL.le (vl rfl) (Pr.le_trans (Az (qs:=Bs N3) ⟨Lr,Lr,Lr,PN,trivial⟩) (AJ _))⟩,⟨⟨Ab,VL.le (vl rfl) (Pr.le_trans (Az (qs:=Bs N3) ⟨Lr,Lr,Lr,PN,trivial⟩) (AJ _))⟩,⟨⟨Ab,VL.le (vl rfl) (Pr.le_trans (Az (qs:=Bs N3) ⟨Lr,Lr,Lr,PN,trivial⟩) (AJ _))⟩,⟨⟨Ab,VL.le (vl rfl) (AJ _)⟩,⟨⟨Ab,VL.le (vl rfl) (Pr.le_trans (Az (qs:=Bs N3) ⟨Lr,Lr,Lr,PN,trivial⟩) (AJ _))⟩,⟨⟨Ab,VL.le (vl rfl) (AJ _)⟩,⟨⟨Ab,VL.le (vl rfl) (Pr.le_trans (Az (qs:=Bs N3) ⟨Lr,Lr,Lr,PN,trivial⟩) (AJ _))⟩,⟨⟨Ab,VL.le (vl rfl) (Pr.le_trans (Az (qs:=Bs N3) ⟨Lr,Lr,Lr,PN,trivial⟩) (AJ _))⟩,⟨⟨Ab,VL.le (vl rfl) (Pr.le_trans (Az (qs:=Bs N3) ⟨Lr,Lr,Lr,PN,trivial⟩) (AJ _))⟩,⟨⟨Ab,VL.le (vl rfl) (Pr.le_trans (Az (qs:=Bs N3) ⟨Lr,Lr,Lr,PN,trivial⟩) (AJ _))⟩,⟨⟨Ab,VL.le (vl rfl) (AJ _)⟩,trivial⟩⟩⟩⟩⟩⟩⟩⟩⟩⟩⟩ AB) ?_;refine xo rfl (fun _=>Aa rfl (Vn (m:=11) (q:=N3) AA (rc2 _ AA)) ⟨Ec,trivial⟩) ?_;refine Cx.ED 1 rfl rfl (BP rfl rfl vq CM BH rfl Ag rfl) ?_;refine Cx.nil ⟨by kernel_rfl,?_⟩;refine BG.done WN (Fin.go (wk [2] rfl (Tr.ret (Fin.B4 rfl (AL.cell 1 rfl rfl Bn BH rfl Lr) ?_))))
 .exact Lr
theorem gJ{c:EF}(hv:CE c=true)(ht:c.gI):Aq prog 88 [agg (C9 c)] (EB [Fj 3285282,MK .i64]):=by
 refine fo func88 rfl ⟨rfl,rfl⟩ fun M0 w0=>?_;refine a2 ?_;refine co rfl (BS (Tq hv) rfl rfl) ?_;refine an ?_ ?_<;>intro h1 q1
 exact absurd h1 AB;refine a2 ?_;refine co rfl (BS (mg hv ht) rfl rfl) (co rfl (BS (rE2) rfl rfl) ?_);refine ac ?_;refine Tr.ret (Fin.C_ rfl (CL.Eo _ _) rfl ?_ rfl ?_)
 .exact Lr
 .exact Lr
theorem sr(hm:m<=100000000):Aq prog 89 [dI m] (ADO):=by
 refine fo func89 rfl ⟨rfl,rfl⟩ fun M0 w0=>?_;have hlr:(List.replicate m To).length=m:=List.length_replicate;refine a3 ?_;refine Tr.block (Tr.BV _ (kk [0] rfl) (fun k:Nat=>[(4,int ((k:Nat):Int)),(3,sk)]) (fun k:Nat=>k<=((List.replicate m To).length)) (fun k:Nat=>((List.replicate m To).length)-k) 0 (Nat.zero_le _) ⟨kq,⟨_,rfl,Co _ (EG AA Lr)⟩,trivial⟩ ?_);rintro k BN;refine ac ?_;refine co rfl (BJ rfl underlying180 vq) ?_;refine an ?_ ?_<;>intro h1 q1
 have Ae:k<((List.replicate m To).length):=AQ h1;have hkm:k<m:=by simpa using Ae
 refine a2 ?_;refine co rfl (AD rfl underlying180 Fq vq vq AA (Ke hkm)) (co rfl (FO rfl qH rfl) (co rfl (me rfl underlying5 underlying169 vq) (co rfl (rI AB rfl (VL.le vq sn) vq) (co rfl (sq rfl vq (VL.le vq (Eh _ _))) ?_))));refine ac ?_;refine wk [4,3,0] rfl ?_;refine ac ?_;exact Fin.AP (k+1) ⟨Ae,by omega⟩ ⟨⟨_,rfl,AK k⟩,kz⟩;have BA:k=((List.replicate m To).length):=by have:=AU h1;omega
 refine a2 ?_;refine co rfl (gH rfl underlying169 underlying3 vq) ?_;refine a2 ?_
 .exact Lr
theorem mh{c:EF}(hn:c.names.length<=1000):Aq prog 86 [agg (C9 c)] (agg (C9 c)):=by
 refine fo func86 rfl ⟨rfl,rfl⟩ fun M0 w0=>(Tr.seq (Tr.At ?_));refine TO.Iu rfl rfl AB rfl CM (fun b1=>?_);refine Tl rfl rfl rfl rfl Sl NJ (fun b2=>?_);refine ap ?_;refine ap ?_;refine TO.pad ?_;refine TO.EV 0 rfl rfl AB (FI rfl rfl rfl rfl underlying67 Lj by9 z9 Ec vq (Bv BW vq)) (fun v1=>?_);refine ap ?_;refine ap ?_;refine Tr.drop 2 (Tr.ret (Fin.B4 rfl (AL.cell 1 rfl rfl Ja DD rfl Lr) ?_))
 .exact Az ⟨Lr,Lr,Lr,Lr,Lr,Lr,Lr,Lr,Lr,Lr,Lr,Lr,Pr.le_trans (A0 _ _) (Pr.le_of_eq Ai),Lr,Lr,trivial⟩
abbrev Rz(c:EF)(key s:Int):EF:=⟨c.Ho,c.Gk,c.FA,c.OU,c.I8,c.Bm,c.OV,c.Ls,c.from_,c.DC,c.auth,c.path,c.names,key,s⟩
theorem mj{c:EF}{key:Int}(hv:CE (Rz c 0 0)=true)(ht:(Rz c 0 0).gI)(hk:0<=key/\key<=2147483648):Aq prog 46 [agg (C9 c),int key] (Cp.ex fun s:Int=>fact (0<=s/\s<4294967296) (EB [agg (C9 (Rz c key s)),int 0])):=by
 refine fo func46 rfl ⟨rfl,rfl⟩ fun M0 w0=>?_;have hnn:c.names.length<=1000:=by have:=(Ik hv).nm;unfold E6 at this;simp at this;omega
 refine Tr.seq (Tr.At ?_);refine TO.Iu rfl rfl AB rfl CM (fun b1=>?_);refine Tl rfl rfl rfl rfl Sl NJ (fun b2=>?_);refine ap ?_;refine ap ?_;refine tp rfl (BS (mh (c:=c) hnn) rfl rfl) ?_;refine ap ?_;refine ap ?_;refine ac ?_;refine co rfl (BS (Tq (c:=Rz c 0 0) hv) rfl rfl) ?_;refine co rfl Yr (cm rfl ?_);refine Ch.cs 15 rfl ?_ ?_<;>intro h1 q1
 exact absurd h1 AB;refine JW h1 rfl (cy h1 rfl (ki rfl rfl rfl rfl) (co rfl (SZ rfl rfl h1 rfl) (cm rfl ?_)));refine Ch.cs 19 rfl ?_ ?_<;>intro h2 q2
 exfalso;have:=q2;omega;refine ac ?_;refine wk [22,4,2,1] rfl ?_;refine Tr.cn rfl ?_ ?_<;>intro h3 q3
 exfalso;have:=q3;omega;refine ac ?_;refine ac ?_;refine co rfl (BS (gJ (c:=Rz c 0 0) hv ht) rfl rfl) ?_;refine ac ?_;refine ap ?_;refine tp rfl (BS (Aq.Fj fun m hm=>sr AA) rfl rfl) ?_;refine TO.ex 31 rfl (fun z31=>TO.fact 31 rfl fun AGb=>?_);refine ap ?_;refine wk [4,2] rfl ?_;refine ap ?_;refine Tr.drop 1 (Tr.ret (Fin.Bf rfl (AL.cell 0 rfl rfl Ja DD rfl Lr) (AL.tmp rfl Lr) ?_))
 .exact Co z31 (EG AGb Lr)
abbrev Lt(name:List UInt8)(a b id to key s:Int):EF:=⟨id,[114,111,111,116],name,a,b,id,3,0,0,to,false,0,[name],key,s⟩
abbrev IL(name:List UInt8)(a b id to key s:Int):E9:=⟨a,b,id,[Lt name a b id to key s]⟩
abbrev vi(name:List UInt8)(a b id to key:Int):Pr:=Cp.ex fun s:Int=>fact (0<=s/\s<4294967296) (agg (BT (IL name a b id to key s)))
theorem vk   :Aq prog 28 [] (agg [int 5,int 2048]):=by
 refine fo func28 rfl ⟨rfl,rfl⟩ fun M0 w0=>(Tr.seq (Tr.At ?_));refine Tl rfl rfl rfl rfl z75 Cd (fun b1=>?_);refine ap ?_;refine ap ?_;refine Tr.ret (Fin.B4 rfl (AL.cell 0 rfl rfl Be CR rfl Lr) ?_)
 .exact Lr
theorem AGc   :Aq prog 38 [] (agg [int 7,int 256]):=by
 refine fo func38 rfl ⟨rfl,rfl⟩ fun M0 w0=>(Tr.seq (Tr.At ?_));refine Tl rfl rfl rfl rfl z75 Cd (fun b1=>?_);refine ap ?_;refine ap ?_;refine Tr.ret (Fin.B4 rfl (AL.cell 0 rfl rfl Be CR rfl Lr) ?_)
 .exact Lr
theorem ZW{name:List UInt8}{a b id to key:Int}(hv:CE (Lt name a b id to 0 0)=true)(ht:(Lt name a b id to 0 0).gI)(hk:0<=key/\key<=2147483648):Aq prog 27 [str name,agg [int a,int b],int id,int key,int to] (vi name a b id to key):=by
 refine fo func27 rfl ⟨rfl,rfl⟩ fun M0 w0=>(Tr.seq (Tr.At (tp rfl (BE rfl CM) ?_)));refine Tl rfl rfl rfl rfl NH MD (fun b1=>?_);refine ap ?_;refine ap ?_;refine tp rfl (Al (rows:=[(0,[_]),(1,[_]),(2,[_]),(3,_),(4,[_]),(5,_),(7,[_]),(10,[_])]) rfl ABf NJ ⟨⟨rfl,Cf⟩,⟨⟨rfl,Cf⟩,⟨⟨rfl,Cf⟩,⟨⟨rfl,CM⟩,⟨⟨rfl,Cf⟩,⟨⟨rfl,CM⟩,⟨⟨rfl,Cf⟩,⟨⟨rfl,⟨_,rfl,Pr.le_trans (A_ _ _) (AV _)⟩⟩,trivial⟩⟩⟩⟩⟩⟩⟩⟩ rfl) (TO.re 20 (agg (C9 (Lt name a b id to 0 0))) rfl (Pr.le_of_eq rfl) ?_);refine Tl rfl rfl rfl rfl Sl NJ (fun b2=>?_);refine ap ?_;refine wk [11,10,6,3,2] rfl ?_;refine ap ?_;refine tp rfl (CG (mj (c:=Lt name a b id to 0 0) hv ht hk) rfl rfl rfl) ?_;refine TO.ex 24 rfl (fun z24=>TO.fact 24 rfl fun AGd=>?_);refine ap ?_;refine ap ?_;refine tp rfl (Al (rows:=[(0,_),(1,[_]),(2,[_])]) rfl ABN MD ⟨⟨rfl,CM⟩,⟨⟨rfl,Cf⟩,⟨⟨rfl,⟨_,rfl,Pr.le_trans (A_ _ _) (AV _)⟩⟩,trivial⟩⟩⟩ rfl) ?_;refine ap ?_;refine Tr.drop 0 (wk [10] rfl (Tr.ret (Fin.B4 rfl (AL.cell 0 rfl rfl G5 B8 rfl Lr) ?_)))
 .exact Co z24 (EG AGd Lr)
def Kg(s:DS)(l:List (List UInt8)):List UInt8:=(l[(s.val l.length).toNat]?).getD []
theorem XW{b:Nat}{s:DS}{l:List (List UInt8)}(hl:l≠[])(hl2:l.length<=1000000000):BM prog 30 [ptr b 0,ZG l] (str (Kg s l)) (EP b s) (fun _=>EP b s.C1):=by
 refine BM.of func30 rfl rfl Ag fun M0 w0 S rs M1 w1=>?_;have Y1:1<=(l.length:Int):=by have:=List.length_pos_iff.2 hl;omega
 have hv:=s.D_ Y1;obtain⟨x,hx⟩:=at_ (l:=l) (k:=(s.val l.length).toNat) AA;refine ac ?_;refine ap ?_;refine TO.LC 0 rfl rfl AB (Au rfl rfl AB rfl (DB AA AA) ⟨kq,kz⟩) (tp rfl (AD rfl underlying67 Lj vq vq AA (CS hx)) ?_);refine ap ?_;refine Tr.ret (Fin.HD [] rfl (AL.tmp rfl Lr) ?_ (fun _ _ _ _=>rfl))
 .refine Pr.le_of_eq ?_;unfold Kg;rw[hx];rfl
def GN:List (List UInt8):=[[97,112,112],[100,98],[119,101,98]]
def Po:List (List Int):=[[10,8,2],[8,2],[2,10,8,3]]
def MX(i:Int):List Int:=(Po[i.toNat]?).getD []
theorem sy{i:Int}(h:0<=i/\i<3):(Po.map fun l=>[ints l])[i.toNat]? =some [ints (MX i)]:=by
 have hl:i.toNat<Po.length:=by show i.toNat<3;omega
 unfold MX;rw[List.getElem?_map,List.getElem?_eq_getElem hl];rfl
theorem XX{i:Int}(h:0<=i/\i<3):MX i∈Po:=by
 have hl:i.toNat<Po.length:=by show i.toNat<3;omega
 unfold MX;rw[List.getElem?_eq_getElem hl];exact List.getElem_mem hl
structure ZX(i:Nat)(e:DY):Prop where
 name:GN[i]? =some e.name
 least:e.least=1
 most:e.most=3\/e.most=4
 AR:e.AR∈Po\/∃l∈Po,e.AR=14::l
 ids:∃s:Int,(0<=s/\s<4294967296)/\e.ids=[IL e.name 5 2048 (100+(i:Nat)) 901 1 s]
 anchors:e.anchors=[1]
 hashes:e.hashes=[2,3]
def mm(es:List DY):Prop:=∀(i:Nat) e,es[i]? =some e->ZX i e
theorem XY{es:List DY}(h:mm es)(he:ZX es.length e):mm (es++[e]):=by
 intro i x hx;rcases Nat.lt_or_ge i es.length with hi|hi
 .rw[List.getElem?_append_left hi]at hx;exact h i x hx
 .
  rcases Nat.eq_or_lt_of_le hi with hi|hi
  .subst hi;rw[List.getElem?_append_right (Nat.le_refl _),Nat.sub_self]at hx;simp at hx;subst hx;exact he
  .rw[List.getElem?_eq_none Ci]at hx;cases hx
theorem Vp(h:GN[k]? =some nm){s:Int}(hs:0<=s/\s<4294967296){key:Int}(hk:0<=key/\key<=2):CE (Lt nm 5 2048 (100+(k:Nat)) 901 key s)=true:=by
 have hlt:k<3:=A7 h
 have hn:named nm=true:=by
  have hm:=List.mem_of_getElem? h
  revert hm;unfold GN;intro hm;simp at hm
  rcases hm with rfl|rfl|rfl<;>decide
 refine dL ⟨?_,?_,by show named [114,111,111,116]=true;decide,hn,?_,by show IQ 5 2048 2=true;decide+kernel,?_,?_,by show IQ 3 0 1=true;decide+kernel,hk.1,?_,hs.1,hs.2,by show(0:Int)<=0;omega,by show(0:Int)<=901;omega,by show(901:Int)<=40000;omega,by show(0:Int)<=0;omega,by show(0:Int)<=8;omega,.inr rfl⟩
 .show 0<=(100:Int)+(k:Nat);omega
 .show(100:Int)+(k:Nat)<=_;omega
 .
  show E6 [nm]=true;unfold E6;rw[Bool.and_eq_true];refine⟨B0.2 fun j hj=>?_,by simp⟩;have:j=0:=by simp at hj;omega
  subst this;unfold nameAt;simp[hn]
 .show 0<=(100:Int)+(k:Nat);omega
 .show(100:Int)+(k:Nat)<=_;omega
 .show key<=_;omega
theorem Tt(h:k<3):(Lt nm 5 2048 (100+(k:Nat)) 901 0 0).gI:=
 ⟨by show(100:Int)+(k:Nat)<=1099511627776;omega,by show(100:Int)+(k:Nat)<=2147483648;omega,⟨by show(0:Int)<=5;omega,by show(5:Int)<=40000;omega⟩,⟨by show(0:Int)<=2048;omega,by show(2048:Int)<=40000;omega⟩,⟨by show(0:Int)<=3;omega,by show(3:Int)<=40000;omega⟩,⟨by show(0:Int)<=0;omega,by show(0:Int)<=40000;omega⟩⟩
theorem mo{β:Type}{l:List β}{n:Nat}{x:β}(h:(l.take n)[k]? =some x):l[k]? =some x:=by
 have hlt:=A7 h;rw[List.length_take]at hlt;rw[List.getElem?_take,if_pos AA]at h;exact h
theorem mq(i:Int):(MX i).length<=4:=by
 unfold MX;cases h:Po[i.toNat]? with
 |none=>show 0<=4;omega
 |some l=>
  have hm:=List.mem_of_getElem? h;show l.length<=4;unfold Po at hm;simp at hm;rcases hm with rfl|rfl|rfl<;>simp
theorem yd(s:DS):s.of [3,3,4]=3\/s.of [3,3,4]=4:=by have:=s.U1 (l:=[3,3,4]) Ai;simp at this;exact this
abbrev ADP:List (List Int):=Po++Po.map (14:: ·)
theorem Kh(h:ZX i e):e.AR∈ADP:=by
 rcases h.AR with h|⟨l,h,h2⟩
 .exact List.mem_append_left _ h
 .rw[h2];exact List.mem_append_right _ (List.mem_map_of_mem h)
theorem Vq:∀l∈ADP,Gy l=true/\l.length<=5:=by decide+kernel
theorem Vr:∀n∈GN,KF n=true/\n.length<=3:=by decide+kernel
theorem s7:[2,3].all KY=true:=by decide+kernel
theorem s8:IQ 5 2048 2=true:=by decide+kernel
theorem mu{id:Int}(h:GN[k]? =some nm)(hid:id=100+(k:Nat)){s:Int}(hs:0<=s/\s<4294967296):fS (IL nm 5 2048 id 901 1 s)=true:=by
 subst hid;have hk:k<3:=A7 h;have hv:=Vp h hs (key:=1) AA;have hk2:G3 (100+(k:Nat))=true:=by unfold G3;simp;omega
 unfold fS Rt;simp only[s8,hk2,List.all_cons,List.all_nil,hv];simp
theorem s_(h:ZX i e):dD e:=by
 have hn:=Vr _ (List.mem_of_getElem? h.name);have hs:=Vq _ (Kh h);obtain⟨s,hs1,N2⟩:=h.ids;have hm:=h.most;have hl:=h.least;refine⟨hn.1,by omega,by omega,by omega,hs.1,by rw[N2];simp,by rw[h.anchors];simp,by rw[h.anchors];decide,by rw[h.hashes];decide,?_,by rw[h.anchors];decide,by rw[h.hashes];exact s7⟩;rw[N2];simp only[List.all_cons,List.all_nil,mu h.name rfl hs1,Bool.and_self]
theorem Tu(h:ZX i e):e.fits:=by
 have hn:=Vr _ (List.mem_of_getElem? h.name);obtain⟨s,hs1,N2⟩:=h.ids;refine⟨by unfold maxLen;omega,fun x hx c hc=>?_⟩;rw[N2]at hx;simp at hx;subst hx;simp at hc;subst hc;exact⟨by show 4<=maxLen;unfold maxLen;omega,by show e.name.length<=maxLen;unfold maxLen;omega,fun n hn2=>by simp at hn2;subst hn2;unfold maxLen;omega⟩
theorem R3(h:ZX i e):e.small:=by
 have hs:=Vq _ (Kh h);obtain⟨s,hs1,N2⟩:=h.ids;refine⟨by omega,by rw[h.anchors];simp,by rw[h.hashes];simp,by rw[N2];simp,fun x hx=>?_⟩;rw[N2]at hx;simp at hx;subst hx;exact⟨by simp,fun c hc=>by simp at hc;subst hc;simp⟩
theorem mw:Bg.fits:=fun c hc=>by cases hc
theorem ADQ(h:nm∈GN){a b id key s:Int}(hab:(a=5/\b=2048)\/(a=7/\b=256))(hid:0<=id/\id<=1000)(hs:0<=s/\s<4294967296)(hk:0<=key/\key<=2):CE (Lt nm a b id 901 key s)=true:=by
 have hn:named nm=true:=by
  revert h;unfold GN;intro hm;simp at hm
  rcases hm with rfl|rfl|rfl<;>decide
 have hof:IQ a b 2=true:=by rcases hab with⟨rfl,rfl⟩|⟨rfl,rfl⟩<;>decide+kernel
 refine dL ⟨?_,?_,by show named [114,111,111,116]=true;decide,hn,?_,hof,?_,?_,by show IQ 3 0 1=true;decide+kernel,hk.1,?_,hs.1,hs.2,by show(0:Int)<=0;omega,by show(0:Int)<=901;omega,by show(901:Int)<=40000;omega,by show(0:Int)<=0;omega,by show(0:Int)<=8;omega,.inr rfl⟩
 .show 0<=id;omega
 .show id<=_;omega
 .
  show E6 [nm]=true;unfold E6;rw[Bool.and_eq_true];refine⟨B0.2 fun j hj=>?_,by simp⟩;have:j=0:=by simp at hj;omega
  subst this;unfold nameAt;simp[hn]
 .show 0<=id;omega
 .show id<=_;omega
 .show key<=_;omega
theorem ADR{a b id:Int}(hab:(a=5/\b=2048)\/(a=7/\b=256))(hid:0<=id/\id<=1000):(Lt nm a b id 901 0 0).gI:=
 ⟨by show id<=1099511627776;omega,by show id<=2147483648;omega,⟨by show(0:Int)<=a;omega,by show a<=40000;omega⟩,⟨by show(0:Int)<=b;omega,by show b<=40000;omega⟩,⟨by show(0:Int)<=3;omega,by show(3:Int)<=40000;omega⟩,⟨by show(0:Int)<=0;omega,by show(0:Int)<=40000;omega⟩⟩
structure AGe(es:List DY)(c:Bl):Prop where
 lo:0<=c.AZ
 hi:c.AZ<(es.length:Nat)
 kind:1<=c.kind/\c.kind<=12
 fits:c.CO.fits
 small:c.CO.small
abbrev yf(nm:List UInt8)(a b id to key:Int):Pr:=Cp.ex fun s:Int=>fact (0<=s/\s<4294967296) (G6 [Lt nm a b id to key s])
theorem ADS(h:nm∈GN){a b id key s:Int}:(IL nm a b id 901 key s).fits/\(IL nm a b id 901 key s).small:=by
 have hn:=(Vr _ h).2;refine⟨fun c hc=>?_,⟨by simp,fun c hc=>by simp at hc;subst hc;simp⟩⟩;simp at hc;subst hc;exact⟨by show 4<=maxLen;unfold maxLen;omega,by show nm.length<=maxLen;unfold maxLen;omega,fun n hn2=>by simp at hn2;subst hn2;unfold maxLen;omega⟩
structure DY.sz(e:DY)(n:Nat):Prop where
 name:e.name.length<=maxLen
 AR:e.AR.length<=n
 anchors:e.anchors.length<=n
 hashes:e.hashes.length<=n
 SY:e.ids.length<=n
 ids:∀x∈e.ids,x.fits/\x.small
theorem DY.sz.fits{n:Nat}(h:e.sz n):e.fits:=⟨h.name,fun x hx=>(h.ids x hx).1⟩
theorem DY.sz.small{n:Nat}(h:e.sz n)(hn:n<=1000000):e.small:=⟨by have:=h.AR;omega,by have:=h.anchors;omega,by have:=h.hashes;omega,by have:=h.SY;omega,fun x hx=>(h.ids x hx).2⟩
theorem DY.sz.le{n:Nat}(h:e.sz n)(hn:n<=m):e.sz m:=⟨h.name,Nat.le_trans h.AR hn,Nat.le_trans h.anchors hn,Nat.le_trans h.hashes hn,Nat.le_trans h.SY hn,h.ids⟩
theorem tC(h:ZX i e):e.sz 5:=by
 have hs:=Vq _ (Kh h);have h1:=Tu h;have h2:=R3 h;obtain⟨s,hs1,N2⟩:=h.ids;exact⟨h1.name,hs.2,by rw[h.anchors];simp,by rw[h.hashes];simp,by rw[N2];simp,fun x hx=>⟨h1.ids x hx,h2.ids x hx⟩⟩
theorem Qe{α:Type}{l:List α}{a:α}:(l.take i++[a]++l.drop i).length<=l.length+1:=by simp[List.length_take,List.length_drop];omega
theorem Qf{α:Type}{l:List α}:(l.eraseIdx i).length<=l.length:=by rw[List.length_eraseIdx];split<;>omega
theorem Hr:Bg.fits/\Bg.small:=⟨mw,Dz⟩
theorem tD{P:E9->Prop}{l:List E9}{x:E9}(h:∀y∈l,P y)(hx:P x):∀y∈l.take i++[x]++l.drop i,P y:=by grind
theorem dO{c:Bl}{x:DY}{b:Bl}{n:Nat}(hc:F4 c)(h:BL e c= .ok (x,b))(hs:e.sz n)(hi:c.CO.fits/\c.CO.small):x.sz (n+1)/\b.CO.fits/\b.CO.small:=by
 have h1:=hs.AR;have h2:=hs.anchors;have h3:=hs.hashes;have h4:=hs.SY;rcases dH hc.1 with hk|hk|hk|hk|hk|hk|hk|hk|hk|hk|hk|hk
 .rw[QU hk]at h;(repeat' (split at h))<;>first|(cases h;done)|(injection h with h;obtain⟨rfl,rfl⟩:=Prod.mk.inj h;exact⟨⟨hs.name,Nat.le_trans Qe AA,Nat.le_trans h2 AA,Nat.le_trans h3 AA,Nat.le_trans h4 AA,hs.ids⟩,Hr⟩)
 .rw[QV hk]at h;(repeat' (split at h))<;>first|(cases h;done)|(injection h with h;obtain⟨rfl,rfl⟩:=Prod.mk.inj h;exact⟨⟨hs.name,Nat.le_trans Qf AA,Nat.le_trans h2 AA,Nat.le_trans h3 AA,Nat.le_trans h4 AA,hs.ids⟩,Hr⟩)
 .rw[QW hk]at h;(repeat' (split at h))<;>first|(cases h;done)|(injection h with h;obtain⟨rfl,rfl⟩:=Prod.mk.inj h;exact⟨⟨hs.name,Nat.le_trans h1 AA,Nat.le_trans h2 AA,Nat.le_trans h3 AA,Nat.le_trans h4 AA,hs.ids⟩,Hr⟩)
 .rw[QX hk]at h;(repeat' (split at h))<;>first|(cases h;done)|(injection h with h;obtain⟨rfl,rfl⟩:=Prod.mk.inj h;exact⟨⟨hs.name,Nat.le_trans h1 AA,Nat.le_trans h2 AA,Nat.le_trans h3 AA,Nat.le_trans h4 AA,hs.ids⟩,Hr⟩)
 .rw[QY hk]at h;(repeat' (split at h))<;>first|(cases h;done)|(injection h with h;obtain⟨rfl,rfl⟩:=Prod.mk.inj h;exact⟨⟨hs.name,Nat.le_trans h1 AA,Nat.le_trans h2 AA,Nat.le_trans h3 AA,Nat.le_trans Qe AA,tD hs.ids hi⟩,Hr⟩)
 .rw[QZ hk]at h;(repeat' (split at h))<;>first|(cases h;done)|(injection h with h;obtain⟨rfl,rfl⟩:=Prod.mk.inj h;exact⟨⟨hs.name,Nat.le_trans h1 AA,Nat.le_trans h2 AA,Nat.le_trans h3 AA,Nat.le_trans Qf AA,fun y hy=>hs.ids y (List.mem_of_mem_eraseIdx hy)⟩,hs.ids _ (List.mem_of_getElem? Cs)⟩)
 .rw[Qa hk]at h;(repeat' (split at h))<;>first|(cases h;done)|(injection h with h;obtain⟨rfl,rfl⟩:=Prod.mk.inj h;exact⟨⟨hs.name,Nat.le_trans h1 AA,Nat.le_trans Qe AA,Nat.le_trans h3 AA,Nat.le_trans h4 AA,hs.ids⟩,Hr⟩)
 .rw[Qb hk]at h;(repeat' (split at h))<;>first|(cases h;done)|(injection h with h;obtain⟨rfl,rfl⟩:=Prod.mk.inj h;exact⟨⟨hs.name,Nat.le_trans h1 AA,Nat.le_trans Qf AA,Nat.le_trans h3 AA,Nat.le_trans h4 AA,hs.ids⟩,Hr⟩)
 .rw[Qc hk]at h;(repeat' (split at h))<;>first|(cases h;done)|(injection h with h;obtain⟨rfl,rfl⟩:=Prod.mk.inj h;exact⟨⟨hs.name,Nat.le_trans h1 AA,Nat.le_trans h2 AA,Nat.le_trans Qe AA,Nat.le_trans h4 AA,hs.ids⟩,Hr⟩)
 .rw[Nc hk]at h;(repeat' (split at h))<;>first|(cases h;done)|(injection h with h;obtain⟨rfl,rfl⟩:=Prod.mk.inj h;exact⟨⟨hs.name,Nat.le_trans h1 AA,Nat.le_trans h2 AA,Nat.le_trans Qf AA,Nat.le_trans h4 AA,hs.ids⟩,Hr⟩)
 .rw[Nd hk]at h;(repeat' (split at h))<;>first|(cases h;done)|(injection h with h;obtain⟨rfl,rfl⟩:=Prod.mk.inj h;exact⟨⟨hs.name,Nat.le_trans h1 AA,Nat.le_trans h2 AA,Nat.le_trans h3 AA,Nat.le_trans h4 AA,hs.ids⟩,Hr⟩)
 .rw[Nf hk]at h;(repeat' (split at h))<;>first|(cases h;done)|(injection h with h;obtain⟨rfl,rfl⟩:=Prod.mk.inj h;exact⟨⟨hs.name,Nat.le_trans h1 AA,Nat.le_trans h2 AA,Nat.le_trans h3 AA,Nat.le_trans h4 AA,hs.ids⟩,Hr⟩)
theorem tE{c:Bl}{x:DY}{b:Bl}{n:Nat}(h:Cr e c=(x,b,0))(hs:e.sz n)(hi:c.CO.fits/\c.CO.small):x.sz (n+1)/\b.CO.fits/\b.CO.small:=by
 obtain⟨_,h2,h3,_⟩:=gC h;exact dO h2 h3 hs hi
def tF(n:Nat):Bool:=decide ((97<=n/\n<=122)\/(65<=n/\n<=90)\/(48<=n/\n<=57)\/n=45\/n=95\/n=46)
theorem ZY:∀n∈List.range 256,FR [45,95,46] (UInt8.ofNat n)=tF n:=by decide+kernel
theorem Tv(c:UInt8):FR [45,95,46] c=tF c.toNat:=by
 have h:=ZY c.toNat (List.mem_range.2 c.toNat_lt);rw[UInt8.ofNat_toNat]at h;exact h
theorem mz{s:List UInt8}  :Aq prog 167 [str s] (bool (KF s)):=by
 refine fo func167 rfl ⟨rfl,rfl⟩ fun M0 w0=>?_;refine ac ?_;refine ag ?_ ?_<;>intro h1 q1
 refine a3 ?_
 .exact bE
 refine an ?_ ?_<;>intro h2 q2
 refine a2 ?_
 .exact bE
 refine a2 ?_;refine Tr.block (Tr.BV _ (kk [0] rfl) (fun k:Nat=>[(3,int ((k:Nat):Int))]) (fun k:Nat=>k<=(s).length/\(∀j y,j<k->s[j]? =some y->(!FR [45,95,46] y)=false)) (fun k:Nat=>(s).length-k) 0 (⟨Nat.zero_le _,fun j y hj=>absurd hj AA⟩) kz ?_);rintro k ⟨BN,AW⟩;refine an ?_ ?_<;>intro h3 q3
 have Ae:k<(s).length:=AQ h3;obtain⟨c,Ad⟩:=at_ Ae
 .repeat' first|(refine bool_eq ?_;unfold KF;rw[Jd (p:=FR [45,95,46]) Ad (by rw[Tv];unfold tF;simp;omega)];rfl)|(exact Fin.AP (k+1) ⟨⟨Ae,C3 (p:=fun c=> !FR [45,95,46] c) Ad (by rw[Tv];unfold tF;simp;omega) AW⟩,by omega⟩ ⟨⟨_,rfl,AK k⟩,kz⟩)|refine co rfl (QH rfl underlying9 vq vq AA (VE Cs)) ?_|refine ac ?_|(refine Tr.cn rfl ?_ ?_<;>intro h q)|(refine Ch.cg rfl rfl rfl ?_ ?_<;>intro h q)
 have BA:k=(s).length:=by have:=AU h3;omega
 subst BA;refine a3 ?_
 .refine bool_eq ?_;unfold KF;rw[GK AW,Bool.true_and];symm;rw[decide_eq_true_eq];omega
theorem Bt{a b:Int}  :Aq prog 269 [int a,int b] (agg [int a,int b]):=by
 refine fo func269 rfl ⟨rfl,rfl⟩ fun M0 w0=>(Tr.seq (Tr.At ?_));refine Tl rfl rfl rfl rfl z75 Cd (fun b1=>?_);refine ap ?_;refine ap ?_;refine Tr.ret (Fin.B4 rfl (AL.cell 0 rfl rfl Be CR rfl Lr) ?_)
 .exact Lr
theorem C0{a l m x1 y1 x2 y2 x3 y3 x4 y4:Int}{s:List UInt8}  :Aq prog 270 [int a,str s,agg [int x1,int y1],agg [int x2,int y2],agg [int x3,int y3],agg [int x4,int y4],int l,int m] (agg DG):=by
 refine fo func270 rfl ⟨rfl,rfl⟩ fun M0 w0=>(Tr.seq (Tr.At ?_))
 iterate 4 refine tp rfl (BE rfl CM) ?_
 refine Tl rfl rfl rfl rfl LW GU (fun b1=>?_);refine ap ?_;refine Tr.seq (Tr.At (tm rfl (tm rfl ?_)))
 iterate 4 refine tp rfl (AO rfl Be CR vq rfl rfl) ?_
 refine tm rfl (tm rfl (tp rfl (oD) (TO.re 25 (agg DG) rfl (Da rfl) ?_)));refine ap ?_;refine wk [16] rfl (Tr.ret (Fin.B4 rfl (AL.cell 0 rfl rfl Fi Dp rfl Lr) ?_))
 .exact Lr
theorem ZZ   :Aq prog 226 [] (slice 12 Dc):=by
 refine fo func226 rfl ⟨rfl,rfl⟩ fun M0 w0=>?_;refine ac ?_;refine Tr.seq (Tr.At (tp rfl (CG (Bt) rfl rfl rfl) (tp rfl (CG (Bt) rfl rfl rfl) (tp rfl (Al (rows:=[]) rfl kD Cd trivial rfl) ?_))));refine Tl rfl rfl rfl rfl z75 Cd (fun b1=>?_);refine Tl rfl rfl rfl rfl z75 Cd (fun b2=>?_);refine Tl rfl rfl rfl rfl z75 Cd (fun b3=>?_);refine sf 2 1 ⟨rfl,rfl,rfl⟩ rfl rfl rfl rfl ?_;refine sf 1 2 ⟨rfl,rfl,rfl⟩ rfl rfl rfl rfl ?_;refine sf 0 3 ⟨rfl,rfl,rfl⟩ rfl rfl rfl rfl ?_;refine ao ?_;refine Tr.seq (Tr.At (tp rfl (CG (Bt) rfl rfl rfl) (tp rfl (CG (Bt) rfl rfl rfl) ?_)));refine Tl rfl rfl rfl rfl z75 Cd (fun b4=>?_);refine Tl rfl rfl rfl rfl z75 Cd (fun b5=>?_);refine sf 1 4 ⟨rfl,rfl,rfl⟩ rfl rfl rfl rfl ?_;refine sf 0 5 ⟨rfl,rfl,rfl⟩ rfl rfl rfl rfl ?_;refine ao ?_;refine wk [5,4,3,2,1] rfl (Tr.seq (Tr.At (tp rfl (CG (Bt) rfl rfl rfl) (tp rfl (CG (Bt) rfl rfl rfl) (tp rfl (CG (Bt) rfl rfl rfl) ?_)))));refine Tl rfl rfl rfl rfl z75 Cd (fun b6=>?_);refine Tl rfl rfl rfl rfl z75 Cd (fun b7=>?_);refine Tl rfl rfl rfl rfl z75 Cd (fun b8=>?_);refine sf 2 6 ⟨rfl,rfl,rfl⟩ rfl rfl rfl rfl ?_;refine sf 1 7 ⟨rfl,rfl,rfl⟩ rfl rfl rfl rfl ?_;refine sf 0 8 ⟨rfl,rfl,rfl⟩ rfl rfl rfl rfl ?_;refine ao ?_;refine wk [8,7,6,5,4,3,2,1] rfl (Tr.seq (Tr.At ?_))
 iterate 4 refine tp rfl (CG (Bt) rfl rfl rfl) ?_
 refine Tl rfl rfl rfl rfl z75 Cd (fun b9=>?_);refine Tl rfl rfl rfl rfl z75 Cd (fun b10=>?_);refine Tl rfl rfl rfl rfl z75 Cd (fun b11=>?_);refine Tl rfl rfl rfl rfl z75 Cd (fun b12=>?_);refine sf 3 9 ⟨rfl,rfl,rfl⟩ rfl rfl rfl rfl ?_;refine sf 2 10 ⟨rfl,rfl,rfl⟩ rfl rfl rfl rfl ?_;refine sf 1 11 ⟨rfl,rfl,rfl⟩ rfl rfl rfl rfl ?_;refine sf 0 12 ⟨rfl,rfl,rfl⟩ rfl rfl rfl rfl ?_;refine ao ?_;refine wk [12,11,10,9,8,7,6,5,4,3,2,1] rfl (Tr.seq (Tr.At (tp rfl (CG (Bt) rfl rfl rfl) (tp rfl (CG (Bt) rfl rfl rfl) ?_))));refine Tl rfl rfl rfl rfl z75 Cd (fun b13=>?_);refine Tl rfl rfl rfl rfl z75 Cd (fun b14=>?_);refine sf 1 13 ⟨rfl,rfl,rfl⟩ rfl rfl rfl rfl ?_;refine sf 0 14 ⟨rfl,rfl,rfl⟩ rfl rfl rfl rfl ?_;refine ao ?_;refine wk [14,13,12,11,10,9,8,7,6,5,4,3,2,1] rfl ?_;refine ac ?_;refine co rfl (Aa rfl (C0) ⟨kq,kz⟩) ?_;refine ac ?_;refine co rfl (Aa rfl (C0) ⟨kq,kz⟩) ?_;refine ac ?_;refine co rfl (Aa rfl (C0) ⟨kq,kz⟩) (co rfl (CG (Bt) rfl rfl rfl) (co rfl (CG (Bt) rfl rfl rfl) ?_));refine ac ?_;refine co rfl (Aa rfl (C0) ⟨kq,kz⟩) (co rfl (CG (Bt) rfl rfl rfl) ?_);refine ac ?_;refine co rfl (Aa rfl (C0) ⟨kq,kz⟩) ?_;refine ac ?_;refine co rfl (Aa rfl (C0) ⟨kq,kz⟩) (co rfl (CG (Bt) rfl rfl rfl) ?_);refine ac ?_;refine co rfl (Aa rfl (C0) ⟨kq,kz⟩) ?_;refine ac ?_;refine co rfl (Aa rfl (C0) ⟨kq,kz⟩) (co rfl (AO rfl Be CR vq rfl rfl) (co rfl (CG (Bt) rfl rfl rfl) (co rfl (CG (Bt) rfl rfl rfl) (co rfl (AO rfl Be CR vq rfl rfl) (co rfl (Aa rfl (C0) ⟨kq,kz⟩) ?_)))));refine ac ?_;refine co rfl (Aa rfl (C0) ⟨kq,kz⟩) (co rfl (CG (Bt) rfl rfl rfl) (co rfl (CG (Bt) rfl rfl rfl) ?_));refine ac ?_;refine co rfl (Aa rfl (C0) ⟨kq,kz⟩) ?_;refine ac ?_;refine co rfl (Aa rfl (C0) ⟨kq,kz⟩) ?_;refine ac ?_;refine co rfl (Aa rfl (C0) ⟨kq,kz⟩) ?_;refine ac ?_;refine co rfl (Aa rfl (C0) ⟨kq,kz⟩) ?_;refine ac ?_;refine co rfl (Aa rfl (C0) ⟨kq,kz⟩) (co rfl (CG (Bt) rfl rfl rfl) ?_);refine ac ?_;refine co rfl (Aa rfl (C0) ⟨kq,kz⟩) (co rfl (AX (xs:=[.tmp 33,.tmp 38,.tmp 43,.tmp 48,.tmp 53,.tmp 58,.tmp 63,.tmp 68,.tmp 73,.tmp 78,.tmp 83,.tmp 88,.tmp 93,.tmp 98,.tmp 103,.tmp 108]) (rows:=Dc) rfl rfl underlying320 Dp LW rfl AB ⟨⟨Ab,VL.le vq (AJ _)⟩,⟨⟨Ab,VL.le vq (AJ _)⟩,⟨⟨Ab,VL.le vq (AJ _)⟩,⟨⟨Ab,VL.le vq (AJ _)⟩,⟨⟨Ab,VL.le vq (AJ _)⟩,⟨⟨Ab,VL.le vq (AJ _)⟩,⟨⟨Ab,VL.le vq (AJ _)⟩,⟨⟨Ab,VL.le vq (AJ _)⟩,⟨⟨Ab,VL.le vq (AJ _)⟩,⟨⟨Ab,VL.le vq (AJ _)⟩,⟨⟨Ab,VL.le vq (AJ _)⟩,⟨⟨Ab,VL.le vq (AJ _)⟩,⟨⟨Ab,VL.le vq (AJ _)⟩,⟨⟨Ab,VL.le vq (AJ _)⟩,⟨⟨Ab,VL.le vq (AJ _)⟩,⟨⟨Ab,VL.le vq (AJ _)⟩,trivial⟩⟩⟩⟩⟩⟩⟩⟩⟩⟩⟩⟩⟩⟩⟩⟩ AB) ?_);refine ac ?_;refine wk [0] rfl ?_;refine ac ?_
 .exact A_ _ _
theorem gK{code:Int}  :Aq prog 168 [int code] (EB [agg DG,int (if 1<=code/\code<=16 then 0 else 8)]):=by
 refine fo func168 rfl ⟨rfl,rfl⟩ fun M0 w0=>(Tr.seq (Tr.At ?_));refine Tl rfl rfl rfl rfl LW GU (fun b1=>?_);refine ap ?_;refine ag ?_ ?_<;>intro h1 q1
 refine ac ?_;refine Tr.cond rfl (fun _=>?_) (fun h=>nomatch h);refine Tr.seq (Tr.At (tp rfl (Al (rows:=[]) rfl TK GU trivial rfl) (TO.Ac 0 rfl rfl rfl vq CM rfl Dp rfl rfl (tm rfl (TO.nil (Fin.go (Tr.ret (Fin.AF (Fin.Bf rfl (AL.cell 0 rfl rfl Fi Dp rfl Lr) (AL.tmp rfl Lr) ?_)))))))))
 .exact bI
 refine an ?_ ?_<;>intro h2 q2
 refine ap ?_;refine Tr.ret (Fin.AF (Fin.Bf rfl (AL.cell 0 rfl rfl Fi Dp rfl Lr) (AL.tmp rfl Lr) ?_))
 .exact bM
 have hin:1<=code/\code<=16:=by omega
 refine ac ?_;refine Tr.seq (Tr.At (tp rfl (Ta (ZZ) rfl) ?_));refine ap ?_;refine tp rfl (AD rfl underlying320 Dp vq vq AA (XB AA)) ?_;refine ap ?_;refine wk [3,2] rfl (Tr.ret (Fin.Bf rfl (AL.cell 0 rfl rfl Fi Dp rfl Lr) (AL.tmp rfl Lr) ?_))
 .exact BU ⟨Lr,int_eq (by rw[if_pos hin]),trivial⟩
theorem Ki{v:Int}:Aq prog 90 [ints l,int v] (bool (l.any fun x=>v==x)):=by
 refine fo func90 rfl ⟨rfl,rfl⟩ fun M0 w0=>(Tr.Dr 0 rfl fun Dq=>?_);refine a2 ?_;refine Tr.block (Tr.BV _ (kk [1,0] rfl) (fun k:Nat=>[(5,int ((k:Nat):Int))]) (fun k:Nat=>k<=(l).length/\((l.take k).any (fun x=>v==x)=false)) (fun k:Nat=>(l).length-k) 0 (⟨Nat.zero_le _,rfl⟩) kz ?_);rintro k ⟨BN,AW⟩;refine an ?_ ?_<;>intro h1 q1
 have Ae:k<(l).length:=AQ h1;obtain⟨x,Ad⟩:=at_ Ae
 .repeat' first|(refine bool_eq ?_;symm;rw[List.any_eq_true];exact⟨_,List.mem_of_getElem? Ad,by simp_all⟩)|(exact Fin.AP (k+1) ⟨⟨Ae,bL⟩,by omega⟩ ⟨⟨_,rfl,AK k⟩,kz⟩)|refine co rfl (AD rfl underlying22 C4 vq vq AA DZ) ?_|refine ac ?_|(refine Tr.cn rfl ?_ ?_<;>intro h q)
 have BA:k=(l).length:=by have:=AU h1;omega
 subst BA;refine a3 ?_
 .exact UZ
theorem Dg{l:List (List UInt8)}:E6 l=true↔(∀j,j<l.length->nameAt l j=true)/\l.length<=8:=by unfold E6;rw[Bool.and_eq_true,B0,decide_eq_true_eq]
theorem LM{l:List (List UInt8)}{s:List UInt8}(hs:l[k]? =some s)(h1:named s=true)(h2:0<k->∃y,l[k-1]? =some y/\Lib.compareBytes y s= -1):nameAt l k=true:=by grind [nameAt]
theorem MY{c:EF}  :Aq prog 87 [agg (C9 c)] (int (if CE c then 0 else 9)):=by
 refine fo func87 rfl ⟨rfl,rfl⟩ fun M0 w0=>?_;refine ac ?_;refine ag ?_ ?_<;>intro h1 q1
 refine ac ?_;refine wk [39,1] rfl ?_;refine a2 ?_
 .exact J5
 refine ag ?_ ?_<;>intro h2 q2
 refine ac ?_;refine wk [39,1] rfl ?_;refine a2 ?_
 .exact J5
 refine ac ?_;refine cy h2 rfl (BS (HP) rfl rfl) ?_;refine ag ?_ ?_<;>intro h3 q3
 refine ac ?_;refine wk [39,1] rfl ?_;refine a2 ?_
 .exact Qw
 refine ac ?_;refine cy h3 rfl (BS (HP) rfl rfl) ?_;refine ag ?_ ?_<;>intro h4 q4
 refine ac ?_;refine wk [39,1] rfl ?_;refine a2 ?_
 .exact Qw
 refine ac ?_;refine cy h4 rfl (BS (KT) rfl rfl) ?_;refine ag ?_ ?_<;>intro h5 q5
 refine ac ?_;refine wk [39,1] rfl ?_;refine a2 ?_
 .exact Qw
 refine ag ?_ ?_<;>intro h6 q6
 refine ac ?_;refine wk [39,1] rfl ?_;refine a2 ?_
 .exact J5
 refine ac ?_;refine wk [39,1] rfl ?_;refine Tr.cn rfl ?_ ?_<;>intro h7 q7
 refine a2 ?_
 .exact J5
 refine a2 ?_;refine co rfl (BS (NU) rfl rfl) ?_;refine ag ?_ ?_<;>intro h8 q8
 refine ac ?_;refine wk [67,1] rfl ?_;refine a2 ?_
 .refine int_eq (if_neg (fun hv=>?_)).symm;have vf:=Ik hv;obtain⟨YP,YQ,Qq,Qr,Jy,HX,YR,YS,FY,Qs,Qt,Qu,Qv,YT,YU,YV,YW,YX,YY⟩:=vf;have YZ:=(Dg.1 Jy).2;unfold IQ at HX FY;simp_all;omega
 refine ac ?_;refine cy h8 rfl (BS (QK) rfl rfl) ?_;refine ag ?_ ?_<;>intro h9 q9
 refine ac ?_;refine wk [67,1] rfl ?_;refine a2 ?_
 .exact Qw
 refine ag ?_ ?_<;>intro h10 NT
 refine ac ?_;refine wk [67,1] rfl ?_;refine a2 ?_
 .exact J5
 refine ag ?_ ?_<;>intro h11 Rl
 refine ac ?_;refine wk [67,1] rfl ?_;refine a2 ?_
 .exact J5
 refine ac ?_;refine wk [67,1] rfl ?_;refine Tr.cn rfl ?_ ?_<;>intro h12 Tn
 refine a2 ?_
 .exact J5
 refine ac ?_;refine ag ?_ ?_<;>intro LX YN
 refine ac ?_;refine wk [91,1] rfl ?_;refine a2 ?_
 .exact J5
 refine ag ?_ ?_<;>intro MW mY
 refine ac ?_;refine wk [91,1] rfl ?_;refine a2 ?_
 .exact J5
 refine ag ?_ ?_<;>intro Ss pS
 refine ag ?_ ?_<;>intro h16 q16
 refine ac ?_;refine wk [91,1] rfl ?_;refine a2 ?_
 .exact Qw
 refine ac ?_;refine wk [91,1] rfl ?_;refine Tr.cn rfl ?_ ?_<;>intro PK pR
 refine a2 ?_
 .exact J5
 refine a2 ?_;refine Tr.block (Tr.BV _ (kk [1] rfl) (fun k:Nat=>[(3,int ((k:Nat):Int))]) (fun k:Nat=>k<=(c.names).length/\(∀j,j<k->nameAt c.names j=true)) (fun k:Nat=>(c.names).length-k) 0 (⟨Nat.zero_le _,fun j hj=>absurd hj AA⟩) kz ?_);rintro k ⟨BN,AW⟩;refine an ?_ ?_<;>intro Sa q18
 have Ae:k<(c.names).length:=AQ Sa;obtain⟨s,Ad⟩:=at_ Ae;refine a2 ?_;refine co rfl (AD rfl underlying67 Lj vq vq AA (Ap Ad)) (co rfl (FO rfl OK rfl) (co rfl (BS (HP) rfl rfl) ?_));refine ag ?_ ?_<;>intro jA q19
 refine ac ?_;refine wk [123,3,1] rfl ?_;refine a2 ?_
 .exact jJ
 refine ag ?_ ?_<;>intro Pf q20
 have J2:0<k:=by simpa using Pf
 obtain⟨y,hy⟩:=at_ (l:=c.names) (k:=k-1) AA
 .repeat' first|(refine int_eq (if_neg (fun hv=>?_)).symm;have vf:=Ik hv;obtain⟨YP,YQ,Qq,Qr,Jy,HX,YR,YS,FY,Qs,Qt,Qu,Qv,YT,YU,YV,YW,YX,YY⟩:=vf;have YZ:=(Dg.1 Jy).2;unfold IQ at HX FY;have hn_:=(Dg.1 Jy).1 k AA;unfold nameAt at hn_;simp_all)|(exact Fin.AP (k+1) ⟨⟨Ae,(fun j hj=>by rcases Nat.lt_or_eq_of_le (Nat.le_of_lt_succ hj)with h_|h_;exact AW j h_;(subst h_;refine LM Ad CU (fun h0=>?_);exact⟨y,hy,by simp_all⟩))⟩,by omega⟩ ⟨⟨_,rfl,AK k⟩,kz⟩)|(refine cy Pf rfl (AD rfl underlying67 Lj vq vq AA F2) ?_)|refine cy Pf rfl (AD rfl underlying67 Lj vq vq AA (Ap Ad)) (cy Pf rfl (FO rfl OK rfl) (cy Pf rfl (MH rfl vq vq) ?_))|refine ac ?_|(refine Tr.cn rfl ?_ ?_<;>intro h q)
 have J2:¬0<k:=by simpa using Pf
 refine ac ?_;refine wk [123,3,1] rfl ?_;refine a2 ?_;exact Fin.AP (k+1) ⟨⟨Ae,(fun j hj=>by rcases Nat.lt_or_eq_of_le (Nat.le_of_lt_succ hj)with h_|h_;exact AW j h_;(subst h_;refine LM Ad CU (fun h0=>?_);exact absurd h0 J2))⟩,by omega⟩ ⟨⟨_,rfl,AK k⟩,kz⟩;have BA:k=(c.names).length:=by have:=AU Sa;omega
 subst BA
 .repeat' first|(refine int_eq (if_neg (fun hv=>?_)).symm;have vf:=Ik hv;obtain⟨YP,YQ,Qq,Qr,Jy,HX,YR,YS,FY,Qs,Qt,Qu,Qv,YT,YU,YV,YW,YX,YY⟩:=vf;have YZ:=(Dg.1 Jy).2;unfold IQ at HX FY;omega)|(refine int_eq (if_pos (dL ⟨by omega,by omega,by simp_all,by simp_all,Dg.2 ⟨AW,by omega⟩,by unfold IQ;simp_all,by omega,by omega,by unfold IQ;simp_all,by omega,by omega,by omega,by omega,by omega,by omega,by omega,by omega,by omega,by right;omega⟩)).symm)|refine ac ?_|(refine Tr.cn rfl ?_ ?_<;>intro h q)|(refine Ch.cg rfl rfl rfl ?_ ?_<;>intro h q)
 refine ac ?_;refine wk [91,1] rfl ?_;refine Tr.cn rfl ?_ ?_<;>intro h26 q26
 refine a2 ?_
 .exact J5
 refine a2 ?_;refine Tr.block (Tr.BV _ (kk [1] rfl) (fun k:Nat=>[(3,int ((k:Nat):Int))]) (fun k:Nat=>k<=(c.names).length/\(∀j,j<k->nameAt c.names j=true)) (fun k:Nat=>(c.names).length-k) 0 (⟨Nat.zero_le _,fun j hj=>absurd hj AA⟩) kz ?_);rintro k ⟨BN,AW⟩;refine an ?_ ?_<;>intro h27 q27
 have Ae:k<(c.names).length:=AQ h27;obtain⟨s,Ad⟩:=at_ Ae;refine a2 ?_;refine co rfl (AD rfl underlying67 Lj vq vq AA (Ap Ad)) (co rfl (FO rfl OK rfl) (co rfl (BS (HP) rfl rfl) ?_));refine ag ?_ ?_<;>intro h28 q28
 refine ac ?_;refine wk [123,3,1] rfl ?_;refine a2 ?_
 .exact jJ
 refine ag ?_ ?_<;>intro jF q29
 have J2:0<k:=by simpa using jF
 obtain⟨y,hy⟩:=at_ (l:=c.names) (k:=k-1) AA
 .repeat' first|(refine int_eq (if_neg (fun hv=>?_)).symm;have vf:=Ik hv;obtain⟨YP,YQ,Qq,Qr,Jy,HX,YR,YS,FY,Qs,Qt,Qu,Qv,YT,YU,YV,YW,YX,YY⟩:=vf;have YZ:=(Dg.1 Jy).2;unfold IQ at HX FY;have hn_:=(Dg.1 Jy).1 k AA;unfold nameAt at hn_;simp_all)|(exact Fin.AP (k+1) ⟨⟨Ae,(fun j hj=>by rcases Nat.lt_or_eq_of_le (Nat.le_of_lt_succ hj)with h_|h_;exact AW j h_;(subst h_;refine LM Ad CU (fun h0=>?_);exact⟨y,hy,by simp_all⟩))⟩,by omega⟩ ⟨⟨_,rfl,AK k⟩,kz⟩)|(refine cy jF rfl (AD rfl underlying67 Lj vq vq AA F2) ?_)|refine cy jF rfl (AD rfl underlying67 Lj vq vq AA (Ap Ad)) (cy jF rfl (FO rfl OK rfl) (cy jF rfl (MH rfl vq vq) ?_))|refine ac ?_|(refine Tr.cn rfl ?_ ?_<;>intro h q)
 have J2:¬0<k:=by simpa using jF
 refine ac ?_;refine wk [123,3,1] rfl ?_;refine a2 ?_;exact Fin.AP (k+1) ⟨⟨Ae,(fun j hj=>by rcases Nat.lt_or_eq_of_le (Nat.le_of_lt_succ hj)with h_|h_;exact AW j h_;(subst h_;refine LM Ad CU (fun h0=>?_);exact absurd h0 J2))⟩,by omega⟩ ⟨⟨_,rfl,AK k⟩,kz⟩;have BA:k=(c.names).length:=by have:=AU h27;omega
 subst BA
 .repeat' first|(refine int_eq (if_neg (fun hv=>?_)).symm;have vf:=Ik hv;obtain⟨YP,YQ,Qq,Qr,Jy,HX,YR,YS,FY,Qs,Qt,Qu,Qv,YT,YU,YV,YW,YX,YY⟩:=vf;have YZ:=(Dg.1 Jy).2;unfold IQ at HX FY;omega)|(refine int_eq (if_pos (dL ⟨by omega,by omega,by simp_all,by simp_all,Dg.2 ⟨AW,by omega⟩,by unfold IQ;simp_all,by omega,by omega,by unfold IQ;simp_all,by omega,by omega,by omega,by omega,by omega,by omega,by omega,by omega,by omega,by left;simp_all⟩)).symm)|refine ac ?_|(refine Tr.cn rfl ?_ ?_<;>intro h q)|(refine Ch.cg rfl rfl rfl ?_ ?_<;>intro h q)
end Go.Proofs.YthommhphcagokaaGreatDoor
