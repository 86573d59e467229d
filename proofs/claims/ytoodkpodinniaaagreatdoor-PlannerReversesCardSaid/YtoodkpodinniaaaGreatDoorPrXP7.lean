/-
  PlannerReverses: whatever the input, the law of this name returns true and its arguments read as before; the table of trailing zeros is tied to the program. No conditions.
-/
import Derived.Test.YtoodkpodinniaaaGreatDoorRows
import Derived.Test.YtoodkpodinniaaaGreatDoorTie
import Derived.Test.YtoodkpodinniaaaGreatDoorCards
import Derived.LaidMore
import Derived.OpenShut
import Derived.Stop.Joined
import Derived.ProofKit
import Derived.Test.YtoodkpodinniaaaGreatDoorPrXP6
set_option linter.all false
set_option maxRecDepth 40000
set_option maxHeartbeats 16000000
namespace Go.Proofs.YtoodkpodinniaaaGreatDoor
open Go Go.RowKit Cp Go.Proofs.Tryz
abbrev XL:Pr:=agg [slice 3 [],slice 1 [],slice 1 []]
abbrev lC:Pr:=agg [slice 6 [],slice 2 []]
abbrev r_:Pr:=agg [slice 1 [],int 0]
abbrev Ls:Pr:=agg [slice 8 [],slice 2 [],slice 1 []]
abbrev aV:Pr:=agg [slice 4 []]
theorem KI:EA.sz Bq 0:=⟨(fun x h=>by cases h),(fun x h=>by cases h),by decide,by decide,by decide⟩
theorem lD   :Ay prog 171 [slice 1 [],any] (int (-1)):=by
 refine fo func171 rfl ⟨rfl,rfl⟩ fun M0 w0=> ?_
 refine a2 ?_
 refine co rfl (A8 rfl underlying22 vq) ?_
 refine ac ?_
 refine Tr.block (Tr.C5 ?_)
 refine ac ?_
 refine Tr.seq ?_
 refine Tr.cn rfl ?_ ?_<;>intro h1 q1
 exact absurd h1 AB
 have:=h1
 refine a3 ?_
 · exact Lr
theorem Uo   :Ay prog 102 [slice 1 [],any] (bool false):=by
 refine fo func102 rfl ⟨rfl,rfl⟩ fun M0 w0=> ?_
 refine a2 ?_
 refine co rfl (Cb (lD) rfl rfl rfl) ?_
 refine a2 ?_
 · exact Lr
theorem lE   :Ay prog 185 [slice 3 [],any] (int (-1)):=by
 refine fo func185 rfl ⟨rfl,rfl⟩ fun M0 w0=> ?_
 refine a2 ?_
 refine co rfl (A8 rfl underlying103 vq) ?_
 refine ac ?_
 refine Tr.block (Tr.C5 ?_)
 refine ac ?_
 refine Tr.seq ?_
 refine Tr.cn rfl ?_ ?_<;>intro h1 q1
 exact absurd h1 AB
 have:=h1
 refine a3 ?_
 · exact Lr
theorem aW   :Ay prog 115 [slice 3 [],any] (bool false):=by
 refine fo func115 rfl ⟨rfl,rfl⟩ fun M0 w0=> ?_
 refine a2 ?_
 refine co rfl (Cb (lE) rfl rfl rfl) ?_
 refine a2 ?_
 · exact Lr
theorem lF   :Ay prog 186 [slice 6 [],any] (int (-1)):=by
 refine fo func186 rfl ⟨rfl,rfl⟩ fun M0 w0=> ?_
 refine a2 ?_
 refine co rfl (A8 rfl underlying106 vq) ?_
 refine ac ?_
 refine Tr.block (Tr.C5 ?_)
 refine ac ?_
 refine Tr.seq ?_
 refine Tr.cn rfl ?_ ?_<;>intro h1 q1
 exact absurd h1 AB
 have:=h1
 refine a3 ?_
 · exact Lr
theorem lG   :Ay prog 121 [slice 6 [],any] (bool false):=by
 refine fo func121 rfl ⟨rfl,rfl⟩ fun M0 w0=> ?_
 refine a2 ?_
 refine co rfl (Cb (lF) rfl rfl rfl) ?_
 refine a2 ?_
 · exact Lr
theorem lH   :Ay prog 187 [slice 2 [],any] (int (-1)):=by
 refine fo func187 rfl ⟨rfl,rfl⟩ fun M0 w0=> ?_
 refine a2 ?_
 refine co rfl (A8 rfl underlying107 vq) ?_
 refine ac ?_
 refine Tr.block (Tr.C5 ?_)
 refine ac ?_
 refine Tr.seq ?_
 refine Tr.cn rfl ?_ ?_<;>intro h1 q1
 exact absurd h1 AB
 have:=h1
 refine a3 ?_
 · exact Lr
theorem lI   :Ay prog 124 [slice 2 [],any] (bool false):=by
 refine fo func124 rfl ⟨rfl,rfl⟩ fun M0 w0=> ?_
 refine a2 ?_
 refine co rfl (Cb (lH) rfl rfl rfl) ?_
 refine a2 ?_
 · exact Lr
theorem lJ   :Ay prog 127 [slice 7 [],any] (int (-1)):=by
 refine fo func127 rfl ⟨rfl,rfl⟩ fun M0 w0=> ?_
 refine a2 ?_
 refine co rfl (A8 rfl underlying145 vq) ?_
 refine ac ?_
 refine Tr.block (Tr.C5 ?_)
 refine ac ?_
 refine Tr.seq ?_
 refine Tr.cn rfl ?_ ?_<;>intro h1 q1
 exact absurd h1 AB
 have:=h1
 refine a3 ?_
 · exact Lr
theorem aX   :Ay prog 68 [slice 7 [],any] (bool false):=by
 refine fo func68 rfl ⟨rfl,rfl⟩ fun M0 w0=> ?_
 refine a2 ?_
 refine co rfl (Cb (lJ) rfl rfl rfl) ?_
 refine a2 ?_
 · exact Lr
theorem lK   :Ay prog 170 [slice 8 [],any] (int (-1)):=by
 refine fo func170 rfl ⟨rfl,rfl⟩ fun M0 w0=> ?_
 refine a2 ?_
 refine co rfl (A8 rfl underlying42 vq) ?_
 refine ac ?_
 refine Tr.block (Tr.C5 ?_)
 refine ac ?_
 refine Tr.seq ?_
 refine Tr.cn rfl ?_ ?_<;>intro h1 q1
 exact absurd h1 AB
 have:=h1
 refine a3 ?_
 · exact Lr
theorem aY   :Ay prog 101 [slice 8 [],any] (bool false):=by
 refine fo func101 rfl ⟨rfl,rfl⟩ fun M0 w0=> ?_
 refine a2 ?_
 refine co rfl (Cb (lK) rfl rfl rfl) ?_
 refine a2 ?_
 · exact Lr
theorem Lt   :Ay prog 65 [XL,int 0] (int 0):=by
 refine fo func65 rfl ⟨rfl,rfl⟩ fun M0 w0=> ?_
 refine ac ?_
 refine ac ?_
 refine co rfl (A8 rfl underlying103 vq) (co rfl gG (cm rfl ?_))
 refine Ch.cs 14 rfl ?_ ?_<;>intro h1 q1
 iterate 4 refine cnf h1 rfl ?_
 refine co rfl (WI rfl rfl h1 rfl) (Ch.nil (Fin.go (Tr.cond rfl (fun _=> ?_) (fun h=>nomatch h))))
 refine Tr.seq (Tr.CL (cm rfl (Ch.nil (Fin.go (Tr.ret (Fin.AL (Fin.bN rfl (Cd.F_ _ _) rfl ?_)))))))
 · exact F0
 refine cy h1 rfl (Oa rfl VV rfl rfl) (cy h1 rfl (GX rfl O5 rfl) (cy h1 rfl (A8 rfl underlying22 (vl rfl)) ?_))
 refine ac ?_
 refine Tr.cn rfl ?_ ?_<;>intro h2 q2
 exact absurd h2 AB
 refine ac ?_
 refine ac ?_
 refine co rfl (Ad rfl (Uo) ⟨kq,⟨_,rfl,ED _⟩,trivial⟩) ?_
 refine ac ?_
 refine wk [22,2,1] rfl ?_
 refine Tr.cn rfl ?_ ?_<;>intro h3 q3
 refine ac ?_
 refine ac ?_
 · exact F0
 refine ac ?_
 refine ac ?_
 refine co rfl (Ad rfl (aW) ⟨kq,⟨_,rfl,ED _⟩,trivial⟩) ?_
 refine ac ?_
 refine Tr.cn rfl ?_ ?_<;>intro h4 q4
 refine ac ?_
 refine ac ?_
 · exact F0
 refine ac ?_
 refine ac ?_
 refine co rfl (A8 rfl underlying103 vq) ?_
 refine ac ?_
 refine Tr.block (Tr.C5 ?_)
 refine ac ?_
 refine Tr.seq ?_
 refine Tr.cn rfl ?_ ?_<;>intro h5 q5
 exact absurd h5 AB
 have:=h5
 refine ac ?_
 refine ao ?_
 refine Tl rfl rfl rfl rfl z76 uj (fun b1=> ?_)
 refine sf 0 9 ⟨rfl,rfl,rfl⟩ rfl rfl rfl rfl ?_
 refine ao ?_
 refine wk [9,2,1] rfl ?_
 refine ac ?_
 refine co rfl (Ad rfl (aW) ⟨kq,⟨_,rfl,ED _⟩,trivial⟩) ?_
 refine ac ?_
 refine Tr.cn rfl ?_ ?_<;>intro h6 q6
 refine ac ?_
 refine ac ?_
 · exact F0
 refine ac ?_
 refine ac ?_
 refine co rfl (A8 rfl underlying22 vq) (cm rfl (co rfl gG (cm rfl ?_)))
 refine Ch.cs 82 rfl ?_ ?_<;>intro h7 q7
 iterate 4 refine cnf h7 rfl ?_
 refine co rfl (WI rfl rfl h7 rfl) (Ch.nil (Fin.go (wk1 87 rfl (Tr.cond rfl (fun _=> ?_) (fun h=>nomatch h)))))
 refine Tr.seq (Tr.CL (cm rfl (Ch.nil (Fin.go (Tr.ret (Fin.AL (Fin.bN rfl (Cd.F_ _ _) rfl ?_)))))))
 · exact F0
 refine cy h7 rfl (Oa rfl VU rfl rfl) (cy h7 rfl (GX rfl O5 rfl) (cy h7 rfl (GX rfl gK rfl) (cy h7 rfl (Ad rfl (Uo) ⟨ke rfl,⟨_,rfl,ED _⟩,trivial⟩) ?_)))
 refine ac ?_
 refine wk [87] rfl ?_
 refine Tr.cn rfl ?_ ?_<;>intro h8 q8
 refine ac ?_
 refine ac ?_
 · exact F0
 refine ac ?_
 refine ac ?_
 refine ac ?_
 · exact Lr
theorem S3   :Ay prog 120 [XL,slice 8 []] (D_ [slice 1 [],int 0]):=by
 refine fo func120 rfl ⟨rfl,rfl⟩ fun M0 w0=> ?_
 refine a2 ?_
 refine co rfl (A8 rfl underlying42 vq) ?_
 refine an ?_ ?_<;>intro h1 q1
 refine ac ?_
 refine Tr.ret (Fin.AL (Fin.EJ rfl (Cd.F_ _ _) rfl ?_ rfl ?_))
 · exact AH 1
 · exact F0
 refine a3 ?_
 refine co rfl (A8 rfl underlying42 vq) ?_
 refine ac ?_
 refine Tr.block (Tr.C5 ?_)
 refine ac ?_
 refine Tr.seq ?_
 refine Tr.cn rfl ?_ ?_<;>intro h2 q2
 exact absurd h2 AB
 have:=h2
 refine a2 ?_
 refine wk [5,4] rfl (Tr.ret (Fin.EJ rfl (Cd.F_ _ _) rfl ?_ rfl ?_))
 · exact AH 1
 · exact Lr
theorem aZ   :Ay prog 66 [XL,slice 8 []] (D_ [slice 1 [],int 0]):=by
 refine fo func66 rfl ⟨rfl,rfl⟩ fun M0 w0=> ?_
 refine a2 ?_
 refine co rfl (A8 rfl underlying22 vq) (co rfl (Cb (Lt) rfl rfl rfl) ?_)
 refine ac ?_
 refine an ?_ ?_<;>intro h1 q1
 exact absurd h1 AB
 refine a2 ?_
 refine co rfl (Cb (S3) rfl rfl rfl) ?_
 refine ac ?_
 refine wk [5,4] rfl (Tr.ret (Fin.EJ rfl (Cd.F_ _ _) rfl ?_ rfl ?_))
 · exact Lr
 · exact Lr
theorem Po   :Ay prog 67 [lC] (int 0):=by
 refine fo func67 rfl ⟨rfl,rfl⟩ fun M0 w0=> ?_
 · repeat' first|exact absurd h AB|exact Lr|refine co rfl (Ad rfl (lG) ⟨kq,⟨_,rfl,ED _⟩,trivial⟩) (cm rfl ?_)|refine cy h rfl (Ad rfl (lI) ⟨kq,⟨_,rfl,ED _⟩,trivial⟩) ?_|refine cy h rfl (A8 rfl underlying106 vq) ?_|refine cy h rfl (A8 rfl underlying107 vq) ?_|refine ac ?_|(refine Tr.cn rfl ?_ ?_<;>intro h q)|(refine Ch.cg rfl rfl rfl ?_ ?_<;>intro h q)
theorem lM   :Ay prog 327 [any,int 0,int 0,any] (G8):=by
 refine fo func327 rfl ⟨rfl,rfl⟩ fun M0 w0=> ?_
 refine ac ?_
 refine Tr.block (Tr.C5 ?_)
 refine an ?_ ?_<;>intro h1 q1
 exact absurd h1 AB
 have:=h1
 refine Tr.exit (Fin.BH (Fin.BH (Fin.Bu (Fin.Yh rfl))))
theorem lN   :Ay prog 276 [any,int 0,int 0,any,any] (G8):=by
 refine fo func276 rfl ⟨rfl,rfl⟩ fun M0 w0=> ?_
 refine a2 ?_
 refine Tr.block (Tr.C5 ?_)
 refine ac ?_
 refine an ?_ ?_<;>intro h1 q1
 refine ac ?_
 refine co rfl (kc4 (lM) rfl rfl rfl rfl rfl) ?_
 refine ac ?_
 refine Tr.ret (Fin.AL (Fin.Bb (Fin.AL (Fin.Bb (Fin.pL rfl)))))
 exact absurd h1 AB
theorem aa   :Ay prog 336 [is (.int .u64 0)] (any):=by
 refine fo func336 rfl ⟨rfl,rfl⟩ fun M0 w0=> ?_
 have hw:IntKind.u8.wrap 0=0:=rfl
 refine ac ?_
 refine an ?_ ?_<;>intro h1 q1
 exact absurd h1 AB
 refine ac ?_
 refine an ?_ ?_<;>intro h2 q2
 exact absurd h2 AB
 refine ac ?_
 refine an ?_ ?_<;>intro h3 q3
 exact absurd h3 AB
 refine a2 ?_
 refine co rfl (C_ rfl underlying424 underlying5 vq) ?_
 refine co rfl (Ml rfl underlying9 vq vq AA (List.getElem?_eq_getElem (by show _<256;omega))) ?_
 refine co rfl (C_ rfl underlying5 underlying3 vq) ?_
 refine ac ?_
 refine wk [2] rfl ?_
 refine ac ?_
 · exact ED _
theorem lO   :Ay prog 277 [is (.int .u64 0)] (any):=by
 refine fo func277 rfl ⟨rfl,rfl⟩ fun M0 w0=> ?_
 refine a3 ?_
 refine co rfl (Bn (aa) rfl rfl) ?_
 refine a2 ?_
 · exact Lr
theorem af   :Ay prog 206 [slice 2 [],any] (G8):=by
 refine fo func206 rfl ⟨rfl,rfl⟩ fun M0 w0=> ?_
 refine ac ?_
 refine co rfl (A8 rfl underlying305 vq) ?_
 refine a2 ?_
 refine co rfl (C_ rfl underlying3 underlying358 vq) (co rfl (Ad rfl (lO) ⟨⟨_,rfl,Pr.le_of_eq rfl⟩,trivial⟩) (cm rfl (co rfl (Ad rfl (lN) ⟨⟨_,rfl,ED _⟩,kq,kq,⟨_,rfl,ED _⟩,⟨_,rfl,ED _⟩,trivial⟩) (Ch.nil (Fin.Yh rfl)))))
theorem lP   :Ay prog 208 [slice 2 []] (slice 2 []):=by
 refine fo func208 rfl ⟨rfl,rfl⟩ fun M0 w0=> ?_
 · repeat' first|exact Lr|exact absurd h AB|refine co rfl (A8 rfl underlying305 vq) ?_|refine ac ?_|(refine Tr.cn rfl ?_ ?_<;>intro h q)
theorem XM   :Ay prog 145 [slice 2 []] (slice 2 []):=by
 refine fo func145 rfl ⟨rfl,rfl⟩ fun M0 w0=> ?_
 refine a3 ?_
 refine co rfl (A8 rfl underlying43 vq) ?_
 refine ac ?_
 refine Tr.block (Tr.C5 ?_)
 refine ac ?_
 refine Tr.seq ?_
 refine Tr.cn rfl ?_ ?_<;>intro h1 q1
 exact absurd h1 AB
 have:=h1
 refine a2 ?_
 refine co rfl (Ad rfl (af) ⟨⟨_,rfl,AH _⟩,⟨_,rfl,ED _⟩,trivial⟩) ?_
 refine a3 ?_
 refine co rfl (Ad rfl (lP) ⟨⟨_,rfl,AH _⟩,trivial⟩) (co rfl (A8 rfl underlying305 vq) ?_)
 refine ac ?_
 refine Tr.block (Tr.C5 ?_)
 refine ac ?_
 refine wk [26,25,24,23,6] rfl (Tr.seq ?_)
 refine Tr.cn rfl ?_ ?_<;>intro h2 q2
 exact absurd h2 AB
 have:=h2
 refine a3 ?_
 · exact AH 2
theorem lQ   :Ay prog 75 [agg (Bs Bq),slice 8 []] (D_ [slice 2 [],int 0]):=by
 refine fo func75 rfl ⟨rfl,rfl⟩ fun M0 w0=> ?_
 refine a2 ?_
 refine co rfl (Bn (GV (KI.fits AA)) rfl rfl) ?_
 refine an ?_ ?_<;>intro h1 q1
 exact absurd h1 AB
 refine ac ?_
 refine co rfl (A8 rfl underlying42 vq) ?_
 refine an ?_ ?_<;>intro h2 q2
 exact absurd h2 AB
 refine ac ?_
 refine co rfl (Ad rfl (aY) ⟨kq,⟨_,rfl,ED _⟩,trivial⟩) ?_
 refine ac ?_
 refine wk [19,2,1] rfl ?_
 refine Tr.cn rfl ?_ ?_<;>intro h3 q3
 exact absurd h3 AB
 refine a3 ?_
 refine co rfl (A8 rfl underlying42 vq) ?_
 refine ac ?_
 refine Tr.block (Tr.C5 ?_)
 refine ac ?_
 refine Tr.seq ?_
 refine Tr.cn rfl ?_ ?_<;>intro h4 q4
 exact absurd h4 AB
 have:=h4
 refine a2 ?_
 refine co rfl (Ad rfl (XM) ⟨⟨_,rfl,AH _⟩,trivial⟩) ?_
 refine ac ?_
 refine Tr.ret (Fin.EJ rfl (Cd.F_ _ _) rfl ?_ rfl ?_)
 · exact Lr
 · exact Lr
theorem ah   :Ay prog 210 [int 0,slice 2 []] (ref [int 0,slice 1 [],slice 1 []]):=by
 refine fo func210 rfl ⟨rfl,rfl⟩ fun M0 w0=> ?_
 refine ac ?_
 refine Tr.seq (Tr.pad (Tr.rx ?_))
 refine ax ?_
 refine xo rfl (fun _=>Is (m:=0) rfl underlying313 gO gP ow rfl AB AB ⟨_,rfl,int_eq rfl⟩ ⟨_,rfl,int_eq rfl⟩ AB AB) ?_
 refine xm rfl ?_
 refine xo rfl (fun _=>Is (m:=0) rfl underlying313 gO gP ow rfl AB AB ⟨_,rfl,int_eq rfl⟩ ⟨_,rfl,int_eq rfl⟩ AB AB) ?_
 refine xo rfl (fun _=>Ax (rows:=[(0,[_]),(1,[_]),(2,[_])]) rfl o_ pE ⟨⟨rfl,CX⟩,⟨⟨rfl,⟨_,rfl,Pr.le_trans (BC 1 _) (AP _)⟩⟩,⟨⟨rfl,⟨_,rfl,Pr.le_trans (BC 1 _) (AP _)⟩⟩,trivial⟩⟩⟩ rfl) (xo rfl (fun _=>BK rfl CS) (Cx.ef 0 rfl rfl AB (Em rfl rfl AB rfl uq ou) (Cx.D7 0 rfl rfl (En rfl rfl rfl rfl CX ot rfl rfl) ?_)))
 refine Cx.nil ⟨by kernel_rfl,?_⟩
 refine BV.open_ 0 5 rfl rfl (fun v1=> ?_)
 refine BV.done al1 (Fin.VR 5 0 _ rfl rfl (fun _=>rfl) (fun b1=> ?_))
 refine Fin.go ?_
 refine ac ?_
 refine co rfl (A8 rfl underlying43 vq) ?_
 refine ac ?_
 refine Tr.block (Tr.C5 ?_)
 refine ac ?_
 refine wk [22,21,20,19,5,0] rfl (Tr.seq ?_)
 refine Tr.cn rfl ?_ ?_<;>intro h1 q1
 exact absurd h1 AB
 have:=h1
 refine a2 ?_
 refine Tr.block (Tr.C5 ?_)
 refine ac ?_
 refine Tr.seq ?_
 refine Tr.cn rfl ?_ ?_<;>intro h2 q2
 exact absurd h2 AB
 have:=h2
 refine a2 ?_
 refine Tr.block (Tr.C5 ?_)
 refine ac ?_
 refine Tr.seq ?_
 refine Tr.cn rfl ?_ ?_<;>intro h3 q3
 exact absurd h3 AB
 have:=h3
 refine a2 ?_
 refine Tr.drop 0 (wk [4] rfl ?_)
 refine ac ?_
 · exact Lr
theorem OY   :Ay prog 146 [int 0,slice 2 []] (D_ [ref [int 0,slice 1 [],slice 1 []],int 0]):=by
 refine fo func146 rfl ⟨rfl,rfl⟩ fun M0 w0=> ?_
 refine ac ?_
 refine Tr.seq (Tr.seq (Tr.CL (cm rfl (co rfl gG (cm rfl ?_)))))
 refine Ch.cs 14 rfl ?_ ?_<;>intro h1 q1
 exact absurd h1 AB
 refine ac ?_
 refine Tr.cn rfl ?_ ?_<;>intro h2 q2
 exact absurd h2 AB
 refine ac ?_
 refine ac ?_
 refine co rfl (A8 rfl underlying43 vq) ?_
 refine ac ?_
 refine Tr.block (Tr.C5 ?_)
 refine ac ?_
 refine Tr.seq ?_
 refine Tr.cn rfl ?_ ?_<;>intro h3 q3
 exact absurd h3 AB
 have:=h3
 refine ac ?_
 refine ac ?_
 refine co rfl (A8 rfl underlying43 vq) ?_
 refine ac ?_
 refine wk [54,53,1,0] rfl (Tr.block (Tr.C5 ?_))
 refine ac ?_
 refine Tr.seq ?_
 refine Tr.cn rfl ?_ ?_<;>intro h4 q4
 exact absurd h4 AB
 have:=h4
 refine ac ?_
 refine ac ?_
 refine co rfl (Cb (ah) rfl rfl rfl) ?_
 refine ac ?_
 refine ac ?_
 refine co rfl (A8 rfl underlying313 vq) ?_
 refine ac ?_
 refine wk [81,80,79,9] rfl (Tr.block (Tr.C5 ?_))
 refine ac ?_
 refine Tr.seq ?_
 refine Tr.cn rfl ?_ ?_<;>intro h5 q5
 exact absurd h5 AB
 have:=h5
 refine ac ?_
 refine ac ?_
 refine Tr.ret (Fin.EJ rfl (Cd.F_ _ _) rfl ?_ rfl ?_)
 · exact Lr
 · exact Lr
theorem XN   :Ay prog 103 [int 0,slice 2 []] (int 0):=by
 refine fo func103 rfl ⟨rfl,rfl⟩ fun M0 w0=> ?_
 refine a2 ?_
 refine co rfl (Cb (OY) rfl rfl rfl) ?_
 refine a3 ?_
 · exact Lr
theorem XO   :Ay prog 132 [int 0,slice 2 []] (D_ [slice 1 [],int 0]):=by
 refine fo func132 rfl ⟨rfl,rfl⟩ fun M0 w0=> ?_
 refine a2 ?_
 refine co rfl (Cb (OY) rfl rfl rfl) ?_
 refine ac ?_
 refine an ?_ ?_<;>intro h1 q1
 refine ac ?_
 refine wk [5,4] rfl (Tr.ret (Fin.AL (Fin.EJ rfl (Cd.F_ _ _) rfl ?_ rfl ?_)))
 · exact AH 1
 · exact Lr
 refine a3 ?_
 refine wk [9,8,6,0] rfl ?_
 refine ac ?_
 refine Tr.block (Tr.C5 ?_)
 refine ac ?_
 refine Tr.seq ?_
 refine Tr.cn rfl ?_ ?_<;>intro h2 q2
 exact absurd h2 AB
 have:=h2
 refine a2 ?_
 refine Tr.ret (Fin.EJ rfl (Cd.F_ _ _) rfl ?_ rfl ?_)
 · exact AH 1
 · exact Lr
theorem fW   :Ay prog 147 [ref [int 0,slice 1 [],slice 1 []],slice 1 []] (D_ [is (.int .u32 0),bool true]):=by
 refine fo func147 rfl ⟨rfl,rfl⟩ fun M0 w0=> ?_
 iterate 4 refine ac ?_
 refine co rfl (A8 rfl underlying50 vq) ?_
 refine ac ?_
 refine Tr.block (Tr.C5 ?_)
 refine ac ?_
 refine Tr.seq ?_
 refine Tr.cn rfl ?_ ?_<;>intro h1 q1
 exact absurd h1 AB
 have:=h1
 refine a2 ?_
 refine Tr.ret (Fin.EJ rfl (Cd.F_ _ _) rfl ?_ rfl ?_)
 · exact Lr
 · exact Lr
theorem lR   :Ay prog 280 [any,ref [is (.int .u32 0)]] (G8):=by
 refine fo func280 rfl ⟨rfl,rfl⟩ fun M0 w0=>(Tr.block (Tr.C5 ?_))
 refine an ?_ ?_<;>intro h1 q1
 exact absurd h1 AB
 have:=h1
 refine Tr.exit (Fin.BH (Fin.BH (Fin.Bu (Fin.Yh rfl))))
theorem lS:Entry Tryz.prog 280:=⟨_,Tryz.func280,rfl,rfl⟩
theorem fX   :Ay prog 212 [is (.int .u32 0)] (fn (.func 280) [ref [is (.int .u32 0)]]):=by
 refine fo func212 rfl ⟨rfl,rfl⟩ fun M0 w0=> ?_
 refine a2 ?_
 refine Tr.ret (Fin.CF rfl (AR.tmp rfl Lr) ?_)
 · exact Lr
theorem Up   :BN prog 148 [ref [int 0,slice 1 [],slice 1 []],is (.int .u32 0)] (bool true) (BW) (fun _=>BW):=by
 refine BN.ofM func148 rfl rfl Ai fun M0 w0 S rs M1 w1=> ?_
 refine Tr.seq (Tr.BL (tp rfl (BK rfl CX) (tp rfl (BK rfl CX) ?_)))
 refine Tl rfl rfl rfl rfl z4 zo4 (fun b1=> ?_)
 refine ap ?_
 refine ac ?_
 refine co rfl (Bn (fX) rfl rfl) ?_
 refine ac ?_
 refine Tr.block (wk [4,7] rfl (Tr.S2 rfl Ai lS (lR) (fun Dk=> ?_)))
 refine ac ?_
 refine ap ?_
 refine Tr.ret (Fin.ZJ (Fin.gy (Fin.Ge [_] rfl (AR.iI 0 rfl rfl nk Lr) ?_ (fun _ _ _ _=>rfl))))
 · exact Lr
theorem XP:Ay Tryz.prog 148 [ref [int 0,slice 1 [],slice 1 []],is (.int .u32 0)] (bool true):=Up.pure
theorem Uq   :Ay prog 79 [int 0,slice 2 [],slice 1 []] (D_ [bool true,int 0]):=by
 refine fo func79 rfl ⟨rfl,rfl⟩ fun M0 w0=> ?_
 refine a2 ?_
 refine co rfl (Cb (OY) rfl rfl rfl) ?_
 refine ac ?_
 refine an ?_ ?_<;>intro h1 q1
 exact absurd h1 AB
 refine a2 ?_
 refine co rfl (Cb (fW) rfl rfl rfl) ?_
 refine ac ?_
 refine wk [11,10,8] rfl ?_
 refine an ?_ ?_<;>intro h2 q2
 exact absurd h2 AB
 refine a2 ?_
 refine co rfl (Cb (XP) rfl rfl rfl) ?_
 refine ac ?_
 refine Tr.ret (Fin.EJ rfl (Cd.F_ _ _) rfl ?_ rfl ?_)
 · exact Lr
 · exact Lr
theorem fY   :Ay prog 191 [slice 2 []] (full 2 []):=by
 refine fo func191 rfl ⟨rfl,rfl⟩ fun M0 w0=> ?_
 refine a2 ?_
 refine co rfl (EM rfl underlying43 vq) ?_
 refine ac ?_
 refine Tr.ex 4 rfl (fun z1=>Tr.fact 4 rfl fun JD=> ?_)
 · repeat' first|exact EI 2|exact Lr|refine co rfl (IW rfl underlying43 gN vq vq) ?_|refine ac ?_|(refine Tr.cn rfl ?_ ?_<;>intro h q)
theorem fZ   :Ay prog 159 [slice 1 []] (full 1 []):=by
 refine fo func159 rfl ⟨rfl,rfl⟩ fun M0 w0=> ?_
 refine a2 ?_
 refine co rfl (EM rfl underlying22 vq) ?_
 refine ac ?_
 refine Tr.ex 4 rfl (fun z1=>Tr.fact 4 rfl fun JD=> ?_)
 · exact Xu
theorem aj   :Ay prog 133 [Ls] (Ls):=by
 refine Ay.of func133 rfl rfl Ai fun M0 w0=> ?_
 refine Tr.seq (Tr.BL (tp rfl (BK rfl (Va rfl)) ?_))
 refine Tl rfl rfl rfl rfl bq Ns (fun b1=> ?_)
 refine TO.nil (Fin.go (Tr.seq (Tr.pad (Tr.YB mixed [none,none,none,none,none,none,none,some (0,0,true,3),some (3,0,true,3)] BD (xo rfl (fun _=>Oa rfl YT rfl rfl) (xo rfl (fun _=>GX rfl gJ rfl) (xo rfl (fun _=>Ad rfl (fY) ⟨ke rfl,trivial⟩) (xo rfl (fun _=>Oa rfl YU rfl rfl) (xo rfl (fun _=>GX rfl O5 rfl) (xo rfl (fun _=>Ad rfl (fZ) ⟨ke rfl,trivial⟩) (xo rfl (fun _=>Ax (rows:=[(1,[_]),(2,[_])]) rfl nw Ns ⟨⟨rfl,(Vo rfl)⟩,⟨⟨rfl,(Vo rfl)⟩,trivial⟩⟩ rfl) (Cx.ef 0 rfl rfl AB (Em rfl rfl AB rfl bq Ns) ?_))))))))))))
 refine Cx.D7 0 rfl rfl (En rfl rfl rfl rfl (VL.le (vl rfl) (Pr.le_trans (BP (qs:=[slice 8 [],slice 2 [],slice 1 []]) ⟨AH 8,BC 2 _,BC 1 _,trivial⟩) (AY _))) Ql rfl rfl) ?_
 refine Cx.nil ⟨rfl,?_⟩
 refine BV.open_ 0 3 rfl rfl (fun v1=> ?_)
 refine BV.done (Dx.cons (Dx.cons (Dx.map _))) (Fin.VR 3 0 _ rfl rfl (fun _=>rfl) (fun b2=> ?_))
 refine Fin.go (Tr.seq (Tr.seq (Tr.CL (co rfl (Oa rfl YS rfl rfl) (co rfl (GX rfl gI rfl) (co rfl (A8 rfl underlying42 (vl rfl)) (cm rfl (Ch.nil (Fin.go (wk5 2 3 14 15 16 rfl (Tr.block (Tr.C5 (Tr.seq (Tr.CL ?_))))))))))))))
 refine co rfl (ki rfl rfl rfl rfl) (Ch.nil (Fin.go (Tr.seq ?_)))
 refine Tr.cn rfl ?_ ?_<;>intro h1 q1
 exact absurd h1 AB
 have:=h1
 refine Tr.exit (Fin.BH (Fin.BH (Fin.Bu (Fin.go (Tr.seq (Tr.BL (TO.rd 0 rfl rfl rfl AB (Cf rfl O6 Ql (vl rfl) rfl rfl) (TO.Ap 1 rfl rfl rfl (vl rfl) (Va rfl) rfl Ql rfl rfl (TO.nil (Fin.go (Tr.drop 0 (Tr.ret (Fin.CF rfl (AR.cell 0 rfl rfl O6 Ql rfl (Lr)) ?_)))))))))))))
 · exact Lr
theorem XQ   :Ay prog 131 [agg (Bs Bq),XL,slice 8 []] (D_ [slice 1 [],int 0]):=by
 refine fo func131 rfl ⟨rfl,rfl⟩ fun M0 w0=> ?_
 refine a2 ?_
 refine co rfl (Bn (GV (KI.fits AA)) rfl rfl) ?_
 refine an ?_ ?_<;>intro h1 q1
 exact absurd h1 AB
 refine a2 ?_
 refine co rfl (Cb (Lt) rfl rfl rfl) ?_
 refine a2 ?_
 refine wk [18,8,4,2] rfl ?_
 refine Tr.cn rfl ?_ ?_<;>intro h2 q2
 exact absurd h2 AB
 refine a2 ?_
 refine co rfl (Cb (S3) rfl rfl rfl) ?_
 refine ac ?_
 refine Tr.ret (Fin.EJ rfl (Cd.F_ _ _) rfl ?_ rfl ?_)
 · exact Lr
 · exact Lr
theorem lT   :Ay prog 73 [agg (Bs Bq),XL,slice 8 [],slice 2 [],int 0] (D_ [Ls,int 0]):=by
 refine fo func73 rfl ⟨rfl,rfl⟩ fun M0 w0=>(Tr.seq (Tr.BL (tp rfl (BK rfl CS) (tp rfl (BK rfl CS) ?_))))
 refine Tl rfl rfl rfl rfl bq Ns (fun b1=> ?_)
 refine ao ?_
 refine ac ?_
 refine co rfl (kc3 (XQ) rfl rfl rfl rfl) ?_
 refine ac ?_
 refine wk [13,12,10,6,4,3,2] rfl ?_
 refine an ?_ ?_<;>intro h1 q1
 exact absurd h1 AB
 refine a2 ?_
 refine co rfl (A8 rfl underlying42 vq) (cm rfl (co rfl (Cb (XO) rfl rfl rfl) ?_))
 refine ac ?_
 refine wk [14,13,12,10,6,4,3,2] rfl ?_
 refine an ?_ ?_<;>intro h2 q2
 exact absurd h2 AB
 refine ac ?_
 refine ao ?_
 refine tp rfl (A8 rfl underlying42 vq) ?_
 refine tp rfl (Is (m:=0) rfl underlying22 DC S9 z3 rfl AB AB ⟨_,rfl,int_eq rfl⟩ ⟨_,rfl,int_eq rfl⟩ AB AB) ?_
 refine tp rfl (Ax (rows:=[(0,[_]),(1,[_]),(2,[_])]) rfl nw Ns ⟨⟨rfl,CX⟩,⟨⟨rfl,CX⟩,⟨⟨rfl,⟨_,rfl,Pr.le_trans (BC 1 _) (AP _)⟩⟩,trivial⟩⟩⟩ rfl) (tp rfl (Bn (aj) rfl rfl) ?_)
 refine Tl rfl rfl rfl rfl bq Ns (fun b2=> ?_)
 refine sf 0 15 ⟨rfl,rfl,rfl⟩ rfl rfl rfl rfl ?_
 refine ao ?_
 refine wk [15,14,12,10,6,4,3] rfl ?_
 refine a2 ?_
 refine co rfl (A8 rfl underlying50 vq) ?_
 refine ac ?_
 refine Tr.block (Tr.C5 ?_)
 refine ac ?_
 refine Tr.seq ?_
 refine Tr.cn rfl ?_ ?_<;>intro h3 q3
 exact absurd h3 AB
 have:=h3
 refine ac ?_
 refine ao ?_
 refine TO.Ap 0 rfl rfl rfl vq CS rfl Ql rfl rfl ?_
 refine ao ?_
 refine wk [11,10] rfl (Tr.ret (Fin.Cj rfl (AR.cell 0 rfl rfl O6 Ql rfl Lr) (AR.tmp rfl Lr) ?_))
 refine BT ⟨?_,?_,trivial⟩
 · exact Lr
 · exact Lr
theorem WC {n:Int}  :Ay prog 57 [int n] (bool (decide (0≤n)&&decide (n≤40000))):=by
 refine fo func57 rfl ⟨rfl,rfl⟩ fun M0 w0=> ?_
 refine ac ?_
 refine ac ?_
 refine Ch.cs 5 rfl ?_ ?_<;>intro h1 q1
 refine ac ?_
 refine ac ?_
 · exact HK
 refine ac ?_
 refine ac ?_
 · exact I6
theorem OZ   :Ay prog 56 [agg (Bs Bq),Ls] (int 0):=by
 refine fo func56 rfl ⟨rfl,rfl⟩ fun M0 w0=> ?_
 · repeat' first|exact absurd h AB|(refine int_eq ?_;simp_all)|exact Lr|refine co rfl (Bn (GV (KI.fits AA)) rfl rfl) ?_|refine co rfl (A8 rfl underlying42 vq) ?_|refine cy h rfl (Ad rfl (aY) ⟨kq,⟨_,rfl,ED _⟩,trivial⟩) ?_|refine cy h rfl (A8 rfl underlying22 vq) ?_|refine cy h rfl (Ad rfl (Uo) ⟨kq,⟨_,rfl,ED _⟩,trivial⟩) ?_|refine cy h rfl (Cb (XN) rfl rfl rfl) ?_|refine ac ?_|(refine Tr.cn rfl ?_ ?_<;>intro h q)|(refine Ch.cg rfl rfl rfl ?_ ?_<;>intro h q)
theorem S4   :Ay prog 58 [agg (Bs Bq),Ls] (D_ [slice 1 [],int 0]):=by
 refine fo func58 rfl ⟨rfl,rfl⟩ fun M0 w0=> ?_
 iterate 4 refine ac ?_
 refine Tr.block (Tr.C5 ?_)
 refine ac ?_
 refine Tr.seq ?_
 refine Tr.cn rfl ?_ ?_<;>intro h1 q1
 exact absurd h1 AB
 have:=h1
 refine a2 ?_
 refine wk [5,4] rfl (Tr.ret (Fin.EJ rfl (Cd.F_ _ _) rfl ?_ rfl ?_))
 · exact AH 1
 · exact Lr
theorem Ur   :Ay prog 30 [agg (Bs Bq),Ls,int 0,int 1] (D_ [slice 1 [],int 0]):=by
 refine fo func30 rfl ⟨rfl,rfl⟩ fun M0 w0=> ?_
 refine ac ?_
 refine ac ?_
 refine co rfl (Cb (OZ) rfl rfl rfl) ?_
 refine ac ?_
 refine ac ?_
 refine Tr.cn rfl ?_ ?_<;>intro h1 q1
 exact absurd h1 AB
 refine ac ?_
 refine ac ?_
 refine co rfl (Bn (WC) rfl rfl) (co rfl (NT rfl vq) (cm rfl ?_))
 refine Ch.cs 20 rfl ?_ ?_<;>intro h2 q2
 exact absurd h2 AB
 refine L5 h2 rfl (cy h2 rfl (Bn (WC) rfl rfl) ?_)
 refine ac ?_
 refine wk [24,5,4] rfl ?_
 refine Tr.cn rfl ?_ ?_<;>intro h3 q3
 exact absurd h3 AB
 refine ac ?_
 refine ac ?_
 refine co rfl (Cb (S4) rfl rfl rfl) ?_
 refine ac ?_
 refine Tr.ret (Fin.EJ rfl (Cd.F_ _ _) rfl ?_ rfl ?_)
 · exact Lr
 · exact Lr
theorem XR   :Ay prog 59 [any,ref [slice 1 []],ref [slice 8 [],slice 2 [],slice 1 []],ref [int 0],ref [int 1],ref (Bs Bq)] (G8):=by
 refine fo func59 rfl ⟨rfl,rfl⟩ fun M0 w0=> ?_
 refine ac ?_
 refine co rfl (A8 rfl underlying90 vq) ?_
 refine ac ?_
 refine Tr.block (Tr.C5 ?_)
 refine ac ?_
 refine Tr.seq ?_
 refine Tr.cn rfl ?_ ?_<;>intro h1 q1
 exact absurd h1 AB
 have:=h1
 refine Tr.exit (Fin.BH (Fin.BH (Fin.Bu (Fin.Yh rfl))))
theorem XS:Entry Tryz.prog 59:=⟨_,Tryz.func59,rfl,rfl⟩
theorem Us   :Ay prog 31 [agg (Bs Bq),Ls,slice 1 [],int 0,int 1] (fn (.func 59) [ref [slice 1 []],ref [slice 8 [],slice 2 [],slice 1 []],ref [int 0],ref [int 1],ref (Bs Bq)]):=by
 refine fo func31 rfl ⟨rfl,rfl⟩ fun M0 w0=> ?_
 refine a3 ?_
 · exact Lr
theorem Ut   :BN prog 12 [agg (Bs Bq),Ls,int 0,int 1] (D_ [aV,int 0]) (BW) (fun _=>BW):=by
 refine BN.ofM func12 rfl rfl Ai fun M0 w0 S rs M1 w1=> ?_
 refine Tr.seq (Tr.BL (tp rfl (BK rfl CS) (tp rfl (BK rfl CS) ?_)))
 refine Tl rfl rfl rfl rfl z38 Ts (fun b1=> ?_)
 refine Tl rfl rfl rfl rfl z39 ue (fun b2=> ?_)
 refine ap ?_
 refine ac ?_
 refine co rfl (kc4 (Ur) rfl rfl rfl rfl rfl) ?_
 refine ac ?_
 refine wk [11,10,9,8,5,4,3,2] rfl ?_
 refine an ?_ ?_<;>intro h1 q1
 exact absurd h1 AB
 refine ac ?_
 refine Tr.seq (Tr.BL ?_)
 refine Tl rfl rfl rfl rfl z38 Ts (fun b3=> ?_)
 refine ap ?_
 refine ac ?_
 refine co rfl (mA (Us) rfl rfl rfl rfl rfl rfl) ?_
 refine ac ?_
 refine wk [31,12,9,8] rfl (Tr.block (wk [12,9,8,31] rfl (Tr.S2 rfl Ai XS (XR) (fun Dk=> ?_))))
 refine ac ?_
 refine Tr.seq (Tr.BL (TO.rd 1 rfl rfl rfl Ai (Cf rfl R3 YR vq rfl rfl) ?_))
 refine ap ?_
 refine Tr.drop 1 (Tr.ret (Fin.ZJ (Fin.gy (Fin.ni [_,_] rfl (AR.cell 1 rfl rfl R3 YR rfl Lr) (AR.iI 0 rfl rfl nv Lr) ?_))))
 refine BT ⟨?_,?_,trivial⟩
 · exact BP ⟨AH 4,trivial⟩
 · exact Lr
theorem XT:Ay Tryz.prog 12 [agg (Bs Bq),Ls,int 0,int 1] (D_ [aV,int 0]):=Ut.pure
theorem Uu   :Ay prog 74 [agg (Bs Bq),Ls,lC,slice 7 [],r_] (D_ [slice 1 [],int 0]):=by
 refine fo func74 rfl ⟨rfl,rfl⟩ fun M0 w0=> ?_
 refine a2 ?_
 refine co rfl (Cb (OZ) rfl rfl rfl) ?_
 refine ac ?_
 refine an ?_ ?_<;>intro h1 q1
 exact absurd h1 AB
 refine a2 ?_
 refine co rfl (Bn (Po) rfl rfl) ?_
 refine ac ?_
 refine wk [34,9,7,6,5,3] rfl ?_
 refine Tr.cn rfl ?_ ?_<;>intro h2 q2
 exact absurd h2 AB
 refine ac ?_
 refine co rfl (Ad rfl (aX) ⟨kq,⟨_,rfl,ED _⟩,trivial⟩) ?_
 refine an ?_ ?_<;>intro h3 q3
 exact absurd h3 AB
 refine a2 ?_
 refine co rfl (Cb (S4) rfl rfl rfl) ?_
 refine ac ?_
 refine wk [14,13,9,7,6,5,3] rfl ?_
 refine an ?_ ?_<;>intro h4 q4
 exact absurd h4 AB
 refine a2 ?_
 refine co rfl (A8 rfl underlying42 vq) ?_
 refine co rfl (Is (m:=0) rfl underlying228 sz4 by4 z4 rfl AB AB ⟨_,rfl,int_eq rfl⟩ ⟨_,rfl,int_eq rfl⟩ AB AB) ?_
 refine ac ?_
 refine wk [15,13,9,7,6,5,3] rfl ?_
 refine ac ?_
 refine co rfl (A8 rfl underlying90 vq) ?_
 refine ac ?_
 refine Tr.block (Tr.C5 ?_)
 refine ac ?_
 refine Tr.seq ?_
 refine Tr.cn rfl ?_ ?_<;>intro h5 q5
 exact absurd h5 AB
 have:=h5
 refine a3 ?_
 refine co rfl (A8 rfl underlying228 ⟨_,rfl,BC 1 _⟩) ?_
 refine ac ?_
 refine wk [124,123,122,25] rfl (Tr.block (Tr.C5 ?_))
 refine ac ?_
 refine Tr.seq ?_
 refine Tr.cn rfl ?_ ?_<;>intro h6 q6
 exact absurd h6 AB
 have:=h6
 refine a2 ?_
 refine Tr.ret (Fin.EJ rfl (Cd.F_ _ _) rfl ?_ rfl ?_)
 · exact AH 1
 · exact Lr
theorem M_ {n:Int}  :Ay prog 71 [int n] (bool (decide (0≤n)&&decide (n≤40000))):=by
 refine fo func71 rfl ⟨rfl,rfl⟩ fun M0 w0=> ?_
 refine ac ?_
 refine ac ?_
 refine Ch.cs 5 rfl ?_ ?_<;>intro h1 q1
 refine ac ?_
 refine ac ?_
 · exact HK
 refine ac ?_
 refine ac ?_
 · exact I6
theorem lU   :Ay prog 72 [slice 2 [],ref (Bs Bq),ref [slice 3 [],slice 1 [],slice 1 []],ref [slice 8 []],ref [int 0],ref [int 1],ref [slice 6 [],slice 2 []],ref [slice 7 []],ref [slice 1 [],int 0]] (D_ [Ls,aV,bool true]):=by
 refine fo func72 rfl ⟨rfl,rfl⟩ fun M0 w0=>(Tr.seq (Tr.BL ?_))
 refine Tl rfl rfl rfl rfl bq Ns (fun b1=> ?_)
 refine Tl rfl rfl rfl rfl z38 Ts (fun b2=> ?_)
 refine ao ?_
 refine ao ?_
 refine tp rfl (mA (lT) rfl rfl rfl rfl rfl rfl) ?_
 refine ao ?_
 refine Tl rfl rfl rfl rfl bq Ns (fun b3=> ?_)
 refine sf 0 13 ⟨rfl,rfl,rfl⟩ rfl rfl rfl rfl ?_
 refine ao ?_
 refine wk [14,13,11,10,8,7,6,5,4,1] rfl ?_
 refine an ?_ ?_<;>intro h1 q1
 exact absurd h1 AB
 refine ac ?_
 refine ao ?_
 refine tp rfl (kc4 (XT) rfl rfl rfl rfl rfl) ?_
 refine ao ?_
 refine Tl rfl rfl rfl rfl z38 Ts (fun b4=> ?_)
 refine sf 0 15 ⟨rfl,rfl,rfl⟩ rfl rfl rfl rfl ?_
 refine ao ?_
 refine wk [15,14,13,11,10,8,7,6,1] rfl ?_
 refine an ?_ ?_<;>intro h2 q2
 exact absurd h2 AB
 refine a2 ?_
 refine co rfl (mA (Uu) rfl rfl rfl rfl rfl rfl) ?_
 refine ac ?_
 refine wk [16,15,14,13,11,10] rfl (Tr.seq (Tr.rx ?_))
 refine ay ?_
 refine Cx.yes rfl rfl rfl rfl rfl AB (fun _=>BU rfl vq) (Cx.yes rfl rfl rfl rfl rfl AB (fun _=>A8 rfl underlying22 vq) (Cx.yes rfl rfl rfl rfl rfl AB (fun _=>ki rfl rfl rfl rfl) ?_))
 refine ay ?_
 refine Cx.nil ⟨by kernel_rfl,?_⟩
 refine BV.done Xd (Fin.go (wk [12,11,10] rfl (Tr.ret (Fin.EO rfl (AR.cell 1 rfl rfl O6 Ql rfl Lr) (AR.cell 0 rfl rfl R3 YR rfl Lr) (AR.tmp rfl Lr) ?_))))
 · repeat' first|exact Lr|refine BT ⟨?_,?_,?_,trivial⟩
theorem fc:Ay Tryz.prog 72 ([slice 2 []]++[ref (Bs Bq),ref [slice 3 [],slice 1 [],slice 1 []],ref [slice 8 []],ref [int 0],ref [int 1],ref [slice 6 [],slice 2 []],ref [slice 7 []],ref [slice 1 [],int 0]]) (D_ [Ls,aV,bool true]):=lU
theorem XU   :Ay prog 34 [agg (Bs Bq),XL,slice 8 [],lC,slice 7 [],r_,int 0,int 1] (D_ [Ls,aV,int 0]):=by
 refine fo func34 rfl ⟨rfl,rfl⟩ fun M0 w0=>(Tr.seq (Tr.BL (tp rfl (BK rfl CS) (tp rfl (BK rfl CS) (tp rfl (BK rfl CX) (tp rfl (BK rfl CS) (tp rfl (BK rfl CX) (tp rfl (BK rfl CS) (tp rfl (BK rfl CX) (tp rfl (BK rfl CX) ?_))))))))))
 refine Tl rfl rfl rfl rfl bq Ns (fun b1=> ?_)
 refine Tl rfl rfl rfl rfl z38 Ts (fun b2=> ?_)
 refine ao ?_
 refine ac ?_
 refine wk [19,17,16,15,14,13,12,11,10,9,8] rfl ?_
 refine ac ?_
 refine co rfl (Bn (GV (KI.fits AA)) rfl rfl) ?_
 refine ac ?_
 refine wk [41,19,17,16,15,14,13,12,11,10,9,8] rfl ?_
 refine Tr.cn rfl ?_ ?_<;>intro h1 q1
 exact absurd h1 AB
 refine ac ?_
 refine ac ?_
 refine co rfl (Cb (Lt) rfl rfl rfl) ?_
 refine ac ?_
 refine wk [20,19,17,16,15,14,13,12,11,10,9,8] rfl ?_
 refine ac ?_
 refine wk [53,20,19,17,16,15,14,13,12,11,10,9,8] rfl ?_
 refine Tr.cn rfl ?_ ?_<;>intro h2 q2
 exact absurd h2 AB
 refine ac ?_
 refine ac ?_
 refine co rfl (Cb (aZ) rfl rfl rfl) ?_
 refine ac ?_
 refine wk [22,19,17,16,15,14,13,12,11,10,9,8] rfl ?_
 refine ac ?_
 refine wk [67,22,19,17,16,15,14,13,12,11,10,9,8] rfl ?_
 refine Tr.cn rfl ?_ ?_<;>intro h3 q3
 exact absurd h3 AB
 refine ac ?_
 refine ac ?_
 refine co rfl (Bn (Po) rfl rfl) ?_
 refine ac ?_
 refine wk [74,19,17,16,15,14,13,12,11,10,9,8] rfl ?_
 refine Tr.cn rfl ?_ ?_<;>intro h4 q4
 exact absurd h4 AB
 refine ac ?_
 refine co rfl (Ad rfl (aX) ⟨kq,⟨_,rfl,ED _⟩,trivial⟩) ?_
 refine ac ?_
 refine wk [83,19,17,16,15,14,13,12,11,10,9,8] rfl ?_
 refine Tr.cn rfl ?_ ?_<;>intro h5 q5
 exact absurd h5 AB
 refine ac ?_
 refine co rfl (Bn (M_) rfl rfl) (co rfl (NT rfl vq) (cm rfl ?_))
 refine Ch.cs 95 rfl ?_ ?_<;>intro h6 q6
 exact absurd h6 AB
 refine cy h6 rfl (GX rfl C1 rfl) (cy h6 rfl (Bn (M_) rfl rfl) ?_)
 refine ac ?_
 refine wk [91,19,17,16,15,14,13,12,11,10,9,8] rfl ?_
 refine Tr.cn rfl ?_ ?_<;>intro h7 q7
 exact absurd h7 AB
 refine ac ?_
 refine ac ?_
 refine wk [23,19,17,16,15,14,10,8] rfl ?_
 refine ac ?_
 refine co rfl (Cb (lQ) rfl rfl rfl) ?_
 refine ac ?_
 refine wk [24,23,19,17,16,15,14,10,8] rfl ?_
 refine ao ?_
 refine tp rfl (Yr rfl vq (fc) kz) ?_
 refine ao ?_
 refine Tl rfl rfl rfl rfl bq Ns (fun b3=> ?_)
 refine Tl rfl rfl rfl rfl z38 Ts (fun b4=> ?_)
 refine sf 1 26 ⟨rfl,rfl,rfl⟩ rfl rfl rfl rfl ?_
 refine sf 0 27 ⟨rfl,rfl,rfl⟩ rfl rfl rfl rfl ?_
 refine ao ?_
 refine wk [28,27,26,23,19,17,16,15,14,10,8] rfl ?_
 refine ac ?_
 refine Tr.cn rfl ?_ ?_<;>intro h8 q8
 refine Tr.seq (Tr.rx ?_)
 refine ay ?_
 refine Cx.nil ⟨by kernel_rfl,?_⟩
 refine BV.done Xd (Fin.go (wk [18,17,16] rfl (Tr.ret (Fin.AL (Fin.EO rfl (AR.cell 1 rfl rfl O6 Ql rfl Lr) (AR.cell 0 rfl rfl R3 YR rfl Lr) (AR.tmp rfl Lr) ?_)))))
 refine BT ⟨?_,?_,?_,trivial⟩
 · exact Lr
 · exact Lr
 · exact Lr
 exact absurd h8 AB
theorem XV   :Ay prog 78 [agg (Bs Bq),slice 8 [],slice 1 [],int 0,int 1] (bool true):=by
 refine fo func78 rfl ⟨rfl,rfl⟩ fun M0 w0=> ?_
 refine ac ?_
 refine ao ?_
 refine tp rfl (kc3 (Lq (l:=[]) (s:=[]) KI AA (fun c h=>by cases h)) rfl rfl rfl rfl) ?_
 refine ao ?_
 refine Tl rfl rfl rfl rfl z32 F5 (fun b1=> ?_)
 refine sf 0 11 ⟨rfl,rfl,rfl⟩ rfl rfl rfl rfl ?_
 refine ao ?_
 refine ac ?_
 refine wk [24,11,4,3] rfl ?_
 refine Tr.cn rfl ?_ ?_<;>intro h1 q1
 exact absurd h1 AB
 refine a2 ?_
 refine Tr.block (Tr.C5 ?_)
 refine ac ?_
 refine Tr.seq ?_
 refine Tr.cn rfl ?_ ?_<;>intro h2 q2
 exact absurd h2 AB
 have:=h2
 refine a3 ?_
 · exact Lr
theorem XW   :Ay prog 36 [agg (Bs Bq),slice 8 [],slice 1 [],int 0,int 1] (D_ [bool true,int 0]):=by
 refine fo func36 rfl ⟨rfl,rfl⟩ fun M0 w0=> ?_
 refine ac ?_
 refine ac ?_
 refine co rfl (Bn (GV (KI.fits AA)) rfl rfl) ?_
 refine ac ?_
 refine Tr.cn rfl ?_ ?_<;>intro h1 q1
 exact absurd h1 AB
 refine ac ?_
 refine co rfl (A8 rfl underlying42 vq) ?_
 refine ac ?_
 refine Tr.cn rfl ?_ ?_<;>intro h2 q2
 exact absurd h2 AB
 refine ac ?_
 refine ac ?_
 refine co rfl (A8 rfl underlying42 vq) (cm rfl (co rfl (Ad rfl (Uq) ⟨kq,⟨_,rfl,AH _⟩,kz⟩) ?_))
 refine ac ?_
 refine wk [13,5,4,3,2,1] rfl ?_
 refine ac ?_
 refine Tr.cn rfl ?_ ?_<;>intro h3 q3
 exact absurd h3 AB
 refine ac ?_
 refine ac ?_
 refine co rfl (Bn (M_) rfl rfl) (co rfl (NT rfl vq) (cm rfl ?_))
 refine Ch.cs 34 rfl ?_ ?_<;>intro h4 q4
 refine cnf h4 rfl (cnf h4 rfl (cnf h4 rfl (co rfl (WI rfl rfl h4 rfl) (Ch.nil (Fin.go (wk6 1 2 3 4 5 38 rfl (Tr.cond rfl (fun _=> ?_) (fun h=>nomatch h))))))))
 refine Tr.seq (Tr.CL (cm rfl (cm rfl (Ch.nil (Fin.go (Tr.ret (Fin.AL (Fin.EJ rfl (Cd.F_ _ _) rfl ?_ rfl ?_))))))))
 · exact HK
 · exact F0
 refine L5 h4 rfl (cy h4 rfl (Bn (M_) rfl rfl) ?_)
 refine ac ?_
 refine wk [38,5,4,3,2,1] rfl ?_
 refine Tr.cn rfl ?_ ?_<;>intro h5 q5
 exact absurd h5 AB
 refine ac ?_
 refine ac ?_
 refine co rfl (mA (XV) rfl rfl rfl rfl rfl rfl) ?_
 refine ac ?_
 refine wk [11,10] rfl (Tr.ret (Fin.EJ rfl (Cd.F_ _ _) rfl ?_ rfl ?_))
 · exact Lr
 · exact Lr
theorem ak {rows:List (List Pr)} (hr:10<rows.length):Ay prog 35 [agg (Bs Bq),slice 8 rows,int 0,int 1] (D_ [slice 1 [],int 3]):=by
 refine fo func35 rfl ⟨rfl,rfl⟩ fun M0 w0=> ?_
 refine a2 ?_
 refine co rfl (Bn (GV (KI.fits AA)) rfl rfl) ?_
 refine an ?_ ?_<;>intro h1 q1
 exact absurd h1 AB
 refine ac ?_
 refine co rfl (A8 rfl underlying42 vq) ?_
 refine ac ?_
 refine wk [17,7,6,5,4] rfl ?_
 refine Tr.cn rfl ?_ ?_<;>intro h2 q2
 refine ac ?_
 refine Tr.ret (Fin.Bb (Fin.AL (Fin.EJ rfl (Cd.F_ _ _) rfl ?_ rfl ?_)))
 · exact AH 1
 · exact Lr
 exfalso;have:=q2;omega
theorem Uv   :Ay prog 15 [] (bool true):=by
 refine fo func15 rfl ⟨rfl,rfl⟩ fun M0 w0=> ?_
 refine ac ?_
 refine ao ?_
 refine tp rfl (Ad rfl (XU) ⟨⟨_,rfl,BP ⟨AH 9,AH 2,AH 5,trivial⟩⟩,⟨_,rfl,BP ⟨AH 3,AH 1,AH 1,trivial⟩⟩,⟨_,rfl,AH _⟩,⟨_,rfl,BP ⟨AH 6,AH 2,trivial⟩⟩,⟨_,rfl,AH _⟩,⟨_,rfl,BP ⟨AH 1,Lr,trivial⟩⟩,kz⟩) ?_
 refine ao ?_
 refine Tl rfl rfl rfl rfl bq Ns (fun b1=> ?_)
 refine Tl rfl rfl rfl rfl z38 Ts (fun b2=> ?_)
 refine sf 1 1 ⟨rfl,rfl,rfl⟩ rfl rfl rfl rfl ?_
 refine sf 0 2 ⟨rfl,rfl,rfl⟩ rfl rfl rfl rfl ?_
 refine ao ?_
 · repeat' first|exact Lr|exact absurd h AB|refine co rfl (Is (m:=11) rfl underlying42 B0 Tt K8 rfl AB AB ⟨_,rfl,int_eq rfl⟩ ⟨_,rfl,int_eq rfl⟩ AB AB) ?_|refine co rfl (Ad rfl (ak (rows:=List.replicate 11 (([.int .i64 0,.int .i64 0,.int .i64 0,.int .i64 0,.int .i64 0,.int .i64 0,.int .i64 0,.slice none 0 0]:List Value).map is)) AB) ⟨⟨_,rfl,BP ⟨AH 9,AH 2,AH 5,trivial⟩⟩,⟨_,rfl,BC 8 _⟩,kz⟩) ?_|refine co rfl (Ad rfl (XW) ⟨⟨_,rfl,BP ⟨AH 9,AH 2,AH 5,trivial⟩⟩,⟨_,rfl,AH _⟩,⟨_,rfl,AH _⟩,kz⟩) ?_|refine cy h rfl (A8 rfl underlying42 vq) ?_|refine cy h rfl (A8 rfl underlying36 vq) ?_|refine ac ?_|(refine Ch.cg rfl rfl rfl ?_ ?_<;>intro h q)
end Go.Proofs.YtoodkpodinniaaaGreatDoor
namespace Go.Proofs.YtoodkpodinniaaaGreatDoor
open Go Go.RowKit Cp Go.ChangeShapes Go.WideShapes Go.ChangeAt Go.Proofs.Tryz
variable {k n:Nat} {P:Program}
theorem XX (hn:n≤1000):Ay prog 18 [int ((n:Nat):Int)] (ints (GW n)):=by
 refine Ay.of func18 rfl rfl Ai fun M0 w0=> ?_
 refine Tr.seq (Tr.CL (cm rfl (Ch.nil (Fin.go (Tr.seq (Tr.CL (cm rfl (Ch.nil (Fin.go (Tr.seq (Tr.seq (Tr.CL (cm rfl ?_)))))))))))))
 refine cm rfl (Ch.nil (Fin.go (Tr.block (Tr.Eg 3 1 (Tr.GG [(5,_)] ⟨ke rfl,trivial⟩ (fun k u=>[(6,int ((k:Nat):Int)),(3,Ao u (ints (GW k)))]) (fun k u=>Hp M0 w0 Lw ([Bi 3 1 u])) (fun k:Nat=>k≤(n)) (fun k:Nat=>(n)-k) 0 (.slice none 0 0) (Nat.zero_le _) ⟨ke rfl,⟨_,rfl,Du rfl⟩,trivial⟩ (fun _ _ h=>h) ?_)))))
 rintro k u Be
 refine Tr.seq (Tr.CL (co rfl (ki rfl rfl rfl rfl) (Ch.nil (Fin.go (Tr.seq ?_)))))
 refine Tr.cn rfl ?_ ?_<;>intro h1 q1
 have Ae:k<(n):=AV h1
 refine Tr.skip (Fin.go (Tr.seq (Tr.block (Tr.seq (Tr.CL (cm rfl (cm rfl (Ch.nil (Fin.go (Tr.BL (tm rfl (tm rfl (tp rfl (Ah (xs:=[.tmp 10]) (rows:=[[_]]) rfl rfl underlying50 DC z3 rfl AB ⟨⟨Aq,(Vo rfl)⟩,trivial⟩ AB) ?_)))))))))))))
 refine TO.Fw 0 rfl rfl AB (Dy rfl rfl rfl rfl underlying50 DC S9 z3 (Kb rfl) (Kf rfl) (CY Bt (Ka rfl))) (fun v1=> ?_)
 refine tm rfl (TO.nil (Fin.block (Fin.go (Tr.CL (lp rfl rfl rfl rfl AA (cm rfl (Ch.nil ?_)))))))
 exact Fin.Ic (k+1) v1 (⟨Ae,by omega⟩) ⟨⟨_,rfl,AO k⟩,⟨_,rfl,D3 (by rw [Pn,List.map_append];rfl)⟩,ke rfl,trivial⟩ (fun _ _ h=>h)
 have BM:k=(n):=by have:=AW h1;omega
 subst BM
 refine Tr.exit (Fin.BH (Fin.BH (Fin.Bu (Fin.go (Tr.seq (Tr.CL (cm rfl (cm rfl (Ch.nil (Fin.go (Tr.ret (Fin.bN rfl (Cd.F_ _ _) rfl ?_))))))))))))
 · exact BF _ _
structure EA.xF (e:EA):Prop where
 le_:e.Aw.length≤1000000000000
 lg_:e.BI.length≤1000000000000
 li_:e.items.length≤1000000000000
 lk_:∀x∈e.items,x.links.length≤1000000000000
theorem ff {e:EA} (h:e.sz n):e.xF:=⟨by have:=h.le;omega,by have:=h.lg;omega,by have:=h.li;omega,fun x hx=>by have:=(h.items x hx).2;omega⟩
theorem aq {e:EA} {c:BA} {e2:EA} {f:Int} (h:KF e c=(e2,f)) (hz:e.sz n) (hn:n≤800000) (hi:c.Bj.fits∧c.Bj.small):Ay Tryz.prog 20 [agg (Bs e),agg (A9 c)] (D_ [agg (Bs e2),int f]):=by
 have:=Uf (e:=e) (c:=c) hz hn hi;rw [h] at this;exact this
theorem au {e:EA} {l:List BA} {s:List Int} {e2:EA} {f:Int} (h:HE e l s=(e2,f)) (hz:e.sz n) (hn:n≤800000) (hc:∀c∈l,c.Bj.fits∧c.Bj.small):Ay Tryz.prog 17 [agg (Bs e),slice 8 (l.map A9),ints s] (D_ [agg (Bs e2),int f]):=by
 have:=Ug (e:=e) (l:=l) (s:=s) hz hn hc;rw [h] at this;exact this
theorem lV {e:EA} {l:List BA} {b:List BA} {f:Int} (h:Un e l=(b,f)) (hz:e.sz n) (hn:n≤700000) (hc:∀c∈l,c.Bj.fits∧c.Bj.small) (hv:El e=true) (NN:l.length≤24):Ay Tryz.prog 19 [agg (Bs e),slice 8 (l.map A9)] (D_ [slice 8 (b.map A9),int f]):=by
 have:=fV (e:=e) (l:=l) hz hn hc hv NN;rw [h] at this;exact this
theorem fm {e:EA} {l:List BA} {c:BA} (hz:e.sz n) (hv:El e=true) (ha:∀(j:Nat) c,l[j]? =some c→(EV (Fo l e.Aw j) c).2=0) (hi:∀c∈l,c.Bj.fits∧c.Bj.small) (hk:(K3 l e.Aw l.length).reverse[k]? =some c):
  k<l.length∧KF ⟨Fo l e.Aw (l.length-k),e.BI,e.items⟩ c=(⟨Fo l e.Aw (l.length-(k+1)),e.BI,e.items⟩,0)∧c.Bj.fits∧c.Bj.small:=by
 have hl:=Gj (l:=l) (Aw:=e.Aw) l.length (Nat.le_refl _)
 have hlt:=Ar hk
 rw [List.length_reverse,hl] at hlt
 rw [List.getElem?_reverse AA,hl] at hk
 obtain ⟨d,hd⟩:=at_ (l:=l) (k:=l.length-1-k) AA
 have hd':=hd
 rw [aQ hd _ AA (Nat.le_refl _)] at hk
 cases hk
 obtain ⟨x,b,g1,g2,g3,g4⟩:=iH (ha _ _ hd)
 have h1:=k7 hv ha hd
 rw [show l.length-1-k+1=l.length-k by omega] at h1
 rw [show l.length-(k+1)=l.length-1-k by omega]
 refine ⟨hlt,h1,?_⟩
 rw [g4]
 exact (V0 g3 ((Rb hz hi (k:=l.length-1-k) AA).Aw x (List.mem_of_getElem? g2)) (hi d (List.mem_of_getElem? hd))).2
theorem K5 {t:List Int}  :Ay prog 4 [ints t] (bool true):=by
 refine fo func4 rfl ⟨rfl,rfl⟩ fun M0 w0=> ?_
 refine ac ?_
 refine ac ?_
 refine co rfl (Bn (dQ) rfl rfl) ?_
 refine ac ?_
 refine Tr.cn rfl ?_ ?_<;>intro h1 q1
 refine Tr.seq (Tr.CL (co rfl (Qx (Uv) rfl) ?_))
 refine ac ?_
 refine ac ?_
 · exact Lr
 have ht4:t.length≤400:=by simpa using h1
 have ht9:t.length≤1000000000:=by omega
 refine ac ?_
 refine ao ?_
 refine TO.pad ?_
 refine TO.Fw 0 rfl rfl AB (E2 rfl rfl AB rfl (jo (l:=t) ht9) kz) (fun v1=> ?_)
 refine TO.VR 19 0 _ rfl rfl (fun _=>rfl) (fun b1=> ?_)
 refine ao ?_
 refine ao ?_
 refine TO.Kg 0 rfl rfl AB (An rfl rfl AB rfl (aN) kz) ?_
 refine TO.ex 21 rfl (fun z1=>TO.fact 21 rfl fun JD=> ?_)
 have hez:=JD.sz
 have hok:=JD.ok
 have hn2:=JD.n2
 have hn3:=JD.n3
 refine Tl rfl rfl rfl rfl z32 F5 (fun b2=> ?_)
 refine sf 0 4 ⟨rfl,rfl,rfl⟩ rfl rfl rfl rfl ?_
 refine TO.nil (Fin.VQ 0 rfl (fun s1=> ?_))
 refine Fin.go ?_
 refine ao ?_
 refine TO.Kg 0 rfl rfl AB (An rfl rfl AB rfl (fS JD.snd ⟨by omega,by omega⟩) ⟨kq,kz⟩) ?_
 refine TO.ex 24 rfl (fun z2=>TO.fact 24 rfl fun YA=> ?_)
 have Od:∀c∈z2,c.Bj.fits∧c.Bj.small:=fun c hc=>⟨(YA.any c hc).fits,(YA.any c hc).small⟩
 have hl7:=YA.len
 obtain ⟨x,f,hS⟩:∃x f,HE z1 z2 (GW z2.length)=(x,f):=⟨_,_,rfl⟩
 obtain ⟨bk,g,hR⟩:∃bk g,Un z1 z2=(bk,g):=⟨_,_,rfl⟩
 have nA:=hR
 unfold Un at nA
 rw [hS] at nA
 refine tm rfl (TO.nil (Fin.VQ 0 rfl (fun s2=> ?_)))
 refine Fin.go (wk2 4 5 rfl (Tr.seq (Tr.drop 0 (Tr.pad (Tr.rx ?_)))))
 refine ax ?_
 refine xo rfl (fun _=>Bn (XX (n:=z2.length) AA) rfl rfl) ?_
 refine xo rfl (fun _=>kc3 (au hS hez AA Od) rfl rfl rfl rfl) ?_
 refine ax ?_
 refine Cx.ef 0 rfl rfl AB (Em rfl rfl AB rfl z32 F5) (Cx.D7 0 rfl rfl (En rfl rfl rfl rfl CS DL rfl rfl) (xm rfl ?_))
 refine Cx.nil ⟨by kernel_rfl,?_⟩
 refine BV.open_ 0 6 rfl rfl (fun v2=> ?_)
 refine BV.done al1 (Fin.VR 6 0 _ rfl rfl (fun _=>rfl) (fun b3=> ?_))
 refine Fin.go (wk [7,6,5,4] rfl ?_)
 refine ac ?_
 refine co rfl (Cb (lV hR hez AA Od hok AA) rfl rfl rfl) ?_
 refine ac ?_
 refine ac ?_
 refine wk [41,9,8,7,6,5,4] rfl ?_
 refine Tr.cn rfl ?_ ?_<;>intro h2 q2
 have hf0:¬f=0:=by have:=q2;omega
 rw [if_neg hf0] at nA
 obtain ⟨hbk,hgf⟩:[]=bk∧f=g:=by simpa using nA
 subst hbk hgf
 refine ac ?_
 refine Ch.cs 45 rfl ?_ ?_<;>intro h3 q3
 refine ac ?_
 refine Ch.cs 50 rfl ?_ ?_<;>intro h4 q4
 refine cy h4 rfl (Qx (Uv) rfl) ?_
 refine ac ?_
 refine Tr.drop 0 (wk [2] rfl ?_)
 refine ac ?_
 · exact Lr
 exfalso;simp_all
 exfalso;simp_all
 obtain rfl:f=0:=by have:=q2;omega
 rw [if_pos rfl] at nA
 obtain ⟨hbk,hgf⟩:(K3 z2 z1.Aw z2.length).reverse=bk∧0=g:=by simpa using nA
 subst hgf
 obtain ⟨ha,hst⟩:=iF hok AA (show (HE z1 z2 (GW z2.length)).2=0 by rw [hS])
 rw [hS] at hst
 obtain rfl:x=⟨Fo z2 z1.Aw z2.length,z1.BI,z1.items⟩:=(Prod.mk.inj hst).1
 have lu:bk.length=z2.length:=by rw [←hbk,List.length_reverse];exact Gj _ (Nat.le_refl _)
 refine ac ?_
 refine ac ?_
 refine Tr.block (Tr.Nl _ (kk [54,53,9,8,6,5,4] rfl) (fun (k:Nat)=>[(55,int ((k:Nat):Int))]) (fun (k:Nat)=>Hp M0 w0 Lw ([AE true b3 32 (Bs ⟨Fo z2 z1.Aw (z2.length-k),z1.BI,z1.items⟩)])) (fun (k:Nat)=>k≤bk.length) (fun (k:Nat)=>bk.length-k) (0)  (Nat.zero_le _) kz (fun _ _ h=>h) ?_)
 rintro k  hk1
 refine ac ?_
 refine Tr.seq ?_
 refine Tr.cn rfl ?_ ?_<;>intro h5 q5
 have hkb:k<bk.length:=AV h5
 obtain ⟨c,Af⟩:=at_ hkb
 obtain ⟨hkz,hap,Ud⟩:=fm hez hok ha Od (by rw [hbk];exact Af)
 have hfz:=Rb hez Od (k:=z2.length-k) AA
 refine ac ?_
 refine Tr.seq (Tr.block (Tr.seq (Tr.BL (tp rfl (AD rfl underlying42 B0 vq vq AA (Ak Af)) (tp rfl (AX rfl CI B0 vq rfl rfl) ?_)))))
 refine Tl rfl rfl rfl rfl K8 F6 (fun b4=> ?_)
 refine sf 0 11 ⟨rfl,rfl,rfl⟩ rfl rfl rfl rfl ?_
 refine ao ?_
 refine wk [55,54,53,11,9,8,6,5,4] rfl ?_
 refine ao ?_
 refine tp rfl (Cb (aq hap hfz AA Ud) rfl rfl rfl) ?_
 refine ao ?_
 refine Tl rfl rfl rfl rfl z32 F5 (fun b5=> ?_)
 refine sf 0 12 ⟨rfl,rfl,rfl⟩ rfl rfl rfl rfl ?_
 refine ao ?_
 refine wk [55,54,53,13,12,9,8,6,5,4] rfl ?_
 refine ac ?_
 refine Tr.cn rfl ?_ ?_<;>intro h6 q6
 exact absurd h6 AB
 refine ac ?_
 refine ao ?_
 refine TO.Ap 0 rfl rfl rfl vq CS rfl DL rfl rfl ?_
 refine ao ?_
 refine ac ?_
 exact Fin.Qg (k+1)  (⟨by omega,by omega⟩) ⟨⟨_,rfl,AO k⟩,kz⟩ (fun _ _ h=>h)
 have BM:k=z2.length:=by have:=AW h5;omega
 subst BM
 rw [Nat.sub_self]
 have hxb:=ff hez
 refine ac ?_
 refine Tr.seq (Tr.CL (cm rfl (co rfl gG (cm rfl ?_))))
 refine Ch.cs 71 rfl ?_ ?_<;>intro h7 q7
 refine L5 h7 rfl (cy h7 rfl (F3 rfl underlying42 (vl rfl)) (L5 h7 rfl (cy h7 rfl (F3 rfl underlying42 (vl rfl)) (cy h7 rfl (ki rfl rfl rfl rfl) (co rfl (WI rfl rfl h7 rfl) (cm rfl ?_))))))
 refine Ch.cs 78 rfl ?_ ?_<;>intro h8 q8
 refine ac ?_
 refine cy h8 rfl (Cb (XE (a:=z1) (b:=z1) hxb.le_ hxb.lg_ hxb.li_ hxb.lk_) rfl rfl rfl) ?_
 refine ac ?_
 refine Ch.cs 83 rfl ?_ ?_<;>intro h9 q9
 refine cy h9 rfl (Qx (Uv) rfl) ?_
 refine ac ?_
 refine wk [2] rfl ?_
 refine ac ?_
 · exact Lr
 exfalso;simp_all
 exfalso;simp_all
 exfalso;simp_all
theorem av (os : Os) (args : Array Value) : laidMetH Tryz.prog [("math/bits.deBruijn32tab", Rows.laid_math_bits_deBruijn32tab)] ((World.doorLaid Tryz.prog 14 os).forCall (fun _ _ => 0) ⟨#[], args, []⟩).memory :=
 laidMetH_of_parts3 (fuel:=33) (laidMet_of_run' 33 BD BD) BD BD
theorem H6 (os:Os) (started:os.Started) (H:Type) (enc:TypeId×Value→H):
  ReturnsInHanded {} Tryz.checked os 4 .any (fun w args => (Rows.plannerReversesSpec.pre enc Tryz.prog Tryz.f4 [] false w args ∧ laidMetH Tryz.prog [("math/bits.deBruijn32tab", Rows.laid_math_bits_deBruijn32tab)] w) ∧ sizedMet enc Tryz.prog Tryz.f4 (OpenSpec.ofChange Rows.plannerReversesSpec) false w args) (Rows.plannerReversesSpec.post enc Tryz.prog Tryz.f4 false true false false) := by
 refine returnsInHanded_of_change_and (C := Tryz.checked) (X := fun w _ => laidMetH Tryz.prog [("math/bits.deBruijn32tab", Rows.laid_math_bits_deBruijn32tab)] w) (fun _ _ _ hh h => h.of_heap hh) wK started BD Tryz.func4
  (ChangeSpec.witness_shaped (enc := enc) (C := Tryz.checked) (os := os) (X := fun w _ => laidMetH Tryz.prog [("math/bits.deBruijn32tab", Rows.laid_math_bits_deBruijn32tab)] w) false (World.doorLaid Tryz.prog 14 os) #[.slice none 0 0] 8 rfl (World.shaped_of_RefB BD BD) BD BD BD (av os _)) ?_
 intro W base args ds gs before sA hW yJ _ _ _
 have hval:∀(j:Nat) t v,Tryz.f4.params[j]? =some t→args[j]? =some v→Value.okWide Tryz.prog W .any base t v:=sA
 have hW':=hW
 obtain ⟨p,q,hA0,hV,hpq,hfz,hnd⟩:=hW
 have hA:DataW.TrodAll enc Tryz.prog W 0 (fun _=>true) true Tryz.f4.params.toList args.toList ds p:=hA0
 have Xb:=hA
 rw [Tryz.params4] at hA hval
 obtain ⟨v0,d0,rfl,rfl,h0⟩:=trodAll_one Xb
 obtain ⟨rfl,rfl⟩:=trodVars_none hV
 obtain ⟨a0,_,e0⟩:=bg (T3 Tryz.underlying22 Tryz.underlying3 BD) h0 (by obtain ⟨_,_,_,rfl⟩:=okWide_slice Tryz.underlying22 (hval 0 22 v0 rfl rfl);rfl)
 refine ((K5).2 ng W [v0] (iW W) ⟨e0,trivial⟩).mono fun e W' ⟨v,he,hv,hb⟩=> ?_
 subst he
 obtain rfl:v= .bool true:=hv
 exact ⟨_,rfl,YM Y7 BD rfl Tryz.underlying4 rfl Xb (by rw [hpq];simp) hW' rfl hb⟩
theorem H7:(Rows.plannerReversesRow.inPlace==Tryz.pinned.checked.prog.inPlace 4)=true:=by kernel_rfl
theorem H8:(Rows.plannerReversesRow.unfollowed==Tryz.pinned.checked.prog.unfollowed 4)=true:=by kernel_rfl
theorem H9:(Rows.plannerReversesRow.recurses==Tryz.pinned.checked.prog.recurses 4)=true:=by kernel_rfl
theorem H_:(Rows.plannerReversesRow.named==Tryz.pinned.checked.prog.varsNamed 4)=true:=by kernel_rfl
theorem IL:joinedFacts Tryz.pinned.checked.prog 4 Tryz.f4 Rows.plannerReversesSpec Rows.plannerReversesRow=true:=by
 unfold joinedFacts
 rw [H7,H8,H9,H_]
 kernel_rfl
theorem plannerReverses_holds:Rows.PlannerReversesSaid:=
 OpenClaim.holds_of_wide 4 Tryz.f4 rfl rfl rfl rfl rfl rfl rfl ⟨rfl, rfl, rfl, rfl, rfl⟩ rfl rfl rfl rfl rfl BD Tryz.func4 IL
  (of_decide_eq_true BD) (by unfold Func.isWrapper;first|(rw [if_pos (by decide+kernel)];kernel_rfl)|(rw [if_neg (by decide+kernel)];exact ⟨rfl,rfl⟩))
  (fun os started H enc _=>H6 os started H enc)
theorem KJ:Rows.plannerReversesRow.wfByText (OpenSpec.ofChange Rows.plannerReversesSpec)=true:=by kernel_rfl
theorem KK:Tryz.pinned.checked.prog.mainIs=some (Rows.plannerReversesCard.stood.harness.1,Rows.plannerReversesCard.stood.harness.2.toList):=by kernel_rfl
theorem KL : Tryz.prog.funcNamed "cipherplan/cipherplanlaw33.PlannerReverses" = some 4 := by kernel_rfl
theorem KM:false=Tryz.pinned.checked.prog.looks []:=by kernel_rfl
theorem az {l:List FuncId} (h:P.funcs.toList.any Func.goes=false):(l.any fun g=>(P.funcs[g]?).any Func.goes)=false:=by
 rw [List.any_eq_false] at h ⊢
 intro g _ hg
 cases hx:P.funcs[g]? with
 |none=>rw [hx] at hg;exact absurd hg AB
 |some fn=>rw [hx] at hg;exact h fn (Array.mem_toList_iff.2 (Array.mem_of_getElem? hx)) hg
theorem S5 (h:P.funcs.toList.any Func.goes=false) (f:FuncId):P.goes f=false:=by
 unfold Program.goes
 rw [az h,←Array.any_toList,h,Bool.and_false];rfl
theorem fq {c:OpenClaim} (h:P.funcs.toList.any Func.goes=false):false=c.goesBy P:=by
 symm
 unfold OpenClaim.goesBy Program.goesAt Program.goesFrom
 have h1:∀o:Option FuncId,o.any P.goes=false:=fun o=>by cases o with|none=>rfl|some f=>exact S5 h f
 rw [h1,Bool.false_or]
 split
 · rfl
 · rw [List.any_eq_false];intro f _ hf;rw [S5 h] at hf;cases hf
theorem KO:false=Rows.plannerReversesRow.goesBy Tryz.pinned.checked.prog:=fq BD
theorem KP:([22].all fun u=> !Tryz.prog.wantsStandIn u)=true:=by kernel_rfl
theorem plannerReverses_card_holds:Rows.PlannerReversesCardSaid:=
 Claim7.holds_tied_plain_at .later [] [.data] true Rows.plannerReversesCard.stood.harness false plannerReverses_holds (fun _ h => by cases h) KJ (fun _ h => by cases h) plannerReverses_row_tie rfl ⟨rfl, rfl⟩ KK rfl
  (fun f fn hf hfn=>by
   obtain rfl:f=4:=Option.some.inj (KL.symm.trans hf)|>.symm
   obtain rfl:fn=Tryz.f4:=(Option.some.inj (Tryz.func4.symm.trans hfn)).symm
   exact ⟨KM,fun j t ht=>by
    rw [Tryz.params4] at ht
    have hm:t∈[22]:=by simpa using Array.mem_of_getElem? ht
    exact (show Tryz.prog.wantsStandIn t=false by simpa using List.all_eq_true.1 KP t hm)⟩)
  KO
end Go.Proofs.YtoodkpodinniaaaGreatDoor
