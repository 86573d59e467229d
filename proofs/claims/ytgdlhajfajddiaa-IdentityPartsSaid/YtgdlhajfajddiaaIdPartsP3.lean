/-
  Part 3 of the texts that prove this claim, merged.
-/
import Derived.Laws.IdiomRangeMap
import Derived.Test.YtgdlhajfajddiaaIdPartsP2
set_option linter.all false
namespace Go.Proofs.Ytgdlhajfajddiaa
open Go Go.RowKit Cp

/-- A finding. -/
structure Fnd where
  src : Int
  host : List UInt8
  machine : Int
  day : Int
  conf : Int
  kind : Int
  subj : List UInt8
  alg : Int
  bits : Int
  num : Int
  text : List UInt8
abbrev rowF (f : Fnd) : List Pr := [int f.src, str f.host, int f.machine, int f.day, int f.conf, int f.kind, str f.subj, int f.alg, int f.bits, int f.num, str f.text]
abbrev fnds (l : List Fnd) : Pr := slice 11 (l.map rowF)
/-- Its texts are of some length. -/
structure Fnd.fits (f : Fnd) : Prop where
  host : f.host.length ≤ maxLen
  subj : f.subj.length ≤ maxLen
  text : f.text.length ≤ maxLen
def bareF (f : Fnd) : Bool := decide (f.alg = 0 ∧ f.bits = 0) && decide (f.text = [])
def contentF (f : Fnd) : Bool :=
  if f.kind = 1 ∨ f.kind = 8 then decide (strength f.alg f.bits > 0) && decide (f.num = 0) && decide (f.text = [])
  else if f.kind = 2 then bareF f && decide (0 ≤ f.num) && decide (f.num ≤ 65535)
  else if f.kind = 3 then decide (strength f.alg f.bits > 0) && (catOf f.alg).kind == 2 && decide (0 ≤ f.num) && decide (f.num ≤ 2147483648) && decide (f.text = [])
  else if f.kind = 4 ∨ f.kind = 5 then bareF f && decide (1 ≤ f.num) && decide (f.num ≤ 4)
  else if f.kind = 6 then bareF f && decide (0 ≤ f.num) && decide (f.num ≤ 2147483648)
  else if f.kind = 7 then decide (f.alg = 0 ∧ f.bits = 0) && decide (f.num = 0) && named f.text
  else false
def whereF (f : Fnd) : Bool := named f.host && named f.subj && decide (0 ≤ f.machine) && decide (f.machine ≤ 1099511627776)
def whenF (f : Fnd) : Bool := decide (0 ≤ f.day) && decide (f.day ≤ 40000) && decide (1 ≤ f.conf) && decide (f.conf ≤ 100)
def checkF (f : Fnd) : Bool := whereF f && whenF f && decide (1 ≤ f.src) && decide (f.src ≤ 7) && contentF f

set_option maxRecDepth 20000 in
theorem w_content {f : Fnd} (hf : f.fits) : Fun Try.prog 58 [agg (rowF f)] (bool (contentF f)) := by
 refine Fun.of Try.func58 rfl rfl (by exact Nat.le_of_ble_eq_true rfl) fun M0 w0 => ?_
 refine Tr.seq (Tr.reg0 ?_)
 refine Ch.oo rfl rfl rfl (ok_box rfl (VL.le (vl rfl) (agg_cellsP _))) ?_
 refine Ch.as rfl rfl rfl rfl rfl ?_
 refine Ch.nil (Fin.go ?_)
 refine Tr.w1 1 rfl ?_
 refine Tr.cutk [1] [(3, bool (bareF f))] (True) ?_ (fun h1 => ?_)
 ·
  refine Tr.reg0 ?_
  refine Ch.oo rfl rfl rfl (ok_fieldAddr rfl fo45_7 (vl rfl) rfl) ?_
  refine Ch.oo rfl rfl rfl (ok_loadA rfl agg43 sz43 (vl rfl) rfl rfl) ?_
  refine Ch.oo rfl rfl rfl (ok_build (rows := []) rfl bl43 zo43 trivial rfl) ?_
  refine Ch.oo rfl rfl rfl (ok_eq43 rfl (vl rfl) (vl rfl)) ?_
  refine Ch.mv rfl rfl rfl rfl rfl ?_
  refine Ch.cs 8 rfl (fun h2 q2 => ?_) (fun h2 q2 => ?_)
  ·
   refine Ch.y h2 rfl rfl rfl rfl rfl (ok_fieldAddr rfl fo45_9 (vl rfl) rfl) ?_
   refine Ch.y h2 rfl rfl rfl rfl rfl (ok_load1 rfl one9 (vl rfl)) ?_
   refine Ch.y h2 rfl rfl rfl rfl rfl (ok_eqs rfl (vl rfl) (vl rfl)) ?_
   refine Ch.oo rfl rfl rfl (ok_pick_t rfl (vl rfl) h2 (vl rfl)) ?_
   refine Ch.as rfl rfl rfl rfl rfl ?_
   refine Ch.nil ?_
   exact Fin.fam_same () (by simp_all) ⟨⟨_, rfl, bool_eq (by first | (simp_all [bareF]; done) | (simp_all [bareF]; omega))⟩, ke rfl, trivial⟩
  ·
   iterate 3 refine Ch.nt h2 rfl rfl rfl rfl rfl ?_
   refine Ch.oo rfl rfl rfl (ok_pick_f rfl (vl rfl) h2 (vl rfl)) ?_
   refine Ch.as rfl rfl rfl rfl rfl ?_
   refine Ch.nil ?_
   exact Fin.fam_same () (by simp_all) ⟨⟨_, rfl, bool_eq (by first | (simp_all [bareF]; done) | (simp_all [bareF]; omega))⟩, ke rfl, trivial⟩
 ·
  refine Tr.seq (Tr.seq (Tr.reg0 ?_))
  refine Ch.oo rfl rfl rfl (ok_fieldAddr rfl fo45_5 (vl rfl) rfl) ?_
  refine Ch.oo rfl rfl rfl (ok_load1 rfl one3 (vl rfl)) ?_
  refine Ch.nil (Fin.go (Tr.block (Tr.seq (Tr.seq (Tr.reg0 ?_)))))
  refine Ch.oo rfl rfl rfl (ok_int rfl (vl rfl) (vl rfl) rfl) ?_
  refine Ch.as rfl rfl rfl rfl rfl ?_
  refine Ch.nil (Fin.go ?_)
  refine Tr.cn rfl (fun h3 q3 => ?_) (fun h3 q3 => ?_)
  ·
   refine Tr.skip (Fin.go ?_)
   refine Tr.cond rfl (fun _ => ?_) (fun h => nomatch h3.symm.trans h)
   refine Tr.seq (Tr.reg0 ?_)
   refine Ch.oo rfl rfl rfl (ok_fieldAddr rfl fo45_7 (vl rfl) rfl) ?_
   refine Ch.oo rfl rfl rfl (ok_loadA rfl agg43 sz43 (vl rfl) rfl rfl) ?_
   refine Ch.oo rfl rfl rfl (ok_call rfl (w_Valid) ⟨ke rfl, trivial⟩) ?_
   refine Ch.mv rfl rfl rfl rfl rfl ?_
   refine Ch.cs 21 rfl (fun h4 q4 => ?_) (fun h4 q4 => ?_)
   ·
    refine Ch.y h4 rfl rfl rfl rfl rfl (ok_fieldAddr rfl fo45_8 (vl rfl) rfl) ?_
    refine Ch.y h4 rfl rfl rfl rfl rfl (ok_load1 rfl one3 (vl rfl)) ?_
    refine Ch.y h4 rfl rfl rfl rfl rfl (ok_int rfl (vl rfl) (vl rfl) rfl) ?_
    refine Ch.oo rfl rfl rfl (ok_pick_t rfl (vl rfl) h4 (vl rfl)) ?_
    refine Ch.mv rfl rfl rfl rfl rfl ?_
    refine Ch.cs 26 rfl (fun h5 q5 => ?_) (fun h5 q5 => ?_)
    ·
     refine Ch.y h5 rfl rfl rfl rfl rfl (ok_fieldAddr rfl fo45_9 (vl rfl) rfl) ?_
     refine Ch.y h5 rfl rfl rfl rfl rfl (ok_load1 rfl one9 (vl rfl)) ?_
     refine Ch.y h5 rfl rfl rfl rfl rfl (ok_eqs rfl (vl rfl) (vl rfl)) ?_
     refine Ch.oo rfl rfl rfl (ok_pick_t rfl (vl rfl) h5 (vl rfl)) ?_
     refine Ch.as rfl rfl rfl rfl rfl ?_
     refine Ch.nil (Fin.go ?_)
     refine Tr.w1 2 rfl ?_
     refine Tr.ret ?_
     refine Fin.block_ret ?_
     refine Fin.then_ret ?_
     refine Fin.ret1 rfl (OutW.bse _ _) rfl ?_
     · refine bool_eq ?_; unfold contentF; first | (simp_all; done) | (simp_all; omega)
    ·
     iterate 3 refine Ch.nt h5 rfl rfl rfl rfl rfl ?_
     refine Ch.oo rfl rfl rfl (ok_pick_f rfl (vl rfl) h5 (vl rfl)) ?_
     refine Ch.as rfl rfl rfl rfl rfl ?_
     refine Ch.nil (Fin.go ?_)
     refine Tr.w1 2 rfl ?_
     refine Tr.ret ?_
     refine Fin.block_ret ?_
     refine Fin.then_ret ?_
     refine Fin.ret1 rfl (OutW.bse _ _) rfl ?_
     · refine bool_eq ?_; unfold contentF; first | (simp_all; done) | (simp_all; omega)
   ·
    iterate 3 refine Ch.nt h4 rfl rfl rfl rfl rfl ?_
    refine Ch.oo rfl rfl rfl (ok_pick_f rfl (vl rfl) h4 (vl rfl)) ?_
    refine Ch.mv rfl rfl rfl rfl rfl ?_
    iterate 3 refine Ch.nd rfl rfl rfl rfl rfl rfl ?_
    refine Ch.oo rfl rfl rfl (ok_pick_f rfl (vl rfl) rfl (vl rfl)) ?_
    refine Ch.as rfl rfl rfl rfl rfl ?_
    refine Ch.nil (Fin.go ?_)
    refine Tr.w1 2 rfl ?_
    refine Tr.ret ?_
    refine Fin.block_ret ?_
    refine Fin.then_ret ?_
    refine Fin.ret1 rfl (OutW.bse _ _) rfl ?_
    · refine bool_eq ?_; unfold contentF; first | (simp_all; done) | (simp_all; omega)
  ·
   refine Tr.reg0 ?_
   refine Ch.oo rfl rfl rfl (ok_int rfl (vl rfl) (vl rfl) rfl) ?_
   refine Ch.as rfl rfl rfl rfl rfl ?_
   refine Ch.nil (Fin.go ?_)
   refine Tr.cn rfl (fun h6 q6 => ?_) (fun h6 q6 => ?_)
   ·
    refine Tr.seq (Tr.reg0 ?_)
    refine Ch.oo rfl rfl rfl (ok_fieldAddr rfl fo45_7 (vl rfl) rfl) ?_
    refine Ch.oo rfl rfl rfl (ok_loadA rfl agg43 sz43 (vl rfl) rfl rfl) ?_
    refine Ch.oo rfl rfl rfl (ok_call rfl (w_Valid) ⟨ke rfl, trivial⟩) ?_
    refine Ch.mv rfl rfl rfl rfl rfl ?_
    refine Ch.cs 21 rfl (fun h7 q7 => ?_) (fun h7 q7 => ?_)
    ·
     refine Ch.y h7 rfl rfl rfl rfl rfl (ok_fieldAddr rfl fo45_8 (vl rfl) rfl) ?_
     refine Ch.y h7 rfl rfl rfl rfl rfl (ok_load1 rfl one3 (vl rfl)) ?_
     refine Ch.y h7 rfl rfl rfl rfl rfl (ok_int rfl (vl rfl) (vl rfl) rfl) ?_
     refine Ch.oo rfl rfl rfl (ok_pick_t rfl (vl rfl) h7 (vl rfl)) ?_
     refine Ch.mv rfl rfl rfl rfl rfl ?_
     refine Ch.cs 26 rfl (fun h8 q8 => ?_) (fun h8 q8 => ?_)
     ·
      refine Ch.y h8 rfl rfl rfl rfl rfl (ok_fieldAddr rfl fo45_9 (vl rfl) rfl) ?_
      refine Ch.y h8 rfl rfl rfl rfl rfl (ok_load1 rfl one9 (vl rfl)) ?_
      refine Ch.y h8 rfl rfl rfl rfl rfl (ok_eqs rfl (vl rfl) (vl rfl)) ?_
      refine Ch.oo rfl rfl rfl (ok_pick_t rfl (vl rfl) h8 (vl rfl)) ?_
      refine Ch.as rfl rfl rfl rfl rfl ?_
      refine Ch.nil (Fin.go ?_)
      refine Tr.w1 2 rfl ?_
      refine Tr.ret ?_
      refine Fin.block_ret ?_
      refine Fin.then_ret ?_
      refine Fin.ret1 rfl (OutW.bse _ _) rfl ?_
      · refine bool_eq ?_; unfold contentF; first | (simp_all; done) | (simp_all; omega)
     ·
      iterate 3 refine Ch.nt h8 rfl rfl rfl rfl rfl ?_
      refine Ch.oo rfl rfl rfl (ok_pick_f rfl (vl rfl) h8 (vl rfl)) ?_
      refine Ch.as rfl rfl rfl rfl rfl ?_
      refine Ch.nil (Fin.go ?_)
      refine Tr.w1 2 rfl ?_
      refine Tr.ret ?_
      refine Fin.block_ret ?_
      refine Fin.then_ret ?_
      refine Fin.ret1 rfl (OutW.bse _ _) rfl ?_
      · refine bool_eq ?_; unfold contentF; first | (simp_all; done) | (simp_all; omega)
    ·
     iterate 3 refine Ch.nt h7 rfl rfl rfl rfl rfl ?_
     refine Ch.oo rfl rfl rfl (ok_pick_f rfl (vl rfl) h7 (vl rfl)) ?_
     refine Ch.mv rfl rfl rfl rfl rfl ?_
     iterate 3 refine Ch.nd rfl rfl rfl rfl rfl rfl ?_
     refine Ch.oo rfl rfl rfl (ok_pick_f rfl (vl rfl) rfl (vl rfl)) ?_
     refine Ch.as rfl rfl rfl rfl rfl ?_
     refine Ch.nil (Fin.go ?_)
     refine Tr.w1 2 rfl ?_
     refine Tr.ret ?_
     refine Fin.block_ret ?_
     refine Fin.then_ret ?_
     refine Fin.ret1 rfl (OutW.bse _ _) rfl ?_
     · refine bool_eq ?_; unfold contentF; first | (simp_all; done) | (simp_all; omega)
   ·
    refine Tr.seq (Tr.reg0 ?_)
    refine Ch.oo rfl rfl rfl (ok_int rfl (vl rfl) (vl rfl) rfl) ?_
    refine Ch.as rfl rfl rfl rfl rfl ?_
    refine Ch.nil (Fin.go ?_)
    refine Tr.cn rfl (fun h9 q9 => ?_) (fun h9 q9 => ?_)
    ·
     refine Tr.seq (Tr.reg0 ?_)
     refine Ch.mv rfl rfl rfl rfl rfl ?_
     refine Ch.mv rfl rfl rfl rfl rfl ?_
     refine Ch.cs 34 rfl (fun h10 q10 => ?_) (fun h10 q10 => ?_)
     ·
      refine Ch.y h10 rfl rfl rfl rfl rfl (ok_fieldAddr rfl fo45_8 (vl rfl) rfl) ?_
      refine Ch.y h10 rfl rfl rfl rfl rfl (ok_load1 rfl one3 (vl rfl)) ?_
      refine Ch.y h10 rfl rfl rfl rfl rfl (ok_int rfl (vl rfl) (vl rfl) rfl) ?_
      refine Ch.oo rfl rfl rfl (ok_pick_t rfl (vl rfl) h10 (vl rfl)) ?_
      refine Ch.mv rfl rfl rfl rfl rfl ?_
      refine Ch.cs 39 rfl (fun h11 q11 => ?_) (fun h11 q11 => ?_)
      ·
       refine Ch.y h11 rfl rfl rfl rfl rfl (ok_fieldAddr rfl fo45_8 (vl rfl) rfl) ?_
       refine Ch.y h11 rfl rfl rfl rfl rfl (ok_load1 rfl one3 (vl rfl)) ?_
       refine Ch.y h11 rfl rfl rfl rfl rfl (ok_int rfl (vl rfl) (vl rfl) rfl) ?_
       refine Ch.oo rfl rfl rfl (ok_pick_t rfl (vl rfl) h11 (vl rfl)) ?_
       refine Ch.as rfl rfl rfl rfl rfl ?_
       refine Ch.nil (Fin.go ?_)
       refine Tr.w1 2 rfl ?_
       refine Tr.ret ?_
       refine Fin.block_ret ?_
       refine Fin.then_ret ?_
       refine Fin.ret1 rfl (OutW.bse _ _) rfl ?_
       · refine bool_eq ?_; unfold contentF; first | (simp_all; done) | (simp_all; omega)
      ·
       iterate 3 refine Ch.nt h11 rfl rfl rfl rfl rfl ?_
       refine Ch.oo rfl rfl rfl (ok_pick_f rfl (vl rfl) h11 (vl rfl)) ?_
       refine Ch.as rfl rfl rfl rfl rfl ?_
       refine Ch.nil (Fin.go ?_)
       refine Tr.w1 2 rfl ?_
       refine Tr.ret ?_
       refine Fin.block_ret ?_
       refine Fin.then_ret ?_
       refine Fin.ret1 rfl (OutW.bse _ _) rfl ?_
       · refine bool_eq ?_; unfold contentF; first | (simp_all; done) | (simp_all; omega)
     ·
      iterate 3 refine Ch.nt h10 rfl rfl rfl rfl rfl ?_
      refine Ch.oo rfl rfl rfl (ok_pick_f rfl (vl rfl) h10 (vl rfl)) ?_
      refine Ch.mv rfl rfl rfl rfl rfl ?_
      iterate 3 refine Ch.nd rfl rfl rfl rfl rfl rfl ?_
      refine Ch.oo rfl rfl rfl (ok_pick_f rfl (vl rfl) rfl (vl rfl)) ?_
      refine Ch.as rfl rfl rfl rfl rfl ?_
      refine Ch.nil (Fin.go ?_)
      refine Tr.w1 2 rfl ?_
      refine Tr.ret ?_
      refine Fin.block_ret ?_
      refine Fin.then_ret ?_
      refine Fin.ret1 rfl (OutW.bse _ _) rfl ?_
      · refine bool_eq ?_; unfold contentF; first | (simp_all; done) | (simp_all; omega)
    ·
     refine Tr.seq (Tr.reg0 ?_)
     refine Ch.oo rfl rfl rfl (ok_int rfl (vl rfl) (vl rfl) rfl) ?_
     refine Ch.as rfl rfl rfl rfl rfl ?_
     refine Ch.nil (Fin.go ?_)
     refine Tr.cn rfl (fun h12 q12 => ?_) (fun h12 q12 => ?_)
     ·
      refine Tr.seq (Tr.reg0 ?_)
      refine Ch.oo rfl rfl rfl (ok_fieldAddr rfl fo45_7 (vl rfl) rfl) ?_
      refine Ch.oo rfl rfl rfl (ok_loadA rfl agg43 sz43 (vl rfl) rfl rfl) ?_
      refine Ch.oo rfl rfl rfl (ok_call rfl (w_Valid) ⟨ke rfl, trivial⟩) ?_
      refine Ch.mv rfl rfl rfl rfl rfl ?_
      refine Ch.cs 49 rfl (fun h13 q13 => ?_) (fun h13 q13 => ?_)
      ·
       refine Ch.y h13 rfl rfl rfl rfl rfl (ok_fieldAddr rfl fo45_7 (vl rfl) rfl) ?_
       refine Ch.y h13 rfl rfl rfl rfl rfl (ok_fieldAddr rfl fo43_0 (vl rfl) rfl) ?_
       refine Ch.y h13 rfl rfl rfl rfl rfl (ok_load1 rfl one3 (vl rfl)) ?_
       refine Ch.y h13 rfl rfl rfl rfl rfl (ok_call rfl (w_Kind) ⟨ke rfl, trivial⟩) ?_
       refine Ch.y h13 rfl rfl rfl rfl rfl (ok_int rfl (vl rfl) (vl rfl) rfl) ?_
       refine Ch.oo rfl rfl rfl (ok_pick_t rfl (vl rfl) h13 (vl rfl)) ?_
       refine Ch.mv rfl rfl rfl rfl rfl ?_
       refine Ch.cs 56 rfl (fun h14 q14 => ?_) (fun h14 q14 => ?_)
       ·
        refine Ch.y h14 rfl rfl rfl rfl rfl (ok_fieldAddr rfl fo45_8 (vl rfl) rfl) ?_
        refine Ch.y h14 rfl rfl rfl rfl rfl (ok_load1 rfl one3 (vl rfl)) ?_
        refine Ch.y h14 rfl rfl rfl rfl rfl (ok_int rfl (vl rfl) (vl rfl) rfl) ?_
        refine Ch.oo rfl rfl rfl (ok_pick_t rfl (vl rfl) h14 (vl rfl)) ?_
        refine Ch.mv rfl rfl rfl rfl rfl ?_
        refine Ch.cs 61 rfl (fun h15 q15 => ?_) (fun h15 q15 => ?_)
        ·
         refine Ch.y h15 rfl rfl rfl rfl rfl (ok_fieldAddr rfl fo45_8 (vl rfl) rfl) ?_
         refine Ch.y h15 rfl rfl rfl rfl rfl (ok_load1 rfl one3 (vl rfl)) ?_
         refine Ch.y h15 rfl rfl rfl rfl rfl (ok_int rfl (vl rfl) (vl rfl) rfl) ?_
         refine Ch.oo rfl rfl rfl (ok_pick_t rfl (vl rfl) h15 (vl rfl)) ?_
         refine Ch.mv rfl rfl rfl rfl rfl ?_
         refine Ch.cs 66 rfl (fun h16 q16 => ?_) (fun h16 q16 => ?_)
         ·
          refine Ch.y h16 rfl rfl rfl rfl rfl (ok_fieldAddr rfl fo45_9 (vl rfl) rfl) ?_
          refine Ch.y h16 rfl rfl rfl rfl rfl (ok_load1 rfl one9 (vl rfl)) ?_
          refine Ch.y h16 rfl rfl rfl rfl rfl (ok_eqs rfl (vl rfl) (vl rfl)) ?_
          refine Ch.oo rfl rfl rfl (ok_pick_t rfl (vl rfl) h16 (vl rfl)) ?_
          refine Ch.as rfl rfl rfl rfl rfl ?_
          refine Ch.nil (Fin.go ?_)
          refine Tr.w1 2 rfl ?_
          refine Tr.ret ?_
          refine Fin.block_ret ?_
          refine Fin.then_ret ?_
          refine Fin.ret1 rfl (OutW.bse _ _) rfl ?_
          · refine bool_eq ?_; unfold contentF; first | (simp_all; done) | (simp_all; omega)
         ·
          iterate 3 refine Ch.nt h16 rfl rfl rfl rfl rfl ?_
          refine Ch.oo rfl rfl rfl (ok_pick_f rfl (vl rfl) h16 (vl rfl)) ?_
          refine Ch.as rfl rfl rfl rfl rfl ?_
          refine Ch.nil (Fin.go ?_)
          refine Tr.w1 2 rfl ?_
          refine Tr.ret ?_
          refine Fin.block_ret ?_
          refine Fin.then_ret ?_
          refine Fin.ret1 rfl (OutW.bse _ _) rfl ?_
          · refine bool_eq ?_; unfold contentF; first | (simp_all; done) | (simp_all; omega)
        ·
         iterate 3 refine Ch.nt h15 rfl rfl rfl rfl rfl ?_
         refine Ch.oo rfl rfl rfl (ok_pick_f rfl (vl rfl) h15 (vl rfl)) ?_
         refine Ch.mv rfl rfl rfl rfl rfl ?_
         iterate 3 refine Ch.nd rfl rfl rfl rfl rfl rfl ?_
         refine Ch.oo rfl rfl rfl (ok_pick_f rfl (vl rfl) rfl (vl rfl)) ?_
         refine Ch.as rfl rfl rfl rfl rfl ?_
         refine Ch.nil (Fin.go ?_)
         refine Tr.w1 2 rfl ?_
         refine Tr.ret ?_
         refine Fin.block_ret ?_
         refine Fin.then_ret ?_
         refine Fin.ret1 rfl (OutW.bse _ _) rfl ?_
         · refine bool_eq ?_; unfold contentF; first | (simp_all; done) | (simp_all; omega)
       ·
        iterate 3 refine Ch.nt h14 rfl rfl rfl rfl rfl ?_
        refine Ch.oo rfl rfl rfl (ok_pick_f rfl (vl rfl) h14 (vl rfl)) ?_
        refine Ch.mv rfl rfl rfl rfl rfl ?_
        iterate 3 refine Ch.nd rfl rfl rfl rfl rfl rfl ?_
        refine Ch.oo rfl rfl rfl (ok_pick_f rfl (vl rfl) rfl (vl rfl)) ?_
        refine Ch.mv rfl rfl rfl rfl rfl ?_
        iterate 3 refine Ch.nd rfl rfl rfl rfl rfl rfl ?_
        refine Ch.oo rfl rfl rfl (ok_pick_f rfl (vl rfl) rfl (vl rfl)) ?_
        refine Ch.as rfl rfl rfl rfl rfl ?_
        refine Ch.nil (Fin.go ?_)
        refine Tr.w1 2 rfl ?_
        refine Tr.ret ?_
        refine Fin.block_ret ?_
        refine Fin.then_ret ?_
        refine Fin.ret1 rfl (OutW.bse _ _) rfl ?_
        · refine bool_eq ?_; unfold contentF; first | (simp_all; done) | (simp_all; omega)
      ·
       iterate 5 refine Ch.nt h13 rfl rfl rfl rfl rfl ?_
       refine Ch.oo rfl rfl rfl (ok_pick_f rfl (vl rfl) h13 (vl rfl)) ?_
       refine Ch.mv rfl rfl rfl rfl rfl ?_
       iterate 3 refine Ch.nd rfl rfl rfl rfl rfl rfl ?_
       refine Ch.oo rfl rfl rfl (ok_pick_f rfl (vl rfl) rfl (vl rfl)) ?_
       refine Ch.mv rfl rfl rfl rfl rfl ?_
       iterate 3 refine Ch.nd rfl rfl rfl rfl rfl rfl ?_
       refine Ch.oo rfl rfl rfl (ok_pick_f rfl (vl rfl) rfl (vl rfl)) ?_
       refine Ch.mv rfl rfl rfl rfl rfl ?_
       iterate 3 refine Ch.nd rfl rfl rfl rfl rfl rfl ?_
       refine Ch.oo rfl rfl rfl (ok_pick_f rfl (vl rfl) rfl (vl rfl)) ?_
       refine Ch.as rfl rfl rfl rfl rfl ?_
       refine Ch.nil (Fin.go ?_)
       refine Tr.w1 2 rfl ?_
       refine Tr.ret ?_
       refine Fin.block_ret ?_
       refine Fin.then_ret ?_
       refine Fin.ret1 rfl (OutW.bse _ _) rfl ?_
       · refine bool_eq ?_; unfold contentF; first | (simp_all; done) | (simp_all; omega)
     ·
      refine Tr.seq (Tr.seq (Tr.reg0 ?_))
      refine Ch.oo rfl rfl rfl (ok_int rfl (vl rfl) (vl rfl) rfl) ?_
      refine Ch.as rfl rfl rfl rfl rfl ?_
      refine Ch.nil (Fin.go ?_)
      refine Tr.w4 1 3 14 71 rfl rfl rfl rfl ?_
      refine Tr.cn rfl (fun h17 q17 => ?_) (fun h17 q17 => ?_)
      ·
       refine Tr.skip (Fin.go ?_)
       refine Tr.cond rfl (fun _ => ?_) (fun h => nomatch h17.symm.trans h)
       refine Tr.seq (Tr.reg0 ?_)
       refine Ch.mv rfl rfl rfl rfl rfl ?_
       refine Ch.mv rfl rfl rfl rfl rfl ?_
       refine Ch.cs 75 rfl (fun h18 q18 => ?_) (fun h18 q18 => ?_)
       ·
        refine Ch.y h18 rfl rfl rfl rfl rfl (ok_fieldAddr rfl fo45_8 (vl rfl) rfl) ?_
        refine Ch.y h18 rfl rfl rfl rfl rfl (ok_load1 rfl one3 (vl rfl)) ?_
        refine Ch.y h18 rfl rfl rfl rfl rfl (ok_int rfl (vl rfl) (vl rfl) rfl) ?_
        refine Ch.oo rfl rfl rfl (ok_pick_t rfl (vl rfl) h18 (vl rfl)) ?_
        refine Ch.mv rfl rfl rfl rfl rfl ?_
        refine Ch.cs 80 rfl (fun h19 q19 => ?_) (fun h19 q19 => ?_)
        ·
         refine Ch.y h19 rfl rfl rfl rfl rfl (ok_fieldAddr rfl fo45_8 (vl rfl) rfl) ?_
         refine Ch.y h19 rfl rfl rfl rfl rfl (ok_load1 rfl one3 (vl rfl)) ?_
         refine Ch.y h19 rfl rfl rfl rfl rfl (ok_int rfl (vl rfl) (vl rfl) rfl) ?_
         refine Ch.oo rfl rfl rfl (ok_pick_t rfl (vl rfl) h19 (vl rfl)) ?_
         refine Ch.as rfl rfl rfl rfl rfl ?_
         refine Ch.nil (Fin.go ?_)
         refine Tr.w1 2 rfl ?_
         refine Tr.ret ?_
         refine Fin.block_ret ?_
         refine Fin.then_ret ?_
         refine Fin.ret1 rfl (OutW.bse _ _) rfl ?_
         · refine bool_eq ?_; unfold contentF; first | (simp_all; done) | (simp_all; omega)
        ·
         iterate 3 refine Ch.nt h19 rfl rfl rfl rfl rfl ?_
         refine Ch.oo rfl rfl rfl (ok_pick_f rfl (vl rfl) h19 (vl rfl)) ?_
         refine Ch.as rfl rfl rfl rfl rfl ?_
         refine Ch.nil (Fin.go ?_)
         refine Tr.w1 2 rfl ?_
         refine Tr.ret ?_
         refine Fin.block_ret ?_
         refine Fin.then_ret ?_
         refine Fin.ret1 rfl (OutW.bse _ _) rfl ?_
         · refine bool_eq ?_; unfold contentF; first | (simp_all; done) | (simp_all; omega)
       ·
        iterate 3 refine Ch.nt h18 rfl rfl rfl rfl rfl ?_
        refine Ch.oo rfl rfl rfl (ok_pick_f rfl (vl rfl) h18 (vl rfl)) ?_
        refine Ch.mv rfl rfl rfl rfl rfl ?_
        iterate 3 refine Ch.nd rfl rfl rfl rfl rfl rfl ?_
        refine Ch.oo rfl rfl rfl (ok_pick_f rfl (vl rfl) rfl (vl rfl)) ?_
        refine Ch.as rfl rfl rfl rfl rfl ?_
        refine Ch.nil (Fin.go ?_)
        refine Tr.w1 2 rfl ?_
        refine Tr.ret ?_
        refine Fin.block_ret ?_
        refine Fin.then_ret ?_
        refine Fin.ret1 rfl (OutW.bse _ _) rfl ?_
        · refine bool_eq ?_; unfold contentF; first | (simp_all; done) | (simp_all; omega)
      ·
       refine Tr.reg0 ?_
       refine Ch.oo rfl rfl rfl (ok_int rfl (vl rfl) (vl rfl) rfl) ?_
       refine Ch.as rfl rfl rfl rfl rfl ?_
       refine Ch.nil (Fin.go ?_)
       refine Tr.cn rfl (fun h20 q20 => ?_) (fun h20 q20 => ?_)
       ·
        refine Tr.seq (Tr.reg0 ?_)
        refine Ch.mv rfl rfl rfl rfl rfl ?_
        refine Ch.mv rfl rfl rfl rfl rfl ?_
        refine Ch.cs 75 rfl (fun h21 q21 => ?_) (fun h21 q21 => ?_)
        ·
         refine Ch.y h21 rfl rfl rfl rfl rfl (ok_fieldAddr rfl fo45_8 (vl rfl) rfl) ?_
         refine Ch.y h21 rfl rfl rfl rfl rfl (ok_load1 rfl one3 (vl rfl)) ?_
         refine Ch.y h21 rfl rfl rfl rfl rfl (ok_int rfl (vl rfl) (vl rfl) rfl) ?_
         refine Ch.oo rfl rfl rfl (ok_pick_t rfl (vl rfl) h21 (vl rfl)) ?_
         refine Ch.mv rfl rfl rfl rfl rfl ?_
         refine Ch.cs 80 rfl (fun h22 q22 => ?_) (fun h22 q22 => ?_)
         ·
          refine Ch.y h22 rfl rfl rfl rfl rfl (ok_fieldAddr rfl fo45_8 (vl rfl) rfl) ?_
          refine Ch.y h22 rfl rfl rfl rfl rfl (ok_load1 rfl one3 (vl rfl)) ?_
          refine Ch.y h22 rfl rfl rfl rfl rfl (ok_int rfl (vl rfl) (vl rfl) rfl) ?_
          refine Ch.oo rfl rfl rfl (ok_pick_t rfl (vl rfl) h22 (vl rfl)) ?_
          refine Ch.as rfl rfl rfl rfl rfl ?_
          refine Ch.nil (Fin.go ?_)
          refine Tr.w1 2 rfl ?_
          refine Tr.ret ?_
          refine Fin.block_ret ?_
          refine Fin.then_ret ?_
          refine Fin.ret1 rfl (OutW.bse _ _) rfl ?_
          · refine bool_eq ?_; unfold contentF; first | (simp_all; done) | (simp_all; omega)
         ·
          iterate 3 refine Ch.nt h22 rfl rfl rfl rfl rfl ?_
          refine Ch.oo rfl rfl rfl (ok_pick_f rfl (vl rfl) h22 (vl rfl)) ?_
          refine Ch.as rfl rfl rfl rfl rfl ?_
          refine Ch.nil (Fin.go ?_)
          refine Tr.w1 2 rfl ?_
          refine Tr.ret ?_
          refine Fin.block_ret ?_
          refine Fin.then_ret ?_
          refine Fin.ret1 rfl (OutW.bse _ _) rfl ?_
          · refine bool_eq ?_; unfold contentF; first | (simp_all; done) | (simp_all; omega)
        ·
         iterate 3 refine Ch.nt h21 rfl rfl rfl rfl rfl ?_
         refine Ch.oo rfl rfl rfl (ok_pick_f rfl (vl rfl) h21 (vl rfl)) ?_
         refine Ch.mv rfl rfl rfl rfl rfl ?_
         iterate 3 refine Ch.nd rfl rfl rfl rfl rfl rfl ?_
         refine Ch.oo rfl rfl rfl (ok_pick_f rfl (vl rfl) rfl (vl rfl)) ?_
         refine Ch.as rfl rfl rfl rfl rfl ?_
         refine Ch.nil (Fin.go ?_)
         refine Tr.w1 2 rfl ?_
         refine Tr.ret ?_
         refine Fin.block_ret ?_
         refine Fin.then_ret ?_
         refine Fin.ret1 rfl (OutW.bse _ _) rfl ?_
         · refine bool_eq ?_; unfold contentF; first | (simp_all; done) | (simp_all; omega)
       ·
        refine Tr.seq (Tr.reg0 ?_)
        refine Ch.oo rfl rfl rfl (ok_int rfl (vl rfl) (vl rfl) rfl) ?_
        refine Ch.as rfl rfl rfl rfl rfl ?_
        refine Ch.nil (Fin.go ?_)
        refine Tr.cn rfl (fun h23 q23 => ?_) (fun h23 q23 => ?_)
        ·
         refine Tr.seq (Tr.reg0 ?_)
         refine Ch.mv rfl rfl rfl rfl rfl ?_
         refine Ch.mv rfl rfl rfl rfl rfl ?_
         refine Ch.cs 88 rfl (fun h24 q24 => ?_) (fun h24 q24 => ?_)
         ·
          refine Ch.y h24 rfl rfl rfl rfl rfl (ok_fieldAddr rfl fo45_8 (vl rfl) rfl) ?_
          refine Ch.y h24 rfl rfl rfl rfl rfl (ok_load1 rfl one3 (vl rfl)) ?_
          refine Ch.y h24 rfl rfl rfl rfl rfl (ok_int rfl (vl rfl) (vl rfl) rfl) ?_
          refine Ch.oo rfl rfl rfl (ok_pick_t rfl (vl rfl) h24 (vl rfl)) ?_
          refine Ch.mv rfl rfl rfl rfl rfl ?_
          refine Ch.cs 93 rfl (fun h25 q25 => ?_) (fun h25 q25 => ?_)
          ·
           refine Ch.y h25 rfl rfl rfl rfl rfl (ok_fieldAddr rfl fo45_8 (vl rfl) rfl) ?_
           refine Ch.y h25 rfl rfl rfl rfl rfl (ok_load1 rfl one3 (vl rfl)) ?_
           refine Ch.y h25 rfl rfl rfl rfl rfl (ok_int rfl (vl rfl) (vl rfl) rfl) ?_
           refine Ch.oo rfl rfl rfl (ok_pick_t rfl (vl rfl) h25 (vl rfl)) ?_
           refine Ch.as rfl rfl rfl rfl rfl ?_
           refine Ch.nil (Fin.go ?_)
           refine Tr.w1 2 rfl ?_
           refine Tr.ret ?_
           refine Fin.block_ret ?_
           refine Fin.then_ret ?_
           refine Fin.ret1 rfl (OutW.bse _ _) rfl ?_
           · refine bool_eq ?_; unfold contentF; first | (simp_all; done) | (simp_all; omega)
          ·
           iterate 3 refine Ch.nt h25 rfl rfl rfl rfl rfl ?_
           refine Ch.oo rfl rfl rfl (ok_pick_f rfl (vl rfl) h25 (vl rfl)) ?_
           refine Ch.as rfl rfl rfl rfl rfl ?_
           refine Ch.nil (Fin.go ?_)
           refine Tr.w1 2 rfl ?_
           refine Tr.ret ?_
           refine Fin.block_ret ?_
           refine Fin.then_ret ?_
           refine Fin.ret1 rfl (OutW.bse _ _) rfl ?_
           · refine bool_eq ?_; unfold contentF; first | (simp_all; done) | (simp_all; omega)
         ·
          iterate 3 refine Ch.nt h24 rfl rfl rfl rfl rfl ?_
          refine Ch.oo rfl rfl rfl (ok_pick_f rfl (vl rfl) h24 (vl rfl)) ?_
          refine Ch.mv rfl rfl rfl rfl rfl ?_
          iterate 3 refine Ch.nd rfl rfl rfl rfl rfl rfl ?_
          refine Ch.oo rfl rfl rfl (ok_pick_f rfl (vl rfl) rfl (vl rfl)) ?_
          refine Ch.as rfl rfl rfl rfl rfl ?_
          refine Ch.nil (Fin.go ?_)
          refine Tr.w1 2 rfl ?_
          refine Tr.ret ?_
          refine Fin.block_ret ?_
          refine Fin.then_ret ?_
          refine Fin.ret1 rfl (OutW.bse _ _) rfl ?_
          · refine bool_eq ?_; unfold contentF; first | (simp_all; done) | (simp_all; omega)
        ·
         refine Tr.seq (Tr.reg0 ?_)
         refine Ch.oo rfl rfl rfl (ok_int rfl (vl rfl) (vl rfl) rfl) ?_
         refine Ch.as rfl rfl rfl rfl rfl ?_
         refine Ch.nil (Fin.go ?_)
         refine Tr.cn rfl (fun h26 q26 => ?_) (fun h26 q26 => ?_)
         ·
          refine Tr.seq (Tr.reg0 ?_)
          refine Ch.oo rfl rfl rfl (ok_fieldAddr rfl fo45_7 (vl rfl) rfl) ?_
          refine Ch.oo rfl rfl rfl (ok_loadA rfl agg43 sz43 (vl rfl) rfl rfl) ?_
          refine Ch.oo rfl rfl rfl (ok_build (rows := []) rfl bl43 zo43 trivial rfl) ?_
          refine Ch.oo rfl rfl rfl (ok_eq43 rfl (vl rfl) (vl rfl)) ?_
          refine Ch.mv rfl rfl rfl rfl rfl ?_
          refine Ch.cs 104 rfl (fun h27 q27 => ?_) (fun h27 q27 => ?_)
          ·
           refine Ch.y h27 rfl rfl rfl rfl rfl (ok_fieldAddr rfl fo45_8 (vl rfl) rfl) ?_
           refine Ch.y h27 rfl rfl rfl rfl rfl (ok_load1 rfl one3 (vl rfl)) ?_
           refine Ch.y h27 rfl rfl rfl rfl rfl (ok_int rfl (vl rfl) (vl rfl) rfl) ?_
           refine Ch.oo rfl rfl rfl (ok_pick_t rfl (vl rfl) h27 (vl rfl)) ?_
           refine Ch.mv rfl rfl rfl rfl rfl ?_
           refine Ch.cs 109 rfl (fun h28 q28 => ?_) (fun h28 q28 => ?_)
           ·
            refine Ch.y h28 rfl rfl rfl rfl rfl (ok_fieldAddr rfl fo45_9 (vl rfl) rfl) ?_
            refine Ch.y h28 rfl rfl rfl rfl rfl (ok_load1 rfl one9 (vl rfl)) ?_
            refine Ch.y h28 rfl rfl rfl rfl rfl (ok_call rfl (w_Named hf.text) ⟨ke rfl, trivial⟩) ?_
            refine Ch.oo rfl rfl rfl (ok_pick_t rfl (vl rfl) h28 (vl rfl)) ?_
            refine Ch.as rfl rfl rfl rfl rfl ?_
            refine Ch.nil (Fin.go ?_)
            refine Tr.w1 2 rfl ?_
            refine Tr.ret ?_
            refine Fin.block_ret ?_
            refine Fin.then_ret ?_
            refine Fin.ret1 rfl (OutW.bse _ _) rfl ?_
            · refine bool_eq ?_; unfold contentF; first | (simp_all; done) | (simp_all; omega)
           ·
            iterate 3 refine Ch.nt h28 rfl rfl rfl rfl rfl ?_
            refine Ch.oo rfl rfl rfl (ok_pick_f rfl (vl rfl) h28 (vl rfl)) ?_
            refine Ch.as rfl rfl rfl rfl rfl ?_
            refine Ch.nil (Fin.go ?_)
            refine Tr.w1 2 rfl ?_
            refine Tr.ret ?_
            refine Fin.block_ret ?_
            refine Fin.then_ret ?_
            refine Fin.ret1 rfl (OutW.bse _ _) rfl ?_
            · refine bool_eq ?_; unfold contentF; first | (simp_all; done) | (simp_all; omega)
          ·
           iterate 3 refine Ch.nt h27 rfl rfl rfl rfl rfl ?_
           refine Ch.oo rfl rfl rfl (ok_pick_f rfl (vl rfl) h27 (vl rfl)) ?_
           refine Ch.mv rfl rfl rfl rfl rfl ?_
           iterate 3 refine Ch.nd rfl rfl rfl rfl rfl rfl ?_
           refine Ch.oo rfl rfl rfl (ok_pick_f rfl (vl rfl) rfl (vl rfl)) ?_
           refine Ch.as rfl rfl rfl rfl rfl ?_
           refine Ch.nil (Fin.go ?_)
           refine Tr.w1 2 rfl ?_
           refine Tr.ret ?_
           refine Fin.block_ret ?_
           refine Fin.then_ret ?_
           refine Fin.ret1 rfl (OutW.bse _ _) rfl ?_
           · refine bool_eq ?_; unfold contentF; first | (simp_all; done) | (simp_all; omega)
         ·
          refine Tr.skip (Fin.block (Fin.go (Tr.seq (Tr.reg0 ?_))))
          refine Ch.as rfl rfl rfl rfl rfl ?_
          refine Ch.nil (Fin.go (Tr.ret ?_))
          refine Fin.ret1 rfl (OutW.bse _ _) rfl ?_
          · refine bool_eq ?_; unfold contentF; first | (simp_all; done) | (simp_all; omega)
set_option maxRecDepth 20000 in
theorem w_FCheck {f : Fnd} (hf : f.fits) : Fun Try.prog 35 [agg (rowF f)] (int (if checkF f then 0 else 24)) := by
 refine Fun.of Try.func35 rfl rfl (by exact Nat.le_of_ble_eq_true rfl) fun M0 w0 => ?_
 refine Tr.seq (Tr.reg0 ?_)
 refine Ch.oo rfl rfl rfl (ok_box rfl (VL.le (vl rfl) (agg_cellsP _))) ?_
 refine Ch.as rfl rfl rfl rfl rfl ?_
 refine Ch.nil (Fin.go ?_)
 refine Tr.w1 1 rfl ?_
 refine Tr.cutk [1] [(3, bool (whereF f))] (True) ?_ (fun h1 => ?_)
 ·
  refine Tr.reg0 ?_
  refine Ch.oo rfl rfl rfl (ok_fieldAddr rfl fo45_1 (vl rfl) rfl) ?_
  refine Ch.oo rfl rfl rfl (ok_load1 rfl one9 (vl rfl)) ?_
  refine Ch.oo rfl rfl rfl (ok_call rfl (w_Named hf.host) ⟨ke rfl, trivial⟩) ?_
  refine Ch.mv rfl rfl rfl rfl rfl ?_
  refine Ch.cs 8 rfl (fun h2 q2 => ?_) (fun h2 q2 => ?_)
  ·
   refine Ch.y h2 rfl rfl rfl rfl rfl (ok_fieldAddr rfl fo45_6 (vl rfl) rfl) ?_
   refine Ch.y h2 rfl rfl rfl rfl rfl (ok_load1 rfl one9 (vl rfl)) ?_
   refine Ch.y h2 rfl rfl rfl rfl rfl (ok_call rfl (w_Named hf.subj) ⟨ke rfl, trivial⟩) ?_
   refine Ch.oo rfl rfl rfl (ok_pick_t rfl (vl rfl) h2 (vl rfl)) ?_
   refine Ch.mv rfl rfl rfl rfl rfl ?_
   refine Ch.cs 13 rfl (fun h3 q3 => ?_) (fun h3 q3 => ?_)
   ·
    refine Ch.y h3 rfl rfl rfl rfl rfl (ok_fieldAddr rfl fo45_2 (vl rfl) rfl) ?_
    refine Ch.y h3 rfl rfl rfl rfl rfl (ok_load1 rfl one3 (vl rfl)) ?_
    refine Ch.y h3 rfl rfl rfl rfl rfl (ok_int rfl (vl rfl) (vl rfl) rfl) ?_
    refine Ch.oo rfl rfl rfl (ok_pick_t rfl (vl rfl) h3 (vl rfl)) ?_
    refine Ch.mv rfl rfl rfl rfl rfl ?_
    refine Ch.cs 18 rfl (fun h4 q4 => ?_) (fun h4 q4 => ?_)
    ·
     refine Ch.y h4 rfl rfl rfl rfl rfl (ok_fieldAddr rfl fo45_2 (vl rfl) rfl) ?_
     refine Ch.y h4 rfl rfl rfl rfl rfl (ok_load1 rfl one3 (vl rfl)) ?_
     refine Ch.y h4 rfl rfl rfl rfl rfl (ok_int rfl (vl rfl) (vl rfl) rfl) ?_
     refine Ch.oo rfl rfl rfl (ok_pick_t rfl (vl rfl) h4 (vl rfl)) ?_
     refine Ch.as rfl rfl rfl rfl rfl ?_
     refine Ch.nil ?_
     exact Fin.fam_same () (by simp_all) ⟨⟨_, rfl, bool_eq (by first | (simp_all [whereF]; done) | (simp_all [whereF]; omega))⟩, ke rfl, trivial⟩
    ·
     iterate 3 refine Ch.nt h4 rfl rfl rfl rfl rfl ?_
     refine Ch.oo rfl rfl rfl (ok_pick_f rfl (vl rfl) h4 (vl rfl)) ?_
     refine Ch.as rfl rfl rfl rfl rfl ?_
     refine Ch.nil ?_
     exact Fin.fam_same () (by simp_all) ⟨⟨_, rfl, bool_eq (by first | (simp_all [whereF]; done) | (simp_all [whereF]; omega))⟩, ke rfl, trivial⟩
   ·
    iterate 3 refine Ch.nt h3 rfl rfl rfl rfl rfl ?_
    refine Ch.oo rfl rfl rfl (ok_pick_f rfl (vl rfl) h3 (vl rfl)) ?_
    refine Ch.mv rfl rfl rfl rfl rfl ?_
    iterate 3 refine Ch.nd rfl rfl rfl rfl rfl rfl ?_
    refine Ch.oo rfl rfl rfl (ok_pick_f rfl (vl rfl) rfl (vl rfl)) ?_
    refine Ch.as rfl rfl rfl rfl rfl ?_
    refine Ch.nil ?_
    exact Fin.fam_same () (by simp_all) ⟨⟨_, rfl, bool_eq (by first | (simp_all [whereF]; done) | (simp_all [whereF]; omega))⟩, ke rfl, trivial⟩
  ·
   iterate 3 refine Ch.nt h2 rfl rfl rfl rfl rfl ?_
   refine Ch.oo rfl rfl rfl (ok_pick_f rfl (vl rfl) h2 (vl rfl)) ?_
   refine Ch.mv rfl rfl rfl rfl rfl ?_
   iterate 3 refine Ch.nd rfl rfl rfl rfl rfl rfl ?_
   refine Ch.oo rfl rfl rfl (ok_pick_f rfl (vl rfl) rfl (vl rfl)) ?_
   refine Ch.mv rfl rfl rfl rfl rfl ?_
   iterate 3 refine Ch.nd rfl rfl rfl rfl rfl rfl ?_
   refine Ch.oo rfl rfl rfl (ok_pick_f rfl (vl rfl) rfl (vl rfl)) ?_
   refine Ch.as rfl rfl rfl rfl rfl ?_
   refine Ch.nil ?_
   exact Fin.fam_same () (by simp_all) ⟨⟨_, rfl, bool_eq (by first | (simp_all [whereF]; done) | (simp_all [whereF]; omega))⟩, ke rfl, trivial⟩
 ·
  refine Tr.w2 1 3 rfl rfl ?_
  refine Tr.cutk [1, 3] [(4, bool (whenF f))] (True) ?_ (fun h5 => ?_)
  ·
   refine Tr.reg0 ?_
   refine Ch.oo rfl rfl rfl (ok_fieldAddr rfl fo45_3 (vl rfl) rfl) ?_
   refine Ch.oo rfl rfl rfl (ok_load1 rfl one3 (vl rfl)) ?_
   refine Ch.oo rfl rfl rfl (ok_int rfl (vl rfl) (vl rfl) rfl) ?_
   refine Ch.mv rfl rfl rfl rfl rfl ?_
   refine Ch.cs 26 rfl (fun h6 q6 => ?_) (fun h6 q6 => ?_)
   ·
    refine Ch.y h6 rfl rfl rfl rfl rfl (ok_fieldAddr rfl fo45_3 (vl rfl) rfl) ?_
    refine Ch.y h6 rfl rfl rfl rfl rfl (ok_load1 rfl one3 (vl rfl)) ?_
    refine Ch.y h6 rfl rfl rfl rfl rfl (ok_int rfl (vl rfl) (vl rfl) rfl) ?_
    refine Ch.oo rfl rfl rfl (ok_pick_t rfl (vl rfl) h6 (vl rfl)) ?_
    refine Ch.mv rfl rfl rfl rfl rfl ?_
    refine Ch.cs 31 rfl (fun h7 q7 => ?_) (fun h7 q7 => ?_)
    ·
     refine Ch.y h7 rfl rfl rfl rfl rfl (ok_fieldAddr rfl fo45_4 (vl rfl) rfl) ?_
     refine Ch.y h7 rfl rfl rfl rfl rfl (ok_load1 rfl one3 (vl rfl)) ?_
     refine Ch.y h7 rfl rfl rfl rfl rfl (ok_int rfl (vl rfl) (vl rfl) rfl) ?_
     refine Ch.oo rfl rfl rfl (ok_pick_t rfl (vl rfl) h7 (vl rfl)) ?_
     refine Ch.mv rfl rfl rfl rfl rfl ?_
     refine Ch.cs 36 rfl (fun h8 q8 => ?_) (fun h8 q8 => ?_)
     ·
      refine Ch.y h8 rfl rfl rfl rfl rfl (ok_fieldAddr rfl fo45_4 (vl rfl) rfl) ?_
      refine Ch.y h8 rfl rfl rfl rfl rfl (ok_load1 rfl one3 (vl rfl)) ?_
      refine Ch.y h8 rfl rfl rfl rfl rfl (ok_int rfl (vl rfl) (vl rfl) rfl) ?_
      refine Ch.oo rfl rfl rfl (ok_pick_t rfl (vl rfl) h8 (vl rfl)) ?_
      refine Ch.as rfl rfl rfl rfl rfl ?_
      refine Ch.nil ?_
      exact Fin.fam_same () (by simp_all) ⟨⟨_, rfl, bool_eq (by first | (simp_all [whenF]; done) | (simp_all [whenF]; omega))⟩, ke rfl, ke rfl, trivial⟩
     ·
      iterate 3 refine Ch.nt h8 rfl rfl rfl rfl rfl ?_
      refine Ch.oo rfl rfl rfl (ok_pick_f rfl (vl rfl) h8 (vl rfl)) ?_
      refine Ch.as rfl rfl rfl rfl rfl ?_
      refine Ch.nil ?_
      exact Fin.fam_same () (by simp_all) ⟨⟨_, rfl, bool_eq (by first | (simp_all [whenF]; done) | (simp_all [whenF]; omega))⟩, ke rfl, ke rfl, trivial⟩
    ·
     iterate 3 refine Ch.nt h7 rfl rfl rfl rfl rfl ?_
     refine Ch.oo rfl rfl rfl (ok_pick_f rfl (vl rfl) h7 (vl rfl)) ?_
     refine Ch.mv rfl rfl rfl rfl rfl ?_
     iterate 3 refine Ch.nd rfl rfl rfl rfl rfl rfl ?_
     refine Ch.oo rfl rfl rfl (ok_pick_f rfl (vl rfl) rfl (vl rfl)) ?_
     refine Ch.as rfl rfl rfl rfl rfl ?_
     refine Ch.nil ?_
     exact Fin.fam_same () (by simp_all) ⟨⟨_, rfl, bool_eq (by first | (simp_all [whenF]; done) | (simp_all [whenF]; omega))⟩, ke rfl, ke rfl, trivial⟩
   ·
    iterate 3 refine Ch.nt h6 rfl rfl rfl rfl rfl ?_
    refine Ch.oo rfl rfl rfl (ok_pick_f rfl (vl rfl) h6 (vl rfl)) ?_
    refine Ch.mv rfl rfl rfl rfl rfl ?_
    iterate 3 refine Ch.nd rfl rfl rfl rfl rfl rfl ?_
    refine Ch.oo rfl rfl rfl (ok_pick_f rfl (vl rfl) rfl (vl rfl)) ?_
    refine Ch.mv rfl rfl rfl rfl rfl ?_
    iterate 3 refine Ch.nd rfl rfl rfl rfl rfl rfl ?_
    refine Ch.oo rfl rfl rfl (ok_pick_f rfl (vl rfl) rfl (vl rfl)) ?_
    refine Ch.as rfl rfl rfl rfl rfl ?_
    refine Ch.nil ?_
    exact Fin.fam_same () (by simp_all) ⟨⟨_, rfl, bool_eq (by first | (simp_all [whenF]; done) | (simp_all [whenF]; omega))⟩, ke rfl, ke rfl, trivial⟩
  ·
   refine Tr.seq (Tr.seq (Tr.reg0 ?_))
   refine Ch.mv rfl rfl rfl rfl rfl ?_
   refine Ch.oo rfl rfl rfl (ok_not rfl (vl rfl)) ?_
   refine Ch.mv rfl rfl rfl rfl rfl ?_
   refine Ch.cs 43 rfl (fun h9 q9 => ?_) (fun h9 q9 => ?_)
   ·
    refine Ch.nf h9 rfl rfl rfl rfl rfl ?_
    refine Ch.nf h9 rfl rfl rfl rfl rfl ?_
    refine Ch.oo rfl rfl rfl (ok_pick_t rfl (vl rfl) h9 (vl rfl)) ?_
    refine Ch.mv rfl rfl rfl rfl rfl ?_
    iterate 3 refine Ch.nd rfl rfl rfl rfl rfl rfl ?_
    refine Ch.oo rfl rfl rfl (ok_pick_t rfl (vl rfl) rfl (vl rfl)) ?_
    refine Ch.mv rfl rfl rfl rfl rfl ?_
    iterate 3 refine Ch.nd rfl rfl rfl rfl rfl rfl ?_
    refine Ch.oo rfl rfl rfl (ok_pick_t rfl (vl rfl) rfl (vl rfl)) ?_
    refine Ch.mv rfl rfl rfl rfl rfl ?_
    iterate 3 refine Ch.nd rfl rfl rfl rfl rfl rfl ?_
    refine Ch.oo rfl rfl rfl (ok_pick_t rfl (vl rfl) rfl (vl rfl)) ?_
    refine Ch.nil (Fin.go ?_)
    refine Tr.w1 61 rfl ?_
    refine Tr.cond rfl (fun _ => ?_) (fun h => nomatch h)
    refine Tr.seq (Tr.reg0 ?_)
    refine Ch.as rfl rfl rfl rfl rfl ?_
    refine Ch.nil (Fin.go (Tr.ret ?_))
    refine Fin.then_ret ?_
    refine Fin.ret1 rfl (OutW.bse _ _) rfl ?_
    · refine int_eq ?_; unfold checkF; first | (simp_all; done) | (simp_all; omega)
   ·
    refine Ch.ym h9 rfl rfl rfl rfl rfl rfl rfl ?_
    refine Ch.y h9 rfl rfl rfl rfl rfl (ok_not rfl (vl rfl)) ?_
    refine Ch.oo rfl rfl rfl (ok_pick_f rfl (vl rfl) h9 (vl rfl)) ?_
    refine Ch.mv rfl rfl rfl rfl rfl ?_
    refine Ch.cs 47 rfl (fun h10 q10 => ?_) (fun h10 q10 => ?_)
    ·
     iterate 3 refine Ch.nf h10 rfl rfl rfl rfl rfl ?_
     refine Ch.oo rfl rfl rfl (ok_pick_t rfl (vl rfl) h10 (vl rfl)) ?_
     refine Ch.mv rfl rfl rfl rfl rfl ?_
     iterate 3 refine Ch.nd rfl rfl rfl rfl rfl rfl ?_
     refine Ch.oo rfl rfl rfl (ok_pick_t rfl (vl rfl) rfl (vl rfl)) ?_
     refine Ch.mv rfl rfl rfl rfl rfl ?_
     iterate 3 refine Ch.nd rfl rfl rfl rfl rfl rfl ?_
     refine Ch.oo rfl rfl rfl (ok_pick_t rfl (vl rfl) rfl (vl rfl)) ?_
     refine Ch.nil (Fin.go ?_)
     refine Tr.w1 61 rfl ?_
     refine Tr.cond rfl (fun _ => ?_) (fun h => nomatch h)
     refine Tr.seq (Tr.reg0 ?_)
     refine Ch.as rfl rfl rfl rfl rfl ?_
     refine Ch.nil (Fin.go (Tr.ret ?_))
     refine Fin.then_ret ?_
     refine Fin.ret1 rfl (OutW.bse _ _) rfl ?_
     · refine int_eq ?_; unfold checkF; first | (simp_all; done) | (simp_all; omega)
    ·
     refine Ch.y h10 rfl rfl rfl rfl rfl (ok_fieldAddr rfl fo45_0 (vl rfl) rfl) ?_
     refine Ch.y h10 rfl rfl rfl rfl rfl (ok_load1 rfl one3 (vl rfl)) ?_
     refine Ch.y h10 rfl rfl rfl rfl rfl (ok_int rfl (vl rfl) (vl rfl) rfl) ?_
     refine Ch.oo rfl rfl rfl (ok_pick_f rfl (vl rfl) h10 (vl rfl)) ?_
     refine Ch.mv rfl rfl rfl rfl rfl ?_
     refine Ch.cs 52 rfl (fun h11 q11 => ?_) (fun h11 q11 => ?_)
     ·
      iterate 3 refine Ch.nf h11 rfl rfl rfl rfl rfl ?_
      refine Ch.oo rfl rfl rfl (ok_pick_t rfl (vl rfl) h11 (vl rfl)) ?_
      refine Ch.mv rfl rfl rfl rfl rfl ?_
      iterate 3 refine Ch.nd rfl rfl rfl rfl rfl rfl ?_
      refine Ch.oo rfl rfl rfl (ok_pick_t rfl (vl rfl) rfl (vl rfl)) ?_
      refine Ch.nil (Fin.go ?_)
      refine Tr.w1 61 rfl ?_
      refine Tr.cond rfl (fun _ => ?_) (fun h => nomatch h)
      refine Tr.seq (Tr.reg0 ?_)
      refine Ch.as rfl rfl rfl rfl rfl ?_
      refine Ch.nil (Fin.go (Tr.ret ?_))
      refine Fin.then_ret ?_
      refine Fin.ret1 rfl (OutW.bse _ _) rfl ?_
      · refine int_eq ?_; unfold checkF; first | (simp_all; done) | (simp_all; omega)
     ·
      refine Ch.y h11 rfl rfl rfl rfl rfl (ok_fieldAddr rfl fo45_0 (vl rfl) rfl) ?_
      refine Ch.y h11 rfl rfl rfl rfl rfl (ok_load1 rfl one3 (vl rfl)) ?_
      refine Ch.y h11 rfl rfl rfl rfl rfl (ok_int rfl (vl rfl) (vl rfl) rfl) ?_
      refine Ch.oo rfl rfl rfl (ok_pick_f rfl (vl rfl) h11 (vl rfl)) ?_
      refine Ch.mv rfl rfl rfl rfl rfl ?_
      refine Ch.cs 57 rfl (fun h12 q12 => ?_) (fun h12 q12 => ?_)
      ·
       iterate 3 refine Ch.nf h12 rfl rfl rfl rfl rfl ?_
       refine Ch.oo rfl rfl rfl (ok_pick_t rfl (vl rfl) h12 (vl rfl)) ?_
       refine Ch.nil (Fin.go ?_)
       refine Tr.w1 61 rfl ?_
       refine Tr.cond rfl (fun _ => ?_) (fun h => nomatch h)
       refine Tr.seq (Tr.reg0 ?_)
       refine Ch.as rfl rfl rfl rfl rfl ?_
       refine Ch.nil (Fin.go (Tr.ret ?_))
       refine Fin.then_ret ?_
       refine Fin.ret1 rfl (OutW.bse _ _) rfl ?_
       · refine int_eq ?_; unfold checkF; first | (simp_all; done) | (simp_all; omega)
      ·
       refine Ch.y h12 rfl rfl rfl rfl rfl (ok_loadA rfl agg45 sz45 (vl rfl) rfl rfl) ?_
       refine Ch.y h12 rfl rfl rfl rfl rfl (ok_call rfl (w_content (by assumption)) ⟨ke rfl, trivial⟩) ?_
       refine Ch.y h12 rfl rfl rfl rfl rfl (ok_not rfl (vl rfl)) ?_
       refine Ch.oo rfl rfl rfl (ok_pick_f rfl (vl rfl) h12 (vl rfl)) ?_
       refine Ch.nil (Fin.go ?_)
       refine Tr.w1 61 rfl ?_
       refine Tr.cn rfl (fun h13 q13 => ?_) (fun h13 q13 => ?_)
       ·
        refine Tr.seq (Tr.reg0 ?_)
        refine Ch.as rfl rfl rfl rfl rfl ?_
        refine Ch.nil (Fin.go (Tr.ret ?_))
        refine Fin.then_ret ?_
        refine Fin.ret1 rfl (OutW.bse _ _) rfl ?_
        · refine int_eq ?_; unfold checkF; first | (simp_all; done) | (simp_all; omega)
       ·
        refine Tr.skip (Fin.go (Tr.seq (Tr.reg0 ?_)))
        refine Ch.as rfl rfl rfl rfl rfl ?_
        refine Ch.nil (Fin.go (Tr.ret ?_))
        refine Fin.ret1 rfl (OutW.bse _ _) rfl ?_
        · refine int_eq ?_; unfold checkF; first | (simp_all; done) | (simp_all; omega)
end Go.Proofs.Ytgdlhajfajddiaa
namespace Go.Proofs.Ytgdlhajfajddiaa
open Go Go.RowKit Cp
set_option maxRecDepth 20000 in
theorem w_R14Check {f : Fnd}  : Fun Try.prog 18 [agg (rowF f)] (int (if checkF f then 0 else 24)) := by
 refine Fun.of Try.func18 rfl rfl (by exact Nat.le_of_ble_eq_true rfl) fun M0 w0 => ?_
 refine Tr.seq (Tr.reg0 ?_)
 refine Ch.oo rfl rfl rfl (ok_box rfl (VL.le (vl rfl) (agg_cellsP _))) ?_
 refine Ch.as rfl rfl rfl rfl rfl ?_
 refine Ch.nil (Fin.go (Tr.seq (Tr.seq (Tr.reg0 ?_))))
 refine Ch.oo rfl rfl rfl (ok_fieldAddr rfl fo45_0 (vl rfl) rfl) ?_
 refine Ch.oo rfl rfl rfl (ok_load1 rfl one3 (vl rfl)) ?_
 refine Ch.oo rfl rfl rfl (ok_int rfl (vl rfl) (vl rfl) rfl) ?_
 refine Ch.mv rfl rfl rfl rfl rfl ?_
 refine Ch.cs 10 rfl (fun h1 q1 => ?_) (fun h1 q1 => ?_)
 ·
  iterate 3 refine Ch.nf h1 rfl rfl rfl rfl rfl ?_
  refine Ch.oo rfl rfl rfl (ok_pick_t rfl (vl rfl) h1 (vl rfl)) ?_
  refine Ch.mv rfl rfl rfl rfl rfl ?_
  iterate 4 refine Ch.nd rfl rfl rfl rfl rfl rfl ?_
  refine Ch.oo rfl rfl rfl (ok_pick_t rfl (vl rfl) rfl (vl rfl)) ?_
  refine Ch.mv rfl rfl rfl rfl rfl ?_
  iterate 3 refine Ch.nd rfl rfl rfl rfl rfl rfl ?_
  refine Ch.oo rfl rfl rfl (ok_pick_t rfl (vl rfl) rfl (vl rfl)) ?_
  refine Ch.mv rfl rfl rfl rfl rfl ?_
  iterate 3 refine Ch.nd rfl rfl rfl rfl rfl rfl ?_
  refine Ch.oo rfl rfl rfl (ok_pick_t rfl (vl rfl) rfl (vl rfl)) ?_
  refine Ch.mv rfl rfl rfl rfl rfl ?_
  iterate 3 refine Ch.nd rfl rfl rfl rfl rfl rfl ?_
  refine Ch.oo rfl rfl rfl (ok_pick_t rfl (vl rfl) rfl (vl rfl)) ?_
  refine Ch.mv rfl rfl rfl rfl rfl ?_
  iterate 3 refine Ch.nd rfl rfl rfl rfl rfl rfl ?_
  refine Ch.oo rfl rfl rfl (ok_pick_t rfl (vl rfl) rfl (vl rfl)) ?_
  refine Ch.mv rfl rfl rfl rfl rfl ?_
  iterate 3 refine Ch.nd rfl rfl rfl rfl rfl rfl ?_
  refine Ch.oo rfl rfl rfl (ok_pick_t rfl (vl rfl) rfl (vl rfl)) ?_
  refine Ch.mv rfl rfl rfl rfl rfl ?_
  iterate 3 refine Ch.nd rfl rfl rfl rfl rfl rfl ?_
  refine Ch.oo rfl rfl rfl (ok_pick_t rfl (vl rfl) rfl (vl rfl)) ?_
  refine Ch.mv rfl rfl rfl rfl rfl ?_
  iterate 4 refine Ch.nd rfl rfl rfl rfl rfl rfl ?_
  refine Ch.oo rfl rfl rfl (ok_pick_t rfl (vl rfl) rfl (vl rfl)) ?_
  refine Ch.nil (Fin.go ?_)
  refine Tr.w2 1 56 rfl rfl ?_
  refine Tr.cond rfl (fun _ => ?_) (fun h => nomatch h)
  refine Tr.seq (Tr.reg0 ?_)
  refine Ch.as rfl rfl rfl rfl rfl ?_
  refine Ch.nil (Fin.go (Tr.ret ?_))
  refine Fin.then_ret ?_
  refine Fin.ret1 rfl (OutW.bse _ _) rfl ?_
  · refine int_eq ?_; unfold checkF whereF whenF; first | (simp_all; done) | (simp_all; omega)
 ·
  refine Ch.y h1 rfl rfl rfl rfl rfl (ok_fieldAddr rfl fo45_0 (vl rfl) rfl) ?_
  refine Ch.y h1 rfl rfl rfl rfl rfl (ok_load1 rfl one3 (vl rfl)) ?_
  refine Ch.y h1 rfl rfl rfl rfl rfl (ok_int rfl (vl rfl) (vl rfl) rfl) ?_
  refine Ch.oo rfl rfl rfl (ok_pick_f rfl (vl rfl) h1 (vl rfl)) ?_
  refine Ch.mv rfl rfl rfl rfl rfl ?_
  refine Ch.cs 15 rfl (fun h2 q2 => ?_) (fun h2 q2 => ?_)
  ·
   iterate 4 refine Ch.nf h2 rfl rfl rfl rfl rfl ?_
   refine Ch.oo rfl rfl rfl (ok_pick_t rfl (vl rfl) h2 (vl rfl)) ?_
   refine Ch.mv rfl rfl rfl rfl rfl ?_
   iterate 3 refine Ch.nd rfl rfl rfl rfl rfl rfl ?_
   refine Ch.oo rfl rfl rfl (ok_pick_t rfl (vl rfl) rfl (vl rfl)) ?_
   refine Ch.mv rfl rfl rfl rfl rfl ?_
   iterate 3 refine Ch.nd rfl rfl rfl rfl rfl rfl ?_
   refine Ch.oo rfl rfl rfl (ok_pick_t rfl (vl rfl) rfl (vl rfl)) ?_
   refine Ch.mv rfl rfl rfl rfl rfl ?_
   iterate 3 refine Ch.nd rfl rfl rfl rfl rfl rfl ?_
   refine Ch.oo rfl rfl rfl (ok_pick_t rfl (vl rfl) rfl (vl rfl)) ?_
   refine Ch.mv rfl rfl rfl rfl rfl ?_
   iterate 3 refine Ch.nd rfl rfl rfl rfl rfl rfl ?_
   refine Ch.oo rfl rfl rfl (ok_pick_t rfl (vl rfl) rfl (vl rfl)) ?_
   refine Ch.mv rfl rfl rfl rfl rfl ?_
   iterate 3 refine Ch.nd rfl rfl rfl rfl rfl rfl ?_
   refine Ch.oo rfl rfl rfl (ok_pick_t rfl (vl rfl) rfl (vl rfl)) ?_
   refine Ch.mv rfl rfl rfl rfl rfl ?_
   iterate 3 refine Ch.nd rfl rfl rfl rfl rfl rfl ?_
   refine Ch.oo rfl rfl rfl (ok_pick_t rfl (vl rfl) rfl (vl rfl)) ?_
   refine Ch.mv rfl rfl rfl rfl rfl ?_
   iterate 4 refine Ch.nd rfl rfl rfl rfl rfl rfl ?_
   refine Ch.oo rfl rfl rfl (ok_pick_t rfl (vl rfl) rfl (vl rfl)) ?_
   refine Ch.nil (Fin.go ?_)
   refine Tr.w2 1 56 rfl rfl ?_
   refine Tr.cond rfl (fun _ => ?_) (fun h => nomatch h)
   refine Tr.seq (Tr.reg0 ?_)
   refine Ch.as rfl rfl rfl rfl rfl ?_
   refine Ch.nil (Fin.go (Tr.ret ?_))
   refine Fin.then_ret ?_
   refine Fin.ret1 rfl (OutW.bse _ _) rfl ?_
   · refine int_eq ?_; unfold checkF whereF whenF; first | (simp_all; done) | (simp_all; omega)
  ·
   refine Ch.y h2 rfl rfl rfl rfl rfl (ok_fieldAddr rfl fo45_1 (vl rfl) rfl) ?_
   refine Ch.y h2 rfl rfl rfl rfl rfl (ok_load1 rfl one9 (vl rfl)) ?_
   refine Ch.y h2 rfl rfl rfl rfl rfl (ok_call rfl (w_RName) ⟨ke rfl, trivial⟩) ?_
   refine Ch.y h2 rfl rfl rfl rfl rfl (ok_not rfl (vl rfl)) ?_
   refine Ch.oo rfl rfl rfl (ok_pick_f rfl (vl rfl) h2 (vl rfl)) ?_
   refine Ch.mv rfl rfl rfl rfl rfl ?_
   refine Ch.cs 21 rfl (fun h3 q3 => ?_) (fun h3 q3 => ?_)
   ·
    iterate 3 refine Ch.nf h3 rfl rfl rfl rfl rfl ?_
    refine Ch.oo rfl rfl rfl (ok_pick_t rfl (vl rfl) h3 (vl rfl)) ?_
    refine Ch.mv rfl rfl rfl rfl rfl ?_
    iterate 3 refine Ch.nd rfl rfl rfl rfl rfl rfl ?_
    refine Ch.oo rfl rfl rfl (ok_pick_t rfl (vl rfl) rfl (vl rfl)) ?_
    refine Ch.mv rfl rfl rfl rfl rfl ?_
    iterate 3 refine Ch.nd rfl rfl rfl rfl rfl rfl ?_
    refine Ch.oo rfl rfl rfl (ok_pick_t rfl (vl rfl) rfl (vl rfl)) ?_
    refine Ch.mv rfl rfl rfl rfl rfl ?_
    iterate 3 refine Ch.nd rfl rfl rfl rfl rfl rfl ?_
    refine Ch.oo rfl rfl rfl (ok_pick_t rfl (vl rfl) rfl (vl rfl)) ?_
    refine Ch.mv rfl rfl rfl rfl rfl ?_
    iterate 3 refine Ch.nd rfl rfl rfl rfl rfl rfl ?_
    refine Ch.oo rfl rfl rfl (ok_pick_t rfl (vl rfl) rfl (vl rfl)) ?_
    refine Ch.mv rfl rfl rfl rfl rfl ?_
    iterate 3 refine Ch.nd rfl rfl rfl rfl rfl rfl ?_
    refine Ch.oo rfl rfl rfl (ok_pick_t rfl (vl rfl) rfl (vl rfl)) ?_
    refine Ch.mv rfl rfl rfl rfl rfl ?_
    iterate 4 refine Ch.nd rfl rfl rfl rfl rfl rfl ?_
    refine Ch.oo rfl rfl rfl (ok_pick_t rfl (vl rfl) rfl (vl rfl)) ?_
    refine Ch.nil (Fin.go ?_)
    refine Tr.w2 1 56 rfl rfl ?_
    refine Tr.cond rfl (fun _ => ?_) (fun h => nomatch h)
    refine Tr.seq (Tr.reg0 ?_)
    refine Ch.as rfl rfl rfl rfl rfl ?_
    refine Ch.nil (Fin.go (Tr.ret ?_))
    refine Fin.then_ret ?_
    refine Fin.ret1 rfl (OutW.bse _ _) rfl ?_
    · refine int_eq ?_; unfold checkF whereF whenF; first | (simp_all; done) | (simp_all; omega)
   ·
    refine Ch.y h3 rfl rfl rfl rfl rfl (ok_fieldAddr rfl fo45_2 (vl rfl) rfl) ?_
    refine Ch.y h3 rfl rfl rfl rfl rfl (ok_load1 rfl one3 (vl rfl)) ?_
    refine Ch.y h3 rfl rfl rfl rfl rfl (ok_int rfl (vl rfl) (vl rfl) rfl) ?_
    refine Ch.oo rfl rfl rfl (ok_pick_f rfl (vl rfl) h3 (vl rfl)) ?_
    refine Ch.mv rfl rfl rfl rfl rfl ?_
    refine Ch.cs 26 rfl (fun h4 q4 => ?_) (fun h4 q4 => ?_)
    ·
     iterate 3 refine Ch.nf h4 rfl rfl rfl rfl rfl ?_
     refine Ch.oo rfl rfl rfl (ok_pick_t rfl (vl rfl) h4 (vl rfl)) ?_
     refine Ch.mv rfl rfl rfl rfl rfl ?_
     iterate 3 refine Ch.nd rfl rfl rfl rfl rfl rfl ?_
     refine Ch.oo rfl rfl rfl (ok_pick_t rfl (vl rfl) rfl (vl rfl)) ?_
     refine Ch.mv rfl rfl rfl rfl rfl ?_
     iterate 3 refine Ch.nd rfl rfl rfl rfl rfl rfl ?_
     refine Ch.oo rfl rfl rfl (ok_pick_t rfl (vl rfl) rfl (vl rfl)) ?_
     refine Ch.mv rfl rfl rfl rfl rfl ?_
     iterate 3 refine Ch.nd rfl rfl rfl rfl rfl rfl ?_
     refine Ch.oo rfl rfl rfl (ok_pick_t rfl (vl rfl) rfl (vl rfl)) ?_
     refine Ch.mv rfl rfl rfl rfl rfl ?_
     iterate 3 refine Ch.nd rfl rfl rfl rfl rfl rfl ?_
     refine Ch.oo rfl rfl rfl (ok_pick_t rfl (vl rfl) rfl (vl rfl)) ?_
     refine Ch.mv rfl rfl rfl rfl rfl ?_
     iterate 4 refine Ch.nd rfl rfl rfl rfl rfl rfl ?_
     refine Ch.oo rfl rfl rfl (ok_pick_t rfl (vl rfl) rfl (vl rfl)) ?_
     refine Ch.nil (Fin.go ?_)
     refine Tr.w2 1 56 rfl rfl ?_
     refine Tr.cond rfl (fun _ => ?_) (fun h => nomatch h)
     refine Tr.seq (Tr.reg0 ?_)
     refine Ch.as rfl rfl rfl rfl rfl ?_
     refine Ch.nil (Fin.go (Tr.ret ?_))
     refine Fin.then_ret ?_
     refine Fin.ret1 rfl (OutW.bse _ _) rfl ?_
     · refine int_eq ?_; unfold checkF whereF whenF; first | (simp_all; done) | (simp_all; omega)
    ·
     refine Ch.y h4 rfl rfl rfl rfl rfl (ok_fieldAddr rfl fo45_2 (vl rfl) rfl) ?_
     refine Ch.y h4 rfl rfl rfl rfl rfl (ok_load1 rfl one3 (vl rfl)) ?_
     refine Ch.y h4 rfl rfl rfl rfl rfl (ok_int rfl (vl rfl) (vl rfl) rfl) ?_
     refine Ch.oo rfl rfl rfl (ok_pick_f rfl (vl rfl) h4 (vl rfl)) ?_
     refine Ch.mv rfl rfl rfl rfl rfl ?_
     refine Ch.cs 31 rfl (fun h5 q5 => ?_) (fun h5 q5 => ?_)
     ·
      iterate 3 refine Ch.nf h5 rfl rfl rfl rfl rfl ?_
      refine Ch.oo rfl rfl rfl (ok_pick_t rfl (vl rfl) h5 (vl rfl)) ?_
      refine Ch.mv rfl rfl rfl rfl rfl ?_
      iterate 3 refine Ch.nd rfl rfl rfl rfl rfl rfl ?_
      refine Ch.oo rfl rfl rfl (ok_pick_t rfl (vl rfl) rfl (vl rfl)) ?_
      refine Ch.mv rfl rfl rfl rfl rfl ?_
      iterate 3 refine Ch.nd rfl rfl rfl rfl rfl rfl ?_
      refine Ch.oo rfl rfl rfl (ok_pick_t rfl (vl rfl) rfl (vl rfl)) ?_
      refine Ch.mv rfl rfl rfl rfl rfl ?_
      iterate 3 refine Ch.nd rfl rfl rfl rfl rfl rfl ?_
      refine Ch.oo rfl rfl rfl (ok_pick_t rfl (vl rfl) rfl (vl rfl)) ?_
      refine Ch.mv rfl rfl rfl rfl rfl ?_
      iterate 4 refine Ch.nd rfl rfl rfl rfl rfl rfl ?_
      refine Ch.oo rfl rfl rfl (ok_pick_t rfl (vl rfl) rfl (vl rfl)) ?_
      refine Ch.nil (Fin.go ?_)
      refine Tr.w2 1 56 rfl rfl ?_
      refine Tr.cond rfl (fun _ => ?_) (fun h => nomatch h)
      refine Tr.seq (Tr.reg0 ?_)
      refine Ch.as rfl rfl rfl rfl rfl ?_
      refine Ch.nil (Fin.go (Tr.ret ?_))
      refine Fin.then_ret ?_
      refine Fin.ret1 rfl (OutW.bse _ _) rfl ?_
      · refine int_eq ?_; unfold checkF whereF whenF; first | (simp_all; done) | (simp_all; omega)
     ·
      refine Ch.y h5 rfl rfl rfl rfl rfl (ok_fieldAddr rfl fo45_3 (vl rfl) rfl) ?_
      refine Ch.y h5 rfl rfl rfl rfl rfl (ok_load1 rfl one3 (vl rfl)) ?_
      refine Ch.y h5 rfl rfl rfl rfl rfl (ok_int rfl (vl rfl) (vl rfl) rfl) ?_
      refine Ch.oo rfl rfl rfl (ok_pick_f rfl (vl rfl) h5 (vl rfl)) ?_
      refine Ch.mv rfl rfl rfl rfl rfl ?_
      refine Ch.cs 36 rfl (fun h6 q6 => ?_) (fun h6 q6 => ?_)
      ·
       iterate 3 refine Ch.nf h6 rfl rfl rfl rfl rfl ?_
       refine Ch.oo rfl rfl rfl (ok_pick_t rfl (vl rfl) h6 (vl rfl)) ?_
       refine Ch.mv rfl rfl rfl rfl rfl ?_
       iterate 3 refine Ch.nd rfl rfl rfl rfl rfl rfl ?_
       refine Ch.oo rfl rfl rfl (ok_pick_t rfl (vl rfl) rfl (vl rfl)) ?_
       refine Ch.mv rfl rfl rfl rfl rfl ?_
       iterate 3 refine Ch.nd rfl rfl rfl rfl rfl rfl ?_
       refine Ch.oo rfl rfl rfl (ok_pick_t rfl (vl rfl) rfl (vl rfl)) ?_
       refine Ch.mv rfl rfl rfl rfl rfl ?_
       iterate 4 refine Ch.nd rfl rfl rfl rfl rfl rfl ?_
       refine Ch.oo rfl rfl rfl (ok_pick_t rfl (vl rfl) rfl (vl rfl)) ?_
       refine Ch.nil (Fin.go ?_)
       refine Tr.w2 1 56 rfl rfl ?_
       refine Tr.cond rfl (fun _ => ?_) (fun h => nomatch h)
       refine Tr.seq (Tr.reg0 ?_)
       refine Ch.as rfl rfl rfl rfl rfl ?_
       refine Ch.nil (Fin.go (Tr.ret ?_))
       refine Fin.then_ret ?_
       refine Fin.ret1 rfl (OutW.bse _ _) rfl ?_
       · refine int_eq ?_; unfold checkF whereF whenF; first | (simp_all; done) | (simp_all; omega)
      ·
       refine Ch.y h6 rfl rfl rfl rfl rfl (ok_fieldAddr rfl fo45_3 (vl rfl) rfl) ?_
       refine Ch.y h6 rfl rfl rfl rfl rfl (ok_load1 rfl one3 (vl rfl)) ?_
       refine Ch.y h6 rfl rfl rfl rfl rfl (ok_int rfl (vl rfl) (vl rfl) rfl) ?_
       refine Ch.oo rfl rfl rfl (ok_pick_f rfl (vl rfl) h6 (vl rfl)) ?_
       refine Ch.mv rfl rfl rfl rfl rfl ?_
       refine Ch.cs 41 rfl (fun h7 q7 => ?_) (fun h7 q7 => ?_)
       ·
        iterate 3 refine Ch.nf h7 rfl rfl rfl rfl rfl ?_
        refine Ch.oo rfl rfl rfl (ok_pick_t rfl (vl rfl) h7 (vl rfl)) ?_
        refine Ch.mv rfl rfl rfl rfl rfl ?_
        iterate 3 refine Ch.nd rfl rfl rfl rfl rfl rfl ?_
        refine Ch.oo rfl rfl rfl (ok_pick_t rfl (vl rfl) rfl (vl rfl)) ?_
        refine Ch.mv rfl rfl rfl rfl rfl ?_
        iterate 4 refine Ch.nd rfl rfl rfl rfl rfl rfl ?_
        refine Ch.oo rfl rfl rfl (ok_pick_t rfl (vl rfl) rfl (vl rfl)) ?_
        refine Ch.nil (Fin.go ?_)
        refine Tr.w2 1 56 rfl rfl ?_
        refine Tr.cond rfl (fun _ => ?_) (fun h => nomatch h)
        refine Tr.seq (Tr.reg0 ?_)
        refine Ch.as rfl rfl rfl rfl rfl ?_
        refine Ch.nil (Fin.go (Tr.ret ?_))
        refine Fin.then_ret ?_
        refine Fin.ret1 rfl (OutW.bse _ _) rfl ?_
        · refine int_eq ?_; unfold checkF whereF whenF; first | (simp_all; done) | (simp_all; omega)
       ·
        refine Ch.y h7 rfl rfl rfl rfl rfl (ok_fieldAddr rfl fo45_4 (vl rfl) rfl) ?_
        refine Ch.y h7 rfl rfl rfl rfl rfl (ok_load1 rfl one3 (vl rfl)) ?_
        refine Ch.y h7 rfl rfl rfl rfl rfl (ok_int rfl (vl rfl) (vl rfl) rfl) ?_
        refine Ch.oo rfl rfl rfl (ok_pick_f rfl (vl rfl) h7 (vl rfl)) ?_
        refine Ch.mv rfl rfl rfl rfl rfl ?_
        refine Ch.cs 46 rfl (fun h8 q8 => ?_) (fun h8 q8 => ?_)
        ·
         iterate 3 refine Ch.nf h8 rfl rfl rfl rfl rfl ?_
         refine Ch.oo rfl rfl rfl (ok_pick_t rfl (vl rfl) h8 (vl rfl)) ?_
         refine Ch.mv rfl rfl rfl rfl rfl ?_
         iterate 4 refine Ch.nd rfl rfl rfl rfl rfl rfl ?_
         refine Ch.oo rfl rfl rfl (ok_pick_t rfl (vl rfl) rfl (vl rfl)) ?_
         refine Ch.nil (Fin.go ?_)
         refine Tr.w2 1 56 rfl rfl ?_
         refine Tr.cond rfl (fun _ => ?_) (fun h => nomatch h)
         refine Tr.seq (Tr.reg0 ?_)
         refine Ch.as rfl rfl rfl rfl rfl ?_
         refine Ch.nil (Fin.go (Tr.ret ?_))
         refine Fin.then_ret ?_
         refine Fin.ret1 rfl (OutW.bse _ _) rfl ?_
         · refine int_eq ?_; unfold checkF whereF whenF; first | (simp_all; done) | (simp_all; omega)
        ·
         refine Ch.y h8 rfl rfl rfl rfl rfl (ok_fieldAddr rfl fo45_4 (vl rfl) rfl) ?_
         refine Ch.y h8 rfl rfl rfl rfl rfl (ok_load1 rfl one3 (vl rfl)) ?_
         refine Ch.y h8 rfl rfl rfl rfl rfl (ok_int rfl (vl rfl) (vl rfl) rfl) ?_
         refine Ch.oo rfl rfl rfl (ok_pick_f rfl (vl rfl) h8 (vl rfl)) ?_
         refine Ch.mv rfl rfl rfl rfl rfl ?_
         refine Ch.cs 51 rfl (fun h9 q9 => ?_) (fun h9 q9 => ?_)
         ·
          iterate 4 refine Ch.nf h9 rfl rfl rfl rfl rfl ?_
          refine Ch.oo rfl rfl rfl (ok_pick_t rfl (vl rfl) h9 (vl rfl)) ?_
          refine Ch.nil (Fin.go ?_)
          refine Tr.w2 1 56 rfl rfl ?_
          refine Tr.cond rfl (fun _ => ?_) (fun h => nomatch h)
          refine Tr.seq (Tr.reg0 ?_)
          refine Ch.as rfl rfl rfl rfl rfl ?_
          refine Ch.nil (Fin.go (Tr.ret ?_))
          refine Fin.then_ret ?_
          refine Fin.ret1 rfl (OutW.bse _ _) rfl ?_
          · refine int_eq ?_; unfold checkF whereF whenF; first | (simp_all; done) | (simp_all; omega)
         ·
          refine Ch.y h9 rfl rfl rfl rfl rfl (ok_fieldAddr rfl fo45_6 (vl rfl) rfl) ?_
          refine Ch.y h9 rfl rfl rfl rfl rfl (ok_load1 rfl one9 (vl rfl)) ?_
          refine Ch.y h9 rfl rfl rfl rfl rfl (ok_call rfl (w_RName) ⟨ke rfl, trivial⟩) ?_
          refine Ch.y h9 rfl rfl rfl rfl rfl (ok_not rfl (vl rfl)) ?_
          refine Ch.oo rfl rfl rfl (ok_pick_f rfl (vl rfl) h9 (vl rfl)) ?_
          refine Ch.nil (Fin.go ?_)
          refine Tr.w2 1 56 rfl rfl ?_
          refine Tr.cn rfl (fun h10 q10 => ?_) (fun h10 q10 => ?_)
          ·
           refine Tr.seq (Tr.reg0 ?_)
           refine Ch.as rfl rfl rfl rfl rfl ?_
           refine Ch.nil (Fin.go (Tr.ret ?_))
           refine Fin.then_ret ?_
           refine Fin.ret1 rfl (OutW.bse _ _) rfl ?_
           · refine int_eq ?_; unfold checkF whereF whenF; first | (simp_all; done) | (simp_all; omega)
          ·
           refine Tr.skip (Fin.go (Tr.seq ?_))
           refine Tr.reg1 mixed (by kernel_rfl) ?_
           refine Ch.oo rfl rfl rfl (ok_fieldAddr rfl fo45_7 (vl rfl) rfl) ?_
           refine Ch.oo rfl rfl rfl (ok_loadA rfl agg43 sz43 (vl rfl) rfl rfl) ?_
           refine Ch.oo rfl rfl rfl (ok_build (rows := []) rfl bl43 zo43 trivial rfl) ?_
           refine Ch.oo rfl rfl rfl (ok_eq43 rfl (vl rfl) (vl rfl)) ?_
           refine Ch.oo rfl rfl rfl (ok_fieldAddr rfl fo45_8 (vl rfl) rfl) ?_
           refine Ch.oo rfl rfl rfl (ok_load1 rfl one3 (vl rfl)) ?_
           refine Ch.oo rfl rfl rfl (ok_int rfl (vl rfl) (vl rfl) rfl) ?_
           refine Ch.oo rfl rfl rfl (ok_fieldAddr rfl fo45_9 (vl rfl) rfl) ?_
           refine Ch.oo rfl rfl rfl (ok_load1 rfl one9 (vl rfl)) ?_
           refine Ch.oo rfl rfl rfl (ok_eqs rfl (vl rfl) (vl rfl)) ?_
           iterate 3 refine Ch.as rfl rfl rfl rfl rfl ?_
           refine Ch.nil (Fin.go ?_)
           refine Tr.w4 1 3 4 5 rfl rfl rfl rfl ?_
           refine Tr.seq (Tr.reg0 ?_)
           refine Ch.as rfl rfl rfl rfl rfl ?_
           refine Ch.nil (Fin.go ?_)
           refine Tr.cutk [] [(6, bool (contentF f))] (True) ?_ (fun h11 => ?_)
           ·
            refine Tr.seq (Tr.reg0 ?_)
            refine Ch.oo rfl rfl rfl (ok_fieldAddr rfl fo45_5 (vl rfl) rfl) ?_
            refine Ch.oo rfl rfl rfl (ok_load1 rfl one3 (vl rfl)) ?_
            refine Ch.nil (Fin.go (Tr.block (Tr.seq (Tr.seq (Tr.reg0 ?_)))))
            refine Ch.oo rfl rfl rfl (ok_int rfl (vl rfl) (vl rfl) rfl) ?_
            refine Ch.as rfl rfl rfl rfl rfl ?_
            refine Ch.nil (Fin.go ?_)
            refine Tr.cn rfl (fun h12 q12 => ?_) (fun h12 q12 => ?_)
            ·
             refine Tr.skip (Fin.go ?_)
             refine Tr.cond rfl (fun _ => ?_) (fun h => nomatch h12.symm.trans h)
             refine Tr.reg0 ?_
             refine Ch.oo rfl rfl rfl (ok_fieldAddr rfl fo45_7 (vl rfl) rfl) ?_
             refine Ch.oo rfl rfl rfl (ok_loadA rfl agg43 sz43 (vl rfl) rfl rfl) ?_
             refine Ch.oo rfl rfl rfl (ok_call rfl (w_RValid) ⟨ke rfl, trivial⟩) ?_
             refine Ch.mv rfl rfl rfl rfl rfl ?_
             refine Ch.cs 75 rfl (fun h13 q13 => ?_) (fun h13 q13 => ?_)
             ·
              refine Ch.ym h13 rfl rfl rfl rfl rfl rfl rfl ?_
              refine Ch.oo rfl rfl rfl (ok_pick_t rfl (vl rfl) h13 (vl rfl)) ?_
              refine Ch.mv rfl rfl rfl rfl rfl ?_
              refine Ch.cs 78 rfl (fun h14 q14 => ?_) (fun h14 q14 => ?_)
              ·
               refine Ch.ym h14 rfl rfl rfl rfl rfl rfl rfl ?_
               refine Ch.oo rfl rfl rfl (ok_pick_t rfl (vl rfl) h14 (vl rfl)) ?_
               refine Ch.as rfl rfl rfl rfl rfl ?_
               refine Ch.nil (Fin.block ?_)
               exact Fin.fam_same () (by simp_all) ⟨⟨_, rfl, bool_eq (by unfold contentF bareF; first | (simp_all; done) | (simp_all; omega))⟩, trivial⟩
              ·
               refine Ch.nt h14 rfl rfl rfl rfl rfl ?_
               refine Ch.oo rfl rfl rfl (ok_pick_f rfl (vl rfl) h14 (vl rfl)) ?_
               refine Ch.as rfl rfl rfl rfl rfl ?_
               refine Ch.nil (Fin.block ?_)
               exact Fin.fam_same () (by simp_all) ⟨⟨_, rfl, bool_eq (by unfold contentF bareF; first | (simp_all; done) | (simp_all; omega))⟩, trivial⟩
             ·
              refine Ch.nt h13 rfl rfl rfl rfl rfl ?_
              refine Ch.oo rfl rfl rfl (ok_pick_f rfl (vl rfl) h13 (vl rfl)) ?_
              refine Ch.mv rfl rfl rfl rfl rfl ?_
              refine Ch.nd rfl rfl rfl rfl rfl rfl ?_
              refine Ch.oo rfl rfl rfl (ok_pick_f rfl (vl rfl) rfl (vl rfl)) ?_
              refine Ch.as rfl rfl rfl rfl rfl ?_
              refine Ch.nil (Fin.block ?_)
              exact Fin.fam_same () (by simp_all) ⟨⟨_, rfl, bool_eq (by unfold contentF bareF; first | (simp_all; done) | (simp_all; omega))⟩, trivial⟩
            ·
             refine Tr.reg0 ?_
             refine Ch.oo rfl rfl rfl (ok_int rfl (vl rfl) (vl rfl) rfl) ?_
             refine Ch.as rfl rfl rfl rfl rfl ?_
             refine Ch.nil (Fin.go ?_)
             refine Tr.cn rfl (fun h15 q15 => ?_) (fun h15 q15 => ?_)
             ·
              refine Tr.reg0 ?_
              refine Ch.oo rfl rfl rfl (ok_fieldAddr rfl fo45_7 (vl rfl) rfl) ?_
              refine Ch.oo rfl rfl rfl (ok_loadA rfl agg43 sz43 (vl rfl) rfl rfl) ?_
              refine Ch.oo rfl rfl rfl (ok_call rfl (w_RValid) ⟨ke rfl, trivial⟩) ?_
              refine Ch.mv rfl rfl rfl rfl rfl ?_
              refine Ch.cs 75 rfl (fun h16 q16 => ?_) (fun h16 q16 => ?_)
              ·
               refine Ch.ym h16 rfl rfl rfl rfl rfl rfl rfl ?_
               refine Ch.oo rfl rfl rfl (ok_pick_t rfl (vl rfl) h16 (vl rfl)) ?_
               refine Ch.mv rfl rfl rfl rfl rfl ?_
               refine Ch.cs 78 rfl (fun h17 q17 => ?_) (fun h17 q17 => ?_)
               ·
                refine Ch.ym h17 rfl rfl rfl rfl rfl rfl rfl ?_
                refine Ch.oo rfl rfl rfl (ok_pick_t rfl (vl rfl) h17 (vl rfl)) ?_
                refine Ch.as rfl rfl rfl rfl rfl ?_
                refine Ch.nil (Fin.block ?_)
                exact Fin.fam_same () (by simp_all) ⟨⟨_, rfl, bool_eq (by unfold contentF bareF; first | (simp_all; done) | (simp_all; omega))⟩, trivial⟩
               ·
                refine Ch.nt h17 rfl rfl rfl rfl rfl ?_
                refine Ch.oo rfl rfl rfl (ok_pick_f rfl (vl rfl) h17 (vl rfl)) ?_
                refine Ch.as rfl rfl rfl rfl rfl ?_
                refine Ch.nil (Fin.block ?_)
                exact Fin.fam_same () (by simp_all) ⟨⟨_, rfl, bool_eq (by unfold contentF bareF; first | (simp_all; done) | (simp_all; omega))⟩, trivial⟩
              ·
               refine Ch.nt h16 rfl rfl rfl rfl rfl ?_
               refine Ch.oo rfl rfl rfl (ok_pick_f rfl (vl rfl) h16 (vl rfl)) ?_
               refine Ch.mv rfl rfl rfl rfl rfl ?_
               refine Ch.nd rfl rfl rfl rfl rfl rfl ?_
               refine Ch.oo rfl rfl rfl (ok_pick_f rfl (vl rfl) rfl (vl rfl)) ?_
               refine Ch.as rfl rfl rfl rfl rfl ?_
               refine Ch.nil (Fin.block ?_)
               exact Fin.fam_same () (by simp_all) ⟨⟨_, rfl, bool_eq (by unfold contentF bareF; first | (simp_all; done) | (simp_all; omega))⟩, trivial⟩
             ·
              refine Tr.seq (Tr.reg0 ?_)
              refine Ch.oo rfl rfl rfl (ok_int rfl (vl rfl) (vl rfl) rfl) ?_
              refine Ch.as rfl rfl rfl rfl rfl ?_
              refine Ch.nil (Fin.go ?_)
              refine Tr.cn rfl (fun h18 q18 => ?_) (fun h18 q18 => ?_)
              ·
               refine Tr.reg0 ?_
               refine Ch.mv rfl rfl rfl rfl rfl ?_
               refine Ch.mv rfl rfl rfl rfl rfl ?_
               refine Ch.cs 84 rfl (fun h19 q19 => ?_) (fun h19 q19 => ?_)
               ·
                refine Ch.y h19 rfl rfl rfl rfl rfl (ok_fieldAddr rfl fo45_8 (vl rfl) rfl) ?_
                refine Ch.y h19 rfl rfl rfl rfl rfl (ok_load1 rfl one3 (vl rfl)) ?_
                refine Ch.y h19 rfl rfl rfl rfl rfl (ok_int rfl (vl rfl) (vl rfl) rfl) ?_
                refine Ch.oo rfl rfl rfl (ok_pick_t rfl (vl rfl) h19 (vl rfl)) ?_
                refine Ch.mv rfl rfl rfl rfl rfl ?_
                refine Ch.cs 89 rfl (fun h20 q20 => ?_) (fun h20 q20 => ?_)
                ·
                 refine Ch.y h20 rfl rfl rfl rfl rfl (ok_fieldAddr rfl fo45_8 (vl rfl) rfl) ?_
                 refine Ch.y h20 rfl rfl rfl rfl rfl (ok_load1 rfl one3 (vl rfl)) ?_
                 refine Ch.y h20 rfl rfl rfl rfl rfl (ok_int rfl (vl rfl) (vl rfl) rfl) ?_
                 refine Ch.oo rfl rfl rfl (ok_pick_t rfl (vl rfl) h20 (vl rfl)) ?_
                 refine Ch.mv rfl rfl rfl rfl rfl ?_
                 refine Ch.cs 94 rfl (fun h21 q21 => ?_) (fun h21 q21 => ?_)
                 ·
                  refine Ch.ym h21 rfl rfl rfl rfl rfl rfl rfl ?_
                  refine Ch.oo rfl rfl rfl (ok_pick_t rfl (vl rfl) h21 (vl rfl)) ?_
                  refine Ch.as rfl rfl rfl rfl rfl ?_
                  refine Ch.nil (Fin.block ?_)
                  exact Fin.fam_same () (by simp_all) ⟨⟨_, rfl, bool_eq (by unfold contentF bareF; first | (simp_all; done) | (simp_all; omega))⟩, trivial⟩
                 ·
                  refine Ch.nt h21 rfl rfl rfl rfl rfl ?_
                  refine Ch.oo rfl rfl rfl (ok_pick_f rfl (vl rfl) h21 (vl rfl)) ?_
                  refine Ch.as rfl rfl rfl rfl rfl ?_
                  refine Ch.nil (Fin.block ?_)
                  exact Fin.fam_same () (by simp_all) ⟨⟨_, rfl, bool_eq (by unfold contentF bareF; first | (simp_all; done) | (simp_all; omega))⟩, trivial⟩
                ·
                 iterate 3 refine Ch.nt h20 rfl rfl rfl rfl rfl ?_
                 refine Ch.oo rfl rfl rfl (ok_pick_f rfl (vl rfl) h20 (vl rfl)) ?_
                 refine Ch.mv rfl rfl rfl rfl rfl ?_
                 refine Ch.nd rfl rfl rfl rfl rfl rfl ?_
                 refine Ch.oo rfl rfl rfl (ok_pick_f rfl (vl rfl) rfl (vl rfl)) ?_
                 refine Ch.as rfl rfl rfl rfl rfl ?_
                 refine Ch.nil (Fin.block ?_)
                 exact Fin.fam_same () (by simp_all) ⟨⟨_, rfl, bool_eq (by unfold contentF bareF; first | (simp_all; done) | (simp_all; omega))⟩, trivial⟩
               ·
                iterate 3 refine Ch.nt h19 rfl rfl rfl rfl rfl ?_
                refine Ch.oo rfl rfl rfl (ok_pick_f rfl (vl rfl) h19 (vl rfl)) ?_
                refine Ch.mv rfl rfl rfl rfl rfl ?_
                iterate 3 refine Ch.nd rfl rfl rfl rfl rfl rfl ?_
                refine Ch.oo rfl rfl rfl (ok_pick_f rfl (vl rfl) rfl (vl rfl)) ?_
                refine Ch.mv rfl rfl rfl rfl rfl ?_
                refine Ch.nd rfl rfl rfl rfl rfl rfl ?_
                refine Ch.oo rfl rfl rfl (ok_pick_f rfl (vl rfl) rfl (vl rfl)) ?_
                refine Ch.as rfl rfl rfl rfl rfl ?_
                refine Ch.nil (Fin.block ?_)
                exact Fin.fam_same () (by simp_all) ⟨⟨_, rfl, bool_eq (by unfold contentF bareF; first | (simp_all; done) | (simp_all; omega))⟩, trivial⟩
              ·
               refine Tr.seq (Tr.reg0 ?_)
               refine Ch.oo rfl rfl rfl (ok_int rfl (vl rfl) (vl rfl) rfl) ?_
               refine Ch.as rfl rfl rfl rfl rfl ?_
               refine Ch.nil (Fin.go ?_)
               refine Tr.w7 1 3 4 5 6 68 97 rfl rfl rfl rfl rfl rfl rfl ?_
               refine Tr.cn rfl (fun h22 q22 => ?_) (fun h22 q22 => ?_)
               ·
                refine Tr.reg0 ?_
                refine Ch.oo rfl rfl rfl (ok_fieldAddr rfl fo45_7 (vl rfl) rfl) ?_
                refine Ch.oo rfl rfl rfl (ok_loadA rfl agg43 sz43 (vl rfl) rfl rfl) ?_
                refine Ch.oo rfl rfl rfl (ok_call rfl (w_Signature) ⟨ke rfl, trivial⟩) ?_
                refine Ch.mv rfl rfl rfl rfl rfl ?_
                refine Ch.cs 102 rfl (fun h23 q23 => ?_) (fun h23 q23 => ?_)
                ·
                 refine Ch.y h23 rfl rfl rfl rfl rfl (ok_fieldAddr rfl fo45_8 (vl rfl) rfl) ?_
                 refine Ch.y h23 rfl rfl rfl rfl rfl (ok_load1 rfl one3 (vl rfl)) ?_
                 refine Ch.y h23 rfl rfl rfl rfl rfl (ok_int rfl (vl rfl) (vl rfl) rfl) ?_
                 refine Ch.oo rfl rfl rfl (ok_pick_t rfl (vl rfl) h23 (vl rfl)) ?_
                 refine Ch.mv rfl rfl rfl rfl rfl ?_
                 refine Ch.cs 107 rfl (fun h24 q24 => ?_) (fun h24 q24 => ?_)
                 ·
                  refine Ch.y h24 rfl rfl rfl rfl rfl (ok_fieldAddr rfl fo45_8 (vl rfl) rfl) ?_
                  refine Ch.y h24 rfl rfl rfl rfl rfl (ok_load1 rfl one3 (vl rfl)) ?_
                  refine Ch.y h24 rfl rfl rfl rfl rfl (ok_int rfl (vl rfl) (vl rfl) rfl) ?_
                  refine Ch.oo rfl rfl rfl (ok_pick_t rfl (vl rfl) h24 (vl rfl)) ?_
                  refine Ch.mv rfl rfl rfl rfl rfl ?_
                  refine Ch.cs 112 rfl (fun h25 q25 => ?_) (fun h25 q25 => ?_)
                  ·
                   refine Ch.ym h25 rfl rfl rfl rfl rfl rfl rfl ?_
                   refine Ch.oo rfl rfl rfl (ok_pick_t rfl (vl rfl) h25 (vl rfl)) ?_
                   refine Ch.as rfl rfl rfl rfl rfl ?_
                   refine Ch.nil (Fin.block ?_)
                   exact Fin.fam_same () (by simp_all) ⟨⟨_, rfl, bool_eq (by unfold contentF bareF; first | (simp_all; done) | (simp_all; omega))⟩, trivial⟩
                  ·
                   refine Ch.nt h25 rfl rfl rfl rfl rfl ?_
                   refine Ch.oo rfl rfl rfl (ok_pick_f rfl (vl rfl) h25 (vl rfl)) ?_
                   refine Ch.as rfl rfl rfl rfl rfl ?_
                   refine Ch.nil (Fin.block ?_)
                   exact Fin.fam_same () (by simp_all) ⟨⟨_, rfl, bool_eq (by unfold contentF bareF; first | (simp_all; done) | (simp_all; omega))⟩, trivial⟩
                 ·
                  iterate 3 refine Ch.nt h24 rfl rfl rfl rfl rfl ?_
                  refine Ch.oo rfl rfl rfl (ok_pick_f rfl (vl rfl) h24 (vl rfl)) ?_
                  refine Ch.mv rfl rfl rfl rfl rfl ?_
                  refine Ch.nd rfl rfl rfl rfl rfl rfl ?_
                  refine Ch.oo rfl rfl rfl (ok_pick_f rfl (vl rfl) rfl (vl rfl)) ?_
                  refine Ch.as rfl rfl rfl rfl rfl ?_
                  refine Ch.nil (Fin.block ?_)
                  exact Fin.fam_same () (by simp_all) ⟨⟨_, rfl, bool_eq (by unfold contentF bareF; first | (simp_all; done) | (simp_all; omega))⟩, trivial⟩
                ·
                 iterate 3 refine Ch.nt h23 rfl rfl rfl rfl rfl ?_
                 refine Ch.oo rfl rfl rfl (ok_pick_f rfl (vl rfl) h23 (vl rfl)) ?_
                 refine Ch.mv rfl rfl rfl rfl rfl ?_
                 iterate 3 refine Ch.nd rfl rfl rfl rfl rfl rfl ?_
                 refine Ch.oo rfl rfl rfl (ok_pick_f rfl (vl rfl) rfl (vl rfl)) ?_
                 refine Ch.mv rfl rfl rfl rfl rfl ?_
                 refine Ch.nd rfl rfl rfl rfl rfl rfl ?_
                 refine Ch.oo rfl rfl rfl (ok_pick_f rfl (vl rfl) rfl (vl rfl)) ?_
                 refine Ch.as rfl rfl rfl rfl rfl ?_
                 refine Ch.nil (Fin.block ?_)
                 exact Fin.fam_same () (by simp_all) ⟨⟨_, rfl, bool_eq (by unfold contentF bareF; first | (simp_all; done) | (simp_all; omega))⟩, trivial⟩
               ·
                refine Tr.seq (Tr.seq (Tr.reg0 ?_))
                refine Ch.oo rfl rfl rfl (ok_int rfl (vl rfl) (vl rfl) rfl) ?_
                refine Ch.as rfl rfl rfl rfl rfl ?_
                refine Ch.nil (Fin.go ?_)
                refine Tr.cn rfl (fun h26 q26 => ?_) (fun h26 q26 => ?_)
                ·
                 refine Tr.skip (Fin.go ?_)
                 refine Tr.cond rfl (fun _ => ?_) (fun h => nomatch h26.symm.trans h)
                 refine Tr.reg0 ?_
                 refine Ch.mv rfl rfl rfl rfl rfl ?_
                 refine Ch.mv rfl rfl rfl rfl rfl ?_
                 refine Ch.cs 119 rfl (fun h27 q27 => ?_) (fun h27 q27 => ?_)
                 ·
                  refine Ch.y h27 rfl rfl rfl rfl rfl (ok_fieldAddr rfl fo45_8 (vl rfl) rfl) ?_
                  refine Ch.y h27 rfl rfl rfl rfl rfl (ok_load1 rfl one3 (vl rfl)) ?_
                  refine Ch.y h27 rfl rfl rfl rfl rfl (ok_int rfl (vl rfl) (vl rfl) rfl) ?_
                  refine Ch.oo rfl rfl rfl (ok_pick_t rfl (vl rfl) h27 (vl rfl)) ?_
                  refine Ch.mv rfl rfl rfl rfl rfl ?_
                  refine Ch.cs 124 rfl (fun h28 q28 => ?_) (fun h28 q28 => ?_)
                  ·
                   refine Ch.y h28 rfl rfl rfl rfl rfl (ok_fieldAddr rfl fo45_8 (vl rfl) rfl) ?_
                   refine Ch.y h28 rfl rfl rfl rfl rfl (ok_load1 rfl one3 (vl rfl)) ?_
                   refine Ch.y h28 rfl rfl rfl rfl rfl (ok_int rfl (vl rfl) (vl rfl) rfl) ?_
                   refine Ch.oo rfl rfl rfl (ok_pick_t rfl (vl rfl) h28 (vl rfl)) ?_
                   refine Ch.mv rfl rfl rfl rfl rfl ?_
                   refine Ch.cs 129 rfl (fun h29 q29 => ?_) (fun h29 q29 => ?_)
                   ·
                    refine Ch.ym h29 rfl rfl rfl rfl rfl rfl rfl ?_
                    refine Ch.oo rfl rfl rfl (ok_pick_t rfl (vl rfl) h29 (vl rfl)) ?_
                    refine Ch.as rfl rfl rfl rfl rfl ?_
                    refine Ch.nil (Fin.block ?_)
                    exact Fin.fam_same () (by simp_all) ⟨⟨_, rfl, bool_eq (by unfold contentF bareF; first | (simp_all; done) | (simp_all; omega))⟩, trivial⟩
                   ·
                    refine Ch.nt h29 rfl rfl rfl rfl rfl ?_
                    refine Ch.oo rfl rfl rfl (ok_pick_f rfl (vl rfl) h29 (vl rfl)) ?_
                    refine Ch.as rfl rfl rfl rfl rfl ?_
                    refine Ch.nil (Fin.block ?_)
                    exact Fin.fam_same () (by simp_all) ⟨⟨_, rfl, bool_eq (by unfold contentF bareF; first | (simp_all; done) | (simp_all; omega))⟩, trivial⟩
                  ·
                   iterate 3 refine Ch.nt h28 rfl rfl rfl rfl rfl ?_
                   refine Ch.oo rfl rfl rfl (ok_pick_f rfl (vl rfl) h28 (vl rfl)) ?_
                   refine Ch.mv rfl rfl rfl rfl rfl ?_
                   refine Ch.nd rfl rfl rfl rfl rfl rfl ?_
                   refine Ch.oo rfl rfl rfl (ok_pick_f rfl (vl rfl) rfl (vl rfl)) ?_
                   refine Ch.as rfl rfl rfl rfl rfl ?_
                   refine Ch.nil (Fin.block ?_)
                   exact Fin.fam_same () (by simp_all) ⟨⟨_, rfl, bool_eq (by unfold contentF bareF; first | (simp_all; done) | (simp_all; omega))⟩, trivial⟩
                 ·
                  iterate 3 refine Ch.nt h27 rfl rfl rfl rfl rfl ?_
                  refine Ch.oo rfl rfl rfl (ok_pick_f rfl (vl rfl) h27 (vl rfl)) ?_
                  refine Ch.mv rfl rfl rfl rfl rfl ?_
                  iterate 3 refine Ch.nd rfl rfl rfl rfl rfl rfl ?_
                  refine Ch.oo rfl rfl rfl (ok_pick_f rfl (vl rfl) rfl (vl rfl)) ?_
                  refine Ch.mv rfl rfl rfl rfl rfl ?_
                  refine Ch.nd rfl rfl rfl rfl rfl rfl ?_
                  refine Ch.oo rfl rfl rfl (ok_pick_f rfl (vl rfl) rfl (vl rfl)) ?_
                  refine Ch.as rfl rfl rfl rfl rfl ?_
                  refine Ch.nil (Fin.block ?_)
                  exact Fin.fam_same () (by simp_all) ⟨⟨_, rfl, bool_eq (by unfold contentF bareF; first | (simp_all; done) | (simp_all; omega))⟩, trivial⟩
                ·
                 refine Tr.reg0 ?_
                 refine Ch.oo rfl rfl rfl (ok_int rfl (vl rfl) (vl rfl) rfl) ?_
                 refine Ch.as rfl rfl rfl rfl rfl ?_
                 refine Ch.nil (Fin.go ?_)
                 refine Tr.cn rfl (fun h30 q30 => ?_) (fun h30 q30 => ?_)
                 ·
                  refine Tr.reg0 ?_
                  refine Ch.mv rfl rfl rfl rfl rfl ?_
                  refine Ch.mv rfl rfl rfl rfl rfl ?_
                  refine Ch.cs 119 rfl (fun h31 q31 => ?_) (fun h31 q31 => ?_)
                  ·
                   refine Ch.y h31 rfl rfl rfl rfl rfl (ok_fieldAddr rfl fo45_8 (vl rfl) rfl) ?_
                   refine Ch.y h31 rfl rfl rfl rfl rfl (ok_load1 rfl one3 (vl rfl)) ?_
                   refine Ch.y h31 rfl rfl rfl rfl rfl (ok_int rfl (vl rfl) (vl rfl) rfl) ?_
                   refine Ch.oo rfl rfl rfl (ok_pick_t rfl (vl rfl) h31 (vl rfl)) ?_
                   refine Ch.mv rfl rfl rfl rfl rfl ?_
                   refine Ch.cs 124 rfl (fun h32 q32 => ?_) (fun h32 q32 => ?_)
                   ·
                    refine Ch.y h32 rfl rfl rfl rfl rfl (ok_fieldAddr rfl fo45_8 (vl rfl) rfl) ?_
                    refine Ch.y h32 rfl rfl rfl rfl rfl (ok_load1 rfl one3 (vl rfl)) ?_
                    refine Ch.y h32 rfl rfl rfl rfl rfl (ok_int rfl (vl rfl) (vl rfl) rfl) ?_
                    refine Ch.oo rfl rfl rfl (ok_pick_t rfl (vl rfl) h32 (vl rfl)) ?_
                    refine Ch.mv rfl rfl rfl rfl rfl ?_
                    refine Ch.cs 129 rfl (fun h33 q33 => ?_) (fun h33 q33 => ?_)
                    ·
                     refine Ch.ym h33 rfl rfl rfl rfl rfl rfl rfl ?_
                     refine Ch.oo rfl rfl rfl (ok_pick_t rfl (vl rfl) h33 (vl rfl)) ?_
                     refine Ch.as rfl rfl rfl rfl rfl ?_
                     refine Ch.nil (Fin.block ?_)
                     exact Fin.fam_same () (by simp_all) ⟨⟨_, rfl, bool_eq (by unfold contentF bareF; first | (simp_all; done) | (simp_all; omega))⟩, trivial⟩
                    ·
                     refine Ch.nt h33 rfl rfl rfl rfl rfl ?_
                     refine Ch.oo rfl rfl rfl (ok_pick_f rfl (vl rfl) h33 (vl rfl)) ?_
                     refine Ch.as rfl rfl rfl rfl rfl ?_
                     refine Ch.nil (Fin.block ?_)
                     exact Fin.fam_same () (by simp_all) ⟨⟨_, rfl, bool_eq (by unfold contentF bareF; first | (simp_all; done) | (simp_all; omega))⟩, trivial⟩
                   ·
                    iterate 3 refine Ch.nt h32 rfl rfl rfl rfl rfl ?_
                    refine Ch.oo rfl rfl rfl (ok_pick_f rfl (vl rfl) h32 (vl rfl)) ?_
                    refine Ch.mv rfl rfl rfl rfl rfl ?_
                    refine Ch.nd rfl rfl rfl rfl rfl rfl ?_
                    refine Ch.oo rfl rfl rfl (ok_pick_f rfl (vl rfl) rfl (vl rfl)) ?_
                    refine Ch.as rfl rfl rfl rfl rfl ?_
                    refine Ch.nil (Fin.block ?_)
                    exact Fin.fam_same () (by simp_all) ⟨⟨_, rfl, bool_eq (by unfold contentF bareF; first | (simp_all; done) | (simp_all; omega))⟩, trivial⟩
                  ·
                   iterate 3 refine Ch.nt h31 rfl rfl rfl rfl rfl ?_
                   refine Ch.oo rfl rfl rfl (ok_pick_f rfl (vl rfl) h31 (vl rfl)) ?_
                   refine Ch.mv rfl rfl rfl rfl rfl ?_
                   iterate 3 refine Ch.nd rfl rfl rfl rfl rfl rfl ?_
                   refine Ch.oo rfl rfl rfl (ok_pick_f rfl (vl rfl) rfl (vl rfl)) ?_
                   refine Ch.mv rfl rfl rfl rfl rfl ?_
                   refine Ch.nd rfl rfl rfl rfl rfl rfl ?_
                   refine Ch.oo rfl rfl rfl (ok_pick_f rfl (vl rfl) rfl (vl rfl)) ?_
                   refine Ch.as rfl rfl rfl rfl rfl ?_
                   refine Ch.nil (Fin.block ?_)
                   exact Fin.fam_same () (by simp_all) ⟨⟨_, rfl, bool_eq (by unfold contentF bareF; first | (simp_all; done) | (simp_all; omega))⟩, trivial⟩
                 ·
                  refine Tr.seq (Tr.reg0 ?_)
                  refine Ch.oo rfl rfl rfl (ok_int rfl (vl rfl) (vl rfl) rfl) ?_
                  refine Ch.as rfl rfl rfl rfl rfl ?_
                  refine Ch.nil (Fin.go ?_)
                  refine Tr.cn rfl (fun h34 q34 => ?_) (fun h34 q34 => ?_)
                  ·
                   refine Tr.reg0 ?_
                   refine Ch.mv rfl rfl rfl rfl rfl ?_
                   refine Ch.mv rfl rfl rfl rfl rfl ?_
                   refine Ch.cs 135 rfl (fun h35 q35 => ?_) (fun h35 q35 => ?_)
                   ·
                    refine Ch.y h35 rfl rfl rfl rfl rfl (ok_fieldAddr rfl fo45_8 (vl rfl) rfl) ?_
                    refine Ch.y h35 rfl rfl rfl rfl rfl (ok_load1 rfl one3 (vl rfl)) ?_
                    refine Ch.y h35 rfl rfl rfl rfl rfl (ok_int rfl (vl rfl) (vl rfl) rfl) ?_
                    refine Ch.oo rfl rfl rfl (ok_pick_t rfl (vl rfl) h35 (vl rfl)) ?_
                    refine Ch.mv rfl rfl rfl rfl rfl ?_
                    refine Ch.cs 140 rfl (fun h36 q36 => ?_) (fun h36 q36 => ?_)
                    ·
                     refine Ch.y h36 rfl rfl rfl rfl rfl (ok_fieldAddr rfl fo45_8 (vl rfl) rfl) ?_
                     refine Ch.y h36 rfl rfl rfl rfl rfl (ok_load1 rfl one3 (vl rfl)) ?_
                     refine Ch.y h36 rfl rfl rfl rfl rfl (ok_int rfl (vl rfl) (vl rfl) rfl) ?_
                     refine Ch.oo rfl rfl rfl (ok_pick_t rfl (vl rfl) h36 (vl rfl)) ?_
                     refine Ch.mv rfl rfl rfl rfl rfl ?_
                     refine Ch.cs 145 rfl (fun h37 q37 => ?_) (fun h37 q37 => ?_)
                     ·
                      refine Ch.ym h37 rfl rfl rfl rfl rfl rfl rfl ?_
                      refine Ch.oo rfl rfl rfl (ok_pick_t rfl (vl rfl) h37 (vl rfl)) ?_
                      refine Ch.as rfl rfl rfl rfl rfl ?_
                      refine Ch.nil (Fin.block ?_)
                      exact Fin.fam_same () (by simp_all) ⟨⟨_, rfl, bool_eq (by unfold contentF bareF; first | (simp_all; done) | (simp_all; omega))⟩, trivial⟩
                     ·
                      refine Ch.nt h37 rfl rfl rfl rfl rfl ?_
                      refine Ch.oo rfl rfl rfl (ok_pick_f rfl (vl rfl) h37 (vl rfl)) ?_
                      refine Ch.as rfl rfl rfl rfl rfl ?_
                      refine Ch.nil (Fin.block ?_)
                      exact Fin.fam_same () (by simp_all) ⟨⟨_, rfl, bool_eq (by unfold contentF bareF; first | (simp_all; done) | (simp_all; omega))⟩, trivial⟩
                    ·
                     iterate 3 refine Ch.nt h36 rfl rfl rfl rfl rfl ?_
                     refine Ch.oo rfl rfl rfl (ok_pick_f rfl (vl rfl) h36 (vl rfl)) ?_
                     refine Ch.mv rfl rfl rfl rfl rfl ?_
                     refine Ch.nd rfl rfl rfl rfl rfl rfl ?_
                     refine Ch.oo rfl rfl rfl (ok_pick_f rfl (vl rfl) rfl (vl rfl)) ?_
                     refine Ch.as rfl rfl rfl rfl rfl ?_
                     refine Ch.nil (Fin.block ?_)
                     exact Fin.fam_same () (by simp_all) ⟨⟨_, rfl, bool_eq (by unfold contentF bareF; first | (simp_all; done) | (simp_all; omega))⟩, trivial⟩
                   ·
                    iterate 3 refine Ch.nt h35 rfl rfl rfl rfl rfl ?_
                    refine Ch.oo rfl rfl rfl (ok_pick_f rfl (vl rfl) h35 (vl rfl)) ?_
                    refine Ch.mv rfl rfl rfl rfl rfl ?_
                    iterate 3 refine Ch.nd rfl rfl rfl rfl rfl rfl ?_
                    refine Ch.oo rfl rfl rfl (ok_pick_f rfl (vl rfl) rfl (vl rfl)) ?_
                    refine Ch.mv rfl rfl rfl rfl rfl ?_
                    refine Ch.nd rfl rfl rfl rfl rfl rfl ?_
                    refine Ch.oo rfl rfl rfl (ok_pick_f rfl (vl rfl) rfl (vl rfl)) ?_
                    refine Ch.as rfl rfl rfl rfl rfl ?_
                    refine Ch.nil (Fin.block ?_)
                    exact Fin.fam_same () (by simp_all) ⟨⟨_, rfl, bool_eq (by unfold contentF bareF; first | (simp_all; done) | (simp_all; omega))⟩, trivial⟩
                  ·
                   refine Tr.seq (Tr.reg0 ?_)
                   refine Ch.oo rfl rfl rfl (ok_int rfl (vl rfl) (vl rfl) rfl) ?_
                   refine Ch.as rfl rfl rfl rfl rfl ?_
                   refine Ch.nil (Fin.go ?_)
                   refine Tr.w5 1 3 4 6 148 rfl rfl rfl rfl rfl ?_
                   refine Tr.cn rfl (fun h38 q38 => ?_) (fun h38 q38 => ?_)
                   ·
                    refine Tr.reg0 ?_
                    refine Ch.mv rfl rfl rfl rfl rfl ?_
                    refine Ch.mv rfl rfl rfl rfl rfl ?_
                    refine Ch.cs 151 rfl (fun h39 q39 => ?_) (fun h39 q39 => ?_)
                    ·
                     refine Ch.ym h39 rfl rfl rfl rfl rfl rfl rfl ?_
                     refine Ch.oo rfl rfl rfl (ok_pick_t rfl (vl rfl) h39 (vl rfl)) ?_
                     refine Ch.mv rfl rfl rfl rfl rfl ?_
                     refine Ch.cs 154 rfl (fun h40 q40 => ?_) (fun h40 q40 => ?_)
                     ·
                      refine Ch.y h40 rfl rfl rfl rfl rfl (ok_fieldAddr rfl fo45_9 (vl rfl) rfl) ?_
                      refine Ch.y h40 rfl rfl rfl rfl rfl (ok_load1 rfl one9 (vl rfl)) ?_
                      refine Ch.y h40 rfl rfl rfl rfl rfl (ok_call rfl (w_RName) ⟨ke rfl, trivial⟩) ?_
                      refine Ch.oo rfl rfl rfl (ok_pick_t rfl (vl rfl) h40 (vl rfl)) ?_
                      refine Ch.as rfl rfl rfl rfl rfl ?_
                      refine Ch.nil (Fin.block ?_)
                      exact Fin.fam_same () (by simp_all) ⟨⟨_, rfl, bool_eq (by unfold contentF bareF; first | (simp_all; done) | (simp_all; omega))⟩, trivial⟩
                     ·
                      iterate 3 refine Ch.nt h40 rfl rfl rfl rfl rfl ?_
                      refine Ch.oo rfl rfl rfl (ok_pick_f rfl (vl rfl) h40 (vl rfl)) ?_
                      refine Ch.as rfl rfl rfl rfl rfl ?_
                      refine Ch.nil (Fin.block ?_)
                      exact Fin.fam_same () (by simp_all) ⟨⟨_, rfl, bool_eq (by unfold contentF bareF; first | (simp_all; done) | (simp_all; omega))⟩, trivial⟩
                    ·
                     refine Ch.nt h39 rfl rfl rfl rfl rfl ?_
                     refine Ch.oo rfl rfl rfl (ok_pick_f rfl (vl rfl) h39 (vl rfl)) ?_
                     refine Ch.mv rfl rfl rfl rfl rfl ?_
                     iterate 3 refine Ch.nd rfl rfl rfl rfl rfl rfl ?_
                     refine Ch.oo rfl rfl rfl (ok_pick_f rfl (vl rfl) rfl (vl rfl)) ?_
                     refine Ch.as rfl rfl rfl rfl rfl ?_
                     refine Ch.nil (Fin.block ?_)
                     exact Fin.fam_same () (by simp_all) ⟨⟨_, rfl, bool_eq (by unfold contentF bareF; first | (simp_all; done) | (simp_all; omega))⟩, trivial⟩
                   ·
                    refine Tr.skip (Fin.block ?_)
                    exact Fin.fam_same () (by simp_all) ⟨⟨_, rfl, bool_eq (by unfold contentF bareF; first | (simp_all; done) | (simp_all; omega))⟩, trivial⟩
           ·
            refine Tr.seq (Tr.seq (Tr.reg0 ?_))
            refine Ch.mv rfl rfl rfl rfl rfl ?_
            refine Ch.oo rfl rfl rfl (ok_not rfl (vl rfl)) ?_
            refine Ch.nil (Fin.go ?_)
            refine Tr.cn rfl (fun h41 q41 => ?_) (fun h41 q41 => ?_)
            ·
             refine Tr.seq (Tr.reg0 ?_)
             refine Ch.as rfl rfl rfl rfl rfl ?_
             refine Ch.nil (Fin.go (Tr.ret ?_))
             refine Fin.then_ret ?_
             refine Fin.ret1 rfl (OutW.bse _ _) rfl ?_
             · refine int_eq ?_; unfold checkF whereF whenF; first | (simp_all; done) | (simp_all; omega)
            ·
             refine Tr.skip (Fin.go (Tr.seq (Tr.reg0 ?_)))
             refine Ch.as rfl rfl rfl rfl rfl ?_
             refine Ch.nil (Fin.go (Tr.ret ?_))
             refine Fin.ret1 rfl (OutW.bse _ _) rfl ?_
             · refine int_eq ?_; unfold checkF whereF whenF; first | (simp_all; done) | (simp_all; omega)
/-- The first of some numbers that is not 0. -/
def orL : List Int → Int
  | [] => 0
  | a :: l => if a = 0 then orL l else a
theorem orL_orF : ∀ l, orF l = orL l
  | [] => rfl
  | a :: l => by
    have ih : (l.find? fun x => x != 0).getD 0 = orL l := orL_orF l
    show ((a :: l).find? fun x => x != 0).getD 0 = if a = 0 then orL l else a
    by_cases h : a = 0
    · rw [List.find?_cons_of_neg (by simp [h]), if_pos h]; exact ih
    · rw [List.find?_cons_of_pos (by simpa using h), if_neg h]; rfl
def keysF (a b : Fnd) : List Int := [Lib.compareBytes a.host b.host, cmpI a.machine b.machine, cmpI a.day b.day, Lib.compareBytes a.subj b.subj, cmpI a.kind b.kind, cmpI a.alg b.alg, cmpI a.bits b.bits, cmpI a.num b.num, Lib.compareBytes a.text b.text, cmpI a.src b.src, cmpI a.conf b.conf]
/-- How two findings are ordered. -/
def ordF (a b : Fnd) : Int := orL (keysF a b)

set_option maxRecDepth 20000 in
theorem w_texts {a b : List UInt8}  : Fun Try.prog 80 [str a, str b] (int (Lib.compareBytes a b)) := by
 refine Fun.of Try.func80 rfl rfl (by exact Nat.le_of_ble_eq_true rfl) fun M0 w0 => ?_
 refine Tr.seq (Tr.reg0 ?_)
 refine Ch.as rfl rfl rfl rfl rfl ?_
 refine Ch.nil (Fin.go (Tr.seq (Tr.seq (Tr.reg0 ?_))))
 refine Ch.mv rfl rfl rfl rfl rfl ?_
 refine Ch.mv rfl rfl rfl rfl rfl ?_
 refine Ch.oo rfl rfl rfl (ok_lts rfl (vl rfl) (vl rfl)) ?_
 refine Ch.nil (Fin.go ?_)
 refine Tr.cn rfl (fun h1 q1 => ?_) (fun h1 q1 => ?_)
 ·
  refine Tr.seq (Tr.reg0 ?_)
  refine Ch.as rfl rfl rfl rfl rfl ?_
  refine Ch.nil (Fin.go (Tr.ret ?_))
  refine Fin.then_ret ?_
  refine Fin.ret1 rfl (OutW.bse _ _) rfl ?_
  · refine int_eq ?_; have h9 := cmp_in a b; simp_all
 ·
  refine Tr.skip (Fin.go (Tr.seq (Tr.seq (Tr.reg0 ?_))))
  refine Ch.mv rfl rfl rfl rfl rfl ?_
  refine Ch.mv rfl rfl rfl rfl rfl ?_
  refine Ch.oo rfl rfl rfl (ok_gts rfl (vl rfl) (vl rfl)) ?_
  refine Ch.nil (Fin.go ?_)
  refine Tr.cn rfl (fun h2 q2 => ?_) (fun h2 q2 => ?_)
  ·
   refine Tr.seq (Tr.reg0 ?_)
   refine Ch.as rfl rfl rfl rfl rfl ?_
   refine Ch.nil (Fin.go (Tr.ret ?_))
   refine Fin.then_ret ?_
   refine Fin.ret1 rfl (OutW.bse _ _) rfl ?_
   · refine int_eq ?_; have h9 := cmp_in a b; simp_all
  ·
   refine Tr.skip (Fin.go (Tr.seq (Tr.reg0 ?_)))
   refine Ch.as rfl rfl rfl rfl rfl ?_
   refine Ch.nil (Fin.go (Tr.ret ?_))
   refine Fin.ret1 rfl (OutW.bse _ _) rfl ?_
   · refine int_eq ?_; have h9 := cmp_in a b; simp_all
def intsC : List Int → List Int → Int
  | a :: l, b :: m => if cmpI a b = 0 then intsC l m else cmpI a b
  | _, _ => 0
theorem intsC_step {a b : List Int} {k : Nat} {x y : Int} (hx : a[k]? = some x) (hy : b[k]? = some y) : intsC (a.drop k) (b.drop k) = if cmpI x y = 0 then intsC (a.drop (k + 1)) (b.drop (k + 1)) else cmpI x y := by
  rw [drop_cons hx, drop_cons hy]; rfl

set_option maxRecDepth 20000 in
theorem w_intsC {a b : List Int} (hl : a.length ≤ b.length) : Fun Try.prog 81 [ints a, ints b] (int (intsC a b)) := by
 refine Fun.of Try.func81 rfl rfl (by exact Nat.le_of_ble_eq_true rfl) fun M0 w0 => ?_
 refine Tr.lenm 0 rfl fun hlm_0 => ?_
 refine Tr.seq (Tr.reg0 ?_)
 refine Ch.as rfl rfl rfl rfl rfl ?_
 refine Ch.nil (Fin.go (Tr.seq (Tr.seq (Tr.reg0 ?_))))
 refine Ch.as rfl rfl rfl rfl rfl ?_
 refine Ch.nil (Fin.go (Tr.block ?_))
 refine Tr.loopw [(0, _), (1, _)] ⟨ke rfl, ke rfl, trivial⟩ (fun k : Nat => [(5, int ((k : Nat) : Int))]) (fun k : Nat => k ≤ (a).length ∧ (intsC a b = intsC (a.drop k) (b.drop k))) (fun k : Nat => (a).length - k) 0 (⟨Nat.zero_le _, rfl⟩) ⟨ke rfl, trivial⟩ ?_
 rintro k ⟨hle_k, hinv_k⟩
 refine Tr.seq (Tr.seq (Tr.reg0 ?_))
 refine Ch.mv rfl rfl rfl rfl rfl ?_
 refine Ch.mv rfl rfl rfl rfl rfl ?_
 first
  | refine Ch.oo rfl rfl rfl (ok_lenm rfl Try.underlying26 (vl rfl)) ?_
  | refine Ch.oo rfl rfl rfl (ok_len rfl Try.underlying26 (vl rfl)) ?_
 refine Ch.oo rfl rfl rfl (ok_int rfl (vl rfl) (vl rfl) rfl) ?_
 refine Ch.nil (Fin.go ?_)
 refine Tr.cn rfl (fun h1 q1 => ?_) (fun h1 q1 => ?_)
 ·
  have hk_k : k < (a).length := lt_of_dec h1
  obtain ⟨x, hx_k⟩ := at_ hk_k
  obtain ⟨y, hy⟩ := at_ (l := b) (k := k) (by omega)
  have hst := intsC_step hx_k hy
  refine Tr.skip (Fin.go (Tr.seq (Tr.block (Tr.seq (Tr.seq ?_)))))
  refine Tr.reg1 mixed (by kernel_rfl) ?_
  refine Ch.mv rfl rfl rfl rfl rfl ?_
  refine Ch.mv rfl rfl rfl rfl rfl ?_
  refine Ch.oo rfl rfl rfl (ok_indexAddr rfl Try.underlying26 sz3 (vl rfl) (vl rfl) (by omega) (by first | exact row_at (by assumption) | exact row_atI (by assumption) | assumption)) ?_
  refine Ch.oo rfl rfl rfl (ok_load1 rfl one3 (vl rfl)) ?_
  refine Ch.mv rfl rfl rfl rfl rfl ?_
  refine Ch.mv rfl rfl rfl rfl rfl ?_
  refine Ch.oo rfl rfl rfl (ok_indexAddr rfl Try.underlying26 sz3 (vl rfl) (vl rfl) (by omega) (by first | exact row_at (by assumption) | exact row_atI (by assumption) | assumption)) ?_
  refine Ch.oo rfl rfl rfl (ok_load1 rfl one3 (vl rfl)) ?_
  refine Ch.oo rfl rfl rfl (ok_int rfl (vl rfl) (vl rfl) rfl) ?_
  refine Ch.nil (Fin.go ?_)
  refine Tr.w4 0 1 5 20 rfl rfl rfl rfl ?_
  refine Tr.cn rfl (fun h2 q2 => ?_) (fun h2 q2 => ?_)
  ·
   refine Tr.seq (Tr.reg0 ?_)
   refine Ch.as rfl rfl rfl rfl rfl ?_
   refine Ch.nil (Fin.go (Tr.ret ?_))
   refine Fin.then_ret ?_
   refine Fin.block_ret ?_
   refine Fin.then_ret ?_
   refine Fin.then_ret ?_
   refine Fin.block_ret ?_
   refine Fin.then_ret ?_
   refine Fin.ret1 rfl (OutW.bse _ _) rfl ?_
   · first | (refine int_eq ?_; rw [hinv_k, hst]; unfold cmpI; (repeat (first | rw [if_pos (by omega)] | rw [if_neg (by omega)])); done) | (refine int_eq ?_; rw [hinv_k, List.drop_length]; cases b <;> rfl)
  ·
   refine Tr.skip (Fin.go (Tr.seq ?_))
   refine Tr.reg1 mixed (by kernel_rfl) ?_
   refine Ch.mv rfl rfl rfl rfl rfl ?_
   refine Ch.mv rfl rfl rfl rfl rfl ?_
   refine Ch.oo rfl rfl rfl (ok_indexAddr rfl Try.underlying26 sz3 (vl rfl) (vl rfl) (by omega) (by first | exact row_at (by assumption) | exact row_atI (by assumption) | assumption)) ?_
   refine Ch.oo rfl rfl rfl (ok_load1 rfl one3 (vl rfl)) ?_
   refine Ch.mv rfl rfl rfl rfl rfl ?_
   refine Ch.mv rfl rfl rfl rfl rfl ?_
   refine Ch.oo rfl rfl rfl (ok_indexAddr rfl Try.underlying26 sz3 (vl rfl) (vl rfl) (by omega) (by first | exact row_at (by assumption) | exact row_atI (by assumption) | assumption)) ?_
   refine Ch.oo rfl rfl rfl (ok_load1 rfl one3 (vl rfl)) ?_
   refine Ch.oo rfl rfl rfl (ok_int rfl (vl rfl) (vl rfl) rfl) ?_
   refine Ch.nil (Fin.go ?_)
   refine Tr.cn rfl (fun h3 q3 => ?_) (fun h3 q3 => ?_)
   ·
    refine Tr.seq (Tr.reg0 ?_)
    refine Ch.as rfl rfl rfl rfl rfl ?_
    refine Ch.nil (Fin.go ?_)
    refine Tr.w1 4 rfl ?_
    refine Tr.ret ?_
    refine Fin.block_ret ?_
    refine Fin.then_ret ?_
    refine Fin.then_ret ?_
    refine Fin.block_ret ?_
    refine Fin.then_ret ?_
    refine Fin.ret1 rfl (OutW.bse _ _) rfl ?_
    · first | (refine int_eq ?_; rw [hinv_k, hst]; unfold cmpI; (repeat (first | rw [if_pos (by omega)] | rw [if_neg (by omega)])); done) | (refine int_eq ?_; rw [hinv_k, List.drop_length]; cases b <;> rfl)
   ·
    refine Tr.skip (Fin.block (Fin.go (Tr.reg0 ?_)))
    refine Ch.mv rfl rfl rfl rfl rfl ?_
    first
     | (refine Ch.oo rfl rfl rfl (ok_add rfl (vl rfl) (vl rfl) ?hin) ?_; case hin => unfold InI; omega)
     | refine Ch.oo rfl rfl rfl (ok_int rfl (vl rfl) (vl rfl) rfl) ?_
    refine Ch.as rfl rfl rfl rfl rfl ?_
    refine Ch.nil ?_
    exact Fin.fam_same (k + 1) ⟨⟨hk_k, (hinv_k.trans (hst.trans (if_pos (by rw [cmpI_zero]; omega))))⟩, by omega⟩ ⟨⟨_, rfl, int_succ k⟩, ke rfl, ke rfl, trivial⟩
 ·
  have he_k : k = (a).length := by have := ge_of_dec h1; omega
  subst he_k
  refine Tr.exit ?_
  refine Fin.then_exit ?_
  refine Fin.then_exit ?_
  refine Fin.block_here ?_
  refine Fin.go (Tr.seq (Tr.reg0 ?_))
  refine Ch.as rfl rfl rfl rfl rfl ?_
  refine Ch.nil (Fin.go (Tr.ret ?_))
  refine Fin.ret1 rfl (OutW.bse _ _) rfl ?_
  · first | (refine int_eq ?_; rw [hinv_k, hst]; unfold cmpI; (repeat (first | rw [if_pos (by omega)] | rw [if_neg (by omega)])); done) | (refine int_eq ?_; rw [hinv_k, List.drop_length]; cases b <;> rfl)
theorem or_hit {a : Int} {l : List Int} (h : ¬ a = 0) : orL (a :: l) = a := if_neg h
theorem or_miss {a : Int} {l : List Int} (h : a = 0) : orL (a :: l) = orL l := if_pos h
theorem intsC_2 (a b c d : Int) : intsC [a, b] [c, d] = orL [cmpI a c, cmpI b d] := by
  show (if cmpI a c = 0 then (if cmpI b d = 0 then 0 else cmpI b d) else cmpI a c) = if cmpI a c = 0 then (if cmpI b d = 0 then 0 else cmpI b d) else cmpI a c
  rfl
theorem orL_app : ∀ (l m : List Int), orL (l ++ m) = if orL l = 0 then orL m else orL l
  | [], m => by simp [orL]
  | a :: l, m => by
    have ih := orL_app l m
    show (if a = 0 then orL (l ++ m) else a) = if (if a = 0 then orL l else a) = 0 then orL m else (if a = 0 then orL l else a)
    by_cases h : a = 0
    · simp only [h, if_true]; exact ih
    · simp [h]
theorem ordF_eq (a b : Fnd) : ordF a b = orL [Lib.compareBytes a.host b.host, orL [cmpI a.machine b.machine, cmpI a.day b.day], Lib.compareBytes a.subj b.subj, orL [cmpI a.kind b.kind, cmpI a.alg b.alg, cmpI a.bits b.bits, cmpI a.num b.num], Lib.compareBytes a.text b.text, orL [cmpI a.src b.src, cmpI a.conf b.conf]] := by
  have h : ∀ (l : List Int) (m n : List Int), orL (m ++ (orL l :: n)) = orL (m ++ (l ++ n)) := by
    intro l m n
    rw [orL_app, orL_app m, orL_app l n]; rfl
  unfold ordF keysF
  have e1 := h [cmpI a.machine b.machine, cmpI a.day b.day] [Lib.compareBytes a.host b.host] [Lib.compareBytes a.subj b.subj, orL [cmpI a.kind b.kind, cmpI a.alg b.alg, cmpI a.bits b.bits, cmpI a.num b.num], Lib.compareBytes a.text b.text, orL [cmpI a.src b.src, cmpI a.conf b.conf]]
  have e2 := h [cmpI a.kind b.kind, cmpI a.alg b.alg, cmpI a.bits b.bits, cmpI a.num b.num] [Lib.compareBytes a.host b.host, cmpI a.machine b.machine, cmpI a.day b.day, Lib.compareBytes a.subj b.subj] [Lib.compareBytes a.text b.text, orL [cmpI a.src b.src, cmpI a.conf b.conf]]
  have e3 := h [cmpI a.src b.src, cmpI a.conf b.conf] [Lib.compareBytes a.host b.host, cmpI a.machine b.machine, cmpI a.day b.day, Lib.compareBytes a.subj b.subj, cmpI a.kind b.kind, cmpI a.alg b.alg, cmpI a.bits b.bits, cmpI a.num b.num, Lib.compareBytes a.text b.text] []
  exact (e1.trans (e2.trans e3)).symm

set_option maxRecDepth 20000 in
theorem w_R14Order {a b : Fnd}  : Fun Try.prog 43 [agg (rowF a), agg (rowF b)] (int (ordF a b)) := by
 refine Fun.of Try.func43 rfl rfl (by exact Nat.le_of_ble_eq_true rfl) fun M0 w0 => ?_
 refine Tr.seq (Tr.reg0 ?_)
 refine Ch.oo rfl rfl rfl (ok_box rfl (VL.le (vl rfl) (agg_cellsP _))) ?_
 refine Ch.oo rfl rfl rfl (ok_box rfl (VL.le (vl rfl) (agg_cellsP _))) ?_
 refine Ch.as rfl rfl rfl rfl rfl ?_
 refine Ch.nil (Fin.go (Tr.seq (Tr.seq (Tr.reg0 ?_))))
 refine Ch.oo rfl rfl rfl (ok_fieldAddr rfl fo45_1 (vl rfl) rfl) ?_
 refine Ch.oo rfl rfl rfl (ok_load1 rfl one9 (vl rfl)) ?_
 refine Ch.oo rfl rfl rfl (ok_fieldAddr rfl fo45_1 (vl rfl) rfl) ?_
 refine Ch.oo rfl rfl rfl (ok_load1 rfl one9 (vl rfl)) ?_
 refine Ch.oo rfl rfl rfl (ok_call rfl (w_texts) ⟨ke rfl, ke rfl, trivial⟩) ?_
 refine Ch.as rfl rfl rfl rfl rfl ?_
 refine Ch.nil (Fin.go (Tr.seq (Tr.reg0 ?_)))
 refine Ch.mv rfl rfl rfl rfl rfl ?_
 refine Ch.oo rfl rfl rfl (ok_int rfl (vl rfl) (vl rfl) rfl) ?_
 refine Ch.nil (Fin.go ?_)
 refine Tr.cn rfl (fun h1 q1 => ?_) (fun h1 q1 => ?_)
 ·
  refine Tr.seq (Tr.reg0 ?_)
  refine Ch.mv rfl rfl rfl rfl rfl ?_
  refine Ch.as rfl rfl rfl rfl rfl ?_
  refine Ch.nil (Fin.go (Tr.ret ?_))
  refine Fin.then_ret ?_
  refine Fin.ret1 rfl (OutW.bse _ _) rfl ?_
  · refine int_eq ?_; rw [ordF_eq]; exact (or_hit (by assumption)).symm
 ·
  refine Tr.skip (Fin.go (Tr.seq (Tr.seq (Tr.reg0 ?_))))
  refine Ch.oo rfl rfl rfl (ok_fieldAddr rfl fo45_2 (vl rfl) rfl) ?_
  refine Ch.oo rfl rfl rfl (ok_load1 rfl one3 (vl rfl)) ?_
  refine Ch.oo rfl rfl rfl (ok_fieldAddr rfl fo45_3 (vl rfl) rfl) ?_
  refine Ch.oo rfl rfl rfl (ok_load1 rfl one3 (vl rfl)) ?_
  refine Ch.oo rfl rfl rfl (ok_buildSlice (xs := [.tmp 19, .tmp 21]) (rows := [[_], [_]]) rfl rfl Try.underlying26 sz3 z3 rfl (by decide) ⟨⟨(by exact rfl), (VL.le (vl rfl) (one_cellsP _))⟩, ⟨⟨(by exact rfl), (VL.le (vl rfl) (one_cellsP _))⟩, trivial⟩⟩ (by decide)) ?_
  refine Ch.oo rfl rfl rfl (ok_fieldAddr rfl fo45_2 (vl rfl) rfl) ?_
  refine Ch.oo rfl rfl rfl (ok_load1 rfl one3 (vl rfl)) ?_
  refine Ch.oo rfl rfl rfl (ok_fieldAddr rfl fo45_3 (vl rfl) rfl) ?_
  refine Ch.oo rfl rfl rfl (ok_load1 rfl one3 (vl rfl)) ?_
  refine Ch.oo rfl rfl rfl (ok_buildSlice (xs := [.tmp 24, .tmp 26]) (rows := [[_], [_]]) rfl rfl Try.underlying26 sz3 z3 rfl (by decide) ⟨⟨(by exact rfl), (VL.le (vl rfl) (one_cellsP _))⟩, ⟨⟨(by exact rfl), (VL.le (vl rfl) (one_cellsP _))⟩, trivial⟩⟩ (by decide)) ?_
  refine Ch.oo rfl rfl rfl (ok_call rfl (w_intsC (a := [a.machine, a.day]) (b := [b.machine, b.day]) (by simp)) ⟨⟨_, rfl, full_le _ _⟩, ⟨_, rfl, full_le _ _⟩, trivial⟩) ?_
  refine Ch.as rfl rfl rfl rfl rfl ?_
  refine Ch.nil (Fin.go ?_)
  refine Tr.w3 2 3 6 rfl rfl rfl ?_
  refine Tr.seq (Tr.reg0 ?_)
  refine Ch.mv rfl rfl rfl rfl rfl ?_
  refine Ch.oo rfl rfl rfl (ok_int rfl (vl rfl) (vl rfl) rfl) ?_
  refine Ch.nil (Fin.go ?_)
  refine Tr.cn rfl (fun h2 q2 => ?_) (fun h2 q2 => ?_)
  ·
   refine Tr.seq (Tr.reg0 ?_)
   refine Ch.mv rfl rfl rfl rfl rfl ?_
   refine Ch.as rfl rfl rfl rfl rfl ?_
   refine Ch.nil (Fin.go (Tr.ret ?_))
   refine Fin.then_ret ?_
   refine Fin.ret1 rfl (OutW.bse _ _) rfl ?_
   · refine int_eq ?_; rw [ordF_eq]; rw [or_miss (by assumption)]; exact (or_hit (by assumption)).symm
  ·
   refine Tr.skip (Fin.go (Tr.seq (Tr.seq (Tr.reg0 ?_))))
   refine Ch.oo rfl rfl rfl (ok_fieldAddr rfl fo45_6 (vl rfl) rfl) ?_
   refine Ch.oo rfl rfl rfl (ok_load1 rfl one9 (vl rfl)) ?_
   refine Ch.oo rfl rfl rfl (ok_fieldAddr rfl fo45_6 (vl rfl) rfl) ?_
   refine Ch.oo rfl rfl rfl (ok_load1 rfl one9 (vl rfl)) ?_
   refine Ch.oo rfl rfl rfl (ok_call rfl (w_texts) ⟨ke rfl, ke rfl, trivial⟩) ?_
   refine Ch.as rfl rfl rfl rfl rfl ?_
   refine Ch.nil (Fin.go (Tr.seq (Tr.reg0 ?_)))
   refine Ch.mv rfl rfl rfl rfl rfl ?_
   refine Ch.oo rfl rfl rfl (ok_int rfl (vl rfl) (vl rfl) rfl) ?_
   refine Ch.nil (Fin.go ?_)
   refine Tr.cn rfl (fun h3 q3 => ?_) (fun h3 q3 => ?_)
   ·
    refine Tr.seq (Tr.reg0 ?_)
    refine Ch.mv rfl rfl rfl rfl rfl ?_
    refine Ch.as rfl rfl rfl rfl rfl ?_
    refine Ch.nil (Fin.go ?_)
    refine Tr.w1 4 rfl ?_
    refine Tr.ret ?_
    refine Fin.then_ret ?_
    refine Fin.ret1 rfl (OutW.bse _ _) rfl ?_
    · refine int_eq ?_; rw [ordF_eq]; rw [or_miss (by assumption), or_miss (by assumption)]; exact (or_hit (by assumption)).symm
   ·
    refine Tr.skip (Fin.go (Tr.seq (Tr.seq (Tr.reg0 ?_))))
    refine Ch.oo rfl rfl rfl (ok_fieldAddr rfl fo45_5 (vl rfl) rfl) ?_
    refine Ch.oo rfl rfl rfl (ok_load1 rfl one3 (vl rfl)) ?_
    refine Ch.oo rfl rfl rfl (ok_fieldAddr rfl fo45_7 (vl rfl) rfl) ?_
    refine Ch.oo rfl rfl rfl (ok_fieldAddr rfl fo43_0 (vl rfl) rfl) ?_
    refine Ch.oo rfl rfl rfl (ok_load1 rfl one3 (vl rfl)) ?_
    refine Ch.oo rfl rfl rfl (ok_fieldAddr rfl fo45_7 (vl rfl) rfl) ?_
    refine Ch.oo rfl rfl rfl (ok_fieldAddr rfl fo43_1 (vl rfl) rfl) ?_
    refine Ch.oo rfl rfl rfl (ok_load1 rfl one3 (vl rfl)) ?_
    refine Ch.oo rfl rfl rfl (ok_fieldAddr rfl fo45_8 (vl rfl) rfl) ?_
    refine Ch.oo rfl rfl rfl (ok_load1 rfl one3 (vl rfl)) ?_
    refine Ch.oo rfl rfl rfl (ok_buildSlice (xs := [.tmp 41, .tmp 44, .tmp 47, .tmp 49]) (rows := [[_], [_], [_], [_]]) rfl rfl Try.underlying26 sz3 z3 rfl (by decide) ⟨⟨(by exact rfl), (VL.le (vl rfl) (one_cellsP _))⟩, ⟨⟨(by exact rfl), (VL.le (vl rfl) (one_cellsP _))⟩, ⟨⟨(by exact rfl), (VL.le (vl rfl) (one_cellsP _))⟩, ⟨⟨(by exact rfl), (VL.le (vl rfl) (one_cellsP _))⟩, trivial⟩⟩⟩⟩ (by decide)) ?_
    refine Ch.oo rfl rfl rfl (ok_fieldAddr rfl fo45_5 (vl rfl) rfl) ?_
    refine Ch.oo rfl rfl rfl (ok_load1 rfl one3 (vl rfl)) ?_
    refine Ch.oo rfl rfl rfl (ok_fieldAddr rfl fo45_7 (vl rfl) rfl) ?_
    refine Ch.oo rfl rfl rfl (ok_fieldAddr rfl fo43_0 (vl rfl) rfl) ?_
    refine Ch.oo rfl rfl rfl (ok_load1 rfl one3 (vl rfl)) ?_
    refine Ch.oo rfl rfl rfl (ok_fieldAddr rfl fo45_7 (vl rfl) rfl) ?_
    refine Ch.oo rfl rfl rfl (ok_fieldAddr rfl fo43_1 (vl rfl) rfl) ?_
    refine Ch.oo rfl rfl rfl (ok_load1 rfl one3 (vl rfl)) ?_
    refine Ch.oo rfl rfl rfl (ok_fieldAddr rfl fo45_8 (vl rfl) rfl) ?_
    refine Ch.oo rfl rfl rfl (ok_load1 rfl one3 (vl rfl)) ?_
    refine Ch.oo rfl rfl rfl (ok_buildSlice (xs := [.tmp 52, .tmp 55, .tmp 58, .tmp 60]) (rows := [[_], [_], [_], [_]]) rfl rfl Try.underlying26 sz3 z3 rfl (by decide) ⟨⟨(by exact rfl), (VL.le (vl rfl) (one_cellsP _))⟩, ⟨⟨(by exact rfl), (VL.le (vl rfl) (one_cellsP _))⟩, ⟨⟨(by exact rfl), (VL.le (vl rfl) (one_cellsP _))⟩, ⟨⟨(by exact rfl), (VL.le (vl rfl) (one_cellsP _))⟩, trivial⟩⟩⟩⟩ (by decide)) ?_
    refine Ch.oo rfl rfl rfl (ok_call rfl (w_intsC (a := [a.kind, a.alg, a.bits, a.num]) (b := [b.kind, b.alg, b.bits, b.num]) (by simp)) ⟨⟨_, rfl, full_le _ _⟩, ⟨_, rfl, full_le _ _⟩, trivial⟩) ?_
    refine Ch.as rfl rfl rfl rfl rfl ?_
    refine Ch.nil (Fin.go ?_)
    refine Tr.w3 2 3 8 rfl rfl rfl ?_
    refine Tr.seq (Tr.reg0 ?_)
    refine Ch.mv rfl rfl rfl rfl rfl ?_
    refine Ch.oo rfl rfl rfl (ok_int rfl (vl rfl) (vl rfl) rfl) ?_
    refine Ch.nil (Fin.go ?_)
    refine Tr.cn rfl (fun h4 q4 => ?_) (fun h4 q4 => ?_)
    ·
     refine Tr.seq (Tr.reg0 ?_)
     refine Ch.mv rfl rfl rfl rfl rfl ?_
     refine Ch.as rfl rfl rfl rfl rfl ?_
     refine Ch.nil (Fin.go (Tr.ret ?_))
     refine Fin.then_ret ?_
     refine Fin.ret1 rfl (OutW.bse _ _) rfl ?_
     · refine int_eq ?_; rw [ordF_eq]; rw [or_miss (by assumption), or_miss (by assumption), or_miss (by assumption)]; exact (or_hit (by assumption)).symm
    ·
     refine Tr.skip (Fin.go (Tr.seq (Tr.seq (Tr.reg0 ?_))))
     refine Ch.oo rfl rfl rfl (ok_fieldAddr rfl fo45_9 (vl rfl) rfl) ?_
     refine Ch.oo rfl rfl rfl (ok_load1 rfl one9 (vl rfl)) ?_
     refine Ch.oo rfl rfl rfl (ok_fieldAddr rfl fo45_9 (vl rfl) rfl) ?_
     refine Ch.oo rfl rfl rfl (ok_load1 rfl one9 (vl rfl)) ?_
     refine Ch.oo rfl rfl rfl (ok_call rfl (w_texts) ⟨ke rfl, ke rfl, trivial⟩) ?_
     refine Ch.as rfl rfl rfl rfl rfl ?_
     refine Ch.nil (Fin.go (Tr.seq (Tr.reg0 ?_)))
     refine Ch.mv rfl rfl rfl rfl rfl ?_
     refine Ch.oo rfl rfl rfl (ok_int rfl (vl rfl) (vl rfl) rfl) ?_
     refine Ch.nil (Fin.go ?_)
     refine Tr.cn rfl (fun h5 q5 => ?_) (fun h5 q5 => ?_)
     ·
      refine Tr.seq (Tr.reg0 ?_)
      refine Ch.mv rfl rfl rfl rfl rfl ?_
      refine Ch.as rfl rfl rfl rfl rfl ?_
      refine Ch.nil (Fin.go ?_)
      refine Tr.w1 4 rfl ?_
      refine Tr.ret ?_
      refine Fin.then_ret ?_
      refine Fin.ret1 rfl (OutW.bse _ _) rfl ?_
      · refine int_eq ?_; rw [ordF_eq]; rw [or_miss (by assumption), or_miss (by assumption), or_miss (by assumption), or_miss (by assumption)]; exact (or_hit (by assumption)).symm
     ·
      refine Tr.skip (Fin.go (Tr.seq (Tr.reg0 ?_)))
      refine Ch.oo rfl rfl rfl (ok_fieldAddr rfl fo45_0 (vl rfl) rfl) ?_
      refine Ch.oo rfl rfl rfl (ok_load1 rfl one3 (vl rfl)) ?_
      refine Ch.oo rfl rfl rfl (ok_fieldAddr rfl fo45_4 (vl rfl) rfl) ?_
      refine Ch.oo rfl rfl rfl (ok_load1 rfl one3 (vl rfl)) ?_
      refine Ch.oo rfl rfl rfl (ok_buildSlice (xs := [.tmp 75, .tmp 77]) (rows := [[_], [_]]) rfl rfl Try.underlying26 sz3 z3 rfl (by decide) ⟨⟨(by exact rfl), (VL.le (vl rfl) (one_cellsP _))⟩, ⟨⟨(by exact rfl), (VL.le (vl rfl) (one_cellsP _))⟩, trivial⟩⟩ (by decide)) ?_
      refine Ch.oo rfl rfl rfl (ok_fieldAddr rfl fo45_0 (vl rfl) rfl) ?_
      refine Ch.oo rfl rfl rfl (ok_load1 rfl one3 (vl rfl)) ?_
      refine Ch.oo rfl rfl rfl (ok_fieldAddr rfl fo45_4 (vl rfl) rfl) ?_
      refine Ch.oo rfl rfl rfl (ok_load1 rfl one3 (vl rfl)) ?_
      refine Ch.oo rfl rfl rfl (ok_buildSlice (xs := [.tmp 80, .tmp 82]) (rows := [[_], [_]]) rfl rfl Try.underlying26 sz3 z3 rfl (by decide) ⟨⟨(by exact rfl), (VL.le (vl rfl) (one_cellsP _))⟩, ⟨⟨(by exact rfl), (VL.le (vl rfl) (one_cellsP _))⟩, trivial⟩⟩ (by decide)) ?_
      refine Ch.oo rfl rfl rfl (ok_call rfl (w_intsC (a := [a.src, a.conf]) (b := [b.src, b.conf]) (by simp)) ⟨⟨_, rfl, full_le _ _⟩, ⟨_, rfl, full_le _ _⟩, trivial⟩) ?_
      refine Ch.as rfl rfl rfl rfl rfl ?_
      refine Ch.nil (Fin.go ?_)
      refine Tr.w1 4 rfl ?_
      refine Tr.ret ?_
      refine Fin.ret1 rfl (OutW.bse _ _) rfl ?_
      · refine int_eq ?_; rw [ordF_eq, or_miss (by assumption), or_miss (by assumption), or_miss (by assumption), or_miss (by assumption), or_miss (by assumption)]; rw [intsC_2]; unfold orL; split <;> simp_all [orL]
end Go.Proofs.Ytgdlhajfajddiaa
namespace Go.Proofs.Ytgdlhajfajddiaa
open Go Go.RowKit Cp
set_option maxRecDepth 20000 in
theorem w_Og3 {f : Fnd}  : Fun Try.prog 67 [agg (rowF f)] (str f.host) := by
 refine Fun.of Try.func67 rfl rfl (by exact Nat.le_of_ble_eq_true rfl) fun M0 w0 => ?_
 refine Tr.seq (Tr.reg0 ?_)
 refine Ch.oo rfl rfl rfl (ok_box rfl (VL.le (vl rfl) (agg_cellsP _))) ?_
 refine Ch.as rfl rfl rfl rfl rfl ?_
 refine Ch.nil (Fin.go (Tr.seq (Tr.reg0 ?_)))
 refine Ch.oo rfl rfl rfl (ok_fieldAddr rfl fo45_1 (vl rfl) rfl) ?_
 refine Ch.oo rfl rfl rfl (ok_load1 rfl one9 (vl rfl)) ?_
 refine Ch.as rfl rfl rfl rfl rfl ?_
 refine Ch.nil (Fin.go (Tr.ret ?_))
 refine Fin.ret1 rfl (OutW.bse _ _) rfl ?_
 · first | exact Pr.le_refl _ | (refine int_eq ?_; simp_all; done) | (refine bool_eq ?_; simp_all; done) | (refine bool_eq ?_; simp_all; omega) | (refine int_eq ?_; omega)
theorem e_Og3 : Entry Try.prog 67 := ⟨_, Try.func67, rfl, rfl⟩
set_option maxRecDepth 20000 in
theorem w_Og4 {f : Fnd}  : Fun Try.prog 68 [agg (rowF f)] (int f.machine) := by
 refine Fun.of Try.func68 rfl rfl (by exact Nat.le_of_ble_eq_true rfl) fun M0 w0 => ?_
 refine Tr.seq (Tr.reg0 ?_)
 refine Ch.oo rfl rfl rfl (ok_box rfl (VL.le (vl rfl) (agg_cellsP _))) ?_
 refine Ch.as rfl rfl rfl rfl rfl ?_
 refine Ch.nil (Fin.go (Tr.seq (Tr.reg0 ?_)))
 refine Ch.oo rfl rfl rfl (ok_fieldAddr rfl fo45_2 (vl rfl) rfl) ?_
 refine Ch.oo rfl rfl rfl (ok_load1 rfl one3 (vl rfl)) ?_
 refine Ch.as rfl rfl rfl rfl rfl ?_
 refine Ch.nil (Fin.go (Tr.ret ?_))
 refine Fin.ret1 rfl (OutW.bse _ _) rfl ?_
 · first | exact Pr.le_refl _ | (refine int_eq ?_; simp_all; done) | (refine bool_eq ?_; simp_all; done) | (refine bool_eq ?_; simp_all; omega) | (refine int_eq ?_; omega)
theorem e_Og4 : Entry Try.prog 68 := ⟨_, Try.func68, rfl, rfl⟩
set_option maxRecDepth 20000 in
theorem w_Og5 {f : Fnd}  : Fun Try.prog 69 [agg (rowF f)] (int f.day) := by
 refine Fun.of Try.func69 rfl rfl (by exact Nat.le_of_ble_eq_true rfl) fun M0 w0 => ?_
 refine Tr.seq (Tr.reg0 ?_)
 refine Ch.oo rfl rfl rfl (ok_box rfl (VL.le (vl rfl) (agg_cellsP _))) ?_
 refine Ch.as rfl rfl rfl rfl rfl ?_
 refine Ch.nil (Fin.go (Tr.seq (Tr.reg0 ?_)))
 refine Ch.oo rfl rfl rfl (ok_fieldAddr rfl fo45_3 (vl rfl) rfl) ?_
 refine Ch.oo rfl rfl rfl (ok_load1 rfl one3 (vl rfl)) ?_
 refine Ch.as rfl rfl rfl rfl rfl ?_
 refine Ch.nil (Fin.go (Tr.ret ?_))
 refine Fin.ret1 rfl (OutW.bse _ _) rfl ?_
 · first | exact Pr.le_refl _ | (refine int_eq ?_; simp_all; done) | (refine bool_eq ?_; simp_all; done) | (refine bool_eq ?_; simp_all; omega) | (refine int_eq ?_; omega)
theorem e_Og5 : Entry Try.prog 69 := ⟨_, Try.func69, rfl, rfl⟩
set_option maxRecDepth 20000 in
theorem w_Og6 {f : Fnd}  : Fun Try.prog 70 [agg (rowF f)] (str f.subj) := by
 refine Fun.of Try.func70 rfl rfl (by exact Nat.le_of_ble_eq_true rfl) fun M0 w0 => ?_
 refine Tr.seq (Tr.reg0 ?_)
 refine Ch.oo rfl rfl rfl (ok_box rfl (VL.le (vl rfl) (agg_cellsP _))) ?_
 refine Ch.as rfl rfl rfl rfl rfl ?_
 refine Ch.nil (Fin.go (Tr.seq (Tr.reg0 ?_)))
 refine Ch.oo rfl rfl rfl (ok_fieldAddr rfl fo45_6 (vl rfl) rfl) ?_
 refine Ch.oo rfl rfl rfl (ok_load1 rfl one9 (vl rfl)) ?_
 refine Ch.as rfl rfl rfl rfl rfl ?_
 refine Ch.nil (Fin.go (Tr.ret ?_))
 refine Fin.ret1 rfl (OutW.bse _ _) rfl ?_
 · first | exact Pr.le_refl _ | (refine int_eq ?_; simp_all; done) | (refine bool_eq ?_; simp_all; done) | (refine bool_eq ?_; simp_all; omega) | (refine int_eq ?_; omega)
theorem e_Og6 : Entry Try.prog 70 := ⟨_, Try.func70, rfl, rfl⟩
set_option maxRecDepth 20000 in
theorem w_Og7 {f : Fnd}  : Fun Try.prog 71 [agg (rowF f)] (int f.kind) := by
 refine Fun.of Try.func71 rfl rfl (by exact Nat.le_of_ble_eq_true rfl) fun M0 w0 => ?_
 refine Tr.seq (Tr.reg0 ?_)
 refine Ch.oo rfl rfl rfl (ok_box rfl (VL.le (vl rfl) (agg_cellsP _))) ?_
 refine Ch.as rfl rfl rfl rfl rfl ?_
 refine Ch.nil (Fin.go (Tr.seq (Tr.reg0 ?_)))
 refine Ch.oo rfl rfl rfl (ok_fieldAddr rfl fo45_5 (vl rfl) rfl) ?_
 refine Ch.oo rfl rfl rfl (ok_load1 rfl one3 (vl rfl)) ?_
 refine Ch.as rfl rfl rfl rfl rfl ?_
 refine Ch.nil (Fin.go (Tr.ret ?_))
 refine Fin.ret1 rfl (OutW.bse _ _) rfl ?_
 · first | exact Pr.le_refl _ | (refine int_eq ?_; simp_all; done) | (refine bool_eq ?_; simp_all; done) | (refine bool_eq ?_; simp_all; omega) | (refine int_eq ?_; omega)
theorem e_Og7 : Entry Try.prog 71 := ⟨_, Try.func71, rfl, rfl⟩
set_option maxRecDepth 20000 in
theorem w_Og8 {f : Fnd}  : Fun Try.prog 72 [agg (rowF f)] (int f.alg) := by
 refine Fun.of Try.func72 rfl rfl (by exact Nat.le_of_ble_eq_true rfl) fun M0 w0 => ?_
 refine Tr.seq (Tr.reg0 ?_)
 refine Ch.oo rfl rfl rfl (ok_box rfl (VL.le (vl rfl) (agg_cellsP _))) ?_
 refine Ch.as rfl rfl rfl rfl rfl ?_
 refine Ch.nil (Fin.go (Tr.seq (Tr.reg0 ?_)))
 refine Ch.oo rfl rfl rfl (ok_fieldAddr rfl fo45_7 (vl rfl) rfl) ?_
 refine Ch.oo rfl rfl rfl (ok_fieldAddr rfl fo43_0 (vl rfl) rfl) ?_
 refine Ch.oo rfl rfl rfl (ok_load1 rfl one3 (vl rfl)) ?_
 refine Ch.as rfl rfl rfl rfl rfl ?_
 refine Ch.nil (Fin.go (Tr.ret ?_))
 refine Fin.ret1 rfl (OutW.bse _ _) rfl ?_
 · first | exact Pr.le_refl _ | (refine int_eq ?_; simp_all; done) | (refine bool_eq ?_; simp_all; done) | (refine bool_eq ?_; simp_all; omega) | (refine int_eq ?_; omega)
theorem e_Og8 : Entry Try.prog 72 := ⟨_, Try.func72, rfl, rfl⟩
set_option maxRecDepth 20000 in
theorem w_Og9 {f : Fnd}  : Fun Try.prog 73 [agg (rowF f)] (int f.bits) := by
 refine Fun.of Try.func73 rfl rfl (by exact Nat.le_of_ble_eq_true rfl) fun M0 w0 => ?_
 refine Tr.seq (Tr.reg0 ?_)
 refine Ch.oo rfl rfl rfl (ok_box rfl (VL.le (vl rfl) (agg_cellsP _))) ?_
 refine Ch.as rfl rfl rfl rfl rfl ?_
 refine Ch.nil (Fin.go (Tr.seq (Tr.reg0 ?_)))
 refine Ch.oo rfl rfl rfl (ok_fieldAddr rfl fo45_7 (vl rfl) rfl) ?_
 refine Ch.oo rfl rfl rfl (ok_fieldAddr rfl fo43_1 (vl rfl) rfl) ?_
 refine Ch.oo rfl rfl rfl (ok_load1 rfl one3 (vl rfl)) ?_
 refine Ch.as rfl rfl rfl rfl rfl ?_
 refine Ch.nil (Fin.go (Tr.ret ?_))
 refine Fin.ret1 rfl (OutW.bse _ _) rfl ?_
 · first | exact Pr.le_refl _ | (refine int_eq ?_; simp_all; done) | (refine bool_eq ?_; simp_all; done) | (refine bool_eq ?_; simp_all; omega) | (refine int_eq ?_; omega)
theorem e_Og9 : Entry Try.prog 73 := ⟨_, Try.func73, rfl, rfl⟩
set_option maxRecDepth 20000 in
theorem w_Og10 {f : Fnd}  : Fun Try.prog 74 [agg (rowF f)] (int f.num) := by
 refine Fun.of Try.func74 rfl rfl (by exact Nat.le_of_ble_eq_true rfl) fun M0 w0 => ?_
 refine Tr.seq (Tr.reg0 ?_)
 refine Ch.oo rfl rfl rfl (ok_box rfl (VL.le (vl rfl) (agg_cellsP _))) ?_
 refine Ch.as rfl rfl rfl rfl rfl ?_
 refine Ch.nil (Fin.go (Tr.seq (Tr.reg0 ?_)))
 refine Ch.oo rfl rfl rfl (ok_fieldAddr rfl fo45_8 (vl rfl) rfl) ?_
 refine Ch.oo rfl rfl rfl (ok_load1 rfl one3 (vl rfl)) ?_
 refine Ch.as rfl rfl rfl rfl rfl ?_
 refine Ch.nil (Fin.go (Tr.ret ?_))
 refine Fin.ret1 rfl (OutW.bse _ _) rfl ?_
 · first | exact Pr.le_refl _ | (refine int_eq ?_; simp_all; done) | (refine bool_eq ?_; simp_all; done) | (refine bool_eq ?_; simp_all; omega) | (refine int_eq ?_; omega)
theorem e_Og10 : Entry Try.prog 74 := ⟨_, Try.func74, rfl, rfl⟩
set_option maxRecDepth 20000 in
theorem w_Og11 {f : Fnd}  : Fun Try.prog 75 [agg (rowF f)] (str f.text) := by
 refine Fun.of Try.func75 rfl rfl (by exact Nat.le_of_ble_eq_true rfl) fun M0 w0 => ?_
 refine Tr.seq (Tr.reg0 ?_)
 refine Ch.oo rfl rfl rfl (ok_box rfl (VL.le (vl rfl) (agg_cellsP _))) ?_
 refine Ch.as rfl rfl rfl rfl rfl ?_
 refine Ch.nil (Fin.go (Tr.seq (Tr.reg0 ?_)))
 refine Ch.oo rfl rfl rfl (ok_fieldAddr rfl fo45_9 (vl rfl) rfl) ?_
 refine Ch.oo rfl rfl rfl (ok_load1 rfl one9 (vl rfl)) ?_
 refine Ch.as rfl rfl rfl rfl rfl ?_
 refine Ch.nil (Fin.go (Tr.ret ?_))
 refine Fin.ret1 rfl (OutW.bse _ _) rfl ?_
 · first | exact Pr.le_refl _ | (refine int_eq ?_; simp_all; done) | (refine bool_eq ?_; simp_all; done) | (refine bool_eq ?_; simp_all; omega) | (refine int_eq ?_; omega)
theorem e_Og11 : Entry Try.prog 75 := ⟨_, Try.func75, rfl, rfl⟩
set_option maxRecDepth 20000 in
theorem w_Og12 {f : Fnd}  : Fun Try.prog 76 [agg (rowF f)] (int f.src) := by
 refine Fun.of Try.func76 rfl rfl (by exact Nat.le_of_ble_eq_true rfl) fun M0 w0 => ?_
 refine Tr.seq (Tr.reg0 ?_)
 refine Ch.oo rfl rfl rfl (ok_box rfl (VL.le (vl rfl) (agg_cellsP _))) ?_
 refine Ch.as rfl rfl rfl rfl rfl ?_
 refine Ch.nil (Fin.go (Tr.seq (Tr.reg0 ?_)))
 refine Ch.oo rfl rfl rfl (ok_fieldAddr rfl fo45_0 (vl rfl) rfl) ?_
 refine Ch.oo rfl rfl rfl (ok_load1 rfl one3 (vl rfl)) ?_
 refine Ch.as rfl rfl rfl rfl rfl ?_
 refine Ch.nil (Fin.go (Tr.ret ?_))
 refine Fin.ret1 rfl (OutW.bse _ _) rfl ?_
 · first | exact Pr.le_refl _ | (refine int_eq ?_; simp_all; done) | (refine bool_eq ?_; simp_all; done) | (refine bool_eq ?_; simp_all; omega) | (refine int_eq ?_; omega)
theorem e_Og12 : Entry Try.prog 76 := ⟨_, Try.func76, rfl, rfl⟩
set_option maxRecDepth 20000 in
theorem w_Og13 {f : Fnd}  : Fun Try.prog 77 [agg (rowF f)] (int f.conf) := by
 refine Fun.of Try.func77 rfl rfl (by exact Nat.le_of_ble_eq_true rfl) fun M0 w0 => ?_
 refine Tr.seq (Tr.reg0 ?_)
 refine Ch.oo rfl rfl rfl (ok_box rfl (VL.le (vl rfl) (agg_cellsP _))) ?_
 refine Ch.as rfl rfl rfl rfl rfl ?_
 refine Ch.nil (Fin.go (Tr.seq (Tr.reg0 ?_)))
 refine Ch.oo rfl rfl rfl (ok_fieldAddr rfl fo45_4 (vl rfl) rfl) ?_
 refine Ch.oo rfl rfl rfl (ok_load1 rfl one3 (vl rfl)) ?_
 refine Ch.as rfl rfl rfl rfl rfl ?_
 refine Ch.nil (Fin.go (Tr.ret ?_))
 refine Fin.ret1 rfl (OutW.bse _ _) rfl ?_
 · first | exact Pr.le_refl _ | (refine int_eq ?_; simp_all; done) | (refine bool_eq ?_; simp_all; done) | (refine bool_eq ?_; simp_all; omega) | (refine int_eq ?_; omega)
theorem e_Og13 : Entry Try.prog 77 := ⟨_, Try.func77, rfl, rfl⟩
set_option maxRecDepth 20000 in
theorem w_O11 {g : Fnd → Int} {a b : Fnd}  : Fun Try.prog 62 [ref [clo Try.prog (fun f : Fnd => [agg (rowF f)]) (fun f => int (g f))], ref (rowF a), ref (rowF b)] (int (cmpI (g a) (g b))) := by
 refine Fun.of Try.func62 rfl rfl (by exact Nat.le_of_ble_eq_true rfl) fun M0 w0 => ?_
 refine Tr.seq (Tr.reg0 ?_)
 refine Ch.as rfl rfl rfl rfl rfl ?_
 refine Ch.nil (Fin.go (Tr.seq ?_))
 refine Tr.reg1 mixed (by kernel_rfl) ?_
 refine Ch.oo rfl rfl rfl (ok_load1 rfl one91 (vl rfl)) ?_
 refine Ch.oo rfl rfl rfl (ok_loadA rfl agg45 sz45 (vl rfl) rfl rfl) ?_
 refine Ch.oo rfl rfl rfl (ok_callc a rfl (vl rfl) ⟨ke rfl, trivial⟩) ?_
 refine Ch.oo rfl rfl rfl (ok_load1 rfl one91 (vl rfl)) ?_
 refine Ch.oo rfl rfl rfl (ok_loadA rfl agg45 sz45 (vl rfl) rfl rfl) ?_
 refine Ch.oo rfl rfl rfl (ok_callc b rfl (vl rfl) ⟨ke rfl, trivial⟩) ?_
 refine Ch.oo rfl rfl rfl (ok_call rfl (w_cmpI) ⟨ke rfl, ke rfl, trivial⟩) ?_
 refine Ch.as rfl rfl rfl rfl rfl ?_
 refine Ch.nil (Fin.go (Tr.ret ?_))
 refine Fin.ret1 rfl (OutW.bse _ _) rfl ?_
 · first | exact Pr.le_refl _ | (refine int_eq ?_; simp_all; done) | (refine bool_eq ?_; simp_all; done) | (refine bool_eq ?_; simp_all; omega) | (refine int_eq ?_; omega)
theorem e_O11 : Entry Try.prog 62 := ⟨_, Try.func62, rfl, rfl⟩
set_option maxRecDepth 20000 in
theorem w_O21 {g : Fnd → List UInt8} {a b : Fnd}  : Fun Try.prog 65 [ref [clo Try.prog (fun f : Fnd => [agg (rowF f)]) (fun f => str (g f))], ref (rowF a), ref (rowF b)] (int (Lib.compareBytes (g a) (g b))) := by
 refine Fun.of Try.func65 rfl rfl (by exact Nat.le_of_ble_eq_true rfl) fun M0 w0 => ?_
 refine Tr.seq (Tr.reg0 ?_)
 refine Ch.as rfl rfl rfl rfl rfl ?_
 refine Ch.nil (Fin.go (Tr.seq ?_))
 refine Tr.reg1 mixed (by kernel_rfl) ?_
 refine Ch.oo rfl rfl rfl (ok_load1 rfl one94 (vl rfl)) ?_
 refine Ch.oo rfl rfl rfl (ok_loadA rfl agg45 sz45 (vl rfl) rfl rfl) ?_
 refine Ch.oo rfl rfl rfl (ok_callc a rfl (vl rfl) ⟨ke rfl, trivial⟩) ?_
 refine Ch.oo rfl rfl rfl (ok_load1 rfl one94 (vl rfl)) ?_
 refine Ch.oo rfl rfl rfl (ok_loadA rfl agg45 sz45 (vl rfl) rfl rfl) ?_
 refine Ch.oo rfl rfl rfl (ok_callc b rfl (vl rfl) ⟨ke rfl, trivial⟩) ?_
 refine Ch.oo rfl rfl rfl (ok_call rfl (w_cmpS) ⟨ke rfl, ke rfl, trivial⟩) ?_
 refine Ch.as rfl rfl rfl rfl rfl ?_
 refine Ch.nil (Fin.go (Tr.ret ?_))
 refine Fin.ret1 rfl (OutW.bse _ _) rfl ?_
 · first | exact Pr.le_refl _ | (refine int_eq ?_; simp_all; done) | (refine bool_eq ?_; simp_all; done) | (refine bool_eq ?_; simp_all; omega) | (refine int_eq ?_; omega)
theorem e_O21 : Entry Try.prog 65 := ⟨_, Try.func65, rfl, rfl⟩
set_option maxRecDepth 20000 in
theorem w_O1 {g : Fnd → Int} {a b : Fnd}  : Fun Try.prog 61 [clo Try.prog (fun f : Fnd => [agg (rowF f)]) (fun f => int (g f)), ref (rowF a), ref (rowF b)] (clo Try.prog (fun _ : Unit => []) (fun _ => int (cmpI (g a) (g b)))) := by
 refine Fun.of Try.func61 rfl rfl (by exact Nat.le_of_ble_eq_true rfl) fun M0 w0 => ?_
 refine Tr.seq (Tr.reg0 ?_)
 refine Ch.oo rfl rfl rfl (ok_box rfl (VL.le (vl rfl) (one_cellsP _))) ?_
 refine Ch.as rfl rfl rfl rfl rfl ?_
 refine Ch.nil (Fin.go (Tr.seq (Tr.reg0 ?_)))
 refine Ch.oo rfl rfl rfl (ok_makeFunc rfl rfl) ?_
 refine Ch.as rfl rfl rfl rfl rfl ?_
 refine Ch.nil (Fin.go (Tr.ret ?_))
 refine Fin.ret1 rfl (OutW.bse _ _) rfl ?_
 · exact fn_le_clo e_O11 (fun _ => w_O11)
theorem e_O1 : Entry Try.prog 61 := ⟨_, Try.func61, rfl, rfl⟩
set_option maxRecDepth 20000 in
theorem w_O2 {g : Fnd → List UInt8} {a b : Fnd}  : Fun Try.prog 64 [clo Try.prog (fun f : Fnd => [agg (rowF f)]) (fun f => str (g f)), ref (rowF a), ref (rowF b)] (clo Try.prog (fun _ : Unit => []) (fun _ => int (Lib.compareBytes (g a) (g b)))) := by
 refine Fun.of Try.func64 rfl rfl (by exact Nat.le_of_ble_eq_true rfl) fun M0 w0 => ?_
 refine Tr.seq (Tr.reg0 ?_)
 refine Ch.oo rfl rfl rfl (ok_box rfl (VL.le (vl rfl) (one_cellsP _))) ?_
 refine Ch.as rfl rfl rfl rfl rfl ?_
 refine Ch.nil (Fin.go (Tr.seq (Tr.reg0 ?_)))
 refine Ch.oo rfl rfl rfl (ok_makeFunc rfl rfl) ?_
 refine Ch.as rfl rfl rfl rfl rfl ?_
 refine Ch.nil (Fin.go (Tr.ret ?_))
 refine Fin.ret1 rfl (OutW.bse _ _) rfl ?_
 · exact fn_le_clo e_O21 (fun _ => w_O21)
theorem e_O2 : Entry Try.prog 64 := ⟨_, Try.func64, rfl, rfl⟩

theorem ordF_hit {a b : Fnd} {k : Nat} {x : Int} (hx : (keysF a b)[k]? = some x) (h0 : ¬ x = 0) (h : ∀ j y, j < k → (keysF a b)[j]? = some y → (y != 0) = false) : x = ordF a b := by
  have := orF_hit hx h0 h; rw [orL_orF] at this; exact this
theorem ordF_none {a b : Fnd} (h : ∀ j y, j < (keysF a b).length → (keysF a b)[j]? = some y → (y != 0) = false) : 0 = ordF a b := by
  have := orF_none h; rw [orL_orF] at this; exact this

set_option maxRecDepth 20000 in
theorem w_FOrder {a b : Fnd}  : Fun Try.prog 38 [agg (rowF a), agg (rowF b)] (int (ordF a b)) := by
 refine Fun.of Try.func38 rfl rfl (by exact Nat.le_of_ble_eq_true rfl) fun M0 w0 => ?_
 refine Tr.seq (Tr.reg0 ?_)
 refine Ch.oo rfl rfl rfl (ok_box rfl (VL.le (vl rfl) (agg_cellsP _))) ?_
 refine Ch.oo rfl rfl rfl (ok_box rfl (VL.le (vl rfl) (agg_cellsP _))) ?_
 refine Ch.as rfl rfl rfl rfl rfl ?_
 refine Ch.nil (Fin.go (Tr.seq (Tr.reg0 ?_)))
 refine Ch.oo rfl rfl rfl (ok_makeFunc rfl rfl) ?_
 refine Ch.as rfl rfl rfl rfl rfl ?_
 refine Ch.nil (Fin.go (Tr.seq (Tr.reg0 ?_)))
 refine Ch.oo rfl rfl rfl (ok_makeFunc rfl rfl) ?_
 refine Ch.as rfl rfl rfl rfl rfl ?_
 refine Ch.nil (Fin.go (Tr.seq (Tr.seq ?_)))
 refine Tr.re 5 rfl (fn_le_clo (dom := fun g : Fnd → Int => [clo Try.prog (fun f : Fnd => [agg (rowF f)]) (fun f => int (g f))]) (res := fun g => clo Try.prog (fun _ : Unit => []) (fun _ => int (cmpI (g a) (g b)))) e_O1 (fun g => w_O1 (g := g) (a := a) (b := b))) ?_
 refine Tr.re 6 rfl (fn_le_clo (dom := fun g : Fnd → List UInt8 => [clo Try.prog (fun f : Fnd => [agg (rowF f)]) (fun f => str (g f))]) (res := fun g => clo Try.prog (fun _ : Unit => []) (fun _ => int (Lib.compareBytes (g a) (g b)))) e_O2 (fun g => w_O2 (g := g) (a := a) (b := b))) ?_
 refine Tr.reg0 ?_
 refine Ch.mv rfl rfl rfl rfl rfl ?_
 refine Ch.oo rfl rfl rfl (ok_callc (fun f : Fnd => f.host) rfl (vl rfl) ⟨⟨_, rfl, fn_le_clo (dom := fun f : Fnd => [agg (rowF f)]) (res := fun f => str f.host) e_Og3 (fun f => w_Og3 (f := f))⟩, trivial⟩) ?_
 refine Ch.mv rfl rfl rfl rfl rfl ?_
 refine Ch.oo rfl rfl rfl (ok_callc (fun f : Fnd => f.machine) rfl (vl rfl) ⟨⟨_, rfl, fn_le_clo (dom := fun f : Fnd => [agg (rowF f)]) (res := fun f => int f.machine) e_Og4 (fun f => w_Og4 (f := f))⟩, trivial⟩) ?_
 refine Ch.mv rfl rfl rfl rfl rfl ?_
 refine Ch.oo rfl rfl rfl (ok_callc (fun f : Fnd => f.day) rfl (vl rfl) ⟨⟨_, rfl, fn_le_clo (dom := fun f : Fnd => [agg (rowF f)]) (res := fun f => int f.day) e_Og5 (fun f => w_Og5 (f := f))⟩, trivial⟩) ?_
 refine Ch.mv rfl rfl rfl rfl rfl ?_
 refine Ch.oo rfl rfl rfl (ok_callc (fun f : Fnd => f.subj) rfl (vl rfl) ⟨⟨_, rfl, fn_le_clo (dom := fun f : Fnd => [agg (rowF f)]) (res := fun f => str f.subj) e_Og6 (fun f => w_Og6 (f := f))⟩, trivial⟩) ?_
 refine Ch.mv rfl rfl rfl rfl rfl ?_
 refine Ch.oo rfl rfl rfl (ok_callc (fun f : Fnd => f.kind) rfl (vl rfl) ⟨⟨_, rfl, fn_le_clo (dom := fun f : Fnd => [agg (rowF f)]) (res := fun f => int f.kind) e_Og7 (fun f => w_Og7 (f := f))⟩, trivial⟩) ?_
 refine Ch.mv rfl rfl rfl rfl rfl ?_
 refine Ch.oo rfl rfl rfl (ok_callc (fun f : Fnd => f.alg) rfl (vl rfl) ⟨⟨_, rfl, fn_le_clo (dom := fun f : Fnd => [agg (rowF f)]) (res := fun f => int f.alg) e_Og8 (fun f => w_Og8 (f := f))⟩, trivial⟩) ?_
 refine Ch.mv rfl rfl rfl rfl rfl ?_
 refine Ch.oo rfl rfl rfl (ok_callc (fun f : Fnd => f.bits) rfl (vl rfl) ⟨⟨_, rfl, fn_le_clo (dom := fun f : Fnd => [agg (rowF f)]) (res := fun f => int f.bits) e_Og9 (fun f => w_Og9 (f := f))⟩, trivial⟩) ?_
 refine Ch.mv rfl rfl rfl rfl rfl ?_
 refine Ch.oo rfl rfl rfl (ok_callc (fun f : Fnd => f.num) rfl (vl rfl) ⟨⟨_, rfl, fn_le_clo (dom := fun f : Fnd => [agg (rowF f)]) (res := fun f => int f.num) e_Og10 (fun f => w_Og10 (f := f))⟩, trivial⟩) ?_
 refine Ch.mv rfl rfl rfl rfl rfl ?_
 refine Ch.oo rfl rfl rfl (ok_callc (fun f : Fnd => f.text) rfl (vl rfl) ⟨⟨_, rfl, fn_le_clo (dom := fun f : Fnd => [agg (rowF f)]) (res := fun f => str f.text) e_Og11 (fun f => w_Og11 (f := f))⟩, trivial⟩) ?_
 refine Ch.mv rfl rfl rfl rfl rfl ?_
 refine Ch.oo rfl rfl rfl (ok_callc (fun f : Fnd => f.src) rfl (vl rfl) ⟨⟨_, rfl, fn_le_clo (dom := fun f : Fnd => [agg (rowF f)]) (res := fun f => int f.src) e_Og12 (fun f => w_Og12 (f := f))⟩, trivial⟩) ?_
 refine Ch.mv rfl rfl rfl rfl rfl ?_
 refine Ch.oo rfl rfl rfl (ok_callc (fun f : Fnd => f.conf) rfl (vl rfl) ⟨⟨_, rfl, fn_le_clo (dom := fun f : Fnd => [agg (rowF f)]) (res := fun f => int f.conf) e_Og13 (fun f => w_Og13 (f := f))⟩, trivial⟩) ?_
 refine Ch.oo rfl rfl rfl (ok_buildSlice (xs := [.tmp 13, .tmp 15, .tmp 17, .tmp 19, .tmp 21, .tmp 23, .tmp 25, .tmp 27, .tmp 29, .tmp 31, .tmp 33]) (rows := [[_], [_], [_], [_], [_], [_], [_], [_], [_], [_], [_]]) rfl rfl Try.underlying97 sz92 z92 rfl (by decide) ⟨⟨(by exact rfl), (VL.le (vl rfl) (one_cellsP _))⟩, ⟨⟨(by exact rfl), (VL.le (vl rfl) (one_cellsP _))⟩, ⟨⟨(by exact rfl), (VL.le (vl rfl) (one_cellsP _))⟩, ⟨⟨(by exact rfl), (VL.le (vl rfl) (one_cellsP _))⟩, ⟨⟨(by exact rfl), (VL.le (vl rfl) (one_cellsP _))⟩, ⟨⟨(by exact rfl), (VL.le (vl rfl) (one_cellsP _))⟩, ⟨⟨(by exact rfl), (VL.le (vl rfl) (one_cellsP _))⟩, ⟨⟨(by exact rfl), (VL.le (vl rfl) (one_cellsP _))⟩, ⟨⟨(by exact rfl), (VL.le (vl rfl) (one_cellsP _))⟩, ⟨⟨(by exact rfl), (VL.le (vl rfl) (one_cellsP _))⟩, ⟨⟨(by exact rfl), (VL.le (vl rfl) (one_cellsP _))⟩, trivial⟩⟩⟩⟩⟩⟩⟩⟩⟩⟩⟩ (by decide)) ?_
 first
  | refine Ch.oo rfl rfl rfl (ok_lenm rfl Try.underlying97 ⟨_, rfl, full_le _ _⟩) ?_
  | refine Ch.oo rfl rfl rfl (ok_len rfl Try.underlying97 ⟨_, rfl, full_le _ _⟩) ?_
 refine Ch.mv rfl rfl rfl rfl rfl ?_
 refine Ch.nil (Fin.go ?_)
 refine Tr.w3 34 35 36 rfl rfl rfl ?_
 refine Tr.block ?_
 refine Tr.re 34 rfl (Pr.le_trans (full_le _ _) (Pr.le_of_eq (show _ = slice 1 ((keysF a b).map fun k => [clo Try.prog (fun _ : Unit => []) (fun _ => int (k))]) from rfl))) ?_
 refine Tr.re 35 rfl (int_eq (b := (((keysF a b).length : Nat) : Int)) rfl) ?_
 refine Tr.loopw [(34, _), (35, _)] ⟨ke rfl, ke rfl, trivial⟩ (fun k : Nat => [(36, int ((k : Nat) : Int))]) (fun k : Nat => k ≤ (keysF a b).length ∧ (∀ j y, j < k → (keysF a b)[j]? = some y → (y != 0) = false)) (fun k : Nat => (keysF a b).length - k) 0 (⟨Nat.zero_le _, fun j y hj => absurd hj (by omega)⟩) ⟨ke rfl, trivial⟩ ?_
 rintro k ⟨hle_k, hinv_k⟩
 refine Tr.seq (Tr.reg0 ?_)
 refine Ch.oo rfl rfl rfl (ok_int rfl (vl rfl) (vl rfl) rfl) ?_
 refine Ch.nil (Fin.go (Tr.seq ?_))
 refine Tr.cn rfl (fun h1 q1 => ?_) (fun h1 q1 => ?_)
 ·
  have hk_k : k < (keysF a b).length := lt_of_dec h1
  obtain ⟨x, hx_k⟩ := at_ hk_k
  have hL : k < 11 := hk_k
  refine Tr.skip (Fin.go (Tr.seq (Tr.block (Tr.seq (Tr.reg0 ?_)))))
  refine Ch.oo rfl rfl rfl (ok_indexAddr rfl Try.underlying97 sz92 (vl rfl) (vl rfl) (by omega) (row_at (f := fun k => [clo Try.prog (fun _ : Unit => []) (fun _ => int (k))]) hx_k)) ?_
  refine Ch.oo rfl rfl rfl (ok_load1 rfl one92 (vl rfl)) ?_
  refine Ch.as rfl rfl rfl rfl rfl ?_
  refine Ch.nil (Fin.go (Tr.seq (Tr.reg0 ?_)))
  refine Ch.mv rfl rfl rfl rfl rfl ?_
  refine Ch.oo rfl rfl rfl (ok_callc () rfl (vl rfl) trivial) ?_
  refine Ch.as rfl rfl rfl rfl rfl ?_
  refine Ch.nil (Fin.go (Tr.seq (Tr.reg0 ?_)))
  refine Ch.mv rfl rfl rfl rfl rfl ?_
  refine Ch.oo rfl rfl rfl (ok_int rfl (vl rfl) (vl rfl) rfl) ?_
  refine Ch.nil (Fin.go ?_)
  refine Tr.cn rfl (fun h2 q2 => ?_) (fun h2 q2 => ?_)
  ·
   refine Tr.seq (Tr.reg0 ?_)
   refine Ch.mv rfl rfl rfl rfl rfl ?_
   refine Ch.as rfl rfl rfl rfl rfl ?_
   refine Ch.nil (Fin.go ?_)
   refine Tr.w1 4 rfl ?_
   refine Tr.ret ?_
   refine Fin.block_ret ?_
   refine Fin.then_ret ?_
   refine Fin.then_ret ?_
   refine Fin.block_ret ?_
   refine Fin.then_ret ?_
   refine Fin.ret1 rfl (OutW.bse _ _) rfl ?_
   · exact int_eq (ordF_hit hx_k (by assumption) hinv_k)
  ·
   refine Tr.skip (Fin.block (Fin.go (Tr.reg0 ?_)))
   first
    | (refine Ch.oo rfl rfl rfl (ok_add rfl (vl rfl) (vl rfl) ?hin) ?_; case hin => unfold InI; omega)
    | refine Ch.oo rfl rfl rfl (ok_int rfl (vl rfl) (vl rfl) rfl) ?_
   refine Ch.mv rfl rfl rfl rfl rfl ?_
   refine Ch.nil ?_
   exact Fin.fam_same (k + 1) ⟨⟨hk_k, step_no (p := fun y => y != 0) hx_k (by simpa using by assumption) hinv_k⟩, by omega⟩ ⟨⟨_, rfl, int_succ k⟩, ke rfl, ke rfl, trivial⟩
 ·
  have he_k : k = (keysF a b).length := by have := ge_of_dec h1; omega
  subst he_k
  refine Tr.exit ?_
  refine Fin.then_exit ?_
  refine Fin.then_exit ?_
  refine Fin.block_here ?_
  refine Fin.go (Tr.seq (Tr.reg0 ?_))
  refine Ch.as rfl rfl rfl rfl rfl ?_
  refine Ch.nil (Fin.go (Tr.ret ?_))
  refine Fin.ret1 rfl (OutW.bse _ _) rfl ?_
  · exact int_eq (ordF_none hinv_k)
end Go.Proofs.Ytgdlhajfajddiaa
namespace Cp
open Go Go.RowKit Go.Great

section
variable {P : Program} {E : Env} {I : Asn} {o : Oper}
theorem slice_part {M : Av} {w : World} {sz : Nat} {rows : List (List Pr)} {A : Option Addr} {cap lo hi : Nat} (h : (slice sz rows).h M w (.slice A rows.length cap)) (h1 : lo ≤ hi) (h2 : hi ≤ rows.length) :
    (slice sz ((rows.take hi).drop lo)).h M w (.slice (if cap = lo then A else A.map (·.add (lo * sz))) (hi - lo) (cap - lo)) := by
  obtain ⟨A', cap', hv, hc, hm, hA, hr⟩ := h
  injection hv with e1 _ e3
  subst e1; subst e3
  have hlen : ((rows.take hi).drop lo).length = hi - lo := by rw [List.length_drop, List.length_take]; omega
  refine ⟨_, cap - lo, by rw [hlen], by rw [hlen]; omega, by omega, fun h => ?_, fun i row hi' => ?_⟩
  · split at h
    · have := hA h; omega
    · cases hA2 : A with
      | none => have := hA hA2; omega
      | some a => rw [hA2] at h; cases h
  · rw [List.getElem?_drop, List.getElem?_take] at hi'
    split at hi'
    · rename_i hlt
      obtain ⟨h3, ad, h4, h5⟩ := hr _ row hi'
      subst h4
      rw [if_neg (by omega)]
      refine ⟨h3, _, rfl, fun j p hp => ?_⟩
      obtain ⟨u, h6, h7, h8, h9⟩ := h5 j p hp
      refine ⟨u, ?_, ?_, h8, h9⟩
      · rw [add_add, show lo * sz + (i * sz + j) = (lo + i) * sz + j by rw [Nat.add_mul]; omega]; exact h6
      · rw [add_block, add_off, show ad.off + lo * sz + (i * sz + j) = ad.off + ((lo + i) * sz + j) by rw [Nat.add_mul]; omega]; exact h7
    · cases hi'
theorem ok_sliceTo {t e : TypeId} {x y : Operand} {k : IntKind} {h : Int} {sz : Nat} {rows : List (List Pr)} (ho : o.op = .slice t x none (some y) none) (ht : P.underlying t = some (.slice e)) (hz : sizeB P e = some sz) (hx : VL E x (slice sz rows)) (hy : VL E y (is (.int k h))) (h0 : 0 ≤ h) (hl : h ≤ rows.length) :
    OpOK P I o E (slice sz (rows.take h.toNat)) :=
  OpOK.same fun M w a he _ => by
    have h1 := hx.ev he (by simp [ho, Op.operands])
    have h3 : a.eval y = _ := hy.ev he (by simp [ho, Op.operands])
    obtain ⟨A, cap, hv, hc, hm, hA, hr⟩ := h1
    have h2 := slice_part (lo := 0) (hi := h.toNat) (show (slice sz rows).h M w (.slice A rows.length cap) from ⟨A, cap, rfl, hc, hm, hA, hr⟩) (by omega) (by omega)
    refine ⟨_, ?_, by simpa using h2⟩
    have hb : h ≤ (cap : Int) := by omega
    simp [execOp, ho, hv, h3, Instr.sliceAt, Instr.slice, run_underlying ht, Instr.sliceBounds, Instr.sliceBound, asIntOf, h0, hb, run_size hz]
theorem ok_sliceFrom {t e : TypeId} {x y : Operand} {k : IntKind} {l : Int} {sz : Nat} {rows : List (List Pr)} (ho : o.op = .slice t x (some y) none none) (ht : P.underlying t = some (.slice e)) (hz : sizeB P e = some sz) (hx : VL E x (slice sz rows)) (hy : VL E y (is (.int k l))) (h0 : 0 ≤ l) (hl : l ≤ rows.length) :
    OpOK P I o E (slice sz (rows.drop l.toNat)) :=
  OpOK.same fun M w a he _ => by
    have h1 := hx.ev he (by simp [ho, Op.operands])
    have h3 : a.eval y = _ := hy.ev he (by simp [ho, Op.operands])
    obtain ⟨A, cap, hv, hc, hm, hA, hr⟩ := h1
    have h2 := slice_part (lo := l.toNat) (hi := rows.length) (show (slice sz rows).h M w (.slice A rows.length cap) from ⟨A, cap, rfl, hc, hm, hA, hr⟩) (by omega) (Nat.le_refl _)
    rw [List.take_length] at h2
    refine ⟨_, ?_, h2⟩
    simp [execOp, ho, hv, h3, Instr.sliceAt, Instr.slice, run_underlying ht, Instr.sliceBounds, Instr.sliceBound, asIntOf, h0, hl, run_size hz]
end
end Cp
namespace Go.Proofs.Ytgdlhajfajddiaa
open Go Go.RowKit Cp

def AdjF (l : List Fnd) : Prop := ∀ (j : Nat) a b, l[j]? = some a → l[j + 1]? = some b → ordF a b < 0
structure NormP (l : List Fnd) : Prop where
  check : ∀ f ∈ l, checkF f = true
  adj : AdjF l
  len : l.length ≤ 400
abbrev AdjTo (l : List Fnd) (k : Nat) : Prop := ∀ (j : Nat) a b, j + 1 < k → l[j]? = some a → l[j + 1]? = some b → ordF a b < 0
theorem adj_step {l : List Fnd} {k : Nat} {x : Fnd} (hx : l[k]? = some x) (hp : ∀ y, 0 < k → l[k - 1]? = some y → ordF y x < 0) (h : AdjTo l k) : AdjTo l (k + 1) := by
  intro j a b hj ha hb
  by_cases hjk : j + 1 = k
  · subst hjk
    rw [hx] at hb; cases hb
    exact hp a (by omega) (by simpa using ha)
  · exact h j a b (by omega) ha hb
abbrev ChTo (l : List Fnd) (k : Nat) : Prop := ∀ (j : Nat) y, j < k → l[j]? = some y → checkF y = true
theorem ch_step {l : List Fnd} {k : Nat} {x : Fnd} (hx : l[k]? = some x) (hp : checkF x = true) (h : ChTo l k) : ChTo l (k + 1) := by
  intro j y hj hy
  by_cases hjk : j = k
  · subst hjk; rw [hx] at hy; cases hy; exact hp
  · exact h j y (by omega) hy
theorem ch_all {l : List Fnd} (h : ChTo l l.length) : ∀ f ∈ l, checkF f = true := by
  intro f hf
  obtain ⟨j, hj⟩ := List.mem_iff_getElem?.1 hf
  exact h j f (by rcases Nat.lt_or_ge j l.length with h' | h'; exact h'; rw [List.getElem?_eq_none h'] at hj; cases hj) hj
theorem adj_all {l : List Fnd} (h : AdjTo l l.length) : AdjF l := fun j a b ha hb => h j a b (by rcases Nat.lt_or_ge (j + 1) l.length with h' | h'; exact h'; rw [List.getElem?_eq_none h'] at hb; cases hb) ha hb
theorem check_no {f : Fnd} (h : ¬ (if checkF f = true then (0 : Int) else 24) = 0) : checkF f = false := by
  cases hc : checkF f with
  | false => rfl
  | true => rw [if_pos hc] at h; exact absurd rfl h
theorem check_yes {f : Fnd} (h : (if checkF f = true then (0 : Int) else 24) = 0) : checkF f = true := by
  cases hc : checkF f with
  | true => rfl
  | false => rw [hc] at h; cases h
theorem pred_at {l : List Fnd} {f : Fnd → List Pr} {k : Nat} {x : Fnd} (h0 : 0 < k) (h : l[k - 1]? = some x) : (l.map f)[(((k : Nat) : Int) - 1).toNat]? = some (f x) := by
  rw [show (((k : Nat) : Int) - 1).toNat = k - 1 by omega, List.getElem?_map, h]; rfl

set_option maxRecDepth 20000 in
theorem w_FNormal {l : List Fnd} (hf : ∀ f ∈ l, f.fits) [Decidable (NormP l)] : Fun Try.prog 44 [fnds l] (bool (decide (NormP l))) := by
 refine Fun.of Try.func44 rfl rfl (by exact Nat.le_of_ble_eq_true rfl) fun M0 w0 => ?_
 refine Tr.lenm 0 rfl fun hlm_0 => ?_
 refine Tr.seq (Tr.reg0 ?_)
 refine Ch.as rfl rfl rfl rfl rfl ?_
 refine Ch.nil (Fin.go (Tr.seq (Tr.seq (Tr.reg0 ?_))))
 refine Ch.mv rfl rfl rfl rfl rfl ?_
 first
  | refine Ch.oo rfl rfl rfl (ok_lenm rfl Try.underlying22 (vl rfl)) ?_
  | refine Ch.oo rfl rfl rfl (ok_len rfl Try.underlying22 (vl rfl)) ?_
 refine Ch.mv rfl rfl rfl rfl rfl ?_
 refine Ch.nil (Fin.go (Tr.block ?_))
 refine Tr.loopw [(0, _), (5, _), (6, _)] ⟨ke rfl, ke rfl, ke rfl, trivial⟩ (fun k : Nat => [(7, int ((k : Nat) : Int))]) (fun k : Nat => k ≤ (l).length ∧ (ChTo l k ∧ AdjTo l k)) (fun k : Nat => (l).length - k) 0 (⟨Nat.zero_le _, ⟨fun j y hj => absurd hj (by omega), fun j a b hj => absurd hj (by omega)⟩⟩) ⟨ke rfl, trivial⟩ ?_
 rintro k ⟨hle_k, hinv_k⟩
 refine Tr.seq (Tr.reg0 ?_)
 refine Ch.oo rfl rfl rfl (ok_int rfl (vl rfl) (vl rfl) rfl) ?_
 refine Ch.nil (Fin.go (Tr.seq ?_))
 refine Tr.cn rfl (fun h1 q1 => ?_) (fun h1 q1 => ?_)
 ·
  have hk_k : k < (l).length := lt_of_dec h1
  obtain ⟨x, hx_k⟩ := at_ hk_k
  refine Tr.skip (Fin.go (Tr.seq (Tr.block (Tr.seq (Tr.regT ?_)))))
  refine TO.mv rfl rfl rfl rfl rfl ?_
  refine TO.oo rfl rfl rfl (ok_indexAddr rfl Try.underlying22 sz45 (vl rfl) (vl rfl) (by omega) (by first | exact row_at (by assumption) | exact row_atI (by assumption) | assumption)) ?_
  refine TO.oo rfl rfl rfl (ok_loadA rfl agg45 sz45 (vl rfl) rfl rfl) ?_
  refine TO.alloc rfl rfl (by decide) rfl z45 zo45 (fun b1 => ?_)
  refine TO.as rfl rfl rfl rfl rfl ?_
  refine TO.store_all 0 rfl rfl rfl (vl rfl) (VL.le (vl rfl) (agg_cellsP _)) rfl sz45 rfl rfl ?_
  refine TO.freeze 0 4 rfl rfl ?_
  refine TO.nil (Fin.go (Tr.seq ?_))
  refine Tr.reg1 mixed (by kernel_rfl) ?_
  refine Ch.oo rfl rfl rfl (ok_loadA rfl agg45 sz45 (vl rfl) rfl rfl) ?_
  refine Ch.oo rfl rfl rfl (ok_call rfl (w_FCheck (hf x (List.mem_of_getElem? hx_k))) ⟨ke rfl, trivial⟩) ?_
  refine Ch.oo rfl rfl rfl (ok_int rfl (vl rfl) (vl rfl) rfl) ?_
  refine Ch.mv rfl rfl rfl rfl rfl ?_
  refine Ch.cs 15 rfl (fun h2 q2 => ?_) (fun h2 q2 => ?_)
  ·
   have hc := check_no q2
   iterate 3 refine Ch.nf h2 rfl rfl rfl rfl rfl ?_
   iterate 8 refine Ch.u rfl rfl rfl rfl rfl ?_
   refine Ch.nf h2 rfl rfl rfl rfl rfl ?_
   refine Ch.oo rfl rfl rfl (ok_pick_t rfl (vl rfl) h2 (vl rfl)) ?_
   refine Ch.nil (Fin.go ?_)
   refine Tr.w5 0 5 6 7 28 rfl rfl rfl rfl rfl ?_
   refine Tr.cond rfl (fun _ => ?_) (fun h => nomatch h)
   refine Tr.seq (Tr.reg0 ?_)
   refine Ch.as rfl rfl rfl rfl rfl ?_
   refine Ch.nil (Fin.go (Tr.ret ?_))
   refine Fin.block_ret ?_
   refine Fin.then_ret ?_
   refine Fin.then_ret ?_
   refine Fin.block_ret ?_
   refine Fin.then_ret ?_
   refine Fin.ret1 rfl (OutW.bse _ _) rfl ?_
   · first | (refine bool_eq ?_; symm; rw [decide_eq_false_iff_not]; intro hn; have := hn.check x (List.mem_of_getElem? hx_k); rw [hc] at this; cases this; done) | (refine bool_eq ?_; symm; rw [decide_eq_false_iff_not]; intro hn; have := hn.adj (k - 1) p x hp (by rw [show k - 1 + 1 = k by omega]; exact hx_k); omega; done) | (refine bool_eq ?_; rw [decide_eq_decide]; exact ⟨fun hl => ⟨ch_all hinv_k.1, adj_all hinv_k.2, by omega⟩, fun hn => by have := hn.len; omega⟩)
  ·
   have hc := check_yes q2
   refine Ch.ym h2 rfl rfl rfl rfl rfl rfl rfl ?_
   refine Ch.y h2 rfl rfl rfl rfl rfl (ok_int rfl (vl rfl) (vl rfl) rfl) ?_
   refine Ch.ym h2 rfl rfl rfl rfl rfl rfl rfl ?_
   refine Ch.cs 18 rfl (fun h3 q3 => ?_) (fun h3 q3 => ?_)
   ·
    obtain ⟨p, hp⟩ := at_ (l := l) (k := k - 1) (by omega)
    refine Ch.ym h3 rfl rfl rfl rfl rfl rfl rfl ?_
    refine Ch.ym h3 rfl rfl rfl rfl rfl rfl rfl ?_
    first
     | (refine Ch.y h3 rfl rfl rfl rfl rfl (ok_sub rfl (vl rfl) (vl rfl) ?hin) ?_; case hin => unfold InI; omega)
     | refine Ch.y h3 rfl rfl rfl rfl rfl (ok_int rfl (vl rfl) (vl rfl) rfl) ?_
    refine Ch.y h3 rfl rfl rfl rfl rfl (ok_indexAddr rfl Try.underlying22 sz45 (vl rfl) (vl rfl) (by omega) (pred_at (by omega) hp)) ?_
    refine Ch.y h3 rfl rfl rfl rfl rfl (ok_loadA rfl agg45 sz45 (vl rfl) rfl rfl) ?_
    refine Ch.y h3 rfl rfl rfl rfl rfl (ok_loadA rfl agg45 sz45 (vl rfl) rfl rfl) ?_
    refine Ch.y h3 rfl rfl rfl rfl rfl (ok_call rfl (w_FOrder) ⟨ke rfl, ke rfl, trivial⟩) ?_
    refine Ch.y h3 rfl rfl rfl rfl rfl (ok_int rfl (vl rfl) (vl rfl) rfl) ?_
    refine Ch.y h2 rfl rfl rfl rfl rfl (ok_pick_t rfl (vl rfl) h3 (vl rfl)) ?_
    refine Ch.oo rfl rfl rfl (ok_pick_f rfl (vl rfl) h2 (vl rfl)) ?_
    refine Ch.nil (Fin.go ?_)
    refine Tr.w5 0 5 6 7 28 rfl rfl rfl rfl rfl ?_
    refine Tr.cn rfl (fun h4 q4 => ?_) (fun h4 q4 => ?_)
    ·
     refine Tr.seq (Tr.reg0 ?_)
     refine Ch.as rfl rfl rfl rfl rfl ?_
     refine Ch.nil (Fin.go (Tr.ret ?_))
     refine Fin.block_ret ?_
     refine Fin.then_ret ?_
     refine Fin.then_ret ?_
     refine Fin.block_ret ?_
     refine Fin.then_ret ?_
     refine Fin.ret1 rfl (OutW.bse _ _) rfl ?_
     · first | (refine bool_eq ?_; symm; rw [decide_eq_false_iff_not]; intro hn; have := hn.check x (List.mem_of_getElem? hx_k); rw [hc] at this; cases this; done) | (refine bool_eq ?_; symm; rw [decide_eq_false_iff_not]; intro hn; have := hn.adj (k - 1) p x hp (by rw [show k - 1 + 1 = k by omega]; exact hx_k); omega; done) | (refine bool_eq ?_; rw [decide_eq_decide]; exact ⟨fun hl => ⟨ch_all hinv_k.1, adj_all hinv_k.2, by omega⟩, fun hn => by have := hn.len; omega⟩)
    ·
     refine Tr.skip (Fin.block (Fin.go (Tr.reg0 ?_)))
     first
      | (refine Ch.oo rfl rfl rfl (ok_add rfl (vl rfl) (vl rfl) ?hin) ?_; case hin => unfold InI; omega)
      | refine Ch.oo rfl rfl rfl (ok_int rfl (vl rfl) (vl rfl) rfl) ?_
     refine Ch.mv rfl rfl rfl rfl rfl ?_
     refine Ch.nil ?_
     exact Fin.fam_same (k + 1) ⟨⟨hk_k, ⟨ch_step hx_k hc hinv_k.1, adj_step hx_k (by intro y h0 hy; first | omega | (rw [hp] at hy; cases hy; omega)) hinv_k.2⟩⟩, by omega⟩ ⟨⟨_, rfl, int_succ k⟩, ke rfl, ke rfl, ke rfl, trivial⟩
   ·
    iterate 8 refine Ch.nt h3 rfl rfl rfl rfl rfl ?_
    refine Ch.y h2 rfl rfl rfl rfl rfl (ok_pick_f rfl (vl rfl) h3 (vl rfl)) ?_
    refine Ch.oo rfl rfl rfl (ok_pick_f rfl (vl rfl) h2 (vl rfl)) ?_
    refine Ch.nil (Fin.go ?_)
    refine Tr.w5 0 5 6 7 28 rfl rfl rfl rfl rfl ?_
    refine Tr.cond rfl (fun h => nomatch h) (fun _ => ?_)
    refine Tr.skip (Fin.block (Fin.go (Tr.reg0 ?_)))
    first
     | (refine Ch.oo rfl rfl rfl (ok_add rfl (vl rfl) (vl rfl) ?hin) ?_; case hin => unfold InI; omega)
     | refine Ch.oo rfl rfl rfl (ok_int rfl (vl rfl) (vl rfl) rfl) ?_
    refine Ch.mv rfl rfl rfl rfl rfl ?_
    refine Ch.nil ?_
    exact Fin.fam_same (k + 1) ⟨⟨hk_k, ⟨ch_step hx_k hc hinv_k.1, adj_step hx_k (by intro y h0 hy; first | omega | (rw [hp] at hy; cases hy; omega)) hinv_k.2⟩⟩, by omega⟩ ⟨⟨_, rfl, int_succ k⟩, ke rfl, ke rfl, ke rfl, trivial⟩
 ·
  have he_k : k = (l).length := by have := ge_of_dec h1; omega
  subst he_k
  refine Tr.exit ?_
  refine Fin.then_exit ?_
  refine Fin.then_exit ?_
  refine Fin.block_here ?_
  refine Fin.go (Tr.seq (Tr.reg0 ?_))
  refine Ch.mv rfl rfl rfl rfl rfl ?_
  first
   | refine Ch.oo rfl rfl rfl (ok_lenm rfl Try.underlying22 (vl rfl)) ?_
   | refine Ch.oo rfl rfl rfl (ok_len rfl Try.underlying22 (vl rfl)) ?_
  refine Ch.oo rfl rfl rfl (ok_int rfl (vl rfl) (vl rfl) rfl) ?_
  refine Ch.as rfl rfl rfl rfl rfl ?_
  refine Ch.nil (Fin.go (Tr.ret ?_))
  refine Fin.ret1 rfl (OutW.bse _ _) rfl ?_
  · first | (refine bool_eq ?_; symm; rw [decide_eq_false_iff_not]; intro hn; have := hn.check x (List.mem_of_getElem? hx_k); rw [hc] at this; cases this; done) | (refine bool_eq ?_; symm; rw [decide_eq_false_iff_not]; intro hn; have := hn.adj (k - 1) p x hp (by rw [show k - 1 + 1 = k by omega]; exact hx_k); omega; done) | (refine bool_eq ?_; rw [decide_eq_decide]; exact ⟨fun hl => ⟨ch_all hinv_k.1, adj_all hinv_k.2, by omega⟩, fun hn => by have := hn.len; omega⟩)
/-- Where a finding belongs, seen from the end. -/
def kF (l : List Fnd) (f : Fnd) : Nat := (l.reverse.dropWhile fun x => decide (0 < ordF x f)).length
def putF (l : List Fnd) (f : Fnd) : List Fnd := if 0 < kF l f ∧ ((l[kF l f - 1]?).map fun x => ordF x f) = some 0 then l else l.take (kF l f) ++ [f] ++ l.drop (kF l f)
theorem dropWhile_app {β : Type} {p : β → Bool} : ∀ {l m : List β}, (∀ x ∈ l, p x = true) → (l ++ m).dropWhile p = m.dropWhile p
  | [], _, _ => rfl
  | a :: l, m, h => by
    rw [List.cons_append, List.dropWhile_cons_of_pos (h a (by simp))]
    exact dropWhile_app fun x hx => h x (List.mem_cons_of_mem _ hx)
theorem kF_eq {l : List Fnd} {f : Fnd} {k : Nat} (hk : k ≤ l.length) (hgt : ∀ (j : Nat) y, k ≤ j → l[j]? = some y → 0 < ordF y f) (hle : k = 0 ∨ ∃ x, l[k - 1]? = some x ∧ ¬ 0 < ordF x f) : kF l f = k := by
  unfold kF
  have h1 : l.reverse = (l.drop k).reverse ++ (l.take k).reverse := by rw [← List.reverse_append, List.take_append_drop]
  rw [h1, dropWhile_app (by
    intro x hx
    rw [List.mem_reverse] at hx
    obtain ⟨j, hj⟩ := List.mem_iff_getElem?.1 hx
    rw [List.getElem?_drop] at hj
    simpa using hgt _ x (by omega) hj)]
  rcases hle with h0 | ⟨x, hx, hn⟩
  · subst h0; simp
  · have hk0 : 0 < k := by
      rcases Nat.eq_zero_or_pos k with h | h
      · subst h
        rw [show (0 : Nat) - 1 = 0 from rfl] at hx
        exact absurd (hgt 0 x (Nat.le_refl _) hx) hn
      · exact h
    have h2 : l.take k = l.take (k - 1) ++ [x] := by
      have := List.take_add_one (l := l) (i := k - 1)
      rw [show k - 1 + 1 = k by omega, hx] at this
      simpa using this
    rw [h2, List.reverse_append]
    show (List.dropWhile _ (x :: (l.take (k - 1)).reverse)).length = k
    rw [List.dropWhile_cons_of_neg (by simpa using hn)]
    simp; omega
theorem putF_same {l : List Fnd} {f x : Fnd} {k : Nat} (h : kF l f = k) (h0 : 0 < k) (hx : l[k - 1]? = some x) (he : ordF x f = 0) : putF l f = l := by
  unfold putF; rw [h, if_pos ⟨h0, by rw [hx]; simp [he]⟩]
theorem putF_new {l : List Fnd} {f : Fnd} {k : Nat} (h : kF l f = k) (hn : k = 0 ∨ ∃ x, l[k - 1]? = some x ∧ ¬ ordF x f = 0) : putF l f = l.take k ++ [f] ++ l.drop k := by
  unfold putF; rw [h, if_neg]
  rintro ⟨h1, h2⟩
  rcases hn with h3 | ⟨x, hx, hne⟩
  · omega
  · rw [hx] at h2; simp at h2; exact hne h2

set_option maxRecDepth 20000 in
theorem w_put {l : List Fnd} {f : Fnd} (hl : l.length ≤ 1000) : Fun Try.prog 19 [fnds l, agg (rowF f)] (fnds (putF l f)) := by
 refine Fun.of Try.func19 rfl rfl (by exact Nat.le_of_ble_eq_true rfl) fun M0 w0 => ?_
 refine Tr.seq (Tr.reg0 ?_)
 refine Ch.oo rfl rfl rfl (ok_box rfl (VL.le (vl rfl) (agg_cellsP _))) ?_
 refine Ch.as rfl rfl rfl rfl rfl ?_
 refine Ch.nil (Fin.go (Tr.seq (Tr.reg0 ?_)))
 refine Ch.mv rfl rfl rfl rfl rfl ?_
 first
  | refine Ch.oo rfl rfl rfl (ok_lenm rfl Try.underlying22 (vl rfl)) ?_
  | refine Ch.oo rfl rfl rfl (ok_len rfl Try.underlying22 (vl rfl)) ?_
 refine Ch.as rfl rfl rfl rfl rfl ?_
 refine Ch.nil (Fin.go (Tr.seq (Tr.block ?_)))
 refine Tr.loopw [(0, _), (3, _)] ⟨ke rfl, ke rfl, trivial⟩ (fun k : Nat => [(5, int ((k : Nat) : Int))]) (fun k : Nat => k ≤ l.length ∧ ∀ (j : Nat) y, k ≤ j → l[j]? = some y → 0 < ordF y f) (fun k : Nat => k) l.length (⟨Nat.le_refl _, fun j y h1 h2 => by rw [List.getElem?_eq_none h1] at h2; cases h2⟩) ⟨ke rfl, trivial⟩ ?_
 rintro k ⟨hk, hgt⟩
 refine Tr.seq (Tr.seq ?_)
 refine Tr.reg1 mixed (by kernel_rfl) ?_
 refine Ch.mv rfl rfl rfl rfl rfl ?_
 refine Ch.oo rfl rfl rfl (ok_int rfl (vl rfl) (vl rfl) rfl) ?_
 refine Ch.mv rfl rfl rfl rfl rfl ?_
 refine Ch.cs 10 rfl (fun h1 q1 => ?_) (fun h1 q1 => ?_)
 ·
  obtain ⟨x, hx⟩ := at_ (l := l) (k := k - 1) (by omega)
  refine Ch.ym h1 rfl rfl rfl rfl rfl rfl rfl ?_
  refine Ch.ym h1 rfl rfl rfl rfl rfl rfl rfl ?_
  first
   | (refine Ch.y h1 rfl rfl rfl rfl rfl (ok_sub rfl (vl rfl) (vl rfl) ?hin) ?_; case hin => unfold InI; omega)
   | refine Ch.y h1 rfl rfl rfl rfl rfl (ok_int rfl (vl rfl) (vl rfl) rfl) ?_
  refine Ch.y h1 rfl rfl rfl rfl rfl (ok_indexAddr rfl Try.underlying22 sz45 (vl rfl) (vl rfl) (by omega) (pred_at (by omega) hx)) ?_
  refine Ch.y h1 rfl rfl rfl rfl rfl (ok_loadA rfl agg45 sz45 (vl rfl) rfl rfl) ?_
  refine Ch.y h1 rfl rfl rfl rfl rfl (ok_loadA rfl agg45 sz45 (vl rfl) rfl rfl) ?_
  refine Ch.y h1 rfl rfl rfl rfl rfl (ok_call rfl (w_R14Order) ⟨ke rfl, ke rfl, trivial⟩) ?_
  refine Ch.y h1 rfl rfl rfl rfl rfl (ok_int rfl (vl rfl) (vl rfl) rfl) ?_
  refine Ch.oo rfl rfl rfl (ok_pick_t rfl (vl rfl) h1 (vl rfl)) ?_
  refine Ch.nil (Fin.go ?_)
  refine Tr.w4 0 3 5 19 rfl rfl rfl rfl ?_
  refine Tr.cn rfl (fun h2 q2 => ?_) (fun h2 q2 => ?_)
  ·
   have := h2
   refine Tr.skip (Fin.go (Tr.block (Tr.reg0 ?_)))
   refine Ch.mv rfl rfl rfl rfl rfl ?_
   first
    | (refine Ch.oo rfl rfl rfl (ok_sub rfl (vl rfl) (vl rfl) ?hin) ?_; case hin => unfold InI; omega)
    | refine Ch.oo rfl rfl rfl (ok_int rfl (vl rfl) (vl rfl) rfl) ?_
   refine Ch.as rfl rfl rfl rfl rfl ?_
   refine Ch.nil (Fin.block ?_)
   exact Fin.fam_same (k - 1) ⟨⟨by omega, fun j y h1 h2 => by rcases Nat.eq_or_lt_of_le h1 with h3 | h3; (subst h3; rw [hx] at h2; cases h2; omega); exact hgt j y (by omega) h2⟩, by omega⟩ ⟨⟨_, rfl, int_eq (by omega)⟩, ke rfl, ke rfl, trivial⟩
  ·
   have := h2
   refine Tr.exit ?_
   refine Fin.then_exit ?_
   refine Fin.then_exit ?_
   refine Fin.block_here ?_
   refine Fin.go (Tr.seq (Tr.seq ?_))
   refine Tr.reg1 mixed (by kernel_rfl) ?_
   refine Ch.mv rfl rfl rfl rfl rfl ?_
   refine Ch.oo rfl rfl rfl (ok_int rfl (vl rfl) (vl rfl) rfl) ?_
   refine Ch.mv rfl rfl rfl rfl rfl ?_
   refine Ch.cs 24 rfl (fun h3 q3 => ?_) (fun h3 q3 => ?_)
   ·
    obtain ⟨x2, hx2⟩ := at_ (l := l) (k := k - 1) (by omega)
    refine Ch.ym h3 rfl rfl rfl rfl rfl rfl rfl ?_
    refine Ch.ym h3 rfl rfl rfl rfl rfl rfl rfl ?_
    first
     | (refine Ch.y h3 rfl rfl rfl rfl rfl (ok_sub rfl (vl rfl) (vl rfl) ?hin) ?_; case hin => unfold InI; omega)
     | refine Ch.y h3 rfl rfl rfl rfl rfl (ok_int rfl (vl rfl) (vl rfl) rfl) ?_
    refine Ch.y h3 rfl rfl rfl rfl rfl (ok_indexAddr rfl Try.underlying22 sz45 (vl rfl) (vl rfl) (by omega) (pred_at (by omega) hx2)) ?_
    refine Ch.y h3 rfl rfl rfl rfl rfl (ok_loadA rfl agg45 sz45 (vl rfl) rfl rfl) ?_
    refine Ch.y h3 rfl rfl rfl rfl rfl (ok_loadA rfl agg45 sz45 (vl rfl) rfl rfl) ?_
    refine Ch.y h3 rfl rfl rfl rfl rfl (ok_call rfl (w_R14Order) ⟨ke rfl, ke rfl, trivial⟩) ?_
    refine Ch.y h3 rfl rfl rfl rfl rfl (ok_int rfl (vl rfl) (vl rfl) rfl) ?_
    refine Ch.oo rfl rfl rfl (ok_pick_t rfl (vl rfl) h3 (vl rfl)) ?_
    refine Ch.nil (Fin.go ?_)
    refine Tr.w4 0 3 5 33 rfl rfl rfl rfl ?_
    refine Tr.cn rfl (fun h4 q4 => ?_) (fun h4 q4 => ?_)
    ·
     refine Tr.seq (Tr.reg0 ?_)
     refine Ch.mv rfl rfl rfl rfl rfl ?_
     refine Ch.as rfl rfl rfl rfl rfl ?_
     refine Ch.nil (Fin.go (Tr.ret ?_))
     refine Fin.then_ret ?_
     refine Fin.ret1 rfl (OutW.bse _ _) rfl ?_
     · rw [putF_same (kF_eq hk hgt (.inr ⟨x, hx, by omega⟩)) (by omega) hx2 (by assumption)]; exact Pr.le_refl _
    ·
     refine Tr.skip (Fin.go (Tr.seq ?_))
     refine Tr.pad ?_
     refine Tr.regX mixed [none, none, none, none, some (0, 0, true, 39), none, none, some (39, 0, true, 42), none, none, none, some (42, 0, true, 46), some (46, 0, true, 4)] (by kernel_rfl) ?_
     refine Cx.oo rfl rfl rfl (fun _ => ok_buildSlice (xs := []) (rows := []) rfl rfl Try.underlying22 sz45 z45 rfl (by decide) trivial (by decide)) ?_
     refine Cx.mv rfl rfl rfl rfl rfl ?_
     refine Cx.mv rfl rfl rfl rfl rfl ?_
     refine Cx.oo rfl rfl rfl (fun _ => ok_sliceTo rfl Try.underlying22 sz45 (vl rfl) (vl rfl) (by omega) (by first | omega | (simp; omega))) ?_
     refine Cx.ef 0 rfl rfl (by decide) (ef_append rfl rfl (by decide) rfl Try.underlying22 sz45 by45 z45 rfl (by decide) ⟨_, rfl, full_le _ _⟩ (vl rfl) (by simp; unfold maxLen; omega) (by simp; omega) (appR_full (by exact List.Mem.head _) (vl rfl))) ?_
     refine Cx.oo rfl rfl rfl (fun _ => ok_loadA rfl agg45 sz45 (vl rfl) rfl rfl) ?_
     refine Cx.oo rfl rfl rfl (fun _ => ok_buildSlice (xs := [.tmp 40]) (rows := [_]) rfl rfl Try.underlying22 sz45 z45 rfl (by decide) ⟨⟨(by exact rfl), (VL.le (vl rfl) (agg_cellsP _))⟩, trivial⟩ (by decide)) ?_
     refine Cx.ef 0 rfl rfl (by decide) (ef_append rfl rfl (by decide) rfl Try.underlying22 sz45 by45 z45 rfl (by decide) (vl rfl) ⟨_, rfl, full_le _ _⟩ (by simp; unfold maxLen; omega) (by simp; omega) appR_slot) ?_
     refine Cx.mv rfl rfl rfl rfl rfl ?_
     refine Cx.mv rfl rfl rfl rfl rfl ?_
     refine Cx.oo rfl rfl rfl (fun _ => ok_sliceFrom rfl Try.underlying22 sz45 (vl rfl) (vl rfl) (by omega) (by first | omega | (simp; omega))) ?_
     refine Cx.ef 0 rfl rfl (by decide) (ef_append rfl rfl (by decide) rfl Try.underlying22 sz45 by45 z45 rfl (by decide) (vl rfl) (vl rfl) (by simp; unfold maxLen; omega) (by simp; omega) appR_slot) ?_
     refine Cx.ef 0 rfl rfl (by decide) (ef_move rfl rfl (by decide) rfl (vl rfl)) ?_
     refine Cx.nil ⟨rfl, ?_⟩
     refine FinX.open_ 0 4 rfl rfl (fun v1 => ?_)
     refine FinX.done (AllC.cons (AllC.map _)) ?_
     refine Fin.go ?_
     refine Tr.w1 4 rfl ?_
     refine Tr.ret ?_
     refine Fin.ret1 rfl (OutW.bse _ _) rfl ?_
     · rw [putF_new (kF_eq hk hgt (.inr ⟨x, hx, by omega⟩)) (.inr ⟨x2, hx2, by assumption⟩)]; exact Pr.le_trans (andIs_le _ _) (Pr.le_of_eq (by show slice 11 _ = slice 11 _; rw [Int.toNat_natCast, List.map_append, List.map_append, List.map_take, List.map_drop, List.nil_append]; rfl))
   ·
    iterate 8 refine Ch.nt h3 rfl rfl rfl rfl rfl ?_
    refine Ch.oo rfl rfl rfl (ok_pick_f rfl (vl rfl) h3 (vl rfl)) ?_
    refine Ch.nil (Fin.go ?_)
    refine Tr.w4 0 3 5 33 rfl rfl rfl rfl ?_
    refine Tr.cond rfl (fun h => nomatch h) (fun _ => ?_)
    refine Tr.skip (Fin.go (Tr.seq ?_))
    refine Tr.pad ?_
    refine Tr.regX mixed [none, none, none, none, some (0, 0, true, 39), none, none, some (39, 0, true, 42), none, none, none, some (42, 0, true, 46), some (46, 0, true, 4)] (by kernel_rfl) ?_
    refine Cx.oo rfl rfl rfl (fun _ => ok_buildSlice (xs := []) (rows := []) rfl rfl Try.underlying22 sz45 z45 rfl (by decide) trivial (by decide)) ?_
    refine Cx.mv rfl rfl rfl rfl rfl ?_
    refine Cx.mv rfl rfl rfl rfl rfl ?_
    refine Cx.oo rfl rfl rfl (fun _ => ok_sliceTo rfl Try.underlying22 sz45 (vl rfl) (vl rfl) (by omega) (by first | omega | (simp; omega))) ?_
    refine Cx.ef 0 rfl rfl (by decide) (ef_append rfl rfl (by decide) rfl Try.underlying22 sz45 by45 z45 rfl (by decide) ⟨_, rfl, full_le _ _⟩ (vl rfl) (by simp; unfold maxLen; omega) (by simp; omega) (appR_full (by exact List.Mem.head _) (vl rfl))) ?_
    refine Cx.oo rfl rfl rfl (fun _ => ok_loadA rfl agg45 sz45 (vl rfl) rfl rfl) ?_
    refine Cx.oo rfl rfl rfl (fun _ => ok_buildSlice (xs := [.tmp 40]) (rows := [_]) rfl rfl Try.underlying22 sz45 z45 rfl (by decide) ⟨⟨(by exact rfl), (VL.le (vl rfl) (agg_cellsP _))⟩, trivial⟩ (by decide)) ?_
    refine Cx.ef 0 rfl rfl (by decide) (ef_append rfl rfl (by decide) rfl Try.underlying22 sz45 by45 z45 rfl (by decide) (vl rfl) ⟨_, rfl, full_le _ _⟩ (by simp; unfold maxLen; omega) (by simp; omega) appR_slot) ?_
    refine Cx.mv rfl rfl rfl rfl rfl ?_
    refine Cx.mv rfl rfl rfl rfl rfl ?_
    refine Cx.oo rfl rfl rfl (fun _ => ok_sliceFrom rfl Try.underlying22 sz45 (vl rfl) (vl rfl) (by omega) (by first | omega | (simp; omega))) ?_
    refine Cx.ef 0 rfl rfl (by decide) (ef_append rfl rfl (by decide) rfl Try.underlying22 sz45 by45 z45 rfl (by decide) (vl rfl) (vl rfl) (by simp; unfold maxLen; omega) (by simp; omega) appR_slot) ?_
    refine Cx.ef 0 rfl rfl (by decide) (ef_move rfl rfl (by decide) rfl (vl rfl)) ?_
    refine Cx.nil ⟨rfl, ?_⟩
    refine FinX.open_ 0 4 rfl rfl (fun v2 => ?_)
    refine FinX.done (AllC.cons (AllC.map _)) ?_
    refine Fin.go ?_
    refine Tr.w1 4 rfl ?_
    refine Tr.ret ?_
    refine Fin.ret1 rfl (OutW.bse _ _) rfl ?_
    · exfalso; omega
 ·
  iterate 8 refine Ch.nt h1 rfl rfl rfl rfl rfl ?_
  refine Ch.oo rfl rfl rfl (ok_pick_f rfl (vl rfl) h1 (vl rfl)) ?_
  refine Ch.nil (Fin.go ?_)
  refine Tr.w4 0 3 5 19 rfl rfl rfl rfl ?_
  refine Tr.cond rfl (fun h => nomatch h) (fun _ => ?_)
  refine Tr.exit ?_
  refine Fin.then_exit ?_
  refine Fin.then_exit ?_
  refine Fin.block_here ?_
  refine Fin.go (Tr.seq (Tr.seq ?_))
  refine Tr.reg1 mixed (by kernel_rfl) ?_
  refine Ch.mv rfl rfl rfl rfl rfl ?_
  refine Ch.oo rfl rfl rfl (ok_int rfl (vl rfl) (vl rfl) rfl) ?_
  refine Ch.mv rfl rfl rfl rfl rfl ?_
  refine Ch.cs 24 rfl (fun h5 q5 => ?_) (fun h5 q5 => ?_)
  ·
   obtain ⟨x2, hx2⟩ := at_ (l := l) (k := k - 1) (by omega)
   refine Ch.ym h5 rfl rfl rfl rfl rfl rfl rfl ?_
   refine Ch.ym h5 rfl rfl rfl rfl rfl rfl rfl ?_
   first
    | (refine Ch.y h5 rfl rfl rfl rfl rfl (ok_sub rfl (vl rfl) (vl rfl) ?hin) ?_; case hin => unfold InI; omega)
    | refine Ch.y h5 rfl rfl rfl rfl rfl (ok_int rfl (vl rfl) (vl rfl) rfl) ?_
   refine Ch.y h5 rfl rfl rfl rfl rfl (ok_indexAddr rfl Try.underlying22 sz45 (vl rfl) (vl rfl) (by omega) (pred_at (by omega) hx2)) ?_
   refine Ch.y h5 rfl rfl rfl rfl rfl (ok_loadA rfl agg45 sz45 (vl rfl) rfl rfl) ?_
   refine Ch.y h5 rfl rfl rfl rfl rfl (ok_loadA rfl agg45 sz45 (vl rfl) rfl rfl) ?_
   refine Ch.y h5 rfl rfl rfl rfl rfl (ok_call rfl (w_R14Order) ⟨ke rfl, ke rfl, trivial⟩) ?_
   refine Ch.y h5 rfl rfl rfl rfl rfl (ok_int rfl (vl rfl) (vl rfl) rfl) ?_
   refine Ch.oo rfl rfl rfl (ok_pick_t rfl (vl rfl) h5 (vl rfl)) ?_
   refine Ch.nil (Fin.go ?_)
   refine Tr.w4 0 3 5 33 rfl rfl rfl rfl ?_
   refine Tr.cn rfl (fun h6 q6 => ?_) (fun h6 q6 => ?_)
   ·
    refine Tr.seq (Tr.reg0 ?_)
    refine Ch.mv rfl rfl rfl rfl rfl ?_
    refine Ch.as rfl rfl rfl rfl rfl ?_
    refine Ch.nil (Fin.go (Tr.ret ?_))
    refine Fin.then_ret ?_
    refine Fin.ret1 rfl (OutW.bse _ _) rfl ?_
    · exfalso; omega
   ·
    refine Tr.skip (Fin.go (Tr.seq ?_))
    refine Tr.pad ?_
    refine Tr.regX mixed [none, none, none, none, some (0, 0, true, 39), none, none, some (39, 0, true, 42), none, none, none, some (42, 0, true, 46), some (46, 0, true, 4)] (by kernel_rfl) ?_
    refine Cx.oo rfl rfl rfl (fun _ => ok_buildSlice (xs := []) (rows := []) rfl rfl Try.underlying22 sz45 z45 rfl (by decide) trivial (by decide)) ?_
    refine Cx.mv rfl rfl rfl rfl rfl ?_
    refine Cx.mv rfl rfl rfl rfl rfl ?_
    refine Cx.oo rfl rfl rfl (fun _ => ok_sliceTo rfl Try.underlying22 sz45 (vl rfl) (vl rfl) (by omega) (by first | omega | (simp; omega))) ?_
    refine Cx.ef 0 rfl rfl (by decide) (ef_append rfl rfl (by decide) rfl Try.underlying22 sz45 by45 z45 rfl (by decide) ⟨_, rfl, full_le _ _⟩ (vl rfl) (by simp; unfold maxLen; omega) (by simp; omega) (appR_full (by exact List.Mem.head _) (vl rfl))) ?_
    refine Cx.oo rfl rfl rfl (fun _ => ok_loadA rfl agg45 sz45 (vl rfl) rfl rfl) ?_
    refine Cx.oo rfl rfl rfl (fun _ => ok_buildSlice (xs := [.tmp 40]) (rows := [_]) rfl rfl Try.underlying22 sz45 z45 rfl (by decide) ⟨⟨(by exact rfl), (VL.le (vl rfl) (agg_cellsP _))⟩, trivial⟩ (by decide)) ?_
    refine Cx.ef 0 rfl rfl (by decide) (ef_append rfl rfl (by decide) rfl Try.underlying22 sz45 by45 z45 rfl (by decide) (vl rfl) ⟨_, rfl, full_le _ _⟩ (by simp; unfold maxLen; omega) (by simp; omega) appR_slot) ?_
    refine Cx.mv rfl rfl rfl rfl rfl ?_
    refine Cx.mv rfl rfl rfl rfl rfl ?_
    refine Cx.oo rfl rfl rfl (fun _ => ok_sliceFrom rfl Try.underlying22 sz45 (vl rfl) (vl rfl) (by omega) (by first | omega | (simp; omega))) ?_
    refine Cx.ef 0 rfl rfl (by decide) (ef_append rfl rfl (by decide) rfl Try.underlying22 sz45 by45 z45 rfl (by decide) (vl rfl) (vl rfl) (by simp; unfold maxLen; omega) (by simp; omega) appR_slot) ?_
    refine Cx.ef 0 rfl rfl (by decide) (ef_move rfl rfl (by decide) rfl (vl rfl)) ?_
    refine Cx.nil ⟨rfl, ?_⟩
    refine FinX.open_ 0 4 rfl rfl (fun v3 => ?_)
    refine FinX.done (AllC.cons (AllC.map _)) ?_
    refine Fin.go ?_
    refine Tr.w1 4 rfl ?_
    refine Tr.ret ?_
    refine Fin.ret1 rfl (OutW.bse _ _) rfl ?_
    · exfalso; omega
  ·
   iterate 8 refine Ch.nt h5 rfl rfl rfl rfl rfl ?_
   refine Ch.oo rfl rfl rfl (ok_pick_f rfl (vl rfl) h5 (vl rfl)) ?_
   refine Ch.nil (Fin.go ?_)
   refine Tr.w4 0 3 5 33 rfl rfl rfl rfl ?_
   refine Tr.cond rfl (fun h => nomatch h) (fun _ => ?_)
   refine Tr.skip (Fin.go (Tr.seq ?_))
   refine Tr.pad ?_
   refine Tr.regX mixed [none, none, none, none, some (0, 0, true, 39), none, none, some (39, 0, true, 42), none, none, none, some (42, 0, true, 46), some (46, 0, true, 4)] (by kernel_rfl) ?_
   refine Cx.oo rfl rfl rfl (fun _ => ok_buildSlice (xs := []) (rows := []) rfl rfl Try.underlying22 sz45 z45 rfl (by decide) trivial (by decide)) ?_
   refine Cx.mv rfl rfl rfl rfl rfl ?_
   refine Cx.mv rfl rfl rfl rfl rfl ?_
   refine Cx.oo rfl rfl rfl (fun _ => ok_sliceTo rfl Try.underlying22 sz45 (vl rfl) (vl rfl) (by omega) (by first | omega | (simp; omega))) ?_
   refine Cx.ef 0 rfl rfl (by decide) (ef_append rfl rfl (by decide) rfl Try.underlying22 sz45 by45 z45 rfl (by decide) ⟨_, rfl, full_le _ _⟩ (vl rfl) (by simp; unfold maxLen; omega) (by simp; omega) (appR_full (by exact List.Mem.head _) (vl rfl))) ?_
   refine Cx.oo rfl rfl rfl (fun _ => ok_loadA rfl agg45 sz45 (vl rfl) rfl rfl) ?_
   refine Cx.oo rfl rfl rfl (fun _ => ok_buildSlice (xs := [.tmp 40]) (rows := [_]) rfl rfl Try.underlying22 sz45 z45 rfl (by decide) ⟨⟨(by exact rfl), (VL.le (vl rfl) (agg_cellsP _))⟩, trivial⟩ (by decide)) ?_
   refine Cx.ef 0 rfl rfl (by decide) (ef_append rfl rfl (by decide) rfl Try.underlying22 sz45 by45 z45 rfl (by decide) (vl rfl) ⟨_, rfl, full_le _ _⟩ (by simp; unfold maxLen; omega) (by simp; omega) appR_slot) ?_
   refine Cx.mv rfl rfl rfl rfl rfl ?_
   refine Cx.mv rfl rfl rfl rfl rfl ?_
   refine Cx.oo rfl rfl rfl (fun _ => ok_sliceFrom rfl Try.underlying22 sz45 (vl rfl) (vl rfl) (by omega) (by first | omega | (simp; omega))) ?_
   refine Cx.ef 0 rfl rfl (by decide) (ef_append rfl rfl (by decide) rfl Try.underlying22 sz45 by45 z45 rfl (by decide) (vl rfl) (vl rfl) (by simp; unfold maxLen; omega) (by simp; omega) appR_slot) ?_
   refine Cx.ef 0 rfl rfl (by decide) (ef_move rfl rfl (by decide) rfl (vl rfl)) ?_
   refine Cx.nil ⟨rfl, ?_⟩
   refine FinX.open_ 0 4 rfl rfl (fun v4 => ?_)
   refine FinX.done (AllC.cons (AllC.map _)) ?_
   refine Fin.go ?_
   refine Tr.w1 4 rfl ?_
   refine Tr.ret ?_
   refine Fin.ret1 rfl (OutW.bse _ _) rfl ?_
   · rw [putF_new (kF_eq hk hgt (.inl (by omega))) (.inl (by omega))]; exact Pr.le_trans (andIs_le _ _) (Pr.le_of_eq (by show slice 11 _ = slice 11 _; rw [Int.toNat_natCast, List.map_append, List.map_append, List.map_take, List.map_drop, List.nil_append]; rfl))
theorem kF_le (l : List Fnd) (f : Fnd) : kF l f ≤ l.length := by
  unfold kF
  have := (List.dropWhile_sublist (l := l.reverse) (fun x => decide (0 < ordF x f))).length_le
  simpa using this
theorem putF_len (l : List Fnd) (f : Fnd) : (putF l f).length ≤ l.length + 1 := by
  have := kF_le l f
  unfold putF; split
  · omega
  · simp; omega
theorem fold_len : ∀ (l acc : List Fnd), (l.foldl putF acc).length ≤ acc.length + l.length
  | [], acc => by simp
  | f :: l, acc => by
    have h1 := fold_len l (putF acc f)
    have h2 := putF_len acc f
    rw [List.foldl_cons, List.length_cons]; omega
theorem fold_take {l : List Fnd} {k : Nat} {x : Fnd} (hx : l[k]? = some x) : putF ((l.take k).foldl putF []) x = (l.take (k + 1)).foldl putF [] := by
  rw [List.take_add_one, hx, List.foldl_append]; rfl
theorem fold_len' (l : List Fnd) (k : Nat) : ((l.take k).foldl putF []).length ≤ k := by
  have := fold_len (l.take k) []
  have h2 := List.length_take_le k l
  simp at this; omega

set_option maxRecDepth 20000 in
theorem w_R14Norm {l : List Fnd} (hc : ∀ f ∈ l, checkF f = true) (hl : l.length ≤ 400) : Fun Try.prog 7 [fnds l] (tup [fnds (l.foldl putF []), int 0]) := by
 refine Fun.of Try.func7 rfl rfl (by exact Nat.le_of_ble_eq_true rfl) fun M0 w0 => ?_
 refine Tr.seq (Tr.reg0 ?_)
 refine Ch.as rfl rfl rfl rfl rfl ?_
 refine Ch.as rfl rfl rfl rfl rfl ?_
 refine Ch.nil (Fin.go (Tr.seq (Tr.seq (Tr.reg0 ?_))))
 refine Ch.as rfl rfl rfl rfl rfl ?_
 refine Ch.nil (Fin.go (Tr.block ?_))
 refine Tr.loopw [(0, _)] ⟨ke rfl, trivial⟩ (fun k : Nat => [(4, int ((k : Nat) : Int))]) (fun k : Nat => k ≤ (l).length) (fun k : Nat => (l).length - k) 0 (Nat.zero_le _) ⟨ke rfl, trivial⟩ ?_
 rintro k hle_k
 refine Tr.seq (Tr.seq (Tr.reg0 ?_))
 refine Ch.mv rfl rfl rfl rfl rfl ?_
 refine Ch.mv rfl rfl rfl rfl rfl ?_
 first
  | refine Ch.oo rfl rfl rfl (ok_lenm rfl Try.underlying22 (vl rfl)) ?_
  | refine Ch.oo rfl rfl rfl (ok_len rfl Try.underlying22 (vl rfl)) ?_
 refine Ch.oo rfl rfl rfl (ok_int rfl (vl rfl) (vl rfl) rfl) ?_
 refine Ch.nil (Fin.go ?_)
 refine Tr.cn rfl (fun h1 q1 => ?_) (fun h1 q1 => ?_)
 ·
  have hk_k : k < (l).length := lt_of_dec h1
  obtain ⟨x, hx_k⟩ := at_ hk_k
  refine Tr.skip (Fin.go (Tr.seq (Tr.block (Tr.seq (Tr.reg0 ?_)))))
  refine Ch.mv rfl rfl rfl rfl rfl ?_
  refine Ch.mv rfl rfl rfl rfl rfl ?_
  refine Ch.oo rfl rfl rfl (ok_indexAddr rfl Try.underlying22 sz45 (vl rfl) (vl rfl) (by omega) (by first | exact row_at (by assumption) | exact row_atI (by assumption) | assumption)) ?_
  refine Ch.oo rfl rfl rfl (ok_loadA rfl agg45 sz45 (vl rfl) rfl rfl) ?_
  refine Ch.oo rfl rfl rfl (ok_call rfl (w_R14Check) ⟨ke rfl, trivial⟩) ?_
  refine Ch.as rfl rfl rfl rfl rfl ?_
  refine Ch.nil (Fin.go (Tr.seq (Tr.reg0 ?_)))
  refine Ch.mv rfl rfl rfl rfl rfl ?_
  refine Ch.oo rfl rfl rfl (ok_int rfl (vl rfl) (vl rfl) rfl) ?_
  refine Ch.nil (Fin.go ?_)
  refine Tr.w4 0 4 5 20 rfl rfl rfl rfl ?_
  refine Tr.cn rfl (fun h2 q2 => ?_) (fun h2 q2 => ?_)
  ·
   exact absurd (if_pos (hc x (List.mem_of_getElem? hx_k))) q2
  ·
   refine Tr.skip (Fin.block (Fin.go (Tr.reg0 ?_)))
   refine Ch.mv rfl rfl rfl rfl rfl ?_
   first
    | (refine Ch.oo rfl rfl rfl (ok_add rfl (vl rfl) (vl rfl) ?hin) ?_; case hin => unfold InI; omega)
    | refine Ch.oo rfl rfl rfl (ok_int rfl (vl rfl) (vl rfl) rfl) ?_
   refine Ch.as rfl rfl rfl rfl rfl ?_
   refine Ch.nil ?_
   exact Fin.fam_same (k + 1) ⟨hk_k, by omega⟩ ⟨⟨_, rfl, int_succ k⟩, ke rfl, trivial⟩
 ·
  have he_k : k = (l).length := by have := ge_of_dec h1; omega
  subst he_k
  refine Tr.exit ?_
  refine Fin.then_exit ?_
  refine Fin.then_exit ?_
  refine Fin.block_here ?_
  refine Fin.go (Tr.seq (Tr.reg0 ?_))
  refine Ch.as rfl rfl rfl rfl rfl ?_
  refine Ch.nil (Fin.go (Tr.seq (Tr.seq (Tr.reg0 ?_))))
  refine Ch.as rfl rfl rfl rfl rfl ?_
  refine Ch.nil (Fin.go (Tr.block ?_))
  refine Tr.loopw [(0, _)] ⟨ke rfl, trivial⟩ (fun m : Nat => [(7, int ((m : Nat) : Int)), (6, fnds ((l.take m).foldl putF []))]) (fun m : Nat => m ≤ (l).length) (fun m : Nat => (l).length - m) 0 (Nat.zero_le _) ⟨ke rfl, ⟨_, rfl, nil_slice 11⟩, trivial⟩ ?_
  rintro m hle_m
  refine Tr.seq (Tr.seq (Tr.reg0 ?_))
  refine Ch.mv rfl rfl rfl rfl rfl ?_
  refine Ch.mv rfl rfl rfl rfl rfl ?_
  first
   | refine Ch.oo rfl rfl rfl (ok_lenm rfl Try.underlying22 (vl rfl)) ?_
   | refine Ch.oo rfl rfl rfl (ok_len rfl Try.underlying22 (vl rfl)) ?_
  refine Ch.oo rfl rfl rfl (ok_int rfl (vl rfl) (vl rfl) rfl) ?_
  refine Ch.nil (Fin.go ?_)
  refine Tr.cn rfl (fun h3 q3 => ?_) (fun h3 q3 => ?_)
  ·
   have hk_m : m < (l).length := lt_of_dec h3
   obtain ⟨y, hx_m⟩ := at_ hk_m
   refine Tr.skip (Fin.go (Tr.seq (Tr.block (Tr.seq (Tr.reg0 ?_)))))
   iterate 3 refine Ch.mv rfl rfl rfl rfl rfl ?_
   refine Ch.oo rfl rfl rfl (ok_indexAddr rfl Try.underlying22 sz45 (vl rfl) (vl rfl) (by omega) (by first | exact row_at (by assumption) | exact row_atI (by assumption) | assumption)) ?_
   refine Ch.oo rfl rfl rfl (ok_loadA rfl agg45 sz45 (vl rfl) rfl rfl) ?_
   refine Ch.oo rfl rfl rfl (ok_call rfl (w_put (l := (l.take m).foldl putF []) (f := y) (by have := fold_len' l m; omega)) ⟨ke rfl, ke rfl, trivial⟩) ?_
   refine Ch.as rfl rfl rfl rfl rfl ?_
   refine Ch.nil (Fin.go ?_)
   refine Tr.w3 0 6 7 rfl rfl rfl ?_
   refine Tr.seq (Tr.reg0 ?_)
   refine Ch.mv rfl rfl rfl rfl rfl ?_
   first
    | refine Ch.oo rfl rfl rfl (ok_lenm rfl Try.underlying22 (vl rfl)) ?_
    | refine Ch.oo rfl rfl rfl (ok_len rfl Try.underlying22 (vl rfl)) ?_
   refine Ch.oo rfl rfl rfl (ok_int rfl (vl rfl) (vl rfl) rfl) ?_
   refine Ch.nil (Fin.go ?_)
   refine Tr.cn rfl (fun h4 q4 => ?_) (fun h4 q4 => ?_)
   ·
    exfalso; rw [fold_take hx_m] at q4; have := fold_len' l (m + 1); omega
   ·
    refine Tr.skip (Fin.block (Fin.go (Tr.reg0 ?_)))
    refine Ch.mv rfl rfl rfl rfl rfl ?_
    first
     | (refine Ch.oo rfl rfl rfl (ok_add rfl (vl rfl) (vl rfl) ?hin) ?_; case hin => unfold InI; omega)
     | refine Ch.oo rfl rfl rfl (ok_int rfl (vl rfl) (vl rfl) rfl) ?_
    refine Ch.as rfl rfl rfl rfl rfl ?_
    refine Ch.nil ?_
    exact Fin.fam_same (m + 1) ⟨hk_m, by omega⟩ ⟨⟨_, rfl, int_succ m⟩, ⟨_, rfl, Pr.le_of_eq (by rw [fold_take hx_m])⟩, ke rfl, trivial⟩
  ·
   have he_m : m = (l).length := by have := ge_of_dec h3; omega
   subst he_m
   refine Tr.exit ?_
   refine Fin.then_exit ?_
   refine Fin.then_exit ?_
   refine Fin.block_here ?_
   refine Fin.go (Tr.seq (Tr.reg0 ?_))
   refine Ch.mv rfl rfl rfl rfl rfl ?_
   refine Ch.as rfl rfl rfl rfl rfl ?_
   refine Ch.as rfl rfl rfl rfl rfl ?_
   refine Ch.nil (Fin.go (Tr.ret ?_))
   refine Fin.ret2 rfl (OutW.bse _ _) rfl ?_ rfl ?_
   · exact Pr.le_of_eq (by rw [List.take_length])
   · first | exact Pr.le_refl _ | (refine int_eq ?_; simp_all; done) | (refine bool_eq ?_; simp_all; done) | (refine bool_eq ?_; simp_all; omega) | (refine int_eq ?_; omega)
theorem cmpI_swap (a b : Int) : cmpI b a = - cmpI a b := by unfold cmpI; by_cases h1 : a < b <;> by_cases h2 : b < a <;> simp [h1, h2] <;> omega
theorem orL_neg : ∀ l : List Int, orL (l.map fun x => -x) = - orL l
  | [] => rfl
  | a :: l => by
    have ih := orL_neg l
    show (if -a = 0 then orL (l.map fun x => -x) else -a) = - (if a = 0 then orL l else a)
    by_cases h : a = 0
    · rw [if_pos (by omega), if_pos h, ih]
    · rw [if_neg (by omega), if_neg h]
theorem ordF_swap (a b : Fnd) : ordF b a = - ordF a b := by
  unfold ordF
  rw [← orL_neg]
  unfold keysF
  simp only [List.map_cons, List.map_nil]
  rw [cmp_swap a.host b.host, cmp_swap a.subj b.subj, cmp_swap a.text b.text, cmpI_swap a.machine, cmpI_swap a.day, cmpI_swap a.kind, cmpI_swap a.alg, cmpI_swap a.bits, cmpI_swap a.num, cmpI_swap a.src, cmpI_swap a.conf]
theorem dropWhile_spec {β : Type} {p : β → Bool} : ∀ (l : List β), ∃ m, l = m ++ l.dropWhile p ∧ (∀ x ∈ m, p x = true) ∧ ∀ y r, l.dropWhile p = y :: r → p y = false
  | [] => ⟨[], rfl, by simp, fun y r h => by cases h⟩
  | a :: l => by
    by_cases h : p a = true
    · obtain ⟨m, h1, h2, h3⟩ := dropWhile_spec (p := p) l
      refine ⟨a :: m, ?_, ?_, ?_⟩
      · rw [List.dropWhile_cons_of_pos h, List.cons_append, ← h1]
      · intro x hx
        rcases List.mem_cons.1 hx with rfl | hx
        · exact h
        · exact h2 x hx
      · intro y r hy; rw [List.dropWhile_cons_of_pos h] at hy; exact h3 y r hy
    · refine ⟨[], ?_, by simp, ?_⟩
      · rw [List.dropWhile_cons_of_neg h]; rfl
      · intro y r hy; rw [List.dropWhile_cons_of_neg h] at hy; injection hy with h1 _; subst h1; simpa using h
theorem kF_spec (l : List Fnd) (f : Fnd) : (∀ y, l[kF l f]? = some y → 0 < ordF y f) ∧ (∀ x, 0 < kF l f → l[kF l f - 1]? = some x → ordF x f ≤ 0) := by
  obtain ⟨m, h1, h2, h3⟩ := dropWhile_spec (p := fun x => decide (0 < ordF x f)) l.reverse
  have hk : kF l f = (l.reverse.dropWhile fun x => decide (0 < ordF x f)).length := rfl
  generalize l.reverse.dropWhile (fun x => decide (0 < ordF x f)) = d at *
  have hl : l = d.reverse ++ m.reverse := by rw [← List.reverse_append, ← h1, List.reverse_reverse]
  refine ⟨fun y hy => ?_, fun x h0 hx => ?_⟩
  · rw [hk, hl, List.getElem?_append_right (by simp)] at hy
    have := h2 y (by have := List.mem_of_getElem? hy; simpa using this)
    simpa using this
  · cases d with
    | nil => rw [hk] at h0; cases h0
    | cons y r =>
      have hx2 : x = y := by
        rw [hk, hl, List.getElem?_append_left (by simp)] at hx
        rw [List.reverse_cons, List.getElem?_append_right (by simp)] at hx
        simpa using hx.symm
      have := h3 y r rfl
      rw [hx2]; simpa using this
theorem put_adj {l : List Fnd} (f : Fnd) (h : AdjF l) : AdjF (putF l f) := by
  obtain ⟨h1, h2⟩ := kF_spec l f
  have hk := kF_le l f
  unfold putF
  split
  · exact h
  · rename_i hn
    generalize kF l f = k at *
    have hlen : (l.take k).length = k := by rw [List.length_take]; omega
    intro j a b ha hb
    rw [List.append_assoc] at ha hb
    rcases Nat.lt_trichotomy (j + 1) k with hj | hj | hj
    · rw [List.getElem?_append_left (by omega), List.getElem?_take, if_pos (by omega)] at ha
      rw [List.getElem?_append_left (by omega), List.getElem?_take, if_pos (by omega)] at hb
      exact h j a b ha hb
    · rw [List.getElem?_append_left (by omega), List.getElem?_take, if_pos (by omega)] at ha
      rw [List.getElem?_append_right (by omega), hlen, show j + 1 - k = 0 by omega] at hb
      simp at hb; subst hb
      have ha' : l[k - 1]? = some a := by rw [show k - 1 = j by omega]; exact ha
      have h3 := h2 a (by omega) ha'
      rcases Int.lt_or_eq_of_le h3 with h4 | h4
      · exact h4
      · exact absurd ⟨by omega, by rw [ha']; simp [h4]⟩ hn
    · rcases Nat.eq_or_lt_of_le (Nat.le_of_lt_succ hj) with hj2 | hj2
      · rw [List.getElem?_append_right (by omega), hlen, show j - k = 0 by omega] at ha
        simp at ha; subst ha
        rw [List.getElem?_append_right (by omega), hlen, show j + 1 - k = 1 by omega] at hb
        simp at hb
        have := h1 b (by simpa using hb)
        rw [ordF_swap b f]; omega
      · rw [List.getElem?_append_right (by omega), hlen, show j - k = (j - k - 1) + 1 by omega] at ha
        rw [List.getElem?_append_right (by omega), hlen, show j + 1 - k = (j - k) + 1 by omega] at hb
        simp at ha hb
        exact h (j - 1) a b (by rw [show j - 1 = k + (j - k - 1) by omega]; exact ha) (by rw [show j - 1 + 1 = k + (j - k) by omega]; exact hb)
theorem put_mem {l : List Fnd} {f x : Fnd} (h : x ∈ putF l f) : x ∈ l ∨ x = f := by
  unfold putF at h
  split at h
  · exact .inl h
  · simp only [List.mem_append, List.mem_singleton] at h
    rcases h with (h | h) | h
    · exact .inl (List.mem_of_mem_take h)
    · exact .inr h
    · exact .inl (List.mem_of_mem_drop h)
theorem fold_adj : ∀ (l acc : List Fnd), AdjF acc → AdjF (l.foldl putF acc)
  | [], _, h => h
  | f :: l, acc, h => fold_adj l _ (put_adj f h)
theorem fold_mem : ∀ (l acc : List Fnd) {x : Fnd}, x ∈ l.foldl putF acc → x ∈ acc ∨ x ∈ l
  | [], _, _, h => .inl h
  | f :: l, acc, x, h => by
    rcases fold_mem l _ h with h1 | h1
    · rcases put_mem h1 with h2 | h2
      · exact .inl h2
      · exact .inr (by simp [h2])
    · exact .inr (List.mem_cons_of_mem _ h1)
theorem norm_ok {l : List Fnd} (hc : ∀ f ∈ l, checkF f = true) (hl : l.length ≤ 400) : NormP (l.foldl putF []) :=
  ⟨fun f hf => by rcases fold_mem l [] hf with h | h; exact absurd h (by simp); exact hc f h, fold_adj l [] (fun j a b h => by simp at h), by have := fold_len l []; simp at this; omega⟩

end Go.Proofs.Ytgdlhajfajddiaa
namespace Go.Proofs.Ytgdlhajfajddiaa
open Go Go.RowKit Cp

abbrev diceS (b : Nat) (s : DS) : Res := diceR 65 b s
theorem mod_pos (n : Int) {k : Int} (hk : 1 ≤ k) : (n.tmod k + k).tmod k = n % k := by
  have h1 : -k < n.tmod k := by have := Int.lt_tmod_of_pos n (b := k) (by omega); omega
  rw [Int.tmod_eq_emod_of_nonneg (by omega), Int.tmod_def, show n - k * n.tdiv k + k = n + k * (1 - n.tdiv k) by rw [Int.mul_sub]; omega, Int.add_mul_emod_self_left]
theorem mod_in (n : Int) {k : Int} (hk : 1 ≤ k) : -k < n.tmod k ∧ n.tmod k < k := by
  have h1 := Int.lt_tmod_of_pos n (b := k) (by omega)
  have h2 := Int.tmod_lt_of_pos n (b := k) (by omega)
  omega

set_option maxRecDepth 20000 in
theorem w_Light {l : List Int}  : Fun Try.prog 14 [ints l] (bool (decide (l.length ≤ 400))) := by
 refine Fun.of Try.func14 rfl rfl (by exact Nat.le_of_ble_eq_true rfl) fun M0 w0 => ?_
 refine Tr.seq (Tr.reg0 ?_)
 refine Ch.as rfl rfl rfl rfl rfl ?_
 refine Ch.nil (Fin.go (Tr.seq (Tr.reg0 ?_)))
 refine Ch.mv rfl rfl rfl rfl rfl ?_
 first
  | refine Ch.oo rfl rfl rfl (ok_lenm rfl Try.underlying26 (vl rfl)) ?_
  | refine Ch.oo rfl rfl rfl (ok_len rfl Try.underlying26 (vl rfl)) ?_
 refine Ch.oo rfl rfl rfl (ok_int rfl (vl rfl) (vl rfl) rfl) ?_
 refine Ch.as rfl rfl rfl rfl rfl ?_
 refine Ch.nil (Fin.go (Tr.ret ?_))
 refine Fin.ret1 rfl (OutW.bse _ _) rfl ?_
 · first | exact Pr.le_refl _ | (refine int_eq ?_; simp_all; done) | (refine bool_eq ?_; simp_all; done) | (refine bool_eq ?_; simp_all; omega) | (refine int_eq ?_; omega)
set_option maxRecDepth 20000 in
theorem w_Mod {n k : Int} (hk : 1 ≤ k) (hk2 : k ≤ 1000000000) : Fun Try.prog 9 [int n, int k] (int (n % k)) := by
 refine Fun.of Try.func9 rfl rfl (by exact Nat.le_of_ble_eq_true rfl) fun M0 w0 => ?_
 have hm := mod_in n hk
 have hp := mod_pos n hk
 refine Tr.seq (Tr.reg0 ?_)
 refine Ch.as rfl rfl rfl rfl rfl ?_
 refine Ch.nil (Fin.go (Tr.seq (Tr.seq (Tr.reg0 ?_))))
 refine Ch.mv rfl rfl rfl rfl rfl ?_
 refine Ch.oo rfl rfl rfl (ok_int rfl (vl rfl) (vl rfl) rfl) ?_
 refine Ch.nil (Fin.go ?_)
 refine Tr.cn rfl (fun h1 q1 => ?_) (fun h1 q1 => ?_)
 ·
  refine Tr.seq (Tr.reg0 ?_)
  refine Ch.as rfl rfl rfl rfl rfl ?_
  refine Ch.nil (Fin.go (Tr.ret ?_))
  refine Fin.then_ret ?_
  refine Fin.ret1 rfl (OutW.bse _ _) rfl ?_
  · exfalso; omega
 ·
  refine Tr.skip (Fin.go (Tr.seq (Tr.reg0 ?_)))
  refine Ch.mv rfl rfl rfl rfl rfl ?_
  refine Ch.mv rfl rfl rfl rfl rfl ?_
  refine Ch.oo rfl rfl rfl (ok_rem rfl (vl rfl) (vl rfl) (by omega)) ?_
  refine Ch.mv rfl rfl rfl rfl rfl ?_
  first
   | (refine Ch.oo rfl rfl rfl (ok_add rfl (vl rfl) (vl rfl) ?hin) ?_; case hin => unfold InI; omega)
   | refine Ch.oo rfl rfl rfl (ok_int rfl (vl rfl) (vl rfl) rfl) ?_
  refine Ch.mv rfl rfl rfl rfl rfl ?_
  refine Ch.oo rfl rfl rfl (ok_rem rfl (vl rfl) (vl rfl) (by omega)) ?_
  refine Ch.as rfl rfl rfl rfl rfl ?_
  refine Ch.nil (Fin.go (Tr.ret ?_))
  refine Fin.ret1 rfl (OutW.bse _ _) rfl ?_
  · refine int_eq ?_; exact hp
set_option maxRecDepth 20000 in
theorem w_DNext {b : Nat} {s : DS} {n : Int} (hn : 1 ≤ n) (hn2 : n ≤ 1000000000) : FunM Try.prog 33 [ptr b 0, int n] (int (s.val n)) (diceS b s) (fun _ => diceS b s.adv) := by
 refine FunM.of Try.func33 rfl rfl (by exact Nat.le_of_ble_eq_true rfl) fun M0 w0 S rs M1 w1 => ?_
 have hs := s.h
 have hs2 := s.h2
 refine Tr.seq (Tr.reg0 ?_)
 refine Ch.as rfl rfl rfl rfl rfl ?_
 refine Ch.nil (Fin.go (Tr.seq (Tr.seq ?_)))
 refine Tr.reg1 mixed (by kernel_rfl) ?_
 refine Ch.mv rfl rfl rfl rfl rfl ?_
 refine Ch.oo rfl rfl rfl (okp_nilCheck rfl (vl rfl)) ?_
 refine Ch.oo rfl rfl rfl (okp_fieldAddr rfl fo65_1 (vl rfl)) ?_
 refine Ch.oo rfl rfl rfl (ok_rd 0 rfl (rd_load1 rfl one3 (vl rfl) rfl)) ?_
 refine Ch.mv rfl rfl rfl rfl rfl ?_
 refine Ch.oo rfl rfl rfl (okp_nilCheck rfl (vl rfl)) ?_
 refine Ch.oo rfl rfl rfl (okp_fieldAddr rfl fo65_0 (vl rfl)) ?_
 refine Ch.oo rfl rfl rfl (ok_rd 0 rfl (rd_load1 rfl one26 (vl rfl) rfl)) ?_
 first
  | refine Ch.oo rfl rfl rfl (ok_lenm rfl Try.underlying26 (vl rfl)) ?_
  | refine Ch.oo rfl rfl rfl (ok_len rfl Try.underlying26 (vl rfl)) ?_
 refine Ch.oo rfl rfl rfl (ok_int rfl (vl rfl) (vl rfl) rfl) ?_
 refine Ch.nil (Fin.go ?_)
 refine Tr.cn rfl (fun h1 q1 => ?_) (fun h1 q1 => ?_)
 ·
  refine Tr.seq (Tr.reg0 ?_)
  refine Ch.as rfl rfl rfl rfl rfl ?_
  refine Ch.nil (Fin.go (Tr.ret ?_))
  refine Fin.then_ret ?_
  rw [DS.adv_end (s := s) (by omega)]
  refine Fin.retY1 [] rfl (RVal.tmp rfl (Pr.le_refl _)) ?_ (fun _ _ _ _ => rfl)
  · refine int_eq ?_; exact (DS.val_end (by omega) n).symm
 ·
  have hlt : s.at_ < s.l.length := by omega
  obtain ⟨x, hx⟩ := at_ hlt
  refine Tr.skip (Fin.go (Tr.seq (Tr.regT ?_)))
  refine TO.mv rfl rfl rfl rfl rfl ?_
  refine TO.oo rfl rfl rfl (okp_nilCheck rfl (vl rfl)) ?_
  refine TO.oo rfl rfl rfl (okp_fieldAddr rfl fo65_1 (vl rfl)) ?_
  refine TO.rd 0 rfl rfl rfl (by decide) (rd_load1 rfl one3 (vl rfl) rfl) ?_
  first
   | (refine TO.oo rfl rfl rfl (ok_add rfl (vl rfl) (vl rfl) ?hin) ?_; case hin => unfold InI; omega)
   | refine TO.oo rfl rfl rfl (ok_int rfl (vl rfl) (vl rfl) rfl) ?_
  refine TO.oo rfl rfl rfl (okp_nilCheck rfl (vl rfl)) ?_
  refine TO.oo rfl rfl rfl (okp_fieldAddr rfl fo65_1 (vl rfl)) ?_
  refine TO.ef0 0 rfl rfl (ef_store rfl rfl (vl rfl) (VL.le (vl rfl) (one_cellsP _)) sz3 rfl (by exact Nat.le_of_ble_eq_true rfl) rfl) ?_
  refine TO.nil (Fin.go ?_)
  refine Tr.w2 0 1 rfl rfl ?_
  refine Tr.seq ?_
  refine Tr.reg1 mixed (by kernel_rfl) ?_
  refine Ch.mv rfl rfl rfl rfl rfl ?_
  refine Ch.oo rfl rfl rfl (okp_nilCheck rfl (vl rfl)) ?_
  refine Ch.oo rfl rfl rfl (okp_fieldAddr rfl fo65_0 (vl rfl)) ?_
  refine Ch.oo rfl rfl rfl (ok_rd 0 rfl (rd_load1 rfl one26 (vl rfl) rfl)) ?_
  refine Ch.mv rfl rfl rfl rfl rfl ?_
  refine Ch.oo rfl rfl rfl (okp_nilCheck rfl (vl rfl)) ?_
  refine Ch.oo rfl rfl rfl (okp_fieldAddr rfl fo65_1 (vl rfl)) ?_
  refine Ch.oo rfl rfl rfl (ok_rd 0 rfl (rd_load1 rfl one3 (vl rfl) rfl)) ?_
  first
   | (refine Ch.oo rfl rfl rfl (ok_sub rfl (vl rfl) (vl rfl) ?hin) ?_; case hin => unfold InI; omega)
   | refine Ch.oo rfl rfl rfl (ok_int rfl (vl rfl) (vl rfl) rfl) ?_
  refine Ch.oo rfl rfl rfl (ok_indexAddr rfl Try.underlying26 sz3 (vl rfl) (vl rfl) (by omega) (by rw [show ((s.at_ : Nat) : Int) + 1 - 1 = ((s.at_ : Nat) : Int) by omega]; exact row_at hx)) ?_
  refine Ch.oo rfl rfl rfl (ok_load1 rfl one3 (vl rfl)) ?_
  refine Ch.mv rfl rfl rfl rfl rfl ?_
  refine Ch.oo rfl rfl rfl (ok_call rfl (w_Mod (by omega) (by omega)) ⟨ke rfl, ke rfl, trivial⟩) ?_
  refine Ch.as rfl rfl rfl rfl rfl ?_
  refine Ch.nil (Fin.go ?_)
  refine Tr.w1 4 rfl ?_
  refine Tr.ret ?_
  rw [DS.adv_at hlt]
  refine Fin.retY1 [] rfl (RVal.tmp rfl (Pr.le_refl _)) ?_ (fun _ _ _ _ => rfl)
  · refine int_eq ?_; exact (DS.val_at hx n).symm
set_option maxRecDepth 20000 in
theorem w_DOf {b : Nat} {s : DS} {l : List Int} (hl : l ≠ []) (hl2 : l.length ≤ 1000000000) : FunM Try.prog 56 [ptr b 0, ints l] (int (s.of l)) (diceS b s) (fun _ => diceS b s.adv) := by
 refine FunM.of Try.func56 rfl rfl (by exact Nat.le_of_ble_eq_true rfl) fun M0 w0 S rs M1 w1 => ?_
 have hl0 : 1 ≤ (l.length : Int) := by have := List.length_pos_iff.2 hl; omega
 have hv := s.val_in hl0
 obtain ⟨x, hx⟩ := at_ (l := l) (k := (s.val l.length).toNat) (by omega)
 refine Tr.seq (Tr.reg0 ?_)
 refine Ch.as rfl rfl rfl rfl rfl ?_
 refine Ch.nil (Fin.go (Tr.seq (Tr.regT ?_)))
 iterate 3 refine TO.mv rfl rfl rfl rfl rfl ?_
 first
  | refine TO.oo rfl rfl rfl (ok_lenm rfl Try.underlying26 (vl rfl)) ?_
  | refine TO.oo rfl rfl rfl (ok_len rfl Try.underlying26 (vl rfl)) ?_
 refine TO.efc 0 rfl rfl (by decide) (ef_callc rfl rfl (by decide) rfl (w_DNext (by omega) (by omega)) ⟨ke rfl, ke rfl, trivial⟩) ?_
 refine TO.oo rfl rfl rfl (ok_indexAddr rfl Try.underlying26 sz3 (vl rfl) (vl rfl) (by omega) (row_atI hx)) ?_
 refine TO.oo rfl rfl rfl (ok_load1 rfl one3 (vl rfl)) ?_
 refine TO.as rfl rfl rfl rfl rfl ?_
 refine TO.nil (Fin.go (Tr.ret ?_))
 refine Fin.retY1 [] rfl (RVal.tmp rfl (Pr.le_refl _)) ?_ (fun _ _ _ _ => rfl)
 · refine int_eq ?_; unfold DS.of; rw [hx]; rfl
/-- New dice. -/
def newDice (l : List Int) (hl : l.length ≤ 1000000000) (v : Value) : Res := match v with | .pointer (some a) => diceR 65 a.block ⟨l, 0, Nat.zero_le _, hl⟩ | _ => noRes

set_option maxRecDepth 20000 in
theorem w_Roll {l : List Int} (hl : l.length ≤ 1000000000) : FunM Try.prog 15 [ints l] (ex fun b => ptr b 0) (noRes) (newDice l hl) := by
 refine FunM.of Try.func15 rfl rfl (by exact Nat.le_of_ble_eq_true rfl) fun M0 w0 S rs M1 w1 => ?_
 refine Tr.seq (Tr.reg0 ?_)
 refine Ch.as rfl rfl rfl rfl rfl ?_
 refine Ch.nil (Fin.go (Tr.seq (Tr.regT ?_)))
 refine TO.mv rfl rfl rfl rfl rfl ?_
 refine TO.oo rfl rfl rfl (ok_build (rows := [(0, [_])]) rfl bl65 zo65 ⟨⟨rfl, (VL.le (vl rfl) (one_cellsP _))⟩, trivial⟩ rfl) ?_
 refine TO.boxm rfl rfl (by decide) rfl (VL.le (vl rfl) (agg_cellsP _)) (fun b1 => ?_)
 refine TO.as rfl rfl rfl rfl rfl ?_
 refine TO.nil (Fin.go (Tr.ret ?_))
 refine Fin.drop 1 ?_
 refine Fin.retY1 [] rfl (RVal.tmp rfl (Pr.le_refl _)) ?_ (by rintro _ _ _ rfl; rfl)
 · exact ex_in b1 (Pr.le_refl _)
end Go.Proofs.Ytgdlhajfajddiaa
namespace Go.Proofs.Ytgdlhajfajddiaa
open Go Go.RowKit Cp

def word_ (s : DS) (l : List (List UInt8)) : List UInt8 := (l[(s.val l.length).toNat]?).getD []
theorem word_mem (s : DS) {l : List (List UInt8)} (h : l ≠ []) : word_ s l ∈ l := by
  have h0 : 1 ≤ (l.length : Int) := by
    have := List.length_pos_iff.2 h
    omega
  have := s.val_in h0
  unfold word_
  rw [List.getElem?_eq_getElem (by omega)]
  exact List.getElem_mem _
abbrev strs (l : List (List UInt8)) : Pr := slice 1 (l.map fun t => [str t])
/-- A finding as the dice make it. -/
structure GoodF (f : Fnd) : Prop where
  check : checkF f = true
  fits : f.fits
  day : 0 ≤ f.day ∧ f.day < 12
structure GoodFs (l : List Fnd) (m : Nat) : Prop where
  norm : NormP l
  fits : ∀ f ∈ l, f.fits
  len : l.length ≤ m
  day : ∀ f ∈ l, 0 ≤ f.day ∧ f.day < 12
theorem named_abc {t : List UInt8} (h : t ∈ [[97], [98], [99]]) : named t = true ∧ t.length ≤ maxLen := by
  simp only [List.mem_cons, List.not_mem_nil, or_false] at h
  rcases h with rfl | rfl | rfl <;> exact ⟨by decide, by decide⟩
theorem named_st {t : List UInt8} (h : t ∈ [[115], [116]]) : named t = true ∧ t.length ≤ maxLen := by
  simp only [List.mem_cons, List.not_mem_nil, or_false] at h
  rcases h with rfl | rfl <;> exact ⟨by decide, by decide⟩
theorem named_ab {t : List UInt8} (h : t ∈ [[97], [98]]) : named t = true ∧ t.length ≤ maxLen := by
  simp only [List.mem_cons, List.not_mem_nil, or_false] at h
  rcases h with rfl | rfl <;> exact ⟨by decide, by decide⟩
theorem good_mk {f : Fnd} (h1 : 1 ≤ f.src ∧ f.src ≤ 7) (h2 : named f.host = true) (h3 : 0 ≤ f.machine ∧ f.machine ≤ 3) (h4 : 0 ≤ f.day ∧ f.day < 12) (h5 : 1 ≤ f.conf ∧ f.conf ≤ 100) (h6 : named f.subj = true) (h7 : contentF f = true)
    (l1 : f.host.length ≤ maxLen) (l2 : f.subj.length ≤ maxLen) (l3 : f.text.length ≤ maxLen) : GoodF f := by
  refine ⟨?_, ⟨l1, l2, l3⟩, h4⟩
  unfold checkF whereF whenF
  rw [h2, h6, h7]
  simp; omega
theorem all_snocF {β : Type} {p : β → Prop} {l : List β} {x : β} (h : ∀ y ∈ l, p y) (hx : p x) : ∀ y ∈ l ++ [x], p y := by
  intro y hy
  rcases List.mem_append.1 hy with hy | hy
  · exact h y hy
  · rw [List.mem_singleton.1 hy]; exact hx
theorem good_fold {l : List Fnd} {m : Nat} (h : ∀ f ∈ l, GoodF f) (hm : l.length ≤ m ∧ l.length ≤ 400) : GoodFs (l.foldl putF []) m := by
  have hmem : ∀ f ∈ l.foldl putF [], f ∈ l := fun f hf => by rcases fold_mem l [] hf with h1 | h1; exact absurd h1 (by simp); exact h1
  have hlen := fold_len l []
  simp at hlen
  exact ⟨norm_ok (fun f hf => (h f hf).check) hm.2, fun f hf => (h f (hmem f hf)).fits, by omega, fun f hf => (h f (hmem f hf)).day⟩
def useL : List (Int × Int) := [(1, 0), (2, 0), (5, 1024), (14, 128)]
theorem useL_ok : ∀ u ∈ useL, strength u.1 u.2 > 0 := by decide

set_option maxRecDepth 20000 in
theorem w_DWord {b : Nat} {s : DS} {l : List (List UInt8)} (hl : l ≠ []) (hl2 : l.length ≤ 1000000000) : FunM Try.prog 55 [ptr b 0, strs l] (str (word_ s l)) (diceS b s) (fun _ => diceS b s.adv) := by
 refine FunM.of Try.func55 rfl rfl (by exact Nat.le_of_ble_eq_true rfl) fun M0 w0 S rs M1 w1 => ?_
 have hl0 : 1 ≤ (l.length : Int) := by have := List.length_pos_iff.2 hl; omega
 have hv := s.val_in hl0
 obtain ⟨x, hx⟩ := at_ (l := l) (k := (s.val l.length).toNat) (by omega)
 refine Tr.seq (Tr.reg0 ?_)
 refine Ch.as rfl rfl rfl rfl rfl ?_
 refine Ch.nil (Fin.go (Tr.seq (Tr.regT ?_)))
 iterate 3 refine TO.mv rfl rfl rfl rfl rfl ?_
 first
  | refine TO.oo rfl rfl rfl (ok_lenm rfl Try.underlying25 (vl rfl)) ?_
  | refine TO.oo rfl rfl rfl (ok_len rfl Try.underlying25 (vl rfl)) ?_
 refine TO.efc 0 rfl rfl (by decide) (ef_callc rfl rfl (by decide) rfl (w_DNext (by omega) (by omega)) ⟨ke rfl, ke rfl, trivial⟩) ?_
 refine TO.oo rfl rfl rfl (ok_indexAddr rfl Try.underlying25 sz9 (vl rfl) (vl rfl) (by omega) (row_atI hx)) ?_
 refine TO.oo rfl rfl rfl (ok_load1 rfl one9 (vl rfl)) ?_
 refine TO.as rfl rfl rfl rfl rfl ?_
 refine TO.nil (Fin.go (Tr.ret ?_))
 refine Fin.retY1 [] rfl (RVal.tmp rfl (Pr.le_refl _)) ?_ (fun _ _ _ _ => rfl)
 · refine str_eq ?_; unfold word_; rw [hx]; rfl
set_option maxRecDepth 20000 in
set_option maxHeartbeats 400000 in
theorem w_Finding {b : Nat} {s : DS}  : FunM Try.prog 34 [ptr b 0] (ex fun f : Fnd => fact (GoodF f) (agg (rowF f))) (diceS b s) (fun _ => diceEx 65 b) := by
 refine FunM.of Try.func34 rfl rfl (by exact Nat.le_of_ble_eq_true rfl) fun M0 w0 S rs M1 w1 => ?_
 refine Tr.seq (Tr.regT ?_)
 refine TO.alloc rfl rfl (by decide) rfl z45 zo45 (fun b1 => ?_)
 refine TO.nil (Fin.go (Tr.seq ?_))
 have f1 := s.val_in (n := 7) (by omega)
 have f2 := named_abc (word_mem (s.adv) (l := [[97], [98], [99]]) (by simp))
 have f3 := (s.adv.adv).of_mem (l := [0, 1, 2, 0, 3]) (by simp)
 have f4 := (s.adv.adv.adv).val_in (n := 12) (by omega)
 have f5 := (s.adv.adv.adv.adv).of_mem (l := [90, 50, 100, 1]) (by simp)
 have f6 := (s.adv.adv.adv.adv.adv).val_in (n := 8) (by omega)
 have f7 := named_st (word_mem (s.adv.adv.adv.adv.adv.adv) (l := [[115], [116]]) (by simp))
 
 refine Tr.regT ?_
 refine TO.mv rfl rfl rfl rfl rfl ?_
 refine TO.efc 1 rfl rfl (by decide) (ef_callc rfl rfl (by decide) rfl (w_DNext (by omega) (by omega)) ⟨ke rfl, ke rfl, trivial⟩) ?_
 first
  | (refine TO.oo rfl rfl rfl (ok_add rfl (vl rfl) (vl rfl) ?hin) ?_; case hin => unfold InI; omega)
  | refine TO.oo rfl rfl rfl (ok_int rfl (vl rfl) (vl rfl) rfl) ?_
 refine TO.mv rfl rfl rfl rfl rfl ?_
 refine TO.oo rfl rfl rfl (ok_buildSlice (xs := [.const (.string ⟨[97].toArray⟩), .const (.string ⟨[98].toArray⟩), .const (.string ⟨[99].toArray⟩)]) (rows := [[_], [_], [_]]) rfl rfl Try.underlying25 sz9 z9 rfl (by decide) ⟨⟨(by exact rfl), (VL.le (vl rfl) (one_cellsP _))⟩, ⟨⟨(by exact rfl), (VL.le (vl rfl) (one_cellsP _))⟩, ⟨⟨(by exact rfl), (VL.le (vl rfl) (one_cellsP _))⟩, trivial⟩⟩⟩ (by decide)) ?_
 refine TO.efc 1 rfl rfl (by decide) (ef_callc rfl rfl (by decide) rfl (w_DWord (l := [[97], [98], [99]]) (by simp) (by simp)) ⟨ke rfl, ⟨_, rfl, full_le _ _⟩, trivial⟩) ?_
 refine TO.mv rfl rfl rfl rfl rfl ?_
 refine TO.oo rfl rfl rfl (ok_buildSlice (xs := [.const (.int .i64 (0)), .const (.int .i64 (1)), .const (.int .i64 (2)), .const (.int .i64 (0)), .const (.int .i64 (3))]) (rows := [[_], [_], [_], [_], [_]]) rfl rfl Try.underlying26 sz3 z3 rfl (by decide) ⟨⟨(by exact rfl), (VL.le (vl rfl) (one_cellsP _))⟩, ⟨⟨(by exact rfl), (VL.le (vl rfl) (one_cellsP _))⟩, ⟨⟨(by exact rfl), (VL.le (vl rfl) (one_cellsP _))⟩, ⟨⟨(by exact rfl), (VL.le (vl rfl) (one_cellsP _))⟩, ⟨⟨(by exact rfl), (VL.le (vl rfl) (one_cellsP _))⟩, trivial⟩⟩⟩⟩⟩ (by decide)) ?_
 refine TO.efc 1 rfl rfl (by decide) (ef_callc rfl rfl (by decide) rfl (w_DOf (l := [0, 1, 2, 0, 3]) (by simp) (by simp)) ⟨ke rfl, ⟨_, rfl, full_le _ _⟩, trivial⟩) ?_
 refine TO.mv rfl rfl rfl rfl rfl ?_
 refine TO.efc 1 rfl rfl (by decide) (ef_callc rfl rfl (by decide) rfl (w_DNext (by omega) (by omega)) ⟨ke rfl, ke rfl, trivial⟩) ?_
 refine TO.mv rfl rfl rfl rfl rfl ?_
 refine TO.oo rfl rfl rfl (ok_buildSlice (xs := [.const (.int .i64 (90)), .const (.int .i64 (50)), .const (.int .i64 (100)), .const (.int .i64 (1))]) (rows := [[_], [_], [_], [_]]) rfl rfl Try.underlying26 sz3 z3 rfl (by decide) ⟨⟨(by exact rfl), (VL.le (vl rfl) (one_cellsP _))⟩, ⟨⟨(by exact rfl), (VL.le (vl rfl) (one_cellsP _))⟩, ⟨⟨(by exact rfl), (VL.le (vl rfl) (one_cellsP _))⟩, ⟨⟨(by exact rfl), (VL.le (vl rfl) (one_cellsP _))⟩, trivial⟩⟩⟩⟩ (by decide)) ?_
 refine TO.efc 1 rfl rfl (by decide) (ef_callc rfl rfl (by decide) rfl (w_DOf (l := [90, 50, 100, 1]) (by simp) (by simp)) ⟨ke rfl, ⟨_, rfl, full_le _ _⟩, trivial⟩) ?_
 refine TO.mv rfl rfl rfl rfl rfl ?_
 refine TO.efc 1 rfl rfl (by decide) (ef_callc rfl rfl (by decide) rfl (w_DNext (by omega) (by omega)) ⟨ke rfl, ke rfl, trivial⟩) ?_
 first
  | (refine TO.oo rfl rfl rfl (ok_add rfl (vl rfl) (vl rfl) ?hin) ?_; case hin => unfold InI; omega)
  | refine TO.oo rfl rfl rfl (ok_int rfl (vl rfl) (vl rfl) rfl) ?_
 refine TO.mv rfl rfl rfl rfl rfl ?_
 refine TO.oo rfl rfl rfl (ok_buildSlice (xs := [.const (.string ⟨[115].toArray⟩), .const (.string ⟨[116].toArray⟩)]) (rows := [[_], [_]]) rfl rfl Try.underlying25 sz9 z9 rfl (by decide) ⟨⟨(by exact rfl), (VL.le (vl rfl) (one_cellsP _))⟩, ⟨⟨(by exact rfl), (VL.le (vl rfl) (one_cellsP _))⟩, trivial⟩⟩ (by decide)) ?_
 refine TO.efc 1 rfl rfl (by decide) (ef_callc rfl rfl (by decide) rfl (w_DWord (l := [[115], [116]]) (by simp) (by simp)) ⟨ke rfl, ⟨_, rfl, full_le _ _⟩, trivial⟩) ?_
 refine TO.oo rfl rfl rfl (ok_build (rows := [(0, [_]), (1, [_]), (2, [_]), (3, [_]), (4, [_]), (5, [_]), (6, [_])]) rfl bl45 zo45 ⟨⟨rfl, (VL.le (vl rfl) (one_cellsP _))⟩, ⟨⟨rfl, (VL.le (vl rfl) (one_cellsP _))⟩, ⟨⟨rfl, (VL.le (vl rfl) (one_cellsP _))⟩, ⟨⟨rfl, (VL.le (vl rfl) (one_cellsP _))⟩, ⟨⟨rfl, (VL.le (vl rfl) (one_cellsP _))⟩, ⟨⟨rfl, (VL.le (vl rfl) (one_cellsP _))⟩, ⟨⟨rfl, (VL.le (vl rfl) (one_cellsP _))⟩, trivial⟩⟩⟩⟩⟩⟩⟩ rfl) ?_
 refine TO.alloc rfl rfl (by decide) rfl z45 zo45 (fun b2 => ?_)
 refine TO.store_all 0 rfl rfl rfl (vl rfl) (VL.le (vl rfl) (agg_cellsP _)) rfl sz45 rfl rfl ?_
 refine TO.nil (Fin.go ?_)
 refine Tr.w3 0 2 3 rfl rfl rfl ?_
 refine Tr.seq (Tr.seq ?_)
 generalize s.adv.adv.adv.adv.adv.adv.adv = s7
 generalize s.val 7 = src at f1 ⊢
 generalize word_ (s.adv) [[97], [98], [99]] = host at f2 ⊢
 generalize (s.adv.adv).of [0, 1, 2, 0, 3] = mach at f3 ⊢
 generalize (s.adv.adv.adv).val 12 = day at f4 ⊢
 generalize (s.adv.adv.adv.adv).of [90, 50, 100, 1] = conf at f5 ⊢
 generalize (s.adv.adv.adv.adv.adv).val 8 = kd at f6 ⊢
 generalize word_ (s.adv.adv.adv.adv.adv.adv) [[115], [116]] = subj at f7 ⊢
 have g3 : 0 ≤ mach ∧ mach ≤ 3 := by simp at f3; omega
 have g5 : 1 ≤ conf ∧ conf ≤ 100 := by simp at f5; omega
 refine Tr.reC 0 [int (1 + src), str host, int mach, int day, int conf, int (1 + kd), str subj, int 0, int 0, int 0, str []] rfl ⟨Pr.le_refl _, Pr.le_refl _, Pr.le_refl _, Pr.le_refl _, Pr.le_refl _, Pr.le_refl _, Pr.le_refl _, Pr.le_refl _, Pr.le_refl _, Pr.le_refl _, Pr.le_refl _, trivial⟩ ?_
 refine Tr.reg0 ?_
 refine Ch.oo rfl rfl rfl (okp_fieldAddr rfl fo45_5 (vl rfl)) ?_
 refine Ch.oo rfl rfl rfl (ok_rd 0 rfl (rd_load1 rfl one3 (vl rfl) rfl)) ?_
 refine Ch.nil (Fin.go (Tr.block (Tr.seq (Tr.seq (Tr.reg0 ?_)))))
 refine Ch.oo rfl rfl rfl (ok_int rfl (vl rfl) (vl rfl) rfl) ?_
 refine Ch.as rfl rfl rfl rfl rfl ?_
 refine Ch.nil (Fin.go ?_)
 refine Tr.cn rfl (fun h1 q1 => ?_) (fun h1 q1 => ?_)
 ·
  refine Tr.skip (Fin.go ?_)
  refine Tr.cond rfl (fun _ => ?_) (fun h => nomatch h1.symm.trans h)
  have f8 := s7.val_in (n := 4) (by omega)
  obtain ⟨u, hu⟩ := at_ (l := useL) (k := (s7.val 4).toNat) (by have : useL.length = 4 := rfl; omega)
  have hu2 := useL_ok u (List.mem_of_getElem? hu)
  refine Tr.regT ?_
  refine TO.oo rfl rfl rfl (ok_build (rows := [(0, [_])]) rfl bl43 zo43 ⟨⟨rfl, (VL.le (vl rfl) (one_cellsP _))⟩, trivial⟩ rfl) ?_
  refine TO.oo rfl rfl rfl (ok_build (rows := [(0, [_])]) rfl bl43 zo43 ⟨⟨rfl, (VL.le (vl rfl) (one_cellsP _))⟩, trivial⟩ rfl) ?_
  refine TO.oo rfl rfl rfl (ok_build (rows := [(0, [_]), (1, [_])]) rfl bl43 zo43 ⟨⟨rfl, (VL.le (vl rfl) (one_cellsP _))⟩, ⟨⟨rfl, (VL.le (vl rfl) (one_cellsP _))⟩, trivial⟩⟩ rfl) ?_
  refine TO.oo rfl rfl rfl (ok_build (rows := [(0, [_]), (1, [_])]) rfl bl43 zo43 ⟨⟨rfl, (VL.le (vl rfl) (one_cellsP _))⟩, ⟨⟨rfl, (VL.le (vl rfl) (one_cellsP _))⟩, trivial⟩⟩ rfl) ?_
  refine TO.oo rfl rfl rfl (ok_buildSlice (xs := [.tmp 30, .tmp 31, .tmp 32, .tmp 33]) (rows := [_, _, _, _]) rfl rfl Try.underlying86 sz43 z43 rfl (by decide) ⟨⟨(by exact rfl), (VL.le (vl rfl) (agg_cellsP _))⟩, ⟨⟨(by exact rfl), (VL.le (vl rfl) (agg_cellsP _))⟩, ⟨⟨(by exact rfl), (VL.le (vl rfl) (agg_cellsP _))⟩, ⟨⟨(by exact rfl), (VL.le (vl rfl) (agg_cellsP _))⟩, trivial⟩⟩⟩⟩ (by decide)) ?_
  refine TO.mv rfl rfl rfl rfl rfl ?_
  refine TO.efc 2 rfl rfl (by decide) (ef_callc rfl rfl (by decide) rfl (w_DNext (by omega) (by omega)) ⟨ke rfl, ke rfl, trivial⟩) ?_
  refine TO.oo rfl rfl rfl (ok_indexAddr rfl Try.underlying86 sz43 ⟨_, rfl, full_le _ _⟩ (vl rfl) (by omega) (row_atI (l := useL) (f := fun p : Int × Int => [int p.1, int p.2]) hu)) ?_
  refine TO.oo rfl rfl rfl (ok_loadA rfl agg43 sz43 (vl rfl) rfl rfl) ?_
  refine TO.oo rfl rfl rfl (okp_fieldAddr rfl fo45_7 (vl rfl)) ?_
  refine TO.ef0 0 rfl rfl (ef_store rfl rfl (vl rfl) (VL.le (vl rfl) (agg_cellsP _)) sz43 rfl (by exact Nat.le_of_ble_eq_true rfl) rfl) ?_
  refine TO.nil (Fin.block (Fin.go ?_))
  refine Tr.w2 2 3 rfl rfl ?_
  refine Tr.seq ?_
  refine Tr.reC 0 [int (1 + src), str host, int mach, int day, int conf, int (1 + kd), str subj, int u.1, int u.2, int 0, str []] rfl ⟨Pr.le_refl _, Pr.le_refl _, Pr.le_refl _, Pr.le_refl _, Pr.le_refl _, Pr.le_refl _, Pr.le_refl _, Pr.le_refl _, Pr.le_refl _, Pr.le_refl _, Pr.le_refl _, trivial⟩ ?_
  refine Tr.regT ?_
  refine TO.rd 0 rfl rfl rfl (by decide) (rd_loadA rfl agg45 sz45 (vl rfl) rfl rfl) ?_
  refine TO.store_all 1 rfl rfl rfl (vl rfl) (VL.le (vl rfl) (agg_cellsP _)) rfl sz45 rfl rfl ?_
  refine TO.nil (Fin.go ?_)
  refine Tr.drop 0 ?_
  refine Tr.ret ?_
  refine Fin.closeD 1 _ rfl rfl ?_
  refine Fin.retY1 [_] rfl (RVal.cell 0 rfl rfl agg45 sz45 rfl (Pr.le_refl _)) ?_ (fun _ _ _ _ => rfl)
  · refine ex_in (Fnd.mk _ _ _ _ _ _ _ _ _ _ _) (fact_in ?_ (Pr.le_refl _)); exact good_mk (by show 1 ≤ 1 + src ∧ 1 + src ≤ 7; omega) f2.1 g3 f4 g5 f7.1 (by unfold contentF; rw [if_pos (by simp; omega)]; simp [hu2]) f2.2 f7.2 (by show (0 : Nat) ≤ _; omega)
 ·
  refine Tr.reg0 ?_
  refine Ch.oo rfl rfl rfl (ok_int rfl (vl rfl) (vl rfl) rfl) ?_
  refine Ch.as rfl rfl rfl rfl rfl ?_
  refine Ch.nil (Fin.go ?_)
  refine Tr.cn rfl (fun h2 q2 => ?_) (fun h2 q2 => ?_)
  ·
   have f8 := s7.val_in (n := 4) (by omega)
   obtain ⟨u, hu⟩ := at_ (l := useL) (k := (s7.val 4).toNat) (by have : useL.length = 4 := rfl; omega)
   have hu2 := useL_ok u (List.mem_of_getElem? hu)
   refine Tr.regT ?_
   refine TO.oo rfl rfl rfl (ok_build (rows := [(0, [_])]) rfl bl43 zo43 ⟨⟨rfl, (VL.le (vl rfl) (one_cellsP _))⟩, trivial⟩ rfl) ?_
   refine TO.oo rfl rfl rfl (ok_build (rows := [(0, [_])]) rfl bl43 zo43 ⟨⟨rfl, (VL.le (vl rfl) (one_cellsP _))⟩, trivial⟩ rfl) ?_
   refine TO.oo rfl rfl rfl (ok_build (rows := [(0, [_]), (1, [_])]) rfl bl43 zo43 ⟨⟨rfl, (VL.le (vl rfl) (one_cellsP _))⟩, ⟨⟨rfl, (VL.le (vl rfl) (one_cellsP _))⟩, trivial⟩⟩ rfl) ?_
   refine TO.oo rfl rfl rfl (ok_build (rows := [(0, [_]), (1, [_])]) rfl bl43 zo43 ⟨⟨rfl, (VL.le (vl rfl) (one_cellsP _))⟩, ⟨⟨rfl, (VL.le (vl rfl) (one_cellsP _))⟩, trivial⟩⟩ rfl) ?_
   refine TO.oo rfl rfl rfl (ok_buildSlice (xs := [.tmp 30, .tmp 31, .tmp 32, .tmp 33]) (rows := [_, _, _, _]) rfl rfl Try.underlying86 sz43 z43 rfl (by decide) ⟨⟨(by exact rfl), (VL.le (vl rfl) (agg_cellsP _))⟩, ⟨⟨(by exact rfl), (VL.le (vl rfl) (agg_cellsP _))⟩, ⟨⟨(by exact rfl), (VL.le (vl rfl) (agg_cellsP _))⟩, ⟨⟨(by exact rfl), (VL.le (vl rfl) (agg_cellsP _))⟩, trivial⟩⟩⟩⟩ (by decide)) ?_
   refine TO.mv rfl rfl rfl rfl rfl ?_
   refine TO.efc 2 rfl rfl (by decide) (ef_callc rfl rfl (by decide) rfl (w_DNext (by omega) (by omega)) ⟨ke rfl, ke rfl, trivial⟩) ?_
   refine TO.oo rfl rfl rfl (ok_indexAddr rfl Try.underlying86 sz43 ⟨_, rfl, full_le _ _⟩ (vl rfl) (by omega) (row_atI (l := useL) (f := fun p : Int × Int => [int p.1, int p.2]) hu)) ?_
   refine TO.oo rfl rfl rfl (ok_loadA rfl agg43 sz43 (vl rfl) rfl rfl) ?_
   refine TO.oo rfl rfl rfl (okp_fieldAddr rfl fo45_7 (vl rfl)) ?_
   refine TO.ef0 0 rfl rfl (ef_store rfl rfl (vl rfl) (VL.le (vl rfl) (agg_cellsP _)) sz43 rfl (by exact Nat.le_of_ble_eq_true rfl) rfl) ?_
   refine TO.nil (Fin.block (Fin.go ?_))
   refine Tr.w2 2 3 rfl rfl ?_
   refine Tr.seq ?_
   refine Tr.reC 0 [int (1 + src), str host, int mach, int day, int conf, int (1 + kd), str subj, int u.1, int u.2, int 0, str []] rfl ⟨Pr.le_refl _, Pr.le_refl _, Pr.le_refl _, Pr.le_refl _, Pr.le_refl _, Pr.le_refl _, Pr.le_refl _, Pr.le_refl _, Pr.le_refl _, Pr.le_refl _, Pr.le_refl _, trivial⟩ ?_
   refine Tr.regT ?_
   refine TO.rd 0 rfl rfl rfl (by decide) (rd_loadA rfl agg45 sz45 (vl rfl) rfl rfl) ?_
   refine TO.store_all 1 rfl rfl rfl (vl rfl) (VL.le (vl rfl) (agg_cellsP _)) rfl sz45 rfl rfl ?_
   refine TO.nil (Fin.go ?_)
   refine Tr.drop 0 ?_
   refine Tr.ret ?_
   refine Fin.closeD 1 _ rfl rfl ?_
   refine Fin.retY1 [_] rfl (RVal.cell 0 rfl rfl agg45 sz45 rfl (Pr.le_refl _)) ?_ (fun _ _ _ _ => rfl)
   · refine ex_in (Fnd.mk _ _ _ _ _ _ _ _ _ _ _) (fact_in ?_ (Pr.le_refl _)); exact good_mk (by show 1 ≤ 1 + src ∧ 1 + src ≤ 7; omega) f2.1 g3 f4 g5 f7.1 (by unfold contentF; rw [if_pos (by simp; omega)]; simp [hu2]) f2.2 f7.2 (by show (0 : Nat) ≤ _; omega)
  ·
   refine Tr.seq (Tr.reg0 ?_)
   refine Ch.oo rfl rfl rfl (ok_int rfl (vl rfl) (vl rfl) rfl) ?_
   refine Ch.as rfl rfl rfl rfl rfl ?_
   refine Ch.nil (Fin.go ?_)
   refine Tr.cn rfl (fun h3 q3 => ?_) (fun h3 q3 => ?_)
   ·
    have f8 := s7.val_in (n := 5) (by omega)
    refine Tr.regT ?_
    refine TO.mv rfl rfl rfl rfl rfl ?_
    refine TO.efc 2 rfl rfl (by decide) (ef_callc rfl rfl (by decide) rfl (w_DNext (by omega) (by omega)) ⟨ke rfl, ke rfl, trivial⟩) ?_
    first
     | (refine TO.oo rfl rfl rfl (ok_add rfl (vl rfl) (vl rfl) ?hin) ?_; case hin => unfold InI; omega)
     | refine TO.oo rfl rfl rfl (ok_int rfl (vl rfl) (vl rfl) rfl) ?_
    refine TO.oo rfl rfl rfl (okp_fieldAddr rfl fo45_8 (vl rfl)) ?_
    refine TO.ef0 0 rfl rfl (ef_store rfl rfl (vl rfl) (VL.le (vl rfl) (one_cellsP _)) sz3 rfl (by exact Nat.le_of_ble_eq_true rfl) rfl) ?_
    refine TO.nil (Fin.block (Fin.go ?_))
    refine Tr.w2 2 3 rfl rfl ?_
    refine Tr.seq ?_
    refine Tr.reC 0 [int (1 + src), str host, int mach, int day, int conf, int (1 + kd), str subj, int 0, int 0, int (1 + s7.val 5), str []] rfl ⟨Pr.le_refl _, Pr.le_refl _, Pr.le_refl _, Pr.le_refl _, Pr.le_refl _, Pr.le_refl _, Pr.le_refl _, Pr.le_refl _, Pr.le_refl _, Pr.le_refl _, Pr.le_refl _, trivial⟩ ?_
    generalize s7.val 5 = nv at f8 ⊢
    refine Tr.regT ?_
    refine TO.rd 0 rfl rfl rfl (by decide) (rd_loadA rfl agg45 sz45 (vl rfl) rfl rfl) ?_
    refine TO.store_all 1 rfl rfl rfl (vl rfl) (VL.le (vl rfl) (agg_cellsP _)) rfl sz45 rfl rfl ?_
    refine TO.nil (Fin.go ?_)
    refine Tr.drop 0 ?_
    refine Tr.ret ?_
    refine Fin.closeD 1 _ rfl rfl ?_
    refine Fin.retY1 [_] rfl (RVal.cell 0 rfl rfl agg45 sz45 rfl (Pr.le_refl _)) ?_ (fun _ _ _ _ => rfl)
    · refine ex_in (Fnd.mk _ _ _ _ _ _ _ _ _ _ _) (fact_in ?_ (Pr.le_refl _)); exact good_mk (by show 1 ≤ 1 + src ∧ 1 + src ≤ 7; omega) f2.1 g3 f4 g5 f7.1 (by unfold contentF bareF; rw [if_neg (by simp; omega), if_pos (by simp; omega)]; simp; omega) f2.2 f7.2 (by show (0 : Nat) ≤ _; omega)
   ·
    refine Tr.seq (Tr.reg0 ?_)
    refine Ch.oo rfl rfl rfl (ok_int rfl (vl rfl) (vl rfl) rfl) ?_
    refine Ch.as rfl rfl rfl rfl rfl ?_
    refine Ch.nil (Fin.go ?_)
    refine Tr.cn rfl (fun h4 q4 => ?_) (fun h4 q4 => ?_)
    ·
     have f8 := s7.of_mem (l := [1024, 2048]) (by simp)
     have f9 := s7.adv.val_in (n := 3) (by omega)
     refine Tr.regT ?_
     refine TO.mv rfl rfl rfl rfl rfl ?_
     refine TO.oo rfl rfl rfl (ok_buildSlice (xs := [.const (.int .i64 (1024)), .const (.int .i64 (2048))]) (rows := [[_], [_]]) rfl rfl Try.underlying26 sz3 z3 rfl (by decide) ⟨⟨(by exact rfl), (VL.le (vl rfl) (one_cellsP _))⟩, ⟨⟨(by exact rfl), (VL.le (vl rfl) (one_cellsP _))⟩, trivial⟩⟩ (by decide)) ?_
     refine TO.efc 2 rfl rfl (by decide) (ef_callc rfl rfl (by decide) rfl (w_DOf (l := [1024, 2048]) (by simp) (by simp)) ⟨ke rfl, ⟨_, rfl, full_le _ _⟩, trivial⟩) ?_
     refine TO.oo rfl rfl rfl (ok_build (rows := [(0, [_]), (1, [_])]) rfl bl43 zo43 ⟨⟨rfl, (VL.le (vl rfl) (one_cellsP _))⟩, ⟨⟨rfl, (VL.le (vl rfl) (one_cellsP _))⟩, trivial⟩⟩ rfl) ?_
     refine TO.mv rfl rfl rfl rfl rfl ?_
     refine TO.efc 2 rfl rfl (by decide) (ef_callc rfl rfl (by decide) rfl (w_DNext (by omega) (by omega)) ⟨ke rfl, ke rfl, trivial⟩) ?_
     first
      | (refine TO.oo rfl rfl rfl (ok_add rfl (vl rfl) (vl rfl) ?hin) ?_; case hin => unfold InI; omega)
      | refine TO.oo rfl rfl rfl (ok_int rfl (vl rfl) (vl rfl) rfl) ?_
     refine TO.oo rfl rfl rfl (okp_fieldAddr rfl fo45_7 (vl rfl)) ?_
     refine TO.ef0 0 rfl rfl (ef_store rfl rfl (vl rfl) (VL.le (vl rfl) (agg_cellsP _)) sz43 rfl (by exact Nat.le_of_ble_eq_true rfl) rfl) ?_
     refine TO.oo rfl rfl rfl (okp_fieldAddr rfl fo45_8 (vl rfl)) ?_
     refine TO.ef0 0 rfl rfl (ef_store rfl rfl (vl rfl) (VL.le (vl rfl) (one_cellsP _)) sz3 rfl (by exact Nat.le_of_ble_eq_true rfl) rfl) ?_
     refine TO.nil (Fin.block (Fin.go ?_))
     refine Tr.w2 2 3 rfl rfl ?_
     refine Tr.seq ?_
     refine Tr.reC 0 [int (1 + src), str host, int mach, int day, int conf, int (1 + kd), str subj, int 5, int (s7.of [1024, 2048]), int (100 + s7.adv.val 3), str []] rfl ⟨Pr.le_refl _, Pr.le_refl _, Pr.le_refl _, Pr.le_refl _, Pr.le_refl _, Pr.le_refl _, Pr.le_refl _, Pr.le_refl _, Pr.le_refl _, Pr.le_refl _, Pr.le_refl _, trivial⟩ ?_
     generalize s7.of [1024, 2048] = bt at f8 ⊢
     generalize s7.adv.val 3 = nv at f9 ⊢
     refine Tr.regT ?_
     refine TO.rd 0 rfl rfl rfl (by decide) (rd_loadA rfl agg45 sz45 (vl rfl) rfl rfl) ?_
     refine TO.store_all 1 rfl rfl rfl (vl rfl) (VL.le (vl rfl) (agg_cellsP _)) rfl sz45 rfl rfl ?_
     refine TO.nil (Fin.go ?_)
     refine Tr.drop 0 ?_
     refine Tr.ret ?_
     refine Fin.closeD 1 _ rfl rfl ?_
     refine Fin.retY1 [_] rfl (RVal.cell 0 rfl rfl agg45 sz45 rfl (Pr.le_refl _)) ?_ (fun _ _ _ _ => rfl)
     · refine ex_in (Fnd.mk _ _ _ _ _ _ _ _ _ _ _) (fact_in ?_ (Pr.le_refl _)); exact good_mk (by show 1 ≤ 1 + src ∧ 1 + src ≤ 7; omega) f2.1 g3 f4 g5 f7.1 (by unfold contentF; rw [if_neg (by simp; omega), if_neg (by simp; omega), if_pos (by simp; omega)]; simp at f8; rcases f8 with h | h <;> rw [h] <;> simp [show strength 5 1024 > 0 by decide, show strength 5 2048 > 0 by decide, show (catOf 5).kind = 2 by rfl] <;> omega) f2.2 f7.2 (by show (0 : Nat) ≤ _; omega)
    ·
     refine Tr.seq (Tr.seq (Tr.reg0 ?_))
     refine Ch.oo rfl rfl rfl (ok_int rfl (vl rfl) (vl rfl) rfl) ?_
     refine Ch.as rfl rfl rfl rfl rfl ?_
     refine Ch.nil (Fin.go ?_)
     refine Tr.w5 0 2 3 26 57 rfl rfl rfl rfl rfl ?_
     refine Tr.cn rfl (fun h5 q5 => ?_) (fun h5 q5 => ?_)
     ·
      refine Tr.skip (Fin.go ?_)
      refine Tr.cond rfl (fun _ => ?_) (fun h => nomatch h5.symm.trans h)
      have f8 := s7.val_in (n := 4) (by omega)
      refine Tr.regT ?_
      refine TO.mv rfl rfl rfl rfl rfl ?_
      refine TO.efc 2 rfl rfl (by decide) (ef_callc rfl rfl (by decide) rfl (w_DNext (by omega) (by omega)) ⟨ke rfl, ke rfl, trivial⟩) ?_
      first
       | (refine TO.oo rfl rfl rfl (ok_add rfl (vl rfl) (vl rfl) ?hin) ?_; case hin => unfold InI; omega)
       | refine TO.oo rfl rfl rfl (ok_int rfl (vl rfl) (vl rfl) rfl) ?_
      refine TO.oo rfl rfl rfl (okp_fieldAddr rfl fo45_8 (vl rfl)) ?_
      refine TO.ef0 0 rfl rfl (ef_store rfl rfl (vl rfl) (VL.le (vl rfl) (one_cellsP _)) sz3 rfl (by exact Nat.le_of_ble_eq_true rfl) rfl) ?_
      refine TO.nil (Fin.block (Fin.go (Tr.seq ?_)))
      refine Tr.reC 0 [int (1 + src), str host, int mach, int day, int conf, int (1 + kd), str subj, int 0, int 0, int (1 + s7.val 4), str []] rfl ⟨Pr.le_refl _, Pr.le_refl _, Pr.le_refl _, Pr.le_refl _, Pr.le_refl _, Pr.le_refl _, Pr.le_refl _, Pr.le_refl _, Pr.le_refl _, Pr.le_refl _, Pr.le_refl _, trivial⟩ ?_
      generalize s7.val 4 = nv at f8 ⊢
      refine Tr.regT ?_
      refine TO.rd 0 rfl rfl rfl (by decide) (rd_loadA rfl agg45 sz45 (vl rfl) rfl rfl) ?_
      refine TO.store_all 1 rfl rfl rfl (vl rfl) (VL.le (vl rfl) (agg_cellsP _)) rfl sz45 rfl rfl ?_
      refine TO.nil (Fin.go ?_)
      refine Tr.drop 0 ?_
      refine Tr.ret ?_
      refine Fin.closeD 1 _ rfl rfl ?_
      refine Fin.retY1 [_] rfl (RVal.cell 0 rfl rfl agg45 sz45 rfl (Pr.le_refl _)) ?_ (fun _ _ _ _ => rfl)
      · refine ex_in (Fnd.mk _ _ _ _ _ _ _ _ _ _ _) (fact_in ?_ (Pr.le_refl _)); exact good_mk (by show 1 ≤ 1 + src ∧ 1 + src ≤ 7; omega) f2.1 g3 f4 g5 f7.1 (by unfold contentF bareF; rw [if_neg (by simp; omega), if_neg (by simp; omega), if_neg (by simp; omega), if_pos (by simp; omega)]; simp; omega) f2.2 f7.2 (by show (0 : Nat) ≤ _; omega)
     ·
      refine Tr.reg0 ?_
      refine Ch.oo rfl rfl rfl (ok_int rfl (vl rfl) (vl rfl) rfl) ?_
      refine Ch.as rfl rfl rfl rfl rfl ?_
      refine Ch.nil (Fin.go ?_)
      refine Tr.cn rfl (fun h6 q6 => ?_) (fun h6 q6 => ?_)
      ·
       have f8 := s7.val_in (n := 4) (by omega)
       refine Tr.regT ?_
       refine TO.mv rfl rfl rfl rfl rfl ?_
       refine TO.efc 2 rfl rfl (by decide) (ef_callc rfl rfl (by decide) rfl (w_DNext (by omega) (by omega)) ⟨ke rfl, ke rfl, trivial⟩) ?_
       first
        | (refine TO.oo rfl rfl rfl (ok_add rfl (vl rfl) (vl rfl) ?hin) ?_; case hin => unfold InI; omega)
        | refine TO.oo rfl rfl rfl (ok_int rfl (vl rfl) (vl rfl) rfl) ?_
       refine TO.oo rfl rfl rfl (okp_fieldAddr rfl fo45_8 (vl rfl)) ?_
       refine TO.ef0 0 rfl rfl (ef_store rfl rfl (vl rfl) (VL.le (vl rfl) (one_cellsP _)) sz3 rfl (by exact Nat.le_of_ble_eq_true rfl) rfl) ?_
       refine TO.nil (Fin.block (Fin.go (Tr.seq ?_)))
       refine Tr.reC 0 [int (1 + src), str host, int mach, int day, int conf, int (1 + kd), str subj, int 0, int 0, int (1 + s7.val 4), str []] rfl ⟨Pr.le_refl _, Pr.le_refl _, Pr.le_refl _, Pr.le_refl _, Pr.le_refl _, Pr.le_refl _, Pr.le_refl _, Pr.le_refl _, Pr.le_refl _, Pr.le_refl _, Pr.le_refl _, trivial⟩ ?_
       generalize s7.val 4 = nv at f8 ⊢
       refine Tr.regT ?_
       refine TO.rd 0 rfl rfl rfl (by decide) (rd_loadA rfl agg45 sz45 (vl rfl) rfl rfl) ?_
       refine TO.store_all 1 rfl rfl rfl (vl rfl) (VL.le (vl rfl) (agg_cellsP _)) rfl sz45 rfl rfl ?_
       refine TO.nil (Fin.go ?_)
       refine Tr.drop 0 ?_
       refine Tr.ret ?_
       refine Fin.closeD 1 _ rfl rfl ?_
       refine Fin.retY1 [_] rfl (RVal.cell 0 rfl rfl agg45 sz45 rfl (Pr.le_refl _)) ?_ (fun _ _ _ _ => rfl)
       · refine ex_in (Fnd.mk _ _ _ _ _ _ _ _ _ _ _) (fact_in ?_ (Pr.le_refl _)); exact good_mk (by show 1 ≤ 1 + src ∧ 1 + src ≤ 7; omega) f2.1 g3 f4 g5 f7.1 (by unfold contentF bareF; rw [if_neg (by simp; omega), if_neg (by simp; omega), if_neg (by simp; omega), if_pos (by simp; omega)]; simp; omega) f2.2 f7.2 (by show (0 : Nat) ≤ _; omega)
      ·
       refine Tr.seq (Tr.reg0 ?_)
       refine Ch.oo rfl rfl rfl (ok_int rfl (vl rfl) (vl rfl) rfl) ?_
       refine Ch.as rfl rfl rfl rfl rfl ?_
       refine Ch.nil (Fin.go ?_)
       refine Tr.cn rfl (fun h7 q7 => ?_) (fun h7 q7 => ?_)
       ·
        have f8 := s7.val_in (n := 3) (by omega)
        refine Tr.regT ?_
        refine TO.mv rfl rfl rfl rfl rfl ?_
        refine TO.efc 2 rfl rfl (by decide) (ef_callc rfl rfl (by decide) rfl (w_DNext (by omega) (by omega)) ⟨ke rfl, ke rfl, trivial⟩) ?_
        refine TO.oo rfl rfl rfl (okp_fieldAddr rfl fo45_8 (vl rfl)) ?_
        refine TO.ef0 0 rfl rfl (ef_store rfl rfl (vl rfl) (VL.le (vl rfl) (one_cellsP _)) sz3 rfl (by exact Nat.le_of_ble_eq_true rfl) rfl) ?_
        refine TO.nil (Fin.block (Fin.go (Tr.seq ?_)))
        refine Tr.reC 0 [int (1 + src), str host, int mach, int day, int conf, int (1 + kd), str subj, int 0, int 0, int (s7.val 3), str []] rfl ⟨Pr.le_refl _, Pr.le_refl _, Pr.le_refl _, Pr.le_refl _, Pr.le_refl _, Pr.le_refl _, Pr.le_refl _, Pr.le_refl _, Pr.le_refl _, Pr.le_refl _, Pr.le_refl _, trivial⟩ ?_
        generalize s7.val 3 = nv at f8 ⊢
        refine Tr.regT ?_
        refine TO.rd 0 rfl rfl rfl (by decide) (rd_loadA rfl agg45 sz45 (vl rfl) rfl rfl) ?_
        refine TO.store_all 1 rfl rfl rfl (vl rfl) (VL.le (vl rfl) (agg_cellsP _)) rfl sz45 rfl rfl ?_
        refine TO.nil (Fin.go ?_)
        refine Tr.drop 0 ?_
        refine Tr.ret ?_
        refine Fin.closeD 1 _ rfl rfl ?_
        refine Fin.retY1 [_] rfl (RVal.cell 0 rfl rfl agg45 sz45 rfl (Pr.le_refl _)) ?_ (fun _ _ _ _ => rfl)
        · refine ex_in (Fnd.mk _ _ _ _ _ _ _ _ _ _ _) (fact_in ?_ (Pr.le_refl _)); exact good_mk (by show 1 ≤ 1 + src ∧ 1 + src ≤ 7; omega) f2.1 g3 f4 g5 f7.1 (by unfold contentF bareF; rw [if_neg (by simp; omega), if_neg (by simp; omega), if_neg (by simp; omega), if_neg (by simp; omega), if_pos (by simp; omega)]; simp; omega) f2.2 f7.2 (by show (0 : Nat) ≤ _; omega)
       ·
        refine Tr.seq ?_
        skip
        refine Tr.reg0 ?_
        refine Ch.oo rfl rfl rfl (ok_int rfl (vl rfl) (vl rfl) rfl) ?_
        refine Ch.as rfl rfl rfl rfl rfl ?_
        refine Ch.nil (Fin.go ?_)
        refine Tr.cn rfl (fun h8 q8 => ?_) (fun h8 q8 => ?_)
        ·
         have f8 := named_ab (word_mem s7 (l := [[97], [98]]) (by simp))
         refine Tr.regT ?_
         refine TO.mv rfl rfl rfl rfl rfl ?_
         refine TO.oo rfl rfl rfl (ok_buildSlice (xs := [.const (.string ⟨[97].toArray⟩), .const (.string ⟨[98].toArray⟩)]) (rows := [[_], [_]]) rfl rfl Try.underlying25 sz9 z9 rfl (by decide) ⟨⟨(by exact rfl), (VL.le (vl rfl) (one_cellsP _))⟩, ⟨⟨(by exact rfl), (VL.le (vl rfl) (one_cellsP _))⟩, trivial⟩⟩ (by decide)) ?_
         refine TO.efc 2 rfl rfl (by decide) (ef_callc rfl rfl (by decide) rfl (w_DWord (l := [[97], [98]]) (by simp) (by simp)) ⟨ke rfl, ⟨_, rfl, full_le _ _⟩, trivial⟩) ?_
         refine TO.oo rfl rfl rfl (okp_fieldAddr rfl fo45_9 (vl rfl)) ?_
         refine TO.ef0 0 rfl rfl (ef_store rfl rfl (vl rfl) (VL.le (vl rfl) (one_cellsP _)) sz9 rfl (by exact Nat.le_of_ble_eq_true rfl) rfl) ?_
         refine TO.nil (Fin.block (Fin.go ?_))
         refine Tr.w2 2 3 rfl rfl ?_
         refine Tr.seq ?_
         refine Tr.reC 0 [int (1 + src), str host, int mach, int day, int conf, int (1 + kd), str subj, int 0, int 0, int 0, str (word_ s7 [[97], [98]])] rfl ⟨Pr.le_refl _, Pr.le_refl _, Pr.le_refl _, Pr.le_refl _, Pr.le_refl _, Pr.le_refl _, Pr.le_refl _, Pr.le_refl _, Pr.le_refl _, Pr.le_refl _, Pr.le_refl _, trivial⟩ ?_
         generalize word_ s7 [[97], [98]] = tx at f8 ⊢
         refine Tr.regT ?_
         refine TO.rd 0 rfl rfl rfl (by decide) (rd_loadA rfl agg45 sz45 (vl rfl) rfl rfl) ?_
         refine TO.store_all 1 rfl rfl rfl (vl rfl) (VL.le (vl rfl) (agg_cellsP _)) rfl sz45 rfl rfl ?_
         refine TO.nil (Fin.go ?_)
         refine Tr.drop 0 ?_
         refine Tr.ret ?_
         refine Fin.closeD 1 _ rfl rfl ?_
         refine Fin.retY1 [_] rfl (RVal.cell 0 rfl rfl agg45 sz45 rfl (Pr.le_refl _)) ?_ (fun _ _ _ _ => rfl)
         · refine ex_in (Fnd.mk _ _ _ _ _ _ _ _ _ _ _) (fact_in ?_ (Pr.le_refl _)); exact good_mk (by show 1 ≤ 1 + src ∧ 1 + src ≤ 7; omega) f2.1 g3 f4 g5 f7.1 (by unfold contentF; rw [if_neg (by simp; omega), if_neg (by simp; omega), if_neg (by simp; omega), if_neg (by simp; omega), if_neg (by simp; omega), if_pos (by simp; omega)]; simp [f8.1]) f2.2 f7.2 f8.2
        ·
         refine Tr.skip (Fin.block (Fin.go (Tr.seq ?_)))
         refine Tr.reC 0 [int (1 + src), str host, int mach, int day, int conf, int (1 + kd), str subj, int 0, int 0, int 0, str []] rfl ⟨Pr.le_refl _, Pr.le_refl _, Pr.le_refl _, Pr.le_refl _, Pr.le_refl _, Pr.le_refl _, Pr.le_refl _, Pr.le_refl _, Pr.le_refl _, Pr.le_refl _, Pr.le_refl _, trivial⟩ ?_
         refine Tr.regT ?_
         refine TO.rd 0 rfl rfl rfl (by decide) (rd_loadA rfl agg45 sz45 (vl rfl) rfl rfl) ?_
         refine TO.store_all 1 rfl rfl rfl (vl rfl) (VL.le (vl rfl) (agg_cellsP _)) rfl sz45 rfl rfl ?_
         refine TO.nil (Fin.go ?_)
         refine Tr.drop 0 ?_
         refine Tr.ret ?_
         refine Fin.closeD 1 _ rfl rfl ?_
         refine Fin.retY1 [_] rfl (RVal.cell 0 rfl rfl agg45 sz45 rfl (Pr.le_refl _)) ?_ (fun _ _ _ _ => rfl)
         · exfalso; omega
set_option maxRecDepth 20000 in
theorem w_Findings {b : Nat} {s : DS} {m : Nat} (hm : m ≤ 100) : FunM Try.prog 16 [ptr b 0, int ((m : Nat) : Int)] (ex fun l : List Fnd => fact (GoodFs l m) (fnds l)) (diceS b s) (fun _ => diceEx 65 b) := by
 refine FunM.of Try.func16 rfl rfl (by exact Nat.le_of_ble_eq_true rfl) fun M0 w0 S rs M1 w1 => ?_
 refine Tr.seq (Tr.reg0 ?_)
 refine Ch.as rfl rfl rfl rfl rfl ?_
 refine Ch.nil (Fin.go (Tr.seq (Tr.reg0 ?_)))
 refine Ch.as rfl rfl rfl rfl rfl ?_
 refine Ch.nil (Fin.go (Tr.seq (Tr.seq (Tr.regT ?_))))
 refine TO.mv rfl rfl rfl rfl rfl ?_
 refine TO.mv rfl rfl rfl rfl rfl ?_
 first
  | (refine TO.oo rfl rfl rfl (ok_add rfl (vl rfl) (vl rfl) ?hin) ?_; case hin => unfold InI; omega)
  | refine TO.oo rfl rfl rfl (ok_int rfl (vl rfl) (vl rfl) rfl) ?_
 refine TO.efc 0 rfl rfl (by decide) (ef_callc rfl rfl (by decide) rfl (w_DNext (by omega) (by omega)) ⟨ke rfl, ke rfl, trivial⟩) ?_
 refine TO.as rfl rfl rfl rfl rfl ?_
 refine TO.nil (Fin.go (Tr.block ?_))
 have hv := s.val_in (n := (m : Int) + 1) (by omega)
 refine Tr.addnil 45 11 ?_
 refine Tr.loopD3V1 [(0, _)] ⟨ke rfl, trivial⟩ (fun (l : List Fnd) (k : Int) (s2 : DS) u => [(6, int k), (5, andIs u (fnds l))]) (fun (l : List Fnd) (k : Int) (s2 : DS) u => Hp M0 w0 S (appRes 45 11 u :: diceS b s2 :: extRes M1 w1 :: rs)) (fun (l : List Fnd) (k : Int) (s2 : DS) => 0 ≤ k ∧ l.length + k ≤ m ∧ ∀ f ∈ l, GoodF f) (fun (l : List Fnd) (k : Int) (s2 : DS) => k.toNat) ([]) (_) (_) (.slice none 0 0) (⟨by omega, by simp; omega, by simp⟩) ⟨ke rfl, ⟨_, rfl, own_nil (by simp)⟩, trivial⟩ (fun _ _ h => h) ?_
 rintro l k s2 u ⟨hk, hkm, hl⟩
 refine Tr.seq (Tr.seq (Tr.reg0 ?_))
 refine Ch.mv rfl rfl rfl rfl rfl ?_
 refine Ch.oo rfl rfl rfl (ok_int rfl (vl rfl) (vl rfl) rfl) ?_
 refine Ch.nil (Fin.go ?_)
 refine Tr.cn rfl (fun h1 q1 => ?_) (fun h1 q1 => ?_)
 ·
  have hk0 : k > 0 := of_decide_eq_true h1
  refine Tr.skip (Fin.go (Tr.seq (Tr.block (Tr.regT ?_))))
  refine TO.mv rfl rfl rfl rfl rfl ?_
  refine TO.mv rfl rfl rfl rfl rfl ?_
  refine TO.efc 1 rfl rfl (by decide) (ef_callc rfl rfl (by decide) rfl (w_Finding) ⟨ke rfl, trivial⟩) ?_
  refine TO.ex 19 rfl (fun z1 => TO.fact 19 rfl fun hz1 => ?_)
  refine TO.oo rfl rfl rfl (ok_buildSlice (xs := [.tmp 19]) (rows := [_]) rfl rfl Try.underlying22 sz45 z45 rfl (by decide) ⟨⟨(by exact rfl), (VL.le (vl rfl) (agg_cellsP _))⟩, trivial⟩ (by decide)) ?_
  refine TO.efs 0 rfl rfl (by decide) (ef_append rfl rfl (by decide) rfl Try.underlying22 sz45 by45 z45 rfl (by decide) ⟨_, rfl, andIs_le _ _⟩ ⟨_, rfl, full_le _ _⟩ (by simp only [List.length_map, List.length_append, List.length_cons, List.length_nil]; unfold maxLen; omega) (by simp only [List.length_map, List.length_append, List.length_cons, List.length_nil]; omega) (appR_is (by exact List.Mem.head _) ⟨_, rfl, andIs_is _ _⟩)) (fun v1 => ?_)
  refine TO.as rfl rfl rfl rfl rfl ?_
  refine TO.nil ?_
  refine Fin.openD 1 rfl (fun s1 => ?_)
  refine Fin.block (Fin.go (Tr.reg0 ?_))
  refine Ch.mv rfl rfl rfl rfl rfl ?_
  first
   | (refine Ch.oo rfl rfl rfl (ok_sub rfl (vl rfl) (vl rfl) ?hin) ?_; case hin => unfold InI; omega)
   | refine Ch.oo rfl rfl rfl (ok_int rfl (vl rfl) (vl rfl) rfl) ?_
  refine Ch.as rfl rfl rfl rfl rfl ?_
  refine Ch.nil ?_
  exact Fin.famD3V1 (l ++ [z1]) (k - 1) (_) v1 (⟨⟨by omega, by simp; omega, all_snocF hl hz1⟩, by omega⟩) ⟨ke rfl, ⟨_, rfl, own_le (by rw [List.map_append]; rfl)⟩, ke rfl, trivial⟩ (fun _ _ h => h)
 ·
  have hk0 : ¬ k > 0 := of_decide_eq_false h1
  refine Tr.exit ?_
  refine Fin.then_exit ?_
  refine Fin.then_exit ?_
  refine Fin.block_here ?_
  refine Fin.go (Tr.seq (Tr.reg0 ?_))
  refine Ch.mv rfl rfl rfl rfl rfl ?_
  refine Ch.oo rfl rfl rfl (ok_call rfl (w_R14Norm (l := l) (fun f hf => (hl f hf).check) (by omega)) ⟨⟨_, rfl, andIs_le _ _⟩, trivial⟩) ?_
  refine Ch.mv rfl rfl rfl rfl rfl ?_
  refine Ch.oo rfl rfl rfl (ok_extract rfl (vl rfl) rfl) ?_
  refine Ch.oo rfl rfl rfl (ok_extract rfl (vl rfl) rfl) ?_
  refine Ch.as rfl rfl rfl rfl rfl ?_
  refine Ch.as rfl rfl rfl rfl rfl ?_
  refine Ch.nil (Fin.go (Tr.seq (Tr.reg0 ?_)))
  refine Ch.mv rfl rfl rfl rfl rfl ?_
  refine Ch.as rfl rfl rfl rfl rfl ?_
  refine Ch.nil (Fin.go ?_)
  refine Tr.w1 4 rfl ?_
  refine Tr.ret ?_
  refine Fin.closeD 1 _ rfl rfl ?_
  refine Fin.retY1 [_] rfl (RVal.tmp rfl (Pr.le_refl _)) ?_ (fun _ _ _ _ => rfl)
  · exact ex_in (l.foldl putF []) (fact_in (good_fold hl (by omega)) (Pr.le_refl _))
end Go.Proofs.Ytgdlhajfajddiaa
namespace Cp
open Go Go.RowKit Go.Great

abbrev unit_ : Pr := is (.tuple #[])
section
variable {P : Program} {n : Nat} {E : Env} {M0 : Av} {w0 : World} {S : Nat → Prop} {rs : List Res} {o : Oper} {g : Func} {M1 : Av} {w1 : World}
theorem results0 {g : Func} {a : Act} {w : World} (hr : g.results = #[]) : (results g a.tmps).run P w = .ok (.tuple #[]) w := by
  rw [results_rv, hr]; simp [Sem.run_bind]
theorem Fin.retM0 {r : Res} (hr : g.results = #[]) : Fin n E (Hp M0 w0 S (r :: extRes M1 w1 :: rs)) (bodyPost P g (BackM M0 w0 S rs M1 w1 unit_ (fun _ => r))) .normal := by
  rintro a w ⟨M, _, hd, he, hi⟩
  obtain ⟨h1, h2⟩ := outM hi
  exact ⟨hd, _, results0 hr, _, M, rfl, rfl, h1, h2⟩

/-- The operands, where one slice may be of ours. -/
def ValsO (E : Env) (v0 : Value) (q0 : Pr) : List Operand → List Pr → Prop
  | [], [] => True
  | x :: xs, p :: ps => (VL E x p ∨ (VL E x (is v0) ∧ Pr.le (andIs v0 q0) p)) ∧ ValsO E v0 q0 xs ps
  | _, _ => False
theorem ValsO.ev {M M' : Av} {w : World} {a : Act} {v0 : Value} {q0 : Pr} (he : EnvFor M w E o a) (hx : Ext M w M' w) (h0 : q0.h M' w v0) : ∀ {xs : List Operand} {ps : List Pr}, (∀ x ∈ xs, x ∈ o.op.operands.toList) → ValsO E v0 q0 xs ps → HL M' w ps (xs.map a.eval)
  | [], [], _, _ => trivial
  | [], _ :: _, _, h => h.elim
  | _ :: _, [], _, h => h.elim
  | x :: xs, p :: ps, hm, h => by
    refine ⟨?_, ValsO.ev he hx h0 (fun y hy => hm y (List.mem_cons_of_mem _ hy)) h.2⟩
    rcases h.1 with h1 | ⟨h1, h2⟩
    · exact p.st _ _ _ _ _ hx (h1.ev he (hm x (by simp)))
    · have h3 : a.eval x = v0 := h1.ev he (hm x (by simp))
      exact h2 _ _ _ ⟨h3, by rw [h3]; exact h0⟩
/-- Memory is not read by this. -/
class Free (p : Pr) : Prop where
  free : ∀ M M' w v, p.h M w v → p.h M' w v
instance free_is (u : Value) : Free (is u) := ⟨fun _ _ _ _ h => h⟩
instance free_lens (m : Nat) : Free (lens m) := ⟨fun _ _ _ _ h => h⟩
end
end Cp
namespace Cp
open Go Go.RowKit Go.Great

/-- A map's entries, in the order in which they came. -/
def mkE (es : List (Value × Value)) : Array MapEntry := (es.zipIdx.map fun p => ({ key := p.1.1, val := p.1.2, born := p.2 } : MapEntry)).toArray
theorem mkE_at (es : List (Value × Value)) (i : Nat) : (mkE es)[i]? = (es[i]?).map fun p => { key := p.1, val := p.2, born := i } := by
  simp [mkE, List.getElem?_zipIdx]
  cases es[i]? <;> simp
theorem mkE_push (es : List (Value × Value)) (k v : Value) : (mkE es).push { key := k, val := v, born := es.length } = mkE (es ++ [(k, v)]) := by
  apply Array.toList_inj.1
  simp [mkE, List.zipIdx_append]
theorem mkE_set {es : List (Value × Value)} {i : Nat} (h : i < es.length) (k v : Value) : ((mkE es).modify i fun e => { e with key := k, val := v }) = mkE (es.set i (k, v)) := by
  apply Array.ext_getElem?
  intro j
  rw [Array.getElem?_modify, mkE_at, mkE_at, List.getElem?_set]
  by_cases hj : i = j
  · subst hj
    simp [h]
  · simp [hj]

/-- What the program knows of a map's type: how its keys are compared. -/
structure MapT (P : Program) (T kt et : TypeId) {κ : Type} [DecidableEq κ] (enc : κ → Value) : Prop where
  und : P.underlying T = some (.map kt et)
  zero : ∀ w, (zeroValue et).run P w = .ok (.int .i64 0) w
  eq : ∀ a b w, (Op.equal kt (enc a) (enc b)).run P w = .ok (decide (a = b)) w
  chk : ∀ e a w, (Instr.checkKey e 10000 kt (enc a)).run P w = .ok () w
  und2 : ∃ d, P.underlying kt = some d ∧ ((∀ a b, Instr.sameNow d (enc a) (enc b) = none) ∨ ∀ a b, Instr.sameNow d (enc a) (enc b) = some (decide (a = b)))
  bits : ∀ a, Instr.sameBits 10000 (enc a) (enc a) = true

section
variable {P : Program} {n : Nat} {E : Env} {M0 : Av} {w0 : World} {S : Nat → Prop} {rs : List Res} {o : Oper} {κ : Type} [DecidableEq κ] {enc : κ → Value}

abbrev encE (enc : κ → Value) (es : List (κ × Int)) : List (Value × Value) := es.map fun p => (enc p.1, .int .i64 p.2)
def mapR (enc : κ → Value) (b : Nat) (es : List (κ × Int)) : Res where
  blk := some b
  new := true
  h M w := (∀ o, M b o) ∧ w.heap[b]? = some (.map (mkE (encE enc es)) es.length)
  st M w M' w' he hk h := by
    obtain ⟨h1, h2⟩ := hk b rfl
    exact ⟨fun o => h2 o (h.1 o), h1.trans h.2⟩
/-- What a map holds for a key. -/
def look (es : List (κ × Int)) (k : κ) : Option Int := (es.find? fun p => decide (k = p.1)).map (·.2)
def updM (es : List (κ × Int)) (k : κ) (v : Int) : List (κ × Int) := match es.findIdx? fun p => decide (k = p.1) with | some i => es.set i (k, v) | none => es ++ [(k, v)]

theorem find_asking {T kt et : TypeId} (hT : MapT P T kt et enc) (k : κ) (w : World) : ∀ (es : List (κ × Int)) (i c : Nat),
    (Instr.findAsking kt (enc k) ((es.zipIdx c).map fun p => ({ key := enc p.1.1, val := .int .i64 p.1.2, born := p.2 } : MapEntry)) i).run P w = .ok ((es.findIdx? fun p => decide (k = p.1)).bind fun j => (es[j]?).map fun p => (i + j, .int .i64 p.2)) w
  | [], i, c => by simp [Instr.findAsking]
  | p :: es, i, c => by
    rw [List.zipIdx_cons, List.map_cons, Instr.findAsking, Sem.run_bind, hT.eq, Result.andThen_ok]
    by_cases h : k = p.1
    · simp [h, List.findIdx?_cons]
    · rw [if_neg (by simpa using h), find_asking hT k w es (i + 1) (c + 1), List.findIdx?_cons]
      simp only [h, decide_false, Bool.false_eq_true, if_false]
      congr 1
      cases hf : es.findIdx? fun p => decide (k = p.1) with
      | none => simp
      | some j => simp [Nat.add_assoc, Nat.add_comm 1 j]
theorem find_now {d : TypeDesc} (hn : ∀ a b : κ, Instr.sameNow d (enc a) (enc b) = some (decide (a = b))) (k : κ) : ∀ (es : List (κ × Int)) (i c : Nat),
    Instr.findNow d (enc k) ((es.zipIdx c).map fun p => ({ key := enc p.1.1, val := .int .i64 p.1.2, born := p.2 } : MapEntry)) i = some ((es.findIdx? fun p => decide (k = p.1)).bind fun j => (es[j]?).map fun p => (i + j, .int .i64 p.2))
  | [], i, c => by simp [Instr.findNow]
  | p :: es, i, c => by
    rw [List.zipIdx_cons, List.map_cons, Instr.findNow, hn]
    by_cases h : k = p.1
    · simp [h, List.findIdx?_cons]
    · simp only [h, decide_false]
      rw [find_now hn k es (i + 1) (c + 1), List.findIdx?_cons]
      simp only [h, decide_false, Bool.false_eq_true, if_false]
      congr 1
      cases hf : es.findIdx? fun p => decide (k = p.1) with
      | none => simp
      | some j => simp [Nat.add_assoc, Nat.add_comm 1 j]
theorem find_key {T kt et : TypeId} (hT : MapT P T kt et enc) (k : κ) (w : World) (es : List (κ × Int)) :
    (Instr.findKey kt (enc k) (mkE (encE enc es)).toList).run P w = .ok ((es.findIdx? fun p => decide (k = p.1)).bind fun j => (es[j]?).map fun p => (j, .int .i64 p.2)) w := by
  obtain ⟨d, hd, hn⟩ := hT.und2
  have hl : (mkE (encE enc es)).toList = (es.zipIdx 0).map fun p => ({ key := enc p.1.1, val := .int .i64 p.1.2, born := p.2 } : MapEntry) := by
    simp [mkE, encE, List.zipIdx_map]
  rw [hl]
  unfold Instr.findKey
  rw [Sem.run_bind, run_underlying hd, Result.andThen_ok]
  rcases hn with hn | hn
  rotate_left
  · rw [find_now hn k es 0 0]; simp
  cases es with
  | nil => simp [Instr.findNow]
  | cons p es =>
    have h1 : Instr.findNow d (enc k) (((p :: es).zipIdx 0).map fun p => ({ key := enc p.1.1, val := .int .i64 p.1.2, born := p.2 } : MapEntry)) 0 = none := by
      rw [List.zipIdx_cons, List.map_cons, Instr.findNow, hn]
    rw [h1]
    have := find_asking hT k w (p :: es) 0 0
    simpa using this

theorem HpH.addR {M : Av} {w : World} {obj : Obj} {r : Res} (h : HpH M0 w0 S rs M w) (hb : r.blk = some w.heap.size) (hn : r.new = true) (hr : r.h (fun b o => M b o ∨ b = w.heap.size) (w.alloc obj)) :
    HpH M0 w0 S (r :: rs) (fun b o => M b o ∨ b = w.heap.size) (w.alloc obj) ∧ Ext M w (fun b o => M b o ∨ b = w.heap.size) (w.alloc obj) := by
  have hbl : Below w.heap.size w (w.alloc obj) := (Below.refl _ _).alloc (Nat.le_refl _) _
  have hsz : (w.alloc obj).heap.size = w.heap.size + 1 := by simp
  have he : Ext M w (fun b o => M b o ∨ b = w.heap.size) (w.alloc obj) := by
    have h2 := Ext.below (M := M) hbl
    refine ⟨h2.size, fun a v hc hm => ⟨fun hx => ?_, (h2.keep a v hc hm).2⟩, fun b o ho hp hm => ⟨fun hx => ?_, (h2.obj b o ho hp hm).2⟩⟩
    · rcases hx with hx | hx
      · exact hm hx
      · have := cell_lt hc; omega
    · rcases hx with hx | hx
      · exact hm hx
      · subst hx; simp at ho
  have hI := (Hp M0 w0 S rs).st _ _ _ hbl h
  refine ⟨⟨hI.m0, fun b o hm => .inl (hI.m b o hm), hI.os, hI.tape, hI.output, hI.size, hI.block, fun b o hm => ?_, fun r' hr' => ?_, ?_⟩, he⟩
  · rcases hm with hm | hm
    · exact hI.bd b o hm
    · omega
  · rcases List.mem_cons.1 hr' with rfl | hr'
    · refine ⟨hr, fun b hbk => ?_⟩
      rw [hb] at hbk
      injection hbk with hbk
      subst hbk
      exact ⟨by omega, by rw [hn]; simpa using h.size⟩
    · obtain ⟨h3, h4⟩ := h.hold r' hr'
      exact ⟨r'.st _ _ _ _ he (fun b hbk => ⟨hbl.block b (h4 b hbk).1, fun _ x => .inl x⟩) h3, fun b hbk => ⟨by have := (h4 b hbk).1; omega, (h4 b hbk).2⟩⟩
  · refine List.Pairwise.cons (fun r' hr' b hbk hbk' => ?_) h.nd
    rw [hb] at hbk
    injection hbk with hbk
    have := ((h.hold r' hr').2 b hbk').1
    omega
def setB (w : World) (b : Nat) (o : Obj) : World := { w with heap := w.heap.setIfInBounds b o }
theorem setB_at {w : World} {b : Nat} {o : Obj} (h : b < w.heap.size) : (setB w b o).heap[b]? = some o := by
  show (w.heap.setIfInBounds b o)[b]? = _
  rw [Array.getElem?_setIfInBounds]; simp [h]
theorem setB_other {w : World} {b k : Nat} {o : Obj} (h : k ≠ b) : (setB w b o).heap[k]? = w.heap[k]? := by
  show (w.heap.setIfInBounds b o)[k]? = _
  rw [Array.getElem?_setIfInBounds, if_neg (fun e => h e.symm)]
theorem HpH.setR {M : Av} {w : World} {obj : Obj} {r r' : Res} {j b : Nat} (h : HpH M0 w0 S rs M w) (hj : rs[j]? = some r) (hb : r.blk = some b) (hb' : r'.blk = some b) (hn : r.new = true) (hn' : r'.new = true) (hM : ∀ o, M b o) (hr : r'.h M (setB w b obj)) :
    HpH M0 w0 S (rs.set j r') M (setB w b obj) ∧ Ext M w M (setB w b obj) := by
  have hlt := ((h.hold r (List.mem_of_getElem? hj)).2 b hb).1
  have hsz : (setB w b obj).heap.size = w.heap.size := by simp [setB]
  have he : Ext M w M (setB w b obj) := by
    refine ⟨by omega, fun a v hc hm => ⟨hm, ?_⟩, fun k o ho hp hm => ⟨hm, ?_⟩⟩
    · rw [World.cell?_of_block (w := w) (setB_other (fun e => hm (by rw [e]; exact hM _)))]; exact hc
    · rw [setB_other (fun e => hm (by rw [e]; exact hM _))]; exact ho
  refine ⟨h.replace hj he rfl rfl rfl (fun k _ hk => setB_other (fun e => hk (by rw [hb, e]))) hn (fun _ _ hm _ => hm) (fun k o hm => by rw [hsz]; exact h.bd k o hm) hr hn' (fun k hk => ?_), he⟩
  rw [hb'] at hk
  injection hk with hk
  subst hk
  exact ⟨by omega, .inl hb⟩

variable {Q : Exit → Act → World → Prop} {ops : Array Oper} {r : List Oper}
omit [DecidableEq κ] in
theorem TO.mkmap {d : Nat} {T : TypeId} (enc : κ → Value) (hg : o.guard = none) (hd : o.dst = some d) (hn : d < n) (ho : o.op = .makeMap T none)
    (k : ∀ b, TO P n ops r ((d, is (.map (some b))) :: E) (Hp M0 w0 S (mapR enc b [] :: rs)) Q) : TO P n ops (o :: r) E (Hp M0 w0 S rs) Q :=
  TO.eff hg fun K M w a hsz hdf he hI hK => by
    refine TO.val (v := .map (some w.heap.size)) (w' := w.alloc (.map #[] 0)) ?_ ?_
    · simp [execOp, ho, Instr.makeMap]
    · obtain ⟨h2, h3⟩ := HpH.addR (obj := .map #[] 0) (r := mapR enc w.heap.size []) hI rfl rfl ⟨fun _ => .inr rfl, by rw [heap_alloc_new]; rfl⟩
      refine hK _ _ _ _ (k w.heap.size) ⟨_, by rw [put_size]; exact hsz, by rw [put_defers]; exact hdf, ?_, h2⟩
      intro s p hp
      simp only [List.lookup] at hp
      by_cases hs : s = d
      · subst hs; simp at hp; subst hp; rw [hd, put_same (by rw [hsz]; exact hn)]; rfl
      · rw [show (s == d) = false by simpa using hs] at hp
        rw [hd, put_other hs]
        exact p.st _ _ _ _ _ h3 (he s p hp)
theorem find_at {β : Type} (p : β → Bool) : ∀ l : List β, (l.findIdx? p).bind (fun j => l[j]?) = l.find? p
  | [] => rfl
  | a :: l => by
    have ih := find_at p l
    rw [List.findIdx?_cons, List.find?_cons]
    cases h : p a with
    | true => simp
    | false =>
      simp only [Bool.false_eq_true, if_false]
      rw [← ih]
      cases l.findIdx? p <;> simp
theorem rd_lookup {T kt et : TypeId} {x y : Operand} {b j : Nat} {es : List (κ × Int)} (k : κ) {q : Pr} (hT : MapT P T kt et enc) (ho : o.op = .lookup T x y true) (hx : VL E x (is (.map (some b)))) (hy : VL E y q) (hk : ∀ M w v, q.h M w v → v = enc k) :
    OpRd P M0 w0 S j (SR.c (mapR enc b es)) o E (tup [int ((look es k).getD 0), bool (look es k).isSome]) := by
  intro M w a rs he hI hj
  have h1 : a.eval x = _ := hx.ev he (by simp [ho, Op.operands])
  have h2 : a.eval y = enc k := hk _ _ _ (hy.ev he (by simp [ho, Op.operands]))
  have hj' : rs[j]? = some (mapR enc b es) := hj
  obtain ⟨_, hh⟩ := (hI.hold _ (List.mem_of_getElem? hj')).1
  have hrun : (execOp a.eval o).run P w = .ok (.value (.tuple #[.int .i64 ((look es k).getD 0), .bool (look es k).isSome])) w := by
    have hf := find_key hT k w es
    have hg := find_at (fun p : κ × Int => decide (k = p.1)) es
    unfold look
    cases hfi : es.findIdx? fun p => decide (k = p.1) with
    | none =>
      rw [hfi] at hf hg
      rw [← hg]
      simp only [Option.bind_none] at hf
      simp [execOp, ho, h1, h2, Instr.lookup, run_underlying hT.und, MapKept.run_getObj_map hh, hT.chk, hf, hT.zero, Result.andThen]
    | some i =>
      rw [hfi] at hf hg
      rw [← hg]
      have hil : i < es.length := by rw [List.findIdx?_eq_some_iff_getElem] at hfi; exact hfi.1
      simp only [Option.bind_some, List.getElem?_eq_getElem hil, Option.map_some] at hf ⊢
      simp [execOp, ho, h1, h2, Instr.lookup, run_underlying hT.und, MapKept.run_getObj_map hh, hT.chk, hf, Result.andThen]
  rw [hrun]
  exact ⟨⟨_, rfl, rfl, rfl, trivial⟩, Below.refl _ _⟩

theorem updM_none {es : List (κ × Int)} {k : κ} {v : Int} (h : (es.findIdx? fun p => decide (k = p.1)) = none) : updM es k v = es ++ [(k, v)] := by unfold updM; rw [h]
theorem updM_some {es : List (κ × Int)} {k : κ} {v : Int} {i : Nat} (h : (es.findIdx? fun p => decide (k = p.1)) = some i) : updM es k v = es.set i (k, v) := by unfold updM; rw [h]
theorem ef_mapupd {T kt et : TypeId} {x y z : Operand} {b j : Nat} {es : List (κ × Int)} {v : Int} (k : κ) {q : Pr} (hT : MapT P T kt et enc) (hg : o.guard = none) (hd : o.dst = none) (ho : o.op = .mapUpdate T x y z) (hx : VL E x (is (.map (some b)))) (hy : VL E y q) (hk : ∀ M w v, q.h M w v → v = enc k) (hz : VL E z (int v)) :
    OpEf P M0 w0 S n j (SR.c (mapR enc b es)) (SR.c (mapR enc b (updM es k v))) o E any := by
  refine ⟨hg, fun M w a rs hsz he hI hj => ?_⟩
  have h1 : a.eval x = _ := hx.ev he (by simp [ho, Op.operands])
  have h2 : a.eval y = enc k := hk _ _ _ (hy.ev he (by simp [ho, Op.operands]))
  have h3 : a.eval z = _ := hz.ev he (by simp [ho, Op.operands])
  have hj' : rs[j]? = some (mapR enc b es) := hj
  obtain ⟨⟨hM, hh⟩, hbb⟩ := hI.hold _ (List.mem_of_getElem? hj')
  have hlt := (hbb b rfl).1
  have hf := find_key hT k w es
  have hrun : (execOp a.eval o).run P w = .ok .skip (setB w b (.map (mkE (encE enc (updM es k v))) (updM es k v).length)) := by
    cases hfi : es.findIdx? fun p => decide (k = p.1) with
    | none =>
      rw [hfi] at hf
      simp only [Option.bind_none] at hf
      rw [updM_none hfi]
      have hp : mkE (encE enc (es ++ [(k, v)])) = (mkE (encE enc es)).push { key := enc k, val := .int .i64 v, born := es.length } := by
        have := mkE_push (encE enc es) (enc k) (.int .i64 v)
        rw [List.length_map] at this
        rw [this]; simp [encE]
      rw [hp]
      simp [execOp, ho, h1, h2, h3, Instr.mapUpdate, run_underlying hT.und, MapKept.run_getObj_map hh, hT.chk, hf, MapKept.run_setObj_map _ hh, Result.andThen, setB]
    | some i =>
      have hil : i < es.length := by rw [List.findIdx?_eq_some_iff_getElem] at hfi; exact hfi.1
      have hke : (es[i]).1 = k := by
        rw [List.findIdx?_eq_some_iff_getElem] at hfi
        obtain ⟨_, h4, _⟩ := hfi
        simpa using (of_decide_eq_true h4).symm
      rw [hfi] at hf
      simp only [Option.bind_some, List.getElem?_eq_getElem hil, Option.map_some] at hf
      rw [updM_some hfi]
      have hp : mkE (encE enc (es.set i (k, v))) = (mkE (encE enc es)).modify i fun e => { e with key := enc k, val := .int .i64 v } := by
        rw [mkE_set (by simpa using hil)]; simp [encE]
      have hold : ((mkE (encE enc es))[i]?).map (·.key) = some (enc k) := by
        rw [mkE_at]; simp [encE, List.getElem?_eq_getElem hil, hke]
      rw [hp, List.length_set]
      simp [execOp, ho, h1, h2, h3, Instr.mapUpdate, run_underlying hT.und, MapKept.run_getObj_map hh, hT.chk, hf, hold, Instr.keyThatStays, hT.bits, MapKept.run_setObj_map _ hh, Result.andThen, setB]
  rw [hrun]
  obtain ⟨h5, h6⟩ := HpH.setR (obj := .map (mkE (encE enc (updM es k v))) (updM es k v).length) (r' := mapR enc b (updM es k v)) hI hj' rfl rfl rfl rfl hM ⟨hM, setB_at hlt⟩
  exact ⟨M, trivial, h6, h5⟩

def iterR (it b m : Nat) (seen : List Nat) : Res where
  blk := some it
  new := true
  h M w := (∀ o, M it o) ∧ w.heap[it]? = some (.mapIter (some b) m seen.toArray m)
  st M w M' w' he hk h := by
    obtain ⟨h1, h2⟩ := hk it rfl
    exact ⟨fun o => h2 o (h.1 o), h1.trans h.2⟩
theorem TO.range {d j b : Nat} {T kt et : TypeId} {x : Operand} {es : List (κ × Int)} (hT : MapT P T kt et enc) (hg : o.guard = none) (hd : o.dst = some d) (hn : d < n) (ho : o.op = .range T x) (hx : VL E x (is (.map (some b)))) (hj : rs[j]? = some (mapR enc b es))
    (k : ∀ it, TO P n ops r ((d, ptr it 0) :: E) (Hp M0 w0 S (iterR it b es.length [] :: rs)) Q) : TO P n ops (o :: r) E (Hp M0 w0 S rs) Q :=
  TO.eff hg fun K M w a hsz hdf he hI hK => by
    have h1 : a.eval x = _ := hx.ev (o := o) (looks_env he) (by simp [ho, Op.operands])
    obtain ⟨_, hh⟩ := (HpH.hold hI _ (List.mem_of_getElem? hj)).1
    refine TO.val (v := .pointer (some ⟨w.heap.size, 0, none⟩)) (w' := w.alloc (.mapIter (some b) es.length #[] es.length)) ?_ ?_
    · simp [execOp, ho, h1, run_range_map w T kt et b _ _ hT.und hh]
    · obtain ⟨h2, h3⟩ := HpH.addR (obj := .mapIter (some b) es.length #[] es.length) (r := iterR w.heap.size b es.length []) hI rfl rfl ⟨fun _ => .inr rfl, by rw [heap_alloc_new]⟩
      refine hK _ _ _ _ (k w.heap.size) ⟨_, by rw [put_size]; exact hsz, by rw [put_defers]; exact hdf, ?_, h2⟩
      intro s p hp
      simp only [List.lookup] at hp
      by_cases hs : s = d
      · subst hs; simp at hp; subst hp; rw [hd, put_same (by rw [hsz]; exact hn)]; rfl
      · rw [show (s == d) = false by simpa using hs] at hp
        rw [hd, put_other hs]
        exact p.st _ _ _ _ _ h3 (he s p hp)
theorem mem_left {es : List (Value × Value)} {seen : List Nat} {e : MapEntry} : e ∈ (leftOf (mkE es) seen.toArray).toList ↔ ∃ q p, es[q]? = some p ∧ q ∉ seen ∧ e = { key := p.1, val := p.2, born := q } := by
  unfold leftOf
  rw [Array.toList_filter, List.mem_filter]
  constructor
  · rintro ⟨h1, h2⟩
    obtain ⟨q, hq⟩ := List.mem_iff_getElem?.1 h1
    rw [Array.getElem?_toList, mkE_at] at hq
    cases hp : es[q]? with
    | none => rw [hp] at hq; cases hq
    | some p =>
      rw [hp] at hq
      simp only [Option.map_some, Option.some.injEq] at hq
      subst hq
      exact ⟨q, p, hp, by simpa using h2, rfl⟩
  · rintro ⟨q, p, hp, hq, rfl⟩
    exact ⟨List.mem_iff_getElem?.2 ⟨q, by rw [Array.getElem?_toList, mkE_at, hp]; rfl⟩, by simpa using hq⟩
theorem run_next_own {w : World} (ty : TypeId) {it b m : Nat} {seen : List Nat} {es : List (Value × Value)} (hm : es.length = m) (hit : w.heap[it]? = some (.mapIter (some b) m seen.toArray m)) (hb : w.heap[b]? = some (.map (mkE es) m)) :
    ((∀ q, q < m → q ∈ seen) ∧ (Instr.next (.pointer (some ⟨it, 0, none⟩)) false ty).run P w = .ok (.tuple #[.bool false]) w) ∨
    ∃ q p, es[q]? = some p ∧ q ∉ seen ∧ ∃ w1, (w1 = w ∨ w1 = w.drew) ∧ (Instr.next (.pointer (some ⟨it, 0, none⟩)) false ty).run P w = .ok (.tuple #[.bool true, p.1, p.2]) (setB w1 it (.mapIter (some b) m (seen ++ [q]).toArray m)) := by
  have hold : ∀ x ∈ (mkE es).toList, x.born < m := by
    intro x hx
    obtain ⟨q, hq⟩ := List.mem_iff_getElem?.1 hx
    rw [Array.getElem?_toList, mkE_at] at hq
    cases hp : es[q]? with
    | none => rw [hp] at hq; cases hq
    | some p =>
      rw [hp] at hq
      simp only [Option.map_some, Option.some.injEq] at hq
      subst hq
      show q < m
      rcases Nat.lt_or_ge q es.length with h | h
      · omega
      · rw [List.getElem?_eq_none h] at hp; cases hp
  simp only [Instr.next, getObj, Sem.run_bind, Sem.run, hit, hb, Result.andThen, next_test_false seen.toArray (mkE es) m m hold (Nat.le_refl _), Bool.false_eq_true, if_false]
  have hleft : (mkE es).filter (fun e => !seen.toArray.contains e.born) = leftOf (mkE es) seen.toArray := rfl
  rw [hleft]
  have hmem : ∀ x ∈ (leftOf (mkE es) seen.toArray).toList, x.born < m := fun x hx => by
    obtain ⟨q, p, h1, _, rfl⟩ := mem_left.1 hx
    rcases Nat.lt_or_ge q es.length with h | h
    · show q < m; omega
    · rw [List.getElem?_eq_none h] at h1; cases h1
  have hml : ∀ e, e ∈ (leftOf (mkE es) seen.toArray).toList ↔ ∃ q p, es[q]? = some p ∧ q ∉ seen ∧ e = { key := p.1, val := p.2, born := q } := fun e => mem_left
  generalize leftOf (mkE es) seen.toArray = L at hmem hml ⊢
  have e1 : L.filter (fun x => decide (x.born < m)) = L := Array.filter_eq_self.2 (fun x hx => by simpa using hmem x (by simpa using hx))
  have e2 : L.filter (fun x => decide (x.born ≥ m)) = #[] := by
    rw [Array.filter_eq_empty_iff]
    intro x hx
    have := hmem x (by simpa using hx)
    simp
    omega
  simp only [e1, e2, Array.append_empty]
  by_cases h0 : L.size = 0
  · left
    have hL : L = #[] := Array.eq_empty_of_size_eq_zero h0
    refine ⟨fun q hq => ?_, ?_⟩
    · rcases Classical.em (q ∈ seen) with h | h
      · exact h
      · have := (hml { key := (es[q]'(by omega)).1, val := (es[q]'(by omega)).2, born := q }).2 ⟨q, es[q]'(by omega), List.getElem?_eq_getElem (by omega), h, rfl⟩
        rw [hL] at this; simp at this
    · subst hL
      simp [choose, Sem.run, Question.forced]
  · right
    have hne : L.isEmpty = false := by simp [Array.isEmpty, h0]
    simp only [hne, Bool.false_eq_true, if_false, Array.empty_append, Array.size_map]
    have hch : ∃ (j : Nat) (w1 : World), j < L.size ∧ (w1 = w ∨ w1 = w.drew) ∧ (choose (Question.mapNext L.size)).run P w = .ok j w1 := by
      by_cases hf : L.size ≤ 1
      · exact ⟨0, w, by omega, .inl rfl, by simp [choose, Sem.run, Question.forced, hf]⟩
      · exact ⟨_, w.drew, Nat.mod_lt _ (by omega), .inr rfl, by
          simp only [choose, Sem.run, Question.forced, decide_eq_true_eq, hf, if_false, Question.cut]
          rfl⟩
    obtain ⟨j, w1, hj, hal, hrun⟩ := hch
    obtain ⟨q, p, hq1, hq2, hq3⟩ := (hml L[j]).1 (by simp)
    refine ⟨q, p, hq1, hq2, w1, hal, ?_⟩
    have hw1 : w1.heap = w.heap := by rcases hal with rfl | rfl <;> rfl
    have hset : ∀ (o' : Obj), (setObj it o').run P w1 = .ok () (setB w1 it o') := fun o' => by
      have hit1 : w1.heap[it]? = some (.mapIter (some b) m seen.toArray m) := by rw [hw1]; exact hit
      simp only [setObj, Sem.run, hit1]
      rfl
    simp only [hrun, Array.getElem?_map, Array.getElem?_eq_getElem hj, Option.map_some, Sem.run_bind, hset, Result.andThen]
    rw [hq3]
    simp

omit [DecidableEq κ] in
theorem TO.next {d i j it b : Nat} {x : Operand} {es : List (κ × Int)} {seen : List Nat} (hg : o.guard = none) (hd : o.dst = some d) (hn : d < n) (ho : o.op = .next x false) (hx : VL E x (ptr it 0)) (hi : rs[i]? = some (iterR it b es.length seen)) (hj : rs[j]? = some (mapR enc b es))
    (k1 : (∀ q, q < es.length → q ∈ seen) → TO P n ops r ((d, tup [bool false]) :: E) (Hp M0 w0 S rs) Q)
    (k2 : ∀ q p, es[q]? = some p → q ∉ seen → TO P n ops r ((d, tup [bool true, is (enc p.1), int p.2]) :: E) (Hp M0 w0 S (rs.set i (iterR it b es.length (seen ++ [q])))) Q) : TO P n ops (o :: r) E (Hp M0 w0 S rs) Q :=
  TO.eff hg fun K M w a hsz hdf he hI hK => by
    have h1 : a.eval x = .pointer (some ⟨it, 0, none⟩) := hx.ev (o := o) (looks_env he) (by simp [ho, Op.operands])
    obtain ⟨⟨hMi, hit⟩, hbi⟩ := HpH.hold hI _ (List.mem_of_getElem? hi)
    obtain ⟨_, hh⟩ := (HpH.hold hI _ (List.mem_of_getElem? hj)).1
    have hlt := (hbi it rfl).1
    rcases run_next_own (P := P) o.type (es := encE enc es) (by simp [encE]) hit hh with ⟨h2, h3⟩ | ⟨q, p, h2, h3, w1, h4, h5⟩
    · refine TO.val (v := .tuple #[.bool false]) (w' := w) ?_ ?_
      · simp [execOp, ho, h1, h3]
      · refine hK _ _ _ _ (k1 h2) ⟨M, by rw [put_size]; exact hsz, by rw [put_defers]; exact hdf, ?_, hI⟩
        intro s p hp
        simp only [List.lookup] at hp
        by_cases hs : s = d
        · subst hs; simp at hp; subst hp; rw [hd, put_same (by rw [hsz]; exact hn)]; exact ⟨_, rfl, rfl, trivial⟩
        · rw [show (s == d) = false by simpa using hs] at hp
          rw [hd, put_other hs]; exact he s p hp
    · have hes : ∃ p', es[q]? = some p' ∧ p = (enc p'.1, .int .i64 p'.2) := by
        simp only [encE, List.getElem?_map] at h2
        cases h : es[q]? with
        | none => rw [h] at h2; cases h2
        | some p' => rw [h] at h2; simp at h2; exact ⟨p', rfl, h2.symm⟩
      obtain ⟨p', hp', rfl⟩ := hes
      refine TO.val (v := .tuple #[.bool true, enc p'.1, .int .i64 p'.2]) (w' := setB w1 it (.mapIter (some b) es.length (seen ++ [q]).toArray es.length)) ?_ ?_
      · simp [execOp, ho, h1, h5]
      · have hbel : Below w.heap.size w w1 := by
          rcases h4 with rfl | rfl
          · exact Below.refl _ _
          · exact (Below.refl _ _).drew
        have hI1 := (Hp M0 w0 S rs).st _ _ _ hbel hI
        obtain ⟨h6, h7⟩ := HpH.setR (obj := .mapIter (some b) es.length (seen ++ [q]).toArray es.length) (r' := iterR it b es.length (seen ++ [q])) hI1 hi rfl rfl rfl rfl hMi ⟨hMi, setB_at (Nat.lt_of_lt_of_le hlt hbel.size)⟩
        refine hK _ _ _ _ (k2 q p' hp' h3) ⟨M, by rw [put_size]; exact hsz, by rw [put_defers]; exact hdf, ?_, h6⟩
        intro s p hp
        simp only [List.lookup] at hp
        by_cases hs : s = d
        · subst hs; simp at hp; subst hp; rw [hd, put_same (by rw [hsz]; exact hn)]; exact ⟨_, rfl, rfl, rfl, rfl, trivial⟩
        · rw [show (s == d) = false by simpa using hs] at hp
          rw [hd, put_other hs]
          exact p.st _ _ _ _ _ ((Ext.below hbel).trans h7) (he s p hp)
omit [DecidableEq κ] in
theorem TO.entry {d i j it b q : Nat} {x : Operand} {es : List (κ × Int)} {seen : List Nat} {p : κ × Int} (hg : o.guard = none) (hd : o.dst = some d) (hn : d < n) (ho : o.op = .entry x) (hx : VL E x (ptr it 0)) (hi : rs[i]? = some (iterR it b es.length (seen ++ [q]))) (hj : rs[j]? = some (mapR enc b es)) (hq : es[q]? = some p)
    (k : TO P n ops r ((d, tup [is (enc p.1), int p.2]) :: E) (Hp M0 w0 S rs) Q) : TO P n ops (o :: r) E (Hp M0 w0 S rs) Q :=
  TO.eff hg fun K M w a hsz hdf he hI hK => by
    have h1 : a.eval x = .pointer (some ⟨it, 0, none⟩) := hx.ev (o := o) (looks_env he) (by simp [ho, Op.operands])
    obtain ⟨⟨_, hit⟩, _⟩ := HpH.hold hI _ (List.mem_of_getElem? hi)
    obtain ⟨_, hh⟩ := (HpH.hold hI _ (List.mem_of_getElem? hj)).1
    have hat : (mkE (encE enc es))[q]? = some { key := enc p.1, val := .int .i64 p.2, born := q } := by rw [mkE_at]; simp [encE, hq]
    have hnd : ((mkE (encE enc es)).toList.map (·.born)).Nodup := by
      have : (mkE (encE enc es)).toList.map (·.born) = List.range (encE enc es).length := by
        apply List.ext_getElem?
        intro k
        rw [List.getElem?_map, Array.getElem?_toList, mkE_at]
        by_cases hk : k < (encE enc es).length
        · rw [List.getElem?_range hk, List.getElem?_eq_getElem hk]; rfl
        · rw [List.getElem?_eq_none (Nat.le_of_not_lt hk), List.getElem?_eq_none (by simp at hk ⊢; omega)]; rfl
      rw [this]; exact List.nodup_range
    have hfind : (mkE (encE enc es)).find? (fun e => e.born == q) = some { key := enc p.1, val := .int .i64 p.2, born := q } := by
      rw [← Array.find?_toList]
      exact find_born { key := enc p.1, val := .int .i64 p.2, born := q } _ hnd (List.mem_iff_getElem?.2 ⟨q, by rw [Array.getElem?_toList]; exact hat⟩)
    refine TO.val (v := .tuple #[enc p.1, .int .i64 p.2]) (w' := w) ?_ ?_
    · have : (Instr.entry (.pointer (some ⟨it, 0, none⟩))).run P w = .ok (.tuple #[enc p.1, .int .i64 p.2]) w := by
        have hb : (seen ++ [q]).toArray.back? = some q := by simp
        simp only [Instr.entry, getObj, Sem.run_bind, Sem.run, hit, hh, Result.andThen, hb, bne_self_eq_false, Bool.false_eq_true, if_false, hfind]
        rfl
      simp [execOp, ho, h1, this]
    · refine hK _ _ _ _ k ⟨M, by rw [put_size]; exact hsz, by rw [put_defers]; exact hdf, ?_, hI⟩
      intro s p hp
      simp only [List.lookup] at hp
      by_cases hs : s = d
      · subst hs; simp at hp; subst hp; rw [hd, put_same (by rw [hsz]; exact hn)]; exact ⟨_, rfl, rfl, rfl, trivial⟩
      · rw [show (s == d) = false by simpa using hs] at hp
        rw [hd, put_other hs]; exact he s p hp
end

section
variable {P : Program}
theorem chk_int {t : TypeId} {k : IntKind} {e : Bool} {d : Nat} {v : Value} (ht : P.underlying t = some (.int k)) (w : World) : (Instr.checkKey e (d + 1) t v).run P w = .ok () w := by
  simp [Instr.checkKey, run_underlying ht]
end
end Cp
