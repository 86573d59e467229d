/-
  The law: what was done cannot be done again.
-/
import Derived.Test.YtflodcidhlmaaaaGreatRows
import Derived.Test.YtflodcidhlmaaaaGreatCiBP5
set_option linter.all false
set_option maxRecDepth 40000
set_option maxHeartbeats 16000000
namespace Go.Proofs.YtflodcidhlmaaaaGreat
open Go Go.RowKit Cp Go.ChangeShapes Go.WideShapes Go.ChangeAt
theorem w_ChangeTwice {t : List Int}  : Fun Tryz.prog 5 [ints t] (bool true) := by
 refine fo Tryz.func5 rfl ⟨rfl, rfl⟩ fun M0 w0 => ?_
 refine ac ?_
 refine ac ?_
 refine co rfl (kc1 (w_Light) rfl rfl) ?_
 refine ac ?_
 refine Tr.cn rfl ?_ ?_ <;> intro h1 q1
 refine Tr.seq (Tr.reg0 (co rfl (kc0 (w_awake24) rfl) ?_))
 refine ac ?_
 refine ac ?_
 · exact Pr.le_refl _
 have ht4 : t.length ≤ 400 := by simpa using h1
 have ht9 : t.length ≤ 1000000000 := by omega
 refine ac ?_
 refine ao ?_
 refine TO.pad ?_
 refine TO.efs 0 rfl rfl (by decide) (ef_call rfl rfl (by decide) rfl (w_Roll (l := t) ht9) ⟨ke rfl, trivial⟩) (fun v1 => ?_)
 refine TO.opn 16 0 _ rfl rfl (fun _ => rfl) (fun b1 => ?_)
 refine ao ?_
 refine ao ?_
 refine TO.efc 0 rfl rfl (by decide) (ef_callc rfl rfl (by decide) rfl (w_Sound) ⟨ke rfl, trivial⟩) ?_
 refine TO.ex 18 rfl (fun z1 => TO.fact 18 rfl fun hz1 => ?_)
 refine TO.alloc rfl rfl (by decide) rfl z31 zo31 (fun b2 => ?_)
 refine sf 0 4 ⟨rfl, rfl, rfl⟩ rfl rfl rfl rfl ?_
 refine TO.nil (Fin.openD 0 rfl (fun s1 => ?_))
 refine Fin.go ?_
 refine ao ?_
 refine TO.efc 0 rfl rfl (by decide) (ef_callc rfl rfl (by decide) rfl (w_Any (es := z1) hz1.2 ⟨by omega, by omega⟩) ⟨ke rfl, ke rfl, trivial⟩) ?_
 refine TO.ex 21 rfl (fun z2 => TO.fact 21 rfl fun hz2 => ?_)
 obtain ⟨e, he0⟩ := at_ (l := z1) (k := z2.endpoint.toNat) (by have := hz2.lo; have := hz2.hi; omega)
 have he := sndE_sz (hz1.2 _ e he0)
 have hl2 := hz2.lo
 have hh2 := hz2.hi
 obtain ⟨x, b, f, hr⟩ : ∃ x b f, doneR e z2 = (x, b, f) := ⟨_, _, _, rfl⟩
 refine TO.alloc rfl rfl (by decide) rfl z49 zo49 (fun b3 => ?_)
 refine sf 0 5 ⟨rfl, rfl, rfl⟩ rfl rfl rfl rfl ?_
 refine TO.nil (Fin.openD 0 rfl (fun s2 => ?_))
 refine Fin.go (wk2 4 5 rfl ?_)
 refine ao ?_
 refine tp rfl (ok_indexAddr rfl Tryz.underlying27 sz35 (vl rfl) (vl rfl) (by omega) (row_atI (f := rowEp) he0)) (tp rfl (ok_loadA rfl agg35 sz35 (vl rfl) rfl rfl) ?_)
 refine TO.alloc rfl rfl (by decide) rfl z35 zo35 (fun b4 => ?_)
 refine sf 0 6 ⟨rfl, rfl, rfl⟩ rfl rfl rfl rfl ?_
 refine ao ?_
 refine ao ?_
 refine tp rfl (kc2 (ap_of hr (he.fits) (he.small (by omega)) hz2.fits hz2.small) rfl rfl rfl) ?_
 refine ao ?_
 refine TO.alloc rfl rfl (by decide) rfl z35 zo35 (fun b5 => ?_)
 refine sf 0 7 ⟨rfl, rfl, rfl⟩ rfl rfl rfl rfl ?_
 refine ao ?_
 refine wk4 5 6 7 8 rfl ?_
 refine ac ?_
 refine Tr.cn rfl ?_ ?_ <;> intro h2 q2
 have hzr := (done_zero hr (by have := q2; omega)).1
 refine ac ?_
 refine co rfl (ok_call rfl (w_R9Same (a := x) (b := zeroEp)) ⟨ke rfl, ⟨_, rfl, agg_le ⟨Pr.le_refl _, Pr.le_refl _, Pr.le_refl _, nil_slice 1, Pr.le_refl _, nil_slice 4, nil_slice 1, nil_slice 1, Pr.le_refl _, trivial⟩⟩, trivial⟩) ?_
 refine cm rfl ?_
 refine Ch.cs 39 rfl ?_ ?_ <;> intro h3 q3
 refine cy h3 rfl (kc0 (w_awake24) rfl) ?_
 refine ac ?_
 refine ac ?_
 · exact Pr.le_refl _
 exact absurd hzr q3
 obtain rfl : f = 0 := by have := q2; omega
 have hD := done_twice hr
 have hR := hD.2.1
 have hx := sz_done hr he ⟨hz2.fits, hz2.small⟩
 have hkd := hz2.kind
 refine ac ?_
 refine ac ?_
 refine co rfl (kc2 (ck_of hD.1 (hx.1.fits) (hx.1.small (by omega)) hz2.fits hz2.small) rfl rfl rfl) ?_
 refine ac ?_
 refine ao ?_
 refine TO.alloc rfl rfl (by decide) rfl z35 zo35 (fun b6 => ?_)
 refine TO.store_all 0 rfl rfl rfl (vl rfl) (VL.le (vl rfl) (agg_cellsP _)) rfl sz35 rfl rfl ?_
 refine ao ?_
 refine ac ?_
 refine wk5 6 7 9 10 47 rfl ?_
 refine ac ?_
 refine Tr.cn rfl ?_ ?_ <;> intro h4 q4
 refine ac ?_
 refine Tr.cond rfl (fun _ => ?_) (fun h => nomatch h4.symm.trans h)
 refine ao ?_
 refine TO.ef0 0 rfl rfl (ef_store rfl rfl (vl rfl) (VL.le (vl rfl) (one_cellsP _)) sz22 rfl (by exact Nat.le_of_ble_eq_true rfl) rfl) ?_
 refine ao ?_
 refine ac ?_
 refine Ch.cs 94 rfl ?_ ?_ <;> intro h5 q5
 refine ac ?_
 refine cy h5 rfl (kc2 (w_R9Same (a := { x with suites := e.suites }) (b := e)) rfl rfl rfl) ?_
 refine ac ?_
 refine Ch.cs 99 rfl ?_ ?_ <;> intro h6 q6
 refine ac ?_
 refine cy h6 rfl (kc2 (w_R9Same (a := x) (b := e)) rfl rfl rfl) ?_
 refine ac ?_
 refine Ch.cs 105 rfl ?_ ?_ <;> intro h7 q7
 refine cy h7 rfl (ok_loadA rfl agg35 sz35 (vl rfl) rfl rfl) (cy h7 rfl (kc1 (w_R9Check (hx.1.small (by omega))) rfl rfl) ?_)
 refine ac ?_
 refine Ch.cs 110 rfl ?_ ?_ <;> intro h8 q8
 refine cy h8 rfl (kc0 (w_awake24) rfl) ?_
 refine ac ?_
 refine Tr.drop 0 (wk1 2 rfl ?_)
 refine ac ?_
 · exact Pr.le_refl _
 exfalso; rw [if_pos hD.2.2.2] at h8; exact absurd h8 (by decide)
 exact absurd q7 hD.2.2.1
 exfalso; have hq := q6; exact hq (hR.suites (by omega))
 exact absurd rfl q5
 refine ac ?_
 refine Tr.cn rfl ?_ ?_ <;> intro h9 q9
 refine ao ?_
 refine TO.ef0 0 rfl rfl (ef_store rfl rfl (vl rfl) (VL.le (vl rfl) (one_cellsP _)) sz22 rfl (by exact Nat.le_of_ble_eq_true rfl) rfl) ?_
 refine ao ?_
 refine ac ?_
 refine Ch.cs 94 rfl ?_ ?_ <;> intro h10 q10
 refine ac ?_
 refine cy h10 rfl (kc2 (w_R9Same (a := { x with suites := e.suites }) (b := e)) rfl rfl rfl) ?_
 refine ac ?_
 refine Ch.cs 99 rfl ?_ ?_ <;> intro h11 q11
 refine ac ?_
 refine cy h11 rfl (kc2 (w_R9Same (a := x) (b := e)) rfl rfl rfl) ?_
 refine ac ?_
 refine Ch.cs 105 rfl ?_ ?_ <;> intro h12 q12
 refine cy h12 rfl (ok_loadA rfl agg35 sz35 (vl rfl) rfl rfl) (cy h12 rfl (kc1 (w_R9Check (hx.1.small (by omega))) rfl rfl) ?_)
 refine ac ?_
 refine Ch.cs 110 rfl ?_ ?_ <;> intro h13 q13
 refine cy h13 rfl (kc0 (w_awake24) rfl) ?_
 refine ac ?_
 refine Tr.drop 0 (wk1 2 rfl ?_)
 refine ac ?_
 · exact Pr.le_refl _
 exfalso; rw [if_pos hD.2.2.2] at h13; exact absurd h13 (by decide)
 exact absurd q12 hD.2.2.1
 exfalso; have hq := q11; exact hq (hR.suites (by omega))
 exact absurd rfl q10
 refine ac ?_
 refine Tr.cn rfl ?_ ?_ <;> intro h14 q14
 refine ao ?_
 refine TO.ef0 0 rfl rfl (ef_store rfl rfl (vl rfl) (VL.le (vl rfl) (one_cellsP _)) sz3 rfl (by exact Nat.le_of_ble_eq_true rfl) rfl) ?_
 refine ao ?_
 refine wk4 6 7 9 10 rfl ?_
 refine ac ?_
 refine Ch.cs 94 rfl ?_ ?_ <;> intro h15 q15
 refine ac ?_
 refine cy h15 rfl (kc2 (w_R9Same (a := { x with most := e.most }) (b := e)) rfl rfl rfl) ?_
 refine ac ?_
 refine Ch.cs 99 rfl ?_ ?_ <;> intro h16 q16
 refine ac ?_
 refine cy h16 rfl (kc2 (w_R9Same (a := x) (b := e)) rfl rfl rfl) ?_
 refine ac ?_
 refine Ch.cs 105 rfl ?_ ?_ <;> intro h17 q17
 refine cy h17 rfl (ok_loadA rfl agg35 sz35 (vl rfl) rfl rfl) (cy h17 rfl (kc1 (w_R9Check (hx.1.small (by omega))) rfl rfl) ?_)
 refine ac ?_
 refine Ch.cs 110 rfl ?_ ?_ <;> intro h18 q18
 refine cy h18 rfl (kc0 (w_awake24) rfl) ?_
 refine ac ?_
 refine Tr.drop 0 (wk1 2 rfl ?_)
 refine ac ?_
 · exact Pr.le_refl _
 exfalso; rw [if_pos hD.2.2.2] at h18; exact absurd h18 (by decide)
 exact absurd q17 hD.2.2.1
 exfalso; have hq := q16; exact hq (hR.most (by omega))
 exact absurd rfl q15
 refine ac ?_
 refine Tr.cn rfl ?_ ?_ <;> intro h19 q19
 refine ao ?_
 refine TO.ef0 0 rfl rfl (ef_store rfl rfl (vl rfl) (VL.le (vl rfl) (one_cellsP _)) sz3 rfl (by exact Nat.le_of_ble_eq_true rfl) rfl) ?_
 refine ao ?_
 refine wk4 6 7 9 10 rfl ?_
 refine ac ?_
 refine Ch.cs 94 rfl ?_ ?_ <;> intro h20 q20
 refine ac ?_
 refine cy h20 rfl (kc2 (w_R9Same (a := { x with least := e.least }) (b := e)) rfl rfl rfl) ?_
 refine ac ?_
 refine Ch.cs 99 rfl ?_ ?_ <;> intro h21 q21
 refine ac ?_
 refine cy h21 rfl (kc2 (w_R9Same (a := x) (b := e)) rfl rfl rfl) ?_
 refine ac ?_
 refine Ch.cs 105 rfl ?_ ?_ <;> intro h22 q22
 refine cy h22 rfl (ok_loadA rfl agg35 sz35 (vl rfl) rfl rfl) (cy h22 rfl (kc1 (w_R9Check (hx.1.small (by omega))) rfl rfl) ?_)
 refine ac ?_
 refine Ch.cs 110 rfl ?_ ?_ <;> intro h23 q23
 refine cy h23 rfl (kc0 (w_awake24) rfl) ?_
 refine ac ?_
 refine Tr.drop 0 (wk1 2 rfl ?_)
 refine ac ?_
 · exact Pr.le_refl _
 exfalso; rw [if_pos hD.2.2.2] at h23; exact absurd h23 (by decide)
 exact absurd q22 hD.2.2.1
 exfalso; have hq := q21; exact hq (hR.least (by omega))
 exact absurd rfl q20
 refine ac ?_
 refine wk6 6 7 9 10 47 64 rfl ?_
 refine Tr.cn rfl ?_ ?_ <;> intro h24 q24
 refine ac ?_
 refine Tr.cond rfl (fun _ => ?_) (fun h => nomatch h24.symm.trans h)
 refine ao ?_
 refine TO.ef0 0 rfl rfl (ef_store rfl rfl (vl rfl) (VL.le (vl rfl) (one_cellsP _)) sz33 rfl (by exact Nat.le_of_ble_eq_true rfl) rfl) ?_
 refine ao ?_
 refine ac ?_
 refine Ch.cs 94 rfl ?_ ?_ <;> intro h25 q25
 refine ac ?_
 refine cy h25 rfl (kc2 (w_R9Same (a := { x with ids := e.ids }) (b := e)) rfl rfl rfl) ?_
 refine ac ?_
 refine Ch.cs 99 rfl ?_ ?_ <;> intro h26 q26
 refine ac ?_
 refine cy h26 rfl (kc2 (w_R9Same (a := x) (b := e)) rfl rfl rfl) ?_
 refine ac ?_
 refine Ch.cs 105 rfl ?_ ?_ <;> intro h27 q27
 refine cy h27 rfl (ok_loadA rfl agg35 sz35 (vl rfl) rfl rfl) (cy h27 rfl (kc1 (w_R9Check (hx.1.small (by omega))) rfl rfl) ?_)
 refine ac ?_
 refine Ch.cs 110 rfl ?_ ?_ <;> intro h28 q28
 refine cy h28 rfl (kc0 (w_awake24) rfl) ?_
 refine ac ?_
 refine Tr.drop 0 (wk1 2 rfl ?_)
 refine ac ?_
 · exact Pr.le_refl _
 exfalso; rw [if_pos hD.2.2.2] at h28; exact absurd h28 (by decide)
 exact absurd q27 hD.2.2.1
 exfalso; have hq := q26; exact hq (hR.ids (by omega))
 exact absurd rfl q25
 refine ac ?_
 refine Tr.cn rfl ?_ ?_ <;> intro h29 q29
 refine ao ?_
 refine TO.ef0 0 rfl rfl (ef_store rfl rfl (vl rfl) (VL.le (vl rfl) (one_cellsP _)) sz33 rfl (by exact Nat.le_of_ble_eq_true rfl) rfl) ?_
 refine ao ?_
 refine ac ?_
 refine Ch.cs 94 rfl ?_ ?_ <;> intro h30 q30
 refine ac ?_
 refine cy h30 rfl (kc2 (w_R9Same (a := { x with ids := e.ids }) (b := e)) rfl rfl rfl) ?_
 refine ac ?_
 refine Ch.cs 99 rfl ?_ ?_ <;> intro h31 q31
 refine ac ?_
 refine cy h31 rfl (kc2 (w_R9Same (a := x) (b := e)) rfl rfl rfl) ?_
 refine ac ?_
 refine Ch.cs 105 rfl ?_ ?_ <;> intro h32 q32
 refine cy h32 rfl (ok_loadA rfl agg35 sz35 (vl rfl) rfl rfl) (cy h32 rfl (kc1 (w_R9Check (hx.1.small (by omega))) rfl rfl) ?_)
 refine ac ?_
 refine Ch.cs 110 rfl ?_ ?_ <;> intro h33 q33
 refine cy h33 rfl (kc0 (w_awake24) rfl) ?_
 refine ac ?_
 refine Tr.drop 0 (wk1 2 rfl ?_)
 refine ac ?_
 · exact Pr.le_refl _
 exfalso; rw [if_pos hD.2.2.2] at h33; exact absurd h33 (by decide)
 exact absurd q32 hD.2.2.1
 exfalso; have hq := q31; exact hq (hR.ids (by omega))
 exact absurd rfl q30
 refine ac ?_
 refine Tr.cn rfl ?_ ?_ <;> intro h34 q34
 refine ac ?_
 refine Tr.cond rfl (fun _ => ?_) (fun h => nomatch h34.symm.trans h)
 refine ao ?_
 refine TO.ef0 0 rfl rfl (ef_store rfl rfl (vl rfl) (VL.le (vl rfl) (one_cellsP _)) sz22 rfl (by exact Nat.le_of_ble_eq_true rfl) rfl) ?_
 refine ao ?_
 refine ac ?_
 refine Ch.cs 94 rfl ?_ ?_ <;> intro h35 q35
 refine ac ?_
 refine cy h35 rfl (kc2 (w_R9Same (a := { x with anchors := e.anchors }) (b := e)) rfl rfl rfl) ?_
 refine ac ?_
 refine Ch.cs 99 rfl ?_ ?_ <;> intro h36 q36
 refine ac ?_
 refine cy h36 rfl (kc2 (w_R9Same (a := x) (b := e)) rfl rfl rfl) ?_
 refine ac ?_
 refine Ch.cs 105 rfl ?_ ?_ <;> intro h37 q37
 refine cy h37 rfl (ok_loadA rfl agg35 sz35 (vl rfl) rfl rfl) (cy h37 rfl (kc1 (w_R9Check (hx.1.small (by omega))) rfl rfl) ?_)
 refine ac ?_
 refine Ch.cs 110 rfl ?_ ?_ <;> intro h38 q38
 refine cy h38 rfl (kc0 (w_awake24) rfl) ?_
 refine ac ?_
 refine Tr.drop 0 (wk1 2 rfl ?_)
 refine ac ?_
 · exact Pr.le_refl _
 exfalso; rw [if_pos hD.2.2.2] at h38; exact absurd h38 (by decide)
 exact absurd q37 hD.2.2.1
 exfalso; have hq := q36; exact hq (hR.anchors (by omega))
 exact absurd rfl q35
 refine ac ?_
 refine Tr.cn rfl ?_ ?_ <;> intro h39 q39
 refine ao ?_
 refine TO.ef0 0 rfl rfl (ef_store rfl rfl (vl rfl) (VL.le (vl rfl) (one_cellsP _)) sz22 rfl (by exact Nat.le_of_ble_eq_true rfl) rfl) ?_
 refine ao ?_
 refine wk4 6 7 9 10 rfl ?_
 refine ac ?_
 refine Ch.cs 94 rfl ?_ ?_ <;> intro h40 q40
 refine ac ?_
 refine cy h40 rfl (kc2 (w_R9Same (a := { x with anchors := e.anchors }) (b := e)) rfl rfl rfl) ?_
 refine ac ?_
 refine Ch.cs 99 rfl ?_ ?_ <;> intro h41 q41
 refine ac ?_
 refine cy h41 rfl (kc2 (w_R9Same (a := x) (b := e)) rfl rfl rfl) ?_
 refine ac ?_
 refine Ch.cs 105 rfl ?_ ?_ <;> intro h42 q42
 refine cy h42 rfl (ok_loadA rfl agg35 sz35 (vl rfl) rfl rfl) (cy h42 rfl (kc1 (w_R9Check (hx.1.small (by omega))) rfl rfl) ?_)
 refine ac ?_
 refine Ch.cs 110 rfl ?_ ?_ <;> intro h43 q43
 refine cy h43 rfl (kc0 (w_awake24) rfl) ?_
 refine ac ?_
 refine Tr.drop 0 (wk1 2 rfl ?_)
 refine ac ?_
 · exact Pr.le_refl _
 exfalso; rw [if_pos hD.2.2.2] at h43; exact absurd h43 (by decide)
 exact absurd q42 hD.2.2.1
 exfalso; have hq := q41; exact hq (hR.anchors (by omega))
 exact absurd rfl q40
 refine ac ?_
 refine wk6 6 7 9 10 47 76 rfl ?_
 refine Tr.cn rfl ?_ ?_ <;> intro h44 q44
 refine ac ?_
 refine Tr.cond rfl (fun _ => ?_) (fun h => nomatch h44.symm.trans h)
 refine ao ?_
 refine TO.ef0 0 rfl rfl (ef_store rfl rfl (vl rfl) (VL.le (vl rfl) (one_cellsP _)) sz22 rfl (by exact Nat.le_of_ble_eq_true rfl) rfl) ?_
 refine ao ?_
 refine ac ?_
 refine Ch.cs 94 rfl ?_ ?_ <;> intro h45 q45
 refine ac ?_
 refine cy h45 rfl (kc2 (w_R9Same (a := { x with hashes := e.hashes }) (b := e)) rfl rfl rfl) ?_
 refine ac ?_
 refine Ch.cs 99 rfl ?_ ?_ <;> intro h46 q46
 refine ac ?_
 refine cy h46 rfl (kc2 (w_R9Same (a := x) (b := e)) rfl rfl rfl) ?_
 refine ac ?_
 refine Ch.cs 105 rfl ?_ ?_ <;> intro h47 q47
 refine cy h47 rfl (ok_loadA rfl agg35 sz35 (vl rfl) rfl rfl) (cy h47 rfl (kc1 (w_R9Check (hx.1.small (by omega))) rfl rfl) ?_)
 refine ac ?_
 refine Ch.cs 110 rfl ?_ ?_ <;> intro h48 q48
 refine cy h48 rfl (kc0 (w_awake24) rfl) ?_
 refine ac ?_
 refine Tr.drop 0 (wk1 2 rfl ?_)
 refine ac ?_
 · exact Pr.le_refl _
 exfalso; rw [if_pos hD.2.2.2] at h48; exact absurd h48 (by decide)
 exact absurd q47 hD.2.2.1
 exfalso; have hq := q46; exact hq (hR.hashes (by omega))
 exact absurd rfl q45
 refine ac ?_
 refine Tr.cn rfl ?_ ?_ <;> intro h49 q49
 refine ao ?_
 refine TO.ef0 0 rfl rfl (ef_store rfl rfl (vl rfl) (VL.le (vl rfl) (one_cellsP _)) sz22 rfl (by exact Nat.le_of_ble_eq_true rfl) rfl) ?_
 refine ao ?_
 refine ac ?_
 refine Ch.cs 94 rfl ?_ ?_ <;> intro h50 q50
 refine ac ?_
 refine cy h50 rfl (kc2 (w_R9Same (a := { x with hashes := e.hashes }) (b := e)) rfl rfl rfl) ?_
 refine ac ?_
 refine Ch.cs 99 rfl ?_ ?_ <;> intro h51 q51
 refine ac ?_
 refine cy h51 rfl (kc2 (w_R9Same (a := x) (b := e)) rfl rfl rfl) ?_
 refine ac ?_
 refine Ch.cs 105 rfl ?_ ?_ <;> intro h52 q52
 refine cy h52 rfl (ok_loadA rfl agg35 sz35 (vl rfl) rfl rfl) (cy h52 rfl (kc1 (w_R9Check (hx.1.small (by omega))) rfl rfl) ?_)
 refine ac ?_
 refine Ch.cs 110 rfl ?_ ?_ <;> intro h53 q53
 refine cy h53 rfl (kc0 (w_awake24) rfl) ?_
 refine ac ?_
 refine Tr.drop 0 (wk1 2 rfl ?_)
 refine ac ?_
 · exact Pr.le_refl _
 exfalso; rw [if_pos hD.2.2.2] at h53; exact absurd h53 (by decide)
 exact absurd q52 hD.2.2.1
 exfalso; have hq := q51; exact hq (hR.hashes (by omega))
 exact absurd rfl q50
 refine ac ?_
 refine Tr.cn rfl ?_ ?_ <;> intro h54 q54
 refine ao ?_
 refine TO.ef0 0 rfl rfl (ef_store rfl rfl (vl rfl) (VL.le (vl rfl) (one_cellsP _)) sz4 rfl (by exact Nat.le_of_ble_eq_true rfl) rfl) ?_
 refine ao ?_
 refine ac ?_
 refine Ch.cs 94 rfl ?_ ?_ <;> intro h55 q55
 refine ac ?_
 refine cy h55 rfl (kc2 (w_R9Same (a := { x with fall := e.fall }) (b := e)) rfl rfl rfl) ?_
 refine ac ?_
 refine Ch.cs 99 rfl ?_ ?_ <;> intro h56 q56
 refine ac ?_
 refine cy h56 rfl (kc2 (w_R9Same (a := x) (b := e)) rfl rfl rfl) ?_
 refine ac ?_
 refine Ch.cs 105 rfl ?_ ?_ <;> intro h57 q57
 refine cy h57 rfl (ok_loadA rfl agg35 sz35 (vl rfl) rfl rfl) (cy h57 rfl (kc1 (w_R9Check (hx.1.small (by omega))) rfl rfl) ?_)
 refine ac ?_
 refine Ch.cs 110 rfl ?_ ?_ <;> intro h58 q58
 refine cy h58 rfl (kc0 (w_awake24) rfl) ?_
 refine ac ?_
 refine Tr.drop 0 (wk1 2 rfl ?_)
 refine ac ?_
 · exact Pr.le_refl _
 exfalso; rw [if_pos hD.2.2.2] at h58; exact absurd h58 (by decide)
 exact absurd q57 hD.2.2.1
 exfalso; have hq := q56; exact hq (hR.fall (by omega))
 exact absurd rfl q55
 refine ac ?_
 refine Tr.cn rfl ?_ ?_ <;> intro h59 q59
 refine ao ?_
 refine TO.ef0 0 rfl rfl (ef_store rfl rfl (vl rfl) (VL.le (vl rfl) (one_cellsP _)) sz4 rfl (by exact Nat.le_of_ble_eq_true rfl) rfl) ?_
 refine ao ?_
 refine wk4 6 7 9 10 rfl ?_
 refine ac ?_
 refine Ch.cs 94 rfl ?_ ?_ <;> intro h60 q60
 refine ac ?_
 refine cy h60 rfl (kc2 (w_R9Same (a := { x with own := e.own }) (b := e)) rfl rfl rfl) ?_
 refine ac ?_
 refine Ch.cs 99 rfl ?_ ?_ <;> intro h61 q61
 refine ac ?_
 refine cy h61 rfl (kc2 (w_R9Same (a := x) (b := e)) rfl rfl rfl) ?_
 refine ac ?_
 refine Ch.cs 105 rfl ?_ ?_ <;> intro h62 q62
 refine cy h62 rfl (ok_loadA rfl agg35 sz35 (vl rfl) rfl rfl) (cy h62 rfl (kc1 (w_R9Check (hx.1.small (by omega))) rfl rfl) ?_)
 refine ac ?_
 refine Ch.cs 110 rfl ?_ ?_ <;> intro h63 q63
 refine cy h63 rfl (kc0 (w_awake24) rfl) ?_
 refine ac ?_
 refine Tr.drop 0 (wk1 2 rfl ?_)
 refine ac ?_
 · exact Pr.le_refl _
 exfalso; rw [if_pos hD.2.2.2] at h63; exact absurd h63 (by decide)
 exact absurd q62 hD.2.2.1
 exfalso; have hq := q61; exact hq (hR.own (by omega))
 exact absurd rfl q60
 exfalso; omega
theorem changeTwice_lifted (os : Os) (started : os.Started) (H : Type) (enc : TypeId × Value → H) :
    ReturnsInHanded {} Tryz.checked os 5 .any (Rows.changeTwiceSpec.pre6 enc Tryz.prog Tryz.f5 Rows.changeTwiceRow.domain false) (Rows.changeTwiceSpec.post enc Tryz.prog Tryz.f5 false true false false) := by
  refine returnsInHanded_of_change (C := Tryz.checked) own0 started (by kernel_rfl) Tryz.func5
    (ChangeSpec.witness6 (enc := enc) (C := Tryz.checked) false ⟨#[], #[.slice none 0 0], []⟩ 8 (by kernel_rfl) (by kernel_rfl) (by kernel_rfl) (by kernel_rfl)) ?_
  intro W base args ds gs before hval0 hW hcnd _
  have hval : ∀ (j : Nat) t v, Tryz.f5.params[j]? = some t → args[j]? = some v → Value.okWide Tryz.prog W .any base t v := hval0
  have hW' := hW
  obtain ⟨p, q, hA0, hV, hpq, hfz, hnd⟩ := hW
  have hA : DataW.TrodAll enc Tryz.prog W 0 (fun _ => true) true Tryz.f5.params.toList args.toList ds p := hA0
  have hA' := hA
  rw [Tryz.params5] at hA hval
  obtain ⟨v0, d0, rfl, rfl, h0⟩ := trodAll_one hA
  obtain ⟨rfl, rfl⟩ := trodVars_none hV
  obtain ⟨a0, hr0, e0⟩ := arg_one (opens_ints Tryz.underlying22 Tryz.underlying3 (by kernel_rfl)) h0 (by obtain ⟨_, _, _, rfl⟩ := okWide_slice Tryz.underlying22 (hval 0 22 v0 rfl rfl); rfl)
  refine ((w_ChangeTwice).2 noM W [v0] (noM_bd W) ⟨e0, trivial⟩).mono fun e W' ⟨v, he, hv, hb⟩ => ?_
  subst he
  obtain rfl : v = .bool true := hv
  exact ⟨_, rfl, law_post laidOut0 (by kernel_rfl) rfl Tryz.underlying4 rfl hA' (by rw [hpq]; simp) hW' rfl hb⟩
theorem changeTwice_holds : Rows.ChangeTwiceSaid :=
  OpenClaim.holds_of_wide 5 Tryz.f5 rfl rfl rfl rfl rfl rfl rfl ⟨rfl, rfl, rfl, rfl, rfl⟩ rfl rfl rfl rfl rfl (by kernel_rfl) Tryz.func5 (by kernel_rfl)
    (of_decide_eq_true (by kernel_rfl)) (by unfold Func.isWrapper; first | (rw [if_pos (by decide +kernel)]; kernel_rfl) | (rw [if_neg (by decide +kernel)]; exact ⟨rfl, rfl⟩))
    (fun os started H enc _ => changeTwice_lifted os started H enc)
end Go.Proofs.YtflodcidhlmaaaaGreat
