/-
  The law of the way back.
-/
import Derived.Test.YtflodcidhlmaaaaGreatRows
import Derived.Test.YtflodcidhlmaaaaGreatChVP5
set_option linter.all false
namespace Go.Proofs.YtflodcidhlmaaaaGreat
open Go Go.RowKit Cp

structure Crt.vf (c : Crt) : Prop where
  s0 : 0 ≤ c.serial
  s1 : c.serial ≤ 1099511627776
  iss : named c.issuer = true
  sub : named c.subject = true
  nm : namesB c.names = true
  key : ofB c.kalg c.kbits 2 = true
  k0 : 0 ≤ c.keyId
  k1 : c.keyId ≤ 2147483648
  hash : ofB c.halg c.hbits 1 = true
  sk0 : 0 ≤ c.skey
  sk1 : c.skey ≤ 2147483648
  su0 : 0 ≤ c.ssum
  su1 : c.ssum < 4294967296
  f0 : 0 ≤ c.from_
  ft : c.from_ ≤ c.to_
  t1 : c.to_ ≤ 40000
  p0 : 0 ≤ c.path
  p1 : c.path ≤ 8
  ap : c.auth = true ∨ c.path = 0
theorem vf_of {c : Crt} (hv : validB c = true) : c.vf := by
  simp only [validB, keyB, sumB, Bool.and_eq_true, Bool.or_eq_true, decide_eq_true_eq, beq_iff_eq] at hv
  obtain ⟨⟨⟨⟨⟨⟨⟨h1, h2⟩, h3⟩, h4⟩, h5⟩, ⟨⟨⟨⟨h6, ⟨h7, h8⟩⟩, h9⟩, ⟨h10, h11⟩⟩, ⟨h12, h13⟩⟩⟩, ⟨⟨h14, h15⟩, h16⟩⟩, ⟨⟨h17, h18⟩, h19⟩⟩ := hv
  exact ⟨h1, h2, h3, h4, h5, h6, h7, h8, h9, h10, h11, h12, h13, h14, h15, h16, h17, h18, h19⟩
theorem of_vf {c : Crt} (h : c.vf) : validB c = true := by
  simp only [validB, keyB, sumB, Bool.and_eq_true, Bool.or_eq_true, decide_eq_true_eq, beq_iff_eq]
  exact ⟨⟨⟨⟨⟨⟨⟨h.s0, h.s1⟩, h.iss⟩, h.sub⟩, h.nm⟩, ⟨⟨⟨⟨h.key, ⟨h.k0, h.k1⟩⟩, h.hash⟩, ⟨h.sk0, h.sk1⟩⟩, ⟨h.su0, h.su1⟩⟩⟩, ⟨⟨h.f0, h.ft⟩, h.t1⟩⟩, ⟨⟨h.p0, h.p1⟩, h.ap⟩⟩
theorem of_iff {a b k : Int} (h : ofB a b k = true) : decide (strength a b > 0) = true ∧ (catOf a).kind = k := by
  unfold ofB at h; simpa using h


theorem name_at {l : List (List UInt8)} {k : Nat} {s : List UInt8} (h : nameAt l k = true) (hs : l[k]? = some s) : named s = true := by
  unfold nameAt at h; rw [hs] at h; simp at h; exact h.1
theorem name_lt {l : List (List UInt8)} {k : Nat} {s y : List UInt8} (h : nameAt l k = true) (hs : l[k]? = some s) (hy : l[k - 1]? = some y) (hk : 0 < k) : decide (Lib.compareBytes y s = -1) = true := by
  unfold nameAt at h; rw [hs, hy] at h; simp at h
  rcases h.2 with h2 | h2
  · omega
  · simpa using h2

set_option maxRecDepth 20000 in
set_option maxHeartbeats 1000000 in
theorem w_R3Check {c : Crt} (hv : validB c = true) : Fun Tryz.prog 112 [agg (rowCr c)] (int 0) := by
 refine Fun.of Tryz.func112 rfl rfl (by exact Nat.le_of_ble_eq_true rfl) fun M0 w0 => ?_
 obtain ⟨hs0, hs1, hiss, hsub, hnm, hkey, hk0, hk1, hhash, hsk0, hsk1, hsu0, hsu1, hf0, hft, ht1, hp0, hp1, hap⟩ := vf_of hv
 obtain ⟨hkey1, hkey2⟩ := of_iff hkey
 obtain ⟨hh1, hh2⟩ := of_iff hhash
 have hnm2 := hnm
 unfold namesB at hnm2
 rw [Bool.and_eq_true, allI_iff, decide_eq_true_eq] at hnm2
 obtain ⟨hall, hlen8⟩ := hnm2
 refine Tr.seq (Tr.reg0 (co rfl (ok_box rfl (VL.le (vl rfl) (agg_cellsP _))) (cm rfl (Ch.nil (Fin.go (Tr.seq (Tr.seq (Tr.reg0 (co rfl (kfa rfl fo126_0 rfl rfl) (co rfl (kl1 rfl one3 rfl) (co rfl (ki rfl rfl rfl rfl) (cm rfl ?_))))))))))))
 refine Ch.cs 7 rfl ?_ ?_ <;> intro h1 q1
 exfalso; have := q1; omega
 refine cy h1 rfl (kfa rfl fo126_0 rfl rfl) (cy h1 rfl (kl1 rfl one3 rfl) (cy h1 rfl (ki rfl rfl rfl rfl) (co rfl (kpf rfl rfl h1 rfl) (cm rfl ?_))))
 refine Ch.cs 12 rfl ?_ ?_ <;> intro h2 q2
 exfalso; have := q2; omega
 refine cy h2 rfl (kfa rfl fo126_1 rfl rfl) (cy h2 rfl (kl1 rfl one9 rfl) (cy h2 rfl (ok_call rfl (w_RName) ⟨ke rfl, trivial⟩) (cy h2 rfl (ok_not rfl (vl rfl)) (co rfl (kpf rfl rfl h2 rfl) (cm rfl ?_)))))
 refine Ch.cs 18 rfl ?_ ?_ <;> intro h3 q3
 rw [hiss] at h3; exact absurd h3 (by decide)
 refine cy h3 rfl (kfa rfl fo126_2 rfl rfl) (cy h3 rfl (kl1 rfl one9 rfl) (cy h3 rfl (ok_call rfl (w_RName) ⟨ke rfl, trivial⟩) (cy h3 rfl (ok_not rfl (vl rfl)) (co rfl (kpf rfl rfl h3 rfl) (cm rfl ?_)))))
 refine Ch.cs 24 rfl ?_ ?_ <;> intro h4 q4
 rw [hsub] at h4; exact absurd h4 (by decide)
 refine cy h4 rfl (kfa rfl fo126_3 rfl rfl) (cy h4 rfl (ok_loadA rfl agg44 sz44 (vl rfl) rfl rfl) (cy h4 rfl (ok_call rfl (w_Signature) ⟨ke rfl, trivial⟩) (cy h4 rfl (ok_not rfl (vl rfl)) (co rfl (kpf rfl rfl h4 rfl) (cm rfl ?_)))))
 refine Ch.cs 30 rfl ?_ ?_ <;> intro h5 q5
 rw [hkey1, hkey2] at h5; exact absurd h5 (by decide)
 refine cy h5 rfl (kfa rfl fo126_4 rfl rfl) (cy h5 rfl (kl1 rfl one3 rfl) (cy h5 rfl (ki rfl rfl rfl rfl) (co rfl (kpf rfl rfl h5 rfl) (cm rfl ?_))))
 refine Ch.cs 35 rfl ?_ ?_ <;> intro h6 q6
 exfalso; have := q6; omega
 refine cy h6 rfl (kfa rfl fo126_4 rfl rfl) (cy h6 rfl (kl1 rfl one3 rfl) (cy h6 rfl (ki rfl rfl rfl rfl) (co rfl (kpf rfl rfl h6 rfl) (Ch.nil (Fin.go (wk2 1 39 rfl ?_))))))
 refine Tr.cn rfl ?_ ?_ <;> intro h7 q7
 exfalso; have := q7; omega
 refine Tr.skip (Fin.go (Tr.seq (Tr.seq (Tr.reg0 (co rfl (kfa rfl fo126_5 rfl rfl) (co rfl (ok_loadA rfl agg44 sz44 (vl rfl) rfl rfl) (co rfl (ok_call rfl (w_RValid) ⟨ke rfl, trivial⟩) (co rfl (ok_not rfl (vl rfl)) (cm rfl ?_)))))))))
 refine Ch.cs 44 rfl ?_ ?_ <;> intro h8 q8
 rw [hh1] at h8; exact absurd h8 (by decide)
 refine cy h8 rfl (kfa rfl fo126_5 rfl rfl) (cy h8 rfl (kfa rfl fo44_0 rfl rfl) (cy h8 rfl (kl1 rfl one3 rfl) (cy h8 rfl (ok_call rfl (w_RKind) ⟨ke rfl, trivial⟩) (cy h8 rfl (ki rfl rfl rfl rfl) (co rfl (kpf rfl rfl h8 rfl) (cm rfl ?_))))))
 refine Ch.cs 51 rfl ?_ ?_ <;> intro h9 q9
 rw [hh2] at h9; exact absurd h9 (by decide)
 refine cy h9 rfl (kfa rfl fo126_6 rfl rfl) (cy h9 rfl (kl1 rfl one3 rfl) (cy h9 rfl (ki rfl rfl rfl rfl) (co rfl (kpf rfl rfl h9 rfl) (cm rfl ?_))))
 refine Ch.cs 56 rfl ?_ ?_ <;> intro h10 q10
 exfalso; have := q10; omega
 refine cy h10 rfl (kfa rfl fo126_6 rfl rfl) (cy h10 rfl (kl1 rfl one3 rfl) (cy h10 rfl (kfa rfl fo126_7 rfl rfl) (cy h10 rfl (kl1 rfl one3 rfl) (cy h10 rfl (ki rfl rfl rfl rfl) (co rfl (kpf rfl rfl h10 rfl) (cm rfl ?_))))))
 refine Ch.cs 63 rfl ?_ ?_ <;> intro h11 q11
 exfalso; have := q11; omega
 refine cy h11 rfl (kfa rfl fo126_7 rfl rfl) (cy h11 rfl (kl1 rfl one3 rfl) (cy h11 rfl (ki rfl rfl rfl rfl) (co rfl (kpf rfl rfl h11 rfl) (Ch.nil (Fin.go (wk2 1 67 rfl ?_))))))
 refine Tr.cn rfl ?_ ?_ <;> intro h12 q12
 exfalso; have := q12; omega
 refine Tr.skip (Fin.go (Tr.seq (Tr.seq (Tr.reg0 (co rfl (kfa rfl fo126_9 rfl rfl) (co rfl (kl1 rfl one3 rfl) (co rfl (ki rfl rfl rfl rfl) (cm rfl ?_))))))))
 refine Ch.cs 71 rfl ?_ ?_ <;> intro h13 q13
 exfalso; have := q13; omega
 refine cy h13 rfl (kfa rfl fo126_9 rfl rfl) (cy h13 rfl (kl1 rfl one3 rfl) (cy h13 rfl (ki rfl rfl rfl rfl) (co rfl (kpf rfl rfl h13 rfl) (cm rfl ?_))))
 refine Ch.cs 76 rfl ?_ ?_ <;> intro h14 q14
 exfalso; have := q14; omega
 refine cy h14 rfl (kfa rfl fo126_8 rfl rfl) (cy h14 rfl (kl1 rfl one4 rfl) (cy h14 rfl (ok_not rfl (vl rfl)) (cym h14 rfl ?_)))
 refine Ch.cs 80 rfl ?_ ?_ <;> intro h15 q15
 refine cy h15 rfl (kfa rfl fo126_9 rfl rfl) (cy h15 rfl (kl1 rfl one3 rfl) (cy h15 rfl (ki rfl rfl rfl rfl) (cy h14 rfl (kpt rfl rfl h15 rfl) (co rfl (kpf rfl rfl h14 rfl) (cm rfl ?_)))))
 refine Ch.cs 86 rfl ?_ ?_ <;> intro h16 q16
 exfalso; have := q16; simp_all
 refine cy h16 rfl (kfa rfl fo126_10 rfl rfl) (cy h16 rfl (kl1 rfl one83 rfl) (cy h16 rfl (ok_lenm rfl Tryz.underlying83 (vl rfl)) (cy h16 rfl (ki rfl rfl rfl rfl) (co rfl (kpf rfl rfl h16 rfl) (Ch.nil (Fin.go (wk2 1 91 rfl ?_)))))))
 refine Tr.cn rfl ?_ ?_ <;> intro h17 q17
 exfalso; have := q17; omega
 refine Tr.skip (Fin.go (Tr.seq (Tr.seq (Tr.reg0 (cm rfl (Ch.nil (Fin.go (Tr.block (Tr.loopw [(1, _)] ⟨ke rfl, trivial⟩ (fun k : Nat => [(3, int ((k : Nat) : Int))]) (fun k : Nat => k ≤ (c.names).length) (fun k : Nat => (c.names).length - k) 0 (Nat.zero_le _) ⟨ke rfl, trivial⟩ ?_)))))))))
 rintro k hle_k
 refine Tr.seq (Tr.seq (Tr.reg0 (cm rfl (co rfl (kfa rfl fo126_10 rfl rfl) (co rfl (kl1 rfl one83 rfl) (co rfl (ok_lenm rfl Tryz.underlying83 (vl rfl)) (co rfl (ki rfl rfl rfl rfl) (Ch.nil (Fin.go ?_)))))))))
 refine Tr.cn rfl ?_ ?_ <;> intro h18 q18
 have hk_k : k < (c.names).length := lt_of_dec h18
 obtain ⟨s, hx_k⟩ := at_ hk_k
 have hat := hall k (by omega)
 have hna := name_at hat hx_k
 refine Tr.skip (Fin.go (Tr.seq (Tr.block (Tr.seq (Tr.reg1 mixed (by kernel_rfl) (co rfl (kfa rfl fo126_10 rfl rfl) (co rfl (kl1 rfl one83 rfl) (cm rfl (co rfl (ok_indexAddr rfl Tryz.underlying83 sz9 (vl rfl) (vl rfl) (by omega) (row_at hx_k)) (co rfl (kl1 rfl one9 rfl) (co rfl (ok_call rfl (w_RName) ⟨ke rfl, trivial⟩) (co rfl (ok_not rfl (vl rfl)) (cm rfl ?_)))))))))))))
 refine Ch.cs 106 rfl ?_ ?_ <;> intro h19 q19
 exfalso; rw [hna] at h19; exact absurd h19 (by decide)
 refine cym h19 rfl (cy h19 rfl (ki rfl rfl rfl rfl) (cym h19 rfl ?_))
 refine Ch.cs 109 rfl ?_ ?_ <;> intro h20 q20
 have hk00 : 0 < k := by simpa using h20
 obtain ⟨y, hy⟩ := at_ (l := c.names) (k := k - 1) (by omega)
 have hlt := name_lt hat hx_k hy hk00
 refine cy h20 rfl (kfa rfl fo126_10 rfl rfl) (cy h20 rfl (kl1 rfl one83 rfl) (cym h20 rfl ?_))
 refine cy h20 rfl (ok_sub rfl (vl rfl) (vl rfl) ?hin) ?_; case hin => unfold InI; omega
 refine cy h20 rfl (ok_indexAddr rfl Tryz.underlying83 sz9 (vl rfl) (vl rfl) (by omega) (by rw [show ((k : Nat) : Int) - 1 = ((k - 1 : Nat) : Int) by omega]; exact row_at hy)) ?_
 refine cy h20 rfl (kl1 rfl one9 rfl) (cy h20 rfl (kfa rfl fo126_10 rfl rfl) (cy h20 rfl (kl1 rfl one83 rfl) (cym h20 rfl (cy h20 rfl (ok_indexAddr rfl Tryz.underlying83 sz9 (vl rfl) (vl rfl) (by omega) (row_at hx_k)) (cy h20 rfl (kl1 rfl one9 rfl) (cy h20 rfl (ok_ges rfl (vl rfl) (vl rfl)) (cy h19 rfl (kpt rfl rfl h20 rfl) (co rfl (kpf rfl rfl h19 rfl) (Ch.nil (Fin.go (wk3 1 3 123 rfl ?_)))))))))))
 refine Tr.cn rfl ?_ ?_ <;> intro h21 q21
 exfalso; rw [hlt] at h21; exact absurd h21 (by decide)
 refine Tr.skip (Fin.block (Fin.go (Tr.reg0 (cm rfl (cad rfl rfl rfl rfl (by omega) (cm rfl (Ch.nil (Fin.fam_same (k + 1) ⟨hk_k, by omega⟩ ⟨⟨_, rfl, int_succ k⟩, ke rfl, trivial⟩))))))))
 iterate 12 refine cnt h20 rfl ?_
 refine cy h19 rfl (kpf rfl rfl h20 rfl) (co rfl (kpf rfl rfl h19 rfl) (Ch.nil (Fin.go (wk3 1 3 123 rfl (Tr.cond rfl (fun h => nomatch h) (fun _ => ?_))))))
 refine Tr.skip (Fin.block (Fin.go (Tr.reg0 (cm rfl (cad rfl rfl rfl rfl (by omega) (cm rfl (Ch.nil (Fin.fam_same (k + 1) ⟨hk_k, by omega⟩ ⟨⟨_, rfl, int_succ k⟩, ke rfl, trivial⟩))))))))
 have he_k : k = (c.names).length := by have := ge_of_dec h18; omega
 refine Tr.exit (Fin.then_exit (Fin.then_exit (Fin.block_here (Fin.go (Tr.seq (Tr.seq (Tr.reg0 (co rfl (kfa rfl fo126_11 rfl rfl) (co rfl (kfa rfl fo124_0 rfl rfl) (co rfl (kl1 rfl one3 rfl) (co rfl (ki rfl rfl rfl rfl) (cm rfl ?_))))))))))))
 refine Ch.cs 128 rfl ?_ ?_ <;> intro h22 q22
 exfalso; have := q22; omega
 refine cy h22 rfl (kfa rfl fo126_11 rfl rfl) (cy h22 rfl (kfa rfl fo124_0 rfl rfl) (cy h22 rfl (kl1 rfl one3 rfl) (cy h22 rfl (ki rfl rfl rfl rfl) (co rfl (kpf rfl rfl h22 rfl) (cm rfl ?_)))))
 refine Ch.cs 134 rfl ?_ ?_ <;> intro h23 q23
 exfalso; have := q23; omega
 refine cy h23 rfl (kfa rfl fo126_11 rfl rfl) (cy h23 rfl (kfa rfl fo124_1 rfl rfl) (cy h23 rfl (kl1 rfl one3 rfl) (cy h23 rfl (ki rfl rfl rfl rfl) (co rfl (kpf rfl rfl h23 rfl) (cm rfl ?_)))))
 refine Ch.cs 140 rfl ?_ ?_ <;> intro h24 q24
 exfalso; have := q24; omega
 refine cy h24 rfl (kfa rfl fo126_11 rfl rfl) (cy h24 rfl (kfa rfl fo124_1 rfl rfl) (cy h24 rfl (kl1 rfl one3 rfl) (cy h24 rfl (ki rfl rfl rfl rfl) (co rfl (kpf rfl rfl h24 rfl) (Ch.nil (Fin.go (wk1 145 rfl ?_)))))))
 refine Tr.cn rfl ?_ ?_ <;> intro h25 q25
 exfalso; have := q25; omega
 refine Tr.skip (Fin.go (Tr.seq (Tr.reg0 (cm rfl (Ch.nil (Fin.go (Tr.ret (Fin.ret1 rfl (OutW.bse _ _) rfl ?_))))))))
 · exact Pr.le_refl _
 refine cnt h15 rfl (cnt h15 rfl (cnt h15 rfl (cy h14 rfl (kpf rfl rfl h15 rfl) (co rfl (kpf rfl rfl h14 rfl) (cm rfl (cy rfl rfl (kfa rfl fo126_10 rfl rfl) (cy rfl rfl (kl1 rfl one83 rfl) (cy rfl rfl (ok_lenm rfl Tryz.underlying83 (vl rfl)) (cy rfl rfl (ki rfl rfl rfl rfl) (co rfl (kpf rfl rfl rfl rfl) (Ch.nil (Fin.go (wk2 1 91 rfl ?_)))))))))))))
 refine Tr.cn rfl ?_ ?_ <;> intro h26 q26
 exfalso; have := q26; omega
 refine Tr.skip (Fin.go (Tr.seq (Tr.seq (Tr.reg0 (cm rfl (Ch.nil (Fin.go (Tr.block (Tr.loopw [(1, _)] ⟨ke rfl, trivial⟩ (fun k : Nat => [(3, int ((k : Nat) : Int))]) (fun k : Nat => k ≤ (c.names).length) (fun k : Nat => (c.names).length - k) 0 (Nat.zero_le _) ⟨ke rfl, trivial⟩ ?_)))))))))
 rintro k hle_k
 refine Tr.seq (Tr.seq (Tr.reg0 (cm rfl (co rfl (kfa rfl fo126_10 rfl rfl) (co rfl (kl1 rfl one83 rfl) (co rfl (ok_lenm rfl Tryz.underlying83 (vl rfl)) (co rfl (ki rfl rfl rfl rfl) (Ch.nil (Fin.go ?_)))))))))
 refine Tr.cn rfl ?_ ?_ <;> intro h27 q27
 have hk_k : k < (c.names).length := lt_of_dec h27
 obtain ⟨s, hx_k⟩ := at_ hk_k
 have hat := hall k (by omega)
 have hna := name_at hat hx_k
 refine Tr.skip (Fin.go (Tr.seq (Tr.block (Tr.seq (Tr.reg1 mixed (by kernel_rfl) (co rfl (kfa rfl fo126_10 rfl rfl) (co rfl (kl1 rfl one83 rfl) (cm rfl (co rfl (ok_indexAddr rfl Tryz.underlying83 sz9 (vl rfl) (vl rfl) (by omega) (row_at hx_k)) (co rfl (kl1 rfl one9 rfl) (co rfl (ok_call rfl (w_RName) ⟨ke rfl, trivial⟩) (co rfl (ok_not rfl (vl rfl)) (cm rfl ?_)))))))))))))
 refine Ch.cs 106 rfl ?_ ?_ <;> intro h28 q28
 exfalso; rw [hna] at h28; exact absurd h28 (by decide)
 refine cym h28 rfl (cy h28 rfl (ki rfl rfl rfl rfl) (cym h28 rfl ?_))
 refine Ch.cs 109 rfl ?_ ?_ <;> intro h29 q29
 have hk00 : 0 < k := by simpa using h29
 obtain ⟨y, hy⟩ := at_ (l := c.names) (k := k - 1) (by omega)
 have hlt := name_lt hat hx_k hy hk00
 refine cy h29 rfl (kfa rfl fo126_10 rfl rfl) (cy h29 rfl (kl1 rfl one83 rfl) (cym h29 rfl ?_))
 refine cy h29 rfl (ok_sub rfl (vl rfl) (vl rfl) ?hin) ?_; case hin => unfold InI; omega
 refine cy h29 rfl (ok_indexAddr rfl Tryz.underlying83 sz9 (vl rfl) (vl rfl) (by omega) (by rw [show ((k : Nat) : Int) - 1 = ((k - 1 : Nat) : Int) by omega]; exact row_at hy)) ?_
 refine cy h29 rfl (kl1 rfl one9 rfl) (cy h29 rfl (kfa rfl fo126_10 rfl rfl) (cy h29 rfl (kl1 rfl one83 rfl) (cym h29 rfl (cy h29 rfl (ok_indexAddr rfl Tryz.underlying83 sz9 (vl rfl) (vl rfl) (by omega) (row_at hx_k)) (cy h29 rfl (kl1 rfl one9 rfl) (cy h29 rfl (ok_ges rfl (vl rfl) (vl rfl)) (cy h28 rfl (kpt rfl rfl h29 rfl) (co rfl (kpf rfl rfl h28 rfl) (Ch.nil (Fin.go (wk3 1 3 123 rfl ?_)))))))))))
 refine Tr.cn rfl ?_ ?_ <;> intro h30 q30
 exfalso; rw [hlt] at h30; exact absurd h30 (by decide)
 refine Tr.skip (Fin.block (Fin.go (Tr.reg0 (cm rfl (cad rfl rfl rfl rfl (by omega) (cm rfl (Ch.nil (Fin.fam_same (k + 1) ⟨hk_k, by omega⟩ ⟨⟨_, rfl, int_succ k⟩, ke rfl, trivial⟩))))))))
 iterate 12 refine cnt h29 rfl ?_
 refine cy h28 rfl (kpf rfl rfl h29 rfl) (co rfl (kpf rfl rfl h28 rfl) (Ch.nil (Fin.go (wk3 1 3 123 rfl (Tr.cond rfl (fun h => nomatch h) (fun _ => ?_))))))
 refine Tr.skip (Fin.block (Fin.go (Tr.reg0 (cm rfl (cad rfl rfl rfl rfl (by omega) (cm rfl (Ch.nil (Fin.fam_same (k + 1) ⟨hk_k, by omega⟩ ⟨⟨_, rfl, int_succ k⟩, ke rfl, trivial⟩))))))))
 have he_k : k = (c.names).length := by have := ge_of_dec h27; omega
 refine Tr.exit (Fin.then_exit (Fin.then_exit (Fin.block_here (Fin.go (Tr.seq (Tr.seq (Tr.reg0 (co rfl (kfa rfl fo126_11 rfl rfl) (co rfl (kfa rfl fo124_0 rfl rfl) (co rfl (kl1 rfl one3 rfl) (co rfl (ki rfl rfl rfl rfl) (cm rfl ?_))))))))))))
 refine Ch.cs 128 rfl ?_ ?_ <;> intro h31 q31
 exfalso; have := q31; omega
 refine cy h31 rfl (kfa rfl fo126_11 rfl rfl) (cy h31 rfl (kfa rfl fo124_0 rfl rfl) (cy h31 rfl (kl1 rfl one3 rfl) (cy h31 rfl (ki rfl rfl rfl rfl) (co rfl (kpf rfl rfl h31 rfl) (cm rfl ?_)))))
 refine Ch.cs 134 rfl ?_ ?_ <;> intro h32 q32
 exfalso; have := q32; omega
 refine cy h32 rfl (kfa rfl fo126_11 rfl rfl) (cy h32 rfl (kfa rfl fo124_1 rfl rfl) (cy h32 rfl (kl1 rfl one3 rfl) (cy h32 rfl (ki rfl rfl rfl rfl) (co rfl (kpf rfl rfl h32 rfl) (cm rfl ?_)))))
 refine Ch.cs 140 rfl ?_ ?_ <;> intro h33 q33
 exfalso; have := q33; omega
 refine cy h33 rfl (kfa rfl fo126_11 rfl rfl) (cy h33 rfl (kfa rfl fo124_1 rfl rfl) (cy h33 rfl (kl1 rfl one3 rfl) (cy h33 rfl (ki rfl rfl rfl rfl) (co rfl (kpf rfl rfl h33 rfl) (Ch.nil (Fin.go (wk1 145 rfl ?_)))))))
 refine Tr.cn rfl ?_ ?_ <;> intro h34 q34
 exfalso; have := q34; omega
 refine Tr.skip (Fin.go (Tr.seq (Tr.reg0 (cm rfl (Ch.nil (Fin.go (Tr.ret (Fin.ret1 rfl (OutW.bse _ _) rfl ?_))))))))
 · exact Pr.le_refl _
end Go.Proofs.YtflodcidhlmaaaaGreat
namespace Go.Proofs.YtflodcidhlmaaaaGreat
open Go Go.RowKit Cp

abbrev u32R : Pr := Cp.ex fun n : Int => fact (0 ≤ n ∧ n < 4294967296) (is (.int .u32 n))
abbrev sumE : Pr := Cp.ex fun n : Int => fact (0 ≤ n ∧ n < 4294967296) (int n)
theorem u32_any : Pr.le u32R (anyK .u32) := fun _ _ _ ⟨n, _, h⟩ => ⟨n, h⟩
section
variable {P : Program} {I : Asn} {E : Env} {o : Oper}
theorem ok_convK {s t : TypeId} {x : Operand} {k k' : IntKind} (ho : o.op = .convert s t x) (hs : P.underlying s = some (.int k)) (ht : P.underlying t = some (.int k')) (hx : VL E x (anyK k)) : OpOK P I o E (anyK k') :=
  OpOK.same fun M w a he _ => by
    obtain ⟨n, h1⟩ := hx.ev he (by simp [ho, Op.operands])
    have h1 : a.eval x = .int k n := h1
    refine ⟨.int k' (k'.wrap n), ?_, _, rfl⟩
    simp [execOp, ho, h1, convert, run_underlying hs, run_underlying ht, Conv.intToInt, Sem.run_bind]
theorem ok_mulU {t u : TypeId} {x y : Operand} (ho : o.op = .binOp .mul t x y u) (hx : VL E x (anyK .u32)) (hy : VL E y (anyK .u32)) : OpOK P I o E u32R :=
  OpOK.same fun M w a he _ => by
    obtain ⟨m, h1⟩ := hx.ev he (by simp [ho, Op.operands])
    obtain ⟨n, h2⟩ := hy.ev he (by simp [ho, Op.operands])
    have h1 : a.eval x = .int .u32 m := h1
    have h2 : a.eval y = .int .u32 n := h2
    refine ⟨.int .u32 (IntKind.u32.wrap (m * n)), by simp [execOp, ho, h1, h2, eqGuard, binOp, Op.intArith], _, ?_, rfl⟩
    rw [IntKind.wrap_u32]; omega
theorem ok_conv32 {s t : TypeId} {x : Operand} (ho : o.op = .convert s t x) (hs : P.underlying s = some (.int .u32)) (ht : P.underlying t = some (.int .i64)) (hx : VL E x u32R) : OpOK P I o E sumE :=
  OpOK.same fun M w a he _ => by
    obtain ⟨n, hn, h1⟩ := hx.ev he (by simp [ho, Op.operands])
    have h1 : a.eval x = .int .u32 n := h1
    refine ⟨.int .i64 (IntKind.i64.wrap n), ?_, n, hn, by rw [wrap_in (by unfold InI; omega)]; rfl⟩
    simp [execOp, ho, h1, convert, run_underlying hs, run_underlying ht, Conv.intToInt, Sem.run_bind]
end
theorem Fun.elemsE {P : Program} {f : FuncId} {row : List Pr} (h : ∀ m, m ≤ 20 → Fun P f [slice 4 (List.replicate m row)] (slice 4 (List.replicate m row))) : Fun P f [Go.Proofs.YtflodcidhlmaaaaGreat.elemsE row] (Go.Proofs.YtflodcidhlmaaaaGreat.elemsE row) := by
  refine ⟨(h 0 (by omega)).1, fun M w vs hb hv => ?_⟩
  match vs, hv with
  | [u0], hv1 =>
    obtain ⟨⟨m, hm, h0⟩, _⟩ := hv1
    exact ((h m hm).2 M w [u0] hb ⟨h0, trivial⟩).mono fun e w' ⟨v, h1, h2, h3⟩ => ⟨v, h1, ⟨m, hm, h2⟩, h3⟩
theorem Fun.bytesE {P : Program} {f : FuncId} {B : Nat} {res : Pr} (h : ∀ m, m ≤ B → Fun P f [bts m] res) : Fun P f [Go.Proofs.YtflodcidhlmaaaaGreat.bytesE B] res := by
  refine ⟨(h 0 (by omega)).1, fun M w vs hb hv => ?_⟩
  match vs, hv with
  | [u0], hv1 =>
    obtain ⟨⟨m, hm, h0⟩, _⟩ := hv1
    exact (h m hm).2 M w [u0] hb ⟨h0, trivial⟩
abbrev qA1 : Pr := elemsE (rowQ q0)
abbrev qA2 : Pr := elemsE (rowQ qA1)
theorem q0_le : Pr.le q0 qA1 := ex_in 0 (fact_in (by omega) (Pr.le_refl _))
theorem rc0 : Fun Tryz.prog 249 [q0] q0 := w_rcopies (m := 0) (q := q0) (by omega) (.inl rfl)
theorem rc1 (m : Nat) (hm : m ≤ 20) : Fun Tryz.prog 249 [slice 4 (List.replicate m (rowQ q0))] (slice 4 (List.replicate m (rowQ q0))) := w_rcopies hm (.inr rc0)
theorem rc2 (m : Nat) (hm : m ≤ 20) : Fun Tryz.prog 249 [slice 4 (List.replicate m (rowQ qA1))] (slice 4 (List.replicate m (rowQ qA1))) := w_rcopies hm (.inr (Fun.elemsE rc1))
theorem rf0 : Fun Tryz.prog 210 [agg (rowQ q0)] anyB := Fun.rowQ0 fun t b n hb => w_rformed (m := 0) (q := q0) hb (by omega) (.inl rfl)
theorem rf1 : Fun Tryz.prog 210 [agg (rowQ qA1)] anyB := Fun.rowQ fun t b n m hb hm => w_rformed hb hm (.inr rf0)
theorem rf2 : Fun Tryz.prog 210 [agg (rowQ qA2)] anyB := Fun.rowQ fun t b n m hb hm => w_rformed hb hm (.inr rf1)
theorem rd0 : Fun Tryz.prog 211 [agg (rowQ q0)] (depthE 1) := Fun.rowQ0 fun t b n hb => w_rdepth (m := 0) (q := q0) (D := 0) hb (by omega) (by omega) (.inl rfl)
theorem rd1 : Fun Tryz.prog 211 [agg (rowQ qA1)] (depthE 2) := Fun.rowQ fun t b n m hb hm => w_rdepth hb hm (by omega) (.inr rd0)
theorem rd2 : Fun Tryz.prog 211 [agg (rowQ qA2)] (depthE 3) := Fun.rowQ fun t b n m hb hm => w_rdepth hb hm (by omega) (.inr rd1)
theorem rp0 : Fun Tryz.prog 212 [agg (rowQ q0)] (bytesE 2002) := Fun.rowQ0 fun t b n hb => w_rput (m := 0) (q := q0) (B := 0) hb (by omega) (by omega) (.inl rfl)
theorem rp1 : Fun Tryz.prog 212 [agg (rowQ qA1)] (bytesE 82082) := Fun.rowQ fun t b n m hb hm => w_rput (B := 2002) hb hm (by omega) (.inr rp0)
theorem rp2 : Fun Tryz.prog 212 [agg (rowQ qA2)] (bytesE 3285282) := Fun.rowQ fun t b n m hb hm => w_rput (B := 82082) hb hm (by omega) (.inr rp1)
theorem rE2 : Fun Tryz.prog 165 [agg (rowQ qA2)] (tup [bytesE 3285282, anyK .i64]) := w_rEncode rf2 rd2 rp2
/-- Its numbers are small. -/
structure Crt.tiny (c : Crt) : Prop where
  serial : c.serial ≤ 40000
  keyId : c.keyId ≤ 40000
  kalg : 0 ≤ c.kalg ∧ c.kalg ≤ 40000
  kbits : 0 ≤ c.kbits ∧ c.kbits ≤ 40000
  halg : 0 ≤ c.halg ∧ c.halg ≤ 40000
  hbits : 0 ≤ c.hbits ∧ c.hbits ≤ 40000
theorem named_len {s : List UInt8} (h : named s = true) : s.length ≤ 32 := by unfold named at h; simp at h; omega

set_option maxRecDepth 20000 in
theorem w_R3use {a b : Int} (ha : 0 ≤ a ∧ a ≤ 40000) (hb : 0 ≤ b ∧ b ≤ 40000) : Fun Tryz.prog 216 [agg [int a, int b]] (agg (rowQ qA1)) := by
 refine Fun.of Tryz.func216 rfl rfl (by exact Nat.le_of_ble_eq_true rfl) fun M0 w0 => ?_
 refine Tr.seq (Tr.regT (tp rfl (ok_box rfl (VL.le (vl rfl) (agg_cellsP _))) ?_))
 refine TO.alloc rfl rfl (by decide) rfl z195 zo195 (fun b1 => ?_)
 refine TO.nil (Fin.go (Tr.seq (Tr.regX mixed [none, none, none, none, none, none, none, none, some (0, 0, true, 0)] (by kernel_rfl) (xo rfl (fun _ => kfa rfl fo44_0 rfl rfl) (xo rfl (fun _ => kl1 rfl one3 rfl) (xo rfl (fun _ => ok_call rfl (w_rInt ha) ⟨ke rfl, trivial⟩) (xo rfl (fun _ => kfa rfl fo44_1 rfl rfl) (xo rfl (fun _ => kl1 rfl one3 rfl) (xo rfl (fun _ => ok_call rfl (w_rInt hb) ⟨ke rfl, trivial⟩) (xo rfl (fun _ => ok_buildSlice (xs := [.tmp 5, .tmp 8]) (rows := [_, _]) rfl rfl Tryz.underlying193 sz195 z195 rfl (by decide) ⟨⟨(by exact rfl), (VL.le (vl rfl) (agg_cellsP _))⟩, ⟨⟨(by exact rfl), (VL.le (vl rfl) (agg_cellsP _))⟩, trivial⟩⟩ (by decide)) ?_))))))))))
 refine xo rfl (fun _ => ok_call rfl (w_rList (m := 2) (q := q0) (by omega) (rc1 _ (by omega))) ⟨⟨_, rfl, full_le _ _⟩, trivial⟩) ?_
 refine Cx.ef0 0 rfl rfl (ef_store rfl rfl (vl rfl) (VL.le (vl rfl) (agg_cellsP _)) sz195 rfl (by exact Nat.le_of_ble_eq_true rfl) rfl) ?_
 refine Cx.nil ⟨rfl, ?_⟩
 refine FinX.done (AllC.cons (AllC.map _)) (Fin.go (Tr.ret (Fin.retX1 rfl (RVal.cell 0 rfl rfl agg195 sz195 rfl (Pr.le_refl _)) ?_)))
 · exact Pr.le_refl _
set_option maxRecDepth 20000 in
theorem w_R3body {c : Crt} (hv : validB c = true) (ht : c.tiny) : Fun Tryz.prog 166 [agg (rowCr c)] (agg (rowQ qA2)) := by
 refine Fun.of Tryz.func166 rfl rfl (by exact Nat.le_of_ble_eq_true rfl) fun M0 w0 => ?_
 obtain ⟨hs0, hs1, hiss, hsub, hnm, hkey, hk0, hk1, hhash, hsk0, hsk1, hsu0, hsu1, hf0, hft, ht1, hp0, hp1, hap⟩ := vf_of hv
 obtain ⟨g1, g2, g3, g4, g5, g6⟩ := ht
 have hnm2 := hnm
 unfold namesB at hnm2
 rw [Bool.and_eq_true, allI_iff, decide_eq_true_eq] at hnm2
 obtain ⟨hall, hlen8⟩ := hnm2
 have hli := named_len hiss
 have hlj := named_len hsub
 refine Tr.seq (Tr.regT (tp rfl (ok_box rfl (VL.le (vl rfl) (agg_cellsP _))) ?_))
 refine TO.alloc rfl rfl (by decide) rfl z195 zo195 (fun b1 => ?_)
 refine TO.nil (Fin.go (Tr.seq (Tr.reg0 (cm rfl (Ch.nil (Fin.go (Tr.seq (Tr.seq (Tr.reg0 (cm rfl (Ch.nil (Fin.go (Tr.block (Tr.addnil 195 4 ?_))))))))))))))
 refine Tr.loopV1 [(1, _), (2, _)] ⟨ke rfl, ke rfl, trivial⟩ (fun k v => [(4, int ((k : Nat) : Int)), (3, andIs v (slice 4 (List.replicate k (rowQ q0))))]) (fun k v => Hp M0 w0 noS ([appRes 195 4 v, cellsRes true b1 195 (([.int .i64 0, .slice none 0 0, .bool false, .slice none 0 0] : List Value).map is)])) (fun k : Nat => k ≤ (c.names).length) (fun k : Nat => (c.names).length - k) 0 (.slice none 0 0) (Nat.zero_le _) ⟨ke rfl, ⟨_, rfl, own_nil rfl⟩, trivial⟩ (fun _ _ h => h) ?_
 rintro k v hle_k
 refine Tr.seq (Tr.seq (Tr.reg0 (cm rfl (co rfl (kfa rfl fo126_10 rfl rfl) (co rfl (kl1 rfl one83 rfl) (co rfl (ok_lenm rfl Tryz.underlying83 (vl rfl)) (co rfl (ki rfl rfl rfl rfl) (Ch.nil (Fin.go ?_)))))))))
 refine Tr.cn rfl ?_ ?_ <;> intro h1 q1
 have hk_k : k < (c.names).length := lt_of_dec h1
 obtain ⟨s, hx_k⟩ := at_ hk_k
 have hsn := named_len (name_at (hall k (by omega)) hx_k)
 refine Tr.skip (Fin.go (Tr.seq (Tr.block (Tr.regT (tm rfl (tp rfl (kfa rfl fo126_10 rfl rfl) (tp rfl (kl1 rfl one83 rfl) (tm rfl (tp rfl (ok_indexAddr rfl Tryz.underlying83 sz9 (vl rfl) (vl rfl) (by omega) (by exact row_at (by assumption))) ?_)))))))))
 refine tp rfl (kl1 rfl one9 rfl) (tp rfl (ok_call rfl (w_rText (by omega)) ⟨ke rfl, trivial⟩) (tp rfl (ok_buildSlice (xs := [.tmp 18]) (rows := [_]) rfl rfl Tryz.underlying193 sz195 z195 rfl (by decide) ⟨⟨(by exact rfl), (VL.le (vl rfl) (agg_cellsP _))⟩, trivial⟩ (by decide)) ?_))
 refine TO.efs 0 rfl rfl (by decide) (ef_append rfl rfl (by decide) rfl Tryz.underlying193 sz195 by195 z195 rfl (by decide) ⟨_, rfl, andIs_le _ _⟩ ⟨_, rfl, full_le _ _⟩ (by simp only [List.length_append, List.length_replicate, List.length_cons, List.length_nil]; unfold maxLen; omega) (by simp only [List.length_append, List.length_replicate, List.length_cons, List.length_nil]; omega) (appR_is (by exact List.Mem.head _) ⟨_, rfl, andIs_is _ _⟩)) (fun v1 => ?_)
 refine tm rfl (TO.nil (Fin.block (Fin.go (wk4 1 2 3 4 rfl (Tr.reg0 (cm rfl (cad rfl rfl rfl rfl (by omega) (cm rfl (Ch.nil (Fin.famV1 (k + 1) v1 (⟨hk_k, by omega⟩) ⟨⟨_, rfl, int_succ k⟩, ⟨_, rfl, own_le (by rw [rep_one])⟩, ke rfl, ke rfl, trivial⟩ (fun _ _ h => h)))))))))))
 have he_k : k = (c.names).length := by have := ge_of_dec h1; omega
 refine Tr.exit (Fin.then_exit (Fin.then_exit (Fin.block_here (Fin.go (Tr.seq (Tr.regX mixed [none, none, none, none, none, none, none, none, none, none, none, none, none, none, none, none, none, none, none, none, none, none, none, none, none, none, none, none, none, none, none, none, none, none, some (0, 1, true, 0)] (by kernel_rfl) (xo rfl (fun _ => kfa rfl fo126_0 rfl rfl) (xo rfl (fun _ => kl1 rfl one3 rfl) (xo rfl (fun _ => ok_call rfl (w_rInt (by omega)) ⟨ke rfl, trivial⟩) (xo rfl (fun _ => kfa rfl fo126_1 rfl rfl) (xo rfl (fun _ => kl1 rfl one9 rfl) (xo rfl (fun _ => ok_call rfl (w_rText (by omega)) ⟨ke rfl, trivial⟩) (xo rfl (fun _ => kfa rfl fo126_2 rfl rfl) ?_)))))))))))))
 refine xo rfl (fun _ => kl1 rfl one9 rfl) (xo rfl (fun _ => ok_call rfl (w_rText (by omega)) ⟨ke rfl, trivial⟩) (xo rfl (fun _ => kfa rfl fo126_3 rfl rfl) (xo rfl (fun _ => ok_loadA rfl agg44 sz44 (vl rfl) rfl rfl) (xo rfl (fun _ => ok_call rfl (w_R3use g3 g4) ⟨ke rfl, trivial⟩) (xo rfl (fun _ => kfa rfl fo126_4 rfl rfl) (xo rfl (fun _ => kl1 rfl one3 rfl) (xo rfl (fun _ => ok_call rfl (w_rInt (by omega)) ⟨ke rfl, trivial⟩) (xo rfl (fun _ => kfa rfl fo126_5 rfl rfl) (xo rfl (fun _ => ok_loadA rfl agg44 sz44 (vl rfl) rfl rfl) (xo rfl (fun _ => ok_call rfl (w_R3use g5 g6) ⟨ke rfl, trivial⟩) (xo rfl (fun _ => kfa rfl fo126_6 rfl rfl) (xo rfl (fun _ => kl1 rfl one3 rfl) (xo rfl (fun _ => ok_call rfl (w_rInt (by omega)) ⟨ke rfl, trivial⟩) ?_)))))))))))))
 refine xo rfl (fun _ => kfa rfl fo126_7 rfl rfl) (xo rfl (fun _ => kl1 rfl one3 rfl) (xo rfl (fun _ => ok_call rfl (w_rInt (by omega)) ⟨ke rfl, trivial⟩) (xo rfl (fun _ => kfa rfl fo126_8 rfl rfl) (xo rfl (fun _ => kl1 rfl one4 rfl) (xo rfl (fun _ => ok_call rfl (w_rBool) ⟨ke rfl, trivial⟩) (xo rfl (fun _ => kfa rfl fo126_9 rfl rfl) (xo rfl (fun _ => kl1 rfl one3 rfl) (xo rfl (fun _ => ok_call rfl (w_rInt (by omega)) ⟨ke rfl, trivial⟩) (xm rfl ?_)))))))))
 refine xo rfl (fun _ => ok_call rfl (w_rList (m := c.names.length) (q := q0) (by omega) (rc1 _ (by omega))) ⟨⟨_, rfl, Pr.le_trans (andIs_le _ _) (Pr.le_of_eq (by rw [he_k]))⟩, trivial⟩) ?_
 refine xo rfl (fun _ => ok_buildSlice (xs := [.tmp 23, .tmp 26, .tmp 29, .tmp 32, .tmp 35, .tmp 38, .tmp 41, .tmp 44, .tmp 47, .tmp 50, .tmp 52]) (rows := [rowQ qA1, rowQ qA1, rowQ qA1, rowQ qA1, rowQ qA1, rowQ qA1, rowQ qA1, rowQ qA1, rowQ qA1, rowQ qA1, rowQ qA1]) rfl rfl Tryz.underlying193 sz195 z195 rfl (by decide) ⟨⟨(by exact rfl), VL.le (vl rfl) (Pr.le_trans (agg_le (qs := rowQ qA1) ⟨Pr.le_refl _, Pr.le_refl _, Pr.le_refl _, q0_le, trivial⟩) (agg_cellsP _))⟩, ⟨⟨(by exact rfl), VL.le (vl rfl) (Pr.le_trans (agg_le (qs := rowQ qA1) ⟨Pr.le_refl _, Pr.le_refl _, Pr.le_refl _, q0_le, trivial⟩) (agg_cellsP _))⟩, ⟨⟨(by exact rfl), VL.le (vl rfl) (Pr.le_trans (agg_le (qs := rowQ qA1) ⟨Pr.le_refl _, Pr.le_refl _, Pr.le_refl _, q0_le, trivial⟩) (agg_cellsP _))⟩, ⟨⟨(by exact rfl), VL.le (vl rfl) (agg_cellsP _)⟩, ⟨⟨(by exact rfl), VL.le (vl rfl) (Pr.le_trans (agg_le (qs := rowQ qA1) ⟨Pr.le_refl _, Pr.le_refl _, Pr.le_refl _, q0_le, trivial⟩) (agg_cellsP _))⟩, ⟨⟨(by exact rfl), VL.le (vl rfl) (agg_cellsP _)⟩, ⟨⟨(by exact rfl), VL.le (vl rfl) (Pr.le_trans (agg_le (qs := rowQ qA1) ⟨Pr.le_refl _, Pr.le_refl _, Pr.le_refl _, q0_le, trivial⟩) (agg_cellsP _))⟩, ⟨⟨(by exact rfl), VL.le (vl rfl) (Pr.le_trans (agg_le (qs := rowQ qA1) ⟨Pr.le_refl _, Pr.le_refl _, Pr.le_refl _, q0_le, trivial⟩) (agg_cellsP _))⟩, ⟨⟨(by exact rfl), VL.le (vl rfl) (Pr.le_trans (agg_le (qs := rowQ qA1) ⟨Pr.le_refl _, Pr.le_refl _, Pr.le_refl _, q0_le, trivial⟩) (agg_cellsP _))⟩, ⟨⟨(by exact rfl), VL.le (vl rfl) (Pr.le_trans (agg_le (qs := rowQ qA1) ⟨Pr.le_refl _, Pr.le_refl _, Pr.le_refl _, q0_le, trivial⟩) (agg_cellsP _))⟩, ⟨⟨(by exact rfl), VL.le (vl rfl) (agg_cellsP _)⟩, trivial⟩⟩⟩⟩⟩⟩⟩⟩⟩⟩⟩ (by decide)) ?_
 refine xo rfl (fun _ => ok_call rfl (w_rList (m := 11) (q := qA1) (by omega) (rc2 _ (by omega))) ⟨⟨_, rfl, full_le _ _⟩, trivial⟩) ?_
 refine Cx.ef0 1 rfl rfl (ef_store rfl rfl (vl rfl) (VL.le (vl rfl) (agg_cellsP _)) sz195 rfl (by exact Nat.le_of_ble_eq_true rfl) rfl) ?_
 refine Cx.nil ⟨rfl, ?_⟩
 refine FinX.done (AllC.cons (AllC.cons (AllC.map _))) (Fin.go (wk1 2 rfl (Tr.ret (Fin.retX1 rfl (RVal.cell 1 rfl rfl agg195 sz195 rfl (Pr.le_refl _)) ?_))))
 · exact Pr.le_refl _
set_option maxRecDepth 20000 in
theorem w_R3Bytes {c : Crt} (hv : validB c = true) (ht : c.tiny) : Fun Tryz.prog 127 [agg (rowCr c)] (tup [bytesE 3285282, anyK .i64]) := by
 refine Fun.of Tryz.func127 rfl rfl (by exact Nat.le_of_ble_eq_true rfl) fun M0 w0 => ?_
 refine Tr.seq (Tr.reg0 (co rfl (ok_box rfl (VL.le (vl rfl) (agg_cellsP _))) (cm rfl (cm rfl (Ch.nil (Fin.go (Tr.seq (Tr.seq (Tr.reg0 (co rfl (ok_loadA rfl agg126 sz126 (vl rfl) rfl rfl) (co rfl (ok_call rfl (w_R3Check hv) ⟨ke rfl, trivial⟩) (co rfl (ki rfl rfl rfl rfl) (Ch.nil (Fin.go ?_))))))))))))))
 refine Tr.cn rfl ?_ ?_ <;> intro h1 q1
 exact absurd h1 (by decide)
 refine Tr.skip (Fin.go (Tr.seq (Tr.reg0 (co rfl (ok_loadA rfl agg126 sz126 (vl rfl) rfl rfl) (co rfl (ok_call rfl (w_R3body hv ht) ⟨ke rfl, trivial⟩) (co rfl (ok_call rfl (rE2) ⟨ke rfl, trivial⟩) (co rfl (ok_extract rfl (vl rfl) rfl) (co rfl (ok_extract rfl (vl rfl) rfl) (cm rfl (cm rfl (Ch.nil (Fin.go (Tr.ret (Fin.ret2 rfl (OutW.bse _ _) rfl ?_ rfl ?_))))))))))))))
 · exact Pr.le_refl _
 · exact Pr.le_refl _
set_option maxRecDepth 20000 in
theorem w_R3Sum {m : Nat} (hm : m ≤ 100000000) : Fun Tryz.prog 128 [bts m] (sumE) := by
 refine Fun.of Tryz.func128 rfl rfl (by exact Nat.le_of_ble_eq_true rfl) fun M0 w0 => ?_
 have hlr : (List.replicate m u8R).length = m := List.length_replicate
 refine Tr.seq (Tr.reg0 (cm rfl (Ch.nil (Fin.go (Tr.seq (Tr.reg0 (cm rfl (Ch.nil (Fin.go (Tr.seq (Tr.seq (Tr.reg0 (cm rfl ?_)))))))))))))
 refine Ch.nil (Fin.go (Tr.block (Tr.loopw [(0, _)] ⟨ke rfl, trivial⟩ (fun k : Nat => [(4, int ((k : Nat) : Int)), (3, u32R)]) (fun k : Nat => k ≤ ((List.replicate m u8R).length)) (fun k : Nat => ((List.replicate m u8R).length) - k) 0 (Nat.zero_le _) ⟨ke rfl, ⟨_, rfl, ex_in _ (fact_in (by omega) (Pr.le_refl _))⟩, trivial⟩ ?_)))
 rintro k hle_k
 refine Tr.seq (Tr.seq (Tr.reg0 (cm rfl (cm rfl (co rfl (ok_len rfl Tryz.underlying176 (vl rfl)) (co rfl (ki rfl rfl rfl rfl) (Ch.nil (Fin.go ?_))))))))
 refine Tr.cn rfl ?_ ?_ <;> intro h1 q1
 have hk_k : k < ((List.replicate m u8R).length) := lt_of_dec h1
 have hkm : k < m := by simpa using hk_k
 refine Tr.skip (Fin.go (Tr.seq (Tr.block (Tr.reg0 (cm rfl (cm rfl (cm rfl (co rfl (ok_indexAddr rfl Tryz.underlying176 sz5 (vl rfl) (vl rfl) (by omega) (rep_at hkm)) (co rfl (kl1 rfl one5 rfl) (co rfl (ok_convK rfl Tryz.underlying5 Tryz.underlying197 (vl rfl)) (co rfl (ok_bits (by decide) rfl (VL.le (vl rfl) u32_any) (vl rfl)) (co rfl (ok_mulU rfl (vl rfl) (VL.le (vl rfl) (is_anyK _ _))) (cm rfl ?_)))))))))))))
 refine Ch.nil (Fin.block (Fin.go (wk3 0 3 4 rfl (Tr.reg0 (cm rfl (cad rfl rfl rfl rfl (by omega) (cm rfl (Ch.nil (Fin.fam_same (k + 1) ⟨hk_k, by omega⟩ ⟨⟨_, rfl, int_succ k⟩, ke rfl, ke rfl, trivial⟩)))))))))
 have he_k : k = ((List.replicate m u8R).length) := by have := ge_of_dec h1; omega
 refine Tr.exit (Fin.then_exit (Fin.then_exit (Fin.block_here (Fin.go (Tr.seq (Tr.reg0 (cm rfl (co rfl (ok_conv32 rfl Tryz.underlying197 Tryz.underlying3 (vl rfl)) (cm rfl (Ch.nil (Fin.go (Tr.ret (Fin.ret1 rfl (OutW.bse _ _) rfl ?_)))))))))))))
 · exact Pr.le_refl _
set_option maxRecDepth 20000 in
theorem w_R3Copy {c : Crt} (hn : c.names.length ≤ 1000) : Fun Tryz.prog 126 [agg (rowCr c)] (agg (rowCr c)) := by
 refine Fun.of Tryz.func126 rfl rfl (by exact Nat.le_of_ble_eq_true rfl) fun M0 w0 => ?_
 refine Tr.seq (Tr.regT ?_)
 refine TO.boxm rfl rfl (by decide) rfl (VL.le (vl rfl) (agg_cellsP _)) (fun b1 => ?_)
 refine TO.alloc rfl rfl (by decide) rfl z126 zo126 (fun b2 => ?_)
 refine TO.nil (Fin.go (Tr.seq (Tr.regT (tp rfl (ok_buildSlice (xs := []) (rows := []) rfl rfl Tryz.underlying83 sz9 z9 rfl (by decide) trivial (by decide)) (tp rfl (okp_fieldAddr rfl fo126_10 (vl rfl)) (TO.rd 1 rfl rfl rfl (by decide) (rd_load1 rfl one83 (vl rfl) rfl) (TO.pad ?_)))))))
 refine TO.efs 0 rfl rfl (by decide) (ef_append rfl rfl (by decide) rfl Tryz.underlying83 sz9 by9 z9 rfl (by decide) ⟨_, rfl, full_le _ _⟩ (vl rfl) (by simp only [List.length_append, List.length_map, List.length_nil]; unfold maxLen; omega) (by simp only [List.length_append, List.length_map, List.length_nil]; omega) (appR_full (by exact List.Mem.head _) (vl rfl))) (fun v1 => ?_)
 refine tp rfl (okp_fieldAddr rfl fo126_10 (vl rfl)) (TO.ef0 2 rfl rfl (ef_store rfl rfl (vl rfl) (VL.le (vl rfl) (one_cellsP _)) sz83 rfl (by exact Nat.le_of_ble_eq_true rfl) rfl) (TO.nil (Fin.go (Tr.seq (Tr.regT (TO.rd 2 rfl rfl rfl (by decide) (rd_loadA rfl agg126 sz126 (vl rfl) rfl rfl) (TO.store_all 1 rfl rfl rfl (vl rfl) (VL.le (vl rfl) (agg_cellsP _)) rfl sz126 rfl rfl (TO.nil (Fin.go (Tr.drop 2 (Tr.ret (Fin.retX1 rfl (RVal.cell 1 rfl rfl agg126 sz126 rfl (Pr.le_refl _)) ?_))))))))))))
 · exact agg_le ⟨Pr.le_refl _, Pr.le_refl _, Pr.le_refl _, Pr.le_refl _, Pr.le_refl _, Pr.le_refl _, Pr.le_refl _, Pr.le_refl _, Pr.le_refl _, Pr.le_refl _, Pr.le_refl _, Pr.le_refl _, Pr.le_trans (andIs_le _ _) (Pr.le_of_eq (by simp)), Pr.le_refl _, Pr.le_refl _, trivial⟩
abbrev sealed (c : Crt) (key s : Int) : Crt := ⟨c.serial, c.issuer, c.subject, c.kalg, c.kbits, c.keyId, c.halg, c.hbits, c.from_, c.to_, c.auth, c.path, c.names, key, s⟩

set_option maxRecDepth 20000 in
theorem w_R3Sign {c : Crt} {key : Int} (hv : validB (sealed c 0 0) = true) (ht : (sealed c 0 0).tiny) (hk : 0 ≤ key ∧ key ≤ 2147483648) : Fun Tryz.prog 86 [agg (rowCr c), int key] (Cp.ex fun s : Int => fact (0 ≤ s ∧ s < 4294967296) (tup [agg (rowCr (sealed c key s)), int 0])) := by
 refine Fun.of Tryz.func86 rfl rfl (by exact Nat.le_of_ble_eq_true rfl) fun M0 w0 => ?_
 have hnn : c.names.length ≤ 1000 := by have := (vf_of hv).nm; unfold namesB at this; simp at this; omega
 refine Tr.seq (Tr.regT ?_)
 refine TO.boxm rfl rfl (by decide) rfl (VL.le (vl rfl) (agg_cellsP _)) (fun b1 => ?_)
 refine TO.alloc rfl rfl (by decide) rfl z126 zo126 (fun b2 => ?_)
 refine tm rfl (TO.nil (Fin.go (Tr.seq (Tr.regT (TO.rd 1 rfl rfl rfl (by decide) (rd_loadA rfl agg126 sz126 (vl rfl) rfl rfl) ?_)))))
 refine tp rfl (ok_call rfl (w_R3Copy (c := c) hnn) ⟨ke rfl, trivial⟩) ?_
 refine TO.store_all 1 rfl rfl rfl (vl rfl) (VL.le (vl rfl) (agg_cellsP _)) rfl sz126 rfl rfl (TO.nil (Fin.go (Tr.seq (Tr.regT (tp rfl (ok_build (rows := []) rfl bl124 zo124 trivial rfl) (tp rfl (okp_fieldAddr rfl fo126_11 (vl rfl)) (TO.ef0 1 rfl rfl (ef_store rfl rfl (vl rfl) (VL.le (vl rfl) (agg_cellsP _)) sz124 rfl (by exact Nat.le_of_ble_eq_true rfl) rfl) (TO.nil (Fin.go (Tr.seq (Tr.seq (Tr.reg0 (co rfl (ok_rd 1 rfl (rd_loadA rfl agg126 sz126 (vl rfl) rfl rfl)) ?_)))))))))))))
 refine co rfl (ok_call rfl (w_R3Check (c := sealed c 0 0) hv) ⟨ke rfl, trivial⟩) ?_
 refine co rfl (ki rfl rfl rfl rfl) (cm rfl ?_)
 refine Ch.cs 15 rfl ?_ ?_ <;> intro h1 q1
 exact absurd h1 (by decide)
 refine cym h1 rfl (cy h1 rfl (ki rfl rfl rfl rfl) (co rfl (kpf rfl rfl h1 rfl) (cm rfl ?_)))
 refine Ch.cs 19 rfl ?_ ?_ <;> intro h2 q2
 exfalso; have := q2; omega
 refine cym h2 rfl (cy h2 rfl (ki rfl rfl rfl rfl) (co rfl (kpf rfl rfl h2 rfl) (Ch.nil (Fin.go (wk4 1 2 4 22 rfl ?_)))))
 refine Tr.cn rfl ?_ ?_ <;> intro h3 q3
 exfalso; have := q3; omega
 refine Tr.skip (Fin.go (Tr.seq (Tr.reg0 (co rfl (ok_rd 1 rfl (rd_loadA rfl agg126 sz126 (vl rfl) rfl rfl)) ?_))))
 refine co rfl (ok_call rfl (w_R3Bytes (c := sealed c 0 0) hv ht) ⟨ke rfl, trivial⟩) ?_
 refine cm rfl (co rfl (ok_extract rfl (vl rfl) rfl) (co rfl (ok_extract rfl (vl rfl) rfl) (cm rfl (cm rfl (Ch.nil (Fin.go (Tr.seq (Tr.regT (tm rfl (tm rfl (tp rfl (ok_call rfl (Fun.bytesE fun m hm => w_R3Sum (by omega)) ⟨ke rfl, trivial⟩) ?_)))))))))))
 refine TO.ex 31 rfl (fun z31 => TO.fact 31 rfl fun hz31 => ?_)
 refine tp rfl (ok_build (rows := [(0, [_]), (1, [_])]) rfl bl124 zo124 ⟨⟨rfl, (VL.le (vl rfl) (one_cellsP _))⟩, ⟨⟨rfl, (VL.le (vl rfl) (one_cellsP _))⟩, trivial⟩⟩ rfl) (tp rfl (okp_fieldAddr rfl fo126_11 (vl rfl)) (TO.ef0 1 rfl rfl (ef_store rfl rfl (vl rfl) (VL.le (vl rfl) (agg_cellsP _)) sz124 rfl (by exact Nat.le_of_ble_eq_true rfl) rfl) (TO.nil (Fin.go (wk2 2 4 rfl (Tr.seq (Tr.regT (TO.rd 1 rfl rfl rfl (by decide) (rd_loadA rfl agg126 sz126 (vl rfl) rfl rfl) (TO.store_all 0 rfl rfl rfl (vl rfl) (VL.le (vl rfl) (agg_cellsP _)) rfl sz126 rfl rfl (tm rfl (TO.nil (Fin.go (Tr.drop 1 (Tr.ret ?_))))))))))))))
 refine Fin.retX2 rfl (RVal.cell 0 rfl rfl agg126 sz126 rfl (Pr.le_refl _)) (RVal.tmp rfl (Pr.le_refl _)) ?_
 · exact ex_in z31 (fact_in hz31 (Pr.le_refl _))
end Go.Proofs.YtflodcidhlmaaaaGreat
namespace Go.Proofs.YtflodcidhlmaaaaGreat
open Go Go.RowKit Cp

abbrev leafC (name : List UInt8) (a b id to key s : Int) : Crt := ⟨id, [114, 111, 111, 116], name, a, b, id, 3, 0, 0, to, false, 0, [name], key, s⟩
abbrev leafI (name : List UInt8) (a b id to key s : Int) : Idn := ⟨a, b, id, [leafC name a b id to key s]⟩
abbrev leafE (name : List UInt8) (a b id to key : Int) : Pr := Cp.ex fun s : Int => fact (0 ≤ s ∧ s < 4294967296) (agg (rowId (leafI name a b id to key s)))
abbrev anyS : Pr := Cp.ex fun l : List UInt8 => str l
abbrev lnkR : List Pr := [anyK .i64, anyK .i64, anyK .i64]
abbrev itemR : List Pr := [anyS, anyK .i64, anyK .i64, (Cp.ex fun m : Nat => slice 3 (List.replicate m lnkR)), anyK .i64]

set_option maxRecDepth 20000 in
theorem w_RSA   : Fun Tryz.prog 49 [] (agg [int 5, int 2048]) := by
 refine Fun.of Tryz.func49 rfl rfl (by exact Nat.le_of_ble_eq_true rfl) fun M0 w0 => ?_
 refine Tr.seq (Tr.regT ?_)
 refine TO.alloc rfl rfl (by decide) rfl z44 zo44 (fun b1 => ?_)
 refine TO.nil (Fin.go (Tr.seq (Tr.regT (tp rfl (ok_build (rows := [(0, [_]), (1, [_])]) rfl bl44 zo44 ⟨⟨rfl, (VL.le (vl rfl) (one_cellsP _))⟩, ⟨⟨rfl, (VL.le (vl rfl) (one_cellsP _))⟩, trivial⟩⟩ rfl) (TO.store_all 0 rfl rfl rfl (vl rfl) (VL.le (vl rfl) (agg_cellsP _)) rfl sz44 rfl rfl (TO.nil (Fin.go (Tr.ret (Fin.retX1 rfl (RVal.cell 0 rfl rfl agg44 sz44 rfl (Pr.le_refl _)) ?_)))))))))
 · exact Pr.le_refl _
set_option maxRecDepth 20000 in
theorem w_EC   : Fun Tryz.prog 56 [] (agg [int 7, int 256]) := by
 refine Fun.of Tryz.func56 rfl rfl (by exact Nat.le_of_ble_eq_true rfl) fun M0 w0 => ?_
 refine Tr.seq (Tr.regT ?_)
 refine TO.alloc rfl rfl (by decide) rfl z44 zo44 (fun b1 => ?_)
 refine TO.nil (Fin.go (Tr.seq (Tr.regT (tp rfl (ok_build (rows := [(0, [_]), (1, [_])]) rfl bl44 zo44 ⟨⟨rfl, (VL.le (vl rfl) (one_cellsP _))⟩, ⟨⟨rfl, (VL.le (vl rfl) (one_cellsP _))⟩, trivial⟩⟩ rfl) (TO.store_all 0 rfl rfl rfl (vl rfl) (VL.le (vl rfl) (agg_cellsP _)) rfl sz44 rfl rfl (TO.nil (Fin.go (Tr.ret (Fin.retX1 rfl (RVal.cell 0 rfl rfl agg44 sz44 rfl (Pr.le_refl _)) ?_)))))))))
 · exact Pr.le_refl _
set_option maxRecDepth 20000 in
set_option maxHeartbeats 4000000 in
theorem w_Leaf {name : List UInt8} {a b id to key : Int} (hv : validB (leafC name a b id to 0 0) = true) (ht : (leafC name a b id to 0 0).tiny) (hk : 0 ≤ key ∧ key ≤ 2147483648) : Fun Tryz.prog 48 [str name, agg [int a, int b], int id, int key, int to] (leafE name a b id to key) := by
 refine Fun.of Tryz.func48 rfl rfl (by exact Nat.le_of_ble_eq_true rfl) fun M0 w0 => ?_
 refine Tr.seq (Tr.regT (tp rfl (ok_box rfl (VL.le (vl rfl) (agg_cellsP _))) ?_))
 refine TO.alloc rfl rfl (by decide) rfl z47 zo47 (fun b1 => ?_)
 refine TO.nil (Fin.go (Tr.seq (Tr.regT (tm rfl (tm rfl (tp rfl (ok_loadA rfl agg44 sz44 (vl rfl) rfl rfl) (tm rfl (tp rfl (ok_build (rows := [(0, [_])]) rfl bl44 zo44 ⟨⟨rfl, (VL.le (vl rfl) (one_cellsP _))⟩, trivial⟩ rfl) (tm rfl (tm rfl (tp rfl (ok_buildSlice (xs := [.tmp 18]) (rows := [[_]]) rfl rfl Tryz.underlying83 sz9 z9 rfl (by decide) ⟨⟨(by exact rfl), (VL.le (vl rfl) (one_cellsP _))⟩, trivial⟩ (by decide)) ?_)))))))))))
 refine tp rfl (ok_build (rows := [(0, [_]), (1, [_]), (2, [_]), (3, _), (4, [_]), (5, _), (7, [_]), (10, [_])]) rfl bl126 zo126 ⟨⟨rfl, (VL.le (vl rfl) (one_cellsP _))⟩, ⟨⟨rfl, (VL.le (vl rfl) (one_cellsP _))⟩, ⟨⟨rfl, (VL.le (vl rfl) (one_cellsP _))⟩, ⟨⟨rfl, (VL.le (vl rfl) (agg_cellsP _))⟩, ⟨⟨rfl, (VL.le (vl rfl) (one_cellsP _))⟩, ⟨⟨rfl, (VL.le (vl rfl) (agg_cellsP _))⟩, ⟨⟨rfl, (VL.le (vl rfl) (one_cellsP _))⟩, ⟨⟨rfl, ⟨_, rfl, Pr.le_trans (full_le _ _) (one_cellsP _)⟩⟩, trivial⟩⟩⟩⟩⟩⟩⟩⟩ rfl) (TO.re 20 (agg (rowCr (leafC name a b id to 0 0))) rfl (Pr.le_of_eq rfl) ?_)
 refine TO.alloc rfl rfl (by decide) rfl z126 zo126 (fun b2 => ?_)
 refine TO.store_all 0 rfl rfl rfl (vl rfl) (VL.le (vl rfl) (agg_cellsP _)) rfl sz126 rfl rfl (TO.nil (Fin.go (wk5 2 3 6 10 11 rfl (Tr.seq (Tr.regT (TO.rd 0 rfl rfl rfl (by decide) (rd_loadA rfl agg126 sz126 (vl rfl) rfl rfl) (tm rfl ?_)))))))
 refine tp rfl (ok_call rfl (w_R3Sign (c := leafC name a b id to 0 0) hv ht hk) ⟨ke rfl, ke rfl, trivial⟩) ?_
 refine TO.ex 24 rfl (fun z24 => TO.fact 24 rfl fun hz24 => ?_)
 refine tm rfl (tp rfl (ok_extract rfl (vl rfl) rfl) (tp rfl (ok_extract rfl (vl rfl) rfl) (TO.store_all 0 rfl rfl rfl (vl rfl) (VL.le (vl rfl) (agg_cellsP _)) rfl sz126 rfl rfl (TO.nil (Fin.go (Tr.seq (Tr.regT (tp rfl (ok_loadA rfl agg44 sz44 (vl rfl) rfl rfl) (tm rfl (TO.rd 0 rfl rfl rfl (by decide) (rd_loadA rfl agg126 sz126 (vl rfl) rfl rfl) (tp rfl (ok_buildSlice (xs := [.tmp 29]) (rows := [_]) rfl rfl Tryz.underlying45 sz126 z126 rfl (by decide) ⟨⟨(by exact rfl), (VL.le (vl rfl) (agg_cellsP _))⟩, trivial⟩ (by decide)) ?_)))))))))))
 refine tp rfl (ok_build (rows := [(0, _), (1, [_]), (2, [_])]) rfl bl47 zo47 ⟨⟨rfl, (VL.le (vl rfl) (agg_cellsP _))⟩, ⟨⟨rfl, (VL.le (vl rfl) (one_cellsP _))⟩, ⟨⟨rfl, ⟨_, rfl, Pr.le_trans (full_le _ _) (one_cellsP _)⟩⟩, trivial⟩⟩⟩ rfl) (TO.store_all 1 rfl rfl rfl (vl rfl) (VL.le (vl rfl) (agg_cellsP _)) rfl sz47 rfl rfl (TO.nil (Fin.go (Tr.drop 0 (wk1 10 rfl (Tr.ret (Fin.retX1 rfl (RVal.cell 0 rfl rfl agg47 sz47 rfl (Pr.le_refl _)) ?_)))))))
 · exact ex_in z24 (fact_in hz24 (Pr.le_refl _))
/-- Some text of a list. -/
def wordOf (s : DS) (l : List (List UInt8)) : List UInt8 := (l[(s.val l.length).toNat]?).getD []

set_option maxRecDepth 20000 in
theorem w_DWordE {b : Nat} {s : DS} {l : List (List UInt8)} (hl : l ≠ []) (hl2 : l.length ≤ 1000000000) : FunM Tryz.prog 51 [ptr b 0, txts l] (str (wordOf s l)) (diceS b s) (fun _ => diceS b s.adv) := by
 refine FunM.of Tryz.func51 rfl rfl (by exact Nat.le_of_ble_eq_true rfl) fun M0 w0 S rs M1 w1 => ?_
 have hl0 : 1 ≤ (l.length : Int) := by have := List.length_pos_iff.2 hl; omega
 have hv := s.val_in hl0
 obtain ⟨x, hx⟩ := at_ (l := l) (k := (s.val l.length).toNat) (by omega)
 refine Tr.seq (Tr.reg0 (cm rfl (Ch.nil (Fin.go (Tr.seq (Tr.regT (tm rfl (tm rfl (tm rfl (tp rfl (ok_lenm rfl Tryz.underlying83 (vl rfl)) (TO.efc 0 rfl rfl (by decide) (ef_callc rfl rfl (by decide) rfl (w_DNext (by omega) (by omega)) ⟨ke rfl, ke rfl, trivial⟩) (tp rfl (ok_indexAddr rfl Tryz.underlying83 sz9 (vl rfl) (vl rfl) (by omega) (row_atI hx)) (tp rfl (kl1 rfl one9 rfl) ?_)))))))))))))
 refine tm rfl (TO.nil (Fin.go (Tr.ret (Fin.retY1 [] rfl (RVal.tmp rfl (Pr.le_refl _)) ?_ (fun _ _ _ _ => rfl)))))
 · refine Pr.le_of_eq ?_; unfold wordOf; rw [hx]; rfl
end Go.Proofs.YtflodcidhlmaaaaGreat
namespace Go.Proofs.YtflodcidhlmaaaaGreat
open Go Go.RowKit Cp

abbrev usR : List Pr := [anyK .i64, anyK .i64]
theorem rep_atI {r : List Pr} {m : Nat} {i : Int} (h : 0 ≤ i ∧ i < (m : Nat)) : (List.replicate m r)[i.toNat]? = some r := by rw [List.getElem?_replicate, if_pos (by omega)]

set_option maxRecDepth 20000 in
theorem w_Item {b : Nat} {s : DS} {name : List UInt8}  : FunM Tryz.prog 50 [ptr b 0, str name] (agg itemR) (diceS b s) (fun _ => diceEx 82 b) := by
 refine FunM.of Tryz.func50 rfl rfl (by exact Nat.le_of_ble_eq_true rfl) fun M0 w0 S rs M1 w1 => ?_
 have hv3 := s.adv.adv.adv.val_in (n := 3) (by omega)
 refine Tr.seq (Tr.regT ?_)
 refine TO.alloc rfl rfl (by decide) rfl z91 zo91 (fun b1 => ?_)
 refine TO.nil (Fin.go (Tr.seq (Tr.regT (tm rfl (tm rfl (TO.efc 1 rfl rfl (by decide) (ef_callc rfl rfl (by decide) rfl (w_DNext (by omega) (by omega)) ⟨ke rfl, ke rfl, trivial⟩) (tp rfl (ki rfl rfl rfl rfl) (tm rfl (TO.efc 1 rfl rfl (by decide) (ef_callc rfl rfl (by decide) rfl (w_DNext (by omega) (by omega)) ⟨ke rfl, ke rfl, trivial⟩) (tp rfl (ki rfl rfl rfl rfl) (tp rfl (ok_build (rows := [(0, [_]), (1, [_]), (2, [_])]) rfl bl91 zo91 ⟨⟨rfl, (VL.le (vl rfl) (one_cellsP _))⟩, ⟨⟨rfl, (VL.le (vl rfl) (one_cellsP _))⟩, ⟨⟨rfl, (VL.le (vl rfl) (one_cellsP _))⟩, trivial⟩⟩⟩ rfl) ?_)))))))))))
 refine TO.alloc rfl rfl (by decide) rfl z91 zo91 (fun b2 => ?_)
 refine TO.store_all 0 rfl rfl rfl (vl rfl) (VL.le (vl rfl) (agg_cellsP _)) rfl sz91 rfl rfl (TO.nil (Fin.go (Tr.seq (Tr.regT (tm rfl (TO.efc 2 rfl rfl (by decide) (ef_callc rfl rfl (by decide) rfl (w_DNext (by omega) (by omega)) ⟨ke rfl, ke rfl, trivial⟩) (tm rfl (TO.nil (Fin.go (wk4 0 4 5 6 rfl (Tr.seq (Tr.seq (Tr.regT ?_)))))))))))))
 refine tm rfl (TO.efc 2 rfl rfl (by decide) (ef_callc rfl rfl (by decide) rfl (w_DNext (by omega) (by omega)) ⟨ke rfl, ke rfl, trivial⟩) ?_)
 refine tp rfl (ok_add rfl (vl rfl) (vl rfl) ?hin) ?_; case hin => unfold InI; omega
 refine tm rfl (TO.nil (Fin.go (Tr.block (Tr.reC 0 [anyS, anyK .i64, anyK .i64, andIs (.slice none 0 0) (slice 3 (List.replicate 0 lnkR)), is (.int .i64 0)] rfl ⟨ex_in _ (Pr.le_refl _), is_anyK _ _, is_anyK _ _, own_nil rfl, Pr.le_refl _, trivial⟩ (Tr.addnil 134 3 (Tr.loopD3V1 [(0, _), (4, _), (5, _)] ⟨ke rfl, ke rfl, ke rfl, trivial⟩ (fun (k : Int) (m : Nat) (s2 : DS) v => [(7, int k), (6, anyK .i64)]) (fun (k : Int) (m : Nat) (s2 : DS) v => Hp M0 w0 S (appRes 134 3 v :: cellsRes true b2 91 [anyS, anyK .i64, anyK .i64, andIs v (slice 3 (List.replicate m lnkR)), is (.int .i64 0)] :: cellsRes true b1 91 (([.string (ByteArray.mk #[]), .int .i64 0, .int .i64 0, .slice none 0 0, .int .i64 0] : List Value).map is) :: diceS b s2 :: extRes M1 w1 :: rs)) (fun (k : Int) (m : Nat) (s2 : DS) => 0 ≤ k ∧ k + m ≤ 3 ∧ 1 ≤ k + m) (fun (k : Int) (m : Nat) (s2 : DS) => k.toNat) (_) (0) (_) (.slice none 0 0) (⟨by omega, by omega, by omega⟩) ⟨ke rfl, ⟨_, rfl, is_anyK _ _⟩, trivial⟩ (fun _ _ h => h) ?_))))))
 rintro k m s2 v ⟨hk0, hk1, hk2⟩
 refine Tr.seq (Tr.seq (Tr.reg0 (cm rfl (co rfl (ki rfl rfl rfl rfl) (Ch.nil (Fin.go ?_))))))
 refine Tr.cn rfl ?_ ?_ <;> intro h1 q1
 have hk3 : 0 < k := of_decide_eq_true h1
 have hv6 := s2.val_in (n := 6) (by omega)
 refine Tr.skip (Fin.go (Tr.seq (Tr.block (Tr.seq (Tr.regT (tp rfl (ok_build (rows := [(0, [_])]) rfl bl44 zo44 ⟨⟨rfl, (VL.le (vl rfl) (one_cellsP _))⟩, trivial⟩ rfl) (tp rfl (ok_build (rows := [(0, [_])]) rfl bl44 zo44 ⟨⟨rfl, (VL.le (vl rfl) (one_cellsP _))⟩, trivial⟩ rfl) (tp rfl (ok_build (rows := [(0, [_]), (1, [_])]) rfl bl44 zo44 ⟨⟨rfl, (VL.le (vl rfl) (one_cellsP _))⟩, ⟨⟨rfl, (VL.le (vl rfl) (one_cellsP _))⟩, trivial⟩⟩ rfl) (tp rfl (ok_build (rows := [(0, [_]), (1, [_])]) rfl bl44 zo44 ⟨⟨rfl, (VL.le (vl rfl) (one_cellsP _))⟩, ⟨⟨rfl, (VL.le (vl rfl) (one_cellsP _))⟩, trivial⟩⟩ rfl) (tp rfl (ok_build (rows := [(0, [_])]) rfl bl44 zo44 ⟨⟨rfl, (VL.le (vl rfl) (one_cellsP _))⟩, trivial⟩ rfl) (tp rfl (ok_build (rows := [(0, [_]), (1, [_])]) rfl bl44 zo44 ⟨⟨rfl, (VL.le (vl rfl) (one_cellsP _))⟩, ⟨⟨rfl, (VL.le (vl rfl) (one_cellsP _))⟩, trivial⟩⟩ rfl) (tp rfl (ok_buildSlice (xs := [.tmp 26, .tmp 27, .tmp 28, .tmp 29, .tmp 30, .tmp 31]) (rows := [usR, usR, usR, usR, usR, usR]) rfl rfl Tryz.underlying96 sz44 z44 rfl (by decide) ⟨⟨(by exact rfl), VL.le (vl rfl) (Pr.le_trans (agg_le (qs := usR) ⟨is_anyK _ _, is_anyK _ _, trivial⟩) (agg_cellsP _))⟩, ⟨⟨(by exact rfl), VL.le (vl rfl) (Pr.le_trans (agg_le (qs := usR) ⟨is_anyK _ _, is_anyK _ _, trivial⟩) (agg_cellsP _))⟩, ⟨⟨(by exact rfl), VL.le (vl rfl) (Pr.le_trans (agg_le (qs := usR) ⟨is_anyK _ _, is_anyK _ _, trivial⟩) (agg_cellsP _))⟩, ⟨⟨(by exact rfl), VL.le (vl rfl) (Pr.le_trans (agg_le (qs := usR) ⟨is_anyK _ _, is_anyK _ _, trivial⟩) (agg_cellsP _))⟩, ⟨⟨(by exact rfl), VL.le (vl rfl) (Pr.le_trans (agg_le (qs := usR) ⟨is_anyK _ _, is_anyK _ _, trivial⟩) (agg_cellsP _))⟩, ⟨⟨(by exact rfl), VL.le (vl rfl) (Pr.le_trans (agg_le (qs := usR) ⟨is_anyK _ _, is_anyK _ _, trivial⟩) (agg_cellsP _))⟩, trivial⟩⟩⟩⟩⟩⟩ (by decide)) ?_))))))))))))
 refine tm rfl (TO.efc 3 rfl rfl (by decide) (ef_callc rfl rfl (by decide) rfl (w_DNext (by omega) (by omega)) ⟨ke rfl, ke rfl, trivial⟩) ?_)
 refine tp rfl (ok_indexAddr rfl Tryz.underlying96 sz44 ⟨_, rfl, full_le _ _⟩ (vl rfl) (by omega) (show (List.replicate 6 usR)[_]? = _ from rep_atI hv6)) ?_
 refine tp rfl (ok_loadA rfl agg44 sz44 (vl rfl) rfl rfl) ?_
 refine TO.alloc rfl rfl (by decide) rfl z44 zo44 (fun b3 => ?_)
 refine TO.store_all 0 rfl rfl rfl (vl rfl) (VL.le (vl rfl) (agg_cellsP _)) rfl sz44 rfl rfl (TO.freeze 0 8 rfl rfl (TO.nil (Fin.go (wk6 0 4 5 6 7 8 rfl (Tr.seq (Tr.regT (tp rfl (okp_fieldAddr rfl fo91_3 (vl rfl)) (TO.rd 1 rfl rfl rfl (by decide) (rd_load1 rfl one89 (vl rfl) rfl) (tp rfl (ok_loadA rfl agg44 sz44 (vl rfl) rfl rfl) (tm rfl (tp rfl (ok_build (rows := [(0, _), (1, [_])]) rfl bl134 zo134 ⟨⟨rfl, (VL.le (vl rfl) (agg_cellsP _))⟩, ⟨⟨rfl, (VL.le (vl rfl) (one_cellsP _))⟩, trivial⟩⟩ rfl) (tp rfl (ok_buildSlice (xs := [.tmp 41]) (rows := [lnkR]) rfl rfl Tryz.underlying89 sz134 z134 rfl (by decide) ⟨⟨(by exact rfl), VL.le (vl rfl) (Pr.le_trans (Pr.le_of_eq (show agg _ = agg lnkR from rfl)) (agg_cellsP _))⟩, trivial⟩ (by decide)) ?_))))))))))))
 refine TO.efs 0 rfl rfl (by decide) (ef_append rfl rfl (by decide) rfl Tryz.underlying89 sz134 by134 z134 rfl (by decide) ⟨_, rfl, andIs_le _ _⟩ ⟨_, rfl, full_le _ _⟩ (by simp only [List.length_append, List.length_replicate, List.length_cons, List.length_nil]; unfold maxLen; omega) (by simp only [List.length_append, List.length_replicate, List.length_cons, List.length_nil]; omega) (appR_is (by exact List.Mem.head _) ⟨_, rfl, andIs_is _ _⟩)) (fun v1 => ?_)
 refine tp rfl (okp_fieldAddr rfl fo91_3 (vl rfl)) (TO.ef0 1 rfl rfl (ef_store rfl rfl (vl rfl) (VL.le (vl rfl) (one_cellsP _)) sz89 rfl (by exact Nat.le_of_ble_eq_true rfl) rfl) (TO.nil (Fin.go (wk5 0 4 5 6 7 rfl (Tr.regT (tm rfl (tp rfl (ok_addK rfl (vl rfl) (VL.le (vl rfl) (is_anyK _ _))) (tm rfl (tp rfl (ok_buildSlice (xs := [.const (.int .i64 (5)), .const (.int .i64 (30)), .const (.int .i64 (0)), .const (.int .i64 (100))]) (rows := [[_], [_], [_], [_]]) rfl rfl Tryz.underlying22 sz3 z3 rfl (by decide) ⟨⟨(by exact rfl), (VL.le (vl rfl) (one_cellsP _))⟩, ⟨⟨(by exact rfl), (VL.le (vl rfl) (one_cellsP _))⟩, ⟨⟨(by exact rfl), (VL.le (vl rfl) (one_cellsP _))⟩, ⟨⟨(by exact rfl), (VL.le (vl rfl) (one_cellsP _))⟩, trivial⟩⟩⟩⟩ (by decide)) ?_)))))))))
 refine TO.efc 3 rfl rfl (by decide) (ef_callc rfl rfl (by decide) rfl (w_DOf (l := [5, 30, 0, 100]) (by simp) (by simp)) ⟨ke rfl, ⟨_, rfl, full_le _ _⟩, trivial⟩) ?_
 refine tp rfl (ok_addK rfl (vl rfl) (VL.le (vl rfl) (is_anyK _ _))) (tm rfl (TO.nil (Fin.block (Fin.go (Tr.reg0 (cm rfl (csu rfl rfl rfl rfl (by omega) (cm rfl (Ch.nil (Fin.reC 1 [anyS, anyK .i64, anyK .i64, andIs v1 (slice 3 (List.replicate (m + 1) lnkR)), is (.int .i64 0)] rfl ⟨Pr.le_refl _, Pr.le_refl _, Pr.le_refl _, own_le (by rw [rep_one]), Pr.le_refl _, trivial⟩ (Fin.famD3V1 (k - 1) (m + 1) (_) v1 (⟨⟨by omega, by omega, by omega⟩, by omega⟩) ⟨⟨_, rfl, int_eq (by omega)⟩, ke rfl, ke rfl, ke rfl, ke rfl, trivial⟩ (fun _ _ h => h))))))))))))
 have hk3 : ¬ 0 < k := of_decide_eq_false h1
 refine Tr.exit (Fin.then_exit (Fin.then_exit (Fin.block_here (Fin.go (Tr.seq (Tr.regX mixed [none, some (0, 1, false, 0), none, none, none, none, none, some (0, 3, true, 0), none, none, some (0, 1, true, 0)] (by kernel_rfl) (xo rfl (fun _ => okp_fieldAddr rfl fo91_3 (vl rfl)) (xrd 1 rfl rfl (rd_load1 rfl one89 (vl rfl) rfl) ?_))))))))
 refine xo rfl (fun _ => ok_indexAddr rfl Tryz.underlying89 sz134 ⟨_, rfl, andIs_le _ _⟩ (vl rfl) (by omega) (rep_at (k := 0) (by omega))) ?_
 refine xo rfl (fun _ => kfa rfl fo134_1 rfl rfl) (xo rfl (fun _ => kl1 rfl one3 rfl) (xm rfl (xo rfl (fun _ => ok_buildSlice (xs := [.const (.int .i64 (50)), .const (.int .i64 (300)), .const (.int .i64 (0)), .const (.int .i64 (3000))]) (rows := [[_], [_], [_], [_]]) rfl rfl Tryz.underlying22 sz3 z3 rfl (by decide) ⟨⟨(by exact rfl), (VL.le (vl rfl) (one_cellsP _))⟩, ⟨⟨(by exact rfl), (VL.le (vl rfl) (one_cellsP _))⟩, ⟨⟨(by exact rfl), (VL.le (vl rfl) (one_cellsP _))⟩, ⟨⟨(by exact rfl), (VL.le (vl rfl) (one_cellsP _))⟩, trivial⟩⟩⟩⟩ (by decide)) ?_)))
 refine Cx.ef 3 rfl rfl (by decide) (ef_callc rfl rfl (by decide) rfl (w_DOf (l := [50, 300, 0, 3000]) (by simp) (by simp)) ⟨ke rfl, ⟨_, rfl, full_le _ _⟩, trivial⟩) ?_
 refine xo rfl (fun _ => ok_addK rfl (vl rfl) (VL.le (vl rfl) (is_anyK _ _))) (xo rfl (fun _ => okp_fieldAddr rfl fo91_4 (vl rfl)) (Cx.ef0 1 rfl rfl (ef_store rfl rfl (vl rfl) (VL.le (vl rfl) (one_cellsP _)) sz3 rfl (by exact Nat.le_of_ble_eq_true rfl) rfl) ?_))
 refine Cx.nil ⟨rfl, ?_⟩
 refine FinX.done (AllC.cons (AllC.cons (AllC.cons (AllC.cons (AllC.cons (AllC.map _)))))) (Fin.go (wk2 4 5 rfl (Tr.seq (Tr.regT (TO.rd 1 rfl rfl rfl (by decide) (rd_loadA rfl agg91 sz91 (vl rfl) rfl rfl) (TO.store_all 2 rfl rfl rfl (vl rfl) (VL.le (vl rfl) (agg_cellsP _)) rfl sz91 rfl rfl (TO.nil (Fin.go (Tr.ret (Fin.closeD 3 _ rfl rfl (Fin.retY1 [_, _, _] rfl (RVal.cell 2 rfl rfl agg91 sz91 rfl (Pr.le_refl _)) ?_ (fun _ _ _ _ => rfl))))))))))))
 · exact agg_le ⟨Pr.le_refl _, Pr.le_refl _, Pr.le_refl _, Pr.le_trans (andIs_le _ _) (ex_in m (Pr.le_refl _)), Pr.le_refl _, trivial⟩
end Go.Proofs.YtflodcidhlmaaaaGreat
namespace Go.Proofs.YtflodcidhlmaaaaGreat
open Go Go.RowKit Cp

def nameL : List (List UInt8) := [[97, 112, 112], [100, 98], [119, 101, 98]]
def optS : List (List Int) := [[10, 8, 2], [8, 2], [2, 10, 8, 3]]
def sOpt (i : Int) : List Int := (optS[i.toNat]?).getD []
theorem sopt_at {i : Int} (h : 0 ≤ i ∧ i < 3) : (optS.map fun l => [ints l])[i.toNat]? = some [ints (sOpt i)] := by
  have hl : i.toNat < optS.length := by show i.toNat < 3; omega
  unfold sOpt
  rw [List.getElem?_map, List.getElem?_eq_getElem hl]; rfl
theorem sopt_mem {i : Int} (h : 0 ≤ i ∧ i < 3) : sOpt i ∈ optS := by
  have hl : i.toNat < optS.length := by show i.toNat < 3; omega
  unfold sOpt
  rw [List.getElem?_eq_getElem hl]; exact List.getElem_mem hl
/-- What such an endpoint is. -/
structure SndE (i : Nat) (e : Ept) : Prop where
  name : nameL[i]? = some e.name
  least : e.least = 1
  most : e.most = 3 ∨ e.most = 4
  suites : e.suites ∈ optS ∨ ∃ l ∈ optS, e.suites = 14 :: l
  ids : ∃ s : Int, (0 ≤ s ∧ s < 4294967296) ∧ e.ids = [leafI e.name 5 2048 (100 + (i : Nat)) 901 1 s]
  anchors : e.anchors = [1]
  hashes : e.hashes = [2, 3]
def SndL (es : List Ept) : Prop := ∀ (i : Nat) e, es[i]? = some e → SndE i e
theorem snd_snoc {es : List Ept} {e : Ept} (h : SndL es) (he : SndE es.length e) : SndL (es ++ [e]) := by
  intro i x hx
  rcases Nat.lt_or_ge i es.length with hi | hi
  · rw [List.getElem?_append_left hi] at hx; exact h i x hx
  · rcases Nat.eq_or_lt_of_le hi with hi | hi
    · subst hi; rw [List.getElem?_append_right (Nat.le_refl _), Nat.sub_self] at hx; simp at hx; subst hx; exact he
    · rw [List.getElem?_eq_none (by simp; omega)] at hx; cases hx
theorem leaf_ok {nm : List UInt8} {k : Nat} (h : nameL[k]? = some nm) {s : Int} (hs : 0 ≤ s ∧ s < 4294967296) {key : Int} (hk : 0 ≤ key ∧ key ≤ 2) : validB (leafC nm 5 2048 (100 + (k : Nat)) 901 key s) = true := by
  have hlt : k < 3 := lt_of_at h
  have hn : named nm = true := by
    have hm := List.mem_of_getElem? h
    revert hm; unfold nameL; intro hm; simp at hm
    rcases hm with rfl | rfl | rfl <;> decide
  refine of_vf ⟨?_, ?_, by show named [114, 111, 111, 116] = true; decide, hn, ?_, by show ofB 5 2048 2 = true; decide +kernel, ?_, ?_, by show ofB 3 0 1 = true; decide +kernel, hk.1, ?_, hs.1, hs.2, by show (0 : Int) ≤ 0; omega, by show (0 : Int) ≤ 901; omega, by show (901 : Int) ≤ 40000; omega, by show (0 : Int) ≤ 0; omega, by show (0 : Int) ≤ 8; omega, .inr rfl⟩
  · show 0 ≤ (100 : Int) + (k : Nat); omega
  · show (100 : Int) + (k : Nat) ≤ _; omega
  · show namesB [nm] = true
    unfold namesB; rw [Bool.and_eq_true]; refine ⟨allI_iff.2 fun j hj => ?_, by simp⟩
    have : j = 0 := by simp at hj; omega
    subst this; unfold nameAt; simp [hn]
  · show 0 ≤ (100 : Int) + (k : Nat); omega
  · show (100 : Int) + (k : Nat) ≤ _; omega
  · show key ≤ _; omega
theorem leaf_tiny {nm : List UInt8} {k : Nat} (h : k < 3) : (leafC nm 5 2048 (100 + (k : Nat)) 901 0 0).tiny :=
  ⟨by show (100 : Int) + (k : Nat) ≤ 40000; omega, by show (100 : Int) + (k : Nat) ≤ 40000; omega, ⟨by show (0 : Int) ≤ 5; omega, by show (5 : Int) ≤ 40000; omega⟩, ⟨by show (0 : Int) ≤ 2048; omega, by show (2048 : Int) ≤ 40000; omega⟩, ⟨by show (0 : Int) ≤ 3; omega, by show (3 : Int) ≤ 40000; omega⟩, ⟨by show (0 : Int) ≤ 0; omega, by show (0 : Int) ≤ 40000; omega⟩⟩
theorem take_get {β : Type} {l : List β} {n k : Nat} {x : β} (h : (l.take n)[k]? = some x) : l[k]? = some x := by
  have hlt := lt_of_at h
  rw [List.length_take] at hlt
  rw [List.getElem?_take, if_pos (by omega)] at h; exact h
theorem sopt_len (i : Int) : (sOpt i).length ≤ 4 := by
  unfold sOpt
  cases h : optS[i.toNat]? with
  | none => show 0 ≤ 4; omega
  | some l =>
    have hm := List.mem_of_getElem? h
    show l.length ≤ 4
    unfold optS at hm; simp at hm
    rcases hm with rfl | rfl | rfl <;> simp
theorem of_334 (s : DS) : s.of [3, 3, 4] = 3 ∨ s.of [3, 3, 4] = 4 := by have := s.of_mem (l := [3, 3, 4]) (by simp); simp at this; exact this
abbrev edR : List Pr := [anyK .i64, anyK .i64]
abbrev sndP (es : List Ept) : Pr := agg [slice 9 (es.map rowEp), (Cp.ex fun m : Nat => slice 2 (List.replicate m edR)), (Cp.ex fun m : Nat => slice 5 (List.replicate m itemR))]

set_option maxRecDepth 20000 in
set_option maxHeartbeats 4000000 in
theorem w_Sound {b : Nat} {s : DS}  : FunM Tryz.prog 13 [ptr b 0] (Cp.ex fun es : List Ept => fact ((2 ≤ es.length ∧ es.length ≤ 3) ∧ SndL es) (sndP es)) (diceS b s) (fun _ => diceEx 82 b) := by
 refine FunM.of Tryz.func13 rfl rfl (by exact Nat.le_of_ble_eq_true rfl) fun M0 w0 S rs M1 w1 => ?_
 have hv2 := s.val_in (n := 2) (by omega)
 have hnl : (nameL.take (2 + s.val 2).toNat).length = (2 + s.val 2).toNat := by rw [List.length_take]; show min _ 3 = _; omega
 refine Tr.seq (Tr.regT ?_)
 refine TO.alloc rfl rfl (by decide) rfl z31 zo31 (fun b1 => ?_)
 refine TO.nil (Fin.go (Tr.seq (Tr.regT ?_)))
 refine TO.alloc rfl rfl (by decide) rfl z31 zo31 (fun b2 => ?_)
 refine TO.nil (Fin.go (Tr.seq (Tr.regT (tp rfl (ok_buildSlice (xs := [.const (.string ⟨[97, 112, 112].toArray⟩), .const (.string ⟨[100, 98].toArray⟩), .const (.string ⟨[119, 101, 98].toArray⟩)]) (rows := [[_], [_], [_]]) rfl rfl Tryz.underlying83 sz9 z9 rfl (by decide) ⟨⟨(by exact rfl), (VL.le (vl rfl) (one_cellsP _))⟩, ⟨⟨(by exact rfl), (VL.le (vl rfl) (one_cellsP _))⟩, ⟨⟨(by exact rfl), (VL.le (vl rfl) (one_cellsP _))⟩, trivial⟩⟩⟩ (by decide)) ?_))))
 refine tm rfl (TO.efc 2 rfl rfl (by decide) (ef_callc rfl rfl (by decide) rfl (w_DNext (by omega) (by omega)) ⟨ke rfl, ke rfl, trivial⟩) ?_)
 refine tp rfl (ok_add rfl (vl rfl) (vl rfl) ?hin) ?_; case hin => unfold InI; omega
 refine tp rfl (ok_sliceTo rfl Tryz.underlying83 sz9 ⟨_, rfl, full_le _ _⟩ (vl rfl) (by omega) (by simp; omega)) ?_
 refine tm rfl (TO.nil (Fin.go (Tr.seq (Tr.seq (Tr.reg0 (cm rfl (co rfl (ok_len rfl Tryz.underlying83 (vl rfl)) (cm rfl (Ch.nil (Fin.go (Tr.block ?_)))))))))))
 refine Tr.re 16 rfl (Pr.le_of_eq (by show slice 1 (List.take _ (nameL.map fun t => [str t])) = _; rw [← List.map_take]) : Pr.le _ (txts (nameL.take (2 + s.val 2).toNat))) ?_
 refine Tr.re 17 rfl (int_eq (by simp; rfl) : Pr.le _ (int (((nameL.take (2 + s.val 2).toNat).length : Nat) : Int))) ?_
 refine Tr.reC 0 [andIs (.slice none 0 0) (slice 9 (([] : List Ept).map rowEp)), is (.slice none 0 0), is (.slice none 0 0)] rfl ⟨own_nil rfl, Pr.le_refl _, Pr.le_refl _, trivial⟩ (Tr.addnil 35 9 (Tr.loopD3V1 [(0, _), (2, _), (3, _), (4, _), (16, _), (17, _)] ⟨ke rfl, ke rfl, ke rfl, ke rfl, ke rfl, ke rfl, trivial⟩ (fun (k : Nat) (es : List Ept) (s2 : DS) v => [(18, int ((k : Nat) : Int))]) (fun (k : Nat) (es : List Ept) (s2 : DS) v => Hp M0 w0 S (appRes 35 9 v :: cellsRes true b2 31 [andIs v (slice 9 (es.map rowEp)), is (.slice none 0 0), is (.slice none 0 0)] :: cellsRes true b1 31 (([.slice none 0 0, .slice none 0 0, .slice none 0 0] : List Value).map is) :: diceS b s2 :: extRes M1 w1 :: rs)) (fun (k : Nat) (es : List Ept) (s2 : DS) => k ≤ (2 + s.val 2).toNat ∧ es.length = k ∧ SndL es) (fun (k : Nat) (es : List Ept) (s2 : DS) => (2 + s.val 2).toNat - k) (0) ([]) (_) (.slice none 0 0) (⟨by omega, rfl, fun i e h => by simp at h⟩) ⟨ke rfl, trivial⟩ (fun _ _ h => h) ?_))
 rintro k es s2 v ⟨hk1, hk2, hk3⟩
 refine Tr.seq (Tr.reg0 (co rfl (ki rfl rfl rfl rfl) (Ch.nil (Fin.go (Tr.seq ?_)))))
 refine Tr.cn rfl ?_ ?_ <;> intro h1 q1
 have hkn : k < (2 + s.val 2).toNat := by have := Nrm.nrm h1; rw [hnl] at this; omega
 obtain ⟨nm, hnm⟩ := at_ (l := nameL.take (2 + s.val 2).toNat) (k := k) (by omega)
 have hnm2 : nameL[k]? = some nm := take_get hnm
 have hso := sopt_len (s2.adv.val 3)
 have hk3_ : k < 3 := lt_of_at hnm2
 have hvs := s2.adv.val_in (n := 3) (by omega)
 have hof := of_334 s2
 refine Tr.skip (Fin.go (Tr.seq (Tr.block (Tr.seq (Tr.reg0 (cm rfl (co rfl (ok_indexAddr rfl Tryz.underlying83 sz9 (vl rfl) (vl rfl) (by omega) (row_at hnm)) (co rfl (kl1 rfl one9 rfl) (cm rfl (cm rfl (Ch.nil (Fin.go (Tr.seq (Tr.pad ?_))))))))))))))
 refine Tr.regX mixed [none, none, none, some (0, 4, true, 0), none, none, none, none, none, some (0, 4, true, 0), none, none, none, some (0, 4, true, 0), none, none, none, some (0, 4, true, 0), none, some (0, 0, true, 7), some (7, 0, true, 7)] (by kernel_rfl) (xm rfl (xm rfl (xo rfl (fun _ => ok_buildSlice (xs := [.const (.int .i64 (3)), .const (.int .i64 (3)), .const (.int .i64 (4))]) (rows := [[_], [_], [_]]) rfl rfl Tryz.underlying22 sz3 z3 rfl (by decide) ⟨⟨(by exact rfl), (VL.le (vl rfl) (one_cellsP _))⟩, ⟨⟨(by exact rfl), (VL.le (vl rfl) (one_cellsP _))⟩, ⟨⟨(by exact rfl), (VL.le (vl rfl) (one_cellsP _))⟩, trivial⟩⟩⟩ (by decide)) ?_)))
 refine Cx.ef 4 rfl rfl (by decide) (ef_callc rfl rfl (by decide) rfl (w_DOf (l := [3, 3, 4]) (by simp) (by simp)) ⟨ke rfl, ⟨_, rfl, full_le _ _⟩, trivial⟩) ?_
 refine xo rfl (fun _ => ok_buildSlice (xs := [.const (.int .i64 (10)), .const (.int .i64 (8)), .const (.int .i64 (2))]) (rows := [[_], [_], [_]]) rfl rfl Tryz.underlying22 sz3 z3 rfl (by decide) ⟨⟨(by exact rfl), (VL.le (vl rfl) (one_cellsP _))⟩, ⟨⟨(by exact rfl), (VL.le (vl rfl) (one_cellsP _))⟩, ⟨⟨(by exact rfl), (VL.le (vl rfl) (one_cellsP _))⟩, trivial⟩⟩⟩ (by decide)) ?_
 refine xo rfl (fun _ => ok_buildSlice (xs := [.const (.int .i64 (8)), .const (.int .i64 (2))]) (rows := [[_], [_]]) rfl rfl Tryz.underlying22 sz3 z3 rfl (by decide) ⟨⟨(by exact rfl), (VL.le (vl rfl) (one_cellsP _))⟩, ⟨⟨(by exact rfl), (VL.le (vl rfl) (one_cellsP _))⟩, trivial⟩⟩ (by decide)) ?_
 refine xo rfl (fun _ => ok_buildSlice (xs := [.const (.int .i64 (2)), .const (.int .i64 (10)), .const (.int .i64 (8)), .const (.int .i64 (3))]) (rows := [[_], [_], [_], [_]]) rfl rfl Tryz.underlying22 sz3 z3 rfl (by decide) ⟨⟨(by exact rfl), (VL.le (vl rfl) (one_cellsP _))⟩, ⟨⟨(by exact rfl), (VL.le (vl rfl) (one_cellsP _))⟩, ⟨⟨(by exact rfl), (VL.le (vl rfl) (one_cellsP _))⟩, ⟨⟨(by exact rfl), (VL.le (vl rfl) (one_cellsP _))⟩, trivial⟩⟩⟩⟩ (by decide)) ?_
 refine xo rfl (fun _ => ok_buildSlice (xs := [.tmp 27, .tmp 28, .tmp 29]) (rows := [[_], [_], [_]]) rfl rfl Tryz.underlying84 sz22 z22 rfl (by decide) ⟨⟨(by exact rfl), ⟨_, rfl, Pr.le_trans (full_le _ _) (one_cellsP _)⟩⟩, ⟨⟨(by exact rfl), ⟨_, rfl, Pr.le_trans (full_le _ _) (one_cellsP _)⟩⟩, ⟨⟨(by exact rfl), ⟨_, rfl, Pr.le_trans (full_le _ _) (one_cellsP _)⟩⟩, trivial⟩⟩⟩ (by decide)) ?_
 refine xm rfl (Cx.ef 4 rfl rfl (by decide) (ef_callc rfl rfl (by decide) rfl (w_DNext (by omega) (by omega)) ⟨ke rfl, ke rfl, trivial⟩) ?_)
 refine xo rfl (fun _ => ok_indexAddr rfl Tryz.underlying84 sz22 ⟨_, rfl, full_le _ _⟩ (vl rfl) (by omega) (show (optS.map fun l => [ints l])[_]? = _ from sopt_at hvs)) ?_
 refine xo rfl (fun _ => kl1 rfl one22 rfl) (xm rfl (Cx.ef 4 rfl rfl (by decide) (ef_callc rfl rfl (by decide) rfl (w_DOne (by omega) (by omega)) ⟨ke rfl, ke rfl, trivial⟩) (xo rfl (fun _ => ok_buildSlice (xs := [.const (.int .i64 (1))]) (rows := [[_]]) rfl rfl Tryz.underlying22 sz3 z3 rfl (by decide) ⟨⟨(by exact rfl), (VL.le (vl rfl) (one_cellsP _))⟩, trivial⟩ (by decide)) ?_)))
 refine xo rfl (fun _ => ok_buildSlice (xs := [.const (.int .i64 (2)), .const (.int .i64 (3))]) (rows := [[_], [_]]) rfl rfl Tryz.underlying22 sz3 z3 rfl (by decide) ⟨⟨(by exact rfl), (VL.le (vl rfl) (one_cellsP _))⟩, ⟨⟨(by exact rfl), (VL.le (vl rfl) (one_cellsP _))⟩, trivial⟩⟩ (by decide)) ?_
 refine xm rfl (Cx.ef 4 rfl rfl (by decide) (ef_callc rfl rfl (by decide) rfl (w_DOne (by omega) (by omega)) ⟨ke rfl, ke rfl, trivial⟩) (xo rfl (fun _ => ok_build (rows := [(0, [_]), (1, [_]), (2, [_]), (3, [_]), (4, [_]), (6, [_]), (7, [_]), (8, [_])]) rfl bl35 zo35 ⟨⟨rfl, (VL.le (vl rfl) (one_cellsP _))⟩, ⟨⟨rfl, (VL.le (vl rfl) (one_cellsP _))⟩, ⟨⟨rfl, (VL.le (vl rfl) (one_cellsP _))⟩, ⟨⟨rfl, (VL.le (vl rfl) (one_cellsP _))⟩, ⟨⟨rfl, (VL.le (vl rfl) (one_cellsP _))⟩, ⟨⟨rfl, ⟨_, rfl, Pr.le_trans (full_le _ _) (one_cellsP _)⟩⟩, ⟨⟨rfl, ⟨_, rfl, Pr.le_trans (full_le _ _) (one_cellsP _)⟩⟩, ⟨⟨rfl, (VL.le (vl rfl) (one_cellsP _))⟩, trivial⟩⟩⟩⟩⟩⟩⟩⟩ rfl) (Cx.ef 0 rfl rfl (by decide) (ef_allocX rfl rfl (by decide) rfl z35 zo35) (Cx.ef0 0 rfl rfl (ef_storeX rfl rfl rfl rfl (VL.le (vl rfl) (agg_cellsP _)) sz35 rfl rfl) ?_))))
 refine Cx.nil ⟨rfl, ?_⟩
 refine FinX.open_ 0 7 rfl rfl (fun v1 => ?_)
 refine FinX.done (AllC.cons (AllC.cons (AllC.cons (AllC.cons (AllC.cons (AllC.cons (AllC.map _))))))) (Fin.opn 7 0 _ rfl rfl (fun _ => rfl) (fun b3 => ?_))
 refine Fin.go (wk10 0 2 3 4 5 6 7 16 17 18 rfl (Tr.seq (Tr.seq (Tr.reC 0 [str nm, int 1, int (s2.of [3, 3, 4]), ints (sOpt (s2.adv.val 3)), bool (s2.adv.adv.val 2 == 2 - 1), is (.slice none 0 0), ints [1], ints [2, 3], bool (s2.adv.adv.adv.val 3 == 3 - 1)] rfl ⟨Pr.le_refl _, Pr.le_refl _, Pr.le_refl _, Pr.le_refl _, Pr.le_refl _, Pr.le_refl _, Pr.le_refl _, Pr.le_refl _, Pr.le_refl _, trivial⟩ (Tr.reg0 (co rfl (okp_fieldAddr rfl fo35_2 (vl rfl)) (co rfl (ok_rd 0 rfl (rd_load1 rfl one3 (vl rfl) rfl)) (co rfl (ki rfl rfl rfl rfl) (Ch.nil (Fin.go ?_))))))))))
 refine Tr.cn rfl ?_ ?_ <;> intro h2 q2
 refine Tr.regT (tp rfl (ok_buildSlice (xs := [.const (.int .i64 (14))]) (rows := [[_]]) rfl rfl Tryz.underlying22 sz3 z3 rfl (by decide) ⟨⟨(by exact rfl), (VL.le (vl rfl) (one_cellsP _))⟩, trivial⟩ (by decide)) ?_)
 refine tp rfl (okp_fieldAddr rfl fo35_3 (vl rfl)) (TO.rd 0 rfl rfl rfl (by decide) (rd_load1 rfl one22 (vl rfl) rfl) (TO.pad ?_))
 refine TO.efs 0 rfl rfl (by decide) (ef_append rfl rfl (by decide) rfl Tryz.underlying22 sz3 by3 z3 rfl (by decide) ⟨_, rfl, full_le _ _⟩ (vl rfl) (by simp only [List.length_append, List.length_replicate, List.length_cons, List.length_nil, List.length_map]; unfold maxLen; omega) (by simp only [List.length_append, List.length_replicate, List.length_cons, List.length_nil, List.length_map]; omega) (appR_full (by exact List.Mem.head _) (vl rfl))) (fun v2 => ?_)
 refine tp rfl (okp_fieldAddr rfl fo35_3 (vl rfl)) (TO.ef0 1 rfl rfl (ef_store rfl rfl (vl rfl) (VL.le (vl rfl) (one_cellsP _)) sz22 rfl (by exact Nat.le_of_ble_eq_true rfl) rfl) (TO.nil (Fin.go (wk10 0 2 3 4 5 6 7 16 17 18 rfl (Tr.seq (Tr.regT (tm rfl (tp rfl (ok_call rfl (w_RSA) trivial) (tm rfl ?_)))))))))
 refine tp rfl (ok_add rfl (vl rfl) (vl rfl) ?hin) ?_; case hin => unfold InI; omega
 refine tp rfl (ok_call rfl (w_Leaf (name := nm) (a := 5) (b := 2048) (id := 100 + (k : Nat)) (to := 901) (key := 1) (leaf_ok hnm2 (by omega) (by omega)) (leaf_tiny (by omega)) (by omega)) ⟨ke rfl, ke rfl, ke rfl, ke rfl, ke rfl, trivial⟩) ?_
 refine TO.ex 54 rfl (fun z54 => TO.fact 54 rfl fun hz54 => ?_)
 refine tp rfl (ok_buildSlice (xs := [.tmp 54]) (rows := [_]) rfl rfl Tryz.underlying33 sz47 z47 rfl (by decide) ⟨⟨(by exact rfl), (VL.le (vl rfl) (agg_cellsP _))⟩, trivial⟩ (by decide)) ?_
 refine tp rfl (okp_fieldAddr rfl fo35_5 (vl rfl)) (TO.ef0 1 rfl rfl (ef_store rfl rfl (vl rfl) (VL.le (vl rfl) (one_cellsP _)) sz33 rfl (by exact Nat.le_of_ble_eq_true rfl) rfl) (TO.nil (Fin.go (wk8 0 2 3 4 7 16 17 18 rfl (Tr.regT (tp rfl (okp_fieldAddr rfl fo31_0 (vl rfl)) (TO.rd 3 rfl rfl rfl (by decide) (rd_load1 rfl one27 (vl rfl) rfl) (TO.rd 1 rfl rfl rfl (by decide) (rd_loadA rfl agg35 sz35 (vl rfl) rfl rfl) (tp rfl (ok_buildSlice (xs := [.tmp 59]) (rows := [rowEp (⟨nm, 1, s2.of [3, 3, 4], 14 :: sOpt (s2.adv.val 3), (s2.adv.adv.val 2 == 2 - 1), [leafI nm 5 2048 (100 + (k : Nat)) 901 1 z54], [1], [2, 3], (s2.adv.adv.adv.val 3 == 3 - 1)⟩ : Ept)]) rfl rfl Tryz.underlying27 sz35 z35 rfl (by decide) ⟨⟨(by exact rfl), VL.le (vl rfl) (Pr.le_trans (agg_le (qs := rowEp (⟨nm, 1, s2.of [3, 3, 4], 14 :: sOpt (s2.adv.val 3), (s2.adv.adv.val 2 == 2 - 1), [leafI nm 5 2048 (100 + (k : Nat)) 901 1 z54], [1], [2, 3], (s2.adv.adv.adv.val 3 == 3 - 1)⟩ : Ept)) ⟨Pr.le_refl _, Pr.le_refl _, Pr.le_refl _, Pr.le_trans (andIs_le _ _) (Pr.le_of_eq rfl), Pr.le_refl _, full_le _ _, Pr.le_refl _, Pr.le_refl _, Pr.le_refl _, trivial⟩) (agg_cellsP _))⟩, trivial⟩ (by decide)) ?_)))))))))
 refine TO.efs 2 rfl rfl (by decide) (ef_append rfl rfl (by decide) rfl Tryz.underlying27 sz35 by35 z35 rfl (by decide) ⟨_, rfl, andIs_le _ _⟩ ⟨_, rfl, full_le _ _⟩ (by simp only [List.length_append, List.length_replicate, List.length_cons, List.length_nil, List.length_map]; unfold maxLen; omega) (by simp only [List.length_append, List.length_replicate, List.length_cons, List.length_nil, List.length_map]; omega) (appR_is (by exact List.Mem.head _) ⟨_, rfl, andIs_is _ _⟩)) (fun v3 => ?_)
 refine tp rfl (okp_fieldAddr rfl fo31_0 (vl rfl)) (TO.ef0 3 rfl rfl (ef_store rfl rfl (vl rfl) (VL.le (vl rfl) (one_cellsP _)) sz27 rfl (by exact Nat.le_of_ble_eq_true rfl) rfl) (TO.nil (Fin.block (Fin.go (Tr.drop 1 (wk7 0 2 3 4 16 17 18 rfl (Tr.reg0 (cad rfl rfl rfl rfl (by omega) (cm rfl (Ch.nil ?_))))))))))
 refine Fin.reC 2 [andIs v3 (slice 9 ((es ++ [(⟨nm, 1, s2.of [3, 3, 4], 14 :: sOpt (s2.adv.val 3), (s2.adv.adv.val 2 == 2 - 1), [leafI nm 5 2048 (100 + (k : Nat)) 901 1 z54], [1], [2, 3], (s2.adv.adv.adv.val 3 == 3 - 1)⟩ : Ept)]).map rowEp)), is (.slice none 0 0), is (.slice none 0 0)] rfl ⟨own_le (by rw [List.map_append]; rfl), Pr.le_refl _, Pr.le_refl _, trivial⟩ ?_
 refine Fin.drop 0 ?_
 exact Fin.famD3V1 (k + 1) (es ++ [(⟨nm, 1, s2.of [3, 3, 4], 14 :: sOpt (s2.adv.val 3), (s2.adv.adv.val 2 == 2 - 1), [leafI nm 5 2048 (100 + (k : Nat)) 901 1 z54], [1], [2, 3], (s2.adv.adv.adv.val 3 == 3 - 1)⟩ : Ept)]) (_) v3 (⟨⟨by omega, by rw [List.length_append, hk2]; rfl, snd_snoc hk3 ⟨by rw [hk2]; exact hnm2, rfl, hof, .inr ⟨_, sopt_mem hvs, rfl⟩, ⟨z54, hz54, by rw [hk2]⟩, rfl, rfl⟩⟩, by omega⟩) ⟨⟨_, rfl, int_succ k⟩, ke rfl, ke rfl, ke rfl, ke rfl, ke rfl, ke rfl, trivial⟩ (fun _ _ h => h)
 refine Tr.skip (Fin.go (Tr.seq (Tr.regT (tm rfl (tp rfl (ok_call rfl (w_RSA) trivial) (tm rfl ?_))))))
 refine tp rfl (ok_add rfl (vl rfl) (vl rfl) ?hin) ?_; case hin => unfold InI; omega
 refine tp rfl (ok_call rfl (w_Leaf (name := nm) (a := 5) (b := 2048) (id := 100 + (k : Nat)) (to := 901) (key := 1) (leaf_ok hnm2 (by omega) (by omega)) (leaf_tiny (by omega)) (by omega)) ⟨ke rfl, ke rfl, ke rfl, ke rfl, ke rfl, trivial⟩) ?_
 refine TO.ex 54 rfl (fun z54 => TO.fact 54 rfl fun hz54 => ?_)
 refine tp rfl (ok_buildSlice (xs := [.tmp 54]) (rows := [_]) rfl rfl Tryz.underlying33 sz47 z47 rfl (by decide) ⟨⟨(by exact rfl), (VL.le (vl rfl) (agg_cellsP _))⟩, trivial⟩ (by decide)) ?_
 refine tp rfl (okp_fieldAddr rfl fo35_5 (vl rfl)) (TO.ef0 0 rfl rfl (ef_store rfl rfl (vl rfl) (VL.le (vl rfl) (one_cellsP _)) sz33 rfl (by exact Nat.le_of_ble_eq_true rfl) rfl) (TO.nil (Fin.go (wk8 0 2 3 4 7 16 17 18 rfl (Tr.regT (tp rfl (okp_fieldAddr rfl fo31_0 (vl rfl)) (TO.rd 2 rfl rfl rfl (by decide) (rd_load1 rfl one27 (vl rfl) rfl) (TO.rd 0 rfl rfl rfl (by decide) (rd_loadA rfl agg35 sz35 (vl rfl) rfl rfl) (tp rfl (ok_buildSlice (xs := [.tmp 59]) (rows := [rowEp (⟨nm, 1, s2.of [3, 3, 4], sOpt (s2.adv.val 3), (s2.adv.adv.val 2 == 2 - 1), [leafI nm 5 2048 (100 + (k : Nat)) 901 1 z54], [1], [2, 3], (s2.adv.adv.adv.val 3 == 3 - 1)⟩ : Ept)]) rfl rfl Tryz.underlying27 sz35 z35 rfl (by decide) ⟨⟨(by exact rfl), VL.le (vl rfl) (Pr.le_trans (agg_le (qs := rowEp (⟨nm, 1, s2.of [3, 3, 4], sOpt (s2.adv.val 3), (s2.adv.adv.val 2 == 2 - 1), [leafI nm 5 2048 (100 + (k : Nat)) 901 1 z54], [1], [2, 3], (s2.adv.adv.adv.val 3 == 3 - 1)⟩ : Ept)) ⟨Pr.le_refl _, Pr.le_refl _, Pr.le_refl _, Pr.le_refl _, Pr.le_refl _, full_le _ _, Pr.le_refl _, Pr.le_refl _, Pr.le_refl _, trivial⟩) (agg_cellsP _))⟩, trivial⟩ (by decide)) ?_)))))))))
 refine TO.efs 1 rfl rfl (by decide) (ef_append rfl rfl (by decide) rfl Tryz.underlying27 sz35 by35 z35 rfl (by decide) ⟨_, rfl, andIs_le _ _⟩ ⟨_, rfl, full_le _ _⟩ (by simp only [List.length_append, List.length_replicate, List.length_cons, List.length_nil, List.length_map]; unfold maxLen; omega) (by simp only [List.length_append, List.length_replicate, List.length_cons, List.length_nil, List.length_map]; omega) (appR_is (by exact List.Mem.head _) ⟨_, rfl, andIs_is _ _⟩)) (fun v4 => ?_)
 refine tp rfl (okp_fieldAddr rfl fo31_0 (vl rfl)) (TO.ef0 2 rfl rfl (ef_store rfl rfl (vl rfl) (VL.le (vl rfl) (one_cellsP _)) sz27 rfl (by exact Nat.le_of_ble_eq_true rfl) rfl) (TO.nil (Fin.block (Fin.go (Tr.drop 0 (wk7 0 2 3 4 16 17 18 rfl (Tr.reg0 (cad rfl rfl rfl rfl (by omega) (cm rfl (Ch.nil ?_))))))))))
 refine Fin.reC 1 [andIs v4 (slice 9 ((es ++ [(⟨nm, 1, s2.of [3, 3, 4], sOpt (s2.adv.val 3), (s2.adv.adv.val 2 == 2 - 1), [leafI nm 5 2048 (100 + (k : Nat)) 901 1 z54], [1], [2, 3], (s2.adv.adv.adv.val 3 == 3 - 1)⟩ : Ept)]).map rowEp)), is (.slice none 0 0), is (.slice none 0 0)] rfl ⟨own_le (by rw [List.map_append]; rfl), Pr.le_refl _, Pr.le_refl _, trivial⟩ ?_
 exact Fin.famD3V1 (k + 1) (es ++ [(⟨nm, 1, s2.of [3, 3, 4], sOpt (s2.adv.val 3), (s2.adv.adv.val 2 == 2 - 1), [leafI nm 5 2048 (100 + (k : Nat)) 901 1 z54], [1], [2, 3], (s2.adv.adv.adv.val 3 == 3 - 1)⟩ : Ept)]) (_) v4 (⟨⟨by omega, by rw [List.length_append, hk2]; rfl, snd_snoc hk3 ⟨by rw [hk2]; exact hnm2, rfl, hof, .inl (sopt_mem hvs), ⟨z54, hz54, by rw [hk2]⟩, rfl, rfl⟩⟩, by omega⟩) ⟨⟨_, rfl, int_succ k⟩, ke rfl, ke rfl, ke rfl, ke rfl, ke rfl, ke rfl, trivial⟩ (fun _ _ h => h)
 have hke : k = (2 + s.val 2).toNat := by have := Nrm.nrm h1; rw [hnl] at this; omega
 refine Tr.exit (Fin.then_exit (Fin.then_exit (Fin.block_here (Fin.go (Tr.seq (Tr.seq (Tr.reC 1 [slice 9 (es.map rowEp), is (.slice none 0 0), is (.slice none 0 0)] rfl ⟨andIs_le _ _, Pr.le_refl _, Pr.le_refl _, trivial⟩ (Tr.drop 0 (Tr.reg0 (cm rfl (co rfl (ok_len rfl Tryz.underlying83 (vl rfl)) (cm rfl (Ch.nil (Fin.go ?_))))))))))))))
 refine Tr.block ?_
 refine Tr.re 65 rfl (int_eq (by simp; rfl) : Pr.le _ (int (((nameL.take (2 + s.val 2).toNat).length : Nat) : Int))) ?_
 refine Tr.reC 0 [slice 9 (es.map rowEp), andIs (.slice none 0 0) (slice 2 (List.replicate 0 edR)), is (.slice none 0 0)] rfl ⟨Pr.le_refl _, own_nil rfl, Pr.le_refl _, trivial⟩ (Tr.addnil 88 2 (Tr.loopD3V1 [(0, _), (2, _), (3, _), (4, _), (65, _)] ⟨ke rfl, ke rfl, ke rfl, ke rfl, ke rfl, trivial⟩ (fun (i : Nat) (m : Nat) (s3 : DS) w => [(66, int ((i : Nat) : Int))]) (fun (i : Nat) (m : Nat) (s3 : DS) w => Hp M0 w0 S (appRes 88 2 w :: cellsRes true b2 31 [slice 9 (es.map rowEp), andIs w (slice 2 (List.replicate m edR)), is (.slice none 0 0)] :: cellsRes true b1 31 (([.slice none 0 0, .slice none 0 0, .slice none 0 0] : List Value).map is) :: diceS b s3 :: extRes M1 w1 :: rs)) (fun (i : Nat) (m : Nat) (s3 : DS) => i ≤ (2 + s.val 2).toNat ∧ m ≤ 3) (fun (i : Nat) (m : Nat) (s3 : DS) => (2 + s.val 2).toNat - i) (0) (0) (_) (.slice none 0 0) (⟨by omega, by omega⟩) ⟨ke rfl, trivial⟩ (fun _ _ h => h) ?_))
 rintro i m s3 w ⟨hi1, hi2⟩
 refine Tr.seq (Tr.reg0 (co rfl (ki rfl rfl rfl rfl) (Ch.nil (Fin.go (Tr.seq ?_)))))
 refine Tr.cn rfl ?_ ?_ <;> intro h3 q3
 have hin : i < (2 + s.val 2).toNat := by have := Nrm.nrm h3; rw [hnl] at this; omega
 refine Tr.skip (Fin.go (Tr.seq (Tr.block (Tr.seq (Tr.reg0 (cm rfl (cm rfl (Ch.nil (Fin.go (Tr.seq (Tr.reg0 (cm rfl (co rfl (ok_len rfl Tryz.underlying83 (vl rfl)) ?_)))))))))))))
 refine cm rfl (Ch.nil (Fin.go (Tr.block ?_)))
 refine Tr.re 70 rfl (int_eq (by simp; rfl) : Pr.le _ (int (((nameL.take (2 + s.val 2).toNat).length : Nat) : Int))) ?_
 refine Tr.loopD3V1 [(0, _), (2, _), (3, _), (4, _), (8, _), (65, _), (66, _), (70, _)] ⟨ke rfl, ke rfl, ke rfl, ke rfl, ke rfl, ke rfl, ke rfl, ke rfl, trivial⟩ (fun (j : Nat) (m3 : Nat) (s4 : DS) u => [(71, int ((j : Nat) : Int))]) (fun (j : Nat) (m3 : Nat) (s4 : DS) u => Hp M0 w0 S (appRes 88 2 u :: cellsRes true b2 31 [slice 9 (es.map rowEp), andIs u (slice 2 (List.replicate m3 edR)), is (.slice none 0 0)] :: cellsRes true b1 31 (([.slice none 0 0, .slice none 0 0, .slice none 0 0] : List Value).map is) :: diceS b s4 :: extRes M1 w1 :: rs)) (fun (j : Nat) (m3 : Nat) (s4 : DS) => j ≤ (2 + s.val 2).toNat ∧ m3 ≤ 3) (fun (j : Nat) (m3 : Nat) (s4 : DS) => (2 + s.val 2).toNat - j) (0) (m) (_) w (⟨by omega, by omega⟩) ⟨ke rfl, trivial⟩ (fun _ _ h => h) ?_
 rintro j m3 s4 u ⟨hj1, hj2⟩
 refine Tr.seq (Tr.reg0 (co rfl (ki rfl rfl rfl rfl) (Ch.nil (Fin.go (Tr.seq ?_)))))
 refine Tr.cn rfl ?_ ?_ <;> intro h4 q4
 have hjn : j < (2 + s.val 2).toNat := by have := Nrm.nrm h4; rw [hnl] at this; omega
 have hlm : (List.replicate m3 edR).length = m3 := List.length_replicate
 refine Tr.skip (Fin.go (Tr.seq (Tr.block (Tr.seq (Tr.reg0 (cm rfl (cm rfl (Ch.nil (Fin.go (Tr.seq (Tr.regT (tm rfl (tm rfl ?_)))))))))))))
 refine tp rfl (ki rfl rfl rfl rfl) (tm rfl ?_)
 refine TO.cases 77 rfl (fun h5 => ?_) (fun h5 => ?_)
 have q5 := Nrm.nrm h5
 refine TO.opG rfl rfl rfl h5 rfl (by decide) (ok_move rfl (vl rfl)) (TO.efcG 3 rfl rfl rfl h5 rfl rfl (by decide) (ef_callc rfl rfl (by decide) rfl (w_DNext (by omega) (by omega)) ⟨ke rfl, ke rfl, trivial⟩) (TO.opG rfl rfl rfl h5 rfl (by decide) (ki rfl rfl rfl rfl) (tp rfl (kpt rfl rfl h5 rfl) (tm rfl ?_))))
 refine TO.cases 82 rfl (fun h6 => ?_) (fun h6 => ?_)
 have q6 := Nrm.nrm h6
 refine TO.opG rfl rfl rfl h6 rfl (by decide) (okp_fieldAddr rfl fo31_1 (vl rfl)) (TO.opG rfl rfl rfl h6 rfl (by decide) (ok_rd 1 rfl (rd_load1 rfl one28 (vl rfl) rfl)) (TO.opG rfl rfl rfl h6 rfl (by decide) (ok_len rfl Tryz.underlying28 ⟨_, rfl, andIs_le _ _⟩) (TO.opG rfl rfl rfl h6 rfl (by decide) (ki rfl rfl rfl rfl) (tp rfl (kpt rfl rfl h6 rfl) (TO.nil (Fin.go (wk11 0 2 3 4 8 9 65 66 70 71 87 rfl ?_)))))))
 refine Tr.cn rfl ?_ ?_ <;> intro h7 q7
 refine Tr.regT (tp rfl (okp_fieldAddr rfl fo31_1 (vl rfl)) (TO.rd 1 rfl rfl rfl (by decide) (rd_load1 rfl one28 (vl rfl) rfl) (tm rfl (tm rfl (tp rfl (ok_build (rows := [(0, [_]), (1, [_])]) rfl bl88 zo88 ⟨⟨rfl, (VL.le (vl rfl) (one_cellsP _))⟩, ⟨⟨rfl, (VL.le (vl rfl) (one_cellsP _))⟩, trivial⟩⟩ rfl) (tp rfl (ok_buildSlice (xs := [.tmp 92]) (rows := [edR]) rfl rfl Tryz.underlying28 sz88 z88 rfl (by decide) ⟨⟨(by exact rfl), VL.le (vl rfl) (Pr.le_trans (agg_le (qs := edR) ⟨is_anyK _ _, is_anyK _ _, trivial⟩) (agg_cellsP _))⟩, trivial⟩ (by decide)) ?_))))))
 refine TO.efs 0 rfl rfl (by decide) (ef_append rfl rfl (by decide) rfl Tryz.underlying28 sz88 by88 z88 rfl (by decide) ⟨_, rfl, andIs_le _ _⟩ ⟨_, rfl, full_le _ _⟩ (by simp only [List.length_append, List.length_replicate, List.length_cons, List.length_nil, List.length_map]; unfold maxLen; omega) (by simp only [List.length_append, List.length_replicate, List.length_cons, List.length_nil, List.length_map]; omega) (appR_is (by exact List.Mem.head _) ⟨_, rfl, andIs_is _ _⟩)) (fun v5 => ?_)
 refine tp rfl (okp_fieldAddr rfl fo31_1 (vl rfl)) (TO.ef0 1 rfl rfl (ef_store rfl rfl (vl rfl) (VL.le (vl rfl) (one_cellsP _)) sz28 rfl (by exact Nat.le_of_ble_eq_true rfl) rfl) (TO.nil (Fin.block (Fin.go (wk9 0 2 3 4 8 65 66 70 71 rfl (Tr.reg0 (cad rfl rfl rfl rfl (by omega) (cm rfl (Ch.nil (Fin.reC 1 [slice 9 (es.map rowEp), andIs v5 (slice 2 (List.replicate (m3 + 1) edR)), is (.slice none 0 0)] rfl ⟨Pr.le_refl _, own_le (by rw [rep_one]), Pr.le_refl _, trivial⟩ (Fin.famD3V1 (j + 1) (m3 + 1) (_) v5 (⟨⟨by omega, by omega⟩, by omega⟩) ⟨⟨_, rfl, int_succ j⟩, ke rfl, ke rfl, ke rfl, ke rfl, ke rfl, ke rfl, ke rfl, ke rfl, trivial⟩ (fun _ _ h => h))))))))))))
 refine Tr.skip (Fin.block (Fin.go (Tr.reg0 (cad rfl rfl rfl rfl (by omega) (cm rfl (Ch.nil (Fin.famD3V1 (j + 1) (m3) (_) u (⟨⟨by omega, by omega⟩, by omega⟩) ⟨⟨_, rfl, int_succ j⟩, ke rfl, ke rfl, ke rfl, ke rfl, ke rfl, ke rfl, ke rfl, ke rfl, trivial⟩ (fun _ _ h => h))))))))
 have q6 := Nrm.nrm h6
 iterate 4 refine TO.noG rfl rfl rfl (ne_true h6) rfl (by decide) ?_
 refine tp rfl (kpf rfl rfl h6 rfl) (TO.nil (Fin.go (wk11 0 2 3 4 8 9 65 66 70 71 87 rfl (Tr.cond rfl (fun h => nomatch h) (fun _ => ?_)))))
 refine Tr.skip (Fin.block (Fin.go (Tr.reg0 (cad rfl rfl rfl rfl (by omega) (cm rfl (Ch.nil (Fin.famD3V1 (j + 1) (m3) (_) u (⟨⟨by omega, by omega⟩, by omega⟩) ⟨⟨_, rfl, int_succ j⟩, ke rfl, ke rfl, ke rfl, ke rfl, ke rfl, ke rfl, ke rfl, ke rfl, trivial⟩ (fun _ _ h => h))))))))
 have q5 := Nrm.nrm h5
 refine TO.noG rfl rfl rfl (ne_true h5) rfl (by decide) (TO.noG rfl rfl rfl (ne_true h5) rfl (by decide) (TO.noG rfl rfl rfl (ne_true h5) rfl (by decide) (tp rfl (kpf rfl rfl h5 rfl) (tm rfl ?_))))
 iterate 4 refine TO.noG rfl rfl rfl (ne_true rfl) rfl (by decide) ?_
 refine tp rfl (kpf rfl rfl rfl rfl) (TO.nil (Fin.go (wk11 0 2 3 4 8 9 65 66 70 71 87 rfl (Tr.cond rfl (fun h => nomatch h) (fun _ => ?_)))))
 refine Tr.skip (Fin.block (Fin.go (Tr.reg0 (cad rfl rfl rfl rfl (by omega) (cm rfl (Ch.nil (Fin.famD3V1 (j + 1) (m3) (_) u (⟨⟨by omega, by omega⟩, by omega⟩) ⟨⟨_, rfl, int_succ j⟩, ke rfl, ke rfl, ke rfl, ke rfl, ke rfl, ke rfl, ke rfl, ke rfl, trivial⟩ (fun _ _ h => h))))))))
 have hje : j = (2 + s.val 2).toNat := by have := Nrm.nrm h4; rw [hnl] at this; omega
 refine Tr.exit (Fin.then_exit (Fin.then_exit (Fin.block_here (Fin.block (Fin.go (Tr.reg0 (cad rfl rfl rfl rfl (by omega) (cm rfl (Ch.nil (Fin.famD3V1 (i + 1) (m3) (_) u (⟨⟨by omega, by omega⟩, by omega⟩) ⟨⟨_, rfl, int_succ i⟩, ke rfl, ke rfl, ke rfl, ke rfl, ke rfl, trivial⟩ (fun _ _ h => h)))))))))))
 have hie : i = (2 + s.val 2).toNat := by have := Nrm.nrm h3; rw [hnl] at this; omega
 refine Tr.exit (Fin.then_exit (Fin.then_exit (Fin.block_here (Fin.go (Tr.seq (Tr.seq (Tr.reg0 (co rfl (okp_fieldAddr rfl fo31_1 (vl rfl)) (co rfl (ok_rd 1 rfl (rd_load1 rfl one28 (vl rfl) rfl)) (co rfl (ok_len rfl Tryz.underlying28 ⟨_, rfl, andIs_le _ _⟩) (co rfl (ki rfl rfl rfl rfl) (Ch.nil (Fin.go ?_)))))))))))))
 refine Tr.cn rfl ?_ ?_ <;> intro h8 q8
 refine Tr.regT (tp rfl (ok_build (rows := [(0, [_]), (1, [_])]) rfl bl88 zo88 ⟨⟨rfl, (VL.le (vl rfl) (one_cellsP _))⟩, ⟨⟨rfl, (VL.le (vl rfl) (one_cellsP _))⟩, trivial⟩⟩ rfl) (tp rfl (ok_buildSlice (xs := [.tmp 102]) (rows := [edR]) rfl rfl Tryz.underlying28 sz88 z88 rfl (by decide) ⟨⟨(by exact rfl), VL.le (vl rfl) (Pr.le_trans (agg_le (qs := edR) ⟨is_anyK _ _, is_anyK _ _, trivial⟩) (agg_cellsP _))⟩, trivial⟩ (by decide)) ?_))
 refine tp rfl (okp_fieldAddr rfl fo31_1 (vl rfl)) (TO.ef0 1 rfl rfl (ef_store rfl rfl (vl rfl) (VL.le (vl rfl) (one_cellsP _)) sz28 rfl (by exact Nat.le_of_ble_eq_true rfl) rfl) (TO.nil (Fin.go (wk3 0 2 3 rfl (Tr.seq (Tr.seq ?_))))))
 have hv9 := s3.val_in (n := 3) (by omega)
 refine Tr.reC 1 [slice 9 (es.map rowEp), (Cp.ex fun m : Nat => slice 2 (List.replicate m edR)), is (.slice none 0 0)] rfl ⟨Pr.le_refl _, ex_in 1 (full_le _ _), Pr.le_refl _, trivial⟩ (Tr.drop 0 (Tr.regT (tm rfl (TO.efc 2 rfl rfl (by decide) (ef_callc rfl rfl (by decide) rfl (w_DNext (by omega) (by omega)) ⟨ke rfl, ke rfl, trivial⟩) (tm rfl (TO.nil (Fin.go (Tr.block (Tr.reC 0 [slice 9 (es.map rowEp), (Cp.ex fun m : Nat => slice 2 (List.replicate m edR)), andIs (.slice none 0 0) (slice 5 (List.replicate 0 itemR))] rfl ⟨Pr.le_refl _, Pr.le_refl _, own_nil rfl, trivial⟩ (Tr.addnil 91 5 (Tr.loopD3V1 [(0, _), (2, _), (3, _)] ⟨ke rfl, ke rfl, ke rfl, trivial⟩ (fun (q : Int) (mi : Nat) (s5 : DS) x => [(10, int q)]) (fun (q : Int) (mi : Nat) (s5 : DS) x => Hp M0 w0 S (appRes 91 5 x :: cellsRes true b2 31 [slice 9 (es.map rowEp), (Cp.ex fun m : Nat => slice 2 (List.replicate m edR)), andIs x (slice 5 (List.replicate mi itemR))] :: cellsRes true b1 31 (([.slice none 0 0, .slice none 0 0, .slice none 0 0] : List Value).map is) :: diceS b s5 :: extRes M1 w1 :: rs)) (fun (q : Int) (mi : Nat) (s5 : DS) => 0 ≤ q ∧ q + mi ≤ 3) (fun (q : Int) (mi : Nat) (s5 : DS) => q.toNat) (_) (0) (_) (.slice none 0 0) (⟨by omega, by omega⟩) ⟨ke rfl, trivial⟩ (fun _ _ h => h) ?_)))))))))))
 rintro q mi s5 x ⟨hq1, hq2⟩
 refine Tr.seq (Tr.seq (Tr.reg0 (cm rfl (co rfl (ki rfl rfl rfl rfl) (Ch.nil (Fin.go ?_))))))
 refine Tr.cn rfl ?_ ?_ <;> intro h9 q9
 have hq3 : 0 < q := of_decide_eq_true h9
 refine Tr.skip (Fin.go (Tr.seq (Tr.block (Tr.pad (Tr.regX mixed [none, some (0, 2, false, 0), none, none, none, some (0, 4, true, 0), some (0, 4, true, 0), none, some (0, 1, true, 119), none, some (0, 2, true, 119)] (by kernel_rfl) (xo rfl (fun _ => okp_fieldAddr rfl fo31_2 (vl rfl)) (xrd 2 rfl rfl (rd_load1 rfl one29 (vl rfl) rfl) (xm rfl (xm rfl (xo rfl (fun _ => ok_buildSlice (xs := [.const (.string ⟨[98, 97, 99, 107, 117, 112].toArray⟩), .const (.string ⟨[100, 101, 101, 100].toArray⟩)]) (rows := [[_], [_]]) rfl rfl Tryz.underlying83 sz9 z9 rfl (by decide) ⟨⟨(by exact rfl), (VL.le (vl rfl) (one_cellsP _))⟩, ⟨⟨(by exact rfl), (VL.le (vl rfl) (one_cellsP _))⟩, trivial⟩⟩ (by decide)) ?_))))))))))
 refine Cx.ef 4 rfl rfl (by decide) (ef_callc rfl rfl (by decide) rfl (w_DWordE (l := [[98, 97, 99, 107, 117, 112], [100, 101, 101, 100]]) (by simp) (by simp)) ⟨ke rfl, ⟨_, rfl, full_le _ _⟩, trivial⟩) ?_
 refine Cx.ef 4 rfl rfl (by decide) (ef_callc rfl rfl (by decide) rfl (w_Item) ⟨ke rfl, ke rfl, trivial⟩) (xo rfl (fun _ => ok_buildSlice (xs := [.tmp 117]) (rows := [_]) rfl rfl Tryz.underlying29 sz91 z91 rfl (by decide) ⟨⟨(by exact rfl), (VL.le (vl rfl) (agg_cellsP _))⟩, trivial⟩ (by decide)) ?_)
 refine Cx.ef 1 rfl rfl (by decide) (ef_append rfl rfl (by decide) rfl Tryz.underlying29 sz91 by91 z91 rfl (by decide) ⟨_, rfl, andIs_le _ _⟩ ⟨_, rfl, full_le _ _⟩ (by simp only [List.length_append, List.length_replicate, List.length_cons, List.length_nil, List.length_map]; unfold maxLen; omega) (by simp only [List.length_append, List.length_replicate, List.length_cons, List.length_nil, List.length_map]; omega) (appR_is (by exact List.Mem.head _) ⟨_, rfl, andIs_is _ _⟩)) ?_
 refine xo rfl (fun _ => okp_fieldAddr rfl fo31_2 (vl rfl)) (Cx.ef0 2 rfl rfl (ef_storeS rfl rfl rfl (vl rfl) rfl sz29 (by exact Nat.le_of_ble_eq_true rfl)) ?_)
 refine Cx.nil ⟨rfl, ?_⟩
 refine FinX.open2 1 2 119 rfl rfl (by decide) rfl (fun v6 => ?_)
 refine FinX.done (AllC.cons (AllC.cons (AllC.cons (AllC.cons (AllC.cons (AllC.cons (AllC.map _))))))) (Fin.openD 4 rfl (fun s1 => ?_))
 refine Fin.block (Fin.go (Tr.drop 0 (wk4 0 2 3 10 rfl (Tr.reg0 (cm rfl (csu rfl rfl rfl rfl (by omega) (cm rfl (Ch.nil (Fin.reC 1 [slice 9 (es.map rowEp), (Cp.ex fun m : Nat => slice 2 (List.replicate m edR)), andIs v6 (slice 5 (List.replicate (mi + 1) itemR))] rfl ⟨Pr.le_refl _, Pr.le_refl _, own_le (by rw [rep_one]), trivial⟩ (Fin.famD3V1 (q - 1) (mi + 1) (_) v6 (⟨⟨by omega, by omega⟩, by omega⟩) ⟨⟨_, rfl, int_eq (by omega)⟩, ke rfl, ke rfl, ke rfl, trivial⟩ (fun _ _ h => h)))))))))))
 have hq3 : ¬ 0 < q := of_decide_eq_false h9
 refine Tr.exit (Fin.then_exit (Fin.then_exit (Fin.block_here (Fin.go (Tr.seq (Tr.regT (TO.rd 1 rfl rfl rfl (by decide) (rd_loadA rfl agg31 sz31 (vl rfl) rfl rfl) (TO.store_all 2 rfl rfl rfl (vl rfl) (VL.le (vl rfl) (agg_cellsP _)) rfl sz31 rfl rfl (TO.nil (Fin.go (Tr.ret (Fin.closeD 3 _ rfl rfl (Fin.retY1 [_, _, _] rfl (RVal.cell 2 rfl rfl agg31 sz31 rfl (Pr.le_refl _)) ?_ (fun _ _ _ _ => rfl))))))))))))))
 · exact ex_in es (fact_in ⟨⟨by omega, by omega⟩, hk3⟩ (agg_le ⟨Pr.le_refl _, Pr.le_refl _, Pr.le_trans (andIs_le _ _) (ex_in mi (Pr.le_refl _)), trivial⟩))
 refine Tr.skip (Fin.go (Tr.seq (Tr.seq ?_)))
 have hv9 := s3.val_in (n := 3) (by omega)
 refine Tr.reC 1 [slice 9 (es.map rowEp), (Cp.ex fun m : Nat => slice 2 (List.replicate m edR)), is (.slice none 0 0)] rfl ⟨Pr.le_refl _, Pr.le_trans (andIs_le _ _) (ex_in m (Pr.le_refl _)), Pr.le_refl _, trivial⟩ (Tr.drop 0 (Tr.regT (tm rfl (TO.efc 2 rfl rfl (by decide) (ef_callc rfl rfl (by decide) rfl (w_DNext (by omega) (by omega)) ⟨ke rfl, ke rfl, trivial⟩) (tm rfl (TO.nil (Fin.go (wk4 0 2 3 10 rfl (Tr.block (Tr.reC 0 [slice 9 (es.map rowEp), (Cp.ex fun m : Nat => slice 2 (List.replicate m edR)), andIs (.slice none 0 0) (slice 5 (List.replicate 0 itemR))] rfl ⟨Pr.le_refl _, Pr.le_refl _, own_nil rfl, trivial⟩ (Tr.addnil 91 5 (Tr.loopD3V1 [(0, _), (2, _), (3, _)] ⟨ke rfl, ke rfl, ke rfl, trivial⟩ (fun (q : Int) (mi : Nat) (s5 : DS) x => [(10, int q)]) (fun (q : Int) (mi : Nat) (s5 : DS) x => Hp M0 w0 S (appRes 91 5 x :: cellsRes true b2 31 [slice 9 (es.map rowEp), (Cp.ex fun m : Nat => slice 2 (List.replicate m edR)), andIs x (slice 5 (List.replicate mi itemR))] :: cellsRes true b1 31 (([.slice none 0 0, .slice none 0 0, .slice none 0 0] : List Value).map is) :: diceS b s5 :: extRes M1 w1 :: rs)) (fun (q : Int) (mi : Nat) (s5 : DS) => 0 ≤ q ∧ q + mi ≤ 3) (fun (q : Int) (mi : Nat) (s5 : DS) => q.toNat) (_) (0) (_) (.slice none 0 0) (⟨by omega, by omega⟩) ⟨ke rfl, trivial⟩ (fun _ _ h => h) ?_))))))))))))
 rintro q mi s5 x ⟨hq1, hq2⟩
 refine Tr.seq (Tr.seq (Tr.reg0 (cm rfl (co rfl (ki rfl rfl rfl rfl) (Ch.nil (Fin.go ?_))))))
 refine Tr.cn rfl ?_ ?_ <;> intro h10 q10
 have hq3 : 0 < q := of_decide_eq_true h10
 refine Tr.skip (Fin.go (Tr.seq (Tr.block (Tr.pad (Tr.regX mixed [none, some (0, 2, false, 0), none, none, none, some (0, 4, true, 0), some (0, 4, true, 0), none, some (0, 1, true, 119), none, some (0, 2, true, 119)] (by kernel_rfl) (xo rfl (fun _ => okp_fieldAddr rfl fo31_2 (vl rfl)) (xrd 2 rfl rfl (rd_load1 rfl one29 (vl rfl) rfl) (xm rfl (xm rfl (xo rfl (fun _ => ok_buildSlice (xs := [.const (.string ⟨[98, 97, 99, 107, 117, 112].toArray⟩), .const (.string ⟨[100, 101, 101, 100].toArray⟩)]) (rows := [[_], [_]]) rfl rfl Tryz.underlying83 sz9 z9 rfl (by decide) ⟨⟨(by exact rfl), (VL.le (vl rfl) (one_cellsP _))⟩, ⟨⟨(by exact rfl), (VL.le (vl rfl) (one_cellsP _))⟩, trivial⟩⟩ (by decide)) ?_))))))))))
 refine Cx.ef 4 rfl rfl (by decide) (ef_callc rfl rfl (by decide) rfl (w_DWordE (l := [[98, 97, 99, 107, 117, 112], [100, 101, 101, 100]]) (by simp) (by simp)) ⟨ke rfl, ⟨_, rfl, full_le _ _⟩, trivial⟩) ?_
 refine Cx.ef 4 rfl rfl (by decide) (ef_callc rfl rfl (by decide) rfl (w_Item) ⟨ke rfl, ke rfl, trivial⟩) (xo rfl (fun _ => ok_buildSlice (xs := [.tmp 117]) (rows := [_]) rfl rfl Tryz.underlying29 sz91 z91 rfl (by decide) ⟨⟨(by exact rfl), (VL.le (vl rfl) (agg_cellsP _))⟩, trivial⟩ (by decide)) ?_)
 refine Cx.ef 1 rfl rfl (by decide) (ef_append rfl rfl (by decide) rfl Tryz.underlying29 sz91 by91 z91 rfl (by decide) ⟨_, rfl, andIs_le _ _⟩ ⟨_, rfl, full_le _ _⟩ (by simp only [List.length_append, List.length_replicate, List.length_cons, List.length_nil, List.length_map]; unfold maxLen; omega) (by simp only [List.length_append, List.length_replicate, List.length_cons, List.length_nil, List.length_map]; omega) (appR_is (by exact List.Mem.head _) ⟨_, rfl, andIs_is _ _⟩)) ?_
 refine xo rfl (fun _ => okp_fieldAddr rfl fo31_2 (vl rfl)) (Cx.ef0 2 rfl rfl (ef_storeS rfl rfl rfl (vl rfl) rfl sz29 (by exact Nat.le_of_ble_eq_true rfl)) ?_)
 refine Cx.nil ⟨rfl, ?_⟩
 refine FinX.open2 1 2 119 rfl rfl (by decide) rfl (fun v7 => ?_)
 refine FinX.done (AllC.cons (AllC.cons (AllC.cons (AllC.cons (AllC.cons (AllC.cons (AllC.map _))))))) (Fin.openD 4 rfl (fun s2 => ?_))
 refine Fin.block (Fin.go (Tr.drop 0 (wk4 0 2 3 10 rfl (Tr.reg0 (cm rfl (csu rfl rfl rfl rfl (by omega) (cm rfl (Ch.nil (Fin.reC 1 [slice 9 (es.map rowEp), (Cp.ex fun m : Nat => slice 2 (List.replicate m edR)), andIs v7 (slice 5 (List.replicate (mi + 1) itemR))] rfl ⟨Pr.le_refl _, Pr.le_refl _, own_le (by rw [rep_one]), trivial⟩ (Fin.famD3V1 (q - 1) (mi + 1) (_) v7 (⟨⟨by omega, by omega⟩, by omega⟩) ⟨⟨_, rfl, int_eq (by omega)⟩, ke rfl, ke rfl, ke rfl, trivial⟩ (fun _ _ h => h)))))))))))
 have hq3 : ¬ 0 < q := of_decide_eq_false h10
 refine Tr.exit (Fin.then_exit (Fin.then_exit (Fin.block_here (Fin.go (Tr.seq (Tr.regT (TO.rd 1 rfl rfl rfl (by decide) (rd_loadA rfl agg31 sz31 (vl rfl) rfl rfl) (TO.store_all 2 rfl rfl rfl (vl rfl) (VL.le (vl rfl) (agg_cellsP _)) rfl sz31 rfl rfl (TO.nil (Fin.go (Tr.ret (Fin.closeD 3 _ rfl rfl (Fin.retY1 [_, _, _] rfl (RVal.cell 2 rfl rfl agg31 sz31 rfl (Pr.le_refl _)) ?_ (fun _ _ _ _ => rfl))))))))))))))
 · exact ex_in es (fact_in ⟨⟨by omega, by omega⟩, hk3⟩ (agg_le ⟨Pr.le_refl _, Pr.le_refl _, Pr.le_trans (andIs_le _ _) (ex_in mi (Pr.le_refl _)), trivial⟩))
end Go.Proofs.YtflodcidhlmaaaaGreat
namespace Go.Proofs.YtflodcidhlmaaaaGreat
open Go Go.RowKit Cp

abbrev sndS : List (List Int) := optS ++ optS.map (14 :: ·)
theorem sndE_suites {i : Nat} {e : Ept} (h : SndE i e) : e.suites ∈ sndS := by
  rcases h.suites with h | ⟨l, h, h2⟩
  · exact List.mem_append_left _ h
  · rw [h2]; exact List.mem_append_right _ (List.mem_map_of_mem h)
theorem sndS_ok : ∀ l ∈ sndS, suitesB l = true ∧ l.length ≤ 5 := by decide +kernel
theorem name_ok : ∀ n ∈ nameL, wordB n = true ∧ n.length ≤ 3 := by decide +kernel
theorem sndE_fits {i : Nat} {e : Ept} (h : SndE i e) : e.fits := by
  have hn := name_ok _ (List.mem_of_getElem? h.name)
  obtain ⟨s, hs1, hs2⟩ := h.ids
  refine ⟨by unfold maxLen; omega, fun x hx c hc => ?_⟩
  rw [hs2] at hx; simp at hx; subst hx; simp at hc; subst hc
  exact ⟨by show 4 ≤ maxLen; unfold maxLen; omega, by show e.name.length ≤ maxLen; unfold maxLen; omega, fun n hn2 => by simp at hn2; subst hn2; unfold maxLen; omega⟩
theorem sndE_small {i : Nat} {e : Ept} (h : SndE i e) : e.small := by
  have hs := sndS_ok _ (sndE_suites h)
  obtain ⟨s, hs1, hs2⟩ := h.ids
  refine ⟨by omega, by rw [h.anchors]; simp, by rw [h.hashes]; simp, by rw [hs2]; simp, fun x hx => ?_⟩
  rw [hs2] at hx; simp at hx; subst hx
  exact ⟨by simp, fun c hc => by simp at hc; subst hc; simp⟩
theorem id0_fits : zeroId.fits := fun c hc => by cases hc
abbrev eA (s : List Int) : Ept := ⟨[97, 112, 112], 1, 3, s, false, [], [], [], false⟩
theorem eA_fits (s : List Int) : (eA s).fits := ⟨by show 3 ≤ maxLen; unfold maxLen; omega, fun x hx => by cases hx⟩
theorem eA_small {s : List Int} (h : s.length ≤ 4) : (eA s).small := ⟨by show s.length ≤ _; omega, by show 0 ≤ _; omega, by show 0 ≤ _; omega, by show 0 ≤ _; omega, fun x hx => by cases hx⟩
theorem done_awake : doneR (eA [10, 8]) ⟨0, 2, 8, 0, zeroId⟩ = (eA [10], ⟨0, 1, 8, 1, zeroId⟩, 0) := by
  refine doneR_ok (e2 := eA [10]) (b := ⟨0, 1, 8, 1, zeroId⟩) (by decide) (by decide) ?_ (by decide)
  rfl


theorem ap_of {e : Ept} {c : Chg} {e2 : Ept} {b : Chg} {f : Int} (h : doneR e c = (e2, b, f)) (hf : e.fits) (hsm : e.small) (hcf : c.idn.fits) (hcs : c.idn.small) : Fun Tryz.prog 22 [agg (rowEp e), agg (rowChg c)] (tup [agg (rowEp e2), int f]) := by
  have := w_Apply24 hf hsm hcf hcs; rw [h] at this; exact this
theorem iv_of {e : Ept} {c : Chg} {e2 : Ept} {b : Chg} {f : Int} (h : doneR e c = (e2, b, f)) (hf : e.fits) (hsm : e.small) (hcf : c.idn.fits) (hcs : c.idn.small) : Fun Tryz.prog 25 [agg (rowEp e), agg (rowChg c)] (tup [agg (rowChg b), int f]) := by
  have := w_Inverse24 hf hsm hcf hcs; rw [h] at this; exact this

set_option maxRecDepth 20000 in
theorem w_awake24   : Fun Tryz.prog 21 [] (bool true) := by
 refine Fun.of Tryz.func21 rfl rfl (by exact Nat.le_of_ble_eq_true rfl) fun M0 w0 => ?_
 refine Tr.seq (Tr.reg0 (cm rfl (Ch.nil (Fin.go (Tr.seq (Tr.regT (tp rfl (ok_buildSlice (xs := [.const (.int .i64 (10)), .const (.int .i64 (8))]) (rows := [[_], [_]]) rfl rfl Tryz.underlying22 sz3 z3 rfl (by decide) ⟨⟨(by exact rfl), (VL.le (vl rfl) (one_cellsP _))⟩, ⟨⟨(by exact rfl), (VL.le (vl rfl) (one_cellsP _))⟩, trivial⟩⟩ (by decide)) ?_)))))))
 refine tp rfl (ok_build (rows := [(0, [_]), (1, [_]), (2, [_]), (3, [_])]) rfl bl35 zo35 ⟨⟨rfl, (VL.le (vl rfl) (one_cellsP _))⟩, ⟨⟨rfl, (VL.le (vl rfl) (one_cellsP _))⟩, ⟨⟨rfl, (VL.le (vl rfl) (one_cellsP _))⟩, ⟨⟨rfl, ⟨_, rfl, Pr.le_trans (full_le _ _) (one_cellsP _)⟩⟩, trivial⟩⟩⟩⟩ rfl) ?_
 refine TO.alloc rfl rfl (by decide) rfl z35 zo35 (fun b1 => ?_)
 refine TO.store_all 0 rfl rfl rfl (vl rfl) (VL.le (vl rfl) (agg_cellsP _)) rfl sz35 rfl rfl (TO.freeze 0 1 rfl rfl (TO.nil (Fin.go (Tr.seq (Tr.regT (tp rfl (ok_build (rows := [(1, [_]), (2, [_])]) rfl bl49 zo49 ⟨⟨rfl, (VL.le (vl rfl) (one_cellsP _))⟩, ⟨⟨rfl, (VL.le (vl rfl) (one_cellsP _))⟩, trivial⟩⟩ rfl) ?_))))))
 refine TO.alloc rfl rfl (by decide) rfl z49 zo49 (fun b2 => ?_)
 refine TO.store_all 0 rfl rfl rfl (vl rfl) (VL.le (vl rfl) (agg_cellsP _)) rfl sz49 rfl rfl (TO.freeze 0 2 rfl rfl (TO.nil (Fin.go (Tr.seq (Tr.regT (tp rfl (ok_loadA rfl agg35 sz35 (vl rfl) rfl rfl) (tp rfl (ok_loadA rfl agg49 sz49 (vl rfl) rfl rfl) (tp rfl (ok_call rfl (ap_of done_awake (eA_fits _) (eA_small (by simp)) id0_fits id0_small) ⟨⟨_, rfl, agg_le ⟨Pr.le_refl _, Pr.le_refl _, Pr.le_refl _, Pr.le_refl _, Pr.le_refl _, nil_slice 4, nil_slice 1, nil_slice 1, Pr.le_refl _, trivial⟩⟩, ⟨_, rfl, agg_le ⟨Pr.le_refl _, Pr.le_refl _, Pr.le_refl _, Pr.le_refl _, Pr.le_refl _, Pr.le_refl _, Pr.le_refl _, nil_slice 15, trivial⟩⟩, trivial⟩) (tm rfl (tp rfl (ok_extract rfl (vl rfl) rfl) (tp rfl (ok_extract rfl (vl rfl) rfl) ?_)))))))))))
 refine TO.alloc rfl rfl (by decide) rfl z35 zo35 (fun b3 => ?_)
 refine TO.store_all 0 rfl rfl rfl (vl rfl) (VL.le (vl rfl) (agg_cellsP _)) rfl sz35 rfl rfl (TO.freeze 0 3 rfl rfl (tm rfl (TO.nil (Fin.go (wk4 1 2 3 4 rfl (Tr.seq (Tr.regT (tp rfl (ok_loadA rfl agg35 sz35 (vl rfl) rfl rfl) (tp rfl (ok_loadA rfl agg49 sz49 (vl rfl) rfl rfl) (tp rfl (ok_call rfl (iv_of done_awake (eA_fits _) (eA_small (by simp)) id0_fits id0_small) ⟨⟨_, rfl, agg_le ⟨Pr.le_refl _, Pr.le_refl _, Pr.le_refl _, Pr.le_refl _, Pr.le_refl _, nil_slice 4, nil_slice 1, nil_slice 1, Pr.le_refl _, trivial⟩⟩, ⟨_, rfl, agg_le ⟨Pr.le_refl _, Pr.le_refl _, Pr.le_refl _, Pr.le_refl _, Pr.le_refl _, Pr.le_refl _, Pr.le_refl _, nil_slice 15, trivial⟩⟩, trivial⟩) (tm rfl (tp rfl (ok_extract rfl (vl rfl) rfl) (tp rfl (ok_extract rfl (vl rfl) rfl) ?_)))))))))))))
 refine TO.alloc rfl rfl (by decide) rfl z49 zo49 (fun b4 => ?_)
 refine TO.store_all 0 rfl rfl rfl (vl rfl) (VL.le (vl rfl) (agg_cellsP _)) rfl sz49 rfl rfl (TO.freeze 0 5 rfl rfl (tm rfl (TO.nil (Fin.go (wk4 3 4 5 6 rfl (Tr.seq (Tr.reg0 (cm rfl (co rfl (ki rfl rfl rfl rfl) (cm rfl ?_))))))))))
 refine Ch.cs 24 rfl ?_ ?_ <;> intro h1 q1
 refine cym h1 rfl (cy h1 rfl (ki rfl rfl rfl rfl) (co rfl (kpt rfl rfl h1 rfl) (cm rfl ?_)))
 refine Ch.cs 28 rfl ?_ ?_ <;> intro h2 q2
 refine cy h2 rfl (kfa rfl fo35_3 rfl rfl) (cy h2 rfl (kl1 rfl one22 rfl) (cy h2 rfl (ok_lenm rfl Tryz.underlying22 (vl rfl)) (cy h2 rfl (ki rfl rfl rfl rfl) (co rfl (kpt rfl rfl h2 rfl) (cm rfl ?_)))))
 refine Ch.cs 34 rfl ?_ ?_ <;> intro h3 q3
 refine cy h3 rfl (kfa rfl fo49_1 rfl rfl) (cy h3 rfl (kl1 rfl one3 rfl) (cy h3 rfl (ki rfl rfl rfl rfl) (co rfl (kpt rfl rfl h3 rfl) (cm rfl ?_))))
 refine Ch.cs 39 rfl ?_ ?_ <;> intro h4 q4
 refine cy h4 rfl (kfa rfl fo49_3 rfl rfl) (cy h4 rfl (kl1 rfl one3 rfl) (cy h4 rfl (ki rfl rfl rfl rfl) (co rfl (kpt rfl rfl h4 rfl) (cm rfl ?_))))
 refine Ch.cs 44 rfl ?_ ?_ <;> intro h5 q5
 refine cy h5 rfl (kfa rfl fo49_2 rfl rfl) (cy h5 rfl (kl1 rfl one3 rfl) (cy h5 rfl (ki rfl rfl rfl rfl) (co rfl (kpt rfl rfl h5 rfl) (cm rfl (Ch.nil (Fin.go (wk1 0 rfl (Tr.ret (Fin.ret1 rfl (OutW.bse _ _) rfl ?_)))))))))
 · exact Pr.le_refl _
 exact absurd h5 (by decide)
 exact absurd h4 (by decide)
 exact absurd h3 (by decide)
 exact absurd h2 (by decide)
 exact absurd h1 (by decide)
end Go.Proofs.YtflodcidhlmaaaaGreat
namespace Go.Proofs.YtflodcidhlmaaaaGreat
open Go Go.RowKit Cp

theorem abrow {v : Int} (h : 0 ≤ v ∧ v < 2) : ([[int 7, int 256], [int 5, int 2048]] : List (List Pr))[v.toNat]? = some [int (if v = 0 then 7 else 5), int (if v = 0 then 256 else 2048)] := by
  have : v = 0 ∨ v = 1 := by omega
  rcases this with rfl | rfl <;> rfl
theorem abok (v : Int) : ((if v = 0 then 7 else 5 : Int) = 5 ∧ (if v = 0 then 256 else 2048 : Int) = 2048) ∨ ((if v = 0 then 7 else 5 : Int) = 7 ∧ (if v = 0 then 256 else 2048 : Int) = 256) := by split <;> simp
theorem leafV {nm : List UInt8} (h : nm ∈ nameL) {a b id key s : Int} (hab : (a = 5 ∧ b = 2048) ∨ (a = 7 ∧ b = 256)) (hid : 0 ≤ id ∧ id ≤ 1000) (hs : 0 ≤ s ∧ s < 4294967296) (hk : 0 ≤ key ∧ key ≤ 2) : validB (leafC nm a b id 901 key s) = true := by
  have hn : named nm = true := by
    revert h; unfold nameL; intro hm; simp at hm
    rcases hm with rfl | rfl | rfl <;> decide
  have hof : ofB a b 2 = true := by rcases hab with ⟨rfl, rfl⟩ | ⟨rfl, rfl⟩ <;> decide +kernel
  refine of_vf ⟨?_, ?_, by show named [114, 111, 111, 116] = true; decide, hn, ?_, hof, ?_, ?_, by show ofB 3 0 1 = true; decide +kernel, hk.1, ?_, hs.1, hs.2, by show (0 : Int) ≤ 0; omega, by show (0 : Int) ≤ 901; omega, by show (901 : Int) ≤ 40000; omega, by show (0 : Int) ≤ 0; omega, by show (0 : Int) ≤ 8; omega, .inr rfl⟩
  · show 0 ≤ id; omega
  · show id ≤ _; omega
  · show namesB [nm] = true
    unfold namesB; rw [Bool.and_eq_true]; refine ⟨allI_iff.2 fun j hj => ?_, by simp⟩
    have : j = 0 := by simp at hj; omega
    subst this; unfold nameAt; simp [hn]
  · show 0 ≤ id; omega
  · show id ≤ _; omega
  · show key ≤ _; omega
theorem leafT {nm : List UInt8} {a b id : Int} (hab : (a = 5 ∧ b = 2048) ∨ (a = 7 ∧ b = 256)) (hid : 0 ≤ id ∧ id ≤ 1000) : (leafC nm a b id 901 0 0).tiny :=
  ⟨by show id ≤ 40000; omega, by show id ≤ 40000; omega, ⟨by show (0 : Int) ≤ a; omega, by show a ≤ 40000; omega⟩, ⟨by show (0 : Int) ≤ b; omega, by show b ≤ 40000; omega⟩, ⟨by show (0 : Int) ≤ 3; omega, by show (3 : Int) ≤ 40000; omega⟩, ⟨by show (0 : Int) ≤ 0; omega, by show (0 : Int) ≤ 40000; omega⟩⟩
/-- A change of one of these endpoints. -/
structure AnyP (es : List Ept) (c : Chg) : Prop where
  lo : 0 ≤ c.endpoint
  hi : c.endpoint < (es.length : Nat)
  kind : 1 ≤ c.kind ∧ c.kind ≤ 12
  fits : c.idn.fits
  small : c.idn.small
abbrev sumP (nm : List UInt8) (a b id to key : Int) : Pr := Cp.ex fun s : Int => fact (0 ≤ s ∧ s < 4294967296) (certs [leafC nm a b id to key s])
theorem leaf_cells {nm : List UInt8} {a b id to key : Int} : (leafE nm a b id to key).le (cellsP [int a, int b, int id, sumP nm a b id to key]) := by
  intro M w v ⟨s, hs, hv⟩
  exact (agg_cellsP [int a, int b, int id, sumP nm a b id to key]) M w v (agg_le (ps := rowId (leafI nm a b id to key s)) (qs := [int a, int b, int id, sumP nm a b id to key]) ⟨Pr.le_refl _, Pr.le_refl _, Pr.le_refl _, fun M w v h => ⟨s, hs, h⟩, trivial⟩ M w v hv)
theorem hl_exL {β : Type} {f : β → Pr} {M : Av} {w : World} : ∀ {ps : List Pr} {cs : List Value}, HL M w (ps ++ [Cp.ex f]) cs → ∃ s, HL M w (ps ++ [f s]) cs
  | [], [c], h => by obtain ⟨⟨s, hs⟩, h2⟩ := h; exact ⟨s, hs, h2⟩
  | [], [], h => h.elim
  | [], _ :: _ :: _, h => h.2.elim
  | p :: ps, [], h => h.elim
  | p :: ps, c :: cs, h => by obtain ⟨s, hs⟩ := hl_exL (ps := ps) (cs := cs) h.2; exact ⟨s, h.1, hs⟩
theorem hl_factL {φ : Prop} {p0 : Pr} {M : Av} {w : World} : ∀ {ps : List Pr} {cs : List Value}, HL M w (ps ++ [fact φ p0]) cs → HL M w (ps ++ [p0]) cs
  | [], [c], h => ⟨h.1.2, h.2⟩
  | [], [], h => h.elim
  | [], _ :: _ :: _, h => h.2.elim
  | p :: ps, [], h => h.elim
  | p :: ps, c :: cs, h => ⟨h.1, hl_factL (ps := ps) (cs := cs) h.2⟩
theorem any_leaf {es : List Ept} {p0 p1 p2 p3 : Int} {nm : List UInt8} {a b id key : Int} (h : ∀ s : Int, AnyP es ⟨p0, p1, p2, p3, leafI nm a b id 901 key s⟩) : (agg [int p0, int p1, int p2, int p3, int a, int b, int id, sumP nm a b id 901 key]).le (Cp.ex fun c : Chg => fact (AnyP es c) (agg (rowChg c))) := by
  intro M w v ⟨cs, h1, h2, h3⟩
  obtain ⟨s, h4⟩ := hl_exL (ps := [int p0, int p1, int p2, int p3, int a, int b, int id]) h3
  exact ⟨⟨p0, p1, p2, p3, leafI nm a b id 901 key s⟩, h s, cs, h1, h2, hl_factL (ps := [int p0, int p1, int p2, int p3, int a, int b, int id]) h4⟩
theorem leafF {nm : List UInt8} (h : nm ∈ nameL) {a b id key s : Int} : (leafI nm a b id 901 key s).fits ∧ (leafI nm a b id 901 key s).small := by
  have hn := (name_ok _ h).2
  refine ⟨fun c hc => ?_, ⟨by simp, fun c hc => by simp at hc; subst hc; simp⟩⟩
  simp at hc; subst hc
  exact ⟨by show 4 ≤ maxLen; unfold maxLen; omega, by show nm.length ≤ maxLen; unfold maxLen; omega, fun n hn2 => by simp at hn2; subst hn2; unfold maxLen; omega⟩

set_option maxRecDepth 20000 in
set_option maxHeartbeats 4000000 in
theorem w_Any {b : Nat} {s : DS} {es : List Ept} {p1 p2 : Pr} (hs : SndL es) (hl : 1 ≤ es.length ∧ es.length ≤ 3) : FunM Tryz.prog 16 [ptr b 0, agg [slice 9 (es.map rowEp), p1, p2]] (Cp.ex fun c : Chg => fact (AnyP es c) (agg (rowChg c))) (diceS b s) (fun _ => diceEx 82 b) := by
 refine FunM.of Tryz.func16 rfl rfl (by exact Nat.le_of_ble_eq_true rfl) fun M0 w0 S rs M1 w1 => ?_
 have hv := s.val_in (n := es.length) (by omega)
 obtain ⟨e, he⟩ := at_ (l := es) (k := (s.val es.length).toNat) (by omega)
 have hse := hs _ e he
 have hnm := List.mem_of_getElem? hse.name
 have hsl := (sndS_ok _ (sndE_suites hse)).2
 obtain ⟨y0, hy0⟩ : ∃ y0, e.ids = [y0] := by obtain ⟨s_, _, h_⟩ := hse.ids; exact ⟨_, h_⟩
 have hil : e.ids.length = 1 := by rw [hy0]; rfl
 have hv2 := s.adv.val_in (n := 12) (by omega)
 have hv3 := s.adv.adv.val_in (n := 16) (by omega)
 have hv4 := s.adv.adv.val_in (n := 4) (by omega)
 have hv5 := s.adv.adv.val_in (n := 3) (by omega)
 have hv6 := s.adv.adv.adv.val_in (n := 2) (by omega)
 have hv7 := s.adv.adv.adv.adv.val_in (n := 3) (by omega)
 have hv8 := s.adv.adv.adv.adv.adv.val_in (n := 2) (by omega)
 refine Tr.seq (Tr.regT (tp rfl (ok_box rfl (VL.le (vl rfl) (agg_cellsP _))) ?_))
 refine TO.alloc rfl rfl (by decide) rfl z49 zo49 (fun b1 => ?_)
 refine TO.nil (Fin.go (Tr.seq (Tr.regT (tm rfl (tp rfl (kfa rfl fo31_0 rfl rfl) (tp rfl (kl1 rfl one27 rfl) (tp rfl (ok_lenm rfl Tryz.underlying27 (vl rfl)) (TO.efc 1 rfl rfl (by decide) (ef_callc rfl rfl (by decide) rfl (w_DNext (by omega) (by omega)) ⟨ke rfl, ke rfl, trivial⟩) (tm rfl (TO.nil (Fin.go (Tr.seq (Tr.regT ?_)))))))))))))
 refine tp rfl (kfa rfl fo31_0 rfl rfl) (tp rfl (kl1 rfl one27 rfl) (tm rfl (tp rfl (ok_indexAddr rfl Tryz.underlying27 sz35 (vl rfl) (vl rfl) (by omega) (row_atI he)) (tp rfl (ok_loadA rfl agg35 sz35 (vl rfl) rfl rfl) ?_))))
 refine TO.alloc rfl rfl (by decide) rfl z35 zo35 (fun b2 => ?_)
 refine TO.store_all 0 rfl rfl rfl (vl rfl) (VL.le (vl rfl) (agg_cellsP _)) rfl sz35 rfl rfl (TO.freeze 0 6 rfl rfl (TO.nil (Fin.go (wk4 0 4 5 6 rfl (Tr.seq (Tr.regT (tm rfl (tm rfl (TO.efc 1 rfl rfl (by decide) (ef_callc rfl rfl (by decide) rfl (w_DNext (by omega) (by omega)) ⟨ke rfl, ke rfl, trivial⟩) ?_)))))))))
 refine tp rfl (ok_add rfl (vl rfl) (vl rfl) ?hin) ?_; case hin => unfold InI; omega
 refine tp rfl (ok_build (rows := [(0, [_]), (1, [_])]) rfl bl49 zo49 ⟨⟨rfl, (VL.le (vl rfl) (one_cellsP _))⟩, ⟨⟨rfl, (VL.le (vl rfl) (one_cellsP _))⟩, trivial⟩⟩ rfl) ?_
 refine TO.alloc rfl rfl (by decide) rfl z49 zo49 (fun b3 => ?_)
 refine TO.store_all 0 rfl rfl rfl (vl rfl) (VL.le (vl rfl) (agg_cellsP _)) rfl sz49 rfl rfl (TO.nil (Fin.go (Tr.seq (Tr.seq (Tr.reg0 (co rfl (okp_fieldAddr rfl fo49_1 (vl rfl)) (co rfl (ok_rd 0 rfl (rd_load1 rfl one3 (vl rfl) rfl)) (Ch.nil (Fin.go (Tr.block (Tr.seq (Tr.reg0 (co rfl (ki rfl rfl rfl rfl) ?_)))))))))))))
 refine cm rfl (Ch.nil (Fin.go (wk6 0 4 6 7 24 25 rfl ?_)))
 refine Tr.cn rfl ?_ ?_ <;> intro h1 q1
 refine Tr.regX mixed [none, some (0, 2, true, 0), none, none, none, none, none, none, some (0, 2, true, 0), none, some (0, 0, true, 0), none, some (0, 0, true, 0)] (by kernel_rfl) (xm rfl (Cx.ef 2 rfl rfl (by decide) (ef_callc rfl rfl (by decide) rfl (w_DNext (by omega) (by omega)) ⟨ke rfl, ke rfl, trivial⟩) ?_))
 refine xo rfl (fun _ => ok_add rfl (vl rfl) (vl rfl) ?hin) ?_; case hin => unfold InI; omega
 refine xm rfl (xo rfl (fun _ => kfa rfl fo35_3 rfl rfl) (xo rfl (fun _ => kl1 rfl one22 rfl) (xo rfl (fun _ => ok_lenm rfl Tryz.underlying22 (vl rfl)) ?_)))
 refine xo rfl (fun _ => ok_add rfl (vl rfl) (vl rfl) ?hin) ?_; case hin => unfold InI; omega
 refine Cx.ef 2 rfl rfl (by decide) (ef_callc rfl rfl (by decide) rfl (w_DNext (by omega) (by omega)) ⟨ke rfl, ke rfl, trivial⟩) (xo rfl (fun _ => okp_fieldAddr rfl fo49_2 (vl rfl)) (Cx.ef0 0 rfl rfl (ef_store rfl rfl (vl rfl) (VL.le (vl rfl) (one_cellsP _)) sz3 rfl (by exact Nat.le_of_ble_eq_true rfl) rfl) (xo rfl (fun _ => okp_fieldAddr rfl fo49_3 (vl rfl)) (Cx.ef0 0 rfl rfl (ef_store rfl rfl (vl rfl) (VL.le (vl rfl) (one_cellsP _)) sz3 rfl (by exact Nat.le_of_ble_eq_true rfl) rfl) ?_))))
 refine Cx.nil ⟨rfl, ?_⟩
 refine FinX.done (AllC.cons (AllC.cons (AllC.cons (AllC.cons (AllC.map _))))) (Fin.block (Fin.go (wk2 4 7 rfl (Tr.seq (Tr.regT (TO.rd 0 rfl rfl rfl (by decide) (rd_loadA rfl agg49 sz49 (vl rfl) rfl rfl) (TO.store_all 1 rfl rfl rfl (vl rfl) (VL.le (vl rfl) (agg_cellsP _)) rfl sz49 rfl rfl (TO.nil (Fin.go (Tr.drop 0 (Tr.ret (Fin.closeD 1 _ rfl rfl (Fin.retY1 [_] rfl (RVal.cell 0 rfl rfl agg49 sz49 rfl (Pr.le_refl _)) ?_ (fun _ _ _ _ => rfl))))))))))))))
 · (refine ex_in ⟨_, _, _, _, zeroId⟩ (fact_in ?_ (agg_le ⟨Pr.le_refl _, Pr.le_refl _, Pr.le_refl _, Pr.le_refl _, Pr.le_refl _, Pr.le_refl _, Pr.le_refl _, nil_slice 15, trivial⟩)); exact ⟨hv.1, hv.2, ⟨by show 1 ≤ 1 + _; omega, by show 1 + _ ≤ 12; omega⟩, id0_fits, id0_small⟩)
 refine Tr.seq (Tr.reg0 (co rfl (ki rfl rfl rfl rfl) (cm rfl (Ch.nil (Fin.go ?_)))))
 refine Tr.cn rfl ?_ ?_ <;> intro h2 q2
 refine Tr.seq (Tr.regT (tm rfl (TO.efc 2 rfl rfl (by decide) (ef_callc rfl rfl (by decide) rfl (w_DNext (by omega) (by omega)) ⟨ke rfl, ke rfl, trivial⟩) ?_)))
 refine tp rfl (ok_add rfl (vl rfl) (vl rfl) ?hin) ?_; case hin => unfold InI; omega
 refine tp rfl (okp_fieldAddr rfl fo49_2 (vl rfl)) (TO.ef0 0 rfl rfl (ef_store rfl rfl (vl rfl) (VL.le (vl rfl) (one_cellsP _)) sz3 rfl (by exact Nat.le_of_ble_eq_true rfl) rfl) (TO.nil (Fin.go (Tr.seq (Tr.regT (tp rfl (kfa rfl fo35_3 rfl rfl) (tp rfl (kl1 rfl one22 rfl) (tp rfl (ok_lenm rfl Tryz.underlying22 (vl rfl)) (tp rfl (ki rfl rfl rfl rfl) (tm rfl ?_))))))))))
 refine TO.cases 48 rfl (fun h3 => ?_) (fun h3 => ?_)
 have q3 := Nrm.nrm h3
 refine TO.opG rfl rfl rfl h3 rfl (by decide) (ok_move rfl (vl rfl)) (TO.efcG 2 rfl rfl rfl h3 rfl rfl (by decide) (ef_callc rfl rfl (by decide) rfl (w_DOne (by omega) (by omega)) ⟨ke rfl, ke rfl, trivial⟩) (TO.opG rfl rfl rfl h3 rfl (by decide) (ok_not rfl (vl rfl)) (tp rfl (kpt rfl rfl h3 rfl) (TO.nil (Fin.go (wk5 0 4 6 7 52 rfl ?_))))))
 refine Tr.cn rfl ?_ ?_ <;> intro h4 q4
 have hv9 := s.adv.adv.adv.adv.val_in (n := e.suites.length) (by omega)
 obtain ⟨su, hsu⟩ := at_ (l := e.suites) (k := (s.adv.adv.adv.adv.val e.suites.length).toNat) (by omega)
 refine Tr.regX mixed [none, none, none, none, none, none, some (0, 2, true, 0), none, none, none, some (0, 0, true, 0)] (by kernel_rfl) (xo rfl (fun _ => kfa rfl fo35_3 rfl rfl) (xo rfl (fun _ => kl1 rfl one22 rfl) (xm rfl (xo rfl (fun _ => kfa rfl fo35_3 rfl rfl) (xo rfl (fun _ => kl1 rfl one22 rfl) (xo rfl (fun _ => ok_lenm rfl Tryz.underlying22 (vl rfl)) (Cx.ef 2 rfl rfl (by decide) (ef_callc rfl rfl (by decide) rfl (w_DNext (by omega) (by omega)) ⟨ke rfl, ke rfl, trivial⟩) (xo rfl (fun _ => ok_indexAddr rfl Tryz.underlying22 sz3 (vl rfl) (vl rfl) (by omega) (row_atI (f := fun n : Int => [int n]) hsu)) (xo rfl (fun _ => kl1 rfl one3 rfl) (xo rfl (fun _ => okp_fieldAddr rfl fo49_2 (vl rfl)) (Cx.ef0 0 rfl rfl (ef_store rfl rfl (vl rfl) (VL.le (vl rfl) (one_cellsP _)) sz3 rfl (by exact Nat.le_of_ble_eq_true rfl) rfl) ?_)))))))))))
 refine Cx.nil ⟨rfl, ?_⟩
 refine FinX.done (AllC.cons (AllC.cons (AllC.cons (AllC.cons (AllC.map _))))) (Fin.block (Fin.go (wk2 4 7 rfl (Tr.seq (Tr.regT (TO.rd 0 rfl rfl rfl (by decide) (rd_loadA rfl agg49 sz49 (vl rfl) rfl rfl) (TO.store_all 1 rfl rfl rfl (vl rfl) (VL.le (vl rfl) (agg_cellsP _)) rfl sz49 rfl rfl (TO.nil (Fin.go (Tr.drop 0 (Tr.ret (Fin.closeD 1 _ rfl rfl (Fin.retY1 [_] rfl (RVal.cell 0 rfl rfl agg49 sz49 rfl (Pr.le_refl _)) ?_ (fun _ _ _ _ => rfl))))))))))))))
 · (refine ex_in ⟨_, _, _, _, zeroId⟩ (fact_in ?_ (agg_le ⟨Pr.le_refl _, Pr.le_refl _, Pr.le_refl _, Pr.le_refl _, Pr.le_refl _, Pr.le_refl _, Pr.le_refl _, nil_slice 15, trivial⟩)); exact ⟨hv.1, hv.2, ⟨by show 1 ≤ 1 + _; omega, by show 1 + _ ≤ 12; omega⟩, id0_fits, id0_small⟩)
 refine Tr.skip (Fin.block (Fin.go (Tr.seq (Tr.regT (TO.rd 0 rfl rfl rfl (by decide) (rd_loadA rfl agg49 sz49 (vl rfl) rfl rfl) (TO.store_all 1 rfl rfl rfl (vl rfl) (VL.le (vl rfl) (agg_cellsP _)) rfl sz49 rfl rfl (TO.nil (Fin.go (Tr.drop 0 (Tr.ret (Fin.closeD 1 _ rfl rfl (Fin.retY1 [_] rfl (RVal.cell 0 rfl rfl agg49 sz49 rfl (Pr.le_refl _)) ?_ (fun _ _ _ _ => rfl)))))))))))))
 · (refine ex_in ⟨_, _, _, _, zeroId⟩ (fact_in ?_ (agg_le ⟨Pr.le_refl _, Pr.le_refl _, Pr.le_refl _, Pr.le_refl _, Pr.le_refl _, Pr.le_refl _, Pr.le_refl _, nil_slice 15, trivial⟩)); exact ⟨hv.1, hv.2, ⟨by show 1 ≤ 1 + _; omega, by show 1 + _ ≤ 12; omega⟩, id0_fits, id0_small⟩)
 have q3 := Nrm.nrm h3
 refine TO.noG rfl rfl rfl (ne_true h3) rfl (by decide) (TO.noG rfl rfl rfl (ne_true h3) rfl (by decide) (TO.noG rfl rfl rfl (ne_true h3) rfl (by decide) (tp rfl (kpf rfl rfl h3 rfl) (TO.nil (Fin.go (wk5 0 4 6 7 52 rfl (Tr.cond rfl (fun h => nomatch h) (fun _ => ?_))))))))
 refine Tr.skip (Fin.block (Fin.go (Tr.seq (Tr.regT (TO.rd 0 rfl rfl rfl (by decide) (rd_loadA rfl agg49 sz49 (vl rfl) rfl rfl) (TO.store_all 1 rfl rfl rfl (vl rfl) (VL.le (vl rfl) (agg_cellsP _)) rfl sz49 rfl rfl (TO.nil (Fin.go (Tr.drop 0 (Tr.ret (Fin.closeD 1 _ rfl rfl (Fin.retY1 [_] rfl (RVal.cell 0 rfl rfl agg49 sz49 rfl (Pr.le_refl _)) ?_ (fun _ _ _ _ => rfl)))))))))))))
 · (refine ex_in ⟨_, _, _, _, zeroId⟩ (fact_in ?_ (agg_le ⟨Pr.le_refl _, Pr.le_refl _, Pr.le_refl _, Pr.le_refl _, Pr.le_refl _, Pr.le_refl _, Pr.le_refl _, nil_slice 15, trivial⟩)); exact ⟨hv.1, hv.2, ⟨by show 1 ≤ 1 + _; omega, by show 1 + _ ≤ 12; omega⟩, id0_fits, id0_small⟩)
 refine Tr.seq (Tr.seq (Tr.reg0 (co rfl (ki rfl rfl rfl rfl) (cm rfl (Ch.nil (Fin.go ?_))))))
 refine Tr.cn rfl ?_ ?_ <;> intro h5 q5
 refine Tr.skip (Fin.go (Tr.cond rfl (fun _ => ?_) (fun h => nomatch h5.symm.trans h)))
 refine Tr.regT (tm rfl (TO.efc 2 rfl rfl (by decide) (ef_callc rfl rfl (by decide) rfl (w_DNext (by omega) (by omega)) ⟨ke rfl, ke rfl, trivial⟩) ?_))
 refine tp rfl (ok_add rfl (vl rfl) (vl rfl) ?hin) ?_; case hin => unfold InI; omega
 refine tp rfl (okp_fieldAddr rfl fo49_2 (vl rfl)) (TO.ef0 0 rfl rfl (ef_store rfl rfl (vl rfl) (VL.le (vl rfl) (one_cellsP _)) sz3 rfl (by exact Nat.le_of_ble_eq_true rfl) rfl) (TO.nil (Fin.block (Fin.go (wk2 4 7 rfl (Tr.seq (Tr.regT (TO.rd 0 rfl rfl rfl (by decide) (rd_loadA rfl agg49 sz49 (vl rfl) rfl rfl) (TO.store_all 1 rfl rfl rfl (vl rfl) (VL.le (vl rfl) (agg_cellsP _)) rfl sz49 rfl rfl (TO.nil (Fin.go (Tr.drop 0 (Tr.ret (Fin.closeD 1 _ rfl rfl ?_))))))))))))))
 refine Fin.retY1 [_] rfl (RVal.cell 0 rfl rfl agg49 sz49 rfl (Pr.le_refl _)) ?_ (fun _ _ _ _ => rfl)
 · (refine ex_in ⟨_, _, _, _, zeroId⟩ (fact_in ?_ (agg_le ⟨Pr.le_refl _, Pr.le_refl _, Pr.le_refl _, Pr.le_refl _, Pr.le_refl _, Pr.le_refl _, Pr.le_refl _, nil_slice 15, trivial⟩)); exact ⟨hv.1, hv.2, ⟨by show 1 ≤ 1 + _; omega, by show 1 + _ ≤ 12; omega⟩, id0_fits, id0_small⟩)
 refine Tr.reg0 (co rfl (ki rfl rfl rfl rfl) (cm rfl (Ch.nil (Fin.go ?_))))
 refine Tr.cn rfl ?_ ?_ <;> intro h6 q6
 refine Tr.regT (tm rfl (TO.efc 2 rfl rfl (by decide) (ef_callc rfl rfl (by decide) rfl (w_DNext (by omega) (by omega)) ⟨ke rfl, ke rfl, trivial⟩) ?_))
 refine tp rfl (ok_add rfl (vl rfl) (vl rfl) ?hin) ?_; case hin => unfold InI; omega
 refine tp rfl (okp_fieldAddr rfl fo49_2 (vl rfl)) (TO.ef0 0 rfl rfl (ef_store rfl rfl (vl rfl) (VL.le (vl rfl) (one_cellsP _)) sz3 rfl (by exact Nat.le_of_ble_eq_true rfl) rfl) (TO.nil (Fin.block (Fin.go (wk2 4 7 rfl (Tr.seq (Tr.regT (TO.rd 0 rfl rfl rfl (by decide) (rd_loadA rfl agg49 sz49 (vl rfl) rfl rfl) (TO.store_all 1 rfl rfl rfl (vl rfl) (VL.le (vl rfl) (agg_cellsP _)) rfl sz49 rfl rfl (TO.nil (Fin.go (Tr.drop 0 (Tr.ret (Fin.closeD 1 _ rfl rfl ?_))))))))))))))
 refine Fin.retY1 [_] rfl (RVal.cell 0 rfl rfl agg49 sz49 rfl (Pr.le_refl _)) ?_ (fun _ _ _ _ => rfl)
 · (refine ex_in ⟨_, _, _, _, zeroId⟩ (fact_in ?_ (agg_le ⟨Pr.le_refl _, Pr.le_refl _, Pr.le_refl _, Pr.le_refl _, Pr.le_refl _, Pr.le_refl _, Pr.le_refl _, nil_slice 15, trivial⟩)); exact ⟨hv.1, hv.2, ⟨by show 1 ≤ 1 + _; omega, by show 1 + _ ≤ 12; omega⟩, id0_fits, id0_small⟩)
 refine Tr.seq (Tr.reg0 (co rfl (ki rfl rfl rfl rfl) (cm rfl (Ch.nil (Fin.go (wk6 0 4 6 7 24 70 rfl ?_))))))
 refine Tr.cn rfl ?_ ?_ <;> intro h7 q7
 refine Tr.regX mixed [none, none, none, none, none, some (0, 2, true, 0), none, none, none, none, none, none, some (0, 2, true, 0), none, none, none, some (0, 2, true, 0), none, none, some (0, 2, true, 0), none, none, none, some (0, 0, true, 0), none, some (0, 0, true, 0)] (by kernel_rfl) (xm rfl (xo rfl (fun _ => kfa rfl fo35_5 rfl rfl) (xo rfl (fun _ => kl1 rfl one33 rfl) (xo rfl (fun _ => ok_lenm rfl Tryz.underlying33 (vl rfl)) ?_))))
 refine xo rfl (fun _ => ok_add rfl (vl rfl) (vl rfl) ?hin) ?_; case hin => unfold InI; omega
 refine Cx.ef 2 rfl rfl (by decide) (ef_callc rfl rfl (by decide) rfl (w_DNext (by omega) (by omega)) ⟨ke rfl, ke rfl, trivial⟩) (xo rfl (fun _ => kfa rfl fo35_0 rfl rfl) (xo rfl (fun _ => kl1 rfl one9 rfl) (xo rfl (fun _ => ok_call rfl (w_EC) trivial) (xo rfl (fun _ => ok_call rfl (w_RSA) trivial) (xo rfl (fun _ => ok_buildSlice (xs := [.tmp 80, .tmp 81]) (rows := [_, _]) rfl rfl Tryz.underlying96 sz44 z44 rfl (by decide) ⟨⟨(by exact rfl), (VL.le (vl rfl) (agg_cellsP _))⟩, ⟨⟨(by exact rfl), (VL.le (vl rfl) (agg_cellsP _))⟩, trivial⟩⟩ (by decide)) ?_)))))
 refine xm rfl (Cx.ef 2 rfl rfl (by decide) (ef_callc rfl rfl (by decide) rfl (w_DNext (by omega) (by omega)) ⟨ke rfl, ke rfl, trivial⟩) (xo rfl (fun _ => ok_indexAddr rfl Tryz.underlying96 sz44 ⟨_, rfl, full_le _ _⟩ (vl rfl) (by omega) (abrow hv6)) (xo rfl (fun _ => ok_loadA rfl agg44 sz44 (vl rfl) rfl rfl) (xm rfl (Cx.ef 2 rfl rfl (by decide) (ef_callc rfl rfl (by decide) rfl (w_DNext (by omega) (by omega)) ⟨ke rfl, ke rfl, trivial⟩) ?_)))))
 refine xo rfl (fun _ => ok_add rfl (vl rfl) (vl rfl) ?hin) ?_; case hin => unfold InI; omega
 refine xm rfl (Cx.ef 2 rfl rfl (by decide) (ef_callc rfl rfl (by decide) rfl (w_DNext (by omega) (by omega)) ⟨ke rfl, ke rfl, trivial⟩) ?_)
 refine xo rfl (fun _ => ok_add rfl (vl rfl) (vl rfl) ?hin) ?_; case hin => unfold InI; omega
 refine xo rfl (fun _ => ok_call rfl (w_Leaf (name := e.name) (a := if s.adv.adv.adv.val 2 = 0 then 7 else 5) (b := if s.adv.adv.adv.val 2 = 0 then 256 else 2048) (id := 200 + s.adv.adv.adv.adv.val 3) (to := 901) (key := 1 + s.adv.adv.adv.adv.adv.val 2) (leafV hnm (abok _) (by omega) (by omega) (by omega)) (leafT (abok _) (by omega)) (by omega)) ⟨ke rfl, ke rfl, ke rfl, ke rfl, ke rfl, trivial⟩) ?_
 refine xo rfl (fun _ => okp_fieldAddr rfl fo49_3 (vl rfl)) (Cx.ef0 0 rfl rfl (ef_store rfl rfl (vl rfl) (VL.le (vl rfl) (one_cellsP _)) sz3 rfl (by exact Nat.le_of_ble_eq_true rfl) rfl) (xo rfl (fun _ => okp_fieldAddr rfl fo49_4 (vl rfl)) (Cx.ef0 0 rfl rfl (ef_store rfl rfl (vl rfl) (VL.le (vl rfl) (leaf_cells)) sz47 rfl (by exact Nat.le_of_ble_eq_true rfl) rfl) ?_)))
 refine Cx.nil ⟨rfl, ?_⟩
 refine FinX.done (AllC.cons (AllC.cons (AllC.cons (AllC.cons (AllC.map _))))) (Fin.block (Fin.go (wk2 4 7 rfl (Tr.seq (Tr.regT (TO.rd 0 rfl rfl rfl (by decide) (rd_loadA rfl agg49 sz49 (vl rfl) rfl rfl) (TO.store_all 1 rfl rfl rfl (vl rfl) (VL.le (vl rfl) (agg_cellsP _)) rfl sz49 rfl rfl (TO.nil (Fin.go (Tr.drop 0 (Tr.ret (Fin.closeD 1 _ rfl rfl (Fin.retY1 [_] rfl (RVal.cell 0 rfl rfl agg49 sz49 rfl (Pr.le_refl _)) ?_ (fun _ _ _ _ => rfl))))))))))))))
 · exact any_leaf (fun s_ => ⟨hv.1, hv.2, ⟨by show 1 ≤ 1 + _; omega, by show 1 + _ ≤ 12; omega⟩, (leafF hnm).1, (leafF hnm).2⟩)
 refine Tr.seq (Tr.reg0 (co rfl (ki rfl rfl rfl rfl) (cm rfl (Ch.nil (Fin.go ?_)))))
 refine Tr.cn rfl ?_ ?_ <;> intro h8 q8
 refine Tr.seq (Tr.regT (tm rfl (TO.efc 2 rfl rfl (by decide) (ef_callc rfl rfl (by decide) rfl (w_DNext (by omega) (by omega)) ⟨ke rfl, ke rfl, trivial⟩) ?_)))
 refine tp rfl (ok_add rfl (vl rfl) (vl rfl) ?hin) ?_; case hin => unfold InI; omega
 refine tp rfl (okp_fieldAddr rfl fo49_2 (vl rfl)) (TO.ef0 0 rfl rfl (ef_store rfl rfl (vl rfl) (VL.le (vl rfl) (one_cellsP _)) sz3 rfl (by exact Nat.le_of_ble_eq_true rfl) rfl) (TO.nil (Fin.go (Tr.seq (Tr.regT (tp rfl (kfa rfl fo35_5 rfl rfl) (tp rfl (kl1 rfl one33 rfl) (tp rfl (ok_lenm rfl Tryz.underlying33 (vl rfl)) (tp rfl (ki rfl rfl rfl rfl) (tm rfl ?_))))))))))
 refine TO.cases 106 rfl (fun h9 => ?_) (fun h9 => ?_)
 have q9 := Nrm.nrm h9
 refine TO.opG rfl rfl rfl h9 rfl (by decide) (ok_move rfl (vl rfl)) (TO.efcG 2 rfl rfl rfl h9 rfl rfl (by decide) (ef_callc rfl rfl (by decide) rfl (w_DOne (by omega) (by omega)) ⟨ke rfl, ke rfl, trivial⟩) (TO.opG rfl rfl rfl h9 rfl (by decide) (ok_not rfl (vl rfl)) (tp rfl (kpt rfl rfl h9 rfl) (TO.nil (Fin.go (wk5 0 4 6 7 110 rfl ?_))))))
 refine Tr.cn rfl ?_ ?_ <;> intro h10 q10
 have hv9 := s.adv.adv.adv.adv.val_in (n := e.ids.length) (by omega)
 obtain ⟨iy, hiy⟩ := at_ (l := e.ids) (k := (s.adv.adv.adv.adv.val e.ids.length).toNat) (by omega)
 refine Tr.regX mixed [none, none, none, none, none, none, some (0, 2, true, 0), none, none, none, none, some (0, 0, true, 0)] (by kernel_rfl) (xo rfl (fun _ => kfa rfl fo35_5 rfl rfl) (xo rfl (fun _ => kl1 rfl one33 rfl) (xm rfl (xo rfl (fun _ => kfa rfl fo35_5 rfl rfl) (xo rfl (fun _ => kl1 rfl one33 rfl) (xo rfl (fun _ => ok_lenm rfl Tryz.underlying33 (vl rfl)) (Cx.ef 2 rfl rfl (by decide) (ef_callc rfl rfl (by decide) rfl (w_DNext (by omega) (by omega)) ⟨ke rfl, ke rfl, trivial⟩) (xo rfl (fun _ => ok_indexAddr rfl Tryz.underlying33 sz47 (vl rfl) (vl rfl) (by omega) (row_atI hiy)) (xo rfl (fun _ => kfa rfl fo47_1 rfl rfl) (xo rfl (fun _ => kl1 rfl one3 rfl) (xo rfl (fun _ => okp_fieldAddr rfl fo49_2 (vl rfl)) (Cx.ef0 0 rfl rfl (ef_store rfl rfl (vl rfl) (VL.le (vl rfl) (one_cellsP _)) sz3 rfl (by exact Nat.le_of_ble_eq_true rfl) rfl) ?_))))))))))))
 refine Cx.nil ⟨rfl, ?_⟩
 refine FinX.done (AllC.cons (AllC.cons (AllC.cons (AllC.cons (AllC.map _))))) (Fin.block (Fin.go (wk2 4 7 rfl (Tr.seq (Tr.regT (TO.rd 0 rfl rfl rfl (by decide) (rd_loadA rfl agg49 sz49 (vl rfl) rfl rfl) (TO.store_all 1 rfl rfl rfl (vl rfl) (VL.le (vl rfl) (agg_cellsP _)) rfl sz49 rfl rfl (TO.nil (Fin.go (Tr.drop 0 (Tr.ret (Fin.closeD 1 _ rfl rfl (Fin.retY1 [_] rfl (RVal.cell 0 rfl rfl agg49 sz49 rfl (Pr.le_refl _)) ?_ (fun _ _ _ _ => rfl))))))))))))))
 · (refine ex_in ⟨_, _, _, _, zeroId⟩ (fact_in ?_ (agg_le ⟨Pr.le_refl _, Pr.le_refl _, Pr.le_refl _, Pr.le_refl _, Pr.le_refl _, Pr.le_refl _, Pr.le_refl _, nil_slice 15, trivial⟩)); exact ⟨hv.1, hv.2, ⟨by show 1 ≤ 1 + _; omega, by show 1 + _ ≤ 12; omega⟩, id0_fits, id0_small⟩)
 refine Tr.skip (Fin.block (Fin.go (Tr.seq (Tr.regT (TO.rd 0 rfl rfl rfl (by decide) (rd_loadA rfl agg49 sz49 (vl rfl) rfl rfl) (TO.store_all 1 rfl rfl rfl (vl rfl) (VL.le (vl rfl) (agg_cellsP _)) rfl sz49 rfl rfl (TO.nil (Fin.go (Tr.drop 0 (Tr.ret (Fin.closeD 1 _ rfl rfl (Fin.retY1 [_] rfl (RVal.cell 0 rfl rfl agg49 sz49 rfl (Pr.le_refl _)) ?_ (fun _ _ _ _ => rfl)))))))))))))
 · (refine ex_in ⟨_, _, _, _, zeroId⟩ (fact_in ?_ (agg_le ⟨Pr.le_refl _, Pr.le_refl _, Pr.le_refl _, Pr.le_refl _, Pr.le_refl _, Pr.le_refl _, Pr.le_refl _, nil_slice 15, trivial⟩)); exact ⟨hv.1, hv.2, ⟨by show 1 ≤ 1 + _; omega, by show 1 + _ ≤ 12; omega⟩, id0_fits, id0_small⟩)
 have q9 := Nrm.nrm h9
 refine TO.noG rfl rfl rfl (ne_true h9) rfl (by decide) (TO.noG rfl rfl rfl (ne_true h9) rfl (by decide) (TO.noG rfl rfl rfl (ne_true h9) rfl (by decide) (tp rfl (kpf rfl rfl h9 rfl) (TO.nil (Fin.go (wk5 0 4 6 7 110 rfl (Tr.cond rfl (fun h => nomatch h) (fun _ => ?_))))))))
 refine Tr.skip (Fin.block (Fin.go (Tr.seq (Tr.regT (TO.rd 0 rfl rfl rfl (by decide) (rd_loadA rfl agg49 sz49 (vl rfl) rfl rfl) (TO.store_all 1 rfl rfl rfl (vl rfl) (VL.le (vl rfl) (agg_cellsP _)) rfl sz49 rfl rfl (TO.nil (Fin.go (Tr.drop 0 (Tr.ret (Fin.closeD 1 _ rfl rfl (Fin.retY1 [_] rfl (RVal.cell 0 rfl rfl agg49 sz49 rfl (Pr.le_refl _)) ?_ (fun _ _ _ _ => rfl)))))))))))))
 · (refine ex_in ⟨_, _, _, _, zeroId⟩ (fact_in ?_ (agg_le ⟨Pr.le_refl _, Pr.le_refl _, Pr.le_refl _, Pr.le_refl _, Pr.le_refl _, Pr.le_refl _, Pr.le_refl _, nil_slice 15, trivial⟩)); exact ⟨hv.1, hv.2, ⟨by show 1 ≤ 1 + _; omega, by show 1 + _ ≤ 12; omega⟩, id0_fits, id0_small⟩)
 refine Tr.seq (Tr.seq (Tr.reg0 (co rfl (ki rfl rfl rfl rfl) (cm rfl (Ch.nil (Fin.go ?_))))))
 refine Tr.cn rfl ?_ ?_ <;> intro h11 q11
 refine Tr.skip (Fin.go (Tr.cond rfl (fun _ => ?_) (fun h => nomatch h11.symm.trans h)))
 refine Tr.regT (tm rfl (TO.efc 2 rfl rfl (by decide) (ef_callc rfl rfl (by decide) rfl (w_DNext (by omega) (by omega)) ⟨ke rfl, ke rfl, trivial⟩) ?_))
 refine tp rfl (ok_add rfl (vl rfl) (vl rfl) ?hin) ?_; case hin => unfold InI; omega
 refine tp rfl (okp_fieldAddr rfl fo49_2 (vl rfl)) (TO.ef0 0 rfl rfl (ef_store rfl rfl (vl rfl) (VL.le (vl rfl) (one_cellsP _)) sz3 rfl (by exact Nat.le_of_ble_eq_true rfl) rfl) (TO.nil (Fin.block (Fin.go (wk2 4 7 rfl (Tr.seq (Tr.regT (TO.rd 0 rfl rfl rfl (by decide) (rd_loadA rfl agg49 sz49 (vl rfl) rfl rfl) (TO.store_all 1 rfl rfl rfl (vl rfl) (VL.le (vl rfl) (agg_cellsP _)) rfl sz49 rfl rfl (TO.nil (Fin.go (Tr.drop 0 (Tr.ret (Fin.closeD 1 _ rfl rfl ?_))))))))))))))
 refine Fin.retY1 [_] rfl (RVal.cell 0 rfl rfl agg49 sz49 rfl (Pr.le_refl _)) ?_ (fun _ _ _ _ => rfl)
 · (refine ex_in ⟨_, _, _, _, zeroId⟩ (fact_in ?_ (agg_le ⟨Pr.le_refl _, Pr.le_refl _, Pr.le_refl _, Pr.le_refl _, Pr.le_refl _, Pr.le_refl _, Pr.le_refl _, nil_slice 15, trivial⟩)); exact ⟨hv.1, hv.2, ⟨by show 1 ≤ 1 + _; omega, by show 1 + _ ≤ 12; omega⟩, id0_fits, id0_small⟩)
 refine Tr.reg0 (co rfl (ki rfl rfl rfl rfl) (cm rfl (Ch.nil (Fin.go ?_))))
 refine Tr.cn rfl ?_ ?_ <;> intro h12 q12
 refine Tr.regT (tm rfl (TO.efc 2 rfl rfl (by decide) (ef_callc rfl rfl (by decide) rfl (w_DNext (by omega) (by omega)) ⟨ke rfl, ke rfl, trivial⟩) ?_))
 refine tp rfl (ok_add rfl (vl rfl) (vl rfl) ?hin) ?_; case hin => unfold InI; omega
 refine tp rfl (okp_fieldAddr rfl fo49_2 (vl rfl)) (TO.ef0 0 rfl rfl (ef_store rfl rfl (vl rfl) (VL.le (vl rfl) (one_cellsP _)) sz3 rfl (by exact Nat.le_of_ble_eq_true rfl) rfl) (TO.nil (Fin.block (Fin.go (wk2 4 7 rfl (Tr.seq (Tr.regT (TO.rd 0 rfl rfl rfl (by decide) (rd_loadA rfl agg49 sz49 (vl rfl) rfl rfl) (TO.store_all 1 rfl rfl rfl (vl rfl) (VL.le (vl rfl) (agg_cellsP _)) rfl sz49 rfl rfl (TO.nil (Fin.go (Tr.drop 0 (Tr.ret (Fin.closeD 1 _ rfl rfl ?_))))))))))))))
 refine Fin.retY1 [_] rfl (RVal.cell 0 rfl rfl agg49 sz49 rfl (Pr.le_refl _)) ?_ (fun _ _ _ _ => rfl)
 · (refine ex_in ⟨_, _, _, _, zeroId⟩ (fact_in ?_ (agg_le ⟨Pr.le_refl _, Pr.le_refl _, Pr.le_refl _, Pr.le_refl _, Pr.le_refl _, Pr.le_refl _, Pr.le_refl _, nil_slice 15, trivial⟩)); exact ⟨hv.1, hv.2, ⟨by show 1 ≤ 1 + _; omega, by show 1 + _ ≤ 12; omega⟩, id0_fits, id0_small⟩)
 refine Tr.seq (Tr.seq (Tr.reg0 (co rfl (ki rfl rfl rfl rfl) (cm rfl (Ch.nil (Fin.go (wk5 0 4 7 24 129 rfl ?_)))))))
 refine Tr.cn rfl ?_ ?_ <;> intro h13 q13
 refine Tr.skip (Fin.go (Tr.cond rfl (fun _ => ?_) (fun h => nomatch h13.symm.trans h)))
 refine Tr.regT (tm rfl (TO.efc 2 rfl rfl (by decide) (ef_callc rfl rfl (by decide) rfl (w_DNext (by omega) (by omega)) ⟨ke rfl, ke rfl, trivial⟩) ?_))
 refine tp rfl (ok_add rfl (vl rfl) (vl rfl) ?hin) ?_; case hin => unfold InI; omega
 refine tp rfl (okp_fieldAddr rfl fo49_2 (vl rfl)) (TO.ef0 0 rfl rfl (ef_store rfl rfl (vl rfl) (VL.le (vl rfl) (one_cellsP _)) sz3 rfl (by exact Nat.le_of_ble_eq_true rfl) rfl) (TO.nil (Fin.block (Fin.go (Tr.seq (Tr.regT (TO.rd 0 rfl rfl rfl (by decide) (rd_loadA rfl agg49 sz49 (vl rfl) rfl rfl) (TO.store_all 1 rfl rfl rfl (vl rfl) (VL.le (vl rfl) (agg_cellsP _)) rfl sz49 rfl rfl (TO.nil (Fin.go (Tr.drop 0 (Tr.ret (Fin.closeD 1 _ rfl rfl (Fin.retY1 [_] rfl (RVal.cell 0 rfl rfl agg49 sz49 rfl (Pr.le_refl _)) ?_ (fun _ _ _ _ => rfl)))))))))))))))
 · (refine ex_in ⟨_, _, _, _, zeroId⟩ (fact_in ?_ (agg_le ⟨Pr.le_refl _, Pr.le_refl _, Pr.le_refl _, Pr.le_refl _, Pr.le_refl _, Pr.le_refl _, Pr.le_refl _, nil_slice 15, trivial⟩)); exact ⟨hv.1, hv.2, ⟨by show 1 ≤ 1 + _; omega, by show 1 + _ ≤ 12; omega⟩, id0_fits, id0_small⟩)
 refine Tr.reg0 (co rfl (ki rfl rfl rfl rfl) (cm rfl (Ch.nil (Fin.go ?_))))
 refine Tr.cn rfl ?_ ?_ <;> intro h14 q14
 refine Tr.regT (tm rfl (TO.efc 2 rfl rfl (by decide) (ef_callc rfl rfl (by decide) rfl (w_DNext (by omega) (by omega)) ⟨ke rfl, ke rfl, trivial⟩) ?_))
 refine tp rfl (ok_add rfl (vl rfl) (vl rfl) ?hin) ?_; case hin => unfold InI; omega
 refine tp rfl (okp_fieldAddr rfl fo49_2 (vl rfl)) (TO.ef0 0 rfl rfl (ef_store rfl rfl (vl rfl) (VL.le (vl rfl) (one_cellsP _)) sz3 rfl (by exact Nat.le_of_ble_eq_true rfl) rfl) (TO.nil (Fin.block (Fin.go (Tr.seq (Tr.regT (TO.rd 0 rfl rfl rfl (by decide) (rd_loadA rfl agg49 sz49 (vl rfl) rfl rfl) (TO.store_all 1 rfl rfl rfl (vl rfl) (VL.le (vl rfl) (agg_cellsP _)) rfl sz49 rfl rfl (TO.nil (Fin.go (Tr.drop 0 (Tr.ret (Fin.closeD 1 _ rfl rfl (Fin.retY1 [_] rfl (RVal.cell 0 rfl rfl agg49 sz49 rfl (Pr.le_refl _)) ?_ (fun _ _ _ _ => rfl)))))))))))))))
 · (refine ex_in ⟨_, _, _, _, zeroId⟩ (fact_in ?_ (agg_le ⟨Pr.le_refl _, Pr.le_refl _, Pr.le_refl _, Pr.le_refl _, Pr.le_refl _, Pr.le_refl _, Pr.le_refl _, nil_slice 15, trivial⟩)); exact ⟨hv.1, hv.2, ⟨by show 1 ≤ 1 + _; omega, by show 1 + _ ≤ 12; omega⟩, id0_fits, id0_small⟩)
 refine Tr.seq (Tr.seq (Tr.reg0 (co rfl (ki rfl rfl rfl rfl) (cm rfl (Ch.nil (Fin.go ?_))))))
 refine Tr.cn rfl ?_ ?_ <;> intro h15 q15
 refine Tr.skip (Fin.go (Tr.cond rfl (fun _ => ?_) (fun h => nomatch h15.symm.trans h)))
 refine Tr.regT (tm rfl (TO.efc 2 rfl rfl (by decide) (ef_callc rfl rfl (by decide) rfl (w_DNext (by omega) (by omega)) ⟨ke rfl, ke rfl, trivial⟩) (tp rfl (okp_fieldAddr rfl fo49_2 (vl rfl)) (TO.ef0 0 rfl rfl (ef_store rfl rfl (vl rfl) (VL.le (vl rfl) (one_cellsP _)) sz3 rfl (by exact Nat.le_of_ble_eq_true rfl) rfl) (TO.nil (Fin.block (Fin.go (Tr.seq (Tr.regT (TO.rd 0 rfl rfl rfl (by decide) (rd_loadA rfl agg49 sz49 (vl rfl) rfl rfl) (TO.store_all 1 rfl rfl rfl (vl rfl) (VL.le (vl rfl) (agg_cellsP _)) rfl sz49 rfl rfl (TO.nil (Fin.go (Tr.drop 0 ?_))))))))))))))
 refine Tr.ret (Fin.closeD 1 _ rfl rfl (Fin.retY1 [_] rfl (RVal.cell 0 rfl rfl agg49 sz49 rfl (Pr.le_refl _)) ?_ (fun _ _ _ _ => rfl)))
 · (refine ex_in ⟨_, _, _, _, zeroId⟩ (fact_in ?_ (agg_le ⟨Pr.le_refl _, Pr.le_refl _, Pr.le_refl _, Pr.le_refl _, Pr.le_refl _, Pr.le_refl _, Pr.le_refl _, nil_slice 15, trivial⟩)); exact ⟨hv.1, hv.2, ⟨by show 1 ≤ 1 + _; omega, by show 1 + _ ≤ 12; omega⟩, id0_fits, id0_small⟩)
 refine Tr.reg0 (co rfl (ki rfl rfl rfl rfl) (cm rfl (Ch.nil (Fin.go ?_))))
 refine Tr.cn rfl ?_ ?_ <;> intro h16 q16
 refine Tr.regT (tm rfl (TO.efc 2 rfl rfl (by decide) (ef_callc rfl rfl (by decide) rfl (w_DNext (by omega) (by omega)) ⟨ke rfl, ke rfl, trivial⟩) (tp rfl (okp_fieldAddr rfl fo49_2 (vl rfl)) (TO.ef0 0 rfl rfl (ef_store rfl rfl (vl rfl) (VL.le (vl rfl) (one_cellsP _)) sz3 rfl (by exact Nat.le_of_ble_eq_true rfl) rfl) (TO.nil (Fin.block (Fin.go (wk2 4 7 rfl (Tr.seq (Tr.regT (TO.rd 0 rfl rfl rfl (by decide) (rd_loadA rfl agg49 sz49 (vl rfl) rfl rfl) (TO.store_all 1 rfl rfl rfl (vl rfl) (VL.le (vl rfl) (agg_cellsP _)) rfl sz49 rfl rfl (TO.nil (Fin.go ?_))))))))))))))
 refine Tr.drop 0 (Tr.ret (Fin.closeD 1 _ rfl rfl (Fin.retY1 [_] rfl (RVal.cell 0 rfl rfl agg49 sz49 rfl (Pr.le_refl _)) ?_ (fun _ _ _ _ => rfl))))
 · (refine ex_in ⟨_, _, _, _, zeroId⟩ (fact_in ?_ (agg_le ⟨Pr.le_refl _, Pr.le_refl _, Pr.le_refl _, Pr.le_refl _, Pr.le_refl _, Pr.le_refl _, Pr.le_refl _, nil_slice 15, trivial⟩)); exact ⟨hv.1, hv.2, ⟨by show 1 ≤ 1 + _; omega, by show 1 + _ ≤ 12; omega⟩, id0_fits, id0_small⟩)
 refine Tr.skip (Fin.block (Fin.go (Tr.seq (Tr.regT (TO.rd 0 rfl rfl rfl (by decide) (rd_loadA rfl agg49 sz49 (vl rfl) rfl rfl) (TO.store_all 1 rfl rfl rfl (vl rfl) (VL.le (vl rfl) (agg_cellsP _)) rfl sz49 rfl rfl (TO.nil (Fin.go (Tr.drop 0 (Tr.ret (Fin.closeD 1 _ rfl rfl (Fin.retY1 [_] rfl (RVal.cell 0 rfl rfl agg49 sz49 rfl (Pr.le_refl _)) ?_ (fun _ _ _ _ => rfl)))))))))))))
 · (refine ex_in ⟨_, _, _, _, zeroId⟩ (fact_in ?_ (agg_le ⟨Pr.le_refl _, Pr.le_refl _, Pr.le_refl _, Pr.le_refl _, Pr.le_refl _, Pr.le_refl _, Pr.le_refl _, nil_slice 15, trivial⟩)); exact ⟨hv.1, hv.2, ⟨by show 1 ≤ 1 + _; omega, by show 1 + _ ≤ 12; omega⟩, id0_fits, id0_small⟩)
end Go.Proofs.YtflodcidhlmaaaaGreat
namespace Go.Proofs.YtflodcidhlmaaaaGreat
open Go Go.RowKit Cp

/-- Of some size. -/
structure Ept.sz (e : Ept) (n : Nat) : Prop where
  name : e.name.length ≤ maxLen
  suites : e.suites.length ≤ n
  anchors : e.anchors.length ≤ n
  hashes : e.hashes.length ≤ n
  idl : e.ids.length ≤ n
  ids : ∀ x ∈ e.ids, x.fits ∧ x.small
theorem Ept.sz.fits {e : Ept} {n : Nat} (h : e.sz n) : e.fits := ⟨h.name, fun x hx => (h.ids x hx).1⟩
theorem Ept.sz.small {e : Ept} {n : Nat} (h : e.sz n) (hn : n ≤ 1000000) : e.small := ⟨by have := h.suites; omega, by have := h.anchors; omega, by have := h.hashes; omega, by have := h.idl; omega, fun x hx => (h.ids x hx).2⟩
theorem Ept.sz.le {e : Ept} {n m : Nat} (h : e.sz n) (hn : n ≤ m) : e.sz m := ⟨h.name, Nat.le_trans h.suites hn, Nat.le_trans h.anchors hn, Nat.le_trans h.hashes hn, Nat.le_trans h.idl hn, h.ids⟩
theorem sndE_sz {i : Nat} {e : Ept} (h : SndE i e) : e.sz 5 := by
  have hs := sndS_ok _ (sndE_suites h)
  have h1 := sndE_fits h; have h2 := sndE_small h
  obtain ⟨s, hs1, hs2⟩ := h.ids
  exact ⟨h1.name, hs.2, by rw [h.anchors]; simp, by rw [h.hashes]; simp, by rw [hs2]; simp, fun x hx => ⟨h1.ids x hx, h2.ids x hx⟩⟩
theorem len_ins {α : Type} {l : List α} {a : α} {i : Nat} : (l.take i ++ [a] ++ l.drop i).length ≤ l.length + 1 := by simp [List.length_take, List.length_drop]; omega
theorem len_del {α : Type} {l : List α} {i : Nat} : (l.eraseIdx i).length ≤ l.length := by rw [List.length_eraseIdx]; split <;> omega
theorem id0_fs : zeroId.fits ∧ zeroId.small := ⟨id0_fits, id0_small⟩
theorem mem_ins {P : Idn → Prop} {l : List Idn} {x : Idn} {i : Nat} (h : ∀ y ∈ l, P y) (hx : P x) : ∀ y ∈ l.take i ++ [x] ++ l.drop i, P y := by
  intro y hy
  simp only [List.mem_append, List.mem_cons, List.not_mem_nil, or_false] at hy
  rcases hy with (hy | rfl) | hy
  · exact h y (List.mem_of_mem_take hy)
  · exact hx
  · exact h y (List.mem_of_mem_drop hy)
theorem sz_step {e : Ept} {c : Chg} {x : Ept} {b : Chg} {n : Nat} (hc : okCh c) (h : stepR e c = .ok (x, b)) (hs : e.sz n) (hi : c.idn.fits ∧ c.idn.small) : x.sz (n + 1) ∧ b.idn.fits ∧ b.idn.small := by
  have h1 := hs.suites; have h2 := hs.anchors; have h3 := hs.hashes; have h4 := hs.idl
  rcases kinds12 hc.1 with hk | hk | hk | hk | hk | hk | hk | hk | hk | hk | hk | hk
  · rw [stepR_1 hk] at h; (repeat' (split at h)) <;> first | (cases h; done) | (injection h with h; obtain ⟨rfl, rfl⟩ := Prod.mk.inj h; exact ⟨⟨hs.name, Nat.le_trans len_ins (by omega), Nat.le_trans h2 (by omega), Nat.le_trans h3 (by omega), Nat.le_trans h4 (by omega), hs.ids⟩, id0_fs⟩)
  · rw [stepR_2 hk] at h; (repeat' (split at h)) <;> first | (cases h; done) | (injection h with h; obtain ⟨rfl, rfl⟩ := Prod.mk.inj h; exact ⟨⟨hs.name, Nat.le_trans len_del (by omega), Nat.le_trans h2 (by omega), Nat.le_trans h3 (by omega), Nat.le_trans h4 (by omega), hs.ids⟩, id0_fs⟩)
  · rw [stepR_3 hk] at h; (repeat' (split at h)) <;> first | (cases h; done) | (injection h with h; obtain ⟨rfl, rfl⟩ := Prod.mk.inj h; exact ⟨⟨hs.name, Nat.le_trans h1 (by omega), Nat.le_trans h2 (by omega), Nat.le_trans h3 (by omega), Nat.le_trans h4 (by omega), hs.ids⟩, id0_fs⟩)
  · rw [stepR_4 hk] at h; (repeat' (split at h)) <;> first | (cases h; done) | (injection h with h; obtain ⟨rfl, rfl⟩ := Prod.mk.inj h; exact ⟨⟨hs.name, Nat.le_trans h1 (by omega), Nat.le_trans h2 (by omega), Nat.le_trans h3 (by omega), Nat.le_trans h4 (by omega), hs.ids⟩, id0_fs⟩)
  · rw [stepR_5 hk] at h; (repeat' (split at h)) <;> first | (cases h; done) | (injection h with h; obtain ⟨rfl, rfl⟩ := Prod.mk.inj h; exact ⟨⟨hs.name, Nat.le_trans h1 (by omega), Nat.le_trans h2 (by omega), Nat.le_trans h3 (by omega), Nat.le_trans len_ins (by omega), mem_ins hs.ids hi⟩, id0_fs⟩)
  · rw [stepR_6 hk] at h; (repeat' (split at h)) <;> first | (cases h; done) | (injection h with h; obtain ⟨rfl, rfl⟩ := Prod.mk.inj h; exact ⟨⟨hs.name, Nat.le_trans h1 (by omega), Nat.le_trans h2 (by omega), Nat.le_trans h3 (by omega), Nat.le_trans len_del (by omega), fun y hy => hs.ids y (List.mem_of_mem_eraseIdx hy)⟩, hs.ids _ (List.mem_of_getElem? (by assumption))⟩)
  · rw [stepR_7 hk] at h; (repeat' (split at h)) <;> first | (cases h; done) | (injection h with h; obtain ⟨rfl, rfl⟩ := Prod.mk.inj h; exact ⟨⟨hs.name, Nat.le_trans h1 (by omega), Nat.le_trans len_ins (by omega), Nat.le_trans h3 (by omega), Nat.le_trans h4 (by omega), hs.ids⟩, id0_fs⟩)
  · rw [stepR_8 hk] at h; (repeat' (split at h)) <;> first | (cases h; done) | (injection h with h; obtain ⟨rfl, rfl⟩ := Prod.mk.inj h; exact ⟨⟨hs.name, Nat.le_trans h1 (by omega), Nat.le_trans len_del (by omega), Nat.le_trans h3 (by omega), Nat.le_trans h4 (by omega), hs.ids⟩, id0_fs⟩)
  · rw [stepR_9 hk] at h; (repeat' (split at h)) <;> first | (cases h; done) | (injection h with h; obtain ⟨rfl, rfl⟩ := Prod.mk.inj h; exact ⟨⟨hs.name, Nat.le_trans h1 (by omega), Nat.le_trans h2 (by omega), Nat.le_trans len_ins (by omega), Nat.le_trans h4 (by omega), hs.ids⟩, id0_fs⟩)
  · rw [stepR_10 hk] at h; (repeat' (split at h)) <;> first | (cases h; done) | (injection h with h; obtain ⟨rfl, rfl⟩ := Prod.mk.inj h; exact ⟨⟨hs.name, Nat.le_trans h1 (by omega), Nat.le_trans h2 (by omega), Nat.le_trans len_del (by omega), Nat.le_trans h4 (by omega), hs.ids⟩, id0_fs⟩)
  · rw [stepR_11 hk] at h; (repeat' (split at h)) <;> first | (cases h; done) | (injection h with h; obtain ⟨rfl, rfl⟩ := Prod.mk.inj h; exact ⟨⟨hs.name, Nat.le_trans h1 (by omega), Nat.le_trans h2 (by omega), Nat.le_trans h3 (by omega), Nat.le_trans h4 (by omega), hs.ids⟩, id0_fs⟩)
  · rw [stepR_12 hk] at h; (repeat' (split at h)) <;> first | (cases h; done) | (injection h with h; obtain ⟨rfl, rfl⟩ := Prod.mk.inj h; exact ⟨⟨hs.name, Nat.le_trans h1 (by omega), Nat.le_trans h2 (by omega), Nat.le_trans h3 (by omega), Nat.le_trans h4 (by omega), hs.ids⟩, id0_fs⟩)

theorem sz_done {e : Ept} {c : Chg} {x : Ept} {b : Chg} {n : Nat} (h : doneR e c = (x, b, 0)) (hs : e.sz n) (hi : c.idn.fits ∧ c.idn.small) : x.sz (n + 1) ∧ b.idn.fits ∧ b.idn.small := by
  obtain ⟨_, h2, h3, _⟩ := doneR_inv h
  exact sz_step h2 h3 hs hi
def widK (e : Ept) (c : Chg) : Bool :=
  if c.kind = 1 ∨ c.kind = 5 ∨ c.kind = 7 ∨ c.kind = 9 then true
  else if c.kind = 3 then decide (e.most < c.number)
  else if c.kind = 4 then decide (c.number < e.least)
  else if c.kind = 11 then (c.number == 1)
  else false
theorem widens_eq {e : Ept} {c : Chg} {x : Ept} {b : Chg} (h : doneR e c = (x, b, 0)) : widensB e c = widK e c := by
  unfold widensB; rw [h, if_neg (by simp)]; rfl
theorem widK_step {e : Ept} {c : Chg} {x : Ept} {b : Chg} (hc : okCh c) (h : stepR e c = .ok (x, b)) : (c.kind = 12 → widK e c = false) ∧ (c.kind ≠ 12 → widK e c ≠ widK x b) := by
  obtain ⟨ep, k, n, at_, idn⟩ := c
  refine ⟨fun hk => ?_, fun hk12 => ?_⟩
  · have hk : k = 12 := hk
    subst hk; unfold widK; simp
  have hk12 : k ≠ 12 := hk12
  rcases kinds12 (show 1 ≤ k ∧ k ≤ 12 from hc.1) with rfl | rfl | rfl | rfl | rfl | rfl | rfl | rfl | rfl | rfl | rfl | rfl
  · rw [stepR_1 rfl] at h; (repeat' (split at h)) <;> first | (cases h; done) | (injection h with h; obtain ⟨rfl, rfl⟩ := Prod.mk.inj h; unfold widK; simp; done)
  · rw [stepR_2 rfl] at h; (repeat' (split at h)) <;> first | (cases h; done) | (injection h with h; obtain ⟨rfl, rfl⟩ := Prod.mk.inj h; unfold widK; simp; done)
  · rw [stepR_3 rfl] at h
    split at h
    · cases h
    next hn =>
    injection h with h; obtain ⟨rfl, rfl⟩ := Prod.mk.inj h
    have hn : ¬ e.most = n := hn
    unfold widK; simp
    omega
  · rw [stepR_4 rfl] at h
    split at h
    · cases h
    next hn =>
    injection h with h; obtain ⟨rfl, rfl⟩ := Prod.mk.inj h
    have hn : ¬ e.least = n := hn
    unfold widK; simp
    omega
  · rw [stepR_5 rfl] at h; (repeat' (split at h)) <;> first | (cases h; done) | (injection h with h; obtain ⟨rfl, rfl⟩ := Prod.mk.inj h; unfold widK; simp; done)
  · rw [stepR_6 rfl] at h; (repeat' (split at h)) <;> first | (cases h; done) | (injection h with h; obtain ⟨rfl, rfl⟩ := Prod.mk.inj h; unfold widK; simp; done)
  · rw [stepR_7 rfl] at h; (repeat' (split at h)) <;> first | (cases h; done) | (injection h with h; obtain ⟨rfl, rfl⟩ := Prod.mk.inj h; unfold widK; simp; done)
  · rw [stepR_8 rfl] at h; (repeat' (split at h)) <;> first | (cases h; done) | (injection h with h; obtain ⟨rfl, rfl⟩ := Prod.mk.inj h; unfold widK; simp; done)
  · rw [stepR_9 rfl] at h; (repeat' (split at h)) <;> first | (cases h; done) | (injection h with h; obtain ⟨rfl, rfl⟩ := Prod.mk.inj h; unfold widK; simp; done)
  · rw [stepR_10 rfl] at h; (repeat' (split at h)) <;> first | (cases h; done) | (injection h with h; obtain ⟨rfl, rfl⟩ := Prod.mk.inj h; unfold widK; simp; done)
  · rw [stepR_11 rfl] at h
    split at h
    · cases h
    next hr =>
    split at h
    · cases h
    next hn =>
    injection h with h; obtain ⟨rfl, rfl⟩ := Prod.mk.inj h
    have hb := bit_back (Classical.not_not.1 hr) hn
    have hn : ¬ bitI e.fall = n := hn
    have hr : 0 ≤ n ∧ n ≤ 1 := Classical.not_not.1 hr
    unfold widK; simp
    have : n = 0 ∨ n = 1 := by omega
    rcases this with rfl | rfl <;> cases hf : e.fall <;> simp_all [bitI]
  · exact absurd rfl hk12
theorem widens_back {e : Ept} {c : Chg} {x : Ept} {b : Chg} (h : doneR e c = (x, b, 0)) : (c.kind = 12 → widensB e c = false) ∧ (c.kind ≠ 12 → widensB e c ≠ widensB x b) := by
  obtain ⟨_, h2, h3, _⟩ := doneR_inv h
  rw [widens_eq h, widens_eq (done_back h).1]
  exact widK_step h2 h3

end Go.Proofs.YtflodcidhlmaaaaGreat
namespace Go.Proofs.YtflodcidhlmaaaaGreat
open Go Go.RowKit Cp Go.ChangeShapes Go.WideShapes Go.ChangeAt
set_option maxRecDepth 20000 in
set_option maxHeartbeats 4000000 in
theorem w_ChangeBack {t : List Int}  : Fun Tryz.prog 6 [ints t] (bool true) := by
 refine Fun.of Tryz.func6 rfl rfl (by exact Nat.le_of_ble_eq_true rfl) fun M0 w0 => ?_
 refine Tr.seq (Tr.reg0 (cm rfl (Ch.nil (Fin.go (Tr.seq (Tr.seq (Tr.reg0 (cm rfl (co rfl (ok_call rfl (w_Light) ⟨ke rfl, trivial⟩) (co rfl (ok_not rfl (vl rfl)) (Ch.nil (Fin.go ?_))))))))))))
 refine Tr.cn rfl ?_ ?_ <;> intro h1 q1
 refine Tr.seq (Tr.reg0 (co rfl (ok_call rfl (w_awake24) trivial) (cm rfl (Ch.nil (Fin.go (Tr.ret (Fin.then_ret (Fin.ret1 rfl (OutW.bse _ _) rfl ?_))))))))
 · exact Pr.le_refl _
 have ht4 : t.length ≤ 400 := by simpa using h1
 have ht9 : t.length ≤ 1000000000 := by omega
 refine Tr.skip (Fin.go (Tr.seq (Tr.regT (tm rfl (TO.pad ?_)))))
 refine TO.efs 0 rfl rfl (by decide) (ef_call rfl rfl (by decide) rfl (w_Roll (l := t) ht9) ⟨ke rfl, trivial⟩) (fun v1 => ?_)
 refine TO.opn 20 0 _ rfl rfl (fun _ => rfl) (fun b1 => ?_)
 refine tm rfl (TO.nil (Fin.go (Tr.seq (Tr.regT (tm rfl (TO.efc 0 rfl rfl (by decide) (ef_callc rfl rfl (by decide) rfl (w_Sound) ⟨ke rfl, trivial⟩) ?_))))))
 refine TO.ex 22 rfl (fun z1 => TO.fact 22 rfl fun hz1 => ?_)
 refine TO.alloc rfl rfl (by decide) rfl z31 zo31 (fun b2 => ?_)
 refine TO.store_all 0 rfl rfl rfl (vl rfl) (VL.le (vl rfl) (agg_cellsP _)) rfl sz31 rfl rfl (TO.freeze 0 4 rfl rfl (TO.nil (Fin.openD 0 rfl (fun s1 => ?_))))
 refine Fin.go (Tr.seq (Tr.regT (tm rfl (tp rfl (ok_loadA rfl agg31 sz31 (vl rfl) rfl rfl) ?_))))
 refine TO.efc 0 rfl rfl (by decide) (ef_callc rfl rfl (by decide) rfl (w_Any (es := z1) hz1.2 ⟨by omega, by omega⟩) ⟨ke rfl, ke rfl, trivial⟩) ?_
 refine TO.ex 25 rfl (fun z2 => TO.fact 25 rfl fun hz2 => ?_)
 obtain ⟨e, he0⟩ := at_ (l := z1) (k := z2.endpoint.toNat) (by have := hz2.lo; have := hz2.hi; omega)
 have he := sndE_sz (hz1.2 _ e he0)
 have hl2 := hz2.lo
 have hh2 := hz2.hi
 obtain ⟨x, b, f, hr⟩ : ∃ x b f, doneR e z2 = (x, b, f) := ⟨_, _, _, rfl⟩
 refine TO.alloc rfl rfl (by decide) rfl z49 zo49 (fun b3 => ?_)
 refine TO.store_all 0 rfl rfl rfl (vl rfl) (VL.le (vl rfl) (agg_cellsP _)) rfl sz49 rfl rfl (TO.freeze 0 5 rfl rfl (TO.nil (Fin.openD 0 rfl (fun s2 => ?_))))
 refine Fin.go (wk2 4 5 rfl (Tr.seq (Tr.regT (tp rfl (kfa rfl fo31_0 rfl rfl) (tp rfl (kl1 rfl one27 rfl) (tp rfl (kfa rfl fo49_0 rfl rfl) (tp rfl (kl1 rfl one3 rfl) (tp rfl (ok_indexAddr rfl Tryz.underlying27 sz35 (vl rfl) (vl rfl) (by omega) (row_atI (f := rowEp) he0)) (tp rfl (ok_loadA rfl agg35 sz35 (vl rfl) rfl rfl) ?_)))))))))
 refine TO.alloc rfl rfl (by decide) rfl z35 zo35 (fun b4 => ?_)
 refine TO.store_all 0 rfl rfl rfl (vl rfl) (VL.le (vl rfl) (agg_cellsP _)) rfl sz35 rfl rfl (TO.freeze 0 6 rfl rfl (TO.nil (Fin.go (Tr.seq (Tr.regT (tp rfl (ok_loadA rfl agg35 sz35 (vl rfl) rfl rfl) (tp rfl (ok_loadA rfl agg49 sz49 (vl rfl) rfl rfl) (tp rfl (ok_call rfl (ap_of hr (he.fits) (he.small (by omega)) hz2.fits hz2.small) ⟨ke rfl, ke rfl, trivial⟩) (tm rfl (tp rfl (ok_extract rfl (vl rfl) rfl) (tp rfl (ok_extract rfl (vl rfl) rfl) ?_)))))))))))
 refine TO.alloc rfl rfl (by decide) rfl z35 zo35 (fun b5 => ?_)
 refine TO.store_all 0 rfl rfl rfl (vl rfl) (VL.le (vl rfl) (agg_cellsP _)) rfl sz35 rfl rfl (TO.freeze 0 7 rfl rfl (tm rfl (TO.nil (Fin.go (wk4 5 6 7 8 rfl (Tr.seq (Tr.regT (tp rfl (ok_loadA rfl agg35 sz35 (vl rfl) rfl rfl) (tp rfl (ok_loadA rfl agg49 sz49 (vl rfl) rfl rfl) (tp rfl (ok_call rfl (iv_of hr (he.fits) (he.small (by omega)) hz2.fits hz2.small) ⟨ke rfl, ke rfl, trivial⟩) (tm rfl (tp rfl (ok_extract rfl (vl rfl) rfl) (tp rfl (ok_extract rfl (vl rfl) rfl) ?_)))))))))))))
 refine TO.alloc rfl rfl (by decide) rfl z49 zo49 (fun b6 => ?_)
 refine TO.store_all 0 rfl rfl rfl (vl rfl) (VL.le (vl rfl) (agg_cellsP _)) rfl sz49 rfl rfl (TO.freeze 0 9 rfl rfl (tm rfl (TO.nil (Fin.go (wk6 5 6 7 8 9 10 rfl (Tr.seq (Tr.seq (Tr.reg0 (cm rfl (co rfl (ki rfl rfl rfl rfl) (Ch.nil (Fin.go ?_))))))))))))
 refine Tr.cn rfl ?_ ?_ <;> intro h2 q2
 refine Tr.seq (Tr.reg0 (cm rfl (cm rfl (co rfl (ki rfl rfl rfl rfl) (cm rfl ?_)))))
 refine Ch.cs 49 rfl ?_ ?_ <;> intro h3 q3
 refine cy h3 rfl (ok_call rfl (w_awake24) trivial) (co rfl (kpt rfl rfl h3 rfl) (cm rfl (Ch.nil (Fin.go (wk1 2 rfl (Tr.ret (Fin.then_ret (Fin.ret1 rfl (OutW.bse _ _) rfl ?_))))))))
 · exact Pr.le_refl _
 exact absurd rfl q3
 obtain rfl : f = 0 := by have := q2; omega
 have hb := done_back hr
 have hx := sz_done hr he ⟨hz2.fits, hz2.small⟩
 have hW := widens_back hr
 refine Tr.skip (Fin.go (Tr.seq (Tr.regT (tp rfl (ok_loadA rfl agg35 sz35 (vl rfl) rfl rfl) (tp rfl (ok_loadA rfl agg49 sz49 (vl rfl) rfl rfl) (tp rfl (ok_call rfl (ap_of hb.1 (hx.1.fits) (hx.1.small (by omega)) hx.2.1 hx.2.2) ⟨ke rfl, ke rfl, trivial⟩) (tm rfl (tp rfl (ok_extract rfl (vl rfl) rfl) (tp rfl (ok_extract rfl (vl rfl) rfl) ?_)))))))))
 refine TO.alloc rfl rfl (by decide) rfl z35 zo35 (fun b7 => ?_)
 refine TO.store_all 0 rfl rfl rfl (vl rfl) (VL.le (vl rfl) (agg_cellsP _)) rfl sz35 rfl rfl (TO.freeze 0 11 rfl rfl (tm rfl (TO.nil (Fin.go (wk7 5 6 7 9 10 11 12 rfl (Tr.seq (Tr.regT (tp rfl (ok_loadA rfl agg35 sz35 (vl rfl) rfl rfl) (tp rfl (ok_loadA rfl agg49 sz49 (vl rfl) rfl rfl) (tp rfl (ok_call rfl (iv_of hb.1 (hx.1.fits) (hx.1.small (by omega)) hx.2.1 hx.2.2) ⟨ke rfl, ke rfl, trivial⟩) (tm rfl (tp rfl (ok_extract rfl (vl rfl) rfl) (tp rfl (ok_extract rfl (vl rfl) rfl) ?_)))))))))))))
 refine TO.alloc rfl rfl (by decide) rfl z49 zo49 (fun b8 => ?_)
 refine TO.store_all 0 rfl rfl rfl (vl rfl) (VL.le (vl rfl) (agg_cellsP _)) rfl sz49 rfl rfl (TO.freeze 0 13 rfl rfl (tm rfl (TO.nil (Fin.go (wk9 5 6 7 9 10 11 12 13 14 rfl (Tr.seq (Tr.seq (Tr.reg0 (cm rfl (co rfl (ki rfl rfl rfl rfl) (cm rfl ?_)))))))))))
 refine Ch.cs 66 rfl ?_ ?_ <;> intro h4 q4
 exact absurd rfl q4
 refine cym h4 rfl (cy h4 rfl (ki rfl rfl rfl rfl) (co rfl (kpf rfl rfl h4 rfl) (cm rfl ?_)))
 refine Ch.cs 70 rfl ?_ ?_ <;> intro h5 q5
 exact absurd rfl q5
 refine cym h5 rfl (cy h5 rfl (ki rfl rfl rfl rfl) (co rfl (kpf rfl rfl h5 rfl) (cm rfl ?_)))
 refine Ch.cs 74 rfl ?_ ?_ <;> intro h6 q6
 exact absurd rfl q6
 refine cy h6 rfl (ok_loadA rfl agg35 sz35 (vl rfl) rfl rfl) (cy h6 rfl (ok_loadA rfl agg35 sz35 (vl rfl) rfl rfl) (cy h6 rfl (ok_call rfl (w_R9Same) ⟨ke rfl, ke rfl, trivial⟩) (cy h6 rfl (ok_not rfl (vl rfl)) (co rfl (kpf rfl rfl h6 rfl) (cm rfl ?_)))))
 refine Ch.cs 80 rfl ?_ ?_ <;> intro h7 q7
 exfalso; have := q7; simp at this
 refine cy h7 rfl (kfa rfl fo49_0 rfl rfl) (cy h7 rfl (kl1 rfl one3 rfl) (cy h7 rfl (kfa rfl fo49_0 rfl rfl) (cy h7 rfl (kl1 rfl one3 rfl) (cy h7 rfl (ki rfl rfl rfl rfl) (co rfl (kpf rfl rfl h7 rfl) (cm rfl ?_))))))
 refine Ch.cs 87 rfl ?_ ?_ <;> intro h8 q8
 exact absurd hb.2 q8
 refine cy h8 rfl (ok_loadA rfl agg49 sz49 (vl rfl) rfl rfl) (cy h8 rfl (ok_loadA rfl agg49 sz49 (vl rfl) rfl rfl) (cy h8 rfl (ok_call rfl (w_R24Same hz2.small) ⟨ke rfl, ke rfl, trivial⟩) (cy h8 rfl (ok_not rfl (vl rfl)) (co rfl (kpf rfl rfl h8 rfl) (Ch.nil (Fin.go (wk5 5 6 7 9 92 rfl ?_)))))))
 refine Tr.cn rfl ?_ ?_ <;> intro h9 q9
 exact absurd h9 (by simp)
 refine Tr.skip (Fin.go (Tr.seq (Tr.reg1 mixed (by kernel_rfl) (co rfl (kfa rfl fo49_1 rfl rfl) (co rfl (kl1 rfl one3 rfl) (co rfl (ki rfl rfl rfl rfl) (cm rfl ?_)))))))
 refine Ch.cs 96 rfl ?_ ?_ <;> intro h10 q10
 iterate 7 refine cnf h10 rfl ?_
 refine co rfl (kpt rfl rfl h10 rfl) (cm rfl (cy rfl rfl (kfa rfl fo49_1 rfl rfl) (cy rfl rfl (kl1 rfl one3 rfl) (cy rfl rfl (ki rfl rfl rfl rfl) (cym rfl rfl ?_)))))
 refine Ch.cs 109 rfl ?_ ?_ <;> intro h11 q11
 iterate 4 refine cnf h11 rfl ?_
 refine cy rfl rfl (kpt rfl rfl h11 rfl) (co rfl (kpt rfl rfl rfl rfl) (cm rfl (cy rfl rfl (ok_call rfl (w_awake24) trivial) (co rfl (kpt rfl rfl rfl rfl) (cm rfl (Ch.nil (Fin.go (wk1 2 rfl (Tr.ret (Fin.ret1 rfl (OutW.bse _ _) rfl ?_))))))))))
 · exact Pr.le_refl _
 refine cy h11 rfl (ok_loadA rfl agg35 sz35 (vl rfl) rfl rfl) (cy h11 rfl (ok_loadA rfl agg49 sz49 (vl rfl) rfl rfl) (cy h11 rfl (ok_call rfl (w_Widens24 (he.fits) (he.small (by omega)) hz2.fits hz2.small) ⟨ke rfl, ke rfl, trivial⟩) (cy h11 rfl (ok_not rfl (vl rfl)) (cy rfl rfl (kpf rfl rfl h11 rfl) (co rfl (kpt rfl rfl rfl rfl) (cm rfl ?_))))))
 refine Ch.cs 116 rfl ?_ ?_ <;> intro h12 q12
 refine cy h12 rfl (ok_call rfl (w_awake24) trivial) (co rfl (kpt rfl rfl h12 rfl) (cm rfl (Ch.nil (Fin.go (wk1 2 rfl (Tr.ret (Fin.ret1 rfl (OutW.bse _ _) rfl ?_)))))))
 · exact Pr.le_refl _
 rw [hW.1 (by assumption)] at h12; exact absurd h12 (by decide)
 refine cy h10 rfl (ok_loadA rfl agg35 sz35 (vl rfl) rfl rfl) (cy h10 rfl (ok_loadA rfl agg49 sz49 (vl rfl) rfl rfl) (cy h10 rfl (ok_call rfl (w_Widens24 (he.fits) (he.small (by omega)) hz2.fits hz2.small) ⟨ke rfl, ke rfl, trivial⟩) (cy h10 rfl (ok_loadA rfl agg35 sz35 (vl rfl) rfl rfl) (cy h10 rfl (ok_loadA rfl agg49 sz49 (vl rfl) rfl rfl) (cy h10 rfl (ok_call rfl (w_Widens24 (hx.1.fits) (hx.1.small (by omega)) hx.2.1 hx.2.2) ⟨ke rfl, ke rfl, trivial⟩) (cy h10 rfl (ok_neb rfl Tryz.underlying4 (vl rfl) (vl rfl)) (co rfl (kpf rfl rfl h10 rfl) (cm rfl ?_))))))))
 refine Ch.cs 105 rfl ?_ ?_ <;> intro h13 q13
 refine cy h13 rfl (kfa rfl fo49_1 rfl rfl) (cy h13 rfl (kl1 rfl one3 rfl) (cy h13 rfl (ki rfl rfl rfl rfl) (cym h13 rfl ?_)))
 refine Ch.cs 109 rfl ?_ ?_ <;> intro h14 q14
 iterate 4 refine cnf h14 rfl ?_
 refine cy h13 rfl (kpt rfl rfl h14 rfl) (co rfl (kpt rfl rfl h13 rfl) (cm rfl (cy rfl rfl (ok_call rfl (w_awake24) trivial) (co rfl (kpt rfl rfl rfl rfl) (cm rfl (Ch.nil (Fin.go (wk1 2 rfl (Tr.ret (Fin.ret1 rfl (OutW.bse _ _) rfl ?_))))))))))
 · exact Pr.le_refl _
 refine cy h14 rfl (ok_loadA rfl agg35 sz35 (vl rfl) rfl rfl) (cy h14 rfl (ok_loadA rfl agg49 sz49 (vl rfl) rfl rfl) (cy h14 rfl (ok_call rfl (w_Widens24 (he.fits) (he.small (by omega)) hz2.fits hz2.small) ⟨ke rfl, ke rfl, trivial⟩) (cy h14 rfl (ok_not rfl (vl rfl)) (cy h13 rfl (kpf rfl rfl h14 rfl) (co rfl (kpt rfl rfl h13 rfl) (cm rfl ?_))))))
 refine Ch.cs 116 rfl ?_ ?_ <;> intro h15 q15
 refine cy h15 rfl (ok_call rfl (w_awake24) trivial) (co rfl (kpt rfl rfl h15 rfl) (cm rfl (Ch.nil (Fin.go (wk1 2 rfl (Tr.ret (Fin.ret1 rfl (OutW.bse _ _) rfl ?_)))))))
 · exact Pr.le_refl _
 rw [hW.1 (by assumption)] at h15; exact absurd h15 (by decide)
 exact absurd h13 (by have := hW.2 (by assumption); simpa using this)
set_option maxRecDepth 40000 in
theorem changeBack_lifted (os : Os) (started : os.Started) (H : Type) (enc : TypeId × Value → H) :
    ReturnsInHanded {} Tryz.checked os 6 .any (Rows.changeBackSpec.pre6 enc Tryz.prog Tryz.f6 Rows.changeBackRow.domain false) (Rows.changeBackSpec.post enc Tryz.prog Tryz.f6 false true false false) := by
  refine returnsInHanded_of_change (C := Tryz.checked) own0 started (by kernel_rfl) Tryz.func6
    (ChangeSpec.witness6 (enc := enc) (C := Tryz.checked) false ⟨#[], #[.slice none 0 0], []⟩ 8 (by kernel_rfl) (by kernel_rfl) (by kernel_rfl) (by kernel_rfl)) ?_
  intro W base args ds gs before hval0 hW hcnd _
  have hval : ∀ (j : Nat) t v, Tryz.f6.params[j]? = some t → args[j]? = some v → Value.okWide Tryz.prog W .any base t v := hval0
  have hW' := hW
  obtain ⟨p, q, hA0, hV, hpq, hfz, hnd⟩ := hW
  have hA : DataW.TrodAll enc Tryz.prog W 0 (fun _ => true) true Tryz.f6.params.toList args.toList ds p := hA0
  have hA' := hA
  rw [Tryz.params6] at hA hval
  obtain ⟨v0, d0, rfl, rfl, h0⟩ := trodAll_one hA
  obtain ⟨rfl, rfl⟩ := trodVars_none hV
  obtain ⟨a0, hr0, e0⟩ := arg_one (opens_ints Tryz.underlying22 Tryz.underlying3 (by kernel_rfl)) h0 (by obtain ⟨_, _, _, rfl⟩ := okWide_slice Tryz.underlying22 (hval 0 22 v0 rfl rfl); rfl)
  refine ((w_ChangeBack).2 noM W [v0] (noM_bd W) ⟨e0, trivial⟩).mono fun e W' ⟨v, he, hv, hb⟩ => ?_
  subst he
  obtain rfl : v = .bool true := hv
  exact ⟨_, rfl, law_post laidOut0 (by kernel_rfl) rfl Tryz.underlying4 rfl hA' (by rw [hpq]; simp) hW' rfl hb⟩
set_option maxRecDepth 40000 in
theorem changeBack_holds : Rows.ChangeBackSaid :=
  OpenClaim.holds_of_wide 6 Tryz.f6 rfl rfl rfl rfl rfl rfl rfl ⟨rfl, rfl, rfl, rfl, rfl⟩ rfl rfl rfl rfl rfl (by kernel_rfl) Tryz.func6 (by kernel_rfl)
    (of_decide_eq_true (by kernel_rfl)) (by unfold Func.isWrapper; first | (rw [if_pos (by decide +kernel)]; kernel_rfl) | (rw [if_neg (by decide +kernel)]; exact ⟨rfl, rfl⟩))
    (fun os started H enc _ => changeBack_lifted os started H enc)
end Go.Proofs.YtflodcidhlmaaaaGreat
