/-
  IdentityLate: whatever the input, the law of this name returns true and its arguments read as before. No conditions.
-/
import Derived.Test.YtgdlhajfajddiaaGreatRows
import Derived.Test.YtgdlhajfajddiaaGreatIdLateP6
set_option linter.all false
namespace Go.Proofs.YtgdlhajfajddiaaGreat
open Go Go.RowKit Cp

abbrev InL (n : Nat) := {v : Int // 0 ≤ v ∧ v < n}
theorem attachL {n : Nat} {l : List Int} (h : ∀ v ∈ l, 0 ≤ v ∧ v < n) : ∃ L : List (InL n), L.map (·.1) = l :=
  ⟨l.attach.map fun x => ⟨x.1, h x.1 x.2⟩, by rw [List.map_map]; exact List.attach_map_subtype_val l⟩
def hitP (l : List Fnd) (p : Fnd → Bool) (v : Int) : Bool := match l[v.toNat]? with | some f => p f | none => false
theorem hit_at {l : List Fnd} {p : Fnd → Bool} {v : Int} {f : Fnd} (h : l[v.toNat]? = some f) : hitP l p v = p f := by unfold hitP; rw [h]
/-- The numbers of the entities that have a finding for which p is true. -/
def withE (l : List Fnd) (E : List Ent) (p : Fnd → Bool) : List Int := (E.filter fun e => e.fnds.any fun v => hitP l p v).map (·.num)
theorem with_succ {l : List Fnd} {E : List Ent} {p : Fnd → Bool} {k : Nat} {x : Ent} (hx : E[k]? = some x) : withE l (E.take (k + 1)) p = withE l (E.take k) p ++ if (x.fnds.any fun v => hitP l p v) then [x.num] else [] := by
  unfold withE
  rw [List.take_add_one, hx, List.filter_append, List.map_append]
  congr 1
  show (List.filter _ [x]).map _ = _
  by_cases h : (x.fnds.any fun v => hitP l p v) = true <;> simp [h]
abbrev touchP (f : Fnd) (g : Fnd) : Bool := decide (g.host = f.host) || (decide (¬ f.machine = 0) && decide (g.machine = f.machine))
noncomputable def touchR (l : List Fnd) (gap : Int) (f : Fnd) : List Int × Int := if (entR l gap).2 = 0 then (if checkF f then (withE l (entR l gap).1 (touchP f), 0) else ([], 24)) else ([], (entR l gap).2)
theorem entR_cases (l : List Fnd) (gap : Int) : (NormP l ∧ entR l gap = (entsF l gap, 0)) ∨ ((entR l gap).1 = [] ∧ ¬ (entR l gap).2 = 0) := by
  by_cases hN : NormP l
  · by_cases hg : gap < 0 ∨ 4000 < gap
    · right; rw [entR_gap hN hg]; exact ⟨rfl, by show ¬ (2 : Int) = 0; omega⟩
    · left; exact ⟨hN, entR_ok hN (by omega)⟩
  · right; rw [entR_odd hN]; exact ⟨rfl, by show ¬ (24 : Int) = 0; omega⟩
theorem ents_in (l : List Fnd) (gap : Int) : ∀ e ∈ (entR l gap).1, ∀ v ∈ e.fnds, 0 ≤ v ∧ v < (l.length : Nat) := by
  intro e he v hv
  rcases entR_cases l gap with ⟨_, h⟩ | ⟨h, _⟩
  · rw [h] at he
    obtain ⟨r, _, _, rfl⟩ := ents_of he
    obtain ⟨j, h1, _, h3⟩ := (fnds_mem (Nat.le_refl _)).1 hv
    omega
  · rw [h] at he; simp at he
theorem with_len {l : List Fnd} {E : List Ent} {p : Fnd → Bool} : (withE l E p).length ≤ E.length := by
  unfold withE; rw [List.length_map]; exact List.length_filter_le _ _
theorem ents_lenF (l : List Fnd) (gap : Int) : (entR l gap).1.length ≤ 400 := by
  rcases entR_cases l gap with ⟨hN, h⟩ | ⟨h, _⟩
  · rw [h]
    show (entsF l gap).length ≤ 400
    unfold entsF
    rw [entsK_len]
    have := rootsK_le (rootS l gap) l.length
    have := hN.len
    omega
  · rw [h]; simp

set_option maxRecDepth 20000 in
theorem w_IndexFuncL {n : Nat} {l : List (InL n)} {p : InL n → Bool}  : Fun Tryz.prog 152 [slice 1 (l.map fun x => [int x.1]), clo Tryz.prog (fun x : InL n => [int x.1]) (fun x => bool (p x))] (int (idx p l)) := by
 refine Fun.of Tryz.func152 rfl rfl (by exact Nat.le_of_ble_eq_true rfl) fun M0 w0 => ?_
 refine Tr.lenm 0 rfl fun hlm_0 => ?_
 refine Tr.seq (Tr.reg0 ?_)
 refine Ch.as rfl rfl rfl rfl rfl ?_
 refine Ch.nil (Fin.go (Tr.seq (Tr.seq (Tr.reg0 ?_))))
 refine Ch.mv rfl rfl rfl rfl rfl ?_
 first
  | refine Ch.oo rfl rfl rfl (ok_lenm rfl Tryz.underlying22 (vl rfl)) ?_
  | refine Ch.oo rfl rfl rfl (ok_len rfl Tryz.underlying22 (vl rfl)) ?_
 refine Ch.mv rfl rfl rfl rfl rfl ?_
 refine Ch.nil (Fin.go (Tr.block ?_))
 refine Tr.loopw [(0, _), (1, _), (7, _)] ⟨ke rfl, ke rfl, ke rfl, trivial⟩ (fun k : Nat => [(8, int ((k : Nat) : Int))]) (fun k : Nat => k ≤ (l).length ∧ (∀ j y, j < k → l[j]? = some y → p y = false)) (fun k : Nat => (l).length - k) 0 (⟨Nat.zero_le _, fun j y hj => absurd hj (by omega)⟩) ⟨ke rfl, trivial⟩ ?_
 rintro k ⟨hle_k, hinv_k⟩
 refine Tr.seq (Tr.reg0 ?_)
 refine Ch.oo rfl rfl rfl (ok_int rfl (vl rfl) (vl rfl) rfl) ?_
 refine Ch.nil (Fin.go (Tr.seq ?_))
 refine Tr.cn rfl (fun h1 q1 => ?_) (fun h1 q1 => ?_)
 ·
  have hk_k : k < (l).length := lt_of_dec h1
  obtain ⟨x, hx_k⟩ := at_ hk_k
  refine Tr.skip (Fin.go (Tr.seq (Tr.block (Tr.seq (Tr.reg0 ?_)))))
  refine Ch.mv rfl rfl rfl rfl rfl ?_
  refine Ch.as rfl rfl rfl rfl rfl ?_
  refine Ch.nil (Fin.go (Tr.seq (Tr.reg0 ?_)))
  iterate 3 refine Ch.mv rfl rfl rfl rfl rfl ?_
  refine Ch.oo rfl rfl rfl (ok_indexAddr rfl Tryz.underlying22 sz3 (vl rfl) (vl rfl) (by omega) (by first | exact row_at (by assumption) | exact row_atI (by assumption) | assumption)) ?_
  refine Ch.oo rfl rfl rfl (ok_load1 rfl one3 (vl rfl)) ?_
  refine Ch.oo rfl rfl rfl (ok_callc x rfl (vl rfl) ⟨ke rfl, trivial⟩) ?_
  refine Ch.nil (Fin.go ?_)
  refine Tr.cn rfl (fun h2 q2 => ?_) (fun h2 q2 => ?_)
  ·
   refine Tr.seq (Tr.reg0 ?_)
   refine Ch.mv rfl rfl rfl rfl rfl ?_
   refine Ch.as rfl rfl rfl rfl rfl ?_
   refine Ch.nil (Fin.go ?_)
   refine Tr.w1 4 rfl ?_
   refine Tr.ret ?_
   refine Fin.block_ret ?_
   refine Fin.then_ret ?_
   refine Fin.then_ret ?_
   refine Fin.block_ret ?_
   refine Fin.then_ret ?_
   refine Fin.ret1 rfl (OutW.bse _ _) rfl ?_
   · exact int_eq (idx_found hx_k (by assumption) hinv_k)
  ·
   refine Tr.skip (Fin.block (Fin.go (Tr.reg0 ?_)))
   first
    | (refine Ch.oo rfl rfl rfl (ok_add rfl (vl rfl) (vl rfl) ?hin) ?_; case hin => unfold InI; omega)
    | refine Ch.oo rfl rfl rfl (ok_int rfl (vl rfl) (vl rfl) rfl) ?_
   refine Ch.mv rfl rfl rfl rfl rfl ?_
   refine Ch.nil ?_
   exact Fin.fam_same (k + 1) ⟨⟨hk_k, step_no hx_k (by assumption) hinv_k⟩, by omega⟩ ⟨⟨_, rfl, int_succ k⟩, ke rfl, ke rfl, ke rfl, trivial⟩
 ·
  have he_k : k = (l).length := by have := ge_of_dec h1; omega
  subst he_k
  refine Tr.exit ?_
  refine Fin.then_exit ?_
  refine Fin.then_exit ?_
  refine Fin.block_here ?_
  refine Fin.go (Tr.seq (Tr.reg0 ?_))
  refine Ch.as rfl rfl rfl rfl rfl ?_
  refine Ch.nil (Fin.go (Tr.ret ?_))
  refine Fin.ret1 rfl (OutW.bse _ _) rfl ?_
  · exact int_eq (idx_none hinv_k)
set_option maxRecDepth 20000 in
theorem w_ContainsFuncL {n : Nat} {l : List (InL n)} {p : InL n → Bool}  : Fun Tryz.prog 122 [slice 1 (l.map fun x => [int x.1]), clo Tryz.prog (fun x : InL n => [int x.1]) (fun x => bool (p x))] (bool (l.any p)) := by
 refine Fun.of Tryz.func122 rfl rfl (by exact Nat.le_of_ble_eq_true rfl) fun M0 w0 => ?_
 refine Tr.seq (Tr.reg0 ?_)
 refine Ch.as rfl rfl rfl rfl rfl ?_
 refine Ch.nil (Fin.go (Tr.seq (Tr.reg0 ?_)))
 refine Ch.mv rfl rfl rfl rfl rfl ?_
 refine Ch.mv rfl rfl rfl rfl rfl ?_
 refine Ch.oo rfl rfl rfl (ok_call rfl (w_IndexFuncL) ⟨ke rfl, ke rfl, trivial⟩) ?_
 refine Ch.oo rfl rfl rfl (ok_int rfl (vl rfl) (vl rfl) rfl) ?_
 refine Ch.as rfl rfl rfl rfl rfl ?_
 refine Ch.nil (Fin.go (Tr.ret ?_))
 refine Fin.ret1 rfl (OutW.bse _ _) rfl ?_
 · exact bool_eq (idx_any p l)
set_option maxRecDepth 20000 in
theorem w_with1 {l : List Fnd} {p : Fnd → Bool} {v : Int} (h0 : 0 ≤ v) (hv : v < (l.length : Nat)) : Fun Tryz.prog 123 [int v, ref [clo Tryz.prog (fun f : Fnd => [agg (rowF f)]) (fun f => bool (p f))], ref [fnds l]] (bool (hitP l p v)) := by
 refine Fun.of Tryz.func123 rfl rfl (by exact Nat.le_of_ble_eq_true rfl) fun M0 w0 => ?_
 obtain ⟨f, hf⟩ := at_ (l := l) (k := v.toNat) (by omega)
 refine Tr.seq (Tr.reg0 ?_)
 refine Ch.as rfl rfl rfl rfl rfl ?_
 refine Ch.nil (Fin.go (Tr.seq ?_))
 refine Tr.reg1 mixed (by kernel_rfl) ?_
 refine Ch.oo rfl rfl rfl (ok_load1 rfl one104 (vl rfl)) ?_
 refine Ch.oo rfl rfl rfl (ok_load1 rfl one31 (vl rfl)) ?_
 refine Ch.mv rfl rfl rfl rfl rfl ?_
 refine Ch.oo rfl rfl rfl (ok_indexAddr rfl Tryz.underlying31 sz26 (vl rfl) (vl rfl) (by omega) (row_atI hf)) ?_
 refine Ch.oo rfl rfl rfl (ok_loadA rfl agg26 sz26 (vl rfl) rfl rfl) ?_
 refine Ch.oo rfl rfl rfl (ok_callc f rfl (vl rfl) ⟨ke rfl, trivial⟩) ?_
 refine Ch.as rfl rfl rfl rfl rfl ?_
 refine Ch.nil (Fin.go (Tr.ret ?_))
 refine Fin.ret1 rfl (OutW.bse _ _) rfl ?_
 · exact bool_eq (hit_at hf).symm
theorem e_with1 : Entry Tryz.prog 123 := ⟨_, Tryz.func123, rfl, rfl⟩
set_option maxRecDepth 20000 in
theorem w_with {l : List Fnd} {E : List Ent} {p : Fnd → Bool} (hE : ∀ e ∈ E, ∀ v ∈ e.fnds, 0 ≤ v ∧ v < (l.length : Nat)) (hn : E.length ≤ 400) : Fun Tryz.prog 73 [fnds l, ents E, clo Tryz.prog (fun f : Fnd => [agg (rowF f)]) (fun f => bool (p f))] (ints (withE l E p)) := by
 refine Fun.of Tryz.func73 rfl rfl (by exact Nat.le_of_ble_eq_true rfl) fun M0 w0 => ?_
 refine Tr.lenm 1 rfl fun hlm_1 => ?_
 refine Tr.seq (Tr.reg0 ?_)
 refine Ch.oo rfl rfl rfl (ok_box rfl (VL.le (vl rfl) (one_cellsP _))) ?_
 refine Ch.oo rfl rfl rfl (ok_box rfl (VL.le (vl rfl) (one_cellsP _))) ?_
 refine Ch.as rfl rfl rfl rfl rfl ?_
 refine Ch.nil (Fin.go (Tr.seq (Tr.reg0 ?_)))
 refine Ch.as rfl rfl rfl rfl rfl ?_
 refine Ch.nil (Fin.go (Tr.seq (Tr.seq (Tr.reg0 ?_))))
 refine Ch.mv rfl rfl rfl rfl rfl ?_
 first
  | refine Ch.oo rfl rfl rfl (ok_lenm rfl Tryz.underlying35 (vl rfl)) ?_
  | refine Ch.oo rfl rfl rfl (ok_len rfl Tryz.underlying35 (vl rfl)) ?_
 refine Ch.mv rfl rfl rfl rfl rfl ?_
 refine Ch.nil (Fin.go (Tr.block ?_))
 refine Tr.addnil 3 1 ?_
 refine Tr.loopV1 [(3, _), (5, _), (10, _), (11, _)] ⟨ke rfl, ke rfl, ke rfl, ke rfl, trivial⟩ (fun k v => [(12, int ((k : Nat) : Int)), (7, andIs v (ints (withE l (E.take k) p)))]) (fun k v => Hp M0 w0 noS ([appRes 3 1 v])) (fun k : Nat => k ≤ (E).length) (fun k : Nat => (E).length - k) 0 (.slice none 0 0) (Nat.zero_le _) ⟨ke rfl, ⟨_, rfl, own_nil rfl⟩, trivial⟩ (fun _ _ h => h) ?_
 rintro k v hle_k
 refine Tr.seq (Tr.reg0 ?_)
 refine Ch.oo rfl rfl rfl (ok_int rfl (vl rfl) (vl rfl) rfl) ?_
 refine Ch.nil (Fin.go (Tr.seq ?_))
 refine Tr.cn rfl (fun h1 q1 => ?_) (fun h1 q1 => ?_)
 ·
  have hk_k : k < (E).length := lt_of_dec h1
  obtain ⟨x, hx_k⟩ := at_ hk_k
  obtain ⟨L, hL⟩ := attachL (hE x (List.mem_of_getElem? hx_k))
  have hwl := with_len (l := l) (E := E.take k) (p := p)
  rw [List.length_take] at hwl
  refine Tr.skip (Fin.go (Tr.seq (Tr.block (Tr.seq (Tr.regT ?_)))))
  refine TO.oo rfl rfl rfl (ok_indexAddr rfl Tryz.underlying35 sz55 (vl rfl) (vl rfl) (by omega) (by first | exact row_at (by assumption) | exact row_atI (by assumption) | assumption)) ?_
  refine TO.oo rfl rfl rfl (ok_loadA rfl agg55 sz55 (vl rfl) rfl rfl) ?_
  refine TO.alloc rfl rfl (by decide) rfl z55 zo55 (fun b1 => ?_)
  refine TO.store_all 0 rfl rfl rfl (vl rfl) (VL.le (vl rfl) (agg_cellsP _)) rfl sz55 rfl rfl ?_
  refine TO.freeze 0 9 rfl rfl ?_
  refine TO.nil (Fin.go (Tr.seq (Tr.reg0 ?_)))
  refine Ch.oo rfl rfl rfl (ok_fieldAddr rfl fo55_3 (vl rfl) rfl) ?_
  refine Ch.oo rfl rfl rfl (ok_load1 rfl one22 (vl rfl)) ?_
  refine Ch.oo rfl rfl rfl (ok_makeFunc rfl rfl) ?_
  refine Ch.oo rfl rfl rfl (ok_call rfl (w_ContainsFuncL (l := L) (p := fun y => hitP l p y.1)) ⟨⟨_, rfl, Pr.le_of_eq (by rw [← hL]; unfold ints; rw [List.map_map]; rfl)⟩, ⟨_, rfl, fn_le_clo e_with1 (fun y => w_with1 y.2.1 y.2.2)⟩, trivial⟩) ?_
  refine Ch.nil (Fin.go ?_)
  refine Tr.w8 3 5 7 9 10 11 12 19 rfl rfl rfl rfl rfl rfl rfl rfl ?_
  refine Tr.cn rfl (fun h2 q2 => ?_) (fun h2 q2 => ?_)
  ·
   rw [show (L.any fun y => hitP l p y.1) = (x.fnds.any fun v => hitP l p v) by rw [← hL, List.any_map]; rfl] at h2
   have hst := with_succ (l := l) (p := p) hx_k
   rw [if_pos h2] at hst
   refine Tr.regT ?_
   refine TO.mv rfl rfl rfl rfl rfl ?_
   refine TO.oo rfl rfl rfl (ok_fieldAddr rfl fo55_0 (vl rfl) rfl) ?_
   refine TO.oo rfl rfl rfl (ok_load1 rfl one3 (vl rfl)) ?_
   refine TO.oo rfl rfl rfl (ok_buildSlice (xs := [.tmp 22]) (rows := [[_]]) rfl rfl Tryz.underlying22 sz3 z3 rfl (by decide) ⟨⟨(by exact rfl), (VL.le (vl rfl) (one_cellsP _))⟩, trivial⟩ (by decide)) ?_
   refine TO.efs 0 rfl rfl (by decide) (ef_append rfl rfl (by decide) rfl Tryz.underlying22 sz3 by3 z3 rfl (by decide) ⟨_, rfl, andIs_le _ _⟩ ⟨_, rfl, full_le _ _⟩ (by simp only [List.length_map, List.length_append, List.length_cons, List.length_nil]; unfold maxLen; omega) (by simp only [List.length_map, List.length_append, List.length_cons, List.length_nil]; omega) (appR_is (by exact List.Mem.head _) ⟨_, rfl, andIs_is _ _⟩)) (fun v1 => ?_)
   refine TO.as rfl rfl rfl rfl rfl ?_
   refine TO.nil (Fin.block (Fin.go ?_))
   refine Tr.w6 3 5 7 10 11 12 rfl rfl rfl rfl rfl rfl ?_
   refine Tr.reg0 ?_
   first
    | (refine Ch.oo rfl rfl rfl (ok_add rfl (vl rfl) (vl rfl) ?hin) ?_; case hin => unfold InI; omega)
    | refine Ch.oo rfl rfl rfl (ok_int rfl (vl rfl) (vl rfl) rfl) ?_
   refine Ch.mv rfl rfl rfl rfl rfl ?_
   refine Ch.nil ?_
   exact Fin.famV1 (k + 1) v1 (⟨hk_k, by omega⟩) ⟨⟨_, rfl, int_succ k⟩, ⟨_, rfl, own_le (by first | (rw [hst, List.map_append]; rfl) | rw [hst])⟩, ke rfl, ke rfl, ke rfl, ke rfl, trivial⟩ (fun _ _ h => h)
  ·
   rw [show (L.any fun y => hitP l p y.1) = (x.fnds.any fun v => hitP l p v) by rw [← hL, List.any_map]; rfl] at h2
   have hst := with_succ (l := l) (p := p) hx_k
   rw [if_neg (by rw [h2]; decide), List.append_nil] at hst
   refine Tr.skip (Fin.block (Fin.go (Tr.reg0 ?_)))
   first
    | (refine Ch.oo rfl rfl rfl (ok_add rfl (vl rfl) (vl rfl) ?hin) ?_; case hin => unfold InI; omega)
    | refine Ch.oo rfl rfl rfl (ok_int rfl (vl rfl) (vl rfl) rfl) ?_
   refine Ch.mv rfl rfl rfl rfl rfl ?_
   refine Ch.nil ?_
   exact Fin.famV1 (k + 1) v (⟨hk_k, by omega⟩) ⟨⟨_, rfl, int_succ k⟩, ⟨_, rfl, own_le (by first | (rw [hst, List.map_append]; rfl) | rw [hst])⟩, ke rfl, ke rfl, ke rfl, ke rfl, trivial⟩ (fun _ _ h => h)
 ·
  have he_k : k = (E).length := by have := ge_of_dec h1; omega
  subst he_k
  rw [List.take_length]
  refine Tr.exit ?_
  refine Fin.then_exit ?_
  refine Fin.then_exit ?_
  refine Fin.block_here ?_
  refine Fin.go (Tr.seq (Tr.reg0 ?_))
  refine Ch.mv rfl rfl rfl rfl rfl ?_
  refine Ch.as rfl rfl rfl rfl rfl ?_
  refine Ch.nil (Fin.go (Tr.ret ?_))
  refine Fin.ret1 rfl (OutW.bse _ _) rfl ?_
  · exact andIs_le _ _
set_option maxRecDepth 20000 in
theorem w_Touched1 {f g : Fnd}  : Fun Tryz.prog 76 [agg (rowF g), ref (rowF f)] (bool (touchP f g)) := by
 refine Fun.of Tryz.func76 rfl rfl (by exact Nat.le_of_ble_eq_true rfl) fun M0 w0 => ?_
 refine Tr.seq (Tr.reg0 ?_)
 refine Ch.oo rfl rfl rfl (ok_box rfl (VL.le (vl rfl) (agg_cellsP _))) ?_
 refine Ch.as rfl rfl rfl rfl rfl ?_
 refine Ch.nil (Fin.go (Tr.seq (Tr.reg0 ?_)))
 refine Ch.oo rfl rfl rfl (ok_fieldAddr rfl fo26_1 (vl rfl) rfl) ?_
 refine Ch.oo rfl rfl rfl (ok_load1 rfl one9 (vl rfl)) ?_
 refine Ch.oo rfl rfl rfl (ok_fieldAddr rfl fo26_1 (vl rfl) rfl) ?_
 refine Ch.oo rfl rfl rfl (ok_load1 rfl one9 (vl rfl)) ?_
 refine Ch.oo rfl rfl rfl (ok_eqs rfl (vl rfl) (vl rfl)) ?_
 refine Ch.mv rfl rfl rfl rfl rfl ?_
 refine Ch.cs 9 rfl (fun h1 q1 => ?_) (fun h1 q1 => ?_)
 ·
  iterate 4 refine Ch.nf h1 rfl rfl rfl rfl rfl ?_
  iterate 5 refine Ch.u rfl rfl rfl rfl rfl ?_
  refine Ch.nf h1 rfl rfl rfl rfl rfl ?_
  refine Ch.oo rfl rfl rfl (ok_pick_t rfl (vl rfl) h1 (vl rfl)) ?_
  refine Ch.as rfl rfl rfl rfl rfl ?_
  refine Ch.nil (Fin.go ?_)
  refine Tr.w1 3 rfl ?_
  refine Tr.ret ?_
  refine Fin.ret1 rfl (OutW.bse _ _) rfl ?_
  · refine bool_eq ?_; unfold touchP; rw [Bool.eq_iff_iff]; simp_all
 ·
  refine Ch.y h1 rfl rfl rfl rfl rfl (ok_fieldAddr rfl fo26_2 (vl rfl) rfl) ?_
  refine Ch.y h1 rfl rfl rfl rfl rfl (ok_load1 rfl one3 (vl rfl)) ?_
  refine Ch.y h1 rfl rfl rfl rfl rfl (ok_int rfl (vl rfl) (vl rfl) rfl) ?_
  refine Ch.ym h1 rfl rfl rfl rfl rfl rfl rfl ?_
  refine Ch.cs 13 rfl (fun h2 q2 => ?_) (fun h2 q2 => ?_)
  ·
   refine Ch.y h2 rfl rfl rfl rfl rfl (ok_fieldAddr rfl fo26_2 (vl rfl) rfl) ?_
   refine Ch.y h2 rfl rfl rfl rfl rfl (ok_load1 rfl one3 (vl rfl)) ?_
   refine Ch.y h2 rfl rfl rfl rfl rfl (ok_fieldAddr rfl fo26_2 (vl rfl) rfl) ?_
   refine Ch.y h2 rfl rfl rfl rfl rfl (ok_load1 rfl one3 (vl rfl)) ?_
   refine Ch.y h2 rfl rfl rfl rfl rfl (ok_int rfl (vl rfl) (vl rfl) rfl) ?_
   refine Ch.y h1 rfl rfl rfl rfl rfl (ok_pick_t rfl (vl rfl) h2 (vl rfl)) ?_
   refine Ch.oo rfl rfl rfl (ok_pick_f rfl (vl rfl) h1 (vl rfl)) ?_
   refine Ch.as rfl rfl rfl rfl rfl ?_
   refine Ch.nil (Fin.go ?_)
   refine Tr.w1 3 rfl ?_
   refine Tr.ret ?_
   refine Fin.ret1 rfl (OutW.bse _ _) rfl ?_
   · refine bool_eq ?_; unfold touchP; rw [Bool.eq_iff_iff]; simp_all
  ·
   iterate 5 refine Ch.nt h2 rfl rfl rfl rfl rfl ?_
   refine Ch.y h1 rfl rfl rfl rfl rfl (ok_pick_f rfl (vl rfl) h2 (vl rfl)) ?_
   refine Ch.oo rfl rfl rfl (ok_pick_f rfl (vl rfl) h1 (vl rfl)) ?_
   refine Ch.as rfl rfl rfl rfl rfl ?_
   refine Ch.nil (Fin.go ?_)
   refine Tr.w1 3 rfl ?_
   refine Tr.ret ?_
   refine Fin.ret1 rfl (OutW.bse _ _) rfl ?_
   · refine bool_eq ?_; unfold touchP; rw [Bool.eq_iff_iff]; simp_all
theorem e_Touched1 : Entry Tryz.prog 76 := ⟨_, Tryz.func76, rfl, rfl⟩
set_option maxRecDepth 20000 in
theorem w_ITouched {l : List Fnd} {gap : Int} {f : Fnd} (hf : ∀ f ∈ l, f.fits) (hff : f.fits) : Fun Tryz.prog 22 [fnds l, int gap, agg (rowF f)] (tup [ints (touchR l gap f).1, int (touchR l gap f).2]) := by
 refine Fun.of Tryz.func22 rfl rfl (by exact Nat.le_of_ble_eq_true rfl) fun M0 w0 => ?_
 refine Tr.seq (Tr.reg0 ?_)
 refine Ch.oo rfl rfl rfl (ok_box rfl (VL.le (vl rfl) (agg_cellsP _))) ?_
 refine Ch.as rfl rfl rfl rfl rfl ?_
 refine Ch.as rfl rfl rfl rfl rfl ?_
 refine Ch.nil (Fin.go (Tr.seq (Tr.reg0 ?_)))
 refine Ch.mv rfl rfl rfl rfl rfl ?_
 refine Ch.mv rfl rfl rfl rfl rfl ?_
 refine Ch.oo rfl rfl rfl (ok_call rfl (w_IEntities (by assumption)) ⟨ke rfl, ke rfl, trivial⟩) ?_
 refine Ch.mv rfl rfl rfl rfl rfl ?_
 refine Ch.oo rfl rfl rfl (ok_extract rfl (vl rfl) rfl) ?_
 refine Ch.oo rfl rfl rfl (ok_extract rfl (vl rfl) rfl) ?_
 refine Ch.as rfl rfl rfl rfl rfl ?_
 refine Ch.as rfl rfl rfl rfl rfl ?_
 refine Ch.nil (Fin.go (Tr.seq (Tr.seq (Tr.reg0 ?_))))
 refine Ch.mv rfl rfl rfl rfl rfl ?_
 refine Ch.oo rfl rfl rfl (ok_int rfl (vl rfl) (vl rfl) rfl) ?_
 refine Ch.nil (Fin.go ?_)
 refine Tr.cn rfl (fun h1 q1 => ?_) (fun h1 q1 => ?_)
 ·
  have hE0 : ¬ (entR l gap).2 = 0 := q1
  have hR : touchR l gap f = ([], (entR l gap).2) := if_neg hE0
  refine Tr.seq (Tr.reg0 ?_)
  refine Ch.mv rfl rfl rfl rfl rfl ?_
  refine Ch.as rfl rfl rfl rfl rfl ?_
  refine Ch.as rfl rfl rfl rfl rfl ?_
  refine Ch.nil (Fin.go ?_)
  refine Tr.w2 6 7 rfl rfl ?_
  refine Tr.ret ?_
  refine Fin.then_ret ?_
  refine Fin.ret2 rfl (OutW.bse _ _) rfl ?_ rfl ?_
  · rw [hR]; exact nil_slice 1
  · rw [hR]; exact Pr.le_refl _
 ·
  have hE0 : (entR l gap).2 = 0 := q1
  have hin := ents_in l gap
  have hln := ents_lenF l gap
  refine Tr.skip (Fin.go (Tr.seq (Tr.seq (Tr.reg0 ?_))))
  refine Ch.oo rfl rfl rfl (ok_loadA rfl agg26 sz26 (vl rfl) rfl rfl) ?_
  refine Ch.oo rfl rfl rfl (ok_call rfl (w_FCheck (by assumption)) ⟨ke rfl, trivial⟩) ?_
  refine Ch.as rfl rfl rfl rfl rfl ?_
  refine Ch.nil (Fin.go ?_)
  refine Tr.w4 0 5 8 10 rfl rfl rfl rfl ?_
  refine Tr.seq (Tr.reg0 ?_)
  refine Ch.mv rfl rfl rfl rfl rfl ?_
  refine Ch.oo rfl rfl rfl (ok_int rfl (vl rfl) (vl rfl) rfl) ?_
  refine Ch.nil (Fin.go ?_)
  refine Tr.cn rfl (fun h2 q2 => ?_) (fun h2 q2 => ?_)
  ·
   have hc := check_noO q2
   have hR : touchR l gap f = ([], 24) := by unfold touchR; rw [if_pos hE0, if_neg (by rw [hc]; decide)]
   refine Tr.seq (Tr.reg0 ?_)
   refine Ch.mv rfl rfl rfl rfl rfl ?_
   refine Ch.as rfl rfl rfl rfl rfl ?_
   refine Ch.as rfl rfl rfl rfl rfl ?_
   refine Ch.nil (Fin.go (Tr.ret ?_))
   refine Fin.then_ret ?_
   refine Fin.ret2 rfl (OutW.bse _ _) rfl ?_ rfl ?_
   · rw [hR]; exact nil_slice 1
   · rw [hR]; refine int_eq ?_; rw [hc]; rfl
  ·
   have hc := check_yesO q2
   have hR : touchR l gap f = (withE l (entR l gap).1 (touchP f), 0) := by unfold touchR; rw [if_pos hE0, if_pos hc]
   refine Tr.skip (Fin.go (Tr.seq (Tr.reg0 ?_)))
   refine Ch.mv rfl rfl rfl rfl rfl ?_
   refine Ch.mv rfl rfl rfl rfl rfl ?_
   refine Ch.oo rfl rfl rfl (ok_makeFunc rfl rfl) ?_
   refine Ch.oo rfl rfl rfl (ok_call rfl (w_with (p := touchP f) hin hln) ⟨ke rfl, ke rfl, ⟨_, rfl, fn_le_clo e_Touched1 (fun g => w_Touched1)⟩, trivial⟩) ?_
   refine Ch.as rfl rfl rfl rfl rfl ?_
   refine Ch.as rfl rfl rfl rfl rfl ?_
   refine Ch.nil (Fin.go (Tr.ret ?_))
   refine Fin.ret2 rfl (OutW.bse _ _) rfl ?_ rfl ?_
   · rw [hR]; exact Pr.le_refl _
   · rw [hR]; exact Pr.le_refl _
end Go.Proofs.YtgdlhajfajddiaaGreat
namespace Go.Proofs.YtgdlhajfajddiaaGreat
open Go Go.RowKit Cp

def insF (x : List Fnd) (f : Fnd) (p : Nat) : List Fnd := x.take p ++ f :: x.drop p
def sg (p i : Nat) : Nat := if i < p then i else i + 1
def sgI (p : Nat) (v : Int) : Int := if v < p then v else v + 1
section
variable {x : List Fnd} {f : Fnd} {p : Nat} {gap : Int}
theorem insF_len (hp : p ≤ x.length) : (insF x f p).length = x.length + 1 := by unfold insF; simp; omega
theorem insF_lo (hp : p ≤ x.length) {i : Nat} (h : i < p) : (insF x f p)[i]? = x[i]? := by
  unfold insF
  rw [List.getElem?_append_left (by rw [List.length_take]; omega), List.getElem?_take, if_pos h]
theorem insF_mid (hp : p ≤ x.length) : (insF x f p)[p]? = some f := by
  unfold insF
  rw [List.getElem?_append_right (by rw [List.length_take]; omega), List.length_take, show p - min p x.length = 0 by omega]; rfl
theorem insF_hi (hp : p ≤ x.length) {i : Nat} (h : p ≤ i) : (insF x f p)[i + 1]? = x[i]? := by
  unfold insF
  rw [List.getElem?_append_right (by rw [List.length_take]; omega), List.length_take, show i + 1 - min p x.length = (i - p) + 1 by omega, List.getElem?_cons_succ, List.getElem?_drop]
  congr 1; omega
theorem insF_sg (hp : p ≤ x.length) (i : Nat) : (insF x f p)[sg p i]? = x[i]? := by
  unfold sg
  split
  · rename_i h; exact insF_lo hp h
  · exact insF_hi hp (by omega)
theorem sg_cases (p k : Nat) : k = p ∨ ∃ i, k = sg p i := by
  rcases Nat.lt_trichotomy k p with h | h | h
  · exact .inr ⟨k, by unfold sg; rw [if_pos h]⟩
  · exact .inl h
  · exact .inr ⟨k - 1, by unfold sg; rw [if_neg (by omega)]; omega⟩
theorem sg_lt {i j : Nat} : sg p i < sg p j ↔ i < j := by unfold sg; split <;> split <;> omega
theorem sg_inj {i j : Nat} : sg p i = sg p j ↔ i = j := by unfold sg; split <;> split <;> omega
theorem sgI_nat (i : Nat) : sgI p ((i : Nat) : Int) = ((sg p i : Nat) : Int) := by unfold sgI sg; split <;> split <;> omega
theorem sgI_neg {v : Int} (h : v < 0) : sgI p v = v := by unfold sgI; rw [if_pos (by omega)]
theorem sgI_neg_iff {v : Int} : sgI p v < 0 ↔ v < 0 := by unfold sgI; split <;> omega
theorem sgI_toNat {v : Int} (h : 0 ≤ v) : (sgI p v).toNat = sg p v.toNat := by unfold sgI sg; split <;> split <;> omega
theorem nearK_lo {g : Fnd} (hp : p ≤ x.length) : ∀ k, k ≤ p → nearK (insF x f p) g gap k = nearK x g gap k
  | 0, _ => rfl
  | k + 1, hk => by
    have ih := nearK_lo (g := g) hp k (by omega)
    have e := insF_lo (f := f) hp (show k < p by omega)
    cases hx : x[k]? with
    | none => rw [List.getElem?_eq_none_iff] at hx; omega
    | some b =>
      rw [hx] at e
      by_cases hs : skipN g b gap = true
      · rw [nearK_skip e hs, nearK_skip hx hs, ih]
      · have hs : skipN g b gap = false := by simpa using hs
        by_cases h0 : nearK x g gap k < 0
        · rw [nearK_first e hs (by rw [ih]; exact h0), nearK_first hx hs h0]
        · rcases nearK_in x g gap k with h1 | ⟨h1, h2, c, hc, _⟩
          · omega
          · have e2 := insF_lo (f := f) hp (show (nearK x g gap k).toNat < p by omega)
            rw [hc] at e2
            rw [nearK_two e hs (by rw [ih]; exact h0) (by rw [ih]; exact e2), nearK_two hx hs h0 hc, ih]
theorem nearK_hi {g : Fnd} (hp : p ≤ x.length) (hf : skipN g f gap = true) : ∀ k, p ≤ k → k ≤ x.length → nearK (insF x f p) g gap (k + 1) = sgI p (nearK x g gap k) := by
  intro k hk hkl
  induction k with
  | zero =>
    have hp0 : p = 0 := by omega
    subst hp0
    rw [nearK_skip (insF_mid hp) hf]
    show (-1 : Int) = sgI 0 (-1)
    rw [sgI_neg (by omega)]
  | succ k ih =>
    rcases Nat.lt_or_eq_of_le hk with h1 | h1
    · have ih := ih (by omega) (by omega)
      have e := insF_hi (f := f) hp (show p ≤ k by omega)
      obtain ⟨b, hx⟩ := at_ (l := x) (k := k) (by omega)
      rw [hx] at e
      by_cases hs : skipN g b gap = true
      · rw [nearK_skip e hs, nearK_skip hx hs, ih]
      · have hs : skipN g b gap = false := by simpa using hs
        have hcast : (((k + 1 : Nat)) : Int) = sgI p ((k : Nat) : Int) := by unfold sgI; rw [if_neg (by omega)]; omega
        by_cases h0 : nearK x g gap k < 0
        · rw [nearK_first e hs (by rw [ih]; exact sgI_neg_iff.2 h0), nearK_first hx hs h0, hcast]
        · rcases nearK_in x g gap k with h2 | ⟨h2, h3, c, hc, _⟩
          · omega
          · have e2 : (insF x f p)[(nearK (insF x f p) g gap (k + 1)).toNat]? = some c := by rw [ih, sgI_toNat h2, insF_sg hp, hc]
            rw [nearK_two e hs (by rw [ih, sgI_neg_iff]; exact h0) e2, nearK_two hx hs h0 hc, ih, hcast]
            split <;> rfl
    · rw [← h1, nearK_skip (insF_mid hp) hf, nearK_lo hp p (Nat.le_refl _)]
      have hin := nearK_in x g gap p
      unfold sgI
      rw [if_pos (by omega)]
theorem near_ins {g : Fnd} (hp : p ≤ x.length) (hf : skipN g f gap = true) : near (insF x f p) g gap = sgI p (near x g gap) := by
  show nearK _ _ _ (insF x f p).length = _
  rw [insF_len hp]; exact nearK_hi hp hf x.length hp (Nat.le_refl _)
theorem lastM_lo {m : Int} (hp : p ≤ x.length) : ∀ k, k ≤ p → lastM (insF x f p) m k = lastM x m k
  | 0, _ => rfl
  | k + 1, hk => by unfold lastM; rw [insF_lo hp (show k < p by omega), lastM_lo hp k (by omega)]
theorem lastM_sg {m : Int} (hp : p ≤ x.length) (hm : ¬ f.machine = m) (i : Nat) : lastM (insF x f p) m (sg p i) = sgI p (lastM x m i) := by
  unfold sg
  split
  · rename_i h
    rw [lastM_lo hp i (by omega)]
    have := lastM_in x m i
    unfold sgI; rw [if_pos (by omega)]
  · rename_i h
    have hpi : p ≤ i := by omega
    clear h
    induction i with
    | zero =>
      have hp0 : p = 0 := by omega
      subst hp0
      show (if ((insF x f 0)[0]?).map (·.machine) = some m then ((0 : Nat) : Int) else -1) = sgI 0 (-1)
      rw [insF_mid hp, if_neg (by simpa using hm), sgI_neg (by omega)]
    | succ i ih =>
      rcases Nat.lt_or_eq_of_le hpi with h1 | h1
      · have ih := ih (by omega)
        show (if ((insF x f p)[i + 1]?).map (·.machine) = some m then ((i + 1 : Nat) : Int) else lastM (insF x f p) m (i + 1)) = sgI p (if (x[i]?).map (·.machine) = some m then ((i : Nat) : Int) else lastM x m i)
        rw [insF_hi hp (by omega), ih]
        split
        · unfold sgI; rw [if_neg (by omega)]; omega
        · rfl
      · rw [← h1]
        show (if ((insF x f p)[p]?).map (·.machine) = some m then ((p : Nat) : Int) else lastM (insF x f p) m p) = _
        rw [insF_mid hp, if_neg (by simpa using hm), lastM_lo hp p (Nat.le_refl _)]
        have := lastM_in x m p
        unfold sgI; rw [if_pos (by omega)]
theorem skip_host {g : Fnd} (h : ¬ g.host = f.host) : skipN g f gap = true := skip_yes (.inr (.inl fun e => h e.symm))
/-- Of another host, or with a machine: what it is of stays. -/
theorem mOf_ins {i : Nat} {g : Fnd} (hp : p ≤ x.length) (hg : x[i]? = some g) (h : ¬ g.machine = 0 ∨ ¬ g.host = f.host) : mOf (insF x f p) gap (sg p i) = mOf x gap i := by
  have hg' : (insF x f p)[sg p i]? = some g := by rw [insF_sg hp, hg]
  by_cases hm : g.machine = 0
  · have hh : ¬ g.host = f.host := by rcases h with h | h; exact absurd hm h; exact h
    have hn := near_ins (gap := gap) (x := x) hp (skip_host hh)
    rcases Int.lt_or_le (near x g gap) 0 with h0 | h0
    · rw [mOf_loose hg hm h0, mOf_loose hg' hm (by rw [hn, sgI_neg_iff]; exact h0)]
    · obtain ⟨_, b, hb, _⟩ := near_get h0
      have hb' : (insF x f p)[(near (insF x f p) g gap).toNat]? = some b := by rw [hn, sgI_toNat h0, insF_sg hp, hb]
      have h0' : 0 ≤ near (insF x f p) g gap := by
        rcases Int.lt_or_le (near (insF x f p) g gap) 0 with h9 | h9
        · rw [hn, sgI_neg_iff] at h9; omega
        · exact h9
      rw [mOf_near hg hm h0 hb, mOf_near hg' hm h0' hb']
  · rw [mOf_own hg hm, mOf_own hg' hm]
end
/-- It has neither the host nor the machine of f. -/
structure Far (f g : Fnd) : Prop where
  host : ¬ g.host = f.host
  mach : f.machine = 0 ∨ ¬ g.machine = f.machine
section
variable {x : List Fnd} {f : Fnd} {p : Nat} {gap : Int}
theorem edge_far (hp : p ≤ x.length) (hx : AdjF x) (hy : AdjF (insF x f p)) {i : Nat} {g : Fnd} (hg : x[i]? = some g) (h : Far f g) : edgeOf (insF x f p) gap (sg p i) = sgI p (edgeOf x gap i) := by
  have hg' : (insF x f p)[sg p i]? = some g := by rw [insF_sg hp, hg]
  by_cases hm : g.machine = 0
  · have hn := near_ins (gap := gap) (x := x) hp (skip_host h.host)
    rcases Int.lt_or_le (near x g gap) 0 with h0 | h0
    · have h0' : near (insF x f p) g gap < 0 := by rw [hn, sgI_neg_iff]; exact h0
      rw [edge_loose hg hm h0, edge_loose hg' hm h0']
      have hny : ∀ j e, x[j]? = some e → nextTo (insF x f p) gap (sg p j) (sg p i) = nextTo x gap j i := by
        intro j e he
        unfold nextTo
        rw [insF_sg hp, insF_sg hp]
      by_cases hq : 0 ≤ prevK x gap i ∧ nextTo x gap (prevK x gap i).toNat i = true
      · rw [if_pos hq]
        rcases prevK_in x gap i with h1 | ⟨h1, h2, h3⟩
        · omega
        obtain ⟨e, he⟩ := at_ (l := x) (k := (prevK x gap i).toNat) (by have := lt_of_atX hg; omega)
        have hne : e.host = g.host := by
          have := hq.2
          unfold nextTo at this
          rw [he, hg] at this
          exact (of_decide_eq_true this).1
        have he0 : mOf (insF x f p) gap (sg p (prevK x gap i).toNat) = 0 := by rw [mOf_ins hp he (.inr (by rw [hne]; exact h.host))]; exact h3
        have hmx := prevK_max (l := insF x f p) (gap := gap) (sg p i) (sg p (prevK x gap i).toNat) (sg_lt.2 h2) he0
        have hq' : prevK (insF x f p) gap (sg p i) = ((sg p (prevK x gap i).toNat : Nat) : Int) := by
          rcases prevK_in (insF x f p) gap (sg p i) with h4 | ⟨h4, h5, h6⟩
          · omega
          rcases Nat.lt_or_eq_of_le (show sg p (prevK x gap i).toNat ≤ (prevK (insF x f p) gap (sg p i)).toNat by omega) with h7 | h7
          · exfalso
            rcases sg_cases p (prevK (insF x f p) gap (sg p i)).toNat with h8 | ⟨j, h8⟩
            · rw [h8] at h5 h7
              exact h.host (norm_hosts hy (by rw [insF_sg hp, he]) (insF_mid hp) hg' h7 h5 hne).symm
            · rw [h8] at h5 h6 h7
              have h9 := sg_lt.1 h5
              have h10 := sg_lt.1 h7
              obtain ⟨d, hd⟩ := at_ (l := x) (k := j) (by have := lt_of_atX hg; omega)
              have hdh := norm_hosts hx he hd hg h10 h9 hne
              rw [mOf_ins hp hd (.inr (by rw [hdh]; exact h.host))] at h6
              have := prevK_max (l := x) (gap := gap) i j h9 h6
              omega
          · omega
        have hpe : ((sg p (prevK x gap i).toNat : Nat) : Int) = sgI p (prevK x gap i) := by rw [← sgI_nat]; congr 1; omega
        rw [hq', Int.toNat_natCast, hny _ e he, if_pos ⟨by omega, hq.2⟩, hpe]
      · rw [if_neg hq, sgI_neg (by omega), if_neg]
        rintro ⟨h1, h2⟩
        rcases prevK_in (insF x f p) gap (sg p i) with h4 | ⟨h4, h5, h6⟩
        · omega
        rcases sg_cases p (prevK (insF x f p) gap (sg p i)).toNat with h8 | ⟨j, h8⟩
        · rw [h8] at h2
          unfold nextTo at h2
          rw [insF_mid hp, hg'] at h2
          exact h.host (of_decide_eq_true h2).1.symm
        · rw [h8] at h2 h5 h6
          have h9 := sg_lt.1 h5
          obtain ⟨d, hd⟩ := at_ (l := x) (k := j) (by have := lt_of_atX hg; omega)
          rw [hny j d hd] at h2
          have hdh : d.host = g.host := by
            have := h2
            unfold nextTo at this
            rw [hd, hg] at this
            exact (of_decide_eq_true this).1
          have hd0 := h6
          rw [mOf_ins hp hd (.inr (by rw [hdh]; exact h.host))] at hd0
          have hjq := prevK_max (l := x) (gap := gap) i j h9 hd0
          rcases prevK_in x gap i with k1 | ⟨k1, k2, k3⟩
          · omega
          rcases Nat.lt_or_eq_of_le (show j ≤ (prevK x gap i).toNat by omega) with k4 | k4
          · obtain ⟨c, hc⟩ := at_ (l := x) (k := (prevK x gap i).toNat) (by have := lt_of_atX hg; omega)
            have hch := norm_hosts hx hd hc hg k4 k2 hdh
            have hc0 : mOf (insF x f p) gap (sg p (prevK x gap i).toNat) = 0 := by rw [mOf_ins hp hc (.inr (by rw [hch]; exact h.host))]; exact k3
            have hmx := prevK_max (l := insF x f p) (gap := gap) (sg p i) (sg p (prevK x gap i).toNat) (sg_lt.2 k2) hc0
            have := sg_lt (p := p).2 k4
            omega
          · exact hq ⟨k1, by rw [← k4]; exact h2⟩
    · have h0' : ¬ near (insF x f p) g gap < 0 := by rw [hn, sgI_neg_iff]; omega
      rw [edge_near hg hm (by omega), edge_near hg' hm h0', hn]
  · have hfm : ¬ f.machine = g.machine := by
      rcases h.mach with h1 | h1
      · rw [h1]; exact fun e => hm e.symm
      · exact fun e => h1 e.symm
    rw [edge_own hg hm, edge_own hg' hm, lastM_sg hp hfm]
theorem RR_key {l : List Fnd} {gap : Int} {key : Nat → Nat} : ∀ n, (∀ k, k < n → 0 ≤ edgeOf l gap k → key k = key (edgeOf l gap k).toNat) → ∀ a b, RR l gap n a = RR l gap n b → key a = key b
  | 0, _, _, _, h => by have h : _ = _ := h; exact congrArg _ h
  | n + 1, hk, a, b, h => by
    have ih := RR_key n (fun k h1 h2 => hk k (by omega) h2)
    unfold RR at h
    split at h
    · exact ih a b h
    · exact joinR_sound ih (hk n (by omega) (by omega)) a b h
theorem edge_in {l : List Fnd} {gap : Int} {k : Nat} (hk : k < l.length) (h : 0 ≤ edgeOf l gap k) : (edgeOf l gap k).toNat < l.length := by
  obtain ⟨f, hf⟩ := at_ hk
  by_cases h0 : f.machine = 0
  · by_cases hnr : near l f gap < 0
    · rw [edge_loose hf h0 hnr] at h ⊢
      split at h
      · rename_i hc
        rw [if_pos hc]
        rcases prevK_in l gap k with h1 | ⟨_, h2, _⟩ <;> omega
      · omega
    · rw [edge_near hf h0 hnr]
      exact (near_get (f := f) (gap := gap) (l := l) (by omega)).1
  · rw [edge_own hf h0]
    rcases lastM_in l f.machine k with h1 | ⟨_, h2, _⟩ <;> omega
/-- The host or the machine that an edge goes by. -/
theorem edge_by {l : List Fnd} {gap : Int} {k : Nat} {g : Fnd} (hg : l[k]? = some g) (h : 0 ≤ edgeOf l gap k) : ∃ e, l[(edgeOf l gap k).toNat]? = some e ∧ ((¬ g.machine = 0 ∧ e.machine = g.machine) ∨ (g.machine = 0 ∧ e.host = g.host)) := by
  by_cases h0 : g.machine = 0
  · by_cases hnr : near l g gap < 0
    · rw [edge_loose hg h0 hnr] at h ⊢
      split at h
      · rename_i hc
        rw [if_pos hc]
        rcases prevK_in l gap k with h1 | ⟨_, h2, _⟩
        · omega
        obtain ⟨e, he⟩ := at_ (l := l) (k := (prevK l gap k).toNat) (by have := lt_of_atX hg; omega)
        refine ⟨e, he, .inr ⟨h0, ?_⟩⟩
        have := hc.2
        unfold nextTo at this
        rw [he, hg] at this
        exact (of_decide_eq_true this).1
      · omega
    · rw [edge_near hg h0 hnr]
      obtain ⟨_, e, he, _, h3, _⟩ := near_get (f := g) (gap := gap) (l := l) (by omega)
      exact ⟨e, he, .inr ⟨h0, h3⟩⟩
  · rw [edge_own hg h0] at h ⊢
    rcases lastM_in l g.machine k with h1 | ⟨_, h2, e, he, h3⟩
    · omega
    · exact ⟨e, he, .inl ⟨h0, h3⟩⟩
/-- An entity that f does not touch is one of the longer list. -/
theorem late_class (hp : p ≤ x.length) (hx : AdjF x) (hy : AdjF (insF x f p)) {r : Nat} (hr : r < x.length) (hrr : rootS x gap r = r) (hfar : ∀ i g, x[i]? = some g → rootS x gap i = r → Far f g) (k : Nat) (hk : k < (insF x f p).length) : rootS (insF x f p) gap k = sg p r ↔ ∃ i, k = sg p i ∧ i < x.length ∧ rootS x gap i = r := by
  have hyl := insF_len (f := f) hp
  -- all of it are joined
  have hB : ∀ i, i < x.length → rootS x gap i = r → RR (insF x f p) gap (insF x f p).length (sg p i) = RR (insF x f p) gap (insF x f p).length (sg p r) := by
    intro i hi hir
    classical
    have key : ∀ n, n ≤ x.length → ∀ a b, RR x gap n a = RR x gap n b → (rootS x gap a = r → a < x.length → b < x.length → RR (insF x f p) gap (insF x f p).length (sg p a) = RR (insF x f p) gap (insF x f p).length (sg p b)) := by
      intro n hn a b hab har ha hb
      have hkey := RR_key (l := x) (gap := gap) (key := fun a => if rootS x gap a = r ∧ a < x.length then RR (insF x f p) gap (insF x f p).length (sg p a) else 0) n (fun k hk he => ?_) a b hab
      · have hbr : rootS x gap b = r := by rw [← RR_sound x gap n a b hab]; exact har
        have h1 : (if rootS x gap a = r ∧ a < x.length then RR (insF x f p) gap (insF x f p).length (sg p a) else 0) = if rootS x gap b = r ∧ b < x.length then RR (insF x f p) gap (insF x f p).length (sg p b) else 0 := hkey
        rw [if_pos ⟨har, ha⟩, if_pos ⟨hbr, hb⟩] at h1; exact h1
      · have hkl : k < x.length := by omega
        have hel := edge_in hkl he
        have hes := edge_sound he
        by_cases hkr : rootS x gap k = r
        · obtain ⟨g, hg⟩ := at_ hkl
          have hef := edge_far (gap := gap) hp hx hy hg (hfar k g hg hkr)
          show (if rootS x gap k = r ∧ k < x.length then _ else 0) = if rootS x gap (edgeOf x gap k).toNat = r ∧ _ then _ else 0
          rw [if_pos ⟨hkr, hkl⟩, if_pos ⟨by rw [← hes]; exact hkr, hel⟩]
          have hge : 0 ≤ edgeOf (insF x f p) gap (sg p k) := by
            rcases Int.lt_or_le (edgeOf (insF x f p) gap (sg p k)) 0 with h9 | h9
            · rw [hef, sgI_neg_iff] at h9; omega
            · exact h9
          have hsk : sg p k < (insF x f p).length := by rw [hyl]; unfold sg; split <;> omega
          rw [RR_edge hsk hge, hef, sgI_toNat he]
        · show (if rootS x gap k = r ∧ k < x.length then _ else 0) = if rootS x gap (edgeOf x gap k).toNat = r ∧ _ then _ else 0
          rw [if_neg (fun h => hkr h.1), if_neg (fun h => hkr (by rw [hes]; exact h.1))]
    exact key x.length (Nat.le_refl _) i r (by rw [RR_eq hi, RR_eq hr, hir, hrr]) hir hi hr
  -- nothing else is
  have hA : ∀ a b, RR (insF x f p) gap (insF x f p).length a = RR (insF x f p) gap (insF x f p).length b → ((∃ i, a = sg p i ∧ i < x.length ∧ rootS x gap i = r) ↔ ∃ i, b = sg p i ∧ i < x.length ∧ rootS x gap i = r) := by
    classical
    intro a b hab
    have hkey := RR_key (l := insF x f p) (gap := gap) (key := fun a => if ∃ i, a = sg p i ∧ i < x.length ∧ rootS x gap i = r then 1 else 0) (insF x f p).length (fun k hk he => ?_) a b hab
    · have h1 : (if ∃ i, a = sg p i ∧ i < x.length ∧ rootS x gap i = r then 1 else 0) = (if ∃ i, b = sg p i ∧ i < x.length ∧ rootS x gap i = r then 1 else 0 : Nat) := hkey
      by_cases ha : ∃ i, a = sg p i ∧ i < x.length ∧ rootS x gap i = r <;> by_cases hb : ∃ i, b = sg p i ∧ i < x.length ∧ rootS x gap i = r
      · exact ⟨fun _ => hb, fun _ => ha⟩
      · rw [if_pos ha, if_neg hb] at h1; omega
      · rw [if_neg ha, if_pos hb] at h1; omega
      · exact ⟨fun h => absurd h ha, fun h => absurd h hb⟩
    · have hiff : (∃ i, k = sg p i ∧ i < x.length ∧ rootS x gap i = r) ↔ ∃ i, (edgeOf (insF x f p) gap k).toNat = sg p i ∧ i < x.length ∧ rootS x gap i = r := by
        constructor
        · rintro ⟨i, rfl, hi, hir⟩
          obtain ⟨g, hg⟩ := at_ hi
          have hef := edge_far (gap := gap) hp hx hy hg (hfar i g hg hir)
          have hxe : 0 ≤ edgeOf x gap i := by
            rcases Int.lt_or_le (edgeOf x gap i) 0 with h9 | h9
            · rw [hef, sgI_neg h9] at he; omega
            · exact h9
          exact ⟨(edgeOf x gap i).toNat, by rw [hef, sgI_toNat hxe], edge_in hi hxe, by rw [← edge_sound hxe]; exact hir⟩
        · rintro ⟨e, hee, hel, her⟩
          obtain ⟨d, hd⟩ := at_ hel
          have hdf := hfar e d hd her
          obtain ⟨g, hg⟩ := at_ hk
          obtain ⟨d', hd', hby⟩ := edge_by hg he
          rw [hee, insF_sg hp, hd] at hd'
          cases hd'
          rcases sg_cases p k with h8 | ⟨j, h8⟩
          · subst h8
            rw [insF_mid hp] at hg
            cases hg
            exfalso
            rcases hby with ⟨h1, h2⟩ | ⟨_, h2⟩
            · rcases hdf.mach with h3 | h3
              · exact h1 h3
              · exact h3 h2
            · exact hdf.host h2
          · have hgx : x[j]? = some g := by rw [h8, insF_sg hp] at hg; exact hg
            have hjl := lt_of_atX hgx
            refine ⟨j, h8, hjl, ?_⟩
            rcases hby with ⟨h1, h2⟩ | ⟨h1, h2⟩
            · have := RR_machine' (l := x) (gap := gap) h1 hd hgx h2 rfl
              rw [RR_eq hel, RR_eq hjl] at this
              rw [← this]; exact her
            · have hgf : Far f g := ⟨by rw [← h2]; exact hdf.host, by
                rcases Classical.em (f.machine = 0) with h3 | h3
                · exact .inl h3
                · exact .inr (by rw [h1]; exact fun e => h3 e.symm)⟩
              have hef := edge_far (gap := gap) hp hx hy hgx hgf
              rw [← h8] at hef
              have hxe : 0 ≤ edgeOf x gap j := by
                rcases Int.lt_or_le (edgeOf x gap j) 0 with h9 | h9
                · rw [hef, sgI_neg h9] at he; omega
                · exact h9
              rw [hef, sgI_toNat hxe, sg_inj] at hee
              rw [edge_sound hxe, hee]; exact her
      show (if _ then 1 else 0) = if _ then 1 else (0 : Nat)
      by_cases h9 : ∃ i, k = sg p i ∧ i < x.length ∧ rootS x gap i = r
      · rw [if_pos h9, if_pos (hiff.1 h9)]
      · rw [if_neg h9, if_neg (fun h => h9 (hiff.2 h))]
  have hsr : sg p r < (insF x f p).length := by rw [hyl]; unfold sg; split <;> omega
  -- the least of it
  have hroot : rootS (insF x f p) gap (sg p r) = sg p r := by
    have hle := rootS_le (insF x f p) gap (sg p r)
    have hid := rootS_idem (l := insF x f p) (gap := gap) hsr
    have h1 := (hA (rootS (insF x f p) gap (sg p r)) (sg p r) (by rw [RR_eq (by omega), RR_eq hsr]; exact hid)).2 ⟨r, rfl, hr, hrr⟩
    obtain ⟨i, hi1, hi2, hi3⟩ := h1
    have hri : r ≤ i := by have := rootS_le x gap i; omega
    have : ¬ sg p i < sg p r := fun h => by have := sg_lt.1 h; omega
    omega
  constructor
  · intro h
    exact (hA k (sg p r) (by rw [RR_eq hk, RR_eq hsr, h, hroot])).2 ⟨r, rfl, hr, hrr⟩
  · rintro ⟨i, rfl, hi, hir⟩
    have := hB i hi hir
    rw [RR_eq hk, RR_eq hsr] at this
    rw [this, hroot]
end

end Go.Proofs.YtgdlhajfajddiaaGreat
namespace Go.Proofs.YtgdlhajfajddiaaGreat
open Go Go.RowKit Cp

theorem fnds_asc (l : List Fnd) (root : Nat → Nat) (r : Nat) : ∀ n, n ≤ l.length → Strict cmpI (entK l root r n).fnds
  | 0, _ => List.Pairwise.nil
  | n + 1, hn => by
    obtain ⟨f, hf⟩ := at_ (l := l) (k := n) (by omega)
    have ih := fnds_asc l root r n (by omega)
    by_cases h : root n = r
    · rw [entK_yes hf h]
      show List.Pairwise _ (_ ++ [_])
      rw [List.pairwise_append]
      refine ⟨ih, List.pairwise_singleton _ _, fun a ha b hb => ?_⟩
      rw [List.mem_singleton] at hb
      subst hb
      obtain ⟨j, h1, _, h3⟩ := (fnds_mem (by omega)).1 ha
      unfold cmpI
      rw [if_pos (by omega)]; omega
    · rw [entK_no h]; exact ih
theorem cmpI_lt' {a b : Int} : cmpI a b < 0 ↔ a < b := by
  unfold cmpI
  by_cases h : a < b
  · rw [if_pos h]; omega
  · rw [if_neg h]; split <;> omega
theorem late_fnds {x : List Fnd} {f : Fnd} {p : Nat} {gap : Int} (hp : p ≤ x.length) (hx : AdjF x) (hy : AdjF (insF x f p)) {r : Nat} (hr : r < x.length) (hrr : rootS x gap r = r) (hfar : ∀ i g, x[i]? = some g → rootS x gap i = r → Far f g) :
    (entK (insF x f p) (rootS (insF x f p) gap) (sg p r) (insF x f p).length).fnds = (entK x (rootS x gap) r x.length).fnds.map (sgI p) := by
  refine strict_uniq cmp_int (fnds_asc _ _ _ _ (Nat.le_refl _)) ?_ fun v => ?_
  · show List.Pairwise _ _
    rw [List.pairwise_map]
    refine (fnds_asc x _ r _ (Nat.le_refl _)).imp fun {a b} h => ?_
    rw [cmpI_lt'] at h ⊢
    unfold sgI; split <;> split <;> omega
  · rw [fnds_mem (Nat.le_refl _), List.mem_map]
    constructor
    · rintro ⟨k, h1, h2, h3⟩
      obtain ⟨i, h4, h5, h6⟩ := (late_class hp hx hy hr hrr hfar k h1).1 h2
      exact ⟨(i : Nat), (fnds_mem (Nat.le_refl _)).2 ⟨i, h5, h6, rfl⟩, by rw [sgI_nat, h3, h4]⟩
    · rintro ⟨w, h1, h2⟩
      obtain ⟨i, h3, h4, h5⟩ := (fnds_mem (Nat.le_refl _)).1 h1
      have hl := insF_len (f := f) hp
      have hs : sg p i < (insF x f p).length := by rw [hl]; unfold sg; split <;> omega
      exact ⟨sg p i, hs, (late_class hp hx hy hr hrr hfar _ hs).2 ⟨i, rfl, h3, h4⟩, by rw [← h2, h5, sgI_nat]⟩
def eqAt (x y : List Fnd) (e d : Ent) (o : Nat) : Bool := match e.fnds[o]?, d.fnds[o]? with
  | some v, some w => (match x[v.toNat]?, y[w.toNat]? with | some a, some b => decide (a = b) | _, _ => false)
  | _, _ => true
def allK (x y : List Fnd) (e d : Ent) (k : Nat) : Bool := (List.range k).all fun o => eqAt x y e d o
theorem allK_succ (x y : List Fnd) (e d : Ent) (k : Nat) : allK x y e d (k + 1) = (allK x y e d k && eqAt x y e d k) := by unfold allK; rw [List.range_succ, List.all_append]; simp
theorem eqAt_at {x y : List Fnd} {e d : Ent} {o : Nat} {v w : Int} {a b : Fnd} (h1 : e.fnds[o]? = some v) (h2 : d.fnds[o]? = some w) (h3 : x[v.toNat]? = some a) (h4 : y[w.toNat]? = some b) : eqAt x y e d o = decide (a = b) := by unfold eqAt; rw [h1, h2]; show (match x[v.toNat]?, y[w.toNat]? with | some a, some b => decide (a = b) | _, _ => false) = _; rw [h3, h4]
def matchB (x y : List Fnd) (e d : Ent) : Bool := decide (e.fnds.length = d.fnds.length) && allK x y e d e.fnds.length
/-- An entity whose number is not among the touched ones has neither host nor machine of f. -/
theorem far_of {x : List Fnd} {gap : Int} {f : Fnd} {e : Ent} (he : e ∈ entsF x gap) (hn : (withE x (entsF x gap) (touchP f)).any (fun v => e.num == v) = false) : ∀ v ∈ e.fnds, ∀ g, x[v.toNat]? = some g → Far f g := by
  intro v hv g hg
  have hno : touchP f g = false := by
    cases ht : touchP f g with
    | false => rfl
    | true =>
      exfalso
      have : (withE x (entsF x gap) (touchP f)).any (fun v => e.num == v) = true := by
        rw [List.any_eq_true]
        refine ⟨e.num, ?_, by simp⟩
        unfold withE
        refine List.mem_map.2 ⟨e, List.mem_filter.2 ⟨he, ?_⟩, rfl⟩
        rw [List.any_eq_true]
        exact ⟨v, hv, by rw [hit_at hg]; exact ht⟩
      rw [hn] at this; cases this
  unfold touchP at hno
  simp only [Bool.or_eq_false_iff, Bool.and_eq_false_iff, decide_eq_false_iff_not, Classical.not_not] at hno
  exact ⟨hno.1, hno.2.imp id id⟩
theorem late_ent {x : List Fnd} {gap : Int} {f : Fnd} {e : Ent} (hx : AdjF x) (hy : AdjF (normL (x ++ [f]))) (he : e ∈ entsF x gap) (hfar : ∀ v ∈ e.fnds, ∀ g, x[v.toNat]? = some g → Far f g) : (entsF (normL (x ++ [f])) gap).any (matchB x (normL (x ++ [f])) e) = true := by
  have hyx : normL (x ++ [f]) = putF x f := by
    show (x ++ [f]).foldl putF [] = _
    rw [List.foldl_append]
    show putF (normL x) f = _
    rw [norm_id hx]
  rw [hyx] at hy ⊢
  obtain ⟨r, h1, h2, rfl⟩ := ents_of he
  have hself : ∀ (y : List Fnd) (d : Ent) (τ : Int → Int), d ∈ entsF y gap → d.fnds = (entK x (rootS x gap) r x.length).fnds.map τ → (∀ v ∈ (entK x (rootS x gap) r x.length).fnds, y[(τ v).toNat]? = x[v.toNat]?) → (entsF y gap).any (matchB x y (entK x (rootS x gap) r x.length)) = true := by
    intro y d τ hd hdf hyv
    rw [List.any_eq_true]
    refine ⟨d, hd, ?_⟩
    unfold matchB
    rw [Bool.and_eq_true, decide_eq_true_eq]
    refine ⟨by rw [hdf, List.length_map], ?_⟩
    unfold allK
    rw [List.all_eq_true]
    intro o ho
    have ho := List.mem_range.1 ho
    obtain ⟨v, hv⟩ := at_ ho
    have hvm := List.mem_of_getElem? hv
    have hw : d.fnds[o]? = some (τ v) := by rw [hdf, List.getElem?_map, hv]; rfl
    obtain ⟨j, hj1, _, hj3⟩ := (fnds_mem (Nat.le_refl _)).1 hvm
    obtain ⟨a, ha⟩ := at_ (l := x) (k := v.toNat) (by omega)
    have hb := hyv v hvm
    rw [ha] at hb
    rw [eqAt_at hv hw ha hb]
    simp
  unfold putF at hy ⊢
  by_cases hc : 0 < kF x f ∧ ((x[kF x f - 1]?).map fun y => ordF y f) = some 0
  · rw [if_pos hc]
    exact hself x _ id he (by simp) (fun v _ => rfl)
  · rw [if_neg hc] at hy ⊢
    have hk := kF_le x f
    have e1 : x.take (kF x f) ++ [f] ++ x.drop (kF x f) = insF x f (kF x f) := by unfold insF; simp
    rw [e1] at hy ⊢
    have hfar' : ∀ i g, x[i]? = some g → rootS x gap i = r → Far f g := fun i g hg hir => hfar ((i : Nat) : Int) ((fnds_mem (Nat.le_refl _)).2 ⟨i, lt_of_atX hg, hir, rfl⟩) g (by rw [Int.toNat_natCast]; exact hg)
    have hfl := late_fnds (gap := gap) hk hx hy h1 h2 hfar'
    have hl := insF_len (f := f) hk
    have hs : sg (kF x f) r < (insF x f (kF x f)).length := by rw [hl]; unfold sg; split <;> omega
    refine hself (insF x f (kF x f)) _ (sgI (kF x f)) ?_ hfl (fun v hv => ?_)
    · unfold entsF entsK
      refine List.mem_map.2 ⟨sg (kF x f) r, ?_, rfl⟩
      unfold rootsK
      rw [List.mem_filter, List.mem_range]
      exact ⟨hs, by simpa using (late_class hk hx hy h1 h2 hfar' _ hs).2 ⟨r, rfl, h1, h2⟩⟩
    · obtain ⟨j, _, _, hj3⟩ := (fnds_mem (Nat.le_refl _)).1 hv
      rw [sgI_toNat (by omega), insF_sg hk]

end Go.Proofs.YtgdlhajfajddiaaGreat
namespace Cp
open Go Go.RowKit
section
variable {P : Program} {I : Asn} {o : Oper} {E : Env}
end
end Cp
namespace Go.Proofs.YtgdlhajfajddiaaGreat
open Go Go.RowKit Cp Go.ChangeShapes Go.WideShapes Go.ChangeAt

theorem own0 : ownKnob Tryz.prog.godebug = none := by kernel_rfl
theorem laidOut0 : laidOutB Tryz.prog = true := by kernel_rfl
theorem u8_in {n : Int} (h : (Lit.int .u8 n).wf = true) : 0 ≤ n ∧ n < 256 := by
  simp only [Lit.wf, Bool.and_eq_true, decide_eq_true_eq] at h
  have h1 : IntKind.u8.min = 0 := rfl
  have h2 : IntKind.u8.max = 255 := rfl
  omega
theorem i64_in {n : Int} (h : (Lit.int .i64 n).wf = true) : InI n := by
  simp only [Lit.wf, Bool.and_eq_true, decide_eq_true_eq] at h
  have h1 : IntKind.i64.min = -9223372036854775808 := rfl
  have h2 : IntKind.i64.max = 9223372036854775807 := rfl
  unfold InI; omega
theorem opens_ints {P : Program} {t e : TypeId} (ht : P.underlying t = some (.slice e)) (he : P.underlying e = some (.int .i64)) (hc : P.cellsOf e = 1) : Opens P t (fun l : List Int => l.length ≤ maxLen ∧ ∀ n ∈ l, InI n) (fun l => [ints l]) :=
  (opens_slice ht hc (opens_int he)).map id (fun _ h => ⟨h.2, fun n hn => i64_in (h.1 n hn)⟩) (fun _ => rfl)

end Go.Proofs.YtgdlhajfajddiaaGreat
namespace Go.Proofs.YtgdlhajfajddiaaGreat
open Go Go.RowKit Cp

abbrev bF : Fnd := ⟨1, [97], 1, 3, 9, 4, [115], 0, 0, 1, []⟩
abbrev bG : Fnd := ⟨1, [97], 0, 5, 9, 4, [115], 0, 0, 1, []⟩
theorem b_check : ∀ f ∈ [bF, bG], checkF f = true := by decide +kernel
theorem b_fits : ∀ f ∈ [bG, bF], f.fits := by
  intro f hf
  simp at hf
  rcases hf with rfl | rfl <;> exact ⟨by simp [maxLen], by simp [maxLen], by simp [maxLen]⟩
theorem b_norm : [bF, bG].foldl putF [] = [bG, bF] := by kernel_rfl
theorem b_NormP : NormP [bG, bF] := by have := norm_ok b_check (by simp); rwa [b_norm] at this
theorem w_NormB : Fun Tryz.prog 58 [fnds [bF, bG]] (tup [fnds [bG, bF], int 0]) := by
  have := w_R14Norm (l := [bF, bG]) b_check (by simp); rwa [b_norm] at this
theorem entK_congr (l : List Fnd) {r1 r2 : Nat → Nat} (r : Nat) : ∀ n, (∀ i, i < n → r1 i = r2 i) → entK l r1 r n = entK l r2 r n
  | 0, _ => rfl
  | n + 1, h => by unfold entK; rw [entK_congr l r n (fun i hi => h i (by omega)), h n (by omega)]
theorem entsK_congr (l : List Fnd) {r1 r2 : Nat → Nat} (n : Nat) (h : ∀ i, i < n → r1 i = r2 i) : entsK l r1 n = entsK l r2 n := by
  unfold entsK
  have e : rootsK r1 n = rootsK r2 n := by
    unfold rootsK
    refine List.filter_congr fun i hi => ?_
    rw [h i (List.mem_range.1 hi)]
  rw [e]
  exact List.map_congr_left fun r _ => entK_congr l r n h
theorem entsF_RR (l : List Fnd) (gap : Int) : entsF l gap = entsK l (RR l gap l.length) l.length := entsK_congr l l.length fun i hi => (RR_eq hi).symm
theorem b_ents2 : entsF [bG, bF] 2 = [⟨0, [[97]], [1], [0, 1]⟩] := by rw [entsF_RR]; decide +kernel
theorem b_ents1 : entsF [bG, bF] 1 = [⟨0, [[97]], [], [0]⟩, ⟨1, [[97]], [1], [1]⟩] := by rw [entsF_RR]; decide +kernel
theorem w_EntB2 : Fun Tryz.prog 15 [fnds [bG, bF], int 2] (tup [ents [⟨0, [[97]], [1], [0, 1]⟩], int 0]) := by
  have := w_IEntities (l := [bG, bF]) (gap := 2) b_fits; rwa [entR_ok b_NormP (by omega), b_ents2] at this
theorem w_EntB1 : Fun Tryz.prog 15 [fnds [bG, bF], int 1] (tup [ents [⟨0, [[97]], [], [0]⟩, ⟨1, [[97]], [1], [1]⟩], int 0]) := by
  have := w_IEntities (l := [bG, bF]) (gap := 1) b_fits; rwa [entR_ok b_NormP (by omega), b_ents1] at this

set_option maxRecDepth 20000 in
theorem w_awake15   : Fun Tryz.prog 10 [] (bool true) := by
 refine Fun.of Tryz.func10 rfl rfl (by exact Nat.le_of_ble_eq_true rfl) fun M0 w0 => ?_
 refine Tr.seq (Tr.reg0 ?_)
 refine Ch.as rfl rfl rfl rfl rfl ?_
 refine Ch.nil (Fin.go (Tr.seq (Tr.regT ?_)))
 refine TO.oo rfl rfl rfl (ok_build (rows := [(0, [_]), (1, [_]), (2, [_]), (3, [_]), (4, [_]), (5, [_]), (6, [_]), (8, [_])]) rfl bl26 zo26 ⟨⟨rfl, (VL.le (vl rfl) (one_cellsP _))⟩, ⟨⟨rfl, (VL.le (vl rfl) (one_cellsP _))⟩, ⟨⟨rfl, (VL.le (vl rfl) (one_cellsP _))⟩, ⟨⟨rfl, (VL.le (vl rfl) (one_cellsP _))⟩, ⟨⟨rfl, (VL.le (vl rfl) (one_cellsP _))⟩, ⟨⟨rfl, (VL.le (vl rfl) (one_cellsP _))⟩, ⟨⟨rfl, (VL.le (vl rfl) (one_cellsP _))⟩, ⟨⟨rfl, (VL.le (vl rfl) (one_cellsP _))⟩, trivial⟩⟩⟩⟩⟩⟩⟩⟩ rfl) ?_
 refine TO.alloc rfl rfl (by decide) rfl z26 zo26 (fun b1 => ?_)
 refine TO.store_all 0 rfl rfl rfl (vl rfl) (VL.le (vl rfl) (agg_cellsP _)) rfl sz26 rfl rfl ?_
 refine TO.freeze 0 1 rfl rfl ?_
 refine TO.nil (Fin.go (Tr.seq (Tr.regT ?_)))
 refine TO.oo rfl rfl rfl (ok_loadA rfl agg26 sz26 (vl rfl) rfl rfl) ?_
 refine TO.alloc rfl rfl (by decide) rfl z26 zo26 (fun b2 => ?_)
 refine TO.store_all 0 rfl rfl rfl (vl rfl) (VL.le (vl rfl) (agg_cellsP _)) rfl sz26 rfl rfl ?_
 refine TO.nil (Fin.go (Tr.seq (Tr.regT ?_)))
 refine TO.oo rfl rfl rfl (okp_fieldAddr rfl fo26_2 (vl rfl)) ?_
 refine TO.ef0 0 rfl rfl (ef_store rfl rfl (vl rfl) (VL.le (vl rfl) (one_cellsP _)) sz3 rfl (by exact Nat.le_of_ble_eq_true rfl) rfl) ?_
 refine TO.oo rfl rfl rfl (okp_fieldAddr rfl fo26_3 (vl rfl)) ?_
 refine TO.ef0 0 rfl rfl (ef_store rfl rfl (vl rfl) (VL.le (vl rfl) (one_cellsP _)) sz3 rfl (by exact Nat.le_of_ble_eq_true rfl) rfl) ?_
 refine TO.nil (Fin.go (Tr.seq (Tr.reg0 ?_)))
 refine Ch.oo rfl rfl rfl (ok_loadA rfl agg26 sz26 (vl rfl) rfl rfl) ?_
 refine Ch.oo rfl rfl rfl (ok_rd 0 rfl (rd_loadA rfl agg26 sz26 (vl rfl) rfl rfl)) ?_
 refine Ch.oo rfl rfl rfl (ok_buildSlice (xs := [.tmp 14, .tmp 15]) (rows := [_, _]) rfl rfl Tryz.underlying31 sz26 z26 rfl (by decide) ⟨⟨(by exact rfl), (VL.le (vl rfl) (agg_cellsP _))⟩, ⟨⟨(by exact rfl), (VL.le (vl rfl) (agg_cellsP _))⟩, trivial⟩⟩ (by decide)) ?_
 refine Ch.oo rfl rfl rfl (ok_call rfl (w_NormB) ⟨⟨_, rfl, full_le _ _⟩, trivial⟩) ?_
 refine Ch.mv rfl rfl rfl rfl rfl ?_
 refine Ch.oo rfl rfl rfl (ok_extract rfl (vl rfl) rfl) ?_
 refine Ch.oo rfl rfl rfl (ok_extract rfl (vl rfl) rfl) ?_
 refine Ch.as rfl rfl rfl rfl rfl ?_
 refine Ch.as rfl rfl rfl rfl rfl ?_
 refine Ch.nil (Fin.go ?_)
 refine Tr.drop 0 ?_
 refine Tr.w1 3 rfl ?_
 refine Tr.seq (Tr.reg0 ?_)
 refine Ch.mv rfl rfl rfl rfl rfl ?_
 refine Ch.oo rfl rfl rfl (ok_call rfl (w_EntB2) ⟨ke rfl, ke rfl, trivial⟩) ?_
 refine Ch.mv rfl rfl rfl rfl rfl ?_
 refine Ch.oo rfl rfl rfl (ok_extract rfl (vl rfl) rfl) ?_
 refine Ch.oo rfl rfl rfl (ok_extract rfl (vl rfl) rfl) ?_
 refine Ch.as rfl rfl rfl rfl rfl ?_
 refine Ch.as rfl rfl rfl rfl rfl ?_
 refine Ch.nil (Fin.go (Tr.seq (Tr.reg0 ?_)))
 refine Ch.mv rfl rfl rfl rfl rfl ?_
 refine Ch.oo rfl rfl rfl (ok_call rfl (w_EntB1) ⟨ke rfl, ke rfl, trivial⟩) ?_
 refine Ch.mv rfl rfl rfl rfl rfl ?_
 refine Ch.oo rfl rfl rfl (ok_extract rfl (vl rfl) rfl) ?_
 refine Ch.oo rfl rfl rfl (ok_extract rfl (vl rfl) rfl) ?_
 refine Ch.as rfl rfl rfl rfl rfl ?_
 refine Ch.as rfl rfl rfl rfl rfl ?_
 refine Ch.nil (Fin.go ?_)
 refine Tr.w4 5 6 7 8 rfl rfl rfl rfl ?_
 refine Tr.seq (Tr.reg0 ?_)
 refine Ch.mv rfl rfl rfl rfl rfl ?_
 refine Ch.oo rfl rfl rfl (ok_int rfl (vl rfl) (vl rfl) rfl) ?_
 refine Ch.mv rfl rfl rfl rfl rfl ?_
 refine Ch.cs 32 rfl (fun h1 q1 => ?_) (fun h1 q1 => ?_)
 ·
  refine Ch.ym h1 rfl rfl rfl rfl rfl rfl rfl ?_
  refine Ch.y h1 rfl rfl rfl rfl rfl (ok_int rfl (vl rfl) (vl rfl) rfl) ?_
  refine Ch.oo rfl rfl rfl (ok_pick_t rfl (vl rfl) h1 (vl rfl)) ?_
  refine Ch.mv rfl rfl rfl rfl rfl ?_
  refine Ch.cs 36 rfl (fun h2 q2 => ?_) (fun h2 q2 => ?_)
  ·
   refine Ch.ym h2 rfl rfl rfl rfl rfl rfl rfl ?_
   first
    | refine Ch.y h2 rfl rfl rfl rfl rfl (ok_lenm rfl Tryz.underlying35 (vl rfl)) ?_
    | refine Ch.y h2 rfl rfl rfl rfl rfl (ok_len rfl Tryz.underlying35 (vl rfl)) ?_
   refine Ch.y h2 rfl rfl rfl rfl rfl (ok_int rfl (vl rfl) (vl rfl) rfl) ?_
   refine Ch.oo rfl rfl rfl (ok_pick_t rfl (vl rfl) h2 (vl rfl)) ?_
   refine Ch.mv rfl rfl rfl rfl rfl ?_
   refine Ch.cs 41 rfl (fun h3 q3 => ?_) (fun h3 q3 => ?_)
   ·
    refine Ch.ym h3 rfl rfl rfl rfl rfl rfl rfl ?_
    first
     | refine Ch.y h3 rfl rfl rfl rfl rfl (ok_lenm rfl Tryz.underlying35 (vl rfl)) ?_
     | refine Ch.y h3 rfl rfl rfl rfl rfl (ok_len rfl Tryz.underlying35 (vl rfl)) ?_
    refine Ch.y h3 rfl rfl rfl rfl rfl (ok_int rfl (vl rfl) (vl rfl) rfl) ?_
    refine Ch.oo rfl rfl rfl (ok_pick_t rfl (vl rfl) h3 (vl rfl)) ?_
    refine Ch.mv rfl rfl rfl rfl rfl ?_
    refine Ch.cs 46 rfl (fun h4 q4 => ?_) (fun h4 q4 => ?_)
    ·
     refine Ch.ym h4 rfl rfl rfl rfl rfl rfl rfl ?_
     refine Ch.y h4 rfl rfl rfl rfl rfl (ok_call rfl (w_IOf) ⟨ke rfl, ke rfl, trivial⟩) ?_
     refine Ch.y h4 rfl rfl rfl rfl rfl (ok_int rfl (vl rfl) (vl rfl) rfl) ?_
     refine Ch.oo rfl rfl rfl (ok_pick_t rfl (vl rfl) h4 (vl rfl)) ?_
     refine Ch.as rfl rfl rfl rfl rfl ?_
     refine Ch.nil (Fin.go ?_)
     refine Tr.w1 0 rfl ?_
     refine Tr.ret ?_
     refine Fin.ret1 rfl (OutW.bse _ _) rfl ?_
     · first | exact bool_eq (by decide +kernel) | exact Pr.le_refl _
    ·
     exfalso; simp at h4
   ·
    exfalso; simp at h3
  ·
   exfalso; simp at h2
 ·
  exfalso; simp at h1
end Go.Proofs.YtgdlhajfajddiaaGreat
namespace Go.Proofs.YtgdlhajfajddiaaGreat
open Go Go.RowKit Cp Go.ChangeShapes Go.WideShapes Go.ChangeAt

theorem w_IEntOK {l : List Fnd} {gap : Int} (hN : NormP l) (hg : 0 ≤ gap ∧ gap ≤ 4000) (hf : ∀ f ∈ l, f.fits) : Fun Tryz.prog 15 [fnds l, int gap] (tup [ents (entsF l gap), int 0]) := by
  have := w_IEntities (l := l) (gap := gap) hf; rwa [entR_ok hN hg] at this
theorem w_ITouchOK {l : List Fnd} {gap : Int} {f : Fnd} (hN : NormP l) (hg : 0 ≤ gap ∧ gap ≤ 4000) (hf : ∀ f ∈ l, f.fits) (hff : f.fits) (hc : checkF f = true) : Fun Tryz.prog 22 [fnds l, int gap, agg (rowF f)] (tup [ints (withE l (entsF l gap) (touchP f)), int 0]) := by
  have := w_ITouched (l := l) (gap := gap) (f := f) hf hff
  have e : touchR l gap f = (withE l (entsF l gap) (touchP f), 0) := by
    unfold touchR
    rw [entR_ok hN hg]
    rw [if_pos rfl, if_pos hc]
  rwa [e] at this
theorem any_snoc {α : Type} {l : List α} {k : Nat} {x : α} (p : α → Bool) (hx : l[k]? = some x) : (l.take (k + 1)).any p = ((l.take k).any p || p x) := by
  rw [List.take_add_one, hx, List.any_append]; simp
theorem match_no {x y : List Fnd} {e d : Ent} (h : ¬ e.fnds.length = d.fnds.length) : matchB x y e d = false := by unfold matchB; simp [h]
theorem match_yes {x y : List Fnd} {e d : Ent} (h : e.fnds.length = d.fnds.length) : matchB x y e d = allK x y e d e.fnds.length := by unfold matchB; simp [h]

set_option maxRecDepth 20000 in
theorem w_IdentityLate {t : List Int} {a : Int} (ha : 0 ≤ a ∧ a < 256) : Fun Tryz.prog 5 [ints t, is (.int .u8 a)] (bool true) := by
 refine Fun.of Tryz.func5 rfl rfl (by exact Nat.le_of_ble_eq_true rfl) fun M0 w0 => ?_
 have t1 : a.tmod 8 = a % 8 := Int.tmod_eq_emod_of_nonneg ha.1
 refine Tr.seq (Tr.reg0 ?_)
 refine Ch.as rfl rfl rfl rfl rfl ?_
 refine Ch.nil (Fin.go (Tr.seq (Tr.seq (Tr.reg0 ?_))))
 refine Ch.mv rfl rfl rfl rfl rfl ?_
 refine Ch.oo rfl rfl rfl (ok_call rfl (w_Light) ⟨ke rfl, trivial⟩) ?_
 refine Ch.oo rfl rfl rfl (ok_not rfl (vl rfl)) ?_
 refine Ch.nil (Fin.go ?_)
 refine Tr.cn rfl (fun h1 q1 => ?_) (fun h1 q1 => ?_)
 ·
  refine Tr.seq (Tr.reg0 ?_)
  refine Ch.oo rfl rfl rfl (ok_call rfl (w_awake15) trivial) ?_
  refine Ch.as rfl rfl rfl rfl rfl ?_
  refine Ch.nil (Fin.go (Tr.ret ?_))
  refine Fin.then_ret ?_
  refine Fin.ret1 rfl (OutW.bse _ _) rfl ?_
  · exact Pr.le_refl _
 ·
  have ht4 : t.length ≤ 400 := by simpa using h1
  have ht9 : t.length ≤ 1000000000 := by omega
  refine Tr.skip (Fin.go (Tr.seq (Tr.regT ?_)))
  refine TO.mv rfl rfl rfl rfl rfl ?_
  refine TO.pad ?_
  refine TO.efs 0 rfl rfl (by decide) (ef_call rfl rfl (by decide) rfl (w_Roll (l := t) ht9) ⟨ke rfl, trivial⟩) (fun v1 => ?_)
  refine TO.opn 27 0 _ rfl rfl (fun _ => rfl) (fun b1 => ?_)
  refine TO.as rfl rfl rfl rfl rfl ?_
  refine TO.nil (Fin.go (Tr.seq (Tr.regT ?_)))
  refine TO.mv rfl rfl rfl rfl rfl ?_
  refine TO.efc 0 rfl rfl (by decide) (ef_callc rfl rfl (by decide) rfl (w_Findings (m := 16) (by omega)) ⟨ke rfl, ke rfl, trivial⟩) ?_
  refine TO.ex 29 rfl (fun z1 => TO.fact 29 rfl fun hz1 => ?_)
  refine TO.mv rfl rfl rfl rfl rfl ?_
  refine TO.efc 0 rfl rfl (by decide) (ef_callc rfl rfl (by decide) rfl (FunM.exd fun s_ => w_Finding) ⟨ke rfl, trivial⟩) ?_
  refine TO.ex 31 rfl (fun z2 => TO.fact 31 rfl fun hz2 => ?_)
  refine TO.alloc rfl rfl (by decide) rfl z26 zo26 (fun b2 => ?_)
  refine TO.as rfl rfl rfl rfl rfl ?_
  refine TO.store_all 0 rfl rfl rfl (vl rfl) (VL.le (vl rfl) (agg_cellsP _)) rfl sz26 rfl rfl ?_
  refine TO.freeze 0 7 rfl rfl ?_
  refine TO.nil ?_
  refine Fin.openD 0 rfl (fun s1 => ?_)
  refine Fin.go ?_
  refine Tr.w3 1 6 7 rfl rfl rfl ?_
  refine Tr.seq ?_
  have hl16 := hz1.len
  have hck : ∀ f ∈ z1 ++ [z2], checkF f = true := by intro f hf; rcases List.mem_append.1 hf with h | h; exact hz1.norm.check f h; (rw [List.mem_singleton] at h; subst h; exact hz2.check)
  have hft : ∀ f ∈ z1 ++ [z2], f.fits := by intro f hf; rcases List.mem_append.1 hf with h | h; exact hz1.fits f h; (rw [List.mem_singleton] at h; subst h; exact hz2.fits)
  have hNy : NormP (normL (z1 ++ [z2])) := norm_ok hck (by simp; omega)
  have hfy : ∀ f ∈ (normL (z1 ++ [z2])), f.fits := fun f hf => hft f (mem_normL.1 hf)
  have hEx : (entsF z1 (a % 8)).length ≤ z1.length := by unfold entsF; rw [entsK_len]; exact rootsK_le _ _
  have hEy : (entsF (normL (z1 ++ [z2])) (a % 8)).length ≤ (normL (z1 ++ [z2])).length := by unfold entsF; rw [entsK_len]; exact rootsK_le _ _
  have hYl := hNy.len
  refine Tr.reg0 ?_
  refine Ch.mv rfl rfl rfl rfl rfl ?_
  first
   | refine Ch.oo rfl rfl rfl (ok_convI rfl Tryz.underlying5 Tryz.underlying3 (vl rfl) (by unfold InI; omega)) ?_
   | refine Ch.oo rfl rfl rfl (ok_conv rfl Tryz.underlying5 Tryz.underlying3 (vl rfl)) ?_
  refine Ch.oo rfl rfl rfl (ok_rem rfl (vl rfl) (vl rfl) (by omega)) ?_
  refine Ch.as rfl rfl rfl rfl rfl ?_
  refine Ch.nil (Fin.go (Tr.seq (Tr.reg0 ?_)))
  refine Ch.mv rfl rfl rfl rfl rfl ?_
  refine Ch.oo rfl rfl rfl (ok_loadA rfl agg26 sz26 (vl rfl) rfl rfl) ?_
  refine Ch.oo rfl rfl rfl (ok_buildSlice (xs := [.tmp 37]) (rows := [_]) rfl rfl Tryz.underlying31 sz26 z26 rfl (by decide) ⟨⟨(by exact rfl), (VL.le (vl rfl) (agg_cellsP _))⟩, trivial⟩ (by decide)) ?_
  refine Ch.oo rfl rfl rfl (ok_call rfl (w_FMerge (a := z1) (b := [z2]) hck hft (by simp) (by simp; omega)) ⟨ke rfl, ⟨_, rfl, full_le _ _⟩, trivial⟩) ?_
  refine Ch.mv rfl rfl rfl rfl rfl ?_
  refine Ch.oo rfl rfl rfl (ok_extract rfl (vl rfl) rfl) ?_
  refine Ch.oo rfl rfl rfl (ok_extract rfl (vl rfl) rfl) ?_
  refine Ch.as rfl rfl rfl rfl rfl ?_
  refine Ch.as rfl rfl rfl rfl rfl ?_
  refine Ch.nil (Fin.go ?_)
  refine Tr.w5 6 7 8 9 10 rfl rfl rfl rfl rfl ?_
  refine Tr.seq (Tr.reg0 ?_)
  refine Ch.mv rfl rfl rfl rfl rfl ?_
  refine Ch.mv rfl rfl rfl rfl rfl ?_
  refine Ch.oo rfl rfl rfl (ok_call rfl (w_IEntOK (gap := (a % 8)) hz1.norm ⟨by omega, by omega⟩ hz1.fits) ⟨ke rfl, ⟨_, rfl, int_eq t1⟩, trivial⟩) ?_
  refine Ch.mv rfl rfl rfl rfl rfl ?_
  refine Ch.oo rfl rfl rfl (ok_extract rfl (vl rfl) rfl) ?_
  refine Ch.oo rfl rfl rfl (ok_extract rfl (vl rfl) rfl) ?_
  refine Ch.as rfl rfl rfl rfl rfl ?_
  refine Ch.as rfl rfl rfl rfl rfl ?_
  refine Ch.nil (Fin.go (Tr.seq (Tr.reg0 ?_)))
  refine Ch.mv rfl rfl rfl rfl rfl ?_
  refine Ch.mv rfl rfl rfl rfl rfl ?_
  refine Ch.oo rfl rfl rfl (ok_call rfl (w_IEntOK (gap := (a % 8)) hNy ⟨by omega, by omega⟩ hfy) ⟨ke rfl, ⟨_, rfl, int_eq t1⟩, trivial⟩) ?_
  refine Ch.mv rfl rfl rfl rfl rfl ?_
  refine Ch.oo rfl rfl rfl (ok_extract rfl (vl rfl) rfl) ?_
  refine Ch.oo rfl rfl rfl (ok_extract rfl (vl rfl) rfl) ?_
  refine Ch.as rfl rfl rfl rfl rfl ?_
  refine Ch.as rfl rfl rfl rfl rfl ?_
  refine Ch.nil (Fin.go ?_)
  refine Tr.w9 6 7 8 9 10 11 12 13 14 rfl rfl rfl rfl rfl rfl rfl rfl rfl ?_
  refine Tr.seq (Tr.reg0 ?_)
  refine Ch.mv rfl rfl rfl rfl rfl ?_
  refine Ch.mv rfl rfl rfl rfl rfl ?_
  refine Ch.oo rfl rfl rfl (ok_loadA rfl agg26 sz26 (vl rfl) rfl rfl) ?_
  refine Ch.oo rfl rfl rfl (ok_call rfl (w_ITouchOK (gap := (a % 8)) hz1.norm ⟨by omega, by omega⟩ hz1.fits hz2.fits hz2.check) ⟨ke rfl, ⟨_, rfl, int_eq t1⟩, ke rfl, trivial⟩) ?_
  refine Ch.mv rfl rfl rfl rfl rfl ?_
  refine Ch.oo rfl rfl rfl (ok_extract rfl (vl rfl) rfl) ?_
  refine Ch.oo rfl rfl rfl (ok_extract rfl (vl rfl) rfl) ?_
  refine Ch.as rfl rfl rfl rfl rfl ?_
  refine Ch.as rfl rfl rfl rfl rfl ?_
  refine Ch.nil (Fin.go ?_)
  refine Tr.w9 6 9 10 11 12 13 14 15 16 rfl rfl rfl rfl rfl rfl rfl rfl rfl ?_
  refine Tr.seq (Tr.seq (Tr.reg0 ?_))
  refine Ch.mv rfl rfl rfl rfl rfl ?_
  refine Ch.oo rfl rfl rfl (ok_int rfl (vl rfl) (vl rfl) rfl) ?_
  refine Ch.mv rfl rfl rfl rfl rfl ?_
  refine Ch.cs 63 rfl (fun h2 q2 => ?_) (fun h2 q2 => ?_)
  ·
   exfalso; simp at h2
  ·
   refine Ch.ym h2 rfl rfl rfl rfl rfl rfl rfl ?_
   refine Ch.y h2 rfl rfl rfl rfl rfl (ok_int rfl (vl rfl) (vl rfl) rfl) ?_
   refine Ch.oo rfl rfl rfl (ok_pick_f rfl (vl rfl) h2 (vl rfl)) ?_
   refine Ch.mv rfl rfl rfl rfl rfl ?_
   refine Ch.cs 67 rfl (fun h3 q3 => ?_) (fun h3 q3 => ?_)
   ·
    exfalso; simp at h3
   ·
    refine Ch.ym h3 rfl rfl rfl rfl rfl rfl rfl ?_
    refine Ch.y h3 rfl rfl rfl rfl rfl (ok_int rfl (vl rfl) (vl rfl) rfl) ?_
    refine Ch.oo rfl rfl rfl (ok_pick_f rfl (vl rfl) h3 (vl rfl)) ?_
    refine Ch.mv rfl rfl rfl rfl rfl ?_
    refine Ch.cs 71 rfl (fun h4 q4 => ?_) (fun h4 q4 => ?_)
    ·
     exfalso; simp at h4
    ·
     refine Ch.ym h4 rfl rfl rfl rfl rfl rfl rfl ?_
     refine Ch.y h4 rfl rfl rfl rfl rfl (ok_int rfl (vl rfl) (vl rfl) rfl) ?_
     refine Ch.oo rfl rfl rfl (ok_pick_f rfl (vl rfl) h4 (vl rfl)) ?_
     refine Ch.nil (Fin.go ?_)
     refine Tr.w6 6 9 11 13 15 74 rfl rfl rfl rfl rfl rfl ?_
     refine Tr.cn rfl (fun h5 q5 => ?_) (fun h5 q5 => ?_)
     ·
      exfalso; simp at h5
     ·
      refine Tr.skip (Fin.go (Tr.seq (Tr.seq (Tr.reg0 ?_))))
      refine Ch.as rfl rfl rfl rfl rfl ?_
      refine Ch.nil (Fin.go (Tr.block ?_))
      refine Tr.loopw [(6, _), (9, _), (11, _), (13, _), (15, _)] ⟨ke rfl, ke rfl, ke rfl, ke rfl, ke rfl, trivial⟩ (fun i : Nat => [(17, int ((i : Nat) : Int))]) (fun i : Nat => i ≤ ((entsF z1 (a % 8))).length) (fun i : Nat => ((entsF z1 (a % 8))).length - i) 0 (Nat.zero_le _) ⟨ke rfl, trivial⟩ ?_
      rintro i hle_i
      refine Tr.seq (Tr.seq (Tr.reg0 ?_))
      refine Ch.mv rfl rfl rfl rfl rfl ?_
      refine Ch.mv rfl rfl rfl rfl rfl ?_
      first
       | refine Ch.oo rfl rfl rfl (ok_lenm rfl Tryz.underlying35 (vl rfl)) ?_
       | refine Ch.oo rfl rfl rfl (ok_len rfl Tryz.underlying35 (vl rfl)) ?_
      refine Ch.oo rfl rfl rfl (ok_int rfl (vl rfl) (vl rfl) rfl) ?_
      refine Ch.nil (Fin.go ?_)
      refine Tr.cn rfl (fun h6 q6 => ?_) (fun h6 q6 => ?_)
      ·
       have hk_i : i < ((entsF z1 (a % 8))).length := lt_of_dec h6
       obtain ⟨x, hx_i⟩ := at_ hk_i
       obtain ⟨r, hr1, hr2, hxe⟩ := ents_of (List.mem_of_getElem? hx_i)
       have hxfl : x.fnds.length ≤ z1.length := by rw [hxe]; exact (ent_lens _ _ _ _).1
       refine Tr.skip (Fin.go (Tr.seq (Tr.block (Tr.seq (Tr.seq (Tr.reg0 ?_))))))
       iterate 3 refine Ch.mv rfl rfl rfl rfl rfl ?_
       refine Ch.oo rfl rfl rfl (ok_indexAddr rfl Tryz.underlying35 sz55 (vl rfl) (vl rfl) (by omega) (row_at hx_i)) ?_
       refine Ch.oo rfl rfl rfl (ok_fieldAddr rfl fo55_0 (vl rfl) rfl) ?_
       refine Ch.oo rfl rfl rfl (ok_load1 rfl one3 (vl rfl)) ?_
       refine Ch.oo rfl rfl rfl (ok_call rfl (w_R02Has) ⟨ke rfl, ke rfl, trivial⟩) ?_
       refine Ch.nil (Fin.go ?_)
       refine Tr.w7 6 9 11 13 15 17 87 rfl rfl rfl rfl rfl rfl rfl ?_
       refine Tr.cn rfl (fun h7 q7 => ?_) (fun h7 q7 => ?_)
       ·
        refine Tr.exit ?_
        refine Fin.then_exit ?_
        refine Fin.block_here ?_
        refine Fin.go (Tr.reg0 ?_)
        refine Ch.mv rfl rfl rfl rfl rfl ?_
        first
         | (refine Ch.oo rfl rfl rfl (ok_add rfl (vl rfl) (vl rfl) ?hin) ?_; case hin => unfold InI; omega)
         | refine Ch.oo rfl rfl rfl (ok_int rfl (vl rfl) (vl rfl) rfl) ?_
        refine Ch.as rfl rfl rfl rfl rfl ?_
        refine Ch.nil ?_
        exact Fin.fam_same (i + 1) ⟨hk_i, by omega⟩ ⟨⟨_, rfl, int_succ i⟩, ke rfl, ke rfl, ke rfl, ke rfl, ke rfl, trivial⟩
       ·
        have hfar := far_of (List.mem_of_getElem? hx_i) h7
        have hlate := late_ent hz1.norm.adj hNy.adj (List.mem_of_getElem? hx_i) hfar
        refine Tr.skip (Fin.go (Tr.seq (Tr.reg0 ?_)))
        refine Ch.as rfl rfl rfl rfl rfl ?_
        refine Ch.nil (Fin.go (Tr.seq (Tr.seq (Tr.reg0 ?_))))
        refine Ch.as rfl rfl rfl rfl rfl ?_
        refine Ch.nil (Fin.go (Tr.block ?_))
        refine Tr.loopw [(6, _), (9, _), (11, _), (13, _), (15, _), (17, _)] ⟨ke rfl, ke rfl, ke rfl, ke rfl, ke rfl, ke rfl, trivial⟩ (fun m : Nat => [(19, int ((m : Nat) : Int)), (18, bool (((entsF (normL (z1 ++ [z2])) (a % 8)).take m).any (matchB z1 (normL (z1 ++ [z2])) x)))]) (fun m : Nat => m ≤ ((entsF (normL (z1 ++ [z2])) (a % 8))).length) (fun m : Nat => ((entsF (normL (z1 ++ [z2])) (a % 8))).length - m) 0 (Nat.zero_le _) ⟨ke rfl, ke rfl, trivial⟩ ?_
        rintro m hle_m
        refine Tr.seq (Tr.seq (Tr.reg0 ?_))
        refine Ch.mv rfl rfl rfl rfl rfl ?_
        refine Ch.mv rfl rfl rfl rfl rfl ?_
        first
         | refine Ch.oo rfl rfl rfl (ok_lenm rfl Tryz.underlying35 (vl rfl)) ?_
         | refine Ch.oo rfl rfl rfl (ok_len rfl Tryz.underlying35 (vl rfl)) ?_
        refine Ch.oo rfl rfl rfl (ok_int rfl (vl rfl) (vl rfl) rfl) ?_
        refine Ch.nil (Fin.go ?_)
        refine Tr.cn rfl (fun h8 q8 => ?_) (fun h8 q8 => ?_)
        ·
         have hk_m : m < ((entsF (normL (z1 ++ [z2])) (a % 8))).length := lt_of_dec h8
         obtain ⟨d, hx_m⟩ := at_ hk_m
         refine Tr.skip (Fin.go (Tr.seq (Tr.block (Tr.seq (Tr.seq ?_)))))
         refine Tr.reg1 mixed (by kernel_rfl) ?_
         refine Ch.mv rfl rfl rfl rfl rfl ?_
         refine Ch.mv rfl rfl rfl rfl rfl ?_
         refine Ch.oo rfl rfl rfl (ok_indexAddr rfl Tryz.underlying35 sz55 (vl rfl) (vl rfl) (by omega) (row_at hx_i)) ?_
         refine Ch.oo rfl rfl rfl (ok_fieldAddr rfl fo55_3 (vl rfl) rfl) ?_
         refine Ch.oo rfl rfl rfl (ok_load1 rfl one22 (vl rfl)) ?_
         first
          | refine Ch.oo rfl rfl rfl (ok_lenm rfl Tryz.underlying22 (vl rfl)) ?_
          | refine Ch.oo rfl rfl rfl (ok_len rfl Tryz.underlying22 (vl rfl)) ?_
         refine Ch.mv rfl rfl rfl rfl rfl ?_
         refine Ch.mv rfl rfl rfl rfl rfl ?_
         refine Ch.oo rfl rfl rfl (ok_indexAddr rfl Tryz.underlying35 sz55 (vl rfl) (vl rfl) (by omega) (row_at hx_m)) ?_
         refine Ch.oo rfl rfl rfl (ok_fieldAddr rfl fo55_3 (vl rfl) rfl) ?_
         refine Ch.oo rfl rfl rfl (ok_load1 rfl one22 (vl rfl)) ?_
         first
          | refine Ch.oo rfl rfl rfl (ok_lenm rfl Tryz.underlying22 (vl rfl)) ?_
          | refine Ch.oo rfl rfl rfl (ok_len rfl Tryz.underlying22 (vl rfl)) ?_
         refine Ch.oo rfl rfl rfl (ok_int rfl (vl rfl) (vl rfl) rfl) ?_
         refine Ch.nil (Fin.go ?_)
         refine Tr.w9 6 9 11 13 15 17 18 19 106 rfl rfl rfl rfl rfl rfl rfl rfl rfl ?_
         refine Tr.cn rfl (fun h9 q9 => ?_) (fun h9 q9 => ?_)
         ·
          have hmm : matchB z1 (normL (z1 ++ [z2])) x d = false := match_no (fun h9 => q9 (by rw [h9]))
          refine Tr.exit ?_
          refine Fin.then_exit ?_
          refine Fin.block_here ?_
          refine Fin.go (Tr.reg0 ?_)
          refine Ch.mv rfl rfl rfl rfl rfl ?_
          first
           | (refine Ch.oo rfl rfl rfl (ok_add rfl (vl rfl) (vl rfl) ?hin) ?_; case hin => unfold InI; omega)
           | refine Ch.oo rfl rfl rfl (ok_int rfl (vl rfl) (vl rfl) rfl) ?_
          refine Ch.as rfl rfl rfl rfl rfl ?_
          refine Ch.nil ?_
          exact Fin.fam_same (m + 1) ⟨hk_m, by omega⟩ ⟨⟨_, rfl, int_succ m⟩, ⟨_, rfl, bool_eq (by first | (rw [any_snoc _ hx_m, hmm, Bool.or_false]; done) | (rw [any_snoc _ hx_m, hmm, hany, Bool.true_or]) | (rw [any_snoc _ hx_m, hmm, hany, Bool.false_or]))⟩, ke rfl, ke rfl, ke rfl, ke rfl, ke rfl, ke rfl, trivial⟩
         ·
          have hfl : x.fnds.length = d.fnds.length := by have := q9; omega
          have hmm := match_yes (x := z1) (y := (normL (z1 ++ [z2]))) hfl
          refine Tr.skip (Fin.go (Tr.seq (Tr.reg0 ?_)))
          refine Ch.as rfl rfl rfl rfl rfl ?_
          refine Ch.nil (Fin.go (Tr.seq (Tr.seq (Tr.reg0 ?_))))
          refine Ch.as rfl rfl rfl rfl rfl ?_
          refine Ch.nil (Fin.go (Tr.block ?_))
          refine Tr.loopw [(6, _), (9, _), (11, _), (13, _), (15, _), (17, _), (18, _), (19, _)] ⟨ke rfl, ke rfl, ke rfl, ke rfl, ke rfl, ke rfl, ke rfl, ke rfl, trivial⟩ (fun o : Nat => [(21, int ((o : Nat) : Int)), (20, bool (allK z1 (normL (z1 ++ [z2])) x d o))]) (fun o : Nat => o ≤ (x.fnds).length) (fun o : Nat => (x.fnds).length - o) 0 (Nat.zero_le _) ⟨ke rfl, ke rfl, trivial⟩ ?_
          rintro o hle_o
          refine Tr.seq (Tr.seq (Tr.reg0 ?_))
          iterate 3 refine Ch.mv rfl rfl rfl rfl rfl ?_
          refine Ch.oo rfl rfl rfl (ok_indexAddr rfl Tryz.underlying35 sz55 (vl rfl) (vl rfl) (by omega) (row_at hx_i)) ?_
          refine Ch.oo rfl rfl rfl (ok_fieldAddr rfl fo55_3 (vl rfl) rfl) ?_
          refine Ch.oo rfl rfl rfl (ok_load1 rfl one22 (vl rfl)) ?_
          first
           | refine Ch.oo rfl rfl rfl (ok_lenm rfl Tryz.underlying22 (vl rfl)) ?_
           | refine Ch.oo rfl rfl rfl (ok_len rfl Tryz.underlying22 (vl rfl)) ?_
          refine Ch.oo rfl rfl rfl (ok_int rfl (vl rfl) (vl rfl) rfl) ?_
          refine Ch.nil (Fin.go ?_)
          refine Tr.w11 6 9 11 13 15 17 18 19 20 21 114 rfl rfl rfl rfl rfl rfl rfl rfl rfl rfl rfl ?_
          refine Tr.cn rfl (fun h10 q10 => ?_) (fun h10 q10 => ?_)
          ·
           have hk_o : o < (x.fnds).length := lt_of_dec h10
           obtain ⟨v, hx_o⟩ := at_ hk_o
           obtain ⟨w, hw⟩ := at_ (l := d.fnds) (k := o) (by omega)
           obtain ⟨j, hj1, _, hj3⟩ := (fnds_mem (Nat.le_refl _)).1 (hxe ▸ List.mem_of_getElem? hx_o)
           obtain ⟨r', hr3, hr4, hde⟩ := ents_of (List.mem_of_getElem? hx_m)
           obtain ⟨j', hj4, _, hj6⟩ := (fnds_mem (Nat.le_refl _)).1 (hde ▸ List.mem_of_getElem? hw)
           obtain ⟨ga, hga⟩ := at_ (l := z1) (k := v.toNat) (by omega)
           obtain ⟨gb, hgb⟩ := at_ (l := (normL (z1 ++ [z2]))) (k := w.toNat) (by omega)
           refine Tr.skip (Fin.go (Tr.seq (Tr.block ?_)))
           refine Tr.reg1 mixed (by kernel_rfl) ?_
           refine Ch.mv rfl rfl rfl rfl rfl ?_
           refine Ch.mv rfl rfl rfl rfl rfl ?_
           refine Ch.cs 118 rfl (fun h11 q11 => ?_) (fun h11 q11 => ?_)
           ·
            have hst := allK_succ z1 (normL (z1 ++ [z2])) x d o
            rw [eqAt_at hx_o hw hga hgb, h11, Bool.true_and] at hst
            iterate 3 refine Ch.ym h11 rfl rfl rfl rfl rfl rfl rfl ?_
            refine Ch.y h11 rfl rfl rfl rfl rfl (ok_indexAddr rfl Tryz.underlying35 sz55 (vl rfl) (vl rfl) (by omega) (row_at hx_i)) ?_
            refine Ch.y h11 rfl rfl rfl rfl rfl (ok_fieldAddr rfl fo55_3 (vl rfl) rfl) ?_
            refine Ch.y h11 rfl rfl rfl rfl rfl (ok_load1 rfl one22 (vl rfl)) ?_
            refine Ch.ym h11 rfl rfl rfl rfl rfl rfl rfl ?_
            refine Ch.y h11 rfl rfl rfl rfl rfl (ok_indexAddr rfl Tryz.underlying22 sz3 (vl rfl) (vl rfl) (by omega) (row_at hx_o)) ?_
            refine Ch.y h11 rfl rfl rfl rfl rfl (ok_load1 rfl one3 (vl rfl)) ?_
            refine Ch.y h11 rfl rfl rfl rfl rfl (ok_indexAddr rfl Tryz.underlying31 sz26 (vl rfl) (vl rfl) (by omega) (row_atI hga)) ?_
            refine Ch.y h11 rfl rfl rfl rfl rfl (ok_loadA rfl agg26 sz26 (vl rfl) rfl rfl) ?_
            iterate 3 refine Ch.ym h11 rfl rfl rfl rfl rfl rfl rfl ?_
            refine Ch.y h11 rfl rfl rfl rfl rfl (ok_indexAddr rfl Tryz.underlying35 sz55 (vl rfl) (vl rfl) (by omega) (row_at hx_m)) ?_
            refine Ch.y h11 rfl rfl rfl rfl rfl (ok_fieldAddr rfl fo55_3 (vl rfl) rfl) ?_
            refine Ch.y h11 rfl rfl rfl rfl rfl (ok_load1 rfl one22 (vl rfl)) ?_
            refine Ch.ym h11 rfl rfl rfl rfl rfl rfl rfl ?_
            refine Ch.y h11 rfl rfl rfl rfl rfl (ok_indexAddr rfl Tryz.underlying22 sz3 (vl rfl) (vl rfl) (by omega) (row_at hw)) ?_
            refine Ch.y h11 rfl rfl rfl rfl rfl (ok_load1 rfl one3 (vl rfl)) ?_
            refine Ch.y h11 rfl rfl rfl rfl rfl (ok_indexAddr rfl Tryz.underlying31 sz26 (vl rfl) (vl rfl) (by omega) (row_atI hgb)) ?_
            refine Ch.y h11 rfl rfl rfl rfl rfl (ok_loadA rfl agg26 sz26 (vl rfl) rfl rfl) ?_
            refine Ch.y h11 rfl rfl rfl rfl rfl (ok_eq26 rfl (vl rfl) (vl rfl)) ?_
            refine Ch.oo rfl rfl rfl (ok_pick_t rfl (vl rfl) h11 (vl rfl)) ?_
            refine Ch.as rfl rfl rfl rfl rfl ?_
            refine Ch.nil (Fin.block (Fin.go ?_))
            refine Tr.w10 6 9 11 13 15 17 18 19 20 21 rfl rfl rfl rfl rfl rfl rfl rfl rfl rfl ?_
            refine Tr.reg0 ?_
            refine Ch.mv rfl rfl rfl rfl rfl ?_
            first
             | (refine Ch.oo rfl rfl rfl (ok_add rfl (vl rfl) (vl rfl) ?hin) ?_; case hin => unfold InI; omega)
             | refine Ch.oo rfl rfl rfl (ok_int rfl (vl rfl) (vl rfl) rfl) ?_
            refine Ch.as rfl rfl rfl rfl rfl ?_
            refine Ch.nil ?_
            exact Fin.fam_same (o + 1) ⟨hk_o, by omega⟩ ⟨⟨_, rfl, int_succ o⟩, ⟨_, rfl, bool_eq (by rw [hst]; first | done | (rw [decide_eq_decide]; exact fnd_iff.symm) | (rw [eq_comm, decide_eq_decide]; exact fnd_iff))⟩, ke rfl, ke rfl, ke rfl, ke rfl, ke rfl, ke rfl, ke rfl, ke rfl, trivial⟩
           ·
            have hst := allK_succ z1 (normL (z1 ++ [z2])) x d o
            rw [h11, Bool.false_and] at hst
            iterate 23 refine Ch.nt h11 rfl rfl rfl rfl rfl ?_
            refine Ch.oo rfl rfl rfl (ok_pick_f rfl (vl rfl) h11 (vl rfl)) ?_
            refine Ch.as rfl rfl rfl rfl rfl ?_
            refine Ch.nil (Fin.block (Fin.go ?_))
            refine Tr.w10 6 9 11 13 15 17 18 19 20 21 rfl rfl rfl rfl rfl rfl rfl rfl rfl rfl ?_
            refine Tr.reg0 ?_
            refine Ch.mv rfl rfl rfl rfl rfl ?_
            first
             | (refine Ch.oo rfl rfl rfl (ok_add rfl (vl rfl) (vl rfl) ?hin) ?_; case hin => unfold InI; omega)
             | refine Ch.oo rfl rfl rfl (ok_int rfl (vl rfl) (vl rfl) rfl) ?_
            refine Ch.as rfl rfl rfl rfl rfl ?_
            refine Ch.nil ?_
            exact Fin.fam_same (o + 1) ⟨hk_o, by omega⟩ ⟨⟨_, rfl, int_succ o⟩, ⟨_, rfl, bool_eq (by rw [hst]; first | done | (rw [decide_eq_decide]; exact fnd_iff.symm) | (rw [eq_comm, decide_eq_decide]; exact fnd_iff))⟩, ke rfl, ke rfl, ke rfl, ke rfl, ke rfl, ke rfl, ke rfl, ke rfl, trivial⟩
          ·
           have he_o : o = (x.fnds).length := by have := ge_of_dec h10; omega
           subst he_o
           refine Tr.exit ?_
           refine Fin.then_exit ?_
           refine Fin.then_exit ?_
           refine Fin.block_here ?_
           refine Fin.go (Tr.reg0 ?_)
           refine Ch.mv rfl rfl rfl rfl rfl ?_
           refine Ch.mv rfl rfl rfl rfl rfl ?_
           refine Ch.cs 144 rfl (fun h12 q12 => ?_) (fun h12 q12 => ?_)
           ·
            have hany := h12
            refine Ch.nf h12 rfl rfl rfl rfl rfl ?_
            refine Ch.oo rfl rfl rfl (ok_pick_t rfl (vl rfl) h12 (vl rfl)) ?_
            refine Ch.as rfl rfl rfl rfl rfl ?_
            refine Ch.nil (Fin.block (Fin.go ?_))
            refine Tr.w8 6 9 11 13 15 17 18 19 rfl rfl rfl rfl rfl rfl rfl rfl ?_
            refine Tr.reg0 ?_
            refine Ch.mv rfl rfl rfl rfl rfl ?_
            first
             | (refine Ch.oo rfl rfl rfl (ok_add rfl (vl rfl) (vl rfl) ?hin) ?_; case hin => unfold InI; omega)
             | refine Ch.oo rfl rfl rfl (ok_int rfl (vl rfl) (vl rfl) rfl) ?_
            refine Ch.as rfl rfl rfl rfl rfl ?_
            refine Ch.nil ?_
            exact Fin.fam_same (m + 1) ⟨hk_m, by omega⟩ ⟨⟨_, rfl, int_succ m⟩, ⟨_, rfl, bool_eq (by first | (rw [any_snoc _ hx_m, hmm, Bool.or_false]; done) | (rw [any_snoc _ hx_m, hmm, hany, Bool.true_or]) | (rw [any_snoc _ hx_m, hmm, hany, Bool.false_or]))⟩, ke rfl, ke rfl, ke rfl, ke rfl, ke rfl, ke rfl, trivial⟩
           ·
            have hany := h12
            refine Ch.ym h12 rfl rfl rfl rfl rfl rfl rfl ?_
            refine Ch.oo rfl rfl rfl (ok_pick_f rfl (vl rfl) h12 (vl rfl)) ?_
            refine Ch.as rfl rfl rfl rfl rfl ?_
            refine Ch.nil (Fin.block (Fin.go ?_))
            refine Tr.w8 6 9 11 13 15 17 18 19 rfl rfl rfl rfl rfl rfl rfl rfl ?_
            refine Tr.reg0 ?_
            refine Ch.mv rfl rfl rfl rfl rfl ?_
            first
             | (refine Ch.oo rfl rfl rfl (ok_add rfl (vl rfl) (vl rfl) ?hin) ?_; case hin => unfold InI; omega)
             | refine Ch.oo rfl rfl rfl (ok_int rfl (vl rfl) (vl rfl) rfl) ?_
            refine Ch.as rfl rfl rfl rfl rfl ?_
            refine Ch.nil ?_
            exact Fin.fam_same (m + 1) ⟨hk_m, by omega⟩ ⟨⟨_, rfl, int_succ m⟩, ⟨_, rfl, bool_eq (by first | (rw [any_snoc _ hx_m, hmm, Bool.or_false]; done) | (rw [any_snoc _ hx_m, hmm, hany, Bool.true_or]) | (rw [any_snoc _ hx_m, hmm, hany, Bool.false_or]))⟩, ke rfl, ke rfl, ke rfl, ke rfl, ke rfl, ke rfl, trivial⟩
        ·
         have he_m : m = ((entsF (normL (z1 ++ [z2])) (a % 8))).length := by have := ge_of_dec h8; omega
         subst he_m
         refine Tr.exit ?_
         refine Fin.then_exit ?_
         refine Fin.then_exit ?_
         refine Fin.block_here ?_
         refine Fin.go (Tr.seq (Tr.reg0 ?_))
         refine Ch.mv rfl rfl rfl rfl rfl ?_
         refine Ch.oo rfl rfl rfl (ok_not rfl (vl rfl)) ?_
         refine Ch.nil (Fin.go ?_)
         refine Tr.w7 6 9 11 13 15 17 148 rfl rfl rfl rfl rfl rfl rfl ?_
         refine Tr.cn rfl (fun h13 q13 => ?_) (fun h13 q13 => ?_)
         ·
          exfalso; rw [List.take_length, hlate] at h13; cases h13
         ·
          refine Tr.skip (Fin.block (Fin.go (Tr.reg0 ?_)))
          refine Ch.mv rfl rfl rfl rfl rfl ?_
          first
           | (refine Ch.oo rfl rfl rfl (ok_add rfl (vl rfl) (vl rfl) ?hin) ?_; case hin => unfold InI; omega)
           | refine Ch.oo rfl rfl rfl (ok_int rfl (vl rfl) (vl rfl) rfl) ?_
          refine Ch.as rfl rfl rfl rfl rfl ?_
          refine Ch.nil ?_
          exact Fin.fam_same (i + 1) ⟨hk_i, by omega⟩ ⟨⟨_, rfl, int_succ i⟩, ke rfl, ke rfl, ke rfl, ke rfl, ke rfl, trivial⟩
      ·
       have he_i : i = ((entsF z1 (a % 8))).length := by have := ge_of_dec h6; omega
       refine Tr.exit ?_
       refine Fin.then_exit ?_
       refine Fin.then_exit ?_
       refine Fin.block_here ?_
       refine Fin.go (Tr.seq (Tr.reg0 ?_))
       refine Ch.oo rfl rfl rfl (ok_call rfl (w_awake15) trivial) ?_
       refine Ch.as rfl rfl rfl rfl rfl ?_
       refine Ch.nil (Fin.go (Tr.ret ?_))
       refine Fin.ret1 rfl (OutW.bse _ _) rfl ?_
       · exact Pr.le_refl _
set_option maxRecDepth 40000 in
theorem identityLate_lifted (os : Os) (started : os.Started) (H : Type) (enc : TypeId × Value → H) :
    ReturnsInHanded {} Tryz.checked os 5 .any (Rows.identityLateSpec.pre6 enc Tryz.prog Tryz.f5 Rows.identityLateRow.domain false) (Rows.identityLateSpec.post enc Tryz.prog Tryz.f5 false true false false) := by
  refine returnsInHanded_of_change (C := Tryz.checked) own0 started (by kernel_rfl) Tryz.func5
    (ChangeSpec.witness6 (enc := enc) (C := Tryz.checked) false ⟨#[], #[.slice none 0 0, .int .u8 0], []⟩ 8 (by kernel_rfl) (by kernel_rfl) (by kernel_rfl) (by kernel_rfl)) ?_
  intro W base args ds gs before hval0 hW hcnd _
  have hval : ∀ (j : Nat) t v, Tryz.f5.params[j]? = some t → args[j]? = some v → Value.okWide Tryz.prog W .any base t v := hval0
  have hW' := hW
  obtain ⟨p, q, hA0, hV, hpq, hfz, hnd⟩ := hW
  have hA : DataW.TrodAll enc Tryz.prog W 0 (fun _ => true) true Tryz.f5.params.toList args.toList ds p := hA0
  have hA' := hA
  rw [Tryz.params5] at hA hval
  obtain ⟨v0, v1, d0, d1, p0, p1, rfl, rfl, hp, h0, h1⟩ := trodAll_two hA
  obtain ⟨rfl, rfl⟩ := trodVars_none hV
  obtain ⟨a0, hr0, e0⟩ := arg_one (opens_ints Tryz.underlying22 Tryz.underlying3 (by kernel_rfl)) h0 (by obtain ⟨_, _, _, rfl⟩ := okWide_slice Tryz.underlying22 (hval 0 22 v0 rfl rfl); rfl)
  obtain ⟨a1, hr1, e1⟩ := arg_one (opens_int Tryz.underlying5) h1 (by obtain ⟨_, rfl⟩ := okWide_int Tryz.underlying5 (hval 1 5 v1 rfl rfl); rfl)
  refine ((w_IdentityLate (u8_in hr1)).2 noM W [v0, v1] (noM_bd W) ⟨e0, e1, trivial⟩).mono fun e W' ⟨v, he, hv, hb⟩ => ?_
  subst he
  obtain rfl : v = .bool true := hv
  exact ⟨_, rfl, law_post laidOut0 (by kernel_rfl) rfl Tryz.underlying4 rfl hA' (by rw [hpq]; simp) hW' rfl hb⟩
set_option maxRecDepth 40000 in
theorem identityLate_holds : Rows.IdentityLateSaid :=
  OpenClaim.holds_of_wide 5 Tryz.f5 rfl rfl rfl rfl rfl rfl rfl ⟨rfl, rfl, rfl, rfl, rfl⟩ rfl rfl rfl rfl rfl (by kernel_rfl) Tryz.func5 (by kernel_rfl)
    (of_decide_eq_true (by kernel_rfl)) (by unfold Func.isWrapper; first | (rw [if_pos (by decide +kernel)]; kernel_rfl) | (rw [if_neg (by decide +kernel)]; exact ⟨rfl, rfl⟩))
    (fun os started H enc _ => identityLate_lifted os started H enc)
end Go.Proofs.YtgdlhajfajddiaaGreat
