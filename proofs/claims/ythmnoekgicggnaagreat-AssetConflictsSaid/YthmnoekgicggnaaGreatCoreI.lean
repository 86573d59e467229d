/-
  append onto a slice that is ours, or has no room; what such a slice reads as afterwards.
-/
import Derived.Test.YthmnoekgicggnaaGreatCoreH
namespace Cp
open Go Go.RowKit

section
variable {P : Program} {n : Nat} {M0 : Av} {w0 : World} {S : Nat → Prop} {rs : List Res}

def appBlk : Value → Option Nat
  | .slice (some a) n c => if n < c then some a.block else none
  | _ => none
/-- What is appended to this slice turns nothing that anyone reads. -/
def appRes (e : TypeId) (sz : Nat) (v : Value) : Res where
  blk := appBlk v
  new := true
  h M w := ∀ a n c, v = .slice (some a) n c → n < c → (∃ xs, w.ownsRow 0 e sz v n xs) ∧ ∀ o, n * sz ≤ o → M a.block o
  st M w M' w' he hk h a n c hv hn := by
    subst hv
    obtain ⟨⟨xs, h1⟩, h2⟩ := h a n c rfl hn
    obtain ⟨hh, hm⟩ := hk a.block (by simp [appBlk, hn])
    refine ⟨⟨xs, ?_⟩, fun o ho => hm o (h2 o ho)⟩
    obtain ⟨h3, h4⟩ := h1
    refine ⟨h3, ?_⟩
    rcases h4 with h4 | ⟨g, cap, cur, hv, h5, h6, h7⟩
    · exact .inl h4
    · have ha : a = ⟨g, 0, none⟩ := by injection hv with h; injection h
      subst ha
      exact .inr ⟨g, cap, cur, hv, h5, hh.trans h6, h7⟩

theorem HpH.keeps {M : Av} {w : World} (h : HpH M0 w0 S rs M w) {i : Nat} {r : Res} (hi : rs[i]? = some r) {j : Nat} {r' : Res} (hj : rs[j]? = some r') (hne : j ≠ i) : ∀ b, r.blk = some b → r'.blk ≠ some b := by
  intro b hb hb'
  have hil : i < rs.length := by rcases Nat.lt_or_ge i rs.length with h | h; exact h; rw [List.getElem?_eq_none h] at hi; cases hi
  have hjl : j < rs.length := by rcases Nat.lt_or_ge j rs.length with h | h; exact h; rw [List.getElem?_eq_none h] at hj; cases hj
  rw [List.getElem?_eq_getElem hil] at hi
  rw [List.getElem?_eq_getElem hjl] at hj
  simp only [Option.some.injEq] at hi hj
  rcases Nat.lt_or_gt_of_ne hne with hlt | hlt
  · exact List.pairwise_iff_getElem.1 h.nd j i hjl hil hlt b (by rw [hj]; exact hb') (by rw [hi]; exact hb)
  · exact List.pairwise_iff_getElem.1 h.nd i j hil hjl hlt b (by rw [hi]; exact hb) (by rw [hj]; exact hb')

/-- One resource gives way to another one: its block, or a new one. -/
theorem HpH.replace {M M' : Av} {w w' : World} {i : Nat} {r r' : Res} (h : HpH M0 w0 S rs M w) (hi : rs[i]? = some r) (he : Ext M w M' w') (hos : w'.os = w.os) (htape : w'.tape = w.tape) (hout : w'.output = w.output)
    (hblock : ∀ k, k < w.heap.size → r.blk ≠ some k → w'.heap[k]? = w.heap[k]?) (hrn : r.new = true)
    (hM : ∀ b o, M b o → r.blk ≠ some b → M' b o) (hbd : Bd M' w') (hr' : r'.h M' w') (hnew : r'.new = true)
    (hblk : ∀ b, r'.blk = some b → b < w'.heap.size ∧ (r.blk = some b ∨ w.heap.size ≤ b)) : HpH M0 w0 S (rs.set i r') M' w' := by
  have hmem := List.mem_of_getElem? hi
  have hold := h.hold r hmem
  have hge : ∀ b, r.blk = some b → w0.heap.size ≤ b := fun b hb => by have := (hold.2 b hb).2; rw [hrn] at this; simpa using this
  refine ⟨h.m0, fun b o hm => hM b o (h.m b o hm) (fun e => ?_), hos.trans h.os, htape.trans h.tape, hout.trans h.output, Nat.le_trans h.size he.size, fun k hk hs => ?_, hbd, fun q hq => ?_, ?_⟩
  · have := hge b e
    have := h.m0 b o hm
    omega
  · refine (hblock k (Nat.lt_of_lt_of_le hk h.size) (fun e => ?_)).trans (h.block k hk hs)
    have := hge k e
    omega
  · obtain ⟨j, hj, rfl⟩ := List.mem_iff_getElem.1 hq
    have hjl : j < rs.length := by simpa using hj
    rw [List.getElem_set]
    by_cases hij : i = j
    · rw [if_pos hij]
      refine ⟨hr', fun b hb => ⟨(hblk b hb).1, ?_⟩⟩
      rw [hnew]
      simp only [if_true]
      rcases (hblk b hb).2 with h1 | h1
      · exact hge b h1
      · exact Nat.le_trans h.size h1
    · rw [if_neg hij]
      have hne := hij
      obtain ⟨h3, h4⟩ := h.hold _ (List.getElem_mem hjl)
      have hk := h.keeps hi (List.getElem?_eq_getElem hjl) (Ne.symm hne)
      exact ⟨(rs[j]).st _ _ _ _ he (fun b hb => ⟨hblock b (h4 b hb).1 (fun e => hk b e hb), fun o hm => hM b o hm (fun e => hk b e hb)⟩) h3, fun b hb => ⟨Nat.lt_of_lt_of_le (h4 b hb).1 he.size, (h4 b hb).2⟩⟩
  · rw [List.pairwise_iff_getElem]
    intro j k hj hk hjk b hb1 hb2
    have hjl : j < rs.length := by simpa using hj
    have hkl : k < rs.length := by simpa using hk
    rw [List.getElem_set] at hb1 hb2
    split at hb1 <;> split at hb2
    · omega
    · rename_i e1 e2
      subst e1
      rcases (hblk b hb1).2 with h1 | h1
      · exact h.keeps hi (List.getElem?_eq_getElem hkl) (Ne.symm e2) b h1 hb2
      · have := ((h.hold _ (List.getElem_mem hkl)).2 b hb2).1
        omega
    · rename_i e1 e2
      subst e2
      rcases (hblk b hb2).2 with h1 | h1
      · exact h.keeps hi (List.getElem?_eq_getElem hjl) (Ne.symm e1) b h1 hb1
      · have := ((h.hold _ (List.getElem_mem hjl)).2 b hb1).1
        omega
    · exact List.pairwise_iff_getElem.1 h.nd j k hjl hkl hjk b hb1 hb2

/-- The rows, laid out flat. -/
def Flat (M : Av) (w : World) (sz : Nat) (rows : List (List Pr)) (news : List Value) : Prop :=
  news.length = rows.length * sz ∧ (∀ u ∈ news, u.oneCell' = true) ∧ ∀ (i : Nat) row, rows[i]? = some row → row.length = sz ∧ ∀ (j : Nat) p, row[j]? = some p → ∃ u, news[i * sz + j]? = some u ∧ p.h M w u

theorem Flat.st {M M' : Av} {w w' : World} {sz : Nat} {rows : List (List Pr)} {news : List Value} (he : Ext M w M' w') (h : Flat M w sz rows news) : Flat M' w' sz rows news :=
  ⟨h.1, h.2.1, fun i row hr => ⟨(h.2.2 i row hr).1, fun j p hp => let ⟨u, hu, hh⟩ := (h.2.2 i row hr).2 j p hp; ⟨u, hu, p.st _ _ _ _ _ he hh⟩⟩⟩

theorem Flat.app {M : Av} {w : World} {sz : Nat} {rows rows' : List (List Pr)} {xs ys : List Value} (h : Flat M w sz rows xs) (h' : Flat M w sz rows' ys) : Flat M w sz (rows ++ rows') (xs ++ ys) := by
  refine ⟨by rw [List.length_append, List.length_append, h.1, h'.1, Nat.add_mul], fun u hu => ?_, fun i row hr => ?_⟩
  · rcases List.mem_append.1 hu with hu | hu
    · exact h.2.1 u hu
    · exact h'.2.1 u hu
  · rw [List.getElem?_append] at hr
    split at hr
    · rename_i hlt
      obtain ⟨h1, h2⟩ := h.2.2 i row hr
      refine ⟨h1, fun j p hp => ?_⟩
      obtain ⟨u, hu, hh⟩ := h2 j p hp
      have hlt' : i * sz + j < xs.length := by rcases Nat.lt_or_ge (i * sz + j) xs.length with h | h; exact h; rw [List.getElem?_eq_none h] at hu; cases hu
      exact ⟨u, by rw [List.getElem?_append_left hlt']; exact hu, hh⟩
    · rename_i hge
      obtain ⟨h1, h2⟩ := h'.2.2 _ row hr
      refine ⟨h1, fun j p hp => ?_⟩
      obtain ⟨u, hu, hh⟩ := h2 j p hp
      refine ⟨u, ?_, hh⟩
      have hmul : rows.length * sz ≤ i * sz := Nat.mul_le_mul_right sz (by omega)
      rw [List.getElem?_append_right (by rw [h.1]; omega), h.1]
      rw [Nat.sub_mul] at hu
      rwa [show i * sz + j - rows.length * sz = i * sz - rows.length * sz + j by omega]

/-- What a slice reads as, flat. -/
theorem slice_flat {M : Av} {w : World} {sz : Nat} {rows : List (List Pr)} {ad : Addr} {c : Nat} (hsz : 0 < sz) (h : (slice sz rows).h M w (.slice (some ad) rows.length c)) :
    ∃ news, Flat M w sz rows news ∧ (∀ (j : Nat) u, news[j]? = some u → w.cell? (ad.add j) = some u ∧ ¬ M ad.block (ad.off + j)) := by
  obtain ⟨a, cap, hv, _, _, _, hr⟩ := h
  have ha : a = some ad := by injection hv with h; exact h.symm
  subst ha
  have hcell : ∀ k, k < rows.length * sz → ∃ u, w.cell? (ad.add k) = some u ∧ ¬ M ad.block (ad.off + k) ∧ u.oneCell' = true := by
    intro k hk
    have hi : k / sz < rows.length := Nat.div_lt_of_lt_mul (by rw [Nat.mul_comm]; exact hk)
    obtain ⟨h1, b, hb, h2⟩ := hr (k / sz) _ (List.getElem?_eq_getElem hi)
    injection hb with hb
    subst hb
    have hj : k % sz < rows[k / sz].length := by rw [h1]; exact Nat.mod_lt _ hsz
    obtain ⟨u, h3, h4, h5, _⟩ := h2 (k % sz) _ (List.getElem?_eq_getElem hj)
    have : k / sz * sz + k % sz = k := by rw [Nat.mul_comm]; exact Nat.div_add_mod k sz
    rw [this] at h3 h4
    exact ⟨u, h3, h4, h5⟩
  refine ⟨(List.range (rows.length * sz)).map fun k => (w.cell? (ad.add k)).getD undef, ⟨by simp, fun u hu => ?_, fun i row hi => ?_⟩, fun j u hu => ?_⟩
  · obtain ⟨k, hk, rfl⟩ := List.mem_map.1 hu
    obtain ⟨u, h1, _, h2⟩ := hcell k (List.mem_range.1 hk)
    rw [h1]; exact h2
  · obtain ⟨h1, b, hb, h2⟩ := hr i row hi
    injection hb with hb
    subst hb
    refine ⟨h1, fun j p hp => ?_⟩
    obtain ⟨u, h3, _, _, h4⟩ := h2 j p hp
    have hjl : j < sz := by rw [← h1]; rcases Nat.lt_or_ge j row.length with h | h; exact h; rw [List.getElem?_eq_none h] at hp; cases hp
    have hil : i < rows.length := by rcases Nat.lt_or_ge i rows.length with h | h; exact h; rw [List.getElem?_eq_none h] at hi; cases hi
    have hlt : i * sz + j < rows.length * sz := by
      have : (i + 1) * sz ≤ rows.length * sz := Nat.mul_le_mul_right sz hil
      rw [Nat.add_mul] at this
      omega
    exact ⟨u, by rw [List.getElem?_map, List.getElem?_range hlt]; simp [h3], h4⟩
  · rw [List.getElem?_map] at hu
    cases hk : (List.range (rows.length * sz))[j]? with
    | none => rw [hk] at hu; cases hu
    | some k =>
      rw [hk] at hu
      simp only [Option.map_some, Option.some.injEq] at hu
      have hjk : k = j ∧ j < rows.length * sz := by
        rw [List.getElem?_eq_some_iff] at hk
        obtain ⟨h1, h2⟩ := hk
        simp at h1 h2
        omega
      obtain ⟨rfl, hlt⟩ := hjk
      obtain ⟨u', h1, h2, _⟩ := hcell k hlt
      rw [h1] at hu
      simp at hu
      subst hu
      exact ⟨h1, h2⟩

theorem slice_of_flat {M : Av} {w : World} {sz : Nat} {rows : List (List Pr)} {news : List Value} {g c : Nat} (h : Flat M w sz rows news) (hc : rows.length ≤ c) (hm : c ≤ maxLen)
    (hcell : ∀ (j : Nat) u, news[j]? = some u → w.cell? ⟨g, j, none⟩ = some u ∧ ¬ M g j) : (slice sz rows).h M w (.slice (some ⟨g, 0, none⟩) rows.length c) := by
  refine ⟨_, c, rfl, hc, hm, fun h => (by cases h), fun i row hi => ?_⟩
  obtain ⟨h1, h2⟩ := h.2.2 i row hi
  refine ⟨h1, _, rfl, fun j p hp => ?_⟩
  obtain ⟨u, hu, hh⟩ := h2 j p hp
  obtain ⟨h3, h4⟩ := hcell _ u hu
  refine ⟨u, ?_, by simpa using h4, h.2.1 u (List.mem_of_getElem? hu), hh⟩
  rw [show Addr.add ⟨g, 0, none⟩ (i * sz + j) = ⟨g, i * sz + j, none⟩ by unfold Addr.add; split <;> simp_all]
  exact h3

def bytesB (P : Program) (t : TypeId) : Option Nat := (P.info? t).map (·.bytes)

theorem run_append_zero {t ty e : TypeId} {A : Option Addr} {n c c' : Nat} {A' : Option Addr} {sz : Nat} (ht : P.underlying t = some (.slice e)) (hz : sizeB P e = some sz) (hn : n ≤ c) (w : World) :
    (Builtin.append_ #[t, t] ty #[.slice A n c, .slice A' 0 c']).run P w = .ok (.slice A n c) w := by
  unfold sizeB at hz
  cases hi : P.info? e with
  | none => rw [hi] at hz; cases hz
  | some i =>
    cases A <;> cases A' <;> simp [Builtin.append_, run_underlying ht, Go.sizeOf, typeInfo, hi, Builtin.lenOf, Builtin.firstCells, hn, storeCells, loadCells, loadCellsFrom]

/-- append: the new value reads as both, and is ours to append to. -/
theorem app_core {M : Av} {w : World} {t ty e : TypeId} {sz bytes : Nat} {zs : List Value} {rows rows' : List (List Pr)} {v u : Value} {j : Nat} {r : Res} (ht : P.underlying t = some (.slice e)) (hz : sizeB P e = some sz) (hby : bytesB P e = some bytes)
    (hze : zeroB P e = some zs) (hzl : zs.length = sz) (hsz : 0 < sz) (h : HpH M0 w0 S rs M w) (hj : rs[j]? = some r) (hr : r = appRes e sz v ∨ (r = noRes ∧ appBlk v = none))
    (hv : (slice sz rows).h M w v) (hu : (slice sz rows').h M w u) (hmax : rows.length + rows'.length ≤ maxLen) (hfit : (rows.length + rows'.length) * bytes ≤ 140737488355328) :
    ∃ v' w' M', (Builtin.append_ #[t, t] ty #[v, u]).run P w = .ok v' w' ∧ (slice sz (rows ++ rows')).h M' w' v' ∧ Ext M w M' w' ∧ HpH M0 w0 S (rs.set j (appRes e sz v')) M' w' := by
  have hz0 := hz
  unfold sizeB at hz
  unfold bytesB at hby
  unfold zeroB at hze
  cases hi : P.info? e with
  | none => rw [hi] at hz; cases hz
  | some i =>
    rw [hi] at hz hby hze
    simp only [Option.map_some, Option.some.injEq, Option.map_eq_some_iff] at hz hby hze
    obtain ⟨z, hzz, hze⟩ := hze
    have hzc : z.cells.size = sz := by rw [← hzl, ← hze]; simp
    have hrn : r.new = true := by rcases hr with rfl | ⟨rfl, _⟩ <;> rfl
    have hblkv : ∀ b, r.blk = some b → appBlk v = some b := by intro b hb; rcases hr with rfl | ⟨rfl, _⟩; exact hb; cases hb
    obtain ⟨A, c, rfl, hnc, hcm, hA, hrows⟩ := hv
    obtain ⟨A', c', rfl, hmc, hcm', hA', hrows'⟩ := hu
    have hv0 : (slice sz rows).h M w (.slice A rows.length c) := ⟨A, c, rfl, hnc, hcm, hA, hrows⟩
    have hu0 : (slice sz rows').h M w (.slice A' rows'.length c') := ⟨A', c', rfl, hmc, hcm', hA', hrows'⟩
    rcases Nat.eq_zero_or_pos rows'.length with hm | hm
    · have : rows' = [] := List.eq_nil_of_length_eq_zero hm
      subst this
      refine ⟨_, w, M, run_append_zero ht hz0 hnc w, by simpa using hv0, Ext.refl _ _, ?_⟩
      refine h.replace hj (Ext.refl _ _) rfl rfl rfl (fun _ _ _ => rfl) hrn (fun _ _ hm _ => hm) h.bd ?_ rfl (fun b hb => ?_)
      · rcases hr with rfl | ⟨rfl, hnb⟩
        · exact (h.hold _ (List.mem_of_getElem? hj)).1
        · intro a n' c2 hv2 hlt
          exfalso
          injection hv2 with h1 h2 h3
          subst h1; subst h2; subst h3
          simp [appBlk, hlt] at hnb
      · rcases hr with rfl | ⟨rfl, hnb⟩
        · exact ⟨((h.hold _ (List.mem_of_getElem? hj)).2 b hb).1, .inl hb⟩
        · exfalso
          have hb' : appBlk (.slice A rows.length c) = some b := hb
          rw [hnb] at hb'; cases hb'
    · -- something is appended: the source has an address
      obtain ⟨ad', rfl⟩ : ∃ ad', A' = some ad' := by
        obtain ⟨_, b, hb, _⟩ := hrows' 0 _ (List.getElem?_eq_getElem hm)
        exact ⟨b, hb⟩
      obtain ⟨news, hfl', hcell'⟩ := slice_flat hsz hu0
      have hbytes' : rows.length + rows'.length ≤ 9223372036854775807 := by unfold maxLen at hmax; exact hmax
      -- the new block
      have grown : ∀ (olds : List Value) (oc : Nat), Flat M w sz rows olds → oc < rows.length + rows'.length →
          (Builtin.append_ #[t, t] ty #[.slice A rows.length c, .slice (some ad') rows'.length c']).run P w = .ok (.slice (some ⟨w.heap.size, 0, none⟩) (rows.length + rows'.length) (grownCap w (rows.length + rows'.length) oc e))
            (w.drew.alloc (.cells (olds.toArray ++ news.toArray ++ Builtin.zeroCells z.cells (grownCap w (rows.length + rows'.length) oc e - (rows.length + rows'.length))) e)) →
          ∃ v' w' M', (Builtin.append_ #[t, t] ty #[.slice A rows.length c, .slice (some ad') rows'.length c']).run P w = .ok v' w' ∧ (slice sz (rows ++ rows')).h M' w' v' ∧ Ext M w M' w' ∧ HpH M0 w0 S (rs.set j (appRes e sz v')) M' w' := by
        intro olds oc hfl hoc hrun
        generalize hcap : grownCap w (rows.length + rows'.length) oc e = cap at hrun
        have hge : rows.length + rows'.length ≤ cap := by rw [← hcap]; exact grownCap_ge _ _ _ _
        have hle : cap ≤ maxLen := by rw [← hcap]; exact grownCap_le_maxLen _ _ _ _ hmax
        generalize hzc' : Builtin.zeroCells z.cells (cap - (rows.length + rows'.length)) = zc at hrun
        have hzs : zc.size = (cap - (rows.length + rows'.length)) * sz := by rw [← hzc', size_zeroCells, hzc]
        refine ⟨_, _, fun b o => M b o ∨ (b = w.heap.size ∧ (rows.length + rows'.length) * sz ≤ o), hrun, ?_, ?_, ?_⟩
        · have hext : Ext M w (fun b o => M b o ∨ (b = w.heap.size ∧ (rows.length + rows'.length) * sz ≤ o)) (w.drew.alloc (.cells (olds.toArray ++ news.toArray ++ zc) e)) := by
            have hb : Below w.heap.size w (w.drew.alloc (.cells (olds.toArray ++ news.toArray ++ zc) e)) := ((Below.refl _ _).drew).alloc (Nat.le_refl _) _
            have h2 := Ext.below (M := M) hb
            refine ⟨h2.size, fun a v hc hm => ⟨fun hx => ?_, (h2.keep a v hc hm).2⟩, fun b o ho hp hm => ⟨fun hx => ?_, (h2.obj b o ho hp hm).2⟩⟩
            · rcases hx with hx | ⟨hx, _⟩
              · exact hm hx
              · have := cell_lt hc; omega
            · rcases hx with hx | ⟨hx, _⟩
              · exact hm hx
              · subst hx; simp at ho
          have := slice_of_flat (g := w.heap.size) (c := cap) ((hfl.app hfl').st hext) (by simpa using hge) hle (fun k u hk => by
            refine ⟨?_, fun hx => ?_⟩
            · have hh : (w.drew.alloc (.cells (olds.toArray ++ news.toArray ++ zc) e)).heap[w.heap.size]? = some (.cells (olds.toArray ++ news.toArray ++ zc) e (0, 0)) := heap_alloc_new w.drew _
              have hkl : k < (olds ++ news).length := by rcases Nat.lt_or_ge k (olds ++ news).length with h | h; exact h; rw [List.getElem?_eq_none h] at hk; cases hk
              simp only [World.cell?, hh]
              have hk2 : k < (olds.toArray ++ news.toArray).size := by simpa using hkl
              rw [if_neg (by simp), Array.getElem?_append_left hk2]
              simpa using hk
            · rcases hx with hx | ⟨_, hx⟩
              · have := h.bd _ _ hx; omega
              · have hkl : k < (olds ++ news).length := by rcases Nat.lt_or_ge k (olds ++ news).length with h | h; exact h; rw [List.getElem?_eq_none h] at hk; cases hk
                rw [List.length_append, hfl.1, hfl'.1, ← Nat.add_mul] at hkl
                omega)
          simpa using this
        · have hb : Below w.heap.size w (w.drew.alloc (.cells (olds.toArray ++ news.toArray ++ zc) e)) := ((Below.refl _ _).drew).alloc (Nat.le_refl _) _
          have h2 := Ext.below (M := M) hb
          refine ⟨h2.size, fun a v hc hm => ⟨fun hx => ?_, (h2.keep a v hc hm).2⟩, fun b o ho hp hm => ⟨fun hx => ?_, (h2.obj b o ho hp hm).2⟩⟩
          · rcases hx with hx | ⟨hx, _⟩
            · exact hm hx
            · have := cell_lt hc; omega
          · rcases hx with hx | ⟨hx, _⟩
            · exact hm hx
            · subst hx; simp at ho
        · have hb : Below w.heap.size w (w.drew.alloc (.cells (olds.toArray ++ news.toArray ++ zc) e)) := ((Below.refl _ _).drew).alloc (Nat.le_refl _) _
          have h2 := Ext.below (M := M) hb
          refine h.replace hj ⟨h2.size, fun a v hc hm => ⟨fun hx => ?_, (h2.keep a v hc hm).2⟩, fun b o ho hp hm => ⟨fun hx => ?_, (h2.obj b o ho hp hm).2⟩⟩ hb.os hb.tape hb.output (fun k hk _ => hb.block k hk) hrn (fun b o hm _ => .inl hm) (fun b o hx => ?_) ?_ rfl (fun b hbk => ?_)
          · rcases hx with hx | ⟨hx, _⟩
            · exact hm hx
            · have := cell_lt hc; omega
          · rcases hx with hx | ⟨hx, _⟩
            · exact hm hx
            · subst hx; simp at ho
          · have hs1 : (w.drew.alloc (.cells (olds.toArray ++ news.toArray ++ zc) e)).heap.size = w.heap.size + 1 := by simp
            rcases hx with hx | ⟨hx, _⟩
            · have := h.bd _ _ hx; omega
            · omega
          · intro a n' c2 hv2 hlt
            injection hv2 with e1 e2 e3
            injection e1 with e1
            subst e1; subst e2; subst e3
            refine ⟨⟨olds ++ news, by rw [List.length_append, hfl.1, hfl'.1, Nat.add_mul], .inr ⟨w.heap.size, cap, olds.toArray ++ news.toArray ++ zc, rfl, Nat.zero_le _, heap_alloc_new w.drew _, hge, hle, ?_, ?_⟩⟩, fun o ho => .inr ⟨rfl, ho⟩⟩
            · simp only [Array.size_append, List.size_toArray, hzs, hfl.1, hfl'.1, ← Nat.add_mul]
              congr 1; omega
            · simp only [Array.toList_append]
              rw [← show (olds ++ news).length = (rows.length + rows'.length) * sz by rw [List.length_append, hfl.1, hfl'.1, Nat.add_mul]]
              exact List.take_left
          · have hbk' : appBlk (.slice (some ⟨w.heap.size, 0, none⟩) (rows.length + rows'.length) cap) = some b := hbk
            simp only [appBlk] at hbk'
            split at hbk'
            · simp at hbk'; subst hbk'
              exact ⟨by simp, .inr (Nat.le_refl _)⟩
            · cases hbk'
      by_cases hroom : rows.length + rows'.length ≤ c
      · -- in place
        have hlt : rows.length < c := by omega
        obtain ⟨a, rfl⟩ : ∃ a, A = some a := by
          cases A with
          | none => have := hA rfl; omega
          | some a => exact ⟨a, rfl⟩
        have hre : r = appRes e sz (.slice (some a) rows.length c) := by
          rcases hr with rfl | ⟨rfl, hnb⟩
          · rfl
          · simp [appBlk, hlt] at hnb
        obtain ⟨⟨xs, hown⟩, hspare⟩ := by
          have := (h.hold r (List.mem_of_getElem? hj)).1
          rw [hre] at this
          exact this a _ _ rfl hlt
        obtain ⟨g, cap, cur, hv2, _, hh, _, _, hcs, htk⟩ : ∃ g cap cur, Value.slice (some a) rows.length c = .slice (some ⟨g, 0, none⟩) rows.length cap ∧ 0 ≤ g ∧ w.heap[g]? = some (.cells cur e (0, 0)) ∧ rows.length ≤ cap ∧ cap ≤ maxLen ∧ cur.size = cap * sz ∧ cur.toList.take (rows.length * sz) = xs := by
          rcases hown.2 with ⟨h1, _⟩ | h1
          · injection h1 with h1; cases h1
          · exact h1
        injection hv2 with e1 _ e3
        injection e1 with e1
        subst e1; subst e3
        obtain ⟨w', hrun, hown', hgrow⟩ := run_append_fits (P := P) w 0 t ty e i sz ht hi hz g rows.length c xs hown ad' rows'.length c' news hfl'.1 (fun k u hk => (hcell' k u hk).1) hfl'.2.1 hroom
        obtain ⟨olds, hfl, hcell⟩ := slice_flat hsz hv0
        obtain ⟨cur', hh', hcs', htk'⟩ : ∃ cur', w'.heap[g]? = some (.cells cur' e (0, 0)) ∧ cur'.size = c * sz ∧ cur'.toList.take ((rows.length + rows'.length) * sz) = xs ++ news := by
          rcases hown'.2 with ⟨h1, _⟩ | ⟨g2, cap2, cur2, h1, _, h2, _, _, h3, h4⟩
          · injection h1 with h1; cases h1
          · injection h1 with e1 _ e3
            injection e1 with e1
            injection e1 with e1
            subst e1; subst e3
            exact ⟨cur2, h2, h3, h4⟩
        have hcellg : ∀ k u, (xs ++ news)[k]? = some u → w'.cell? ⟨g, k, none⟩ = some u := by
          intro k u hk
          simp only [World.cell?, hh']
          rw [if_neg (by simp), ← Array.getElem?_toList]
          rw [← htk', List.getElem?_take] at hk
          split at hk
          · exact hk
          · cases hk
        have hcellold : ∀ k u, xs[k]? = some u → w.cell? ⟨g, k, none⟩ = some u := by
          intro k u hk
          simp only [World.cell?, hh]
          rw [if_neg (by simp), ← Array.getElem?_toList]
          rw [← htk, List.getElem?_take] at hk
          split at hk
          · exact hk
          · cases hk
        have hxs : xs.length = rows.length * sz := hown.1
        have hoe : olds = xs := by
          apply List.ext_getElem?
          intro k
          by_cases hk : k < rows.length * sz
          · have h1 : k < olds.length := by rw [hfl.1]; exact hk
            have h2 : k < xs.length := by rw [hxs]; exact hk
            have h3 := (hcell k _ (List.getElem?_eq_getElem h1)).1
            rw [show Addr.add ⟨g, 0, none⟩ k = ⟨g, k, none⟩ by unfold Addr.add; split <;> simp_all] at h3
            have h4 := hcellold k _ (List.getElem?_eq_getElem h2)
            rw [h3] at h4
            rw [List.getElem?_eq_getElem h1, List.getElem?_eq_getElem h2]
            exact h4
          · rw [List.getElem?_eq_none (by rw [hfl.1]; omega), List.getElem?_eq_none (by rw [hxs]; omega)]
        subst hoe
        have hext : Ext M w (fun b o => M b o ∧ ¬ (b = g ∧ o < (rows.length + rows'.length) * sz)) w' := by
          refine ⟨hgrow.size, fun ad v hc hm => ⟨fun hx => hm hx.1, ?_⟩, fun b o ho hp hm => ⟨fun hx => hm hx.1, ?_⟩⟩
          · by_cases hb : ad.block = g
            · have hspot : ad.spot = none := by
                unfold World.cell? at hc
                rw [hb, hh] at hc
                simp only [] at hc
                cases hs : ad.spot with
                | none => rfl
                | some s => rw [hs] at hc; simp at hc
              have hlt2 : ad.off < rows.length * sz := by
                rcases Nat.lt_or_ge ad.off (rows.length * sz) with h1 | h1
                · exact h1
                · exact absurd (by rw [hb]; exact hspare _ h1) hm
              have had : ad = ⟨g, ad.off, none⟩ := by cases ad; simp_all
              have h2 : ad.off < olds.length := by rw [hfl.1]; exact hlt2
              have h4 := hcellold ad.off _ (List.getElem?_eq_getElem h2)
              rw [← had, hc] at h4
              have h5 := hcellg ad.off _ (by rw [List.getElem?_append_left h2]; exact List.getElem?_eq_getElem h2)
              rw [← had] at h5
              rw [h5, ← h4]
            · rw [World.cell?_of_block (w := w) (hgrow.block ad.block (cell_lt hc) (fun e => hb (by injection e)))]; exact hc
          · by_cases hb : b = g
            · subst hb; rw [hh] at ho; cases ho; cases hp
            · rw [hgrow.block b (by rcases Nat.lt_or_ge b w.heap.size with h | h; exact h; rw [Array.getElem?_eq_none h] at ho; cases ho) (fun e => hb (by injection e))]; exact ho
        have hgl : g < w.heap.size := by rcases Nat.lt_or_ge g w.heap.size with h | h; exact h; rw [Array.getElem?_eq_none h] at hh; cases hh
        refine ⟨_, w', _, hrun, ?_, hext, ?_⟩
        · have := slice_of_flat (g := g) (c := c) ((hfl.app hfl').st hext) (by simpa using hroom) hcm (fun k u hk => ⟨hcellg k u hk, fun hx => hx.2 ⟨rfl, by
            have hkl : k < (olds ++ news).length := by rcases Nat.lt_or_ge k (olds ++ news).length with h | h; exact h; rw [List.getElem?_eq_none h] at hk; cases hk
            rw [List.length_append, hfl.1, hfl'.1, ← Nat.add_mul] at hkl
            exact hkl⟩⟩)
          simpa using this
        · have hrb : r.blk = some g := by rw [hre]; simp [appRes, appBlk, hlt]
          refine h.replace hj hext hgrow.os hgrow.tape hgrow.output (fun k hk hne => hgrow.block k hk (fun e => hne (by rw [hrb]; exact e.symm))) hrn (fun b o hm hne => ⟨hm, fun hx => hne (by rw [hrb, hx.1])⟩) (fun b o hx => Nat.lt_of_lt_of_le (h.bd b o hx.1) hgrow.size) ?_ rfl (fun b hbk => ?_)
          · intro a n' c2 hv2 hlt2
            injection hv2 with e1 e2 e3
            injection e1 with e1
            subst e1; subst e2; subst e3
            refine ⟨⟨_, hown'⟩, fun o ho => ⟨hspare o (Nat.le_trans (Nat.mul_le_mul_right sz (by omega)) ho), fun hx => by omega⟩⟩
          · have hbk' : appBlk (.slice (some ⟨g, 0, none⟩) (rows.length + rows'.length) c) = some b := hbk
            simp only [appBlk] at hbk'
            split at hbk'
            · simp at hbk'; subst hbk'
              exact ⟨Nat.lt_of_lt_of_le hgl hgrow.size, .inl hrb⟩
            · cases hbk'
      · -- a new block
        cases A with
        | none =>
          have h0 : rows.length = 0 := by have := hA rfl; omega
          have : rows = [] := List.eq_nil_of_length_eq_zero h0
          subst this
          have hc0 : c = 0 := hA rfl
          subst hc0
          have hrun := run_append_nil (P := P) w t ty e i z ht hi hzz ad' rows'.length c' news (by rw [hz]; exact hfl'.1) (fun k u hk => (hcell' k u hk).1) hm (by simp at hbytes'; omega) (by rw [hby]; simp at hfit; omega)
          refine grown [] 0 ⟨by simp, fun _ h => by simp at h, fun i row h => by simp at h⟩ (by simpa using hm) ?_
          simpa using hrun
        | some a =>
          obtain ⟨olds, hfl, hcell⟩ := slice_flat hsz hv0
          have hns : Builtin.nextslicecap (rows.length + rows'.length) c ≤ 2 * (rows.length + rows'.length) := nextslicecap_le (by omega)
          have hrun := run_append_grow (P := P) w t ty e i z ht hi hzz a rows.length c olds (by rw [hz]; exact hfl.1) (fun k u hk => (hcell k u hk).1) ad' rows'.length c' news (by rw [hz]; exact hfl'.1) (fun k u hk => (hcell' k u hk).1) (by omega) (by omega)
            (by rw [hby]; have := Nat.mul_le_mul_right bytes hns; rw [Nat.mul_assoc] at this; omega)
          exact grown olds c hfl (by omega) hrun

end
end Cp
