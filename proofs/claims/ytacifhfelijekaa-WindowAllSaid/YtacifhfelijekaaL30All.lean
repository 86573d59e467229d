/-
  What the functions named below compute, proved from their text; printed by a program of our own.
-/
import Derived.Test.YtacifhfelijekaaTypes
import Derived.Test.YtacifhfelijekaaSlices
import Derived.Test.YtacifhfelijekaaWin1
import Derived.Test.YtacifhfelijekaaWin2
import Derived.Test.YtacifhfelijekaaWin3
import Derived.Test.YtacifhfelijekaaWin4
import Derived.Test.YtacifhfelijekaaWin5
import Derived.Test.YtacifhfelijekaaDice
import Derived.Test.YtacifhfelijekaaMove
import Derived.Test.YtacifhfelijekaaL30Full
import Derived.Test.YtacifhfelijekaaL30Next
import Derived.Test.YtacifhfelijekaaRef30
import Derived.Test.YtacifhfelijekaaRef30b
import Derived.Test.YtacifhfelijekaaRef30c
import Derived.Test.YtacifhfelijekaaRef30d
import Derived.Test.YtacifhfelijekaaRef30e
import Derived.Test.YtacifhfelijekaaFill
import Derived.Test.YtacifhfelijekaaLoad
import Derived.Test.YtacifhfelijekaaOdd
import Derived.Test.YtacifhfelijekaaRLoad
namespace Go.Proofs.Ytacifhfelijekaa
open Go Go.RowKit Cp

abbrev calRow (c : Cal) : List Pr := [winsP c.wins, ints c.team, ints c.room]
theorem odd_le : Pr.le (ex fun c : Cal => fact True (calP c)) (agg [ex fun l : List Win => winsP l, ex fun l : List Int => ints l, ex fun l : List Int => ints l]) :=
  fun _ _ _ ⟨c, _, cs, hv, ho, h1⟩ => ⟨cs, hv, ho, by
    match cs, h1 with
    | [a, b, d], h1 => exact ⟨⟨_, h1.1⟩, ⟨_, h1.2.1⟩, ⟨_, h1.2.2.1⟩, trivial⟩
    | [], h1 => exact h1.elim
    | [_], h1 => exact h1.2.elim
    | [_, _], h1 => exact h1.2.2.elim
    | _ :: _ :: _ :: _ :: _, h1 => exact h1.2.2.2.elim⟩
theorem openRow {P : Program} {n : Nat} {E : Env} {I : Asn} {Q : Exit → Act → World → Prop} {c : Code} {r0 r2 : List Pr} {α β γ : Type} {p : α → Pr} {q : β → Pr} {r : γ → Pr} (s : Nat) {p0 : Pr} (hs : E.lookup s = some p0) (hp : Pr.le p0 (slice 3 [r0, [ex p, ex q, ex r], r2]))
    (k : ∀ x y z, Tr P n ((s, slice 3 [r0, [p x, q y, r z], r2]) :: E) I c Q) : Tr P n E I c Q := by
  intro a w ⟨M, h1, h2, h3, h4⟩
  obtain ⟨A, cap, hv, hc, hm, hn, hr⟩ := hp _ _ _ (h3 s _ hs)
  obtain ⟨_, ad, hA, hrow⟩ := hr 1 _ rfl
  obtain ⟨u0, a0, b0, c0, x, hx⟩ := hrow 0 _ rfl
  obtain ⟨u1, a1, b1, c1, y, hy⟩ := hrow 1 _ rfl
  obtain ⟨u2, a2, b2, c2, z, hz⟩ := hrow 2 _ rfl
  refine k x y z a w ⟨M, h1, h2, fun t p' hp' => ?_, h4⟩
  simp only [List.lookup] at hp'
  by_cases ht : t = s
  · subst ht
    simp only [beq_self_eq_true, Option.some.injEq] at hp'
    subst hp'
    refine ⟨A, cap, hv, hc, hm, hn, fun i row hi => ?_⟩
    match i, hi with
    | 0, hi => exact hr 0 row hi
    | 1, hi =>
      simp at hi; subst hi
      refine ⟨rfl, ad, hA, fun j p hp => ?_⟩
      match j, hp with
      | 0, hp => simp at hp; subst hp; exact ⟨u0, a0, b0, c0, hx⟩
      | 1, hp => simp at hp; subst hp; exact ⟨u1, a1, b1, c1, hy⟩
      | 2, hp => simp at hp; subst hp; exact ⟨u2, a2, b2, c2, hz⟩
      | j + 3, hp => simp at hp
    | 2, hi => exact hr 2 row hi
    | i + 3, hi => simp at hi
  · rw [show (t == s) = false by simpa using ht] at hp'
    exact h3 t p' hp'

theorem w_WindowAll {t : List Int} {raw : Cal} {teams days : List Int} {day : Int}  : Fun Try.prog 7 [ints t, calP raw, ints teams, ints days, int day] (bool true) := by
  refine Fun.of Try.func7 rfl rfl (by exact Nat.le_of_ble_eq_true rfl) fun M0 w0 => ?_
  refine Tr.seq ?_
  refine Tr.reg0 ?_
  refine Ch.op rfl rfl (by decide) (ok_box rfl (VL.le (vl rfl) (agg_cellsP _))) ?_
  refine Ch.op rfl rfl (by decide) (ok_assign rfl (vl rfl)) ?_
  refine Ch.nil ?_
  refine Fin.go ?_
  refine Tr.seq ?_
  refine Tr.seq ?_
  refine Tr.reg0 ?_
  refine Ch.op rfl rfl (by decide) (ok_move rfl (vl rfl)) ?_
  refine Ch.op rfl rfl (by decide) (ok_call rfl (w_Light) ⟨⟨_, rfl, Pr.le_refl _⟩, trivial⟩) ?_
  refine Ch.op rfl rfl (by decide) (ok_not rfl (vl rfl)) ?_
  refine Ch.op rfl rfl (by decide) (ok_move rfl (vl rfl)) ?_
  refine Ch.cases 57 rfl (fun h1 => ?_) (fun h1 => ?_)
  ·
    have q1 := Nrm.nrm h1
    refine Ch.no rfl rfl rfl (ne_false h1) rfl (by decide) ?_
    refine Ch.no rfl rfl rfl (ne_false h1) rfl (by decide) ?_
    refine Ch.no rfl rfl rfl (ne_false h1) rfl (by decide) ?_
    refine Ch.no rfl rfl rfl (ne_false h1) rfl (by decide) ?_
    refine Ch.op rfl rfl (by decide) (ok_pick_t rfl (vl rfl) h1 (vl rfl)) ?_
    refine Ch.op rfl rfl (by decide) (ok_move rfl (vl rfl)) ?_
    refine Ch.no rfl rfl rfl (by decide) rfl (by decide) ?_
    refine Ch.no rfl rfl rfl (by decide) rfl (by decide) ?_
    refine Ch.no rfl rfl rfl (by decide) rfl (by decide) ?_
    refine Ch.no rfl rfl rfl (by decide) rfl (by decide) ?_
    refine Ch.no rfl rfl rfl (by decide) rfl (by decide) ?_
    refine Ch.no rfl rfl rfl (by decide) rfl (by decide) ?_
    refine Ch.no rfl rfl rfl (by decide) rfl (by decide) ?_
    refine Ch.no rfl rfl rfl (by decide) rfl (by decide) ?_
    refine Ch.op rfl rfl (by decide) (ok_pick_t rfl (vl rfl) rfl (vl rfl)) ?_
    refine Ch.op rfl rfl (by decide) (ok_move rfl (vl rfl)) ?_
    refine Ch.no rfl rfl rfl (by decide) rfl (by decide) ?_
    refine Ch.no rfl rfl rfl (by decide) rfl (by decide) ?_
    refine Ch.no rfl rfl rfl (by decide) rfl (by decide) ?_
    refine Ch.no rfl rfl rfl (by decide) rfl (by decide) ?_
    refine Ch.no rfl rfl rfl (by decide) rfl (by decide) ?_
    refine Ch.no rfl rfl rfl (by decide) rfl (by decide) ?_
    refine Ch.op rfl rfl (by decide) (ok_pick_t rfl (vl rfl) rfl (vl rfl)) ?_
    refine Ch.nil ?_
    refine Fin.go ?_
    refine Tr.weak [(0, _), (2, _), (3, _), (4, _), (6, _), (80, _)] ⟨⟨_, rfl, Pr.le_refl _⟩, ⟨_, rfl, Pr.le_refl _⟩, ⟨_, rfl, Pr.le_refl _⟩, ⟨_, rfl, Pr.le_refl _⟩, ⟨_, rfl, Pr.le_refl _⟩, ⟨_, rfl, Pr.le_refl _⟩, trivial⟩ ?_
    refine Tr.cond rfl (fun _ => ?_) (fun h => nomatch h)
    refine Tr.seq ?_
    refine Tr.reg0 ?_
    refine Ch.op rfl rfl (by decide) (ok_call rfl (w_awake) trivial) ?_
    refine Ch.op rfl rfl (by decide) (ok_assign rfl (vl rfl)) ?_
    refine Ch.nil ?_
    refine Fin.go ?_
    refine Tr.ret ?_
    refine Fin.then_ret ?_
    refine Fin.ret1 rfl (OutW.bse _ _) rfl ?_
    · first | exact Pr.le_refl _ | (refine int_eq ?_; simp_all; done) | (refine bool_eq ?_; simp_all; done) | (refine bool_eq ?_; simp_all; omega) | (refine int_eq ?_; omega)
  ·
    have q1 := Nrm.nrm h1
    have ht4 : t.length ≤ 400 := by simpa using h1
    have ht9 : t.length ≤ 1000000000 := by omega
    refine Ch.yes rfl rfl rfl h1 rfl (by decide) (ok_fieldAddr rfl fo27_0 (vl rfl) rfl) ?_
    refine Ch.yes rfl rfl rfl h1 rfl (by decide) (ok_load1 rfl one25 (vl rfl)) ?_
    first
      | refine Ch.yes rfl rfl rfl h1 rfl (by decide) (ok_lenm rfl Try.underlying25 (vl rfl)) ?_
      | refine Ch.yes rfl rfl rfl h1 rfl (by decide) (ok_len rfl Try.underlying25 (vl rfl)) ?_
    refine Ch.yes rfl rfl rfl h1 rfl (by decide) (ok_int rfl (vl rfl) (vl rfl) rfl) ?_
    refine Ch.op rfl rfl (by decide) (ok_pick_f rfl (vl rfl) h1 (vl rfl)) ?_
    refine Ch.op rfl rfl (by decide) (ok_move rfl (vl rfl)) ?_
    refine Ch.cases 63 rfl (fun h2 => ?_) (fun h2 => ?_)
    ·
      have q2 := Nrm.nrm h2
      refine Ch.no rfl rfl rfl (ne_false h2) rfl (by decide) ?_
      refine Ch.no rfl rfl rfl (ne_false h2) rfl (by decide) ?_
      refine Ch.no rfl rfl rfl (ne_false h2) rfl (by decide) ?_
      refine Ch.no rfl rfl rfl (ne_false h2) rfl (by decide) ?_
      refine Ch.no rfl rfl rfl (ne_false h2) rfl (by decide) ?_
      refine Ch.no rfl rfl rfl (ne_false h2) rfl (by decide) ?_
      refine Ch.no rfl rfl rfl (ne_false h2) rfl (by decide) ?_
      refine Ch.no rfl rfl rfl (ne_false h2) rfl (by decide) ?_
      refine Ch.op rfl rfl (by decide) (ok_pick_t rfl (vl rfl) h2 (vl rfl)) ?_
      refine Ch.op rfl rfl (by decide) (ok_move rfl (vl rfl)) ?_
      refine Ch.no rfl rfl rfl (by decide) rfl (by decide) ?_
      refine Ch.no rfl rfl rfl (by decide) rfl (by decide) ?_
      refine Ch.no rfl rfl rfl (by decide) rfl (by decide) ?_
      refine Ch.no rfl rfl rfl (by decide) rfl (by decide) ?_
      refine Ch.no rfl rfl rfl (by decide) rfl (by decide) ?_
      refine Ch.no rfl rfl rfl (by decide) rfl (by decide) ?_
      refine Ch.op rfl rfl (by decide) (ok_pick_t rfl (vl rfl) rfl (vl rfl)) ?_
      refine Ch.nil ?_
      refine Fin.go ?_
      refine Tr.weak [(0, _), (2, _), (3, _), (4, _), (6, _), (80, _)] ⟨⟨_, rfl, Pr.le_refl _⟩, ⟨_, rfl, Pr.le_refl _⟩, ⟨_, rfl, Pr.le_refl _⟩, ⟨_, rfl, Pr.le_refl _⟩, ⟨_, rfl, Pr.le_refl _⟩, ⟨_, rfl, Pr.le_refl _⟩, trivial⟩ ?_
      refine Tr.cond rfl (fun _ => ?_) (fun h => nomatch h)
      refine Tr.seq ?_
      refine Tr.reg0 ?_
      refine Ch.op rfl rfl (by decide) (ok_call rfl (w_awake) trivial) ?_
      refine Ch.op rfl rfl (by decide) (ok_assign rfl (vl rfl)) ?_
      refine Ch.nil ?_
      refine Fin.go ?_
      refine Tr.ret ?_
      refine Fin.then_ret ?_
      refine Fin.ret1 rfl (OutW.bse _ _) rfl ?_
      · first | exact Pr.le_refl _ | (refine int_eq ?_; simp_all; done) | (refine bool_eq ?_; simp_all; done) | (refine bool_eq ?_; simp_all; omega) | (refine int_eq ?_; omega)
    ·
      have q2 := Nrm.nrm h2
      refine Ch.yes rfl rfl rfl h2 rfl (by decide) (ok_fieldAddr rfl fo27_1 (vl rfl) rfl) ?_
      refine Ch.yes rfl rfl rfl h2 rfl (by decide) (ok_load1 rfl one22 (vl rfl)) ?_
      first
        | refine Ch.yes rfl rfl rfl h2 rfl (by decide) (ok_lenm rfl Try.underlying22 (vl rfl)) ?_
        | refine Ch.yes rfl rfl rfl h2 rfl (by decide) (ok_len rfl Try.underlying22 (vl rfl)) ?_
      refine Ch.yes rfl rfl rfl h2 rfl (by decide) (ok_fieldAddr rfl fo27_2 (vl rfl) rfl) ?_
      refine Ch.yes rfl rfl rfl h2 rfl (by decide) (ok_load1 rfl one22 (vl rfl)) ?_
      first
        | refine Ch.yes rfl rfl rfl h2 rfl (by decide) (ok_lenm rfl Try.underlying22 (vl rfl)) ?_
        | refine Ch.yes rfl rfl rfl h2 rfl (by decide) (ok_len rfl Try.underlying22 (vl rfl)) ?_
      first
        | (refine Ch.yes rfl rfl rfl h2 rfl (by decide) (ok_add rfl (vl rfl) (vl rfl) ?hin) ?_; case hin => unfold InI; omega)
        | refine Ch.yes rfl rfl rfl h2 rfl (by decide) (ok_int rfl (vl rfl) (vl rfl) rfl) ?_
      refine Ch.yes rfl rfl rfl h2 rfl (by decide) (ok_int rfl (vl rfl) (vl rfl) rfl) ?_
      refine Ch.op rfl rfl (by decide) (ok_pick_f rfl (vl rfl) h2 (vl rfl)) ?_
      refine Ch.op rfl rfl (by decide) (ok_move rfl (vl rfl)) ?_
      refine Ch.cases 73 rfl (fun h3 => ?_) (fun h3 => ?_)
      ·
        have q3 := Nrm.nrm h3
        refine Ch.no rfl rfl rfl (ne_false h3) rfl (by decide) ?_
        refine Ch.no rfl rfl rfl (ne_false h3) rfl (by decide) ?_
        refine Ch.no rfl rfl rfl (ne_false h3) rfl (by decide) ?_
        refine Ch.no rfl rfl rfl (ne_false h3) rfl (by decide) ?_
        refine Ch.no rfl rfl rfl (ne_false h3) rfl (by decide) ?_
        refine Ch.no rfl rfl rfl (ne_false h3) rfl (by decide) ?_
        refine Ch.op rfl rfl (by decide) (ok_pick_t rfl (vl rfl) h3 (vl rfl)) ?_
        refine Ch.nil ?_
        refine Fin.go ?_
        refine Tr.weak [(0, _), (2, _), (3, _), (4, _), (6, _), (80, _)] ⟨⟨_, rfl, Pr.le_refl _⟩, ⟨_, rfl, Pr.le_refl _⟩, ⟨_, rfl, Pr.le_refl _⟩, ⟨_, rfl, Pr.le_refl _⟩, ⟨_, rfl, Pr.le_refl _⟩, ⟨_, rfl, Pr.le_refl _⟩, trivial⟩ ?_
        refine Tr.cond rfl (fun _ => ?_) (fun h => nomatch h)
        refine Tr.seq ?_
        refine Tr.reg0 ?_
        refine Ch.op rfl rfl (by decide) (ok_call rfl (w_awake) trivial) ?_
        refine Ch.op rfl rfl (by decide) (ok_assign rfl (vl rfl)) ?_
        refine Ch.nil ?_
        refine Fin.go ?_
        refine Tr.ret ?_
        refine Fin.then_ret ?_
        refine Fin.ret1 rfl (OutW.bse _ _) rfl ?_
        · first | exact Pr.le_refl _ | (refine int_eq ?_; simp_all; done) | (refine bool_eq ?_; simp_all; done) | (refine bool_eq ?_; simp_all; omega) | (refine int_eq ?_; omega)
      ·
        have q3 := Nrm.nrm h3
        refine Ch.yes rfl rfl rfl h3 rfl (by decide) (ok_move rfl (vl rfl)) ?_
        first
          | refine Ch.yes rfl rfl rfl h3 rfl (by decide) (ok_lenm rfl Try.underlying22 (vl rfl)) ?_
          | refine Ch.yes rfl rfl rfl h3 rfl (by decide) (ok_len rfl Try.underlying22 (vl rfl)) ?_
        refine Ch.yes rfl rfl rfl h3 rfl (by decide) (ok_move rfl (vl rfl)) ?_
        first
          | refine Ch.yes rfl rfl rfl h3 rfl (by decide) (ok_lenm rfl Try.underlying22 (vl rfl)) ?_
          | refine Ch.yes rfl rfl rfl h3 rfl (by decide) (ok_len rfl Try.underlying22 (vl rfl)) ?_
        first
          | (refine Ch.yes rfl rfl rfl h3 rfl (by decide) (ok_add rfl (vl rfl) (vl rfl) ?hin) ?_; case hin => unfold InI; omega)
          | refine Ch.yes rfl rfl rfl h3 rfl (by decide) (ok_int rfl (vl rfl) (vl rfl) rfl) ?_
        refine Ch.yes rfl rfl rfl h3 rfl (by decide) (ok_int rfl (vl rfl) (vl rfl) rfl) ?_
        refine Ch.op rfl rfl (by decide) (ok_pick_f rfl (vl rfl) h3 (vl rfl)) ?_
        refine Ch.nil ?_
        refine Fin.go ?_
        refine Tr.weak [(0, _), (2, _), (3, _), (4, _), (6, _), (80, _)] ⟨⟨_, rfl, Pr.le_refl _⟩, ⟨_, rfl, Pr.le_refl _⟩, ⟨_, rfl, Pr.le_refl _⟩, ⟨_, rfl, Pr.le_refl _⟩, ⟨_, rfl, Pr.le_refl _⟩, ⟨_, rfl, Pr.le_refl _⟩, trivial⟩ ?_
        refine Tr.cond rfl (fun h4 => ?_) (fun h4 => ?_)
        ·
          have q4 := Nrm.nrm h4
          refine Tr.seq ?_
          refine Tr.reg0 ?_
          refine Ch.op rfl rfl (by decide) (ok_call rfl (w_awake) trivial) ?_
          refine Ch.op rfl rfl (by decide) (ok_assign rfl (vl rfl)) ?_
          refine Ch.nil ?_
          refine Fin.go ?_
          refine Tr.ret ?_
          refine Fin.then_ret ?_
          refine Fin.ret1 rfl (OutW.bse _ _) rfl ?_
          · first | exact Pr.le_refl _ | (refine int_eq ?_; simp_all; done) | (refine bool_eq ?_; simp_all; done) | (refine bool_eq ?_; simp_all; omega) | (refine int_eq ?_; omega)
        ·
          have q4 := Nrm.nrm h4
          refine Tr.skip ?_
          refine Fin.go ?_
          refine Tr.seq ?_
          refine Tr.regT ?_
          refine TO.op rfl rfl (by decide) (ok_move rfl (vl rfl)) ?_
          refine TO.pad ?_
          refine TO.efs 0 rfl rfl (by decide) (ef_call rfl rfl (by decide) rfl (w_Roll (l := t) ht9) ⟨⟨_, rfl, Pr.le_refl _⟩, trivial⟩) (fun v1 => ?_)
          refine TO.opn 83 0 _ rfl rfl (fun _ => rfl) (fun b1 => ?_)
          refine TO.op rfl rfl (by decide) (ok_assign rfl (vl rfl)) ?_
          refine TO.nil ?_
          refine Fin.go ?_
          refine Tr.seq ?_
          refine Tr.regT ?_
          refine TO.op rfl rfl (by decide) (ok_move rfl (vl rfl)) ?_
          refine TO.efc 0 rfl rfl (by decide) (ef_callc rfl rfl (by decide) rfl (w_Calendar (n := 3) (by omega)) ⟨⟨_, rfl, Pr.le_refl _⟩, ⟨_, rfl, Pr.le_refl _⟩, trivial⟩) ?_
          refine TO.ex 85 rfl (fun z1 => TO.fact 85 rfl fun hz1 => ?_)
          refine TO.alloc rfl rfl (by decide) rfl z27 zo27 (fun b2 => ?_)
          refine TO.store_all 0 rfl rfl rfl (vl rfl) (VL.le (vl rfl) (agg_cellsP _)) rfl sz27 rfl rfl ?_
          refine TO.freeze 0 12 rfl rfl ?_
          refine TO.nil ?_
          refine Fin.openD 0 rfl (fun s1 => ?_)
          refine Fin.go ?_
          refine Tr.weak [(2, _), (3, _), (4, _), (6, _), (11, _), (12, _)] ⟨⟨_, rfl, Pr.le_refl _⟩, ⟨_, rfl, Pr.le_refl _⟩, ⟨_, rfl, Pr.le_refl _⟩, ⟨_, rfl, Pr.le_refl _⟩, ⟨_, rfl, Pr.le_refl _⟩, ⟨_, rfl, Pr.le_refl _⟩, trivial⟩ ?_
          refine Tr.seq ?_
          have hc := hz1
          have hown := hc.own
          obtain ⟨h32, h8⟩ := own_zero hown
          have hroom := hc.room
          have hteam := hc.team
          refine Tr.reg0 ?_
          refine Ch.op rfl rfl (by decide) (ok_assign rfl (vl rfl)) ?_
          refine Ch.op rfl rfl (by decide) (ok_assign rfl (vl rfl)) ?_
          refine Ch.nil ?_
          refine Fin.go ?_
          refine Tr.seq ?_
          refine Tr.seq ?_
          refine Tr.regT ?_
          refine TO.op rfl rfl (by decide) (ok_move rfl (vl rfl)) ?_
          refine TO.efc 0 rfl rfl (by decide) (ef_callc rfl rfl (by decide) rfl (w_DNext (by omega) (by omega)) ⟨⟨_, rfl, Pr.le_refl _⟩, ⟨_, rfl, Pr.le_refl _⟩, trivial⟩) ?_
          refine TO.op rfl rfl (by decide) (ok_assign rfl (vl rfl)) ?_
          refine TO.nil ?_
          refine Fin.go ?_
          refine Tr.block ?_
          have hv6 := s1.val_in (n := 6) (by omega)
          refine Tr.addnil 3 1 ?_
          refine Tr.addnil 3 1 ?_
          refine Tr.loopD4V2 [(2, _), (3, _), (4, _), (6, _), (11, _), (12, _)] ⟨⟨_, rfl, Pr.le_refl _⟩, ⟨_, rfl, Pr.le_refl _⟩, ⟨_, rfl, Pr.le_refl _⟩, ⟨_, rfl, Pr.le_refl _⟩, ⟨_, rfl, Pr.le_refl _⟩, ⟨_, rfl, Pr.le_refl _⟩, trivial⟩ (fun (ta : List Int) (tb : List Int) (k : Int) (s2 : DS) u u2 => [(15, int k), (13, andIs u (ints ta)), (14, andIs u2 (ints tb))]) (fun (ta : List Int) (tb : List Int) (k : Int) (s2 : DS) u u2 => Hp M0 w0 noS ([appRes 3 1 u2, appRes 3 1 u, diceS b1 s2])) (fun (ta : List Int) (tb : List Int) (k : Int) (s2 : DS) => 0 ≤ k ∧ ta.length + k ≤ 5 ∧ ta.length = tb.length) (fun (ta : List Int) (tb : List Int) (k : Int) (s2 : DS) => k.toNat) ([]) ([]) (_) (_) (.slice none 0 0) (.slice none 0 0) (⟨by omega, by simp; omega, rfl⟩) ⟨⟨_, rfl, Pr.le_refl _⟩, ⟨_, rfl, own_nil (by simp)⟩, ⟨_, rfl, own_nil (by simp)⟩, trivial⟩ (fun _ _ h => h) ?_
          rintro ta tb k s2 u u2 ⟨hk, hk5, hlen⟩
          refine Tr.seq ?_
          refine Tr.seq ?_
          refine Tr.reg0 ?_
          refine Ch.op rfl rfl (by decide) (ok_move rfl (vl rfl)) ?_
          refine Ch.op rfl rfl (by decide) (ok_int rfl (vl rfl) (vl rfl) rfl) ?_
          refine Ch.nil ?_
          refine Fin.go ?_
          refine Tr.cond rfl (fun h5 => ?_) (fun h5 => ?_)
          ·
            have q5 := Nrm.nrm h5
            have hk0 : k > 0 := of_decide_eq_true h5
            refine Tr.skip ?_
            refine Fin.go ?_
            refine Tr.seq ?_
            refine Tr.block ?_
            have hv2 := s2.val_in (n := 2) (by omega)
            refine Tr.regT ?_
            refine TO.op rfl rfl (by decide) (ok_move rfl (vl rfl)) ?_
            refine TO.op rfl rfl (by decide) (ok_move rfl (vl rfl)) ?_
            refine TO.efc 2 rfl rfl (by decide) (ef_callc rfl rfl (by decide) rfl (w_DNext (by omega) (by omega)) ⟨⟨_, rfl, Pr.le_refl _⟩, ⟨_, rfl, Pr.le_refl _⟩, trivial⟩) ?_
            refine TO.op rfl rfl (by decide) (ok_buildSlice (xs := [.tmp 94]) (rows := [[_]]) rfl rfl Try.underlying22 sz3 z3 rfl (by decide) ⟨⟨(by exact rfl), (VL.le (vl rfl) (one_cellsP _))⟩, trivial⟩ (by decide)) ?_
            refine TO.efs 1 rfl rfl (by decide) (ef_append rfl rfl (by decide) rfl Try.underlying22 sz3 by3 z3 rfl (by decide) ⟨_, rfl, andIs_le _ _⟩ ⟨_, rfl, full_le _ _⟩ (by simp only [List.length_map, List.length_append, List.length_cons, List.length_nil]; unfold maxLen; omega) (by simp only [List.length_map, List.length_append, List.length_cons, List.length_nil]; omega) (appR_is (by exact List.Mem.head _) ⟨_, rfl, andIs_is _ _⟩)) (fun v2 => ?_)
            refine TO.op rfl rfl (by decide) (ok_move rfl (vl rfl)) ?_
            refine TO.op rfl rfl (by decide) (ok_move rfl (vl rfl)) ?_
            refine TO.efc 2 rfl rfl (by decide) (ef_callc rfl rfl (by decide) rfl (w_DNext (by omega) (by omega)) ⟨⟨_, rfl, Pr.le_refl _⟩, ⟨_, rfl, Pr.le_refl _⟩, trivial⟩) ?_
            refine TO.op rfl rfl (by decide) (ok_buildSlice (xs := [.tmp 99]) (rows := [[_]]) rfl rfl Try.underlying22 sz3 z3 rfl (by decide) ⟨⟨(by exact rfl), (VL.le (vl rfl) (one_cellsP _))⟩, trivial⟩ (by decide)) ?_
            refine TO.efs 0 rfl rfl (by decide) (ef_append rfl rfl (by decide) rfl Try.underlying22 sz3 by3 z3 rfl (by decide) ⟨_, rfl, andIs_le _ _⟩ ⟨_, rfl, full_le _ _⟩ (by simp only [List.length_map, List.length_append, List.length_cons, List.length_nil]; unfold maxLen; omega) (by simp only [List.length_map, List.length_append, List.length_cons, List.length_nil]; omega) (appR_is (by exact List.Mem.head _) ⟨_, rfl, andIs_is _ _⟩)) (fun v3 => ?_)
            refine TO.op rfl rfl (by decide) (ok_assign rfl (vl rfl)) ?_
            refine TO.op rfl rfl (by decide) (ok_assign rfl (vl rfl)) ?_
            refine TO.nil ?_
            refine Fin.block ?_
            refine Fin.go ?_
            refine Tr.weak [(2, _), (3, _), (4, _), (6, _), (11, _), (12, _), (13, _), (14, _), (15, _)] ⟨⟨_, rfl, Pr.le_refl _⟩, ⟨_, rfl, Pr.le_refl _⟩, ⟨_, rfl, Pr.le_refl _⟩, ⟨_, rfl, Pr.le_refl _⟩, ⟨_, rfl, Pr.le_refl _⟩, ⟨_, rfl, Pr.le_refl _⟩, ⟨_, rfl, Pr.le_refl _⟩, ⟨_, rfl, Pr.le_refl _⟩, ⟨_, rfl, Pr.le_refl _⟩, trivial⟩ ?_
            refine Tr.reg0 ?_
            refine Ch.op rfl rfl (by decide) (ok_move rfl (vl rfl)) ?_
            first
              | (refine Ch.op rfl rfl (by decide) (ok_sub rfl (vl rfl) (vl rfl) ?hin) ?_; case hin => unfold InI; omega)
              | refine Ch.op rfl rfl (by decide) (ok_int rfl (vl rfl) (vl rfl) rfl) ?_
            refine Ch.op rfl rfl (by decide) (ok_assign rfl (vl rfl)) ?_
            refine Ch.nil ?_
            exact Fin.famD4V2 (ta ++ [s2.val 2]) (tb ++ [s2.adv.val 50]) (k - 1) (_) v2 v3 (⟨⟨by omega, by simp; omega, by simp [hlen]⟩, by omega⟩) ⟨⟨_, rfl, Pr.le_refl _⟩, ⟨_, rfl, own_le (ints_succ' _ _)⟩, ⟨_, rfl, own_le (ints_succ' _ _)⟩, ⟨_, rfl, Pr.le_refl _⟩, ⟨_, rfl, Pr.le_refl _⟩, ⟨_, rfl, Pr.le_refl _⟩, ⟨_, rfl, Pr.le_refl _⟩, ⟨_, rfl, Pr.le_refl _⟩, ⟨_, rfl, Pr.le_refl _⟩, trivial⟩ (fun _ _ h => h)
          ·
            have q5 := Nrm.nrm h5
            have hk0 : ¬ k > 0 := of_decide_eq_false h5
            refine Tr.exit ?_
            refine Fin.then_exit ?_
            refine Fin.then_exit ?_
            refine Fin.block_here ?_
            refine Fin.go ?_
            refine Tr.seq ?_
            refine Tr.seq ?_
            refine Tr.regX mixed [none, none, none, some (0, 2, true, 0), none, none, none, none] (by kernel_rfl) ?_
            refine Cx.op rfl rfl (by decide) (fun _ => ok_loadA rfl agg27 sz27 (vl rfl) rfl rfl) ?_
            refine Cx.op rfl rfl (by decide) (fun _ => ok_move rfl (vl rfl)) ?_
            refine Cx.op rfl rfl (by decide) (fun _ => ok_loadA rfl agg27 sz27 (vl rfl) rfl rfl) ?_
            refine Cx.ef 2 rfl rfl (by decide) (ef_callc rfl rfl (by decide) rfl (w_odd (c := z1) hc.some (by omega) (by omega) (by omega) (by omega)) ⟨⟨_, rfl, Pr.le_refl _⟩, ⟨_, rfl, Pr.le_refl _⟩, trivial⟩) ?_
            refine Cx.op rfl rfl (by decide) (fun _ => ok_loadA rfl agg27 sz27 (vl rfl) rfl rfl) ?_
            refine Cx.op rfl rfl (by decide) (fun _ => ok_buildSlice (xs := [.tmp 102, .tmp 105, .tmp 106]) (rows := [_, _, _]) rfl rfl Try.underlying53 sz27 z27 rfl (by decide) ⟨⟨(by exact rfl), (VL.le (vl rfl) (agg_cellsP _))⟩, ⟨⟨(by exact rfl), ⟨_, rfl, Pr.le_trans (odd_le) (agg_cellsP _)⟩⟩, ⟨⟨(by exact rfl), (VL.le (vl rfl) (agg_cellsP _))⟩, trivial⟩⟩⟩ (by decide)) ?_
            first
              | refine Cx.op rfl rfl (by decide) (fun _ => ok_lenm rfl Try.underlying53 ⟨_, rfl, full_le _ _⟩) ?_
              | refine Cx.op rfl rfl (by decide) (fun _ => ok_len rfl Try.underlying53 ⟨_, rfl, full_le _ _⟩) ?_
            refine Cx.op rfl rfl (by decide) (fun _ => ok_move rfl (vl rfl)) ?_
            refine Cx.nil ⟨rfl, ?_⟩
            refine FinX.done (AllC.cons (AllC.cons (AllC.cons (AllC.map _)))) ?_
            refine Fin.openD 2 rfl (fun s2 => ?_)
            refine Fin.go ?_
            refine Tr.weak [(2, _), (3, _), (4, _), (13, _), (14, _), (107, _), (108, _), (109, _)] ⟨⟨_, rfl, Pr.le_refl _⟩, ⟨_, rfl, Pr.le_refl _⟩, ⟨_, rfl, Pr.le_refl _⟩, ⟨_, rfl, Pr.le_refl _⟩, ⟨_, rfl, Pr.le_refl _⟩, ⟨_, rfl, Pr.le_refl _⟩, ⟨_, rfl, Pr.le_refl _⟩, ⟨_, rfl, Pr.le_refl _⟩, trivial⟩ ?_
            refine Tr.block ?_
            refine openRow 107 rfl (full_le _ _) fun xw xt xr => ?_
            obtain ⟨zo, hzo⟩ : ∃ zo : Cal, zo = ⟨xw, xt, xr⟩ := ⟨_, rfl⟩
            refine Tr.re 107 rfl (Pr.le_of_eq (show _ = slice 3 (([z1, zo, raw] : List Cal).map calRow) from by subst hzo; rfl)) ?_
            refine Tr.re 108 rfl (int_eq (b := ((([z1, zo, raw] : List Cal).length : Nat) : Int)) rfl) ?_
            refine Tr.loopw [(2, _), (3, _), (4, _), (13, _), (14, _), (107, _), (108, _)] ⟨⟨_, rfl, Pr.le_refl _⟩, ⟨_, rfl, Pr.le_refl _⟩, ⟨_, rfl, Pr.le_refl _⟩, ⟨_, rfl, Pr.le_refl _⟩, ⟨_, rfl, Pr.le_refl _⟩, ⟨_, rfl, Pr.le_refl _⟩, ⟨_, rfl, Pr.le_refl _⟩, trivial⟩ (fun i : Nat => [(109, int ((i : Nat) : Int))]) (fun i : Nat => i ≤ (([z1, zo, raw] : List Cal)).length) (fun i : Nat => (([z1, zo, raw] : List Cal)).length - i) 0 (Nat.zero_le _) ⟨⟨_, rfl, Pr.le_refl _⟩, trivial⟩ ?_
            rintro i hle_i
            refine Tr.seq ?_
            refine Tr.reg0 ?_
            refine Ch.op rfl rfl (by decide) (ok_int rfl (vl rfl) (vl rfl) rfl) ?_
            refine Ch.nil ?_
            refine Fin.go ?_
            refine Tr.seq ?_
            refine Tr.cond rfl (fun h6 => ?_) (fun h6 => ?_)
            ·
              have q6 := Nrm.nrm h6
              have hk_i : i < (([z1, zo, raw] : List Cal)).length := lt_of_dec h6
              obtain ⟨x, hx_i⟩ := at_ hk_i
              have hL_i : i < 3 := hk_i
              refine Tr.skip ?_
              refine Fin.go ?_
              refine Tr.seq ?_
              refine Tr.block ?_
              refine Tr.seq ?_
              refine Tr.regT ?_
              refine TO.op rfl rfl (by decide) (ok_indexAddr rfl Try.underlying53 sz27 (vl rfl) (vl rfl) (by omega) (row_at (f := calRow) hx_i)) ?_
              refine TO.op rfl rfl (by decide) (ok_loadA rfl agg27 sz27 (vl rfl) rfl rfl) ?_
              refine TO.alloc rfl rfl (by decide) rfl z27 zo27 (fun b3 => ?_)
              refine TO.store_all 0 rfl rfl rfl (vl rfl) (VL.le (vl rfl) (agg_cellsP _)) rfl sz27 rfl rfl ?_
              refine TO.freeze 0 17 rfl rfl ?_
              refine TO.nil ?_
              refine Fin.go ?_
              refine Tr.weak [(2, _), (3, _), (4, _), (13, _), (14, _), (17, _), (107, _), (108, _), (109, _)] ⟨⟨_, rfl, Pr.le_refl _⟩, ⟨_, rfl, Pr.le_refl _⟩, ⟨_, rfl, Pr.le_refl _⟩, ⟨_, rfl, Pr.le_refl _⟩, ⟨_, rfl, Pr.le_refl _⟩, ⟨_, rfl, Pr.le_refl _⟩, ⟨_, rfl, Pr.le_refl _⟩, ⟨_, rfl, Pr.le_refl _⟩, ⟨_, rfl, Pr.le_refl _⟩, trivial⟩ ?_
              refine Tr.seq ?_
              refine Tr.seq ?_
              refine Tr.reg0 ?_
              refine Ch.op rfl rfl (by decide) (ok_fieldAddr rfl fo27_1 (vl rfl) rfl) ?_
              refine Ch.op rfl rfl (by decide) (ok_load1 rfl one22 (vl rfl)) ?_
              first
                | refine Ch.op rfl rfl (by decide) (ok_lenm rfl Try.underlying22 (vl rfl)) ?_
                | refine Ch.op rfl rfl (by decide) (ok_len rfl Try.underlying22 (vl rfl)) ?_
              refine Ch.op rfl rfl (by decide) (ok_buildSlice (xs := [.const (.int .i64 (3)), .tmp 115, .const (.int .i64 (4))]) (rows := [[_], [_], [_]]) rfl rfl Try.underlying22 sz3 z3 rfl (by decide) ⟨⟨(by exact rfl), (VL.le (vl rfl) (one_cellsP _))⟩, ⟨⟨(by exact rfl), (VL.le (vl rfl) (one_cellsP _))⟩, ⟨⟨(by exact rfl), (VL.le (vl rfl) (one_cellsP _))⟩, trivial⟩⟩⟩ (by decide)) ?_
              first
                | refine Ch.op rfl rfl (by decide) (ok_lenm rfl Try.underlying22 ⟨_, rfl, full_le _ _⟩) ?_
                | refine Ch.op rfl rfl (by decide) (ok_len rfl Try.underlying22 ⟨_, rfl, full_le _ _⟩) ?_
              refine Ch.op rfl rfl (by decide) (ok_move rfl (vl rfl)) ?_
              refine Ch.nil ?_
              refine Fin.go ?_
              refine Tr.weak [(2, _), (3, _), (4, _), (13, _), (14, _), (17, _), (107, _), (108, _), (109, _), (116, _), (117, _), (118, _)] ⟨⟨_, rfl, Pr.le_refl _⟩, ⟨_, rfl, Pr.le_refl _⟩, ⟨_, rfl, Pr.le_refl _⟩, ⟨_, rfl, Pr.le_refl _⟩, ⟨_, rfl, Pr.le_refl _⟩, ⟨_, rfl, Pr.le_refl _⟩, ⟨_, rfl, Pr.le_refl _⟩, ⟨_, rfl, Pr.le_refl _⟩, ⟨_, rfl, Pr.le_refl _⟩, ⟨_, rfl, Pr.le_refl _⟩, ⟨_, rfl, Pr.le_refl _⟩, ⟨_, rfl, Pr.le_refl _⟩, trivial⟩ ?_
              refine Tr.block ?_
              refine Tr.re 116 rfl (Pr.le_trans (full_le _ _) (Pr.le_of_eq (show _ = slice 1 (([3, (x.team.length : Int), 4] : List Int).map (fun n => [int n])) from rfl))) ?_
              refine Tr.re 117 rfl (int_eq (b := ((([3, (x.team.length : Int), 4] : List Int).length : Nat) : Int)) rfl) ?_
              refine Tr.loopw [(2, _), (3, _), (4, _), (13, _), (14, _), (17, _), (107, _), (108, _), (109, _), (116, _), (117, _)] ⟨⟨_, rfl, Pr.le_refl _⟩, ⟨_, rfl, Pr.le_refl _⟩, ⟨_, rfl, Pr.le_refl _⟩, ⟨_, rfl, Pr.le_refl _⟩, ⟨_, rfl, Pr.le_refl _⟩, ⟨_, rfl, Pr.le_refl _⟩, ⟨_, rfl, Pr.le_refl _⟩, ⟨_, rfl, Pr.le_refl _⟩, ⟨_, rfl, Pr.le_refl _⟩, ⟨_, rfl, Pr.le_refl _⟩, ⟨_, rfl, Pr.le_refl _⟩, trivial⟩ (fun j : Nat => [(118, int ((j : Nat) : Int))]) (fun j : Nat => j ≤ (([3, (x.team.length : Int), 4] : List Int)).length) (fun j : Nat => (([3, (x.team.length : Int), 4] : List Int)).length - j) 0 (Nat.zero_le _) ⟨⟨_, rfl, Pr.le_refl _⟩, trivial⟩ ?_
              rintro j hle_j
              refine Tr.seq ?_
              refine Tr.reg0 ?_
              refine Ch.op rfl rfl (by decide) (ok_int rfl (vl rfl) (vl rfl) rfl) ?_
              refine Ch.nil ?_
              refine Fin.go ?_
              refine Tr.seq ?_
              refine Tr.cond rfl (fun h7 => ?_) (fun h7 => ?_)
              ·
                have q7 := Nrm.nrm h7
                have hk_j : j < (([3, (x.team.length : Int), 4] : List Int)).length := lt_of_dec h7
                obtain ⟨m, hx_j⟩ := at_ hk_j
                have hL_j : j < 3 := hk_j
                refine Tr.skip ?_
                refine Fin.go ?_
                refine Tr.seq ?_
                refine Tr.block ?_
                refine Tr.seq ?_
                refine Tr.reg0 ?_
                refine Ch.op rfl rfl (by decide) (ok_indexAddr rfl Try.underlying22 sz3 (vl rfl) (vl rfl) (by omega) (row_at (f := fun n => [int n]) hx_j)) ?_
                refine Ch.op rfl rfl (by decide) (ok_load1 rfl one3 (vl rfl)) ?_
                refine Ch.op rfl rfl (by decide) (ok_assign rfl (vl rfl)) ?_
                refine Ch.nil ?_
                refine Fin.go ?_
                refine Tr.weak [(2, _), (3, _), (4, _), (13, _), (14, _), (17, _), (19, _), (107, _), (108, _), (109, _), (116, _), (117, _), (118, _)] ⟨⟨_, rfl, Pr.le_refl _⟩, ⟨_, rfl, Pr.le_refl _⟩, ⟨_, rfl, Pr.le_refl _⟩, ⟨_, rfl, Pr.le_refl _⟩, ⟨_, rfl, Pr.le_refl _⟩, ⟨_, rfl, Pr.le_refl _⟩, ⟨_, rfl, Pr.le_refl _⟩, ⟨_, rfl, Pr.le_refl _⟩, ⟨_, rfl, Pr.le_refl _⟩, ⟨_, rfl, Pr.le_refl _⟩, ⟨_, rfl, Pr.le_refl _⟩, ⟨_, rfl, Pr.le_refl _⟩, ⟨_, rfl, Pr.le_refl _⟩, trivial⟩ ?_
                refine Tr.seq ?_
                refine Tr.reg1 mixed (by kernel_rfl) ?_
                refine Ch.op rfl rfl (by decide) (ok_loadA rfl agg27 sz27 (vl rfl) rfl rfl) ?_
                refine Ch.op rfl rfl (by decide) (ok_move rfl (vl rfl)) ?_
                refine Ch.op rfl rfl (by decide) (ok_call rfl (w_Check) ⟨⟨_, rfl, Pr.le_refl _⟩, ⟨_, rfl, Pr.le_refl _⟩, trivial⟩) ?_
                refine Ch.op rfl rfl (by decide) (ok_loadA rfl agg27 sz27 (vl rfl) rfl rfl) ?_
                refine Ch.op rfl rfl (by decide) (ok_move rfl (vl rfl)) ?_
                refine Ch.op rfl rfl (by decide) (ok_call rfl (w_RCheck) ⟨⟨_, rfl, Pr.le_refl _⟩, ⟨_, rfl, Pr.le_refl _⟩, trivial⟩) ?_
                refine Ch.op rfl rfl (by decide) (ok_int rfl (vl rfl) (vl rfl) rfl) ?_
                refine Ch.nil ?_
                refine Fin.go ?_
                refine Tr.weak [(2, _), (3, _), (4, _), (13, _), (14, _), (17, _), (107, _), (108, _), (109, _), (116, _), (117, _), (118, _), (128, _)] ⟨⟨_, rfl, Pr.le_refl _⟩, ⟨_, rfl, Pr.le_refl _⟩, ⟨_, rfl, Pr.le_refl _⟩, ⟨_, rfl, Pr.le_refl _⟩, ⟨_, rfl, Pr.le_refl _⟩, ⟨_, rfl, Pr.le_refl _⟩, ⟨_, rfl, Pr.le_refl _⟩, ⟨_, rfl, Pr.le_refl _⟩, ⟨_, rfl, Pr.le_refl _⟩, ⟨_, rfl, Pr.le_refl _⟩, ⟨_, rfl, Pr.le_refl _⟩, ⟨_, rfl, Pr.le_refl _⟩, ⟨_, rfl, Pr.le_refl _⟩, trivial⟩ ?_
                refine Tr.cond rfl (fun h8 => ?_) (fun h8 => ?_)
                ·
                  have q8 := Nrm.nrm h8
                  exact absurd rfl q8
                ·
                  have q8 := Nrm.nrm h8
                  refine Tr.skip ?_
                  refine Fin.block ?_
                  refine Fin.go ?_
                  refine Tr.reg0 ?_
                  first
                    | (refine Ch.op rfl rfl (by decide) (ok_add rfl (vl rfl) (vl rfl) ?hin) ?_; case hin => unfold InI; omega)
                    | refine Ch.op rfl rfl (by decide) (ok_int rfl (vl rfl) (vl rfl) rfl) ?_
                  refine Ch.op rfl rfl (by decide) (ok_move rfl (vl rfl)) ?_
                  refine Ch.nil ?_
                  exact Fin.fam_same (j + 1) ⟨hk_j, by omega⟩ ⟨⟨_, rfl, int_succ j⟩, ⟨_, rfl, Pr.le_refl _⟩, ⟨_, rfl, Pr.le_refl _⟩, ⟨_, rfl, Pr.le_refl _⟩, ⟨_, rfl, Pr.le_refl _⟩, ⟨_, rfl, Pr.le_refl _⟩, ⟨_, rfl, Pr.le_refl _⟩, ⟨_, rfl, Pr.le_refl _⟩, ⟨_, rfl, Pr.le_refl _⟩, ⟨_, rfl, Pr.le_refl _⟩, ⟨_, rfl, Pr.le_refl _⟩, ⟨_, rfl, Pr.le_refl _⟩, trivial⟩
              ·
                have q7 := Nrm.nrm h7
                have he_j : j = (([3, (x.team.length : Int), 4] : List Int)).length := by have := ge_of_dec h7; omega
                refine Tr.exit ?_
                refine Fin.then_exit ?_
                refine Fin.then_exit ?_
                refine Fin.block_here ?_
                refine Fin.go ?_
                refine Tr.seq ?_
                refine Tr.seq ?_
                obtain ⟨dm, hdm⟩ : ∃ dm, day % 60 = dm := ⟨_, rfl⟩
                refine Tr.reg0 ?_
                refine Ch.op rfl rfl (by decide) (ok_move rfl (vl rfl)) ?_
                refine Ch.op rfl rfl (by decide) (ok_move rfl (vl rfl)) ?_
                refine Ch.op rfl rfl (by decide) (ok_call rfl (w_Mod (by omega) (by omega)) ⟨⟨_, rfl, Pr.le_refl _⟩, ⟨_, rfl, Pr.le_refl _⟩, trivial⟩) ?_
                first
                  | (refine Ch.op rfl rfl (by decide) (ok_sub rfl (vl rfl) (vl rfl) ?hin) ?_; case hin => unfold InI; omega)
                  | refine Ch.op rfl rfl (by decide) (ok_int rfl (vl rfl) (vl rfl) rfl) ?_
                refine Ch.op rfl rfl (by decide) (ok_buildSlice (xs := [.tmp 130, .tmp 133]) (rows := [[_], [_]]) rfl rfl Try.underlying22 sz3 z3 rfl (by decide) ⟨⟨(by exact rfl), (VL.le (vl rfl) (one_cellsP _))⟩, ⟨⟨(by exact rfl), (VL.le (vl rfl) (one_cellsP _))⟩, trivial⟩⟩ (by decide)) ?_
                first
                  | refine Ch.op rfl rfl (by decide) (ok_lenm rfl Try.underlying22 ⟨_, rfl, full_le _ _⟩) ?_
                  | refine Ch.op rfl rfl (by decide) (ok_len rfl Try.underlying22 ⟨_, rfl, full_le _ _⟩) ?_
                refine Ch.op rfl rfl (by decide) (ok_move rfl (vl rfl)) ?_
                refine Ch.nil ?_
                refine Fin.go ?_
                refine Tr.weak [(2, _), (3, _), (4, _), (13, _), (14, _), (17, _), (107, _), (108, _), (109, _), (134, _), (135, _), (136, _)] ⟨⟨_, rfl, Pr.le_refl _⟩, ⟨_, rfl, Pr.le_refl _⟩, ⟨_, rfl, Pr.le_refl _⟩, ⟨_, rfl, Pr.le_refl _⟩, ⟨_, rfl, Pr.le_refl _⟩, ⟨_, rfl, Pr.le_refl _⟩, ⟨_, rfl, Pr.le_refl _⟩, ⟨_, rfl, Pr.le_refl _⟩, ⟨_, rfl, Pr.le_refl _⟩, ⟨_, rfl, Pr.le_refl _⟩, ⟨_, rfl, Pr.le_refl _⟩, ⟨_, rfl, Pr.le_refl _⟩, trivial⟩ ?_
                refine Tr.block ?_
                refine Tr.re 134 rfl (Pr.le_trans (full_le _ _) (Pr.le_of_eq (show _ = slice 1 (([day, dm - 2] : List Int).map (fun n => [int n])) from by subst hdm; rfl))) ?_
                refine Tr.re 135 rfl (int_eq (b := ((([day, dm - 2] : List Int).length : Nat) : Int)) rfl) ?_
                refine Tr.loopw [(2, _), (3, _), (4, _), (13, _), (14, _), (17, _), (107, _), (108, _), (109, _), (134, _), (135, _)] ⟨⟨_, rfl, Pr.le_refl _⟩, ⟨_, rfl, Pr.le_refl _⟩, ⟨_, rfl, Pr.le_refl _⟩, ⟨_, rfl, Pr.le_refl _⟩, ⟨_, rfl, Pr.le_refl _⟩, ⟨_, rfl, Pr.le_refl _⟩, ⟨_, rfl, Pr.le_refl _⟩, ⟨_, rfl, Pr.le_refl _⟩, ⟨_, rfl, Pr.le_refl _⟩, ⟨_, rfl, Pr.le_refl _⟩, ⟨_, rfl, Pr.le_refl _⟩, trivial⟩ (fun j2 : Nat => [(136, int ((j2 : Nat) : Int))]) (fun j2 : Nat => j2 ≤ (([day, dm - 2] : List Int)).length) (fun j2 : Nat => (([day, dm - 2] : List Int)).length - j2) 0 (Nat.zero_le _) ⟨⟨_, rfl, Pr.le_refl _⟩, trivial⟩ ?_
                rintro j2 hle_j2
                refine Tr.seq ?_
                refine Tr.reg0 ?_
                refine Ch.op rfl rfl (by decide) (ok_int rfl (vl rfl) (vl rfl) rfl) ?_
                refine Ch.nil ?_
                refine Fin.go ?_
                refine Tr.seq ?_
                refine Tr.cond rfl (fun h9 => ?_) (fun h9 => ?_)
                ·
                  have q9 := Nrm.nrm h9
                  have hk_j2 : j2 < (([day, dm - 2] : List Int)).length := lt_of_dec h9
                  obtain ⟨dy, hx_j2⟩ := at_ hk_j2
                  have hL_j2 : j2 < 2 := hk_j2
                  refine Tr.skip ?_
                  refine Fin.go ?_
                  refine Tr.seq ?_
                  refine Tr.block ?_
                  refine Tr.seq ?_
                  refine Tr.reg0 ?_
                  refine Ch.op rfl rfl (by decide) (ok_indexAddr rfl Try.underlying22 sz3 (vl rfl) (vl rfl) (by omega) (row_at (f := fun n => [int n]) hx_j2)) ?_
                  refine Ch.op rfl rfl (by decide) (ok_load1 rfl one3 (vl rfl)) ?_
                  refine Ch.op rfl rfl (by decide) (ok_assign rfl (vl rfl)) ?_
                  refine Ch.nil ?_
                  refine Fin.go ?_
                  refine Tr.weak [(2, _), (3, _), (4, _), (13, _), (14, _), (17, _), (21, _), (107, _), (108, _), (109, _), (134, _), (135, _), (136, _)] ⟨⟨_, rfl, Pr.le_refl _⟩, ⟨_, rfl, Pr.le_refl _⟩, ⟨_, rfl, Pr.le_refl _⟩, ⟨_, rfl, Pr.le_refl _⟩, ⟨_, rfl, Pr.le_refl _⟩, ⟨_, rfl, Pr.le_refl _⟩, ⟨_, rfl, Pr.le_refl _⟩, ⟨_, rfl, Pr.le_refl _⟩, ⟨_, rfl, Pr.le_refl _⟩, ⟨_, rfl, Pr.le_refl _⟩, ⟨_, rfl, Pr.le_refl _⟩, ⟨_, rfl, Pr.le_refl _⟩, ⟨_, rfl, Pr.le_refl _⟩, trivial⟩ ?_
                  refine Tr.seq ?_
                  refine Tr.reg0 ?_
                  refine Ch.op rfl rfl (by decide) (ok_loadA rfl agg27 sz27 (vl rfl) rfl rfl) ?_
                  refine Ch.op rfl rfl (by decide) (ok_move rfl (vl rfl)) ?_
                  refine Ch.op rfl rfl (by decide) (ok_call rfl (w_At) ⟨⟨_, rfl, Pr.le_refl _⟩, ⟨_, rfl, Pr.le_refl _⟩, trivial⟩) ?_
                  refine Ch.op rfl rfl (by decide) (ok_move rfl (vl rfl)) ?_
                  refine Ch.op rfl rfl (by decide) (ok_extract rfl (vl rfl) rfl) ?_
                  refine Ch.op rfl rfl (by decide) (ok_extract rfl (vl rfl) rfl) ?_
                  refine Ch.op rfl rfl (by decide) (ok_extract rfl (vl rfl) rfl) ?_
                  refine Ch.op rfl rfl (by decide) (ok_assign rfl (vl rfl)) ?_
                  refine Ch.op rfl rfl (by decide) (ok_assign rfl (vl rfl)) ?_
                  refine Ch.op rfl rfl (by decide) (ok_assign rfl (vl rfl)) ?_
                  refine Ch.nil ?_
                  refine Fin.go ?_
                  refine Tr.weak [(2, _), (3, _), (4, _), (13, _), (14, _), (17, _), (21, _), (22, _), (23, _), (24, _), (107, _), (108, _), (109, _), (134, _), (135, _), (136, _)] ⟨⟨_, rfl, Pr.le_refl _⟩, ⟨_, rfl, Pr.le_refl _⟩, ⟨_, rfl, Pr.le_refl _⟩, ⟨_, rfl, Pr.le_refl _⟩, ⟨_, rfl, Pr.le_refl _⟩, ⟨_, rfl, Pr.le_refl _⟩, ⟨_, rfl, Pr.le_refl _⟩, ⟨_, rfl, Pr.le_refl _⟩, ⟨_, rfl, Pr.le_refl _⟩, ⟨_, rfl, Pr.le_refl _⟩, ⟨_, rfl, Pr.le_refl _⟩, ⟨_, rfl, Pr.le_refl _⟩, ⟨_, rfl, Pr.le_refl _⟩, ⟨_, rfl, Pr.le_refl _⟩, ⟨_, rfl, Pr.le_refl _⟩, ⟨_, rfl, Pr.le_refl _⟩, trivial⟩ ?_
                  refine Tr.seq ?_
                  refine Tr.reg0 ?_
                  refine Ch.op rfl rfl (by decide) (ok_loadA rfl agg27 sz27 (vl rfl) rfl rfl) ?_
                  refine Ch.op rfl rfl (by decide) (ok_move rfl (vl rfl)) ?_
                  refine Ch.op rfl rfl (by decide) (ok_call rfl (w_RAt) ⟨⟨_, rfl, Pr.le_refl _⟩, ⟨_, rfl, Pr.le_refl _⟩, trivial⟩) ?_
                  refine Ch.op rfl rfl (by decide) (ok_move rfl (vl rfl)) ?_
                  refine Ch.op rfl rfl (by decide) (ok_extract rfl (vl rfl) rfl) ?_
                  refine Ch.op rfl rfl (by decide) (ok_extract rfl (vl rfl) rfl) ?_
                  refine Ch.op rfl rfl (by decide) (ok_extract rfl (vl rfl) rfl) ?_
                  refine Ch.op rfl rfl (by decide) (ok_assign rfl (vl rfl)) ?_
                  refine Ch.op rfl rfl (by decide) (ok_assign rfl (vl rfl)) ?_
                  refine Ch.op rfl rfl (by decide) (ok_assign rfl (vl rfl)) ?_
                  refine Ch.nil ?_
                  refine Fin.go ?_
                  refine Tr.weak [(2, _), (3, _), (4, _), (13, _), (14, _), (17, _), (21, _), (22, _), (23, _), (24, _), (25, _), (26, _), (27, _), (107, _), (108, _), (109, _), (134, _), (135, _), (136, _)] ⟨⟨_, rfl, Pr.le_refl _⟩, ⟨_, rfl, Pr.le_refl _⟩, ⟨_, rfl, Pr.le_refl _⟩, ⟨_, rfl, Pr.le_refl _⟩, ⟨_, rfl, Pr.le_refl _⟩, ⟨_, rfl, Pr.le_refl _⟩, ⟨_, rfl, Pr.le_refl _⟩, ⟨_, rfl, Pr.le_refl _⟩, ⟨_, rfl, Pr.le_refl _⟩, ⟨_, rfl, Pr.le_refl _⟩, ⟨_, rfl, Pr.le_refl _⟩, ⟨_, rfl, Pr.le_refl _⟩, ⟨_, rfl, Pr.le_refl _⟩, ⟨_, rfl, Pr.le_refl _⟩, ⟨_, rfl, Pr.le_refl _⟩, ⟨_, rfl, Pr.le_refl _⟩, ⟨_, rfl, Pr.le_refl _⟩, ⟨_, rfl, Pr.le_refl _⟩, ⟨_, rfl, Pr.le_refl _⟩, trivial⟩ ?_
                  refine Tr.seq ?_
                  refine Tr.seq ?_
                  refine Tr.reg0 ?_
                  refine Ch.op rfl rfl (by decide) (ok_move rfl (vl rfl)) ?_
                  refine Ch.op rfl rfl (by decide) (ok_move rfl (vl rfl)) ?_
                  refine Ch.op rfl rfl (by decide) (ok_int rfl (vl rfl) (vl rfl) rfl) ?_
                  refine Ch.op rfl rfl (by decide) (ok_move rfl (vl rfl)) ?_
                  refine Ch.cases 157 rfl (fun h10 => ?_) (fun h10 => ?_)
                  ·
                    have q10 := Nrm.nrm h10
                    first | exact absurd rfl q10 | exact absurd q10 (by simp)
                  ·
                    have q10 := Nrm.nrm h10
                    refine Ch.yes rfl rfl rfl h10 rfl (by decide) (ok_move rfl (vl rfl)) ?_
                    refine Ch.yes rfl rfl rfl h10 rfl (by decide) (ok_move rfl (vl rfl)) ?_
                    refine Ch.yes rfl rfl rfl h10 rfl (by decide) (ok_neb rfl Try.underlying4 (vl rfl) (vl rfl)) ?_
                    refine Ch.op rfl rfl (by decide) (ok_pick_f rfl (vl rfl) h10 (vl rfl)) ?_
                    refine Ch.op rfl rfl (by decide) (ok_move rfl (vl rfl)) ?_
                    refine Ch.cases 162 rfl (fun h11 => ?_) (fun h11 => ?_)
                    ·
                      have q11 := Nrm.nrm h11
                      first | exact absurd rfl q11 | exact absurd q11 (by simp)
                    ·
                      have q11 := Nrm.nrm h11
                      refine Ch.yes rfl rfl rfl h11 rfl (by decide) (ok_move rfl (vl rfl)) ?_
                      refine Ch.yes rfl rfl rfl h11 rfl (by decide) (ok_move rfl (vl rfl)) ?_
                      refine Ch.yes rfl rfl rfl h11 rfl (by decide) (ok_int rfl (vl rfl) (vl rfl) rfl) ?_
                      refine Ch.op rfl rfl (by decide) (ok_pick_f rfl (vl rfl) h11 (vl rfl)) ?_
                      refine Ch.nil ?_
                      refine Fin.go ?_
                      refine Tr.weak [(2, _), (3, _), (4, _), (13, _), (14, _), (17, _), (21, _), (107, _), (108, _), (109, _), (134, _), (135, _), (136, _), (166, _)] ⟨⟨_, rfl, Pr.le_refl _⟩, ⟨_, rfl, Pr.le_refl _⟩, ⟨_, rfl, Pr.le_refl _⟩, ⟨_, rfl, Pr.le_refl _⟩, ⟨_, rfl, Pr.le_refl _⟩, ⟨_, rfl, Pr.le_refl _⟩, ⟨_, rfl, Pr.le_refl _⟩, ⟨_, rfl, Pr.le_refl _⟩, ⟨_, rfl, Pr.le_refl _⟩, ⟨_, rfl, Pr.le_refl _⟩, ⟨_, rfl, Pr.le_refl _⟩, ⟨_, rfl, Pr.le_refl _⟩, ⟨_, rfl, Pr.le_refl _⟩, ⟨_, rfl, Pr.le_refl _⟩, trivial⟩ ?_
                      refine Tr.cond rfl (fun h12 => ?_) (fun h12 => ?_)
                      ·
                        have q12 := Nrm.nrm h12
                        exact absurd rfl q12
                      ·
                        have q12 := Nrm.nrm h12
                        refine Tr.skip ?_
                        refine Fin.go ?_
                        refine Tr.weak [(2, _), (3, _), (4, _), (13, _), (14, _), (17, _), (21, _), (107, _), (108, _), (109, _), (134, _), (135, _), (136, _)] ⟨⟨_, rfl, Pr.le_refl _⟩, ⟨_, rfl, Pr.le_refl _⟩, ⟨_, rfl, Pr.le_refl _⟩, ⟨_, rfl, Pr.le_refl _⟩, ⟨_, rfl, Pr.le_refl _⟩, ⟨_, rfl, Pr.le_refl _⟩, ⟨_, rfl, Pr.le_refl _⟩, ⟨_, rfl, Pr.le_refl _⟩, ⟨_, rfl, Pr.le_refl _⟩, ⟨_, rfl, Pr.le_refl _⟩, ⟨_, rfl, Pr.le_refl _⟩, ⟨_, rfl, Pr.le_refl _⟩, ⟨_, rfl, Pr.le_refl _⟩, trivial⟩ ?_
                        refine Tr.seq ?_
                        refine Tr.reg0 ?_
                        refine Ch.op rfl rfl (by decide) (ok_move rfl (vl rfl)) ?_
                        refine Ch.op rfl rfl (by decide) (ok_buildSlice (xs := [.const (.int .i64 (0)), .const (.int .i64 (1)), .tmp 167]) (rows := [[_], [_], [_]]) rfl rfl Try.underlying22 sz3 z3 rfl (by decide) ⟨⟨(by exact rfl), (VL.le (vl rfl) (one_cellsP _))⟩, ⟨⟨(by exact rfl), (VL.le (vl rfl) (one_cellsP _))⟩, ⟨⟨(by exact rfl), (VL.le (vl rfl) (one_cellsP _))⟩, trivial⟩⟩⟩ (by decide)) ?_
                        first
                          | refine Ch.op rfl rfl (by decide) (ok_lenm rfl Try.underlying22 ⟨_, rfl, full_le _ _⟩) ?_
                          | refine Ch.op rfl rfl (by decide) (ok_len rfl Try.underlying22 ⟨_, rfl, full_le _ _⟩) ?_
                        refine Ch.op rfl rfl (by decide) (ok_move rfl (vl rfl)) ?_
                        refine Ch.nil ?_
                        refine Fin.go ?_
                        refine Tr.weak [(2, _), (3, _), (4, _), (13, _), (14, _), (17, _), (21, _), (107, _), (108, _), (109, _), (134, _), (135, _), (136, _), (168, _), (169, _), (170, _)] ⟨⟨_, rfl, Pr.le_refl _⟩, ⟨_, rfl, Pr.le_refl _⟩, ⟨_, rfl, Pr.le_refl _⟩, ⟨_, rfl, Pr.le_refl _⟩, ⟨_, rfl, Pr.le_refl _⟩, ⟨_, rfl, Pr.le_refl _⟩, ⟨_, rfl, Pr.le_refl _⟩, ⟨_, rfl, Pr.le_refl _⟩, ⟨_, rfl, Pr.le_refl _⟩, ⟨_, rfl, Pr.le_refl _⟩, ⟨_, rfl, Pr.le_refl _⟩, ⟨_, rfl, Pr.le_refl _⟩, ⟨_, rfl, Pr.le_refl _⟩, ⟨_, rfl, Pr.le_refl _⟩, ⟨_, rfl, Pr.le_refl _⟩, ⟨_, rfl, Pr.le_refl _⟩, trivial⟩ ?_
                        refine Tr.block ?_
                        refine Tr.re 168 rfl (Pr.le_trans (full_le _ _) (Pr.le_of_eq (show _ = slice 1 (([0, 1, dy] : List Int).map (fun n => [int n])) from rfl))) ?_
                        refine Tr.re 169 rfl (int_eq (b := ((([0, 1, dy] : List Int).length : Nat) : Int)) rfl) ?_
                        refine Tr.loopw [(2, _), (3, _), (4, _), (13, _), (14, _), (17, _), (21, _), (107, _), (108, _), (109, _), (134, _), (135, _), (136, _), (168, _), (169, _)] ⟨⟨_, rfl, Pr.le_refl _⟩, ⟨_, rfl, Pr.le_refl _⟩, ⟨_, rfl, Pr.le_refl _⟩, ⟨_, rfl, Pr.le_refl _⟩, ⟨_, rfl, Pr.le_refl _⟩, ⟨_, rfl, Pr.le_refl _⟩, ⟨_, rfl, Pr.le_refl _⟩, ⟨_, rfl, Pr.le_refl _⟩, ⟨_, rfl, Pr.le_refl _⟩, ⟨_, rfl, Pr.le_refl _⟩, ⟨_, rfl, Pr.le_refl _⟩, ⟨_, rfl, Pr.le_refl _⟩, ⟨_, rfl, Pr.le_refl _⟩, ⟨_, rfl, Pr.le_refl _⟩, ⟨_, rfl, Pr.le_refl _⟩, trivial⟩ (fun j3 : Nat => [(170, int ((j3 : Nat) : Int))]) (fun j3 : Nat => j3 ≤ (([0, 1, dy] : List Int)).length) (fun j3 : Nat => (([0, 1, dy] : List Int)).length - j3) 0 (Nat.zero_le _) ⟨⟨_, rfl, Pr.le_refl _⟩, trivial⟩ ?_
                        rintro j3 hle_j3
                        refine Tr.seq ?_
                        refine Tr.reg0 ?_
                        refine Ch.op rfl rfl (by decide) (ok_int rfl (vl rfl) (vl rfl) rfl) ?_
                        refine Ch.nil ?_
                        refine Fin.go ?_
                        refine Tr.weak [(2, _), (3, _), (4, _), (13, _), (14, _), (17, _), (21, _), (107, _), (108, _), (109, _), (134, _), (135, _), (136, _), (168, _), (169, _), (170, _), (171, _)] ⟨⟨_, rfl, Pr.le_refl _⟩, ⟨_, rfl, Pr.le_refl _⟩, ⟨_, rfl, Pr.le_refl _⟩, ⟨_, rfl, Pr.le_refl _⟩, ⟨_, rfl, Pr.le_refl _⟩, ⟨_, rfl, Pr.le_refl _⟩, ⟨_, rfl, Pr.le_refl _⟩, ⟨_, rfl, Pr.le_refl _⟩, ⟨_, rfl, Pr.le_refl _⟩, ⟨_, rfl, Pr.le_refl _⟩, ⟨_, rfl, Pr.le_refl _⟩, ⟨_, rfl, Pr.le_refl _⟩, ⟨_, rfl, Pr.le_refl _⟩, ⟨_, rfl, Pr.le_refl _⟩, ⟨_, rfl, Pr.le_refl _⟩, ⟨_, rfl, Pr.le_refl _⟩, ⟨_, rfl, Pr.le_refl _⟩, trivial⟩ ?_
                        refine Tr.seq ?_
                        refine Tr.cond rfl (fun h13 => ?_) (fun h13 => ?_)
                        ·
                          have q13 := Nrm.nrm h13
                          have hk_j3 : j3 < (([0, 1, dy] : List Int)).length := lt_of_dec h13
                          obtain ⟨tm, hx_j3⟩ := at_ hk_j3
                          have hL_j3 : j3 < 3 := hk_j3
                          refine Tr.skip ?_
                          refine Fin.go ?_
                          refine Tr.weak [(2, _), (3, _), (4, _), (13, _), (14, _), (17, _), (21, _), (107, _), (108, _), (109, _), (134, _), (135, _), (136, _), (168, _), (169, _), (170, _)] ⟨⟨_, rfl, Pr.le_refl _⟩, ⟨_, rfl, Pr.le_refl _⟩, ⟨_, rfl, Pr.le_refl _⟩, ⟨_, rfl, Pr.le_refl _⟩, ⟨_, rfl, Pr.le_refl _⟩, ⟨_, rfl, Pr.le_refl _⟩, ⟨_, rfl, Pr.le_refl _⟩, ⟨_, rfl, Pr.le_refl _⟩, ⟨_, rfl, Pr.le_refl _⟩, ⟨_, rfl, Pr.le_refl _⟩, ⟨_, rfl, Pr.le_refl _⟩, ⟨_, rfl, Pr.le_refl _⟩, ⟨_, rfl, Pr.le_refl _⟩, ⟨_, rfl, Pr.le_refl _⟩, ⟨_, rfl, Pr.le_refl _⟩, ⟨_, rfl, Pr.le_refl _⟩, trivial⟩ ?_
                          refine Tr.seq ?_
                          refine Tr.block ?_
                          refine Tr.seq ?_
                          refine Tr.reg0 ?_
                          refine Ch.op rfl rfl (by decide) (ok_indexAddr rfl Try.underlying22 sz3 (vl rfl) (vl rfl) (by omega) (row_at (f := fun n => [int n]) hx_j3)) ?_
                          refine Ch.op rfl rfl (by decide) (ok_load1 rfl one3 (vl rfl)) ?_
                          refine Ch.op rfl rfl (by decide) (ok_assign rfl (vl rfl)) ?_
                          refine Ch.nil ?_
                          refine Fin.go ?_
                          refine Tr.weak [(2, _), (3, _), (4, _), (13, _), (14, _), (17, _), (21, _), (29, _), (107, _), (108, _), (109, _), (134, _), (135, _), (136, _), (168, _), (169, _), (170, _)] ⟨⟨_, rfl, Pr.le_refl _⟩, ⟨_, rfl, Pr.le_refl _⟩, ⟨_, rfl, Pr.le_refl _⟩, ⟨_, rfl, Pr.le_refl _⟩, ⟨_, rfl, Pr.le_refl _⟩, ⟨_, rfl, Pr.le_refl _⟩, ⟨_, rfl, Pr.le_refl _⟩, ⟨_, rfl, Pr.le_refl _⟩, ⟨_, rfl, Pr.le_refl _⟩, ⟨_, rfl, Pr.le_refl _⟩, ⟨_, rfl, Pr.le_refl _⟩, ⟨_, rfl, Pr.le_refl _⟩, ⟨_, rfl, Pr.le_refl _⟩, ⟨_, rfl, Pr.le_refl _⟩, ⟨_, rfl, Pr.le_refl _⟩, ⟨_, rfl, Pr.le_refl _⟩, ⟨_, rfl, Pr.le_refl _⟩, trivial⟩ ?_
                          refine Tr.seq ?_
                          refine Tr.reg0 ?_
                          refine Ch.op rfl rfl (by decide) (ok_loadA rfl agg27 sz27 (vl rfl) rfl rfl) ?_
                          refine Ch.op rfl rfl (by decide) (ok_move rfl (vl rfl)) ?_
                          refine Ch.op rfl rfl (by decide) (ok_move rfl (vl rfl)) ?_
                          refine Ch.op rfl rfl (by decide) (ok_call rfl (w_May) ⟨⟨_, rfl, Pr.le_refl _⟩, ⟨_, rfl, Pr.le_refl _⟩, ⟨_, rfl, Pr.le_refl _⟩, trivial⟩) ?_
                          refine Ch.op rfl rfl (by decide) (ok_move rfl (vl rfl)) ?_
                          refine Ch.op rfl rfl (by decide) (ok_extract rfl (vl rfl) rfl) ?_
                          refine Ch.op rfl rfl (by decide) (ok_extract rfl (vl rfl) rfl) ?_
                          refine Ch.op rfl rfl (by decide) (ok_assign rfl (vl rfl)) ?_
                          refine Ch.op rfl rfl (by decide) (ok_assign rfl (vl rfl)) ?_
                          refine Ch.nil ?_
                          refine Fin.go ?_
                          refine Tr.weak [(2, _), (3, _), (4, _), (13, _), (14, _), (17, _), (21, _), (29, _), (30, _), (31, _), (107, _), (108, _), (109, _), (134, _), (135, _), (136, _), (168, _), (169, _), (170, _)] ⟨⟨_, rfl, Pr.le_refl _⟩, ⟨_, rfl, Pr.le_refl _⟩, ⟨_, rfl, Pr.le_refl _⟩, ⟨_, rfl, Pr.le_refl _⟩, ⟨_, rfl, Pr.le_refl _⟩, ⟨_, rfl, Pr.le_refl _⟩, ⟨_, rfl, Pr.le_refl _⟩, ⟨_, rfl, Pr.le_refl _⟩, ⟨_, rfl, Pr.le_refl _⟩, ⟨_, rfl, Pr.le_refl _⟩, ⟨_, rfl, Pr.le_refl _⟩, ⟨_, rfl, Pr.le_refl _⟩, ⟨_, rfl, Pr.le_refl _⟩, ⟨_, rfl, Pr.le_refl _⟩, ⟨_, rfl, Pr.le_refl _⟩, ⟨_, rfl, Pr.le_refl _⟩, ⟨_, rfl, Pr.le_refl _⟩, ⟨_, rfl, Pr.le_refl _⟩, ⟨_, rfl, Pr.le_refl _⟩, trivial⟩ ?_
                          refine Tr.seq ?_
                          refine Tr.reg0 ?_
                          refine Ch.op rfl rfl (by decide) (ok_loadA rfl agg27 sz27 (vl rfl) rfl rfl) ?_
                          refine Ch.op rfl rfl (by decide) (ok_move rfl (vl rfl)) ?_
                          refine Ch.op rfl rfl (by decide) (ok_move rfl (vl rfl)) ?_
                          refine Ch.op rfl rfl (by decide) (ok_call rfl (w_RMay) ⟨⟨_, rfl, Pr.le_refl _⟩, ⟨_, rfl, Pr.le_refl _⟩, ⟨_, rfl, Pr.le_refl _⟩, trivial⟩) ?_
                          refine Ch.op rfl rfl (by decide) (ok_move rfl (vl rfl)) ?_
                          refine Ch.op rfl rfl (by decide) (ok_extract rfl (vl rfl) rfl) ?_
                          refine Ch.op rfl rfl (by decide) (ok_extract rfl (vl rfl) rfl) ?_
                          refine Ch.op rfl rfl (by decide) (ok_assign rfl (vl rfl)) ?_
                          refine Ch.op rfl rfl (by decide) (ok_assign rfl (vl rfl)) ?_
                          refine Ch.nil ?_
                          refine Fin.go ?_
                          refine Tr.weak [(2, _), (3, _), (4, _), (13, _), (14, _), (17, _), (21, _), (29, _), (30, _), (31, _), (32, _), (33, _), (107, _), (108, _), (109, _), (134, _), (135, _), (136, _), (168, _), (169, _), (170, _)] ⟨⟨_, rfl, Pr.le_refl _⟩, ⟨_, rfl, Pr.le_refl _⟩, ⟨_, rfl, Pr.le_refl _⟩, ⟨_, rfl, Pr.le_refl _⟩, ⟨_, rfl, Pr.le_refl _⟩, ⟨_, rfl, Pr.le_refl _⟩, ⟨_, rfl, Pr.le_refl _⟩, ⟨_, rfl, Pr.le_refl _⟩, ⟨_, rfl, Pr.le_refl _⟩, ⟨_, rfl, Pr.le_refl _⟩, ⟨_, rfl, Pr.le_refl _⟩, ⟨_, rfl, Pr.le_refl _⟩, ⟨_, rfl, Pr.le_refl _⟩, ⟨_, rfl, Pr.le_refl _⟩, ⟨_, rfl, Pr.le_refl _⟩, ⟨_, rfl, Pr.le_refl _⟩, ⟨_, rfl, Pr.le_refl _⟩, ⟨_, rfl, Pr.le_refl _⟩, ⟨_, rfl, Pr.le_refl _⟩, ⟨_, rfl, Pr.le_refl _⟩, ⟨_, rfl, Pr.le_refl _⟩, trivial⟩ ?_
                          refine Tr.seq ?_
                          refine Tr.reg0 ?_
                          refine Ch.op rfl rfl (by decide) (ok_loadA rfl agg27 sz27 (vl rfl) rfl rfl) ?_
                          refine Ch.op rfl rfl (by decide) (ok_move rfl (vl rfl)) ?_
                          refine Ch.op rfl rfl (by decide) (ok_move rfl (vl rfl)) ?_
                          refine Ch.op rfl rfl (by decide) (ok_call rfl (w_Next) ⟨⟨_, rfl, Pr.le_refl _⟩, ⟨_, rfl, Pr.le_refl _⟩, ⟨_, rfl, Pr.le_refl _⟩, trivial⟩) ?_
                          refine Ch.op rfl rfl (by decide) (ok_move rfl (vl rfl)) ?_
                          refine Ch.op rfl rfl (by decide) (ok_extract rfl (vl rfl) rfl) ?_
                          refine Ch.op rfl rfl (by decide) (ok_extract rfl (vl rfl) rfl) ?_
                          refine Ch.op rfl rfl (by decide) (ok_extract rfl (vl rfl) rfl) ?_
                          refine Ch.op rfl rfl (by decide) (ok_assign rfl (vl rfl)) ?_
                          refine Ch.op rfl rfl (by decide) (ok_assign rfl (vl rfl)) ?_
                          refine Ch.op rfl rfl (by decide) (ok_assign rfl (vl rfl)) ?_
                          refine Ch.nil ?_
                          refine Fin.go ?_
                          refine Tr.weak [(2, _), (3, _), (4, _), (13, _), (14, _), (17, _), (21, _), (29, _), (30, _), (31, _), (32, _), (33, _), (34, _), (35, _), (36, _), (107, _), (108, _), (109, _), (134, _), (135, _), (136, _), (168, _), (169, _), (170, _)] ⟨⟨_, rfl, Pr.le_refl _⟩, ⟨_, rfl, Pr.le_refl _⟩, ⟨_, rfl, Pr.le_refl _⟩, ⟨_, rfl, Pr.le_refl _⟩, ⟨_, rfl, Pr.le_refl _⟩, ⟨_, rfl, Pr.le_refl _⟩, ⟨_, rfl, Pr.le_refl _⟩, ⟨_, rfl, Pr.le_refl _⟩, ⟨_, rfl, Pr.le_refl _⟩, ⟨_, rfl, Pr.le_refl _⟩, ⟨_, rfl, Pr.le_refl _⟩, ⟨_, rfl, Pr.le_refl _⟩, ⟨_, rfl, Pr.le_refl _⟩, ⟨_, rfl, Pr.le_refl _⟩, ⟨_, rfl, Pr.le_refl _⟩, ⟨_, rfl, Pr.le_refl _⟩, ⟨_, rfl, Pr.le_refl _⟩, ⟨_, rfl, Pr.le_refl _⟩, ⟨_, rfl, Pr.le_refl _⟩, ⟨_, rfl, Pr.le_refl _⟩, ⟨_, rfl, Pr.le_refl _⟩, ⟨_, rfl, Pr.le_refl _⟩, ⟨_, rfl, Pr.le_refl _⟩, ⟨_, rfl, Pr.le_refl _⟩, trivial⟩ ?_
                          refine Tr.seq ?_
                          refine Tr.reg0 ?_
                          refine Ch.op rfl rfl (by decide) (ok_loadA rfl agg27 sz27 (vl rfl) rfl rfl) ?_
                          refine Ch.op rfl rfl (by decide) (ok_move rfl (vl rfl)) ?_
                          refine Ch.op rfl rfl (by decide) (ok_move rfl (vl rfl)) ?_
                          refine Ch.op rfl rfl (by decide) (ok_call rfl (w_RNext) ⟨⟨_, rfl, Pr.le_refl _⟩, ⟨_, rfl, Pr.le_refl _⟩, ⟨_, rfl, Pr.le_refl _⟩, trivial⟩) ?_
                          refine Ch.op rfl rfl (by decide) (ok_move rfl (vl rfl)) ?_
                          refine Ch.op rfl rfl (by decide) (ok_extract rfl (vl rfl) rfl) ?_
                          refine Ch.op rfl rfl (by decide) (ok_extract rfl (vl rfl) rfl) ?_
                          refine Ch.op rfl rfl (by decide) (ok_extract rfl (vl rfl) rfl) ?_
                          refine Ch.op rfl rfl (by decide) (ok_assign rfl (vl rfl)) ?_
                          refine Ch.op rfl rfl (by decide) (ok_assign rfl (vl rfl)) ?_
                          refine Ch.op rfl rfl (by decide) (ok_assign rfl (vl rfl)) ?_
                          refine Ch.nil ?_
                          refine Fin.go ?_
                          refine Tr.weak [(2, _), (3, _), (4, _), (13, _), (14, _), (17, _), (21, _), (29, _), (30, _), (31, _), (32, _), (33, _), (34, _), (35, _), (36, _), (37, _), (38, _), (39, _), (107, _), (108, _), (109, _), (134, _), (135, _), (136, _), (168, _), (169, _), (170, _)] ⟨⟨_, rfl, Pr.le_refl _⟩, ⟨_, rfl, Pr.le_refl _⟩, ⟨_, rfl, Pr.le_refl _⟩, ⟨_, rfl, Pr.le_refl _⟩, ⟨_, rfl, Pr.le_refl _⟩, ⟨_, rfl, Pr.le_refl _⟩, ⟨_, rfl, Pr.le_refl _⟩, ⟨_, rfl, Pr.le_refl _⟩, ⟨_, rfl, Pr.le_refl _⟩, ⟨_, rfl, Pr.le_refl _⟩, ⟨_, rfl, Pr.le_refl _⟩, ⟨_, rfl, Pr.le_refl _⟩, ⟨_, rfl, Pr.le_refl _⟩, ⟨_, rfl, Pr.le_refl _⟩, ⟨_, rfl, Pr.le_refl _⟩, ⟨_, rfl, Pr.le_refl _⟩, ⟨_, rfl, Pr.le_refl _⟩, ⟨_, rfl, Pr.le_refl _⟩, ⟨_, rfl, Pr.le_refl _⟩, ⟨_, rfl, Pr.le_refl _⟩, ⟨_, rfl, Pr.le_refl _⟩, ⟨_, rfl, Pr.le_refl _⟩, ⟨_, rfl, Pr.le_refl _⟩, ⟨_, rfl, Pr.le_refl _⟩, ⟨_, rfl, Pr.le_refl _⟩, ⟨_, rfl, Pr.le_refl _⟩, ⟨_, rfl, Pr.le_refl _⟩, trivial⟩ ?_
                          refine Tr.seq ?_
                          refine Tr.seq ?_
                          refine Tr.reg0 ?_
                          refine Ch.op rfl rfl (by decide) (ok_move rfl (vl rfl)) ?_
                          refine Ch.op rfl rfl (by decide) (ok_move rfl (vl rfl)) ?_
                          refine Ch.op rfl rfl (by decide) (ok_neb rfl Try.underlying4 (vl rfl) (vl rfl)) ?_
                          refine Ch.op rfl rfl (by decide) (ok_move rfl (vl rfl)) ?_
                          refine Ch.cases 207 rfl (fun h14 => ?_) (fun h14 => ?_)
                          ·
                            have q14 := Nrm.nrm h14
                            first | exact absurd rfl q14 | exact absurd q14 (by simp)
                          ·
                            have q14 := Nrm.nrm h14
                            refine Ch.yes rfl rfl rfl h14 rfl (by decide) (ok_move rfl (vl rfl)) ?_
                            refine Ch.yes rfl rfl rfl h14 rfl (by decide) (ok_move rfl (vl rfl)) ?_
                            refine Ch.yes rfl rfl rfl h14 rfl (by decide) (ok_int rfl (vl rfl) (vl rfl) rfl) ?_
                            refine Ch.op rfl rfl (by decide) (ok_pick_f rfl (vl rfl) h14 (vl rfl)) ?_
                            refine Ch.op rfl rfl (by decide) (ok_move rfl (vl rfl)) ?_
                            refine Ch.cases 212 rfl (fun h15 => ?_) (fun h15 => ?_)
                            ·
                              have q15 := Nrm.nrm h15
                              first | exact absurd rfl q15 | exact absurd q15 (by simp)
                            ·
                              have q15 := Nrm.nrm h15
                              refine Ch.yes rfl rfl rfl h15 rfl (by decide) (ok_move rfl (vl rfl)) ?_
                              refine Ch.yes rfl rfl rfl h15 rfl (by decide) (ok_move rfl (vl rfl)) ?_
                              refine Ch.yes rfl rfl rfl h15 rfl (by decide) (ok_int rfl (vl rfl) (vl rfl) rfl) ?_
                              refine Ch.op rfl rfl (by decide) (ok_pick_f rfl (vl rfl) h15 (vl rfl)) ?_
                              refine Ch.op rfl rfl (by decide) (ok_move rfl (vl rfl)) ?_
                              refine Ch.cases 217 rfl (fun h16 => ?_) (fun h16 => ?_)
                              ·
                                have q16 := Nrm.nrm h16
                                first | exact absurd rfl q16 | exact absurd q16 (by simp)
                              ·
                                have q16 := Nrm.nrm h16
                                refine Ch.yes rfl rfl rfl h16 rfl (by decide) (ok_move rfl (vl rfl)) ?_
                                refine Ch.yes rfl rfl rfl h16 rfl (by decide) (ok_move rfl (vl rfl)) ?_
                                refine Ch.yes rfl rfl rfl h16 rfl (by decide) (ok_neb rfl Try.underlying4 (vl rfl) (vl rfl)) ?_
                                refine Ch.op rfl rfl (by decide) (ok_pick_f rfl (vl rfl) h16 (vl rfl)) ?_
                                refine Ch.op rfl rfl (by decide) (ok_move rfl (vl rfl)) ?_
                                refine Ch.cases 222 rfl (fun h17 => ?_) (fun h17 => ?_)
                                ·
                                  have q17 := Nrm.nrm h17
                                  first | exact absurd rfl q17 | exact absurd q17 (by simp)
                                ·
                                  have q17 := Nrm.nrm h17
                                  refine Ch.yes rfl rfl rfl h17 rfl (by decide) (ok_move rfl (vl rfl)) ?_
                                  refine Ch.yes rfl rfl rfl h17 rfl (by decide) (ok_move rfl (vl rfl)) ?_
                                  refine Ch.yes rfl rfl rfl h17 rfl (by decide) (ok_int rfl (vl rfl) (vl rfl) rfl) ?_
                                  refine Ch.op rfl rfl (by decide) (ok_pick_f rfl (vl rfl) h17 (vl rfl)) ?_
                                  refine Ch.nil ?_
                                  refine Fin.go ?_
                                  refine Tr.weak [(2, _), (3, _), (4, _), (13, _), (14, _), (17, _), (21, _), (29, _), (107, _), (108, _), (109, _), (134, _), (135, _), (136, _), (168, _), (169, _), (170, _), (226, _)] ⟨⟨_, rfl, Pr.le_refl _⟩, ⟨_, rfl, Pr.le_refl _⟩, ⟨_, rfl, Pr.le_refl _⟩, ⟨_, rfl, Pr.le_refl _⟩, ⟨_, rfl, Pr.le_refl _⟩, ⟨_, rfl, Pr.le_refl _⟩, ⟨_, rfl, Pr.le_refl _⟩, ⟨_, rfl, Pr.le_refl _⟩, ⟨_, rfl, Pr.le_refl _⟩, ⟨_, rfl, Pr.le_refl _⟩, ⟨_, rfl, Pr.le_refl _⟩, ⟨_, rfl, Pr.le_refl _⟩, ⟨_, rfl, Pr.le_refl _⟩, ⟨_, rfl, Pr.le_refl _⟩, ⟨_, rfl, Pr.le_refl _⟩, ⟨_, rfl, Pr.le_refl _⟩, ⟨_, rfl, Pr.le_refl _⟩, ⟨_, rfl, Pr.le_refl _⟩, trivial⟩ ?_
                                  refine Tr.cond rfl (fun h18 => ?_) (fun h18 => ?_)
                                  ·
                                    have q18 := Nrm.nrm h18
                                    exact absurd rfl q18
                                  ·
                                    have q18 := Nrm.nrm h18
                                    refine Tr.skip ?_
                                    refine Fin.go ?_
                                    refine Tr.weak [(2, _), (3, _), (4, _), (13, _), (14, _), (17, _), (21, _), (29, _), (107, _), (108, _), (109, _), (134, _), (135, _), (136, _), (168, _), (169, _), (170, _)] ⟨⟨_, rfl, Pr.le_refl _⟩, ⟨_, rfl, Pr.le_refl _⟩, ⟨_, rfl, Pr.le_refl _⟩, ⟨_, rfl, Pr.le_refl _⟩, ⟨_, rfl, Pr.le_refl _⟩, ⟨_, rfl, Pr.le_refl _⟩, ⟨_, rfl, Pr.le_refl _⟩, ⟨_, rfl, Pr.le_refl _⟩, ⟨_, rfl, Pr.le_refl _⟩, ⟨_, rfl, Pr.le_refl _⟩, ⟨_, rfl, Pr.le_refl _⟩, ⟨_, rfl, Pr.le_refl _⟩, ⟨_, rfl, Pr.le_refl _⟩, ⟨_, rfl, Pr.le_refl _⟩, ⟨_, rfl, Pr.le_refl _⟩, ⟨_, rfl, Pr.le_refl _⟩, ⟨_, rfl, Pr.le_refl _⟩, trivial⟩ ?_
                                    refine Tr.seq ?_
                                    refine Tr.reg0 ?_
                                    refine Ch.op rfl rfl (by decide) (ok_move rfl (vl rfl)) ?_
                                    refine Ch.op rfl rfl (by decide) (ok_move rfl (vl rfl)) ?_
                                    refine Ch.op rfl rfl (by decide) (ok_build (rows := [(0, [_]), (1, [_])]) rfl bl56 zo56 ⟨⟨rfl, ⟨_, rfl, Pr.le_trans (andIs_le _ _) (one_cellsP _)⟩⟩, ⟨⟨rfl, ⟨_, rfl, Pr.le_trans (andIs_le _ _) (one_cellsP _)⟩⟩, trivial⟩⟩ rfl) ?_
                                    refine Ch.op rfl rfl (by decide) (ok_move rfl (vl rfl)) ?_
                                    refine Ch.op rfl rfl (by decide) (ok_move rfl (vl rfl)) ?_
                                    refine Ch.op rfl rfl (by decide) (ok_build (rows := [(0, [_]), (1, [_])]) rfl bl56 zo56 ⟨⟨rfl, (VL.le (vl rfl) (one_cellsP _))⟩, ⟨⟨rfl, (VL.le (vl rfl) (one_cellsP _))⟩, trivial⟩⟩ rfl) ?_
                                    refine Ch.op rfl rfl (by decide) (ok_build (rows := [(0, [_]), (1, [_])]) rfl bl56 zo56 ⟨⟨rfl, ⟨_, rfl, Pr.le_trans (nil_slice 1) (one_cellsP _)⟩⟩, ⟨⟨rfl, ⟨_, rfl, Pr.le_trans (nil_slice 1) (one_cellsP _)⟩⟩, trivial⟩⟩ rfl) ?_
                                    refine Ch.op rfl rfl (by decide) (ok_buildSlice (xs := [.tmp 229, .tmp 232, .tmp 233]) (rows := [_, _, _]) rfl rfl Try.underlying57 sz56 z56 rfl (by decide) ⟨⟨(by exact rfl), (VL.le (vl rfl) (agg_cellsP _))⟩, ⟨⟨(by exact rfl), (VL.le (vl rfl) (agg_cellsP _))⟩, ⟨⟨(by exact rfl), (VL.le (vl rfl) (agg_cellsP _))⟩, trivial⟩⟩⟩ (by decide)) ?_
                                    first
                                      | refine Ch.op rfl rfl (by decide) (ok_lenm rfl Try.underlying57 ⟨_, rfl, full_le _ _⟩) ?_
                                      | refine Ch.op rfl rfl (by decide) (ok_len rfl Try.underlying57 ⟨_, rfl, full_le _ _⟩) ?_
                                    refine Ch.op rfl rfl (by decide) (ok_move rfl (vl rfl)) ?_
                                    refine Ch.nil ?_
                                    refine Fin.go ?_
                                    refine Tr.weak [(2, _), (3, _), (4, _), (13, _), (14, _), (17, _), (21, _), (29, _), (107, _), (108, _), (109, _), (134, _), (135, _), (136, _), (168, _), (169, _), (170, _), (234, _), (235, _), (236, _)] ⟨⟨_, rfl, Pr.le_refl _⟩, ⟨_, rfl, Pr.le_refl _⟩, ⟨_, rfl, Pr.le_refl _⟩, ⟨_, rfl, Pr.le_refl _⟩, ⟨_, rfl, Pr.le_refl _⟩, ⟨_, rfl, Pr.le_refl _⟩, ⟨_, rfl, Pr.le_refl _⟩, ⟨_, rfl, Pr.le_refl _⟩, ⟨_, rfl, Pr.le_refl _⟩, ⟨_, rfl, Pr.le_refl _⟩, ⟨_, rfl, Pr.le_refl _⟩, ⟨_, rfl, Pr.le_refl _⟩, ⟨_, rfl, Pr.le_refl _⟩, ⟨_, rfl, Pr.le_refl _⟩, ⟨_, rfl, Pr.le_refl _⟩, ⟨_, rfl, Pr.le_refl _⟩, ⟨_, rfl, Pr.le_refl _⟩, ⟨_, rfl, Pr.le_refl _⟩, ⟨_, rfl, Pr.le_refl _⟩, ⟨_, rfl, Pr.le_refl _⟩, trivial⟩ ?_
                                    refine Tr.block ?_
                                    refine Tr.re 234 rfl (Pr.le_trans (full_le _ _) (Pr.le_of_eq (show _ = slice 2 (([(ta, tb), (teams, days), ([], [])] : List (List Int × List Int)).map (fun y : List Int × List Int => [ints y.1, ints y.2])) from rfl))) ?_
                                    refine Tr.re 235 rfl (int_eq (b := ((([(ta, tb), (teams, days), ([], [])] : List (List Int × List Int)).length : Nat) : Int)) rfl) ?_
                                    refine Tr.loopw [(2, _), (3, _), (4, _), (13, _), (14, _), (17, _), (21, _), (29, _), (107, _), (108, _), (109, _), (134, _), (135, _), (136, _), (168, _), (169, _), (170, _), (234, _), (235, _)] ⟨⟨_, rfl, Pr.le_refl _⟩, ⟨_, rfl, Pr.le_refl _⟩, ⟨_, rfl, Pr.le_refl _⟩, ⟨_, rfl, Pr.le_refl _⟩, ⟨_, rfl, Pr.le_refl _⟩, ⟨_, rfl, Pr.le_refl _⟩, ⟨_, rfl, Pr.le_refl _⟩, ⟨_, rfl, Pr.le_refl _⟩, ⟨_, rfl, Pr.le_refl _⟩, ⟨_, rfl, Pr.le_refl _⟩, ⟨_, rfl, Pr.le_refl _⟩, ⟨_, rfl, Pr.le_refl _⟩, ⟨_, rfl, Pr.le_refl _⟩, ⟨_, rfl, Pr.le_refl _⟩, ⟨_, rfl, Pr.le_refl _⟩, ⟨_, rfl, Pr.le_refl _⟩, ⟨_, rfl, Pr.le_refl _⟩, ⟨_, rfl, Pr.le_refl _⟩, ⟨_, rfl, Pr.le_refl _⟩, trivial⟩ (fun j4 : Nat => [(236, int ((j4 : Nat) : Int))]) (fun j4 : Nat => j4 ≤ (([(ta, tb), (teams, days), ([], [])] : List (List Int × List Int))).length) (fun j4 : Nat => (([(ta, tb), (teams, days), ([], [])] : List (List Int × List Int))).length - j4) 0 (Nat.zero_le _) ⟨⟨_, rfl, Pr.le_refl _⟩, trivial⟩ ?_
                                    rintro j4 hle_j4
                                    refine Tr.seq ?_
                                    refine Tr.reg0 ?_
                                    refine Ch.op rfl rfl (by decide) (ok_int rfl (vl rfl) (vl rfl) rfl) ?_
                                    refine Ch.nil ?_
                                    refine Fin.go ?_
                                    refine Tr.weak [(2, _), (3, _), (4, _), (13, _), (14, _), (17, _), (21, _), (29, _), (107, _), (108, _), (109, _), (134, _), (135, _), (136, _), (168, _), (169, _), (170, _), (234, _), (235, _), (236, _), (237, _)] ⟨⟨_, rfl, Pr.le_refl _⟩, ⟨_, rfl, Pr.le_refl _⟩, ⟨_, rfl, Pr.le_refl _⟩, ⟨_, rfl, Pr.le_refl _⟩, ⟨_, rfl, Pr.le_refl _⟩, ⟨_, rfl, Pr.le_refl _⟩, ⟨_, rfl, Pr.le_refl _⟩, ⟨_, rfl, Pr.le_refl _⟩, ⟨_, rfl, Pr.le_refl _⟩, ⟨_, rfl, Pr.le_refl _⟩, ⟨_, rfl, Pr.le_refl _⟩, ⟨_, rfl, Pr.le_refl _⟩, ⟨_, rfl, Pr.le_refl _⟩, ⟨_, rfl, Pr.le_refl _⟩, ⟨_, rfl, Pr.le_refl _⟩, ⟨_, rfl, Pr.le_refl _⟩, ⟨_, rfl, Pr.le_refl _⟩, ⟨_, rfl, Pr.le_refl _⟩, ⟨_, rfl, Pr.le_refl _⟩, ⟨_, rfl, Pr.le_refl _⟩, ⟨_, rfl, Pr.le_refl _⟩, trivial⟩ ?_
                                    refine Tr.seq ?_
                                    refine Tr.cond rfl (fun h19 => ?_) (fun h19 => ?_)
                                    ·
                                      have q19 := Nrm.nrm h19
                                      have hk_j4 : j4 < (([(ta, tb), (teams, days), ([], [])] : List (List Int × List Int))).length := lt_of_dec h19
                                      obtain ⟨y, hx_j4⟩ := at_ hk_j4
                                      have hL_j4 : j4 < 3 := hk_j4
                                      refine Tr.skip ?_
                                      refine Fin.go ?_
                                      refine Tr.weak [(2, _), (3, _), (4, _), (13, _), (14, _), (17, _), (21, _), (29, _), (107, _), (108, _), (109, _), (134, _), (135, _), (136, _), (168, _), (169, _), (170, _), (234, _), (235, _), (236, _)] ⟨⟨_, rfl, Pr.le_refl _⟩, ⟨_, rfl, Pr.le_refl _⟩, ⟨_, rfl, Pr.le_refl _⟩, ⟨_, rfl, Pr.le_refl _⟩, ⟨_, rfl, Pr.le_refl _⟩, ⟨_, rfl, Pr.le_refl _⟩, ⟨_, rfl, Pr.le_refl _⟩, ⟨_, rfl, Pr.le_refl _⟩, ⟨_, rfl, Pr.le_refl _⟩, ⟨_, rfl, Pr.le_refl _⟩, ⟨_, rfl, Pr.le_refl _⟩, ⟨_, rfl, Pr.le_refl _⟩, ⟨_, rfl, Pr.le_refl _⟩, ⟨_, rfl, Pr.le_refl _⟩, ⟨_, rfl, Pr.le_refl _⟩, ⟨_, rfl, Pr.le_refl _⟩, ⟨_, rfl, Pr.le_refl _⟩, ⟨_, rfl, Pr.le_refl _⟩, ⟨_, rfl, Pr.le_refl _⟩, ⟨_, rfl, Pr.le_refl _⟩, trivial⟩ ?_
                                      refine Tr.seq ?_
                                      refine Tr.block ?_
                                      refine Tr.seq ?_
                                      refine Tr.regT ?_
                                      refine TO.op rfl rfl (by decide) (ok_indexAddr rfl Try.underlying57 sz56 (vl rfl) (vl rfl) (by omega) (row_at (f := (fun y : List Int × List Int => [ints y.1, ints y.2])) hx_j4)) ?_
                                      refine TO.op rfl rfl (by decide) (ok_loadA rfl agg56 sz56 (vl rfl) rfl rfl) ?_
                                      refine TO.alloc rfl rfl (by decide) rfl z56 zo56 (fun b4 => ?_)
                                      refine TO.store_all 0 rfl rfl rfl (vl rfl) (VL.le (vl rfl) (agg_cellsP _)) rfl sz56 rfl rfl ?_
                                      refine TO.freeze 0 41 rfl rfl ?_
                                      refine TO.nil ?_
                                      refine Fin.go ?_
                                      refine Tr.weak [(2, _), (3, _), (4, _), (13, _), (14, _), (17, _), (21, _), (29, _), (41, _), (107, _), (108, _), (109, _), (134, _), (135, _), (136, _), (168, _), (169, _), (170, _), (234, _), (235, _), (236, _)] ⟨⟨_, rfl, Pr.le_refl _⟩, ⟨_, rfl, Pr.le_refl _⟩, ⟨_, rfl, Pr.le_refl _⟩, ⟨_, rfl, Pr.le_refl _⟩, ⟨_, rfl, Pr.le_refl _⟩, ⟨_, rfl, Pr.le_refl _⟩, ⟨_, rfl, Pr.le_refl _⟩, ⟨_, rfl, Pr.le_refl _⟩, ⟨_, rfl, Pr.le_refl _⟩, ⟨_, rfl, Pr.le_refl _⟩, ⟨_, rfl, Pr.le_refl _⟩, ⟨_, rfl, Pr.le_refl _⟩, ⟨_, rfl, Pr.le_refl _⟩, ⟨_, rfl, Pr.le_refl _⟩, ⟨_, rfl, Pr.le_refl _⟩, ⟨_, rfl, Pr.le_refl _⟩, ⟨_, rfl, Pr.le_refl _⟩, ⟨_, rfl, Pr.le_refl _⟩, ⟨_, rfl, Pr.le_refl _⟩, ⟨_, rfl, Pr.le_refl _⟩, ⟨_, rfl, Pr.le_refl _⟩, trivial⟩ ?_
                                      refine Tr.seq ?_
                                      refine Tr.reg0 ?_
                                      refine Ch.op rfl rfl (by decide) (ok_loadA rfl agg27 sz27 (vl rfl) rfl rfl) ?_
                                      refine Ch.op rfl rfl (by decide) (ok_indexArr rfl Try.underlying56 sz22 (vl rfl) (vl rfl) (by omega) (by omega) rfl) ?_
                                      refine Ch.op rfl rfl (by decide) (ok_load_hd rfl one22 (vl rfl) rfl) ?_
                                      refine Ch.op rfl rfl (by decide) (ok_indexArr rfl Try.underlying56 sz22 (vl rfl) (vl rfl) (by omega) (by omega) rfl) ?_
                                      refine Ch.op rfl rfl (by decide) (ok_load_hd rfl one22 (vl rfl) rfl) ?_
                                      refine Ch.op rfl rfl (by decide) (ok_move rfl (vl rfl)) ?_
                                      refine Ch.op rfl rfl (by decide) (ok_move rfl (vl rfl)) ?_
                                      refine Ch.op rfl rfl (by decide) (ok_call rfl (w_Earliest) ⟨⟨_, rfl, Pr.le_refl _⟩, ⟨_, rfl, Pr.le_refl _⟩, ⟨_, rfl, Pr.le_refl _⟩, ⟨_, rfl, Pr.le_refl _⟩, ⟨_, rfl, Pr.le_refl _⟩, trivial⟩) ?_
                                      refine Ch.op rfl rfl (by decide) (ok_move rfl (vl rfl)) ?_
                                      refine Ch.op rfl rfl (by decide) (ok_extract rfl (vl rfl) rfl) ?_
                                      refine Ch.op rfl rfl (by decide) (ok_extract rfl (vl rfl) rfl) ?_
                                      refine Ch.op rfl rfl (by decide) (ok_extract rfl (vl rfl) rfl) ?_
                                      refine Ch.op rfl rfl (by decide) (ok_assign rfl (vl rfl)) ?_
                                      refine Ch.op rfl rfl (by decide) (ok_assign rfl (vl rfl)) ?_
                                      refine Ch.op rfl rfl (by decide) (ok_assign rfl (vl rfl)) ?_
                                      refine Ch.nil ?_
                                      refine Fin.go ?_
                                      refine Tr.weak [(2, _), (3, _), (4, _), (13, _), (14, _), (17, _), (21, _), (29, _), (41, _), (42, _), (43, _), (44, _), (107, _), (108, _), (109, _), (134, _), (135, _), (136, _), (168, _), (169, _), (170, _), (234, _), (235, _), (236, _)] ⟨⟨_, rfl, Pr.le_refl _⟩, ⟨_, rfl, Pr.le_refl _⟩, ⟨_, rfl, Pr.le_refl _⟩, ⟨_, rfl, Pr.le_refl _⟩, ⟨_, rfl, Pr.le_refl _⟩, ⟨_, rfl, Pr.le_refl _⟩, ⟨_, rfl, Pr.le_refl _⟩, ⟨_, rfl, Pr.le_refl _⟩, ⟨_, rfl, Pr.le_refl _⟩, ⟨_, rfl, Pr.le_refl _⟩, ⟨_, rfl, Pr.le_refl _⟩, ⟨_, rfl, Pr.le_refl _⟩, ⟨_, rfl, Pr.le_refl _⟩, ⟨_, rfl, Pr.le_refl _⟩, ⟨_, rfl, Pr.le_refl _⟩, ⟨_, rfl, Pr.le_refl _⟩, ⟨_, rfl, Pr.le_refl _⟩, ⟨_, rfl, Pr.le_refl _⟩, ⟨_, rfl, Pr.le_refl _⟩, ⟨_, rfl, Pr.le_refl _⟩, ⟨_, rfl, Pr.le_refl _⟩, ⟨_, rfl, Pr.le_refl _⟩, ⟨_, rfl, Pr.le_refl _⟩, ⟨_, rfl, Pr.le_refl _⟩, trivial⟩ ?_
                                      refine Tr.seq ?_
                                      refine Tr.reg0 ?_
                                      refine Ch.op rfl rfl (by decide) (ok_loadA rfl agg27 sz27 (vl rfl) rfl rfl) ?_
                                      refine Ch.op rfl rfl (by decide) (ok_indexArr rfl Try.underlying56 sz22 (vl rfl) (vl rfl) (by omega) (by omega) rfl) ?_
                                      refine Ch.op rfl rfl (by decide) (ok_load_hd rfl one22 (vl rfl) rfl) ?_
                                      refine Ch.op rfl rfl (by decide) (ok_indexArr rfl Try.underlying56 sz22 (vl rfl) (vl rfl) (by omega) (by omega) rfl) ?_
                                      refine Ch.op rfl rfl (by decide) (ok_load_hd rfl one22 (vl rfl) rfl) ?_
                                      refine Ch.op rfl rfl (by decide) (ok_move rfl (vl rfl)) ?_
                                      refine Ch.op rfl rfl (by decide) (ok_move rfl (vl rfl)) ?_
                                      refine Ch.op rfl rfl (by decide) (ok_call rfl (w_REarliest) ⟨⟨_, rfl, Pr.le_refl _⟩, ⟨_, rfl, Pr.le_refl _⟩, ⟨_, rfl, Pr.le_refl _⟩, ⟨_, rfl, Pr.le_refl _⟩, ⟨_, rfl, Pr.le_refl _⟩, trivial⟩) ?_
                                      refine Ch.op rfl rfl (by decide) (ok_move rfl (vl rfl)) ?_
                                      refine Ch.op rfl rfl (by decide) (ok_extract rfl (vl rfl) rfl) ?_
                                      refine Ch.op rfl rfl (by decide) (ok_extract rfl (vl rfl) rfl) ?_
                                      refine Ch.op rfl rfl (by decide) (ok_extract rfl (vl rfl) rfl) ?_
                                      refine Ch.op rfl rfl (by decide) (ok_assign rfl (vl rfl)) ?_
                                      refine Ch.op rfl rfl (by decide) (ok_assign rfl (vl rfl)) ?_
                                      refine Ch.op rfl rfl (by decide) (ok_assign rfl (vl rfl)) ?_
                                      refine Ch.nil ?_
                                      refine Fin.go ?_
                                      refine Tr.weak [(2, _), (3, _), (4, _), (13, _), (14, _), (17, _), (21, _), (29, _), (42, _), (43, _), (44, _), (45, _), (46, _), (47, _), (107, _), (108, _), (109, _), (134, _), (135, _), (136, _), (168, _), (169, _), (170, _), (234, _), (235, _), (236, _)] ⟨⟨_, rfl, Pr.le_refl _⟩, ⟨_, rfl, Pr.le_refl _⟩, ⟨_, rfl, Pr.le_refl _⟩, ⟨_, rfl, Pr.le_refl _⟩, ⟨_, rfl, Pr.le_refl _⟩, ⟨_, rfl, Pr.le_refl _⟩, ⟨_, rfl, Pr.le_refl _⟩, ⟨_, rfl, Pr.le_refl _⟩, ⟨_, rfl, Pr.le_refl _⟩, ⟨_, rfl, Pr.le_refl _⟩, ⟨_, rfl, Pr.le_refl _⟩, ⟨_, rfl, Pr.le_refl _⟩, ⟨_, rfl, Pr.le_refl _⟩, ⟨_, rfl, Pr.le_refl _⟩, ⟨_, rfl, Pr.le_refl _⟩, ⟨_, rfl, Pr.le_refl _⟩, ⟨_, rfl, Pr.le_refl _⟩, ⟨_, rfl, Pr.le_refl _⟩, ⟨_, rfl, Pr.le_refl _⟩, ⟨_, rfl, Pr.le_refl _⟩, ⟨_, rfl, Pr.le_refl _⟩, ⟨_, rfl, Pr.le_refl _⟩, ⟨_, rfl, Pr.le_refl _⟩, ⟨_, rfl, Pr.le_refl _⟩, ⟨_, rfl, Pr.le_refl _⟩, ⟨_, rfl, Pr.le_refl _⟩, trivial⟩ ?_
                                      refine Tr.seq ?_
                                      refine Tr.reg0 ?_
                                      refine Ch.op rfl rfl (by decide) (ok_move rfl (vl rfl)) ?_
                                      refine Ch.op rfl rfl (by decide) (ok_move rfl (vl rfl)) ?_
                                      refine Ch.op rfl rfl (by decide) (ok_int rfl (vl rfl) (vl rfl) rfl) ?_
                                      refine Ch.op rfl rfl (by decide) (ok_move rfl (vl rfl)) ?_
                                      refine Ch.cases 267 rfl (fun h20 => ?_) (fun h20 => ?_)
                                      ·
                                        have q20 := Nrm.nrm h20
                                        first | exact absurd rfl q20 | exact absurd q20 (by simp)
                                      ·
                                        have q20 := Nrm.nrm h20
                                        refine Ch.yes rfl rfl rfl h20 rfl (by decide) (ok_move rfl (vl rfl)) ?_
                                        refine Ch.yes rfl rfl rfl h20 rfl (by decide) (ok_move rfl (vl rfl)) ?_
                                        refine Ch.yes rfl rfl rfl h20 rfl (by decide) (ok_neb rfl Try.underlying4 (vl rfl) (vl rfl)) ?_
                                        refine Ch.op rfl rfl (by decide) (ok_pick_f rfl (vl rfl) h20 (vl rfl)) ?_
                                        refine Ch.op rfl rfl (by decide) (ok_move rfl (vl rfl)) ?_
                                        refine Ch.cases 272 rfl (fun h21 => ?_) (fun h21 => ?_)
                                        ·
                                          have q21 := Nrm.nrm h21
                                          first | exact absurd rfl q21 | exact absurd q21 (by simp)
                                        ·
                                          have q21 := Nrm.nrm h21
                                          refine Ch.yes rfl rfl rfl h21 rfl (by decide) (ok_move rfl (vl rfl)) ?_
                                          refine Ch.yes rfl rfl rfl h21 rfl (by decide) (ok_move rfl (vl rfl)) ?_
                                          refine Ch.yes rfl rfl rfl h21 rfl (by decide) (ok_int rfl (vl rfl) (vl rfl) rfl) ?_
                                          refine Ch.op rfl rfl (by decide) (ok_pick_f rfl (vl rfl) h21 (vl rfl)) ?_
                                          refine Ch.nil ?_
                                          refine Fin.go ?_
                                          refine Tr.weak [(2, _), (3, _), (4, _), (13, _), (14, _), (17, _), (21, _), (29, _), (107, _), (108, _), (109, _), (134, _), (135, _), (136, _), (168, _), (169, _), (170, _), (234, _), (235, _), (236, _), (276, _)] ⟨⟨_, rfl, Pr.le_refl _⟩, ⟨_, rfl, Pr.le_refl _⟩, ⟨_, rfl, Pr.le_refl _⟩, ⟨_, rfl, Pr.le_refl _⟩, ⟨_, rfl, Pr.le_refl _⟩, ⟨_, rfl, Pr.le_refl _⟩, ⟨_, rfl, Pr.le_refl _⟩, ⟨_, rfl, Pr.le_refl _⟩, ⟨_, rfl, Pr.le_refl _⟩, ⟨_, rfl, Pr.le_refl _⟩, ⟨_, rfl, Pr.le_refl _⟩, ⟨_, rfl, Pr.le_refl _⟩, ⟨_, rfl, Pr.le_refl _⟩, ⟨_, rfl, Pr.le_refl _⟩, ⟨_, rfl, Pr.le_refl _⟩, ⟨_, rfl, Pr.le_refl _⟩, ⟨_, rfl, Pr.le_refl _⟩, ⟨_, rfl, Pr.le_refl _⟩, ⟨_, rfl, Pr.le_refl _⟩, ⟨_, rfl, Pr.le_refl _⟩, ⟨_, rfl, Pr.le_refl _⟩, trivial⟩ ?_
                                          refine Tr.cond rfl (fun h22 => ?_) (fun h22 => ?_)
                                          ·
                                            have q22 := Nrm.nrm h22
                                            exact absurd rfl q22
                                          ·
                                            have q22 := Nrm.nrm h22
                                            refine Tr.skip ?_
                                            refine Fin.block ?_
                                            refine Fin.go ?_
                                            refine Tr.weak [(2, _), (3, _), (4, _), (13, _), (14, _), (17, _), (21, _), (29, _), (107, _), (108, _), (109, _), (134, _), (135, _), (136, _), (168, _), (169, _), (170, _), (234, _), (235, _), (236, _)] ⟨⟨_, rfl, Pr.le_refl _⟩, ⟨_, rfl, Pr.le_refl _⟩, ⟨_, rfl, Pr.le_refl _⟩, ⟨_, rfl, Pr.le_refl _⟩, ⟨_, rfl, Pr.le_refl _⟩, ⟨_, rfl, Pr.le_refl _⟩, ⟨_, rfl, Pr.le_refl _⟩, ⟨_, rfl, Pr.le_refl _⟩, ⟨_, rfl, Pr.le_refl _⟩, ⟨_, rfl, Pr.le_refl _⟩, ⟨_, rfl, Pr.le_refl _⟩, ⟨_, rfl, Pr.le_refl _⟩, ⟨_, rfl, Pr.le_refl _⟩, ⟨_, rfl, Pr.le_refl _⟩, ⟨_, rfl, Pr.le_refl _⟩, ⟨_, rfl, Pr.le_refl _⟩, ⟨_, rfl, Pr.le_refl _⟩, ⟨_, rfl, Pr.le_refl _⟩, ⟨_, rfl, Pr.le_refl _⟩, ⟨_, rfl, Pr.le_refl _⟩, trivial⟩ ?_
                                            refine Tr.reg0 ?_
                                            first
                                              | (refine Ch.op rfl rfl (by decide) (ok_add rfl (vl rfl) (vl rfl) ?hin) ?_; case hin => unfold InI; omega)
                                              | refine Ch.op rfl rfl (by decide) (ok_int rfl (vl rfl) (vl rfl) rfl) ?_
                                            refine Ch.op rfl rfl (by decide) (ok_move rfl (vl rfl)) ?_
                                            refine Ch.nil ?_
                                            exact Fin.fam_same (j4 + 1) ⟨hk_j4, by omega⟩ ⟨⟨_, rfl, int_succ j4⟩, ⟨_, rfl, Pr.le_refl _⟩, ⟨_, rfl, Pr.le_refl _⟩, ⟨_, rfl, Pr.le_refl _⟩, ⟨_, rfl, Pr.le_refl _⟩, ⟨_, rfl, Pr.le_refl _⟩, ⟨_, rfl, Pr.le_refl _⟩, ⟨_, rfl, Pr.le_refl _⟩, ⟨_, rfl, Pr.le_refl _⟩, ⟨_, rfl, Pr.le_refl _⟩, ⟨_, rfl, Pr.le_refl _⟩, ⟨_, rfl, Pr.le_refl _⟩, ⟨_, rfl, Pr.le_refl _⟩, ⟨_, rfl, Pr.le_refl _⟩, ⟨_, rfl, Pr.le_refl _⟩, ⟨_, rfl, Pr.le_refl _⟩, ⟨_, rfl, Pr.le_refl _⟩, ⟨_, rfl, Pr.le_refl _⟩, ⟨_, rfl, Pr.le_refl _⟩, ⟨_, rfl, Pr.le_refl _⟩, trivial⟩
                                    ·
                                      have q19 := Nrm.nrm h19
                                      have he_j4 : j4 = (([(ta, tb), (teams, days), ([], [])] : List (List Int × List Int))).length := by have := ge_of_dec h19; omega
                                      refine Tr.exit ?_
                                      refine Fin.then_exit ?_
                                      refine Fin.then_exit ?_
                                      refine Fin.block_here ?_
                                      refine Fin.block ?_
                                      refine Fin.go ?_
                                      refine Tr.weak [(2, _), (3, _), (4, _), (13, _), (14, _), (17, _), (21, _), (107, _), (108, _), (109, _), (134, _), (135, _), (136, _), (168, _), (169, _), (170, _)] ⟨⟨_, rfl, Pr.le_refl _⟩, ⟨_, rfl, Pr.le_refl _⟩, ⟨_, rfl, Pr.le_refl _⟩, ⟨_, rfl, Pr.le_refl _⟩, ⟨_, rfl, Pr.le_refl _⟩, ⟨_, rfl, Pr.le_refl _⟩, ⟨_, rfl, Pr.le_refl _⟩, ⟨_, rfl, Pr.le_refl _⟩, ⟨_, rfl, Pr.le_refl _⟩, ⟨_, rfl, Pr.le_refl _⟩, ⟨_, rfl, Pr.le_refl _⟩, ⟨_, rfl, Pr.le_refl _⟩, ⟨_, rfl, Pr.le_refl _⟩, ⟨_, rfl, Pr.le_refl _⟩, ⟨_, rfl, Pr.le_refl _⟩, ⟨_, rfl, Pr.le_refl _⟩, trivial⟩ ?_
                                      refine Tr.reg0 ?_
                                      first
                                        | (refine Ch.op rfl rfl (by decide) (ok_add rfl (vl rfl) (vl rfl) ?hin) ?_; case hin => unfold InI; omega)
                                        | refine Ch.op rfl rfl (by decide) (ok_int rfl (vl rfl) (vl rfl) rfl) ?_
                                      refine Ch.op rfl rfl (by decide) (ok_move rfl (vl rfl)) ?_
                                      refine Ch.nil ?_
                                      exact Fin.fam_same (j3 + 1) ⟨hk_j3, by omega⟩ ⟨⟨_, rfl, int_succ j3⟩, ⟨_, rfl, Pr.le_refl _⟩, ⟨_, rfl, Pr.le_refl _⟩, ⟨_, rfl, Pr.le_refl _⟩, ⟨_, rfl, Pr.le_refl _⟩, ⟨_, rfl, Pr.le_refl _⟩, ⟨_, rfl, Pr.le_refl _⟩, ⟨_, rfl, Pr.le_refl _⟩, ⟨_, rfl, Pr.le_refl _⟩, ⟨_, rfl, Pr.le_refl _⟩, ⟨_, rfl, Pr.le_refl _⟩, ⟨_, rfl, Pr.le_refl _⟩, ⟨_, rfl, Pr.le_refl _⟩, ⟨_, rfl, Pr.le_refl _⟩, ⟨_, rfl, Pr.le_refl _⟩, ⟨_, rfl, Pr.le_refl _⟩, trivial⟩
                        ·
                          have q13 := Nrm.nrm h13
                          have he_j3 : j3 = (([0, 1, dy] : List Int)).length := by have := ge_of_dec h13; omega
                          refine Tr.exit ?_
                          refine Fin.then_exit ?_
                          refine Fin.then_exit ?_
                          refine Fin.block_here ?_
                          refine Fin.block ?_
                          refine Fin.go ?_
                          refine Tr.weak [(2, _), (3, _), (4, _), (13, _), (14, _), (17, _), (107, _), (108, _), (109, _), (134, _), (135, _), (136, _)] ⟨⟨_, rfl, Pr.le_refl _⟩, ⟨_, rfl, Pr.le_refl _⟩, ⟨_, rfl, Pr.le_refl _⟩, ⟨_, rfl, Pr.le_refl _⟩, ⟨_, rfl, Pr.le_refl _⟩, ⟨_, rfl, Pr.le_refl _⟩, ⟨_, rfl, Pr.le_refl _⟩, ⟨_, rfl, Pr.le_refl _⟩, ⟨_, rfl, Pr.le_refl _⟩, ⟨_, rfl, Pr.le_refl _⟩, ⟨_, rfl, Pr.le_refl _⟩, ⟨_, rfl, Pr.le_refl _⟩, trivial⟩ ?_
                          refine Tr.reg0 ?_
                          first
                            | (refine Ch.op rfl rfl (by decide) (ok_add rfl (vl rfl) (vl rfl) ?hin) ?_; case hin => unfold InI; omega)
                            | refine Ch.op rfl rfl (by decide) (ok_int rfl (vl rfl) (vl rfl) rfl) ?_
                          refine Ch.op rfl rfl (by decide) (ok_move rfl (vl rfl)) ?_
                          refine Ch.nil ?_
                          exact Fin.fam_same (j2 + 1) ⟨hk_j2, by omega⟩ ⟨⟨_, rfl, int_succ j2⟩, ⟨_, rfl, Pr.le_refl _⟩, ⟨_, rfl, Pr.le_refl _⟩, ⟨_, rfl, Pr.le_refl _⟩, ⟨_, rfl, Pr.le_refl _⟩, ⟨_, rfl, Pr.le_refl _⟩, ⟨_, rfl, Pr.le_refl _⟩, ⟨_, rfl, Pr.le_refl _⟩, ⟨_, rfl, Pr.le_refl _⟩, ⟨_, rfl, Pr.le_refl _⟩, ⟨_, rfl, Pr.le_refl _⟩, ⟨_, rfl, Pr.le_refl _⟩, trivial⟩
                ·
                  have q9 := Nrm.nrm h9
                  have he_j2 : j2 = (([day, dm - 2] : List Int)).length := by have := ge_of_dec h9; omega
                  refine Tr.exit ?_
                  refine Fin.then_exit ?_
                  refine Fin.then_exit ?_
                  refine Fin.block_here ?_
                  refine Fin.go ?_
                  refine Tr.seq ?_
                  refine Tr.reg0 ?_
                  refine Ch.op rfl rfl (by decide) (ok_move rfl (vl rfl)) ?_
                  refine Ch.op rfl rfl (by decide) (ok_move rfl (vl rfl)) ?_
                  refine Ch.op rfl rfl (by decide) (ok_build (rows := [(0, [_]), (1, [_])]) rfl bl56 zo56 ⟨⟨rfl, ⟨_, rfl, Pr.le_trans (andIs_le _ _) (one_cellsP _)⟩⟩, ⟨⟨rfl, ⟨_, rfl, Pr.le_trans (andIs_le _ _) (one_cellsP _)⟩⟩, trivial⟩⟩ rfl) ?_
                  refine Ch.op rfl rfl (by decide) (ok_move rfl (vl rfl)) ?_
                  refine Ch.op rfl rfl (by decide) (ok_move rfl (vl rfl)) ?_
                  refine Ch.op rfl rfl (by decide) (ok_build (rows := [(0, [_]), (1, [_])]) rfl bl56 zo56 ⟨⟨rfl, (VL.le (vl rfl) (one_cellsP _))⟩, ⟨⟨rfl, (VL.le (vl rfl) (one_cellsP _))⟩, trivial⟩⟩ rfl) ?_
                  refine Ch.op rfl rfl (by decide) (ok_move rfl (vl rfl)) ?_
                  refine Ch.op rfl rfl (by decide) (ok_move rfl (vl rfl)) ?_
                  refine Ch.op rfl rfl (by decide) (ok_build (rows := [(0, [_]), (1, [_])]) rfl bl56 zo56 ⟨⟨rfl, ⟨_, rfl, Pr.le_trans (andIs_le _ _) (one_cellsP _)⟩⟩, ⟨⟨rfl, (VL.le (vl rfl) (one_cellsP _))⟩, trivial⟩⟩ rfl) ?_
                  refine Ch.op rfl rfl (by decide) (ok_buildSlice (xs := [.tmp 282, .tmp 285, .tmp 288]) (rows := [_, _, _]) rfl rfl Try.underlying57 sz56 z56 rfl (by decide) ⟨⟨(by exact rfl), (VL.le (vl rfl) (agg_cellsP _))⟩, ⟨⟨(by exact rfl), (VL.le (vl rfl) (agg_cellsP _))⟩, ⟨⟨(by exact rfl), (VL.le (vl rfl) (agg_cellsP _))⟩, trivial⟩⟩⟩ (by decide)) ?_
                  first
                    | refine Ch.op rfl rfl (by decide) (ok_lenm rfl Try.underlying57 ⟨_, rfl, full_le _ _⟩) ?_
                    | refine Ch.op rfl rfl (by decide) (ok_len rfl Try.underlying57 ⟨_, rfl, full_le _ _⟩) ?_
                  refine Ch.op rfl rfl (by decide) (ok_move rfl (vl rfl)) ?_
                  refine Ch.nil ?_
                  refine Fin.go ?_
                  refine Tr.weak [(2, _), (3, _), (4, _), (13, _), (14, _), (17, _), (107, _), (108, _), (109, _), (289, _), (290, _), (291, _)] ⟨⟨_, rfl, Pr.le_refl _⟩, ⟨_, rfl, Pr.le_refl _⟩, ⟨_, rfl, Pr.le_refl _⟩, ⟨_, rfl, Pr.le_refl _⟩, ⟨_, rfl, Pr.le_refl _⟩, ⟨_, rfl, Pr.le_refl _⟩, ⟨_, rfl, Pr.le_refl _⟩, ⟨_, rfl, Pr.le_refl _⟩, ⟨_, rfl, Pr.le_refl _⟩, ⟨_, rfl, Pr.le_refl _⟩, ⟨_, rfl, Pr.le_refl _⟩, ⟨_, rfl, Pr.le_refl _⟩, trivial⟩ ?_
                  refine Tr.block ?_
                  refine Tr.re 289 rfl (Pr.le_trans (full_le _ _) (Pr.le_of_eq (show _ = slice 2 (([(ta, tb), (teams, days), (ta, days)] : List (List Int × List Int)).map (fun y : List Int × List Int => [ints y.1, ints y.2])) from rfl))) ?_
                  refine Tr.re 290 rfl (int_eq (b := ((([(ta, tb), (teams, days), (ta, days)] : List (List Int × List Int)).length : Nat) : Int)) rfl) ?_
                  refine Tr.loopw [(2, _), (3, _), (4, _), (13, _), (14, _), (17, _), (107, _), (108, _), (109, _), (289, _), (290, _)] ⟨⟨_, rfl, Pr.le_refl _⟩, ⟨_, rfl, Pr.le_refl _⟩, ⟨_, rfl, Pr.le_refl _⟩, ⟨_, rfl, Pr.le_refl _⟩, ⟨_, rfl, Pr.le_refl _⟩, ⟨_, rfl, Pr.le_refl _⟩, ⟨_, rfl, Pr.le_refl _⟩, ⟨_, rfl, Pr.le_refl _⟩, ⟨_, rfl, Pr.le_refl _⟩, ⟨_, rfl, Pr.le_refl _⟩, ⟨_, rfl, Pr.le_refl _⟩, trivial⟩ (fun j5 : Nat => [(291, int ((j5 : Nat) : Int))]) (fun j5 : Nat => j5 ≤ (([(ta, tb), (teams, days), (ta, days)] : List (List Int × List Int))).length) (fun j5 : Nat => (([(ta, tb), (teams, days), (ta, days)] : List (List Int × List Int))).length - j5) 0 (Nat.zero_le _) ⟨⟨_, rfl, Pr.le_refl _⟩, trivial⟩ ?_
                  rintro j5 hle_j5
                  refine Tr.seq ?_
                  refine Tr.reg0 ?_
                  refine Ch.op rfl rfl (by decide) (ok_int rfl (vl rfl) (vl rfl) rfl) ?_
                  refine Ch.nil ?_
                  refine Fin.go ?_
                  refine Tr.seq ?_
                  refine Tr.cond rfl (fun h23 => ?_) (fun h23 => ?_)
                  ·
                    have q23 := Nrm.nrm h23
                    have hk_j5 : j5 < (([(ta, tb), (teams, days), (ta, days)] : List (List Int × List Int))).length := lt_of_dec h23
                    obtain ⟨y, hx_j5⟩ := at_ hk_j5
                    have hL_j5 : j5 < 3 := hk_j5
                    refine Tr.skip ?_
                    refine Fin.go ?_
                    refine Tr.seq ?_
                    refine Tr.block ?_
                    refine Tr.seq ?_
                    refine Tr.regT ?_
                    refine TO.op rfl rfl (by decide) (ok_indexAddr rfl Try.underlying57 sz56 (vl rfl) (vl rfl) (by omega) (row_at (f := (fun y : List Int × List Int => [ints y.1, ints y.2])) hx_j5)) ?_
                    refine TO.op rfl rfl (by decide) (ok_loadA rfl agg56 sz56 (vl rfl) rfl rfl) ?_
                    refine TO.alloc rfl rfl (by decide) rfl z56 zo56 (fun b5 => ?_)
                    refine TO.store_all 0 rfl rfl rfl (vl rfl) (VL.le (vl rfl) (agg_cellsP _)) rfl sz56 rfl rfl ?_
                    refine TO.freeze 0 49 rfl rfl ?_
                    refine TO.nil ?_
                    refine Fin.go ?_
                    refine Tr.weak [(2, _), (3, _), (4, _), (13, _), (14, _), (17, _), (49, _), (107, _), (108, _), (109, _), (289, _), (290, _), (291, _)] ⟨⟨_, rfl, Pr.le_refl _⟩, ⟨_, rfl, Pr.le_refl _⟩, ⟨_, rfl, Pr.le_refl _⟩, ⟨_, rfl, Pr.le_refl _⟩, ⟨_, rfl, Pr.le_refl _⟩, ⟨_, rfl, Pr.le_refl _⟩, ⟨_, rfl, Pr.le_refl _⟩, ⟨_, rfl, Pr.le_refl _⟩, ⟨_, rfl, Pr.le_refl _⟩, ⟨_, rfl, Pr.le_refl _⟩, ⟨_, rfl, Pr.le_refl _⟩, ⟨_, rfl, Pr.le_refl _⟩, ⟨_, rfl, Pr.le_refl _⟩, trivial⟩ ?_
                    refine Tr.seq ?_
                    refine Tr.reg0 ?_
                    refine Ch.op rfl rfl (by decide) (ok_loadA rfl agg27 sz27 (vl rfl) rfl rfl) ?_
                    refine Ch.op rfl rfl (by decide) (ok_indexArr rfl Try.underlying56 sz22 (vl rfl) (vl rfl) (by omega) (by omega) rfl) ?_
                    refine Ch.op rfl rfl (by decide) (ok_load_hd rfl one22 (vl rfl) rfl) ?_
                    refine Ch.op rfl rfl (by decide) (ok_indexArr rfl Try.underlying56 sz22 (vl rfl) (vl rfl) (by omega) (by omega) rfl) ?_
                    refine Ch.op rfl rfl (by decide) (ok_load_hd rfl one22 (vl rfl) rfl) ?_
                    refine Ch.op rfl rfl (by decide) (ok_call rfl (w_Load) ⟨⟨_, rfl, Pr.le_refl _⟩, ⟨_, rfl, Pr.le_refl _⟩, ⟨_, rfl, Pr.le_refl _⟩, trivial⟩) ?_
                    refine Ch.op rfl rfl (by decide) (ok_move rfl (vl rfl)) ?_
                    refine Ch.op rfl rfl (by decide) (ok_extract rfl (vl rfl) rfl) ?_
                    refine Ch.op rfl rfl (by decide) (ok_extract rfl (vl rfl) rfl) ?_
                    refine Ch.op rfl rfl (by decide) (ok_assign rfl (vl rfl)) ?_
                    refine Ch.op rfl rfl (by decide) (ok_assign rfl (vl rfl)) ?_
                    refine Ch.nil ?_
                    refine Fin.go ?_
                    refine Tr.weak [(2, _), (3, _), (4, _), (13, _), (14, _), (17, _), (49, _), (50, _), (51, _), (107, _), (108, _), (109, _), (289, _), (290, _), (291, _)] ⟨⟨_, rfl, Pr.le_refl _⟩, ⟨_, rfl, Pr.le_refl _⟩, ⟨_, rfl, Pr.le_refl _⟩, ⟨_, rfl, Pr.le_refl _⟩, ⟨_, rfl, Pr.le_refl _⟩, ⟨_, rfl, Pr.le_refl _⟩, ⟨_, rfl, Pr.le_refl _⟩, ⟨_, rfl, Pr.le_refl _⟩, ⟨_, rfl, Pr.le_refl _⟩, ⟨_, rfl, Pr.le_refl _⟩, ⟨_, rfl, Pr.le_refl _⟩, ⟨_, rfl, Pr.le_refl _⟩, ⟨_, rfl, Pr.le_refl _⟩, ⟨_, rfl, Pr.le_refl _⟩, ⟨_, rfl, Pr.le_refl _⟩, trivial⟩ ?_
                    refine Tr.seq ?_
                    refine Tr.reg0 ?_
                    refine Ch.op rfl rfl (by decide) (ok_loadA rfl agg27 sz27 (vl rfl) rfl rfl) ?_
                    refine Ch.op rfl rfl (by decide) (ok_indexArr rfl Try.underlying56 sz22 (vl rfl) (vl rfl) (by omega) (by omega) rfl) ?_
                    refine Ch.op rfl rfl (by decide) (ok_load_hd rfl one22 (vl rfl) rfl) ?_
                    refine Ch.op rfl rfl (by decide) (ok_indexArr rfl Try.underlying56 sz22 (vl rfl) (vl rfl) (by omega) (by omega) rfl) ?_
                    refine Ch.op rfl rfl (by decide) (ok_load_hd rfl one22 (vl rfl) rfl) ?_
                    refine Ch.op rfl rfl (by decide) (ok_call rfl (w_RLoad) ⟨⟨_, rfl, Pr.le_refl _⟩, ⟨_, rfl, Pr.le_refl _⟩, ⟨_, rfl, Pr.le_refl _⟩, trivial⟩) ?_
                    refine Ch.op rfl rfl (by decide) (ok_move rfl (vl rfl)) ?_
                    refine Ch.op rfl rfl (by decide) (ok_extract rfl (vl rfl) rfl) ?_
                    refine Ch.op rfl rfl (by decide) (ok_extract rfl (vl rfl) rfl) ?_
                    refine Ch.op rfl rfl (by decide) (ok_assign rfl (vl rfl)) ?_
                    refine Ch.op rfl rfl (by decide) (ok_assign rfl (vl rfl)) ?_
                    refine Ch.nil ?_
                    refine Fin.go ?_
                    refine Tr.weak [(2, _), (3, _), (4, _), (13, _), (14, _), (17, _), (49, _), (50, _), (51, _), (52, _), (53, _), (107, _), (108, _), (109, _), (289, _), (290, _), (291, _)] ⟨⟨_, rfl, Pr.le_refl _⟩, ⟨_, rfl, Pr.le_refl _⟩, ⟨_, rfl, Pr.le_refl _⟩, ⟨_, rfl, Pr.le_refl _⟩, ⟨_, rfl, Pr.le_refl _⟩, ⟨_, rfl, Pr.le_refl _⟩, ⟨_, rfl, Pr.le_refl _⟩, ⟨_, rfl, Pr.le_refl _⟩, ⟨_, rfl, Pr.le_refl _⟩, ⟨_, rfl, Pr.le_refl _⟩, ⟨_, rfl, Pr.le_refl _⟩, ⟨_, rfl, Pr.le_refl _⟩, ⟨_, rfl, Pr.le_refl _⟩, ⟨_, rfl, Pr.le_refl _⟩, ⟨_, rfl, Pr.le_refl _⟩, ⟨_, rfl, Pr.le_refl _⟩, ⟨_, rfl, Pr.le_refl _⟩, trivial⟩ ?_
                    refine Tr.seq ?_
                    refine Tr.reg1 mixed (by kernel_rfl) ?_
                    refine Ch.op rfl rfl (by decide) (ok_move rfl (vl rfl)) ?_
                    refine Ch.op rfl rfl (by decide) (ok_move rfl (vl rfl)) ?_
                    refine Ch.op rfl rfl (by decide) (ok_int rfl (vl rfl) (vl rfl) rfl) ?_
                    refine Ch.op rfl rfl (by decide) (ok_move rfl (vl rfl)) ?_
                    refine Ch.cases 316 rfl (fun h24 => ?_) (fun h24 => ?_)
                    ·
                      have q24 := Nrm.nrm h24
                      first | exact absurd rfl q24 | exact absurd q24 (by simp)
                    ·
                      have q24 := Nrm.nrm h24
                      refine Ch.yes rfl rfl rfl h24 rfl (by decide) (ok_move rfl (vl rfl)) ?_
                      refine Ch.yes rfl rfl rfl h24 rfl (by decide) (ok_move rfl (vl rfl)) ?_
                      refine Ch.yes rfl rfl rfl h24 rfl (by decide) (ok_call rfl (w_SameLoad) ⟨⟨_, rfl, Pr.le_refl _⟩, ⟨_, rfl, Pr.le_refl _⟩, trivial⟩) ?_
                      refine Ch.yes rfl rfl rfl h24 rfl (by decide) (ok_not rfl (vl rfl)) ?_
                      refine Ch.op rfl rfl (by decide) (ok_pick_f rfl (vl rfl) h24 (vl rfl)) ?_
                      refine Ch.op rfl rfl (by decide) (ok_move rfl (vl rfl)) ?_
                      refine Ch.cases 322 rfl (fun h25 => ?_) (fun h25 => ?_)
                      ·
                        have q25 := Nrm.nrm h25
                        exact absurd h25 (by decide)
                      ·
                        have q25 := Nrm.nrm h25
                        refine Ch.yes rfl rfl rfl h25 rfl (by decide) (ok_loadA rfl agg27 sz27 (vl rfl) rfl rfl) ?_
                        refine Ch.yes rfl rfl rfl h25 rfl (by decide) (ok_indexArr rfl Try.underlying56 sz22 (vl rfl) (vl rfl) (by omega) (by omega) rfl) ?_
                        refine Ch.yes rfl rfl rfl h25 rfl (by decide) (ok_load_hd rfl one22 (vl rfl) rfl) ?_
                        refine Ch.yes rfl rfl rfl h25 rfl (by decide) (ok_indexArr rfl Try.underlying56 sz22 (vl rfl) (vl rfl) (by omega) (by omega) rfl) ?_
                        refine Ch.yes rfl rfl rfl h25 rfl (by decide) (ok_load_hd rfl one22 (vl rfl) rfl) ?_
                        refine Ch.yes rfl rfl rfl h25 rfl (by decide) (ok_call rfl (w_Fits) ⟨⟨_, rfl, Pr.le_refl _⟩, ⟨_, rfl, Pr.le_refl _⟩, ⟨_, rfl, Pr.le_refl _⟩, trivial⟩) ?_
                        refine Ch.yes rfl rfl rfl h25 rfl (by decide) (ok_loadA rfl agg27 sz27 (vl rfl) rfl rfl) ?_
                        refine Ch.yes rfl rfl rfl h25 rfl (by decide) (ok_indexArr rfl Try.underlying56 sz22 (vl rfl) (vl rfl) (by omega) (by omega) rfl) ?_
                        refine Ch.yes rfl rfl rfl h25 rfl (by decide) (ok_load_hd rfl one22 (vl rfl) rfl) ?_
                        refine Ch.yes rfl rfl rfl h25 rfl (by decide) (ok_indexArr rfl Try.underlying56 sz22 (vl rfl) (vl rfl) (by omega) (by omega) rfl) ?_
                        refine Ch.yes rfl rfl rfl h25 rfl (by decide) (ok_load_hd rfl one22 (vl rfl) rfl) ?_
                        refine Ch.yes rfl rfl rfl h25 rfl (by decide) (ok_call rfl (w_RFits) ⟨⟨_, rfl, Pr.le_refl _⟩, ⟨_, rfl, Pr.le_refl _⟩, ⟨_, rfl, Pr.le_refl _⟩, trivial⟩) ?_
                        refine Ch.yes rfl rfl rfl h25 rfl (by decide) (ok_int rfl (vl rfl) (vl rfl) rfl) ?_
                        refine Ch.op rfl rfl (by decide) (ok_pick_f rfl (vl rfl) h25 (vl rfl)) ?_
                        refine Ch.nil ?_
                        refine Fin.go ?_
                        refine Tr.weak [(2, _), (3, _), (4, _), (13, _), (14, _), (17, _), (107, _), (108, _), (109, _), (289, _), (290, _), (291, _), (336, _)] ⟨⟨_, rfl, Pr.le_refl _⟩, ⟨_, rfl, Pr.le_refl _⟩, ⟨_, rfl, Pr.le_refl _⟩, ⟨_, rfl, Pr.le_refl _⟩, ⟨_, rfl, Pr.le_refl _⟩, ⟨_, rfl, Pr.le_refl _⟩, ⟨_, rfl, Pr.le_refl _⟩, ⟨_, rfl, Pr.le_refl _⟩, ⟨_, rfl, Pr.le_refl _⟩, ⟨_, rfl, Pr.le_refl _⟩, ⟨_, rfl, Pr.le_refl _⟩, ⟨_, rfl, Pr.le_refl _⟩, ⟨_, rfl, Pr.le_refl _⟩, trivial⟩ ?_
                        refine Tr.cond rfl (fun h26 => ?_) (fun h26 => ?_)
                        ·
                          have q26 := Nrm.nrm h26
                          exact absurd rfl q26
                        ·
                          have q26 := Nrm.nrm h26
                          refine Tr.skip ?_
                          refine Fin.block ?_
                          refine Fin.go ?_
                          refine Tr.reg0 ?_
                          first
                            | (refine Ch.op rfl rfl (by decide) (ok_add rfl (vl rfl) (vl rfl) ?hin) ?_; case hin => unfold InI; omega)
                            | refine Ch.op rfl rfl (by decide) (ok_int rfl (vl rfl) (vl rfl) rfl) ?_
                          refine Ch.op rfl rfl (by decide) (ok_move rfl (vl rfl)) ?_
                          refine Ch.nil ?_
                          exact Fin.fam_same (j5 + 1) ⟨hk_j5, by omega⟩ ⟨⟨_, rfl, int_succ j5⟩, ⟨_, rfl, Pr.le_refl _⟩, ⟨_, rfl, Pr.le_refl _⟩, ⟨_, rfl, Pr.le_refl _⟩, ⟨_, rfl, Pr.le_refl _⟩, ⟨_, rfl, Pr.le_refl _⟩, ⟨_, rfl, Pr.le_refl _⟩, ⟨_, rfl, Pr.le_refl _⟩, ⟨_, rfl, Pr.le_refl _⟩, ⟨_, rfl, Pr.le_refl _⟩, ⟨_, rfl, Pr.le_refl _⟩, ⟨_, rfl, Pr.le_refl _⟩, trivial⟩
                  ·
                    have q23 := Nrm.nrm h23
                    have he_j5 : j5 = (([(ta, tb), (teams, days), (ta, days)] : List (List Int × List Int))).length := by have := ge_of_dec h23; omega
                    refine Tr.exit ?_
                    refine Fin.then_exit ?_
                    refine Fin.then_exit ?_
                    refine Fin.block_here ?_
                    refine Fin.block ?_
                    refine Fin.go ?_
                    refine Tr.reg0 ?_
                    first
                      | (refine Ch.op rfl rfl (by decide) (ok_add rfl (vl rfl) (vl rfl) ?hin) ?_; case hin => unfold InI; omega)
                      | refine Ch.op rfl rfl (by decide) (ok_int rfl (vl rfl) (vl rfl) rfl) ?_
                    refine Ch.op rfl rfl (by decide) (ok_move rfl (vl rfl)) ?_
                    refine Ch.nil ?_
                    exact Fin.fam_same (i + 1) ⟨hk_i, by omega⟩ ⟨⟨_, rfl, int_succ i⟩, ⟨_, rfl, Pr.le_refl _⟩, ⟨_, rfl, Pr.le_refl _⟩, ⟨_, rfl, Pr.le_refl _⟩, ⟨_, rfl, Pr.le_refl _⟩, ⟨_, rfl, Pr.le_refl _⟩, ⟨_, rfl, Pr.le_refl _⟩, ⟨_, rfl, Pr.le_refl _⟩, trivial⟩
            ·
              have q6 := Nrm.nrm h6
              have he_i : i = (([z1, zo, raw] : List Cal)).length := by have := ge_of_dec h6; omega
              refine Tr.exit ?_
              refine Fin.then_exit ?_
              refine Fin.then_exit ?_
              refine Fin.block_here ?_
              refine Fin.go ?_
              refine Tr.seq ?_
              refine Tr.reg0 ?_
              refine Ch.op rfl rfl (by decide) (ok_call rfl (w_awake) trivial) ?_
              refine Ch.op rfl rfl (by decide) (ok_assign rfl (vl rfl)) ?_
              refine Ch.nil ?_
              refine Fin.go ?_
              refine Tr.ret ?_
              refine Fin.ret1 rfl (OutW.bse _ _) rfl ?_
              · first | exact Pr.le_refl _ | (refine int_eq ?_; simp_all; done) | (refine bool_eq ?_; simp_all; done) | (refine bool_eq ?_; simp_all; omega) | (refine int_eq ?_; omega)
theorem e_WindowAll : Entry Try.prog 7 := ⟨_, Try.func7, rfl, rfl⟩
end Go.Proofs.Ytacifhfelijekaa
