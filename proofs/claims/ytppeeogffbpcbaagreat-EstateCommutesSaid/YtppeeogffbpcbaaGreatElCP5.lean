/-
  Part 5 of the texts that prove this claim, merged.
-/
import Derived.Test.YtppeeogffbpcbaaGreatElCP4
set_option linter.all false
set_option maxRecDepth 40000
set_option maxHeartbeats 16000000
namespace Go.Proofs.YtppeeogffbpcbaaGreat
open Go Go.RowKit Cp

abbrev sIdx (e : Ept) (c : Chg) : Int := idx (fun y => c.number == y) e.suites
/-- What the method of a kind answers: an error, or the endpoint and what leads back. -/
def stepR (e : Ept) (c : Chg) : Except Int (Ept × Chg) :=
  if c.kind = 1 then
    if ¬ (0 ≤ c.at_ ∧ c.at_ ≤ (e.suites.length : Nat)) then .error 2
    else if (e.suites.any fun y => c.number == y) = true then .error 41
    else .ok ({ e with suites := e.suites.take c.at_.toNat ++ [c.number] ++ e.suites.drop c.at_.toNat }, ⟨c.endpoint, 2, c.number, 0, zeroId⟩)
  else if c.kind = 2 then
    if sIdx e c < 0 then .error 41 else .ok ({ e with suites := e.suites.eraseIdx (sIdx e c).toNat }, ⟨c.endpoint, 1, c.number, sIdx e c, zeroId⟩)
  else if c.kind = 3 then
    if e.most = c.number then .error 41 else .ok ({ e with most := c.number }, ⟨c.endpoint, c.kind, e.most, 0, zeroId⟩)
  else if c.kind = 4 then
    if e.least = c.number then .error 41 else .ok ({ e with least := c.number }, ⟨c.endpoint, c.kind, e.least, 0, zeroId⟩)
  else if c.kind = 5 then
    if ¬ (0 ≤ c.at_ ∧ c.at_ ≤ (e.ids.length : Nat)) then .error 2
    else if 0 ≤ keyIdx c.idn.keyId e.ids then .error 41
    else .ok ({ e with ids := e.ids.take c.at_.toNat ++ [c.idn] ++ e.ids.drop c.at_.toNat }, ⟨c.endpoint, 6, c.idn.keyId, 0, zeroId⟩)
  else if c.kind = 6 then
    match e.ids[(keyIdx c.number e.ids).toNat]? with
    | none => .error 41
    | some x =>
      if keyIdx c.number e.ids < 0 then .error 41
      else if ((e.ids.drop (keyIdx c.number e.ids + 1).toNat).any fun x => x.keyId == c.number) = true then .error 5
      else .ok ({ e with ids := e.ids.eraseIdx (keyIdx c.number e.ids).toNat }, ⟨c.endpoint, 5, 0, keyIdx c.number e.ids, x⟩)
  else if c.kind = 7 then
    if hasX e.anchors c.number = true then .error 41 else .ok ({ e with anchors := insX e.anchors c.number }, ⟨c.endpoint, 8, c.number, 0, zeroId⟩)
  else if c.kind = 8 then
    if hasX e.anchors c.number = true then .ok ({ e with anchors := e.anchors.eraseIdx (posI e.anchors c.number) }, ⟨c.endpoint, 7, c.number, 0, zeroId⟩) else .error 41
  else if c.kind = 9 then
    if hasX e.hashes c.number = true then .error 41 else .ok ({ e with hashes := insX e.hashes c.number }, ⟨c.endpoint, 10, c.number, 0, zeroId⟩)
  else if c.kind = 10 then
    if hasX e.hashes c.number = true then .ok ({ e with hashes := e.hashes.eraseIdx (posI e.hashes c.number) }, ⟨c.endpoint, 9, c.number, 0, zeroId⟩) else .error 41
  else if c.kind = 11 then
    if ¬ (0 ≤ c.number ∧ c.number ≤ 1) then .error 2
    else if bitI e.fall = c.number then .error 41 else .ok ({ e with fall := (c.number == 1) }, ⟨c.endpoint, c.kind, bitI e.fall, 0, zeroId⟩)
  else
    if ¬ (0 ≤ c.number ∧ c.number ≤ 1) then .error 2
    else if bitI e.own = c.number then .error 41 else .ok ({ e with own := (c.number == 1) }, ⟨c.endpoint, c.kind, bitI e.own, 0, zeroId⟩)
def okCh (c : Chg) : Prop := (1 ≤ c.kind ∧ c.kind ≤ 12) ∧ leanB c = true
instance (c : Chg) : Decidable (okCh c) := inferInstanceAs (Decidable (_ ∧ _))
def doneR (e : Ept) (c : Chg) : Ept × Chg × Int :=
  if eptB e = false then (zeroEp, zeroChg, 19)
  else if ¬ okCh c then (zeroEp, zeroChg, 40)
  else match stepR e c with
    | .error f => (zeroEp, zeroChg, f)
    | .ok (e2, b) => if eptB e2 = true then (e2, b, 0) else (zeroEp, zeroChg, 18)
theorem stepR_1 {e : Ept} {c : Chg} (h : c.kind = 1) : stepR e c =
    (
    if ¬ (0 ≤ c.at_ ∧ c.at_ ≤ (e.suites.length : Nat)) then .error 2
    else if (e.suites.any fun y => c.number == y) = true then .error 41
    else .ok ({ e with suites := e.suites.take c.at_.toNat ++ [c.number] ++ e.suites.drop c.at_.toNat }, ⟨c.endpoint, 2, c.number, 0, zeroId⟩)) := by
  unfold stepR; rw [if_pos h]
theorem stepR_2 {e : Ept} {c : Chg} (h : c.kind = 2) : stepR e c =
    (
    if sIdx e c < 0 then .error 41 else .ok ({ e with suites := e.suites.eraseIdx (sIdx e c).toNat }, ⟨c.endpoint, 1, c.number, sIdx e c, zeroId⟩)) := by
  unfold stepR; rw [if_neg (by rw [h]; decide)]; rw [if_pos h]
theorem stepR_3 {e : Ept} {c : Chg} (h : c.kind = 3) : stepR e c =
    (
    if e.most = c.number then .error 41 else .ok ({ e with most := c.number }, ⟨c.endpoint, c.kind, e.most, 0, zeroId⟩)) := by
  unfold stepR; rw [if_neg (by rw [h]; decide)]; rw [if_neg (by rw [h]; decide)]; rw [if_pos h]
theorem stepR_4 {e : Ept} {c : Chg} (h : c.kind = 4) : stepR e c =
    (
    if e.least = c.number then .error 41 else .ok ({ e with least := c.number }, ⟨c.endpoint, c.kind, e.least, 0, zeroId⟩)) := by
  unfold stepR; rw [if_neg (by rw [h]; decide)]; rw [if_neg (by rw [h]; decide)]; rw [if_neg (by rw [h]; decide)]; rw [if_pos h]
theorem stepR_5 {e : Ept} {c : Chg} (h : c.kind = 5) : stepR e c =
    (
    if ¬ (0 ≤ c.at_ ∧ c.at_ ≤ (e.ids.length : Nat)) then .error 2
    else if 0 ≤ keyIdx c.idn.keyId e.ids then .error 41
    else .ok ({ e with ids := e.ids.take c.at_.toNat ++ [c.idn] ++ e.ids.drop c.at_.toNat }, ⟨c.endpoint, 6, c.idn.keyId, 0, zeroId⟩)) := by
  unfold stepR; rw [if_neg (by rw [h]; decide)]; rw [if_neg (by rw [h]; decide)]; rw [if_neg (by rw [h]; decide)]; rw [if_neg (by rw [h]; decide)]; rw [if_pos h]
theorem stepR_6 {e : Ept} {c : Chg} (h : c.kind = 6) : stepR e c =
    (
    match e.ids[(keyIdx c.number e.ids).toNat]? with
    | none => .error 41
    | some x =>
      if keyIdx c.number e.ids < 0 then .error 41
      else if ((e.ids.drop (keyIdx c.number e.ids + 1).toNat).any fun x => x.keyId == c.number) = true then .error 5
      else .ok ({ e with ids := e.ids.eraseIdx (keyIdx c.number e.ids).toNat }, ⟨c.endpoint, 5, 0, keyIdx c.number e.ids, x⟩)) := by
  unfold stepR; rw [if_neg (by rw [h]; decide)]; rw [if_neg (by rw [h]; decide)]; rw [if_neg (by rw [h]; decide)]; rw [if_neg (by rw [h]; decide)]; rw [if_neg (by rw [h]; decide)]; rw [if_pos h]
theorem stepR_7 {e : Ept} {c : Chg} (h : c.kind = 7) : stepR e c =
    (
    if hasX e.anchors c.number = true then .error 41 else .ok ({ e with anchors := insX e.anchors c.number }, ⟨c.endpoint, 8, c.number, 0, zeroId⟩)) := by
  unfold stepR; rw [if_neg (by rw [h]; decide)]; rw [if_neg (by rw [h]; decide)]; rw [if_neg (by rw [h]; decide)]; rw [if_neg (by rw [h]; decide)]; rw [if_neg (by rw [h]; decide)]; rw [if_neg (by rw [h]; decide)]; rw [if_pos h]
theorem stepR_8 {e : Ept} {c : Chg} (h : c.kind = 8) : stepR e c =
    (
    if hasX e.anchors c.number = true then .ok ({ e with anchors := e.anchors.eraseIdx (posI e.anchors c.number) }, ⟨c.endpoint, 7, c.number, 0, zeroId⟩) else .error 41) := by
  unfold stepR; rw [if_neg (by rw [h]; decide)]; rw [if_neg (by rw [h]; decide)]; rw [if_neg (by rw [h]; decide)]; rw [if_neg (by rw [h]; decide)]; rw [if_neg (by rw [h]; decide)]; rw [if_neg (by rw [h]; decide)]; rw [if_neg (by rw [h]; decide)]; rw [if_pos h]
theorem stepR_9 {e : Ept} {c : Chg} (h : c.kind = 9) : stepR e c =
    (
    if hasX e.hashes c.number = true then .error 41 else .ok ({ e with hashes := insX e.hashes c.number }, ⟨c.endpoint, 10, c.number, 0, zeroId⟩)) := by
  unfold stepR; rw [if_neg (by rw [h]; decide)]; rw [if_neg (by rw [h]; decide)]; rw [if_neg (by rw [h]; decide)]; rw [if_neg (by rw [h]; decide)]; rw [if_neg (by rw [h]; decide)]; rw [if_neg (by rw [h]; decide)]; rw [if_neg (by rw [h]; decide)]; rw [if_neg (by rw [h]; decide)]; rw [if_pos h]
theorem stepR_10 {e : Ept} {c : Chg} (h : c.kind = 10) : stepR e c =
    (
    if hasX e.hashes c.number = true then .ok ({ e with hashes := e.hashes.eraseIdx (posI e.hashes c.number) }, ⟨c.endpoint, 9, c.number, 0, zeroId⟩) else .error 41) := by
  unfold stepR; rw [if_neg (by rw [h]; decide)]; rw [if_neg (by rw [h]; decide)]; rw [if_neg (by rw [h]; decide)]; rw [if_neg (by rw [h]; decide)]; rw [if_neg (by rw [h]; decide)]; rw [if_neg (by rw [h]; decide)]; rw [if_neg (by rw [h]; decide)]; rw [if_neg (by rw [h]; decide)]; rw [if_neg (by rw [h]; decide)]; rw [if_pos h]
theorem stepR_11 {e : Ept} {c : Chg} (h : c.kind = 11) : stepR e c =
    (
    if ¬ (0 ≤ c.number ∧ c.number ≤ 1) then .error 2
    else if bitI e.fall = c.number then .error 41 else .ok ({ e with fall := (c.number == 1) }, ⟨c.endpoint, c.kind, bitI e.fall, 0, zeroId⟩)) := by
  unfold stepR; rw [if_neg (by rw [h]; decide)]; rw [if_neg (by rw [h]; decide)]; rw [if_neg (by rw [h]; decide)]; rw [if_neg (by rw [h]; decide)]; rw [if_neg (by rw [h]; decide)]; rw [if_neg (by rw [h]; decide)]; rw [if_neg (by rw [h]; decide)]; rw [if_neg (by rw [h]; decide)]; rw [if_neg (by rw [h]; decide)]; rw [if_neg (by rw [h]; decide)]; rw [if_pos h]
theorem stepR_12 {e : Ept} {c : Chg} (h : c.kind = 12) : stepR e c =
    (
    if ¬ (0 ≤ c.number ∧ c.number ≤ 1) then .error 2
    else if bitI e.own = c.number then .error 41 else .ok ({ e with own := (c.number == 1) }, ⟨c.endpoint, c.kind, bitI e.own, 0, zeroId⟩)) := by
  unfold stepR; rw [if_neg (by rw [h]; decide)]; rw [if_neg (by rw [h]; decide)]; rw [if_neg (by rw [h]; decide)]; rw [if_neg (by rw [h]; decide)]; rw [if_neg (by rw [h]; decide)]; rw [if_neg (by rw [h]; decide)]; rw [if_neg (by rw [h]; decide)]; rw [if_neg (by rw [h]; decide)]; rw [if_neg (by rw [h]; decide)]; rw [if_neg (by rw [h]; decide)]; rw [if_neg (by rw [h]; decide)]
theorem doneR_err {e : Ept} {c : Chg} {f : Int} (h : eptB e = true) (hc : okCh c) (hs : stepR e c = .error f) : doneR e c = (zeroEp, zeroChg, f) := by
  unfold doneR; rw [if_neg (by rw [h]; decide), if_neg (fun h => h hc), hs]
theorem doneR_ok {e : Ept} {c : Chg} {e2 : Ept} {b : Chg} (h : eptB e = true) (hc : okCh c) (hs : stepR e c = .ok (e2, b)) (h2 : eptB e2 = true) : doneR e c = (e2, b, 0) := by
  unfold doneR; rw [if_neg (by rw [h]; decide), if_neg (fun h => h hc), hs]; exact if_pos h2
theorem doneR_v {e : Ept} {c : Chg} {e2 : Ept} {b : Chg} (h : eptB e = true) (hc : okCh c) (hs : stepR e c = .ok (e2, b)) (h2 : eptB e2 = false) : doneR e c = (zeroEp, zeroChg, 18) := by
  unfold doneR; rw [if_neg (by rw [h]; decide), if_neg (fun h => h hc), hs]; exact if_neg (by rw [h2]; decide)
abbrev tupR (r : Ept × Chg × Int) : Pr := tup [agg (rowEp r.1), agg (rowChg r.2.1), int r.2.2]
structure EptOk (e : Ept) : Prop where
  name : wordB e.name = true
  least : 1 ≤ e.least
  lm : e.least ≤ e.most
  most : e.most ≤ 4
  suites : suitesB e.suites = true
  idl : e.ids.length ≤ 4
  ancl : e.anchors.length ≤ 16
  anc : ascB e.anchors = true
  hash : ascB e.hashes = true
  ids : e.ids.all idB = true
  keys : e.anchors.all keyB = true
  hsh : e.hashes.all hashB = true
theorem eptB_iff {e : Ept} : eptB e = true ↔ EptOk e := by
  unfold eptB; simp only [Bool.and_eq_true, decide_eq_true_eq]
  exact ⟨fun ⟨⟨⟨⟨⟨⟨⟨⟨a, b⟩, c⟩, d⟩, f⟩, ⟨⟨⟨g, h⟩, i⟩, j⟩⟩, k⟩, l⟩, m⟩ => ⟨a, b, c, d, f, g, h, i, j, k, l, m⟩, fun ⟨a, b, c, d, f, g, h, i, j, k, l, m⟩ => ⟨⟨⟨⟨⟨⟨⟨⟨a, b⟩, c⟩, d⟩, f⟩, ⟨⟨⟨g, h⟩, i⟩, j⟩⟩, k⟩, l⟩, m⟩⟩


theorem dn_errn {e : Ept} {c : Chg} {fk : Nat} (hf : e.fits) (hsm : e.small) (hce : eptB e = true) (hc : okCh c) (hkp : kindsP[c.kind.toNat]? = some (fn (.func fk) [])) {f : Int} (hs : stepR e c = .error f) (he : f ≠ 0) (hm : ∀ (wb ob : Nat) (v : Value), FunD Tryz.prog fk [ptr wb 0] [resW wb ob c (back0 c), resO ob e (ints e.suites) (is v) (ints e.anchors) (ints e.hashes), oweRes 27 4 (e.ids.map rowId) v] (int f) []) : Fun Tryz.prog 74 [agg (rowEp e), agg (rowChg c)] (tupR (doneR e c)) := by
  rw [doneR_err hce hc hs]; exact w_donenE (e2 := zeroEp) (b := zeroChg) hf hsm hce hc.1 hc.2 hkp he hm
theorem dn_okn {e : Ept} {c : Chg} {fk : Nat} (hf : e.fits) (hsm : e.small) (hce : eptB e = true) (hc : okCh c) (hkp : kindsP[c.kind.toNat]? = some (fn (.func fk) [])) {e2 : Ept} {b : Chg} (hs : stepR e c = .ok (e2, b)) (hbk : b.idn.small) (hf2 : e2.fits) (hm : ∀ (wb ob : Nat) (v : Value), FunD Tryz.prog fk [ptr wb 0] [resW wb ob c (back0 c), resO ob e (ints e.suites) (is v) (ints e.anchors) (ints e.hashes), oweRes 27 4 (e.ids.map rowId) v] (int 0) [resW wb ob c b, cellsRes true ob 32 (rowEp e2)]) : Fun Tryz.prog 74 [agg (rowEp e), agg (rowChg c)] (tupR (doneR e c)) := by
  cases h2 : eptB e2 with
  | true => rw [doneR_ok hce hc hs h2]; exact w_donenY (err := 0) hf hsm hce hc.1 hc.2 hkp hbk hf2 h2 hm
  | false => rw [doneR_v hce hc hs h2]; exact w_donenV (err := 0) hf hsm hce hc.1 hc.2 hkp hbk hf2 h2 hm


theorem dn_errs {e : Ept} {c : Chg} {fk : Nat} (hf : e.fits) (hsm : e.small) (hce : eptB e = true) (hc : okCh c) (hkp : kindsP[c.kind.toNat]? = some (fn (.func fk) [])) {f : Int} (hs : stepR e c = .error f) (he : f ≠ 0) (hm : ∀ (wb ob : Nat) (v : Value), FunD Tryz.prog fk [ptr wb 0] [resW wb ob c (back0 c), resO ob e (is v) (idns e.ids) (ints e.anchors) (ints e.hashes), oweRes 3 1 (e.suites.map fun n => [int n]) v] (int f) []) : Fun Tryz.prog 74 [agg (rowEp e), agg (rowChg c)] (tupR (doneR e c)) := by
  rw [doneR_err hce hc hs]; exact w_donesE (e2 := zeroEp) (b := zeroChg) hf hsm hce hc.1 hc.2 hkp he hm
theorem dn_oks {e : Ept} {c : Chg} {fk : Nat} (hf : e.fits) (hsm : e.small) (hce : eptB e = true) (hc : okCh c) (hkp : kindsP[c.kind.toNat]? = some (fn (.func fk) [])) {e2 : Ept} {b : Chg} (hs : stepR e c = .ok (e2, b)) (hbk : b.idn.small) (hf2 : e2.fits) (hm : ∀ (wb ob : Nat) (v : Value), FunD Tryz.prog fk [ptr wb 0] [resW wb ob c (back0 c), resO ob e (is v) (idns e.ids) (ints e.anchors) (ints e.hashes), oweRes 3 1 (e.suites.map fun n => [int n]) v] (int 0) [resW wb ob c b, cellsRes true ob 32 (rowEp e2)]) : Fun Tryz.prog 74 [agg (rowEp e), agg (rowChg c)] (tupR (doneR e c)) := by
  cases h2 : eptB e2 with
  | true => rw [doneR_ok hce hc hs h2]; exact w_donesY (err := 0) hf hsm hce hc.1 hc.2 hkp hbk hf2 h2 hm
  | false => rw [doneR_v hce hc hs h2]; exact w_donesV (err := 0) hf hsm hce hc.1 hc.2 hkp hbk hf2 h2 hm


theorem dn_erra {e : Ept} {c : Chg} {fk : Nat} (hf : e.fits) (hsm : e.small) (hce : eptB e = true) (hc : okCh c) (hkp : kindsP[c.kind.toNat]? = some (fn (.func fk) [])) {f : Int} (hs : stepR e c = .error f) (he : f ≠ 0) (hm : ∀ (wb ob : Nat) (v : Value), FunD Tryz.prog fk [ptr wb 0] [resW wb ob c (back0 c), resO ob e (ints e.suites) (idns e.ids) (is v) (ints e.hashes), oweRes 3 1 (e.anchors.map fun n => [int n]) v] (int f) []) : Fun Tryz.prog 74 [agg (rowEp e), agg (rowChg c)] (tupR (doneR e c)) := by
  rw [doneR_err hce hc hs]; exact w_doneaE (e2 := zeroEp) (b := zeroChg) hf hsm hce hc.1 hc.2 hkp he hm
theorem dn_oka {e : Ept} {c : Chg} {fk : Nat} (hf : e.fits) (hsm : e.small) (hce : eptB e = true) (hc : okCh c) (hkp : kindsP[c.kind.toNat]? = some (fn (.func fk) [])) {e2 : Ept} {b : Chg} (hs : stepR e c = .ok (e2, b)) (hbk : b.idn.small) (hf2 : e2.fits) (hm : ∀ (wb ob : Nat) (v : Value), FunD Tryz.prog fk [ptr wb 0] [resW wb ob c (back0 c), resO ob e (ints e.suites) (idns e.ids) (is v) (ints e.hashes), oweRes 3 1 (e.anchors.map fun n => [int n]) v] (int 0) [resW wb ob c b, cellsRes true ob 32 (rowEp e2)]) : Fun Tryz.prog 74 [agg (rowEp e), agg (rowChg c)] (tupR (doneR e c)) := by
  cases h2 : eptB e2 with
  | true => rw [doneR_ok hce hc hs h2]; exact w_doneaY (err := 0) hf hsm hce hc.1 hc.2 hkp hbk hf2 h2 hm
  | false => rw [doneR_v hce hc hs h2]; exact w_doneaV (err := 0) hf hsm hce hc.1 hc.2 hkp hbk hf2 h2 hm


theorem dn_errh {e : Ept} {c : Chg} {fk : Nat} (hf : e.fits) (hsm : e.small) (hce : eptB e = true) (hc : okCh c) (hkp : kindsP[c.kind.toNat]? = some (fn (.func fk) [])) {f : Int} (hs : stepR e c = .error f) (he : f ≠ 0) (hm : ∀ (wb ob : Nat) (v : Value), FunD Tryz.prog fk [ptr wb 0] [resW wb ob c (back0 c), resO ob e (ints e.suites) (idns e.ids) (ints e.anchors) (is v), oweRes 3 1 (e.hashes.map fun n => [int n]) v] (int f) []) : Fun Tryz.prog 74 [agg (rowEp e), agg (rowChg c)] (tupR (doneR e c)) := by
  rw [doneR_err hce hc hs]; exact w_donehE (e2 := zeroEp) (b := zeroChg) hf hsm hce hc.1 hc.2 hkp he hm
theorem dn_okh {e : Ept} {c : Chg} {fk : Nat} (hf : e.fits) (hsm : e.small) (hce : eptB e = true) (hc : okCh c) (hkp : kindsP[c.kind.toNat]? = some (fn (.func fk) [])) {e2 : Ept} {b : Chg} (hs : stepR e c = .ok (e2, b)) (hbk : b.idn.small) (hf2 : e2.fits) (hm : ∀ (wb ob : Nat) (v : Value), FunD Tryz.prog fk [ptr wb 0] [resW wb ob c (back0 c), resO ob e (ints e.suites) (idns e.ids) (ints e.anchors) (is v), oweRes 3 1 (e.hashes.map fun n => [int n]) v] (int 0) [resW wb ob c b, cellsRes true ob 32 (rowEp e2)]) : Fun Tryz.prog 74 [agg (rowEp e), agg (rowChg c)] (tupR (doneR e c)) := by
  cases h2 : eptB e2 with
  | true => rw [doneR_ok hce hc hs h2]; exact w_donehY (err := 0) hf hsm hce hc.1 hc.2 hkp hbk hf2 h2 hm
  | false => rw [doneR_v hce hc hs h2]; exact w_donehV (err := 0) hf hsm hce hc.1 hc.2 hkp hbk hf2 h2 hm


theorem dn_errz {e : Ept} {c : Chg} {fk : Nat} (hf : e.fits) (hsm : e.small) (hce : eptB e = true) (hc : okCh c) (hkp : kindsP[c.kind.toNat]? = some (fn (.func fk) [])) {f : Int} (hs : stepR e c = .error f) (he : f ≠ 0) (hm : ∀ (wb ob : Nat), FunD Tryz.prog fk [ptr wb 0] [resW wb ob c (back0 c), resO ob e (ints e.suites) (idns e.ids) (ints e.anchors) (ints e.hashes)] (int f) []) : Fun Tryz.prog 74 [agg (rowEp e), agg (rowChg c)] (tupR (doneR e c)) := by
  rw [doneR_err hce hc hs]; exact w_donezE (e2 := zeroEp) (b := zeroChg) hf hsm hce hc.1 hc.2 hkp he hm
theorem dn_okz {e : Ept} {c : Chg} {fk : Nat} (hf : e.fits) (hsm : e.small) (hce : eptB e = true) (hc : okCh c) (hkp : kindsP[c.kind.toNat]? = some (fn (.func fk) [])) {e2 : Ept} {b : Chg} (hs : stepR e c = .ok (e2, b)) (hbk : b.idn.small) (hf2 : e2.fits) (hm : ∀ (wb ob : Nat), FunD Tryz.prog fk [ptr wb 0] [resW wb ob c (back0 c), resO ob e (ints e.suites) (idns e.ids) (ints e.anchors) (ints e.hashes)] (int 0) [resW wb ob c b, cellsRes true ob 32 (rowEp e2)]) : Fun Tryz.prog 74 [agg (rowEp e), agg (rowChg c)] (tupR (doneR e c)) := by
  cases h2 : eptB e2 with
  | true => rw [doneR_ok hce hc hs h2]; exact w_donezY (err := 0) hf hsm hce hc.1 hc.2 hkp hbk hf2 h2 hm
  | false => rw [doneR_v hce hc hs h2]; exact w_donezV (err := 0) hf hsm hce hc.1 hc.2 hkp hbk hf2 h2 hm


theorem id0_small : zeroId.small := ⟨by show 0 ≤ _; omega, fun c hc => by cases hc⟩
theorem ids_ins {l : List Idn} {x : Idn} {i : Nat} (h : ∀ y ∈ l, y.fits) (hx : x.fits) : ∀ y ∈ l.take i ++ [x] ++ l.drop i, y.fits := by
  intro y hy
  simp only [List.mem_append, List.mem_cons, List.not_mem_nil, or_false] at hy
  rcases hy with (hy | rfl) | hy
  · exact h y (List.mem_of_mem_take hy)
  · exact hx
  · exact h y (List.mem_of_mem_drop hy)
theorem ids_del {l : List Idn} {i : Nat} (h : ∀ y ∈ l, y.fits) : ∀ y ∈ l.eraseIdx i, y.fits := fun y hy => h y (List.mem_of_mem_eraseIdx hy)
theorem w_done {e : Ept} {c : Chg} (hf : e.fits) (hsm : e.small) (hcf : c.idn.fits) (hcs : c.idn.small) : Fun Tryz.prog 74 [agg (rowEp e), agg (rowChg c)] (tupR (doneR e c)) := by
  cases hce : eptB e with
  | false => rw [show doneR e c = (zeroEp, zeroChg, 19) from if_pos hce]; exact w_done0 hf hce
  | true =>
  by_cases hc : okCh c
  case neg => rw [show doneR e c = (zeroEp, zeroChg, 40) from (if_neg (by rw [hce]; decide)).trans (if_pos hc)]; exact w_done1 hf hce hc
  have ok := eptB_iff.1 hce
  have hk := hc.1
  have h0 : c.kind = 1 ∨ c.kind = 2 ∨ c.kind = 3 ∨ c.kind = 4 ∨ c.kind = 5 ∨ c.kind = 6 ∨ c.kind = 7 ∨ c.kind = 8 ∨ c.kind = 9 ∨ c.kind = 10 ∨ c.kind = 11 ∨ c.kind = 12 := by omega
  rcases h0 with h1 | h2 | h3 | h4 | h5 | h6 | h7 | h8 | h9 | h10 | h11 | h12
  · -- kind 1
    by_cases hr : 0 ≤ c.at_ ∧ c.at_ ≤ (e.suites.length : Nat)
    by_cases h : (e.suites.any fun y => c.number == y) = true
    · exact dn_errs hf hsm hce hc (fk := 167) (by rw [h1]; rfl) (by unfold stepR; rw [if_pos h1]; rw [if_neg (fun h => h hr)]; exact if_pos h) (by decide) (fun wb ob v => w_addSuiteT (e := e) (c := c) (b := back0 c) hr hsm.suites h)
    · exact dn_oks hf hsm hce hc (fk := 167) (e2 := { e with suites := e.suites.take c.at_.toNat ++ [c.number] ++ e.suites.drop c.at_.toNat }) (b := ⟨c.endpoint, 2, c.number, 0, zeroId⟩) (by rw [h1]; rfl) (by unfold stepR; rw [if_pos h1]; rw [if_neg (fun h => h hr)]; exact if_neg h) id0_small ⟨hf.name, hf.ids⟩ (fun wb ob v => FunD.perm (w_addSuiteY (e := e) (c := c) (b := back0 c) hr hsm.suites (Bool.eq_false_iff.2 h)) (List.Perm.swap _ _ _))
    · exact dn_errs hf hsm hce hc (fk := 167) (by rw [h1]; rfl) (by unfold stepR; rw [if_pos h1]; exact if_pos hr) (by decide) (fun wb ob v => w_addSuiteR (e := e) (c := c) (b := back0 c) hr)
  · -- kind 2
    by_cases h : sIdx e c < 0
    · exact dn_errs hf hsm hce hc (fk := 168) (by rw [h2]; rfl) (by unfold stepR; rw [if_neg (by rw [h2]; decide)]; rw [if_pos h2]; exact if_pos h) (by decide) (fun wb ob v => w_dropSuiteN (e := e) (c := c) (b := back0 c) h)
    · exact dn_oks hf hsm hce hc (fk := 168) (e2 := { e with suites := e.suites.eraseIdx (sIdx e c).toNat }) (b := ⟨c.endpoint, 1, c.number, sIdx e c, zeroId⟩) (by rw [h2]; rfl) (by unfold stepR; rw [if_neg (by rw [h2]; decide)]; rw [if_pos h2]; exact if_neg h) id0_small ⟨hf.name, hf.ids⟩ (fun wb ob v => w_dropSuiteY (e := e) (c := c) (b := back0 c) (by unfold sIdx at h; omega) hsm.suites)
  · -- kind 3
    by_cases h : e.most = c.number
    · exact dn_errz hf hsm hce hc (fk := 169) (by rw [h3]; rfl) (by unfold stepR; rw [if_neg (by rw [h3]; decide)]; rw [if_neg (by rw [h3]; decide)]; rw [if_pos h3]; exact if_pos h) (by decide) (fun wb ob => w_fsetMostT (e := e) (c := c) (b := back0 c) h)
    · exact dn_okz hf hsm hce hc (fk := 169) (e2 := { e with most := c.number }) (b := ⟨c.endpoint, c.kind, e.most, 0, zeroId⟩) (by rw [h3]; rfl) (by unfold stepR; rw [if_neg (by rw [h3]; decide)]; rw [if_neg (by rw [h3]; decide)]; rw [if_pos h3]; exact if_neg h) id0_small ⟨hf.name, hf.ids⟩ (fun wb ob => w_fsetMostY (e := e) (c := c) (b := back0 c) h)
  · -- kind 4
    by_cases h : e.least = c.number
    · exact dn_errz hf hsm hce hc (fk := 170) (by rw [h4]; rfl) (by unfold stepR; rw [if_neg (by rw [h4]; decide)]; rw [if_neg (by rw [h4]; decide)]; rw [if_neg (by rw [h4]; decide)]; rw [if_pos h4]; exact if_pos h) (by decide) (fun wb ob => w_fsetLeastT (e := e) (c := c) (b := back0 c) h)
    · exact dn_okz hf hsm hce hc (fk := 170) (e2 := { e with least := c.number }) (b := ⟨c.endpoint, c.kind, e.least, 0, zeroId⟩) (by rw [h4]; rfl) (by unfold stepR; rw [if_neg (by rw [h4]; decide)]; rw [if_neg (by rw [h4]; decide)]; rw [if_neg (by rw [h4]; decide)]; rw [if_pos h4]; exact if_neg h) id0_small ⟨hf.name, hf.ids⟩ (fun wb ob => w_fsetLeastY (e := e) (c := c) (b := back0 c) h)
  · -- kind 5
    by_cases hr : 0 ≤ c.at_ ∧ c.at_ ≤ (e.ids.length : Nat)
    by_cases h : 0 ≤ keyIdx c.idn.keyId e.ids
    · exact dn_errn hf hsm hce hc (fk := 171) (by rw [h5]; rfl) (by unfold stepR; rw [if_neg (by rw [h5]; decide)]; rw [if_neg (by rw [h5]; decide)]; rw [if_neg (by rw [h5]; decide)]; rw [if_neg (by rw [h5]; decide)]; rw [if_pos h5]; rw [if_neg (fun h => h hr)]; exact if_pos h) (by decide) (fun wb ob v => w_addIdnT (e := e) (c := c) (b := back0 c) hcs hr hsm.idl h)
    · exact dn_okn hf hsm hce hc (fk := 171) (e2 := { e with ids := e.ids.take c.at_.toNat ++ [c.idn] ++ e.ids.drop c.at_.toNat }) (b := ⟨c.endpoint, 6, c.idn.keyId, 0, zeroId⟩) (by rw [h5]; rfl) (by unfold stepR; rw [if_neg (by rw [h5]; decide)]; rw [if_neg (by rw [h5]; decide)]; rw [if_neg (by rw [h5]; decide)]; rw [if_neg (by rw [h5]; decide)]; rw [if_pos h5]; rw [if_neg (fun h => h hr)]; exact if_neg h) id0_small ⟨hf.name, ids_ins hf.ids hcf⟩ (fun wb ob v => FunD.perm (w_addIdnY (e := e) (c := c) (b := back0 c) hcs hr hsm.idl (by omega)) (List.Perm.swap _ _ _))
    · exact dn_errn hf hsm hce hc (fk := 171) (by rw [h5]; rfl) (by unfold stepR; rw [if_neg (by rw [h5]; decide)]; rw [if_neg (by rw [h5]; decide)]; rw [if_neg (by rw [h5]; decide)]; rw [if_neg (by rw [h5]; decide)]; rw [if_pos h5]; exact if_pos hr) (by decide) (fun wb ob v => w_addIdnR (e := e) (c := c) (b := back0 c) hcs hr)
  · -- kind 6
    by_cases h : keyIdx c.number e.ids < 0
    · exact dn_errn hf hsm hce hc (fk := 172) (by rw [h6]; rfl) (by unfold stepR; rw [if_neg (by rw [h6]; decide)]; rw [if_neg (by rw [h6]; decide)]; rw [if_neg (by rw [h6]; decide)]; rw [if_neg (by rw [h6]; decide)]; rw [if_neg (by rw [h6]; decide)]; rw [if_pos h6]; cases e.ids[(keyIdx c.number e.ids).toNat]? <;> first | rfl | exact if_pos h) (by decide) (fun wb ob v => w_dropIdnN (e := e) (c := c) (b := back0 c) (x := zeroId) h)
    obtain ⟨x, hx, _, _⟩ := idx_hit (p := fun x : Idn => x.keyId == c.number) (l := e.ids) (by unfold keyIdx at h; omega)
    have hx : e.ids[(keyIdx c.number e.ids).toNat]? = some x := hx
    by_cases ht : ((e.ids.drop (keyIdx c.number e.ids + 1).toNat).any fun x => x.keyId == c.number) = true
    · exact dn_errn hf hsm hce hc (fk := 172) (by rw [h6]; rfl) (by unfold stepR; rw [if_neg (by rw [h6]; decide)]; rw [if_neg (by rw [h6]; decide)]; rw [if_neg (by rw [h6]; decide)]; rw [if_neg (by rw [h6]; decide)]; rw [if_neg (by rw [h6]; decide)]; rw [if_pos h6]; rw [hx]; exact (if_neg h).trans (if_pos ht)) (by decide) (fun wb ob v => w_dropIdnT (e := e) (c := c) (b := back0 c) (x := x) (by omega) hx ht hsm.idl)
    · exact dn_okn hf hsm hce hc (fk := 172) (e2 := { e with ids := e.ids.eraseIdx (keyIdx c.number e.ids).toNat }) (b := ⟨c.endpoint, 5, 0, keyIdx c.number e.ids, x⟩) (by rw [h6]; rfl) (by unfold stepR; rw [if_neg (by rw [h6]; decide)]; rw [if_neg (by rw [h6]; decide)]; rw [if_neg (by rw [h6]; decide)]; rw [if_neg (by rw [h6]; decide)]; rw [if_neg (by rw [h6]; decide)]; rw [if_pos h6]; rw [hx]; exact (if_neg h).trans (if_neg ht)) (hsm.ids x (List.mem_of_getElem? hx)) ⟨hf.name, ids_del hf.ids⟩ (fun wb ob v => w_dropIdnY (e := e) (c := c) (b := back0 c) (x := x) (by omega) hx (Bool.eq_false_iff.2 ht) hsm.idl)
  · -- kind 7
    by_cases h : hasX e.anchors c.number = true
    · exact dn_erra hf hsm hce hc (fk := 173) (by rw [h7]; rfl) (by unfold stepR; rw [if_neg (by rw [h7]; decide)]; rw [if_neg (by rw [h7]; decide)]; rw [if_neg (by rw [h7]; decide)]; rw [if_neg (by rw [h7]; decide)]; rw [if_neg (by rw [h7]; decide)]; rw [if_neg (by rw [h7]; decide)]; rw [if_pos h7]; exact if_pos h) (by decide) (fun wb ob v => w_addAnchorT (e := e) (c := c) (b := back0 c) (ascI_of ok.anc) hsm.anchors h)
    · exact dn_oka hf hsm hce hc (fk := 173) (e2 := { e with anchors := insX e.anchors c.number }) (b := ⟨c.endpoint, 8, c.number, 0, zeroId⟩) (by rw [h7]; rfl) (by unfold stepR; rw [if_neg (by rw [h7]; decide)]; rw [if_neg (by rw [h7]; decide)]; rw [if_neg (by rw [h7]; decide)]; rw [if_neg (by rw [h7]; decide)]; rw [if_neg (by rw [h7]; decide)]; rw [if_neg (by rw [h7]; decide)]; rw [if_pos h7]; exact if_neg h) id0_small ⟨hf.name, hf.ids⟩ (fun wb ob v => w_addAnchorY (e := e) (c := c) (b := back0 c) (ascI_of ok.anc) hsm.anchors (Bool.eq_false_iff.2 h))
  · -- kind 8
    by_cases h : hasX e.anchors c.number = true
    · exact dn_oka hf hsm hce hc (fk := 174) (e2 := { e with anchors := e.anchors.eraseIdx (posI e.anchors c.number) }) (b := ⟨c.endpoint, 7, c.number, 0, zeroId⟩) (by rw [h8]; rfl) (by unfold stepR; rw [if_neg (by rw [h8]; decide)]; rw [if_neg (by rw [h8]; decide)]; rw [if_neg (by rw [h8]; decide)]; rw [if_neg (by rw [h8]; decide)]; rw [if_neg (by rw [h8]; decide)]; rw [if_neg (by rw [h8]; decide)]; rw [if_neg (by rw [h8]; decide)]; rw [if_pos h8]; exact if_pos h) id0_small ⟨hf.name, hf.ids⟩ (fun wb ob v => w_dropAnchorY (e := e) (c := c) (b := back0 c) (ascI_of ok.anc) hsm.anchors h)
    · exact dn_erra hf hsm hce hc (fk := 174) (by rw [h8]; rfl) (by unfold stepR; rw [if_neg (by rw [h8]; decide)]; rw [if_neg (by rw [h8]; decide)]; rw [if_neg (by rw [h8]; decide)]; rw [if_neg (by rw [h8]; decide)]; rw [if_neg (by rw [h8]; decide)]; rw [if_neg (by rw [h8]; decide)]; rw [if_neg (by rw [h8]; decide)]; rw [if_pos h8]; exact if_neg h) (by decide) (fun wb ob v => w_dropAnchorT (e := e) (c := c) (b := back0 c) (ascI_of ok.anc) hsm.anchors (Bool.eq_false_iff.2 h))
  · -- kind 9
    by_cases h : hasX e.hashes c.number = true
    · exact dn_errh hf hsm hce hc (fk := 175) (by rw [h9]; rfl) (by unfold stepR; rw [if_neg (by rw [h9]; decide)]; rw [if_neg (by rw [h9]; decide)]; rw [if_neg (by rw [h9]; decide)]; rw [if_neg (by rw [h9]; decide)]; rw [if_neg (by rw [h9]; decide)]; rw [if_neg (by rw [h9]; decide)]; rw [if_neg (by rw [h9]; decide)]; rw [if_neg (by rw [h9]; decide)]; rw [if_pos h9]; exact if_pos h) (by decide) (fun wb ob v => w_addHashT (e := e) (c := c) (b := back0 c) (ascI_of ok.hash) hsm.hashes h)
    · exact dn_okh hf hsm hce hc (fk := 175) (e2 := { e with hashes := insX e.hashes c.number }) (b := ⟨c.endpoint, 10, c.number, 0, zeroId⟩) (by rw [h9]; rfl) (by unfold stepR; rw [if_neg (by rw [h9]; decide)]; rw [if_neg (by rw [h9]; decide)]; rw [if_neg (by rw [h9]; decide)]; rw [if_neg (by rw [h9]; decide)]; rw [if_neg (by rw [h9]; decide)]; rw [if_neg (by rw [h9]; decide)]; rw [if_neg (by rw [h9]; decide)]; rw [if_neg (by rw [h9]; decide)]; rw [if_pos h9]; exact if_neg h) id0_small ⟨hf.name, hf.ids⟩ (fun wb ob v => w_addHashY (e := e) (c := c) (b := back0 c) (ascI_of ok.hash) hsm.hashes (Bool.eq_false_iff.2 h))
  · -- kind 10
    by_cases h : hasX e.hashes c.number = true
    · exact dn_okh hf hsm hce hc (fk := 176) (e2 := { e with hashes := e.hashes.eraseIdx (posI e.hashes c.number) }) (b := ⟨c.endpoint, 9, c.number, 0, zeroId⟩) (by rw [h10]; rfl) (by unfold stepR; rw [if_neg (by rw [h10]; decide)]; rw [if_neg (by rw [h10]; decide)]; rw [if_neg (by rw [h10]; decide)]; rw [if_neg (by rw [h10]; decide)]; rw [if_neg (by rw [h10]; decide)]; rw [if_neg (by rw [h10]; decide)]; rw [if_neg (by rw [h10]; decide)]; rw [if_neg (by rw [h10]; decide)]; rw [if_neg (by rw [h10]; decide)]; rw [if_pos h10]; exact if_pos h) id0_small ⟨hf.name, hf.ids⟩ (fun wb ob v => w_dropHashY (e := e) (c := c) (b := back0 c) (ascI_of ok.hash) hsm.hashes h)
    · exact dn_errh hf hsm hce hc (fk := 176) (by rw [h10]; rfl) (by unfold stepR; rw [if_neg (by rw [h10]; decide)]; rw [if_neg (by rw [h10]; decide)]; rw [if_neg (by rw [h10]; decide)]; rw [if_neg (by rw [h10]; decide)]; rw [if_neg (by rw [h10]; decide)]; rw [if_neg (by rw [h10]; decide)]; rw [if_neg (by rw [h10]; decide)]; rw [if_neg (by rw [h10]; decide)]; rw [if_neg (by rw [h10]; decide)]; rw [if_pos h10]; exact if_neg h) (by decide) (fun wb ob v => w_dropHashT (e := e) (c := c) (b := back0 c) (ascI_of ok.hash) hsm.hashes (Bool.eq_false_iff.2 h))
  · -- kind 11
    by_cases hr : 0 ≤ c.number ∧ c.number ≤ 1
    by_cases h : bitI e.fall = c.number
    · exact dn_errz hf hsm hce hc (fk := 177) (by rw [h11]; rfl) (by unfold stepR; rw [if_neg (by rw [h11]; decide)]; rw [if_neg (by rw [h11]; decide)]; rw [if_neg (by rw [h11]; decide)]; rw [if_neg (by rw [h11]; decide)]; rw [if_neg (by rw [h11]; decide)]; rw [if_neg (by rw [h11]; decide)]; rw [if_neg (by rw [h11]; decide)]; rw [if_neg (by rw [h11]; decide)]; rw [if_neg (by rw [h11]; decide)]; rw [if_neg (by rw [h11]; decide)]; rw [if_pos h11]; rw [if_neg (fun h => h hr)]; exact if_pos h) (by decide) (fun wb ob => w_fsetFallbackT (e := e) (c := c) (b := back0 c) hr rfl h)
    · exact dn_okz hf hsm hce hc (fk := 177) (e2 := { e with fall := (c.number == 1) }) (b := ⟨c.endpoint, c.kind, bitI e.fall, 0, zeroId⟩) (by rw [h11]; rfl) (by unfold stepR; rw [if_neg (by rw [h11]; decide)]; rw [if_neg (by rw [h11]; decide)]; rw [if_neg (by rw [h11]; decide)]; rw [if_neg (by rw [h11]; decide)]; rw [if_neg (by rw [h11]; decide)]; rw [if_neg (by rw [h11]; decide)]; rw [if_neg (by rw [h11]; decide)]; rw [if_neg (by rw [h11]; decide)]; rw [if_neg (by rw [h11]; decide)]; rw [if_neg (by rw [h11]; decide)]; rw [if_pos h11]; rw [if_neg (fun h => h hr)]; exact if_neg h) id0_small ⟨hf.name, hf.ids⟩ (fun wb ob => w_fsetFallbackY (e := e) (c := c) (b := back0 c) hr rfl h)
    · exact dn_errz hf hsm hce hc (fk := 177) (by rw [h11]; rfl) (by unfold stepR; rw [if_neg (by rw [h11]; decide)]; rw [if_neg (by rw [h11]; decide)]; rw [if_neg (by rw [h11]; decide)]; rw [if_neg (by rw [h11]; decide)]; rw [if_neg (by rw [h11]; decide)]; rw [if_neg (by rw [h11]; decide)]; rw [if_neg (by rw [h11]; decide)]; rw [if_neg (by rw [h11]; decide)]; rw [if_neg (by rw [h11]; decide)]; rw [if_neg (by rw [h11]; decide)]; rw [if_pos h11]; exact if_pos hr) (by decide) (fun wb ob => w_fsetFallbackR (e := e) (c := c) (b := back0 c) hr)
  · -- kind 12
    by_cases hr : 0 ≤ c.number ∧ c.number ≤ 1
    by_cases h : bitI e.own = c.number
    · exact dn_errz hf hsm hce hc (fk := 178) (by rw [h12]; rfl) (by unfold stepR; rw [if_neg (by rw [h12]; decide)]; rw [if_neg (by rw [h12]; decide)]; rw [if_neg (by rw [h12]; decide)]; rw [if_neg (by rw [h12]; decide)]; rw [if_neg (by rw [h12]; decide)]; rw [if_neg (by rw [h12]; decide)]; rw [if_neg (by rw [h12]; decide)]; rw [if_neg (by rw [h12]; decide)]; rw [if_neg (by rw [h12]; decide)]; rw [if_neg (by rw [h12]; decide)]; rw [if_neg (by rw [h12]; decide)]; rw [if_neg (fun h => h hr)]; exact if_pos h) (by decide) (fun wb ob => w_fsetOrderT (e := e) (c := c) (b := back0 c) hr rfl h)
    · exact dn_okz hf hsm hce hc (fk := 178) (e2 := { e with own := (c.number == 1) }) (b := ⟨c.endpoint, c.kind, bitI e.own, 0, zeroId⟩) (by rw [h12]; rfl) (by unfold stepR; rw [if_neg (by rw [h12]; decide)]; rw [if_neg (by rw [h12]; decide)]; rw [if_neg (by rw [h12]; decide)]; rw [if_neg (by rw [h12]; decide)]; rw [if_neg (by rw [h12]; decide)]; rw [if_neg (by rw [h12]; decide)]; rw [if_neg (by rw [h12]; decide)]; rw [if_neg (by rw [h12]; decide)]; rw [if_neg (by rw [h12]; decide)]; rw [if_neg (by rw [h12]; decide)]; rw [if_neg (by rw [h12]; decide)]; rw [if_neg (fun h => h hr)]; exact if_neg h) id0_small ⟨hf.name, hf.ids⟩ (fun wb ob => w_fsetOrderY (e := e) (c := c) (b := back0 c) hr rfl h)
    · exact dn_errz hf hsm hce hc (fk := 178) (by rw [h12]; rfl) (by unfold stepR; rw [if_neg (by rw [h12]; decide)]; rw [if_neg (by rw [h12]; decide)]; rw [if_neg (by rw [h12]; decide)]; rw [if_neg (by rw [h12]; decide)]; rw [if_neg (by rw [h12]; decide)]; rw [if_neg (by rw [h12]; decide)]; rw [if_neg (by rw [h12]; decide)]; rw [if_neg (by rw [h12]; decide)]; rw [if_neg (by rw [h12]; decide)]; rw [if_neg (by rw [h12]; decide)]; rw [if_neg (by rw [h12]; decide)]; exact if_pos hr) (by decide) (fun wb ob => w_fsetOrderR (e := e) (c := c) (b := back0 c) hr)

theorem w_Apply24 {e : Ept} {c : Chg} (hf : e.fits) (hsm : e.small) (hcf : c.idn.fits) (hcs : c.idn.small) : Fun Tryz.prog 18 [agg (rowEp e), agg (rowChg c)] (tup [agg (rowEp (doneR e c).1), int (doneR e c).2.2]) := by
 refine fo Tryz.func18 rfl ⟨rfl, rfl⟩ fun M0 w0 => (Tr.seq (Tr.regT (tp rfl (ok_box rfl (VL.le (vl rfl) (agg_cellsP _))) (tp rfl (ok_box rfl (VL.le (vl rfl) (agg_cellsP _))) ?_))))
 refine TO.alloc rfl rfl (by decide) rfl z32 zo32 (fun b1 => ?_)
 refine ao ?_
 refine ao ?_
 refine tp rfl (kc2 (w_done hf hsm hcf hcs) rfl rfl rfl) ?_
 refine ao ?_
 refine TO.alloc rfl rfl (by decide) rfl z32 zo32 (fun b2 => ?_)
 refine TO.alloc rfl rfl (by decide) rfl z29 zo29 (fun b3 => ?_)
 refine sf 1 6 ⟨rfl, rfl, rfl⟩ rfl rfl rfl rfl ?_
 refine sf 0 7 ⟨rfl, rfl, rfl⟩ rfl rfl rfl rfl ?_
 refine ao ?_
 refine wk3 4 6 8 rfl ?_
 refine ao ?_
 refine TO.store_all 0 rfl rfl rfl (vl rfl) (VL.le (vl rfl) (agg_cellsP _)) rfl sz32 rfl rfl ?_
 refine ao ?_
 refine Tr.ret (Fin.retX2 rfl (RVal.cell 0 rfl rfl agg32 sz32 rfl (Pr.le_refl _)) (RVal.tmp rfl (Pr.le_refl _)) ?_)
 refine tup_le ⟨?_, ?_, trivial⟩
 · exact Pr.le_refl _
 · exact Pr.le_refl _
end Go.Proofs.YtppeeogffbpcbaaGreat
namespace Go.Proofs.YtppeeogffbpcbaaGreat
open Go Go.RowKit Cp
theorem eqv129 {d : Nat} {w : World} {x0 y0 : Int} {x1 y1 : Int} : (Op.equalIn (d + 2) 129 (.agg #[.int .i64 x0, .int .i64 x1]) (.agg #[.int .i64 y0, .int .i64 y1])).run Tryz.prog w = .ok (decide (x0 = y0 ∧ x1 = y1)) w := by
  have h := eqS (w := w) (d := d + 1) (xs := #[.int .i64 x0, .int .i64 x1]) (ys := #[.int .i64 y0, .int .i64 y1]) Tryz.underlying129 (by kernel_rfl) (eqF_cons (by decide) (part_leaf one3 rfl) (part_leaf one3 rfl) (eq_intL (d := d + 0) Tryz.underlying3) (eqF_cons (by decide) (part_leaf one3 rfl) (part_leaf one3 rfl) (eq_intL (d := d + 0) Tryz.underlying3) (eqF_nil)))
  refine h.trans (congrArg (fun b => Result.ok b w) ?_)
  rw [Bool.eq_iff_iff]; simp [and_assoc]
theorem ok_eq129 {E : Env} {I : Asn} {o : Oper} {u : TypeId} {x y : Operand} {x0 y0 : Int} {x1 y1 : Int} (ho : o.op = .binOp .eql 129 x y u) (hx : VL E x (agg [is (.int .i64 x0), is (.int .i64 x1)])) (hy : VL E y (agg [is (.int .i64 y0), is (.int .i64 y1)])) : OpOK Tryz.prog I o E (bool (decide (x0 = y0 ∧ x1 = y1))) :=
  ok_eqagg [.int .i64 x0, .int .i64 x1] [.int .i64 y0, .int .i64 y1] ho hx hy (by kernel_rfl) (fun w => by rw [show Op.equal 129 _ _ = Op.equalIn (9998 + 2) 129 _ _ from rfl]; exact eqv129)
theorem ok_ne129 {E : Env} {I : Asn} {o : Oper} {u : TypeId} {x y : Operand} {x0 y0 : Int} {x1 y1 : Int} (ho : o.op = .binOp .neq 129 x y u) (hx : VL E x (agg [is (.int .i64 x0), is (.int .i64 x1)])) (hy : VL E y (agg [is (.int .i64 y0), is (.int .i64 y1)])) : OpOK Tryz.prog I o E (bool (!decide (x0 = y0 ∧ x1 = y1))) :=
  ok_neagg [.int .i64 x0, .int .i64 x1] [.int .i64 y0, .int .i64 y1] ho hx hy (by kernel_rfl) (fun w => by rw [show Op.equal 129 _ _ = Op.equalIn (9998 + 2) 129 _ _ from rfl]; exact eqv129)

deriving instance DecidableEq for Crt
deriving instance DecidableEq for Idn
deriving instance DecidableEq for Ept
deriving instance DecidableEq for Chg
theorem sameY {α : Type} {a b : List α} {k : Nat} {x y : α} (ha : a[k]? = some x) (hb : b[k]? = some y) (h : a.take k = b.take k) (e : x = y) : a.take (k + 1) = b.take (k + 1) := by
  rw [List.take_add_one, List.take_add_one, ha, hb, h, e]
theorem sameN {α : Type} {a b : List α} {k : Nat} {x y : α} (ha : a[k]? = some x) (hb : b[k]? = some y) (e : ¬ x = y) : ¬ a = b := by
  rintro rfl; rw [ha] at hb; cases hb; exact e rfl
theorem sameA {α : Type} {a b : List α} (hl : a.length = b.length) (h : a.take a.length = b.take a.length) : a = b := by
  rw [List.take_length, hl, List.take_length] at h; exact h

theorem w_SameInts {a b : List (Int)}  : Fun Tryz.prog 82 [ints a, ints b] (bool (decide (a = b))) := by
 refine fo Tryz.func82 rfl ⟨rfl, rfl⟩ fun M0 w0 => (Tr.lenm 0 rfl fun hlm_0 => (Tr.lenm 1 rfl fun hlm_1 => ?_))
 refine ac ?_
 refine ac ?_
 refine Tr.cn rfl ?_ ?_ <;> intro h1 q1
 have hne : ¬ a.length = b.length := by simp_all; omega
 refine ac ?_
 refine ac ?_
 · refine bool_eq ?_; symm; rw [decide_eq_false_iff_not]; rintro rfl; exact hne rfl
 have hll : a.length = b.length := by simp_all; omega
 refine ac ?_
 refine ac ?_
 refine Tr.block (Tr.loopw [(0, _), (1, _)] (kk2 rfl) (fun k : Nat => [(5, int ((k : Nat) : Int))]) (fun k : Nat => k ≤ (a).length ∧ (a.take k = b.take k)) (fun k : Nat => (a).length - k) 0 (⟨Nat.zero_le _, rfl⟩) ⟨ke rfl, trivial⟩ ?_)
 rintro k ⟨hle_k, hinv_k⟩
 refine ac ?_
 refine Tr.cn rfl ?_ ?_ <;> intro h2 q2
 have hk_k : k < (a).length := lt_of_dec h2
 obtain ⟨x, hx_k⟩ := at_ hk_k
 obtain ⟨y, hy⟩ := at_ (l := b) (k := k) (by omega)
 refine ac ?_
 refine ac ?_
 refine co rfl (ok_indexAddr rfl Tryz.underlying22 sz3 (vl rfl) (vl rfl) (by omega) (row_at hx_k)) ?_
 refine ac ?_
 refine co rfl (ok_indexAddr rfl Tryz.underlying22 sz3 (vl rfl) (vl rfl) (by omega) (row_at hy)) ?_
 refine ac ?_
 refine wk4 0 1 5 25 rfl ?_
 refine Tr.cn rfl ?_ ?_ <;> intro h3 q3
 refine ac ?_
 refine ac ?_
 · refine bool_eq ?_; symm; rw [decide_eq_false_iff_not]; refine sameN hx_k hy ?_; rintro rfl; simp_all
 refine ac ?_
 refine ac ?_
 exact Fin.fam_same (k + 1) ⟨⟨hk_k, sameY hx_k hy hinv_k (by simp_all)⟩, by omega⟩ ⟨⟨_, rfl, int_succ k⟩, ke rfl, ke rfl, trivial⟩
 have he_k : k = (a).length := by have := ge_of_dec h2; omega
 subst he_k
 refine ac ?_
 refine ac ?_
 refine ac ?_
 · refine bool_eq ?_; symm; rw [decide_eq_true_eq]; exact sameA hll hinv_k
theorem w_SameTexts {a b : List (List UInt8)}  : Fun Tryz.prog 220 [txts a, txts b] (bool (decide (a = b))) := by
 refine fo Tryz.func220 rfl ⟨rfl, rfl⟩ fun M0 w0 => (Tr.lenm 0 rfl fun hlm_0 => (Tr.lenm 1 rfl fun hlm_1 => ?_))
 refine ac ?_
 refine ac ?_
 refine Tr.cn rfl ?_ ?_ <;> intro h1 q1
 have hne : ¬ a.length = b.length := by simp_all; omega
 refine ac ?_
 refine ac ?_
 · refine bool_eq ?_; symm; rw [decide_eq_false_iff_not]; rintro rfl; exact hne rfl
 have hll : a.length = b.length := by simp_all; omega
 refine ac ?_
 refine ac ?_
 refine Tr.block (Tr.loopw [(0, _), (1, _)] (kk2 rfl) (fun k : Nat => [(5, int ((k : Nat) : Int))]) (fun k : Nat => k ≤ (a).length ∧ (a.take k = b.take k)) (fun k : Nat => (a).length - k) 0 (⟨Nat.zero_le _, rfl⟩) ⟨ke rfl, trivial⟩ ?_)
 rintro k ⟨hle_k, hinv_k⟩
 refine ac ?_
 refine Tr.cn rfl ?_ ?_ <;> intro h2 q2
 have hk_k : k < (a).length := lt_of_dec h2
 obtain ⟨x, hx_k⟩ := at_ hk_k
 obtain ⟨y, hy⟩ := at_ (l := b) (k := k) (by omega)
 refine ac ?_
 refine ac ?_
 refine co rfl (ok_indexAddr rfl Tryz.underlying74 sz9 (vl rfl) (vl rfl) (by omega) (row_at hx_k)) ?_
 refine ac ?_
 refine co rfl (ok_indexAddr rfl Tryz.underlying74 sz9 (vl rfl) (vl rfl) (by omega) (row_at hy)) ?_
 refine ac ?_
 refine wk4 0 1 5 25 rfl ?_
 refine Tr.cn rfl ?_ ?_ <;> intro h3 q3
 refine ac ?_
 refine ac ?_
 · refine bool_eq ?_; symm; rw [decide_eq_false_iff_not]; refine sameN hx_k hy ?_; rintro rfl; simp_all
 refine ac ?_
 refine ac ?_
 exact Fin.fam_same (k + 1) ⟨⟨hk_k, sameY hx_k hy hinv_k (by simp_all)⟩, by omega⟩ ⟨⟨_, rfl, int_succ k⟩, ke rfl, ke rfl, trivial⟩
 have he_k : k = (a).length := by have := ge_of_dec h2; omega
 subst he_k
 refine ac ?_
 refine ac ?_
 refine ac ?_
 · refine bool_eq ?_; symm; rw [decide_eq_true_eq]; exact sameA hll hinv_k
theorem w_R3Same {a b : Crt}  : Fun Tryz.prog 182 [agg (rowCr a), agg (rowCr b)] (bool (decide (a = b))) := by
 refine fo Tryz.func182 rfl ⟨rfl, rfl⟩ fun M0 w0 => ?_
 refine ac ?_
 refine ac ?_
 refine Ch.cs 10 rfl ?_ ?_ <;> intro h1 q1
 refine ac ?_
 refine Ch.cs 17 rfl ?_ ?_ <;> intro h2 q2
 refine ac ?_
 refine Ch.cs 24 rfl ?_ ?_ <;> intro h3 q3
 refine ac ?_
 refine cy h3 rfl (ok_eq24 rfl (vl rfl) (vl rfl)) ?_
 refine ac ?_
 refine Ch.cs 31 rfl ?_ ?_ <;> intro h4 q4
 refine ac ?_
 refine Ch.cs 38 rfl ?_ ?_ <;> intro h5 q5
 refine ac ?_
 refine cy h5 rfl (ok_eq24 rfl (vl rfl) (vl rfl)) ?_
 refine ac ?_
 refine Ch.cs 45 rfl ?_ ?_ <;> intro h6 q6
 refine ac ?_
 refine Ch.cs 52 rfl ?_ ?_ <;> intro h7 q7
 refine ac ?_
 refine Ch.cs 59 rfl ?_ ?_ <;> intro h8 q8
 refine ac ?_
 refine Ch.cs 66 rfl ?_ ?_ <;> intro h9 q9
 refine ac ?_
 refine Ch.cs 73 rfl ?_ ?_ <;> intro h10 q10
 refine ac ?_
 refine cy h10 rfl (kc2 (w_SameTexts) rfl rfl rfl) ?_
 refine ac ?_
 refine Ch.cs 80 rfl ?_ ?_ <;> intro h11 q11
 refine ac ?_
 refine cy h11 rfl (ok_eq129 rfl (vl rfl) (vl rfl)) ?_
 refine ac ?_
 refine wk1 4 rfl ?_
 refine ac ?_
 · refine bool_eq ?_; cases a; cases b; simp_all
 refine ac ?_
 refine wk1 4 rfl ?_
 refine ac ?_
 · refine bool_eq ?_; cases a; cases b; simp_all
 refine ac ?_
 refine wk1 4 rfl ?_
 refine ac ?_
 · refine bool_eq ?_; cases a; cases b; simp_all
 refine ac ?_
 refine wk1 4 rfl ?_
 refine ac ?_
 · refine bool_eq ?_; cases a; cases b; simp_all
 refine ac ?_
 refine wk1 4 rfl ?_
 refine ac ?_
 · refine bool_eq ?_; cases a; cases b; simp_all
 refine ac ?_
 refine wk1 4 rfl ?_
 refine ac ?_
 · refine bool_eq ?_; cases a; cases b; simp_all
 refine ac ?_
 refine wk1 4 rfl ?_
 refine ac ?_
 · refine bool_eq ?_; cases a; cases b; simp_all
 refine ac ?_
 refine wk1 4 rfl ?_
 refine ac ?_
 · refine bool_eq ?_; cases a; cases b; simp_all
 refine ac ?_
 refine wk1 4 rfl ?_
 refine ac ?_
 · refine bool_eq ?_; cases a; cases b; simp_all
 refine ac ?_
 refine wk1 4 rfl ?_
 refine ac ?_
 · refine bool_eq ?_; cases a; cases b; simp_all
 refine ac ?_
 refine wk1 4 rfl ?_
 refine ac ?_
 · refine bool_eq ?_; cases a; cases b; simp_all
 refine ac ?_
 refine wk1 4 rfl ?_
 refine ac ?_
 · refine bool_eq ?_; cases a; cases b; simp_all
theorem w_R3SameChain {a b : List (Crt)}  : Fun Tryz.prog 129 [certs a, certs b] (bool (decide (a = b))) := by
 refine fo Tryz.func129 rfl ⟨rfl, rfl⟩ fun M0 w0 => (Tr.lenm 0 rfl fun hlm_0 => (Tr.lenm 1 rfl fun hlm_1 => ?_))
 refine ac ?_
 refine ac ?_
 refine Tr.cn rfl ?_ ?_ <;> intro h1 q1
 have hne : ¬ a.length = b.length := by simp_all; omega
 refine ac ?_
 refine ac ?_
 · refine bool_eq ?_; symm; rw [decide_eq_false_iff_not]; rintro rfl; exact hne rfl
 have hll : a.length = b.length := by simp_all; omega
 refine ac ?_
 refine ac ?_
 refine Tr.block (Tr.loopw [(0, _), (1, _)] (kk2 rfl) (fun k : Nat => [(5, int ((k : Nat) : Int))]) (fun k : Nat => k ≤ (a).length ∧ (a.take k = b.take k)) (fun k : Nat => (a).length - k) 0 (⟨Nat.zero_le _, rfl⟩) ⟨ke rfl, trivial⟩ ?_)
 rintro k ⟨hle_k, hinv_k⟩
 refine ac ?_
 refine Tr.cn rfl ?_ ?_ <;> intro h2 q2
 have hk_k : k < (a).length := lt_of_dec h2
 obtain ⟨x, hx_k⟩ := at_ hk_k
 obtain ⟨y, hy⟩ := at_ (l := b) (k := k) (by omega)
 refine ac ?_
 refine ac ?_
 refine co rfl (ok_indexAddr rfl Tryz.underlying25 sz131 (vl rfl) (vl rfl) (by omega) (row_at hx_k)) ?_
 refine ac ?_
 refine co rfl (ok_indexAddr rfl Tryz.underlying25 sz131 (vl rfl) (vl rfl) (by omega) (row_at hy)) (co rfl (ok_loadA rfl agg131 sz131 (vl rfl) rfl rfl) (co rfl (kc2 (w_R3Same) rfl rfl rfl) ?_))
 refine ac ?_
 refine wk4 0 1 5 26 rfl ?_
 refine Tr.cn rfl ?_ ?_ <;> intro h3 q3
 refine ac ?_
 refine ac ?_
 · refine bool_eq ?_; symm; rw [decide_eq_false_iff_not]; refine sameN hx_k hy ?_; rintro rfl; simp_all
 refine ac ?_
 refine ac ?_
 exact Fin.fam_same (k + 1) ⟨⟨hk_k, sameY hx_k hy hinv_k (by simp_all)⟩, by omega⟩ ⟨⟨_, rfl, int_succ k⟩, ke rfl, ke rfl, trivial⟩
 have he_k : k = (a).length := by have := ge_of_dec h2; omega
 subst he_k
 refine ac ?_
 refine ac ?_
 refine ac ?_
 · refine bool_eq ?_; symm; rw [decide_eq_true_eq]; exact sameA hll hinv_k
theorem w_R9SameIds {a b : List (Idn)}  : Fun Tryz.prog 83 [idns a, idns b] (bool (decide (a = b))) := by
 refine fo Tryz.func83 rfl ⟨rfl, rfl⟩ fun M0 w0 => (Tr.lenm 0 rfl fun hlm_0 => (Tr.lenm 1 rfl fun hlm_1 => ?_))
 refine ac ?_
 refine ac ?_
 refine Tr.cn rfl ?_ ?_ <;> intro h1 q1
 have hne : ¬ a.length = b.length := by simp_all; omega
 refine ac ?_
 refine ac ?_
 · refine bool_eq ?_; symm; rw [decide_eq_false_iff_not]; rintro rfl; exact hne rfl
 have hll : a.length = b.length := by simp_all; omega
 refine ac ?_
 refine ac ?_
 refine Tr.block (Tr.loopw [(0, _), (1, _)] (kk2 rfl) (fun k : Nat => [(5, int ((k : Nat) : Int))]) (fun k : Nat => k ≤ (a).length ∧ (a.take k = b.take k)) (fun k : Nat => (a).length - k) 0 (⟨Nat.zero_le _, rfl⟩) ⟨ke rfl, trivial⟩ ?_)
 rintro k ⟨hle_k, hinv_k⟩
 refine ac ?_
 refine Tr.cn rfl ?_ ?_ <;> intro h2 q2
 have hk_k : k < (a).length := lt_of_dec h2
 obtain ⟨x, hx_k⟩ := at_ hk_k
 obtain ⟨y, hy⟩ := at_ (l := b) (k := k) (by omega)
 refine ac ?_
 refine ac ?_
 refine co rfl (ok_indexAddr rfl Tryz.underlying30 sz27 (vl rfl) (vl rfl) (by omega) (row_at hx_k)) ?_
 refine ac ?_
 refine co rfl (ok_indexAddr rfl Tryz.underlying30 sz27 (vl rfl) (vl rfl) (by omega) (row_at hy)) ?_
 refine ac ?_
 refine co rfl (ok_ne24 rfl (vl rfl) (vl rfl)) (cm rfl ?_)
 refine Ch.cs 28 rfl ?_ ?_ <;> intro h3 q3
 refine ac ?_
 refine wk4 0 1 5 54 rfl ?_
 refine ac ?_
 refine ac ?_
 · refine bool_eq ?_; symm; rw [decide_eq_false_iff_not]; refine sameN hx_k hy ?_; rintro rfl; simp_all
 refine ac ?_
 refine cy h3 rfl (ok_indexAddr rfl Tryz.underlying30 sz27 (vl rfl) (vl rfl) (by omega) (row_at hx_k)) ?_
 refine ac ?_
 refine cy h3 rfl (ok_indexAddr rfl Tryz.underlying30 sz27 (vl rfl) (vl rfl) (by omega) (row_at hy)) ?_
 refine ac ?_
 refine Ch.cs 41 rfl ?_ ?_ <;> intro h4 q4
 refine ac ?_
 refine wk4 0 1 5 54 rfl ?_
 refine ac ?_
 refine ac ?_
 · refine bool_eq ?_; symm; rw [decide_eq_false_iff_not]; refine sameN hx_k hy ?_; rintro rfl; simp_all
 refine ac ?_
 refine cy h4 rfl (ok_indexAddr rfl Tryz.underlying30 sz27 (vl rfl) (vl rfl) (by omega) (row_at hx_k)) ?_
 refine ac ?_
 refine cy h4 rfl (ok_indexAddr rfl Tryz.underlying30 sz27 (vl rfl) (vl rfl) (by omega) (row_at hy)) ?_
 refine ac ?_
 refine cy h4 rfl (kc2 (w_R3SameChain) rfl rfl rfl) ?_
 refine ac ?_
 refine wk4 0 1 5 54 rfl ?_
 refine Tr.cn rfl ?_ ?_ <;> intro h5 q5
 refine ac ?_
 refine ac ?_
 · refine bool_eq ?_; symm; rw [decide_eq_false_iff_not]; refine sameN hx_k hy ?_; rintro rfl; simp_all
 refine ac ?_
 refine ac ?_
 exact Fin.fam_same (k + 1) ⟨⟨hk_k, sameY hx_k hy hinv_k (by cases x; cases y; simp_all)⟩, by omega⟩ ⟨⟨_, rfl, int_succ k⟩, ke rfl, ke rfl, trivial⟩
 have he_k : k = (a).length := by have := ge_of_dec h2; omega
 subst he_k
 refine ac ?_
 refine ac ?_
 refine ac ?_
 · refine bool_eq ?_; symm; rw [decide_eq_true_eq]; exact sameA hll hinv_k
theorem w_R9Same {a b : Ept}  : Fun Tryz.prog 22 [agg (rowEp a), agg (rowEp b)] (bool (decide (a = b))) := by
 refine fo Tryz.func22 rfl ⟨rfl, rfl⟩ fun M0 w0 => ?_
 refine ac ?_
 refine ac ?_
 refine Ch.cs 10 rfl ?_ ?_ <;> intro h1 q1
 refine ac ?_
 refine Ch.cs 17 rfl ?_ ?_ <;> intro h2 q2
 refine ac ?_
 refine Ch.cs 24 rfl ?_ ?_ <;> intro h3 q3
 refine ac ?_
 refine cy h3 rfl (kc2 (w_SameInts) rfl rfl rfl) ?_
 refine ac ?_
 refine Ch.cs 31 rfl ?_ ?_ <;> intro h4 q4
 refine ac ?_
 refine Ch.cs 38 rfl ?_ ?_ <;> intro h5 q5
 refine ac ?_
 refine cy h5 rfl (kc2 (w_R9SameIds) rfl rfl rfl) ?_
 refine ac ?_
 refine Ch.cs 45 rfl ?_ ?_ <;> intro h6 q6
 refine ac ?_
 refine cy h6 rfl (kc2 (w_SameInts) rfl rfl rfl) ?_
 refine ac ?_
 refine Ch.cs 52 rfl ?_ ?_ <;> intro h7 q7
 refine ac ?_
 refine cy h7 rfl (kc2 (w_SameInts) rfl rfl rfl) ?_
 refine ac ?_
 refine Ch.cs 59 rfl ?_ ?_ <;> intro h8 q8
 refine ac ?_
 refine wk1 4 rfl ?_
 refine ac ?_
 · refine bool_eq ?_; cases a; cases b; simp_all [Bool.beq_eq_decide_eq]
 refine ac ?_
 refine wk1 4 rfl ?_
 refine ac ?_
 · refine bool_eq ?_; cases a; cases b; simp_all [Bool.beq_eq_decide_eq]
 refine ac ?_
 refine wk1 4 rfl ?_
 refine ac ?_
 · refine bool_eq ?_; cases a; cases b; simp_all [Bool.beq_eq_decide_eq]
 refine ac ?_
 refine wk1 4 rfl ?_
 refine ac ?_
 · refine bool_eq ?_; cases a; cases b; simp_all [Bool.beq_eq_decide_eq]
 refine ac ?_
 refine wk1 4 rfl ?_
 refine ac ?_
 · refine bool_eq ?_; cases a; cases b; simp_all [Bool.beq_eq_decide_eq]
 refine ac ?_
 refine wk1 4 rfl ?_
 refine ac ?_
 · refine bool_eq ?_; cases a; cases b; simp_all [Bool.beq_eq_decide_eq]
 refine ac ?_
 refine wk1 4 rfl ?_
 refine ac ?_
 · refine bool_eq ?_; cases a; cases b; simp_all [Bool.beq_eq_decide_eq]
 refine ac ?_
 refine wk1 4 rfl ?_
 refine ac ?_
 · refine bool_eq ?_; cases a; cases b; simp_all [Bool.beq_eq_decide_eq]
 refine ac ?_
 refine wk1 4 rfl ?_
 refine ac ?_
 · refine bool_eq ?_; cases a; cases b; simp_all [Bool.beq_eq_decide_eq]
theorem w_R24SameC {a b : Crt} (hn : a.names.length ≤ 8796093022208) : Fun Tryz.prog 130 [agg (rowCr a), agg (rowCr b)] (bool (decide (a = b))) := by
 refine fo Tryz.func130 rfl ⟨rfl, rfl⟩ fun M0 w0 => ?_
 refine ac ?_
 refine ac ?_
 refine Ch.cs 11 rfl ?_ ?_ <;> intro h1 q1
 refine ac ?_
 refine wk3 2 3 89 rfl ?_
 refine ac ?_
 refine ac ?_
 · refine bool_eq ?_; symm; rw [decide_eq_false_iff_not]; rintro rfl; simp_all
 refine ac ?_
 refine Ch.cs 18 rfl ?_ ?_ <;> intro h2 q2
 refine ac ?_
 refine wk3 2 3 89 rfl ?_
 refine ac ?_
 refine ac ?_
 · refine bool_eq ?_; symm; rw [decide_eq_false_iff_not]; rintro rfl; simp_all
 refine ac ?_
 refine Ch.cs 25 rfl ?_ ?_ <;> intro h3 q3
 refine ac ?_
 refine wk3 2 3 89 rfl ?_
 refine ac ?_
 refine ac ?_
 · refine bool_eq ?_; symm; rw [decide_eq_false_iff_not]; rintro rfl; simp_all
 refine ac ?_
 refine cy h3 rfl (ok_ne24 rfl (vl rfl) (vl rfl)) ?_
 refine ac ?_
 refine Ch.cs 32 rfl ?_ ?_ <;> intro h4 q4
 refine ac ?_
 refine wk3 2 3 89 rfl ?_
 refine ac ?_
 refine ac ?_
 · refine bool_eq ?_; symm; rw [decide_eq_false_iff_not]; rintro rfl; simp_all
 refine ac ?_
 refine Ch.cs 39 rfl ?_ ?_ <;> intro h5 q5
 refine ac ?_
 refine wk3 2 3 89 rfl ?_
 refine ac ?_
 refine ac ?_
 · refine bool_eq ?_; symm; rw [decide_eq_false_iff_not]; rintro rfl; simp_all
 refine ac ?_
 refine cy h5 rfl (ok_ne24 rfl (vl rfl) (vl rfl)) ?_
 refine ac ?_
 refine Ch.cs 46 rfl ?_ ?_ <;> intro h6 q6
 refine ac ?_
 refine wk3 2 3 89 rfl ?_
 refine ac ?_
 refine ac ?_
 · refine bool_eq ?_; symm; rw [decide_eq_false_iff_not]; rintro rfl; simp_all
 refine ac ?_
 refine Ch.cs 53 rfl ?_ ?_ <;> intro h7 q7
 refine ac ?_
 refine wk3 2 3 89 rfl ?_
 refine ac ?_
 refine ac ?_
 · refine bool_eq ?_; symm; rw [decide_eq_false_iff_not]; rintro rfl; simp_all
 refine ac ?_
 refine Ch.cs 60 rfl ?_ ?_ <;> intro h8 q8
 refine ac ?_
 refine wk3 2 3 89 rfl ?_
 refine ac ?_
 refine ac ?_
 · refine bool_eq ?_; symm; rw [decide_eq_false_iff_not]; rintro rfl; simp_all
 refine ac ?_
 refine cy h8 rfl (ok_neb rfl Tryz.underlying4 (vl rfl) (vl rfl)) ?_
 refine ac ?_
 refine Ch.cs 67 rfl ?_ ?_ <;> intro h9 q9
 refine ac ?_
 refine wk3 2 3 89 rfl ?_
 refine ac ?_
 refine ac ?_
 · refine bool_eq ?_; symm; rw [decide_eq_false_iff_not]; rintro rfl; simp_all
 refine ac ?_
 refine Ch.cs 74 rfl ?_ ?_ <;> intro h10 q10
 refine ac ?_
 refine wk3 2 3 89 rfl ?_
 refine ac ?_
 refine ac ?_
 · refine bool_eq ?_; symm; rw [decide_eq_false_iff_not]; rintro rfl; simp_all
 refine ac ?_
 refine cy h10 rfl (ok_ne129 rfl (vl rfl) (vl rfl)) ?_
 refine ac ?_
 refine Ch.cs 81 rfl ?_ ?_ <;> intro h11 q11
 refine ac ?_
 refine wk3 2 3 89 rfl ?_
 refine ac ?_
 refine ac ?_
 · refine bool_eq ?_; symm; rw [decide_eq_false_iff_not]; rintro rfl; simp_all
 refine ac ?_
 refine wk3 2 3 89 rfl ?_
 refine Tr.cn rfl ?_ ?_ <;> intro h12 q12
 refine ac ?_
 refine ac ?_
 · refine bool_eq ?_; symm; rw [decide_eq_false_iff_not]; rintro rfl; simp_all
 have hll : a.names.length = b.names.length := by simp_all; omega
 refine ac ?_
 refine ac ?_
 refine Tr.block (Tr.loopw [(2, _), (3, _), (92, _)] (kk3 rfl) (fun k : Nat => [(93, int ((k : Nat) : Int))]) (fun k : Nat => k ≤ (a.names).length ∧ (a.names.take k = b.names.take k)) (fun k : Nat => (a.names).length - k) 0 (⟨Nat.zero_le _, rfl⟩) ⟨ke rfl, trivial⟩ ?_)
 rintro k ⟨hle_k, hinv_k⟩
 refine ac ?_
 refine Tr.seq ?_
 refine Tr.cn rfl ?_ ?_ <;> intro h13 q13
 have hk_k : k < (a.names).length := lt_of_dec h13
 obtain ⟨x, hx_k⟩ := at_ hk_k
 obtain ⟨y, hy⟩ := at_ (l := b.names) (k := k) (by omega)
 refine ac ?_
 refine ac ?_
 refine ac ?_
 refine co rfl (ok_indexAddr rfl Tryz.underlying74 sz9 (vl rfl) (vl rfl) (by omega) (row_at hx_k)) ?_
 refine ac ?_
 refine co rfl (ok_indexAddr rfl Tryz.underlying74 sz9 (vl rfl) (vl rfl) (by omega) (row_at hy)) ?_
 refine ac ?_
 refine wk5 2 3 92 93 106 rfl ?_
 refine Tr.cn rfl ?_ ?_ <;> intro h14 q14
 refine ac ?_
 refine ac ?_
 · refine bool_eq ?_; symm; rw [decide_eq_false_iff_not]; rintro rfl; rw [hx_k] at hy; cases hy; simp_all
 refine ac ?_
 refine ac ?_
 exact Fin.fam_same (k + 1) ⟨⟨hk_k, sameY hx_k hy hinv_k (by simp_all)⟩, by omega⟩ ⟨⟨_, rfl, int_succ k⟩, ke rfl, ke rfl, ke rfl, trivial⟩
 have he_k : k = (a.names).length := by have := ge_of_dec h13; omega
 subst he_k
 refine ac ?_
 refine ac ?_
 refine ac ?_
 · refine bool_eq ?_; have hnn := sameA hll hinv_k; clear hinv_k hll; cases a; cases b; simp_all
theorem w_R24SameI {a b : Idn} (hs : a.small) : Fun Tryz.prog 84 [agg (rowId a), agg (rowId b)] (bool (decide (a = b))) := by
 refine fo Tryz.func84 rfl ⟨rfl, rfl⟩ fun M0 w0 => ?_
 have hsc := hs.chain
 refine ac ?_
 refine ac ?_
 refine co rfl (ok_ne24 rfl (vl rfl) (vl rfl)) (cm rfl ?_)
 refine Ch.cs 11 rfl ?_ ?_ <;> intro h1 q1
 refine ac ?_
 refine wk3 2 3 26 rfl ?_
 refine ac ?_
 refine ac ?_
 · refine bool_eq ?_; symm; rw [decide_eq_false_iff_not]; rintro rfl; simp_all
 refine ac ?_
 refine Ch.cs 18 rfl ?_ ?_ <;> intro h2 q2
 refine ac ?_
 refine wk3 2 3 26 rfl ?_
 refine ac ?_
 refine ac ?_
 · refine bool_eq ?_; symm; rw [decide_eq_false_iff_not]; rintro rfl; simp_all
 refine ac ?_
 refine wk3 2 3 26 rfl ?_
 refine Tr.cn rfl ?_ ?_ <;> intro h3 q3
 refine ac ?_
 refine ac ?_
 · refine bool_eq ?_; symm; rw [decide_eq_false_iff_not]; rintro rfl; simp_all
 have hll : a.chain.length = b.chain.length := by simp_all; omega
 refine ac ?_
 refine ac ?_
 refine Tr.block (Tr.loopw [(2, _), (3, _), (29, _)] (kk3 rfl) (fun k : Nat => [(30, int ((k : Nat) : Int))]) (fun k : Nat => k ≤ (a.chain).length ∧ (a.chain.take k = b.chain.take k)) (fun k : Nat => (a.chain).length - k) 0 (⟨Nat.zero_le _, rfl⟩) ⟨ke rfl, trivial⟩ ?_)
 rintro k ⟨hle_k, hinv_k⟩
 refine ac ?_
 refine Tr.seq ?_
 refine Tr.cn rfl ?_ ?_ <;> intro h4 q4
 have hk_k : k < (a.chain).length := lt_of_dec h4
 obtain ⟨x, hx_k⟩ := at_ hk_k
 obtain ⟨y, hy⟩ := at_ (l := b.chain) (k := k) (by omega)
 have hxn := hs.names x (List.mem_of_getElem? hx_k)
 refine ac ?_
 refine ac ?_
 refine ac ?_
 refine co rfl (ok_indexAddr rfl Tryz.underlying25 sz131 (vl rfl) (vl rfl) (by omega) (row_at hx_k)) ?_
 refine ac ?_
 refine co rfl (ok_indexAddr rfl Tryz.underlying25 sz131 (vl rfl) (vl rfl) (by omega) (row_at hy)) (co rfl (ok_loadA rfl agg131 sz131 (vl rfl) rfl rfl) (co rfl (kc2 (w_R24SameC hxn) rfl rfl rfl) ?_))
 refine ac ?_
 refine wk5 2 3 29 30 44 rfl ?_
 refine Tr.cn rfl ?_ ?_ <;> intro h5 q5
 refine ac ?_
 refine ac ?_
 · refine bool_eq ?_; symm; rw [decide_eq_false_iff_not]; rintro rfl; rw [hx_k] at hy; cases hy; simp_all
 refine ac ?_
 refine ac ?_
 exact Fin.fam_same (k + 1) ⟨⟨hk_k, sameY hx_k hy hinv_k (by simp_all)⟩, by omega⟩ ⟨⟨_, rfl, int_succ k⟩, ke rfl, ke rfl, ke rfl, trivial⟩
 have he_k : k = (a.chain).length := by have := ge_of_dec h4; omega
 subst he_k
 refine ac ?_
 refine ac ?_
 refine ac ?_
 · refine bool_eq ?_; have hnn := sameA hll hinv_k; clear hinv_k hll hs; cases a; cases b; simp_all
end Go.Proofs.YtppeeogffbpcbaaGreat
namespace Go.Proofs.YtppeeogffbpcbaaGreat
open Go Go.RowKit Cp

theorem kinds12 {k : Int} (hk : 1 ≤ k ∧ k ≤ 12) : k = 1 ∨ k = 2 ∨ k = 3 ∨ k = 4 ∨ k = 5 ∨ k = 6 ∨ k = 7 ∨ k = 8 ∨ k = 9 ∨ k = 10 ∨ k = 11 ∨ k = 12 := by omega
theorem stepR_ne {e : Ept} {c : Chg} {f : Int} (hc : okCh c) (h : stepR e c = .error f) : f ≠ 0 := by
  rcases kinds12 hc.1 with hk | hk | hk | hk | hk | hk | hk | hk | hk | hk | hk | hk
  · rw [stepR_1 hk] at h; (repeat' (split at h)) <;> first | (injection h with h; omega) | (cases h; done)
  · rw [stepR_2 hk] at h; (repeat' (split at h)) <;> first | (injection h with h; omega) | (cases h; done)
  · rw [stepR_3 hk] at h; (repeat' (split at h)) <;> first | (injection h with h; omega) | (cases h; done)
  · rw [stepR_4 hk] at h; (repeat' (split at h)) <;> first | (injection h with h; omega) | (cases h; done)
  · rw [stepR_5 hk] at h; (repeat' (split at h)) <;> first | (injection h with h; omega) | (cases h; done)
  · rw [stepR_6 hk] at h; (repeat' (split at h)) <;> first | (injection h with h; omega) | (cases h; done)
  · rw [stepR_7 hk] at h; (repeat' (split at h)) <;> first | (injection h with h; omega) | (cases h; done)
  · rw [stepR_8 hk] at h; (repeat' (split at h)) <;> first | (injection h with h; omega) | (cases h; done)
  · rw [stepR_9 hk] at h; (repeat' (split at h)) <;> first | (injection h with h; omega) | (cases h; done)
  · rw [stepR_10 hk] at h; (repeat' (split at h)) <;> first | (injection h with h; omega) | (cases h; done)
  · rw [stepR_11 hk] at h; (repeat' (split at h)) <;> first | (injection h with h; omega) | (cases h; done)
  · rw [stepR_12 hk] at h; (repeat' (split at h)) <;> first | (injection h with h; omega) | (cases h; done)
theorem doneR_inv {e : Ept} {c : Chg} {x : Ept} {b : Chg} (h : doneR e c = (x, b, 0)) : EptOk e ∧ okCh c ∧ stepR e c = .ok (x, b) ∧ EptOk x := by
  unfold doneR at h
  split at h
  · cases h
  next h1 =>
  split at h
  · cases h
  next h2 =>
  have h1 : eptB e = true := by cases hh : eptB e with
    | true => rfl
    | false => exact absurd hh h1
  have h2 : okCh c := Classical.not_not.1 h2
  cases hs : stepR e c with
  | error f =>
    rw [hs] at h
    simp only [Prod.mk.injEq] at h
    exact absurd h.2.2 (stepR_ne h2 hs)
  | ok r =>
    obtain ⟨x', b'⟩ := r
    rw [hs] at h
    simp only at h
    split at h
    next h3 => simp only [Prod.mk.injEq, and_true] at h; obtain ⟨rfl, rfl⟩ := h; exact ⟨eptB_iff.1 h1, h2, rfl, eptB_iff.1 h3⟩
    · cases h
section
variable {α : Type} {p : α → Bool} {l : List α} {a : α} {i : Nat}
end
theorem suites_one {l : List Int} (h : suitesB l = true) {i j : Nat} {n : Int} (hi : l[i]? = some n) (hj : l[j]? = some n) : i = j := by
  unfold suitesB at h; rw [allI_iff] at h
  have key : ∀ {a b : Nat}, a < b → l[a]? = some n → l[b]? = some n → False := by
    intro a b hab ha hb
    have := h b (lt_of_at hb)
    unfold suiteAt at this
    rw [getD_at hb] at this
    simp only [Bool.and_eq_true, Bool.not_eq_true', List.any_eq_false] at this
    have := this.2 n (List.mem_of_getElem? (show (l.take b)[a]? = some n by rw [List.getElem?_take, if_pos hab]; exact ha))
    simp at this
  rcases Nat.lt_trichotomy i j with h1 | h1 | h1
  · exact (key h1 hi hj).elim
  · exact h1
  · exact (key h1 hj hi).elim
end Go.Proofs.YtppeeogffbpcbaaGreat
namespace Go.Proofs.YtppeeogffbpcbaaGreat
open Go Go.RowKit Cp

abbrev u8R : List Pr := [anyK .u8]
abbrev bts (m : Nat) : Pr := slice 1 (List.replicate m u8R)
abbrev bytesE (B : Nat) : Pr := Cp.ex fun m : Nat => fact (m ≤ B) (bts m)
abbrev anyB : Pr := Cp.ex fun b : Bool => bool b
abbrev rowQ (q : Pr) : List Pr := [anyK .i64, bytesE 1000, anyB, q]
abbrev elemsE (row : List Pr) : Pr := Cp.ex fun m : Nat => fact (m ≤ 20) (slice 4 (List.replicate m row))
abbrev depthE (D : Nat) : Pr := Cp.ex fun d : Int => fact (0 ≤ d ∧ d ≤ (D : Nat)) (int d)
theorem rep_at {r : List Pr} {m k : Nat} (h : k < m) : (List.replicate m r)[((k : Nat) : Int).toNat]? = some r := by rw [Int.toNat_natCast, List.getElem?_replicate, if_pos h]
theorem rep_one {r : List Pr} {m : Nat} : List.replicate m r ++ [r] = List.replicate (m + 1) r := by rw [List.replicate_succ']
theorem rep_add {r : List Pr} {m k : Nat} : List.replicate m r ++ List.replicate k r = List.replicate (m + k) r := by rw [List.replicate_append_replicate]
theorem LeL.refl : ∀ l : List Pr, LeL l l
  | [] => trivial
  | _ :: l => ⟨Pr.le_refl _, LeL.refl l⟩
/-- Rows that read less exactly. -/
theorem slice_le {sz : Nat} {rows rows' : List (List Pr)} (hl : rows.length = rows'.length) (h : ∀ (i : Nat) r r', rows[i]? = some r → rows'[i]? = some r' → r.length = r'.length ∧ ∀ (j : Nat) p p', r[j]? = some p → r'[j]? = some p' → Pr.le p p') : Pr.le (slice sz rows) (slice sz rows') := by
  rintro M w v ⟨a, cap, h1, h2, h3, h4, h5⟩
  refine ⟨a, cap, by rw [← hl]; exact h1, by rw [← hl]; exact h2, h3, h4, fun i row hr => ?_⟩
  have hi : i < rows.length := by rw [hl]; exact lt_of_at hr
  have hr0 := List.getElem?_eq_getElem hi
  obtain ⟨g1, g2⟩ := h i _ _ hr0 hr
  obtain ⟨k1, ad, k2, k3⟩ := h5 i _ hr0
  refine ⟨by rw [← g1]; exact k1, ad, k2, fun j p' hp' => ?_⟩
  have hj : j < rows[i].length := by rw [g1]; exact lt_of_at hp'
  have hp := List.getElem?_eq_getElem hj
  obtain ⟨u, c1, c2, c3, c4⟩ := k3 j _ hp
  exact ⟨u, c1, c2, c3, g2 j _ _ hp hp' _ _ _ c4⟩
theorem slice_rep {sz : Nat} {rows : List (List Pr)} {r : List Pr} (h : ∀ q ∈ rows, q.length = r.length ∧ ∀ (j : Nat) p p', q[j]? = some p → r[j]? = some p' → Pr.le p p') : Pr.le (slice sz rows) (slice sz (List.replicate rows.length r)) :=
  slice_le (by simp) fun i q q' hq hq' => by
    rw [List.getElem?_replicate, if_pos (lt_of_at hq)] at hq'
    cases hq'
    exact h q (List.mem_of_getElem? hq)
theorem bts_of {β : Type} {l : List β} {f : β → Int} : Pr.le (slice 1 (l.map fun x => [is (.int .u8 (f x))])) (bts l.length) := by
  have := slice_rep (sz := 1) (rows := l.map fun x => [is (.int .u8 (f x))]) (r := u8R) (by
    intro q hq
    obtain ⟨x, _, rfl⟩ := List.mem_map.1 hq
    refine ⟨rfl, fun j p p' hp hp' => ?_⟩
    cases j with
    | zero => simp at hp hp'; subst hp; subst hp'; exact is_anyK _ _
    | succ j => simp at hp)
  rwa [List.length_map] at this
theorem bytesE_in {B m : Nat} {p : Pr} (h : m ≤ B) (hp : Pr.le p (bts m)) : Pr.le p (bytesE B) := ex_in m (fact_in h hp)
/-- What an element is, cell by cell. -/
theorem Fun.rowQ {P : Program} {f : FuncId} {row : List Pr} {res : Pr} (h : ∀ (t : Int) (b : Nat) (n : Bool) (m : Nat), b ≤ 1000 → m ≤ 20 → Fun P f [agg [int t, bts b, bool n, slice 4 (List.replicate m row)]] res) : Fun P f [agg (rowQ (elemsE row))] res := by
  refine ⟨(h 0 0 false 0 (by omega) (by omega)).1, fun M w vs hb hv => ?_⟩
  match vs, hv with
  | [u0], hv1 =>
    obtain ⟨⟨cs, rfl, ho, hcs⟩, _⟩ := hv1
    match cs, hcs with
    | [c0, c1, c2, c3], hc =>
      obtain ⟨⟨t, h0⟩, ⟨b, hb1, h1⟩, ⟨n, h2⟩, ⟨m, hm1, h3⟩, _⟩ := hc
      exact (h t b n m hb1 hm1).2 M w _ hb ⟨⟨_, rfl, ho, h0, h1, h2, h3, trivial⟩, trivial⟩
theorem Fun.rowQ0 {P : Program} {f : FuncId} {res : Pr} (h : ∀ (t : Int) (b : Nat) (n : Bool), b ≤ 1000 → Fun P f [agg [int t, bts b, bool n, slice 4 []]] res) : Fun P f [agg [anyK .i64, bytesE 1000, anyB, slice 4 []]] res := by
  refine ⟨(h 0 0 false (by omega)).1, fun M w vs hb hv => ?_⟩
  match vs, hv with
  | [u0], hv1 =>
    obtain ⟨⟨cs, rfl, ho, hcs⟩, _⟩ := hv1
    match cs, hcs with
    | [c0, c1, c2, c3], hc =>
      obtain ⟨⟨t, h0⟩, ⟨b, hb1, h1⟩, ⟨n, h2⟩, h3, _⟩ := hc
      exact (h t b n hb1).2 M w _ hb ⟨⟨_, rfl, ho, h0, h1, h2, h3, trivial⟩, trivial⟩

theorem w_rtag {n : Int}  : Fun Tryz.prog 284 [int n] (bool (decide (1 ≤ n) && decide (n ≤ 255) && (n.tmod 32 != 31))) := by
 refine fo Tryz.func284 rfl ⟨rfl, rfl⟩ fun M0 w0 => ?_
 refine ac ?_
 refine ac ?_
 refine Ch.cs 5 rfl ?_ ?_ <;> intro h1 q1
 refine ac ?_
 refine Ch.cs 9 rfl ?_ ?_ <;> intro h2 q2
 refine cym h2 rfl (cy h2 rfl (ok_rem rfl (vl rfl) (vl rfl) (by omega)) ?_)
 refine ac ?_
 refine ac ?_
 · refine bool_eq ?_; simp_all
 refine ac ?_
 refine ac ?_
 · refine bool_eq ?_; simp_all; omega
 refine ac ?_
 refine ac ?_
 · refine bool_eq ?_; simp_all; omega
theorem w_rformed {t : Int} {b : Nat} {n : Bool} {m : Nat} {q : Pr}  (hb : b ≤ 1000) (hm : m ≤ 20) (ih : m = 0 ∨ Fun Tryz.prog 247 [agg (rowQ q)] (anyB)) : Fun Tryz.prog 247 [agg [int t, bts b, bool n, slice 4 (List.replicate m (rowQ q))]] (anyB) := by
 refine fo Tryz.func247 rfl ⟨rfl, rfl⟩ fun M0 w0 => ?_
 have hlr : (List.replicate m (rowQ q)).length = m := List.length_replicate
 have hlb : (List.replicate b u8R).length = b := List.length_replicate
 refine ac ?_
 refine ac ?_
 refine co rfl (kc1 (w_rtag) rfl rfl) ?_
 refine ac ?_
 refine Ch.cs 8 rfl ?_ ?_ <;> intro h1 q1
 refine ac ?_
 refine wk2 1 38 rfl ?_
 refine ac ?_
 refine ac ?_
 · exact ex_in _ (Pr.le_refl _)
 refine ac ?_
 refine cy h1 rfl (ok_quo rfl (vl rfl) (vl rfl) (by omega)) (cy h1 rfl (ok_rem rfl (vl rfl) (vl rfl) (by omega)) (cy h1 rfl (ki rfl rfl rfl rfl) (cy h1 rfl (ok_neb rfl Tryz.underlying4 (vl rfl) (vl rfl)) ?_)))
 refine ac ?_
 refine Ch.cs 18 rfl ?_ ?_ <;> intro h2 q2
 refine ac ?_
 refine wk2 1 38 rfl ?_
 refine ac ?_
 refine ac ?_
 · exact ex_in _ (Pr.le_refl _)
 refine ac ?_
 refine Ch.cs 21 rfl ?_ ?_ <;> intro h3 q3
 refine ac ?_
 refine cy h3 rfl (ok_len rfl Tryz.underlying198 (vl rfl)) ?_
 refine ac ?_
 refine Ch.cs 28 rfl ?_ ?_ <;> intro h4 q4
 refine ac ?_
 refine wk2 1 38 rfl ?_
 refine ac ?_
 refine ac ?_
 · exact ex_in _ (Pr.le_refl _)
 refine ac ?_
 refine Ch.cs 32 rfl ?_ ?_ <;> intro h5 q5
 refine ac ?_
 refine cy h5 rfl (ok_len rfl Tryz.underlying221 (vl rfl)) ?_
 refine ac ?_
 refine wk2 1 38 rfl ?_
 refine Tr.cn rfl ?_ ?_ <;> intro h6 q6
 refine ac ?_
 refine ac ?_
 · exact ex_in _ (Pr.le_refl _)
 refine ac ?_
 refine ac ?_
 refine Tr.block (Tr.loopw [(1, _)] ⟨ke rfl, trivial⟩ (fun k : Nat => [(3, int ((k : Nat) : Int))]) (fun k : Nat => k ≤ ((List.replicate m (rowQ q)).length)) (fun k : Nat => ((List.replicate m (rowQ q)).length) - k) 0 (Nat.zero_le _) ⟨ke rfl, trivial⟩ ?_)
 rintro k hle_k
 refine ac ?_
 refine co rfl (ok_len rfl Tryz.underlying221 (vl rfl)) ?_
 refine ac ?_
 refine Tr.cn rfl ?_ ?_ <;> intro h7 q7
 have hk_k : k < ((List.replicate m (rowQ q)).length) := lt_of_dec h7
 have hkm : k < m := by simpa using hk_k
 have ih2 := ih.resolve_left (by omega)
 refine ac ?_
 refine ap ?_
 refine tp rfl (ok_indexAddr rfl Tryz.underlying221 sz223 (vl rfl) (vl rfl) (by omega) (rep_at hkm)) (tp rfl (ok_loadA rfl agg223 sz223 (vl rfl) rfl rfl) (tp rfl (kc1 (ih2) rfl rfl) ?_))
 refine TO.ex 51 rfl (fun z51 => ?_)
 refine ap ?_
 refine wk3 1 3 52 rfl ?_
 refine Tr.cn rfl ?_ ?_ <;> intro h8 q8
 refine ac ?_
 refine ac ?_
 · exact ex_in _ (Pr.le_refl _)
 refine ac ?_
 refine ac ?_
 exact Fin.fam_same (k + 1) ⟨hk_k, by omega⟩ ⟨⟨_, rfl, int_succ k⟩, ke rfl, trivial⟩
 have he_k : k = ((List.replicate m (rowQ q)).length) := by have := ge_of_dec h7; omega
 refine ac ?_
 refine ac ?_
 refine ac ?_
 · exact ex_in _ (Pr.le_refl _)
 refine ac ?_
 refine wk2 1 38 rfl ?_
 refine ac ?_
 refine ac ?_
 refine Tr.block (Tr.loopw [(1, _)] ⟨ke rfl, trivial⟩ (fun k : Nat => [(3, int ((k : Nat) : Int))]) (fun k : Nat => k ≤ ((List.replicate m (rowQ q)).length)) (fun k : Nat => ((List.replicate m (rowQ q)).length) - k) 0 (Nat.zero_le _) ⟨ke rfl, trivial⟩ ?_)
 rintro k hle_k
 refine ac ?_
 refine co rfl (ok_len rfl Tryz.underlying221 (vl rfl)) ?_
 refine ac ?_
 refine Tr.cn rfl ?_ ?_ <;> intro h9 q9
 have hk_k : k < ((List.replicate m (rowQ q)).length) := lt_of_dec h9
 have hkm : k < m := by simpa using hk_k
 have ih2 := ih.resolve_left (by omega)
 refine ac ?_
 refine ap ?_
 refine tp rfl (ok_indexAddr rfl Tryz.underlying221 sz223 (vl rfl) (vl rfl) (by omega) (rep_at hkm)) (tp rfl (ok_loadA rfl agg223 sz223 (vl rfl) rfl rfl) (tp rfl (kc1 (ih2) rfl rfl) ?_))
 refine TO.ex 51 rfl (fun z51 => ?_)
 refine ap ?_
 refine wk3 1 3 52 rfl ?_
 refine Tr.cn rfl ?_ ?_ <;> intro h10 q10
 refine ac ?_
 refine ac ?_
 · exact ex_in _ (Pr.le_refl _)
 refine ac ?_
 refine ac ?_
 exact Fin.fam_same (k + 1) ⟨hk_k, by omega⟩ ⟨⟨_, rfl, int_succ k⟩, ke rfl, trivial⟩
 have he_k : k = ((List.replicate m (rowQ q)).length) := by have := ge_of_dec h9; omega
 refine ac ?_
 refine ac ?_
 refine ac ?_
 · exact ex_in _ (Pr.le_refl _)
 refine ac ?_
 refine Ch.cs 32 rfl ?_ ?_ <;> intro h11 q11
 refine ac ?_
 refine cy h11 rfl (ok_len rfl Tryz.underlying221 (vl rfl)) ?_
 refine ac ?_
 refine wk2 1 38 rfl ?_
 refine Tr.cn rfl ?_ ?_ <;> intro h12 q12
 refine ac ?_
 refine ac ?_
 · exact ex_in _ (Pr.le_refl _)
 refine ac ?_
 refine ac ?_
 refine Tr.block (Tr.loopw [(1, _)] ⟨ke rfl, trivial⟩ (fun k : Nat => [(3, int ((k : Nat) : Int))]) (fun k : Nat => k ≤ ((List.replicate m (rowQ q)).length)) (fun k : Nat => ((List.replicate m (rowQ q)).length) - k) 0 (Nat.zero_le _) ⟨ke rfl, trivial⟩ ?_)
 rintro k hle_k
 refine ac ?_
 refine co rfl (ok_len rfl Tryz.underlying221 (vl rfl)) ?_
 refine ac ?_
 refine Tr.cn rfl ?_ ?_ <;> intro h13 q13
 have hk_k : k < ((List.replicate m (rowQ q)).length) := lt_of_dec h13
 have hkm : k < m := by simpa using hk_k
 have ih2 := ih.resolve_left (by omega)
 refine ac ?_
 refine ap ?_
 refine tp rfl (ok_indexAddr rfl Tryz.underlying221 sz223 (vl rfl) (vl rfl) (by omega) (rep_at hkm)) (tp rfl (ok_loadA rfl agg223 sz223 (vl rfl) rfl rfl) (tp rfl (kc1 (ih2) rfl rfl) ?_))
 refine TO.ex 51 rfl (fun z51 => ?_)
 refine ap ?_
 refine wk3 1 3 52 rfl ?_
 refine Tr.cn rfl ?_ ?_ <;> intro h14 q14
 refine ac ?_
 refine ac ?_
 · exact ex_in _ (Pr.le_refl _)
 refine ac ?_
 refine ac ?_
 exact Fin.fam_same (k + 1) ⟨hk_k, by omega⟩ ⟨⟨_, rfl, int_succ k⟩, ke rfl, trivial⟩
 have he_k : k = ((List.replicate m (rowQ q)).length) := by have := ge_of_dec h13; omega
 refine ac ?_
 refine ac ?_
 refine ac ?_
 · exact ex_in _ (Pr.le_refl _)
 refine ac ?_
 refine wk2 1 38 rfl ?_
 refine ac ?_
 refine ac ?_
 refine Tr.block (Tr.loopw [(1, _)] ⟨ke rfl, trivial⟩ (fun k : Nat => [(3, int ((k : Nat) : Int))]) (fun k : Nat => k ≤ ((List.replicate m (rowQ q)).length)) (fun k : Nat => ((List.replicate m (rowQ q)).length) - k) 0 (Nat.zero_le _) ⟨ke rfl, trivial⟩ ?_)
 rintro k hle_k
 refine ac ?_
 refine co rfl (ok_len rfl Tryz.underlying221 (vl rfl)) ?_
 refine ac ?_
 refine Tr.cn rfl ?_ ?_ <;> intro h15 q15
 have hk_k : k < ((List.replicate m (rowQ q)).length) := lt_of_dec h15
 have hkm : k < m := by simpa using hk_k
 have ih2 := ih.resolve_left (by omega)
 refine ac ?_
 refine ap ?_
 refine tp rfl (ok_indexAddr rfl Tryz.underlying221 sz223 (vl rfl) (vl rfl) (by omega) (rep_at hkm)) (tp rfl (ok_loadA rfl agg223 sz223 (vl rfl) rfl rfl) (tp rfl (kc1 (ih2) rfl rfl) ?_))
 refine TO.ex 51 rfl (fun z51 => ?_)
 refine ap ?_
 refine wk3 1 3 52 rfl ?_
 refine Tr.cn rfl ?_ ?_ <;> intro h16 q16
 refine ac ?_
 refine ac ?_
 · exact ex_in _ (Pr.le_refl _)
 refine ac ?_
 refine ac ?_
 exact Fin.fam_same (k + 1) ⟨hk_k, by omega⟩ ⟨⟨_, rfl, int_succ k⟩, ke rfl, trivial⟩
 have he_k : k = ((List.replicate m (rowQ q)).length) := by have := ge_of_dec h15; omega
 refine ac ?_
 refine ac ?_
 refine ac ?_
 · exact ex_in _ (Pr.le_refl _)
theorem w_rdepth {t : Int} {b : Nat} {n : Bool} {m : Nat} {q : Pr} {D : Nat}  (hb : b ≤ 1000) (hm : m ≤ 20) (hD : D ≤ 1000) (ih : m = 0 ∨ Fun Tryz.prog 248 [agg (rowQ q)] (depthE D)) : Fun Tryz.prog 248 [agg [int t, bts b, bool n, slice 4 (List.replicate m (rowQ q))]] (depthE (D + 1)) := by
 refine fo Tryz.func248 rfl ⟨rfl, rfl⟩ fun M0 w0 => ?_
 have hlr : (List.replicate m (rowQ q)).length = m := List.length_replicate
 have hlb : (List.replicate b u8R).length = b := List.length_replicate
 refine ac ?_
 refine ac ?_
 refine ac ?_
 refine Tr.block (Tr.loopw [(1, _)] ⟨ke rfl, trivial⟩ (fun k : Nat => [(4, int ((k : Nat) : Int)), (3, depthE D)]) (fun k : Nat => k ≤ ((List.replicate m (rowQ q)).length)) (fun k : Nat => ((List.replicate m (rowQ q)).length) - k) 0 (Nat.zero_le _) ⟨ke rfl, ⟨_, rfl, ex_in 0 (fact_in (by omega) (Pr.le_refl _))⟩, trivial⟩ ?_)
 rintro k hle_k
 refine ac ?_
 refine co rfl (ok_len rfl Tryz.underlying221 (vl rfl)) ?_
 refine ac ?_
 refine Tr.cn rfl ?_ ?_ <;> intro h1 q1
 have hk_k : k < ((List.replicate m (rowQ q)).length) := lt_of_dec h1
 have hkm : k < m := by simpa using hk_k
 have ih2 := ih.resolve_left (by omega)
 refine ac ?_
 refine ap ?_
 refine TO.ex 12 rfl (fun z12 => TO.fact 12 rfl fun hz12 => ?_)
 refine ap ?_
 refine tp rfl (ok_indexAddr rfl Tryz.underlying221 sz223 (vl rfl) (vl rfl) (by omega) (rep_at hkm)) (tp rfl (ok_loadA rfl agg223 sz223 (vl rfl) rfl rfl) (tp rfl (kc1 (ih2) rfl rfl) ?_))
 refine TO.ex 18 rfl (fun z18 => TO.fact 18 rfl fun hz18 => ?_)
 refine tp rfl (ok_max rfl (vl rfl) (vl rfl)) ?_
 refine ap ?_
 refine wk3 1 3 4 rfl ?_
 refine ac ?_
 exact Fin.fam_same (k + 1) ⟨hk_k, by omega⟩ ⟨⟨_, rfl, int_succ k⟩, ⟨_, rfl, ex_in _ (fact_in (by omega) (Pr.le_refl _))⟩, ke rfl, trivial⟩
 have he_k : k = ((List.replicate m (rowQ q)).length) := by have := ge_of_dec h1; omega
 refine ac ?_
 refine ap ?_
 refine TO.ex 20 rfl (fun z20 => TO.fact 20 rfl fun hz20 => ?_)
 refine ap ?_
 refine ac ?_
 · exact ex_in _ (fact_in (by omega) (Pr.le_refl _))
/-- How many digits to the base 256. -/
def digC (n : Nat) : Nat := if h : n = 0 then 0 else 1 + digC (n / 256)
termination_by n
decreasing_by omega
theorem digC_zero : digC 0 = 0 := by unfold digC; simp
theorem digC_pos {n : Nat} (h : 0 < n) : digC n = 1 + digC (n / 256) := by conv => lhs; unfold digC; rw [dif_neg (by omega)]
theorem digC_le : ∀ (n : Nat), digC n ≤ n := by
  intro n
  induction n using Nat.strongRecOn with
  | _ n ih =>
    rcases Nat.eq_zero_or_pos n with h | h
    · subst h; rw [digC_zero]; omega
    · rw [digC_pos h]; have := ih (n / 256) (by omega); omega
def lenC (n : Nat) : Nat := if n < 128 then 1 else 1 + digC n
theorem lenC_le (n : Nat) : lenC n ≤ n + 1 := by unfold lenC; have := digC_le n; split <;> omega
theorem bts_one (k : Int) : Pr.le (slice 1 [[is (.int .u8 k)]]) (bts 1) := bts_of (l := [()]) (f := fun _ => k)

theorem w_rlength {n : Nat} (hn : n ≤ 100000000) : Fun Tryz.prog 285 [int ((n : Nat) : Int)] (bts (lenC n)) := by
 refine fo Tryz.func285 rfl ⟨rfl, rfl⟩ fun M0 w0 => ?_
 refine ac ?_
 refine ac ?_
 refine Tr.cn rfl ?_ ?_ <;> intro h1 q1
 refine ac ?_
 refine co rfl (ok_conv rfl Tryz.underlying3 Tryz.underlying5 (vl rfl)) (co rfl (ok_buildSlice (xs := [.tmp 7]) (rows := [u8R]) rfl rfl Tryz.underlying198 sz5 z5 rfl (by decide) ⟨⟨(by exact rfl), VL.le (vl rfl) (Pr.le_trans (is_anyK _ _) (one_cellsP _))⟩, trivial⟩ (by decide)) ?_)
 refine ac ?_
 refine ac ?_
 · refine Pr.le_trans (full_le _ _) (Pr.le_of_eq ?_); unfold lenC; rw [if_pos (by omega)]; rfl
 refine ac ?_
 refine ac ?_
 refine Tr.seq (Tr.block (Tr.addnil 5 1 (Tr.loopD2V1 [] trivial (fun (k : Nat) (acc : Nat) v => [(0, int ((k : Nat) : Int)), (3, andIs v (bts acc))]) (fun (k : Nat) (acc : Nat) v => Hp M0 w0 noS ([appRes 5 1 v])) (fun (k : Nat) (acc : Nat) => digC k + acc = digC n ∧ k ≤ n) (fun (k : Nat) (acc : Nat) => k) (n) (0) (.slice none 0 0) (⟨by omega, by omega⟩) ⟨ke rfl, ⟨_, rfl, own_nil rfl⟩, trivial⟩ (fun _ _ h => h) ?_)))
 rintro k acc v ⟨hk1, hk2⟩
 refine ac ?_
 refine Tr.cn rfl ?_ ?_ <;> intro h2 q2
 have hk0 : 0 < k := by have := Nrm.nrm h2; omega
 have hdg := digC_pos hk0
 have hle := digC_le n
 refine ac ?_
 refine ap ?_
 refine tp rfl (ok_rem rfl (vl rfl) (vl rfl) (by omega)) (tp rfl (ok_conv rfl Tryz.underlying3 Tryz.underlying5 (vl rfl)) (tp rfl (ok_buildSlice (xs := [.tmp 13]) (rows := [u8R]) rfl rfl Tryz.underlying198 sz5 z5 rfl (by decide) ⟨⟨(by exact rfl), VL.le (vl rfl) (Pr.le_trans (is_anyK _ _) (one_cellsP _))⟩, trivial⟩ (by decide)) ?_))
 refine tm rfl (TO.pad ?_)
 refine TO.efs 0 rfl rfl (by decide) (ef_append rfl rfl (by decide) rfl Tryz.underlying198 sz5 by5 z5 rfl (by decide) ⟨_, rfl, full_le _ _⟩ ⟨_, rfl, andIs_le _ _⟩ (by simp only [List.length_append, List.length_replicate, List.length_cons, List.length_nil]; unfold maxLen; omega) (by simp only [List.length_append, List.length_replicate, List.length_cons, List.length_nil]; omega) (appR_full (by exact List.Mem.head _) (vl rfl))) (fun v1 => ?_)
 refine ap ?_
 refine ac ?_
 refine co rfl (ok_quo rfl (vl rfl) (vl rfl) (by omega)) ?_
 refine ac ?_
 refine Fin.drop 1 ?_
 exact Fin.famD2V1 (k / 256) (acc + 1) v1 (⟨⟨by omega, by omega⟩, by omega⟩) ⟨⟨_, rfl, int_eq (by rw [Int.tdiv_eq_ediv_of_nonneg (by omega), wrap_in (by unfold InI; omega)]; omega)⟩, ⟨_, rfl, own_le (by rw [show ([u8R] : List (List Pr)) = List.replicate 1 u8R from rfl, rep_add, Nat.add_comm])⟩, trivial⟩ (fun _ _ h => h)
 have hk0 : k = 0 := by have := Nrm.nrm h2; omega
 subst hk0
 have hle := digC_le n
 rw [digC_zero] at hk1
 refine ac ?_
 refine ap ?_
 refine tp rfl (ok_len rfl Tryz.underlying198 ⟨_, rfl, andIs_le _ _⟩) (tp rfl (ki rfl rfl rfl rfl) (tp rfl (ok_conv rfl Tryz.underlying3 Tryz.underlying5 (vl rfl)) (tp rfl (ok_buildSlice (xs := [.tmp 22]) (rows := [u8R]) rfl rfl Tryz.underlying198 sz5 z5 rfl (by decide) ⟨⟨(by exact rfl), VL.le (vl rfl) (Pr.le_trans (is_anyK _ _) (one_cellsP _))⟩, trivial⟩ (by decide)) ?_)))
 refine tm rfl (TO.pad ?_)
 refine TO.efs 0 rfl rfl (by decide) (ef_append rfl rfl (by decide) rfl Tryz.underlying198 sz5 by5 z5 rfl (by decide) ⟨_, rfl, full_le _ _⟩ ⟨_, rfl, andIs_le _ _⟩ (by simp only [List.length_append, List.length_replicate, List.length_cons, List.length_nil]; unfold maxLen; omega) (by simp only [List.length_append, List.length_replicate, List.length_cons, List.length_nil]; omega) (appR_full (by exact List.Mem.head _) (vl rfl))) (fun v2 => ?_)
 refine ap ?_
 refine ac ?_
 · refine Pr.le_trans (andIs_le _ _) (Pr.le_of_eq ?_); unfold lenC; rw [if_neg (by omega), show ([u8R] : List (List Pr)) = List.replicate 1 u8R from rfl, rep_add, show acc = digC n by omega]
end Go.Proofs.YtppeeogffbpcbaaGreat
namespace Go.Proofs.YtppeeogffbpcbaaGreat
open Go Go.RowKit Cp
theorem w_rput {t : Int} {b : Nat} {n : Bool} {m : Nat} {q : Pr} {B : Nat}  (hb : b ≤ 1000) (hm : m ≤ 20) (hB : B ≤ 1000000) (ih : m = 0 ∨ Fun Tryz.prog 249 [agg (rowQ q)] (bytesE B)) : Fun Tryz.prog 249 [agg [int t, bts b, bool n, slice 4 (List.replicate m (rowQ q))]] (bytesE (2 * (1000 + 20 * B) + 2)) := by
 refine fo Tryz.func249 rfl ⟨rfl, rfl⟩ fun M0 w0 => ?_
 have hlr : (List.replicate m (rowQ q)).length = m := List.length_replicate
 have hlb : (List.replicate b u8R).length = b := List.length_replicate
 refine ac ?_
 refine ap ?_
 refine TO.pad ?_
 refine TO.efs 0 rfl rfl (by decide) (ef_append rfl rfl (by decide) rfl Tryz.underlying198 sz5 by5 z5 rfl (by decide) ⟨_, rfl, full_le _ _⟩ (vl rfl) (by simp only [List.length_append, List.length_replicate, List.length_cons, List.length_nil]; unfold maxLen; omega) (by simp only [List.length_append, List.length_replicate, List.length_cons, List.length_nil]; omega) (appR_full (by exact List.Mem.head _) (vl rfl))) (fun v1 => ?_)
 refine ap ?_
 refine ac ?_
 refine Tr.block (Tr.loopD2V1 [(1, _)] ⟨ke rfl, trivial⟩ (fun (k : Nat) (acc : Nat) v => [(4, int ((k : Nat) : Int)), (3, andIs v (bts acc))]) (fun (k : Nat) (acc : Nat) v => Hp M0 w0 noS ([appRes 5 1 v])) (fun (k : Nat) (acc : Nat) => k ≤ m ∧ acc ≤ b + k * B) (fun (k : Nat) (acc : Nat) => m - k) (0) (b) v1 (⟨by omega, by omega⟩) ⟨ke rfl, ⟨_, rfl, own_le (by simp)⟩, trivial⟩ (fun _ _ h => h) ?_)
 rintro k acc v ⟨hk1, hk2⟩
 have hkB : k * B ≤ 20 * B := Nat.mul_le_mul_right B (by omega)
 refine ac ?_
 refine co rfl (ok_len rfl Tryz.underlying221 (vl rfl)) ?_
 refine ac ?_
 refine Tr.cn rfl ?_ ?_ <;> intro h1 q1
 have hkm : k < m := by have := Nrm.nrm h1; rw [hlr] at this; omega
 have ih2 := ih.resolve_left (by omega)
 refine ac ?_
 refine ap ?_
 refine tp rfl (ok_indexAddr rfl Tryz.underlying221 sz223 (vl rfl) (vl rfl) (by omega) (rep_at hkm)) (tp rfl (ok_loadA rfl agg223 sz223 (vl rfl) rfl rfl) (tp rfl (kc1 (ih2) rfl rfl) ?_))
 refine TO.ex 22 rfl (fun z22 => TO.fact 22 rfl fun hz22 => ?_)
 refine TO.efs 0 rfl rfl (by decide) (ef_append rfl rfl (by decide) rfl Tryz.underlying198 sz5 by5 z5 rfl (by decide) ⟨_, rfl, andIs_le _ _⟩ (vl rfl) (by simp only [List.length_append, List.length_replicate, List.length_cons, List.length_nil]; unfold maxLen; omega) (by simp only [List.length_append, List.length_replicate, List.length_cons, List.length_nil]; omega) (appR_is (by exact List.Mem.head _) ⟨_, rfl, andIs_is _ _⟩)) (fun v2 => ?_)
 refine ap ?_
 refine wk3 1 3 4 rfl ?_
 refine ac ?_
 exact Fin.famD2V1 (k + 1) (acc + z22) v2 (⟨⟨by omega, by rw [Nat.succ_mul]; omega⟩, by omega⟩) ⟨⟨_, rfl, int_succ k⟩, ⟨_, rfl, own_le (by rw [rep_add])⟩, ke rfl, trivial⟩ (fun _ _ h => h)
 have hke : k = m := by have := Nrm.nrm h1; rw [hlr] at this; omega
 have hll := lenC_le acc
 refine ac ?_
 refine Tr.seq (Tr.pad (Tr.rx ?_))
 refine ay ?_
 refine xo rfl (fun _ => ok_conv rfl Tryz.underlying3 Tryz.underlying5 (vl rfl)) (xo rfl (fun _ => ok_buildSlice (xs := [.tmp 26]) (rows := [u8R]) rfl rfl Tryz.underlying198 sz5 z5 rfl (by decide) ⟨⟨(by exact rfl), VL.le (vl rfl) (Pr.le_trans (is_anyK _ _) (one_cellsP _))⟩, trivial⟩ (by decide)) ?_)
 refine xm rfl (xo rfl (fun _ => ok_len rfl Tryz.underlying198 ⟨_, rfl, andIs_le _ _⟩) ?_)
 refine xo rfl (fun _ => ok_call rfl (w_rlength (n := acc) (by omega)) ⟨⟨_, rfl, int_eq (by simp)⟩, trivial⟩) ?_
 refine Cx.ef 0 rfl rfl (by decide) (ef_append rfl rfl (by decide) rfl Tryz.underlying198 sz5 by5 z5 rfl (by decide) ⟨_, rfl, full_le _ _⟩ (vl rfl) (by simp only [List.length_append, List.length_replicate, List.length_cons, List.length_nil]; unfold maxLen; omega) (by simp only [List.length_append, List.length_replicate, List.length_cons, List.length_nil]; omega) (appR_full (by exact List.Mem.head _) (vl rfl))) ?_
 refine xm rfl ?_
 refine Cx.ef 0 rfl rfl (by decide) (ef_append rfl rfl (by decide) rfl Tryz.underlying198 sz5 by5 z5 rfl (by decide) (vl rfl) ⟨_, rfl, andIs_le _ _⟩ (by simp only [List.length_append, List.length_replicate, List.length_cons, List.length_nil]; unfold maxLen; omega) (by simp only [List.length_append, List.length_replicate, List.length_cons, List.length_nil]; omega) appR_slot) ?_
 refine Cx.ef 0 rfl rfl (by decide) (ef_move rfl rfl (by decide) rfl (vl rfl)) ?_
 refine Cx.nil ⟨by kernel_rfl, ?_⟩
 refine FinX.open_ 0 2 rfl rfl (fun v3 => ?_)
 refine FinX.done al2 (Fin.go (wk1 2 rfl ?_))
 refine ac ?_
 · exact bytesE_in (m := 1 + lenC acc + acc) (by have := lenC_le acc; omega) (Pr.le_trans (andIs_le _ _) (Pr.le_of_eq (by rw [show ([u8R] : List (List Pr)) = List.replicate 1 u8R from rfl, rep_add, rep_add])))
theorem w_rEncode {q : Pr} {D B : Nat} (hf : Fun Tryz.prog 247 [agg (rowQ q)] anyB) (hd : Fun Tryz.prog 248 [agg (rowQ q)] (depthE D)) (hp : Fun Tryz.prog 249 [agg (rowQ q)] (bytesE B)) : Fun Tryz.prog 201 [agg (rowQ q)] (tup [bytesE B, anyK .i64]) := by
 refine fo Tryz.func201 rfl ⟨rfl, rfl⟩ fun M0 w0 => ?_
 refine ac ?_
 refine ap ?_
 refine tp rfl (kc1 (hf) rfl rfl) ?_
 refine TO.ex 6 rfl (fun z6 => ?_)
 refine ap ?_
 refine Tr.cn rfl ?_ ?_ <;> intro h1 q1
 refine ac ?_
 refine Tr.ret (Fin.then_ret (Fin.ret2 rfl (OutW.bse _ _) rfl ?_ rfl ?_))
 · exact bytesE_in (m := 0) (by omega) (nil_slice 1)
 · exact is_anyK _ _
 refine ac ?_
 refine ap ?_
 refine tp rfl (kc1 (hd) rfl rfl) ?_
 refine TO.ex 9 rfl (fun z9 => TO.fact 9 rfl fun hz9 => ?_)
 refine ap ?_
 refine Tr.cn rfl ?_ ?_ <;> intro h2 q2
 refine ac ?_
 refine Tr.ret (Fin.then_ret (Fin.ret2 rfl (OutW.bse _ _) rfl ?_ rfl ?_))
 · exact bytesE_in (m := 0) (by omega) (nil_slice 1)
 · exact is_anyK _ _
 refine ac ?_
 refine ac ?_
 refine co rfl (kc1 (hp) rfl rfl) ?_
 refine ac ?_
 refine ap ?_
 refine TO.ex 13 rfl (fun z13 => TO.fact 13 rfl fun hz13 => ?_)
 refine tp rfl (ok_len rfl Tryz.underlying198 (vl rfl)) ?_
 refine ap ?_
 refine wk2 4 15 rfl ?_
 refine Tr.cn rfl ?_ ?_ <;> intro h3 q3
 refine ac ?_
 refine Tr.ret (Fin.then_ret (Fin.ret2 rfl (OutW.bse _ _) rfl ?_ rfl ?_))
 · exact bytesE_in (m := 0) (by omega) (nil_slice 1)
 · exact is_anyK _ _
 refine ac ?_
 refine ac ?_
 refine Tr.ret (Fin.ret2 rfl (OutW.bse _ _) rfl ?_ rfl ?_)
 · exact Pr.le_refl _
 · exact is_anyK _ _
theorem u8_zero : IntKind.u8.wrap 0 = 0 := rfl
def intMu (x h : Int) : Nat := (2 * x).toNat + (if 128 ≤ h then 1 else 0)
theorem int_step {x h : Int} {t : Nat} (h0 : 0 ≤ x) (hc : x ≠ 0 ∨ 128 ≤ h) (hi : t + intMu x h ≤ 400) : (0 ≤ x / 256 ∧ t + 1 + intMu (x / 256) (IntKind.u8.wrap x) ≤ 400) ∧ intMu (x / 256) (IntKind.u8.wrap x) < intMu x h := by
  have key : intMu (x / 256) (IntKind.u8.wrap x) < intMu x h := by
    unfold intMu
    by_cases hx : x = 0
    · subst hx
      rw [u8_zero, if_neg (by omega), if_pos (by omega)]; decide
    · have : (if 128 ≤ IntKind.u8.wrap x then 1 else 0) ≤ 1 := by split <;> omega
      have : 0 ≤ (if 128 ≤ h then 1 else 0) := by split <;> omega
      omega
  exact ⟨⟨by omega, by omega⟩, key⟩
theorem ok_shr8 {P : Program} {I : Asn} {E : Env} {o : Oper} {t u : TypeId} {x y : Operand} {m : Int} (ho : o.op = .binOp .shr t x y u) (hx : VL E x (int m)) (hy : VL E y (is (.int .u64 8))) (h0 : 0 ≤ m) : OpOK P I o E (int (m / 256)) :=
  OpOK.same fun M w a he _ => by
    have h1 : a.eval x = .int .i64 m := hx.ev he (by simp [ho, Op.operands])
    have h2 : a.eval y = .int .u64 8 := hy.ev he (by simp [ho, Op.operands])
    refine ⟨.int .i64 (m.fdiv 256), ?_, congrArg (Value.int .i64) (Int.fdiv_eq_ediv_of_nonneg m (by omega))⟩
    simp only [execOp, ho, h1, h2]
    simp [eqGuard, binOp, Op.shift, IntKind.bits]
abbrev q0 : Pr := slice 4 []

theorem w_rInt {n : Int} (hn : 0 ≤ n ∧ n ≤ 40000) : Fun Tryz.prog 252 [int n] (agg (rowQ q0)) := by
 refine fo Tryz.func252 rfl ⟨rfl, rfl⟩ fun M0 w0 => (Tr.seq (Tr.regT ?_))
 refine TO.alloc rfl rfl (by decide) rfl z223 zo223 (fun b1 => ?_)
 refine ap ?_
 refine ac ?_
 refine co rfl (ok_conv rfl Tryz.underlying3 Tryz.underlying5 (vl rfl)) ?_
 refine ac ?_
 refine ac ?_
 refine co rfl (ok_shr8 rfl (vl rfl) (vl rfl) (by omega)) ?_
 refine ac ?_
 refine Tr.block ?_
 refine Tr.loopD3V0 [(2, _)] ⟨ke rfl, trivial⟩ (fun (x : Int) (h : Int) (t : List Int) => [(4, int x), (3, slice 1 ((h :: t).map fun n => [is (.int .u8 n)]))]) (fun (x : Int) (h : Int) (t : List Int) => Hp M0 w0 noS ([cellsRes true b1 223 (([.int .i64 0, .slice none 0 0, .bool false, .slice none 0 0] : List Value).map is)])) (fun (x : Int) (h : Int) (t : List Int) => 0 ≤ x ∧ t.length + intMu x h ≤ 400) (fun (x : Int) (h : Int) (t : List Int) => intMu x h) (n / 256) (IntKind.u8.wrap n) ([])  (⟨by omega, by unfold intMu; simp only [List.length_nil]; split <;> omega⟩) ⟨ke rfl, ⟨_, rfl, Pr.le_trans (full_le _ _) (Pr.le_of_eq rfl)⟩, trivial⟩ (fun _ _ h => h) ?_
 rintro x h t  ⟨hx0, hmu⟩
 refine ac ?_
 refine Ch.cs 12 rfl ?_ ?_ <;> intro h1 q1
 refine ac ?_
 refine Ch.cs 16 rfl ?_ ?_ <;> intro h2 q2
 refine ac ?_
 refine wk4 2 3 4 35 rfl ?_
 refine ac ?_
 refine ap ?_
 refine tp rfl (ok_conv rfl Tryz.underlying3 Tryz.underlying5 (vl rfl)) ?_
 refine ap ?_
 refine TO.pad ?_
 refine TO.efs 0 rfl rfl (by decide) (ef_append rfl rfl (by decide) rfl Tryz.underlying198 sz5 by5 z5 rfl (by decide) ⟨_, rfl, full_le _ _⟩ (vl rfl) (by simp only [List.length_append, List.length_replicate, List.length_map, List.length_cons, List.length_nil]; unfold maxLen; omega) (by simp only [List.length_append, List.length_replicate, List.length_map, List.length_cons, List.length_nil]; omega) (appR_full (by exact List.Mem.head _) (vl rfl))) (fun v1 => ?_)
 refine ap ?_
 refine ac ?_
 refine co rfl (ok_shr8 rfl (vl rfl) (vl rfl) (by omega)) ?_
 refine ac ?_
 refine Fin.drop 0 (Fin.famD3V0 (x / 256) (IntKind.u8.wrap x) (h :: t)  ((int_step hx0 (by omega) hmu)) ⟨ke rfl, ⟨_, rfl, Pr.le_trans (andIs_le _ _) (Pr.le_of_eq rfl)⟩, ke rfl, trivial⟩ (fun _ _ h => h))
 refine ac ?_
 refine Ch.cs 19 rfl ?_ ?_ <;> intro h3 q3
 refine cym h3 rfl ?_
 refine cy h3 rfl (ok_indexAddr rfl Tryz.underlying198 sz5 (vl rfl) (vl rfl) (by omega) (row_at (k := 0) rfl)) ?_
 refine ac ?_
 refine Ch.cs 26 rfl ?_ ?_ <;> intro h4 q4
 refine ac ?_
 refine wk4 2 3 4 35 rfl ?_
 refine ac ?_
 refine ap ?_
 refine tp rfl (ok_conv rfl Tryz.underlying3 Tryz.underlying5 (vl rfl)) ?_
 refine ap ?_
 refine TO.pad ?_
 refine TO.efs 0 rfl rfl (by decide) (ef_append rfl rfl (by decide) rfl Tryz.underlying198 sz5 by5 z5 rfl (by decide) ⟨_, rfl, full_le _ _⟩ (vl rfl) (by simp only [List.length_append, List.length_replicate, List.length_map, List.length_cons, List.length_nil]; unfold maxLen; omega) (by simp only [List.length_append, List.length_replicate, List.length_map, List.length_cons, List.length_nil]; omega) (appR_full (by exact List.Mem.head _) (vl rfl))) (fun v2 => ?_)
 refine ap ?_
 refine ac ?_
 refine co rfl (ok_shr8 rfl (vl rfl) (vl rfl) (by omega)) ?_
 refine ac ?_
 refine Fin.drop 0 (Fin.famD3V0 (x / 256) (IntKind.u8.wrap x) (h :: t)  ((int_step hx0 (by omega) hmu)) ⟨ke rfl, ⟨_, rfl, Pr.le_trans (andIs_le _ _) (Pr.le_of_eq rfl)⟩, ke rfl, trivial⟩ (fun _ _ h => h))
 refine ac ?_
 refine Ch.cs 29 rfl ?_ ?_ <;> intro h5 q5
 refine cym h5 rfl ?_
 refine cy h5 rfl (ok_indexAddr rfl Tryz.underlying198 sz5 (vl rfl) (vl rfl) (by omega) (row_at (k := 0) rfl)) ?_
 refine ac ?_
 refine wk4 2 3 4 35 rfl ?_
 refine Tr.cn rfl ?_ ?_ <;> intro h6 q6
 have hc_ := h6
 refine ac ?_
 refine ap ?_
 refine tp rfl (ok_conv rfl Tryz.underlying3 Tryz.underlying5 (vl rfl)) ?_
 refine ap ?_
 refine TO.pad ?_
 refine TO.efs 0 rfl rfl (by decide) (ef_append rfl rfl (by decide) rfl Tryz.underlying198 sz5 by5 z5 rfl (by decide) ⟨_, rfl, full_le _ _⟩ (vl rfl) (by simp only [List.length_append, List.length_replicate, List.length_map, List.length_cons, List.length_nil]; unfold maxLen; omega) (by simp only [List.length_append, List.length_replicate, List.length_map, List.length_cons, List.length_nil]; omega) (appR_full (by exact List.Mem.head _) (vl rfl))) (fun v3 => ?_)
 refine ap ?_
 refine ac ?_
 refine co rfl (ok_shr8 rfl (vl rfl) (vl rfl) (by omega)) ?_
 refine ac ?_
 refine Fin.drop 0 (Fin.famD3V0 (x / 256) (IntKind.u8.wrap x) (h :: t)  ((int_step hx0 (by omega) hmu)) ⟨ke rfl, ⟨_, rfl, Pr.le_trans (andIs_le _ _) (Pr.le_of_eq rfl)⟩, ke rfl, trivial⟩ (fun _ _ h => h))
 have hc_ := h6
 refine ac ?_
 refine ap ?_
 refine Tr.ret (Fin.retX1 rfl (RVal.cell 0 rfl rfl agg223 sz223 rfl (Pr.le_refl _)) ?_)
 · exact agg_le ⟨is_anyK _ _, bytesE_in (m := (h :: t).length) (by simp only [List.length_cons]; omega) bts_of, ex_in _ (Pr.le_refl _), nil_slice 4, trivial⟩
 refine ac ?_
 refine wk4 2 3 4 35 rfl ?_
 refine ac ?_
 refine ap ?_
 refine Tr.ret (Fin.retX1 rfl (RVal.cell 0 rfl rfl agg223 sz223 rfl (Pr.le_refl _)) ?_)
 · exact agg_le ⟨is_anyK _ _, bytesE_in (m := (h :: t).length) (by simp only [List.length_cons]; omega) bts_of, ex_in _ (Pr.le_refl _), nil_slice 4, trivial⟩
 refine ac ?_
 refine Ch.cs 29 rfl ?_ ?_ <;> intro h7 q7
 refine cym h7 rfl ?_
 refine cy h7 rfl (ok_indexAddr rfl Tryz.underlying198 sz5 (vl rfl) (vl rfl) (by omega) (row_at (k := 0) rfl)) ?_
 refine ac ?_
 refine wk4 2 3 4 35 rfl ?_
 refine Tr.cn rfl ?_ ?_ <;> intro h8 q8
 have hc_ := h8
 refine ac ?_
 refine ap ?_
 refine tp rfl (ok_conv rfl Tryz.underlying3 Tryz.underlying5 (vl rfl)) ?_
 refine ap ?_
 refine TO.pad ?_
 refine TO.efs 0 rfl rfl (by decide) (ef_append rfl rfl (by decide) rfl Tryz.underlying198 sz5 by5 z5 rfl (by decide) ⟨_, rfl, full_le _ _⟩ (vl rfl) (by simp only [List.length_append, List.length_replicate, List.length_map, List.length_cons, List.length_nil]; unfold maxLen; omega) (by simp only [List.length_append, List.length_replicate, List.length_map, List.length_cons, List.length_nil]; omega) (appR_full (by exact List.Mem.head _) (vl rfl))) (fun v4 => ?_)
 refine ap ?_
 refine ac ?_
 refine co rfl (ok_shr8 rfl (vl rfl) (vl rfl) (by omega)) ?_
 refine ac ?_
 refine Fin.drop 0 (Fin.famD3V0 (x / 256) (IntKind.u8.wrap x) (h :: t)  ((int_step hx0 (by omega) hmu)) ⟨ke rfl, ⟨_, rfl, Pr.le_trans (andIs_le _ _) (Pr.le_of_eq rfl)⟩, ke rfl, trivial⟩ (fun _ _ h => h))
 have hc_ := h8
 refine ac ?_
 refine ap ?_
 refine Tr.ret (Fin.retX1 rfl (RVal.cell 0 rfl rfl agg223 sz223 rfl (Pr.le_refl _)) ?_)
 · exact agg_le ⟨is_anyK _ _, bytesE_in (m := (h :: t).length) (by simp only [List.length_cons]; omega) bts_of, ex_in _ (Pr.le_refl _), nil_slice 4, trivial⟩
 refine ac ?_
 refine wk4 2 3 4 35 rfl ?_
 refine ac ?_
 refine ap ?_
 refine Tr.ret (Fin.retX1 rfl (RVal.cell 0 rfl rfl agg223 sz223 rfl (Pr.le_refl _)) ?_)
 · exact agg_le ⟨is_anyK _ _, bytesE_in (m := (h :: t).length) (by simp only [List.length_cons]; omega) bts_of, ex_in _ (Pr.le_refl _), nil_slice 4, trivial⟩
 refine ac ?_
 refine Ch.cs 19 rfl ?_ ?_ <;> intro h9 q9
 refine cym h9 rfl ?_
 refine cy h9 rfl (ok_indexAddr rfl Tryz.underlying198 sz5 (vl rfl) (vl rfl) (by omega) (row_at (k := 0) rfl)) ?_
 refine ac ?_
 refine Ch.cs 26 rfl ?_ ?_ <;> intro h10 q10
 refine ac ?_
 refine wk4 2 3 4 35 rfl ?_
 refine ac ?_
 refine ap ?_
 refine tp rfl (ok_conv rfl Tryz.underlying3 Tryz.underlying5 (vl rfl)) ?_
 refine ap ?_
 refine TO.pad ?_
 refine TO.efs 0 rfl rfl (by decide) (ef_append rfl rfl (by decide) rfl Tryz.underlying198 sz5 by5 z5 rfl (by decide) ⟨_, rfl, full_le _ _⟩ (vl rfl) (by simp only [List.length_append, List.length_replicate, List.length_map, List.length_cons, List.length_nil]; unfold maxLen; omega) (by simp only [List.length_append, List.length_replicate, List.length_map, List.length_cons, List.length_nil]; omega) (appR_full (by exact List.Mem.head _) (vl rfl))) (fun v5 => ?_)
 refine ap ?_
 refine ac ?_
 refine co rfl (ok_shr8 rfl (vl rfl) (vl rfl) (by omega)) ?_
 refine ac ?_
 refine Fin.drop 0 (Fin.famD3V0 (x / 256) (IntKind.u8.wrap x) (h :: t)  ((int_step hx0 (by omega) hmu)) ⟨ke rfl, ⟨_, rfl, Pr.le_trans (andIs_le _ _) (Pr.le_of_eq rfl)⟩, ke rfl, trivial⟩ (fun _ _ h => h))
 refine ac ?_
 refine Ch.cs 29 rfl ?_ ?_ <;> intro h11 q11
 refine cym h11 rfl ?_
 refine cy h11 rfl (ok_indexAddr rfl Tryz.underlying198 sz5 (vl rfl) (vl rfl) (by omega) (row_at (k := 0) rfl)) ?_
 refine ac ?_
 refine wk4 2 3 4 35 rfl ?_
 refine Tr.cn rfl ?_ ?_ <;> intro h12 q12
 have hc_ := h12
 refine ac ?_
 refine ap ?_
 refine tp rfl (ok_conv rfl Tryz.underlying3 Tryz.underlying5 (vl rfl)) ?_
 refine ap ?_
 refine TO.pad ?_
 refine TO.efs 0 rfl rfl (by decide) (ef_append rfl rfl (by decide) rfl Tryz.underlying198 sz5 by5 z5 rfl (by decide) ⟨_, rfl, full_le _ _⟩ (vl rfl) (by simp only [List.length_append, List.length_replicate, List.length_map, List.length_cons, List.length_nil]; unfold maxLen; omega) (by simp only [List.length_append, List.length_replicate, List.length_map, List.length_cons, List.length_nil]; omega) (appR_full (by exact List.Mem.head _) (vl rfl))) (fun v6 => ?_)
 refine ap ?_
 refine ac ?_
 refine co rfl (ok_shr8 rfl (vl rfl) (vl rfl) (by omega)) ?_
 refine ac ?_
 refine Fin.drop 0 (Fin.famD3V0 (x / 256) (IntKind.u8.wrap x) (h :: t)  ((int_step hx0 (by omega) hmu)) ⟨ke rfl, ⟨_, rfl, Pr.le_trans (andIs_le _ _) (Pr.le_of_eq rfl)⟩, ke rfl, trivial⟩ (fun _ _ h => h))
 have hc_ := h12
 refine ac ?_
 refine ap ?_
 refine Tr.ret (Fin.retX1 rfl (RVal.cell 0 rfl rfl agg223 sz223 rfl (Pr.le_refl _)) ?_)
 · exact agg_le ⟨is_anyK _ _, bytesE_in (m := (h :: t).length) (by simp only [List.length_cons]; omega) bts_of, ex_in _ (Pr.le_refl _), nil_slice 4, trivial⟩
 refine ac ?_
 refine wk4 2 3 4 35 rfl ?_
 refine ac ?_
 refine ap ?_
 refine Tr.ret (Fin.retX1 rfl (RVal.cell 0 rfl rfl agg223 sz223 rfl (Pr.le_refl _)) ?_)
 · exact agg_le ⟨is_anyK _ _, bytesE_in (m := (h :: t).length) (by simp only [List.length_cons]; omega) bts_of, ex_in _ (Pr.le_refl _), nil_slice 4, trivial⟩
 refine ac ?_
 refine Ch.cs 29 rfl ?_ ?_ <;> intro h13 q13
 refine cym h13 rfl ?_
 refine cy h13 rfl (ok_indexAddr rfl Tryz.underlying198 sz5 (vl rfl) (vl rfl) (by omega) (row_at (k := 0) rfl)) ?_
 refine ac ?_
 refine wk4 2 3 4 35 rfl ?_
 refine Tr.cn rfl ?_ ?_ <;> intro h14 q14
 have hc_ := h14
 refine ac ?_
 refine ap ?_
 refine tp rfl (ok_conv rfl Tryz.underlying3 Tryz.underlying5 (vl rfl)) ?_
 refine ap ?_
 refine TO.pad ?_
 refine TO.efs 0 rfl rfl (by decide) (ef_append rfl rfl (by decide) rfl Tryz.underlying198 sz5 by5 z5 rfl (by decide) ⟨_, rfl, full_le _ _⟩ (vl rfl) (by simp only [List.length_append, List.length_replicate, List.length_map, List.length_cons, List.length_nil]; unfold maxLen; omega) (by simp only [List.length_append, List.length_replicate, List.length_map, List.length_cons, List.length_nil]; omega) (appR_full (by exact List.Mem.head _) (vl rfl))) (fun v7 => ?_)
 refine ap ?_
 refine ac ?_
 refine co rfl (ok_shr8 rfl (vl rfl) (vl rfl) (by omega)) ?_
 refine ac ?_
 refine Fin.drop 0 (Fin.famD3V0 (x / 256) (IntKind.u8.wrap x) (h :: t)  ((int_step hx0 (by omega) hmu)) ⟨ke rfl, ⟨_, rfl, Pr.le_trans (andIs_le _ _) (Pr.le_of_eq rfl)⟩, ke rfl, trivial⟩ (fun _ _ h => h))
 have hc_ := h14
 refine ac ?_
 refine ap ?_
 refine Tr.ret (Fin.retX1 rfl (RVal.cell 0 rfl rfl agg223 sz223 rfl (Pr.le_refl _)) ?_)
 · exact agg_le ⟨is_anyK _ _, bytesE_in (m := (h :: t).length) (by simp only [List.length_cons]; omega) bts_of, ex_in _ (Pr.le_refl _), nil_slice 4, trivial⟩
 refine ac ?_
 refine wk4 2 3 4 35 rfl ?_
 refine ac ?_
 refine ap ?_
 refine Tr.ret (Fin.retX1 rfl (RVal.cell 0 rfl rfl agg223 sz223 rfl (Pr.le_refl _)) ?_)
 · exact agg_le ⟨is_anyK _ _, bytesE_in (m := (h :: t).length) (by simp only [List.length_cons]; omega) bts_of, ex_in _ (Pr.le_refl _), nil_slice 4, trivial⟩
theorem w_rText {s : List UInt8} (hs : s.length ≤ 1000) : Fun Tryz.prog 250 [str s] (agg (rowQ q0)) := by
 refine fo Tryz.func250 rfl ⟨rfl, rfl⟩ fun M0 w0 => (Tr.seq (Tr.regT ?_))
 refine TO.alloc rfl rfl (by decide) rfl z223 zo223 (fun b1 => ?_)
 refine ap ?_
 refine ap ?_
 refine tp rfl (ok_bytes rfl Tryz.underlying9 Tryz.underlying198 Tryz.underlying5 (vl rfl) (by unfold maxLen; omega)) ?_
 refine ap ?_
 refine Tr.ret (Fin.retX1 rfl (RVal.cell 0 rfl rfl agg223 sz223 rfl (Pr.le_refl _)) ?_)
 · exact agg_le ⟨is_anyK _ _, bytesE_in (m := s.length) (by omega) (bts_of (f := fun c : UInt8 => ((c.toNat : Nat) : Int))), ex_in _ (Pr.le_refl _), nil_slice 4, trivial⟩
theorem w_rBool {b : Bool}  : Fun Tryz.prog 254 [bool b] (agg (rowQ q0)) := by
 refine fo Tryz.func254 rfl ⟨rfl, rfl⟩ fun M0 w0 => (Tr.seq (Tr.regT ?_))
 refine TO.alloc rfl rfl (by decide) rfl z223 zo223 (fun b1 => ?_)
 refine ap ?_
 refine ac ?_
 refine Tr.cn rfl ?_ ?_ <;> intro h1 q1
 refine ap ?_
 refine tp rfl (ok_build (rows := [(0, [_]), (1, [_])]) rfl bl223 zo223 ⟨⟨rfl, (VL.le (vl rfl) (one_cellsP _))⟩, ⟨⟨rfl, ⟨_, rfl, Pr.le_trans (full_le _ _) (one_cellsP _)⟩⟩, trivial⟩⟩ rfl) ?_
 refine ap ?_
 refine Tr.ret (Fin.then_ret (Fin.retX1 rfl (RVal.cell 0 rfl rfl agg223 sz223 rfl (Pr.le_refl _)) ?_))
 · exact agg_le ⟨is_anyK _ _, bytesE_in (m := 1) (by omega) (bts_one _), ex_in _ (Pr.le_refl _), nil_slice 4, trivial⟩
 refine ac ?_
 refine ap ?_
 refine tp rfl (ok_build (rows := [(0, [_]), (1, [_])]) rfl bl223 zo223 ⟨⟨rfl, (VL.le (vl rfl) (one_cellsP _))⟩, ⟨⟨rfl, ⟨_, rfl, Pr.le_trans (full_le _ _) (one_cellsP _)⟩⟩, trivial⟩⟩ rfl) ?_
 refine ap ?_
 refine Tr.ret (Fin.retX1 rfl (RVal.cell 0 rfl rfl agg223 sz223 rfl (Pr.le_refl _)) ?_)
 · exact agg_le ⟨is_anyK _ _, bytesE_in (m := 1) (by omega) (bts_one _), ex_in _ (Pr.le_refl _), nil_slice 4, trivial⟩
theorem w_rcopies {m : Nat} {q : Pr} [One q]  (hm : m ≤ 20) (ih : m = 0 ∨ Fun Tryz.prog 286 [q] q) : Fun Tryz.prog 286 [slice 4 (List.replicate m (rowQ q))] (slice 4 (List.replicate m (rowQ q))) := by
 refine Fun.of Tryz.func286 rfl rfl (by exact Nat.le_of_ble_eq_true rfl) fun M0 w0 => ?_
 have hlr : (List.replicate m (rowQ q)).length = m := List.length_replicate
 refine Tr.seq (Tr.reg0 (cm rfl (Ch.nil (Fin.go (Tr.seq (Tr.reg0 (cm rfl (Ch.nil (Fin.go (Tr.seq (Tr.seq (Tr.reg0 (cm rfl ?_)))))))))))))
 refine Ch.nil (Fin.go (Tr.block (Tr.addnil 223 4 (Tr.loopV1 [(0, _)] ⟨ke rfl, trivial⟩ (fun k v => [(4, int ((k : Nat) : Int)), (3, andIs v (slice 4 (List.replicate k (rowQ q))))]) (fun k v => Hp M0 w0 noS ([appRes 223 4 v])) (fun k : Nat => k ≤ ((List.replicate m (rowQ q)).length)) (fun k : Nat => ((List.replicate m (rowQ q)).length) - k) 0 (.slice none 0 0) (Nat.zero_le _) ⟨ke rfl, ⟨_, rfl, own_nil rfl⟩, trivial⟩ (fun _ _ h => h) ?_))))
 rintro k v hle_k
 refine Tr.seq (Tr.seq (Tr.reg0 (cm rfl (cm rfl (co rfl (ok_len rfl Tryz.underlying221 (vl rfl)) (co rfl (ki rfl rfl rfl rfl) (Ch.nil (Fin.go ?_))))))))
 refine Tr.cn rfl ?_ ?_ <;> intro h1 q1
 have hk_k : k < ((List.replicate m (rowQ q)).length) := lt_of_dec h1
 have hkm : k < m := by simpa using hk_k
 have ih2 := ih.resolve_left (by omega)
 refine Tr.skip (Fin.go (Tr.seq (Tr.block (Tr.seq (Tr.regT (tm rfl (tm rfl (tp rfl (ok_indexAddr rfl Tryz.underlying221 sz223 (vl rfl) (vl rfl) (by omega) (rep_at hkm)) (tp rfl (ok_loadA rfl agg223 sz223 (vl rfl) rfl rfl) ?_)))))))))
 refine TO.alloc rfl rfl (by decide) rfl z223 zo223 (fun b1 => ?_)
 refine TO.store_all 0 rfl rfl rfl (vl rfl) (VL.le (vl rfl) (agg_cellsP _)) rfl sz223 rfl rfl (TO.nil (Fin.go (Tr.seq (Tr.regT (tp rfl (ok_buildSlice (xs := []) (rows := []) rfl rfl Tryz.underlying198 sz5 z5 rfl (by decide) trivial (by decide)) (tp rfl (okp_fieldAddr rfl fo223_1 (vl rfl)) (TO.rd 0 rfl rfl rfl (by decide) (rd_load1 rfl one198 (vl rfl) rfl) ?_)))))))
 refine TO.ex 18 rfl (fun z18 => TO.fact 18 rfl fun hz18 => ?_)
 refine TO.pad ?_
 refine TO.efs 0 rfl rfl (by decide) (ef_append rfl rfl (by decide) rfl Tryz.underlying198 sz5 by5 z5 rfl (by decide) ⟨_, rfl, full_le _ _⟩ (vl rfl) (by simp only [List.length_append, List.length_replicate, List.length_cons, List.length_nil]; unfold maxLen; omega) (by simp only [List.length_append, List.length_replicate, List.length_cons, List.length_nil]; omega) (appR_full (by exact List.Mem.head _) (vl rfl))) (fun v1 => ?_)
 refine tp rfl (okp_fieldAddr rfl fo223_1 (vl rfl)) (TO.ef0 1 rfl rfl (ef_store rfl rfl (vl rfl) (VL.le (vl rfl) (one_cellsP _)) sz198 rfl (by exact Nat.le_of_ble_eq_true rfl) rfl) (TO.nil (Fin.go (wk4 0 3 4 5 rfl (Tr.seq (Tr.regT (tp rfl (okp_fieldAddr rfl fo223_3 (vl rfl)) (TO.rd 1 rfl rfl rfl (by decide) (rd_load1 rfl one221 (vl rfl) rfl) (tp rfl (ok_call rfl (ih2) ⟨ke rfl, trivial⟩) (tp rfl (okp_fieldAddr rfl fo223_3 (vl rfl)) (TO.ef0 1 rfl rfl (ef_store rfl rfl (vl rfl) (VL.le (vl rfl) (one_cellsP _)) sz221 rfl (by exact Nat.le_of_ble_eq_true rfl) rfl) (TO.nil (Fin.go (Tr.regT ?_))))))))))))))
 refine tm rfl (TO.rd 1 rfl rfl rfl (by decide) (rd_loadA rfl agg223 sz223 (vl rfl) rfl rfl) (tp rfl (ok_buildSlice (xs := [.tmp 26]) (rows := [rowQ q]) rfl rfl Tryz.underlying221 sz223 z223 rfl (by decide) ⟨⟨(by exact rfl), VL.le (vl rfl) (Pr.le_trans (agg_le (qs := rowQ q) ⟨Pr.le_refl _, bytesE_in (m := z18) (by omega) (Pr.le_trans (andIs_le _ _) (Pr.le_of_eq rfl)), Pr.le_refl _, Pr.le_refl _, trivial⟩) (agg_cellsP _))⟩, trivial⟩ (by decide)) ?_))
 refine TO.efs 2 rfl rfl (by decide) (ef_append rfl rfl (by decide) rfl Tryz.underlying221 sz223 by223 z223 rfl (by decide) ⟨_, rfl, andIs_le _ _⟩ ⟨_, rfl, full_le _ _⟩ (by simp only [List.length_append, List.length_replicate, List.length_cons, List.length_nil]; unfold maxLen; omega) (by simp only [List.length_append, List.length_replicate, List.length_cons, List.length_nil]; omega) (appR_is (by exact List.Mem.head _) ⟨_, rfl, andIs_is _ _⟩)) (fun v2 => ?_)
 refine tm rfl (TO.nil (Fin.block (Fin.go (Tr.drop 1 (Tr.reg0 (cm rfl (cad rfl rfl rfl rfl (by omega) (cm rfl (Ch.nil (Fin.drop 0 (Fin.famV1 (k + 1) v2 (⟨hk_k, by omega⟩) ⟨⟨_, rfl, int_succ k⟩, ⟨_, rfl, own_le (by rw [rep_one])⟩, ke rfl, trivial⟩ (fun _ _ h => h))))))))))))
 have he_k : k = ((List.replicate m (rowQ q)).length) := by have := ge_of_dec h1; omega
 refine Tr.exit (Fin.then_exit (Fin.then_exit (Fin.block_here (Fin.go (Tr.seq (Tr.reg0 (cm rfl (cm rfl (Ch.nil (Fin.go (Tr.ret (Fin.ret1 rfl (OutW.bse _ _) rfl ?_))))))))))))
 · exact Pr.le_trans (andIs_le _ _) (Pr.le_of_eq (by rw [he_k, hlr]))
theorem w_rList {m : Nat} {q : Pr}  (hm : m ≤ 20) (hc : Fun Tryz.prog 286 [slice 4 (List.replicate m (rowQ q))] (slice 4 (List.replicate m (rowQ q)))) : Fun Tryz.prog 251 [slice 4 (List.replicate m (rowQ q))] (agg (rowQ (elemsE (rowQ q)))) := by
 refine fo Tryz.func251 rfl ⟨rfl, rfl⟩ fun M0 w0 => (Tr.seq (Tr.regT ?_))
 refine TO.alloc rfl rfl (by decide) rfl z223 zo223 (fun b1 => ?_)
 refine ap ?_
 refine ap ?_
 refine tp rfl (kc1 (hc) rfl rfl) ?_
 refine ap ?_
 refine Tr.ret (Fin.retX1 rfl (RVal.cell 0 rfl rfl agg223 sz223 rfl (Pr.le_refl _)) ?_)
 · exact agg_le ⟨is_anyK _ _, bytesE_in (m := 0) (by omega) (nil_slice 1), ex_in _ (Pr.le_refl _), ex_in m (fact_in hm (Pr.le_refl _)), trivial⟩
end Go.Proofs.YtppeeogffbpcbaaGreat
namespace Go.Proofs.YtppeeogffbpcbaaGreat
open Go Go.RowKit Cp

structure Crt.vf (c : Crt) : Prop where
  s0 : 0 ≤ c.serial
  s1 : c.serial ≤ 1099511627776
  iss : named c.issuer = true
  sub : named c.subject = true
  nm : namesB c.names = true
  key : ofB c.kalg c.kbits 2 = true
  k0 : 0 ≤ c.keyId
  k1 : c.keyId ≤ 2147483648
  hash : ofB c.halg c.hbits 1 = true
  sk0 : 0 ≤ c.skey
  sk1 : c.skey ≤ 2147483648
  su0 : 0 ≤ c.ssum
  su1 : c.ssum < 4294967296
  f0 : 0 ≤ c.from_
  ft : c.from_ ≤ c.to_
  t1 : c.to_ ≤ 40000
  p0 : 0 ≤ c.path
  p1 : c.path ≤ 8
  ap : c.auth = true ∨ c.path = 0
theorem vf_of {c : Crt} (hv : validB c = true) : c.vf := by
  simp only [validB, keyB, sumB, Bool.and_eq_true, Bool.or_eq_true, decide_eq_true_eq, beq_iff_eq] at hv
  obtain ⟨⟨⟨⟨⟨⟨⟨h1, h2⟩, h3⟩, h4⟩, h5⟩, ⟨⟨⟨⟨h6, ⟨h7, h8⟩⟩, h9⟩, ⟨h10, h11⟩⟩, ⟨h12, h13⟩⟩⟩, ⟨⟨h14, h15⟩, h16⟩⟩, ⟨⟨h17, h18⟩, h19⟩⟩ := hv
  exact ⟨h1, h2, h3, h4, h5, h6, h7, h8, h9, h10, h11, h12, h13, h14, h15, h16, h17, h18, h19⟩
theorem of_vf {c : Crt} (h : c.vf) : validB c = true := by
  simp only [validB, keyB, sumB, Bool.and_eq_true, Bool.or_eq_true, decide_eq_true_eq, beq_iff_eq]
  exact ⟨⟨⟨⟨⟨⟨⟨h.s0, h.s1⟩, h.iss⟩, h.sub⟩, h.nm⟩, ⟨⟨⟨⟨h.key, ⟨h.k0, h.k1⟩⟩, h.hash⟩, ⟨h.sk0, h.sk1⟩⟩, ⟨h.su0, h.su1⟩⟩⟩, ⟨⟨h.f0, h.ft⟩, h.t1⟩⟩, ⟨⟨h.p0, h.p1⟩, h.ap⟩⟩
theorem of_iff {a b k : Int} (h : ofB a b k = true) : decide (strength a b > 0) = true ∧ (catOf a).kind = k := by
  unfold ofB at h; simpa using h


theorem name_at {l : List (List UInt8)} {k : Nat} {s : List UInt8} (h : nameAt l k = true) (hs : l[k]? = some s) : named s = true := by
  unfold nameAt at h; rw [hs] at h; simp at h; exact h.1
theorem name_lt {l : List (List UInt8)} {k : Nat} {s y : List UInt8} (h : nameAt l k = true) (hs : l[k]? = some s) (hy : l[k - 1]? = some y) (hk : 0 < k) : decide (Lib.compareBytes y s = -1) = true := by
  unfold nameAt at h; rw [hs, hy] at h; simp at h
  rcases h.2 with h2 | h2
  · omega
  · simpa using h2

theorem w_R3Check {c : Crt} (hv : validB c = true) : Fun Tryz.prog 159 [agg (rowCr c)] (int 0) := by
 refine fo Tryz.func159 rfl ⟨rfl, rfl⟩ fun M0 w0 => ?_
 obtain ⟨hs0, hs1, hiss, hsub, hnm, hkey, hk0, hk1, hhash, hsk0, hsk1, hsu0, hsu1, hf0, hft, ht1, hp0, hp1, hap⟩ := vf_of hv
 obtain ⟨hkey1, hkey2⟩ := of_iff hkey
 obtain ⟨hh1, hh2⟩ := of_iff hhash
 have hnm2 := hnm
 unfold namesB at hnm2
 rw [Bool.and_eq_true, allI_iff, decide_eq_true_eq] at hnm2
 obtain ⟨hall, hlen8⟩ := hnm2
 refine ac ?_
 refine ac ?_
 refine Ch.cs 7 rfl ?_ ?_ <;> intro h1 q1
 exfalso; have := q1; omega
 refine ac ?_
 refine Ch.cs 12 rfl ?_ ?_ <;> intro h2 q2
 exfalso; have := q2; omega
 refine ac ?_
 refine cy h2 rfl (kc1 (w_RName) rfl rfl) ?_
 refine ac ?_
 refine Ch.cs 18 rfl ?_ ?_ <;> intro h3 q3
 rw [hiss] at h3; exact absurd h3 (by decide)
 refine ac ?_
 refine cy h3 rfl (kc1 (w_RName) rfl rfl) ?_
 refine ac ?_
 refine Ch.cs 24 rfl ?_ ?_ <;> intro h4 q4
 rw [hsub] at h4; exact absurd h4 (by decide)
 refine ac ?_
 refine cy h4 rfl (kc1 (w_Signature) rfl rfl) ?_
 refine ac ?_
 refine Ch.cs 30 rfl ?_ ?_ <;> intro h5 q5
 rw [hkey1, hkey2] at h5; exact absurd h5 (by decide)
 refine ac ?_
 refine Ch.cs 35 rfl ?_ ?_ <;> intro h6 q6
 exfalso; have := q6; omega
 refine ac ?_
 refine wk2 1 39 rfl ?_
 refine Tr.cn rfl ?_ ?_ <;> intro h7 q7
 exfalso; have := q7; omega
 refine ac ?_
 refine ac ?_
 refine co rfl (kc1 (w_RValid) rfl rfl) ?_
 refine ac ?_
 refine Ch.cs 44 rfl ?_ ?_ <;> intro h8 q8
 rw [hh1] at h8; exact absurd h8 (by decide)
 refine ac ?_
 refine cy h8 rfl (kc1 (w_RKind) rfl rfl) ?_
 refine ac ?_
 refine Ch.cs 51 rfl ?_ ?_ <;> intro h9 q9
 rw [hh2] at h9; exact absurd h9 (by decide)
 refine ac ?_
 refine Ch.cs 56 rfl ?_ ?_ <;> intro h10 q10
 exfalso; have := q10; omega
 refine ac ?_
 refine Ch.cs 63 rfl ?_ ?_ <;> intro h11 q11
 exfalso; have := q11; omega
 refine ac ?_
 refine wk2 1 67 rfl ?_
 refine Tr.cn rfl ?_ ?_ <;> intro h12 q12
 exfalso; have := q12; omega
 refine ac ?_
 refine ac ?_
 refine Ch.cs 71 rfl ?_ ?_ <;> intro h13 q13
 exfalso; have := q13; omega
 refine ac ?_
 refine Ch.cs 76 rfl ?_ ?_ <;> intro h14 q14
 exfalso; have := q14; omega
 refine ac ?_
 refine Ch.cs 80 rfl ?_ ?_ <;> intro h15 q15
 refine ac ?_
 refine Ch.cs 86 rfl ?_ ?_ <;> intro h16 q16
 exfalso; have := q16; simp_all
 refine ac ?_
 refine wk2 1 91 rfl ?_
 refine Tr.cn rfl ?_ ?_ <;> intro h17 q17
 exfalso; have := q17; omega
 refine ac ?_
 refine ac ?_
 refine Tr.block (Tr.loopw [(1, _)] ⟨ke rfl, trivial⟩ (fun k : Nat => [(3, int ((k : Nat) : Int))]) (fun k : Nat => k ≤ (c.names).length) (fun k : Nat => (c.names).length - k) 0 (Nat.zero_le _) ⟨ke rfl, trivial⟩ ?_)
 rintro k hle_k
 refine ac ?_
 refine Tr.cn rfl ?_ ?_ <;> intro h18 q18
 have hk_k : k < (c.names).length := lt_of_dec h18
 obtain ⟨s, hx_k⟩ := at_ hk_k
 have hat := hall k (by omega)
 have hna := name_at hat hx_k
 refine ac ?_
 refine ac ?_
 refine co rfl (ok_indexAddr rfl Tryz.underlying74 sz9 (vl rfl) (vl rfl) (by omega) (row_at hx_k)) (co rfl (kl1 rfl one9 rfl) (co rfl (kc1 (w_RName) rfl rfl) ?_))
 refine ac ?_
 refine Ch.cs 106 rfl ?_ ?_ <;> intro h19 q19
 exfalso; rw [hna] at h19; exact absurd h19 (by decide)
 refine ac ?_
 refine Ch.cs 109 rfl ?_ ?_ <;> intro h20 q20
 have hk00 : 0 < k := by simpa using h20
 obtain ⟨y, hy⟩ := at_ (l := c.names) (k := k - 1) (by omega)
 have hlt := name_lt hat hx_k hy hk00
 refine ac ?_
 refine cy h20 rfl (ok_indexAddr rfl Tryz.underlying74 sz9 (vl rfl) (vl rfl) (by omega) (by rw [show ((k : Nat) : Int) - 1 = ((k - 1 : Nat) : Int) by omega]; exact row_at hy)) ?_
 refine ac ?_
 refine cy h20 rfl (ok_indexAddr rfl Tryz.underlying74 sz9 (vl rfl) (vl rfl) (by omega) (row_at hx_k)) (cy h20 rfl (kl1 rfl one9 rfl) (cy h20 rfl (ok_ges rfl (vl rfl) (vl rfl)) ?_))
 refine ac ?_
 refine wk3 1 3 123 rfl ?_
 refine Tr.cn rfl ?_ ?_ <;> intro h21 q21
 exfalso; rw [hlt] at h21; exact absurd h21 (by decide)
 refine ac ?_
 refine ac ?_
 exact Fin.fam_same (k + 1) ⟨hk_k, by omega⟩ ⟨⟨_, rfl, int_succ k⟩, ke rfl, trivial⟩
 refine ac ?_
 refine wk3 1 3 123 rfl ?_
 refine ac ?_
 refine ac ?_
 exact Fin.fam_same (k + 1) ⟨hk_k, by omega⟩ ⟨⟨_, rfl, int_succ k⟩, ke rfl, trivial⟩
 have he_k : k = (c.names).length := by have := ge_of_dec h18; omega
 refine ac ?_
 refine ac ?_
 refine Ch.cs 128 rfl ?_ ?_ <;> intro h22 q22
 exfalso; have := q22; omega
 refine ac ?_
 refine Ch.cs 134 rfl ?_ ?_ <;> intro h23 q23
 exfalso; have := q23; omega
 refine ac ?_
 refine Ch.cs 140 rfl ?_ ?_ <;> intro h24 q24
 exfalso; have := q24; omega
 refine ac ?_
 refine wk1 145 rfl ?_
 refine Tr.cn rfl ?_ ?_ <;> intro h25 q25
 exfalso; have := q25; omega
 refine ac ?_
 refine ac ?_
 refine ac ?_
 · exact Pr.le_refl _
 refine ac ?_
 refine wk2 1 91 rfl ?_
 refine Tr.cn rfl ?_ ?_ <;> intro h26 q26
 exfalso; have := q26; omega
 refine ac ?_
 refine ac ?_
 refine Tr.block (Tr.loopw [(1, _)] ⟨ke rfl, trivial⟩ (fun k : Nat => [(3, int ((k : Nat) : Int))]) (fun k : Nat => k ≤ (c.names).length) (fun k : Nat => (c.names).length - k) 0 (Nat.zero_le _) ⟨ke rfl, trivial⟩ ?_)
 rintro k hle_k
 refine ac ?_
 refine Tr.cn rfl ?_ ?_ <;> intro h27 q27
 have hk_k : k < (c.names).length := lt_of_dec h27
 obtain ⟨s, hx_k⟩ := at_ hk_k
 have hat := hall k (by omega)
 have hna := name_at hat hx_k
 refine ac ?_
 refine ac ?_
 refine co rfl (ok_indexAddr rfl Tryz.underlying74 sz9 (vl rfl) (vl rfl) (by omega) (row_at hx_k)) (co rfl (kl1 rfl one9 rfl) (co rfl (kc1 (w_RName) rfl rfl) ?_))
 refine ac ?_
 refine Ch.cs 106 rfl ?_ ?_ <;> intro h28 q28
 exfalso; rw [hna] at h28; exact absurd h28 (by decide)
 refine ac ?_
 refine Ch.cs 109 rfl ?_ ?_ <;> intro h29 q29
 have hk00 : 0 < k := by simpa using h29
 obtain ⟨y, hy⟩ := at_ (l := c.names) (k := k - 1) (by omega)
 have hlt := name_lt hat hx_k hy hk00
 refine ac ?_
 refine cy h29 rfl (ok_indexAddr rfl Tryz.underlying74 sz9 (vl rfl) (vl rfl) (by omega) (by rw [show ((k : Nat) : Int) - 1 = ((k - 1 : Nat) : Int) by omega]; exact row_at hy)) ?_
 refine ac ?_
 refine cy h29 rfl (ok_indexAddr rfl Tryz.underlying74 sz9 (vl rfl) (vl rfl) (by omega) (row_at hx_k)) (cy h29 rfl (kl1 rfl one9 rfl) (cy h29 rfl (ok_ges rfl (vl rfl) (vl rfl)) ?_))
 refine ac ?_
 refine wk3 1 3 123 rfl ?_
 refine Tr.cn rfl ?_ ?_ <;> intro h30 q30
 exfalso; rw [hlt] at h30; exact absurd h30 (by decide)
 refine ac ?_
 refine ac ?_
 exact Fin.fam_same (k + 1) ⟨hk_k, by omega⟩ ⟨⟨_, rfl, int_succ k⟩, ke rfl, trivial⟩
 refine ac ?_
 refine wk3 1 3 123 rfl ?_
 refine ac ?_
 refine ac ?_
 exact Fin.fam_same (k + 1) ⟨hk_k, by omega⟩ ⟨⟨_, rfl, int_succ k⟩, ke rfl, trivial⟩
 have he_k : k = (c.names).length := by have := ge_of_dec h27; omega
 refine ac ?_
 refine ac ?_
 refine Ch.cs 128 rfl ?_ ?_ <;> intro h31 q31
 exfalso; have := q31; omega
 refine ac ?_
 refine Ch.cs 134 rfl ?_ ?_ <;> intro h32 q32
 exfalso; have := q32; omega
 refine ac ?_
 refine Ch.cs 140 rfl ?_ ?_ <;> intro h33 q33
 exfalso; have := q33; omega
 refine ac ?_
 refine wk1 145 rfl ?_
 refine Tr.cn rfl ?_ ?_ <;> intro h34 q34
 exfalso; have := q34; omega
 refine ac ?_
 refine ac ?_
 refine ac ?_
 · exact Pr.le_refl _
end Go.Proofs.YtppeeogffbpcbaaGreat
namespace Go.Proofs.YtppeeogffbpcbaaGreat
open Go Go.RowKit Cp

abbrev u32R : Pr := Cp.ex fun n : Int => fact (0 ≤ n ∧ n < 4294967296) (is (.int .u32 n))
abbrev sumE : Pr := Cp.ex fun n : Int => fact (0 ≤ n ∧ n < 4294967296) (int n)
theorem u32_any : Pr.le u32R (anyK .u32) := fun _ _ _ ⟨n, _, h⟩ => ⟨n, h⟩
section
variable {P : Program} {I : Asn} {E : Env} {o : Oper}
theorem ok_convK {s t : TypeId} {x : Operand} {k k' : IntKind} (ho : o.op = .convert s t x) (hs : P.underlying s = some (.int k)) (ht : P.underlying t = some (.int k')) (hx : VL E x (anyK k)) : OpOK P I o E (anyK k') :=
  OpOK.same fun M w a he _ => by
    obtain ⟨n, h1⟩ := hx.ev he (by simp [ho, Op.operands])
    have h1 : a.eval x = .int k n := h1
    refine ⟨.int k' (k'.wrap n), ?_, _, rfl⟩
    simp [execOp, ho, h1, convert, run_underlying hs, run_underlying ht, Conv.intToInt, Sem.run_bind]
theorem ok_mulU {t u : TypeId} {x y : Operand} (ho : o.op = .binOp .mul t x y u) (hx : VL E x (anyK .u32)) (hy : VL E y (anyK .u32)) : OpOK P I o E u32R :=
  OpOK.same fun M w a he _ => by
    obtain ⟨m, h1⟩ := hx.ev he (by simp [ho, Op.operands])
    obtain ⟨n, h2⟩ := hy.ev he (by simp [ho, Op.operands])
    have h1 : a.eval x = .int .u32 m := h1
    have h2 : a.eval y = .int .u32 n := h2
    refine ⟨.int .u32 (IntKind.u32.wrap (m * n)), by simp [execOp, ho, h1, h2, eqGuard, binOp, Op.intArith], _, ?_, rfl⟩
    rw [IntKind.wrap_u32]; omega
theorem ok_conv32 {s t : TypeId} {x : Operand} (ho : o.op = .convert s t x) (hs : P.underlying s = some (.int .u32)) (ht : P.underlying t = some (.int .i64)) (hx : VL E x u32R) : OpOK P I o E sumE :=
  OpOK.same fun M w a he _ => by
    obtain ⟨n, hn, h1⟩ := hx.ev he (by simp [ho, Op.operands])
    have h1 : a.eval x = .int .u32 n := h1
    refine ⟨.int .i64 (IntKind.i64.wrap n), ?_, n, hn, by rw [wrap_in (by unfold InI; omega)]; rfl⟩
    simp [execOp, ho, h1, convert, run_underlying hs, run_underlying ht, Conv.intToInt, Sem.run_bind]
end
theorem Fun.elemsE {P : Program} {f : FuncId} {row : List Pr} (h : ∀ m, m ≤ 20 → Fun P f [slice 4 (List.replicate m row)] (slice 4 (List.replicate m row))) : Fun P f [Go.Proofs.YtppeeogffbpcbaaGreat.elemsE row] (Go.Proofs.YtppeeogffbpcbaaGreat.elemsE row) := by
  refine ⟨(h 0 (by omega)).1, fun M w vs hb hv => ?_⟩
  match vs, hv with
  | [u0], hv1 =>
    obtain ⟨⟨m, hm, h0⟩, _⟩ := hv1
    exact ((h m hm).2 M w [u0] hb ⟨h0, trivial⟩).mono fun e w' ⟨v, h1, h2, h3⟩ => ⟨v, h1, ⟨m, hm, h2⟩, h3⟩
theorem Fun.bytesE {P : Program} {f : FuncId} {B : Nat} {res : Pr} (h : ∀ m, m ≤ B → Fun P f [bts m] res) : Fun P f [Go.Proofs.YtppeeogffbpcbaaGreat.bytesE B] res := by
  refine ⟨(h 0 (by omega)).1, fun M w vs hb hv => ?_⟩
  match vs, hv with
  | [u0], hv1 =>
    obtain ⟨⟨m, hm, h0⟩, _⟩ := hv1
    exact (h m hm).2 M w [u0] hb ⟨h0, trivial⟩
abbrev qA1 : Pr := elemsE (rowQ q0)
abbrev qA2 : Pr := elemsE (rowQ qA1)
theorem q0_le : Pr.le q0 qA1 := ex_in 0 (fact_in (by omega) (Pr.le_refl _))
theorem rc0 : Fun Tryz.prog 286 [q0] q0 := w_rcopies (m := 0) (q := q0) (by omega) (.inl rfl)
theorem rc1 (m : Nat) (hm : m ≤ 20) : Fun Tryz.prog 286 [slice 4 (List.replicate m (rowQ q0))] (slice 4 (List.replicate m (rowQ q0))) := w_rcopies hm (.inr rc0)
theorem rc2 (m : Nat) (hm : m ≤ 20) : Fun Tryz.prog 286 [slice 4 (List.replicate m (rowQ qA1))] (slice 4 (List.replicate m (rowQ qA1))) := w_rcopies hm (.inr (Fun.elemsE rc1))
theorem rf0 : Fun Tryz.prog 247 [agg (rowQ q0)] anyB := Fun.rowQ0 fun t b n hb => w_rformed (m := 0) (q := q0) hb (by omega) (.inl rfl)
theorem rf1 : Fun Tryz.prog 247 [agg (rowQ qA1)] anyB := Fun.rowQ fun t b n m hb hm => w_rformed hb hm (.inr rf0)
theorem rf2 : Fun Tryz.prog 247 [agg (rowQ qA2)] anyB := Fun.rowQ fun t b n m hb hm => w_rformed hb hm (.inr rf1)
theorem rd0 : Fun Tryz.prog 248 [agg (rowQ q0)] (depthE 1) := Fun.rowQ0 fun t b n hb => w_rdepth (m := 0) (q := q0) (D := 0) hb (by omega) (by omega) (.inl rfl)
theorem rd1 : Fun Tryz.prog 248 [agg (rowQ qA1)] (depthE 2) := Fun.rowQ fun t b n m hb hm => w_rdepth hb hm (by omega) (.inr rd0)
theorem rd2 : Fun Tryz.prog 248 [agg (rowQ qA2)] (depthE 3) := Fun.rowQ fun t b n m hb hm => w_rdepth hb hm (by omega) (.inr rd1)
theorem rp0 : Fun Tryz.prog 249 [agg (rowQ q0)] (bytesE 2002) := Fun.rowQ0 fun t b n hb => w_rput (m := 0) (q := q0) (B := 0) hb (by omega) (by omega) (.inl rfl)
theorem rp1 : Fun Tryz.prog 249 [agg (rowQ qA1)] (bytesE 82082) := Fun.rowQ fun t b n m hb hm => w_rput (B := 2002) hb hm (by omega) (.inr rp0)
theorem rp2 : Fun Tryz.prog 249 [agg (rowQ qA2)] (bytesE 3285282) := Fun.rowQ fun t b n m hb hm => w_rput (B := 82082) hb hm (by omega) (.inr rp1)
theorem rE2 : Fun Tryz.prog 201 [agg (rowQ qA2)] (tup [bytesE 3285282, anyK .i64]) := w_rEncode rf2 rd2 rp2
/-- Its numbers are small. -/
structure Crt.tiny (c : Crt) : Prop where
  serial : c.serial ≤ 40000
  keyId : c.keyId ≤ 40000
  kalg : 0 ≤ c.kalg ∧ c.kalg ≤ 40000
  kbits : 0 ≤ c.kbits ∧ c.kbits ≤ 40000
  halg : 0 ≤ c.halg ∧ c.halg ≤ 40000
  hbits : 0 ≤ c.hbits ∧ c.hbits ≤ 40000
theorem named_len {s : List UInt8} (h : named s = true) : s.length ≤ 32 := by unfold named at h; simp at h; omega

theorem w_R3use {a b : Int} (ha : 0 ≤ a ∧ a ≤ 40000) (hb : 0 ≤ b ∧ b ≤ 40000) : Fun Tryz.prog 253 [agg [int a, int b]] (agg (rowQ qA1)) := by
 refine fo Tryz.func253 rfl ⟨rfl, rfl⟩ fun M0 w0 => (Tr.seq (Tr.regT (tp rfl (ok_box rfl (VL.le (vl rfl) (agg_cellsP _))) ?_)))
 refine TO.alloc rfl rfl (by decide) rfl z223 zo223 (fun b1 => ?_)
 refine ap ?_
 refine Tr.seq (Tr.rx ?_)
 refine ay ?_
 refine xo rfl (fun _ => kc1 (w_rInt ha) rfl rfl) ?_
 refine ay ?_
 refine xo rfl (fun _ => kc1 (w_rInt hb) rfl rfl) (xo rfl (fun _ => ok_buildSlice (xs := [.tmp 5, .tmp 8]) (rows := [_, _]) rfl rfl Tryz.underlying221 sz223 z223 rfl (by decide) ⟨⟨(by exact rfl), (VL.le (vl rfl) (agg_cellsP _))⟩, ⟨⟨(by exact rfl), (VL.le (vl rfl) (agg_cellsP _))⟩, trivial⟩⟩ (by decide)) ?_)
 refine xo rfl (fun _ => ok_call rfl (w_rList (m := 2) (q := q0) (by omega) (rc1 _ (by omega))) ⟨⟨_, rfl, full_le _ _⟩, trivial⟩) ?_
 refine Cx.ef0 0 rfl rfl (ef_store rfl rfl (vl rfl) (VL.le (vl rfl) (agg_cellsP _)) sz223 rfl (by exact Nat.le_of_ble_eq_true rfl) rfl) ?_
 refine Cx.nil ⟨by kernel_rfl, ?_⟩
 refine FinX.done al1 (Fin.go (Tr.ret (Fin.retX1 rfl (RVal.cell 0 rfl rfl agg223 sz223 rfl (Pr.le_refl _)) ?_)))
 · exact Pr.le_refl _
theorem w_R3body {c : Crt} (hv : validB c = true) (ht : c.tiny) : Fun Tryz.prog 202 [agg (rowCr c)] (agg (rowQ qA2)) := by
 refine fo Tryz.func202 rfl ⟨rfl, rfl⟩ fun M0 w0 => ?_
 obtain ⟨hs0, hs1, hiss, hsub, hnm, hkey, hk0, hk1, hhash, hsk0, hsk1, hsu0, hsu1, hf0, hft, ht1, hp0, hp1, hap⟩ := vf_of hv
 obtain ⟨g1, g2, g3, g4, g5, g6⟩ := ht
 have hnm2 := hnm
 unfold namesB at hnm2
 rw [Bool.and_eq_true, allI_iff, decide_eq_true_eq] at hnm2
 obtain ⟨hall, hlen8⟩ := hnm2
 have hli := named_len hiss
 have hlj := named_len hsub
 refine Tr.seq (Tr.regT (tp rfl (ok_box rfl (VL.le (vl rfl) (agg_cellsP _))) ?_))
 refine TO.alloc rfl rfl (by decide) rfl z223 zo223 (fun b1 => ?_)
 refine ap ?_
 refine ac ?_
 refine ac ?_
 refine Tr.block (Tr.addnil 223 4 (Tr.loopV1 [(1, _), (2, _)] ⟨ke rfl, ke rfl, trivial⟩ (fun k v => [(4, int ((k : Nat) : Int)), (3, andIs v (slice 4 (List.replicate k (rowQ q0))))]) (fun k v => Hp M0 w0 noS ([appRes 223 4 v, cellsRes true b1 223 (([.int .i64 0, .slice none 0 0, .bool false, .slice none 0 0] : List Value).map is)])) (fun k : Nat => k ≤ (c.names).length) (fun k : Nat => (c.names).length - k) 0 (.slice none 0 0) (Nat.zero_le _) ⟨ke rfl, ⟨_, rfl, own_nil rfl⟩, trivial⟩ (fun _ _ h => h) ?_))
 rintro k v hle_k
 refine ac ?_
 refine Tr.cn rfl ?_ ?_ <;> intro h1 q1
 have hk_k : k < (c.names).length := lt_of_dec h1
 obtain ⟨s, hx_k⟩ := at_ hk_k
 have hsn := named_len (name_at (hall k (by omega)) hx_k)
 refine ac ?_
 refine ap ?_
 refine tp rfl (ok_indexAddr rfl Tryz.underlying74 sz9 (vl rfl) (vl rfl) (by omega) (by exact row_at (by assumption))) ?_
 refine tp rfl (kl1 rfl one9 rfl) (tp rfl (kc1 (w_rText (by omega)) rfl rfl) (tp rfl (ok_buildSlice (xs := [.tmp 18]) (rows := [_]) rfl rfl Tryz.underlying221 sz223 z223 rfl (by decide) ⟨⟨(by exact rfl), (VL.le (vl rfl) (agg_cellsP _))⟩, trivial⟩ (by decide)) ?_))
 refine TO.efs 0 rfl rfl (by decide) (ef_append rfl rfl (by decide) rfl Tryz.underlying221 sz223 by223 z223 rfl (by decide) ⟨_, rfl, andIs_le _ _⟩ ⟨_, rfl, full_le _ _⟩ (by simp only [List.length_append, List.length_replicate, List.length_cons, List.length_nil]; unfold maxLen; omega) (by simp only [List.length_append, List.length_replicate, List.length_cons, List.length_nil]; omega) (appR_is (by exact List.Mem.head _) ⟨_, rfl, andIs_is _ _⟩)) (fun v1 => ?_)
 refine ap ?_
 refine wk4 1 2 3 4 rfl ?_
 refine ac ?_
 exact Fin.famV1 (k + 1) v1 (⟨hk_k, by omega⟩) ⟨⟨_, rfl, int_succ k⟩, ⟨_, rfl, own_le (by rw [rep_one])⟩, ke rfl, ke rfl, trivial⟩ (fun _ _ h => h)
 have he_k : k = (c.names).length := by have := ge_of_dec h1; omega
 refine ac ?_
 refine Tr.seq (Tr.rx ?_)
 refine ay ?_
 refine xo rfl (fun _ => kc1 (w_rInt (by omega)) rfl rfl) ?_
 refine ay ?_
 refine xo rfl (fun _ => kc1 (w_rText (by omega)) rfl rfl) ?_
 refine ay ?_
 refine xo rfl (fun _ => kc1 (w_rText (by omega)) rfl rfl) ?_
 refine ay ?_
 refine xo rfl (fun _ => kc1 (w_R3use g3 g4) rfl rfl) ?_
 refine ay ?_
 refine xo rfl (fun _ => kc1 (w_rInt (by omega)) rfl rfl) ?_
 refine ay ?_
 refine xo rfl (fun _ => kc1 (w_R3use g5 g6) rfl rfl) ?_
 refine ay ?_
 refine xo rfl (fun _ => kc1 (w_rInt (by omega)) rfl rfl) ?_
 refine ay ?_
 refine xo rfl (fun _ => kc1 (w_rInt (by omega)) rfl rfl) ?_
 refine ay ?_
 refine xo rfl (fun _ => kc1 (w_rBool) rfl rfl) ?_
 refine ay ?_
 refine xo rfl (fun _ => kc1 (w_rInt (by omega)) rfl rfl) (xm rfl ?_)
 refine xo rfl (fun _ => ok_call rfl (w_rList (m := c.names.length) (q := q0) (by omega) (rc1 _ (by omega))) ⟨⟨_, rfl, Pr.le_trans (andIs_le _ _) (Pr.le_of_eq (by rw [he_k]))⟩, trivial⟩) ?_
 refine xo rfl (fun _ => ok_buildSlice (xs := [.tmp 23, .tmp 26, .tmp 29, .tmp 32, .tmp 35, .tmp 38, .tmp 41, .tmp 44, .tmp 47, .tmp 50, .tmp 52]) (rows := [rowQ qA1, rowQ qA1, rowQ qA1, rowQ qA1, rowQ qA1, rowQ qA1, rowQ qA1, rowQ qA1, rowQ qA1, rowQ qA1, rowQ qA1]) rfl rfl Tryz.underlying221 sz223 z223 rfl (by decide) ⟨⟨(by exact rfl), VL.le (vl rfl) (Pr.le_trans (agg_le (qs := rowQ qA1) ⟨Pr.le_refl _, Pr.le_refl _, Pr.le_refl _, q0_le, trivial⟩) (agg_cellsP _))⟩, ⟨⟨(by exact rfl), VL.le (vl rfl) (Pr.le_trans (agg_le (qs := rowQ qA1) ⟨Pr.le_refl _, Pr.le_refl _, Pr.le_refl _, q0_le, trivial⟩) (agg_cellsP _))⟩, ⟨⟨(by exact rfl), VL.le (vl rfl) (Pr.le_trans (agg_le (qs := rowQ qA1) ⟨Pr.le_refl _, Pr.le_refl _, Pr.le_refl _, q0_le, trivial⟩) (agg_cellsP _))⟩, ⟨⟨(by exact rfl), VL.le (vl rfl) (agg_cellsP _)⟩, ⟨⟨(by exact rfl), VL.le (vl rfl) (Pr.le_trans (agg_le (qs := rowQ qA1) ⟨Pr.le_refl _, Pr.le_refl _, Pr.le_refl _, q0_le, trivial⟩) (agg_cellsP _))⟩, ⟨⟨(by exact rfl), VL.le (vl rfl) (agg_cellsP _)⟩, ⟨⟨(by exact rfl), VL.le (vl rfl) (Pr.le_trans (agg_le (qs := rowQ qA1) ⟨Pr.le_refl _, Pr.le_refl _, Pr.le_refl _, q0_le, trivial⟩) (agg_cellsP _))⟩, ⟨⟨(by exact rfl), VL.le (vl rfl) (Pr.le_trans (agg_le (qs := rowQ qA1) ⟨Pr.le_refl _, Pr.le_refl _, Pr.le_refl _, q0_le, trivial⟩) (agg_cellsP _))⟩, ⟨⟨(by exact rfl), VL.le (vl rfl) (Pr.le_trans (agg_le (qs := rowQ qA1) ⟨Pr.le_refl _, Pr.le_refl _, Pr.le_refl _, q0_le, trivial⟩) (agg_cellsP _))⟩, ⟨⟨(by exact rfl), VL.le (vl rfl) (Pr.le_trans (agg_le (qs := rowQ qA1) ⟨Pr.le_refl _, Pr.le_refl _, Pr.le_refl _, q0_le, trivial⟩) (agg_cellsP _))⟩, ⟨⟨(by exact rfl), VL.le (vl rfl) (agg_cellsP _)⟩, trivial⟩⟩⟩⟩⟩⟩⟩⟩⟩⟩⟩ (by decide)) ?_
 refine xo rfl (fun _ => ok_call rfl (w_rList (m := 11) (q := qA1) (by omega) (rc2 _ (by omega))) ⟨⟨_, rfl, full_le _ _⟩, trivial⟩) ?_
 refine Cx.ef0 1 rfl rfl (ef_store rfl rfl (vl rfl) (VL.le (vl rfl) (agg_cellsP _)) sz223 rfl (by exact Nat.le_of_ble_eq_true rfl) rfl) ?_
 refine Cx.nil ⟨by kernel_rfl, ?_⟩
 refine FinX.done al2 (Fin.go (wk1 2 rfl (Tr.ret (Fin.retX1 rfl (RVal.cell 1 rfl rfl agg223 sz223 rfl (Pr.le_refl _)) ?_))))
 · exact Pr.le_refl _
theorem w_R3Bytes {c : Crt} (hv : validB c = true) (ht : c.tiny) : Fun Tryz.prog 160 [agg (rowCr c)] (tup [bytesE 3285282, anyK .i64]) := by
 refine fo Tryz.func160 rfl ⟨rfl, rfl⟩ fun M0 w0 => ?_
 refine ac ?_
 refine ac ?_
 refine co rfl (kc1 (w_R3Check hv) rfl rfl) ?_
 refine ac ?_
 refine Tr.cn rfl ?_ ?_ <;> intro h1 q1
 exact absurd h1 (by decide)
 refine ac ?_
 refine ac ?_
 refine co rfl (kc1 (w_R3body hv ht) rfl rfl) (co rfl (kc1 (rE2) rfl rfl) ?_)
 refine ac ?_
 refine Tr.ret (Fin.ret2 rfl (OutW.bse _ _) rfl ?_ rfl ?_)
 · exact Pr.le_refl _
 · exact Pr.le_refl _
theorem w_R3Sum {m : Nat} (hm : m ≤ 100000000) : Fun Tryz.prog 161 [bts m] (sumE) := by
 refine fo Tryz.func161 rfl ⟨rfl, rfl⟩ fun M0 w0 => ?_
 have hlr : (List.replicate m u8R).length = m := List.length_replicate
 refine ac ?_
 refine ac ?_
 refine ac ?_
 refine Tr.block (Tr.loopw [(0, _)] ⟨ke rfl, trivial⟩ (fun k : Nat => [(4, int ((k : Nat) : Int)), (3, u32R)]) (fun k : Nat => k ≤ ((List.replicate m u8R).length)) (fun k : Nat => ((List.replicate m u8R).length) - k) 0 (Nat.zero_le _) ⟨ke rfl, ⟨_, rfl, ex_in _ (fact_in (by omega) (Pr.le_refl _))⟩, trivial⟩ ?_)
 rintro k hle_k
 refine ac ?_
 refine co rfl (ok_len rfl Tryz.underlying198 (vl rfl)) ?_
 refine ac ?_
 refine Tr.cn rfl ?_ ?_ <;> intro h1 q1
 have hk_k : k < ((List.replicate m u8R).length) := lt_of_dec h1
 have hkm : k < m := by simpa using hk_k
 refine ac ?_
 refine ac ?_
 refine co rfl (ok_indexAddr rfl Tryz.underlying198 sz5 (vl rfl) (vl rfl) (by omega) (rep_at hkm)) (co rfl (kl1 rfl one5 rfl) (co rfl (ok_convK rfl Tryz.underlying5 Tryz.underlying225 (vl rfl)) (co rfl (ok_bits (by decide) rfl (VL.le (vl rfl) u32_any) (vl rfl)) (co rfl (ok_mulU rfl (vl rfl) (VL.le (vl rfl) (is_anyK _ _))) ?_))))
 refine ac ?_
 refine wk3 0 3 4 rfl ?_
 refine ac ?_
 exact Fin.fam_same (k + 1) ⟨hk_k, by omega⟩ ⟨⟨_, rfl, int_succ k⟩, ke rfl, ke rfl, trivial⟩
 have he_k : k = ((List.replicate m u8R).length) := by have := ge_of_dec h1; omega
 refine ac ?_
 refine ac ?_
 refine co rfl (ok_conv32 rfl Tryz.underlying225 Tryz.underlying3 (vl rfl)) ?_
 refine ac ?_
 refine ac ?_
 · exact Pr.le_refl _
theorem w_R3Copy {c : Crt} (hn : c.names.length ≤ 1000) : Fun Tryz.prog 158 [agg (rowCr c)] (agg (rowCr c)) := by
 refine fo Tryz.func158 rfl ⟨rfl, rfl⟩ fun M0 w0 => (Tr.seq (Tr.regT ?_))
 refine TO.boxm rfl rfl (by decide) rfl (VL.le (vl rfl) (agg_cellsP _)) (fun b1 => ?_)
 refine TO.alloc rfl rfl (by decide) rfl z131 zo131 (fun b2 => ?_)
 refine ap ?_
 refine ap ?_
 refine TO.pad ?_
 refine TO.efs 0 rfl rfl (by decide) (ef_append rfl rfl (by decide) rfl Tryz.underlying74 sz9 by9 z9 rfl (by decide) ⟨_, rfl, full_le _ _⟩ (vl rfl) (by simp only [List.length_append, List.length_map, List.length_nil]; unfold maxLen; omega) (by simp only [List.length_append, List.length_map, List.length_nil]; omega) (appR_full (by exact List.Mem.head _) (vl rfl))) (fun v1 => ?_)
 refine ap ?_
 refine ap ?_
 refine Tr.drop 2 (Tr.ret (Fin.retX1 rfl (RVal.cell 1 rfl rfl agg131 sz131 rfl (Pr.le_refl _)) ?_))
 · exact agg_le ⟨Pr.le_refl _, Pr.le_refl _, Pr.le_refl _, Pr.le_refl _, Pr.le_refl _, Pr.le_refl _, Pr.le_refl _, Pr.le_refl _, Pr.le_refl _, Pr.le_refl _, Pr.le_refl _, Pr.le_refl _, Pr.le_trans (andIs_le _ _) (Pr.le_of_eq (by simp)), Pr.le_refl _, Pr.le_refl _, trivial⟩
abbrev sealed (c : Crt) (key s : Int) : Crt := ⟨c.serial, c.issuer, c.subject, c.kalg, c.kbits, c.keyId, c.halg, c.hbits, c.from_, c.to_, c.auth, c.path, c.names, key, s⟩

theorem w_R3Sign {c : Crt} {key : Int} (hv : validB (sealed c 0 0) = true) (ht : (sealed c 0 0).tiny) (hk : 0 ≤ key ∧ key ≤ 2147483648) : Fun Tryz.prog 111 [agg (rowCr c), int key] (Cp.ex fun s : Int => fact (0 ≤ s ∧ s < 4294967296) (tup [agg (rowCr (sealed c key s)), int 0])) := by
 refine fo Tryz.func111 rfl ⟨rfl, rfl⟩ fun M0 w0 => ?_
 have hnn : c.names.length ≤ 1000 := by have := (vf_of hv).nm; unfold namesB at this; simp at this; omega
 refine Tr.seq (Tr.regT ?_)
 refine TO.boxm rfl rfl (by decide) rfl (VL.le (vl rfl) (agg_cellsP _)) (fun b1 => ?_)
 refine TO.alloc rfl rfl (by decide) rfl z131 zo131 (fun b2 => ?_)
 refine ap ?_
 refine ap ?_
 refine tp rfl (kc1 (w_R3Copy (c := c) hnn) rfl rfl) ?_
 refine ap ?_
 refine ap ?_
 refine ac ?_
 refine co rfl (kc1 (w_R3Check (c := sealed c 0 0) hv) rfl rfl) ?_
 refine ac ?_
 refine Ch.cs 15 rfl ?_ ?_ <;> intro h1 q1
 exact absurd h1 (by decide)
 refine ac ?_
 refine Ch.cs 19 rfl ?_ ?_ <;> intro h2 q2
 exfalso; have := q2; omega
 refine ac ?_
 refine wk4 1 2 4 22 rfl ?_
 refine Tr.cn rfl ?_ ?_ <;> intro h3 q3
 exfalso; have := q3; omega
 refine ac ?_
 refine ac ?_
 refine co rfl (kc1 (w_R3Bytes (c := sealed c 0 0) hv ht) rfl rfl) ?_
 refine ac ?_
 refine ap ?_
 refine tp rfl (kc1 (Fun.bytesE fun m hm => w_R3Sum (by omega)) rfl rfl) ?_
 refine TO.ex 31 rfl (fun z31 => TO.fact 31 rfl fun hz31 => ?_)
 refine ap ?_
 refine wk2 2 4 rfl ?_
 refine ap ?_
 refine Tr.drop 1 (Tr.ret (Fin.retX2 rfl (RVal.cell 0 rfl rfl agg131 sz131 rfl (Pr.le_refl _)) (RVal.tmp rfl (Pr.le_refl _)) ?_))
 · exact ex_in z31 (fact_in hz31 (Pr.le_refl _))
end Go.Proofs.YtppeeogffbpcbaaGreat
namespace Go.Proofs.YtppeeogffbpcbaaGreat
open Go Go.RowKit Cp

abbrev leafC (name : List UInt8) (a b id to key s : Int) : Crt := ⟨id, [114, 111, 111, 116], name, a, b, id, 3, 0, 0, to, false, 0, [name], key, s⟩
abbrev leafI (name : List UInt8) (a b id to key s : Int) : Idn := ⟨a, b, id, [leafC name a b id to key s]⟩
abbrev leafE (name : List UInt8) (a b id to key : Int) : Pr := Cp.ex fun s : Int => fact (0 ≤ s ∧ s < 4294967296) (agg (rowId (leafI name a b id to key s)))
theorem w_RSA   : Fun Tryz.prog 66 [] (agg [int 5, int 2048]) := by
 refine fo Tryz.func66 rfl ⟨rfl, rfl⟩ fun M0 w0 => (Tr.seq (Tr.regT ?_))
 refine TO.alloc rfl rfl (by decide) rfl z24 zo24 (fun b1 => ?_)
 refine ap ?_
 refine ap ?_
 refine Tr.ret (Fin.retX1 rfl (RVal.cell 0 rfl rfl agg24 sz24 rfl (Pr.le_refl _)) ?_)
 · exact Pr.le_refl _
theorem w_EC   : Fun Tryz.prog 73 [] (agg [int 7, int 256]) := by
 refine fo Tryz.func73 rfl ⟨rfl, rfl⟩ fun M0 w0 => (Tr.seq (Tr.regT ?_))
 refine TO.alloc rfl rfl (by decide) rfl z24 zo24 (fun b1 => ?_)
 refine ap ?_
 refine ap ?_
 refine Tr.ret (Fin.retX1 rfl (RVal.cell 0 rfl rfl agg24 sz24 rfl (Pr.le_refl _)) ?_)
 · exact Pr.le_refl _
theorem w_Leaf {name : List UInt8} {a b id to key : Int} (hv : validB (leafC name a b id to 0 0) = true) (ht : (leafC name a b id to 0 0).tiny) (hk : 0 ≤ key ∧ key ≤ 2147483648) : Fun Tryz.prog 65 [str name, agg [int a, int b], int id, int key, int to] (leafE name a b id to key) := by
 refine fo Tryz.func65 rfl ⟨rfl, rfl⟩ fun M0 w0 => (Tr.seq (Tr.regT (tp rfl (ok_box rfl (VL.le (vl rfl) (agg_cellsP _))) ?_)))
 refine TO.alloc rfl rfl (by decide) rfl z27 zo27 (fun b1 => ?_)
 refine ap ?_
 refine ap ?_
 refine tp rfl (ok_build (rows := [(0, [_]), (1, [_]), (2, [_]), (3, _), (4, [_]), (5, _), (7, [_]), (10, [_])]) rfl bl131 zo131 ⟨⟨rfl, (VL.le (vl rfl) (one_cellsP _))⟩, ⟨⟨rfl, (VL.le (vl rfl) (one_cellsP _))⟩, ⟨⟨rfl, (VL.le (vl rfl) (one_cellsP _))⟩, ⟨⟨rfl, (VL.le (vl rfl) (agg_cellsP _))⟩, ⟨⟨rfl, (VL.le (vl rfl) (one_cellsP _))⟩, ⟨⟨rfl, (VL.le (vl rfl) (agg_cellsP _))⟩, ⟨⟨rfl, (VL.le (vl rfl) (one_cellsP _))⟩, ⟨⟨rfl, ⟨_, rfl, Pr.le_trans (full_le _ _) (one_cellsP _)⟩⟩, trivial⟩⟩⟩⟩⟩⟩⟩⟩ rfl) (TO.re 20 (agg (rowCr (leafC name a b id to 0 0))) rfl (Pr.le_of_eq rfl) ?_)
 refine TO.alloc rfl rfl (by decide) rfl z131 zo131 (fun b2 => ?_)
 refine ap ?_
 refine wk5 2 3 6 10 11 rfl ?_
 refine ap ?_
 refine tp rfl (kc2 (w_R3Sign (c := leafC name a b id to 0 0) hv ht hk) rfl rfl rfl) ?_
 refine TO.ex 24 rfl (fun z24 => TO.fact 24 rfl fun hz24 => ?_)
 refine ap ?_
 refine ap ?_
 refine tp rfl (ok_build (rows := [(0, _), (1, [_]), (2, [_])]) rfl bl27 zo27 ⟨⟨rfl, (VL.le (vl rfl) (agg_cellsP _))⟩, ⟨⟨rfl, (VL.le (vl rfl) (one_cellsP _))⟩, ⟨⟨rfl, ⟨_, rfl, Pr.le_trans (full_le _ _) (one_cellsP _)⟩⟩, trivial⟩⟩⟩ rfl) ?_
 refine ap ?_
 refine Tr.drop 0 (wk1 10 rfl (Tr.ret (Fin.retX1 rfl (RVal.cell 0 rfl rfl agg27 sz27 rfl (Pr.le_refl _)) ?_)))
 · exact ex_in z24 (fact_in hz24 (Pr.le_refl _))
/-- Some text of a list. -/
def wordOf (s : DS) (l : List (List UInt8)) : List UInt8 := (l[(s.val l.length).toNat]?).getD []

theorem w_DWordE {b : Nat} {s : DS} {l : List (List UInt8)} (hl : l ≠ []) (hl2 : l.length ≤ 1000000000) : FunM Tryz.prog 68 [ptr b 0, txts l] (str (wordOf s l)) (diceS b s) (fun _ => diceS b s.adv) := by
 refine FunM.of Tryz.func68 rfl rfl (by exact Nat.le_of_ble_eq_true rfl) fun M0 w0 S rs M1 w1 => ?_
 have hl0 : 1 ≤ (l.length : Int) := by have := List.length_pos_iff.2 hl; omega
 have hv := s.val_in hl0
 obtain ⟨x, hx⟩ := at_ (l := l) (k := (s.val l.length).toNat) (by omega)
 refine ac ?_
 refine ap ?_
 refine TO.efc 0 rfl rfl (by decide) (ef_callc rfl rfl (by decide) rfl (w_DNext (by omega) (by omega)) ⟨ke rfl, ke rfl, trivial⟩) (tp rfl (ok_indexAddr rfl Tryz.underlying74 sz9 (vl rfl) (vl rfl) (by omega) (row_atI hx)) ?_)
 refine ap ?_
 refine Tr.ret (Fin.retY1 [] rfl (RVal.tmp rfl (Pr.le_refl _)) ?_ (fun _ _ _ _ => rfl))
 · refine Pr.le_of_eq ?_; unfold wordOf; rw [hx]; rfl
end Go.Proofs.YtppeeogffbpcbaaGreat
namespace Go.Proofs.YtppeeogffbpcbaaGreat
open Go Go.RowKit Cp

end Go.Proofs.YtppeeogffbpcbaaGreat
namespace Go.Proofs.YtppeeogffbpcbaaGreat
open Go Go.RowKit Cp

def nameL : List (List UInt8) := [[97, 112, 112], [100, 98], [119, 101, 98]]
def optS : List (List Int) := [[10, 8, 2], [8, 2], [2, 10, 8, 3]]
def sOpt (i : Int) : List Int := (optS[i.toNat]?).getD []
theorem sopt_at {i : Int} (h : 0 ≤ i ∧ i < 3) : (optS.map fun l => [ints l])[i.toNat]? = some [ints (sOpt i)] := by
  have hl : i.toNat < optS.length := by show i.toNat < 3; omega
  unfold sOpt
  rw [List.getElem?_map, List.getElem?_eq_getElem hl]; rfl
theorem sopt_mem {i : Int} (h : 0 ≤ i ∧ i < 3) : sOpt i ∈ optS := by
  have hl : i.toNat < optS.length := by show i.toNat < 3; omega
  unfold sOpt
  rw [List.getElem?_eq_getElem hl]; exact List.getElem_mem hl
/-- What such an endpoint is. -/
structure SndE (i : Nat) (e : Ept) : Prop where
  name : nameL[i]? = some e.name
  least : e.least = 1
  most : e.most = 3 ∨ e.most = 4
  suites : e.suites ∈ optS ∨ ∃ l ∈ optS, e.suites = 14 :: l
  ids : ∃ s : Int, (0 ≤ s ∧ s < 4294967296) ∧ e.ids = [leafI e.name 5 2048 (100 + (i : Nat)) 901 1 s]
  anchors : e.anchors = [1]
  hashes : e.hashes = [2, 3]
def SndL (es : List Ept) : Prop := ∀ (i : Nat) e, es[i]? = some e → SndE i e
theorem snd_snoc {es : List Ept} {e : Ept} (h : SndL es) (he : SndE es.length e) : SndL (es ++ [e]) := by
  intro i x hx
  rcases Nat.lt_or_ge i es.length with hi | hi
  · rw [List.getElem?_append_left hi] at hx; exact h i x hx
  · rcases Nat.eq_or_lt_of_le hi with hi | hi
    · subst hi; rw [List.getElem?_append_right (Nat.le_refl _), Nat.sub_self] at hx; simp at hx; subst hx; exact he
    · rw [List.getElem?_eq_none (by simp; omega)] at hx; cases hx
theorem leaf_ok {nm : List UInt8} {k : Nat} (h : nameL[k]? = some nm) {s : Int} (hs : 0 ≤ s ∧ s < 4294967296) {key : Int} (hk : 0 ≤ key ∧ key ≤ 2) : validB (leafC nm 5 2048 (100 + (k : Nat)) 901 key s) = true := by
  have hlt : k < 3 := lt_of_at h
  have hn : named nm = true := by
    have hm := List.mem_of_getElem? h
    revert hm; unfold nameL; intro hm; simp at hm
    rcases hm with rfl | rfl | rfl <;> decide
  refine of_vf ⟨?_, ?_, by show named [114, 111, 111, 116] = true; decide, hn, ?_, by show ofB 5 2048 2 = true; decide +kernel, ?_, ?_, by show ofB 3 0 1 = true; decide +kernel, hk.1, ?_, hs.1, hs.2, by show (0 : Int) ≤ 0; omega, by show (0 : Int) ≤ 901; omega, by show (901 : Int) ≤ 40000; omega, by show (0 : Int) ≤ 0; omega, by show (0 : Int) ≤ 8; omega, .inr rfl⟩
  · show 0 ≤ (100 : Int) + (k : Nat); omega
  · show (100 : Int) + (k : Nat) ≤ _; omega
  · show namesB [nm] = true
    unfold namesB; rw [Bool.and_eq_true]; refine ⟨allI_iff.2 fun j hj => ?_, by simp⟩
    have : j = 0 := by simp at hj; omega
    subst this; unfold nameAt; simp [hn]
  · show 0 ≤ (100 : Int) + (k : Nat); omega
  · show (100 : Int) + (k : Nat) ≤ _; omega
  · show key ≤ _; omega
theorem leaf_tiny {nm : List UInt8} {k : Nat} (h : k < 3) : (leafC nm 5 2048 (100 + (k : Nat)) 901 0 0).tiny :=
  ⟨by show (100 : Int) + (k : Nat) ≤ 40000; omega, by show (100 : Int) + (k : Nat) ≤ 40000; omega, ⟨by show (0 : Int) ≤ 5; omega, by show (5 : Int) ≤ 40000; omega⟩, ⟨by show (0 : Int) ≤ 2048; omega, by show (2048 : Int) ≤ 40000; omega⟩, ⟨by show (0 : Int) ≤ 3; omega, by show (3 : Int) ≤ 40000; omega⟩, ⟨by show (0 : Int) ≤ 0; omega, by show (0 : Int) ≤ 40000; omega⟩⟩
theorem take_get {β : Type} {l : List β} {n k : Nat} {x : β} (h : (l.take n)[k]? = some x) : l[k]? = some x := by
  have hlt := lt_of_at h
  rw [List.length_take] at hlt
  rw [List.getElem?_take, if_pos (by omega)] at h; exact h
theorem sopt_len (i : Int) : (sOpt i).length ≤ 4 := by
  unfold sOpt
  cases h : optS[i.toNat]? with
  | none => show 0 ≤ 4; omega
  | some l =>
    have hm := List.mem_of_getElem? h
    show l.length ≤ 4
    unfold optS at hm; simp at hm
    rcases hm with rfl | rfl | rfl <;> simp
theorem of_334 (s : DS) : s.of [3, 3, 4] = 3 ∨ s.of [3, 3, 4] = 4 := by have := s.of_mem (l := [3, 3, 4]) (by simp); simp at this; exact this
end Go.Proofs.YtppeeogffbpcbaaGreat
namespace Go.Proofs.YtppeeogffbpcbaaGreat
open Go Go.RowKit Cp

abbrev sndS : List (List Int) := optS ++ optS.map (14 :: ·)
theorem sndE_suites {i : Nat} {e : Ept} (h : SndE i e) : e.suites ∈ sndS := by
  rcases h.suites with h | ⟨l, h, h2⟩
  · exact List.mem_append_left _ h
  · rw [h2]; exact List.mem_append_right _ (List.mem_map_of_mem h)
theorem sndS_ok : ∀ l ∈ sndS, suitesB l = true ∧ l.length ≤ 5 := by decide +kernel
theorem name_ok : ∀ n ∈ nameL, wordB n = true ∧ n.length ≤ 3 := by decide +kernel
theorem hash_ok : [2, 3].all hashB = true := by decide +kernel
theorem of_rsa2 : ofB 5 2048 2 = true := by decide +kernel
theorem leaf_idB {nm : List UInt8} {k : Nat} {id : Int} (h : nameL[k]? = some nm) (hid : id = 100 + (k : Nat)) {s : Int} (hs : 0 ≤ s ∧ s < 4294967296) : idB (leafI nm 5 2048 id 901 1 s) = true := by
  subst hid
  have hk : k < 3 := lt_of_at h
  have hv := leaf_ok h hs (key := 1) (by omega)
  have hk2 : keyB (100 + (k : Nat)) = true := by unfold keyB; simp; omega
  unfold idB showsB; simp only [of_rsa2, hk2, List.all_cons, List.all_nil, hv]; simp
theorem sndE_ok {i : Nat} {e : Ept} (h : SndE i e) : EptOk e := by
  have hn := name_ok _ (List.mem_of_getElem? h.name)
  have hs := sndS_ok _ (sndE_suites h)
  obtain ⟨s, hs1, hs2⟩ := h.ids
  have hm := h.most; have hl := h.least
  refine ⟨hn.1, by omega, by omega, by omega, hs.1, by rw [hs2]; simp, by rw [h.anchors]; simp, by rw [h.anchors]; decide, by rw [h.hashes]; decide, ?_, by rw [h.anchors]; decide, by rw [h.hashes]; exact hash_ok⟩
  rw [hs2]; simp only [List.all_cons, List.all_nil, leaf_idB h.name rfl hs1, Bool.and_self]
theorem sndE_fits {i : Nat} {e : Ept} (h : SndE i e) : e.fits := by
  have hn := name_ok _ (List.mem_of_getElem? h.name)
  obtain ⟨s, hs1, hs2⟩ := h.ids
  refine ⟨by unfold maxLen; omega, fun x hx c hc => ?_⟩
  rw [hs2] at hx; simp at hx; subst hx; simp at hc; subst hc
  exact ⟨by show 4 ≤ maxLen; unfold maxLen; omega, by show e.name.length ≤ maxLen; unfold maxLen; omega, fun n hn2 => by simp at hn2; subst hn2; unfold maxLen; omega⟩
theorem sndE_small {i : Nat} {e : Ept} (h : SndE i e) : e.small := by
  have hs := sndS_ok _ (sndE_suites h)
  obtain ⟨s, hs1, hs2⟩ := h.ids
  refine ⟨by omega, by rw [h.anchors]; simp, by rw [h.hashes]; simp, by rw [hs2]; simp, fun x hx => ?_⟩
  rw [hs2] at hx; simp at hx; subst hx
  exact ⟨by simp, fun c hc => by simp at hc; subst hc; simp⟩
theorem id0_fits : zeroId.fits := fun c hc => by cases hc
end Go.Proofs.YtppeeogffbpcbaaGreat
namespace Go.Proofs.YtppeeogffbpcbaaGreat
open Go Go.RowKit Cp

theorem abrow {v : Int} (h : 0 ≤ v ∧ v < 2) : ([[int 7, int 256], [int 5, int 2048]] : List (List Pr))[v.toNat]? = some [int (if v = 0 then 7 else 5), int (if v = 0 then 256 else 2048)] := by
  have : v = 0 ∨ v = 1 := by omega
  rcases this with rfl | rfl <;> rfl
theorem abok (v : Int) : ((if v = 0 then 7 else 5 : Int) = 5 ∧ (if v = 0 then 256 else 2048 : Int) = 2048) ∨ ((if v = 0 then 7 else 5 : Int) = 7 ∧ (if v = 0 then 256 else 2048 : Int) = 256) := by split <;> simp
theorem leafV {nm : List UInt8} (h : nm ∈ nameL) {a b id key s : Int} (hab : (a = 5 ∧ b = 2048) ∨ (a = 7 ∧ b = 256)) (hid : 0 ≤ id ∧ id ≤ 1000) (hs : 0 ≤ s ∧ s < 4294967296) (hk : 0 ≤ key ∧ key ≤ 2) : validB (leafC nm a b id 901 key s) = true := by
  have hn : named nm = true := by
    revert h; unfold nameL; intro hm; simp at hm
    rcases hm with rfl | rfl | rfl <;> decide
  have hof : ofB a b 2 = true := by rcases hab with ⟨rfl, rfl⟩ | ⟨rfl, rfl⟩ <;> decide +kernel
  refine of_vf ⟨?_, ?_, by show named [114, 111, 111, 116] = true; decide, hn, ?_, hof, ?_, ?_, by show ofB 3 0 1 = true; decide +kernel, hk.1, ?_, hs.1, hs.2, by show (0 : Int) ≤ 0; omega, by show (0 : Int) ≤ 901; omega, by show (901 : Int) ≤ 40000; omega, by show (0 : Int) ≤ 0; omega, by show (0 : Int) ≤ 8; omega, .inr rfl⟩
  · show 0 ≤ id; omega
  · show id ≤ _; omega
  · show namesB [nm] = true
    unfold namesB; rw [Bool.and_eq_true]; refine ⟨allI_iff.2 fun j hj => ?_, by simp⟩
    have : j = 0 := by simp at hj; omega
    subst this; unfold nameAt; simp [hn]
  · show 0 ≤ id; omega
  · show id ≤ _; omega
  · show key ≤ _; omega
theorem leafT {nm : List UInt8} {a b id : Int} (hab : (a = 5 ∧ b = 2048) ∨ (a = 7 ∧ b = 256)) (hid : 0 ≤ id ∧ id ≤ 1000) : (leafC nm a b id 901 0 0).tiny :=
  ⟨by show id ≤ 40000; omega, by show id ≤ 40000; omega, ⟨by show (0 : Int) ≤ a; omega, by show a ≤ 40000; omega⟩, ⟨by show (0 : Int) ≤ b; omega, by show b ≤ 40000; omega⟩, ⟨by show (0 : Int) ≤ 3; omega, by show (3 : Int) ≤ 40000; omega⟩, ⟨by show (0 : Int) ≤ 0; omega, by show (0 : Int) ≤ 40000; omega⟩⟩
/-- A change of one of these endpoints. -/
structure AnyP (es : List Ept) (c : Chg) : Prop where
  lo : 0 ≤ c.endpoint
  hi : c.endpoint < (es.length : Nat)
  kind : 1 ≤ c.kind ∧ c.kind ≤ 12
  fits : c.idn.fits
  small : c.idn.small
abbrev sumP (nm : List UInt8) (a b id to key : Int) : Pr := Cp.ex fun s : Int => fact (0 ≤ s ∧ s < 4294967296) (certs [leafC nm a b id to key s])
theorem leaf_cells {nm : List UInt8} {a b id to key : Int} : (leafE nm a b id to key).le (cellsP [int a, int b, int id, sumP nm a b id to key]) := by
  intro M w v ⟨s, hs, hv⟩
  exact (agg_cellsP [int a, int b, int id, sumP nm a b id to key]) M w v (agg_le (ps := rowId (leafI nm a b id to key s)) (qs := [int a, int b, int id, sumP nm a b id to key]) ⟨Pr.le_refl _, Pr.le_refl _, Pr.le_refl _, fun M w v h => ⟨s, hs, h⟩, trivial⟩ M w v hv)
theorem hl_exL {β : Type} {f : β → Pr} {M : Av} {w : World} : ∀ {ps : List Pr} {cs : List Value}, HL M w (ps ++ [Cp.ex f]) cs → ∃ s, HL M w (ps ++ [f s]) cs
  | [], [c], h => by obtain ⟨⟨s, hs⟩, h2⟩ := h; exact ⟨s, hs, h2⟩
  | [], [], h => h.elim
  | [], _ :: _ :: _, h => h.2.elim
  | p :: ps, [], h => h.elim
  | p :: ps, c :: cs, h => by obtain ⟨s, hs⟩ := hl_exL (ps := ps) (cs := cs) h.2; exact ⟨s, h.1, hs⟩
theorem hl_factL {φ : Prop} {p0 : Pr} {M : Av} {w : World} : ∀ {ps : List Pr} {cs : List Value}, HL M w (ps ++ [fact φ p0]) cs → HL M w (ps ++ [p0]) cs
  | [], [c], h => ⟨h.1.2, h.2⟩
  | [], [], h => h.elim
  | [], _ :: _ :: _, h => h.2.elim
  | p :: ps, [], h => h.elim
  | p :: ps, c :: cs, h => ⟨h.1, hl_factL (ps := ps) (cs := cs) h.2⟩
theorem any_leaf {es : List Ept} {p0 p1 p2 p3 : Int} {nm : List UInt8} {a b id key : Int} (h : ∀ s : Int, AnyP es ⟨p0, p1, p2, p3, leafI nm a b id 901 key s⟩) : (agg [int p0, int p1, int p2, int p3, int a, int b, int id, sumP nm a b id 901 key]).le (Cp.ex fun c : Chg => fact (AnyP es c) (agg (rowChg c))) := by
  intro M w v ⟨cs, h1, h2, h3⟩
  obtain ⟨s, h4⟩ := hl_exL (ps := [int p0, int p1, int p2, int p3, int a, int b, int id]) h3
  exact ⟨⟨p0, p1, p2, p3, leafI nm a b id 901 key s⟩, h s, cs, h1, h2, hl_factL (ps := [int p0, int p1, int p2, int p3, int a, int b, int id]) h4⟩
theorem leafF {nm : List UInt8} (h : nm ∈ nameL) {a b id key s : Int} : (leafI nm a b id 901 key s).fits ∧ (leafI nm a b id 901 key s).small := by
  have hn := (name_ok _ h).2
  refine ⟨fun c hc => ?_, ⟨by simp, fun c hc => by simp at hc; subst hc; simp⟩⟩
  simp at hc; subst hc
  exact ⟨by show 4 ≤ maxLen; unfold maxLen; omega, by show nm.length ≤ maxLen; unfold maxLen; omega, fun n hn2 => by simp at hn2; subst hn2; unfold maxLen; omega⟩

theorem w_Any {b : Nat} {s : DS} {es : List Ept} {p1 p2 : Pr} (hs : SndL es) (hl : 1 ≤ es.length ∧ es.length ≤ 3) : FunM Tryz.prog 16 [ptr b 0, agg [slice 9 (es.map rowEp), p1, p2]] (Cp.ex fun c : Chg => fact (AnyP es c) (agg (rowChg c))) (diceS b s) (fun _ => diceEx 101 b) := by
 refine FunM.of Tryz.func16 rfl rfl (by exact Nat.le_of_ble_eq_true rfl) fun M0 w0 S rs M1 w1 => ?_
 have hv := s.val_in (n := es.length) (by omega)
 obtain ⟨e, he⟩ := at_ (l := es) (k := (s.val es.length).toNat) (by omega)
 have hse := hs _ e he
 have hnm := List.mem_of_getElem? hse.name
 have hsl := (sndS_ok _ (sndE_suites hse)).2
 obtain ⟨y0, hy0⟩ : ∃ y0, e.ids = [y0] := by obtain ⟨s_, _, h_⟩ := hse.ids; exact ⟨_, h_⟩
 have hil : e.ids.length = 1 := by rw [hy0]; rfl
 have hv2 := s.adv.val_in (n := 12) (by omega)
 have hv3 := s.adv.adv.val_in (n := 16) (by omega)
 have hv4 := s.adv.adv.val_in (n := 4) (by omega)
 have hv5 := s.adv.adv.val_in (n := 3) (by omega)
 have hv6 := s.adv.adv.adv.val_in (n := 2) (by omega)
 have hv7 := s.adv.adv.adv.adv.val_in (n := 3) (by omega)
 have hv8 := s.adv.adv.adv.adv.adv.val_in (n := 2) (by omega)
 refine Tr.seq (Tr.regT (tp rfl (ok_box rfl (VL.le (vl rfl) (agg_cellsP _))) ?_))
 refine TO.alloc rfl rfl (by decide) rfl z29 zo29 (fun b1 => ?_)
 refine ao ?_
 refine ao ?_
 refine TO.efc 1 rfl rfl (by decide) (ef_callc rfl rfl (by decide) rfl (w_DNext (by omega) (by omega)) ⟨ke rfl, ke rfl, trivial⟩) ?_
 refine ao ?_
 refine ao ?_
 refine tp rfl (ok_indexAddr rfl Tryz.underlying37 sz32 (vl rfl) (vl rfl) (by omega) (row_atI he)) (tp rfl (ok_loadA rfl agg32 sz32 (vl rfl) rfl rfl) ?_)
 refine TO.alloc rfl rfl (by decide) rfl z32 zo32 (fun b2 => ?_)
 refine sf 0 6 ⟨rfl, rfl, rfl⟩ rfl rfl rfl rfl ?_
 refine ao ?_
 refine wk4 0 4 5 6 rfl ?_
 refine ao ?_
 refine TO.efc 1 rfl rfl (by decide) (ef_callc rfl rfl (by decide) rfl (w_DNext (by omega) (by omega)) ⟨ke rfl, ke rfl, trivial⟩) ?_
 refine ao ?_
 refine TO.alloc rfl rfl (by decide) rfl z29 zo29 (fun b3 => ?_)
 refine TO.store_all 0 rfl rfl rfl (vl rfl) (VL.le (vl rfl) (agg_cellsP _)) rfl sz29 rfl rfl ?_
 refine ao ?_
 refine ac ?_
 refine ac ?_
 refine wk6 0 4 6 7 24 25 rfl ?_
 refine Tr.cn rfl ?_ ?_ <;> intro h1 q1
 refine Tr.rx (xm rfl (Cx.ef 2 rfl rfl (by decide) (ef_callc rfl rfl (by decide) rfl (w_DNext (by omega) (by omega)) ⟨ke rfl, ke rfl, trivial⟩) ?_))
 refine ay ?_
 refine Cx.ef 2 rfl rfl (by decide) (ef_callc rfl rfl (by decide) rfl (w_DNext (by omega) (by omega)) ⟨ke rfl, ke rfl, trivial⟩) ?_
 refine ay ?_
 refine Cx.nil ⟨by kernel_rfl, ?_⟩
 refine FinX.done al4 ?_
 refine ac ?_
 refine wk2 4 7 rfl ?_
 refine ao ?_
 refine TO.store_all 1 rfl rfl rfl (vl rfl) (VL.le (vl rfl) (agg_cellsP _)) rfl sz29 rfl rfl ?_
 refine ao ?_
 refine Tr.drop 0 (Tr.ret (Fin.closeD 1 _ rfl rfl (Fin.retY1 [_] rfl (RVal.cell 0 rfl rfl agg29 sz29 rfl (Pr.le_refl _)) ?_ (fun _ _ _ _ => rfl))))
 · (refine ex_in ⟨_, _, _, _, zeroId⟩ (fact_in ?_ (agg_le ⟨Pr.le_refl _, Pr.le_refl _, Pr.le_refl _, Pr.le_refl _, Pr.le_refl _, Pr.le_refl _, Pr.le_refl _, nil_slice 15, trivial⟩)); exact ⟨hv.1, hv.2, ⟨by show 1 ≤ 1 + _; omega, by show 1 + _ ≤ 12; omega⟩, id0_fits, id0_small⟩)
 refine ac ?_
 refine Tr.cn rfl ?_ ?_ <;> intro h2 q2
 refine ao ?_
 refine TO.efc 2 rfl rfl (by decide) (ef_callc rfl rfl (by decide) rfl (w_DNext (by omega) (by omega)) ⟨ke rfl, ke rfl, trivial⟩) ?_
 refine ao ?_
 refine TO.ef0 0 rfl rfl (ef_store rfl rfl (vl rfl) (VL.le (vl rfl) (one_cellsP _)) sz3 rfl (by exact Nat.le_of_ble_eq_true rfl) rfl) ?_
 refine ao ?_
 refine ao ?_
 refine TO.cases 48 rfl (fun h3 => ?_) (fun h3 => ?_)
 have q3 := Nrm.nrm h3
 refine TO.opG rfl rfl rfl h3 rfl (by decide) (ok_move rfl (vl rfl)) (TO.efcG 2 rfl rfl rfl h3 rfl rfl (by decide) (ef_callc rfl rfl (by decide) rfl (w_DOne (by omega) (by omega)) ⟨ke rfl, ke rfl, trivial⟩) (TO.opG rfl rfl rfl h3 rfl (by decide) (ok_not rfl (vl rfl)) ?_))
 refine ao ?_
 refine wk5 0 4 6 7 52 rfl ?_
 refine Tr.cn rfl ?_ ?_ <;> intro h4 q4
 have hv9 := s.adv.adv.adv.adv.val_in (n := e.suites.length) (by omega)
 obtain ⟨su, hsu⟩ := at_ (l := e.suites) (k := (s.adv.adv.adv.adv.val e.suites.length).toNat) (by omega)
 refine Tr.rx ?_
 refine ay ?_
 refine Cx.ef 2 rfl rfl (by decide) (ef_callc rfl rfl (by decide) rfl (w_DNext (by omega) (by omega)) ⟨ke rfl, ke rfl, trivial⟩) (xo rfl (fun _ => ok_indexAddr rfl Tryz.underlying22 sz3 (vl rfl) (vl rfl) (by omega) (row_atI (f := fun n : Int => [int n]) hsu)) ?_)
 refine ay ?_
 refine Cx.nil ⟨by kernel_rfl, ?_⟩
 refine FinX.done al4 ?_
 refine ac ?_
 refine wk2 4 7 rfl ?_
 refine ao ?_
 refine TO.store_all 1 rfl rfl rfl (vl rfl) (VL.le (vl rfl) (agg_cellsP _)) rfl sz29 rfl rfl ?_
 refine ao ?_
 refine Tr.drop 0 (Tr.ret (Fin.closeD 1 _ rfl rfl (Fin.retY1 [_] rfl (RVal.cell 0 rfl rfl agg29 sz29 rfl (Pr.le_refl _)) ?_ (fun _ _ _ _ => rfl))))
 · (refine ex_in ⟨_, _, _, _, zeroId⟩ (fact_in ?_ (agg_le ⟨Pr.le_refl _, Pr.le_refl _, Pr.le_refl _, Pr.le_refl _, Pr.le_refl _, Pr.le_refl _, Pr.le_refl _, nil_slice 15, trivial⟩)); exact ⟨hv.1, hv.2, ⟨by show 1 ≤ 1 + _; omega, by show 1 + _ ≤ 12; omega⟩, id0_fits, id0_small⟩)
 refine ac ?_
 refine ao ?_
 refine TO.store_all 1 rfl rfl rfl (vl rfl) (VL.le (vl rfl) (agg_cellsP _)) rfl sz29 rfl rfl ?_
 refine ao ?_
 refine Tr.drop 0 (Tr.ret (Fin.closeD 1 _ rfl rfl (Fin.retY1 [_] rfl (RVal.cell 0 rfl rfl agg29 sz29 rfl (Pr.le_refl _)) ?_ (fun _ _ _ _ => rfl))))
 · (refine ex_in ⟨_, _, _, _, zeroId⟩ (fact_in ?_ (agg_le ⟨Pr.le_refl _, Pr.le_refl _, Pr.le_refl _, Pr.le_refl _, Pr.le_refl _, Pr.le_refl _, Pr.le_refl _, nil_slice 15, trivial⟩)); exact ⟨hv.1, hv.2, ⟨by show 1 ≤ 1 + _; omega, by show 1 + _ ≤ 12; omega⟩, id0_fits, id0_small⟩)
 have q3 := Nrm.nrm h3
 refine TO.noG rfl rfl rfl (ne_true h3) rfl (by decide) (TO.noG rfl rfl rfl (ne_true h3) rfl (by decide) (TO.noG rfl rfl rfl (ne_true h3) rfl (by decide) ?_))
 refine ao ?_
 refine wk5 0 4 6 7 52 rfl ?_
 refine ac ?_
 refine ao ?_
 refine TO.store_all 1 rfl rfl rfl (vl rfl) (VL.le (vl rfl) (agg_cellsP _)) rfl sz29 rfl rfl ?_
 refine ao ?_
 refine Tr.drop 0 (Tr.ret (Fin.closeD 1 _ rfl rfl (Fin.retY1 [_] rfl (RVal.cell 0 rfl rfl agg29 sz29 rfl (Pr.le_refl _)) ?_ (fun _ _ _ _ => rfl))))
 · (refine ex_in ⟨_, _, _, _, zeroId⟩ (fact_in ?_ (agg_le ⟨Pr.le_refl _, Pr.le_refl _, Pr.le_refl _, Pr.le_refl _, Pr.le_refl _, Pr.le_refl _, Pr.le_refl _, nil_slice 15, trivial⟩)); exact ⟨hv.1, hv.2, ⟨by show 1 ≤ 1 + _; omega, by show 1 + _ ≤ 12; omega⟩, id0_fits, id0_small⟩)
 refine ac ?_
 refine Tr.cn rfl ?_ ?_ <;> intro h5 q5
 refine ac ?_
 refine Tr.cond rfl (fun _ => ?_) (fun h => nomatch h5.symm.trans h)
 refine ao ?_
 refine TO.efc 2 rfl rfl (by decide) (ef_callc rfl rfl (by decide) rfl (w_DNext (by omega) (by omega)) ⟨ke rfl, ke rfl, trivial⟩) ?_
 refine ao ?_
 refine TO.ef0 0 rfl rfl (ef_store rfl rfl (vl rfl) (VL.le (vl rfl) (one_cellsP _)) sz3 rfl (by exact Nat.le_of_ble_eq_true rfl) rfl) ?_
 refine ao ?_
 refine wk2 4 7 rfl ?_
 refine ao ?_
 refine TO.store_all 1 rfl rfl rfl (vl rfl) (VL.le (vl rfl) (agg_cellsP _)) rfl sz29 rfl rfl ?_
 refine ao ?_
 refine Tr.drop 0 (Tr.ret (Fin.closeD 1 _ rfl rfl (Fin.retY1 [_] rfl (RVal.cell 0 rfl rfl agg29 sz29 rfl (Pr.le_refl _)) ?_ (fun _ _ _ _ => rfl))))
 · (refine ex_in ⟨_, _, _, _, zeroId⟩ (fact_in ?_ (agg_le ⟨Pr.le_refl _, Pr.le_refl _, Pr.le_refl _, Pr.le_refl _, Pr.le_refl _, Pr.le_refl _, Pr.le_refl _, nil_slice 15, trivial⟩)); exact ⟨hv.1, hv.2, ⟨by show 1 ≤ 1 + _; omega, by show 1 + _ ≤ 12; omega⟩, id0_fits, id0_small⟩)
 refine ac ?_
 refine Tr.cn rfl ?_ ?_ <;> intro h6 q6
 refine ao ?_
 refine TO.efc 2 rfl rfl (by decide) (ef_callc rfl rfl (by decide) rfl (w_DNext (by omega) (by omega)) ⟨ke rfl, ke rfl, trivial⟩) ?_
 refine ao ?_
 refine TO.ef0 0 rfl rfl (ef_store rfl rfl (vl rfl) (VL.le (vl rfl) (one_cellsP _)) sz3 rfl (by exact Nat.le_of_ble_eq_true rfl) rfl) ?_
 refine ao ?_
 refine wk2 4 7 rfl ?_
 refine ao ?_
 refine TO.store_all 1 rfl rfl rfl (vl rfl) (VL.le (vl rfl) (agg_cellsP _)) rfl sz29 rfl rfl ?_
 refine ao ?_
 refine Tr.drop 0 (Tr.ret (Fin.closeD 1 _ rfl rfl (Fin.retY1 [_] rfl (RVal.cell 0 rfl rfl agg29 sz29 rfl (Pr.le_refl _)) ?_ (fun _ _ _ _ => rfl))))
 · (refine ex_in ⟨_, _, _, _, zeroId⟩ (fact_in ?_ (agg_le ⟨Pr.le_refl _, Pr.le_refl _, Pr.le_refl _, Pr.le_refl _, Pr.le_refl _, Pr.le_refl _, Pr.le_refl _, nil_slice 15, trivial⟩)); exact ⟨hv.1, hv.2, ⟨by show 1 ≤ 1 + _; omega, by show 1 + _ ≤ 12; omega⟩, id0_fits, id0_small⟩)
 refine ac ?_
 refine wk6 0 4 6 7 24 70 rfl ?_
 refine Tr.cn rfl ?_ ?_ <;> intro h7 q7
 refine Tr.rx ?_
 refine ay ?_
 refine Cx.ef 2 rfl rfl (by decide) (ef_callc rfl rfl (by decide) rfl (w_DNext (by omega) (by omega)) ⟨ke rfl, ke rfl, trivial⟩) ?_
 refine ay ?_
 refine xo rfl (fun _ => kc0 (w_EC) rfl) (xo rfl (fun _ => kc0 (w_RSA) rfl) (xo rfl (fun _ => ok_buildSlice (xs := [.tmp 80, .tmp 81]) (rows := [_, _]) rfl rfl Tryz.underlying114 sz24 z24 rfl (by decide) ⟨⟨(by exact rfl), (VL.le (vl rfl) (agg_cellsP _))⟩, ⟨⟨(by exact rfl), (VL.le (vl rfl) (agg_cellsP _))⟩, trivial⟩⟩ (by decide)) ?_))
 refine xm rfl (Cx.ef 2 rfl rfl (by decide) (ef_callc rfl rfl (by decide) rfl (w_DNext (by omega) (by omega)) ⟨ke rfl, ke rfl, trivial⟩) (xo rfl (fun _ => ok_indexAddr rfl Tryz.underlying114 sz24 ⟨_, rfl, full_le _ _⟩ (vl rfl) (by omega) (abrow hv6)) ?_))
 refine ay ?_
 refine Cx.ef 2 rfl rfl (by decide) (ef_callc rfl rfl (by decide) rfl (w_DNext (by omega) (by omega)) ⟨ke rfl, ke rfl, trivial⟩) ?_
 refine ay ?_
 refine Cx.ef 2 rfl rfl (by decide) (ef_callc rfl rfl (by decide) rfl (w_DNext (by omega) (by omega)) ⟨ke rfl, ke rfl, trivial⟩) ?_
 refine xo rfl (fun _ => ok_add rfl (vl rfl) (vl rfl) ?hin) ?_; case hin => unfold InI; omega
 refine xo rfl (fun _ => kc5 (w_Leaf (name := e.name) (a := if s.adv.adv.adv.val 2 = 0 then 7 else 5) (b := if s.adv.adv.adv.val 2 = 0 then 256 else 2048) (id := 200 + s.adv.adv.adv.adv.val 3) (to := 901) (key := 1 + s.adv.adv.adv.adv.adv.val 2) (leafV hnm (abok _) (by omega) (by omega) (by omega)) (leafT (abok _) (by omega)) (by omega)) rfl rfl rfl rfl rfl rfl) ?_
 refine ay ?_
 refine Cx.ef0 0 rfl rfl (ef_store rfl rfl (vl rfl) (VL.le (vl rfl) (leaf_cells)) sz27 rfl (by exact Nat.le_of_ble_eq_true rfl) rfl) ?_
 refine Cx.nil ⟨by kernel_rfl, ?_⟩
 refine FinX.done al4 ?_
 refine ac ?_
 refine wk2 4 7 rfl ?_
 refine ao ?_
 refine TO.store_all 1 rfl rfl rfl (vl rfl) (VL.le (vl rfl) (agg_cellsP _)) rfl sz29 rfl rfl ?_
 refine ao ?_
 refine Tr.drop 0 (Tr.ret (Fin.closeD 1 _ rfl rfl (Fin.retY1 [_] rfl (RVal.cell 0 rfl rfl agg29 sz29 rfl (Pr.le_refl _)) ?_ (fun _ _ _ _ => rfl))))
 · exact any_leaf (fun s_ => ⟨hv.1, hv.2, ⟨by show 1 ≤ 1 + _; omega, by show 1 + _ ≤ 12; omega⟩, (leafF hnm).1, (leafF hnm).2⟩)
 refine ac ?_
 refine Tr.cn rfl ?_ ?_ <;> intro h8 q8
 refine ao ?_
 refine TO.efc 2 rfl rfl (by decide) (ef_callc rfl rfl (by decide) rfl (w_DNext (by omega) (by omega)) ⟨ke rfl, ke rfl, trivial⟩) ?_
 refine ao ?_
 refine TO.ef0 0 rfl rfl (ef_store rfl rfl (vl rfl) (VL.le (vl rfl) (one_cellsP _)) sz3 rfl (by exact Nat.le_of_ble_eq_true rfl) rfl) ?_
 refine ao ?_
 refine ao ?_
 refine TO.cases 106 rfl (fun h9 => ?_) (fun h9 => ?_)
 have q9 := Nrm.nrm h9
 refine TO.opG rfl rfl rfl h9 rfl (by decide) (ok_move rfl (vl rfl)) (TO.efcG 2 rfl rfl rfl h9 rfl rfl (by decide) (ef_callc rfl rfl (by decide) rfl (w_DOne (by omega) (by omega)) ⟨ke rfl, ke rfl, trivial⟩) (TO.opG rfl rfl rfl h9 rfl (by decide) (ok_not rfl (vl rfl)) ?_))
 refine ao ?_
 refine wk5 0 4 6 7 110 rfl ?_
 refine Tr.cn rfl ?_ ?_ <;> intro h10 q10
 have hv9 := s.adv.adv.adv.adv.val_in (n := e.ids.length) (by omega)
 obtain ⟨iy, hiy⟩ := at_ (l := e.ids) (k := (s.adv.adv.adv.adv.val e.ids.length).toNat) (by omega)
 refine Tr.rx ?_
 refine ay ?_
 refine Cx.ef 2 rfl rfl (by decide) (ef_callc rfl rfl (by decide) rfl (w_DNext (by omega) (by omega)) ⟨ke rfl, ke rfl, trivial⟩) (xo rfl (fun _ => ok_indexAddr rfl Tryz.underlying30 sz27 (vl rfl) (vl rfl) (by omega) (row_atI hiy)) ?_)
 refine ay ?_
 refine Cx.nil ⟨by kernel_rfl, ?_⟩
 refine FinX.done al4 ?_
 refine ac ?_
 refine wk2 4 7 rfl ?_
 refine ao ?_
 refine TO.store_all 1 rfl rfl rfl (vl rfl) (VL.le (vl rfl) (agg_cellsP _)) rfl sz29 rfl rfl ?_
 refine ao ?_
 refine Tr.drop 0 (Tr.ret (Fin.closeD 1 _ rfl rfl (Fin.retY1 [_] rfl (RVal.cell 0 rfl rfl agg29 sz29 rfl (Pr.le_refl _)) ?_ (fun _ _ _ _ => rfl))))
 · (refine ex_in ⟨_, _, _, _, zeroId⟩ (fact_in ?_ (agg_le ⟨Pr.le_refl _, Pr.le_refl _, Pr.le_refl _, Pr.le_refl _, Pr.le_refl _, Pr.le_refl _, Pr.le_refl _, nil_slice 15, trivial⟩)); exact ⟨hv.1, hv.2, ⟨by show 1 ≤ 1 + _; omega, by show 1 + _ ≤ 12; omega⟩, id0_fits, id0_small⟩)
 refine ac ?_
 refine ao ?_
 refine TO.store_all 1 rfl rfl rfl (vl rfl) (VL.le (vl rfl) (agg_cellsP _)) rfl sz29 rfl rfl ?_
 refine ao ?_
 refine Tr.drop 0 (Tr.ret (Fin.closeD 1 _ rfl rfl (Fin.retY1 [_] rfl (RVal.cell 0 rfl rfl agg29 sz29 rfl (Pr.le_refl _)) ?_ (fun _ _ _ _ => rfl))))
 · (refine ex_in ⟨_, _, _, _, zeroId⟩ (fact_in ?_ (agg_le ⟨Pr.le_refl _, Pr.le_refl _, Pr.le_refl _, Pr.le_refl _, Pr.le_refl _, Pr.le_refl _, Pr.le_refl _, nil_slice 15, trivial⟩)); exact ⟨hv.1, hv.2, ⟨by show 1 ≤ 1 + _; omega, by show 1 + _ ≤ 12; omega⟩, id0_fits, id0_small⟩)
 have q9 := Nrm.nrm h9
 refine TO.noG rfl rfl rfl (ne_true h9) rfl (by decide) (TO.noG rfl rfl rfl (ne_true h9) rfl (by decide) (TO.noG rfl rfl rfl (ne_true h9) rfl (by decide) ?_))
 refine ao ?_
 refine wk5 0 4 6 7 110 rfl ?_
 refine ac ?_
 refine ao ?_
 refine TO.store_all 1 rfl rfl rfl (vl rfl) (VL.le (vl rfl) (agg_cellsP _)) rfl sz29 rfl rfl ?_
 refine ao ?_
 refine Tr.drop 0 (Tr.ret (Fin.closeD 1 _ rfl rfl (Fin.retY1 [_] rfl (RVal.cell 0 rfl rfl agg29 sz29 rfl (Pr.le_refl _)) ?_ (fun _ _ _ _ => rfl))))
 · (refine ex_in ⟨_, _, _, _, zeroId⟩ (fact_in ?_ (agg_le ⟨Pr.le_refl _, Pr.le_refl _, Pr.le_refl _, Pr.le_refl _, Pr.le_refl _, Pr.le_refl _, Pr.le_refl _, nil_slice 15, trivial⟩)); exact ⟨hv.1, hv.2, ⟨by show 1 ≤ 1 + _; omega, by show 1 + _ ≤ 12; omega⟩, id0_fits, id0_small⟩)
 refine ac ?_
 refine Tr.cn rfl ?_ ?_ <;> intro h11 q11
 refine ac ?_
 refine Tr.cond rfl (fun _ => ?_) (fun h => nomatch h11.symm.trans h)
 refine ao ?_
 refine TO.efc 2 rfl rfl (by decide) (ef_callc rfl rfl (by decide) rfl (w_DNext (by omega) (by omega)) ⟨ke rfl, ke rfl, trivial⟩) ?_
 refine ao ?_
 refine TO.ef0 0 rfl rfl (ef_store rfl rfl (vl rfl) (VL.le (vl rfl) (one_cellsP _)) sz3 rfl (by exact Nat.le_of_ble_eq_true rfl) rfl) ?_
 refine ao ?_
 refine wk2 4 7 rfl ?_
 refine ao ?_
 refine TO.store_all 1 rfl rfl rfl (vl rfl) (VL.le (vl rfl) (agg_cellsP _)) rfl sz29 rfl rfl ?_
 refine ao ?_
 refine Tr.drop 0 (Tr.ret (Fin.closeD 1 _ rfl rfl (Fin.retY1 [_] rfl (RVal.cell 0 rfl rfl agg29 sz29 rfl (Pr.le_refl _)) ?_ (fun _ _ _ _ => rfl))))
 · (refine ex_in ⟨_, _, _, _, zeroId⟩ (fact_in ?_ (agg_le ⟨Pr.le_refl _, Pr.le_refl _, Pr.le_refl _, Pr.le_refl _, Pr.le_refl _, Pr.le_refl _, Pr.le_refl _, nil_slice 15, trivial⟩)); exact ⟨hv.1, hv.2, ⟨by show 1 ≤ 1 + _; omega, by show 1 + _ ≤ 12; omega⟩, id0_fits, id0_small⟩)
 refine ac ?_
 refine Tr.cn rfl ?_ ?_ <;> intro h12 q12
 refine ao ?_
 refine TO.efc 2 rfl rfl (by decide) (ef_callc rfl rfl (by decide) rfl (w_DNext (by omega) (by omega)) ⟨ke rfl, ke rfl, trivial⟩) ?_
 refine ao ?_
 refine TO.ef0 0 rfl rfl (ef_store rfl rfl (vl rfl) (VL.le (vl rfl) (one_cellsP _)) sz3 rfl (by exact Nat.le_of_ble_eq_true rfl) rfl) ?_
 refine ao ?_
 refine wk2 4 7 rfl ?_
 refine ao ?_
 refine TO.store_all 1 rfl rfl rfl (vl rfl) (VL.le (vl rfl) (agg_cellsP _)) rfl sz29 rfl rfl ?_
 refine ao ?_
 refine Tr.drop 0 (Tr.ret (Fin.closeD 1 _ rfl rfl (Fin.retY1 [_] rfl (RVal.cell 0 rfl rfl agg29 sz29 rfl (Pr.le_refl _)) ?_ (fun _ _ _ _ => rfl))))
 · (refine ex_in ⟨_, _, _, _, zeroId⟩ (fact_in ?_ (agg_le ⟨Pr.le_refl _, Pr.le_refl _, Pr.le_refl _, Pr.le_refl _, Pr.le_refl _, Pr.le_refl _, Pr.le_refl _, nil_slice 15, trivial⟩)); exact ⟨hv.1, hv.2, ⟨by show 1 ≤ 1 + _; omega, by show 1 + _ ≤ 12; omega⟩, id0_fits, id0_small⟩)
 refine ac ?_
 refine wk5 0 4 7 24 129 rfl ?_
 refine Tr.cn rfl ?_ ?_ <;> intro h13 q13
 refine ac ?_
 refine Tr.cond rfl (fun _ => ?_) (fun h => nomatch h13.symm.trans h)
 refine ao ?_
 refine TO.efc 2 rfl rfl (by decide) (ef_callc rfl rfl (by decide) rfl (w_DNext (by omega) (by omega)) ⟨ke rfl, ke rfl, trivial⟩) ?_
 refine ao ?_
 refine TO.ef0 0 rfl rfl (ef_store rfl rfl (vl rfl) (VL.le (vl rfl) (one_cellsP _)) sz3 rfl (by exact Nat.le_of_ble_eq_true rfl) rfl) ?_
 refine ao ?_
 refine ao ?_
 refine TO.store_all 1 rfl rfl rfl (vl rfl) (VL.le (vl rfl) (agg_cellsP _)) rfl sz29 rfl rfl ?_
 refine ao ?_
 refine Tr.drop 0 (Tr.ret (Fin.closeD 1 _ rfl rfl (Fin.retY1 [_] rfl (RVal.cell 0 rfl rfl agg29 sz29 rfl (Pr.le_refl _)) ?_ (fun _ _ _ _ => rfl))))
 · (refine ex_in ⟨_, _, _, _, zeroId⟩ (fact_in ?_ (agg_le ⟨Pr.le_refl _, Pr.le_refl _, Pr.le_refl _, Pr.le_refl _, Pr.le_refl _, Pr.le_refl _, Pr.le_refl _, nil_slice 15, trivial⟩)); exact ⟨hv.1, hv.2, ⟨by show 1 ≤ 1 + _; omega, by show 1 + _ ≤ 12; omega⟩, id0_fits, id0_small⟩)
 refine ac ?_
 refine Tr.cn rfl ?_ ?_ <;> intro h14 q14
 refine ao ?_
 refine TO.efc 2 rfl rfl (by decide) (ef_callc rfl rfl (by decide) rfl (w_DNext (by omega) (by omega)) ⟨ke rfl, ke rfl, trivial⟩) ?_
 refine ao ?_
 refine TO.ef0 0 rfl rfl (ef_store rfl rfl (vl rfl) (VL.le (vl rfl) (one_cellsP _)) sz3 rfl (by exact Nat.le_of_ble_eq_true rfl) rfl) ?_
 refine ao ?_
 refine ao ?_
 refine TO.store_all 1 rfl rfl rfl (vl rfl) (VL.le (vl rfl) (agg_cellsP _)) rfl sz29 rfl rfl ?_
 refine ao ?_
 refine Tr.drop 0 (Tr.ret (Fin.closeD 1 _ rfl rfl (Fin.retY1 [_] rfl (RVal.cell 0 rfl rfl agg29 sz29 rfl (Pr.le_refl _)) ?_ (fun _ _ _ _ => rfl))))
 · (refine ex_in ⟨_, _, _, _, zeroId⟩ (fact_in ?_ (agg_le ⟨Pr.le_refl _, Pr.le_refl _, Pr.le_refl _, Pr.le_refl _, Pr.le_refl _, Pr.le_refl _, Pr.le_refl _, nil_slice 15, trivial⟩)); exact ⟨hv.1, hv.2, ⟨by show 1 ≤ 1 + _; omega, by show 1 + _ ≤ 12; omega⟩, id0_fits, id0_small⟩)
 refine ac ?_
 refine Tr.cn rfl ?_ ?_ <;> intro h15 q15
 refine ac ?_
 refine Tr.cond rfl (fun _ => ?_) (fun h => nomatch h15.symm.trans h)
 refine ao ?_
 refine TO.efc 2 rfl rfl (by decide) (ef_callc rfl rfl (by decide) rfl (w_DNext (by omega) (by omega)) ⟨ke rfl, ke rfl, trivial⟩) (tp rfl (okp_fieldAddr rfl fo29_2 (vl rfl)) (TO.ef0 0 rfl rfl (ef_store rfl rfl (vl rfl) (VL.le (vl rfl) (one_cellsP _)) sz3 rfl (by exact Nat.le_of_ble_eq_true rfl) rfl) ?_))
 refine ao ?_
 refine ao ?_
 refine TO.store_all 1 rfl rfl rfl (vl rfl) (VL.le (vl rfl) (agg_cellsP _)) rfl sz29 rfl rfl ?_
 refine ao ?_
 refine Tr.drop 0 (Tr.ret (Fin.closeD 1 _ rfl rfl (Fin.retY1 [_] rfl (RVal.cell 0 rfl rfl agg29 sz29 rfl (Pr.le_refl _)) ?_ (fun _ _ _ _ => rfl))))
 · (refine ex_in ⟨_, _, _, _, zeroId⟩ (fact_in ?_ (agg_le ⟨Pr.le_refl _, Pr.le_refl _, Pr.le_refl _, Pr.le_refl _, Pr.le_refl _, Pr.le_refl _, Pr.le_refl _, nil_slice 15, trivial⟩)); exact ⟨hv.1, hv.2, ⟨by show 1 ≤ 1 + _; omega, by show 1 + _ ≤ 12; omega⟩, id0_fits, id0_small⟩)
 refine ac ?_
 refine Tr.cn rfl ?_ ?_ <;> intro h16 q16
 refine ao ?_
 refine TO.efc 2 rfl rfl (by decide) (ef_callc rfl rfl (by decide) rfl (w_DNext (by omega) (by omega)) ⟨ke rfl, ke rfl, trivial⟩) (tp rfl (okp_fieldAddr rfl fo29_2 (vl rfl)) (TO.ef0 0 rfl rfl (ef_store rfl rfl (vl rfl) (VL.le (vl rfl) (one_cellsP _)) sz3 rfl (by exact Nat.le_of_ble_eq_true rfl) rfl) ?_))
 refine ao ?_
 refine wk2 4 7 rfl ?_
 refine ao ?_
 refine TO.store_all 1 rfl rfl rfl (vl rfl) (VL.le (vl rfl) (agg_cellsP _)) rfl sz29 rfl rfl ?_
 refine ao ?_
 refine Tr.drop 0 (Tr.ret (Fin.closeD 1 _ rfl rfl (Fin.retY1 [_] rfl (RVal.cell 0 rfl rfl agg29 sz29 rfl (Pr.le_refl _)) ?_ (fun _ _ _ _ => rfl))))
 · (refine ex_in ⟨_, _, _, _, zeroId⟩ (fact_in ?_ (agg_le ⟨Pr.le_refl _, Pr.le_refl _, Pr.le_refl _, Pr.le_refl _, Pr.le_refl _, Pr.le_refl _, Pr.le_refl _, nil_slice 15, trivial⟩)); exact ⟨hv.1, hv.2, ⟨by show 1 ≤ 1 + _; omega, by show 1 + _ ≤ 12; omega⟩, id0_fits, id0_small⟩)
 refine ac ?_
 refine ao ?_
 refine TO.store_all 1 rfl rfl rfl (vl rfl) (VL.le (vl rfl) (agg_cellsP _)) rfl sz29 rfl rfl ?_
 refine ao ?_
 refine Tr.drop 0 (Tr.ret (Fin.closeD 1 _ rfl rfl (Fin.retY1 [_] rfl (RVal.cell 0 rfl rfl agg29 sz29 rfl (Pr.le_refl _)) ?_ (fun _ _ _ _ => rfl))))
 · (refine ex_in ⟨_, _, _, _, zeroId⟩ (fact_in ?_ (agg_le ⟨Pr.le_refl _, Pr.le_refl _, Pr.le_refl _, Pr.le_refl _, Pr.le_refl _, Pr.le_refl _, Pr.le_refl _, nil_slice 15, trivial⟩)); exact ⟨hv.1, hv.2, ⟨by show 1 ≤ 1 + _; omega, by show 1 + _ ≤ 12; omega⟩, id0_fits, id0_small⟩)
end Go.Proofs.YtppeeogffbpcbaaGreat
namespace Go.Proofs.YtppeeogffbpcbaaGreat
open Go Go.RowKit Cp

/-- Of some size. -/
structure Ept.sz (e : Ept) (n : Nat) : Prop where
  name : e.name.length ≤ maxLen
  suites : e.suites.length ≤ n
  anchors : e.anchors.length ≤ n
  hashes : e.hashes.length ≤ n
  idl : e.ids.length ≤ n
  ids : ∀ x ∈ e.ids, x.fits ∧ x.small
theorem Ept.sz.fits {e : Ept} {n : Nat} (h : e.sz n) : e.fits := ⟨h.name, fun x hx => (h.ids x hx).1⟩
theorem Ept.sz.small {e : Ept} {n : Nat} (h : e.sz n) (hn : n ≤ 1000000) : e.small := ⟨by have := h.suites; omega, by have := h.anchors; omega, by have := h.hashes; omega, by have := h.idl; omega, fun x hx => (h.ids x hx).2⟩
theorem Ept.sz.le {e : Ept} {n m : Nat} (h : e.sz n) (hn : n ≤ m) : e.sz m := ⟨h.name, Nat.le_trans h.suites hn, Nat.le_trans h.anchors hn, Nat.le_trans h.hashes hn, Nat.le_trans h.idl hn, h.ids⟩
theorem sndE_sz {i : Nat} {e : Ept} (h : SndE i e) : e.sz 5 := by
  have hs := sndS_ok _ (sndE_suites h)
  have h1 := sndE_fits h; have h2 := sndE_small h
  obtain ⟨s, hs1, hs2⟩ := h.ids
  exact ⟨h1.name, hs.2, by rw [h.anchors]; simp, by rw [h.hashes]; simp, by rw [hs2]; simp, fun x hx => ⟨h1.ids x hx, h2.ids x hx⟩⟩
theorem len_ins {α : Type} {l : List α} {a : α} {i : Nat} : (l.take i ++ [a] ++ l.drop i).length ≤ l.length + 1 := by simp [List.length_take, List.length_drop]; omega
theorem len_del {α : Type} {l : List α} {i : Nat} : (l.eraseIdx i).length ≤ l.length := by rw [List.length_eraseIdx]; split <;> omega
theorem id0_fs : zeroId.fits ∧ zeroId.small := ⟨id0_fits, id0_small⟩
theorem mem_ins {P : Idn → Prop} {l : List Idn} {x : Idn} {i : Nat} (h : ∀ y ∈ l, P y) (hx : P x) : ∀ y ∈ l.take i ++ [x] ++ l.drop i, P y := by
  intro y hy
  simp only [List.mem_append, List.mem_cons, List.not_mem_nil, or_false] at hy
  rcases hy with (hy | rfl) | hy
  · exact h y (List.mem_of_mem_take hy)
  · exact hx
  · exact h y (List.mem_of_mem_drop hy)
theorem sz_step {e : Ept} {c : Chg} {x : Ept} {b : Chg} {n : Nat} (hc : okCh c) (h : stepR e c = .ok (x, b)) (hs : e.sz n) (hi : c.idn.fits ∧ c.idn.small) : x.sz (n + 1) ∧ b.idn.fits ∧ b.idn.small := by
  have h1 := hs.suites; have h2 := hs.anchors; have h3 := hs.hashes; have h4 := hs.idl
  rcases kinds12 hc.1 with hk | hk | hk | hk | hk | hk | hk | hk | hk | hk | hk | hk
  · rw [stepR_1 hk] at h; (repeat' (split at h)) <;> first | (cases h; done) | (injection h with h; obtain ⟨rfl, rfl⟩ := Prod.mk.inj h; exact ⟨⟨hs.name, Nat.le_trans len_ins (by omega), Nat.le_trans h2 (by omega), Nat.le_trans h3 (by omega), Nat.le_trans h4 (by omega), hs.ids⟩, id0_fs⟩)
  · rw [stepR_2 hk] at h; (repeat' (split at h)) <;> first | (cases h; done) | (injection h with h; obtain ⟨rfl, rfl⟩ := Prod.mk.inj h; exact ⟨⟨hs.name, Nat.le_trans len_del (by omega), Nat.le_trans h2 (by omega), Nat.le_trans h3 (by omega), Nat.le_trans h4 (by omega), hs.ids⟩, id0_fs⟩)
  · rw [stepR_3 hk] at h; (repeat' (split at h)) <;> first | (cases h; done) | (injection h with h; obtain ⟨rfl, rfl⟩ := Prod.mk.inj h; exact ⟨⟨hs.name, Nat.le_trans h1 (by omega), Nat.le_trans h2 (by omega), Nat.le_trans h3 (by omega), Nat.le_trans h4 (by omega), hs.ids⟩, id0_fs⟩)
  · rw [stepR_4 hk] at h; (repeat' (split at h)) <;> first | (cases h; done) | (injection h with h; obtain ⟨rfl, rfl⟩ := Prod.mk.inj h; exact ⟨⟨hs.name, Nat.le_trans h1 (by omega), Nat.le_trans h2 (by omega), Nat.le_trans h3 (by omega), Nat.le_trans h4 (by omega), hs.ids⟩, id0_fs⟩)
  · rw [stepR_5 hk] at h; (repeat' (split at h)) <;> first | (cases h; done) | (injection h with h; obtain ⟨rfl, rfl⟩ := Prod.mk.inj h; exact ⟨⟨hs.name, Nat.le_trans h1 (by omega), Nat.le_trans h2 (by omega), Nat.le_trans h3 (by omega), Nat.le_trans len_ins (by omega), mem_ins hs.ids hi⟩, id0_fs⟩)
  · rw [stepR_6 hk] at h; (repeat' (split at h)) <;> first | (cases h; done) | (injection h with h; obtain ⟨rfl, rfl⟩ := Prod.mk.inj h; exact ⟨⟨hs.name, Nat.le_trans h1 (by omega), Nat.le_trans h2 (by omega), Nat.le_trans h3 (by omega), Nat.le_trans len_del (by omega), fun y hy => hs.ids y (List.mem_of_mem_eraseIdx hy)⟩, hs.ids _ (List.mem_of_getElem? (by assumption))⟩)
  · rw [stepR_7 hk] at h; (repeat' (split at h)) <;> first | (cases h; done) | (injection h with h; obtain ⟨rfl, rfl⟩ := Prod.mk.inj h; exact ⟨⟨hs.name, Nat.le_trans h1 (by omega), Nat.le_trans len_ins (by omega), Nat.le_trans h3 (by omega), Nat.le_trans h4 (by omega), hs.ids⟩, id0_fs⟩)
  · rw [stepR_8 hk] at h; (repeat' (split at h)) <;> first | (cases h; done) | (injection h with h; obtain ⟨rfl, rfl⟩ := Prod.mk.inj h; exact ⟨⟨hs.name, Nat.le_trans h1 (by omega), Nat.le_trans len_del (by omega), Nat.le_trans h3 (by omega), Nat.le_trans h4 (by omega), hs.ids⟩, id0_fs⟩)
  · rw [stepR_9 hk] at h; (repeat' (split at h)) <;> first | (cases h; done) | (injection h with h; obtain ⟨rfl, rfl⟩ := Prod.mk.inj h; exact ⟨⟨hs.name, Nat.le_trans h1 (by omega), Nat.le_trans h2 (by omega), Nat.le_trans len_ins (by omega), Nat.le_trans h4 (by omega), hs.ids⟩, id0_fs⟩)
  · rw [stepR_10 hk] at h; (repeat' (split at h)) <;> first | (cases h; done) | (injection h with h; obtain ⟨rfl, rfl⟩ := Prod.mk.inj h; exact ⟨⟨hs.name, Nat.le_trans h1 (by omega), Nat.le_trans h2 (by omega), Nat.le_trans len_del (by omega), Nat.le_trans h4 (by omega), hs.ids⟩, id0_fs⟩)
  · rw [stepR_11 hk] at h; (repeat' (split at h)) <;> first | (cases h; done) | (injection h with h; obtain ⟨rfl, rfl⟩ := Prod.mk.inj h; exact ⟨⟨hs.name, Nat.le_trans h1 (by omega), Nat.le_trans h2 (by omega), Nat.le_trans h3 (by omega), Nat.le_trans h4 (by omega), hs.ids⟩, id0_fs⟩)
  · rw [stepR_12 hk] at h; (repeat' (split at h)) <;> first | (cases h; done) | (injection h with h; obtain ⟨rfl, rfl⟩ := Prod.mk.inj h; exact ⟨⟨hs.name, Nat.le_trans h1 (by omega), Nat.le_trans h2 (by omega), Nat.le_trans h3 (by omega), Nat.le_trans h4 (by omega), hs.ids⟩, id0_fs⟩)

theorem sz_done {e : Ept} {c : Chg} {x : Ept} {b : Chg} {n : Nat} (h : doneR e c = (x, b, 0)) (hs : e.sz n) (hi : c.idn.fits ∧ c.idn.small) : x.sz (n + 1) ∧ b.idn.fits ∧ b.idn.small := by
  obtain ⟨_, h2, h3, _⟩ := doneR_inv h
  exact sz_step h2 h3 hs hi
end Go.Proofs.YtppeeogffbpcbaaGreat
namespace Go.Proofs.YtppeeogffbpcbaaGreat
open Go Go.RowKit Cp

def letN (n : Nat) : Bool := decide ((97 ≤ n ∧ n ≤ 122) ∨ (65 ≤ n ∧ n ≤ 90) ∨ (48 ≤ n ∧ n ≤ 57) ∨ n = 45 ∨ n = 95 ∨ n = 46)
theorem letter_all : ∀ n ∈ List.range 256, letterB [45, 95, 46] (UInt8.ofNat n) = letN n := by decide +kernel
theorem letter_eq (c : UInt8) : letterB [45, 95, 46] c = letN c.toNat := by
  have h := letter_all c.toNat (List.mem_range.2 c.toNat_lt)
  rw [UInt8.ofNat_toNat] at h; exact h

theorem w_R6Word {s : List UInt8}  : Fun Tryz.prog 124 [str s] (bool (wordB s)) := by
 refine fo Tryz.func124 rfl ⟨rfl, rfl⟩ fun M0 w0 => ?_
 refine ac ?_
 refine ac ?_
 refine Ch.cs 8 rfl ?_ ?_ <;> intro h1 q1
 refine ac ?_
 refine ac ?_
 refine ac ?_
 · refine bool_eq ?_; unfold wordB; rw [Bool.and_eq_false_iff.2 (.inr (by simp; omega))]
 refine ac ?_
 refine Tr.cn rfl ?_ ?_ <;> intro h2 q2
 refine ac ?_
 refine ac ?_
 · refine bool_eq ?_; unfold wordB; rw [Bool.and_eq_false_iff.2 (.inr (by simp; omega))]
 refine ac ?_
 refine ac ?_
 refine Tr.block (Tr.loopw [(0, _)] ⟨ke rfl, trivial⟩ (fun k : Nat => [(3, int ((k : Nat) : Int))]) (fun k : Nat => k ≤ (s).length ∧ (∀ j y, j < k → s[j]? = some y → (!letterB [45, 95, 46] y) = false)) (fun k : Nat => (s).length - k) 0 (⟨Nat.zero_le _, fun j y hj => absurd hj (by omega)⟩) ⟨ke rfl, trivial⟩ ?_)
 rintro k ⟨hle_k, hinv_k⟩
 refine ac ?_
 refine Tr.cn rfl ?_ ?_ <;> intro h3 q3
 have hk_k : k < (s).length := lt_of_dec h3
 obtain ⟨c, hx_k⟩ := at_ hk_k
 refine ac ?_
 refine ac ?_
 refine co rfl (ok_sidx rfl Tryz.underlying9 (vl rfl) (vl rfl) (by omega) (sidx_at (by assumption))) ?_
 refine ac ?_
 refine ac ?_
 refine Ch.cs 24 rfl ?_ ?_ <;> intro h4 q4
 refine ac ?_
 refine Ch.cs 31 rfl ?_ ?_ <;> intro h5 q5
 refine ac ?_
 refine Ch.cs 39 rfl ?_ ?_ <;> intro h6 q6
 refine ac ?_
 refine Ch.cs 48 rfl ?_ ?_ <;> intro h7 q7
 refine ac ?_
 refine Ch.cs 52 rfl ?_ ?_ <;> intro h8 q8
 refine ac ?_
 refine wk3 0 3 55 rfl ?_
 refine Tr.cn rfl ?_ ?_ <;> intro h9 q9
 refine ac ?_
 refine ac ?_
 · refine bool_eq ?_; unfold wordB; rw [all_hit (p := letterB [45, 95, 46]) hx_k (by rw [letter_eq]; unfold letN; simp; omega)]; rfl
 refine ac ?_
 refine ac ?_
 exact Fin.fam_same (k + 1) ⟨⟨hk_k, step_no (p := fun c => !letterB [45, 95, 46] c) hx_k (by rw [letter_eq]; unfold letN; simp; omega) hinv_k⟩, by omega⟩ ⟨⟨_, rfl, int_succ k⟩, ke rfl, trivial⟩
 refine ac ?_
 refine wk3 0 3 55 rfl ?_
 refine ac ?_
 refine ac ?_
 exact Fin.fam_same (k + 1) ⟨⟨hk_k, step_no (p := fun c => !letterB [45, 95, 46] c) hx_k (by rw [letter_eq]; unfold letN; simp; omega) hinv_k⟩, by omega⟩ ⟨⟨_, rfl, int_succ k⟩, ke rfl, trivial⟩
 refine ac ?_
 refine wk3 0 3 55 rfl ?_
 refine ac ?_
 refine ac ?_
 exact Fin.fam_same (k + 1) ⟨⟨hk_k, step_no (p := fun c => !letterB [45, 95, 46] c) hx_k (by rw [letter_eq]; unfold letN; simp; omega) hinv_k⟩, by omega⟩ ⟨⟨_, rfl, int_succ k⟩, ke rfl, trivial⟩
 refine ac ?_
 refine Ch.cs 44 rfl ?_ ?_ <;> intro h10 q10
 refine ac ?_
 refine Ch.cs 48 rfl ?_ ?_ <;> intro h11 q11
 refine ac ?_
 refine Ch.cs 52 rfl ?_ ?_ <;> intro h12 q12
 refine ac ?_
 refine wk3 0 3 55 rfl ?_
 refine Tr.cn rfl ?_ ?_ <;> intro h13 q13
 refine ac ?_
 refine ac ?_
 · refine bool_eq ?_; unfold wordB; rw [all_hit (p := letterB [45, 95, 46]) hx_k (by rw [letter_eq]; unfold letN; simp; omega)]; rfl
 refine ac ?_
 refine ac ?_
 exact Fin.fam_same (k + 1) ⟨⟨hk_k, step_no (p := fun c => !letterB [45, 95, 46] c) hx_k (by rw [letter_eq]; unfold letN; simp; omega) hinv_k⟩, by omega⟩ ⟨⟨_, rfl, int_succ k⟩, ke rfl, trivial⟩
 refine ac ?_
 refine wk3 0 3 55 rfl ?_
 refine ac ?_
 refine ac ?_
 exact Fin.fam_same (k + 1) ⟨⟨hk_k, step_no (p := fun c => !letterB [45, 95, 46] c) hx_k (by rw [letter_eq]; unfold letN; simp; omega) hinv_k⟩, by omega⟩ ⟨⟨_, rfl, int_succ k⟩, ke rfl, trivial⟩
 refine ac ?_
 refine wk3 0 3 55 rfl ?_
 refine ac ?_
 refine ac ?_
 exact Fin.fam_same (k + 1) ⟨⟨hk_k, step_no (p := fun c => !letterB [45, 95, 46] c) hx_k (by rw [letter_eq]; unfold letN; simp; omega) hinv_k⟩, by omega⟩ ⟨⟨_, rfl, int_succ k⟩, ke rfl, trivial⟩
 refine ac ?_
 refine wk3 0 3 55 rfl ?_
 refine ac ?_
 refine ac ?_
 exact Fin.fam_same (k + 1) ⟨⟨hk_k, step_no (p := fun c => !letterB [45, 95, 46] c) hx_k (by rw [letter_eq]; unfold letN; simp; omega) hinv_k⟩, by omega⟩ ⟨⟨_, rfl, int_succ k⟩, ke rfl, trivial⟩
 refine ac ?_
 refine Ch.cs 36 rfl ?_ ?_ <;> intro h14 q14
 refine ac ?_
 refine Ch.cs 39 rfl ?_ ?_ <;> intro h15 q15
 refine ac ?_
 refine Ch.cs 48 rfl ?_ ?_ <;> intro h16 q16
 refine ac ?_
 refine Ch.cs 52 rfl ?_ ?_ <;> intro h17 q17
 refine ac ?_
 refine wk3 0 3 55 rfl ?_
 refine Tr.cn rfl ?_ ?_ <;> intro h18 q18
 refine ac ?_
 refine ac ?_
 · refine bool_eq ?_; unfold wordB; rw [all_hit (p := letterB [45, 95, 46]) hx_k (by rw [letter_eq]; unfold letN; simp; omega)]; rfl
 refine ac ?_
 refine ac ?_
 exact Fin.fam_same (k + 1) ⟨⟨hk_k, step_no (p := fun c => !letterB [45, 95, 46] c) hx_k (by rw [letter_eq]; unfold letN; simp; omega) hinv_k⟩, by omega⟩ ⟨⟨_, rfl, int_succ k⟩, ke rfl, trivial⟩
 refine ac ?_
 refine wk3 0 3 55 rfl ?_
 refine ac ?_
 refine ac ?_
 exact Fin.fam_same (k + 1) ⟨⟨hk_k, step_no (p := fun c => !letterB [45, 95, 46] c) hx_k (by rw [letter_eq]; unfold letN; simp; omega) hinv_k⟩, by omega⟩ ⟨⟨_, rfl, int_succ k⟩, ke rfl, trivial⟩
 refine ac ?_
 refine wk3 0 3 55 rfl ?_
 refine ac ?_
 refine ac ?_
 exact Fin.fam_same (k + 1) ⟨⟨hk_k, step_no (p := fun c => !letterB [45, 95, 46] c) hx_k (by rw [letter_eq]; unfold letN; simp; omega) hinv_k⟩, by omega⟩ ⟨⟨_, rfl, int_succ k⟩, ke rfl, trivial⟩
 refine ac ?_
 refine Ch.cs 44 rfl ?_ ?_ <;> intro h19 q19
 refine ac ?_
 refine Ch.cs 48 rfl ?_ ?_ <;> intro h20 q20
 refine ac ?_
 refine Ch.cs 52 rfl ?_ ?_ <;> intro h21 q21
 refine ac ?_
 refine wk3 0 3 55 rfl ?_
 refine Tr.cn rfl ?_ ?_ <;> intro h22 q22
 refine ac ?_
 refine ac ?_
 · refine bool_eq ?_; unfold wordB; rw [all_hit (p := letterB [45, 95, 46]) hx_k (by rw [letter_eq]; unfold letN; simp; omega)]; rfl
 refine ac ?_
 refine ac ?_
 exact Fin.fam_same (k + 1) ⟨⟨hk_k, step_no (p := fun c => !letterB [45, 95, 46] c) hx_k (by rw [letter_eq]; unfold letN; simp; omega) hinv_k⟩, by omega⟩ ⟨⟨_, rfl, int_succ k⟩, ke rfl, trivial⟩
 refine ac ?_
 refine wk3 0 3 55 rfl ?_
 refine ac ?_
 refine ac ?_
 exact Fin.fam_same (k + 1) ⟨⟨hk_k, step_no (p := fun c => !letterB [45, 95, 46] c) hx_k (by rw [letter_eq]; unfold letN; simp; omega) hinv_k⟩, by omega⟩ ⟨⟨_, rfl, int_succ k⟩, ke rfl, trivial⟩
 refine ac ?_
 refine wk3 0 3 55 rfl ?_
 refine ac ?_
 refine ac ?_
 exact Fin.fam_same (k + 1) ⟨⟨hk_k, step_no (p := fun c => !letterB [45, 95, 46] c) hx_k (by rw [letter_eq]; unfold letN; simp; omega) hinv_k⟩, by omega⟩ ⟨⟨_, rfl, int_succ k⟩, ke rfl, trivial⟩
 refine ac ?_
 refine wk3 0 3 55 rfl ?_
 refine ac ?_
 refine ac ?_
 exact Fin.fam_same (k + 1) ⟨⟨hk_k, step_no (p := fun c => !letterB [45, 95, 46] c) hx_k (by rw [letter_eq]; unfold letN; simp; omega) hinv_k⟩, by omega⟩ ⟨⟨_, rfl, int_succ k⟩, ke rfl, trivial⟩
 refine ac ?_
 refine wk3 0 3 55 rfl ?_
 refine ac ?_
 refine ac ?_
 exact Fin.fam_same (k + 1) ⟨⟨hk_k, step_no (p := fun c => !letterB [45, 95, 46] c) hx_k (by rw [letter_eq]; unfold letN; simp; omega) hinv_k⟩, by omega⟩ ⟨⟨_, rfl, int_succ k⟩, ke rfl, trivial⟩
 refine ac ?_
 refine Ch.cs 28 rfl ?_ ?_ <;> intro h23 q23
 refine ac ?_
 refine Ch.cs 31 rfl ?_ ?_ <;> intro h24 q24
 refine ac ?_
 refine Ch.cs 39 rfl ?_ ?_ <;> intro h25 q25
 refine ac ?_
 refine Ch.cs 48 rfl ?_ ?_ <;> intro h26 q26
 refine ac ?_
 refine Ch.cs 52 rfl ?_ ?_ <;> intro h27 q27
 refine ac ?_
 refine wk3 0 3 55 rfl ?_
 refine Tr.cn rfl ?_ ?_ <;> intro h28 q28
 refine ac ?_
 refine ac ?_
 · refine bool_eq ?_; unfold wordB; rw [all_hit (p := letterB [45, 95, 46]) hx_k (by rw [letter_eq]; unfold letN; simp; omega)]; rfl
 refine ac ?_
 refine ac ?_
 exact Fin.fam_same (k + 1) ⟨⟨hk_k, step_no (p := fun c => !letterB [45, 95, 46] c) hx_k (by rw [letter_eq]; unfold letN; simp; omega) hinv_k⟩, by omega⟩ ⟨⟨_, rfl, int_succ k⟩, ke rfl, trivial⟩
 refine ac ?_
 refine wk3 0 3 55 rfl ?_
 refine ac ?_
 refine ac ?_
 exact Fin.fam_same (k + 1) ⟨⟨hk_k, step_no (p := fun c => !letterB [45, 95, 46] c) hx_k (by rw [letter_eq]; unfold letN; simp; omega) hinv_k⟩, by omega⟩ ⟨⟨_, rfl, int_succ k⟩, ke rfl, trivial⟩
 refine ac ?_
 refine wk3 0 3 55 rfl ?_
 refine ac ?_
 refine ac ?_
 exact Fin.fam_same (k + 1) ⟨⟨hk_k, step_no (p := fun c => !letterB [45, 95, 46] c) hx_k (by rw [letter_eq]; unfold letN; simp; omega) hinv_k⟩, by omega⟩ ⟨⟨_, rfl, int_succ k⟩, ke rfl, trivial⟩
 refine ac ?_
 refine Ch.cs 44 rfl ?_ ?_ <;> intro h29 q29
 refine ac ?_
 refine Ch.cs 48 rfl ?_ ?_ <;> intro h30 q30
 refine ac ?_
 refine Ch.cs 52 rfl ?_ ?_ <;> intro h31 q31
 refine ac ?_
 refine wk3 0 3 55 rfl ?_
 refine Tr.cn rfl ?_ ?_ <;> intro h32 q32
 refine ac ?_
 refine ac ?_
 · refine bool_eq ?_; unfold wordB; rw [all_hit (p := letterB [45, 95, 46]) hx_k (by rw [letter_eq]; unfold letN; simp; omega)]; rfl
 refine ac ?_
 refine ac ?_
 exact Fin.fam_same (k + 1) ⟨⟨hk_k, step_no (p := fun c => !letterB [45, 95, 46] c) hx_k (by rw [letter_eq]; unfold letN; simp; omega) hinv_k⟩, by omega⟩ ⟨⟨_, rfl, int_succ k⟩, ke rfl, trivial⟩
 refine ac ?_
 refine wk3 0 3 55 rfl ?_
 refine ac ?_
 refine ac ?_
 exact Fin.fam_same (k + 1) ⟨⟨hk_k, step_no (p := fun c => !letterB [45, 95, 46] c) hx_k (by rw [letter_eq]; unfold letN; simp; omega) hinv_k⟩, by omega⟩ ⟨⟨_, rfl, int_succ k⟩, ke rfl, trivial⟩
 refine ac ?_
 refine wk3 0 3 55 rfl ?_
 refine ac ?_
 refine ac ?_
 exact Fin.fam_same (k + 1) ⟨⟨hk_k, step_no (p := fun c => !letterB [45, 95, 46] c) hx_k (by rw [letter_eq]; unfold letN; simp; omega) hinv_k⟩, by omega⟩ ⟨⟨_, rfl, int_succ k⟩, ke rfl, trivial⟩
 refine ac ?_
 refine wk3 0 3 55 rfl ?_
 refine ac ?_
 refine ac ?_
 exact Fin.fam_same (k + 1) ⟨⟨hk_k, step_no (p := fun c => !letterB [45, 95, 46] c) hx_k (by rw [letter_eq]; unfold letN; simp; omega) hinv_k⟩, by omega⟩ ⟨⟨_, rfl, int_succ k⟩, ke rfl, trivial⟩
 refine ac ?_
 refine Ch.cs 36 rfl ?_ ?_ <;> intro h33 q33
 refine ac ?_
 refine Ch.cs 39 rfl ?_ ?_ <;> intro h34 q34
 refine ac ?_
 refine Ch.cs 48 rfl ?_ ?_ <;> intro h35 q35
 refine ac ?_
 refine Ch.cs 52 rfl ?_ ?_ <;> intro h36 q36
 refine ac ?_
 refine wk3 0 3 55 rfl ?_
 refine Tr.cn rfl ?_ ?_ <;> intro h37 q37
 refine ac ?_
 refine ac ?_
 · refine bool_eq ?_; unfold wordB; rw [all_hit (p := letterB [45, 95, 46]) hx_k (by rw [letter_eq]; unfold letN; simp; omega)]; rfl
 refine ac ?_
 refine ac ?_
 exact Fin.fam_same (k + 1) ⟨⟨hk_k, step_no (p := fun c => !letterB [45, 95, 46] c) hx_k (by rw [letter_eq]; unfold letN; simp; omega) hinv_k⟩, by omega⟩ ⟨⟨_, rfl, int_succ k⟩, ke rfl, trivial⟩
 refine ac ?_
 refine wk3 0 3 55 rfl ?_
 refine ac ?_
 refine ac ?_
 exact Fin.fam_same (k + 1) ⟨⟨hk_k, step_no (p := fun c => !letterB [45, 95, 46] c) hx_k (by rw [letter_eq]; unfold letN; simp; omega) hinv_k⟩, by omega⟩ ⟨⟨_, rfl, int_succ k⟩, ke rfl, trivial⟩
 refine ac ?_
 refine wk3 0 3 55 rfl ?_
 refine ac ?_
 refine ac ?_
 exact Fin.fam_same (k + 1) ⟨⟨hk_k, step_no (p := fun c => !letterB [45, 95, 46] c) hx_k (by rw [letter_eq]; unfold letN; simp; omega) hinv_k⟩, by omega⟩ ⟨⟨_, rfl, int_succ k⟩, ke rfl, trivial⟩
 refine ac ?_
 refine Ch.cs 44 rfl ?_ ?_ <;> intro h38 q38
 refine ac ?_
 refine Ch.cs 48 rfl ?_ ?_ <;> intro h39 q39
 refine ac ?_
 refine Ch.cs 52 rfl ?_ ?_ <;> intro h40 q40
 refine ac ?_
 refine wk3 0 3 55 rfl ?_
 refine Tr.cn rfl ?_ ?_ <;> intro h41 q41
 refine ac ?_
 refine ac ?_
 · refine bool_eq ?_; unfold wordB; rw [all_hit (p := letterB [45, 95, 46]) hx_k (by rw [letter_eq]; unfold letN; simp; omega)]; rfl
 refine ac ?_
 refine ac ?_
 exact Fin.fam_same (k + 1) ⟨⟨hk_k, step_no (p := fun c => !letterB [45, 95, 46] c) hx_k (by rw [letter_eq]; unfold letN; simp; omega) hinv_k⟩, by omega⟩ ⟨⟨_, rfl, int_succ k⟩, ke rfl, trivial⟩
 refine ac ?_
 refine wk3 0 3 55 rfl ?_
 refine ac ?_
 refine ac ?_
 exact Fin.fam_same (k + 1) ⟨⟨hk_k, step_no (p := fun c => !letterB [45, 95, 46] c) hx_k (by rw [letter_eq]; unfold letN; simp; omega) hinv_k⟩, by omega⟩ ⟨⟨_, rfl, int_succ k⟩, ke rfl, trivial⟩
 refine ac ?_
 refine wk3 0 3 55 rfl ?_
 refine ac ?_
 refine ac ?_
 exact Fin.fam_same (k + 1) ⟨⟨hk_k, step_no (p := fun c => !letterB [45, 95, 46] c) hx_k (by rw [letter_eq]; unfold letN; simp; omega) hinv_k⟩, by omega⟩ ⟨⟨_, rfl, int_succ k⟩, ke rfl, trivial⟩
 refine ac ?_
 refine wk3 0 3 55 rfl ?_
 refine ac ?_
 refine ac ?_
 exact Fin.fam_same (k + 1) ⟨⟨hk_k, step_no (p := fun c => !letterB [45, 95, 46] c) hx_k (by rw [letter_eq]; unfold letN; simp; omega) hinv_k⟩, by omega⟩ ⟨⟨_, rfl, int_succ k⟩, ke rfl, trivial⟩
 refine ac ?_
 refine wk3 0 3 55 rfl ?_
 refine ac ?_
 refine ac ?_
 exact Fin.fam_same (k + 1) ⟨⟨hk_k, step_no (p := fun c => !letterB [45, 95, 46] c) hx_k (by rw [letter_eq]; unfold letN; simp; omega) hinv_k⟩, by omega⟩ ⟨⟨_, rfl, int_succ k⟩, ke rfl, trivial⟩
 refine ac ?_
 refine wk3 0 3 55 rfl ?_
 refine ac ?_
 refine ac ?_
 exact Fin.fam_same (k + 1) ⟨⟨hk_k, step_no (p := fun c => !letterB [45, 95, 46] c) hx_k (by rw [letter_eq]; unfold letN; simp; omega) hinv_k⟩, by omega⟩ ⟨⟨_, rfl, int_succ k⟩, ke rfl, trivial⟩
 have he_k : k = (s).length := by have := ge_of_dec h3; omega
 subst he_k
 refine ac ?_
 refine ac ?_
 refine ac ?_
 · refine bool_eq ?_; unfold wordB; rw [all_end hinv_k, Bool.true_and]; symm; rw [decide_eq_true_eq]; omega
theorem w_R2use {a b : Int}  : Fun Tryz.prog 218 [int a, int b] (agg [int a, int b]) := by
 refine fo Tryz.func218 rfl ⟨rfl, rfl⟩ fun M0 w0 => (Tr.seq (Tr.regT ?_))
 refine TO.alloc rfl rfl (by decide) rfl z24 zo24 (fun b1 => ?_)
 refine ap ?_
 refine ap ?_
 refine Tr.ret (Fin.retX1 rfl (RVal.cell 0 rfl rfl agg24 sz24 rfl (Pr.le_refl _)) ?_)
 · exact Pr.le_refl _
theorem w_R2suite {a l m x1 y1 x2 y2 x3 y3 x4 y4 : Int} {s : List UInt8}  : Fun Tryz.prog 219 [int a, str s, agg [int x1, int y1], agg [int x2, int y2], agg [int x3, int y3], agg [int x4, int y4], int l, int m] (agg anyRow) := by
 refine Fun.of Tryz.func219 rfl rfl (by exact Nat.le_of_ble_eq_true rfl) fun M0 w0 => ?_
 refine Tr.seq (Tr.regT ?_)
 iterate 4 refine tp rfl (ok_box rfl (VL.le (vl rfl) (agg_cellsP _))) ?_
 refine TO.alloc rfl rfl (by decide) rfl z170 zo170 (fun b1 => ?_)
 refine TO.nil (Fin.go (Tr.seq (Tr.regT (tm rfl (tm rfl ?_)))))
 iterate 4 refine tp rfl (ok_loadA rfl agg24 sz24 (vl rfl) rfl rfl) ?_
 refine tm rfl (tm rfl (tp rfl (ok_build (rows := [(0, [_]), (1, [_]), (2, _), (3, _), (4, _), (5, _), (6, [_]), (7, [_])]) rfl bl170 zo170 ⟨⟨rfl, (VL.le (vl rfl) (one_cellsP _))⟩, ⟨⟨rfl, (VL.le (vl rfl) (one_cellsP _))⟩, ⟨⟨rfl, (VL.le (vl rfl) (agg_cellsP _))⟩, ⟨⟨rfl, (VL.le (vl rfl) (agg_cellsP _))⟩, ⟨⟨rfl, (VL.le (vl rfl) (agg_cellsP _))⟩, ⟨⟨rfl, (VL.le (vl rfl) (agg_cellsP _))⟩, ⟨⟨rfl, (VL.le (vl rfl) (one_cellsP _))⟩, ⟨⟨rfl, (VL.le (vl rfl) (one_cellsP _))⟩, trivial⟩⟩⟩⟩⟩⟩⟩⟩ rfl) (TO.re 25 (agg anyRow) rfl (agg_any rfl) (TO.store_all 0 rfl rfl rfl (vl rfl) (VL.le (vl rfl) (agg_cellsP _)) rfl sz170 rfl rfl (TO.nil (Fin.go (wk1 16 rfl (Tr.ret (Fin.retX1 rfl (RVal.cell 0 rfl rfl agg170 sz170 rfl (Pr.le_refl _)) ?_)))))))))
 · exact Pr.le_refl _
theorem w_R2Suites   : Fun Tryz.prog 179 [] (slice 12 anyRows) := by
 refine fo Tryz.func179 rfl ⟨rfl, rfl⟩ fun M0 w0 => ?_
 refine ac ?_
 refine Tr.seq (Tr.regT (tp rfl (kc2 (w_R2use) rfl rfl rfl) (tp rfl (kc2 (w_R2use) rfl rfl rfl) (tp rfl (ok_build (rows := []) rfl bl24 zo24 trivial rfl) ?_))))
 refine TO.alloc rfl rfl (by decide) rfl z24 zo24 (fun b1 => ?_)
 refine TO.alloc rfl rfl (by decide) rfl z24 zo24 (fun b2 => ?_)
 refine TO.alloc rfl rfl (by decide) rfl z24 zo24 (fun b3 => ?_)
 refine sf 2 1 ⟨rfl, rfl, rfl⟩ rfl rfl rfl rfl ?_
 refine sf 1 2 ⟨rfl, rfl, rfl⟩ rfl rfl rfl rfl ?_
 refine sf 0 3 ⟨rfl, rfl, rfl⟩ rfl rfl rfl rfl ?_
 refine ao ?_
 refine Tr.seq (Tr.regT (tp rfl (kc2 (w_R2use) rfl rfl rfl) (tp rfl (kc2 (w_R2use) rfl rfl rfl) ?_)))
 refine TO.alloc rfl rfl (by decide) rfl z24 zo24 (fun b4 => ?_)
 refine TO.alloc rfl rfl (by decide) rfl z24 zo24 (fun b5 => ?_)
 refine sf 1 4 ⟨rfl, rfl, rfl⟩ rfl rfl rfl rfl ?_
 refine sf 0 5 ⟨rfl, rfl, rfl⟩ rfl rfl rfl rfl ?_
 refine ao ?_
 refine wk5 1 2 3 4 5 rfl (Tr.seq (Tr.regT (tp rfl (kc2 (w_R2use) rfl rfl rfl) (tp rfl (kc2 (w_R2use) rfl rfl rfl) (tp rfl (kc2 (w_R2use) rfl rfl rfl) ?_)))))
 refine TO.alloc rfl rfl (by decide) rfl z24 zo24 (fun b6 => ?_)
 refine TO.alloc rfl rfl (by decide) rfl z24 zo24 (fun b7 => ?_)
 refine TO.alloc rfl rfl (by decide) rfl z24 zo24 (fun b8 => ?_)
 refine sf 2 6 ⟨rfl, rfl, rfl⟩ rfl rfl rfl rfl ?_
 refine sf 1 7 ⟨rfl, rfl, rfl⟩ rfl rfl rfl rfl ?_
 refine sf 0 8 ⟨rfl, rfl, rfl⟩ rfl rfl rfl rfl ?_
 refine ao ?_
 refine wk8 1 2 3 4 5 6 7 8 rfl (Tr.seq (Tr.regT ?_))
 iterate 4 refine tp rfl (kc2 (w_R2use) rfl rfl rfl) ?_
 refine TO.alloc rfl rfl (by decide) rfl z24 zo24 (fun b9 => ?_)
 refine TO.alloc rfl rfl (by decide) rfl z24 zo24 (fun b10 => ?_)
 refine TO.alloc rfl rfl (by decide) rfl z24 zo24 (fun b11 => ?_)
 refine TO.alloc rfl rfl (by decide) rfl z24 zo24 (fun b12 => ?_)
 refine sf 3 9 ⟨rfl, rfl, rfl⟩ rfl rfl rfl rfl ?_
 refine sf 2 10 ⟨rfl, rfl, rfl⟩ rfl rfl rfl rfl ?_
 refine sf 1 11 ⟨rfl, rfl, rfl⟩ rfl rfl rfl rfl ?_
 refine sf 0 12 ⟨rfl, rfl, rfl⟩ rfl rfl rfl rfl ?_
 refine ao ?_
 refine wk12 1 2 3 4 5 6 7 8 9 10 11 12 rfl (Tr.seq (Tr.regT (tp rfl (kc2 (w_R2use) rfl rfl rfl) (tp rfl (kc2 (w_R2use) rfl rfl rfl) ?_))))
 refine TO.alloc rfl rfl (by decide) rfl z24 zo24 (fun b13 => ?_)
 refine TO.alloc rfl rfl (by decide) rfl z24 zo24 (fun b14 => ?_)
 refine sf 1 13 ⟨rfl, rfl, rfl⟩ rfl rfl rfl rfl ?_
 refine sf 0 14 ⟨rfl, rfl, rfl⟩ rfl rfl rfl rfl ?_
 refine ao ?_
 refine wk14 1 2 3 4 5 6 7 8 9 10 11 12 13 14 rfl ?_
 refine ac ?_
 refine co rfl (ok_call rfl (w_R2suite) ⟨ke rfl, ke rfl, ke rfl, ke rfl, ke rfl, ke rfl, ke rfl, ke rfl, trivial⟩) ?_
 refine ac ?_
 refine co rfl (ok_call rfl (w_R2suite) ⟨ke rfl, ke rfl, ke rfl, ke rfl, ke rfl, ke rfl, ke rfl, ke rfl, trivial⟩) ?_
 refine ac ?_
 refine co rfl (ok_call rfl (w_R2suite) ⟨ke rfl, ke rfl, ke rfl, ke rfl, ke rfl, ke rfl, ke rfl, ke rfl, trivial⟩) (co rfl (kc2 (w_R2use) rfl rfl rfl) (co rfl (kc2 (w_R2use) rfl rfl rfl) ?_))
 refine ac ?_
 refine co rfl (ok_call rfl (w_R2suite) ⟨ke rfl, ke rfl, ke rfl, ke rfl, ke rfl, ke rfl, ke rfl, ke rfl, trivial⟩) (co rfl (kc2 (w_R2use) rfl rfl rfl) ?_)
 refine ac ?_
 refine co rfl (ok_call rfl (w_R2suite) ⟨ke rfl, ke rfl, ke rfl, ke rfl, ke rfl, ke rfl, ke rfl, ke rfl, trivial⟩) ?_
 refine ac ?_
 refine co rfl (ok_call rfl (w_R2suite) ⟨ke rfl, ke rfl, ke rfl, ke rfl, ke rfl, ke rfl, ke rfl, ke rfl, trivial⟩) (co rfl (kc2 (w_R2use) rfl rfl rfl) ?_)
 refine ac ?_
 refine co rfl (ok_call rfl (w_R2suite) ⟨ke rfl, ke rfl, ke rfl, ke rfl, ke rfl, ke rfl, ke rfl, ke rfl, trivial⟩) ?_
 refine ac ?_
 refine co rfl (ok_call rfl (w_R2suite) ⟨ke rfl, ke rfl, ke rfl, ke rfl, ke rfl, ke rfl, ke rfl, ke rfl, trivial⟩) (co rfl (ok_loadA rfl agg24 sz24 (vl rfl) rfl rfl) (co rfl (kc2 (w_R2use) rfl rfl rfl) (co rfl (kc2 (w_R2use) rfl rfl rfl) (co rfl (ok_loadA rfl agg24 sz24 (vl rfl) rfl rfl) (co rfl (ok_call rfl (w_R2suite) ⟨ke rfl, ke rfl, ke rfl, ke rfl, ke rfl, ke rfl, ke rfl, ke rfl, trivial⟩) ?_)))))
 refine ac ?_
 refine co rfl (ok_call rfl (w_R2suite) ⟨ke rfl, ke rfl, ke rfl, ke rfl, ke rfl, ke rfl, ke rfl, ke rfl, trivial⟩) (co rfl (kc2 (w_R2use) rfl rfl rfl) (co rfl (kc2 (w_R2use) rfl rfl rfl) ?_))
 refine ac ?_
 refine co rfl (ok_call rfl (w_R2suite) ⟨ke rfl, ke rfl, ke rfl, ke rfl, ke rfl, ke rfl, ke rfl, ke rfl, trivial⟩) ?_
 refine ac ?_
 refine co rfl (ok_call rfl (w_R2suite) ⟨ke rfl, ke rfl, ke rfl, ke rfl, ke rfl, ke rfl, ke rfl, ke rfl, trivial⟩) ?_
 refine ac ?_
 refine co rfl (ok_call rfl (w_R2suite) ⟨ke rfl, ke rfl, ke rfl, ke rfl, ke rfl, ke rfl, ke rfl, ke rfl, trivial⟩) ?_
 refine ac ?_
 refine co rfl (ok_call rfl (w_R2suite) ⟨ke rfl, ke rfl, ke rfl, ke rfl, ke rfl, ke rfl, ke rfl, ke rfl, trivial⟩) ?_
 refine ac ?_
 refine co rfl (ok_call rfl (w_R2suite) ⟨ke rfl, ke rfl, ke rfl, ke rfl, ke rfl, ke rfl, ke rfl, ke rfl, trivial⟩) (co rfl (kc2 (w_R2use) rfl rfl rfl) ?_)
 refine ac ?_
 refine co rfl (ok_call rfl (w_R2suite) ⟨ke rfl, ke rfl, ke rfl, ke rfl, ke rfl, ke rfl, ke rfl, ke rfl, trivial⟩) (co rfl (ok_buildSlice (xs := [.tmp 33, .tmp 38, .tmp 43, .tmp 48, .tmp 53, .tmp 58, .tmp 63, .tmp 68, .tmp 73, .tmp 78, .tmp 83, .tmp 88, .tmp 93, .tmp 98, .tmp 103, .tmp 108]) (rows := anyRows) rfl rfl Tryz.underlying205 sz170 z170 rfl (by decide) ⟨⟨(by exact rfl), VL.le (vl rfl) (agg_cellsP _)⟩, ⟨⟨(by exact rfl), VL.le (vl rfl) (agg_cellsP _)⟩, ⟨⟨(by exact rfl), VL.le (vl rfl) (agg_cellsP _)⟩, ⟨⟨(by exact rfl), VL.le (vl rfl) (agg_cellsP _)⟩, ⟨⟨(by exact rfl), VL.le (vl rfl) (agg_cellsP _)⟩, ⟨⟨(by exact rfl), VL.le (vl rfl) (agg_cellsP _)⟩, ⟨⟨(by exact rfl), VL.le (vl rfl) (agg_cellsP _)⟩, ⟨⟨(by exact rfl), VL.le (vl rfl) (agg_cellsP _)⟩, ⟨⟨(by exact rfl), VL.le (vl rfl) (agg_cellsP _)⟩, ⟨⟨(by exact rfl), VL.le (vl rfl) (agg_cellsP _)⟩, ⟨⟨(by exact rfl), VL.le (vl rfl) (agg_cellsP _)⟩, ⟨⟨(by exact rfl), VL.le (vl rfl) (agg_cellsP _)⟩, ⟨⟨(by exact rfl), VL.le (vl rfl) (agg_cellsP _)⟩, ⟨⟨(by exact rfl), VL.le (vl rfl) (agg_cellsP _)⟩, ⟨⟨(by exact rfl), VL.le (vl rfl) (agg_cellsP _)⟩, ⟨⟨(by exact rfl), VL.le (vl rfl) (agg_cellsP _)⟩, trivial⟩⟩⟩⟩⟩⟩⟩⟩⟩⟩⟩⟩⟩⟩⟩⟩ (by decide)) ?_)
 refine ac ?_
 refine wk1 0 rfl ?_
 refine ac ?_
 · exact full_le _ _
theorem w_R2Suite {code : Int}  : Fun Tryz.prog 125 [int code] (tup [agg anyRow, int (if 1 ≤ code ∧ code ≤ 16 then 0 else 8)]) := by
 refine fo Tryz.func125 rfl ⟨rfl, rfl⟩ fun M0 w0 => (Tr.seq (Tr.regT ?_))
 refine TO.alloc rfl rfl (by decide) rfl z170 zo170 (fun b1 => ?_)
 refine ap ?_
 refine ac ?_
 refine Ch.cs 6 rfl ?_ ?_ <;> intro h1 q1
 refine ac ?_
 refine Tr.cond rfl (fun _ => ?_) (fun h => nomatch h)
 refine Tr.seq (Tr.regT (tp rfl (ok_build (rows := []) rfl bl170 zo170 trivial rfl) (TO.store_all 0 rfl rfl rfl (vl rfl) (VL.le (vl rfl) (agg_cellsP _)) rfl sz170 rfl rfl (tm rfl (TO.nil (Fin.go (Tr.ret (Fin.then_ret (Fin.retX2 rfl (RVal.cell 0 rfl rfl agg170 sz170 rfl (Pr.le_refl _)) (RVal.tmp rfl (Pr.le_refl _)) ?_)))))))))
 · exact tup_le ⟨agg_any rfl, int_eq (by rw [if_neg]; simp_all; omega), trivial⟩
 refine ac ?_
 refine Tr.cn rfl ?_ ?_ <;> intro h2 q2
 refine ap ?_
 refine Tr.ret (Fin.then_ret (Fin.retX2 rfl (RVal.cell 0 rfl rfl agg170 sz170 rfl (Pr.le_refl _)) (RVal.tmp rfl (Pr.le_refl _)) ?_))
 · exact tup_le ⟨agg_any rfl, int_eq (by rw [if_neg]; simp_all), trivial⟩
 have hin : 1 ≤ code ∧ code ≤ 16 := by omega
 refine ac ?_
 refine Tr.seq (Tr.regT (tp rfl (kc0 (w_R2Suites) rfl) ?_))
 refine ap ?_
 refine tp rfl (ok_indexAddr rfl Tryz.underlying205 sz170 (vl rfl) (vl rfl) (by omega) (any_rows (by omega))) ?_
 refine ap ?_
 refine wk2 2 3 rfl (Tr.ret (Fin.retX2 rfl (RVal.cell 0 rfl rfl agg170 sz170 rfl (Pr.le_refl _)) (RVal.tmp rfl (Pr.le_refl _)) ?_))
 · exact tup_le ⟨Pr.le_refl _, int_eq (by rw [if_pos hin]), trivial⟩
theorem w_R02Has {l : List Int} {v : Int}  : Fun Tryz.prog 112 [ints l, int v] (bool (l.any fun x => v == x)) := by
 refine fo Tryz.func112 rfl ⟨rfl, rfl⟩ fun M0 w0 => (Tr.lenm 0 rfl fun hlm_0 => ?_)
 refine ac ?_
 refine ac ?_
 refine Tr.block (Tr.loopw [(0, _), (1, _)] (kk2 rfl) (fun k : Nat => [(5, int ((k : Nat) : Int))]) (fun k : Nat => k ≤ (l).length ∧ ((l.take k).any (fun x => v == x) = false)) (fun k : Nat => (l).length - k) 0 (⟨Nat.zero_le _, rfl⟩) ⟨ke rfl, trivial⟩ ?_)
 rintro k ⟨hle_k, hinv_k⟩
 refine ac ?_
 refine Tr.cn rfl ?_ ?_ <;> intro h1 q1
 have hk_k : k < (l).length := lt_of_dec h1
 obtain ⟨x, hx_k⟩ := at_ hk_k
 refine ac ?_
 refine ac ?_
 refine co rfl (ok_indexAddr rfl Tryz.underlying22 sz3 (vl rfl) (vl rfl) (by omega) (by exact row_at (by assumption))) ?_
 refine ac ?_
 refine Tr.cn rfl ?_ ?_ <;> intro h2 q2
 refine ac ?_
 refine wk1 4 rfl ?_
 refine ac ?_
 · refine bool_eq ?_; symm; rw [List.any_eq_true]; exact ⟨_, List.mem_of_getElem? hx_k, by simp_all⟩
 refine ac ?_
 refine ac ?_
 exact Fin.fam_same (k + 1) ⟨⟨hk_k, (by rw [List.take_add_one, hx_k, List.any_append, hinv_k]; simp; omega)⟩, by omega⟩ ⟨⟨_, rfl, int_succ k⟩, ke rfl, ke rfl, trivial⟩
 have he_k : k = (l).length := by have := ge_of_dec h1; omega
 subst he_k
 refine ac ?_
 refine ac ?_
 refine ac ?_
 · refine bool_eq ?_; rw [List.take_length] at hinv_k; exact hinv_k.symm
theorem names_iff {l : List (List UInt8)} : namesB l = true ↔ (∀ j, j < l.length → nameAt l j = true) ∧ l.length ≤ 8 := by unfold namesB; rw [Bool.and_eq_true, allI_iff, decide_eq_true_eq]
theorem nameAt_of {l : List (List UInt8)} {k : Nat} {s : List UInt8} (hs : l[k]? = some s) (h1 : named s = true) (h2 : 0 < k → ∃ y, l[k - 1]? = some y ∧ Lib.compareBytes y s = -1) : nameAt l k = true := by
  unfold nameAt; rw [hs]; simp only [Option.getD_some, h1, Bool.true_and, Bool.or_eq_true, decide_eq_true_eq]
  rcases Nat.eq_zero_or_pos k with h0 | h0
  · exact .inl h0
  · obtain ⟨y, hy, hc⟩ := h2 h0; rw [hy]; exact .inr hc
theorem w_R3CheckG {c : Crt}  : Fun Tryz.prog 159 [agg (rowCr c)] (int (if validB c then 0 else 9)) := by
 refine fo Tryz.func159 rfl ⟨rfl, rfl⟩ fun M0 w0 => ?_
 refine ac ?_
 refine ac ?_
 refine Ch.cs 7 rfl ?_ ?_ <;> intro h1 q1
 refine ac ?_
 refine wk2 1 39 rfl ?_
 refine ac ?_
 refine ac ?_
 · refine int_eq (if_neg (fun hv => ?_)).symm; have vf := vf_of hv; obtain ⟨v_s0, v_s1, v_iss, v_sub, v_nm, v_key, v_k0, v_k1, v_hash, v_sk0, v_sk1, v_su0, v_su1, v_f0, v_ft, v_t1, v_p0, v_p1, v_ap⟩ := vf; have v_l8 := (names_iff.1 v_nm).2; unfold ofB at v_key v_hash; omega
 refine ac ?_
 refine Ch.cs 12 rfl ?_ ?_ <;> intro h2 q2
 refine ac ?_
 refine wk2 1 39 rfl ?_
 refine ac ?_
 refine ac ?_
 · refine int_eq (if_neg (fun hv => ?_)).symm; have vf := vf_of hv; obtain ⟨v_s0, v_s1, v_iss, v_sub, v_nm, v_key, v_k0, v_k1, v_hash, v_sk0, v_sk1, v_su0, v_su1, v_f0, v_ft, v_t1, v_p0, v_p1, v_ap⟩ := vf; have v_l8 := (names_iff.1 v_nm).2; unfold ofB at v_key v_hash; omega
 refine ac ?_
 refine cy h2 rfl (kc1 (w_RName) rfl rfl) ?_
 refine ac ?_
 refine Ch.cs 18 rfl ?_ ?_ <;> intro h3 q3
 refine ac ?_
 refine wk2 1 39 rfl ?_
 refine ac ?_
 refine ac ?_
 · refine int_eq (if_neg (fun hv => ?_)).symm; have vf := vf_of hv; obtain ⟨v_s0, v_s1, v_iss, v_sub, v_nm, v_key, v_k0, v_k1, v_hash, v_sk0, v_sk1, v_su0, v_su1, v_f0, v_ft, v_t1, v_p0, v_p1, v_ap⟩ := vf; have v_l8 := (names_iff.1 v_nm).2; unfold ofB at v_key v_hash; simp_all
 refine ac ?_
 refine cy h3 rfl (kc1 (w_RName) rfl rfl) ?_
 refine ac ?_
 refine Ch.cs 24 rfl ?_ ?_ <;> intro h4 q4
 refine ac ?_
 refine wk2 1 39 rfl ?_
 refine ac ?_
 refine ac ?_
 · refine int_eq (if_neg (fun hv => ?_)).symm; have vf := vf_of hv; obtain ⟨v_s0, v_s1, v_iss, v_sub, v_nm, v_key, v_k0, v_k1, v_hash, v_sk0, v_sk1, v_su0, v_su1, v_f0, v_ft, v_t1, v_p0, v_p1, v_ap⟩ := vf; have v_l8 := (names_iff.1 v_nm).2; unfold ofB at v_key v_hash; simp_all
 refine ac ?_
 refine cy h4 rfl (kc1 (w_Signature) rfl rfl) ?_
 refine ac ?_
 refine Ch.cs 30 rfl ?_ ?_ <;> intro h5 q5
 refine ac ?_
 refine wk2 1 39 rfl ?_
 refine ac ?_
 refine ac ?_
 · refine int_eq (if_neg (fun hv => ?_)).symm; have vf := vf_of hv; obtain ⟨v_s0, v_s1, v_iss, v_sub, v_nm, v_key, v_k0, v_k1, v_hash, v_sk0, v_sk1, v_su0, v_su1, v_f0, v_ft, v_t1, v_p0, v_p1, v_ap⟩ := vf; have v_l8 := (names_iff.1 v_nm).2; unfold ofB at v_key v_hash; simp_all
 refine ac ?_
 refine Ch.cs 35 rfl ?_ ?_ <;> intro h6 q6
 refine ac ?_
 refine wk2 1 39 rfl ?_
 refine ac ?_
 refine ac ?_
 · refine int_eq (if_neg (fun hv => ?_)).symm; have vf := vf_of hv; obtain ⟨v_s0, v_s1, v_iss, v_sub, v_nm, v_key, v_k0, v_k1, v_hash, v_sk0, v_sk1, v_su0, v_su1, v_f0, v_ft, v_t1, v_p0, v_p1, v_ap⟩ := vf; have v_l8 := (names_iff.1 v_nm).2; unfold ofB at v_key v_hash; omega
 refine ac ?_
 refine wk2 1 39 rfl ?_
 refine Tr.cn rfl ?_ ?_ <;> intro h7 q7
 refine ac ?_
 refine ac ?_
 · refine int_eq (if_neg (fun hv => ?_)).symm; have vf := vf_of hv; obtain ⟨v_s0, v_s1, v_iss, v_sub, v_nm, v_key, v_k0, v_k1, v_hash, v_sk0, v_sk1, v_su0, v_su1, v_f0, v_ft, v_t1, v_p0, v_p1, v_ap⟩ := vf; have v_l8 := (names_iff.1 v_nm).2; unfold ofB at v_key v_hash; omega
 refine ac ?_
 refine ac ?_
 refine co rfl (kc1 (w_RValid) rfl rfl) ?_
 refine ac ?_
 refine Ch.cs 44 rfl ?_ ?_ <;> intro h8 q8
 refine ac ?_
 refine wk2 1 67 rfl ?_
 refine ac ?_
 refine ac ?_
 · refine int_eq (if_neg (fun hv => ?_)).symm; have vf := vf_of hv; obtain ⟨v_s0, v_s1, v_iss, v_sub, v_nm, v_key, v_k0, v_k1, v_hash, v_sk0, v_sk1, v_su0, v_su1, v_f0, v_ft, v_t1, v_p0, v_p1, v_ap⟩ := vf; have v_l8 := (names_iff.1 v_nm).2; unfold ofB at v_key v_hash; simp_all; omega
 refine ac ?_
 refine cy h8 rfl (kc1 (w_RKind) rfl rfl) ?_
 refine ac ?_
 refine Ch.cs 51 rfl ?_ ?_ <;> intro h9 q9
 refine ac ?_
 refine wk2 1 67 rfl ?_
 refine ac ?_
 refine ac ?_
 · refine int_eq (if_neg (fun hv => ?_)).symm; have vf := vf_of hv; obtain ⟨v_s0, v_s1, v_iss, v_sub, v_nm, v_key, v_k0, v_k1, v_hash, v_sk0, v_sk1, v_su0, v_su1, v_f0, v_ft, v_t1, v_p0, v_p1, v_ap⟩ := vf; have v_l8 := (names_iff.1 v_nm).2; unfold ofB at v_key v_hash; simp_all
 refine ac ?_
 refine Ch.cs 56 rfl ?_ ?_ <;> intro h10 q10
 refine ac ?_
 refine wk2 1 67 rfl ?_
 refine ac ?_
 refine ac ?_
 · refine int_eq (if_neg (fun hv => ?_)).symm; have vf := vf_of hv; obtain ⟨v_s0, v_s1, v_iss, v_sub, v_nm, v_key, v_k0, v_k1, v_hash, v_sk0, v_sk1, v_su0, v_su1, v_f0, v_ft, v_t1, v_p0, v_p1, v_ap⟩ := vf; have v_l8 := (names_iff.1 v_nm).2; unfold ofB at v_key v_hash; omega
 refine ac ?_
 refine Ch.cs 63 rfl ?_ ?_ <;> intro h11 q11
 refine ac ?_
 refine wk2 1 67 rfl ?_
 refine ac ?_
 refine ac ?_
 · refine int_eq (if_neg (fun hv => ?_)).symm; have vf := vf_of hv; obtain ⟨v_s0, v_s1, v_iss, v_sub, v_nm, v_key, v_k0, v_k1, v_hash, v_sk0, v_sk1, v_su0, v_su1, v_f0, v_ft, v_t1, v_p0, v_p1, v_ap⟩ := vf; have v_l8 := (names_iff.1 v_nm).2; unfold ofB at v_key v_hash; omega
 refine ac ?_
 refine wk2 1 67 rfl ?_
 refine Tr.cn rfl ?_ ?_ <;> intro h12 q12
 refine ac ?_
 refine ac ?_
 · refine int_eq (if_neg (fun hv => ?_)).symm; have vf := vf_of hv; obtain ⟨v_s0, v_s1, v_iss, v_sub, v_nm, v_key, v_k0, v_k1, v_hash, v_sk0, v_sk1, v_su0, v_su1, v_f0, v_ft, v_t1, v_p0, v_p1, v_ap⟩ := vf; have v_l8 := (names_iff.1 v_nm).2; unfold ofB at v_key v_hash; omega
 refine ac ?_
 refine ac ?_
 refine Ch.cs 71 rfl ?_ ?_ <;> intro h13 q13
 refine ac ?_
 refine wk2 1 91 rfl ?_
 refine ac ?_
 refine ac ?_
 · refine int_eq (if_neg (fun hv => ?_)).symm; have vf := vf_of hv; obtain ⟨v_s0, v_s1, v_iss, v_sub, v_nm, v_key, v_k0, v_k1, v_hash, v_sk0, v_sk1, v_su0, v_su1, v_f0, v_ft, v_t1, v_p0, v_p1, v_ap⟩ := vf; have v_l8 := (names_iff.1 v_nm).2; unfold ofB at v_key v_hash; omega
 refine ac ?_
 refine Ch.cs 76 rfl ?_ ?_ <;> intro h14 q14
 refine ac ?_
 refine wk2 1 91 rfl ?_
 refine ac ?_
 refine ac ?_
 · refine int_eq (if_neg (fun hv => ?_)).symm; have vf := vf_of hv; obtain ⟨v_s0, v_s1, v_iss, v_sub, v_nm, v_key, v_k0, v_k1, v_hash, v_sk0, v_sk1, v_su0, v_su1, v_f0, v_ft, v_t1, v_p0, v_p1, v_ap⟩ := vf; have v_l8 := (names_iff.1 v_nm).2; unfold ofB at v_key v_hash; omega
 refine ac ?_
 refine Ch.cs 80 rfl ?_ ?_ <;> intro h15 q15
 refine ac ?_
 refine Ch.cs 86 rfl ?_ ?_ <;> intro h16 q16
 refine ac ?_
 refine wk2 1 91 rfl ?_
 refine ac ?_
 refine ac ?_
 · refine int_eq (if_neg (fun hv => ?_)).symm; have vf := vf_of hv; obtain ⟨v_s0, v_s1, v_iss, v_sub, v_nm, v_key, v_k0, v_k1, v_hash, v_sk0, v_sk1, v_su0, v_su1, v_f0, v_ft, v_t1, v_p0, v_p1, v_ap⟩ := vf; have v_l8 := (names_iff.1 v_nm).2; unfold ofB at v_key v_hash; simp_all
 refine ac ?_
 refine wk2 1 91 rfl ?_
 refine Tr.cn rfl ?_ ?_ <;> intro h17 q17
 refine ac ?_
 refine ac ?_
 · refine int_eq (if_neg (fun hv => ?_)).symm; have vf := vf_of hv; obtain ⟨v_s0, v_s1, v_iss, v_sub, v_nm, v_key, v_k0, v_k1, v_hash, v_sk0, v_sk1, v_su0, v_su1, v_f0, v_ft, v_t1, v_p0, v_p1, v_ap⟩ := vf; have v_l8 := (names_iff.1 v_nm).2; unfold ofB at v_key v_hash; omega
 refine ac ?_
 refine ac ?_
 refine Tr.block (Tr.loopw [(1, _)] ⟨ke rfl, trivial⟩ (fun k : Nat => [(3, int ((k : Nat) : Int))]) (fun k : Nat => k ≤ (c.names).length ∧ (∀ j, j < k → nameAt c.names j = true)) (fun k : Nat => (c.names).length - k) 0 (⟨Nat.zero_le _, fun j hj => absurd hj (by omega)⟩) ⟨ke rfl, trivial⟩ ?_)
 rintro k ⟨hle_k, hinv_k⟩
 refine ac ?_
 refine Tr.cn rfl ?_ ?_ <;> intro h18 q18
 have hk_k : k < (c.names).length := lt_of_dec h18
 obtain ⟨s, hx_k⟩ := at_ hk_k
 refine ac ?_
 refine ac ?_
 refine co rfl (ok_indexAddr rfl Tryz.underlying74 sz9 (vl rfl) (vl rfl) (by omega) (row_at hx_k)) (co rfl (kl1 rfl one9 rfl) (co rfl (kc1 (w_RName) rfl rfl) ?_))
 refine ac ?_
 refine Ch.cs 106 rfl ?_ ?_ <;> intro h19 q19
 refine ac ?_
 refine wk3 1 3 123 rfl ?_
 refine ac ?_
 refine ac ?_
 · refine int_eq (if_neg (fun hv => ?_)).symm; have vf := vf_of hv; obtain ⟨v_s0, v_s1, v_iss, v_sub, v_nm, v_key, v_k0, v_k1, v_hash, v_sk0, v_sk1, v_su0, v_su1, v_f0, v_ft, v_t1, v_p0, v_p1, v_ap⟩ := vf; have v_l8 := (names_iff.1 v_nm).2; unfold ofB at v_key v_hash; have hn_ := (names_iff.1 v_nm).1 k (by omega); unfold nameAt at hn_; simp_all
 refine ac ?_
 refine Ch.cs 109 rfl ?_ ?_ <;> intro h20 q20
 have hk00 : 0 < k := by simpa using h20
 obtain ⟨y, hy⟩ := at_ (l := c.names) (k := k - 1) (by omega)
 refine ac ?_
 refine cy h20 rfl (ok_indexAddr rfl Tryz.underlying74 sz9 (vl rfl) (vl rfl) (by omega) (by rw [show ((k : Nat) : Int) - 1 = ((k - 1 : Nat) : Int) by omega]; exact row_at hy)) ?_
 refine ac ?_
 refine cy h20 rfl (ok_indexAddr rfl Tryz.underlying74 sz9 (vl rfl) (vl rfl) (by omega) (row_at hx_k)) (cy h20 rfl (kl1 rfl one9 rfl) (cy h20 rfl (ok_ges rfl (vl rfl) (vl rfl)) ?_))
 refine ac ?_
 refine wk3 1 3 123 rfl ?_
 refine Tr.cn rfl ?_ ?_ <;> intro h21 q21
 refine ac ?_
 refine ac ?_
 · refine int_eq (if_neg (fun hv => ?_)).symm; have vf := vf_of hv; obtain ⟨v_s0, v_s1, v_iss, v_sub, v_nm, v_key, v_k0, v_k1, v_hash, v_sk0, v_sk1, v_su0, v_su1, v_f0, v_ft, v_t1, v_p0, v_p1, v_ap⟩ := vf; have v_l8 := (names_iff.1 v_nm).2; unfold ofB at v_key v_hash; have hn_ := (names_iff.1 v_nm).1 k (by omega); unfold nameAt at hn_; simp_all
 refine ac ?_
 refine ac ?_
 exact Fin.fam_same (k + 1) ⟨⟨hk_k, (fun j hj => by rcases Nat.lt_or_eq_of_le (Nat.le_of_lt_succ hj) with h_ | h_; exact hinv_k j h_; (subst h_; refine nameAt_of hx_k (by simp_all) (fun h0 => ?_); exact ⟨y, hy, by simp_all⟩))⟩, by omega⟩ ⟨⟨_, rfl, int_succ k⟩, ke rfl, trivial⟩
 have hk00 : ¬ 0 < k := by simpa using h20
 refine ac ?_
 refine wk3 1 3 123 rfl ?_
 refine ac ?_
 refine ac ?_
 exact Fin.fam_same (k + 1) ⟨⟨hk_k, (fun j hj => by rcases Nat.lt_or_eq_of_le (Nat.le_of_lt_succ hj) with h_ | h_; exact hinv_k j h_; (subst h_; refine nameAt_of hx_k (by simp_all) (fun h0 => ?_); exact absurd h0 hk00))⟩, by omega⟩ ⟨⟨_, rfl, int_succ k⟩, ke rfl, trivial⟩
 have he_k : k = (c.names).length := by have := ge_of_dec h18; omega
 subst he_k
 refine ac ?_
 refine ac ?_
 refine Ch.cs 128 rfl ?_ ?_ <;> intro h22 q22
 refine ac ?_
 refine wk1 145 rfl ?_
 refine ac ?_
 refine ac ?_
 · refine int_eq (if_neg (fun hv => ?_)).symm; have vf := vf_of hv; obtain ⟨v_s0, v_s1, v_iss, v_sub, v_nm, v_key, v_k0, v_k1, v_hash, v_sk0, v_sk1, v_su0, v_su1, v_f0, v_ft, v_t1, v_p0, v_p1, v_ap⟩ := vf; have v_l8 := (names_iff.1 v_nm).2; unfold ofB at v_key v_hash; omega
 refine ac ?_
 refine Ch.cs 134 rfl ?_ ?_ <;> intro h23 q23
 refine ac ?_
 refine wk1 145 rfl ?_
 refine ac ?_
 refine ac ?_
 · refine int_eq (if_neg (fun hv => ?_)).symm; have vf := vf_of hv; obtain ⟨v_s0, v_s1, v_iss, v_sub, v_nm, v_key, v_k0, v_k1, v_hash, v_sk0, v_sk1, v_su0, v_su1, v_f0, v_ft, v_t1, v_p0, v_p1, v_ap⟩ := vf; have v_l8 := (names_iff.1 v_nm).2; unfold ofB at v_key v_hash; omega
 refine ac ?_
 refine Ch.cs 140 rfl ?_ ?_ <;> intro h24 q24
 refine ac ?_
 refine wk1 145 rfl ?_
 refine ac ?_
 refine ac ?_
 · refine int_eq (if_neg (fun hv => ?_)).symm; have vf := vf_of hv; obtain ⟨v_s0, v_s1, v_iss, v_sub, v_nm, v_key, v_k0, v_k1, v_hash, v_sk0, v_sk1, v_su0, v_su1, v_f0, v_ft, v_t1, v_p0, v_p1, v_ap⟩ := vf; have v_l8 := (names_iff.1 v_nm).2; unfold ofB at v_key v_hash; omega
 refine ac ?_
 refine wk1 145 rfl ?_
 refine Tr.cn rfl ?_ ?_ <;> intro h25 q25
 refine ac ?_
 refine ac ?_
 · refine int_eq (if_neg (fun hv => ?_)).symm; have vf := vf_of hv; obtain ⟨v_s0, v_s1, v_iss, v_sub, v_nm, v_key, v_k0, v_k1, v_hash, v_sk0, v_sk1, v_su0, v_su1, v_f0, v_ft, v_t1, v_p0, v_p1, v_ap⟩ := vf; have v_l8 := (names_iff.1 v_nm).2; unfold ofB at v_key v_hash; omega
 refine ac ?_
 refine ac ?_
 refine ac ?_
 · refine int_eq (if_pos (of_vf ⟨by omega, by omega, by simp_all, by simp_all, names_iff.2 ⟨hinv_k, by omega⟩, by unfold ofB; simp_all, by omega, by omega, by unfold ofB; simp_all, by omega, by omega, by omega, by omega, by omega, by omega, by omega, by omega, by omega, by right; omega⟩)).symm
 refine ac ?_
 refine wk2 1 91 rfl ?_
 refine Tr.cn rfl ?_ ?_ <;> intro h26 q26
 refine ac ?_
 refine ac ?_
 · refine int_eq (if_neg (fun hv => ?_)).symm; have vf := vf_of hv; obtain ⟨v_s0, v_s1, v_iss, v_sub, v_nm, v_key, v_k0, v_k1, v_hash, v_sk0, v_sk1, v_su0, v_su1, v_f0, v_ft, v_t1, v_p0, v_p1, v_ap⟩ := vf; have v_l8 := (names_iff.1 v_nm).2; unfold ofB at v_key v_hash; omega
 refine ac ?_
 refine ac ?_
 refine Tr.block (Tr.loopw [(1, _)] ⟨ke rfl, trivial⟩ (fun k : Nat => [(3, int ((k : Nat) : Int))]) (fun k : Nat => k ≤ (c.names).length ∧ (∀ j, j < k → nameAt c.names j = true)) (fun k : Nat => (c.names).length - k) 0 (⟨Nat.zero_le _, fun j hj => absurd hj (by omega)⟩) ⟨ke rfl, trivial⟩ ?_)
 rintro k ⟨hle_k, hinv_k⟩
 refine ac ?_
 refine Tr.cn rfl ?_ ?_ <;> intro h27 q27
 have hk_k : k < (c.names).length := lt_of_dec h27
 obtain ⟨s, hx_k⟩ := at_ hk_k
 refine ac ?_
 refine ac ?_
 refine co rfl (ok_indexAddr rfl Tryz.underlying74 sz9 (vl rfl) (vl rfl) (by omega) (row_at hx_k)) (co rfl (kl1 rfl one9 rfl) (co rfl (kc1 (w_RName) rfl rfl) ?_))
 refine ac ?_
 refine Ch.cs 106 rfl ?_ ?_ <;> intro h28 q28
 refine ac ?_
 refine wk3 1 3 123 rfl ?_
 refine ac ?_
 refine ac ?_
 · refine int_eq (if_neg (fun hv => ?_)).symm; have vf := vf_of hv; obtain ⟨v_s0, v_s1, v_iss, v_sub, v_nm, v_key, v_k0, v_k1, v_hash, v_sk0, v_sk1, v_su0, v_su1, v_f0, v_ft, v_t1, v_p0, v_p1, v_ap⟩ := vf; have v_l8 := (names_iff.1 v_nm).2; unfold ofB at v_key v_hash; have hn_ := (names_iff.1 v_nm).1 k (by omega); unfold nameAt at hn_; simp_all
 refine ac ?_
 refine Ch.cs 109 rfl ?_ ?_ <;> intro h29 q29
 have hk00 : 0 < k := by simpa using h29
 obtain ⟨y, hy⟩ := at_ (l := c.names) (k := k - 1) (by omega)
 refine ac ?_
 refine cy h29 rfl (ok_indexAddr rfl Tryz.underlying74 sz9 (vl rfl) (vl rfl) (by omega) (by rw [show ((k : Nat) : Int) - 1 = ((k - 1 : Nat) : Int) by omega]; exact row_at hy)) ?_
 refine ac ?_
 refine cy h29 rfl (ok_indexAddr rfl Tryz.underlying74 sz9 (vl rfl) (vl rfl) (by omega) (row_at hx_k)) (cy h29 rfl (kl1 rfl one9 rfl) (cy h29 rfl (ok_ges rfl (vl rfl) (vl rfl)) ?_))
 refine ac ?_
 refine wk3 1 3 123 rfl ?_
 refine Tr.cn rfl ?_ ?_ <;> intro h30 q30
 refine ac ?_
 refine ac ?_
 · refine int_eq (if_neg (fun hv => ?_)).symm; have vf := vf_of hv; obtain ⟨v_s0, v_s1, v_iss, v_sub, v_nm, v_key, v_k0, v_k1, v_hash, v_sk0, v_sk1, v_su0, v_su1, v_f0, v_ft, v_t1, v_p0, v_p1, v_ap⟩ := vf; have v_l8 := (names_iff.1 v_nm).2; unfold ofB at v_key v_hash; have hn_ := (names_iff.1 v_nm).1 k (by omega); unfold nameAt at hn_; simp_all
 refine ac ?_
 refine ac ?_
 exact Fin.fam_same (k + 1) ⟨⟨hk_k, (fun j hj => by rcases Nat.lt_or_eq_of_le (Nat.le_of_lt_succ hj) with h_ | h_; exact hinv_k j h_; (subst h_; refine nameAt_of hx_k (by simp_all) (fun h0 => ?_); exact ⟨y, hy, by simp_all⟩))⟩, by omega⟩ ⟨⟨_, rfl, int_succ k⟩, ke rfl, trivial⟩
 have hk00 : ¬ 0 < k := by simpa using h29
 refine ac ?_
 refine wk3 1 3 123 rfl ?_
 refine ac ?_
 refine ac ?_
 exact Fin.fam_same (k + 1) ⟨⟨hk_k, (fun j hj => by rcases Nat.lt_or_eq_of_le (Nat.le_of_lt_succ hj) with h_ | h_; exact hinv_k j h_; (subst h_; refine nameAt_of hx_k (by simp_all) (fun h0 => ?_); exact absurd h0 hk00))⟩, by omega⟩ ⟨⟨_, rfl, int_succ k⟩, ke rfl, trivial⟩
 have he_k : k = (c.names).length := by have := ge_of_dec h27; omega
 subst he_k
 refine ac ?_
 refine ac ?_
 refine Ch.cs 128 rfl ?_ ?_ <;> intro h31 q31
 refine ac ?_
 refine wk1 145 rfl ?_
 refine ac ?_
 refine ac ?_
 · refine int_eq (if_neg (fun hv => ?_)).symm; have vf := vf_of hv; obtain ⟨v_s0, v_s1, v_iss, v_sub, v_nm, v_key, v_k0, v_k1, v_hash, v_sk0, v_sk1, v_su0, v_su1, v_f0, v_ft, v_t1, v_p0, v_p1, v_ap⟩ := vf; have v_l8 := (names_iff.1 v_nm).2; unfold ofB at v_key v_hash; omega
 refine ac ?_
 refine Ch.cs 134 rfl ?_ ?_ <;> intro h32 q32
 refine ac ?_
 refine wk1 145 rfl ?_
 refine ac ?_
 refine ac ?_
 · refine int_eq (if_neg (fun hv => ?_)).symm; have vf := vf_of hv; obtain ⟨v_s0, v_s1, v_iss, v_sub, v_nm, v_key, v_k0, v_k1, v_hash, v_sk0, v_sk1, v_su0, v_su1, v_f0, v_ft, v_t1, v_p0, v_p1, v_ap⟩ := vf; have v_l8 := (names_iff.1 v_nm).2; unfold ofB at v_key v_hash; omega
 refine ac ?_
 refine Ch.cs 140 rfl ?_ ?_ <;> intro h33 q33
 refine ac ?_
 refine wk1 145 rfl ?_
 refine ac ?_
 refine ac ?_
 · refine int_eq (if_neg (fun hv => ?_)).symm; have vf := vf_of hv; obtain ⟨v_s0, v_s1, v_iss, v_sub, v_nm, v_key, v_k0, v_k1, v_hash, v_sk0, v_sk1, v_su0, v_su1, v_f0, v_ft, v_t1, v_p0, v_p1, v_ap⟩ := vf; have v_l8 := (names_iff.1 v_nm).2; unfold ofB at v_key v_hash; omega
 refine ac ?_
 refine wk1 145 rfl ?_
 refine Tr.cn rfl ?_ ?_ <;> intro h34 q34
 refine ac ?_
 refine ac ?_
 · refine int_eq (if_neg (fun hv => ?_)).symm; have vf := vf_of hv; obtain ⟨v_s0, v_s1, v_iss, v_sub, v_nm, v_key, v_k0, v_k1, v_hash, v_sk0, v_sk1, v_su0, v_su1, v_f0, v_ft, v_t1, v_p0, v_p1, v_ap⟩ := vf; have v_l8 := (names_iff.1 v_nm).2; unfold ofB at v_key v_hash; omega
 refine ac ?_
 refine ac ?_
 refine ac ?_
 · refine int_eq (if_pos (of_vf ⟨by omega, by omega, by simp_all, by simp_all, names_iff.2 ⟨hinv_k, by omega⟩, by unfold ofB; simp_all, by omega, by omega, by unfold ofB; simp_all, by omega, by omega, by omega, by omega, by omega, by omega, by omega, by omega, by omega, by left; simp_all⟩)).symm
end Go.Proofs.YtppeeogffbpcbaaGreat
namespace Go.Proofs.YtppeeogffbpcbaaGreat
open Go Go.RowKit Cp

theorem and1 {a b : Bool} (h : (a && b) = true) : a = true := by simp at h; exact h.1
theorem and2 {a b : Bool} (h : (a && b) = true) : b = true := by simp at h; exact h.2
theorem pigeon : ∀ (n : Nat) (l : List Int), (∀ x ∈ l, 1 ≤ x ∧ x ≤ (n : Int)) → l.Nodup → l.length ≤ n
  | 0, l, h, _ => by
    cases l with
    | nil => exact Nat.le_refl _
    | cons a l => have := h a (List.mem_cons_self ..); omega
  | n + 1, l, h, hn => by
    have ih := pigeon n (l.erase ((n : Int) + 1)) (fun x hx => by
      have h1 := h x (List.mem_of_mem_erase hx)
      have h2 := (hn.mem_erase_iff.1 hx).1
      omega) (hn.erase _)
    rw [List.length_erase] at ih
    split at ih <;> omega
theorem suites_16 {l : List Int} (h : suitesB l = true) : l.length ≤ 16 := by
  refine pigeon 16 l (fun x hx => ?_) ?_
  · obtain ⟨j, hj⟩ := List.getElem?_of_mem hx
    have h1 := allI_iff.1 (show allI (suiteAt l) l.length = true from h) j (lt_of_at hj)
    unfold suiteAt at h1; rw [getD_at hj] at h1
    have := and1 h1
    simpa using this
  · refine List.pairwise_iff_getElem.2 fun i j hi hj hij he => ?_
    have := suites_one h (List.getElem?_eq_getElem hi) (by rw [he]; exact List.getElem?_eq_getElem hj)
    omega
theorem all_at {p : Int → Bool} {l : List Int} (h : ∀ j, j < l.length → p (l[j]?.getD 0) = true) : l.all p = true := List.all_eq_true.2 fun x hx => by
  obtain ⟨j, hj⟩ := List.getElem?_of_mem hx
  have := h j (lt_of_at hj)
  rw [getD_at hj] at this; exact this

theorem w_R5Right {alg bits id : Int} {l : List Crt}  : Fun Tryz.prog 126 [agg [int alg, int bits], int id, certs l] (bool (showsB alg bits id l)) := by
 refine fo Tryz.func126 rfl ⟨rfl, rfl⟩ fun M0 w0 => (Tr.lenm 2 rfl fun hlm_2 => ?_)
 refine ac ?_
 refine ac ?_
 refine co rfl (kc1 (w_Signature) rfl rfl) ?_
 refine ac ?_
 refine Ch.cs 11 rfl ?_ ?_ <;> intro h1 q1
 refine ac ?_
 refine wk4 1 2 3 23 rfl ?_
 refine ac ?_
 refine ac ?_
 · refine bool_eq ?_; rw [showsB_eq]; unfold ofB keyB; simp_all
 refine ac ?_
 refine Ch.cs 15 rfl ?_ ?_ <;> intro h2 q2
 refine ac ?_
 refine wk4 1 2 3 23 rfl ?_
 refine ac ?_
 refine ac ?_
 · refine bool_eq ?_; rw [showsB_eq]; unfold ofB keyB; simp_all; omega
 refine ac ?_
 refine Ch.cs 19 rfl ?_ ?_ <;> intro h3 q3
 refine ac ?_
 refine wk4 1 2 3 23 rfl ?_
 refine ac ?_
 refine ac ?_
 · refine bool_eq ?_; rw [showsB_eq]; unfold ofB keyB; simp_all; omega
 refine ac ?_
 refine wk4 1 2 3 23 rfl ?_
 refine Tr.cn rfl ?_ ?_ <;> intro h4 q4
 refine ac ?_
 refine ac ?_
 · refine bool_eq ?_; rw [showsB_eq]; unfold ofB keyB; simp_all; omega
 refine ac ?_
 refine ac ?_
 refine Tr.block (Tr.loopw [(1, _), (2, _), (3, _)] (kk3 rfl) (fun k : Nat => [(7, int ((k : Nat) : Int))]) (fun k : Nat => k ≤ (l).length ∧ (∀ j y, j < k → l[j]? = some y → (!validB y) = false)) (fun k : Nat => (l).length - k) 0 (⟨Nat.zero_le _, fun j y hj => absurd hj (by omega)⟩) ⟨ke rfl, trivial⟩ ?_)
 rintro k ⟨hle_k, hinv_k⟩
 refine ac ?_
 refine Tr.cn rfl ?_ ?_ <;> intro h5 q5
 have hk_k : k < (l).length := lt_of_dec h5
 obtain ⟨c, hx_k⟩ := at_ hk_k
 refine ac ?_
 refine ac ?_
 refine co rfl (ok_indexAddr rfl Tryz.underlying25 sz131 (vl rfl) (vl rfl) (by omega) (row_at hx_k)) (co rfl (ok_loadA rfl agg131 sz131 (vl rfl) rfl rfl) (co rfl (kc1 (w_R3CheckG) rfl rfl) ?_))
 refine ac ?_
 refine wk5 1 2 3 7 35 rfl ?_
 refine Tr.cn rfl ?_ ?_ <;> intro h6 q6
 refine ac ?_
 refine ac ?_
 · refine bool_eq ?_; rw [showsB_eq]; unfold ofB keyB; rw [all_hit (p := validB) hx_k (by simp_all)]; simp
 refine ac ?_
 refine ac ?_
 exact Fin.fam_same (k + 1) ⟨⟨hk_k, step_no (p := fun c => !validB c) hx_k (by simp_all) hinv_k⟩, by omega⟩ ⟨⟨_, rfl, int_succ k⟩, ke rfl, ke rfl, ke rfl, trivial⟩
 have he_k : k = (l).length := by have := ge_of_dec h5; omega
 subst he_k
 have hall := all_end hinv_k
 refine ac ?_
 refine ac ?_
 refine Ch.cs 39 rfl ?_ ?_ <;> intro h7 q7
 refine ac ?_
 refine wk1 6 rfl ?_
 refine ac ?_
 · refine bool_eq ?_; rw [showsB_eq]; unfold ofB keyB; rw [hall, headB_nil (by simp_all)]; simp_all
 obtain ⟨c0, hc0⟩ := at_ (l := l) (k := 0) (by have := h7; simp at this; exact List.length_pos_iff.2 this)
 refine cym h7 rfl ?_
 refine cy h7 rfl (ok_indexAddr rfl Tryz.underlying25 sz131 (vl rfl) (vl rfl) (by omega) (row_at (k := 0) hc0)) ?_
 refine ac ?_
 refine cy h7 rfl (ok_eq24 rfl (vl rfl) (vl rfl)) (cym h7 rfl ?_)
 refine Ch.cs 46 rfl ?_ ?_ <;> intro h8 q8
 refine cym h8 rfl ?_
 refine cy h8 rfl (ok_indexAddr rfl Tryz.underlying25 sz131 (vl rfl) (vl rfl) (by omega) (row_at (k := 0) hc0)) ?_
 refine ac ?_
 refine wk1 6 rfl ?_
 refine ac ?_
 · refine bool_eq ?_; rw [showsB_eq]; unfold ofB keyB; rw [hall, headB_at hc0]; clear hall hinv_k hc0; simp_all; omega
 refine ac ?_
 refine wk1 6 rfl ?_
 refine ac ?_
 · refine bool_eq ?_; rw [showsB_eq]; unfold ofB keyB; rw [hall, headB_at hc0]; clear hall hinv_k hc0; simp_all
theorem w_R9Check {e : Ept} (hsm : e.small) : Fun Tryz.prog 77 [agg (rowEp e)] (int (if eptB e then 0 else 19)) := by
 refine fo Tryz.func77 rfl ⟨rfl, rfl⟩ fun M0 w0 => ?_
 have hs3 := hsm.hashes
 clear hsm
 refine ac ?_
 refine ac ?_
 refine co rfl (kc1 (w_R6Word) rfl rfl) ?_
 refine ac ?_
 refine Ch.cs 13 rfl ?_ ?_ <;> intro h1 q1
 refine ac ?_
 refine wk2 1 47 rfl ?_
 refine ac ?_
 refine ac ?_
 · refine int_eq (if_neg (fun hv => ?_)).symm; have ok := eptB_iff.1 hv; have v1 := ok.name; have v2 := ok.least; have v3 := ok.lm; have v4 := ok.most; have v5 := suites_16 ok.suites; have v6 := ok.idl; have v7 := ok.ancl; simp_all
 refine ac ?_
 refine Ch.cs 18 rfl ?_ ?_ <;> intro h2 q2
 refine ac ?_
 refine wk2 1 47 rfl ?_
 refine ac ?_
 refine ac ?_
 · refine int_eq (if_neg (fun hv => ?_)).symm; have ok := eptB_iff.1 hv; have v1 := ok.name; have v2 := ok.least; have v3 := ok.lm; have v4 := ok.most; have v5 := suites_16 ok.suites; have v6 := ok.idl; have v7 := ok.ancl; omega
 refine ac ?_
 refine Ch.cs 25 rfl ?_ ?_ <;> intro h3 q3
 refine ac ?_
 refine wk2 1 47 rfl ?_
 refine ac ?_
 refine ac ?_
 · refine int_eq (if_neg (fun hv => ?_)).symm; have ok := eptB_iff.1 hv; have v1 := ok.name; have v2 := ok.least; have v3 := ok.lm; have v4 := ok.most; have v5 := suites_16 ok.suites; have v6 := ok.idl; have v7 := ok.ancl; omega
 refine ac ?_
 refine Ch.cs 30 rfl ?_ ?_ <;> intro h4 q4
 refine ac ?_
 refine wk2 1 47 rfl ?_
 refine ac ?_
 refine ac ?_
 · refine int_eq (if_neg (fun hv => ?_)).symm; have ok := eptB_iff.1 hv; have v1 := ok.name; have v2 := ok.least; have v3 := ok.lm; have v4 := ok.most; have v5 := suites_16 ok.suites; have v6 := ok.idl; have v7 := ok.ancl; omega
 refine ac ?_
 refine Ch.cs 36 rfl ?_ ?_ <;> intro h5 q5
 refine ac ?_
 refine wk2 1 47 rfl ?_
 refine ac ?_
 refine ac ?_
 · refine int_eq (if_neg (fun hv => ?_)).symm; have ok := eptB_iff.1 hv; have v1 := ok.name; have v2 := ok.least; have v3 := ok.lm; have v4 := ok.most; have v5 := suites_16 ok.suites; have v6 := ok.idl; have v7 := ok.ancl; omega
 refine ac ?_
 refine Ch.cs 42 rfl ?_ ?_ <;> intro h6 q6
 refine ac ?_
 refine wk2 1 47 rfl ?_
 refine ac ?_
 refine ac ?_
 · refine int_eq (if_neg (fun hv => ?_)).symm; have ok := eptB_iff.1 hv; have v1 := ok.name; have v2 := ok.least; have v3 := ok.lm; have v4 := ok.most; have v5 := suites_16 ok.suites; have v6 := ok.idl; have v7 := ok.ancl; omega
 refine ac ?_
 refine wk2 1 47 rfl ?_
 refine Tr.cn rfl ?_ ?_ <;> intro h7 q7
 refine ac ?_
 refine ac ?_
 · refine int_eq (if_neg (fun hv => ?_)).symm; have ok := eptB_iff.1 hv; have v1 := ok.name; have v2 := ok.least; have v3 := ok.lm; have v4 := ok.most; have v5 := suites_16 ok.suites; have v6 := ok.idl; have v7 := ok.ancl; omega
 refine ac ?_
 refine ac ?_
 refine Tr.block (Tr.loopw [(1, _)] ⟨ke rfl, trivial⟩ (fun i : Nat => [(3, int ((i : Nat) : Int))]) (fun i : Nat => i ≤ (e.suites).length ∧ (∀ j, j < i → suiteAt e.suites j = true)) (fun i : Nat => (e.suites).length - i) 0 (⟨Nat.zero_le _, fun j hj => absurd hj (by omega)⟩) ⟨ke rfl, trivial⟩ ?_)
 rintro i ⟨hle_i, hinv_i⟩
 refine ac ?_
 refine Tr.cn rfl ?_ ?_ <;> intro h8 q8
 have hk_i : i < (e.suites).length := lt_of_dec h8
 obtain ⟨x, hx_i⟩ := at_ hk_i
 have hg := getD_at (d := (0 : Int)) hx_i
 refine ac ?_
 refine ao ?_
 refine tp rfl (ok_indexAddr rfl Tryz.underlying22 sz3 (vl rfl) (vl rfl) (by omega) (row_at hx_i)) (tp rfl (kl1 rfl one3 rfl) (tp rfl (kc1 (w_R2Suite) rfl rfl) ?_))
 refine ao ?_
 refine TO.alloc rfl rfl (by decide) rfl z170 zo170 (fun b1 => ?_)
 refine sf 0 4 ⟨rfl, rfl, rfl⟩ rfl rfl rfl rfl ?_
 refine ao ?_
 refine wk3 1 3 5 rfl ?_
 refine ac ?_
 refine Ch.cs 66 rfl ?_ ?_ <;> intro h9 q9
 have hnin : ¬ (1 ≤ x ∧ x ≤ 16) := by intro hh; rw [if_pos hh] at h9; exact absurd h9 (by decide)
 refine ac ?_
 refine wk3 1 3 77 rfl ?_
 refine ac ?_
 refine ac ?_
 · refine int_eq (if_neg (fun hv => ?_)).symm; have ok := eptB_iff.1 hv; have h_ := allI_iff.1 (show allI (suiteAt e.suites) e.suites.length = true from ok.suites) i (by omega); unfold suiteAt at h_; rw [hg] at h_; exact hnin (by simpa using and1 h_)
 have hin : 1 ≤ x ∧ x ≤ 16 := by refine Decidable.byContradiction fun hh => ?_; rw [if_neg hh] at h9; exact absurd h9 (by decide)
 refine ac ?_
 refine cy h9 rfl (ok_sliceTo rfl Tryz.underlying22 sz3 (vl rfl) (vl rfl) (by omega) (by simp; omega)) ?_
 refine ac ?_
 refine cy h9 rfl (ok_indexAddr rfl Tryz.underlying22 sz3 (vl rfl) (vl rfl) (by omega) (row_at hx_i)) (cy h9 rfl (kl1 rfl one3 rfl) ?_)
 refine cy h9 rfl (ok_call rfl (w_R02Has (l := e.suites.take i) (v := x)) ⟨⟨_, rfl, Pr.le_of_eq (by rw [← List.map_take, Int.toNat_natCast])⟩, ke rfl, trivial⟩) ?_
 refine ac ?_
 refine wk3 1 3 77 rfl ?_
 refine Tr.cn rfl ?_ ?_ <;> intro h10 q10
 refine ac ?_
 refine ac ?_
 · refine int_eq (if_neg (fun hv => ?_)).symm; have ok := eptB_iff.1 hv; have h_ := allI_iff.1 (show allI (suiteAt e.suites) e.suites.length = true from ok.suites) i (by omega); unfold suiteAt at h_; rw [hg] at h_; exact absurd (by assumption : ((e.suites.take i).any fun y => x == y) = true) (by have h2 := and2 h_; rw [Bool.not_eq_true'] at h2; rw [h2]; decide)
 refine ac ?_
 refine ac ?_
 exact Fin.fam_same (i + 1) ⟨⟨hk_i, allI_step hinv_i (by unfold suiteAt; rw [hg]; rw [decide_eq_true hin]; simp_all)⟩, by omega⟩ ⟨⟨_, rfl, int_succ i⟩, ke rfl, trivial⟩
 have he_i : i = (e.suites).length := by have := ge_of_dec h8; omega
 subst he_i
 refine ac ?_
 refine ac ?_
 refine Tr.block (Tr.loopw [(1, _)] ⟨ke rfl, trivial⟩ (fun m : Nat => [(6, int ((m : Nat) : Int))]) (fun m : Nat => m ≤ (e.ids).length ∧ (∀ j y, j < m → e.ids[j]? = some y → (!idB y) = false)) (fun m : Nat => (e.ids).length - m) 0 (⟨Nat.zero_le _, fun j y hj => absurd hj (by omega)⟩) ⟨ke rfl, trivial⟩ ?_)
 rintro m ⟨hle_m, hinv_m⟩
 refine ac ?_
 refine Tr.cn rfl ?_ ?_ <;> intro h11 q11
 have hk_m : m < (e.ids).length := lt_of_dec h11
 obtain ⟨x, hx_m⟩ := at_ hk_m
 refine ac ?_
 refine ac ?_
 refine co rfl (ok_indexAddr rfl Tryz.underlying30 sz27 (vl rfl) (vl rfl) (by omega) (row_at hx_m)) ?_
 refine ac ?_
 refine co rfl (ok_indexAddr rfl Tryz.underlying30 sz27 (vl rfl) (vl rfl) (by omega) (row_at hx_m)) ?_
 refine ac ?_
 refine co rfl (ok_indexAddr rfl Tryz.underlying30 sz27 (vl rfl) (vl rfl) (by omega) (row_at hx_m)) ?_
 refine ac ?_
 refine co rfl (kc3 (w_R5Right) rfl rfl rfl rfl) ?_
 refine ac ?_
 refine wk3 1 6 104 rfl ?_
 refine Tr.cn rfl ?_ ?_ <;> intro h12 q12
 refine ac ?_
 refine ac ?_
 · refine int_eq (if_neg (fun hv => ?_)).symm; have ok := eptB_iff.1 hv; have h_ := List.all_eq_true.1 ok.ids x (List.mem_of_getElem? hx_m); unfold idB at h_; simp_all
 refine ac ?_
 refine ac ?_
 exact Fin.fam_same (m + 1) ⟨⟨hk_m, step_no (p := fun c => !idB c) hx_m (by unfold idB; simp_all) hinv_m⟩, by omega⟩ ⟨⟨_, rfl, int_succ m⟩, ke rfl, trivial⟩
 have he_m : m = (e.ids).length := by have := ge_of_dec h11; omega
 subst he_m
 have hall := all_end hinv_m
 refine ac ?_
 refine ac ?_
 refine Tr.block (Tr.loopw [(1, _)] ⟨ke rfl, trivial⟩ (fun o : Nat => [(7, int ((o : Nat) : Int))]) (fun o : Nat => o ≤ (e.anchors).length ∧ (∀ j, j < o → (ascAt e.anchors j && keyB (e.anchors[j]?.getD 0)) = true)) (fun o : Nat => (e.anchors).length - o) 0 (⟨Nat.zero_le _, fun j hj => absurd hj (by omega)⟩) ⟨ke rfl, trivial⟩ ?_)
 rintro o ⟨hle_o, hinv_o⟩
 refine ac ?_
 refine Tr.cn rfl ?_ ?_ <;> intro h13 q13
 have hk_o : o < (e.anchors).length := lt_of_dec h13
 obtain ⟨a, hx_o⟩ := at_ hk_o
 have hg := getD_at (d := (0 : Int)) hx_o
 refine ac ?_
 refine ac ?_
 refine co rfl (ok_indexAddr rfl Tryz.underlying22 sz3 (vl rfl) (vl rfl) (by omega) (row_at hx_o)) ?_
 refine ac ?_
 refine Ch.cs 118 rfl ?_ ?_ <;> intro h14 q14
 refine ac ?_
 refine wk3 1 7 143 rfl ?_
 refine ac ?_
 refine ac ?_
 · refine int_eq (if_neg (fun hv => ?_)).symm; have ok := eptB_iff.1 hv; have h_ := List.all_eq_true.1 ok.keys a (List.mem_of_getElem? hx_o); unfold keyB at h_; simp at h_; omega
 refine ac ?_
 refine cy h14 rfl (ok_indexAddr rfl Tryz.underlying22 sz3 (vl rfl) (vl rfl) (by omega) (row_at hx_o)) ?_
 refine ac ?_
 refine Ch.cs 126 rfl ?_ ?_ <;> intro h15 q15
 refine ac ?_
 refine wk3 1 7 143 rfl ?_
 refine ac ?_
 refine ac ?_
 · refine int_eq (if_neg (fun hv => ?_)).symm; have ok := eptB_iff.1 hv; have h_ := List.all_eq_true.1 ok.keys a (List.mem_of_getElem? hx_o); unfold keyB at h_; simp at h_; omega
 refine ac ?_
 refine Ch.cs 129 rfl ?_ ?_ <;> intro h16 q16
 have hk0 : 0 < o := by simpa using h16
 obtain ⟨y, hy⟩ := at_ (l := e.anchors) (k := o - 1) (by omega)
 have hgy := getD_at (d := (0 : Int)) hy
 refine ac ?_
 refine cy h16 rfl (ok_indexAddr rfl Tryz.underlying22 sz3 (vl rfl) (vl rfl) (by omega) (by rw [show ((o : Nat) : Int) - 1 = ((o - 1 : Nat) : Int) by omega]; exact row_at hy)) ?_
 refine ac ?_
 refine cy h16 rfl (ok_indexAddr rfl Tryz.underlying22 sz3 (vl rfl) (vl rfl) (by omega) (row_at hx_o)) ?_
 refine ac ?_
 refine wk3 1 7 143 rfl ?_
 refine Tr.cn rfl ?_ ?_ <;> intro h17 q17
 refine ac ?_
 refine ac ?_
 · refine int_eq (if_neg (fun hv => ?_)).symm; have ok := eptB_iff.1 hv; have h_ := allI_iff.1 (show allI (ascAt e.anchors) e.anchors.length = true from ok.anc) o (by omega); unfold ascAt at h_; rw [hg, hgy] at h_; simp at h_; omega
 refine ac ?_
 refine ac ?_
 exact Fin.fam_same (o + 1) ⟨⟨hk_o, (fun j hj => by rcases Nat.lt_or_eq_of_le (Nat.le_of_lt_succ hj) with h_ | h_; exact hinv_o j h_; (subst h_; unfold ascAt keyB; rw [hg]; rw [hgy]; simp_all))⟩, by omega⟩ ⟨⟨_, rfl, int_succ o⟩, ke rfl, trivial⟩
 have hk00 : ¬ 0 < o := by simpa using h16
 refine ac ?_
 refine wk3 1 7 143 rfl ?_
 refine ac ?_
 refine ac ?_
 exact Fin.fam_same (o + 1) ⟨⟨hk_o, (fun j hj => by rcases Nat.lt_or_eq_of_le (Nat.le_of_lt_succ hj) with h_ | h_; exact hinv_o j h_; (subst h_; unfold ascAt keyB; rw [hg]; simp_all))⟩, by omega⟩ ⟨⟨_, rfl, int_succ o⟩, ke rfl, trivial⟩
 have he_o : o = (e.anchors).length := by have := ge_of_dec h13; omega
 subst he_o
 refine ac ?_
 refine ac ?_
 refine Tr.block (Tr.loopw [(1, _)] ⟨ke rfl, trivial⟩ (fun q : Nat => [(8, int ((q : Nat) : Int))]) (fun q : Nat => q ≤ (e.hashes).length ∧ (∀ j, j < q → (ascAt e.hashes j && hashB (e.hashes[j]?.getD 0)) = true)) (fun q : Nat => (e.hashes).length - q) 0 (⟨Nat.zero_le _, fun j hj => absurd hj (by omega)⟩) ⟨ke rfl, trivial⟩ ?_)
 rintro q ⟨hle_q, hinv_q⟩
 refine ac ?_
 refine Tr.cn rfl ?_ ?_ <;> intro h18 q18
 have hk_q : q < (e.hashes).length := lt_of_dec h18
 obtain ⟨a, hx_q⟩ := at_ hk_q
 have hg := getD_at (d := (0 : Int)) hx_q
 refine ac ?_
 refine ac ?_
 refine co rfl (ok_indexAddr rfl Tryz.underlying22 sz3 (vl rfl) (vl rfl) (by omega) (row_at hx_q)) (co rfl (kl1 rfl one3 rfl) (co rfl (kc1 (w_RKind) rfl rfl) ?_))
 refine ac ?_
 refine Ch.cs 158 rfl ?_ ?_ <;> intro h19 q19
 refine ac ?_
 refine wk3 1 8 175 rfl ?_
 refine ac ?_
 refine ac ?_
 · refine int_eq (if_neg (fun hv => ?_)).symm; have ok := eptB_iff.1 hv; have h_ := List.all_eq_true.1 ok.hsh a (List.mem_of_getElem? hx_q); unfold hashB at h_; simp_all
 refine ac ?_
 refine Ch.cs 161 rfl ?_ ?_ <;> intro h20 q20
 have hk0 : 0 < q := by simpa using h20
 obtain ⟨y, hy⟩ := at_ (l := e.hashes) (k := q - 1) (by omega)
 have hgy := getD_at (d := (0 : Int)) hy
 refine ac ?_
 refine cy h20 rfl (ok_indexAddr rfl Tryz.underlying22 sz3 (vl rfl) (vl rfl) (by omega) (by rw [show ((q : Nat) : Int) - 1 = ((q - 1 : Nat) : Int) by omega]; exact row_at hy)) ?_
 refine ac ?_
 refine cy h20 rfl (ok_indexAddr rfl Tryz.underlying22 sz3 (vl rfl) (vl rfl) (by omega) (row_at hx_q)) ?_
 refine ac ?_
 refine wk3 1 8 175 rfl ?_
 refine Tr.cn rfl ?_ ?_ <;> intro h21 q21
 refine ac ?_
 refine ac ?_
 · refine int_eq (if_neg (fun hv => ?_)).symm; have ok := eptB_iff.1 hv; have h_ := allI_iff.1 (show allI (ascAt e.hashes) e.hashes.length = true from ok.hash) q (by omega); unfold ascAt at h_; rw [hg, hgy] at h_; simp at h_; omega
 refine ac ?_
 refine ac ?_
 exact Fin.fam_same (q + 1) ⟨⟨hk_q, (fun j hj => by rcases Nat.lt_or_eq_of_le (Nat.le_of_lt_succ hj) with h_ | h_; exact hinv_q j h_; (subst h_; unfold ascAt hashB; rw [hg]; rw [hgy]; simp_all))⟩, by omega⟩ ⟨⟨_, rfl, int_succ q⟩, ke rfl, trivial⟩
 have hk00 : ¬ 0 < q := by simpa using h20
 refine ac ?_
 refine wk3 1 8 175 rfl ?_
 refine ac ?_
 refine ac ?_
 exact Fin.fam_same (q + 1) ⟨⟨hk_q, (fun j hj => by rcases Nat.lt_or_eq_of_le (Nat.le_of_lt_succ hj) with h_ | h_; exact hinv_q j h_; (subst h_; unfold ascAt hashB; rw [hg]; simp_all))⟩, by omega⟩ ⟨⟨_, rfl, int_succ q⟩, ke rfl, trivial⟩
 have he_q : q = (e.hashes).length := by have := ge_of_dec h18; omega
 subst he_q
 refine ac ?_
 refine ac ?_
 refine ac ?_
 · refine int_eq (if_pos (eptB_iff.2 ⟨by simp_all, by omega, by omega, by omega, allI_iff.2 hinv_i, by omega, by omega, allI_iff.2 (fun j hj => and1 (hinv_o j hj)), allI_iff.2 (fun j hj => and1 (hinv_q j hj)), hall, all_at (fun j hj => and2 (hinv_o j hj)), all_at (fun j hj => and2 (hinv_q j hj))⟩)).symm
end Go.Proofs.YtppeeogffbpcbaaGreat
namespace Go.Proofs.YtppeeogffbpcbaaGreat
open Go Go.RowKit Cp

end Go.Proofs.YtppeeogffbpcbaaGreat
