/- What maintenance says of a height, of views, of a time. No condition. -/
import Derived.Test.YtgdpjpmjcpieiaaL3
namespace Go.Proofs.Ytgdpjpmjcpieiaa
open Go
set_option linter.unusedVariables false
set_option linter.unusedSimpArgs false
def topL (xs : List Vw) : Lv := (levelsV xs).getLastD ⟨0, 0, 0⟩
def atO (l : Lv) (d i : Int) : Ht × Int := (if okH (atH l d i) then atH l d i else z0H, errA (okH (atH l d i)))
def genO (now me : Int) : Ht × Int := (if okH (genT now me) then genT now me else z0H, errA (okH (genT now me)))
def caseAt (p : Ht × Int) (c : Int) : Ht × Int × Int := (if p.2 = 0 then p.1 else z0H, if p.2 = 0 then c else 0, p.2)
def okCase (own : Ht) (xs : List Vw) (now : Int) : Bool := okH own && okVs xs && decide (0 ≤ now ∧ now ≤ 4611686018427387903)
def ruleIs (own : Ht) (xs : List Vw) (lost : Bool) : Nat → Bool
  | 0 => own.null || decide (0 < (someV own 1 xs).length)
  | 1 => decide ((levelsV xs).length = 0)
  | 2 => lost
  | 3 => decide (1 < (levelsV xs).length)
  | 4 => decide ((topL xs).r = 0)
  | 5 => decide ((topL xs).oid = own.id)
  | _ => true
def ruleSays (own : Ht) (xs : List Vw) (now : Int) : Nat → Ht × Int
  | 0 => (own, 0)
  | 1 => (nullH own.id, 0)
  | 2 => genO now own.id
  | 3 => atO (topL xs) (leastV xs (topL xs) - 1) own.id
  | 4 => atO ⟨(topL xs).tau, (topL xs).oid, 1⟩ 0 own.id
  | 5 => (nullH own.id, 0)
  | _ => genO now own.id
def ruleNo : Nat → Int
  | 0 => 0
  | 1 => 6
  | 2 => 1
  | 3 => 2
  | 4 => 3
  | 5 => 4
  | _ => 5
def ruleAt (own : Ht) (xs : List Vw) (now : Int) (i : Nat) : Ht × Int × Int := caseAt (ruleSays own xs now i) (ruleNo i)
/-- P19.2 -/
def caseV (own : Ht) (xs : List Vw) (now : Int) (lost : Bool) : Ht × Int × Int :=
  if !okCase own xs now then (z0H, 0, 1)
  else if ruleIs own xs lost 0 then ruleAt own xs now 0
  else if ruleIs own xs lost 1 then ruleAt own xs now 1
  else if ruleIs own xs lost 2 then ruleAt own xs now 2
  else if ruleIs own xs lost 3 then ruleAt own xs now 3
  else if ruleIs own xs lost 4 then ruleAt own xs now 4
  else if ruleIs own xs lost 5 then ruleAt own xs now 5
  else ruleAt own xs now 6
theorem case_rule {own : Ht} {xs : List Vw} {now : Int} {lost : Bool} {i : Nat} (hok : okCase own xs now = true) (hi : i < 7) (hf : ∀ j, j < i → ruleIs own xs lost j = false) (ht : ruleIs own xs lost i = true) : caseV own xs now lost = ruleAt own xs now i := by
  unfold caseV
  rw [hok]
  match i, hi with
  | 0, _ => simp [ht]
  | 1, _ => simp [hf 0 (by omega), ht]
  | 2, _ => simp [hf 0 (by omega), hf 1 (by omega), ht]
  | 3, _ => simp [hf 0 (by omega), hf 1 (by omega), hf 2 (by omega), ht]
  | 4, _ => simp [hf 0 (by omega), hf 1 (by omega), hf 2 (by omega), hf 3 (by omega), ht]
  | 5, _ => simp [hf 0 (by omega), hf 1 (by omega), hf 2 (by omega), hf 3 (by omega), hf 4 (by omega), ht]
  | 6, _ => simp [hf 0 (by omega), hf 1 (by omega), hf 2 (by omega), hf 3 (by omega), hf 4 (by omega), hf 5 (by omega)]
theorem upto {f : Nat → Bool} {i : Nat} (h : ∀ j, j < i → f j = false) (hi : f i = false) : ∀ j, j < i + 1 → f j = false := fun j hj => by
  rcases Nat.lt_or_ge j i with h1 | h1
  · exact h j h1
  · rw [show j = i by omega]; exact hi
theorem upto0 {f : Nat → Bool} : ∀ j, j < 0 → f j = false := fun j hj => by omega
theorem leastV_range (xs : List Vw) (l : Lv) : -1099511627776 ≤ leastV xs l ∧ leastV xs l ≤ 1099511627776 := by
  have key : ∀ (xs : List Vw) (n : Int), -1099511627776 ≤ n → n ≤ 1099511627776 → -1099511627776 ≤ xs.foldl (leastStep l) n ∧ xs.foldl (leastStep l) n ≤ 1099511627776 := by
    intro xs
    induction xs with
    | nil => exact fun n h1 h2 => ⟨h1, h2⟩
    | cons x r ih =>
      intro n h1 h2
      rw [List.foldl_cons]
      refine ih _ ?_ ?_ <;> unfold leastStep
      · split
        · rename_i h
          simp only [Bool.and_eq_true, toldH, okH, Bool.not_eq_true', decide_eq_true_eq] at h
          obtain ⟨⟨⟨⟨_, _, h3⟩, h4⟩, _⟩, _⟩ := h
          rw [h4] at h3
          simp at h3
          omega
        · exact h1
      · split
        · rename_i h
          simp only [Bool.and_eq_true, decide_eq_true_eq] at h
          omega
        · exact h2
  exact key xs _ (by decide) (by decide)
theorem topL_at {xs : List Vw} {y : Lv} (h : (levelsV xs)[(levelsV xs).length - 1]? = some y) : topL xs = y := by
  unfold topL
  rw [List.getLastD_eq_getLast?, List.getLast?_eq_getElem?, h]; rfl
theorem topL_nil {xs : List Vw} (h : (levelsV xs).length = 0) : topL xs = ⟨0, 0, 0⟩ := by
  unfold topL
  rw [List.eq_nil_of_length_eq_zero h]; rfl
abbrev caseOut (r : Ht × Int × Int) : Value := .tuple #[.agg (Ht.cells r.1).toArray, .int .i64 r.2.1, .int .i64 r.2.2]
end Go.Proofs.Ytgdpjpmjcpieiaa
