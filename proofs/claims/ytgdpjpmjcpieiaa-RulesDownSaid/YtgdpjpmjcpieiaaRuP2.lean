/- What is down behind a case. No condition. -/
import Derived.Test.YtgdpjpmjcpieiaaRuP
namespace Go.Proofs.Ytgdpjpmjcpieiaa
open Go
set_option linter.unusedVariables false
set_option linter.unusedSimpArgs false
theorem okVs_lt {xs : List Vw} (h : okVs xs = true) : ∀ (j i : Nat) (x y : Vw), i < j → xs[i]? = some x → xs[j]? = some y → x.id < y.id := by
  intro j
  induction j with
  | zero => intro i x y hij; omega
  | succ j ih =>
    intro i x y hij hx hy
    have hj : j + 1 < xs.length := by
      rcases Nat.lt_or_ge (j + 1) xs.length with h1 | h1
      · exact h1
      · rw [List.getElem?_eq_none h1] at hy; cases hy
    obtain ⟨z, hz⟩ := get_of_lt (xs := xs) (i := j) (by omega)
    have h1 := okVs_iff.1 h (j + 1) hj
    rw [rAt_eq hy (by simpa using hz)] at h1
    simp only [Bool.and_eq_true, Bool.or_eq_true, decide_eq_true_eq] at h1
    have hzy : z.id < y.id := h1.2.resolve_left (by omega)
    rcases Nat.lt_or_ge i j with h2 | h2
    · exact Int.lt_trans (ih i x z h2 hx hz) hzy
    · rw [show i = j by omega, hz] at hx
      injection hx with hx
      rw [← hx]; exact hzy
def getV (xs : List Vw) (id : Int) : Option Vw := xs.find? (fun v => decide (v.id = id))
theorem getV_mem {xs : List Vw} (h : okVs xs = true) {x : Vw} (hx : x ∈ xs) : getV xs x.id = some x := by
  unfold getV
  cases hq : xs.find? (fun v => decide (v.id = x.id)) with
  | none =>
    have := List.find?_eq_none.1 hq x hx
    simp at this
  | some y =>
    have hy := List.mem_of_find?_eq_some hq
    have hid : y.id = x.id := by simpa using List.find?_some hq
    obtain ⟨i, hi⟩ := List.getElem?_of_mem hx
    obtain ⟨j, hj⟩ := List.getElem?_of_mem hy
    rcases Nat.lt_trichotomy i j with h1 | h1 | h1
    · have := okVs_lt h j i x y h1 hi hj; omega
    · subst h1; rw [hi] at hj; exact hj.symm
    · have := okVs_lt h i j y x h1 hj hi; omega
def cntV (xs : List Vw) : Nat := (xs.filter (fun x => !x.h.null)).length
theorem two_filters {α : Type} {p q r : α → Bool} : ∀ {l : List α}, (∀ x ∈ l, p x = (q x || r x) ∧ (q x && r x) = false) → (l.filter q).length + (l.filter r).length = (l.filter p).length
  | [], _ => rfl
  | x :: l, h => by
    have ih := two_filters (l := l) fun y hy => h y (List.mem_cons_of_mem _ hy)
    obtain ⟨h1, h2⟩ := h x (List.mem_cons_self ..)
    rw [List.filter_cons, List.filter_cons, List.filter_cons, h1]
    cases hq : q x <;> cases hr : r x <;> simp_all <;> omega
theorem pos_of_mem {α : Type} {l : List α} {x : α} (h : x ∈ l) : 0 < l.length := List.length_pos_of_mem h
theorem least_le {xs : List Vw} {l : Lv} {x : Vw} (hx : x ∈ xs) (ht : toldH x.h = true) (hl : lvlH x.h = l) : leastV xs l ≤ x.h.delta := by
  have key : ∀ (xs : List Vw) (n : Int), xs.foldl (leastStep l) n ≤ n ∧ (x ∈ xs → xs.foldl (leastStep l) n ≤ x.h.delta) := by
    intro xs
    induction xs with
    | nil => exact fun n => ⟨Int.le_refl _, fun h => by cases h⟩
    | cons y r ih =>
      intro n
      rw [List.foldl_cons]
      obtain ⟨h1, h2⟩ := ih (leastStep l n y)
      have h3 : leastStep l n y ≤ n := by
        unfold leastStep
        split
        · rename_i h; simp only [Bool.and_eq_true, decide_eq_true_eq] at h; omega
        · exact Int.le_refl _
      refine ⟨Int.le_trans h1 h3, fun h => ?_⟩
      rcases List.mem_cons.1 h with rfl | h
      · refine Int.le_trans h1 ?_
        unfold leastStep
        rw [ht, hl]
        simp only [decide_true, Bool.and_true, Bool.true_and, decide_eq_true_eq]
        split <;> omega
      · exact h2 h
  exact (key xs _).2 hx
section
variable {own : Ht} {xs : List Vw} {now : Int} {lost : Bool} {h : Ht} {c : Int}
theorem all_down (hv : okVs xs = true) (hh : toldH h = true) (ha : ∀ x ∈ xs, toldH x.h = true → ltH x.h h) (hne : levelsV xs ≠ []) : (someV h 1 xs).length = cntV xs ∧ 0 < cntV xs := by
  have e : someV h 1 xs = xs.filter (fun x => !x.h.null) := by
    unfold someV
    refine List.filter_congr fun x hx => ?_
    rw [← (okVs_id hv hx).2]
    cases ht : toldH x.h with
    | false => simp [dirH, ht]
    | true => exact decide_eq_true ((dir_down hh).2 ((lessH_iff _ _).2 ⟨ht, hh, ha x hx ht⟩))
  refine ⟨by rw [e]; rfl, ?_⟩
  obtain ⟨x, hx, ht, _⟩ := level_mem.1 (topL_mem hne)
  refine pos_of_mem (x := x) (List.mem_filter.2 ⟨hx, ?_⟩)
  rw [← (okVs_id hv hx).2]; exact ht
theorem down_gen (hv : okVs xs = true) (hi : CaseIs own xs now lost h c) (hc : c = 1 ∨ c = 5) (hl : lateV now own xs = true) : (someV h 1 xs).length = cntV xs ∧ 0 < cntV xs := by
  cases hi with
  | gen h1 h2 h3 h4 h5 h6 =>
    refine all_down hv (by rw [h1] at h3 ⊢; exact told_gen h3) (fun x hx ht => .inl (.inl ?_)) h4
    simp only [lateV, Bool.and_eq_true, List.all_eq_true, decide_eq_true_eq] at hl
    rw [h1]; exact hl.1 x hx
  | _ => omega
theorem down_refl (hv : okVs xs = true) (hi : CaseIs own xs now lost h c) (hc : c = 3) : (someV h 1 xs).length = cntV xs ∧ 0 < cntV xs := by
  cases hi with
  | refl h1 h2 h3 h4 h5 h6 h7 =>
    refine all_down hv (by rw [h1] at h3 ⊢; exact told_at h3) (fun x hx ht => .inl ?_) (by rw [h4]; simp)
    have hm : lvH x.h ∈ levelsV xs := level_mem.2 ⟨x, hx, ht, rfl⟩
    rw [h4, List.mem_singleton] at hm
    rw [hm, h1]
    exact .inr ⟨rfl, .inr ⟨rfl, by rw [h5]; exact Int.zero_lt_one⟩⟩
  | _ => omega
theorem down_prop (hv : okVs xs = true) (hi : CaseIs own xs now lost h c) (hc : c = 2) :
    (∀ x ∈ someV h 2 xs, lvlH x.h = topL xs) ∧ 0 < (someV h 1 xs).length ∧ 0 < (someV h 2 xs).length ∧ (someV h 1 xs).length + (someV h 2 xs).length = cntV xs ∧ 0 < (levelsV xs).length := by
  cases hi with
  | prop h1 h2 h3 h4 h5 h6 =>
    have hh : toldH h = true := by rw [h1] at h3 ⊢; exact told_at h3
    have hlv : lvH h = topL xs := by rw [h1]; rfl
    have lo : ∀ x ∈ xs, toldH x.h = true → ltL (lvH x.h) (topL xs) → dirH h x.h = 1 := fun x hx ht hlt => (dir_down hh).2 ((lessH_iff _ _).2 ⟨ht, hh, .inl (by rw [hlv]; exact hlt)⟩)
    have hi' : ∀ x ∈ xs, toldH x.h = true → lvH x.h = topL xs → dirH h x.h = 2 := fun x hx ht he => (dir_up hh).2 ((lessH_iff _ _).2 ⟨hh, ht, .inr ⟨by rw [hlv, he], .inl (by
      have := least_le hx ht ((lvlH_told ht).trans he)
      rw [h1]
      show leastV xs (topL xs) - 1 < x.h.delta
      omega)⟩⟩)
    have each : ∀ x ∈ xs, toldH x.h = true → (ltL (lvH x.h) (topL xs) ∨ lvH x.h = topL xs) := fun x hx ht => topL_max (level_mem.2 ⟨x, hx, ht, rfl⟩)
    have hne : levelsV xs ≠ [] := by intro e; rw [e] at h4; simp at h4
    refine ⟨fun x hx => ?_, ?_, ?_, ?_, by omega⟩
    · simp only [someV, List.mem_filter, decide_eq_true_eq] at hx
      have ht : toldH x.h = true := by
        cases hq : toldH x.h with
        | true => rfl
        | false => rw [dirH, hq] at hx; simp at hx
      rw [lvlH_told ht]
      rcases each x hx.1 ht with h7 | h7
      · rw [lo x hx.1 ht h7] at hx; omega
      · exact h7
    · obtain ⟨x, hx, ht, hlt⟩ := two_levels h4
      exact pos_of_mem (x := x) (List.mem_filter.2 ⟨hx, decide_eq_true (lo x hx ht hlt)⟩)
    · obtain ⟨x, hx, ht, he⟩ := level_mem.1 (topL_mem hne)
      exact pos_of_mem (x := x) (List.mem_filter.2 ⟨hx, decide_eq_true (hi' x hx ht he)⟩)
    · refine two_filters fun x hx => ?_
      rw [← (okVs_id hv hx).2]
      cases ht : toldH x.h with
      | false => simp [dirH, ht]
      | true =>
        rcases each x hx ht with h7 | h7
        · rw [lo x hx ht h7]; decide
        · rw [hi' x hx ht h7]; decide
  | _ => omega
theorem down_null (hv : okVs xs = true) (hi : CaseIs own xs now lost h c) (hc : c = 4 ∨ c = 6) : h = nullH own.id ∧ (c = 4 ↔ 0 < cntV xs) := by
  have hcnt : levelsV xs ≠ [] ↔ 0 < cntV xs := by
    constructor
    · intro hne
      obtain ⟨x, hx, ht, _⟩ := level_mem.1 (topL_mem hne)
      refine pos_of_mem (x := x) (List.mem_filter.2 ⟨hx, ?_⟩)
      rw [← (okVs_id hv hx).2]; exact ht
    · intro hp hne
      obtain ⟨x, hx⟩ := List.exists_mem_of_length_pos hp
      obtain ⟨h1, h2⟩ := List.mem_filter.1 hx
      have : lvH x.h ∈ levelsV xs := level_mem.2 ⟨x, h1, by rw [(okVs_id hv h1).2]; exact h2, rfl⟩
      rw [hne] at this; cases this
  cases hi with
  | alone h1 h2 h3 =>
    refine ⟨h1, ⟨fun h => by omega, fun hp => ?_⟩⟩
    exact absurd h3 (hcnt.2 hp)
  | detect h1 h2 h3 h4 h5 h6 => exact ⟨h1, ⟨fun _ => hcnt.1 (by rw [h3]; simp), fun _ => h2⟩⟩
  | _ => omega
theorem case_range (hi : CaseIs own xs now lost h c) : c = 0 ∨ c = 1 ∨ c = 2 ∨ c = 3 ∨ c = 4 ∨ c = 5 ∨ c = 6 := by cases hi <;> omega
theorem case_stay (hi : CaseIs own xs now lost h c) (hc : c = 0) : h = own ∧ (own.null = true ∨ 0 < (someV own 1 xs).length) := by
  cases hi with
  | stay h1 h2 h3 => exact ⟨h1, h3⟩
  | _ => omega
end
end Go.Proofs.Ytgdpjpmjcpieiaa
