/- What maintenance and adoption keep to: heights rise, and what is down then. No condition. -/
import Derived.Test.YtgdpjpmjcpieiaaCsP
namespace Go.Proofs.Ytgdpjpmjcpieiaa
open Go
set_option linter.unusedVariables false
set_option linter.unusedSimpArgs false
def lvH (h : Ht) : Lv := ⟨h.tau, h.oid, h.r⟩
theorem lvlH_told {h : Ht} (ht : toldH h = true) : lvlH h = lvH h := by simp [lvlH, ht, lvH]
def ltH (a b : Ht) : Prop := ltL (lvH a) (lvH b) ∨ (lvH a = lvH b ∧ (a.delta < b.delta ∨ (a.delta = b.delta ∧ a.id < b.id)))
theorem lessH_iff (a b : Ht) : lessH a b = true ↔ toldH a = true ∧ toldH b = true ∧ ltH a b := by
  unfold lessH
  rw [Bool.and_eq_true, Bool.and_eq_true, decide_eq_true_eq, and_assoc]
  refine and_congr_right fun ha => and_congr_right fun hb => ?_
  rw [lvlH_told ha, lvlH_told hb]
  unfold ltH
  rw [← ordL_lt, ← ordL_eq]
  simp only [orI, cmpI]
  grind
theorem ltH.irr (a : Ht) : ¬ ltH a a := by
  unfold ltH; have := ltL.irr (lvH a); grind
theorem ltH.trans {a b c : Ht} (h : ltH a b) (h' : ltH b c) : ltH a c := by
  unfold ltH at *
  rcases h with h | ⟨h1, h2⟩
  · rcases h' with h' | ⟨h3, _⟩
    · exact .inl (h.trans h')
    · exact .inl (h3 ▸ h)
  · rcases h' with h' | ⟨h3, h4⟩
    · exact .inl (h1 ▸ h')
    · exact .inr ⟨h1.trans h3, by omega⟩
theorem ltH.tri {a b : Ht} (h : a.id ≠ b.id) : ltH a b ∨ ltH b a := by
  unfold ltH
  rcases ltL.tri (lvH a) (lvH b) with h1 | h1 | h1
  · exact .inl (.inl h1)
  · have : a.delta < b.delta ∨ (a.delta = b.delta ∧ a.id < b.id) ∨ b.delta < a.delta ∨ (b.delta = a.delta ∧ b.id < a.id) := by omega
    rcases this with h2 | h2 | h2 | h2
    · exact .inl (.inr ⟨h1, .inl h2⟩)
    · exact .inl (.inr ⟨h1, .inr h2⟩)
    · exact .inr (.inr ⟨h1.symm, .inl h2⟩)
    · exact .inr (.inr ⟨h1.symm, .inr h2⟩)
  · exact .inr (.inl h1)
theorem ltH.lv {a b : Ht} (h : ltH a b) : ltL (lvH a) (lvH b) ∨ lvH a = lvH b := by
  unfold ltH at h; rcases h with h | ⟨h, _⟩
  · exact .inl h
  · exact .inr h
/-- which way, among told ones -/
theorem dir_down {own h : Ht} (ho : toldH own = true) : dirH own h = 1 ↔ lessH h own = true := by
  have hx : lessH h own = true → toldH h = true := fun h1 => ((lessH_iff _ _).1 h1).1
  unfold dirH
  cases h1 : toldH h <;> cases h2 : lessH h own <;> cases h3 : lessH own h <;> simp_all
theorem dir_up {own h : Ht} (ho : toldH own = true) : dirH own h = 2 ↔ lessH own h = true := by
  have hx : lessH h own = true → lessH own h = true → False := fun h1 h2 => by
    rw [lessH_iff] at h1 h2
    exact ltH.irr _ (h1.2.2.trans h2.2.2)
  have hy : lessH own h = true → toldH h = true := fun h1 => ((lessH_iff _ _).1 h1).2.1
  unfold dirH
  cases h1 : toldH h <;> cases h2 : lessH h own <;> cases h3 : lessH own h <;> simp_all
def lateV (now : Int) (own : Ht) (xs : List Vw) : Bool := xs.all (fun x => decide (x.h.tau < now)) && decide (own.tau < now)
theorem told_gen {now me : Int} (h : okH (genT now me) = true) : toldH (genT now me) = true := by rw [toldH, h]; rfl
theorem told_at {l : Lv} {d i : Int} (h : okH (atH l d i) = true) : toldH (atH l d i) = true := by rw [toldH, h]; rfl
theorem errA_ok {b : Bool} (h : errA b = 0) : b = true := by cases b <;> simp [errA] at h ⊢
/-- how a case comes about -/
inductive CaseIs (own : Ht) (xs : List Vw) (now : Int) (lost : Bool) (h : Ht) (c : Int) : Prop
  | stay (h1 : h = own) (h2 : c = 0) (h3 : own.null = true ∨ 0 < (someV own 1 xs).length)
  | alone (h1 : h = nullH own.id) (h2 : c = 6) (h3 : levelsV xs = [])
  | gen (h1 : h = genT now own.id) (h2 : c = 1 ∨ c = 5) (h3 : okH h = true) (h4 : levelsV xs ≠ []) (h5 : own.null = false) (h6 : someV own 1 xs = [])
  | prop (h1 : h = atH (topL xs) (leastV xs (topL xs) - 1) own.id) (h2 : c = 2) (h3 : okH h = true) (h4 : 1 < (levelsV xs).length) (h5 : own.null = false) (h6 : someV own 1 xs = [])
  | refl (h1 : h = atH ⟨(topL xs).tau, (topL xs).oid, 1⟩ 0 own.id) (h2 : c = 3) (h3 : okH h = true) (h4 : levelsV xs = [topL xs]) (h5 : (topL xs).r = 0) (h6 : own.null = false) (h7 : someV own 1 xs = [])
  | detect (h1 : h = nullH own.id) (h2 : c = 4) (h3 : levelsV xs = [topL xs]) (h4 : (topL xs).oid = own.id) (h5 : own.null = false) (h6 : someV own 1 xs = [])
theorem topL_one {xs : List Vw} (h1 : levelsV xs ≠ []) (h2 : ¬ 1 < (levelsV xs).length) : levelsV xs = [topL xs] := by
  unfold topL
  match hq : levelsV xs with
  | [] => exact absurd hq h1
  | [a] => rfl
  | a :: b :: r => rw [hq] at h2; simp at h2
theorem case_is {own : Ht} {xs : List Vw} {now : Int} {lost : Bool} {h : Ht} {c e : Int} (hc : caseV own xs now lost = (h, c, e)) (he : e = 0) : okCase own xs now = true ∧ CaseIs own xs now lost h c := by
  unfold caseV at hc
  cases hok : okCase own xs now with
  | false => rw [hok] at hc; simp at hc; omega
  | true =>
    refine ⟨rfl, ?_⟩
    rw [hok] at hc
    simp only [Bool.not_true, Bool.false_eq_true, if_false] at hc
    by_cases h0 : ruleIs own xs lost 0 = true
    · rw [if_pos h0] at hc
      simp [ruleAt, caseAt, ruleSays, ruleNo] at hc
      exact .stay hc.1.symm hc.2.1.symm (by simpa [ruleIs] using h0)
    rw [if_neg h0] at hc
    have hn : own.null = false ∧ someV own 1 xs = [] := by simpa [ruleIs] using h0
    by_cases h1 : ruleIs own xs lost 1 = true
    · rw [if_pos h1] at hc
      simp [ruleAt, caseAt, ruleSays, ruleNo] at hc
      exact .alone hc.1.symm hc.2.1.symm (by simpa [ruleIs] using h1)
    rw [if_neg h1] at hc
    have hl : levelsV xs ≠ [] := by simpa [ruleIs] using h1
    by_cases h2 : ruleIs own xs lost 2 = true
    · rw [if_pos h2] at hc
      simp only [ruleAt, caseAt, ruleSays, ruleNo, genO, Prod.mk.injEq] at hc
      obtain ⟨g1, g2, g3⟩ := hc
      rw [he] at g3
      have hk := errA_ok g3
      rw [g3] at g1 g2
      simp only [if_true, hk] at g1 g2
      exact .gen g1.symm (.inl g2.symm) (g1 ▸ hk) hl hn.1 hn.2
    rw [if_neg h2] at hc
    by_cases h3 : ruleIs own xs lost 3 = true
    · rw [if_pos h3] at hc
      simp only [ruleAt, caseAt, ruleSays, ruleNo, atO, Prod.mk.injEq] at hc
      obtain ⟨g1, g2, g3⟩ := hc
      rw [he] at g3
      have hk := errA_ok g3
      rw [g3] at g1 g2
      simp only [if_true, hk] at g1 g2
      exact .prop g1.symm g2.symm (g1 ▸ hk) (by simpa [ruleIs] using h3) hn.1 hn.2
    rw [if_neg h3] at hc
    have ht := topL_one hl (by simpa [ruleIs] using h3)
    by_cases h4 : ruleIs own xs lost 4 = true
    · rw [if_pos h4] at hc
      simp only [ruleAt, caseAt, ruleSays, ruleNo, atO, Prod.mk.injEq] at hc
      obtain ⟨g1, g2, g3⟩ := hc
      rw [he] at g3
      have hk := errA_ok g3
      rw [g3] at g1 g2
      simp only [if_true, hk] at g1 g2
      exact .refl g1.symm g2.symm (g1 ▸ hk) ht (by simpa [ruleIs] using h4) hn.1 hn.2
    rw [if_neg h4] at hc
    by_cases h5 : ruleIs own xs lost 5 = true
    · rw [if_pos h5] at hc
      simp [ruleAt, caseAt, ruleSays, ruleNo] at hc
      exact .detect hc.1.symm hc.2.1.symm ht (by simpa [ruleIs] using h5) hn.1 hn.2
    rw [if_neg h5] at hc
    simp only [ruleAt, caseAt, ruleSays, ruleNo, genO, Prod.mk.injEq] at hc
    obtain ⟨g1, g2, g3⟩ := hc
    rw [he] at g3
    have hk := errA_ok g3
    rw [g3] at g1 g2
    simp only [if_true, hk] at g1 g2
    exact .gen g1.symm (.inr g2.symm) (g1 ▸ hk) hl hn.1 hn.2
theorem caseV_err {own : Ht} {xs : List Vw} {now : Int} {lost : Bool} {h : Ht} {c e : Int} (hc : caseV own xs now lost = (h, c, e)) (he : e ≠ 0) : c = 0 := by
  unfold caseV at hc
  have key : ∀ i, ruleAt own xs now i = (h, c, e) → c = 0 := fun i hi => by
    simp only [ruleAt, caseAt, Prod.mk.injEq] at hi
    obtain ⟨g1, g2, g3⟩ := hi
    rw [if_neg (by rw [g3]; exact he)] at g2
    exact g2.symm
  repeat (first | (split at hc; first | (simp at hc; omega) | exact key _ hc | skip) | exact key _ hc)
/-- P19.3: the levels -/
theorem level_mem {xs : List Vw} {v : Lv} : v ∈ levelsV xs ↔ ∃ x ∈ xs, toldH x.h = true ∧ lvH x.h = v := by
  rw [levelsV_mem]
  simp only [lvlsV, List.mem_map, List.mem_filter]
  constructor
  · rintro ⟨x, ⟨h1, h2⟩, h3⟩
    exact ⟨x, h1, h2, by rw [← lvlH_told h2]; exact h3⟩
  · rintro ⟨x, h1, h2, h3⟩
    exact ⟨x, ⟨h1, h2⟩, by rw [lvlH_told h2]; exact h3⟩
theorem topL_mem {xs : List Vw} (h : levelsV xs ≠ []) : topL xs ∈ levelsV xs := by
  unfold topL
  rw [List.getLastD_eq_getLast?, List.getLast?_eq_some_getLast h]
  exact List.getLast_mem h
theorem topL_max {xs : List Vw} {v : Lv} (h : v ∈ levelsV xs) : ltL v (topL xs) ∨ v = topL xs := by
  have hne : levelsV xs ≠ [] := List.ne_nil_of_mem h
  have hs := levelsV_SS xs
  have hd : levelsV xs = (levelsV xs).dropLast ++ [topL xs] := by
    unfold topL
    rw [List.getLastD_eq_getLast?, List.getLast?_eq_some_getLast hne]
    exact (List.dropLast_concat_getLast hne).symm
  rw [hd] at h hs
  rcases List.mem_append.1 h with h1 | h1
  · have := (List.pairwise_append.1 hs).2.2 v h1 (topL xs) (List.mem_singleton_self _)
    exact .inl this
  · exact .inr (List.mem_singleton.1 h1)
theorem someV_none {own : Ht} {xs : List Vw} (ho : toldH own = true) (h : someV own 1 xs = []) {x : Vw} (hx : x ∈ xs) (ht : toldH x.h = true) (hid : x.h.id ≠ own.id) : ltH own x.h := by
  rcases ltH.tri (a := own) (b := x.h) (fun e => hid e.symm) with h1 | h1
  · exact h1
  · exfalso
    have : x ∈ someV own 1 xs := by
      simp only [someV, List.mem_filter, decide_eq_true_eq]
      exact ⟨hx, (dir_down ho).2 ((lessH_iff _ _).2 ⟨ht, ho, h1⟩)⟩
    rw [h] at this; cases this
theorem two_levels {xs : List Vw} (h : 1 < (levelsV xs).length) : ∃ x ∈ xs, toldH x.h = true ∧ ltL (lvH x.h) (topL xs) := by
  have hs := levelsV_SS xs
  match hq : levelsV xs with
  | [] => rw [hq] at h; simp at h
  | [a] => rw [hq] at h; simp at h
  | a :: b :: r =>
    have hm : a ∈ levelsV xs := by rw [hq]; exact List.mem_cons_self ..
    obtain ⟨x, h1, h2, h3⟩ := level_mem.1 hm
    refine ⟨x, h1, h2, ?_⟩
    rw [h3]
    rcases topL_max hm with h4 | h4
    · exact h4
    · exfalso
      have htm : topL xs ∈ b :: r := by
        unfold topL
        rw [hq, List.getLastD_eq_getLast?, List.getLast?_cons_cons, List.getLast?_eq_some_getLast (by simp)]
        exact List.getLast_mem _
      rw [hq] at hs
      exact ltL.irr _ (h4 ▸ (List.pairwise_cons.1 hs).1 _ htm)
theorem okVs_id {xs : List Vw} (h : okVs xs = true) {x : Vw} (hx : x ∈ xs) : x.h.id = x.id ∧ toldH x.h = !x.h.null := by
  obtain ⟨i, hi⟩ := List.getElem?_of_mem hx
  have h1 := okVs_at h hi
  simp only [okV, decide_eq_true_eq] at h1
  exact ⟨h1.2.2.1, okVs_told h hi⟩
section
variable {own : Ht} {xs : List Vw} {now : Int} {lost : Bool} {h : Ht} {c e : Int}
theorem okCase_is (hok : okCase own xs now = true) : okH own = true ∧ okVs xs = true := by
  simp only [okCase, Bool.and_eq_true] at hok; exact hok.1
theorem rise_case (hc : caseV own xs now lost = (h, c, e)) (he : e = 0) (hid : ∀ x ∈ xs, x.id ≠ own.id) (h0 : c ≠ 0) (hn : h.null = false) (hl : lateV now own xs = true) : lessH own h = true := by
  obtain ⟨hok, hi⟩ := case_is hc he
  obtain ⟨ho, hv⟩ := okCase_is hok
  simp only [lateV, Bool.and_eq_true, decide_eq_true_eq] at hl
  have below : own.null = false → someV own 1 xs = [] → ∀ x ∈ xs, toldH x.h = true → toldH own = true ∧ ltH own x.h := fun h1 h2 x hx ht =>
    have h3 : toldH own = true := by simp [toldH, ho, h1]
    ⟨h3, someV_none h3 h2 hx ht (by rw [(okVs_id hv hx).1]; exact hid x hx)⟩
  cases hi with
  | stay h1 h2 _ => exact absurd h2 h0
  | alone h1 _ _ => rw [h1] at hn; simp [nullH] at hn
  | detect h1 _ _ _ _ _ => rw [h1] at hn; simp [nullH] at hn
  | gen h1 h2 h3 h4 h5 h6 =>
    rw [lessH_iff]
    refine ⟨by simp [toldH, ho, h5], by rw [h1] at h3 ⊢; exact told_gen h3, .inl ?_⟩
    rw [h1]; exact .inl hl.2
  | prop h1 h2 h3 h4 h5 h6 =>
    obtain ⟨x, hx, ht, hlt⟩ := two_levels h4
    obtain ⟨h7, h8⟩ := below h5 h6 x hx ht
    rw [lessH_iff]
    refine ⟨h7, by rw [h1] at h3 ⊢; exact told_at h3, .inl ?_⟩
    rw [h1]
    show ltL (lvH own) (topL xs)
    rcases h8.lv with h9 | h9
    · exact h9.trans hlt
    · rw [h9]; exact hlt
  | refl h1 h2 h3 h4 h5 h6 h7 =>
    obtain ⟨x, hx, ht, hlt⟩ := level_mem.1 (topL_mem (xs := xs) (by rw [h4]; simp))
    obtain ⟨h8, h9⟩ := below h6 h7 x hx ht
    rw [lessH_iff]
    refine ⟨h8, by rw [h1] at h3 ⊢; exact told_at h3, .inl ?_⟩
    rw [h1]
    show ltL (lvH own) ⟨(topL xs).tau, (topL xs).oid, 1⟩
    have hup : ltL (topL xs) ⟨(topL xs).tau, (topL xs).oid, 1⟩ := .inr ⟨rfl, .inr ⟨rfl, by rw [h5]; exact Int.zero_lt_one⟩⟩
    rcases h9.lv with h9 | h9
    · rw [hlt] at h9; exact h9.trans hup
    · rw [h9, hlt]; exact hup
theorem rise_adopt {me f : Int} {g : Ht} (ha : adoptR xs me = (g, f)) (hf : f = 0) : (lowV xs).isSome = true ∧ lessH ((lowV xs).getD z0V).h g = true ∧ g.id = me ∧ lvlH g = lvlH ((lowV xs).getD z0V).h ∧ g.delta = ((lowV xs).getD z0V).h.delta + 1 := by
  unfold adoptR at ha
  split at ha
  · simp at ha; omega
  · split at ha
    · simp at ha; omega
    · rename_i h1
      cases hq : lowV xs with
      | none => rw [hq] at h1; simp at h1
      | some x =>
        have ht := lowV_told hq
        simp only [Prod.mk.injEq] at ha
        obtain ⟨g1, g2⟩ := ha
        rw [hf] at g2
        have hk := errA_ok g2
        rw [hk] at g1
        simp only [if_true] at g1
        have hg : g = atH (lvH x.h) (x.h.delta + 1) me := by rw [← g1, adoptT, hq]; simp [lvlH_told ht]
        have htg : toldH g = true := by rw [← g1] at hg ⊢; exact told_at hk
        refine ⟨rfl, ?_, by rw [hg]; rfl, ?_, by rw [hg]; rfl⟩
        · rw [lessH_iff]
          refine ⟨by simpa using ht, htg, .inr ⟨by rw [hg]; rfl, .inl ?_⟩⟩
          rw [hg]; simp only [atH, Option.getD_some]; omega
        · rw [lvlH_told htg]
          simp only [Option.getD_some, lvlH_told ht]
          rw [hg]; rfl
end
end Go.Proofs.Ytgdpjpmjcpieiaa
