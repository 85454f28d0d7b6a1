/- Levels: rows of them, rising, each once. No condition. -/
import Derived.Test.YtgdpjpmjcpieiaaPure
import Derived.Sort.Statements
namespace Go.Proofs.Ytgdpjpmjcpieiaa
open Go
set_option linter.unusedVariables false
set_option linter.unusedSimpArgs false
def ltL (a b : Lv) : Prop := a.tau < b.tau ∨ (a.tau = b.tau ∧ (a.oid < b.oid ∨ (a.oid = b.oid ∧ a.r < b.r)))
theorem ordL_lt (a b : Lv) : ordL a b < 0 ↔ ltL a b := by
  simp only [ordL, orI, cmpI, ltL]; grind
theorem ordL_gt (a b : Lv) : 0 < ordL a b ↔ ltL b a := by
  simp only [ordL, orI, cmpI, ltL]; grind
theorem ordL_eq (a b : Lv) : ordL a b = 0 ↔ a = b := by
  rw [Lv.ext']; simp only [ordL, orI, cmpI]; grind
theorem ltL.irr (a : Lv) : ¬ ltL a a := by simp [ltL]
theorem ltL.trans {a b c : Lv} (h : ltL a b) (h' : ltL b c) : ltL a c := by simp only [ltL] at *; omega
theorem ltL.tri (a b : Lv) : ltL a b ∨ a = b ∨ ltL b a := by rw [Lv.ext']; simp only [ltL]; omega
theorem ltL.asym {a b : Lv} (h : ltL a b) : ¬ ltL b a := fun h' => ltL.irr a (h.trans h')
theorem ltL.ne {a b : Lv} (h : ltL a b) : a ≠ b := fun e => ltL.irr b (e ▸ h)
/-- rising, each once -/
abbrev SS (l : List Lv) : Prop := l.Pairwise ltL
theorem SS.uniq : ∀ {l l' : List Lv}, SS l → SS l' → (∀ x, x ∈ l ↔ x ∈ l') → l = l'
  | [], [], _, _, _ => rfl
  | [], b :: r, _, _, h => by have := (h b).2 (List.mem_cons_self ..); cases this
  | a :: l, [], _, _, h => by have := (h a).1 (List.mem_cons_self ..); cases this
  | a :: l, b :: r, h1, h2, h => by
    obtain ⟨a1, a2⟩ := List.pairwise_cons.1 h1
    obtain ⟨b1, b2⟩ := List.pairwise_cons.1 h2
    have hab : a = b := by
      rcases List.mem_cons.1 ((h a).1 (List.mem_cons_self ..)) with e | e
      · exact e
      · rcases List.mem_cons.1 ((h b).2 (List.mem_cons_self ..)) with e' | e'
        · exact e'.symm
        · exact absurd (a1 b e') (ltL.asym (b1 a e))
    subst hab
    congr 1
    refine SS.uniq a2 b2 fun x => ⟨fun hx => ?_, fun hx => ?_⟩
    · rcases List.mem_cons.1 ((h x).1 (List.mem_cons_of_mem _ hx)) with e | e
      · subst e; exact absurd (a1 x hx) (ltL.irr x)
      · exact e
    · rcases List.mem_cons.1 ((h x).2 (List.mem_cons_of_mem _ hx)) with e | e
      · subst e; exact absurd (b1 x hx) (ltL.irr x)
      · exact e
/-- the document's way to put one in -/
def stepL (v : Lv) (p : List Lv × Bool) (o : Lv) : List Lv × Bool :=
  let q := if !p.2 && decide (ordL v o ≤ 0) then (p.1 ++ [v], true) else p
  (if o ≠ v then q.1 ++ [o] else q.1, q.2)
def insL (v : Lv) (out : List Lv) : List Lv := let p := out.foldl (stepL v) ([], false); if p.2 then p.1 else p.1 ++ [v]
def inL (v : Lv) : List Lv → List Lv
  | [] => [v]
  | o :: r => if ordL v o ≤ 0 then v :: (o :: r).filter (fun x => decide (x ≠ v)) else o :: inL v r
theorem foldl_done (v : Lv) : ∀ (r m : List Lv), r.foldl (stepL v) (m, true) = (m ++ r.filter (fun x => decide (x ≠ v)), true)
  | [], m => by simp
  | o :: r, m => by
    rw [List.foldl_cons]
    by_cases h : o = v
    · simp [stepL, h, foldl_done v r]
    · simp [stepL, h, foldl_done v r]
theorem insL_eq (v : Lv) : ∀ (out m : List Lv), (let p := out.foldl (stepL v) (m, false); if p.2 then p.1 else p.1 ++ [v]) = m ++ inL v out
  | [], m => by simp [inL]
  | o :: r, m => by
    rw [List.foldl_cons]
    by_cases h : ordL v o ≤ 0
    · have : stepL v (m, false) o = (m ++ [v] ++ (if o ≠ v then [o] else []), true) := by
        by_cases h2 : o = v
        · subst h2; simp [stepL, h]
        · simp [stepL, h, h2]
      rw [this]
      simp only [foldl_done, if_true, inL, if_pos h]
      by_cases h2 : o = v <;> simp [h2]
    · have hne : o ≠ v := by rintro rfl; exact h (by rw [(ordL_eq o o).2 rfl]; decide)
      have : stepL v (m, false) o = (m ++ [o], false) := by simp [stepL, h, hne]
      rw [this]
      have ih := insL_eq v r (m ++ [o])
      simp only at ih
      simp only [ih, inL, if_neg h, List.append_assoc, List.singleton_append]
theorem insL_inL (v : Lv) (out : List Lv) : insL v out = inL v out := by
  have := insL_eq v out []
  simpa [insL] using this
theorem inL_mem (v : Lv) : ∀ (out : List Lv) (x : Lv), x ∈ inL v out ↔ x = v ∨ x ∈ out
  | [], x => by simp [inL]
  | o :: r, x => by
    unfold inL
    split
    · simp only [List.mem_cons, List.mem_filter, decide_eq_true_eq]
      by_cases hx : x = v <;> simp [hx]
    · simp only [List.mem_cons, inL_mem v r x]
      by_cases hx : x = v <;> simp [hx]
theorem inL_SS (v : Lv) : ∀ {out : List Lv}, SS out → SS (inL v out)
  | [], _ => by simp [inL]
  | o :: r, h => by
    obtain ⟨h1, h2⟩ := List.pairwise_cons.1 h
    unfold inL
    split
    · rename_i hle
      have hvo : ltL v o ∨ v = o := by
        rcases Int.lt_or_eq_of_le hle with h | h
        · exact .inl ((ordL_lt v o).1 h)
        · exact .inr ((ordL_eq v o).1 h)
      refine List.pairwise_cons.2 ⟨fun x hx => ?_, h.filter _⟩
      obtain ⟨hx1, hx2⟩ := List.mem_filter.1 hx
      simp only [decide_eq_true_eq] at hx2
      rcases List.mem_cons.1 hx1 with rfl | hx3
      · exact hvo.resolve_right fun e => hx2 e.symm
      · rcases hvo with h3 | h3
        · exact h3.trans (h1 x hx3)
        · exact h3 ▸ h1 x hx3
    · rename_i hle
      have hov : ltL o v := (ordL_gt v o).1 (by omega)
      refine List.pairwise_cons.2 ⟨fun x hx => ?_, inL_SS v h2⟩
      rcases (inL_mem v r x).1 hx with rfl | hx
      · exact hov
      · exact h1 x hx
theorem insL_SS (v : Lv) {out : List Lv} (h : SS out) : SS (insL v out) := by rw [insL_inL]; exact inL_SS v h
theorem insL_mem (v : Lv) (out : List Lv) (x : Lv) : x ∈ insL v out ↔ x = v ∨ x ∈ out := by rw [insL_inL]; exact inL_mem v out x
theorem insL_len (v : Lv) (out : List Lv) : (insL v out).length ≤ out.length + 1 := by
  rw [insL_inL]
  induction out with
  | nil => simp [inL]
  | cons o r ih =>
    unfold inL
    split
    · have := List.length_filter_le (fun x => decide (x ≠ v)) (o :: r)
      simp only [List.length_cons] at *; omega
    · simp only [List.length_cons] at *; omega
/-- the levels that are told -/
def lvlsV (xs : List Vw) : List Lv := (xs.filter (fun x => toldH x.h)).map (fun x => lvlH x.h)
/-- .. rising, each once -/
def levelStep (out : List Lv) (x : Vw) : List Lv := if toldH x.h then insL (lvlH x.h) out else out
def levelsV (xs : List Vw) : List Lv := xs.foldl levelStep []
theorem levelsV_fold (xs : List Vw) : ∀ (out : List Lv), SS out → SS (xs.foldl levelStep out) ∧ ∀ v, v ∈ xs.foldl levelStep out ↔ v ∈ out ∨ v ∈ lvlsV xs := by
  induction xs with
  | nil => intro out h; exact ⟨h, fun v => by simp [lvlsV]⟩
  | cons x r ih =>
    intro out h
    rw [List.foldl_cons]
    have hs : SS (levelStep out x) := by unfold levelStep; split <;> first | exact insL_SS _ h | exact h
    obtain ⟨h1, h2⟩ := ih _ hs
    refine ⟨h1, fun v => ?_⟩
    rw [h2]
    unfold levelStep lvlsV
    by_cases ht : toldH x.h = true
    · simp only [ht, if_true, insL_mem, List.filter_cons_of_pos, List.map_cons, List.mem_cons]
      constructor
      · rintro ((h | h) | h)
        · exact .inr (.inl h)
        · exact .inl h
        · exact .inr (.inr h)
      · rintro (h | h | h)
        · exact .inl (.inr h)
        · exact .inl (.inl h)
        · exact .inr h
    · simp [ht]
theorem levelsV_SS (xs : List Vw) : SS (levelsV xs) := (levelsV_fold xs [] .nil).1
theorem levelsV_mem (xs : List Vw) (v : Lv) : v ∈ levelsV xs ↔ v ∈ lvlsV xs := by
  have := (levelsV_fold xs [] .nil).2 v
  simpa [levelsV] using this
theorem levelsV_len (xs : List Vw) : (levelsV xs).length ≤ xs.length := by
  have key : ∀ (xs : List Vw) (out : List Lv), (xs.foldl levelStep out).length ≤ out.length + xs.length := by
    intro xs
    induction xs with
    | nil => intro out; simp
    | cons x r ih =>
      intro out
      rw [List.foldl_cons]
      have h1 := ih (levelStep out x)
      have h2 : (levelStep out x).length ≤ out.length + 1 := by
        unfold levelStep; split
        · exact insL_len _ _
        · omega
      simp only [List.length_cons]; omega
  have := key xs []
  simpa [levelsV] using this
/-- next to one another, each once -/
def compL : List Lv → List Lv
  | [] => []
  | [a] => [a]
  | a :: b :: r => if a = b then compL (b :: r) else a :: compL (b :: r)
theorem compL_mem : ∀ (l : List Lv) (x : Lv), x ∈ compL l ↔ x ∈ l
  | [], x => by simp [compL]
  | [a], x => by simp [compL]
  | a :: b :: r, x => by
    unfold compL
    split
    · rename_i e; subst e; rw [compL_mem (a :: r) x]; simp
    · rw [List.mem_cons, compL_mem (b :: r) x, List.mem_cons (a := x) (b := a)]
theorem compL_SS : ∀ {l : List Lv}, l.Pairwise (fun a b => ¬ ltL b a) → SS (compL l)
  | [], _ => .nil
  | [a], _ => by simp [compL]
  | a :: b :: r, h => by
    obtain ⟨h1, h2⟩ := List.pairwise_cons.1 h
    unfold compL
    split
    · exact compL_SS h2
    · rename_i hne
      refine List.pairwise_cons.2 ⟨fun x hx => ?_, compL_SS h2⟩
      have hx' := (compL_mem _ _).1 hx
      rcases ltL.tri a x with h3 | h3 | h3
      · exact h3
      · subst h3
        rcases List.mem_cons.1 hx' with e | e
        · exact absurd e hne
        · have hb := (List.pairwise_cons.1 h2).1 a e
          rcases ltL.tri a b with h4 | h4 | h4
          · exact absurd h4 hb
          · exact absurd h4 hne
          · exact absurd h4 (h1 b (List.mem_cons_self ..))
      · exact absurd h3 (h1 x hx')
theorem compL_levels {xs : List Vw} {ys : List Lv} (hp : ys.Perm (lvlsV xs)) (hs : ys.Pairwise (fun a b => ¬ ltL b a)) : compL ys = levelsV xs :=
  SS.uniq (compL_SS hs) (levelsV_SS xs) fun x => by rw [compL_mem, levelsV_mem, hp.mem_iff]
theorem stepL_len (v : Lv) : ∀ (r : List Lv) (p : List Lv × Bool), (r.foldl (stepL v) p).1.length ≤ p.1.length + 2 * r.length
  | [], p => by simp
  | o :: r, p => by
    rw [List.foldl_cons]
    have h1 := stepL_len v r (stepL v p o)
    have h2 : (stepL v p o).1.length ≤ p.1.length + 2 := by
      unfold stepL
      simp only
      split <;> split <;> simp
    simp only [List.length_cons]; omega
theorem swoL : Sort.SWO (fun a b : Lv => decide (ordL a b < 0)) where
  irrefl x := by simp only [decide_eq_false_iff_not, ordL_lt]; exact ltL.irr x
  trans x y z h1 h2 := by simp only [decide_eq_true_eq, ordL_lt] at *; exact h1.trans h2
  ntrans x y z h1 h2 := by simp only [decide_eq_false_iff_not, ordL_lt, ltL] at *; omega
end Go.Proofs.Ytgdpjpmjcpieiaa
