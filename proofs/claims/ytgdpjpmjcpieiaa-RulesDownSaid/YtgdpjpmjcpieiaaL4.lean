/- slices.Compact at levels: what is next to one another stays once. No condition. -/
import Derived.Test.YtgdpjpmjcpieiaaL3
import Derived.Test.YtgdpjpmjcpieiaaOwn2
namespace Go.Proofs.Ytgdpjpmjcpieiaa
open Go
set_option linter.unusedVariables false
set_option linter.unusedSimpArgs false
set_option maxRecDepth 100000
set_option maxHeartbeats 0
theorem compL_snoc : ∀ (l : List Lv) (y x : Lv), compL (l ++ [y, x]) = if y = x then compL (l ++ [y]) else compL (l ++ [y]) ++ [x]
  | [], y, x => by by_cases h : y = x <;> simp [compL, h]
  | [a], y, x => by
    by_cases h : a = y <;> by_cases h2 : y = x <;> simp [compL, h, h2]
  | a :: b :: l, y, x => by
    have ih := compL_snoc (b :: l) y x
    simp only [List.cons_append] at ih ⊢
    rw [compL, ih]
    conv => rhs; rw [compL]
    by_cases h : a = b <;> by_cases h2 : y = x <;> simp [h, h2]
theorem comp_step {xs : List Lv} {i : Nat} {x y : Lv} (hx : xs[i + 1]? = some x) (hy : xs[i]? = some y) : compL (xs.take (i + 2)) = if y = x then compL (xs.take (i + 1)) else compL (xs.take (i + 1)) ++ [x] := by
  rw [take_succ' hx, take_succ' hy, List.append_assoc]
  exact compL_snoc _ y x
theorem comp_one {xs : List Lv} : compL (xs.take 1) = xs.take 1 := by
  cases xs with
  | nil => rfl
  | cons a r => rfl
theorem comp_small {xs : List Lv} (h : xs.length < 2) : compL xs = xs := by
  match xs with
  | [] => rfl
  | [a] => rfl
  | a :: b :: r => simp at h; omega
theorem compact_spec {g : Gl} {D : Dict} {M q : MList} {v : Value} {xs : List Lv} (hn : xs.length ≤ 1000000) (hO : LR v xs q) :
    Spec Try.prog g 59 [v] D (q ++ M) (fun u D' M' => D' = D ∧ ∃ q', LR u (compL xs) q' ∧ M' = q' ++ M) := by
  obtain ⟨A, c, rfl, hl0⟩ := hO.form
  refine Spec.enter Try.func59 rfl Try.ntmps59 rfl ?_
  refine R.sq ?_
  refine R.rg ?_
  refine R.as ?_
  refine R.nl ?_
  refine R.hs (e' := [(0, _)]) ?_
  refine R.sq ?_
  refine R.sq ?_
  refine R.rg ?_
  refine R.mv ?_
  refine R.ln Try.runUnderlying47 ?_
  refine R.cm ?_
  refine R.nl ?_
  refine R.hs (e' := [(0, _), (8, _)]) ?_
  refine R.cd (fun zc1 => ?_) (fun zc1 => ?_)
  ·
    have hlt : xs.length < 2 := by simp at zc1; omega
    refine R.sq ?_
    refine R.rg ?_
    refine R.mv ?_
    refine R.as ?_
    refine R.nl ?_
    refine R.hs (e' := [(2, _)]) ?_
    first | exact R.rk (RV.t .nil) 0 ⟨rfl, q', by rw [hwt] at hW2; exact hW2, rfl⟩ | exact R.rk (RV.t .nil) 0 ⟨rfl, q, by rw [comp_small hlt]; exact hO, rfl⟩ | exact R.rk (RV.t .nil) 0 ⟨rfl, q, by rw [hfin]; exact hO, rfl⟩
  ·
    have hge : 2 ≤ xs.length := by simp at zc1; omega
    obtain ⟨b, cc, cur, hq, hcap, hvc⟩ : ∃ b cc cur, q = [(b, .cells cur 42 (0, 0))] ∧ xs.length ≤ cc ∧ (Value.slice A xs.length c : Value) = .slice (some ⟨b, 0, none⟩) xs.length cc := by
      rcases hO.2 with ⟨h1, h2, _⟩ | ⟨b, cap, cur, h1, h2, h3, _⟩
      · omega
      · exact ⟨b, cap, cur, h2, h3, h1⟩
    injection hvc with e1 _ e3
    subst e1; subst e3
    clear hq
    refine Run.skip ?_
    refine R.sq ?_
    refine R.sq ?_
    refine R.rg ?_
    refine R.as ?_
    refine R.nl ?_
    refine R.hs (e' := [(0, _), (3, _)]) ?_
    refine Run.block ?_
    refine Run.loop (ι := Nat) [(0, _)] (fun i => [(3, .int .i64 ((i : Int) + 1))]) (fun _ => D) (fun _ => q ++ M) (fun i => i + 1 ≤ xs.length ∧ compL (xs.take (i + 1)) = xs.take (i + 1)) (fun i => xs.length - i) (0) (by repeat (first | exact trivial | refine ⟨rfl, ?_⟩)) ?h0 (by repeat (first | exact trivial | refine ⟨rfl, ?_⟩)) (fun w hs => hs) ?_
    case h0 => exact ⟨by omega, comp_one⟩
    rintro i ⟨hi, hpre⟩
    refine R.sq ?_
    refine R.sq ?_
    refine R.rg ?_
    refine R.mv ?_
    refine R.mv ?_
    refine R.ln Try.runUnderlying47 ?_
    refine R.cm ?_
    refine R.nl ?_
    refine R.hs (e' := [(0, _), (3, _), (13, _)]) ?_
    refine R.cd (fun zc2 => ?_) (fun zc2 => ?_)
    ·
      have hlt : i + 1 < xs.length := by simp at zc2; omega
      obtain ⟨x, hgx⟩ := get_of_lt hlt
      obtain ⟨y, hgy⟩ := get_of_lt (xs := xs) (i := i) (by omega)
      obtain ⟨b1, o1, hI1, hc1⟩ := hO.at (D := D) (M := q ++ M) (fun p hp => List.mem_append_left _ hp) Lv.len hgx
      obtain ⟨b2, o2, hI2, hc2⟩ := hO.at (D := D) (M := q ++ M) (fun p hp => List.mem_append_left _ hp) Lv.len hgy
      refine Run.skip ?_
      refine R.sq ?_
      refine Run.block ?_
      refine R.sq ?_
      refine Run.drawC Grow.eq 9 [(0, _), (3, _)] mix (by kernel_rfl) (by repeat (first | exact trivial | refine ⟨rfl, ?_⟩)) ?_
      apply TC.val []
      · exact rfl
      · kernel_rfl
      ·
        rintro _ rfl 
        refine R.mv ?_
        refine R.nl ?_
        exact Run.loc rfl rfl rfl
      apply TC.val []
      · exact rfl
      · kernel_rfl
      ·
        rintro _ rfl 
        refine R.mv ?_
        refine R.nl ?_
        exact Run.loc rfl rfl rfl
      apply TC.val [1, 0]
      · exact rfl
      · kernel_rfl
      ·
        rintro _ rfl _ rfl _ rfl
        refine R.ix (hI1) Try.runUnderlying47 Try.sizeOf42 ?_
        refine R.nl ?_
        exact Run.loc rfl rfl rfl
      apply TC.val [0]
      · exact rfl
      · kernel_rfl
      ·
        rintro _ rfl _ rfl
        refine R.lAD 3 Try.isAgg42 Try.sizeOf42 ?_
        refine R.nl ?_
        exact Run.loc rfl rfl rfl
      apply TC.val []
      · exact rfl
      · kernel_rfl
      ·
        rintro _ rfl 
        refine R.mv ?_
        refine R.nl ?_
        exact Run.loc rfl rfl rfl
      apply TC.val []
      · exact rfl
      · kernel_rfl
      ·
        rintro _ rfl 
        refine R.mv ?_
        refine R.nl ?_
        exact Run.loc rfl rfl rfl
      apply TC.val [0]
      · exact rfl
      · kernel_rfl
      ·
        rintro _ rfl _ rfl
        refine R.sb ?_
        refine R.nl ?_
        exact Run.loc rfl rfl rfl
      apply TC.val [2, 0]
      · exact rfl
      · kernel_rfl
      ·
        rintro _ rfl _ rfl _ rfl
        refine R.ix (hI2) Try.runUnderlying47 Try.sizeOf42 ?_
        refine R.nl ?_
        exact Run.loc rfl rfl rfl
      apply TC.val [0]
      · exact rfl
      · kernel_rfl
      ·
        rintro _ rfl _ rfl
        refine R.lAD 3 Try.isAgg42 Try.sizeOf42 ?_
        refine R.nl ?_
        exact Run.loc rfl rfl rfl
      refine TC.fin (by rfl) ?_
      rintro _ rfl _ rfl _ rfl _ rfl _ rfl _ rfl _ rfl _ rfl _ rfl _ rfl
      refine R.ea Try.eqGuardType42 (eqAt42 _ _ _ _ _ _) ?_
      refine R.nl ?_
      refine R.hs (e' := [(0, _), (3, _), (25, _)]) ?_
      refine R.cd (fun zc13 => ?_) (fun zc13 => ?_)
      ·
        have heq : x = y := by rw [Lv.ext']; simpa using zc13
        refine R.sq ?_
        refine R.rg ?_
        refine R.mv ?_
        refine R.mv ?_
        refine R.cutLo (i + 1) Try.runUnderlying47 Try.sizeOf42 ?_
        refine R.as ?_
        refine R.nl ?_
        refine R.hs (e' := [(0, _), (3, _), (4, _)]) ?_
        refine R.sq ?_
        refine R.sq ?_
        refine R.rg ?_
        refine R.as ?_
        refine R.nl ?_
        refine R.hs (e' := [(0, _), (3, _), (4, _), (5, _)]) ?_
        refine Run.block ?_
        refine Run.loop (ι := Nat × Nat × List Lv × MList) [(0, _), (4, _)] (fun p => [(5, .int .i64 ((p.1 : Int) + 1)), (3, .int .i64 (p.2.1 : Int))]) (fun _ => D) (fun p => p.2.2.2 ++ M) (fun p => i + 1 + p.1 + 1 ≤ xs.length ∧ p.2.1 ≤ i + 1 + p.1 ∧ p.2.2.1.length = xs.length ∧ p.2.2.1.take p.2.1 = compL (xs.take (i + 1 + p.1 + 1)) ∧ p.2.2.1.drop (i + 1 + p.1) = xs.drop (i + 1 + p.1) ∧ LR (.slice (some ⟨b, 0, none⟩) xs.length c) p.2.2.1 p.2.2.2) (fun p => xs.length - p.1) ((0, i + 1, xs, q)) (by repeat (first | exact trivial | refine ⟨rfl, ?_⟩)) ?h0 (by repeat (first | exact trivial | refine ⟨rfl, ?_⟩)) (fun w hs => hs) ?_
        case h0 => exact ⟨by omega, by simp, rfl, by simp only [Nat.add_zero]; rw [comp_step hgx hgy, if_pos heq.symm, hpre], rfl, hO⟩
        rintro ⟨j, kk, ws, q2⟩ ⟨hj, hkk, hwl, hwt, hwd, hW⟩
        simp only at hj hkk hwl hwt hwd hW
        refine R.sq ?_
        refine R.sq ?_
        refine R.rg ?_
        refine R.mv ?_
        refine R.mv ?_
        refine R.ln Try.runUnderlying47 ?_
        refine R.cm ?_
        refine R.nl ?_
        refine R.hs (e' := [(0, _), (3, _), (4, _), (5, _), (32, _)]) ?_
        refine R.cd (fun zc14 => ?_) (fun zc14 => ?_)
        ·
          have hlt2 : i + 1 + j + 1 < xs.length := by simp at zc14; omega
          obtain ⟨x2, hgx2⟩ := get_of_lt hlt2
          obtain ⟨y2, hgy2⟩ := get_of_lt (xs := xs) (i := i + 1 + j) (by omega)
          have hwx : ws[i + 1 + j + 1]? = some x2 := by have := congrArg (fun l => l[1]?) hwd; simpa [hgx2] using this
          have hwy : ws[i + 1 + j]? = some y2 := by have := congrArg (fun l => l[0]?) hwd; simpa [hgy2] using this
          obtain ⟨b3, o3, hI3, hc3⟩ := hW.at (D := D) (M := q2 ++ M) (fun p hp => List.mem_append_left _ hp) Lv.len hwx
          obtain ⟨b4, o4, hI4, hc4⟩ := hW.at (D := D) (M := q2 ++ M) (fun p hp => List.mem_append_left _ hp) Lv.len hwy
          obtain ⟨b5, o5, hI5, hc5⟩ := hW.at (D := D) (M := q2 ++ M) (fun p hp => List.mem_append_left _ hp) Lv.len (i := kk) (x := ws[kk]) (List.getElem?_eq_getElem (by omega))
          have hI3' : IxAt (.slice (some ⟨b, 0 + (i + 1) * 3, none⟩) (xs.length - (i + 1)) (c - (i + 1))) (j + 1) 3 b3 o3 := by
            obtain ⟨o0, l, c', e1, e2, e3⟩ := hI3
            injection e1 with e1 _ _; injection e1 with e1; injection e1 with e4 e5 _
            subst e4; subst e5; exact ⟨_, _, _, rfl, by omega, by rw [e3]; omega⟩
          have hI4' : IxAt (.slice (some ⟨b, 0 + (i + 1) * 3, none⟩) (xs.length - (i + 1)) (c - (i + 1))) j 3 b4 o4 := by
            obtain ⟨o0, l, c', e1, e2, e3⟩ := hI4
            injection e1 with e1 _ _; injection e1 with e1; injection e1 with e4 e5 _
            subst e4; subst e5; exact ⟨_, _, _, rfl, by omega, by rw [e3]; omega⟩
          refine Run.skip ?_
          refine R.sq ?_
          refine Run.block ?_
          refine R.sq ?_
          refine Run.drawC Grow.eq 9 [(0, _), (3, _), (4, _), (5, _)] mix (by kernel_rfl) (by repeat (first | exact trivial | refine ⟨rfl, ?_⟩)) ?_
          apply TC.val []
          · exact rfl
          · kernel_rfl
          ·
            rintro _ rfl 
            refine R.mv ?_
            refine R.nl ?_
            exact Run.loc rfl rfl rfl
          apply TC.val []
          · exact rfl
          · kernel_rfl
          ·
            rintro _ rfl 
            refine R.mv ?_
            refine R.nl ?_
            exact Run.loc rfl rfl rfl
          apply TC.val [1, 0]
          · exact rfl
          · kernel_rfl
          ·
            rintro _ rfl _ rfl _ rfl
            refine R.ix (hI3') Try.runUnderlying47 Try.sizeOf42 ?_
            refine R.nl ?_
            exact Run.loc rfl rfl rfl
          apply TC.val [0]
          · exact rfl
          · kernel_rfl
          ·
            rintro _ rfl _ rfl
            refine R.lAD 3 Try.isAgg42 Try.sizeOf42 ?_
            refine R.nl ?_
            exact Run.loc rfl rfl rfl
          apply TC.val []
          · exact rfl
          · kernel_rfl
          ·
            rintro _ rfl 
            refine R.mv ?_
            refine R.nl ?_
            exact Run.loc rfl rfl rfl
          apply TC.val []
          · exact rfl
          · kernel_rfl
          ·
            rintro _ rfl 
            refine R.mv ?_
            refine R.nl ?_
            exact Run.loc rfl rfl rfl
          apply TC.val [0]
          · exact rfl
          · kernel_rfl
          ·
            rintro _ rfl _ rfl
            refine R.sb ?_
            refine R.nl ?_
            exact Run.loc rfl rfl rfl
          apply TC.val [2, 0]
          · exact rfl
          · kernel_rfl
          ·
            rintro _ rfl _ rfl _ rfl
            refine R.ix (hI4') Try.runUnderlying47 Try.sizeOf42 ?_
            refine R.nl ?_
            exact Run.loc rfl rfl rfl
          apply TC.val [0]
          · exact rfl
          · kernel_rfl
          ·
            rintro _ rfl _ rfl
            refine R.lAD 3 Try.isAgg42 Try.sizeOf42 ?_
            refine R.nl ?_
            exact Run.loc rfl rfl rfl
          refine TC.fin (by rfl) ?_
          rintro _ rfl _ rfl _ rfl _ rfl _ rfl _ rfl _ rfl _ rfl _ rfl _ rfl
          refine R.na Try.eqGuardType42 (eqAt42 _ _ _ _ _ _) ?_
          refine R.nl ?_
          refine R.hs (e' := [(0, _), (3, _), (4, _), (5, _), (44, _)]) ?_
          refine R.cd (fun zc25 => ?_) (fun zc25 => ?_)
          ·
            have hne2 : x2 ≠ y2 := by rw [ne_eq, Lv.ext']; simp at zc25; omega
            have hst1 : (ws.set kk x2).take (kk + 1) = compL (xs.take (i + 1 + (j + 1) + 1)) := by
              rw [show i + 1 + (j + 1) + 1 = i + 1 + j + 2 by omega, comp_step hgx2 hgy2, if_neg (fun e => hne2 e.symm), ← hwt]
              rw [take_succ' (x := x2) (by rw [List.getElem?_set_self (by omega)]), List.take_set_of_le (Nat.le_refl _)]
            have hst2 : (ws.set kk x2).drop (i + 1 + (j + 1)) = xs.drop (i + 1 + (j + 1)) := by
              have := congrArg (List.drop 1) hwd
              rw [List.drop_drop, List.drop_drop] at this
              rw [List.drop_set_of_lt (by omega)]
              rw [show i + 1 + (j + 1) = i + 1 + j + 1 by omega]; exact this
            refine R.sq ?_
            refine R.rg ?_
            refine R.mv ?_
            refine R.mv ?_
            refine R.mv ?_
            refine R.mv ?_
            refine R.ix (hI3') Try.runUnderlying47 Try.sizeOf42 ?_
            refine R.lAD 3 Try.isAgg42 Try.sizeOf42 ?_
            refine R.ix (hI5) Try.runUnderlying47 Try.sizeOf42 ?_
            refine R.so x2 hW hI5 Lv.len Try.sizeOf42 (fun q' hW2 => ?_)
            refine R.nl ?_
            refine R.hs (e' := [(0, _), (3, _), (4, _), (5, _)]) ?_
            refine R.rg ?_
            refine R.mv ?_
            refine R.ad ?_
            refine R.as ?_
            refine R.nl ?_
            refine R.hs (e' := [(0, _), (3, _), (4, _), (5, _)]) ?_
            refine Run.endBlock ?_
            refine R.rg ?_
            refine R.mv ?_
            refine R.ad ?_
            refine R.as ?_
            refine R.nl ?_
            refine R.hs (e' := [(0, _), (3, _), (4, _), (5, _)]) ?_
            first | exact Run.again (j + 1, kk + 1, ws.set kk x2, q') ⟨by simp <;> omega, by simp <;> omega, by simp [hwl], hst1, hst2, by simpa [hwl] using hW2⟩ (by simp <;> omega) (by refine ⟨by congr 2, by congr 2, ?_⟩; repeat (first | exact trivial | refine ⟨rfl, ?_⟩)) (fun w hs => hs) | exact Run.again (j + 1, kk, ws, q2) ⟨by simp <;> omega, by simp <;> omega, hwl, hst1, hst2, hW⟩ (by simp <;> omega) (by refine ⟨by congr 2, rfl, ?_⟩; repeat (first | exact trivial | refine ⟨rfl, ?_⟩)) (fun w hs => hs)
          ·
            have heq2 : x2 = y2 := by rw [Lv.ext']; simpa using zc25
            have hst1 : ws.take kk = compL (xs.take (i + 1 + (j + 1) + 1)) := by
              rw [show i + 1 + (j + 1) + 1 = i + 1 + j + 2 by omega, comp_step hgx2 hgy2, if_pos heq2.symm, ← hwt]
            have hst2 : ws.drop (i + 1 + (j + 1)) = xs.drop (i + 1 + (j + 1)) := by
              have := congrArg (List.drop 1) hwd
              rw [List.drop_drop, List.drop_drop] at this
              rw [show i + 1 + (j + 1) = i + 1 + j + 1 by omega]; exact this
            refine Run.skip ?_
            refine Run.endBlock ?_
            refine R.rg ?_
            refine R.mv ?_
            refine R.ad ?_
            refine R.as ?_
            refine R.nl ?_
            refine R.hs (e' := [(0, _), (3, _), (4, _), (5, _)]) ?_
            first | exact Run.again (j + 1, kk + 1, ws.set kk x2, q') ⟨by simp <;> omega, by simp <;> omega, by simp [hwl], hst1, hst2, by simpa [hwl] using hW2⟩ (by simp <;> omega) (by refine ⟨by congr 2, by congr 2, ?_⟩; repeat (first | exact trivial | refine ⟨rfl, ?_⟩)) (fun w hs => hs) | exact Run.again (j + 1, kk, ws, q2) ⟨by simp <;> omega, by simp <;> omega, hwl, hst1, hst2, hW⟩ (by simp <;> omega) (by refine ⟨by congr 2, rfl, ?_⟩; repeat (first | exact trivial | refine ⟨rfl, ?_⟩)) (fun w hs => hs)
        ·
          have hjn : i + 1 + j + 1 = xs.length := by simp at zc14; omega
          rw [hjn, List.take_length] at hwt
          refine Run.exit rfl ?_
          refine R.sq ?_
          refine R.rg ?_
          refine R.mv ?_
          refine R.mv ?_
          refine R.cutLo kk Try.runUnderlying47 Try.sizeOf42 ?_
          refine R.clr (off := 0 + kk * 3) kk hW Lv.len Try.runUnderlying47 Try.zeroValue42 (zc := zc42) rfl (by decide) rfl (by omega) (by omega) (fun q' hW2 => ?_) (hx := by rw [hwl]; rfl)
          refine R.nl ?_
          refine R.hs (e' := [(0, _), (3, _)]) ?_
          refine R.sq ?_
          refine R.rg ?_
          refine R.mv ?_
          refine R.mv ?_
          refine R.cutHi kk Try.runUnderlying47 Try.sizeOf42 ?_
          refine R.as ?_
          refine R.nl ?_
          refine R.hs (e' := [(2, _)]) ?_
          first | exact R.rk (RV.t .nil) 0 ⟨rfl, q', by rw [hwt] at hW2; exact hW2, rfl⟩ | exact R.rk (RV.t .nil) 0 ⟨rfl, q, by rw [comp_small hlt]; exact hO, rfl⟩ | exact R.rk (RV.t .nil) 0 ⟨rfl, q, by rw [hfin]; exact hO, rfl⟩
      ·
        have hne : x ≠ y := by rw [ne_eq, Lv.ext']; simp at zc13; omega
        refine Run.skip ?_
        refine Run.endBlock ?_
        refine R.rg ?_
        refine R.mv ?_
        refine R.ad ?_
        refine R.as ?_
        refine R.nl ?_
        refine R.hs (e' := [(0, _), (3, _)]) ?_
        exact Run.again (i + 1) ⟨by omega, by rw [comp_step hgx hgy, if_neg (fun e => hne e.symm), hpre, take_succ' hgx]⟩ (by omega) (by refine ⟨by congr 2, ?_⟩; repeat (first | exact trivial | refine ⟨rfl, ?_⟩)) (fun w hs => hs)
    ·
      have hin : i + 1 = xs.length := by simp at zc2; omega
      have hfin : compL xs = xs := by rw [hin, List.take_length] at hpre; exact hpre
      refine Run.exit rfl ?_
      refine R.sq ?_
      refine R.rg ?_
      refine R.mv ?_
      refine R.as ?_
      refine R.nl ?_
      refine R.hs (e' := [(2, _)]) ?_
      first | exact R.rk (RV.t .nil) 0 ⟨rfl, q', by rw [hwt] at hW2; exact hW2, rfl⟩ | exact R.rk (RV.t .nil) 0 ⟨rfl, q, by rw [comp_small hlt]; exact hO, rfl⟩ | exact R.rk (RV.t .nil) 0 ⟨rfl, q, by rw [hfin]; exact hO, rfl⟩
end Go.Proofs.Ytgdpjpmjcpieiaa
