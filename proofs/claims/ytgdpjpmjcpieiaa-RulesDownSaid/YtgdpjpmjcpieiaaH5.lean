/- Heights: which is less, by the document's answer. No condition. -/
import Derived.Test.YtgdpjpmjcpieiaaH4
namespace Go.Proofs.Ytgdpjpmjcpieiaa
open Go
set_option linter.unusedVariables false
set_option linter.unusedSimpArgs false
set_option maxRecDepth 100000
set_option maxHeartbeats 0
def cmpL : List Int → List Int → Int
  | x :: xs, y :: ys => if x < y then -1 else if y < x then 1 else cmpL xs ys
  | _, _ => 0
theorem cmpL_drop {xs ys : List Int} {i : Nat} {x y : Int} (hx : xs[i]? = some x) (hy : ys[i]? = some y) : cmpL (xs.drop i) (ys.drop i) = if x < y then -1 else if y < x then 1 else cmpL (xs.drop (i + 1)) (ys.drop (i + 1)) := by
  have h1 : i < xs.length := by
    rcases Nat.lt_or_ge i xs.length with h1 | h1
    · exact h1
    · rw [List.getElem?_eq_none h1] at hx; cases hx
  have h2 : i < ys.length := by
    rcases Nat.lt_or_ge i ys.length with h1 | h1
    · exact h1
    · rw [List.getElem?_eq_none h1] at hy; cases hy
  rw [List.drop_eq_getElem_cons h1, List.drop_eq_getElem_cons h2, cmpL]
  rw [List.getElem?_eq_getElem h1] at hx
  rw [List.getElem?_eq_getElem h2] at hy
  injection hx with hx
  injection hy with hy
  rw [hx, hy]
theorem refCmp_spec {g : Gl} {D : Dict} {M : MList} {u v : Value} (xs ys : List Int) (hn : xs.length ≤ 100) (hl : ys.length = xs.length) (h : Src D M 1 u xs.length (ints xs)) (h' : Src D M 1 v ys.length (ints ys)) : Gives Try.prog g 70 [u, v] D M (.int .i64 (cmpL xs ys)) := by
  obtain ⟨_, A, c, rfl, _⟩ := id h
  obtain ⟨_, A', c', rfl, _⟩ := id h'
  refine Gives.enter Try.func70 rfl Try.ntmps70 ?_
  refine R.sq ?_
  refine R.rg ?_
  refine R.as ?_
  refine R.nl ?_
  refine R.hs (e' := [(0, _), (1, _)]) ?_
  refine R.sq ?_
  refine R.sq ?_
  refine R.rg ?_
  refine R.as ?_
  refine R.nl ?_
  refine R.hs (e' := [(0, _), (1, _), (5, _)]) ?_
  refine Run.block ?_
  refine Run.loop (ι := Nat) [(0, _), (1, _)] (fun i => [(5, .int .i64 (i : Int))]) (fun _ => D) (fun _ => M) (fun i => i ≤ xs.length ∧ cmpL (xs.drop i) (ys.drop i) = cmpL xs ys) (fun i => xs.length - i) (0) (by repeat (first | exact trivial | refine ⟨rfl, ?_⟩)) ?h0 (by repeat (first | exact trivial | refine ⟨rfl, ?_⟩)) (fun w hs => hs) ?_
  case h0 => exact ⟨Nat.zero_le _, rfl⟩
  rintro i ⟨hi, hpre⟩
  refine R.sq ?_
  refine R.sq ?_
  refine R.rg ?_
  refine R.mv ?_
  refine R.mv ?_
  refine R.ln Try.runUnderlying45 ?_
  refine R.cm ?_
  refine R.nl ?_
  refine R.hs (e' := [(0, _), (1, _), (5, _), (9, _)]) ?_
  refine R.cd (fun zc1 => ?_) (fun zc1 => ?_)
  ·
    have hlt : i < xs.length := by simp at zc1; omega
    obtain ⟨x, hgx⟩ : ∃ x, xs[i]? = some x := ⟨xs[i], List.getElem?_eq_getElem hlt⟩
    obtain ⟨y, hgy⟩ : ∃ y, ys[i]? = some y := ⟨ys[i], List.getElem?_eq_getElem (by omega)⟩
    obtain ⟨b1, o1, hI1, hc1⟩ := h.at (ints_flat xs) (fun _ => rfl) hgx
    obtain ⟨b2, o2, hI2, hc2⟩ := h'.at (ints_flat ys) (fun _ => rfl) hgy
    refine Run.skip ?_
    refine R.sq ?_
    refine Run.block ?_
    refine R.sq ?_
    refine R.sq ?_
    refine Run.drawC Grow.eq 8 [(0, _), (1, _), (5, _)] mix (by kernel_rfl) (by repeat (first | exact trivial | refine ⟨rfl, ?_⟩)) ?_
    apply TC.val []
    · exact rfl
    · kernel_rfl
    ·
      rintro _ rfl 
      refine R.mv ?_
      refine R.nl ?_
      exact Run.loc rfl rfl rfl
    apply TC.val []
    · exact rfl
    · kernel_rfl
    ·
      rintro _ rfl 
      refine R.mv ?_
      refine R.nl ?_
      exact Run.loc rfl rfl rfl
    apply TC.val [1, 0]
    · exact rfl
    · kernel_rfl
    ·
      rintro _ rfl _ rfl _ rfl
      refine R.ix (hI1) Try.runUnderlying45 Try.sizeOf3 ?_
      refine R.nl ?_
      exact Run.loc rfl rfl rfl
    apply TC.val [0]
    · exact rfl
    · kernel_rfl
    ·
      rintro _ rfl _ rfl
      refine R.ldD Try.isAgg3 ?_
      refine R.nl ?_
      exact Run.loc rfl rfl rfl
    apply TC.val []
    · exact rfl
    · kernel_rfl
    ·
      rintro _ rfl 
      refine R.mv ?_
      refine R.nl ?_
      exact Run.loc rfl rfl rfl
    apply TC.val []
    · exact rfl
    · kernel_rfl
    ·
      rintro _ rfl 
      refine R.mv ?_
      refine R.nl ?_
      exact Run.loc rfl rfl rfl
    apply TC.val [1, 0]
    · exact rfl
    · kernel_rfl
    ·
      rintro _ rfl _ rfl _ rfl
      refine R.ix (hI2) Try.runUnderlying45 Try.sizeOf3 ?_
      refine R.nl ?_
      exact Run.loc rfl rfl rfl
    apply TC.val [0]
    · exact rfl
    · kernel_rfl
    ·
      rintro _ rfl _ rfl
      refine R.ldD Try.isAgg3 ?_
      refine R.nl ?_
      exact Run.loc rfl rfl rfl
    refine TC.fin (by rfl) ?_
    rintro _ rfl _ rfl _ rfl _ rfl _ rfl _ rfl _ rfl _ rfl _ rfl
    refine R.cm ?_
    refine R.nl ?_
    refine R.hs (e' := [(0, _), (1, _), (5, _), (20, _)]) ?_
    refine R.cd (fun zc11 => ?_) (fun zc11 => ?_)
    ·
      have hxa : x < y := by simpa using zc11
      have hz : cmpL xs ys = -1 := by rw [← hpre, cmpL_drop hgx hgy, if_pos hxa]
      refine R.sq ?_
      refine R.rg ?_
      refine R.as ?_
      refine R.nl ?_
      refine R.hs (e' := [(4, _)]) ?_
      exact R.rt (RV.t .nil) 0 (congrArg (Value.int .i64) hz.symm)
    ·
      have hxa : ¬ x < y := by simpa using zc11
      refine Run.skip ?_
      refine R.sq ?_
      refine Run.drawC Grow.eq 8 [(0, _), (1, _), (5, _)] mix (by kernel_rfl) (by repeat (first | exact trivial | refine ⟨rfl, ?_⟩)) ?_
      apply TC.val []
      · exact rfl
      · kernel_rfl
      ·
        rintro _ rfl 
        refine R.mv ?_
        refine R.nl ?_
        exact Run.loc rfl rfl rfl
      apply TC.val []
      · exact rfl
      · kernel_rfl
      ·
        rintro _ rfl 
        refine R.mv ?_
        refine R.nl ?_
        exact Run.loc rfl rfl rfl
      apply TC.val [1, 0]
      · exact rfl
      · kernel_rfl
      ·
        rintro _ rfl _ rfl _ rfl
        refine R.ix (hI1) Try.runUnderlying45 Try.sizeOf3 ?_
        refine R.nl ?_
        exact Run.loc rfl rfl rfl
      apply TC.val [0]
      · exact rfl
      · kernel_rfl
      ·
        rintro _ rfl _ rfl
        refine R.ldD Try.isAgg3 ?_
        refine R.nl ?_
        exact Run.loc rfl rfl rfl
      apply TC.val []
      · exact rfl
      · kernel_rfl
      ·
        rintro _ rfl 
        refine R.mv ?_
        refine R.nl ?_
        exact Run.loc rfl rfl rfl
      apply TC.val []
      · exact rfl
      · kernel_rfl
      ·
        rintro _ rfl 
        refine R.mv ?_
        refine R.nl ?_
        exact Run.loc rfl rfl rfl
      apply TC.val [1, 0]
      · exact rfl
      · kernel_rfl
      ·
        rintro _ rfl _ rfl _ rfl
        refine R.ix (hI2) Try.runUnderlying45 Try.sizeOf3 ?_
        refine R.nl ?_
        exact Run.loc rfl rfl rfl
      apply TC.val [0]
      · exact rfl
      · kernel_rfl
      ·
        rintro _ rfl _ rfl
        refine R.ldD Try.isAgg3 ?_
        refine R.nl ?_
        exact Run.loc rfl rfl rfl
      refine TC.fin (by rfl) ?_
      rintro _ rfl _ rfl _ rfl _ rfl _ rfl _ rfl _ rfl _ rfl _ rfl
      refine R.cm ?_
      refine R.nl ?_
      refine R.hs (e' := [(0, _), (1, _), (5, _), (29, _)]) ?_
      refine R.cd (fun zc21 => ?_) (fun zc21 => ?_)
      ·
        have hxb : y < x := by simpa using zc21
        have hz : cmpL xs ys = 1 := by rw [← hpre, cmpL_drop hgx hgy, if_neg hxa, if_pos hxb]
        refine R.sq ?_
        refine R.rg ?_
        refine R.as ?_
        refine R.nl ?_
        refine R.hs (e' := [(4, _)]) ?_
        exact R.rt (RV.t .nil) 0 (congrArg (Value.int .i64) hz.symm)
      ·
        have hxb : ¬ y < x := by simpa using zc21
        refine Run.skip ?_
        refine Run.endBlock ?_
        refine R.rg ?_
        refine R.mv ?_
        refine R.ad ?_
        refine R.as ?_
        refine R.nl ?_
        refine R.hs (e' := [(0, _), (1, _), (5, _)]) ?_
        exact Run.again (i + 1) ⟨by omega, by rw [← hpre, cmpL_drop hgx hgy, if_neg hxa, if_neg hxb]⟩ (by omega) ⟨rfl, by repeat (first | exact trivial | refine ⟨rfl, ?_⟩)⟩ (fun w hs => hs)
  ·
    have hge : i = xs.length := by simp at zc1; omega
    have hz : cmpL xs ys = 0 := by rw [← hpre, hge, List.drop_length, ← hl, List.drop_length]; rfl
    refine Run.exit rfl ?_
    refine R.sq ?_
    refine R.rg ?_
    refine R.as ?_
    refine R.nl ?_
    refine R.hs (e' := [(4, _)]) ?_
    exact R.rt (RV.t .nil) 0 (congrArg (Value.int .i64) hz.symm)
theorem refOrd_spec {g : Gl} {D : Dict} {M : MList} (a b : Lv) : Gives Try.prog g 63 [.agg (Lv.cells a).toArray, .agg (Lv.cells b).toArray] D M (.int .i64 (ordL a b)) := by
  refine Gives.enter Try.func63 rfl Try.ntmps63 ?_
  refine R.sq ?_
  refine R.rg ?_
  refine R.bxA (fun zb1 hzb1 => ?_)
  refine R.bxA (fun zb2 hzb2 => ?_)
  refine R.as ?_
  refine R.nl ?_
  refine R.hs (e' := [(2, _), (3, _)]) ?_
  refine R.sq ?_
  refine R.rg ?_
  refine R.fa Try.runUnderlying42 Try.sizeOf3 ?_
  refine R.ld Try.isAgg3 ?_
  refine R.fa Try.runUnderlying42 Try.sizeOf3 ?_
  refine R.ld Try.isAgg3 ?_
  refine R.fa Try.runUnderlying42 Try.sizeOf3 ?_
  refine R.ld Try.isAgg3 ?_
  refine R.bs zc3 Try.runUnderlying45 Try.sizeOf3 Try.zeroValue3 (fun zb3 hzb3 => ?_)
  refine R.fa Try.runUnderlying42 Try.sizeOf3 ?_
  refine R.ld Try.isAgg3 ?_
  refine R.fa Try.runUnderlying42 Try.sizeOf3 ?_
  refine R.ld Try.isAgg3 ?_
  refine R.fa Try.runUnderlying42 Try.sizeOf3 ?_
  refine R.ld Try.isAgg3 ?_
  refine R.bs zc3 Try.runUnderlying45 Try.sizeOf3 Try.zeroValue3 (fun zb4 hzb4 => ?_)
  refine R.cg Try.call70 (refCmp_spec [_, _, _] [_, _, _] (Nat.le_of_ble_eq_true rfl) (Eq.refl 3) (Src.lit (.tail _ (.head _)) rfl) (Src.lit (.head _) rfl)) ?_
  refine R.as ?_
  refine R.nl ?_
  refine R.hs (e' := [(4, _)]) ?_
  refine R.rt (RV.t .nil) 4 (congrArg (Value.int .i64) ?_)
  simp only [ordL, orI, cmpI, cmpL]; grind
theorem row_spec {g : Gl} {D : Dict} {M : MList} (h : Ht) : Gets Try.prog g 71 [.agg (Ht.cells h).toArray] D M (fun v D => Ints D v [h.tau, h.oid, h.r, h.delta, h.id]) := by
  refine Gets.enter Try.func71 rfl Try.ntmps71 ?_
  refine R.sq ?_
  refine R.rg ?_
  refine R.bxA (fun zb1 hzb1 => ?_)
  refine R.as ?_
  refine R.nl ?_
  refine R.hs (e' := [(1, _)]) ?_
  refine R.sq ?_
  refine R.rg ?_
  refine R.fa Try.runUnderlying23 Try.sizeOf3 ?_
  refine R.ld Try.isAgg3 ?_
  refine R.fa Try.runUnderlying23 Try.sizeOf3 ?_
  refine R.ld Try.isAgg3 ?_
  refine R.fa Try.runUnderlying23 Try.sizeOf3 ?_
  refine R.ld Try.isAgg3 ?_
  refine R.fa Try.runUnderlying23 Try.sizeOf3 ?_
  refine R.ld Try.isAgg3 ?_
  refine R.fa Try.runUnderlying23 Try.sizeOf3 ?_
  refine R.ld Try.isAgg3 ?_
  refine R.bs zc3 Try.runUnderlying45 Try.sizeOf3 Try.zeroValue3 (fun zb2 hzb2 => ?_)
  refine R.as ?_
  refine R.nl ?_
  refine R.hs (e' := [(2, _)]) ?_
  refine Run.freeze (fun hle hn => ?_)
  exact R.rk (RV.t .nil) (2 - 1) ⟨hle, rfl, Lst.lit _ ins_self rfl (fun _ => rfl) rfl (Nat.le_refl _) (by simp [maxLen])⟩
theorem rows_less {a b : Ht} (ha : toldH a = true) (hb : toldH b = true) : cmpL [a.tau, a.oid, a.r, a.delta, a.id] [b.tau, b.oid, b.r, b.delta, b.id] = orI [ordL (lvlH a) (lvlH b), cmpI a.delta b.delta, cmpI a.id b.id] := by
  simp only [lvlH, ha, hb, if_true, ordL, orI, cmpI, cmpL]; grind
theorem refLess_spec {g : Gl} {D : Dict} {M : MList} (a b : Ht) : Gives Try.prog g 61 [.agg (Ht.cells a).toArray, .agg (Ht.cells b).toArray] D M (.bool (lessH a b)) := by
  have hle : Le D D := Le.rfl'
  refine Gives.enter Try.func61 rfl Try.ntmps61 ?_
  refine R.sq ?_
  refine R.rg ?_
  refine R.bxA (fun zb1 hzb1 => ?_)
  refine R.bxA (fun zb2 hzb2 => ?_)
  refine R.as ?_
  refine R.nl ?_
  refine R.hs (e' := [(2, _), (3, _)]) ?_
  refine R.sq ?_
  rcases Bool.eq_false_or_eq_true (toldH a) with zg3 | zg3
  ·
    rcases Bool.eq_false_or_eq_true (toldH b) with zg4 | zg4
    ·
      refine Run.drawC Grow.le 10 [(2, _), (3, _)] mix (by kernel_rfl) (by repeat (first | exact trivial | refine ⟨rfl, ?_⟩)) ?_
      apply TC.val []
      · exact rfl
      · kernel_rfl
      ·
        rintro zD5 hzD5 
        try replace hle := hle.mono hzD5
        refine R.lA 6 Try.isAgg23 Try.sizeOf23 ?_
        refine R.nl ?_
        exact Run.loc rfl Le.rfl' rfl
      apply TC.val [0]
      · exact rfl
      · kernel_rfl
      ·
        rintro zD6 hzD6 _ rfl
        try replace hle := hle.mono hzD6
        refine R.cg Try.call50 (refTold_spec _) ?_
        refine R.nl ?_
        exact Run.loc rfl Le.rfl' rfl
      apply TC.val [0]
      · exact rfl
      · kernel_rfl
      ·
        rintro zD7 hzD7 _ rfl
        try replace hle := hle.mono hzD7
        refine R.mv ?_
        refine R.nl ?_
        exact Run.loc rfl Le.rfl' rfl
      apply TC.val [0]
      · exact rfl
      · kernel_rfl
      ·
        rintro zD8 hzD8 _ rfl
        try replace hle := hle.mono hzD8
        refine R.gY (zg3) ?_
        refine R.lA 6 Try.isAgg23 Try.sizeOf23 ?_
        refine R.nl ?_
        exact Run.loc rfl Le.rfl' rfl
      apply TC.val [1, 0]
      · exact rfl
      · kernel_rfl
      ·
        rintro zD9 hzD9 _ rfl _ rfl
        try replace hle := hle.mono hzD9
        refine R.gY (zg3) ?_
        refine R.cg Try.call50 (refTold_spec _) ?_
        refine R.nl ?_
        exact Run.loc rfl Le.rfl' rfl
      apply TC.val [2, 0]
      · exact rfl
      · kernel_rfl
      ·
        rintro zD10 hzD10 _ rfl _ rfl
        try replace hle := hle.mono hzD10
        refine R.pT (zg3) ?_
        refine R.nl ?_
        exact Run.loc rfl Le.rfl' rfl
      apply TC.val [0]
      · exact rfl
      · kernel_rfl
      ·
        rintro zD11 hzD11 _ rfl
        try replace hle := hle.mono hzD11
        refine R.mv ?_
        refine R.nl ?_
        exact Run.loc rfl Le.rfl' rfl
      apply TC.val [0]
      · exact rfl
      · kernel_rfl
      ·
        rintro zD12 hzD12 _ rfl
        try replace hle := hle.mono hzD12
        refine R.gY (zg4) ?_
        refine R.lA 6 Try.isAgg23 Try.sizeOf23 ?_
        refine R.nl ?_
        exact Run.loc rfl Le.rfl' rfl
      apply TC.fctM [1, 0]
      · exact rfl
      · kernel_rfl
      ·
        rintro zD13 hzD13 _ rfl _ rfl
        try replace hle := hle.mono hzD13
        refine R.gY (zg4) ?_
        refine R.gt Try.call71 (row_spec _) (fun zr1_8 zD14 hzD14 hzr1_8 => ?_)
        try replace hle := hle.mono hzD14
        refine R.nl ?_
        exact Run.loc rfl hzD14 hzr1_8
      · exact fun _ _ _ hR h => h.mono hR
      apply TC.val [2]
      · exact rfl
      · kernel_rfl
      ·
        rintro zD15 hzD15 _ rfl
        try replace hle := hle.mono hzD15
        refine R.gY (zg4) ?_
        refine R.lA 6 Try.isAgg23 Try.sizeOf23 ?_
        refine R.nl ?_
        exact Run.loc rfl Le.rfl' rfl
      refine TC.fin (by rfl) ?_
      rintro zD16 hzD16 _ rfl zr1_8 hzr1_8 _ rfl _ rfl _ rfl _ rfl _ rfl _ rfl _ rfl _ rfl
      try replace hle := hle.mono hzD16
      refine R.gY (zg4) ?_
      refine R.gt Try.call71 (row_spec _) (fun zr1_10 zD17 hzD17 hzr1_10 => ?_)
      try replace hle := hle.mono hzD17
      try replace hzr1_8 := hzr1_8.mono hzD17
      refine R.gY (zg4) ?_
      refine R.cg Try.call70 (refCmp_spec [_, _, _, _, _] [_, _, _, _, _] (Nat.le_of_ble_eq_true rfl) (Eq.refl 5) (by rw [ints_flat]; exact hzr1_8.src _) (by rw [ints_flat]; exact hzr1_10.src _)) ?_
      refine R.gY (zg4) ?_
      refine R.cm ?_
      refine R.pT (zg4) ?_
      refine R.as ?_
      refine R.nl ?_
      refine R.hs (e' := [(4, _)]) ?_
      refine R.rl (RV.t .nil) 2 hle (congrArg Value.bool ?_)
      simp_all [lessH, rows_less]
    ·
      refine Run.drawC Grow.le 10 [(2, _), (3, _)] mix (by kernel_rfl) (by repeat (first | exact trivial | refine ⟨rfl, ?_⟩)) ?_
      apply TC.val []
      · exact rfl
      · kernel_rfl
      ·
        rintro zD18 hzD18 
        try replace hle := hle.mono hzD18
        try replace hzr1_8 := hzr1_8.mono hzD18
        try replace hzr1_10 := hzr1_10.mono hzD18
        refine R.lA 6 Try.isAgg23 Try.sizeOf23 ?_
        refine R.nl ?_
        exact Run.loc rfl Le.rfl' rfl
      apply TC.val [0]
      · exact rfl
      · kernel_rfl
      ·
        rintro zD19 hzD19 _ rfl
        try replace hle := hle.mono hzD19
        try replace hzr1_8 := hzr1_8.mono hzD19
        try replace hzr1_10 := hzr1_10.mono hzD19
        refine R.cg Try.call50 (refTold_spec _) ?_
        refine R.nl ?_
        exact Run.loc rfl Le.rfl' rfl
      apply TC.val [0]
      · exact rfl
      · kernel_rfl
      ·
        rintro zD20 hzD20 _ rfl
        try replace hle := hle.mono hzD20
        try replace hzr1_8 := hzr1_8.mono hzD20
        try replace hzr1_10 := hzr1_10.mono hzD20
        refine R.mv ?_
        refine R.nl ?_
        exact Run.loc rfl Le.rfl' rfl
      apply TC.val [0]
      · exact rfl
      · kernel_rfl
      ·
        rintro zD21 hzD21 _ rfl
        try replace hle := hle.mono hzD21
        try replace hzr1_8 := hzr1_8.mono hzD21
        try replace hzr1_10 := hzr1_10.mono hzD21
        refine R.gY (zg3) ?_
        refine R.lA 6 Try.isAgg23 Try.sizeOf23 ?_
        refine R.nl ?_
        exact Run.loc rfl Le.rfl' rfl
      apply TC.val [1, 0]
      · exact rfl
      · kernel_rfl
      ·
        rintro zD22 hzD22 _ rfl _ rfl
        try replace hle := hle.mono hzD22
        try replace hzr1_8 := hzr1_8.mono hzD22
        try replace hzr1_10 := hzr1_10.mono hzD22
        refine R.gY (zg3) ?_
        refine R.cg Try.call50 (refTold_spec _) ?_
        refine R.nl ?_
        exact Run.loc rfl Le.rfl' rfl
      apply TC.val [2, 0]
      · exact rfl
      · kernel_rfl
      ·
        rintro zD23 hzD23 _ rfl _ rfl
        try replace hle := hle.mono hzD23
        try replace hzr1_8 := hzr1_8.mono hzD23
        try replace hzr1_10 := hzr1_10.mono hzD23
        refine R.pT (zg3) ?_
        refine R.nl ?_
        exact Run.loc rfl Le.rfl' rfl
      apply TC.val [0]
      · exact rfl
      · kernel_rfl
      ·
        rintro zD24 hzD24 _ rfl
        try replace hle := hle.mono hzD24
        try replace hzr1_8 := hzr1_8.mono hzD24
        try replace hzr1_10 := hzr1_10.mono hzD24
        refine R.mv ?_
        refine R.nl ?_
        exact Run.loc rfl Le.rfl' rfl
      apply TC.val [0]
      · exact rfl
      · kernel_rfl
      ·
        rintro zD25 hzD25 _ rfl
        try replace hle := hle.mono hzD25
        try replace hzr1_8 := hzr1_8.mono hzD25
        try replace hzr1_10 := hzr1_10.mono hzD25
        refine R.gF (zg4) ?_
        refine R.nl ?_
        exact Run.loc rfl Le.rfl' rfl
      apply TC.val [1, 0]
      · exact rfl
      · kernel_rfl
      ·
        rintro zD26 hzD26 _ rfl _ rfl
        try replace hle := hle.mono hzD26
        try replace hzr1_8 := hzr1_8.mono hzD26
        try replace hzr1_10 := hzr1_10.mono hzD26
        refine R.gF (zg4) ?_
        refine R.nl ?_
        exact Run.loc rfl Le.rfl' rfl
      apply TC.val [2]
      · exact rfl
      · kernel_rfl
      ·
        rintro zD27 hzD27 _ rfl
        try replace hle := hle.mono hzD27
        try replace hzr1_8 := hzr1_8.mono hzD27
        try replace hzr1_10 := hzr1_10.mono hzD27
        refine R.gF (zg4) ?_
        refine R.nl ?_
        exact Run.loc rfl Le.rfl' rfl
      refine TC.fin (by rfl) ?_
      rintro zD28 hzD28 _ rfl _ rfl _ rfl _ rfl _ rfl _ rfl _ rfl _ rfl _ rfl _ rfl
      try replace hle := hle.mono hzD28
      try replace hzr1_8 := hzr1_8.mono hzD28
      try replace hzr1_10 := hzr1_10.mono hzD28
      refine R.gF (zg4) ?_
      refine R.gF (zg4) ?_
      refine R.gF (zg4) ?_
      refine R.pF (zg4) ?_
      refine R.as ?_
      refine R.nl ?_
      refine R.hs (e' := [(4, _)]) ?_
      refine R.rl (RV.t .nil) 2 hle (congrArg Value.bool ?_)
      simp_all [lessH, rows_less]
  ·
    refine Run.drawC Grow.le 10 [(2, _), (3, _)] mix (by kernel_rfl) (by repeat (first | exact trivial | refine ⟨rfl, ?_⟩)) ?_
    apply TC.val []
    · exact rfl
    · kernel_rfl
    ·
      rintro zD29 hzD29 
      try replace hle := hle.mono hzD29
      try replace hzr1_8 := hzr1_8.mono hzD29
      try replace hzr1_10 := hzr1_10.mono hzD29
      refine R.lA 6 Try.isAgg23 Try.sizeOf23 ?_
      refine R.nl ?_
      exact Run.loc rfl Le.rfl' rfl
    apply TC.val [0]
    · exact rfl
    · kernel_rfl
    ·
      rintro zD30 hzD30 _ rfl
      try replace hle := hle.mono hzD30
      try replace hzr1_8 := hzr1_8.mono hzD30
      try replace hzr1_10 := hzr1_10.mono hzD30
      refine R.cg Try.call50 (refTold_spec _) ?_
      refine R.nl ?_
      exact Run.loc rfl Le.rfl' rfl
    apply TC.val [0]
    · exact rfl
    · kernel_rfl
    ·
      rintro zD31 hzD31 _ rfl
      try replace hle := hle.mono hzD31
      try replace hzr1_8 := hzr1_8.mono hzD31
      try replace hzr1_10 := hzr1_10.mono hzD31
      refine R.mv ?_
      refine R.nl ?_
      exact Run.loc rfl Le.rfl' rfl
    apply TC.val [0]
    · exact rfl
    · kernel_rfl
    ·
      rintro zD32 hzD32 _ rfl
      try replace hle := hle.mono hzD32
      try replace hzr1_8 := hzr1_8.mono hzD32
      try replace hzr1_10 := hzr1_10.mono hzD32
      refine R.gF (zg3) ?_
      refine R.nl ?_
      exact Run.loc rfl Le.rfl' rfl
    apply TC.val [1, 0]
    · exact rfl
    · kernel_rfl
    ·
      rintro zD33 hzD33 _ rfl _ rfl
      try replace hle := hle.mono hzD33
      try replace hzr1_8 := hzr1_8.mono hzD33
      try replace hzr1_10 := hzr1_10.mono hzD33
      refine R.gF (zg3) ?_
      refine R.nl ?_
      exact Run.loc rfl Le.rfl' rfl
    apply TC.val [2, 0]
    · exact rfl
    · kernel_rfl
    ·
      rintro zD34 hzD34 _ rfl _ rfl
      try replace hle := hle.mono hzD34
      try replace hzr1_8 := hzr1_8.mono hzD34
      try replace hzr1_10 := hzr1_10.mono hzD34
      refine R.pF (zg3) ?_
      refine R.nl ?_
      exact Run.loc rfl Le.rfl' rfl
    apply TC.val [0]
    · exact rfl
    · kernel_rfl
    ·
      rintro zD35 hzD35 _ rfl
      try replace hle := hle.mono hzD35
      try replace hzr1_8 := hzr1_8.mono hzD35
      try replace hzr1_10 := hzr1_10.mono hzD35
      refine R.mv ?_
      refine R.nl ?_
      exact Run.loc rfl Le.rfl' rfl
    apply TC.val [0]
    · exact rfl
    · kernel_rfl
    ·
      rintro zD36 hzD36 _ rfl
      try replace hle := hle.mono hzD36
      try replace hzr1_8 := hzr1_8.mono hzD36
      try replace hzr1_10 := hzr1_10.mono hzD36
      refine R.gF (rfl) ?_
      refine R.nl ?_
      exact Run.loc rfl Le.rfl' rfl
    apply TC.val [1, 0]
    · exact rfl
    · kernel_rfl
    ·
      rintro zD37 hzD37 _ rfl _ rfl
      try replace hle := hle.mono hzD37
      try replace hzr1_8 := hzr1_8.mono hzD37
      try replace hzr1_10 := hzr1_10.mono hzD37
      refine R.gF (rfl) ?_
      refine R.nl ?_
      exact Run.loc rfl Le.rfl' rfl
    apply TC.val [2]
    · exact rfl
    · kernel_rfl
    ·
      rintro zD38 hzD38 _ rfl
      try replace hle := hle.mono hzD38
      try replace hzr1_8 := hzr1_8.mono hzD38
      try replace hzr1_10 := hzr1_10.mono hzD38
      refine R.gF (rfl) ?_
      refine R.nl ?_
      exact Run.loc rfl Le.rfl' rfl
    refine TC.fin (by rfl) ?_
    rintro zD39 hzD39 _ rfl _ rfl _ rfl _ rfl _ rfl _ rfl _ rfl _ rfl _ rfl _ rfl
    try replace hle := hle.mono hzD39
    try replace hzr1_8 := hzr1_8.mono hzD39
    try replace hzr1_10 := hzr1_10.mono hzD39
    refine R.gF (rfl) ?_
    refine R.gF (rfl) ?_
    refine R.gF (rfl) ?_
    refine R.pF (rfl) ?_
    refine R.as ?_
    refine R.nl ?_
    refine R.hs (e' := [(4, _)]) ?_
    refine R.rl (RV.t .nil) 2 hle (congrArg Value.bool ?_)
    simp_all [lessH, rows_less]
end Go.Proofs.Ytgdpjpmjcpieiaa
