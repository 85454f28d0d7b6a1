import Derived.Test.YtgdpjpmjcpieiaaGreatQ2
/- Heights: which is less, by the document's answer. No condition. -/
namespace Go.Proofs.YtgdpjpmjcpieiaaGreat
open Go
set_option linter.unusedVariables false
set_option linter.unusedSimpArgs false
set_option maxRecDepth 100000
set_option maxHeartbeats 0
def cmpL : List Int → List Int → Int
  | x :: xs, y :: ys => if x < y then -1 else if y < x then 1 else cmpL xs ys
  | _, _ => 0
theorem cmpL_drop {xs ys : List Int} {i : Nat} {x y : Int} (hx : xs[i]? = some x) (hy : ys[i]? = some y) : cmpL (xs.drop i) (ys.drop i) = if x < y then -1 else if y < x then 1 else cmpL (xs.drop (i + 1)) (ys.drop (i + 1)) := by
  have h1 : i < xs.length := by
    rcases Nat.lt_or_ge i xs.length with h1 | h1
    · exact h1
    · rw [List.getElem?_eq_none h1] at hx; cases hx
  have h2 : i < ys.length := by
    rcases Nat.lt_or_ge i ys.length with h1 | h1
    · exact h1
    · rw [List.getElem?_eq_none h1] at hy; cases hy
  rw [List.drop_eq_getElem_cons h1, List.drop_eq_getElem_cons h2, cmpL]
  rw [List.getElem?_eq_getElem h1] at hx
  rw [List.getElem?_eq_getElem h2] at hy
  injection hx with hx
  injection hy with hy
  rw [hx, hy]
theorem refCmp_spec {g : Gl} {D : Dict} {M : MList} {u v : Value} (xs ys : List Int) (hn : xs.length ≤ 100) (hl : ys.length = xs.length) (h : Src D M 1 u xs.length (ints xs)) (h' : Src D M 1 v ys.length (ints ys)) : Gives Tryz.prog g 163 [u, v] D M (.int .i64 (cmpL xs ys)) := by
  obtain ⟨_, A, c, rfl, _⟩ := id h
  obtain ⟨_, A', c', rfl, _⟩ := id h'
  refine Gives.enter Tryz.func163 rfl Tryz.ntmps163 ?_; refine R.sq ?_; refine R.rg ?_; refine R.as ?_; refine R.nl ?_; refine R.hs (e' := [(0, _), (1, _)]) ?_; refine R.sq ?_; refine R.sq ?_; refine R.rg ?_; refine R.as ?_; refine R.nl ?_; refine R.hs (e' := [(0, _), (1, _), (5, _)]) ?_; refine Run.block ?_; refine Run.loop (ι := Nat) [(0, _), (1, _)] (fun i => [(5, .int .i64 (i : Int))]) (fun _ => D) (fun _ => M) (fun i => i ≤ xs.length ∧ cmpL (xs.drop i) (ys.drop i) = cmpL xs ys) (fun i => xs.length - i) (0) (by repeat (first | exact trivial | refine ⟨rfl, ?_⟩)) ?h0 (by repeat (first | exact trivial | refine ⟨rfl, ?_⟩)) (fun w hs => hs) ?_
  case h0 => exact ⟨Nat.zero_le _, rfl⟩
  rintro i ⟨hi, hpre⟩; refine R.sq ?_; refine R.sq ?_; refine R.rg ?_; refine R.mv ?_; refine R.mv ?_; refine R.ln Tryz.runUnderlying56 ?_; refine R.cm ?_; refine R.nl ?_; refine R.hs (e' := [(0, _), (1, _), (5, _), (9, _)]) ?_; refine R.cd (fun zc1 => ?_) (fun zc1 => ?_)
  ·
   have hlt : i < xs.length := by simp at zc1; omega
   obtain ⟨x, hgx⟩ : ∃ x, xs[i]? = some x := ⟨xs[i], List.getElem?_eq_getElem hlt⟩
   obtain ⟨y, hgy⟩ : ∃ y, ys[i]? = some y := ⟨ys[i], List.getElem?_eq_getElem (by omega)⟩
   obtain ⟨b1, o1, hI1, hc1⟩ := h.at (ints_flat xs) (fun _ => rfl) hgx
   obtain ⟨b2, o2, hI2, hc2⟩ := h'.at (ints_flat ys) (fun _ => rfl) hgy
   refine Run.skip ?_; refine R.sq ?_; refine Run.block ?_; refine R.sq ?_; refine R.sq ?_; refine Run.drawC Grow.eq 8 [(0, _), (1, _), (5, _)] mix (by kernel_rfl) (by repeat (first | exact trivial | refine ⟨rfl, ?_⟩)) ?_; apply TC.val []; exact rfl; kernel_rfl
   ·rintro _ rfl ; refine R.mv ?_; refine R.nl ?_; exact Run.loc rfl rfl rfl
   apply TC.val []; exact rfl; kernel_rfl
   ·rintro _ rfl ; refine R.mv ?_; refine R.nl ?_; exact Run.loc rfl rfl rfl
   apply TC.val [1, 0]; exact rfl; kernel_rfl
   ·rintro _ rfl _ rfl _ rfl; refine R.ix (hI1) Tryz.runUnderlying56 Tryz.sizeOf3 ?_; refine R.nl ?_; exact Run.loc rfl rfl rfl
   apply TC.val [0]; exact rfl; kernel_rfl
   ·rintro _ rfl _ rfl; refine R.ldD Tryz.isAgg3 ?_; refine R.nl ?_; exact Run.loc rfl rfl rfl
   apply TC.val []; exact rfl; kernel_rfl
   ·rintro _ rfl ; refine R.mv ?_; refine R.nl ?_; exact Run.loc rfl rfl rfl
   apply TC.val []; exact rfl; kernel_rfl
   ·rintro _ rfl ; refine R.mv ?_; refine R.nl ?_; exact Run.loc rfl rfl rfl
   apply TC.val [1, 0]; exact rfl; kernel_rfl
   ·rintro _ rfl _ rfl _ rfl; refine R.ix (hI2) Tryz.runUnderlying56 Tryz.sizeOf3 ?_; refine R.nl ?_; exact Run.loc rfl rfl rfl
   apply TC.val [0]; exact rfl; kernel_rfl
   ·rintro _ rfl _ rfl; refine R.ldD Tryz.isAgg3 ?_; refine R.nl ?_; exact Run.loc rfl rfl rfl
   refine TC.fin (by rfl) ?_; rintro _ rfl _ rfl _ rfl _ rfl _ rfl _ rfl _ rfl _ rfl _ rfl; refine R.cm ?_; refine R.nl ?_; refine R.hs (e' := [(0, _), (1, _), (5, _), (20, _)]) ?_; refine R.cd (fun zc11 => ?_) (fun zc11 => ?_)
   ·
    have hxa : x < y := by simpa using zc11
    have hz : cmpL xs ys = -1 := by rw [← hpre, cmpL_drop hgx hgy, if_pos hxa]
    refine R.sq ?_; refine R.rg ?_; refine R.as ?_; refine R.nl ?_; refine R.hs (e' := [(4, _)]) ?_; exact R.rt (RV.t .nil) 0 (congrArg (Value.int .i64) hz.symm)
   ·
    have hxa : ¬ x < y := by simpa using zc11
    refine Run.skip ?_; refine R.sq ?_; refine Run.drawC Grow.eq 8 [(0, _), (1, _), (5, _)] mix (by kernel_rfl) (by repeat (first | exact trivial | refine ⟨rfl, ?_⟩)) ?_; apply TC.val []; exact rfl; kernel_rfl
    ·rintro _ rfl ; refine R.mv ?_; refine R.nl ?_; exact Run.loc rfl rfl rfl
    apply TC.val []; exact rfl; kernel_rfl
    ·rintro _ rfl ; refine R.mv ?_; refine R.nl ?_; exact Run.loc rfl rfl rfl
    apply TC.val [1, 0]; exact rfl; kernel_rfl
    ·rintro _ rfl _ rfl _ rfl; refine R.ix (hI1) Tryz.runUnderlying56 Tryz.sizeOf3 ?_; refine R.nl ?_; exact Run.loc rfl rfl rfl
    apply TC.val [0]; exact rfl; kernel_rfl
    ·rintro _ rfl _ rfl; refine R.ldD Tryz.isAgg3 ?_; refine R.nl ?_; exact Run.loc rfl rfl rfl
    apply TC.val []; exact rfl; kernel_rfl
    ·rintro _ rfl ; refine R.mv ?_; refine R.nl ?_; exact Run.loc rfl rfl rfl
    apply TC.val []; exact rfl; kernel_rfl
    ·rintro _ rfl ; refine R.mv ?_; refine R.nl ?_; exact Run.loc rfl rfl rfl
    apply TC.val [1, 0]; exact rfl; kernel_rfl
    ·rintro _ rfl _ rfl _ rfl; refine R.ix (hI2) Tryz.runUnderlying56 Tryz.sizeOf3 ?_; refine R.nl ?_; exact Run.loc rfl rfl rfl
    apply TC.val [0]; exact rfl; kernel_rfl
    ·rintro _ rfl _ rfl; refine R.ldD Tryz.isAgg3 ?_; refine R.nl ?_; exact Run.loc rfl rfl rfl
    refine TC.fin (by rfl) ?_; rintro _ rfl _ rfl _ rfl _ rfl _ rfl _ rfl _ rfl _ rfl _ rfl; refine R.cm ?_; refine R.nl ?_; refine R.hs (e' := [(0, _), (1, _), (5, _), (29, _)]) ?_; refine R.cd (fun zc21 => ?_) (fun zc21 => ?_)
    ·
     have hxb : y < x := by simpa using zc21
     have hz : cmpL xs ys = 1 := by rw [← hpre, cmpL_drop hgx hgy, if_neg hxa, if_pos hxb]
     refine R.sq ?_; refine R.rg ?_; refine R.as ?_; refine R.nl ?_; refine R.hs (e' := [(4, _)]) ?_; exact R.rt (RV.t .nil) 0 (congrArg (Value.int .i64) hz.symm)
    ·
     have hxb : ¬ y < x := by simpa using zc21
     refine Run.skip ?_; refine Run.endBlock ?_; refine R.rg ?_; refine R.mv ?_; refine R.ad ?_; refine R.as ?_; refine R.nl ?_; refine R.hs (e' := [(0, _), (1, _), (5, _)]) ?_; exact Run.again (i + 1) ⟨by omega, by rw [← hpre, cmpL_drop hgx hgy, if_neg hxa, if_neg hxb]⟩ (by omega) ⟨rfl, by repeat (first | exact trivial | refine ⟨rfl, ?_⟩)⟩ (fun w hs => hs)
  ·
   have hge : i = xs.length := by simp at zc1; omega
   have hz : cmpL xs ys = 0 := by rw [← hpre, hge, List.drop_length, ← hl, List.drop_length]; rfl
   refine Run.exit rfl ?_; refine R.sq ?_; refine R.rg ?_; refine R.as ?_; refine R.nl ?_; refine R.hs (e' := [(4, _)]) ?_; exact R.rt (RV.t .nil) 0 (congrArg (Value.int .i64) hz.symm)
theorem refOrd_spec {g : Gl} {D : Dict} {M : MList} (a b : Lv) : Gives Tryz.prog g 134 [.agg (Lv.cells a).toArray, .agg (Lv.cells b).toArray] D M (.int .i64 (ordL a b)) := by
  refine Gives.enter Tryz.func134 rfl Tryz.ntmps134 ?_; refine R.sq ?_; refine R.rg ?_; refine R.bxA (fun zb1 hzb1 => ?_); refine R.bxA (fun zb2 hzb2 => ?_); refine R.as ?_; refine R.nl ?_; refine R.hs (e' := [(2, _), (3, _)]) ?_; refine R.sq ?_; refine R.rg ?_; refine R.fa Tryz.runUnderlying28 Tryz.sizeOf3 ?_; refine R.ld Tryz.isAgg3 ?_; refine R.fa Tryz.runUnderlying28 Tryz.sizeOf3 ?_; refine R.ld Tryz.isAgg3 ?_; refine R.fa Tryz.runUnderlying28 Tryz.sizeOf3 ?_; refine R.ld Tryz.isAgg3 ?_; refine R.bs zc3 Tryz.runUnderlying56 Tryz.sizeOf3 Tryz.zeroValue3 (fun zb3 hzb3 => ?_); refine R.fa Tryz.runUnderlying28 Tryz.sizeOf3 ?_; refine R.ld Tryz.isAgg3 ?_; refine R.fa Tryz.runUnderlying28 Tryz.sizeOf3 ?_; refine R.ld Tryz.isAgg3 ?_; refine R.fa Tryz.runUnderlying28 Tryz.sizeOf3 ?_; refine R.ld Tryz.isAgg3 ?_
  refine R.bs zc3 Tryz.runUnderlying56 Tryz.sizeOf3 Tryz.zeroValue3 (fun zb4 hzb4 => ?_); refine R.cg Tryz.call163 (refCmp_spec [_, _, _] [_, _, _] (Nat.le_of_ble_eq_true rfl) (Eq.refl 3) (Src.lit (.tail _ (.head _)) rfl) (Src.lit (.head _) rfl)) ?_; refine R.as ?_; refine R.nl ?_; refine R.hs (e' := [(4, _)]) ?_; refine R.rt (RV.t .nil) 4 (congrArg (Value.int .i64) ?_)
  simp only [ordL, orI, cmpI, cmpL]; grind
theorem row_spec {g : Gl} {D : Dict} {M : MList} (h : Ht) : Gets Tryz.prog g 169 [.agg (Ht.cells h).toArray] D M (fun v D => Ints D v [h.tau, h.oid, h.r, h.delta, h.id]) := by
  refine Gets.enter Tryz.func169 rfl Tryz.ntmps169 ?_; refine R.sq ?_; refine R.rg ?_; refine R.bxA (fun zb1 hzb1 => ?_); refine R.as ?_; refine R.nl ?_; refine R.hs (e' := [(1, _)]) ?_; refine R.sq ?_; refine R.rg ?_; refine R.fa Tryz.runUnderlying23 Tryz.sizeOf3 ?_; refine R.ld Tryz.isAgg3 ?_; refine R.fa Tryz.runUnderlying23 Tryz.sizeOf3 ?_; refine R.ld Tryz.isAgg3 ?_; refine R.fa Tryz.runUnderlying23 Tryz.sizeOf3 ?_; refine R.ld Tryz.isAgg3 ?_; refine R.fa Tryz.runUnderlying23 Tryz.sizeOf3 ?_; refine R.ld Tryz.isAgg3 ?_; refine R.fa Tryz.runUnderlying23 Tryz.sizeOf3 ?_; refine R.ld Tryz.isAgg3 ?_; refine R.bs zc3 Tryz.runUnderlying56 Tryz.sizeOf3 Tryz.zeroValue3 (fun zb2 hzb2 => ?_); refine R.as ?_; refine R.nl ?_; refine R.hs (e' := [(2, _)]) ?_; refine Run.freeze (fun hle hn => ?_)
  exact R.rk (RV.t .nil) (2 - 1) ⟨hle, rfl, Lst.lit _ ins_self rfl (fun _ => rfl) rfl (Nat.le_refl _) (by simp [maxLen])⟩
theorem rows_less {a b : Ht} (ha : toldH a = true) (hb : toldH b = true) : cmpL [a.tau, a.oid, a.r, a.delta, a.id] [b.tau, b.oid, b.r, b.delta, b.id] = orI [ordL (lvlH a) (lvlH b), cmpI a.delta b.delta, cmpI a.id b.id] := by
  simp only [lvlH, ha, hb, if_true, ordL, orI, cmpI, cmpL]; grind
theorem refLess_spec {g : Gl} {D : Dict} {M : MList} (a b : Ht) : Gives Tryz.prog g 161 [.agg (Ht.cells a).toArray, .agg (Ht.cells b).toArray] D M (.bool (lessH a b)) := by
  have hle : Le D D := Le.rfl'
  refine Gives.enter Tryz.func161 rfl Tryz.ntmps161 ?_; refine R.sq ?_; refine R.rg ?_; refine R.bxA (fun zb1 hzb1 => ?_); refine R.bxA (fun zb2 hzb2 => ?_); refine R.as ?_; refine R.nl ?_; refine R.hs (e' := [(2, _), (3, _)]) ?_; refine R.sq ?_
  rcases Bool.eq_false_or_eq_true (toldH a) with zg3 | zg3
  ·
   rcases Bool.eq_false_or_eq_true (toldH b) with zg4 | zg4
   ·refine Run.drawC Grow.le 10 [(2, _), (3, _)] mix (by kernel_rfl) (by repeat (first | exact trivial | refine ⟨rfl, ?_⟩)) ?_; apply TC.val []; exact rfl; kernel_rfl
    ·rintro zD5 hzD5 
     try replace hle := hle.mono hzD5
     refine R.lA 6 Tryz.isAgg23 Tryz.sizeOf23 ?_; refine R.nl ?_; exact Run.loc rfl Le.rfl' rfl
    apply TC.val [0]; exact rfl; kernel_rfl
    ·rintro zD6 hzD6 _ rfl
     try replace hle := hle.mono hzD6
     refine R.cg Tryz.call111 (refTold_spec _) ?_; refine R.nl ?_; exact Run.loc rfl Le.rfl' rfl
    apply TC.val [0]; exact rfl; kernel_rfl
    ·rintro zD7 hzD7 _ rfl
     try replace hle := hle.mono hzD7
     refine R.mv ?_; refine R.nl ?_; exact Run.loc rfl Le.rfl' rfl
    apply TC.val [0]; exact rfl; kernel_rfl
    ·rintro zD8 hzD8 _ rfl
     try replace hle := hle.mono hzD8
     refine R.gY (zg3) ?_; refine R.lA 6 Tryz.isAgg23 Tryz.sizeOf23 ?_; refine R.nl ?_; exact Run.loc rfl Le.rfl' rfl
    apply TC.val [1, 0]; exact rfl; kernel_rfl
    ·rintro zD9 hzD9 _ rfl _ rfl
     try replace hle := hle.mono hzD9
     refine R.gY (zg3) ?_; refine R.cg Tryz.call111 (refTold_spec _) ?_; refine R.nl ?_; exact Run.loc rfl Le.rfl' rfl
    apply TC.val [2, 0]; exact rfl; kernel_rfl
    ·rintro zD10 hzD10 _ rfl _ rfl
     try replace hle := hle.mono hzD10
     refine R.pT (zg3) ?_; refine R.nl ?_; exact Run.loc rfl Le.rfl' rfl
    apply TC.val [0]; exact rfl; kernel_rfl
    ·rintro zD11 hzD11 _ rfl
     try replace hle := hle.mono hzD11
     refine R.mv ?_; refine R.nl ?_; exact Run.loc rfl Le.rfl' rfl
    apply TC.val [0]; exact rfl; kernel_rfl
    ·rintro zD12 hzD12 _ rfl
     try replace hle := hle.mono hzD12
     refine R.gY (zg4) ?_; refine R.lA 6 Tryz.isAgg23 Tryz.sizeOf23 ?_; refine R.nl ?_; exact Run.loc rfl Le.rfl' rfl
    apply TC.fctM [1, 0]; exact rfl; kernel_rfl
    ·rintro zD13 hzD13 _ rfl _ rfl
     try replace hle := hle.mono hzD13
     refine R.gY (zg4) ?_; refine R.gt Tryz.call169 (row_spec _) (fun zr1_8 zD14 hzD14 hzr1_8 => ?_)
     try replace hle := hle.mono hzD14
     refine R.nl ?_; exact Run.loc rfl hzD14 hzr1_8
    · exact fun _ _ _ hR h => h.mono hR
    apply TC.val [2]; exact rfl; kernel_rfl
    ·rintro zD15 hzD15 _ rfl
     try replace hle := hle.mono hzD15
     refine R.gY (zg4) ?_; refine R.lA 6 Tryz.isAgg23 Tryz.sizeOf23 ?_; refine R.nl ?_; exact Run.loc rfl Le.rfl' rfl
    refine TC.fin (by rfl) ?_; rintro zD16 hzD16 _ rfl zr1_8 hzr1_8 _ rfl _ rfl _ rfl _ rfl _ rfl _ rfl _ rfl _ rfl
    try replace hle := hle.mono hzD16
    refine R.gY (zg4) ?_; refine R.gt Tryz.call169 (row_spec _) (fun zr1_10 zD17 hzD17 hzr1_10 => ?_)
    try replace hle := hle.mono hzD17
    try replace hzr1_8 := hzr1_8.mono hzD17
    refine R.gY (zg4) ?_; refine R.cg Tryz.call163 (refCmp_spec [_, _, _, _, _] [_, _, _, _, _] (Nat.le_of_ble_eq_true rfl) (Eq.refl 5) (by rw [ints_flat]; exact hzr1_8.src _) (by rw [ints_flat]; exact hzr1_10.src _)) ?_; refine R.gY (zg4) ?_; refine R.cm ?_; refine R.pT (zg4) ?_; refine R.as ?_; refine R.nl ?_; refine R.hs (e' := [(4, _)]) ?_; refine R.rl (RV.t .nil) 2 hle (congrArg Value.bool ?_)
    simp_all [lessH, rows_less]
   ·refine Run.drawC Grow.le 10 [(2, _), (3, _)] mix (by kernel_rfl) (by repeat (first | exact trivial | refine ⟨rfl, ?_⟩)) ?_; apply TC.val []; exact rfl; kernel_rfl
    ·rintro zD18 hzD18 
     try replace hle := hle.mono hzD18
     try replace hzr1_8 := hzr1_8.mono hzD18
     try replace hzr1_10 := hzr1_10.mono hzD18
     refine R.lA 6 Tryz.isAgg23 Tryz.sizeOf23 ?_; refine R.nl ?_; exact Run.loc rfl Le.rfl' rfl
    apply TC.val [0]; exact rfl; kernel_rfl
    ·rintro zD19 hzD19 _ rfl
     try replace hle := hle.mono hzD19
     try replace hzr1_8 := hzr1_8.mono hzD19
     try replace hzr1_10 := hzr1_10.mono hzD19
     refine R.cg Tryz.call111 (refTold_spec _) ?_; refine R.nl ?_; exact Run.loc rfl Le.rfl' rfl
    apply TC.val [0]; exact rfl; kernel_rfl
    ·rintro zD20 hzD20 _ rfl
     try replace hle := hle.mono hzD20
     try replace hzr1_8 := hzr1_8.mono hzD20
     try replace hzr1_10 := hzr1_10.mono hzD20
     refine R.mv ?_; refine R.nl ?_; exact Run.loc rfl Le.rfl' rfl
    apply TC.val [0]; exact rfl; kernel_rfl
    ·rintro zD21 hzD21 _ rfl
     try replace hle := hle.mono hzD21
     try replace hzr1_8 := hzr1_8.mono hzD21
     try replace hzr1_10 := hzr1_10.mono hzD21
     refine R.gY (zg3) ?_; refine R.lA 6 Tryz.isAgg23 Tryz.sizeOf23 ?_; refine R.nl ?_; exact Run.loc rfl Le.rfl' rfl
    apply TC.val [1, 0]; exact rfl; kernel_rfl
    ·rintro zD22 hzD22 _ rfl _ rfl
     try replace hle := hle.mono hzD22
     try replace hzr1_8 := hzr1_8.mono hzD22
     try replace hzr1_10 := hzr1_10.mono hzD22
     refine R.gY (zg3) ?_; refine R.cg Tryz.call111 (refTold_spec _) ?_; refine R.nl ?_; exact Run.loc rfl Le.rfl' rfl
    apply TC.val [2, 0]; exact rfl; kernel_rfl
    ·rintro zD23 hzD23 _ rfl _ rfl
     try replace hle := hle.mono hzD23
     try replace hzr1_8 := hzr1_8.mono hzD23
     try replace hzr1_10 := hzr1_10.mono hzD23
     refine R.pT (zg3) ?_; refine R.nl ?_; exact Run.loc rfl Le.rfl' rfl
    apply TC.val [0]; exact rfl; kernel_rfl
    ·rintro zD24 hzD24 _ rfl
     try replace hle := hle.mono hzD24
     try replace hzr1_8 := hzr1_8.mono hzD24
     try replace hzr1_10 := hzr1_10.mono hzD24
     refine R.mv ?_; refine R.nl ?_; exact Run.loc rfl Le.rfl' rfl
    apply TC.val [0]; exact rfl; kernel_rfl
    ·rintro zD25 hzD25 _ rfl
     try replace hle := hle.mono hzD25
     try replace hzr1_8 := hzr1_8.mono hzD25
     try replace hzr1_10 := hzr1_10.mono hzD25
     refine R.gF (zg4) ?_; refine R.nl ?_; exact Run.loc rfl Le.rfl' rfl
    apply TC.val [1, 0]; exact rfl; kernel_rfl
    ·rintro zD26 hzD26 _ rfl _ rfl
     try replace hle := hle.mono hzD26
     try replace hzr1_8 := hzr1_8.mono hzD26
     try replace hzr1_10 := hzr1_10.mono hzD26
     refine R.gF (zg4) ?_; refine R.nl ?_; exact Run.loc rfl Le.rfl' rfl
    apply TC.val [2]; exact rfl; kernel_rfl
    ·rintro zD27 hzD27 _ rfl
     try replace hle := hle.mono hzD27
     try replace hzr1_8 := hzr1_8.mono hzD27
     try replace hzr1_10 := hzr1_10.mono hzD27
     refine R.gF (zg4) ?_; refine R.nl ?_; exact Run.loc rfl Le.rfl' rfl
    refine TC.fin (by rfl) ?_; rintro zD28 hzD28 _ rfl _ rfl _ rfl _ rfl _ rfl _ rfl _ rfl _ rfl _ rfl _ rfl
    try replace hle := hle.mono hzD28
    try replace hzr1_8 := hzr1_8.mono hzD28
    try replace hzr1_10 := hzr1_10.mono hzD28
    refine R.gF (zg4) ?_; refine R.gF (zg4) ?_; refine R.gF (zg4) ?_; refine R.pF (zg4) ?_; refine R.as ?_; refine R.nl ?_; refine R.hs (e' := [(4, _)]) ?_; refine R.rl (RV.t .nil) 2 hle (congrArg Value.bool ?_)
    simp_all [lessH, rows_less]
  ·refine Run.drawC Grow.le 10 [(2, _), (3, _)] mix (by kernel_rfl) (by repeat (first | exact trivial | refine ⟨rfl, ?_⟩)) ?_; apply TC.val []; exact rfl; kernel_rfl
   ·rintro zD29 hzD29 
    try replace hle := hle.mono hzD29
    try replace hzr1_8 := hzr1_8.mono hzD29
    try replace hzr1_10 := hzr1_10.mono hzD29
    refine R.lA 6 Tryz.isAgg23 Tryz.sizeOf23 ?_; refine R.nl ?_; exact Run.loc rfl Le.rfl' rfl
   apply TC.val [0]; exact rfl; kernel_rfl
   ·rintro zD30 hzD30 _ rfl
    try replace hle := hle.mono hzD30
    try replace hzr1_8 := hzr1_8.mono hzD30
    try replace hzr1_10 := hzr1_10.mono hzD30
    refine R.cg Tryz.call111 (refTold_spec _) ?_; refine R.nl ?_; exact Run.loc rfl Le.rfl' rfl
   apply TC.val [0]; exact rfl; kernel_rfl
   ·rintro zD31 hzD31 _ rfl
    try replace hle := hle.mono hzD31
    try replace hzr1_8 := hzr1_8.mono hzD31
    try replace hzr1_10 := hzr1_10.mono hzD31
    refine R.mv ?_; refine R.nl ?_; exact Run.loc rfl Le.rfl' rfl
   apply TC.val [0]; exact rfl; kernel_rfl
   ·rintro zD32 hzD32 _ rfl
    try replace hle := hle.mono hzD32
    try replace hzr1_8 := hzr1_8.mono hzD32
    try replace hzr1_10 := hzr1_10.mono hzD32
    refine R.gF (zg3) ?_; refine R.nl ?_; exact Run.loc rfl Le.rfl' rfl
   apply TC.val [1, 0]; exact rfl; kernel_rfl
   ·rintro zD33 hzD33 _ rfl _ rfl
    try replace hle := hle.mono hzD33
    try replace hzr1_8 := hzr1_8.mono hzD33
    try replace hzr1_10 := hzr1_10.mono hzD33
    refine R.gF (zg3) ?_; refine R.nl ?_; exact Run.loc rfl Le.rfl' rfl
   apply TC.val [2, 0]; exact rfl; kernel_rfl
   ·rintro zD34 hzD34 _ rfl _ rfl
    try replace hle := hle.mono hzD34
    try replace hzr1_8 := hzr1_8.mono hzD34
    try replace hzr1_10 := hzr1_10.mono hzD34
    refine R.pF (zg3) ?_; refine R.nl ?_; exact Run.loc rfl Le.rfl' rfl
   apply TC.val [0]; exact rfl; kernel_rfl
   ·rintro zD35 hzD35 _ rfl
    try replace hle := hle.mono hzD35
    try replace hzr1_8 := hzr1_8.mono hzD35
    try replace hzr1_10 := hzr1_10.mono hzD35
    refine R.mv ?_; refine R.nl ?_; exact Run.loc rfl Le.rfl' rfl
   apply TC.val [0]; exact rfl; kernel_rfl
   ·rintro zD36 hzD36 _ rfl
    try replace hle := hle.mono hzD36
    try replace hzr1_8 := hzr1_8.mono hzD36
    try replace hzr1_10 := hzr1_10.mono hzD36
    refine R.gF (rfl) ?_; refine R.nl ?_; exact Run.loc rfl Le.rfl' rfl
   apply TC.val [1, 0]; exact rfl; kernel_rfl
   ·rintro zD37 hzD37 _ rfl _ rfl
    try replace hle := hle.mono hzD37
    try replace hzr1_8 := hzr1_8.mono hzD37
    try replace hzr1_10 := hzr1_10.mono hzD37
    refine R.gF (rfl) ?_; refine R.nl ?_; exact Run.loc rfl Le.rfl' rfl
   apply TC.val [2]; exact rfl; kernel_rfl
   ·rintro zD38 hzD38 _ rfl
    try replace hle := hle.mono hzD38
    try replace hzr1_8 := hzr1_8.mono hzD38
    try replace hzr1_10 := hzr1_10.mono hzD38
    refine R.gF (rfl) ?_; refine R.nl ?_; exact Run.loc rfl Le.rfl' rfl
   refine TC.fin (by rfl) ?_; rintro zD39 hzD39 _ rfl _ rfl _ rfl _ rfl _ rfl _ rfl _ rfl _ rfl _ rfl _ rfl
   try replace hle := hle.mono hzD39
   try replace hzr1_8 := hzr1_8.mono hzD39
   try replace hzr1_10 := hzr1_10.mono hzD39
   refine R.gF (rfl) ?_; refine R.gF (rfl) ?_; refine R.gF (rfl) ?_; refine R.pF (rfl) ?_; refine R.as ?_; refine R.nl ?_; refine R.hs (e' := [(4, _)]) ?_; refine R.rl (RV.t .nil) 2 hle (congrArg Value.bool ?_)
   simp_all [lessH, rows_less]
end Go.Proofs.YtgdpjpmjcpieiaaGreat

/- Views: what is right, and which one is lowest, by the document's answer and by the program. No condition. -/
namespace Go.Proofs.YtgdpjpmjcpieiaaGreat
open Go
set_option linter.unusedVariables false
set_option linter.unusedSimpArgs false
set_option maxRecDepth 100000
set_option maxHeartbeats 0
abbrev Vws (D : Dict) (v : Value) (xs : List Vw) : Prop := Lst D 7 Vw.cells v xs
theorem Vw.len (o : Vw) : o.cells.length = 7 := rfl
theorem take_succ' {α : Type} {xs : List α} {i : Nat} {x : α} (h : xs[i]? = some x) : xs.take (i + 1) = xs.take i ++ [x] := by
  rw [List.take_add_one, h]; rfl
theorem get_of_lt {α : Type} {xs : List α} {i : Nat} (h : i < xs.length) : ∃ x, xs[i]? = some x := ⟨xs[i], List.getElem?_eq_getElem h⟩
theorem fold_step {α β : Type} {f : β → α → β} {xs : List α} {i : Nat} {x : α} {b b0 b' : β} (h : xs[i]? = some x) (hb : b = (xs.take i).foldl f b0) (hf : f b x = b') : b' = (xs.take (i + 1)).foldl f b0 := by
  rw [take_succ' h, List.foldl_append, ← hb, ← hf]; rfl
theorem one_spec {g : Gl} {D : Dict} {M : MList} (id : Int) (h : Ht) : Gives Tryz.prog g 89 [.int .i64 id, .agg (Ht.cells h).toArray] D M (.bool (okV ⟨id, h⟩)) := by
  refine Gives.enter Tryz.func89 rfl Tryz.ntmps89 ?_; refine R.sq ?_; refine R.rg ?_; refine R.bxA (fun zb1 hzb1 => ?_); refine R.as ?_; refine R.nl ?_; refine R.hs (e' := [(0, _), (3, _)]) ?_; refine R.sq ?_; refine R.rg ?_; refine R.mv ?_; refine R.cm ?_; refine R.mv ?_; refine R.gd (fun zg2 => ?_) (fun zg2 => ?_)
  ·refine R.mv ?_; refine R.gY (zg2) ?_; refine R.cm ?_; refine R.pT (zg2) ?_; refine R.mv ?_; refine R.gd (fun zg3 => ?_) (fun zg3 => ?_)
   ·refine R.fa Tryz.runUnderlying23 Tryz.sizeOf3 ?_; refine R.gY (zg3) ?_; refine R.ld Tryz.isAgg3 ?_; refine R.gY (zg3) ?_; refine R.mv ?_; refine R.gY (zg3) ?_; refine R.cm ?_; refine R.pT (zg3) ?_; refine R.mv ?_; refine R.gd (fun zg4 => ?_) (fun zg4 => ?_)
    ·refine R.lA 6 Tryz.isAgg23 Tryz.sizeOf23 ?_; refine R.gY (zg4) ?_; refine R.cg Tryz.call44 (hCheck_spec _) ?_; refine R.gY (zg4) ?_; refine R.cm ?_; refine R.pT (zg4) ?_; refine R.as ?_; refine R.nl ?_; refine R.hs (e' := [(4, _)]) ?_; refine R.rt (RV.t .nil) 1 (congrArg Value.bool ?_)
     simp only [okV, errA] at *; grind
    ·refine R.gF (zg4) ?_; refine R.gF (zg4) ?_; refine R.pF (zg4) ?_; refine R.as ?_; refine R.nl ?_; refine R.hs (e' := [(4, _)]) ?_; refine R.rt (RV.t .nil) 1 (congrArg Value.bool ?_)
     simp only [okV, errA] at *; grind
   ·refine R.gF (zg3) ?_; refine R.gF (zg3) ?_; refine R.gF (zg3) ?_; refine R.pF (zg3) ?_; refine R.mv ?_; refine R.gF (rfl) ?_; refine R.gF (rfl) ?_; refine R.gF (rfl) ?_; refine R.pF (rfl) ?_; refine R.as ?_; refine R.nl ?_; refine R.hs (e' := [(4, _)]) ?_; refine R.rt (RV.t .nil) 1 (congrArg Value.bool ?_)
    simp only [okV, errA] at *; grind
  ·refine R.gF (zg2) ?_; refine R.pF (zg2) ?_; refine R.mv ?_; refine R.gF (rfl) ?_; refine R.gF (rfl) ?_; refine R.gF (rfl) ?_; refine R.gF (rfl) ?_; refine R.pF (rfl) ?_; refine R.mv ?_; refine R.gF (rfl) ?_; refine R.gF (rfl) ?_; refine R.gF (rfl) ?_; refine R.pF (rfl) ?_; refine R.as ?_; refine R.nl ?_; refine R.hs (e' := [(4, _)]) ?_; refine R.rt (RV.t .nil) 1 (congrArg Value.bool ?_)
   simp only [okV, errA] at *; grind
theorem vTold_spec {g : Gl} {D : Dict} {M : MList} (h : Ht) : Gives Tryz.prog g 159 [.agg (Ht.cells h).toArray] D M (.bool (toldH h)) := by
  refine Gives.enter Tryz.func159 rfl Tryz.ntmps159 ?_; refine R.sq ?_; refine R.rg ?_; refine R.bxA (fun zb1 hzb1 => ?_); refine R.as ?_; refine R.nl ?_; refine R.hs (e' := [(1, _)]) ?_; refine R.sq ?_; refine R.rg ?_; refine R.fa Tryz.runUnderlying23 Tryz.sizeOf4 ?_; refine R.ld Tryz.isAgg4 ?_; refine R.nt ?_; refine R.mv ?_; refine R.gd (fun zg2 => ?_) (fun zg2 => ?_)
  ·refine R.lA 6 Tryz.isAgg23 Tryz.sizeOf23 ?_; refine R.gY (zg2) ?_; refine R.cg Tryz.call44 (hCheck_spec _) ?_; refine R.gY (zg2) ?_; refine R.cm ?_; refine R.pT (zg2) ?_; refine R.as ?_; refine R.nl ?_; refine R.hs (e' := [(2, _)]) ?_; refine R.rt (RV.t .nil) 1 (congrArg Value.bool ?_)
   simp only [toldH, errA] at *; grind
  ·refine R.gF (zg2) ?_; refine R.gF (zg2) ?_; refine R.pF (zg2) ?_; refine R.as ?_; refine R.nl ?_; refine R.hs (e' := [(2, _)]) ?_; refine R.rt (RV.t .nil) 1 (congrArg Value.bool ?_)
   simp only [toldH, errA] at *; grind
theorem rAt_eq {xs : List Vw} {i : Nat} {x u : Vw} (h : xs[i]? = some x) (hu : xs[i - 1]? = some u) : rAt xs i = (okV x && (decide (i = 0) || decide (u.id < x.id))) := by simp [rAt, h, hu]
theorem okVs_no {xs : List Vw} {i : Nat} (hi : i < xs.length) (h : rAt xs i = false) : okVs xs = false := by
  cases hq : okVs xs with
  | false => rfl
  | true => rw [okVs_iff.1 hq i hi] at h; cases h
theorem vCheck_spec {g : Gl} {D : Dict} {M : MList} {a : Value} {xs : List Vw} (ha : Vws D a xs) : Gives Tryz.prog g 45 [a] D M (.int .i64 (errA (okVs xs))) := by
  have hla := ha.form.choose_spec.choose_spec.2.2
  refine Gives.enter Tryz.func45 rfl Tryz.ntmps45 ?_; refine R.sq ?_; refine R.rg ?_; refine R.as ?_; refine R.nl ?_; refine R.hs (e' := [(0, _)]) ?_; refine R.sq ?_; refine R.sq ?_; refine R.rg ?_; refine R.mv ?_; refine R.ll (ha) Tryz.runUnderlying24 ?_; refine R.mv ?_; refine R.nl ?_; refine R.hs (e' := [(0, _), (5, _), (6, _), (7, _)]) ?_; refine Run.block ?_; refine Run.loop (ι := Nat) [(0, _), (5, _), (6, _)] (fun i => [(7, .int .i64 (i : Int))]) (fun _ => D) (fun _ => M) (fun i => i ≤ xs.length ∧ ∀ j, j < i → rAt xs j = true) (fun i => xs.length - i) (0) (by repeat (first | exact trivial | refine ⟨rfl, ?_⟩)) ?h0 (by repeat (first | exact trivial | refine ⟨rfl, ?_⟩)) (fun w hs => hs) ?_
  case h0 => exact ⟨Nat.zero_le _, fun j hj => by omega⟩
  rintro i ⟨hi, hpre⟩; refine R.sq ?_; refine R.rg ?_; refine R.cm ?_; refine R.nl ?_; refine R.hs (e' := [(0, _), (5, _), (6, _), (7, _), (8, _)]) ?_; refine R.sq ?_; refine R.cd (fun zc1 => ?_) (fun zc1 => ?_)
  ·
   have hlt : i < xs.length := by simp at zc1; omega
   obtain ⟨x, hgx⟩ := get_of_lt hlt
   obtain ⟨u, hgu⟩ := get_of_lt (xs := xs) (i := i - 1) (by omega)
   obtain ⟨b1, o1, hI1, hc1⟩ := ha.at Vw.len hgx
   obtain ⟨b2, o2, hI2, hc2⟩ := ha.at Vw.len hgu
   refine Run.skip ?_; refine R.sq ?_; refine Run.block ?_; refine R.sq ?_; refine R.rg ?_; refine R.mv ?_; refine R.ix (hI1) Tryz.runUnderlying24 Tryz.sizeOf72 ?_; refine R.lAD 7 Tryz.isAgg72 Tryz.sizeOf72 ?_; refine R.alA Tryz.zeroValue72 (fun zb2 hzb2 => ?_); refine R.as ?_; refine R.st Tryz.sizeOf72 ?_; refine R.nl ?_; refine R.hs (e' := [(0, _), (3, _), (4, _), (5, _), (6, _), (7, _)]) ?_; refine R.sq ?_
   rcases Bool.eq_false_or_eq_true (!(okV x)) with zg3 | zg3
   ·refine Run.drawC Grow.eq 18 [(0, _), (3, _), (4, _), (5, _), (6, _), (7, _)] mix (by kernel_rfl) (by repeat (first | exact trivial | refine ⟨rfl, ?_⟩)) ?_; apply TC.val []; exact rfl; kernel_rfl
    ·rintro _ rfl ; refine R.fa Tryz.runUnderlying72 Tryz.sizeOf3 ?_; refine R.nl ?_; exact Run.loc rfl rfl rfl
    apply TC.val [0]; exact rfl; kernel_rfl
    ·rintro _ rfl _ rfl; refine R.ld Tryz.isAgg3 ?_; refine R.nl ?_; exact Run.loc rfl rfl rfl
    apply TC.val []; exact rfl; kernel_rfl
    ·rintro _ rfl ; refine R.fa Tryz.runUnderlying72 Tryz.sizeOf23 ?_; refine R.nl ?_; exact Run.loc rfl rfl rfl
    apply TC.val [0]; exact rfl; kernel_rfl
    ·rintro _ rfl _ rfl; refine R.lA 6 Tryz.isAgg23 Tryz.sizeOf23 ?_; refine R.nl ?_; exact Run.loc rfl rfl rfl
    apply TC.val [2, 0]; exact rfl; kernel_rfl
    ·rintro _ rfl _ rfl _ rfl; refine R.cg Tryz.call89 (one_spec _ ⟨_, _, _, _, _, _⟩) ?_; refine R.nl ?_; exact Run.loc rfl rfl rfl
    apply TC.val [0]; exact rfl; kernel_rfl
    ·rintro _ rfl _ rfl; refine R.nt ?_; refine R.nl ?_; exact Run.loc rfl rfl rfl
    apply TC.val [0]; exact rfl; kernel_rfl
    ·rintro _ rfl _ rfl; refine R.mv ?_; refine R.nl ?_; exact Run.loc rfl rfl rfl
    apply TC.val [0]; exact rfl; kernel_rfl
    ·rintro _ rfl _ rfl; refine R.gF (zg3) ?_; refine R.nl ?_; exact Run.loc rfl rfl rfl
    apply TC.val [1, 0]; exact rfl; kernel_rfl
    ·rintro _ rfl _ rfl _ rfl; refine R.gF (zg3) ?_; refine R.nl ?_; exact Run.loc rfl rfl rfl
    apply TC.val [2, 0]; exact rfl; kernel_rfl
    ·rintro _ rfl _ rfl _ rfl; refine R.gF (zg3) ?_; refine R.nl ?_; exact Run.loc rfl rfl rfl
    apply TC.val [0]; exact rfl; kernel_rfl
    ·rintro _ rfl _ rfl; refine R.gU ?_; refine R.nl ?_; exact Run.loc rfl rfl rfl
    apply TC.val [1]; exact rfl; kernel_rfl
    ·rintro _ rfl _ rfl; refine R.gU ?_; refine R.nl ?_; exact Run.loc rfl rfl rfl
    apply TC.val [2, 0]; exact rfl; kernel_rfl
    ·rintro _ rfl _ rfl _ rfl; refine R.gU ?_; refine R.nl ?_; exact Run.loc rfl rfl rfl
    apply TC.val [3, 2, 0]; exact rfl; kernel_rfl
    ·rintro _ rfl _ rfl _ rfl _ rfl; refine R.gU ?_; refine R.nl ?_; exact Run.loc rfl rfl rfl
    apply TC.val [4, 0]; exact rfl; kernel_rfl
    ·rintro _ rfl _ rfl _ rfl; refine R.gU ?_; refine R.nl ?_; exact Run.loc rfl rfl rfl
    apply TC.val [5, 0]; exact rfl; kernel_rfl
    ·rintro _ rfl _ rfl _ rfl; refine R.gU ?_; refine R.nl ?_; exact Run.loc rfl rfl rfl
    apply TC.val [6]; exact rfl; kernel_rfl
    ·rintro _ rfl _ rfl; refine R.gU ?_; refine R.nl ?_; exact Run.loc rfl rfl rfl
    apply TC.val [7, 0]; exact rfl; kernel_rfl
    ·rintro _ rfl _ rfl _ rfl; refine R.gU ?_; refine R.nl ?_; exact Run.loc rfl rfl rfl
    refine TC.fin (by rfl) ?_; rintro _ rfl _ rfl _ rfl _ rfl _ rfl _ rfl _ rfl _ rfl _ rfl _ rfl _ rfl _ rfl _ rfl _ rfl _ rfl _ rfl _ rfl _ rfl _ rfl; refine R.gU ?_; refine R.gF (zg3) ?_; refine R.pT (zg3) ?_; refine R.nl ?_; refine R.hs (e' := [(0, _), (5, _), (6, _), (7, _), (32, _)]) ?_; refine R.cT (rfl) ?_
    have hok : okVs xs = false := okVs_no hlt (by rw [rAt_eq hgx hgu]; simp_all <;> omega)
    refine R.sq ?_; refine R.rg ?_; refine R.as ?_; refine R.nl ?_; refine R.hs (e' := [(2, _)]) ?_; refine R.rt (RV.t .nil) 1 (congrArg (Value.int .i64) ?_)
    simp [hok, errA]
   ·
    rcases Bool.eq_false_or_eq_true (decide ((i : Int) > 0)) with zg23 | zg23
    ·refine Run.drawC Grow.eq 18 [(0, _), (3, _), (4, _), (5, _), (6, _), (7, _)] mix (by kernel_rfl) (by repeat (first | exact trivial | refine ⟨rfl, ?_⟩)) ?_; apply TC.val []; exact rfl; kernel_rfl
     ·rintro _ rfl ; refine R.fa Tryz.runUnderlying72 Tryz.sizeOf3 ?_; refine R.nl ?_; exact Run.loc rfl rfl rfl
     apply TC.val [0]; exact rfl; kernel_rfl
     ·rintro _ rfl _ rfl; refine R.ld Tryz.isAgg3 ?_; refine R.nl ?_; exact Run.loc rfl rfl rfl
     apply TC.val []; exact rfl; kernel_rfl
     ·rintro _ rfl ; refine R.fa Tryz.runUnderlying72 Tryz.sizeOf23 ?_; refine R.nl ?_; exact Run.loc rfl rfl rfl
     apply TC.val [0]; exact rfl; kernel_rfl
     ·rintro _ rfl _ rfl; refine R.lA 6 Tryz.isAgg23 Tryz.sizeOf23 ?_; refine R.nl ?_; exact Run.loc rfl rfl rfl
     apply TC.val [2, 0]; exact rfl; kernel_rfl
     ·rintro _ rfl _ rfl _ rfl; refine R.cg Tryz.call89 (one_spec _ ⟨_, _, _, _, _, _⟩) ?_; refine R.nl ?_; exact Run.loc rfl rfl rfl
     apply TC.val [0]; exact rfl; kernel_rfl
     ·rintro _ rfl _ rfl; refine R.nt ?_; refine R.nl ?_; exact Run.loc rfl rfl rfl
     apply TC.val [0]; exact rfl; kernel_rfl
     ·rintro _ rfl _ rfl; refine R.mv ?_; refine R.nl ?_; exact Run.loc rfl rfl rfl
     apply TC.val [0]; exact rfl; kernel_rfl
     ·rintro _ rfl _ rfl; refine R.gY (zg3) ?_; refine R.mv ?_; refine R.nl ?_; exact Run.loc rfl rfl rfl
     apply TC.val [1, 0]; exact rfl; kernel_rfl
     ·rintro _ rfl _ rfl _ rfl; refine R.gY (zg3) ?_; refine R.cm ?_; refine R.nl ?_; exact Run.loc rfl rfl rfl
     apply TC.val [2, 0]; exact rfl; kernel_rfl
     ·rintro _ rfl _ rfl _ rfl; refine R.gY (zg3) ?_; refine R.mv ?_; refine R.nl ?_; exact Run.loc rfl rfl rfl
     apply TC.val [0]; exact rfl; kernel_rfl
     ·rintro _ rfl _ rfl; refine R.gY (zg23) ?_; refine R.mv ?_; refine R.nl ?_; exact Run.loc rfl rfl rfl
     apply TC.val [1]; exact rfl; kernel_rfl
     ·rintro _ rfl _ rfl; refine R.gY (zg23) ?_; refine R.mv ?_; refine R.nl ?_; exact Run.loc rfl rfl rfl
     apply TC.val [2, 0]; exact rfl; kernel_rfl
     ·rintro _ rfl _ rfl _ rfl; refine R.gY (zg23) ?_; refine R.sb ?_; refine R.nl ?_; exact Run.loc rfl rfl rfl
     apply TC.val [3, 2, 0]; exact rfl; kernel_rfl
     ·rintro _ rfl _ rfl _ rfl _ rfl; refine R.gY (zg23) ?_; refine R.ix (hI2) Tryz.runUnderlying24 Tryz.sizeOf72 ?_; refine R.nl ?_; exact Run.loc rfl rfl rfl
     apply TC.val [4, 0]; exact rfl; kernel_rfl
     ·rintro _ rfl _ rfl _ rfl; refine R.gY (zg23) ?_; refine R.fa Tryz.runUnderlying72 Tryz.sizeOf3 ?_; refine R.nl ?_; exact Run.loc rfl rfl rfl
     apply TC.val [5, 0]; exact rfl; kernel_rfl
     ·rintro _ rfl _ rfl _ rfl; refine R.gY (zg23) ?_; refine R.ldD Tryz.isAgg3 ?_; refine R.nl ?_; exact Run.loc rfl rfl rfl
     apply TC.val [6]; exact rfl; kernel_rfl
     ·rintro _ rfl _ rfl; refine R.gY (zg23) ?_; refine R.fa Tryz.runUnderlying72 Tryz.sizeOf3 ?_; refine R.nl ?_; exact Run.loc rfl rfl rfl
     apply TC.val [7, 0]; exact rfl; kernel_rfl
     ·rintro _ rfl _ rfl _ rfl; refine R.gY (zg23) ?_; refine R.ld Tryz.isAgg3 ?_; refine R.nl ?_; exact Run.loc rfl rfl rfl
     refine TC.fin (by rfl) ?_; rintro _ rfl _ rfl _ rfl _ rfl _ rfl _ rfl _ rfl _ rfl _ rfl _ rfl _ rfl _ rfl _ rfl _ rfl _ rfl _ rfl _ rfl _ rfl _ rfl; refine R.gY (zg23) ?_; refine R.cm ?_; refine R.gY (zg3) ?_; refine R.pT (zg23) ?_; refine R.pF (zg3) ?_; refine R.nl ?_; refine R.hs (e' := [(0, _), (5, _), (6, _), (7, _), (32, _)]) ?_; refine R.cd (fun zc43 => ?_) (fun zc43 => ?_)
     ·
      have hok : okVs xs = false := okVs_no hlt (by rw [rAt_eq hgx hgu]; simp_all <;> omega)
      refine R.sq ?_; refine R.rg ?_; refine R.as ?_; refine R.nl ?_; refine R.hs (e' := [(2, _)]) ?_; refine R.rt (RV.t .nil) 1 (congrArg (Value.int .i64) ?_)
      simp [hok, errA]
     ·
      have hr : rAt xs i = true := by rw [rAt_eq hgx hgu]; simp_all <;> omega
      refine Run.skip ?_; refine Run.endBlock ?_; refine R.rg ?_; refine R.ad ?_; refine R.mv ?_; refine R.nl ?_; refine R.hs (e' := [(0, _), (5, _), (6, _), (7, _)]) ?_; exact Run.again (i + 1) ⟨by omega, fun j hj => by rcases Nat.lt_or_ge j i with h | h; exact hpre j h; rw [show j = i by omega]; exact hr⟩ (by omega) ⟨rfl, by repeat (first | exact trivial | refine ⟨rfl, ?_⟩)⟩ (fun w hs => hs.drop 1)
    ·refine Run.drawC Grow.eq 18 [(0, _), (3, _), (4, _), (5, _), (6, _), (7, _)] mix (by kernel_rfl) (by repeat (first | exact trivial | refine ⟨rfl, ?_⟩)) ?_; apply TC.val []; exact rfl; kernel_rfl
     ·rintro _ rfl ; refine R.fa Tryz.runUnderlying72 Tryz.sizeOf3 ?_; refine R.nl ?_; exact Run.loc rfl rfl rfl
     apply TC.val [0]; exact rfl; kernel_rfl
     ·rintro _ rfl _ rfl; refine R.ld Tryz.isAgg3 ?_; refine R.nl ?_; exact Run.loc rfl rfl rfl
     apply TC.val []; exact rfl; kernel_rfl
     ·rintro _ rfl ; refine R.fa Tryz.runUnderlying72 Tryz.sizeOf23 ?_; refine R.nl ?_; exact Run.loc rfl rfl rfl
     apply TC.val [0]; exact rfl; kernel_rfl
     ·rintro _ rfl _ rfl; refine R.lA 6 Tryz.isAgg23 Tryz.sizeOf23 ?_; refine R.nl ?_; exact Run.loc rfl rfl rfl
     apply TC.val [2, 0]; exact rfl; kernel_rfl
     ·rintro _ rfl _ rfl _ rfl; refine R.cg Tryz.call89 (one_spec _ ⟨_, _, _, _, _, _⟩) ?_; refine R.nl ?_; exact Run.loc rfl rfl rfl
     apply TC.val [0]; exact rfl; kernel_rfl
     ·rintro _ rfl _ rfl; refine R.nt ?_; refine R.nl ?_; exact Run.loc rfl rfl rfl
     apply TC.val [0]; exact rfl; kernel_rfl
     ·rintro _ rfl _ rfl; refine R.mv ?_; refine R.nl ?_; exact Run.loc rfl rfl rfl
     apply TC.val [0]; exact rfl; kernel_rfl
     ·rintro _ rfl _ rfl; refine R.gY (zg3) ?_; refine R.mv ?_; refine R.nl ?_; exact Run.loc rfl rfl rfl
     apply TC.val [1, 0]; exact rfl; kernel_rfl
     ·rintro _ rfl _ rfl _ rfl; refine R.gY (zg3) ?_; refine R.cm ?_; refine R.nl ?_; exact Run.loc rfl rfl rfl
     apply TC.val [2, 0]; exact rfl; kernel_rfl
     ·rintro _ rfl _ rfl _ rfl; refine R.gY (zg3) ?_; refine R.mv ?_; refine R.nl ?_; exact Run.loc rfl rfl rfl
     apply TC.val [0]; exact rfl; kernel_rfl
     ·rintro _ rfl _ rfl; refine R.gF (zg23) ?_; refine R.nl ?_; exact Run.loc rfl rfl rfl
     apply TC.val [1]; exact rfl; kernel_rfl
     ·rintro _ rfl _ rfl; refine R.gF (zg23) ?_; refine R.nl ?_; exact Run.loc rfl rfl rfl
     apply TC.val [2, 0]; exact rfl; kernel_rfl
     ·rintro _ rfl _ rfl _ rfl; refine R.gF (zg23) ?_; refine R.nl ?_; exact Run.loc rfl rfl rfl
     apply TC.val [3, 2, 0]; exact rfl; kernel_rfl
     ·rintro _ rfl _ rfl _ rfl _ rfl; refine R.gF (zg23) ?_; refine R.nl ?_; exact Run.loc rfl rfl rfl
     apply TC.val [4, 0]; exact rfl; kernel_rfl
     ·rintro _ rfl _ rfl _ rfl; refine R.gF (zg23) ?_; refine R.nl ?_; exact Run.loc rfl rfl rfl
     apply TC.val [5, 0]; exact rfl; kernel_rfl
     ·rintro _ rfl _ rfl _ rfl; refine R.gF (zg23) ?_; refine R.nl ?_; exact Run.loc rfl rfl rfl
     apply TC.val [6]; exact rfl; kernel_rfl
     ·rintro _ rfl _ rfl; refine R.gF (zg23) ?_; refine R.nl ?_; exact Run.loc rfl rfl rfl
     apply TC.val [7, 0]; exact rfl; kernel_rfl
     ·rintro _ rfl _ rfl _ rfl; refine R.gF (zg23) ?_; refine R.nl ?_; exact Run.loc rfl rfl rfl
     refine TC.fin (by rfl) ?_; rintro _ rfl _ rfl _ rfl _ rfl _ rfl _ rfl _ rfl _ rfl _ rfl _ rfl _ rfl _ rfl _ rfl _ rfl _ rfl _ rfl _ rfl _ rfl _ rfl; refine R.gF (zg23) ?_; refine R.gY (zg3) ?_; refine R.pF (zg23) ?_; refine R.pF (zg3) ?_; refine R.nl ?_; refine R.hs (e' := [(0, _), (5, _), (6, _), (7, _), (32, _)]) ?_; refine R.cF (rfl) ?_
     have hr : rAt xs i = true := by rw [rAt_eq hgx hgu]; simp_all <;> omega
     refine Run.skip ?_; refine Run.endBlock ?_; refine R.rg ?_; refine R.ad ?_; refine R.mv ?_; refine R.nl ?_; refine R.hs (e' := [(0, _), (5, _), (6, _), (7, _)]) ?_; exact Run.again (i + 1) ⟨by omega, fun j hj => by rcases Nat.lt_or_ge j i with h | h; exact hpre j h; rw [show j = i by omega]; exact hr⟩ (by omega) ⟨rfl, by repeat (first | exact trivial | refine ⟨rfl, ?_⟩)⟩ (fun w hs => hs.drop 1)
  ·
   have hok : okVs xs = true := okVs_iff.2 fun j hj => hpre j (by simp at zc1; omega)
   refine Run.exit rfl ?_; refine R.sq ?_; refine R.rg ?_; refine R.as ?_; refine R.nl ?_; refine R.hs (e' := [(2, _)]) ?_; refine R.rt (RV.t .nil) 0 (congrArg (Value.int .i64) ?_)
   simp [hok, errA]
theorem refVRight_spec {g : Gl} {D : Dict} {M : MList} {a : Value} {xs : List Vw} (ha : Vws D a xs) : Gives Tryz.prog g 48 [a] D M (.bool (okVs xs)) := by
  have hla := ha.form.choose_spec.choose_spec.2.2
  refine Gives.enter Tryz.func48 rfl Tryz.ntmps48 ?_; refine R.sq ?_; refine R.rg ?_; refine R.as ?_; refine R.nl ?_; refine R.hs (e' := [(0, _)]) ?_; refine R.sq ?_; refine R.sq ?_; refine R.rg ?_; refine R.as ?_; refine R.nl ?_; refine R.hs (e' := [(0, _), (3, _)]) ?_; refine Run.block ?_; refine Run.loop (ι := Nat) [(0, _)] (fun i => [(3, .int .i64 (i : Int))]) (fun _ => D) (fun _ => M) (fun i => i ≤ xs.length ∧ ∀ j, j < i → rAt xs j = true) (fun i => xs.length - i) (0) (by repeat (first | exact trivial | refine ⟨rfl, ?_⟩)) ?h0 (by repeat (first | exact trivial | refine ⟨rfl, ?_⟩)) (fun w hs => hs) ?_
  case h0 => exact ⟨Nat.zero_le _, fun j hj => by omega⟩
  rintro i ⟨hi, hpre⟩; refine R.sq ?_; refine R.sq ?_; refine R.rg ?_; refine R.mv ?_; refine R.mv ?_; refine R.ll (ha) Tryz.runUnderlying24 ?_; refine R.cm ?_; refine R.nl ?_; refine R.hs (e' := [(0, _), (3, _), (8, _)]) ?_; refine R.cd (fun zc1 => ?_) (fun zc1 => ?_)
  ·
   have hlt : i < xs.length := by simp at zc1; omega
   obtain ⟨x, hgx⟩ := get_of_lt hlt
   obtain ⟨u, hgu⟩ := get_of_lt (xs := xs) (i := i - 1) (by omega)
   obtain ⟨b1, o1, hI1, hc1⟩ := ha.at Vw.len hgx
   obtain ⟨b2, o2, hI2, hc2⟩ := ha.at Vw.len hgu
   refine Run.skip ?_; refine R.sq ?_; refine Run.block ?_; refine R.sq ?_; refine R.rg ?_; refine R.mv ?_; refine R.mv ?_; refine R.ix (hI1) Tryz.runUnderlying24 Tryz.sizeOf72 ?_; refine R.lAD 7 Tryz.isAgg72 Tryz.sizeOf72 ?_; refine R.alA Tryz.zeroValue72 (fun zb2 hzb2 => ?_); refine R.st Tryz.sizeOf72 ?_; refine R.nl ?_; refine R.hs (e' := [(0, _), (3, _), (4, _)]) ?_; refine R.sq ?_
   rcases Bool.eq_false_or_eq_true (decide (x.id < 0)) with zg3 | zg3
   ·refine Run.drawC Grow.eq 35 [(0, _), (3, _), (4, _)] mix (by kernel_rfl) (by repeat (first | exact trivial | refine ⟨rfl, ?_⟩)) ?_; apply TC.val []; exact rfl; kernel_rfl
    ·rintro _ rfl ; refine R.fa Tryz.runUnderlying72 Tryz.sizeOf3 ?_; refine R.nl ?_; exact Run.loc rfl rfl rfl
    apply TC.val [0]; exact rfl; kernel_rfl
    ·rintro _ rfl _ rfl; refine R.ld Tryz.isAgg3 ?_; refine R.nl ?_; exact Run.loc rfl rfl rfl
    apply TC.val [0]; exact rfl; kernel_rfl
    ·rintro _ rfl _ rfl; refine R.cm ?_; refine R.nl ?_; exact Run.loc rfl rfl rfl
    apply TC.val [0]; exact rfl; kernel_rfl
    ·rintro _ rfl _ rfl; refine R.mv ?_; refine R.nl ?_; exact Run.loc rfl rfl rfl
    apply TC.val [0]; exact rfl; kernel_rfl
    ·rintro _ rfl _ rfl; refine R.gF (zg3) ?_; refine R.nl ?_; exact Run.loc rfl rfl rfl
    apply TC.val [1, 0]; exact rfl; kernel_rfl
    ·rintro _ rfl _ rfl _ rfl; refine R.gF (zg3) ?_; refine R.nl ?_; exact Run.loc rfl rfl rfl
    apply TC.val [2, 0]; exact rfl; kernel_rfl
    ·rintro _ rfl _ rfl _ rfl; refine R.gF (zg3) ?_; refine R.nl ?_; exact Run.loc rfl rfl rfl
    apply TC.val [3, 0]; exact rfl; kernel_rfl
    ·rintro _ rfl _ rfl _ rfl; refine R.pT (zg3) ?_; refine R.nl ?_; exact Run.loc rfl rfl rfl
    apply TC.val [0]; exact rfl; kernel_rfl
    ·rintro _ rfl _ rfl; refine R.mv ?_; refine R.nl ?_; exact Run.loc rfl rfl rfl
    apply TC.val [0]; exact rfl; kernel_rfl
    ·rintro _ rfl _ rfl; refine R.gF (rfl) ?_; refine R.nl ?_; exact Run.loc rfl rfl rfl
    apply TC.val [1, 0]; exact rfl; kernel_rfl
    ·rintro _ rfl _ rfl _ rfl; refine R.gF (rfl) ?_; refine R.nl ?_; exact Run.loc rfl rfl rfl
    apply TC.val [2, 0]; exact rfl; kernel_rfl
    ·rintro _ rfl _ rfl _ rfl; refine R.gF (rfl) ?_; refine R.nl ?_; exact Run.loc rfl rfl rfl
    apply TC.val [0]; exact rfl; kernel_rfl
    ·rintro _ rfl _ rfl; refine R.gU ?_; refine R.nl ?_; exact Run.loc rfl rfl rfl
    apply TC.val [1]; exact rfl; kernel_rfl
    ·rintro _ rfl _ rfl; refine R.gU ?_; refine R.nl ?_; exact Run.loc rfl rfl rfl
    apply TC.val [2, 0]; exact rfl; kernel_rfl
    ·rintro _ rfl _ rfl _ rfl; refine R.gU ?_; refine R.nl ?_; exact Run.loc rfl rfl rfl
    apply TC.val [3, 2, 0]; exact rfl; kernel_rfl
    ·rintro _ rfl _ rfl _ rfl _ rfl; refine R.gU ?_; refine R.nl ?_; exact Run.loc rfl rfl rfl
    apply TC.val [4, 0]; exact rfl; kernel_rfl
    ·rintro _ rfl _ rfl _ rfl; refine R.gU ?_; refine R.nl ?_; exact Run.loc rfl rfl rfl
    apply TC.val [5, 0]; exact rfl; kernel_rfl
    ·rintro _ rfl _ rfl _ rfl; refine R.gU ?_; refine R.nl ?_; exact Run.loc rfl rfl rfl
    apply TC.val [6]; exact rfl; kernel_rfl
    ·rintro _ rfl _ rfl; refine R.gU ?_; refine R.nl ?_; exact Run.loc rfl rfl rfl
    apply TC.val [7, 0]; exact rfl; kernel_rfl
    ·rintro _ rfl _ rfl _ rfl; refine R.gU ?_; refine R.nl ?_; exact Run.loc rfl rfl rfl
    apply TC.val [8, 2, 0]; exact rfl; kernel_rfl
    ·rintro _ rfl _ rfl _ rfl _ rfl; refine R.gU ?_; refine R.nl ?_; exact Run.loc rfl rfl rfl
    apply TC.val [12, 9, 0]; exact rfl; kernel_rfl
    ·rintro _ rfl _ rfl _ rfl _ rfl; refine R.gF (rfl) ?_; refine R.nl ?_; exact Run.loc rfl rfl rfl
    apply TC.val [13, 0]; exact rfl; kernel_rfl
    ·rintro _ rfl _ rfl _ rfl; refine R.pT (rfl) ?_; refine R.nl ?_; exact Run.loc rfl rfl rfl
    apply TC.val [0]; exact rfl; kernel_rfl
    ·rintro _ rfl _ rfl; refine R.mv ?_; refine R.nl ?_; exact Run.loc rfl rfl rfl
    apply TC.val [0]; exact rfl; kernel_rfl
    ·rintro _ rfl _ rfl; refine R.gF (rfl) ?_; refine R.nl ?_; exact Run.loc rfl rfl rfl
    apply TC.val [1, 0]; exact rfl; kernel_rfl
    ·rintro _ rfl _ rfl _ rfl; refine R.gF (rfl) ?_; refine R.nl ?_; exact Run.loc rfl rfl rfl
    apply TC.val [2, 0]; exact rfl; kernel_rfl
    ·rintro _ rfl _ rfl _ rfl; refine R.gF (rfl) ?_; refine R.nl ?_; exact Run.loc rfl rfl rfl
    apply TC.val [3, 0]; exact rfl; kernel_rfl
    ·rintro _ rfl _ rfl _ rfl; refine R.gF (rfl) ?_; refine R.nl ?_; exact Run.loc rfl rfl rfl
    apply TC.val [4, 0]; exact rfl; kernel_rfl
    ·rintro _ rfl _ rfl _ rfl; refine R.pT (rfl) ?_; refine R.nl ?_; exact Run.loc rfl rfl rfl
    apply TC.val [0]; exact rfl; kernel_rfl
    ·rintro _ rfl _ rfl; refine R.mv ?_; refine R.nl ?_; exact Run.loc rfl rfl rfl
    apply TC.val [0]; exact rfl; kernel_rfl
    ·rintro _ rfl _ rfl; refine R.gF (rfl) ?_; refine R.nl ?_; exact Run.loc rfl rfl rfl
    apply TC.val [1, 0]; exact rfl; kernel_rfl
    ·rintro _ rfl _ rfl _ rfl; refine R.gF (rfl) ?_; refine R.nl ?_; exact Run.loc rfl rfl rfl
    apply TC.val [2, 0]; exact rfl; kernel_rfl
    ·rintro _ rfl _ rfl _ rfl; refine R.gF (rfl) ?_; refine R.nl ?_; exact Run.loc rfl rfl rfl
    apply TC.val [3]; exact rfl; kernel_rfl
    ·rintro _ rfl _ rfl; refine R.gF (rfl) ?_; refine R.nl ?_; exact Run.loc rfl rfl rfl
    apply TC.val [4, 0]; exact rfl; kernel_rfl
    ·rintro _ rfl _ rfl _ rfl; refine R.gF (rfl) ?_; refine R.nl ?_; exact Run.loc rfl rfl rfl
    refine TC.fin (by rfl) ?_; rintro _ rfl _ rfl _ rfl _ rfl _ rfl _ rfl _ rfl _ rfl _ rfl _ rfl _ rfl _ rfl _ rfl _ rfl _ rfl _ rfl _ rfl _ rfl _ rfl _ rfl _ rfl _ rfl _ rfl _ rfl _ rfl _ rfl _ rfl _ rfl _ rfl _ rfl _ rfl _ rfl _ rfl _ rfl _ rfl _ rfl; refine R.gF (rfl) ?_; refine R.pT (rfl) ?_; refine R.nl ?_; refine R.hs (e' := [(0, _), (3, _), (51, _)]) ?_; refine R.cT (rfl) ?_
    have hok : okVs xs = false := okVs_no hlt (by rw [rAt_eq hgx hgu]; simp only [okV] at *; grind)
    refine R.sq ?_; refine R.rg ?_; refine R.as ?_; refine R.nl ?_; refine R.hs (e' := [(2, _)]) ?_; exact R.rt (RV.t .nil) 1 (congrArg Value.bool hok.symm)
   ·
    rcases Bool.eq_false_or_eq_true (decide (x.id ≥ 64)) with zg40 | zg40
    ·refine Run.drawC Grow.eq 35 [(0, _), (3, _), (4, _)] mix (by kernel_rfl) (by repeat (first | exact trivial | refine ⟨rfl, ?_⟩)) ?_; apply TC.val []; exact rfl; kernel_rfl
     ·rintro _ rfl ; refine R.fa Tryz.runUnderlying72 Tryz.sizeOf3 ?_; refine R.nl ?_; exact Run.loc rfl rfl rfl
     apply TC.val [0]; exact rfl; kernel_rfl
     ·rintro _ rfl _ rfl; refine R.ld Tryz.isAgg3 ?_; refine R.nl ?_; exact Run.loc rfl rfl rfl
     apply TC.val [0]; exact rfl; kernel_rfl
     ·rintro _ rfl _ rfl; refine R.cm ?_; refine R.nl ?_; exact Run.loc rfl rfl rfl
     apply TC.val [0]; exact rfl; kernel_rfl
     ·rintro _ rfl _ rfl; refine R.mv ?_; refine R.nl ?_; exact Run.loc rfl rfl rfl
     apply TC.val [0]; exact rfl; kernel_rfl
     ·rintro _ rfl _ rfl; refine R.gY (zg3) ?_; refine R.fa Tryz.runUnderlying72 Tryz.sizeOf3 ?_; refine R.nl ?_; exact Run.loc rfl rfl rfl
     apply TC.val [1, 0]; exact rfl; kernel_rfl
     ·rintro _ rfl _ rfl _ rfl; refine R.gY (zg3) ?_; refine R.ld Tryz.isAgg3 ?_; refine R.nl ?_; exact Run.loc rfl rfl rfl
     apply TC.val [2, 0]; exact rfl; kernel_rfl
     ·rintro _ rfl _ rfl _ rfl; refine R.gY (zg3) ?_; refine R.cm ?_; refine R.nl ?_; exact Run.loc rfl rfl rfl
     apply TC.val [3, 0]; exact rfl; kernel_rfl
     ·rintro _ rfl _ rfl _ rfl; refine R.pF (zg3) ?_; refine R.nl ?_; exact Run.loc rfl rfl rfl
     apply TC.val [0]; exact rfl; kernel_rfl
     ·rintro _ rfl _ rfl; refine R.mv ?_; refine R.nl ?_; exact Run.loc rfl rfl rfl
     apply TC.val [0]; exact rfl; kernel_rfl
     ·rintro _ rfl _ rfl; refine R.gF (zg40) ?_; refine R.nl ?_; exact Run.loc rfl rfl rfl
     apply TC.val [1, 0]; exact rfl; kernel_rfl
     ·rintro _ rfl _ rfl _ rfl; refine R.gF (zg40) ?_; refine R.nl ?_; exact Run.loc rfl rfl rfl
     apply TC.val [2, 0]; exact rfl; kernel_rfl
     ·rintro _ rfl _ rfl _ rfl; refine R.gF (zg40) ?_; refine R.nl ?_; exact Run.loc rfl rfl rfl
     apply TC.val [0]; exact rfl; kernel_rfl
     ·rintro _ rfl _ rfl; refine R.gU ?_; refine R.nl ?_; exact Run.loc rfl rfl rfl
     apply TC.val [1]; exact rfl; kernel_rfl
     ·rintro _ rfl _ rfl; refine R.gU ?_; refine R.nl ?_; exact Run.loc rfl rfl rfl
     apply TC.val [2, 0]; exact rfl; kernel_rfl
     ·rintro _ rfl _ rfl _ rfl; refine R.gU ?_; refine R.nl ?_; exact Run.loc rfl rfl rfl
     apply TC.val [3, 2, 0]; exact rfl; kernel_rfl
     ·rintro _ rfl _ rfl _ rfl _ rfl; refine R.gU ?_; refine R.nl ?_; exact Run.loc rfl rfl rfl
     apply TC.val [4, 0]; exact rfl; kernel_rfl
     ·rintro _ rfl _ rfl _ rfl; refine R.gU ?_; refine R.nl ?_; exact Run.loc rfl rfl rfl
     apply TC.val [5, 0]; exact rfl; kernel_rfl
     ·rintro _ rfl _ rfl _ rfl; refine R.gU ?_; refine R.nl ?_; exact Run.loc rfl rfl rfl
     apply TC.val [6]; exact rfl; kernel_rfl
     ·rintro _ rfl _ rfl; refine R.gU ?_; refine R.nl ?_; exact Run.loc rfl rfl rfl
     apply TC.val [7, 0]; exact rfl; kernel_rfl
     ·rintro _ rfl _ rfl _ rfl; refine R.gU ?_; refine R.nl ?_; exact Run.loc rfl rfl rfl
     apply TC.val [8, 2, 0]; exact rfl; kernel_rfl
     ·rintro _ rfl _ rfl _ rfl _ rfl; refine R.gU ?_; refine R.nl ?_; exact Run.loc rfl rfl rfl
     apply TC.val [12, 9, 0]; exact rfl; kernel_rfl
     ·rintro _ rfl _ rfl _ rfl _ rfl; refine R.gF (zg40) ?_; refine R.nl ?_; exact Run.loc rfl rfl rfl
     apply TC.val [13, 0]; exact rfl; kernel_rfl
     ·rintro _ rfl _ rfl _ rfl; refine R.pT (zg40) ?_; refine R.nl ?_; exact Run.loc rfl rfl rfl
     apply TC.val [0]; exact rfl; kernel_rfl
     ·rintro _ rfl _ rfl; refine R.mv ?_; refine R.nl ?_; exact Run.loc rfl rfl rfl
     apply TC.val [0]; exact rfl; kernel_rfl
     ·rintro _ rfl _ rfl; refine R.gF (rfl) ?_; refine R.nl ?_; exact Run.loc rfl rfl rfl
     apply TC.val [1, 0]; exact rfl; kernel_rfl
     ·rintro _ rfl _ rfl _ rfl; refine R.gF (rfl) ?_; refine R.nl ?_; exact Run.loc rfl rfl rfl
     apply TC.val [2, 0]; exact rfl; kernel_rfl
     ·rintro _ rfl _ rfl _ rfl; refine R.gF (rfl) ?_; refine R.nl ?_; exact Run.loc rfl rfl rfl
     apply TC.val [3, 0]; exact rfl; kernel_rfl
     ·rintro _ rfl _ rfl _ rfl; refine R.gF (rfl) ?_; refine R.nl ?_; exact Run.loc rfl rfl rfl
     apply TC.val [4, 0]; exact rfl; kernel_rfl
     ·rintro _ rfl _ rfl _ rfl; refine R.pT (rfl) ?_; refine R.nl ?_; exact Run.loc rfl rfl rfl
     apply TC.val [0]; exact rfl; kernel_rfl
     ·rintro _ rfl _ rfl; refine R.mv ?_; refine R.nl ?_; exact Run.loc rfl rfl rfl
     apply TC.val [0]; exact rfl; kernel_rfl
     ·rintro _ rfl _ rfl; refine R.gF (rfl) ?_; refine R.nl ?_; exact Run.loc rfl rfl rfl
     apply TC.val [1, 0]; exact rfl; kernel_rfl
     ·rintro _ rfl _ rfl _ rfl; refine R.gF (rfl) ?_; refine R.nl ?_; exact Run.loc rfl rfl rfl
     apply TC.val [2, 0]; exact rfl; kernel_rfl
     ·rintro _ rfl _ rfl _ rfl; refine R.gF (rfl) ?_; refine R.nl ?_; exact Run.loc rfl rfl rfl
     apply TC.val [3]; exact rfl; kernel_rfl
     ·rintro _ rfl _ rfl; refine R.gF (rfl) ?_; refine R.nl ?_; exact Run.loc rfl rfl rfl
     apply TC.val [4, 0]; exact rfl; kernel_rfl
     ·rintro _ rfl _ rfl _ rfl; refine R.gF (rfl) ?_; refine R.nl ?_; exact Run.loc rfl rfl rfl
     refine TC.fin (by rfl) ?_; rintro _ rfl _ rfl _ rfl _ rfl _ rfl _ rfl _ rfl _ rfl _ rfl _ rfl _ rfl _ rfl _ rfl _ rfl _ rfl _ rfl _ rfl _ rfl _ rfl _ rfl _ rfl _ rfl _ rfl _ rfl _ rfl _ rfl _ rfl _ rfl _ rfl _ rfl _ rfl _ rfl _ rfl _ rfl _ rfl _ rfl; refine R.gF (rfl) ?_; refine R.pT (rfl) ?_; refine R.nl ?_; refine R.hs (e' := [(0, _), (3, _), (51, _)]) ?_; refine R.cT (rfl) ?_
     have hok : okVs xs = false := okVs_no hlt (by rw [rAt_eq hgx hgu]; simp only [okV] at *; grind)
     refine R.sq ?_; refine R.rg ?_; refine R.as ?_; refine R.nl ?_; refine R.hs (e' := [(2, _)]) ?_; exact R.rt (RV.t .nil) 1 (congrArg Value.bool hok.symm)
    ·
     rcases Bool.eq_false_or_eq_true (decide ((i : Int) > 0)) with zg77 | zg77
     ·
      rcases Bool.eq_false_or_eq_true (decide (u.id ≥ x.id)) with zg78 | zg78
      ·refine Run.drawC Grow.eq 35 [(0, _), (3, _), (4, _)] mix (by kernel_rfl) (by repeat (first | exact trivial | refine ⟨rfl, ?_⟩)) ?_; apply TC.val []; exact rfl; kernel_rfl
       ·rintro _ rfl ; refine R.fa Tryz.runUnderlying72 Tryz.sizeOf3 ?_; refine R.nl ?_; exact Run.loc rfl rfl rfl
       apply TC.val [0]; exact rfl; kernel_rfl
       ·rintro _ rfl _ rfl; refine R.ld Tryz.isAgg3 ?_; refine R.nl ?_; exact Run.loc rfl rfl rfl
       apply TC.val [0]; exact rfl; kernel_rfl
       ·rintro _ rfl _ rfl; refine R.cm ?_; refine R.nl ?_; exact Run.loc rfl rfl rfl
       apply TC.val [0]; exact rfl; kernel_rfl
       ·rintro _ rfl _ rfl; refine R.mv ?_; refine R.nl ?_; exact Run.loc rfl rfl rfl
       apply TC.val [0]; exact rfl; kernel_rfl
       ·rintro _ rfl _ rfl; refine R.gY (zg3) ?_; refine R.fa Tryz.runUnderlying72 Tryz.sizeOf3 ?_; refine R.nl ?_; exact Run.loc rfl rfl rfl
       apply TC.val [1, 0]; exact rfl; kernel_rfl
       ·rintro _ rfl _ rfl _ rfl; refine R.gY (zg3) ?_; refine R.ld Tryz.isAgg3 ?_; refine R.nl ?_; exact Run.loc rfl rfl rfl
       apply TC.val [2, 0]; exact rfl; kernel_rfl
       ·rintro _ rfl _ rfl _ rfl; refine R.gY (zg3) ?_; refine R.cm ?_; refine R.nl ?_; exact Run.loc rfl rfl rfl
       apply TC.val [3, 0]; exact rfl; kernel_rfl
       ·rintro _ rfl _ rfl _ rfl; refine R.pF (zg3) ?_; refine R.nl ?_; exact Run.loc rfl rfl rfl
       apply TC.val [0]; exact rfl; kernel_rfl
       ·rintro _ rfl _ rfl; refine R.mv ?_; refine R.nl ?_; exact Run.loc rfl rfl rfl
       apply TC.val [0]; exact rfl; kernel_rfl
       ·rintro _ rfl _ rfl; refine R.gY (zg40) ?_; refine R.mv ?_; refine R.nl ?_; exact Run.loc rfl rfl rfl
       apply TC.val [1, 0]; exact rfl; kernel_rfl
       ·rintro _ rfl _ rfl _ rfl; refine R.gY (zg40) ?_; refine R.cm ?_; refine R.nl ?_; exact Run.loc rfl rfl rfl
       apply TC.val [2, 0]; exact rfl; kernel_rfl
       ·rintro _ rfl _ rfl _ rfl; refine R.gY (zg40) ?_; refine R.mv ?_; refine R.nl ?_; exact Run.loc rfl rfl rfl
       apply TC.val [0]; exact rfl; kernel_rfl
       ·rintro _ rfl _ rfl; refine R.gY (zg77) ?_; refine R.mv ?_; refine R.nl ?_; exact Run.loc rfl rfl rfl
       apply TC.val [1]; exact rfl; kernel_rfl
       ·rintro _ rfl _ rfl; refine R.gY (zg77) ?_; refine R.mv ?_; refine R.nl ?_; exact Run.loc rfl rfl rfl
       apply TC.val [2, 0]; exact rfl; kernel_rfl
       ·rintro _ rfl _ rfl _ rfl; refine R.gY (zg77) ?_; refine R.sb ?_; refine R.nl ?_; exact Run.loc rfl rfl rfl
       apply TC.val [3, 2, 0]; exact rfl; kernel_rfl
       ·rintro _ rfl _ rfl _ rfl _ rfl; refine R.gY (zg77) ?_; refine R.ix (hI2) Tryz.runUnderlying24 Tryz.sizeOf72 ?_; refine R.nl ?_; exact Run.loc rfl rfl rfl
       apply TC.val [4, 0]; exact rfl; kernel_rfl
       ·rintro _ rfl _ rfl _ rfl; refine R.gY (zg77) ?_; refine R.fa Tryz.runUnderlying72 Tryz.sizeOf3 ?_; refine R.nl ?_; exact Run.loc rfl rfl rfl
       apply TC.val [5, 0]; exact rfl; kernel_rfl
       ·rintro _ rfl _ rfl _ rfl; refine R.gY (zg77) ?_; refine R.ldD Tryz.isAgg3 ?_; refine R.nl ?_; exact Run.loc rfl rfl rfl
       apply TC.val [6]; exact rfl; kernel_rfl
       ·rintro _ rfl _ rfl; refine R.gY (zg77) ?_; refine R.fa Tryz.runUnderlying72 Tryz.sizeOf3 ?_; refine R.nl ?_; exact Run.loc rfl rfl rfl
       apply TC.val [7, 0]; exact rfl; kernel_rfl
       ·rintro _ rfl _ rfl _ rfl; refine R.gY (zg77) ?_; refine R.ld Tryz.isAgg3 ?_; refine R.nl ?_; exact Run.loc rfl rfl rfl
       apply TC.val [8, 2, 0]; exact rfl; kernel_rfl
       ·rintro _ rfl _ rfl _ rfl _ rfl; refine R.gY (zg77) ?_; refine R.cm ?_; refine R.nl ?_; exact Run.loc rfl rfl rfl
       apply TC.val [12, 9, 0]; exact rfl; kernel_rfl
       ·rintro _ rfl _ rfl _ rfl _ rfl; refine R.gY (zg40) ?_; refine R.pT (zg77) ?_; refine R.nl ?_; exact Run.loc rfl rfl rfl
       apply TC.val [13, 0]; exact rfl; kernel_rfl
       ·rintro _ rfl _ rfl _ rfl; refine R.pF (zg40) ?_; refine R.nl ?_; exact Run.loc rfl rfl rfl
       apply TC.val [0]; exact rfl; kernel_rfl
       ·rintro _ rfl _ rfl; refine R.mv ?_; refine R.nl ?_; exact Run.loc rfl rfl rfl
       apply TC.val [0]; exact rfl; kernel_rfl
       ·rintro _ rfl _ rfl; refine R.gF (zg78) ?_; refine R.nl ?_; exact Run.loc rfl rfl rfl
       apply TC.val [1, 0]; exact rfl; kernel_rfl
       ·rintro _ rfl _ rfl _ rfl; refine R.gF (zg78) ?_; refine R.nl ?_; exact Run.loc rfl rfl rfl
       apply TC.val [2, 0]; exact rfl; kernel_rfl
       ·rintro _ rfl _ rfl _ rfl; refine R.gF (zg78) ?_; refine R.nl ?_; exact Run.loc rfl rfl rfl
       apply TC.val [3, 0]; exact rfl; kernel_rfl
       ·rintro _ rfl _ rfl _ rfl; refine R.gF (zg78) ?_; refine R.nl ?_; exact Run.loc rfl rfl rfl
       apply TC.val [4, 0]; exact rfl; kernel_rfl
       ·rintro _ rfl _ rfl _ rfl; refine R.pT (zg78) ?_; refine R.nl ?_; exact Run.loc rfl rfl rfl
       apply TC.val [0]; exact rfl; kernel_rfl
       ·rintro _ rfl _ rfl; refine R.mv ?_; refine R.nl ?_; exact Run.loc rfl rfl rfl
       apply TC.val [0]; exact rfl; kernel_rfl
       ·rintro _ rfl _ rfl; refine R.gF (rfl) ?_; refine R.nl ?_; exact Run.loc rfl rfl rfl
       apply TC.val [1, 0]; exact rfl; kernel_rfl
       ·rintro _ rfl _ rfl _ rfl; refine R.gF (rfl) ?_; refine R.nl ?_; exact Run.loc rfl rfl rfl
       apply TC.val [2, 0]; exact rfl; kernel_rfl
       ·rintro _ rfl _ rfl _ rfl; refine R.gF (rfl) ?_; refine R.nl ?_; exact Run.loc rfl rfl rfl
       apply TC.val [3]; exact rfl; kernel_rfl
       ·rintro _ rfl _ rfl; refine R.gF (rfl) ?_; refine R.nl ?_; exact Run.loc rfl rfl rfl
       apply TC.val [4, 0]; exact rfl; kernel_rfl
       ·rintro _ rfl _ rfl _ rfl; refine R.gF (rfl) ?_; refine R.nl ?_; exact Run.loc rfl rfl rfl
       refine TC.fin (by rfl) ?_; rintro _ rfl _ rfl _ rfl _ rfl _ rfl _ rfl _ rfl _ rfl _ rfl _ rfl _ rfl _ rfl _ rfl _ rfl _ rfl _ rfl _ rfl _ rfl _ rfl _ rfl _ rfl _ rfl _ rfl _ rfl _ rfl _ rfl _ rfl _ rfl _ rfl _ rfl _ rfl _ rfl _ rfl _ rfl _ rfl _ rfl; refine R.gF (rfl) ?_; refine R.pT (rfl) ?_; refine R.nl ?_; refine R.hs (e' := [(0, _), (3, _), (51, _)]) ?_; refine R.cT (rfl) ?_
       have hok : okVs xs = false := okVs_no hlt (by rw [rAt_eq hgx hgu]; simp only [okV] at *; grind)
       refine R.sq ?_; refine R.rg ?_; refine R.as ?_; refine R.nl ?_; refine R.hs (e' := [(2, _)]) ?_; exact R.rt (RV.t .nil) 1 (congrArg Value.bool hok.symm)
      ·
       rcases Bool.eq_false_or_eq_true (!(okH x.h)) with zg115 | zg115
       ·refine Run.drawC Grow.eq 35 [(0, _), (3, _), (4, _)] mix (by kernel_rfl) (by repeat (first | exact trivial | refine ⟨rfl, ?_⟩)) ?_; apply TC.val []; exact rfl; kernel_rfl
        ·rintro _ rfl ; refine R.fa Tryz.runUnderlying72 Tryz.sizeOf3 ?_; refine R.nl ?_; exact Run.loc rfl rfl rfl
        apply TC.val [0]; exact rfl; kernel_rfl
        ·rintro _ rfl _ rfl; refine R.ld Tryz.isAgg3 ?_; refine R.nl ?_; exact Run.loc rfl rfl rfl
        apply TC.val [0]; exact rfl; kernel_rfl
        ·rintro _ rfl _ rfl; refine R.cm ?_; refine R.nl ?_; exact Run.loc rfl rfl rfl
        apply TC.val [0]; exact rfl; kernel_rfl
        ·rintro _ rfl _ rfl; refine R.mv ?_; refine R.nl ?_; exact Run.loc rfl rfl rfl
        apply TC.val [0]; exact rfl; kernel_rfl
        ·rintro _ rfl _ rfl; refine R.gY (zg3) ?_; refine R.fa Tryz.runUnderlying72 Tryz.sizeOf3 ?_; refine R.nl ?_; exact Run.loc rfl rfl rfl
        apply TC.val [1, 0]; exact rfl; kernel_rfl
        ·rintro _ rfl _ rfl _ rfl; refine R.gY (zg3) ?_; refine R.ld Tryz.isAgg3 ?_; refine R.nl ?_; exact Run.loc rfl rfl rfl
        apply TC.val [2, 0]; exact rfl; kernel_rfl
        ·rintro _ rfl _ rfl _ rfl; refine R.gY (zg3) ?_; refine R.cm ?_; refine R.nl ?_; exact Run.loc rfl rfl rfl
        apply TC.val [3, 0]; exact rfl; kernel_rfl
        ·rintro _ rfl _ rfl _ rfl; refine R.pF (zg3) ?_; refine R.nl ?_; exact Run.loc rfl rfl rfl
        apply TC.val [0]; exact rfl; kernel_rfl
        ·rintro _ rfl _ rfl; refine R.mv ?_; refine R.nl ?_; exact Run.loc rfl rfl rfl
        apply TC.val [0]; exact rfl; kernel_rfl
        ·rintro _ rfl _ rfl; refine R.gY (zg40) ?_; refine R.mv ?_; refine R.nl ?_; exact Run.loc rfl rfl rfl
        apply TC.val [1, 0]; exact rfl; kernel_rfl
        ·rintro _ rfl _ rfl _ rfl; refine R.gY (zg40) ?_; refine R.cm ?_; refine R.nl ?_; exact Run.loc rfl rfl rfl
        apply TC.val [2, 0]; exact rfl; kernel_rfl
        ·rintro _ rfl _ rfl _ rfl; refine R.gY (zg40) ?_; refine R.mv ?_; refine R.nl ?_; exact Run.loc rfl rfl rfl
        apply TC.val [0]; exact rfl; kernel_rfl
        ·rintro _ rfl _ rfl; refine R.gY (zg77) ?_; refine R.mv ?_; refine R.nl ?_; exact Run.loc rfl rfl rfl
        apply TC.val [1]; exact rfl; kernel_rfl
        ·rintro _ rfl _ rfl; refine R.gY (zg77) ?_; refine R.mv ?_; refine R.nl ?_; exact Run.loc rfl rfl rfl
        apply TC.val [2, 0]; exact rfl; kernel_rfl
        ·rintro _ rfl _ rfl _ rfl; refine R.gY (zg77) ?_; refine R.sb ?_; refine R.nl ?_; exact Run.loc rfl rfl rfl
        apply TC.val [3, 2, 0]; exact rfl; kernel_rfl
        ·rintro _ rfl _ rfl _ rfl _ rfl; refine R.gY (zg77) ?_; refine R.ix (hI2) Tryz.runUnderlying24 Tryz.sizeOf72 ?_; refine R.nl ?_; exact Run.loc rfl rfl rfl
        apply TC.val [4, 0]; exact rfl; kernel_rfl
        ·rintro _ rfl _ rfl _ rfl; refine R.gY (zg77) ?_; refine R.fa Tryz.runUnderlying72 Tryz.sizeOf3 ?_; refine R.nl ?_; exact Run.loc rfl rfl rfl
        apply TC.val [5, 0]; exact rfl; kernel_rfl
        ·rintro _ rfl _ rfl _ rfl; refine R.gY (zg77) ?_; refine R.ldD Tryz.isAgg3 ?_; refine R.nl ?_; exact Run.loc rfl rfl rfl
        apply TC.val [6]; exact rfl; kernel_rfl
        ·rintro _ rfl _ rfl; refine R.gY (zg77) ?_; refine R.fa Tryz.runUnderlying72 Tryz.sizeOf3 ?_; refine R.nl ?_; exact Run.loc rfl rfl rfl
        apply TC.val [7, 0]; exact rfl; kernel_rfl
        ·rintro _ rfl _ rfl _ rfl; refine R.gY (zg77) ?_; refine R.ld Tryz.isAgg3 ?_; refine R.nl ?_; exact Run.loc rfl rfl rfl
        apply TC.val [8, 2, 0]; exact rfl; kernel_rfl
        ·rintro _ rfl _ rfl _ rfl _ rfl; refine R.gY (zg77) ?_; refine R.cm ?_; refine R.nl ?_; exact Run.loc rfl rfl rfl
        apply TC.val [12, 9, 0]; exact rfl; kernel_rfl
        ·rintro _ rfl _ rfl _ rfl _ rfl; refine R.gY (zg40) ?_; refine R.pT (zg77) ?_; refine R.nl ?_; exact Run.loc rfl rfl rfl
        apply TC.val [13, 0]; exact rfl; kernel_rfl
        ·rintro _ rfl _ rfl _ rfl; refine R.pF (zg40) ?_; refine R.nl ?_; exact Run.loc rfl rfl rfl
        apply TC.val [0]; exact rfl; kernel_rfl
        ·rintro _ rfl _ rfl; refine R.mv ?_; refine R.nl ?_; exact Run.loc rfl rfl rfl
        apply TC.val [0]; exact rfl; kernel_rfl
        ·rintro _ rfl _ rfl; refine R.gY (zg78) ?_; refine R.fa Tryz.runUnderlying72 Tryz.sizeOf23 ?_; refine R.nl ?_; exact Run.loc rfl rfl rfl
        apply TC.val [1, 0]; exact rfl; kernel_rfl
        ·rintro _ rfl _ rfl _ rfl; refine R.gY (zg78) ?_; refine R.lA 6 Tryz.isAgg23 Tryz.sizeOf23 ?_; refine R.nl ?_; exact Run.loc rfl rfl rfl
        apply TC.val [2, 0]; exact rfl; kernel_rfl
        ·rintro _ rfl _ rfl _ rfl; refine R.gY (zg78) ?_; refine R.cg Tryz.call47 (refRight_spec x.h) ?_; refine R.nl ?_; exact Run.loc rfl rfl rfl
        apply TC.val [3, 0]; exact rfl; kernel_rfl
        ·rintro _ rfl _ rfl _ rfl; refine R.gY (zg78) ?_; refine R.nt ?_; refine R.nl ?_; exact Run.loc rfl rfl rfl
        apply TC.val [4, 0]; exact rfl; kernel_rfl
        ·rintro _ rfl _ rfl _ rfl; refine R.pF (zg78) ?_; refine R.nl ?_; exact Run.loc rfl rfl rfl
        apply TC.val [0]; exact rfl; kernel_rfl
        ·rintro _ rfl _ rfl; refine R.mv ?_; refine R.nl ?_; exact Run.loc rfl rfl rfl
        apply TC.val [0]; exact rfl; kernel_rfl
        ·rintro _ rfl _ rfl; refine R.gF (zg115) ?_; refine R.nl ?_; exact Run.loc rfl rfl rfl
        apply TC.val [1, 0]; exact rfl; kernel_rfl
        ·rintro _ rfl _ rfl _ rfl; refine R.gF (zg115) ?_; refine R.nl ?_; exact Run.loc rfl rfl rfl
        apply TC.val [2, 0]; exact rfl; kernel_rfl
        ·rintro _ rfl _ rfl _ rfl; refine R.gF (zg115) ?_; refine R.nl ?_; exact Run.loc rfl rfl rfl
        apply TC.val [3]; exact rfl; kernel_rfl
        ·rintro _ rfl _ rfl; refine R.gF (zg115) ?_; refine R.nl ?_; exact Run.loc rfl rfl rfl
        apply TC.val [4, 0]; exact rfl; kernel_rfl
        ·rintro _ rfl _ rfl _ rfl; refine R.gF (zg115) ?_; refine R.nl ?_; exact Run.loc rfl rfl rfl
        refine TC.fin (by rfl) ?_; rintro _ rfl _ rfl _ rfl _ rfl _ rfl _ rfl _ rfl _ rfl _ rfl _ rfl _ rfl _ rfl _ rfl _ rfl _ rfl _ rfl _ rfl _ rfl _ rfl _ rfl _ rfl _ rfl _ rfl _ rfl _ rfl _ rfl _ rfl _ rfl _ rfl _ rfl _ rfl _ rfl _ rfl _ rfl _ rfl _ rfl; refine R.gF (zg115) ?_; refine R.pT (zg115) ?_; refine R.nl ?_; refine R.hs (e' := [(0, _), (3, _), (51, _)]) ?_; refine R.cT (rfl) ?_
        have hok : okVs xs = false := okVs_no hlt (by rw [rAt_eq hgx hgu]; simp only [okV] at *; grind)
        refine R.sq ?_; refine R.rg ?_; refine R.as ?_; refine R.nl ?_; refine R.hs (e' := [(2, _)]) ?_; exact R.rt (RV.t .nil) 1 (congrArg Value.bool hok.symm)
       ·refine Run.drawC Grow.eq 35 [(0, _), (3, _), (4, _)] mix (by kernel_rfl) (by repeat (first | exact trivial | refine ⟨rfl, ?_⟩)) ?_; apply TC.val []; exact rfl; kernel_rfl
        ·rintro _ rfl ; refine R.fa Tryz.runUnderlying72 Tryz.sizeOf3 ?_; refine R.nl ?_; exact Run.loc rfl rfl rfl
        apply TC.val [0]; exact rfl; kernel_rfl
        ·rintro _ rfl _ rfl; refine R.ld Tryz.isAgg3 ?_; refine R.nl ?_; exact Run.loc rfl rfl rfl
        apply TC.val [0]; exact rfl; kernel_rfl
        ·rintro _ rfl _ rfl; refine R.cm ?_; refine R.nl ?_; exact Run.loc rfl rfl rfl
        apply TC.val [0]; exact rfl; kernel_rfl
        ·rintro _ rfl _ rfl; refine R.mv ?_; refine R.nl ?_; exact Run.loc rfl rfl rfl
        apply TC.val [0]; exact rfl; kernel_rfl
        ·rintro _ rfl _ rfl; refine R.gY (zg3) ?_; refine R.fa Tryz.runUnderlying72 Tryz.sizeOf3 ?_; refine R.nl ?_; exact Run.loc rfl rfl rfl
        apply TC.val [1, 0]; exact rfl; kernel_rfl
        ·rintro _ rfl _ rfl _ rfl; refine R.gY (zg3) ?_; refine R.ld Tryz.isAgg3 ?_; refine R.nl ?_; exact Run.loc rfl rfl rfl
        apply TC.val [2, 0]; exact rfl; kernel_rfl
        ·rintro _ rfl _ rfl _ rfl; refine R.gY (zg3) ?_; refine R.cm ?_; refine R.nl ?_; exact Run.loc rfl rfl rfl
        apply TC.val [3, 0]; exact rfl; kernel_rfl
        ·rintro _ rfl _ rfl _ rfl; refine R.pF (zg3) ?_; refine R.nl ?_; exact Run.loc rfl rfl rfl
        apply TC.val [0]; exact rfl; kernel_rfl
        ·rintro _ rfl _ rfl; refine R.mv ?_; refine R.nl ?_; exact Run.loc rfl rfl rfl
        apply TC.val [0]; exact rfl; kernel_rfl
        ·rintro _ rfl _ rfl; refine R.gY (zg40) ?_; refine R.mv ?_; refine R.nl ?_; exact Run.loc rfl rfl rfl
        apply TC.val [1, 0]; exact rfl; kernel_rfl
        ·rintro _ rfl _ rfl _ rfl; refine R.gY (zg40) ?_; refine R.cm ?_; refine R.nl ?_; exact Run.loc rfl rfl rfl
        apply TC.val [2, 0]; exact rfl; kernel_rfl
        ·rintro _ rfl _ rfl _ rfl; refine R.gY (zg40) ?_; refine R.mv ?_; refine R.nl ?_; exact Run.loc rfl rfl rfl
        apply TC.val [0]; exact rfl; kernel_rfl
        ·rintro _ rfl _ rfl; refine R.gY (zg77) ?_; refine R.mv ?_; refine R.nl ?_; exact Run.loc rfl rfl rfl
        apply TC.val [1]; exact rfl; kernel_rfl
        ·rintro _ rfl _ rfl; refine R.gY (zg77) ?_; refine R.mv ?_; refine R.nl ?_; exact Run.loc rfl rfl rfl
        apply TC.val [2, 0]; exact rfl; kernel_rfl
        ·rintro _ rfl _ rfl _ rfl; refine R.gY (zg77) ?_; refine R.sb ?_; refine R.nl ?_; exact Run.loc rfl rfl rfl
        apply TC.val [3, 2, 0]; exact rfl; kernel_rfl
        ·rintro _ rfl _ rfl _ rfl _ rfl; refine R.gY (zg77) ?_; refine R.ix (hI2) Tryz.runUnderlying24 Tryz.sizeOf72 ?_; refine R.nl ?_; exact Run.loc rfl rfl rfl
        apply TC.val [4, 0]; exact rfl; kernel_rfl
        ·rintro _ rfl _ rfl _ rfl; refine R.gY (zg77) ?_; refine R.fa Tryz.runUnderlying72 Tryz.sizeOf3 ?_; refine R.nl ?_; exact Run.loc rfl rfl rfl
        apply TC.val [5, 0]; exact rfl; kernel_rfl
        ·rintro _ rfl _ rfl _ rfl; refine R.gY (zg77) ?_; refine R.ldD Tryz.isAgg3 ?_; refine R.nl ?_; exact Run.loc rfl rfl rfl
        apply TC.val [6]; exact rfl; kernel_rfl
        ·rintro _ rfl _ rfl; refine R.gY (zg77) ?_; refine R.fa Tryz.runUnderlying72 Tryz.sizeOf3 ?_; refine R.nl ?_; exact Run.loc rfl rfl rfl
        apply TC.val [7, 0]; exact rfl; kernel_rfl
        ·rintro _ rfl _ rfl _ rfl; refine R.gY (zg77) ?_; refine R.ld Tryz.isAgg3 ?_; refine R.nl ?_; exact Run.loc rfl rfl rfl
        apply TC.val [8, 2, 0]; exact rfl; kernel_rfl
        ·rintro _ rfl _ rfl _ rfl _ rfl; refine R.gY (zg77) ?_; refine R.cm ?_; refine R.nl ?_; exact Run.loc rfl rfl rfl
        apply TC.val [12, 9, 0]; exact rfl; kernel_rfl
        ·rintro _ rfl _ rfl _ rfl _ rfl; refine R.gY (zg40) ?_; refine R.pT (zg77) ?_; refine R.nl ?_; exact Run.loc rfl rfl rfl
        apply TC.val [13, 0]; exact rfl; kernel_rfl
        ·rintro _ rfl _ rfl _ rfl; refine R.pF (zg40) ?_; refine R.nl ?_; exact Run.loc rfl rfl rfl
        apply TC.val [0]; exact rfl; kernel_rfl
        ·rintro _ rfl _ rfl; refine R.mv ?_; refine R.nl ?_; exact Run.loc rfl rfl rfl
        apply TC.val [0]; exact rfl; kernel_rfl
        ·rintro _ rfl _ rfl; refine R.gY (zg78) ?_; refine R.fa Tryz.runUnderlying72 Tryz.sizeOf23 ?_; refine R.nl ?_; exact Run.loc rfl rfl rfl
        apply TC.val [1, 0]; exact rfl; kernel_rfl
        ·rintro _ rfl _ rfl _ rfl; refine R.gY (zg78) ?_; refine R.lA 6 Tryz.isAgg23 Tryz.sizeOf23 ?_; refine R.nl ?_; exact Run.loc rfl rfl rfl
        apply TC.val [2, 0]; exact rfl; kernel_rfl
        ·rintro _ rfl _ rfl _ rfl; refine R.gY (zg78) ?_; refine R.cg Tryz.call47 (refRight_spec x.h) ?_; refine R.nl ?_; exact Run.loc rfl rfl rfl
        apply TC.val [3, 0]; exact rfl; kernel_rfl
        ·rintro _ rfl _ rfl _ rfl; refine R.gY (zg78) ?_; refine R.nt ?_; refine R.nl ?_; exact Run.loc rfl rfl rfl
        apply TC.val [4, 0]; exact rfl; kernel_rfl
        ·rintro _ rfl _ rfl _ rfl; refine R.pF (zg78) ?_; refine R.nl ?_; exact Run.loc rfl rfl rfl
        apply TC.val [0]; exact rfl; kernel_rfl
        ·rintro _ rfl _ rfl; refine R.mv ?_; refine R.nl ?_; exact Run.loc rfl rfl rfl
        apply TC.val [0]; exact rfl; kernel_rfl
        ·rintro _ rfl _ rfl; refine R.gY (zg115) ?_; refine R.fa Tryz.runUnderlying72 Tryz.sizeOf23 ?_; refine R.nl ?_; exact Run.loc rfl rfl rfl
        apply TC.val [1, 0]; exact rfl; kernel_rfl
        ·rintro _ rfl _ rfl _ rfl; refine R.gY (zg115) ?_; refine R.fa Tryz.runUnderlying23 Tryz.sizeOf3 ?_; refine R.nl ?_; exact Run.loc rfl rfl rfl
        apply TC.val [2, 0]; exact rfl; kernel_rfl
        ·rintro _ rfl _ rfl _ rfl; refine R.gY (zg115) ?_; refine R.ld Tryz.isAgg3 ?_; refine R.nl ?_; exact Run.loc rfl rfl rfl
        apply TC.val [3]; exact rfl; kernel_rfl
        ·rintro _ rfl _ rfl; refine R.gY (zg115) ?_; refine R.fa Tryz.runUnderlying72 Tryz.sizeOf3 ?_; refine R.nl ?_; exact Run.loc rfl rfl rfl
        apply TC.val [4, 0]; exact rfl; kernel_rfl
        ·rintro _ rfl _ rfl _ rfl; refine R.gY (zg115) ?_; refine R.ld Tryz.isAgg3 ?_; refine R.nl ?_; exact Run.loc rfl rfl rfl
        refine TC.fin (by rfl) ?_; rintro _ rfl _ rfl _ rfl _ rfl _ rfl _ rfl _ rfl _ rfl _ rfl _ rfl _ rfl _ rfl _ rfl _ rfl _ rfl _ rfl _ rfl _ rfl _ rfl _ rfl _ rfl _ rfl _ rfl _ rfl _ rfl _ rfl _ rfl _ rfl _ rfl _ rfl _ rfl _ rfl _ rfl _ rfl _ rfl _ rfl; refine R.gY (zg115) ?_; refine R.cm ?_; refine R.pF (zg115) ?_; refine R.nl ?_; refine R.hs (e' := [(0, _), (3, _), (51, _)]) ?_; refine R.cd (fun zc188 => ?_) (fun zc188 => ?_)
        ·
         have hok : okVs xs = false := okVs_no hlt (by rw [rAt_eq hgx hgu]; simp only [okV] at *; grind)
         refine R.sq ?_; refine R.rg ?_; refine R.as ?_; refine R.nl ?_; refine R.hs (e' := [(2, _)]) ?_; exact R.rt (RV.t .nil) 1 (congrArg Value.bool hok.symm)
        ·
         have hr : rAt xs i = true := by rw [rAt_eq hgx hgu]; simp only [okV] at *; grind
         refine Run.skip ?_; refine Run.endBlock ?_; refine R.rg ?_; refine R.mv ?_; refine R.ad ?_; refine R.as ?_; refine R.nl ?_; refine R.hs (e' := [(0, _), (3, _)]) ?_; exact Run.again (i + 1) ⟨by omega, fun j hj => by rcases Nat.lt_or_ge j i with h | h; exact hpre j h; rw [show j = i by omega]; exact hr⟩ (by omega) ⟨rfl, by repeat (first | exact trivial | refine ⟨rfl, ?_⟩)⟩ (fun w hs => hs.drop 1)
     ·
      rcases Bool.eq_false_or_eq_true (!(okH x.h)) with zg189 | zg189
      ·refine Run.drawC Grow.eq 35 [(0, _), (3, _), (4, _)] mix (by kernel_rfl) (by repeat (first | exact trivial | refine ⟨rfl, ?_⟩)) ?_; apply TC.val []; exact rfl; kernel_rfl
       ·rintro _ rfl ; refine R.fa Tryz.runUnderlying72 Tryz.sizeOf3 ?_; refine R.nl ?_; exact Run.loc rfl rfl rfl
       apply TC.val [0]; exact rfl; kernel_rfl
       ·rintro _ rfl _ rfl; refine R.ld Tryz.isAgg3 ?_; refine R.nl ?_; exact Run.loc rfl rfl rfl
       apply TC.val [0]; exact rfl; kernel_rfl
       ·rintro _ rfl _ rfl; refine R.cm ?_; refine R.nl ?_; exact Run.loc rfl rfl rfl
       apply TC.val [0]; exact rfl; kernel_rfl
       ·rintro _ rfl _ rfl; refine R.mv ?_; refine R.nl ?_; exact Run.loc rfl rfl rfl
       apply TC.val [0]; exact rfl; kernel_rfl
       ·rintro _ rfl _ rfl; refine R.gY (zg3) ?_; refine R.fa Tryz.runUnderlying72 Tryz.sizeOf3 ?_; refine R.nl ?_; exact Run.loc rfl rfl rfl
       apply TC.val [1, 0]; exact rfl; kernel_rfl
       ·rintro _ rfl _ rfl _ rfl; refine R.gY (zg3) ?_; refine R.ld Tryz.isAgg3 ?_; refine R.nl ?_; exact Run.loc rfl rfl rfl
       apply TC.val [2, 0]; exact rfl; kernel_rfl
       ·rintro _ rfl _ rfl _ rfl; refine R.gY (zg3) ?_; refine R.cm ?_; refine R.nl ?_; exact Run.loc rfl rfl rfl
       apply TC.val [3, 0]; exact rfl; kernel_rfl
       ·rintro _ rfl _ rfl _ rfl; refine R.pF (zg3) ?_; refine R.nl ?_; exact Run.loc rfl rfl rfl
       apply TC.val [0]; exact rfl; kernel_rfl
       ·rintro _ rfl _ rfl; refine R.mv ?_; refine R.nl ?_; exact Run.loc rfl rfl rfl
       apply TC.val [0]; exact rfl; kernel_rfl
       ·rintro _ rfl _ rfl; refine R.gY (zg40) ?_; refine R.mv ?_; refine R.nl ?_; exact Run.loc rfl rfl rfl
       apply TC.val [1, 0]; exact rfl; kernel_rfl
       ·rintro _ rfl _ rfl _ rfl; refine R.gY (zg40) ?_; refine R.cm ?_; refine R.nl ?_; exact Run.loc rfl rfl rfl
       apply TC.val [2, 0]; exact rfl; kernel_rfl
       ·rintro _ rfl _ rfl _ rfl; refine R.gY (zg40) ?_; refine R.mv ?_; refine R.nl ?_; exact Run.loc rfl rfl rfl
       apply TC.val [0]; exact rfl; kernel_rfl
       ·rintro _ rfl _ rfl; refine R.gF (zg77) ?_; refine R.nl ?_; exact Run.loc rfl rfl rfl
       apply TC.val [1]; exact rfl; kernel_rfl
       ·rintro _ rfl _ rfl; refine R.gF (zg77) ?_; refine R.nl ?_; exact Run.loc rfl rfl rfl
       apply TC.val [2, 0]; exact rfl; kernel_rfl
       ·rintro _ rfl _ rfl _ rfl; refine R.gF (zg77) ?_; refine R.nl ?_; exact Run.loc rfl rfl rfl
       apply TC.val [3, 2, 0]; exact rfl; kernel_rfl
       ·rintro _ rfl _ rfl _ rfl _ rfl; refine R.gF (zg77) ?_; refine R.nl ?_; exact Run.loc rfl rfl rfl
       apply TC.val [4, 0]; exact rfl; kernel_rfl
       ·rintro _ rfl _ rfl _ rfl; refine R.gF (zg77) ?_; refine R.nl ?_; exact Run.loc rfl rfl rfl
       apply TC.val [5, 0]; exact rfl; kernel_rfl
       ·rintro _ rfl _ rfl _ rfl; refine R.gF (zg77) ?_; refine R.nl ?_; exact Run.loc rfl rfl rfl
       apply TC.val [6]; exact rfl; kernel_rfl
       ·rintro _ rfl _ rfl; refine R.gF (zg77) ?_; refine R.nl ?_; exact Run.loc rfl rfl rfl
       apply TC.val [7, 0]; exact rfl; kernel_rfl
       ·rintro _ rfl _ rfl _ rfl; refine R.gF (zg77) ?_; refine R.nl ?_; exact Run.loc rfl rfl rfl
       apply TC.val [8, 2, 0]; exact rfl; kernel_rfl
       ·rintro _ rfl _ rfl _ rfl _ rfl; refine R.gF (zg77) ?_; refine R.nl ?_; exact Run.loc rfl rfl rfl
       apply TC.val [12, 9, 0]; exact rfl; kernel_rfl
       ·rintro _ rfl _ rfl _ rfl _ rfl; refine R.gY (zg40) ?_; refine R.pF (zg77) ?_; refine R.nl ?_; exact Run.loc rfl rfl rfl
       apply TC.val [13, 0]; exact rfl; kernel_rfl
       ·rintro _ rfl _ rfl _ rfl; refine R.pF (zg40) ?_; refine R.nl ?_; exact Run.loc rfl rfl rfl
       apply TC.val [0]; exact rfl; kernel_rfl
       ·rintro _ rfl _ rfl; refine R.mv ?_; refine R.nl ?_; exact Run.loc rfl rfl rfl
       apply TC.val [0]; exact rfl; kernel_rfl
       ·rintro _ rfl _ rfl; refine R.gY (rfl) ?_; refine R.fa Tryz.runUnderlying72 Tryz.sizeOf23 ?_; refine R.nl ?_; exact Run.loc rfl rfl rfl
       apply TC.val [1, 0]; exact rfl; kernel_rfl
       ·rintro _ rfl _ rfl _ rfl; refine R.gY (rfl) ?_; refine R.lA 6 Tryz.isAgg23 Tryz.sizeOf23 ?_; refine R.nl ?_; exact Run.loc rfl rfl rfl
       apply TC.val [2, 0]; exact rfl; kernel_rfl
       ·rintro _ rfl _ rfl _ rfl; refine R.gY (rfl) ?_; refine R.cg Tryz.call47 (refRight_spec x.h) ?_; refine R.nl ?_; exact Run.loc rfl rfl rfl
       apply TC.val [3, 0]; exact rfl; kernel_rfl
       ·rintro _ rfl _ rfl _ rfl; refine R.gY (rfl) ?_; refine R.nt ?_; refine R.nl ?_; exact Run.loc rfl rfl rfl
       apply TC.val [4, 0]; exact rfl; kernel_rfl
       ·rintro _ rfl _ rfl _ rfl; refine R.pF (rfl) ?_; refine R.nl ?_; exact Run.loc rfl rfl rfl
       apply TC.val [0]; exact rfl; kernel_rfl
       ·rintro _ rfl _ rfl; refine R.mv ?_; refine R.nl ?_; exact Run.loc rfl rfl rfl
       apply TC.val [0]; exact rfl; kernel_rfl
       ·rintro _ rfl _ rfl; refine R.gF (zg189) ?_; refine R.nl ?_; exact Run.loc rfl rfl rfl
       apply TC.val [1, 0]; exact rfl; kernel_rfl
       ·rintro _ rfl _ rfl _ rfl; refine R.gF (zg189) ?_; refine R.nl ?_; exact Run.loc rfl rfl rfl
       apply TC.val [2, 0]; exact rfl; kernel_rfl
       ·rintro _ rfl _ rfl _ rfl; refine R.gF (zg189) ?_; refine R.nl ?_; exact Run.loc rfl rfl rfl
       apply TC.val [3]; exact rfl; kernel_rfl
       ·rintro _ rfl _ rfl; refine R.gF (zg189) ?_; refine R.nl ?_; exact Run.loc rfl rfl rfl
       apply TC.val [4, 0]; exact rfl; kernel_rfl
       ·rintro _ rfl _ rfl _ rfl; refine R.gF (zg189) ?_; refine R.nl ?_; exact Run.loc rfl rfl rfl
       refine TC.fin (by rfl) ?_; rintro _ rfl _ rfl _ rfl _ rfl _ rfl _ rfl _ rfl _ rfl _ rfl _ rfl _ rfl _ rfl _ rfl _ rfl _ rfl _ rfl _ rfl _ rfl _ rfl _ rfl _ rfl _ rfl _ rfl _ rfl _ rfl _ rfl _ rfl _ rfl _ rfl _ rfl _ rfl _ rfl _ rfl _ rfl _ rfl _ rfl; refine R.gF (zg189) ?_; refine R.pT (zg189) ?_; refine R.nl ?_; refine R.hs (e' := [(0, _), (3, _), (51, _)]) ?_; refine R.cT (rfl) ?_
       have hok : okVs xs = false := okVs_no hlt (by rw [rAt_eq hgx hgu]; simp only [okV] at *; grind)
       refine R.sq ?_; refine R.rg ?_; refine R.as ?_; refine R.nl ?_; refine R.hs (e' := [(2, _)]) ?_; exact R.rt (RV.t .nil) 1 (congrArg Value.bool hok.symm)
      ·refine Run.drawC Grow.eq 35 [(0, _), (3, _), (4, _)] mix (by kernel_rfl) (by repeat (first | exact trivial | refine ⟨rfl, ?_⟩)) ?_; apply TC.val []; exact rfl; kernel_rfl
       ·rintro _ rfl ; refine R.fa Tryz.runUnderlying72 Tryz.sizeOf3 ?_; refine R.nl ?_; exact Run.loc rfl rfl rfl
       apply TC.val [0]; exact rfl; kernel_rfl
       ·rintro _ rfl _ rfl; refine R.ld Tryz.isAgg3 ?_; refine R.nl ?_; exact Run.loc rfl rfl rfl
       apply TC.val [0]; exact rfl; kernel_rfl
       ·rintro _ rfl _ rfl; refine R.cm ?_; refine R.nl ?_; exact Run.loc rfl rfl rfl
       apply TC.val [0]; exact rfl; kernel_rfl
       ·rintro _ rfl _ rfl; refine R.mv ?_; refine R.nl ?_; exact Run.loc rfl rfl rfl
       apply TC.val [0]; exact rfl; kernel_rfl
       ·rintro _ rfl _ rfl; refine R.gY (zg3) ?_; refine R.fa Tryz.runUnderlying72 Tryz.sizeOf3 ?_; refine R.nl ?_; exact Run.loc rfl rfl rfl
       apply TC.val [1, 0]; exact rfl; kernel_rfl
       ·rintro _ rfl _ rfl _ rfl; refine R.gY (zg3) ?_; refine R.ld Tryz.isAgg3 ?_; refine R.nl ?_; exact Run.loc rfl rfl rfl
       apply TC.val [2, 0]; exact rfl; kernel_rfl
       ·rintro _ rfl _ rfl _ rfl; refine R.gY (zg3) ?_; refine R.cm ?_; refine R.nl ?_; exact Run.loc rfl rfl rfl
       apply TC.val [3, 0]; exact rfl; kernel_rfl
       ·rintro _ rfl _ rfl _ rfl; refine R.pF (zg3) ?_; refine R.nl ?_; exact Run.loc rfl rfl rfl
       apply TC.val [0]; exact rfl; kernel_rfl
       ·rintro _ rfl _ rfl; refine R.mv ?_; refine R.nl ?_; exact Run.loc rfl rfl rfl
       apply TC.val [0]; exact rfl; kernel_rfl
       ·rintro _ rfl _ rfl; refine R.gY (zg40) ?_; refine R.mv ?_; refine R.nl ?_; exact Run.loc rfl rfl rfl
       apply TC.val [1, 0]; exact rfl; kernel_rfl
       ·rintro _ rfl _ rfl _ rfl; refine R.gY (zg40) ?_; refine R.cm ?_; refine R.nl ?_; exact Run.loc rfl rfl rfl
       apply TC.val [2, 0]; exact rfl; kernel_rfl
       ·rintro _ rfl _ rfl _ rfl; refine R.gY (zg40) ?_; refine R.mv ?_; refine R.nl ?_; exact Run.loc rfl rfl rfl
       apply TC.val [0]; exact rfl; kernel_rfl
       ·rintro _ rfl _ rfl; refine R.gF (zg77) ?_; refine R.nl ?_; exact Run.loc rfl rfl rfl
       apply TC.val [1]; exact rfl; kernel_rfl
       ·rintro _ rfl _ rfl; refine R.gF (zg77) ?_; refine R.nl ?_; exact Run.loc rfl rfl rfl
       apply TC.val [2, 0]; exact rfl; kernel_rfl
       ·rintro _ rfl _ rfl _ rfl; refine R.gF (zg77) ?_; refine R.nl ?_; exact Run.loc rfl rfl rfl
       apply TC.val [3, 2, 0]; exact rfl; kernel_rfl
       ·rintro _ rfl _ rfl _ rfl _ rfl; refine R.gF (zg77) ?_; refine R.nl ?_; exact Run.loc rfl rfl rfl
       apply TC.val [4, 0]; exact rfl; kernel_rfl
       ·rintro _ rfl _ rfl _ rfl; refine R.gF (zg77) ?_; refine R.nl ?_; exact Run.loc rfl rfl rfl
       apply TC.val [5, 0]; exact rfl; kernel_rfl
       ·rintro _ rfl _ rfl _ rfl; refine R.gF (zg77) ?_; refine R.nl ?_; exact Run.loc rfl rfl rfl
       apply TC.val [6]; exact rfl; kernel_rfl
       ·rintro _ rfl _ rfl; refine R.gF (zg77) ?_; refine R.nl ?_; exact Run.loc rfl rfl rfl
       apply TC.val [7, 0]; exact rfl; kernel_rfl
       ·rintro _ rfl _ rfl _ rfl; refine R.gF (zg77) ?_; refine R.nl ?_; exact Run.loc rfl rfl rfl
       apply TC.val [8, 2, 0]; exact rfl; kernel_rfl
       ·rintro _ rfl _ rfl _ rfl _ rfl; refine R.gF (zg77) ?_; refine R.nl ?_; exact Run.loc rfl rfl rfl
       apply TC.val [12, 9, 0]; exact rfl; kernel_rfl
       ·rintro _ rfl _ rfl _ rfl _ rfl; refine R.gY (zg40) ?_; refine R.pF (zg77) ?_; refine R.nl ?_; exact Run.loc rfl rfl rfl
       apply TC.val [13, 0]; exact rfl; kernel_rfl
       ·rintro _ rfl _ rfl _ rfl; refine R.pF (zg40) ?_; refine R.nl ?_; exact Run.loc rfl rfl rfl
       apply TC.val [0]; exact rfl; kernel_rfl
       ·rintro _ rfl _ rfl; refine R.mv ?_; refine R.nl ?_; exact Run.loc rfl rfl rfl
       apply TC.val [0]; exact rfl; kernel_rfl
       ·rintro _ rfl _ rfl; refine R.gY (rfl) ?_; refine R.fa Tryz.runUnderlying72 Tryz.sizeOf23 ?_; refine R.nl ?_; exact Run.loc rfl rfl rfl
       apply TC.val [1, 0]; exact rfl; kernel_rfl
       ·rintro _ rfl _ rfl _ rfl; refine R.gY (rfl) ?_; refine R.lA 6 Tryz.isAgg23 Tryz.sizeOf23 ?_; refine R.nl ?_; exact Run.loc rfl rfl rfl
       apply TC.val [2, 0]; exact rfl; kernel_rfl
       ·rintro _ rfl _ rfl _ rfl; refine R.gY (rfl) ?_; refine R.cg Tryz.call47 (refRight_spec x.h) ?_; refine R.nl ?_; exact Run.loc rfl rfl rfl
       apply TC.val [3, 0]; exact rfl; kernel_rfl
       ·rintro _ rfl _ rfl _ rfl; refine R.gY (rfl) ?_; refine R.nt ?_; refine R.nl ?_; exact Run.loc rfl rfl rfl
       apply TC.val [4, 0]; exact rfl; kernel_rfl
       ·rintro _ rfl _ rfl _ rfl; refine R.pF (rfl) ?_; refine R.nl ?_; exact Run.loc rfl rfl rfl
       apply TC.val [0]; exact rfl; kernel_rfl
       ·rintro _ rfl _ rfl; refine R.mv ?_; refine R.nl ?_; exact Run.loc rfl rfl rfl
       apply TC.val [0]; exact rfl; kernel_rfl
       ·rintro _ rfl _ rfl; refine R.gY (zg189) ?_; refine R.fa Tryz.runUnderlying72 Tryz.sizeOf23 ?_; refine R.nl ?_; exact Run.loc rfl rfl rfl
       apply TC.val [1, 0]; exact rfl; kernel_rfl
       ·rintro _ rfl _ rfl _ rfl; refine R.gY (zg189) ?_; refine R.fa Tryz.runUnderlying23 Tryz.sizeOf3 ?_; refine R.nl ?_; exact Run.loc rfl rfl rfl
       apply TC.val [2, 0]; exact rfl; kernel_rfl
       ·rintro _ rfl _ rfl _ rfl; refine R.gY (zg189) ?_; refine R.ld Tryz.isAgg3 ?_; refine R.nl ?_; exact Run.loc rfl rfl rfl
       apply TC.val [3]; exact rfl; kernel_rfl
       ·rintro _ rfl _ rfl; refine R.gY (zg189) ?_; refine R.fa Tryz.runUnderlying72 Tryz.sizeOf3 ?_; refine R.nl ?_; exact Run.loc rfl rfl rfl
       apply TC.val [4, 0]; exact rfl; kernel_rfl
       ·rintro _ rfl _ rfl _ rfl; refine R.gY (zg189) ?_; refine R.ld Tryz.isAgg3 ?_; refine R.nl ?_; exact Run.loc rfl rfl rfl
       refine TC.fin (by rfl) ?_; rintro _ rfl _ rfl _ rfl _ rfl _ rfl _ rfl _ rfl _ rfl _ rfl _ rfl _ rfl _ rfl _ rfl _ rfl _ rfl _ rfl _ rfl _ rfl _ rfl _ rfl _ rfl _ rfl _ rfl _ rfl _ rfl _ rfl _ rfl _ rfl _ rfl _ rfl _ rfl _ rfl _ rfl _ rfl _ rfl _ rfl; refine R.gY (zg189) ?_; refine R.cm ?_; refine R.pF (zg189) ?_; refine R.nl ?_; refine R.hs (e' := [(0, _), (3, _), (51, _)]) ?_; refine R.cd (fun zc262 => ?_) (fun zc262 => ?_)
       ·
        have hok : okVs xs = false := okVs_no hlt (by rw [rAt_eq hgx hgu]; simp only [okV] at *; grind)
        refine R.sq ?_; refine R.rg ?_; refine R.as ?_; refine R.nl ?_; refine R.hs (e' := [(2, _)]) ?_; exact R.rt (RV.t .nil) 1 (congrArg Value.bool hok.symm)
       ·
        have hr : rAt xs i = true := by rw [rAt_eq hgx hgu]; simp only [okV] at *; grind
        refine Run.skip ?_; refine Run.endBlock ?_; refine R.rg ?_; refine R.mv ?_; refine R.ad ?_; refine R.as ?_; refine R.nl ?_; refine R.hs (e' := [(0, _), (3, _)]) ?_; exact Run.again (i + 1) ⟨by omega, fun j hj => by rcases Nat.lt_or_ge j i with h | h; exact hpre j h; rw [show j = i by omega]; exact hr⟩ (by omega) ⟨rfl, by repeat (first | exact trivial | refine ⟨rfl, ?_⟩)⟩ (fun w hs => hs.drop 1)
  ·
   have hok : okVs xs = true := okVs_iff.2 fun j hj => hpre j (by simp at zc1; omega)
   refine Run.exit rfl ?_; refine R.sq ?_; refine R.rg ?_; refine R.as ?_; refine R.nl ?_; refine R.hs (e' := [(2, _)]) ?_; exact R.rt (RV.t .nil) 0 (congrArg Value.bool hok.symm)
theorem vLow_spec {g : Gl} {D : Dict} {M : MList} {a : Value} {xs : List Vw} (ha : Vws D a xs) : Gives Tryz.prog g 140 [a] D M (.tuple #[.agg (Vw.cells ((lowV xs).getD z0V)).toArray, .bool (lowV xs).isSome]) := by
  have hla := ha.form.choose_spec.choose_spec.2.2
  refine Gives.enter Tryz.func140 rfl Tryz.ntmps140 ?_; refine R.sq ?_; refine R.rg ?_; refine R.alA Tryz.zeroValue72 (fun zb1 hzb1 => ?_); refine R.as ?_; refine R.nl ?_; refine R.hs (e' := [(0, _), (2, _)]) ?_; refine R.sq ?_; refine R.rg ?_; refine R.bd Tryz.zeroValue72 places72 ?_; refine R.alA Tryz.zeroValue72 (fun zb2 hzb2 => ?_); refine R.st Tryz.sizeOf72 ?_; refine R.nl ?_; refine R.hs (e' := [(0, _), (2, _), (4, _)]) ?_; refine R.sq ?_; refine R.rg ?_; refine R.as ?_; refine R.nl ?_; refine R.hs (e' := [(0, _), (2, _), (4, _), (5, _)]) ?_; refine R.sq ?_; refine R.sq ?_; refine R.rg ?_; refine R.mv ?_; refine R.ll (ha) Tryz.runUnderlying24 ?_; refine R.mv ?_; refine R.nl ?_; refine R.hs (e' := [(2, _), (4, _), (5, _), (9, _), (10, _), (11, _)]) ?_; refine Run.block ?_
  refine Run.loop (ι := Nat × Option Vw) [(2, _), (4, _), (9, _), (10, _)] (fun p => [(11, .int .i64 (p.1 : Int)), (5, .bool p.2.isSome)]) (fun _ => D) (fun p => (zb2, .cells (Vw.cells (p.2.getD z0V)).toArray 72 (0, 0)) :: (zb1, .cells (Vw.cells z0V).toArray 72 (0, 0)) :: M) (fun p => p.1 ≤ xs.length ∧ p.2 = (xs.take p.1).foldl lowStep none) (fun p => xs.length - p.1) ((0, none)) (by repeat (first | exact trivial | refine ⟨rfl, ?_⟩)) ?h0 (by repeat (first | exact trivial | refine ⟨rfl, ?_⟩)) (fun w hs => hs) ?_
  case h0 => exact ⟨Nat.zero_le _, rfl⟩
  rintro ⟨i, o⟩ ⟨hi, hpre⟩; refine R.sq ?_; refine R.rg ?_; refine R.cm ?_; refine R.nl ?_; refine R.hs (e' := [(2, _), (4, _), (5, _), (9, _), (10, _), (11, _), (12, _)]) ?_; refine R.sq ?_; refine R.cd (fun zc3 => ?_) (fun zc3 => ?_)
  ·
   have hlt : i < xs.length := by simp at zc3; omega
   obtain ⟨x, hgx⟩ := get_of_lt hlt
   obtain ⟨b1, o1, hI1, hc1⟩ := ha.at Vw.len hgx
   refine Run.skip ?_; refine R.sq ?_; refine Run.block ?_; refine R.sq ?_; refine R.rg ?_; refine R.ix (hI1) Tryz.runUnderlying24 Tryz.sizeOf72 ?_; refine R.lAD 7 Tryz.isAgg72 Tryz.sizeOf72 ?_; refine R.alA Tryz.zeroValue72 (fun zb4 hzb4 => ?_); refine R.st Tryz.sizeOf72 ?_; refine R.nl ?_; refine R.hs (e' := [(2, _), (4, _), (5, _), (7, _), (9, _), (10, _), (11, _)]) ?_; refine R.sq ?_; refine R.rg ?_; refine R.fa Tryz.runUnderlying72 Tryz.sizeOf23 ?_; refine R.lA 6 Tryz.isAgg23 Tryz.sizeOf23 ?_; refine R.cg Tryz.call159 (vTold_spec ⟨_, _, _, _, _, _⟩) ?_; refine R.mv ?_; refine R.gd (fun zg5 => ?_) (fun zg5 => ?_)
   ·refine R.mv ?_; refine R.gY (zg5) ?_; refine R.nt ?_; refine R.gY (zg5) ?_; refine R.mv ?_; refine R.gd (fun zg6 => ?_) (fun zg6 => ?_)
    ·refine R.fa Tryz.runUnderlying72 Tryz.sizeOf23 ?_; refine R.gY (zg6) ?_; refine R.lA 6 Tryz.isAgg23 Tryz.sizeOf23 ?_; refine R.gY (zg6) ?_; refine R.fa Tryz.runUnderlying72 Tryz.sizeOf23 ?_; refine R.gY (zg6) ?_; refine R.lA 6 Tryz.isAgg23 Tryz.sizeOf23 ?_; refine R.gY (zg6) ?_; refine R.cg Tryz.call116 (less_spec x.h (o.getD z0V).h) ?_; refine R.gY (zg5) ?_; refine R.pF (zg6) ?_; refine R.pT (zg5) ?_; refine R.nl ?_; refine R.hs (e' := [(2, _), (4, _), (5, _), (7, _), (9, _), (10, _), (11, _), (28, _)]) ?_; refine R.cd (fun zc7 => ?_) (fun zc7 => ?_)
     ·refine R.rg ?_; refine R.lA 7 Tryz.isAgg72 Tryz.sizeOf72 ?_; refine R.st Tryz.sizeOf72 ?_; refine R.as ?_; refine R.nl ?_; refine R.hs (e' := [(2, _), (4, _), (5, _), (9, _), (10, _), (11, _)]) ?_; refine Run.endBlock ?_; refine R.rg ?_; refine R.ad ?_; refine R.mv ?_; refine R.nl ?_; refine R.hs (e' := [(2, _), (4, _), (5, _), (9, _), (10, _), (11, _)]) ?_
      first | exact Run.again (i + 1, some x) ⟨by simp; omega, fold_step hgx hpre (by clear hpre; cases o <;> simp_all [lowStep]; done)⟩ (by simp; omega) (by repeat (first | exact trivial | refine ⟨rfl, ?_⟩)) (fun w hs => hs.drop 1) | exact Run.again (i + 1, o) ⟨by simp; omega, fold_step hgx hpre (by clear hpre; cases o <;> simp_all [lowStep]; done)⟩ (by simp; omega) (by repeat (first | exact trivial | refine ⟨rfl, ?_⟩)) (fun w hs => hs.drop 1)
     ·refine Run.skip ?_; refine Run.endBlock ?_; refine R.rg ?_; refine R.ad ?_; refine R.mv ?_; refine R.nl ?_; refine R.hs (e' := [(2, _), (4, _), (5, _), (9, _), (10, _), (11, _)]) ?_
      first | exact Run.again (i + 1, some x) ⟨by simp; omega, fold_step hgx hpre (by clear hpre; cases o <;> simp_all [lowStep]; done)⟩ (by simp; omega) (by repeat (first | exact trivial | refine ⟨rfl, ?_⟩)) (fun w hs => hs.drop 1) | exact Run.again (i + 1, o) ⟨by simp; omega, fold_step hgx hpre (by clear hpre; cases o <;> simp_all [lowStep]; done)⟩ (by simp; omega) (by repeat (first | exact trivial | refine ⟨rfl, ?_⟩)) (fun w hs => hs.drop 1)
    ·refine R.gF (zg6) ?_; refine R.gF (zg6) ?_; refine R.gF (zg6) ?_; refine R.gF (zg6) ?_; refine R.gY (zg5) ?_; refine R.pT (zg6) ?_; refine R.pT (zg5) ?_; refine R.nl ?_; refine R.hs (e' := [(2, _), (4, _), (5, _), (7, _), (9, _), (10, _), (11, _), (28, _)]) ?_; refine R.cT (rfl) ?_; refine R.rg ?_; refine R.lA 7 Tryz.isAgg72 Tryz.sizeOf72 ?_; refine R.st Tryz.sizeOf72 ?_; refine R.as ?_; refine R.nl ?_; refine R.hs (e' := [(2, _), (4, _), (5, _), (9, _), (10, _), (11, _)]) ?_; refine Run.endBlock ?_; refine R.rg ?_; refine R.ad ?_; refine R.mv ?_; refine R.nl ?_; refine R.hs (e' := [(2, _), (4, _), (5, _), (9, _), (10, _), (11, _)]) ?_
     first | exact Run.again (i + 1, some x) ⟨by simp; omega, fold_step hgx hpre (by clear hpre; cases o <;> simp_all [lowStep]; done)⟩ (by simp; omega) (by repeat (first | exact trivial | refine ⟨rfl, ?_⟩)) (fun w hs => hs.drop 1) | exact Run.again (i + 1, o) ⟨by simp; omega, fold_step hgx hpre (by clear hpre; cases o <;> simp_all [lowStep]; done)⟩ (by simp; omega) (by repeat (first | exact trivial | refine ⟨rfl, ?_⟩)) (fun w hs => hs.drop 1)
   ·refine R.gF (zg5) ?_; refine R.gF (zg5) ?_; refine R.gU ?_; refine R.gU ?_; refine R.gU ?_; refine R.gU ?_; refine R.gU ?_; refine R.gF (zg5) ?_; refine R.pF (zg5) ?_; refine R.nl ?_; refine R.hs (e' := [(2, _), (4, _), (5, _), (7, _), (9, _), (10, _), (11, _), (28, _)]) ?_; refine R.cF (rfl) ?_; refine Run.skip ?_; refine Run.endBlock ?_; refine R.rg ?_; refine R.ad ?_; refine R.mv ?_; refine R.nl ?_; refine R.hs (e' := [(2, _), (4, _), (5, _), (9, _), (10, _), (11, _)]) ?_
    first | exact Run.again (i + 1, some x) ⟨by simp; omega, fold_step hgx hpre (by clear hpre; cases o <;> simp_all [lowStep]; done)⟩ (by simp; omega) (by repeat (first | exact trivial | refine ⟨rfl, ?_⟩)) (fun w hs => hs.drop 1) | exact Run.again (i + 1, o) ⟨by simp; omega, fold_step hgx hpre (by clear hpre; cases o <;> simp_all [lowStep]; done)⟩ (by simp; omega) (by repeat (first | exact trivial | refine ⟨rfl, ?_⟩)) (fun w hs => hs.drop 1)
  ·
   have hz : lowV xs = o := by simp at zc3 hpre hi; rw [hpre, List.take_of_length_le (by omega)]; rfl
   refine Run.exit rfl ?_; refine R.sq ?_; refine R.rg ?_; refine R.lA 7 Tryz.isAgg72 Tryz.sizeOf72 ?_; refine R.mv ?_; refine R.st Tryz.sizeOf72 ?_; refine R.as ?_; refine R.nl ?_; refine R.hs (e' := [(2, _), (3, _)]) ?_; refine R.rt (RV.a Tryz.isAgg72 Tryz.sizeOf72 (RV.t .nil)) 2 ?_
   rw [hz]
theorem refLow_spec {g : Gl} {D : Dict} {M : MList} {a : Value} {xs : List Vw} (ha : Vws D a xs) : Gives Tryz.prog g 129 [a] D M (.tuple #[.agg (Vw.cells ((lowV xs).getD z0V)).toArray, .bool (lowV xs).isSome]) := by
  have hla := ha.form.choose_spec.choose_spec.2.2
  refine Gives.enter Tryz.func129 rfl Tryz.ntmps129 ?_; refine R.sq ?_; refine R.rg ?_; refine R.alA Tryz.zeroValue72 (fun zb1 hzb1 => ?_); refine R.as ?_; refine R.nl ?_; refine R.hs (e' := [(0, _), (2, _)]) ?_; refine R.sq ?_; refine R.rg ?_; refine R.bd Tryz.zeroValue72 places72 ?_; refine R.alA Tryz.zeroValue72 (fun zb2 hzb2 => ?_); refine R.st Tryz.sizeOf72 ?_; refine R.nl ?_; refine R.hs (e' := [(0, _), (2, _), (4, _)]) ?_; refine R.sq ?_; refine R.rg ?_; refine R.as ?_; refine R.nl ?_; refine R.hs (e' := [(0, _), (2, _), (4, _), (5, _)]) ?_; refine R.sq ?_; refine R.sq ?_; refine R.rg ?_; refine R.as ?_; refine R.nl ?_; refine R.hs (e' := [(0, _), (2, _), (4, _), (5, _), (6, _)]) ?_; refine Run.block ?_
  refine Run.loop (ι := Nat × Option Vw) [(0, _), (2, _), (4, _)] (fun p => [(6, .int .i64 (p.1 : Int)), (5, .bool p.2.isSome)]) (fun _ => D) (fun p => (zb2, .cells (Vw.cells (p.2.getD z0V)).toArray 72 (0, 0)) :: (zb1, .cells (Vw.cells z0V).toArray 72 (0, 0)) :: M) (fun p => p.1 ≤ xs.length ∧ p.2 = (xs.take p.1).foldl lowStep none) (fun p => xs.length - p.1) ((0, none)) (by repeat (first | exact trivial | refine ⟨rfl, ?_⟩)) ?h0 (by repeat (first | exact trivial | refine ⟨rfl, ?_⟩)) (fun w hs => hs) ?_
  case h0 => exact ⟨Nat.zero_le _, rfl⟩
  rintro ⟨i, o⟩ ⟨hi, hpre⟩; refine R.sq ?_; refine R.sq ?_; refine R.rg ?_; refine R.mv ?_; refine R.mv ?_; refine R.ll (ha) Tryz.runUnderlying24 ?_; refine R.cm ?_; refine R.nl ?_; refine R.hs (e' := [(0, _), (2, _), (4, _), (5, _), (6, _), (11, _)]) ?_; refine R.cd (fun zc3 => ?_) (fun zc3 => ?_)
  ·
   have hlt : i < xs.length := by simp at zc3; omega
   obtain ⟨x, hgx⟩ := get_of_lt hlt
   obtain ⟨b1, o1, hI1, hc1⟩ := ha.at Vw.len hgx
   refine Run.skip ?_; refine R.sq ?_; refine Run.block ?_; refine R.sq ?_
   rcases Bool.eq_false_or_eq_true (toldH x.h) with zg4 | zg4
   ·
    rcases Bool.eq_false_or_eq_true (!o.isSome) with zg5 | zg5
    ·refine Run.drawC Grow.eq 17 [(0, _), (2, _), (4, _), (5, _), (6, _)] mix (by kernel_rfl) (by repeat (first | exact trivial | refine ⟨rfl, ?_⟩)) ?_; apply TC.val []; exact rfl; kernel_rfl
     ·rintro _ rfl ; refine R.mv ?_; refine R.nl ?_; exact Run.loc rfl rfl rfl
     apply TC.val []; exact rfl; kernel_rfl
     ·rintro _ rfl ; refine R.mv ?_; refine R.nl ?_; exact Run.loc rfl rfl rfl
     apply TC.val [1, 0]; exact rfl; kernel_rfl
     ·rintro _ rfl _ rfl _ rfl; refine R.ix (hI1) Tryz.runUnderlying24 Tryz.sizeOf72 ?_; refine R.nl ?_; exact Run.loc rfl rfl rfl
     apply TC.val [0]; exact rfl; kernel_rfl
     ·rintro _ rfl _ rfl; refine R.fa Tryz.runUnderlying72 Tryz.sizeOf23 ?_; refine R.nl ?_; exact Run.loc rfl rfl rfl
     apply TC.val [0]; exact rfl; kernel_rfl
     ·rintro _ rfl _ rfl; refine R.lAD 6 Tryz.isAgg23 Tryz.sizeOf23 ?_; refine R.nl ?_; exact Run.loc rfl rfl rfl
     apply TC.val [0]; exact rfl; kernel_rfl
     ·rintro _ rfl _ rfl; refine R.cg Tryz.call111 (refTold_spec x.h) ?_; refine R.nl ?_; exact Run.loc rfl rfl rfl
     apply TC.val [0]; exact rfl; kernel_rfl
     ·rintro _ rfl _ rfl; refine R.mv ?_; refine R.nl ?_; exact Run.loc rfl rfl rfl
     apply TC.val [0]; exact rfl; kernel_rfl
     ·rintro _ rfl _ rfl; refine R.gY (zg4) ?_; refine R.mv ?_; refine R.nl ?_; exact Run.loc rfl rfl rfl
     apply TC.val [1, 0]; exact rfl; kernel_rfl
     ·rintro _ rfl _ rfl _ rfl; refine R.gY (zg4) ?_; refine R.nt ?_; refine R.nl ?_; exact Run.loc rfl rfl rfl
     apply TC.val [2, 0]; exact rfl; kernel_rfl
     ·rintro _ rfl _ rfl _ rfl; refine R.gY (zg4) ?_; refine R.mv ?_; refine R.nl ?_; exact Run.loc rfl rfl rfl
     apply TC.val [0]; exact rfl; kernel_rfl
     ·rintro _ rfl _ rfl; refine R.gF (zg5) ?_; refine R.nl ?_; exact Run.loc rfl rfl rfl
     apply TC.val [1]; exact rfl; kernel_rfl
     ·rintro _ rfl _ rfl; refine R.gF (zg5) ?_; refine R.nl ?_; exact Run.loc rfl rfl rfl
     apply TC.val [2, 1, 0]; exact rfl; kernel_rfl
     ·rintro _ rfl _ rfl _ rfl _ rfl; refine R.gF (zg5) ?_; refine R.nl ?_; exact Run.loc rfl rfl rfl
     apply TC.val [3, 0]; exact rfl; kernel_rfl
     ·rintro _ rfl _ rfl _ rfl; refine R.gF (zg5) ?_; refine R.nl ?_; exact Run.loc rfl rfl rfl
     apply TC.val [4, 0]; exact rfl; kernel_rfl
     ·rintro _ rfl _ rfl _ rfl; refine R.gF (zg5) ?_; refine R.nl ?_; exact Run.loc rfl rfl rfl
     apply TC.val [5]; exact rfl; kernel_rfl
     ·rintro _ rfl _ rfl; refine R.gF (zg5) ?_; refine R.nl ?_; exact Run.loc rfl rfl rfl
     apply TC.val [6, 0]; exact rfl; kernel_rfl
     ·rintro _ rfl _ rfl _ rfl; refine R.gF (zg5) ?_; refine R.nl ?_; exact Run.loc rfl rfl rfl
     refine TC.fin (by rfl) ?_; rintro _ rfl _ rfl _ rfl _ rfl _ rfl _ rfl _ rfl _ rfl _ rfl _ rfl _ rfl _ rfl _ rfl _ rfl _ rfl _ rfl _ rfl _ rfl; refine R.gF (zg5) ?_; refine R.gY (zg4) ?_; refine R.pT (zg5) ?_; refine R.pT (zg4) ?_; refine R.nl ?_; refine R.hs (e' := [(0, _), (2, _), (4, _), (5, _), (6, _), (33, _)]) ?_; refine R.cT (rfl) ?_; refine R.sq ?_; refine R.rg ?_; refine R.mv ?_; refine R.mv ?_; refine R.ix (hI1) Tryz.runUnderlying24 Tryz.sizeOf72 ?_; refine R.lAD 7 Tryz.isAgg72 Tryz.sizeOf72 ?_; refine R.st Tryz.sizeOf72 ?_; refine R.nl ?_; refine R.hs (e' := [(0, _), (2, _), (4, _), (6, _)]) ?_; refine R.rg ?_; refine R.as ?_; refine R.nl ?_; refine R.hs (e' := [(0, _), (2, _), (4, _), (5, _), (6, _)]) ?_; refine Run.endBlock ?_; refine R.rg ?_; refine R.mv ?_; refine R.ad ?_; refine R.as ?_; refine R.nl ?_; refine R.hs (e' := [(0, _), (2, _), (4, _), (5, _), (6, _)]) ?_
     first | exact Run.again (i + 1, some x) ⟨by simp; omega, fold_step hgx hpre (by clear hpre; cases o <;> simp_all [lowStep]; done)⟩ (by simp; omega) (by repeat (first | exact trivial | refine ⟨rfl, ?_⟩)) (fun w hs => hs) | exact Run.again (i + 1, o) ⟨by simp; omega, fold_step hgx hpre (by clear hpre; cases o <;> simp_all [lowStep]; done)⟩ (by simp; omega) (by repeat (first | exact trivial | refine ⟨rfl, ?_⟩)) (fun w hs => hs)
    ·refine Run.drawC Grow.eq 17 [(0, _), (2, _), (4, _), (5, _), (6, _)] mix (by kernel_rfl) (by repeat (first | exact trivial | refine ⟨rfl, ?_⟩)) ?_; apply TC.val []; exact rfl; kernel_rfl
     ·rintro _ rfl ; refine R.mv ?_; refine R.nl ?_; exact Run.loc rfl rfl rfl
     apply TC.val []; exact rfl; kernel_rfl
     ·rintro _ rfl ; refine R.mv ?_; refine R.nl ?_; exact Run.loc rfl rfl rfl
     apply TC.val [1, 0]; exact rfl; kernel_rfl
     ·rintro _ rfl _ rfl _ rfl; refine R.ix (hI1) Tryz.runUnderlying24 Tryz.sizeOf72 ?_; refine R.nl ?_; exact Run.loc rfl rfl rfl
     apply TC.val [0]; exact rfl; kernel_rfl
     ·rintro _ rfl _ rfl; refine R.fa Tryz.runUnderlying72 Tryz.sizeOf23 ?_; refine R.nl ?_; exact Run.loc rfl rfl rfl
     apply TC.val [0]; exact rfl; kernel_rfl
     ·rintro _ rfl _ rfl; refine R.lAD 6 Tryz.isAgg23 Tryz.sizeOf23 ?_; refine R.nl ?_; exact Run.loc rfl rfl rfl
     apply TC.val [0]; exact rfl; kernel_rfl
     ·rintro _ rfl _ rfl; refine R.cg Tryz.call111 (refTold_spec x.h) ?_; refine R.nl ?_; exact Run.loc rfl rfl rfl
     apply TC.val [0]; exact rfl; kernel_rfl
     ·rintro _ rfl _ rfl; refine R.mv ?_; refine R.nl ?_; exact Run.loc rfl rfl rfl
     apply TC.val [0]; exact rfl; kernel_rfl
     ·rintro _ rfl _ rfl; refine R.gY (zg4) ?_; refine R.mv ?_; refine R.nl ?_; exact Run.loc rfl rfl rfl
     apply TC.val [1, 0]; exact rfl; kernel_rfl
     ·rintro _ rfl _ rfl _ rfl; refine R.gY (zg4) ?_; refine R.nt ?_; refine R.nl ?_; exact Run.loc rfl rfl rfl
     apply TC.val [2, 0]; exact rfl; kernel_rfl
     ·rintro _ rfl _ rfl _ rfl; refine R.gY (zg4) ?_; refine R.mv ?_; refine R.nl ?_; exact Run.loc rfl rfl rfl
     apply TC.val [0]; exact rfl; kernel_rfl
     ·rintro _ rfl _ rfl; refine R.gY (zg5) ?_; refine R.mv ?_; refine R.nl ?_; exact Run.loc rfl rfl rfl
     apply TC.val [1]; exact rfl; kernel_rfl
     ·rintro _ rfl _ rfl; refine R.gY (zg5) ?_; refine R.mv ?_; refine R.nl ?_; exact Run.loc rfl rfl rfl
     apply TC.val [2, 1, 0]; exact rfl; kernel_rfl
     ·rintro _ rfl _ rfl _ rfl _ rfl; refine R.gY (zg5) ?_; refine R.ix (hI1) Tryz.runUnderlying24 Tryz.sizeOf72 ?_; refine R.nl ?_; exact Run.loc rfl rfl rfl
     apply TC.val [3, 0]; exact rfl; kernel_rfl
     ·rintro _ rfl _ rfl _ rfl; refine R.gY (zg5) ?_; refine R.fa Tryz.runUnderlying72 Tryz.sizeOf23 ?_; refine R.nl ?_; exact Run.loc rfl rfl rfl
     apply TC.val [4, 0]; exact rfl; kernel_rfl
     ·rintro _ rfl _ rfl _ rfl; refine R.gY (zg5) ?_; refine R.lAD 6 Tryz.isAgg23 Tryz.sizeOf23 ?_; refine R.nl ?_; exact Run.loc rfl rfl rfl
     apply TC.val [5]; exact rfl; kernel_rfl
     ·rintro _ rfl _ rfl; refine R.gY (zg5) ?_; refine R.fa Tryz.runUnderlying72 Tryz.sizeOf23 ?_; refine R.nl ?_; exact Run.loc rfl rfl rfl
     apply TC.val [6, 0]; exact rfl; kernel_rfl
     ·rintro _ rfl _ rfl _ rfl; refine R.gY (zg5) ?_; refine R.lA 6 Tryz.isAgg23 Tryz.sizeOf23 ?_; refine R.nl ?_; exact Run.loc rfl rfl rfl
     refine TC.fin (by rfl) ?_; rintro _ rfl _ rfl _ rfl _ rfl _ rfl _ rfl _ rfl _ rfl _ rfl _ rfl _ rfl _ rfl _ rfl _ rfl _ rfl _ rfl _ rfl _ rfl; refine R.gY (zg5) ?_; refine R.cg Tryz.call161 (refLess_spec x.h (o.getD z0V).h) ?_; refine R.gY (zg4) ?_; refine R.pF (zg5) ?_; refine R.pT (zg4) ?_; refine R.nl ?_; refine R.hs (e' := [(0, _), (2, _), (4, _), (5, _), (6, _), (33, _)]) ?_; refine R.cd (fun zc42 => ?_) (fun zc42 => ?_)
     ·refine R.sq ?_; refine R.rg ?_; refine R.mv ?_; refine R.mv ?_; refine R.ix (hI1) Tryz.runUnderlying24 Tryz.sizeOf72 ?_; refine R.lAD 7 Tryz.isAgg72 Tryz.sizeOf72 ?_; refine R.st Tryz.sizeOf72 ?_; refine R.nl ?_; refine R.hs (e' := [(0, _), (2, _), (4, _), (6, _)]) ?_; refine R.rg ?_; refine R.as ?_; refine R.nl ?_; refine R.hs (e' := [(0, _), (2, _), (4, _), (5, _), (6, _)]) ?_; refine Run.endBlock ?_; refine R.rg ?_; refine R.mv ?_; refine R.ad ?_; refine R.as ?_; refine R.nl ?_; refine R.hs (e' := [(0, _), (2, _), (4, _), (5, _), (6, _)]) ?_
      first | exact Run.again (i + 1, some x) ⟨by simp; omega, fold_step hgx hpre (by clear hpre; cases o <;> simp_all [lowStep]; done)⟩ (by simp; omega) (by repeat (first | exact trivial | refine ⟨rfl, ?_⟩)) (fun w hs => hs) | exact Run.again (i + 1, o) ⟨by simp; omega, fold_step hgx hpre (by clear hpre; cases o <;> simp_all [lowStep]; done)⟩ (by simp; omega) (by repeat (first | exact trivial | refine ⟨rfl, ?_⟩)) (fun w hs => hs)
     ·refine Run.skip ?_; refine Run.endBlock ?_; refine R.rg ?_; refine R.mv ?_; refine R.ad ?_; refine R.as ?_; refine R.nl ?_; refine R.hs (e' := [(0, _), (2, _), (4, _), (5, _), (6, _)]) ?_
      first | exact Run.again (i + 1, some x) ⟨by simp; omega, fold_step hgx hpre (by clear hpre; cases o <;> simp_all [lowStep]; done)⟩ (by simp; omega) (by repeat (first | exact trivial | refine ⟨rfl, ?_⟩)) (fun w hs => hs) | exact Run.again (i + 1, o) ⟨by simp; omega, fold_step hgx hpre (by clear hpre; cases o <;> simp_all [lowStep]; done)⟩ (by simp; omega) (by repeat (first | exact trivial | refine ⟨rfl, ?_⟩)) (fun w hs => hs)
   ·refine Run.drawC Grow.eq 17 [(0, _), (2, _), (4, _), (5, _), (6, _)] mix (by kernel_rfl) (by repeat (first | exact trivial | refine ⟨rfl, ?_⟩)) ?_; apply TC.val []; exact rfl; kernel_rfl
    ·rintro _ rfl ; refine R.mv ?_; refine R.nl ?_; exact Run.loc rfl rfl rfl
    apply TC.val []; exact rfl; kernel_rfl
    ·rintro _ rfl ; refine R.mv ?_; refine R.nl ?_; exact Run.loc rfl rfl rfl
    apply TC.val [1, 0]; exact rfl; kernel_rfl
    ·rintro _ rfl _ rfl _ rfl; refine R.ix (hI1) Tryz.runUnderlying24 Tryz.sizeOf72 ?_; refine R.nl ?_; exact Run.loc rfl rfl rfl
    apply TC.val [0]; exact rfl; kernel_rfl
    ·rintro _ rfl _ rfl; refine R.fa Tryz.runUnderlying72 Tryz.sizeOf23 ?_; refine R.nl ?_; exact Run.loc rfl rfl rfl
    apply TC.val [0]; exact rfl; kernel_rfl
    ·rintro _ rfl _ rfl; refine R.lAD 6 Tryz.isAgg23 Tryz.sizeOf23 ?_; refine R.nl ?_; exact Run.loc rfl rfl rfl
    apply TC.val [0]; exact rfl; kernel_rfl
    ·rintro _ rfl _ rfl; refine R.cg Tryz.call111 (refTold_spec x.h) ?_; refine R.nl ?_; exact Run.loc rfl rfl rfl
    apply TC.val [0]; exact rfl; kernel_rfl
    ·rintro _ rfl _ rfl; refine R.mv ?_; refine R.nl ?_; exact Run.loc rfl rfl rfl
    apply TC.val [0]; exact rfl; kernel_rfl
    ·rintro _ rfl _ rfl; refine R.gF (zg4) ?_; refine R.nl ?_; exact Run.loc rfl rfl rfl
    apply TC.val [1, 0]; exact rfl; kernel_rfl
    ·rintro _ rfl _ rfl _ rfl; refine R.gF (zg4) ?_; refine R.nl ?_; exact Run.loc rfl rfl rfl
    apply TC.val [2, 0]; exact rfl; kernel_rfl
    ·rintro _ rfl _ rfl _ rfl; refine R.gF (zg4) ?_; refine R.nl ?_; exact Run.loc rfl rfl rfl
    apply TC.val [0]; exact rfl; kernel_rfl
    ·rintro _ rfl _ rfl; refine R.gU ?_; refine R.nl ?_; exact Run.loc rfl rfl rfl
    apply TC.val [1]; exact rfl; kernel_rfl
    ·rintro _ rfl _ rfl; refine R.gU ?_; refine R.nl ?_; exact Run.loc rfl rfl rfl
    apply TC.val [2, 1, 0]; exact rfl; kernel_rfl
    ·rintro _ rfl _ rfl _ rfl _ rfl; refine R.gU ?_; refine R.nl ?_; exact Run.loc rfl rfl rfl
    apply TC.val [3, 0]; exact rfl; kernel_rfl
    ·rintro _ rfl _ rfl _ rfl; refine R.gU ?_; refine R.nl ?_; exact Run.loc rfl rfl rfl
    apply TC.val [4, 0]; exact rfl; kernel_rfl
    ·rintro _ rfl _ rfl _ rfl; refine R.gU ?_; refine R.nl ?_; exact Run.loc rfl rfl rfl
    apply TC.val [5]; exact rfl; kernel_rfl
    ·rintro _ rfl _ rfl; refine R.gU ?_; refine R.nl ?_; exact Run.loc rfl rfl rfl
    apply TC.val [6, 0]; exact rfl; kernel_rfl
    ·rintro _ rfl _ rfl _ rfl; refine R.gU ?_; refine R.nl ?_; exact Run.loc rfl rfl rfl
    refine TC.fin (by rfl) ?_; rintro _ rfl _ rfl _ rfl _ rfl _ rfl _ rfl _ rfl _ rfl _ rfl _ rfl _ rfl _ rfl _ rfl _ rfl _ rfl _ rfl _ rfl _ rfl; refine R.gU ?_; refine R.gF (zg4) ?_; refine R.pF (zg4) ?_; refine R.nl ?_; refine R.hs (e' := [(0, _), (2, _), (4, _), (5, _), (6, _), (33, _)]) ?_; refine R.cF (rfl) ?_; refine Run.skip ?_; refine Run.endBlock ?_; refine R.rg ?_; refine R.mv ?_; refine R.ad ?_; refine R.as ?_; refine R.nl ?_; refine R.hs (e' := [(0, _), (2, _), (4, _), (5, _), (6, _)]) ?_
    first | exact Run.again (i + 1, some x) ⟨by simp; omega, fold_step hgx hpre (by clear hpre; cases o <;> simp_all [lowStep]; done)⟩ (by simp; omega) (by repeat (first | exact trivial | refine ⟨rfl, ?_⟩)) (fun w hs => hs) | exact Run.again (i + 1, o) ⟨by simp; omega, fold_step hgx hpre (by clear hpre; cases o <;> simp_all [lowStep]; done)⟩ (by simp; omega) (by repeat (first | exact trivial | refine ⟨rfl, ?_⟩)) (fun w hs => hs)
  ·
   have hz : lowV xs = o := by simp at zc3 hpre hi; rw [hpre, List.take_of_length_le (by omega)]; rfl
   refine Run.exit rfl ?_; refine R.sq ?_; refine R.rg ?_; refine R.lA 7 Tryz.isAgg72 Tryz.sizeOf72 ?_; refine R.mv ?_; refine R.st Tryz.sizeOf72 ?_; refine R.as ?_; refine R.nl ?_; refine R.hs (e' := [(2, _), (3, _)]) ?_; refine R.rt (RV.a Tryz.isAgg72 Tryz.sizeOf72 (RV.t .nil)) 2 ?_
   rw [hz]
end Go.Proofs.YtgdpjpmjcpieiaaGreat
