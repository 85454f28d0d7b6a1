/- Heights: which is less, by the document's answer and by the program. No condition. -/
import Derived.Test.YtgdpjpmjcpieiaaH3
namespace Go.Proofs.Ytgdpjpmjcpieiaa
open Go
set_option linter.unusedVariables false
set_option linter.unusedSimpArgs false
set_option maxRecDepth 100000
set_option maxHeartbeats 0
theorem orI_drop {xs : List Int} {i : Nat} {x : Int} (h : xs[i]? = some x) : orI (xs.drop i) = if x = 0 then orI (xs.drop (i + 1)) else x := by
  have hlt : i < xs.length := by
    rcases Nat.lt_or_ge i xs.length with h1 | h1
    · exact h1
    · rw [List.getElem?_eq_none h1] at h; cases h
  rw [List.drop_eq_getElem_cons hlt, orI]
  rw [List.getElem?_eq_getElem hlt] at h
  injection h with h
  rw [h]
theorem or_spec {g : Gl} {D : Dict} {M : MList} {v : Value} (xs : List Int) (hn : xs.length ≤ 100) (h : Src D M 1 v xs.length (ints xs)) : Gives Try.prog g 52 [v] D M (.int .i64 (orI xs)) := by
  obtain ⟨_, A, c, rfl, _⟩ := id h
  refine Gives.enter Try.func52 rfl Try.ntmps52 ?_
  refine R.sq ?_
  refine R.rg ?_
  refine R.as ?_
  refine R.nl ?_
  refine R.hs (e' := [(0, _)]) ?_
  refine R.sq ?_
  refine R.rg ?_
  refine R.as ?_
  refine R.nl ?_
  refine R.hs (e' := [(0, _), (3, _)]) ?_
  refine R.sq ?_
  refine R.sq ?_
  refine R.rg ?_
  refine R.mv ?_
  refine R.ln Try.runUnderlying45 ?_
  refine R.mv ?_
  refine R.nl ?_
  refine R.hs (e' := [(3, _), (6, _), (7, _), (8, _)]) ?_
  refine Run.block ?_
  refine Run.loop (ι := Nat) [(3, _), (6, _), (7, _)] (fun i => [(8, .int .i64 (i : Int))]) (fun _ => D) (fun _ => M) (fun i => i ≤ xs.length ∧ orI (xs.drop i) = orI xs) (fun i => xs.length - i) (0) (by repeat (first | exact trivial | refine ⟨rfl, ?_⟩)) ?h0 (by repeat (first | exact trivial | refine ⟨rfl, ?_⟩)) (fun w hs => hs) ?_
  case h0 => exact ⟨Nat.zero_le _, rfl⟩
  rintro i ⟨hi, hpre⟩
  refine R.sq ?_
  refine R.rg ?_
  refine R.cm ?_
  refine R.nl ?_
  refine R.hs (e' := [(3, _), (6, _), (7, _), (8, _), (9, _)]) ?_
  refine R.sq ?_
  refine R.cd (fun zc1 => ?_) (fun zc1 => ?_)
  ·
    have hlt : i < xs.length := by simp at zc1; omega
    obtain ⟨x, hgx⟩ : ∃ x, xs[i]? = some x := ⟨xs[i], List.getElem?_eq_getElem hlt⟩
    obtain ⟨b1, o1, hI1, hc1⟩ := h.at (ints_flat xs) (fun _ => rfl) hgx
    refine Run.skip ?_
    refine R.sq ?_
    refine Run.block ?_
    refine R.sq ?_
    refine R.rg ?_
    refine R.ix (hI1) Try.runUnderlying45 Try.sizeOf3 ?_
    refine R.ldD Try.isAgg3 ?_
    refine R.as ?_
    refine R.nl ?_
    refine R.hs (e' := [(3, _), (5, _), (6, _), (7, _), (8, _)]) ?_
    refine R.sq ?_
    refine R.rg ?_
    refine R.mv ?_
    refine R.mv ?_
    refine R.cm ?_
    refine R.nl ?_
    refine R.hs (e' := [(3, _), (5, _), (6, _), (7, _), (8, _), (14, _)]) ?_
    refine R.cd (fun zc2 => ?_) (fun zc2 => ?_)
    ·
      have hx0 : orI xs = x := by rw [← hpre, orI_drop hgx, if_neg (by simpa using zc2)]
      refine R.sq ?_
      refine R.rg ?_
      refine R.mv ?_
      refine R.as ?_
      refine R.nl ?_
      refine R.hs (e' := [(2, _)]) ?_
      refine R.rt (RV.t .nil) 0 (congrArg (Value.int .i64) ?_)
      simp_all
    ·
      have hx0 : x = 0 := by simpa using zc2
      refine Run.skip ?_
      refine Run.endBlock ?_
      refine R.rg ?_
      refine R.ad ?_
      refine R.mv ?_
      refine R.nl ?_
      refine R.hs (e' := [(3, _), (6, _), (7, _), (8, _)]) ?_
      exact Run.again (i + 1) ⟨by omega, by rw [← hpre, orI_drop hgx, if_pos hx0]⟩ (by omega) ⟨rfl, by repeat (first | exact trivial | refine ⟨rfl, ?_⟩)⟩ (fun w hs => hs)
  ·
    have hge : i = xs.length := by simp at zc1; omega
    have hz : orI xs = 0 := by rw [← hpre, hge, List.drop_length]; rfl
    refine Run.exit rfl ?_
    refine R.sq ?_
    refine R.rg ?_
    refine R.mv ?_
    refine R.as ?_
    refine R.nl ?_
    refine R.hs (e' := [(2, _)]) ?_
    refine R.rt (RV.t .nil) 0 (congrArg (Value.int .i64) ?_)
    simp_all
theorem orI3 (a b c : Int) : orI [a, b, c] = if a = 0 then (if b = 0 then c else b) else a := by simp only [orI]; grind
theorem ord_spec {g : Gl} {D : Dict} {M : MList} (a b : Lv) : Gives Try.prog g 53 [.agg (Lv.cells a).toArray, .agg (Lv.cells b).toArray] D M (.int .i64 (ordL a b)) := by
  refine Gives.enter Try.func53 rfl Try.ntmps53 ?_
  refine R.sq ?_
  refine R.rg ?_
  refine R.bxA (fun zb1 hzb1 => ?_)
  refine R.bxA (fun zb2 hzb2 => ?_)
  refine R.as ?_
  refine R.nl ?_
  refine R.hs (e' := [(2, _), (3, _)]) ?_
  refine R.sq ?_
  refine Run.drawC Grow.eq 14 [(2, _), (3, _)] mix (by kernel_rfl) (by repeat (first | exact trivial | refine ⟨rfl, ?_⟩)) ?_
  apply TC.val []
  · exact rfl
  · kernel_rfl
  ·
    rintro _ rfl 
    refine R.fa Try.runUnderlying42 Try.sizeOf3 ?_
    refine R.nl ?_
    exact Run.loc rfl rfl rfl
  apply TC.val [0]
  · exact rfl
  · kernel_rfl
  ·
    rintro _ rfl _ rfl
    refine R.ld Try.isAgg3 ?_
    refine R.nl ?_
    exact Run.loc rfl rfl rfl
  apply TC.val []
  · exact rfl
  · kernel_rfl
  ·
    rintro _ rfl 
    refine R.fa Try.runUnderlying42 Try.sizeOf3 ?_
    refine R.nl ?_
    exact Run.loc rfl rfl rfl
  apply TC.val [0]
  · exact rfl
  · kernel_rfl
  ·
    rintro _ rfl _ rfl
    refine R.ld Try.isAgg3 ?_
    refine R.nl ?_
    exact Run.loc rfl rfl rfl
  apply TC.val [2, 0]
  · exact rfl
  · kernel_rfl
  ·
    rintro _ rfl _ rfl _ rfl
    refine R.cg Try.call54 (cmp_spec _ _) ?_
    refine R.nl ?_
    exact Run.loc rfl rfl rfl
  apply TC.val []
  · exact rfl
  · kernel_rfl
  ·
    rintro _ rfl 
    refine R.fa Try.runUnderlying42 Try.sizeOf3 ?_
    refine R.nl ?_
    exact Run.loc rfl rfl rfl
  apply TC.val [0]
  · exact rfl
  · kernel_rfl
  ·
    rintro _ rfl _ rfl
    refine R.ld Try.isAgg3 ?_
    refine R.nl ?_
    exact Run.loc rfl rfl rfl
  apply TC.val []
  · exact rfl
  · kernel_rfl
  ·
    rintro _ rfl 
    refine R.fa Try.runUnderlying42 Try.sizeOf3 ?_
    refine R.nl ?_
    exact Run.loc rfl rfl rfl
  apply TC.val [0]
  · exact rfl
  · kernel_rfl
  ·
    rintro _ rfl _ rfl
    refine R.ld Try.isAgg3 ?_
    refine R.nl ?_
    exact Run.loc rfl rfl rfl
  apply TC.val [2, 0]
  · exact rfl
  · kernel_rfl
  ·
    rintro _ rfl _ rfl _ rfl
    refine R.cg Try.call54 (cmp_spec _ _) ?_
    refine R.nl ?_
    exact Run.loc rfl rfl rfl
  apply TC.val []
  · exact rfl
  · kernel_rfl
  ·
    rintro _ rfl 
    refine R.fa Try.runUnderlying42 Try.sizeOf3 ?_
    refine R.nl ?_
    exact Run.loc rfl rfl rfl
  apply TC.val [0]
  · exact rfl
  · kernel_rfl
  ·
    rintro _ rfl _ rfl
    refine R.ld Try.isAgg3 ?_
    refine R.nl ?_
    exact Run.loc rfl rfl rfl
  apply TC.val []
  · exact rfl
  · kernel_rfl
  ·
    rintro _ rfl 
    refine R.fa Try.runUnderlying42 Try.sizeOf3 ?_
    refine R.nl ?_
    exact Run.loc rfl rfl rfl
  apply TC.val [0]
  · exact rfl
  · kernel_rfl
  ·
    rintro _ rfl _ rfl
    refine R.ld Try.isAgg3 ?_
    refine R.nl ?_
    exact Run.loc rfl rfl rfl
  refine TC.fin (by rfl) ?_
  rintro _ rfl _ rfl _ rfl _ rfl _ rfl _ rfl _ rfl _ rfl _ rfl _ rfl _ rfl _ rfl _ rfl _ rfl _ rfl
  refine R.cg Try.call54 (cmp_spec _ _) ?_
  refine R.bs zc3 Try.runUnderlying45 Try.sizeOf3 Try.zeroValue3 (fun zb18 hzb18 => ?_)
  refine R.cg Try.call52 (or_spec [_, _, _] (Nat.le_of_ble_eq_true rfl) (Src.lit (.head _) rfl)) ?_
  refine R.as ?_
  refine R.nl ?_
  refine R.hs (e' := [(4, _)]) ?_
  exact R.rt (RV.t .nil) 3 rfl
theorem less_spec {g : Gl} {D : Dict} {M : MList} (a b : Ht) : Gives Try.prog g 16 [.agg (Ht.cells a).toArray, .agg (Ht.cells b).toArray] D M (.bool (lessH a b)) := by
  refine Gives.enter Try.func16 rfl Try.ntmps16 ?_
  refine R.sq ?_
  refine R.rg ?_
  refine R.bxA (fun zb1 hzb1 => ?_)
  refine R.bxA (fun zb2 hzb2 => ?_)
  refine R.as ?_
  refine R.nl ?_
  refine R.hs (e' := [(2, _), (3, _)]) ?_
  refine R.sq ?_
  rcases Bool.eq_false_or_eq_true (toldH a) with zg3 | zg3
  ·
    rcases Bool.eq_false_or_eq_true (toldH b) with zg4 | zg4
    ·
      refine Run.drawC Grow.eq 21 [(2, _), (3, _)] mix (by kernel_rfl) (by repeat (first | exact trivial | refine ⟨rfl, ?_⟩)) ?_
      apply TC.val []
      · exact rfl
      · kernel_rfl
      ·
        rintro _ rfl 
        refine R.lA 6 Try.isAgg23 Try.sizeOf23 ?_
        refine R.nl ?_
        exact Run.loc rfl rfl rfl
      apply TC.val [0]
      · exact rfl
      · kernel_rfl
      ·
        rintro _ rfl _ rfl
        refine R.cg Try.call51 (known_spec _) ?_
        refine R.nl ?_
        exact Run.loc rfl rfl rfl
      apply TC.val [0]
      · exact rfl
      · kernel_rfl
      ·
        rintro _ rfl _ rfl
        refine R.mv ?_
        refine R.nl ?_
        exact Run.loc rfl rfl rfl
      apply TC.val [0]
      · exact rfl
      · kernel_rfl
      ·
        rintro _ rfl _ rfl
        refine R.gY (zg3) ?_
        refine R.lA 6 Try.isAgg23 Try.sizeOf23 ?_
        refine R.nl ?_
        exact Run.loc rfl rfl rfl
      apply TC.val [1, 0]
      · exact rfl
      · kernel_rfl
      ·
        rintro _ rfl _ rfl _ rfl
        refine R.gY (zg3) ?_
        refine R.cg Try.call51 (known_spec _) ?_
        refine R.nl ?_
        exact Run.loc rfl rfl rfl
      apply TC.val [2, 0]
      · exact rfl
      · kernel_rfl
      ·
        rintro _ rfl _ rfl _ rfl
        refine R.pT (zg3) ?_
        refine R.nl ?_
        exact Run.loc rfl rfl rfl
      apply TC.val [0]
      · exact rfl
      · kernel_rfl
      ·
        rintro _ rfl _ rfl
        refine R.mv ?_
        refine R.nl ?_
        exact Run.loc rfl rfl rfl
      apply TC.val [0]
      · exact rfl
      · kernel_rfl
      ·
        rintro _ rfl _ rfl
        refine R.gY (zg4) ?_
        refine R.lA 6 Try.isAgg23 Try.sizeOf23 ?_
        refine R.nl ?_
        exact Run.loc rfl rfl rfl
      apply TC.val [1, 0]
      · exact rfl
      · kernel_rfl
      ·
        rintro _ rfl _ rfl _ rfl
        refine R.gY (zg4) ?_
        refine R.cg Try.call18 (lvl_spec _) ?_
        refine R.nl ?_
        exact Run.loc rfl rfl rfl
      apply TC.val [2]
      · exact rfl
      · kernel_rfl
      ·
        rintro _ rfl _ rfl
        refine R.gY (zg4) ?_
        refine R.lA 6 Try.isAgg23 Try.sizeOf23 ?_
        refine R.nl ?_
        exact Run.loc rfl rfl rfl
      apply TC.val [3, 0]
      · exact rfl
      · kernel_rfl
      ·
        rintro _ rfl _ rfl _ rfl
        refine R.gY (zg4) ?_
        refine R.cg Try.call18 (lvl_spec _) ?_
        refine R.nl ?_
        exact Run.loc rfl rfl rfl
      apply TC.val [4, 2, 0]
      · exact rfl
      · kernel_rfl
      ·
        rintro _ rfl _ rfl _ rfl _ rfl
        refine R.gY (zg4) ?_
        refine R.cg Try.call53 (ord_spec _ _) ?_
        refine R.nl ?_
        exact Run.loc rfl rfl rfl
      apply TC.val [5]
      · exact rfl
      · kernel_rfl
      ·
        rintro _ rfl _ rfl
        refine R.gY (zg4) ?_
        refine R.fa Try.runUnderlying23 Try.sizeOf3 ?_
        refine R.nl ?_
        exact Run.loc rfl rfl rfl
      apply TC.val [6, 0]
      · exact rfl
      · kernel_rfl
      ·
        rintro _ rfl _ rfl _ rfl
        refine R.gY (zg4) ?_
        refine R.ld Try.isAgg3 ?_
        refine R.nl ?_
        exact Run.loc rfl rfl rfl
      apply TC.val [7]
      · exact rfl
      · kernel_rfl
      ·
        rintro _ rfl _ rfl
        refine R.gY (zg4) ?_
        refine R.fa Try.runUnderlying23 Try.sizeOf3 ?_
        refine R.nl ?_
        exact Run.loc rfl rfl rfl
      apply TC.val [8, 0]
      · exact rfl
      · kernel_rfl
      ·
        rintro _ rfl _ rfl _ rfl
        refine R.gY (zg4) ?_
        refine R.ld Try.isAgg3 ?_
        refine R.nl ?_
        exact Run.loc rfl rfl rfl
      apply TC.val [9, 2, 0]
      · exact rfl
      · kernel_rfl
      ·
        rintro _ rfl _ rfl _ rfl _ rfl
        refine R.gY (zg4) ?_
        refine R.cg Try.call54 (cmp_spec _ _) ?_
        refine R.nl ?_
        exact Run.loc rfl rfl rfl
      apply TC.val [10]
      · exact rfl
      · kernel_rfl
      ·
        rintro _ rfl _ rfl
        refine R.gY (zg4) ?_
        refine R.fa Try.runUnderlying23 Try.sizeOf3 ?_
        refine R.nl ?_
        exact Run.loc rfl rfl rfl
      apply TC.val [11, 0]
      · exact rfl
      · kernel_rfl
      ·
        rintro _ rfl _ rfl _ rfl
        refine R.gY (zg4) ?_
        refine R.ld Try.isAgg3 ?_
        refine R.nl ?_
        exact Run.loc rfl rfl rfl
      apply TC.val [12]
      · exact rfl
      · kernel_rfl
      ·
        rintro _ rfl _ rfl
        refine R.gY (zg4) ?_
        refine R.fa Try.runUnderlying23 Try.sizeOf3 ?_
        refine R.nl ?_
        exact Run.loc rfl rfl rfl
      apply TC.val [13, 0]
      · exact rfl
      · kernel_rfl
      ·
        rintro _ rfl _ rfl _ rfl
        refine R.gY (zg4) ?_
        refine R.ld Try.isAgg3 ?_
        refine R.nl ?_
        exact Run.loc rfl rfl rfl
      refine TC.fin (by rfl) ?_
      rintro _ rfl _ rfl _ rfl _ rfl _ rfl _ rfl _ rfl _ rfl _ rfl _ rfl _ rfl _ rfl _ rfl _ rfl _ rfl _ rfl _ rfl _ rfl _ rfl _ rfl _ rfl _ rfl
      refine R.gY (zg4) ?_
      refine R.cg Try.call54 (cmp_spec _ _) ?_
      refine R.gY (zg4) ?_
      refine R.bs zc3 Try.runUnderlying45 Try.sizeOf3 Try.zeroValue3 (fun zb27 hzb27 => ?_)
      refine R.gY (zg4) ?_
      refine R.cg Try.call52 (or_spec [_, _, _] (Nat.le_of_ble_eq_true rfl) (Src.lit (.head _) rfl)) ?_
      refine R.gY (zg4) ?_
      refine R.cm ?_
      refine R.pT (zg4) ?_
      refine R.as ?_
      refine R.nl ?_
      refine R.hs (e' := [(4, _)]) ?_
      refine R.rt (RV.t .nil) 3 (congrArg Value.bool ?_)
      simp_all [lessH]
    ·
      refine Run.drawC Grow.eq 21 [(2, _), (3, _)] mix (by kernel_rfl) (by repeat (first | exact trivial | refine ⟨rfl, ?_⟩)) ?_
      apply TC.val []
      · exact rfl
      · kernel_rfl
      ·
        rintro _ rfl 
        refine R.lA 6 Try.isAgg23 Try.sizeOf23 ?_
        refine R.nl ?_
        exact Run.loc rfl rfl rfl
      apply TC.val [0]
      · exact rfl
      · kernel_rfl
      ·
        rintro _ rfl _ rfl
        refine R.cg Try.call51 (known_spec _) ?_
        refine R.nl ?_
        exact Run.loc rfl rfl rfl
      apply TC.val [0]
      · exact rfl
      · kernel_rfl
      ·
        rintro _ rfl _ rfl
        refine R.mv ?_
        refine R.nl ?_
        exact Run.loc rfl rfl rfl
      apply TC.val [0]
      · exact rfl
      · kernel_rfl
      ·
        rintro _ rfl _ rfl
        refine R.gY (zg3) ?_
        refine R.lA 6 Try.isAgg23 Try.sizeOf23 ?_
        refine R.nl ?_
        exact Run.loc rfl rfl rfl
      apply TC.val [1, 0]
      · exact rfl
      · kernel_rfl
      ·
        rintro _ rfl _ rfl _ rfl
        refine R.gY (zg3) ?_
        refine R.cg Try.call51 (known_spec _) ?_
        refine R.nl ?_
        exact Run.loc rfl rfl rfl
      apply TC.val [2, 0]
      · exact rfl
      · kernel_rfl
      ·
        rintro _ rfl _ rfl _ rfl
        refine R.pT (zg3) ?_
        refine R.nl ?_
        exact Run.loc rfl rfl rfl
      apply TC.val [0]
      · exact rfl
      · kernel_rfl
      ·
        rintro _ rfl _ rfl
        refine R.mv ?_
        refine R.nl ?_
        exact Run.loc rfl rfl rfl
      apply TC.val [0]
      · exact rfl
      · kernel_rfl
      ·
        rintro _ rfl _ rfl
        refine R.gF (zg4) ?_
        refine R.nl ?_
        exact Run.loc rfl rfl rfl
      apply TC.val [1, 0]
      · exact rfl
      · kernel_rfl
      ·
        rintro _ rfl _ rfl _ rfl
        refine R.gF (zg4) ?_
        refine R.nl ?_
        exact Run.loc rfl rfl rfl
      apply TC.val [2]
      · exact rfl
      · kernel_rfl
      ·
        rintro _ rfl _ rfl
        refine R.gF (zg4) ?_
        refine R.nl ?_
        exact Run.loc rfl rfl rfl
      apply TC.val [3, 0]
      · exact rfl
      · kernel_rfl
      ·
        rintro _ rfl _ rfl _ rfl
        refine R.gF (zg4) ?_
        refine R.nl ?_
        exact Run.loc rfl rfl rfl
      apply TC.val [4, 2, 0]
      · exact rfl
      · kernel_rfl
      ·
        rintro _ rfl _ rfl _ rfl _ rfl
        refine R.gF (zg4) ?_
        refine R.nl ?_
        exact Run.loc rfl rfl rfl
      apply TC.val [5]
      · exact rfl
      · kernel_rfl
      ·
        rintro _ rfl _ rfl
        refine R.gF (zg4) ?_
        refine R.nl ?_
        exact Run.loc rfl rfl rfl
      apply TC.val [6, 0]
      · exact rfl
      · kernel_rfl
      ·
        rintro _ rfl _ rfl _ rfl
        refine R.gF (zg4) ?_
        refine R.nl ?_
        exact Run.loc rfl rfl rfl
      apply TC.val [7]
      · exact rfl
      · kernel_rfl
      ·
        rintro _ rfl _ rfl
        refine R.gF (zg4) ?_
        refine R.nl ?_
        exact Run.loc rfl rfl rfl
      apply TC.val [8, 0]
      · exact rfl
      · kernel_rfl
      ·
        rintro _ rfl _ rfl _ rfl
        refine R.gF (zg4) ?_
        refine R.nl ?_
        exact Run.loc rfl rfl rfl
      apply TC.val [9, 2, 0]
      · exact rfl
      · kernel_rfl
      ·
        rintro _ rfl _ rfl _ rfl _ rfl
        refine R.gF (zg4) ?_
        refine R.nl ?_
        exact Run.loc rfl rfl rfl
      apply TC.val [10]
      · exact rfl
      · kernel_rfl
      ·
        rintro _ rfl _ rfl
        refine R.gF (zg4) ?_
        refine R.nl ?_
        exact Run.loc rfl rfl rfl
      apply TC.val [11, 0]
      · exact rfl
      · kernel_rfl
      ·
        rintro _ rfl _ rfl _ rfl
        refine R.gF (zg4) ?_
        refine R.nl ?_
        exact Run.loc rfl rfl rfl
      apply TC.val [12]
      · exact rfl
      · kernel_rfl
      ·
        rintro _ rfl _ rfl
        refine R.gF (zg4) ?_
        refine R.nl ?_
        exact Run.loc rfl rfl rfl
      apply TC.val [13, 0]
      · exact rfl
      · kernel_rfl
      ·
        rintro _ rfl _ rfl _ rfl
        refine R.gF (zg4) ?_
        refine R.nl ?_
        exact Run.loc rfl rfl rfl
      refine TC.fin (by rfl) ?_
      rintro _ rfl _ rfl _ rfl _ rfl _ rfl _ rfl _ rfl _ rfl _ rfl _ rfl _ rfl _ rfl _ rfl _ rfl _ rfl _ rfl _ rfl _ rfl _ rfl _ rfl _ rfl _ rfl
      refine R.gF (zg4) ?_
      refine R.gF (zg4) ?_
      refine R.gF (zg4) ?_
      refine R.gF (zg4) ?_
      refine R.pF (zg4) ?_
      refine R.as ?_
      refine R.nl ?_
      refine R.hs (e' := [(4, _)]) ?_
      refine R.rt (RV.t .nil) 2 (congrArg Value.bool ?_)
      simp_all [lessH]
  ·
    refine Run.drawC Grow.eq 21 [(2, _), (3, _)] mix (by kernel_rfl) (by repeat (first | exact trivial | refine ⟨rfl, ?_⟩)) ?_
    apply TC.val []
    · exact rfl
    · kernel_rfl
    ·
      rintro _ rfl 
      refine R.lA 6 Try.isAgg23 Try.sizeOf23 ?_
      refine R.nl ?_
      exact Run.loc rfl rfl rfl
    apply TC.val [0]
    · exact rfl
    · kernel_rfl
    ·
      rintro _ rfl _ rfl
      refine R.cg Try.call51 (known_spec _) ?_
      refine R.nl ?_
      exact Run.loc rfl rfl rfl
    apply TC.val [0]
    · exact rfl
    · kernel_rfl
    ·
      rintro _ rfl _ rfl
      refine R.mv ?_
      refine R.nl ?_
      exact Run.loc rfl rfl rfl
    apply TC.val [0]
    · exact rfl
    · kernel_rfl
    ·
      rintro _ rfl _ rfl
      refine R.gF (zg3) ?_
      refine R.nl ?_
      exact Run.loc rfl rfl rfl
    apply TC.val [1, 0]
    · exact rfl
    · kernel_rfl
    ·
      rintro _ rfl _ rfl _ rfl
      refine R.gF (zg3) ?_
      refine R.nl ?_
      exact Run.loc rfl rfl rfl
    apply TC.val [2, 0]
    · exact rfl
    · kernel_rfl
    ·
      rintro _ rfl _ rfl _ rfl
      refine R.pF (zg3) ?_
      refine R.nl ?_
      exact Run.loc rfl rfl rfl
    apply TC.val [0]
    · exact rfl
    · kernel_rfl
    ·
      rintro _ rfl _ rfl
      refine R.mv ?_
      refine R.nl ?_
      exact Run.loc rfl rfl rfl
    apply TC.val [0]
    · exact rfl
    · kernel_rfl
    ·
      rintro _ rfl _ rfl
      refine R.gF (rfl) ?_
      refine R.nl ?_
      exact Run.loc rfl rfl rfl
    apply TC.val [1, 0]
    · exact rfl
    · kernel_rfl
    ·
      rintro _ rfl _ rfl _ rfl
      refine R.gF (rfl) ?_
      refine R.nl ?_
      exact Run.loc rfl rfl rfl
    apply TC.val [2]
    · exact rfl
    · kernel_rfl
    ·
      rintro _ rfl _ rfl
      refine R.gF (rfl) ?_
      refine R.nl ?_
      exact Run.loc rfl rfl rfl
    apply TC.val [3, 0]
    · exact rfl
    · kernel_rfl
    ·
      rintro _ rfl _ rfl _ rfl
      refine R.gF (rfl) ?_
      refine R.nl ?_
      exact Run.loc rfl rfl rfl
    apply TC.val [4, 2, 0]
    · exact rfl
    · kernel_rfl
    ·
      rintro _ rfl _ rfl _ rfl _ rfl
      refine R.gF (rfl) ?_
      refine R.nl ?_
      exact Run.loc rfl rfl rfl
    apply TC.val [5]
    · exact rfl
    · kernel_rfl
    ·
      rintro _ rfl _ rfl
      refine R.gF (rfl) ?_
      refine R.nl ?_
      exact Run.loc rfl rfl rfl
    apply TC.val [6, 0]
    · exact rfl
    · kernel_rfl
    ·
      rintro _ rfl _ rfl _ rfl
      refine R.gF (rfl) ?_
      refine R.nl ?_
      exact Run.loc rfl rfl rfl
    apply TC.val [7]
    · exact rfl
    · kernel_rfl
    ·
      rintro _ rfl _ rfl
      refine R.gF (rfl) ?_
      refine R.nl ?_
      exact Run.loc rfl rfl rfl
    apply TC.val [8, 0]
    · exact rfl
    · kernel_rfl
    ·
      rintro _ rfl _ rfl _ rfl
      refine R.gF (rfl) ?_
      refine R.nl ?_
      exact Run.loc rfl rfl rfl
    apply TC.val [9, 2, 0]
    · exact rfl
    · kernel_rfl
    ·
      rintro _ rfl _ rfl _ rfl _ rfl
      refine R.gF (rfl) ?_
      refine R.nl ?_
      exact Run.loc rfl rfl rfl
    apply TC.val [10]
    · exact rfl
    · kernel_rfl
    ·
      rintro _ rfl _ rfl
      refine R.gF (rfl) ?_
      refine R.nl ?_
      exact Run.loc rfl rfl rfl
    apply TC.val [11, 0]
    · exact rfl
    · kernel_rfl
    ·
      rintro _ rfl _ rfl _ rfl
      refine R.gF (rfl) ?_
      refine R.nl ?_
      exact Run.loc rfl rfl rfl
    apply TC.val [12]
    · exact rfl
    · kernel_rfl
    ·
      rintro _ rfl _ rfl
      refine R.gF (rfl) ?_
      refine R.nl ?_
      exact Run.loc rfl rfl rfl
    apply TC.val [13, 0]
    · exact rfl
    · kernel_rfl
    ·
      rintro _ rfl _ rfl _ rfl
      refine R.gF (rfl) ?_
      refine R.nl ?_
      exact Run.loc rfl rfl rfl
    refine TC.fin (by rfl) ?_
    rintro _ rfl _ rfl _ rfl _ rfl _ rfl _ rfl _ rfl _ rfl _ rfl _ rfl _ rfl _ rfl _ rfl _ rfl _ rfl _ rfl _ rfl _ rfl _ rfl _ rfl _ rfl _ rfl
    refine R.gF (rfl) ?_
    refine R.gF (rfl) ?_
    refine R.gF (rfl) ?_
    refine R.gF (rfl) ?_
    refine R.pF (rfl) ?_
    refine R.as ?_
    refine R.nl ?_
    refine R.hs (e' := [(4, _)]) ?_
    refine R.rt (RV.t .nil) 2 (congrArg Value.bool ?_)
    simp_all [lessH]
end Go.Proofs.Ytgdpjpmjcpieiaa
