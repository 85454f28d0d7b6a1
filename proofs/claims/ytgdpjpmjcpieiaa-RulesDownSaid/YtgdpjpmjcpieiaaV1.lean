/- Views: what is right, and which one is lowest, by the document's answer and by the program. No condition. -/
import Derived.Test.YtgdpjpmjcpieiaaH5
namespace Go.Proofs.Ytgdpjpmjcpieiaa
open Go
set_option linter.unusedVariables false
set_option linter.unusedSimpArgs false
set_option maxRecDepth 100000
set_option maxHeartbeats 0
abbrev Vws (D : Dict) (v : Value) (xs : List Vw) : Prop := Lst D 7 Vw.cells v xs
theorem Vw.len (o : Vw) : o.cells.length = 7 := rfl
theorem take_succ' {α : Type} {xs : List α} {i : Nat} {x : α} (h : xs[i]? = some x) : xs.take (i + 1) = xs.take i ++ [x] := by
  rw [List.take_add_one, h]; rfl
theorem get_of_lt {α : Type} {xs : List α} {i : Nat} (h : i < xs.length) : ∃ x, xs[i]? = some x := ⟨xs[i], List.getElem?_eq_getElem h⟩
theorem fold_step {α β : Type} {f : β → α → β} {xs : List α} {i : Nat} {x : α} {b b0 b' : β} (h : xs[i]? = some x) (hb : b = (xs.take i).foldl f b0) (hf : f b x = b') : b' = (xs.take (i + 1)).foldl f b0 := by
  rw [take_succ' h, List.foldl_append, ← hb, ← hf]; rfl
theorem one_spec {g : Gl} {D : Dict} {M : MList} (id : Int) (h : Ht) : Gives Try.prog g 60 [.int .i64 id, .agg (Ht.cells h).toArray] D M (.bool (okV ⟨id, h⟩)) := by
  refine Gives.enter Try.func60 rfl Try.ntmps60 ?_
  refine R.sq ?_
  refine R.rg ?_
  refine R.bxA (fun zb1 hzb1 => ?_)
  refine R.as ?_
  refine R.nl ?_
  refine R.hs (e' := [(0, _), (3, _)]) ?_
  refine R.sq ?_
  refine R.rg ?_
  refine R.mv ?_
  refine R.cm ?_
  refine R.mv ?_
  refine R.gd (fun zg2 => ?_) (fun zg2 => ?_)
  ·
    refine R.mv ?_
    refine R.gY (zg2) ?_
    refine R.cm ?_
    refine R.pT (zg2) ?_
    refine R.mv ?_
    refine R.gd (fun zg3 => ?_) (fun zg3 => ?_)
    ·
      refine R.fa Try.runUnderlying23 Try.sizeOf3 ?_
      refine R.gY (zg3) ?_
      refine R.ld Try.isAgg3 ?_
      refine R.gY (zg3) ?_
      refine R.mv ?_
      refine R.gY (zg3) ?_
      refine R.cm ?_
      refine R.pT (zg3) ?_
      refine R.mv ?_
      refine R.gd (fun zg4 => ?_) (fun zg4 => ?_)
      ·
        refine R.lA 6 Try.isAgg23 Try.sizeOf23 ?_
        refine R.gY (zg4) ?_
        refine R.cg Try.call25 (hCheck_spec _) ?_
        refine R.gY (zg4) ?_
        refine R.cm ?_
        refine R.pT (zg4) ?_
        refine R.as ?_
        refine R.nl ?_
        refine R.hs (e' := [(4, _)]) ?_
        refine R.rt (RV.t .nil) 1 (congrArg Value.bool ?_)
        simp only [okV, errA] at *; grind
      ·
        refine R.gF (zg4) ?_
        refine R.gF (zg4) ?_
        refine R.pF (zg4) ?_
        refine R.as ?_
        refine R.nl ?_
        refine R.hs (e' := [(4, _)]) ?_
        refine R.rt (RV.t .nil) 1 (congrArg Value.bool ?_)
        simp only [okV, errA] at *; grind
    ·
      refine R.gF (zg3) ?_
      refine R.gF (zg3) ?_
      refine R.gF (zg3) ?_
      refine R.pF (zg3) ?_
      refine R.mv ?_
      refine R.gF (rfl) ?_
      refine R.gF (rfl) ?_
      refine R.gF (rfl) ?_
      refine R.pF (rfl) ?_
      refine R.as ?_
      refine R.nl ?_
      refine R.hs (e' := [(4, _)]) ?_
      refine R.rt (RV.t .nil) 1 (congrArg Value.bool ?_)
      simp only [okV, errA] at *; grind
  ·
    refine R.gF (zg2) ?_
    refine R.pF (zg2) ?_
    refine R.mv ?_
    refine R.gF (rfl) ?_
    refine R.gF (rfl) ?_
    refine R.gF (rfl) ?_
    refine R.gF (rfl) ?_
    refine R.pF (rfl) ?_
    refine R.mv ?_
    refine R.gF (rfl) ?_
    refine R.gF (rfl) ?_
    refine R.gF (rfl) ?_
    refine R.pF (rfl) ?_
    refine R.as ?_
    refine R.nl ?_
    refine R.hs (e' := [(4, _)]) ?_
    refine R.rt (RV.t .nil) 1 (congrArg Value.bool ?_)
    simp only [okV, errA] at *; grind
theorem vTold_spec {g : Gl} {D : Dict} {M : MList} (h : Ht) : Gives Try.prog g 55 [.agg (Ht.cells h).toArray] D M (.bool (toldH h)) := by
  refine Gives.enter Try.func55 rfl Try.ntmps55 ?_
  refine R.sq ?_
  refine R.rg ?_
  refine R.bxA (fun zb1 hzb1 => ?_)
  refine R.as ?_
  refine R.nl ?_
  refine R.hs (e' := [(1, _)]) ?_
  refine R.sq ?_
  refine R.rg ?_
  refine R.fa Try.runUnderlying23 Try.sizeOf4 ?_
  refine R.ld Try.isAgg4 ?_
  refine R.nt ?_
  refine R.mv ?_
  refine R.gd (fun zg2 => ?_) (fun zg2 => ?_)
  ·
    refine R.lA 6 Try.isAgg23 Try.sizeOf23 ?_
    refine R.gY (zg2) ?_
    refine R.cg Try.call25 (hCheck_spec _) ?_
    refine R.gY (zg2) ?_
    refine R.cm ?_
    refine R.pT (zg2) ?_
    refine R.as ?_
    refine R.nl ?_
    refine R.hs (e' := [(2, _)]) ?_
    refine R.rt (RV.t .nil) 1 (congrArg Value.bool ?_)
    simp only [toldH, errA] at *; grind
  ·
    refine R.gF (zg2) ?_
    refine R.gF (zg2) ?_
    refine R.pF (zg2) ?_
    refine R.as ?_
    refine R.nl ?_
    refine R.hs (e' := [(2, _)]) ?_
    refine R.rt (RV.t .nil) 1 (congrArg Value.bool ?_)
    simp only [toldH, errA] at *; grind
theorem rAt_eq {xs : List Vw} {i : Nat} {x u : Vw} (h : xs[i]? = some x) (hu : xs[i - 1]? = some u) : rAt xs i = (okV x && (decide (i = 0) || decide (u.id < x.id))) := by simp [rAt, h, hu]
theorem okVs_no {xs : List Vw} {i : Nat} (hi : i < xs.length) (h : rAt xs i = false) : okVs xs = false := by
  cases hq : okVs xs with
  | false => rfl
  | true => rw [okVs_iff.1 hq i hi] at h; cases h
theorem vCheck_spec {g : Gl} {D : Dict} {M : MList} {a : Value} {xs : List Vw} (ha : Vws D a xs) : Gives Try.prog g 24 [a] D M (.int .i64 (errA (okVs xs))) := by
  have hla := ha.form.choose_spec.choose_spec.2.2
  refine Gives.enter Try.func24 rfl Try.ntmps24 ?_
  refine R.sq ?_
  refine R.rg ?_
  refine R.as ?_
  refine R.nl ?_
  refine R.hs (e' := [(0, _)]) ?_
  refine R.sq ?_
  refine R.sq ?_
  refine R.rg ?_
  refine R.mv ?_
  refine R.ll (ha) Try.runUnderlying24 ?_
  refine R.mv ?_
  refine R.nl ?_
  refine R.hs (e' := [(0, _), (5, _), (6, _), (7, _)]) ?_
  refine Run.block ?_
  refine Run.loop (ι := Nat) [(0, _), (5, _), (6, _)] (fun i => [(7, .int .i64 (i : Int))]) (fun _ => D) (fun _ => M) (fun i => i ≤ xs.length ∧ ∀ j, j < i → rAt xs j = true) (fun i => xs.length - i) (0) (by repeat (first | exact trivial | refine ⟨rfl, ?_⟩)) ?h0 (by repeat (first | exact trivial | refine ⟨rfl, ?_⟩)) (fun w hs => hs) ?_
  case h0 => exact ⟨Nat.zero_le _, fun j hj => by omega⟩
  rintro i ⟨hi, hpre⟩
  refine R.sq ?_
  refine R.rg ?_
  refine R.cm ?_
  refine R.nl ?_
  refine R.hs (e' := [(0, _), (5, _), (6, _), (7, _), (8, _)]) ?_
  refine R.sq ?_
  refine R.cd (fun zc1 => ?_) (fun zc1 => ?_)
  ·
    have hlt : i < xs.length := by simp at zc1; omega
    obtain ⟨x, hgx⟩ := get_of_lt hlt
    obtain ⟨u, hgu⟩ := get_of_lt (xs := xs) (i := i - 1) (by omega)
    obtain ⟨b1, o1, hI1, hc1⟩ := ha.at Vw.len hgx
    obtain ⟨b2, o2, hI2, hc2⟩ := ha.at Vw.len hgu
    refine Run.skip ?_
    refine R.sq ?_
    refine Run.block ?_
    refine R.sq ?_
    refine R.rg ?_
    refine R.mv ?_
    refine R.ix (hI1) Try.runUnderlying24 Try.sizeOf36 ?_
    refine R.lAD 7 Try.isAgg36 Try.sizeOf36 ?_
    refine R.alA Try.zeroValue36 (fun zb2 hzb2 => ?_)
    refine R.as ?_
    refine R.st Try.sizeOf36 ?_
    refine R.nl ?_
    refine R.hs (e' := [(0, _), (3, _), (4, _), (5, _), (6, _), (7, _)]) ?_
    refine R.sq ?_
    rcases Bool.eq_false_or_eq_true (!(okV x)) with zg3 | zg3
    ·
      refine Run.drawC Grow.eq 18 [(0, _), (3, _), (4, _), (5, _), (6, _), (7, _)] mix (by kernel_rfl) (by repeat (first | exact trivial | refine ⟨rfl, ?_⟩)) ?_
      apply TC.val []
      · exact rfl
      · kernel_rfl
      ·
        rintro _ rfl 
        refine R.fa Try.runUnderlying36 Try.sizeOf3 ?_
        refine R.nl ?_
        exact Run.loc rfl rfl rfl
      apply TC.val [0]
      · exact rfl
      · kernel_rfl
      ·
        rintro _ rfl _ rfl
        refine R.ld Try.isAgg3 ?_
        refine R.nl ?_
        exact Run.loc rfl rfl rfl
      apply TC.val []
      · exact rfl
      · kernel_rfl
      ·
        rintro _ rfl 
        refine R.fa Try.runUnderlying36 Try.sizeOf23 ?_
        refine R.nl ?_
        exact Run.loc rfl rfl rfl
      apply TC.val [0]
      · exact rfl
      · kernel_rfl
      ·
        rintro _ rfl _ rfl
        refine R.lA 6 Try.isAgg23 Try.sizeOf23 ?_
        refine R.nl ?_
        exact Run.loc rfl rfl rfl
      apply TC.val [2, 0]
      · exact rfl
      · kernel_rfl
      ·
        rintro _ rfl _ rfl _ rfl
        refine R.cg Try.call60 (one_spec _ ⟨_, _, _, _, _, _⟩) ?_
        refine R.nl ?_
        exact Run.loc rfl rfl rfl
      apply TC.val [0]
      · exact rfl
      · kernel_rfl
      ·
        rintro _ rfl _ rfl
        refine R.nt ?_
        refine R.nl ?_
        exact Run.loc rfl rfl rfl
      apply TC.val [0]
      · exact rfl
      · kernel_rfl
      ·
        rintro _ rfl _ rfl
        refine R.mv ?_
        refine R.nl ?_
        exact Run.loc rfl rfl rfl
      apply TC.val [0]
      · exact rfl
      · kernel_rfl
      ·
        rintro _ rfl _ rfl
        refine R.gF (zg3) ?_
        refine R.nl ?_
        exact Run.loc rfl rfl rfl
      apply TC.val [1, 0]
      · exact rfl
      · kernel_rfl
      ·
        rintro _ rfl _ rfl _ rfl
        refine R.gF (zg3) ?_
        refine R.nl ?_
        exact Run.loc rfl rfl rfl
      apply TC.val [2, 0]
      · exact rfl
      · kernel_rfl
      ·
        rintro _ rfl _ rfl _ rfl
        refine R.gF (zg3) ?_
        refine R.nl ?_
        exact Run.loc rfl rfl rfl
      apply TC.val [0]
      · exact rfl
      · kernel_rfl
      ·
        rintro _ rfl _ rfl
        refine R.gU ?_
        refine R.nl ?_
        exact Run.loc rfl rfl rfl
      apply TC.val [1]
      · exact rfl
      · kernel_rfl
      ·
        rintro _ rfl _ rfl
        refine R.gU ?_
        refine R.nl ?_
        exact Run.loc rfl rfl rfl
      apply TC.val [2, 0]
      · exact rfl
      · kernel_rfl
      ·
        rintro _ rfl _ rfl _ rfl
        refine R.gU ?_
        refine R.nl ?_
        exact Run.loc rfl rfl rfl
      apply TC.val [3, 2, 0]
      · exact rfl
      · kernel_rfl
      ·
        rintro _ rfl _ rfl _ rfl _ rfl
        refine R.gU ?_
        refine R.nl ?_
        exact Run.loc rfl rfl rfl
      apply TC.val [4, 0]
      · exact rfl
      · kernel_rfl
      ·
        rintro _ rfl _ rfl _ rfl
        refine R.gU ?_
        refine R.nl ?_
        exact Run.loc rfl rfl rfl
      apply TC.val [5, 0]
      · exact rfl
      · kernel_rfl
      ·
        rintro _ rfl _ rfl _ rfl
        refine R.gU ?_
        refine R.nl ?_
        exact Run.loc rfl rfl rfl
      apply TC.val [6]
      · exact rfl
      · kernel_rfl
      ·
        rintro _ rfl _ rfl
        refine R.gU ?_
        refine R.nl ?_
        exact Run.loc rfl rfl rfl
      apply TC.val [7, 0]
      · exact rfl
      · kernel_rfl
      ·
        rintro _ rfl _ rfl _ rfl
        refine R.gU ?_
        refine R.nl ?_
        exact Run.loc rfl rfl rfl
      refine TC.fin (by rfl) ?_
      rintro _ rfl _ rfl _ rfl _ rfl _ rfl _ rfl _ rfl _ rfl _ rfl _ rfl _ rfl _ rfl _ rfl _ rfl _ rfl _ rfl _ rfl _ rfl _ rfl
      refine R.gU ?_
      refine R.gF (zg3) ?_
      refine R.pT (zg3) ?_
      refine R.nl ?_
      refine R.hs (e' := [(0, _), (5, _), (6, _), (7, _), (32, _)]) ?_
      refine R.cT (rfl) ?_
      have hok : okVs xs = false := okVs_no hlt (by rw [rAt_eq hgx hgu]; simp_all <;> omega)
      refine R.sq ?_
      refine R.rg ?_
      refine R.as ?_
      refine R.nl ?_
      refine R.hs (e' := [(2, _)]) ?_
      refine R.rt (RV.t .nil) 1 (congrArg (Value.int .i64) ?_)
      simp [hok, errA]
    ·
      rcases Bool.eq_false_or_eq_true (decide ((i : Int) > 0)) with zg23 | zg23
      ·
        refine Run.drawC Grow.eq 18 [(0, _), (3, _), (4, _), (5, _), (6, _), (7, _)] mix (by kernel_rfl) (by repeat (first | exact trivial | refine ⟨rfl, ?_⟩)) ?_
        apply TC.val []
        · exact rfl
        · kernel_rfl
        ·
          rintro _ rfl 
          refine R.fa Try.runUnderlying36 Try.sizeOf3 ?_
          refine R.nl ?_
          exact Run.loc rfl rfl rfl
        apply TC.val [0]
        · exact rfl
        · kernel_rfl
        ·
          rintro _ rfl _ rfl
          refine R.ld Try.isAgg3 ?_
          refine R.nl ?_
          exact Run.loc rfl rfl rfl
        apply TC.val []
        · exact rfl
        · kernel_rfl
        ·
          rintro _ rfl 
          refine R.fa Try.runUnderlying36 Try.sizeOf23 ?_
          refine R.nl ?_
          exact Run.loc rfl rfl rfl
        apply TC.val [0]
        · exact rfl
        · kernel_rfl
        ·
          rintro _ rfl _ rfl
          refine R.lA 6 Try.isAgg23 Try.sizeOf23 ?_
          refine R.nl ?_
          exact Run.loc rfl rfl rfl
        apply TC.val [2, 0]
        · exact rfl
        · kernel_rfl
        ·
          rintro _ rfl _ rfl _ rfl
          refine R.cg Try.call60 (one_spec _ ⟨_, _, _, _, _, _⟩) ?_
          refine R.nl ?_
          exact Run.loc rfl rfl rfl
        apply TC.val [0]
        · exact rfl
        · kernel_rfl
        ·
          rintro _ rfl _ rfl
          refine R.nt ?_
          refine R.nl ?_
          exact Run.loc rfl rfl rfl
        apply TC.val [0]
        · exact rfl
        · kernel_rfl
        ·
          rintro _ rfl _ rfl
          refine R.mv ?_
          refine R.nl ?_
          exact Run.loc rfl rfl rfl
        apply TC.val [0]
        · exact rfl
        · kernel_rfl
        ·
          rintro _ rfl _ rfl
          refine R.gY (zg3) ?_
          refine R.mv ?_
          refine R.nl ?_
          exact Run.loc rfl rfl rfl
        apply TC.val [1, 0]
        · exact rfl
        · kernel_rfl
        ·
          rintro _ rfl _ rfl _ rfl
          refine R.gY (zg3) ?_
          refine R.cm ?_
          refine R.nl ?_
          exact Run.loc rfl rfl rfl
        apply TC.val [2, 0]
        · exact rfl
        · kernel_rfl
        ·
          rintro _ rfl _ rfl _ rfl
          refine R.gY (zg3) ?_
          refine R.mv ?_
          refine R.nl ?_
          exact Run.loc rfl rfl rfl
        apply TC.val [0]
        · exact rfl
        · kernel_rfl
        ·
          rintro _ rfl _ rfl
          refine R.gY (zg23) ?_
          refine R.mv ?_
          refine R.nl ?_
          exact Run.loc rfl rfl rfl
        apply TC.val [1]
        · exact rfl
        · kernel_rfl
        ·
          rintro _ rfl _ rfl
          refine R.gY (zg23) ?_
          refine R.mv ?_
          refine R.nl ?_
          exact Run.loc rfl rfl rfl
        apply TC.val [2, 0]
        · exact rfl
        · kernel_rfl
        ·
          rintro _ rfl _ rfl _ rfl
          refine R.gY (zg23) ?_
          refine R.sb ?_
          refine R.nl ?_
          exact Run.loc rfl rfl rfl
        apply TC.val [3, 2, 0]
        · exact rfl
        · kernel_rfl
        ·
          rintro _ rfl _ rfl _ rfl _ rfl
          refine R.gY (zg23) ?_
          refine R.ix (hI2) Try.runUnderlying24 Try.sizeOf36 ?_
          refine R.nl ?_
          exact Run.loc rfl rfl rfl
        apply TC.val [4, 0]
        · exact rfl
        · kernel_rfl
        ·
          rintro _ rfl _ rfl _ rfl
          refine R.gY (zg23) ?_
          refine R.fa Try.runUnderlying36 Try.sizeOf3 ?_
          refine R.nl ?_
          exact Run.loc rfl rfl rfl
        apply TC.val [5, 0]
        · exact rfl
        · kernel_rfl
        ·
          rintro _ rfl _ rfl _ rfl
          refine R.gY (zg23) ?_
          refine R.ldD Try.isAgg3 ?_
          refine R.nl ?_
          exact Run.loc rfl rfl rfl
        apply TC.val [6]
        · exact rfl
        · kernel_rfl
        ·
          rintro _ rfl _ rfl
          refine R.gY (zg23) ?_
          refine R.fa Try.runUnderlying36 Try.sizeOf3 ?_
          refine R.nl ?_
          exact Run.loc rfl rfl rfl
        apply TC.val [7, 0]
        · exact rfl
        · kernel_rfl
        ·
          rintro _ rfl _ rfl _ rfl
          refine R.gY (zg23) ?_
          refine R.ld Try.isAgg3 ?_
          refine R.nl ?_
          exact Run.loc rfl rfl rfl
        refine TC.fin (by rfl) ?_
        rintro _ rfl _ rfl _ rfl _ rfl _ rfl _ rfl _ rfl _ rfl _ rfl _ rfl _ rfl _ rfl _ rfl _ rfl _ rfl _ rfl _ rfl _ rfl _ rfl
        refine R.gY (zg23) ?_
        refine R.cm ?_
        refine R.gY (zg3) ?_
        refine R.pT (zg23) ?_
        refine R.pF (zg3) ?_
        refine R.nl ?_
        refine R.hs (e' := [(0, _), (5, _), (6, _), (7, _), (32, _)]) ?_
        refine R.cd (fun zc43 => ?_) (fun zc43 => ?_)
        ·
          have hok : okVs xs = false := okVs_no hlt (by rw [rAt_eq hgx hgu]; simp_all <;> omega)
          refine R.sq ?_
          refine R.rg ?_
          refine R.as ?_
          refine R.nl ?_
          refine R.hs (e' := [(2, _)]) ?_
          refine R.rt (RV.t .nil) 1 (congrArg (Value.int .i64) ?_)
          simp [hok, errA]
        ·
          have hr : rAt xs i = true := by rw [rAt_eq hgx hgu]; simp_all <;> omega
          refine Run.skip ?_
          refine Run.endBlock ?_
          refine R.rg ?_
          refine R.ad ?_
          refine R.mv ?_
          refine R.nl ?_
          refine R.hs (e' := [(0, _), (5, _), (6, _), (7, _)]) ?_
          exact Run.again (i + 1) ⟨by omega, fun j hj => by rcases Nat.lt_or_ge j i with h | h; exact hpre j h; rw [show j = i by omega]; exact hr⟩ (by omega) ⟨rfl, by repeat (first | exact trivial | refine ⟨rfl, ?_⟩)⟩ (fun w hs => hs.drop 1)
      ·
        refine Run.drawC Grow.eq 18 [(0, _), (3, _), (4, _), (5, _), (6, _), (7, _)] mix (by kernel_rfl) (by repeat (first | exact trivial | refine ⟨rfl, ?_⟩)) ?_
        apply TC.val []
        · exact rfl
        · kernel_rfl
        ·
          rintro _ rfl 
          refine R.fa Try.runUnderlying36 Try.sizeOf3 ?_
          refine R.nl ?_
          exact Run.loc rfl rfl rfl
        apply TC.val [0]
        · exact rfl
        · kernel_rfl
        ·
          rintro _ rfl _ rfl
          refine R.ld Try.isAgg3 ?_
          refine R.nl ?_
          exact Run.loc rfl rfl rfl
        apply TC.val []
        · exact rfl
        · kernel_rfl
        ·
          rintro _ rfl 
          refine R.fa Try.runUnderlying36 Try.sizeOf23 ?_
          refine R.nl ?_
          exact Run.loc rfl rfl rfl
        apply TC.val [0]
        · exact rfl
        · kernel_rfl
        ·
          rintro _ rfl _ rfl
          refine R.lA 6 Try.isAgg23 Try.sizeOf23 ?_
          refine R.nl ?_
          exact Run.loc rfl rfl rfl
        apply TC.val [2, 0]
        · exact rfl
        · kernel_rfl
        ·
          rintro _ rfl _ rfl _ rfl
          refine R.cg Try.call60 (one_spec _ ⟨_, _, _, _, _, _⟩) ?_
          refine R.nl ?_
          exact Run.loc rfl rfl rfl
        apply TC.val [0]
        · exact rfl
        · kernel_rfl
        ·
          rintro _ rfl _ rfl
          refine R.nt ?_
          refine R.nl ?_
          exact Run.loc rfl rfl rfl
        apply TC.val [0]
        · exact rfl
        · kernel_rfl
        ·
          rintro _ rfl _ rfl
          refine R.mv ?_
          refine R.nl ?_
          exact Run.loc rfl rfl rfl
        apply TC.val [0]
        · exact rfl
        · kernel_rfl
        ·
          rintro _ rfl _ rfl
          refine R.gY (zg3) ?_
          refine R.mv ?_
          refine R.nl ?_
          exact Run.loc rfl rfl rfl
        apply TC.val [1, 0]
        · exact rfl
        · kernel_rfl
        ·
          rintro _ rfl _ rfl _ rfl
          refine R.gY (zg3) ?_
          refine R.cm ?_
          refine R.nl ?_
          exact Run.loc rfl rfl rfl
        apply TC.val [2, 0]
        · exact rfl
        · kernel_rfl
        ·
          rintro _ rfl _ rfl _ rfl
          refine R.gY (zg3) ?_
          refine R.mv ?_
          refine R.nl ?_
          exact Run.loc rfl rfl rfl
        apply TC.val [0]
        · exact rfl
        · kernel_rfl
        ·
          rintro _ rfl _ rfl
          refine R.gF (zg23) ?_
          refine R.nl ?_
          exact Run.loc rfl rfl rfl
        apply TC.val [1]
        · exact rfl
        · kernel_rfl
        ·
          rintro _ rfl _ rfl
          refine R.gF (zg23) ?_
          refine R.nl ?_
          exact Run.loc rfl rfl rfl
        apply TC.val [2, 0]
        · exact rfl
        · kernel_rfl
        ·
          rintro _ rfl _ rfl _ rfl
          refine R.gF (zg23) ?_
          refine R.nl ?_
          exact Run.loc rfl rfl rfl
        apply TC.val [3, 2, 0]
        · exact rfl
        · kernel_rfl
        ·
          rintro _ rfl _ rfl _ rfl _ rfl
          refine R.gF (zg23) ?_
          refine R.nl ?_
          exact Run.loc rfl rfl rfl
        apply TC.val [4, 0]
        · exact rfl
        · kernel_rfl
        ·
          rintro _ rfl _ rfl _ rfl
          refine R.gF (zg23) ?_
          refine R.nl ?_
          exact Run.loc rfl rfl rfl
        apply TC.val [5, 0]
        · exact rfl
        · kernel_rfl
        ·
          rintro _ rfl _ rfl _ rfl
          refine R.gF (zg23) ?_
          refine R.nl ?_
          exact Run.loc rfl rfl rfl
        apply TC.val [6]
        · exact rfl
        · kernel_rfl
        ·
          rintro _ rfl _ rfl
          refine R.gF (zg23) ?_
          refine R.nl ?_
          exact Run.loc rfl rfl rfl
        apply TC.val [7, 0]
        · exact rfl
        · kernel_rfl
        ·
          rintro _ rfl _ rfl _ rfl
          refine R.gF (zg23) ?_
          refine R.nl ?_
          exact Run.loc rfl rfl rfl
        refine TC.fin (by rfl) ?_
        rintro _ rfl _ rfl _ rfl _ rfl _ rfl _ rfl _ rfl _ rfl _ rfl _ rfl _ rfl _ rfl _ rfl _ rfl _ rfl _ rfl _ rfl _ rfl _ rfl
        refine R.gF (zg23) ?_
        refine R.gY (zg3) ?_
        refine R.pF (zg23) ?_
        refine R.pF (zg3) ?_
        refine R.nl ?_
        refine R.hs (e' := [(0, _), (5, _), (6, _), (7, _), (32, _)]) ?_
        refine R.cF (rfl) ?_
        have hr : rAt xs i = true := by rw [rAt_eq hgx hgu]; simp_all <;> omega
        refine Run.skip ?_
        refine Run.endBlock ?_
        refine R.rg ?_
        refine R.ad ?_
        refine R.mv ?_
        refine R.nl ?_
        refine R.hs (e' := [(0, _), (5, _), (6, _), (7, _)]) ?_
        exact Run.again (i + 1) ⟨by omega, fun j hj => by rcases Nat.lt_or_ge j i with h | h; exact hpre j h; rw [show j = i by omega]; exact hr⟩ (by omega) ⟨rfl, by repeat (first | exact trivial | refine ⟨rfl, ?_⟩)⟩ (fun w hs => hs.drop 1)
  ·
    have hok : okVs xs = true := okVs_iff.2 fun j hj => hpre j (by simp at zc1; omega)
    refine Run.exit rfl ?_
    refine R.sq ?_
    refine R.rg ?_
    refine R.as ?_
    refine R.nl ?_
    refine R.hs (e' := [(2, _)]) ?_
    refine R.rt (RV.t .nil) 0 (congrArg (Value.int .i64) ?_)
    simp [hok, errA]
theorem refVRight_spec {g : Gl} {D : Dict} {M : MList} {a : Value} {xs : List Vw} (ha : Vws D a xs) : Gives Try.prog g 28 [a] D M (.bool (okVs xs)) := by
  have hla := ha.form.choose_spec.choose_spec.2.2
  refine Gives.enter Try.func28 rfl Try.ntmps28 ?_
  refine R.sq ?_
  refine R.rg ?_
  refine R.as ?_
  refine R.nl ?_
  refine R.hs (e' := [(0, _)]) ?_
  refine R.sq ?_
  refine R.sq ?_
  refine R.rg ?_
  refine R.as ?_
  refine R.nl ?_
  refine R.hs (e' := [(0, _), (3, _)]) ?_
  refine Run.block ?_
  refine Run.loop (ι := Nat) [(0, _)] (fun i => [(3, .int .i64 (i : Int))]) (fun _ => D) (fun _ => M) (fun i => i ≤ xs.length ∧ ∀ j, j < i → rAt xs j = true) (fun i => xs.length - i) (0) (by repeat (first | exact trivial | refine ⟨rfl, ?_⟩)) ?h0 (by repeat (first | exact trivial | refine ⟨rfl, ?_⟩)) (fun w hs => hs) ?_
  case h0 => exact ⟨Nat.zero_le _, fun j hj => by omega⟩
  rintro i ⟨hi, hpre⟩
  refine R.sq ?_
  refine R.sq ?_
  refine R.rg ?_
  refine R.mv ?_
  refine R.mv ?_
  refine R.ll (ha) Try.runUnderlying24 ?_
  refine R.cm ?_
  refine R.nl ?_
  refine R.hs (e' := [(0, _), (3, _), (8, _)]) ?_
  refine R.cd (fun zc1 => ?_) (fun zc1 => ?_)
  ·
    have hlt : i < xs.length := by simp at zc1; omega
    obtain ⟨x, hgx⟩ := get_of_lt hlt
    obtain ⟨u, hgu⟩ := get_of_lt (xs := xs) (i := i - 1) (by omega)
    obtain ⟨b1, o1, hI1, hc1⟩ := ha.at Vw.len hgx
    obtain ⟨b2, o2, hI2, hc2⟩ := ha.at Vw.len hgu
    refine Run.skip ?_
    refine R.sq ?_
    refine Run.block ?_
    refine R.sq ?_
    refine R.rg ?_
    refine R.mv ?_
    refine R.mv ?_
    refine R.ix (hI1) Try.runUnderlying24 Try.sizeOf36 ?_
    refine R.lAD 7 Try.isAgg36 Try.sizeOf36 ?_
    refine R.alA Try.zeroValue36 (fun zb2 hzb2 => ?_)
    refine R.st Try.sizeOf36 ?_
    refine R.nl ?_
    refine R.hs (e' := [(0, _), (3, _), (4, _)]) ?_
    refine R.sq ?_
    rcases Bool.eq_false_or_eq_true (decide (x.id < 0)) with zg3 | zg3
    ·
      refine Run.drawC Grow.eq 35 [(0, _), (3, _), (4, _)] mix (by kernel_rfl) (by repeat (first | exact trivial | refine ⟨rfl, ?_⟩)) ?_
      apply TC.val []
      · exact rfl
      · kernel_rfl
      ·
        rintro _ rfl 
        refine R.fa Try.runUnderlying36 Try.sizeOf3 ?_
        refine R.nl ?_
        exact Run.loc rfl rfl rfl
      apply TC.val [0]
      · exact rfl
      · kernel_rfl
      ·
        rintro _ rfl _ rfl
        refine R.ld Try.isAgg3 ?_
        refine R.nl ?_
        exact Run.loc rfl rfl rfl
      apply TC.val [0]
      · exact rfl
      · kernel_rfl
      ·
        rintro _ rfl _ rfl
        refine R.cm ?_
        refine R.nl ?_
        exact Run.loc rfl rfl rfl
      apply TC.val [0]
      · exact rfl
      · kernel_rfl
      ·
        rintro _ rfl _ rfl
        refine R.mv ?_
        refine R.nl ?_
        exact Run.loc rfl rfl rfl
      apply TC.val [0]
      · exact rfl
      · kernel_rfl
      ·
        rintro _ rfl _ rfl
        refine R.gF (zg3) ?_
        refine R.nl ?_
        exact Run.loc rfl rfl rfl
      apply TC.val [1, 0]
      · exact rfl
      · kernel_rfl
      ·
        rintro _ rfl _ rfl _ rfl
        refine R.gF (zg3) ?_
        refine R.nl ?_
        exact Run.loc rfl rfl rfl
      apply TC.val [2, 0]
      · exact rfl
      · kernel_rfl
      ·
        rintro _ rfl _ rfl _ rfl
        refine R.gF (zg3) ?_
        refine R.nl ?_
        exact Run.loc rfl rfl rfl
      apply TC.val [3, 0]
      · exact rfl
      · kernel_rfl
      ·
        rintro _ rfl _ rfl _ rfl
        refine R.pT (zg3) ?_
        refine R.nl ?_
        exact Run.loc rfl rfl rfl
      apply TC.val [0]
      · exact rfl
      · kernel_rfl
      ·
        rintro _ rfl _ rfl
        refine R.mv ?_
        refine R.nl ?_
        exact Run.loc rfl rfl rfl
      apply TC.val [0]
      · exact rfl
      · kernel_rfl
      ·
        rintro _ rfl _ rfl
        refine R.gF (rfl) ?_
        refine R.nl ?_
        exact Run.loc rfl rfl rfl
      apply TC.val [1, 0]
      · exact rfl
      · kernel_rfl
      ·
        rintro _ rfl _ rfl _ rfl
        refine R.gF (rfl) ?_
        refine R.nl ?_
        exact Run.loc rfl rfl rfl
      apply TC.val [2, 0]
      · exact rfl
      · kernel_rfl
      ·
        rintro _ rfl _ rfl _ rfl
        refine R.gF (rfl) ?_
        refine R.nl ?_
        exact Run.loc rfl rfl rfl
      apply TC.val [0]
      · exact rfl
      · kernel_rfl
      ·
        rintro _ rfl _ rfl
        refine R.gU ?_
        refine R.nl ?_
        exact Run.loc rfl rfl rfl
      apply TC.val [1]
      · exact rfl
      · kernel_rfl
      ·
        rintro _ rfl _ rfl
        refine R.gU ?_
        refine R.nl ?_
        exact Run.loc rfl rfl rfl
      apply TC.val [2, 0]
      · exact rfl
      · kernel_rfl
      ·
        rintro _ rfl _ rfl _ rfl
        refine R.gU ?_
        refine R.nl ?_
        exact Run.loc rfl rfl rfl
      apply TC.val [3, 2, 0]
      · exact rfl
      · kernel_rfl
      ·
        rintro _ rfl _ rfl _ rfl _ rfl
        refine R.gU ?_
        refine R.nl ?_
        exact Run.loc rfl rfl rfl
      apply TC.val [4, 0]
      · exact rfl
      · kernel_rfl
      ·
        rintro _ rfl _ rfl _ rfl
        refine R.gU ?_
        refine R.nl ?_
        exact Run.loc rfl rfl rfl
      apply TC.val [5, 0]
      · exact rfl
      · kernel_rfl
      ·
        rintro _ rfl _ rfl _ rfl
        refine R.gU ?_
        refine R.nl ?_
        exact Run.loc rfl rfl rfl
      apply TC.val [6]
      · exact rfl
      · kernel_rfl
      ·
        rintro _ rfl _ rfl
        refine R.gU ?_
        refine R.nl ?_
        exact Run.loc rfl rfl rfl
      apply TC.val [7, 0]
      · exact rfl
      · kernel_rfl
      ·
        rintro _ rfl _ rfl _ rfl
        refine R.gU ?_
        refine R.nl ?_
        exact Run.loc rfl rfl rfl
      apply TC.val [8, 2, 0]
      · exact rfl
      · kernel_rfl
      ·
        rintro _ rfl _ rfl _ rfl _ rfl
        refine R.gU ?_
        refine R.nl ?_
        exact Run.loc rfl rfl rfl
      apply TC.val [12, 9, 0]
      · exact rfl
      · kernel_rfl
      ·
        rintro _ rfl _ rfl _ rfl _ rfl
        refine R.gF (rfl) ?_
        refine R.nl ?_
        exact Run.loc rfl rfl rfl
      apply TC.val [13, 0]
      · exact rfl
      · kernel_rfl
      ·
        rintro _ rfl _ rfl _ rfl
        refine R.pT (rfl) ?_
        refine R.nl ?_
        exact Run.loc rfl rfl rfl
      apply TC.val [0]
      · exact rfl
      · kernel_rfl
      ·
        rintro _ rfl _ rfl
        refine R.mv ?_
        refine R.nl ?_
        exact Run.loc rfl rfl rfl
      apply TC.val [0]
      · exact rfl
      · kernel_rfl
      ·
        rintro _ rfl _ rfl
        refine R.gF (rfl) ?_
        refine R.nl ?_
        exact Run.loc rfl rfl rfl
      apply TC.val [1, 0]
      · exact rfl
      · kernel_rfl
      ·
        rintro _ rfl _ rfl _ rfl
        refine R.gF (rfl) ?_
        refine R.nl ?_
        exact Run.loc rfl rfl rfl
      apply TC.val [2, 0]
      · exact rfl
      · kernel_rfl
      ·
        rintro _ rfl _ rfl _ rfl
        refine R.gF (rfl) ?_
        refine R.nl ?_
        exact Run.loc rfl rfl rfl
      apply TC.val [3, 0]
      · exact rfl
      · kernel_rfl
      ·
        rintro _ rfl _ rfl _ rfl
        refine R.gF (rfl) ?_
        refine R.nl ?_
        exact Run.loc rfl rfl rfl
      apply TC.val [4, 0]
      · exact rfl
      · kernel_rfl
      ·
        rintro _ rfl _ rfl _ rfl
        refine R.pT (rfl) ?_
        refine R.nl ?_
        exact Run.loc rfl rfl rfl
      apply TC.val [0]
      · exact rfl
      · kernel_rfl
      ·
        rintro _ rfl _ rfl
        refine R.mv ?_
        refine R.nl ?_
        exact Run.loc rfl rfl rfl
      apply TC.val [0]
      · exact rfl
      · kernel_rfl
      ·
        rintro _ rfl _ rfl
        refine R.gF (rfl) ?_
        refine R.nl ?_
        exact Run.loc rfl rfl rfl
      apply TC.val [1, 0]
      · exact rfl
      · kernel_rfl
      ·
        rintro _ rfl _ rfl _ rfl
        refine R.gF (rfl) ?_
        refine R.nl ?_
        exact Run.loc rfl rfl rfl
      apply TC.val [2, 0]
      · exact rfl
      · kernel_rfl
      ·
        rintro _ rfl _ rfl _ rfl
        refine R.gF (rfl) ?_
        refine R.nl ?_
        exact Run.loc rfl rfl rfl
      apply TC.val [3]
      · exact rfl
      · kernel_rfl
      ·
        rintro _ rfl _ rfl
        refine R.gF (rfl) ?_
        refine R.nl ?_
        exact Run.loc rfl rfl rfl
      apply TC.val [4, 0]
      · exact rfl
      · kernel_rfl
      ·
        rintro _ rfl _ rfl _ rfl
        refine R.gF (rfl) ?_
        refine R.nl ?_
        exact Run.loc rfl rfl rfl
      refine TC.fin (by rfl) ?_
      rintro _ rfl _ rfl _ rfl _ rfl _ rfl _ rfl _ rfl _ rfl _ rfl _ rfl _ rfl _ rfl _ rfl _ rfl _ rfl _ rfl _ rfl _ rfl _ rfl _ rfl _ rfl _ rfl _ rfl _ rfl _ rfl _ rfl _ rfl _ rfl _ rfl _ rfl _ rfl _ rfl _ rfl _ rfl _ rfl _ rfl
      refine R.gF (rfl) ?_
      refine R.pT (rfl) ?_
      refine R.nl ?_
      refine R.hs (e' := [(0, _), (3, _), (51, _)]) ?_
      refine R.cT (rfl) ?_
      have hok : okVs xs = false := okVs_no hlt (by rw [rAt_eq hgx hgu]; simp only [okV] at *; grind)
      refine R.sq ?_
      refine R.rg ?_
      refine R.as ?_
      refine R.nl ?_
      refine R.hs (e' := [(2, _)]) ?_
      exact R.rt (RV.t .nil) 1 (congrArg Value.bool hok.symm)
    ·
      rcases Bool.eq_false_or_eq_true (decide (x.id ≥ 64)) with zg40 | zg40
      ·
        refine Run.drawC Grow.eq 35 [(0, _), (3, _), (4, _)] mix (by kernel_rfl) (by repeat (first | exact trivial | refine ⟨rfl, ?_⟩)) ?_
        apply TC.val []
        · exact rfl
        · kernel_rfl
        ·
          rintro _ rfl 
          refine R.fa Try.runUnderlying36 Try.sizeOf3 ?_
          refine R.nl ?_
          exact Run.loc rfl rfl rfl
        apply TC.val [0]
        · exact rfl
        · kernel_rfl
        ·
          rintro _ rfl _ rfl
          refine R.ld Try.isAgg3 ?_
          refine R.nl ?_
          exact Run.loc rfl rfl rfl
        apply TC.val [0]
        · exact rfl
        · kernel_rfl
        ·
          rintro _ rfl _ rfl
          refine R.cm ?_
          refine R.nl ?_
          exact Run.loc rfl rfl rfl
        apply TC.val [0]
        · exact rfl
        · kernel_rfl
        ·
          rintro _ rfl _ rfl
          refine R.mv ?_
          refine R.nl ?_
          exact Run.loc rfl rfl rfl
        apply TC.val [0]
        · exact rfl
        · kernel_rfl
        ·
          rintro _ rfl _ rfl
          refine R.gY (zg3) ?_
          refine R.fa Try.runUnderlying36 Try.sizeOf3 ?_
          refine R.nl ?_
          exact Run.loc rfl rfl rfl
        apply TC.val [1, 0]
        · exact rfl
        · kernel_rfl
        ·
          rintro _ rfl _ rfl _ rfl
          refine R.gY (zg3) ?_
          refine R.ld Try.isAgg3 ?_
          refine R.nl ?_
          exact Run.loc rfl rfl rfl
        apply TC.val [2, 0]
        · exact rfl
        · kernel_rfl
        ·
          rintro _ rfl _ rfl _ rfl
          refine R.gY (zg3) ?_
          refine R.cm ?_
          refine R.nl ?_
          exact Run.loc rfl rfl rfl
        apply TC.val [3, 0]
        · exact rfl
        · kernel_rfl
        ·
          rintro _ rfl _ rfl _ rfl
          refine R.pF (zg3) ?_
          refine R.nl ?_
          exact Run.loc rfl rfl rfl
        apply TC.val [0]
        · exact rfl
        · kernel_rfl
        ·
          rintro _ rfl _ rfl
          refine R.mv ?_
          refine R.nl ?_
          exact Run.loc rfl rfl rfl
        apply TC.val [0]
        · exact rfl
        · kernel_rfl
        ·
          rintro _ rfl _ rfl
          refine R.gF (zg40) ?_
          refine R.nl ?_
          exact Run.loc rfl rfl rfl
        apply TC.val [1, 0]
        · exact rfl
        · kernel_rfl
        ·
          rintro _ rfl _ rfl _ rfl
          refine R.gF (zg40) ?_
          refine R.nl ?_
          exact Run.loc rfl rfl rfl
        apply TC.val [2, 0]
        · exact rfl
        · kernel_rfl
        ·
          rintro _ rfl _ rfl _ rfl
          refine R.gF (zg40) ?_
          refine R.nl ?_
          exact Run.loc rfl rfl rfl
        apply TC.val [0]
        · exact rfl
        · kernel_rfl
        ·
          rintro _ rfl _ rfl
          refine R.gU ?_
          refine R.nl ?_
          exact Run.loc rfl rfl rfl
        apply TC.val [1]
        · exact rfl
        · kernel_rfl
        ·
          rintro _ rfl _ rfl
          refine R.gU ?_
          refine R.nl ?_
          exact Run.loc rfl rfl rfl
        apply TC.val [2, 0]
        · exact rfl
        · kernel_rfl
        ·
          rintro _ rfl _ rfl _ rfl
          refine R.gU ?_
          refine R.nl ?_
          exact Run.loc rfl rfl rfl
        apply TC.val [3, 2, 0]
        · exact rfl
        · kernel_rfl
        ·
          rintro _ rfl _ rfl _ rfl _ rfl
          refine R.gU ?_
          refine R.nl ?_
          exact Run.loc rfl rfl rfl
        apply TC.val [4, 0]
        · exact rfl
        · kernel_rfl
        ·
          rintro _ rfl _ rfl _ rfl
          refine R.gU ?_
          refine R.nl ?_
          exact Run.loc rfl rfl rfl
        apply TC.val [5, 0]
        · exact rfl
        · kernel_rfl
        ·
          rintro _ rfl _ rfl _ rfl
          refine R.gU ?_
          refine R.nl ?_
          exact Run.loc rfl rfl rfl
        apply TC.val [6]
        · exact rfl
        · kernel_rfl
        ·
          rintro _ rfl _ rfl
          refine R.gU ?_
          refine R.nl ?_
          exact Run.loc rfl rfl rfl
        apply TC.val [7, 0]
        · exact rfl
        · kernel_rfl
        ·
          rintro _ rfl _ rfl _ rfl
          refine R.gU ?_
          refine R.nl ?_
          exact Run.loc rfl rfl rfl
        apply TC.val [8, 2, 0]
        · exact rfl
        · kernel_rfl
        ·
          rintro _ rfl _ rfl _ rfl _ rfl
          refine R.gU ?_
          refine R.nl ?_
          exact Run.loc rfl rfl rfl
        apply TC.val [12, 9, 0]
        · exact rfl
        · kernel_rfl
        ·
          rintro _ rfl _ rfl _ rfl _ rfl
          refine R.gF (zg40) ?_
          refine R.nl ?_
          exact Run.loc rfl rfl rfl
        apply TC.val [13, 0]
        · exact rfl
        · kernel_rfl
        ·
          rintro _ rfl _ rfl _ rfl
          refine R.pT (zg40) ?_
          refine R.nl ?_
          exact Run.loc rfl rfl rfl
        apply TC.val [0]
        · exact rfl
        · kernel_rfl
        ·
          rintro _ rfl _ rfl
          refine R.mv ?_
          refine R.nl ?_
          exact Run.loc rfl rfl rfl
        apply TC.val [0]
        · exact rfl
        · kernel_rfl
        ·
          rintro _ rfl _ rfl
          refine R.gF (rfl) ?_
          refine R.nl ?_
          exact Run.loc rfl rfl rfl
        apply TC.val [1, 0]
        · exact rfl
        · kernel_rfl
        ·
          rintro _ rfl _ rfl _ rfl
          refine R.gF (rfl) ?_
          refine R.nl ?_
          exact Run.loc rfl rfl rfl
        apply TC.val [2, 0]
        · exact rfl
        · kernel_rfl
        ·
          rintro _ rfl _ rfl _ rfl
          refine R.gF (rfl) ?_
          refine R.nl ?_
          exact Run.loc rfl rfl rfl
        apply TC.val [3, 0]
        · exact rfl
        · kernel_rfl
        ·
          rintro _ rfl _ rfl _ rfl
          refine R.gF (rfl) ?_
          refine R.nl ?_
          exact Run.loc rfl rfl rfl
        apply TC.val [4, 0]
        · exact rfl
        · kernel_rfl
        ·
          rintro _ rfl _ rfl _ rfl
          refine R.pT (rfl) ?_
          refine R.nl ?_
          exact Run.loc rfl rfl rfl
        apply TC.val [0]
        · exact rfl
        · kernel_rfl
        ·
          rintro _ rfl _ rfl
          refine R.mv ?_
          refine R.nl ?_
          exact Run.loc rfl rfl rfl
        apply TC.val [0]
        · exact rfl
        · kernel_rfl
        ·
          rintro _ rfl _ rfl
          refine R.gF (rfl) ?_
          refine R.nl ?_
          exact Run.loc rfl rfl rfl
        apply TC.val [1, 0]
        · exact rfl
        · kernel_rfl
        ·
          rintro _ rfl _ rfl _ rfl
          refine R.gF (rfl) ?_
          refine R.nl ?_
          exact Run.loc rfl rfl rfl
        apply TC.val [2, 0]
        · exact rfl
        · kernel_rfl
        ·
          rintro _ rfl _ rfl _ rfl
          refine R.gF (rfl) ?_
          refine R.nl ?_
          exact Run.loc rfl rfl rfl
        apply TC.val [3]
        · exact rfl
        · kernel_rfl
        ·
          rintro _ rfl _ rfl
          refine R.gF (rfl) ?_
          refine R.nl ?_
          exact Run.loc rfl rfl rfl
        apply TC.val [4, 0]
        · exact rfl
        · kernel_rfl
        ·
          rintro _ rfl _ rfl _ rfl
          refine R.gF (rfl) ?_
          refine R.nl ?_
          exact Run.loc rfl rfl rfl
        refine TC.fin (by rfl) ?_
        rintro _ rfl _ rfl _ rfl _ rfl _ rfl _ rfl _ rfl _ rfl _ rfl _ rfl _ rfl _ rfl _ rfl _ rfl _ rfl _ rfl _ rfl _ rfl _ rfl _ rfl _ rfl _ rfl _ rfl _ rfl _ rfl _ rfl _ rfl _ rfl _ rfl _ rfl _ rfl _ rfl _ rfl _ rfl _ rfl _ rfl
        refine R.gF (rfl) ?_
        refine R.pT (rfl) ?_
        refine R.nl ?_
        refine R.hs (e' := [(0, _), (3, _), (51, _)]) ?_
        refine R.cT (rfl) ?_
        have hok : okVs xs = false := okVs_no hlt (by rw [rAt_eq hgx hgu]; simp only [okV] at *; grind)
        refine R.sq ?_
        refine R.rg ?_
        refine R.as ?_
        refine R.nl ?_
        refine R.hs (e' := [(2, _)]) ?_
        exact R.rt (RV.t .nil) 1 (congrArg Value.bool hok.symm)
      ·
        rcases Bool.eq_false_or_eq_true (decide ((i : Int) > 0)) with zg77 | zg77
        ·
          rcases Bool.eq_false_or_eq_true (decide (u.id ≥ x.id)) with zg78 | zg78
          ·
            refine Run.drawC Grow.eq 35 [(0, _), (3, _), (4, _)] mix (by kernel_rfl) (by repeat (first | exact trivial | refine ⟨rfl, ?_⟩)) ?_
            apply TC.val []
            · exact rfl
            · kernel_rfl
            ·
              rintro _ rfl 
              refine R.fa Try.runUnderlying36 Try.sizeOf3 ?_
              refine R.nl ?_
              exact Run.loc rfl rfl rfl
            apply TC.val [0]
            · exact rfl
            · kernel_rfl
            ·
              rintro _ rfl _ rfl
              refine R.ld Try.isAgg3 ?_
              refine R.nl ?_
              exact Run.loc rfl rfl rfl
            apply TC.val [0]
            · exact rfl
            · kernel_rfl
            ·
              rintro _ rfl _ rfl
              refine R.cm ?_
              refine R.nl ?_
              exact Run.loc rfl rfl rfl
            apply TC.val [0]
            · exact rfl
            · kernel_rfl
            ·
              rintro _ rfl _ rfl
              refine R.mv ?_
              refine R.nl ?_
              exact Run.loc rfl rfl rfl
            apply TC.val [0]
            · exact rfl
            · kernel_rfl
            ·
              rintro _ rfl _ rfl
              refine R.gY (zg3) ?_
              refine R.fa Try.runUnderlying36 Try.sizeOf3 ?_
              refine R.nl ?_
              exact Run.loc rfl rfl rfl
            apply TC.val [1, 0]
            · exact rfl
            · kernel_rfl
            ·
              rintro _ rfl _ rfl _ rfl
              refine R.gY (zg3) ?_
              refine R.ld Try.isAgg3 ?_
              refine R.nl ?_
              exact Run.loc rfl rfl rfl
            apply TC.val [2, 0]
            · exact rfl
            · kernel_rfl
            ·
              rintro _ rfl _ rfl _ rfl
              refine R.gY (zg3) ?_
              refine R.cm ?_
              refine R.nl ?_
              exact Run.loc rfl rfl rfl
            apply TC.val [3, 0]
            · exact rfl
            · kernel_rfl
            ·
              rintro _ rfl _ rfl _ rfl
              refine R.pF (zg3) ?_
              refine R.nl ?_
              exact Run.loc rfl rfl rfl
            apply TC.val [0]
            · exact rfl
            · kernel_rfl
            ·
              rintro _ rfl _ rfl
              refine R.mv ?_
              refine R.nl ?_
              exact Run.loc rfl rfl rfl
            apply TC.val [0]
            · exact rfl
            · kernel_rfl
            ·
              rintro _ rfl _ rfl
              refine R.gY (zg40) ?_
              refine R.mv ?_
              refine R.nl ?_
              exact Run.loc rfl rfl rfl
            apply TC.val [1, 0]
            · exact rfl
            · kernel_rfl
            ·
              rintro _ rfl _ rfl _ rfl
              refine R.gY (zg40) ?_
              refine R.cm ?_
              refine R.nl ?_
              exact Run.loc rfl rfl rfl
            apply TC.val [2, 0]
            · exact rfl
            · kernel_rfl
            ·
              rintro _ rfl _ rfl _ rfl
              refine R.gY (zg40) ?_
              refine R.mv ?_
              refine R.nl ?_
              exact Run.loc rfl rfl rfl
            apply TC.val [0]
            · exact rfl
            · kernel_rfl
            ·
              rintro _ rfl _ rfl
              refine R.gY (zg77) ?_
              refine R.mv ?_
              refine R.nl ?_
              exact Run.loc rfl rfl rfl
            apply TC.val [1]
            · exact rfl
            · kernel_rfl
            ·
              rintro _ rfl _ rfl
              refine R.gY (zg77) ?_
              refine R.mv ?_
              refine R.nl ?_
              exact Run.loc rfl rfl rfl
            apply TC.val [2, 0]
            · exact rfl
            · kernel_rfl
            ·
              rintro _ rfl _ rfl _ rfl
              refine R.gY (zg77) ?_
              refine R.sb ?_
              refine R.nl ?_
              exact Run.loc rfl rfl rfl
            apply TC.val [3, 2, 0]
            · exact rfl
            · kernel_rfl
            ·
              rintro _ rfl _ rfl _ rfl _ rfl
              refine R.gY (zg77) ?_
              refine R.ix (hI2) Try.runUnderlying24 Try.sizeOf36 ?_
              refine R.nl ?_
              exact Run.loc rfl rfl rfl
            apply TC.val [4, 0]
            · exact rfl
            · kernel_rfl
            ·
              rintro _ rfl _ rfl _ rfl
              refine R.gY (zg77) ?_
              refine R.fa Try.runUnderlying36 Try.sizeOf3 ?_
              refine R.nl ?_
              exact Run.loc rfl rfl rfl
            apply TC.val [5, 0]
            · exact rfl
            · kernel_rfl
            ·
              rintro _ rfl _ rfl _ rfl
              refine R.gY (zg77) ?_
              refine R.ldD Try.isAgg3 ?_
              refine R.nl ?_
              exact Run.loc rfl rfl rfl
            apply TC.val [6]
            · exact rfl
            · kernel_rfl
            ·
              rintro _ rfl _ rfl
              refine R.gY (zg77) ?_
              refine R.fa Try.runUnderlying36 Try.sizeOf3 ?_
              refine R.nl ?_
              exact Run.loc rfl rfl rfl
            apply TC.val [7, 0]
            · exact rfl
            · kernel_rfl
            ·
              rintro _ rfl _ rfl _ rfl
              refine R.gY (zg77) ?_
              refine R.ld Try.isAgg3 ?_
              refine R.nl ?_
              exact Run.loc rfl rfl rfl
            apply TC.val [8, 2, 0]
            · exact rfl
            · kernel_rfl
            ·
              rintro _ rfl _ rfl _ rfl _ rfl
              refine R.gY (zg77) ?_
              refine R.cm ?_
              refine R.nl ?_
              exact Run.loc rfl rfl rfl
            apply TC.val [12, 9, 0]
            · exact rfl
            · kernel_rfl
            ·
              rintro _ rfl _ rfl _ rfl _ rfl
              refine R.gY (zg40) ?_
              refine R.pT (zg77) ?_
              refine R.nl ?_
              exact Run.loc rfl rfl rfl
            apply TC.val [13, 0]
            · exact rfl
            · kernel_rfl
            ·
              rintro _ rfl _ rfl _ rfl
              refine R.pF (zg40) ?_
              refine R.nl ?_
              exact Run.loc rfl rfl rfl
            apply TC.val [0]
            · exact rfl
            · kernel_rfl
            ·
              rintro _ rfl _ rfl
              refine R.mv ?_
              refine R.nl ?_
              exact Run.loc rfl rfl rfl
            apply TC.val [0]
            · exact rfl
            · kernel_rfl
            ·
              rintro _ rfl _ rfl
              refine R.gF (zg78) ?_
              refine R.nl ?_
              exact Run.loc rfl rfl rfl
            apply TC.val [1, 0]
            · exact rfl
            · kernel_rfl
            ·
              rintro _ rfl _ rfl _ rfl
              refine R.gF (zg78) ?_
              refine R.nl ?_
              exact Run.loc rfl rfl rfl
            apply TC.val [2, 0]
            · exact rfl
            · kernel_rfl
            ·
              rintro _ rfl _ rfl _ rfl
              refine R.gF (zg78) ?_
              refine R.nl ?_
              exact Run.loc rfl rfl rfl
            apply TC.val [3, 0]
            · exact rfl
            · kernel_rfl
            ·
              rintro _ rfl _ rfl _ rfl
              refine R.gF (zg78) ?_
              refine R.nl ?_
              exact Run.loc rfl rfl rfl
            apply TC.val [4, 0]
            · exact rfl
            · kernel_rfl
            ·
              rintro _ rfl _ rfl _ rfl
              refine R.pT (zg78) ?_
              refine R.nl ?_
              exact Run.loc rfl rfl rfl
            apply TC.val [0]
            · exact rfl
            · kernel_rfl
            ·
              rintro _ rfl _ rfl
              refine R.mv ?_
              refine R.nl ?_
              exact Run.loc rfl rfl rfl
            apply TC.val [0]
            · exact rfl
            · kernel_rfl
            ·
              rintro _ rfl _ rfl
              refine R.gF (rfl) ?_
              refine R.nl ?_
              exact Run.loc rfl rfl rfl
            apply TC.val [1, 0]
            · exact rfl
            · kernel_rfl
            ·
              rintro _ rfl _ rfl _ rfl
              refine R.gF (rfl) ?_
              refine R.nl ?_
              exact Run.loc rfl rfl rfl
            apply TC.val [2, 0]
            · exact rfl
            · kernel_rfl
            ·
              rintro _ rfl _ rfl _ rfl
              refine R.gF (rfl) ?_
              refine R.nl ?_
              exact Run.loc rfl rfl rfl
            apply TC.val [3]
            · exact rfl
            · kernel_rfl
            ·
              rintro _ rfl _ rfl
              refine R.gF (rfl) ?_
              refine R.nl ?_
              exact Run.loc rfl rfl rfl
            apply TC.val [4, 0]
            · exact rfl
            · kernel_rfl
            ·
              rintro _ rfl _ rfl _ rfl
              refine R.gF (rfl) ?_
              refine R.nl ?_
              exact Run.loc rfl rfl rfl
            refine TC.fin (by rfl) ?_
            rintro _ rfl _ rfl _ rfl _ rfl _ rfl _ rfl _ rfl _ rfl _ rfl _ rfl _ rfl _ rfl _ rfl _ rfl _ rfl _ rfl _ rfl _ rfl _ rfl _ rfl _ rfl _ rfl _ rfl _ rfl _ rfl _ rfl _ rfl _ rfl _ rfl _ rfl _ rfl _ rfl _ rfl _ rfl _ rfl _ rfl
            refine R.gF (rfl) ?_
            refine R.pT (rfl) ?_
            refine R.nl ?_
            refine R.hs (e' := [(0, _), (3, _), (51, _)]) ?_
            refine R.cT (rfl) ?_
            have hok : okVs xs = false := okVs_no hlt (by rw [rAt_eq hgx hgu]; simp only [okV] at *; grind)
            refine R.sq ?_
            refine R.rg ?_
            refine R.as ?_
            refine R.nl ?_
            refine R.hs (e' := [(2, _)]) ?_
            exact R.rt (RV.t .nil) 1 (congrArg Value.bool hok.symm)
          ·
            rcases Bool.eq_false_or_eq_true (!(okH x.h)) with zg115 | zg115
            ·
              refine Run.drawC Grow.eq 35 [(0, _), (3, _), (4, _)] mix (by kernel_rfl) (by repeat (first | exact trivial | refine ⟨rfl, ?_⟩)) ?_
              apply TC.val []
              · exact rfl
              · kernel_rfl
              ·
                rintro _ rfl 
                refine R.fa Try.runUnderlying36 Try.sizeOf3 ?_
                refine R.nl ?_
                exact Run.loc rfl rfl rfl
              apply TC.val [0]
              · exact rfl
              · kernel_rfl
              ·
                rintro _ rfl _ rfl
                refine R.ld Try.isAgg3 ?_
                refine R.nl ?_
                exact Run.loc rfl rfl rfl
              apply TC.val [0]
              · exact rfl
              · kernel_rfl
              ·
                rintro _ rfl _ rfl
                refine R.cm ?_
                refine R.nl ?_
                exact Run.loc rfl rfl rfl
              apply TC.val [0]
              · exact rfl
              · kernel_rfl
              ·
                rintro _ rfl _ rfl
                refine R.mv ?_
                refine R.nl ?_
                exact Run.loc rfl rfl rfl
              apply TC.val [0]
              · exact rfl
              · kernel_rfl
              ·
                rintro _ rfl _ rfl
                refine R.gY (zg3) ?_
                refine R.fa Try.runUnderlying36 Try.sizeOf3 ?_
                refine R.nl ?_
                exact Run.loc rfl rfl rfl
              apply TC.val [1, 0]
              · exact rfl
              · kernel_rfl
              ·
                rintro _ rfl _ rfl _ rfl
                refine R.gY (zg3) ?_
                refine R.ld Try.isAgg3 ?_
                refine R.nl ?_
                exact Run.loc rfl rfl rfl
              apply TC.val [2, 0]
              · exact rfl
              · kernel_rfl
              ·
                rintro _ rfl _ rfl _ rfl
                refine R.gY (zg3) ?_
                refine R.cm ?_
                refine R.nl ?_
                exact Run.loc rfl rfl rfl
              apply TC.val [3, 0]
              · exact rfl
              · kernel_rfl
              ·
                rintro _ rfl _ rfl _ rfl
                refine R.pF (zg3) ?_
                refine R.nl ?_
                exact Run.loc rfl rfl rfl
              apply TC.val [0]
              · exact rfl
              · kernel_rfl
              ·
                rintro _ rfl _ rfl
                refine R.mv ?_
                refine R.nl ?_
                exact Run.loc rfl rfl rfl
              apply TC.val [0]
              · exact rfl
              · kernel_rfl
              ·
                rintro _ rfl _ rfl
                refine R.gY (zg40) ?_
                refine R.mv ?_
                refine R.nl ?_
                exact Run.loc rfl rfl rfl
              apply TC.val [1, 0]
              · exact rfl
              · kernel_rfl
              ·
                rintro _ rfl _ rfl _ rfl
                refine R.gY (zg40) ?_
                refine R.cm ?_
                refine R.nl ?_
                exact Run.loc rfl rfl rfl
              apply TC.val [2, 0]
              · exact rfl
              · kernel_rfl
              ·
                rintro _ rfl _ rfl _ rfl
                refine R.gY (zg40) ?_
                refine R.mv ?_
                refine R.nl ?_
                exact Run.loc rfl rfl rfl
              apply TC.val [0]
              · exact rfl
              · kernel_rfl
              ·
                rintro _ rfl _ rfl
                refine R.gY (zg77) ?_
                refine R.mv ?_
                refine R.nl ?_
                exact Run.loc rfl rfl rfl
              apply TC.val [1]
              · exact rfl
              · kernel_rfl
              ·
                rintro _ rfl _ rfl
                refine R.gY (zg77) ?_
                refine R.mv ?_
                refine R.nl ?_
                exact Run.loc rfl rfl rfl
              apply TC.val [2, 0]
              · exact rfl
              · kernel_rfl
              ·
                rintro _ rfl _ rfl _ rfl
                refine R.gY (zg77) ?_
                refine R.sb ?_
                refine R.nl ?_
                exact Run.loc rfl rfl rfl
              apply TC.val [3, 2, 0]
              · exact rfl
              · kernel_rfl
              ·
                rintro _ rfl _ rfl _ rfl _ rfl
                refine R.gY (zg77) ?_
                refine R.ix (hI2) Try.runUnderlying24 Try.sizeOf36 ?_
                refine R.nl ?_
                exact Run.loc rfl rfl rfl
              apply TC.val [4, 0]
              · exact rfl
              · kernel_rfl
              ·
                rintro _ rfl _ rfl _ rfl
                refine R.gY (zg77) ?_
                refine R.fa Try.runUnderlying36 Try.sizeOf3 ?_
                refine R.nl ?_
                exact Run.loc rfl rfl rfl
              apply TC.val [5, 0]
              · exact rfl
              · kernel_rfl
              ·
                rintro _ rfl _ rfl _ rfl
                refine R.gY (zg77) ?_
                refine R.ldD Try.isAgg3 ?_
                refine R.nl ?_
                exact Run.loc rfl rfl rfl
              apply TC.val [6]
              · exact rfl
              · kernel_rfl
              ·
                rintro _ rfl _ rfl
                refine R.gY (zg77) ?_
                refine R.fa Try.runUnderlying36 Try.sizeOf3 ?_
                refine R.nl ?_
                exact Run.loc rfl rfl rfl
              apply TC.val [7, 0]
              · exact rfl
              · kernel_rfl
              ·
                rintro _ rfl _ rfl _ rfl
                refine R.gY (zg77) ?_
                refine R.ld Try.isAgg3 ?_
                refine R.nl ?_
                exact Run.loc rfl rfl rfl
              apply TC.val [8, 2, 0]
              · exact rfl
              · kernel_rfl
              ·
                rintro _ rfl _ rfl _ rfl _ rfl
                refine R.gY (zg77) ?_
                refine R.cm ?_
                refine R.nl ?_
                exact Run.loc rfl rfl rfl
              apply TC.val [12, 9, 0]
              · exact rfl
              · kernel_rfl
              ·
                rintro _ rfl _ rfl _ rfl _ rfl
                refine R.gY (zg40) ?_
                refine R.pT (zg77) ?_
                refine R.nl ?_
                exact Run.loc rfl rfl rfl
              apply TC.val [13, 0]
              · exact rfl
              · kernel_rfl
              ·
                rintro _ rfl _ rfl _ rfl
                refine R.pF (zg40) ?_
                refine R.nl ?_
                exact Run.loc rfl rfl rfl
              apply TC.val [0]
              · exact rfl
              · kernel_rfl
              ·
                rintro _ rfl _ rfl
                refine R.mv ?_
                refine R.nl ?_
                exact Run.loc rfl rfl rfl
              apply TC.val [0]
              · exact rfl
              · kernel_rfl
              ·
                rintro _ rfl _ rfl
                refine R.gY (zg78) ?_
                refine R.fa Try.runUnderlying36 Try.sizeOf23 ?_
                refine R.nl ?_
                exact Run.loc rfl rfl rfl
              apply TC.val [1, 0]
              · exact rfl
              · kernel_rfl
              ·
                rintro _ rfl _ rfl _ rfl
                refine R.gY (zg78) ?_
                refine R.lA 6 Try.isAgg23 Try.sizeOf23 ?_
                refine R.nl ?_
                exact Run.loc rfl rfl rfl
              apply TC.val [2, 0]
              · exact rfl
              · kernel_rfl
              ·
                rintro _ rfl _ rfl _ rfl
                refine R.gY (zg78) ?_
                refine R.cg Try.call45 (refRight_spec x.h) ?_
                refine R.nl ?_
                exact Run.loc rfl rfl rfl
              apply TC.val [3, 0]
              · exact rfl
              · kernel_rfl
              ·
                rintro _ rfl _ rfl _ rfl
                refine R.gY (zg78) ?_
                refine R.nt ?_
                refine R.nl ?_
                exact Run.loc rfl rfl rfl
              apply TC.val [4, 0]
              · exact rfl
              · kernel_rfl
              ·
                rintro _ rfl _ rfl _ rfl
                refine R.pF (zg78) ?_
                refine R.nl ?_
                exact Run.loc rfl rfl rfl
              apply TC.val [0]
              · exact rfl
              · kernel_rfl
              ·
                rintro _ rfl _ rfl
                refine R.mv ?_
                refine R.nl ?_
                exact Run.loc rfl rfl rfl
              apply TC.val [0]
              · exact rfl
              · kernel_rfl
              ·
                rintro _ rfl _ rfl
                refine R.gF (zg115) ?_
                refine R.nl ?_
                exact Run.loc rfl rfl rfl
              apply TC.val [1, 0]
              · exact rfl
              · kernel_rfl
              ·
                rintro _ rfl _ rfl _ rfl
                refine R.gF (zg115) ?_
                refine R.nl ?_
                exact Run.loc rfl rfl rfl
              apply TC.val [2, 0]
              · exact rfl
              · kernel_rfl
              ·
                rintro _ rfl _ rfl _ rfl
                refine R.gF (zg115) ?_
                refine R.nl ?_
                exact Run.loc rfl rfl rfl
              apply TC.val [3]
              · exact rfl
              · kernel_rfl
              ·
                rintro _ rfl _ rfl
                refine R.gF (zg115) ?_
                refine R.nl ?_
                exact Run.loc rfl rfl rfl
              apply TC.val [4, 0]
              · exact rfl
              · kernel_rfl
              ·
                rintro _ rfl _ rfl _ rfl
                refine R.gF (zg115) ?_
                refine R.nl ?_
                exact Run.loc rfl rfl rfl
              refine TC.fin (by rfl) ?_
              rintro _ rfl _ rfl _ rfl _ rfl _ rfl _ rfl _ rfl _ rfl _ rfl _ rfl _ rfl _ rfl _ rfl _ rfl _ rfl _ rfl _ rfl _ rfl _ rfl _ rfl _ rfl _ rfl _ rfl _ rfl _ rfl _ rfl _ rfl _ rfl _ rfl _ rfl _ rfl _ rfl _ rfl _ rfl _ rfl _ rfl
              refine R.gF (zg115) ?_
              refine R.pT (zg115) ?_
              refine R.nl ?_
              refine R.hs (e' := [(0, _), (3, _), (51, _)]) ?_
              refine R.cT (rfl) ?_
              have hok : okVs xs = false := okVs_no hlt (by rw [rAt_eq hgx hgu]; simp only [okV] at *; grind)
              refine R.sq ?_
              refine R.rg ?_
              refine R.as ?_
              refine R.nl ?_
              refine R.hs (e' := [(2, _)]) ?_
              exact R.rt (RV.t .nil) 1 (congrArg Value.bool hok.symm)
            ·
              refine Run.drawC Grow.eq 35 [(0, _), (3, _), (4, _)] mix (by kernel_rfl) (by repeat (first | exact trivial | refine ⟨rfl, ?_⟩)) ?_
              apply TC.val []
              · exact rfl
              · kernel_rfl
              ·
                rintro _ rfl 
                refine R.fa Try.runUnderlying36 Try.sizeOf3 ?_
                refine R.nl ?_
                exact Run.loc rfl rfl rfl
              apply TC.val [0]
              · exact rfl
              · kernel_rfl
              ·
                rintro _ rfl _ rfl
                refine R.ld Try.isAgg3 ?_
                refine R.nl ?_
                exact Run.loc rfl rfl rfl
              apply TC.val [0]
              · exact rfl
              · kernel_rfl
              ·
                rintro _ rfl _ rfl
                refine R.cm ?_
                refine R.nl ?_
                exact Run.loc rfl rfl rfl
              apply TC.val [0]
              · exact rfl
              · kernel_rfl
              ·
                rintro _ rfl _ rfl
                refine R.mv ?_
                refine R.nl ?_
                exact Run.loc rfl rfl rfl
              apply TC.val [0]
              · exact rfl
              · kernel_rfl
              ·
                rintro _ rfl _ rfl
                refine R.gY (zg3) ?_
                refine R.fa Try.runUnderlying36 Try.sizeOf3 ?_
                refine R.nl ?_
                exact Run.loc rfl rfl rfl
              apply TC.val [1, 0]
              · exact rfl
              · kernel_rfl
              ·
                rintro _ rfl _ rfl _ rfl
                refine R.gY (zg3) ?_
                refine R.ld Try.isAgg3 ?_
                refine R.nl ?_
                exact Run.loc rfl rfl rfl
              apply TC.val [2, 0]
              · exact rfl
              · kernel_rfl
              ·
                rintro _ rfl _ rfl _ rfl
                refine R.gY (zg3) ?_
                refine R.cm ?_
                refine R.nl ?_
                exact Run.loc rfl rfl rfl
              apply TC.val [3, 0]
              · exact rfl
              · kernel_rfl
              ·
                rintro _ rfl _ rfl _ rfl
                refine R.pF (zg3) ?_
                refine R.nl ?_
                exact Run.loc rfl rfl rfl
              apply TC.val [0]
              · exact rfl
              · kernel_rfl
              ·
                rintro _ rfl _ rfl
                refine R.mv ?_
                refine R.nl ?_
                exact Run.loc rfl rfl rfl
              apply TC.val [0]
              · exact rfl
              · kernel_rfl
              ·
                rintro _ rfl _ rfl
                refine R.gY (zg40) ?_
                refine R.mv ?_
                refine R.nl ?_
                exact Run.loc rfl rfl rfl
              apply TC.val [1, 0]
              · exact rfl
              · kernel_rfl
              ·
                rintro _ rfl _ rfl _ rfl
                refine R.gY (zg40) ?_
                refine R.cm ?_
                refine R.nl ?_
                exact Run.loc rfl rfl rfl
              apply TC.val [2, 0]
              · exact rfl
              · kernel_rfl
              ·
                rintro _ rfl _ rfl _ rfl
                refine R.gY (zg40) ?_
                refine R.mv ?_
                refine R.nl ?_
                exact Run.loc rfl rfl rfl
              apply TC.val [0]
              · exact rfl
              · kernel_rfl
              ·
                rintro _ rfl _ rfl
                refine R.gY (zg77) ?_
                refine R.mv ?_
                refine R.nl ?_
                exact Run.loc rfl rfl rfl
              apply TC.val [1]
              · exact rfl
              · kernel_rfl
              ·
                rintro _ rfl _ rfl
                refine R.gY (zg77) ?_
                refine R.mv ?_
                refine R.nl ?_
                exact Run.loc rfl rfl rfl
              apply TC.val [2, 0]
              · exact rfl
              · kernel_rfl
              ·
                rintro _ rfl _ rfl _ rfl
                refine R.gY (zg77) ?_
                refine R.sb ?_
                refine R.nl ?_
                exact Run.loc rfl rfl rfl
              apply TC.val [3, 2, 0]
              · exact rfl
              · kernel_rfl
              ·
                rintro _ rfl _ rfl _ rfl _ rfl
                refine R.gY (zg77) ?_
                refine R.ix (hI2) Try.runUnderlying24 Try.sizeOf36 ?_
                refine R.nl ?_
                exact Run.loc rfl rfl rfl
              apply TC.val [4, 0]
              · exact rfl
              · kernel_rfl
              ·
                rintro _ rfl _ rfl _ rfl
                refine R.gY (zg77) ?_
                refine R.fa Try.runUnderlying36 Try.sizeOf3 ?_
                refine R.nl ?_
                exact Run.loc rfl rfl rfl
              apply TC.val [5, 0]
              · exact rfl
              · kernel_rfl
              ·
                rintro _ rfl _ rfl _ rfl
                refine R.gY (zg77) ?_
                refine R.ldD Try.isAgg3 ?_
                refine R.nl ?_
                exact Run.loc rfl rfl rfl
              apply TC.val [6]
              · exact rfl
              · kernel_rfl
              ·
                rintro _ rfl _ rfl
                refine R.gY (zg77) ?_
                refine R.fa Try.runUnderlying36 Try.sizeOf3 ?_
                refine R.nl ?_
                exact Run.loc rfl rfl rfl
              apply TC.val [7, 0]
              · exact rfl
              · kernel_rfl
              ·
                rintro _ rfl _ rfl _ rfl
                refine R.gY (zg77) ?_
                refine R.ld Try.isAgg3 ?_
                refine R.nl ?_
                exact Run.loc rfl rfl rfl
              apply TC.val [8, 2, 0]
              · exact rfl
              · kernel_rfl
              ·
                rintro _ rfl _ rfl _ rfl _ rfl
                refine R.gY (zg77) ?_
                refine R.cm ?_
                refine R.nl ?_
                exact Run.loc rfl rfl rfl
              apply TC.val [12, 9, 0]
              · exact rfl
              · kernel_rfl
              ·
                rintro _ rfl _ rfl _ rfl _ rfl
                refine R.gY (zg40) ?_
                refine R.pT (zg77) ?_
                refine R.nl ?_
                exact Run.loc rfl rfl rfl
              apply TC.val [13, 0]
              · exact rfl
              · kernel_rfl
              ·
                rintro _ rfl _ rfl _ rfl
                refine R.pF (zg40) ?_
                refine R.nl ?_
                exact Run.loc rfl rfl rfl
              apply TC.val [0]
              · exact rfl
              · kernel_rfl
              ·
                rintro _ rfl _ rfl
                refine R.mv ?_
                refine R.nl ?_
                exact Run.loc rfl rfl rfl
              apply TC.val [0]
              · exact rfl
              · kernel_rfl
              ·
                rintro _ rfl _ rfl
                refine R.gY (zg78) ?_
                refine R.fa Try.runUnderlying36 Try.sizeOf23 ?_
                refine R.nl ?_
                exact Run.loc rfl rfl rfl
              apply TC.val [1, 0]
              · exact rfl
              · kernel_rfl
              ·
                rintro _ rfl _ rfl _ rfl
                refine R.gY (zg78) ?_
                refine R.lA 6 Try.isAgg23 Try.sizeOf23 ?_
                refine R.nl ?_
                exact Run.loc rfl rfl rfl
              apply TC.val [2, 0]
              · exact rfl
              · kernel_rfl
              ·
                rintro _ rfl _ rfl _ rfl
                refine R.gY (zg78) ?_
                refine R.cg Try.call45 (refRight_spec x.h) ?_
                refine R.nl ?_
                exact Run.loc rfl rfl rfl
              apply TC.val [3, 0]
              · exact rfl
              · kernel_rfl
              ·
                rintro _ rfl _ rfl _ rfl
                refine R.gY (zg78) ?_
                refine R.nt ?_
                refine R.nl ?_
                exact Run.loc rfl rfl rfl
              apply TC.val [4, 0]
              · exact rfl
              · kernel_rfl
              ·
                rintro _ rfl _ rfl _ rfl
                refine R.pF (zg78) ?_
                refine R.nl ?_
                exact Run.loc rfl rfl rfl
              apply TC.val [0]
              · exact rfl
              · kernel_rfl
              ·
                rintro _ rfl _ rfl
                refine R.mv ?_
                refine R.nl ?_
                exact Run.loc rfl rfl rfl
              apply TC.val [0]
              · exact rfl
              · kernel_rfl
              ·
                rintro _ rfl _ rfl
                refine R.gY (zg115) ?_
                refine R.fa Try.runUnderlying36 Try.sizeOf23 ?_
                refine R.nl ?_
                exact Run.loc rfl rfl rfl
              apply TC.val [1, 0]
              · exact rfl
              · kernel_rfl
              ·
                rintro _ rfl _ rfl _ rfl
                refine R.gY (zg115) ?_
                refine R.fa Try.runUnderlying23 Try.sizeOf3 ?_
                refine R.nl ?_
                exact Run.loc rfl rfl rfl
              apply TC.val [2, 0]
              · exact rfl
              · kernel_rfl
              ·
                rintro _ rfl _ rfl _ rfl
                refine R.gY (zg115) ?_
                refine R.ld Try.isAgg3 ?_
                refine R.nl ?_
                exact Run.loc rfl rfl rfl
              apply TC.val [3]
              · exact rfl
              · kernel_rfl
              ·
                rintro _ rfl _ rfl
                refine R.gY (zg115) ?_
                refine R.fa Try.runUnderlying36 Try.sizeOf3 ?_
                refine R.nl ?_
                exact Run.loc rfl rfl rfl
              apply TC.val [4, 0]
              · exact rfl
              · kernel_rfl
              ·
                rintro _ rfl _ rfl _ rfl
                refine R.gY (zg115) ?_
                refine R.ld Try.isAgg3 ?_
                refine R.nl ?_
                exact Run.loc rfl rfl rfl
              refine TC.fin (by rfl) ?_
              rintro _ rfl _ rfl _ rfl _ rfl _ rfl _ rfl _ rfl _ rfl _ rfl _ rfl _ rfl _ rfl _ rfl _ rfl _ rfl _ rfl _ rfl _ rfl _ rfl _ rfl _ rfl _ rfl _ rfl _ rfl _ rfl _ rfl _ rfl _ rfl _ rfl _ rfl _ rfl _ rfl _ rfl _ rfl _ rfl _ rfl
              refine R.gY (zg115) ?_
              refine R.cm ?_
              refine R.pF (zg115) ?_
              refine R.nl ?_
              refine R.hs (e' := [(0, _), (3, _), (51, _)]) ?_
              refine R.cd (fun zc188 => ?_) (fun zc188 => ?_)
              ·
                have hok : okVs xs = false := okVs_no hlt (by rw [rAt_eq hgx hgu]; simp only [okV] at *; grind)
                refine R.sq ?_
                refine R.rg ?_
                refine R.as ?_
                refine R.nl ?_
                refine R.hs (e' := [(2, _)]) ?_
                exact R.rt (RV.t .nil) 1 (congrArg Value.bool hok.symm)
              ·
                have hr : rAt xs i = true := by rw [rAt_eq hgx hgu]; simp only [okV] at *; grind
                refine Run.skip ?_
                refine Run.endBlock ?_
                refine R.rg ?_
                refine R.mv ?_
                refine R.ad ?_
                refine R.as ?_
                refine R.nl ?_
                refine R.hs (e' := [(0, _), (3, _)]) ?_
                exact Run.again (i + 1) ⟨by omega, fun j hj => by rcases Nat.lt_or_ge j i with h | h; exact hpre j h; rw [show j = i by omega]; exact hr⟩ (by omega) ⟨rfl, by repeat (first | exact trivial | refine ⟨rfl, ?_⟩)⟩ (fun w hs => hs.drop 1)
        ·
          rcases Bool.eq_false_or_eq_true (!(okH x.h)) with zg189 | zg189
          ·
            refine Run.drawC Grow.eq 35 [(0, _), (3, _), (4, _)] mix (by kernel_rfl) (by repeat (first | exact trivial | refine ⟨rfl, ?_⟩)) ?_
            apply TC.val []
            · exact rfl
            · kernel_rfl
            ·
              rintro _ rfl 
              refine R.fa Try.runUnderlying36 Try.sizeOf3 ?_
              refine R.nl ?_
              exact Run.loc rfl rfl rfl
            apply TC.val [0]
            · exact rfl
            · kernel_rfl
            ·
              rintro _ rfl _ rfl
              refine R.ld Try.isAgg3 ?_
              refine R.nl ?_
              exact Run.loc rfl rfl rfl
            apply TC.val [0]
            · exact rfl
            · kernel_rfl
            ·
              rintro _ rfl _ rfl
              refine R.cm ?_
              refine R.nl ?_
              exact Run.loc rfl rfl rfl
            apply TC.val [0]
            · exact rfl
            · kernel_rfl
            ·
              rintro _ rfl _ rfl
              refine R.mv ?_
              refine R.nl ?_
              exact Run.loc rfl rfl rfl
            apply TC.val [0]
            · exact rfl
            · kernel_rfl
            ·
              rintro _ rfl _ rfl
              refine R.gY (zg3) ?_
              refine R.fa Try.runUnderlying36 Try.sizeOf3 ?_
              refine R.nl ?_
              exact Run.loc rfl rfl rfl
            apply TC.val [1, 0]
            · exact rfl
            · kernel_rfl
            ·
              rintro _ rfl _ rfl _ rfl
              refine R.gY (zg3) ?_
              refine R.ld Try.isAgg3 ?_
              refine R.nl ?_
              exact Run.loc rfl rfl rfl
            apply TC.val [2, 0]
            · exact rfl
            · kernel_rfl
            ·
              rintro _ rfl _ rfl _ rfl
              refine R.gY (zg3) ?_
              refine R.cm ?_
              refine R.nl ?_
              exact Run.loc rfl rfl rfl
            apply TC.val [3, 0]
            · exact rfl
            · kernel_rfl
            ·
              rintro _ rfl _ rfl _ rfl
              refine R.pF (zg3) ?_
              refine R.nl ?_
              exact Run.loc rfl rfl rfl
            apply TC.val [0]
            · exact rfl
            · kernel_rfl
            ·
              rintro _ rfl _ rfl
              refine R.mv ?_
              refine R.nl ?_
              exact Run.loc rfl rfl rfl
            apply TC.val [0]
            · exact rfl
            · kernel_rfl
            ·
              rintro _ rfl _ rfl
              refine R.gY (zg40) ?_
              refine R.mv ?_
              refine R.nl ?_
              exact Run.loc rfl rfl rfl
            apply TC.val [1, 0]
            · exact rfl
            · kernel_rfl
            ·
              rintro _ rfl _ rfl _ rfl
              refine R.gY (zg40) ?_
              refine R.cm ?_
              refine R.nl ?_
              exact Run.loc rfl rfl rfl
            apply TC.val [2, 0]
            · exact rfl
            · kernel_rfl
            ·
              rintro _ rfl _ rfl _ rfl
              refine R.gY (zg40) ?_
              refine R.mv ?_
              refine R.nl ?_
              exact Run.loc rfl rfl rfl
            apply TC.val [0]
            · exact rfl
            · kernel_rfl
            ·
              rintro _ rfl _ rfl
              refine R.gF (zg77) ?_
              refine R.nl ?_
              exact Run.loc rfl rfl rfl
            apply TC.val [1]
            · exact rfl
            · kernel_rfl
            ·
              rintro _ rfl _ rfl
              refine R.gF (zg77) ?_
              refine R.nl ?_
              exact Run.loc rfl rfl rfl
            apply TC.val [2, 0]
            · exact rfl
            · kernel_rfl
            ·
              rintro _ rfl _ rfl _ rfl
              refine R.gF (zg77) ?_
              refine R.nl ?_
              exact Run.loc rfl rfl rfl
            apply TC.val [3, 2, 0]
            · exact rfl
            · kernel_rfl
            ·
              rintro _ rfl _ rfl _ rfl _ rfl
              refine R.gF (zg77) ?_
              refine R.nl ?_
              exact Run.loc rfl rfl rfl
            apply TC.val [4, 0]
            · exact rfl
            · kernel_rfl
            ·
              rintro _ rfl _ rfl _ rfl
              refine R.gF (zg77) ?_
              refine R.nl ?_
              exact Run.loc rfl rfl rfl
            apply TC.val [5, 0]
            · exact rfl
            · kernel_rfl
            ·
              rintro _ rfl _ rfl _ rfl
              refine R.gF (zg77) ?_
              refine R.nl ?_
              exact Run.loc rfl rfl rfl
            apply TC.val [6]
            · exact rfl
            · kernel_rfl
            ·
              rintro _ rfl _ rfl
              refine R.gF (zg77) ?_
              refine R.nl ?_
              exact Run.loc rfl rfl rfl
            apply TC.val [7, 0]
            · exact rfl
            · kernel_rfl
            ·
              rintro _ rfl _ rfl _ rfl
              refine R.gF (zg77) ?_
              refine R.nl ?_
              exact Run.loc rfl rfl rfl
            apply TC.val [8, 2, 0]
            · exact rfl
            · kernel_rfl
            ·
              rintro _ rfl _ rfl _ rfl _ rfl
              refine R.gF (zg77) ?_
              refine R.nl ?_
              exact Run.loc rfl rfl rfl
            apply TC.val [12, 9, 0]
            · exact rfl
            · kernel_rfl
            ·
              rintro _ rfl _ rfl _ rfl _ rfl
              refine R.gY (zg40) ?_
              refine R.pF (zg77) ?_
              refine R.nl ?_
              exact Run.loc rfl rfl rfl
            apply TC.val [13, 0]
            · exact rfl
            · kernel_rfl
            ·
              rintro _ rfl _ rfl _ rfl
              refine R.pF (zg40) ?_
              refine R.nl ?_
              exact Run.loc rfl rfl rfl
            apply TC.val [0]
            · exact rfl
            · kernel_rfl
            ·
              rintro _ rfl _ rfl
              refine R.mv ?_
              refine R.nl ?_
              exact Run.loc rfl rfl rfl
            apply TC.val [0]
            · exact rfl
            · kernel_rfl
            ·
              rintro _ rfl _ rfl
              refine R.gY (rfl) ?_
              refine R.fa Try.runUnderlying36 Try.sizeOf23 ?_
              refine R.nl ?_
              exact Run.loc rfl rfl rfl
            apply TC.val [1, 0]
            · exact rfl
            · kernel_rfl
            ·
              rintro _ rfl _ rfl _ rfl
              refine R.gY (rfl) ?_
              refine R.lA 6 Try.isAgg23 Try.sizeOf23 ?_
              refine R.nl ?_
              exact Run.loc rfl rfl rfl
            apply TC.val [2, 0]
            · exact rfl
            · kernel_rfl
            ·
              rintro _ rfl _ rfl _ rfl
              refine R.gY (rfl) ?_
              refine R.cg Try.call45 (refRight_spec x.h) ?_
              refine R.nl ?_
              exact Run.loc rfl rfl rfl
            apply TC.val [3, 0]
            · exact rfl
            · kernel_rfl
            ·
              rintro _ rfl _ rfl _ rfl
              refine R.gY (rfl) ?_
              refine R.nt ?_
              refine R.nl ?_
              exact Run.loc rfl rfl rfl
            apply TC.val [4, 0]
            · exact rfl
            · kernel_rfl
            ·
              rintro _ rfl _ rfl _ rfl
              refine R.pF (rfl) ?_
              refine R.nl ?_
              exact Run.loc rfl rfl rfl
            apply TC.val [0]
            · exact rfl
            · kernel_rfl
            ·
              rintro _ rfl _ rfl
              refine R.mv ?_
              refine R.nl ?_
              exact Run.loc rfl rfl rfl
            apply TC.val [0]
            · exact rfl
            · kernel_rfl
            ·
              rintro _ rfl _ rfl
              refine R.gF (zg189) ?_
              refine R.nl ?_
              exact Run.loc rfl rfl rfl
            apply TC.val [1, 0]
            · exact rfl
            · kernel_rfl
            ·
              rintro _ rfl _ rfl _ rfl
              refine R.gF (zg189) ?_
              refine R.nl ?_
              exact Run.loc rfl rfl rfl
            apply TC.val [2, 0]
            · exact rfl
            · kernel_rfl
            ·
              rintro _ rfl _ rfl _ rfl
              refine R.gF (zg189) ?_
              refine R.nl ?_
              exact Run.loc rfl rfl rfl
            apply TC.val [3]
            · exact rfl
            · kernel_rfl
            ·
              rintro _ rfl _ rfl
              refine R.gF (zg189) ?_
              refine R.nl ?_
              exact Run.loc rfl rfl rfl
            apply TC.val [4, 0]
            · exact rfl
            · kernel_rfl
            ·
              rintro _ rfl _ rfl _ rfl
              refine R.gF (zg189) ?_
              refine R.nl ?_
              exact Run.loc rfl rfl rfl
            refine TC.fin (by rfl) ?_
            rintro _ rfl _ rfl _ rfl _ rfl _ rfl _ rfl _ rfl _ rfl _ rfl _ rfl _ rfl _ rfl _ rfl _ rfl _ rfl _ rfl _ rfl _ rfl _ rfl _ rfl _ rfl _ rfl _ rfl _ rfl _ rfl _ rfl _ rfl _ rfl _ rfl _ rfl _ rfl _ rfl _ rfl _ rfl _ rfl _ rfl
            refine R.gF (zg189) ?_
            refine R.pT (zg189) ?_
            refine R.nl ?_
            refine R.hs (e' := [(0, _), (3, _), (51, _)]) ?_
            refine R.cT (rfl) ?_
            have hok : okVs xs = false := okVs_no hlt (by rw [rAt_eq hgx hgu]; simp only [okV] at *; grind)
            refine R.sq ?_
            refine R.rg ?_
            refine R.as ?_
            refine R.nl ?_
            refine R.hs (e' := [(2, _)]) ?_
            exact R.rt (RV.t .nil) 1 (congrArg Value.bool hok.symm)
          ·
            refine Run.drawC Grow.eq 35 [(0, _), (3, _), (4, _)] mix (by kernel_rfl) (by repeat (first | exact trivial | refine ⟨rfl, ?_⟩)) ?_
            apply TC.val []
            · exact rfl
            · kernel_rfl
            ·
              rintro _ rfl 
              refine R.fa Try.runUnderlying36 Try.sizeOf3 ?_
              refine R.nl ?_
              exact Run.loc rfl rfl rfl
            apply TC.val [0]
            · exact rfl
            · kernel_rfl
            ·
              rintro _ rfl _ rfl
              refine R.ld Try.isAgg3 ?_
              refine R.nl ?_
              exact Run.loc rfl rfl rfl
            apply TC.val [0]
            · exact rfl
            · kernel_rfl
            ·
              rintro _ rfl _ rfl
              refine R.cm ?_
              refine R.nl ?_
              exact Run.loc rfl rfl rfl
            apply TC.val [0]
            · exact rfl
            · kernel_rfl
            ·
              rintro _ rfl _ rfl
              refine R.mv ?_
              refine R.nl ?_
              exact Run.loc rfl rfl rfl
            apply TC.val [0]
            · exact rfl
            · kernel_rfl
            ·
              rintro _ rfl _ rfl
              refine R.gY (zg3) ?_
              refine R.fa Try.runUnderlying36 Try.sizeOf3 ?_
              refine R.nl ?_
              exact Run.loc rfl rfl rfl
            apply TC.val [1, 0]
            · exact rfl
            · kernel_rfl
            ·
              rintro _ rfl _ rfl _ rfl
              refine R.gY (zg3) ?_
              refine R.ld Try.isAgg3 ?_
              refine R.nl ?_
              exact Run.loc rfl rfl rfl
            apply TC.val [2, 0]
            · exact rfl
            · kernel_rfl
            ·
              rintro _ rfl _ rfl _ rfl
              refine R.gY (zg3) ?_
              refine R.cm ?_
              refine R.nl ?_
              exact Run.loc rfl rfl rfl
            apply TC.val [3, 0]
            · exact rfl
            · kernel_rfl
            ·
              rintro _ rfl _ rfl _ rfl
              refine R.pF (zg3) ?_
              refine R.nl ?_
              exact Run.loc rfl rfl rfl
            apply TC.val [0]
            · exact rfl
            · kernel_rfl
            ·
              rintro _ rfl _ rfl
              refine R.mv ?_
              refine R.nl ?_
              exact Run.loc rfl rfl rfl
            apply TC.val [0]
            · exact rfl
            · kernel_rfl
            ·
              rintro _ rfl _ rfl
              refine R.gY (zg40) ?_
              refine R.mv ?_
              refine R.nl ?_
              exact Run.loc rfl rfl rfl
            apply TC.val [1, 0]
            · exact rfl
            · kernel_rfl
            ·
              rintro _ rfl _ rfl _ rfl
              refine R.gY (zg40) ?_
              refine R.cm ?_
              refine R.nl ?_
              exact Run.loc rfl rfl rfl
            apply TC.val [2, 0]
            · exact rfl
            · kernel_rfl
            ·
              rintro _ rfl _ rfl _ rfl
              refine R.gY (zg40) ?_
              refine R.mv ?_
              refine R.nl ?_
              exact Run.loc rfl rfl rfl
            apply TC.val [0]
            · exact rfl
            · kernel_rfl
            ·
              rintro _ rfl _ rfl
              refine R.gF (zg77) ?_
              refine R.nl ?_
              exact Run.loc rfl rfl rfl
            apply TC.val [1]
            · exact rfl
            · kernel_rfl
            ·
              rintro _ rfl _ rfl
              refine R.gF (zg77) ?_
              refine R.nl ?_
              exact Run.loc rfl rfl rfl
            apply TC.val [2, 0]
            · exact rfl
            · kernel_rfl
            ·
              rintro _ rfl _ rfl _ rfl
              refine R.gF (zg77) ?_
              refine R.nl ?_
              exact Run.loc rfl rfl rfl
            apply TC.val [3, 2, 0]
            · exact rfl
            · kernel_rfl
            ·
              rintro _ rfl _ rfl _ rfl _ rfl
              refine R.gF (zg77) ?_
              refine R.nl ?_
              exact Run.loc rfl rfl rfl
            apply TC.val [4, 0]
            · exact rfl
            · kernel_rfl
            ·
              rintro _ rfl _ rfl _ rfl
              refine R.gF (zg77) ?_
              refine R.nl ?_
              exact Run.loc rfl rfl rfl
            apply TC.val [5, 0]
            · exact rfl
            · kernel_rfl
            ·
              rintro _ rfl _ rfl _ rfl
              refine R.gF (zg77) ?_
              refine R.nl ?_
              exact Run.loc rfl rfl rfl
            apply TC.val [6]
            · exact rfl
            · kernel_rfl
            ·
              rintro _ rfl _ rfl
              refine R.gF (zg77) ?_
              refine R.nl ?_
              exact Run.loc rfl rfl rfl
            apply TC.val [7, 0]
            · exact rfl
            · kernel_rfl
            ·
              rintro _ rfl _ rfl _ rfl
              refine R.gF (zg77) ?_
              refine R.nl ?_
              exact Run.loc rfl rfl rfl
            apply TC.val [8, 2, 0]
            · exact rfl
            · kernel_rfl
            ·
              rintro _ rfl _ rfl _ rfl _ rfl
              refine R.gF (zg77) ?_
              refine R.nl ?_
              exact Run.loc rfl rfl rfl
            apply TC.val [12, 9, 0]
            · exact rfl
            · kernel_rfl
            ·
              rintro _ rfl _ rfl _ rfl _ rfl
              refine R.gY (zg40) ?_
              refine R.pF (zg77) ?_
              refine R.nl ?_
              exact Run.loc rfl rfl rfl
            apply TC.val [13, 0]
            · exact rfl
            · kernel_rfl
            ·
              rintro _ rfl _ rfl _ rfl
              refine R.pF (zg40) ?_
              refine R.nl ?_
              exact Run.loc rfl rfl rfl
            apply TC.val [0]
            · exact rfl
            · kernel_rfl
            ·
              rintro _ rfl _ rfl
              refine R.mv ?_
              refine R.nl ?_
              exact Run.loc rfl rfl rfl
            apply TC.val [0]
            · exact rfl
            · kernel_rfl
            ·
              rintro _ rfl _ rfl
              refine R.gY (rfl) ?_
              refine R.fa Try.runUnderlying36 Try.sizeOf23 ?_
              refine R.nl ?_
              exact Run.loc rfl rfl rfl
            apply TC.val [1, 0]
            · exact rfl
            · kernel_rfl
            ·
              rintro _ rfl _ rfl _ rfl
              refine R.gY (rfl) ?_
              refine R.lA 6 Try.isAgg23 Try.sizeOf23 ?_
              refine R.nl ?_
              exact Run.loc rfl rfl rfl
            apply TC.val [2, 0]
            · exact rfl
            · kernel_rfl
            ·
              rintro _ rfl _ rfl _ rfl
              refine R.gY (rfl) ?_
              refine R.cg Try.call45 (refRight_spec x.h) ?_
              refine R.nl ?_
              exact Run.loc rfl rfl rfl
            apply TC.val [3, 0]
            · exact rfl
            · kernel_rfl
            ·
              rintro _ rfl _ rfl _ rfl
              refine R.gY (rfl) ?_
              refine R.nt ?_
              refine R.nl ?_
              exact Run.loc rfl rfl rfl
            apply TC.val [4, 0]
            · exact rfl
            · kernel_rfl
            ·
              rintro _ rfl _ rfl _ rfl
              refine R.pF (rfl) ?_
              refine R.nl ?_
              exact Run.loc rfl rfl rfl
            apply TC.val [0]
            · exact rfl
            · kernel_rfl
            ·
              rintro _ rfl _ rfl
              refine R.mv ?_
              refine R.nl ?_
              exact Run.loc rfl rfl rfl
            apply TC.val [0]
            · exact rfl
            · kernel_rfl
            ·
              rintro _ rfl _ rfl
              refine R.gY (zg189) ?_
              refine R.fa Try.runUnderlying36 Try.sizeOf23 ?_
              refine R.nl ?_
              exact Run.loc rfl rfl rfl
            apply TC.val [1, 0]
            · exact rfl
            · kernel_rfl
            ·
              rintro _ rfl _ rfl _ rfl
              refine R.gY (zg189) ?_
              refine R.fa Try.runUnderlying23 Try.sizeOf3 ?_
              refine R.nl ?_
              exact Run.loc rfl rfl rfl
            apply TC.val [2, 0]
            · exact rfl
            · kernel_rfl
            ·
              rintro _ rfl _ rfl _ rfl
              refine R.gY (zg189) ?_
              refine R.ld Try.isAgg3 ?_
              refine R.nl ?_
              exact Run.loc rfl rfl rfl
            apply TC.val [3]
            · exact rfl
            · kernel_rfl
            ·
              rintro _ rfl _ rfl
              refine R.gY (zg189) ?_
              refine R.fa Try.runUnderlying36 Try.sizeOf3 ?_
              refine R.nl ?_
              exact Run.loc rfl rfl rfl
            apply TC.val [4, 0]
            · exact rfl
            · kernel_rfl
            ·
              rintro _ rfl _ rfl _ rfl
              refine R.gY (zg189) ?_
              refine R.ld Try.isAgg3 ?_
              refine R.nl ?_
              exact Run.loc rfl rfl rfl
            refine TC.fin (by rfl) ?_
            rintro _ rfl _ rfl _ rfl _ rfl _ rfl _ rfl _ rfl _ rfl _ rfl _ rfl _ rfl _ rfl _ rfl _ rfl _ rfl _ rfl _ rfl _ rfl _ rfl _ rfl _ rfl _ rfl _ rfl _ rfl _ rfl _ rfl _ rfl _ rfl _ rfl _ rfl _ rfl _ rfl _ rfl _ rfl _ rfl _ rfl
            refine R.gY (zg189) ?_
            refine R.cm ?_
            refine R.pF (zg189) ?_
            refine R.nl ?_
            refine R.hs (e' := [(0, _), (3, _), (51, _)]) ?_
            refine R.cd (fun zc262 => ?_) (fun zc262 => ?_)
            ·
              have hok : okVs xs = false := okVs_no hlt (by rw [rAt_eq hgx hgu]; simp only [okV] at *; grind)
              refine R.sq ?_
              refine R.rg ?_
              refine R.as ?_
              refine R.nl ?_
              refine R.hs (e' := [(2, _)]) ?_
              exact R.rt (RV.t .nil) 1 (congrArg Value.bool hok.symm)
            ·
              have hr : rAt xs i = true := by rw [rAt_eq hgx hgu]; simp only [okV] at *; grind
              refine Run.skip ?_
              refine Run.endBlock ?_
              refine R.rg ?_
              refine R.mv ?_
              refine R.ad ?_
              refine R.as ?_
              refine R.nl ?_
              refine R.hs (e' := [(0, _), (3, _)]) ?_
              exact Run.again (i + 1) ⟨by omega, fun j hj => by rcases Nat.lt_or_ge j i with h | h; exact hpre j h; rw [show j = i by omega]; exact hr⟩ (by omega) ⟨rfl, by repeat (first | exact trivial | refine ⟨rfl, ?_⟩)⟩ (fun w hs => hs.drop 1)
  ·
    have hok : okVs xs = true := okVs_iff.2 fun j hj => hpre j (by simp at zc1; omega)
    refine Run.exit rfl ?_
    refine R.sq ?_
    refine R.rg ?_
    refine R.as ?_
    refine R.nl ?_
    refine R.hs (e' := [(2, _)]) ?_
    exact R.rt (RV.t .nil) 0 (congrArg Value.bool hok.symm)
theorem vLow_spec {g : Gl} {D : Dict} {M : MList} {a : Value} {xs : List Vw} (ha : Vws D a xs) : Gives Try.prog g 17 [a] D M (.tuple #[.agg (Vw.cells ((lowV xs).getD z0V)).toArray, .bool (lowV xs).isSome]) := by
  have hla := ha.form.choose_spec.choose_spec.2.2
  refine Gives.enter Try.func17 rfl Try.ntmps17 ?_
  refine R.sq ?_
  refine R.rg ?_
  refine R.alA Try.zeroValue36 (fun zb1 hzb1 => ?_)
  refine R.as ?_
  refine R.nl ?_
  refine R.hs (e' := [(0, _), (2, _)]) ?_
  refine R.sq ?_
  refine R.rg ?_
  refine R.bd Try.zeroValue36 places36 ?_
  refine R.alA Try.zeroValue36 (fun zb2 hzb2 => ?_)
  refine R.st Try.sizeOf36 ?_
  refine R.nl ?_
  refine R.hs (e' := [(0, _), (2, _), (4, _)]) ?_
  refine R.sq ?_
  refine R.rg ?_
  refine R.as ?_
  refine R.nl ?_
  refine R.hs (e' := [(0, _), (2, _), (4, _), (5, _)]) ?_
  refine R.sq ?_
  refine R.sq ?_
  refine R.rg ?_
  refine R.mv ?_
  refine R.ll (ha) Try.runUnderlying24 ?_
  refine R.mv ?_
  refine R.nl ?_
  refine R.hs (e' := [(2, _), (4, _), (5, _), (9, _), (10, _), (11, _)]) ?_
  refine Run.block ?_
  refine Run.loop (ι := Nat × Option Vw) [(2, _), (4, _), (9, _), (10, _)] (fun p => [(11, .int .i64 (p.1 : Int)), (5, .bool p.2.isSome)]) (fun _ => D) (fun p => (zb2, .cells (Vw.cells (p.2.getD z0V)).toArray 36 (0, 0)) :: (zb1, .cells (Vw.cells z0V).toArray 36 (0, 0)) :: M) (fun p => p.1 ≤ xs.length ∧ p.2 = (xs.take p.1).foldl lowStep none) (fun p => xs.length - p.1) ((0, none)) (by repeat (first | exact trivial | refine ⟨rfl, ?_⟩)) ?h0 (by repeat (first | exact trivial | refine ⟨rfl, ?_⟩)) (fun w hs => hs) ?_
  case h0 => exact ⟨Nat.zero_le _, rfl⟩
  rintro ⟨i, o⟩ ⟨hi, hpre⟩
  refine R.sq ?_
  refine R.rg ?_
  refine R.cm ?_
  refine R.nl ?_
  refine R.hs (e' := [(2, _), (4, _), (5, _), (9, _), (10, _), (11, _), (12, _)]) ?_
  refine R.sq ?_
  refine R.cd (fun zc3 => ?_) (fun zc3 => ?_)
  ·
    have hlt : i < xs.length := by simp at zc3; omega
    obtain ⟨x, hgx⟩ := get_of_lt hlt
    obtain ⟨b1, o1, hI1, hc1⟩ := ha.at Vw.len hgx
    refine Run.skip ?_
    refine R.sq ?_
    refine Run.block ?_
    refine R.sq ?_
    refine R.rg ?_
    refine R.ix (hI1) Try.runUnderlying24 Try.sizeOf36 ?_
    refine R.lAD 7 Try.isAgg36 Try.sizeOf36 ?_
    refine R.alA Try.zeroValue36 (fun zb4 hzb4 => ?_)
    refine R.st Try.sizeOf36 ?_
    refine R.nl ?_
    refine R.hs (e' := [(2, _), (4, _), (5, _), (7, _), (9, _), (10, _), (11, _)]) ?_
    refine R.sq ?_
    refine R.rg ?_
    refine R.fa Try.runUnderlying36 Try.sizeOf23 ?_
    refine R.lA 6 Try.isAgg23 Try.sizeOf23 ?_
    refine R.cg Try.call55 (vTold_spec ⟨_, _, _, _, _, _⟩) ?_
    refine R.mv ?_
    refine R.gd (fun zg5 => ?_) (fun zg5 => ?_)
    ·
      refine R.mv ?_
      refine R.gY (zg5) ?_
      refine R.nt ?_
      refine R.gY (zg5) ?_
      refine R.mv ?_
      refine R.gd (fun zg6 => ?_) (fun zg6 => ?_)
      ·
        refine R.fa Try.runUnderlying36 Try.sizeOf23 ?_
        refine R.gY (zg6) ?_
        refine R.lA 6 Try.isAgg23 Try.sizeOf23 ?_
        refine R.gY (zg6) ?_
        refine R.fa Try.runUnderlying36 Try.sizeOf23 ?_
        refine R.gY (zg6) ?_
        refine R.lA 6 Try.isAgg23 Try.sizeOf23 ?_
        refine R.gY (zg6) ?_
        refine R.cg Try.call16 (less_spec x.h (o.getD z0V).h) ?_
        refine R.gY (zg5) ?_
        refine R.pF (zg6) ?_
        refine R.pT (zg5) ?_
        refine R.nl ?_
        refine R.hs (e' := [(2, _), (4, _), (5, _), (7, _), (9, _), (10, _), (11, _), (28, _)]) ?_
        refine R.cd (fun zc7 => ?_) (fun zc7 => ?_)
        ·
          refine R.rg ?_
          refine R.lA 7 Try.isAgg36 Try.sizeOf36 ?_
          refine R.st Try.sizeOf36 ?_
          refine R.as ?_
          refine R.nl ?_
          refine R.hs (e' := [(2, _), (4, _), (5, _), (9, _), (10, _), (11, _)]) ?_
          refine Run.endBlock ?_
          refine R.rg ?_
          refine R.ad ?_
          refine R.mv ?_
          refine R.nl ?_
          refine R.hs (e' := [(2, _), (4, _), (5, _), (9, _), (10, _), (11, _)]) ?_
          first | exact Run.again (i + 1, some x) ⟨by simp; omega, fold_step hgx hpre (by clear hpre; cases o <;> simp_all [lowStep]; done)⟩ (by simp; omega) (by repeat (first | exact trivial | refine ⟨rfl, ?_⟩)) (fun w hs => hs.drop 1) | exact Run.again (i + 1, o) ⟨by simp; omega, fold_step hgx hpre (by clear hpre; cases o <;> simp_all [lowStep]; done)⟩ (by simp; omega) (by repeat (first | exact trivial | refine ⟨rfl, ?_⟩)) (fun w hs => hs.drop 1)
        ·
          refine Run.skip ?_
          refine Run.endBlock ?_
          refine R.rg ?_
          refine R.ad ?_
          refine R.mv ?_
          refine R.nl ?_
          refine R.hs (e' := [(2, _), (4, _), (5, _), (9, _), (10, _), (11, _)]) ?_
          first | exact Run.again (i + 1, some x) ⟨by simp; omega, fold_step hgx hpre (by clear hpre; cases o <;> simp_all [lowStep]; done)⟩ (by simp; omega) (by repeat (first | exact trivial | refine ⟨rfl, ?_⟩)) (fun w hs => hs.drop 1) | exact Run.again (i + 1, o) ⟨by simp; omega, fold_step hgx hpre (by clear hpre; cases o <;> simp_all [lowStep]; done)⟩ (by simp; omega) (by repeat (first | exact trivial | refine ⟨rfl, ?_⟩)) (fun w hs => hs.drop 1)
      ·
        refine R.gF (zg6) ?_
        refine R.gF (zg6) ?_
        refine R.gF (zg6) ?_
        refine R.gF (zg6) ?_
        refine R.gY (zg5) ?_
        refine R.pT (zg6) ?_
        refine R.pT (zg5) ?_
        refine R.nl ?_
        refine R.hs (e' := [(2, _), (4, _), (5, _), (7, _), (9, _), (10, _), (11, _), (28, _)]) ?_
        refine R.cT (rfl) ?_
        refine R.rg ?_
        refine R.lA 7 Try.isAgg36 Try.sizeOf36 ?_
        refine R.st Try.sizeOf36 ?_
        refine R.as ?_
        refine R.nl ?_
        refine R.hs (e' := [(2, _), (4, _), (5, _), (9, _), (10, _), (11, _)]) ?_
        refine Run.endBlock ?_
        refine R.rg ?_
        refine R.ad ?_
        refine R.mv ?_
        refine R.nl ?_
        refine R.hs (e' := [(2, _), (4, _), (5, _), (9, _), (10, _), (11, _)]) ?_
        first | exact Run.again (i + 1, some x) ⟨by simp; omega, fold_step hgx hpre (by clear hpre; cases o <;> simp_all [lowStep]; done)⟩ (by simp; omega) (by repeat (first | exact trivial | refine ⟨rfl, ?_⟩)) (fun w hs => hs.drop 1) | exact Run.again (i + 1, o) ⟨by simp; omega, fold_step hgx hpre (by clear hpre; cases o <;> simp_all [lowStep]; done)⟩ (by simp; omega) (by repeat (first | exact trivial | refine ⟨rfl, ?_⟩)) (fun w hs => hs.drop 1)
    ·
      refine R.gF (zg5) ?_
      refine R.gF (zg5) ?_
      refine R.gU ?_
      refine R.gU ?_
      refine R.gU ?_
      refine R.gU ?_
      refine R.gU ?_
      refine R.gF (zg5) ?_
      refine R.pF (zg5) ?_
      refine R.nl ?_
      refine R.hs (e' := [(2, _), (4, _), (5, _), (7, _), (9, _), (10, _), (11, _), (28, _)]) ?_
      refine R.cF (rfl) ?_
      refine Run.skip ?_
      refine Run.endBlock ?_
      refine R.rg ?_
      refine R.ad ?_
      refine R.mv ?_
      refine R.nl ?_
      refine R.hs (e' := [(2, _), (4, _), (5, _), (9, _), (10, _), (11, _)]) ?_
      first | exact Run.again (i + 1, some x) ⟨by simp; omega, fold_step hgx hpre (by clear hpre; cases o <;> simp_all [lowStep]; done)⟩ (by simp; omega) (by repeat (first | exact trivial | refine ⟨rfl, ?_⟩)) (fun w hs => hs.drop 1) | exact Run.again (i + 1, o) ⟨by simp; omega, fold_step hgx hpre (by clear hpre; cases o <;> simp_all [lowStep]; done)⟩ (by simp; omega) (by repeat (first | exact trivial | refine ⟨rfl, ?_⟩)) (fun w hs => hs.drop 1)
  ·
    have hz : lowV xs = o := by simp at zc3 hpre hi; rw [hpre, List.take_of_length_le (by omega)]; rfl
    refine Run.exit rfl ?_
    refine R.sq ?_
    refine R.rg ?_
    refine R.lA 7 Try.isAgg36 Try.sizeOf36 ?_
    refine R.mv ?_
    refine R.st Try.sizeOf36 ?_
    refine R.as ?_
    refine R.nl ?_
    refine R.hs (e' := [(2, _), (3, _)]) ?_
    refine R.rt (RV.a Try.isAgg36 Try.sizeOf36 (RV.t .nil)) 2 ?_
    rw [hz]
theorem refLow_spec {g : Gl} {D : Dict} {M : MList} {a : Value} {xs : List Vw} (ha : Vws D a xs) : Gives Try.prog g 29 [a] D M (.tuple #[.agg (Vw.cells ((lowV xs).getD z0V)).toArray, .bool (lowV xs).isSome]) := by
  have hla := ha.form.choose_spec.choose_spec.2.2
  refine Gives.enter Try.func29 rfl Try.ntmps29 ?_
  refine R.sq ?_
  refine R.rg ?_
  refine R.alA Try.zeroValue36 (fun zb1 hzb1 => ?_)
  refine R.as ?_
  refine R.nl ?_
  refine R.hs (e' := [(0, _), (2, _)]) ?_
  refine R.sq ?_
  refine R.rg ?_
  refine R.bd Try.zeroValue36 places36 ?_
  refine R.alA Try.zeroValue36 (fun zb2 hzb2 => ?_)
  refine R.st Try.sizeOf36 ?_
  refine R.nl ?_
  refine R.hs (e' := [(0, _), (2, _), (4, _)]) ?_
  refine R.sq ?_
  refine R.rg ?_
  refine R.as ?_
  refine R.nl ?_
  refine R.hs (e' := [(0, _), (2, _), (4, _), (5, _)]) ?_
  refine R.sq ?_
  refine R.sq ?_
  refine R.rg ?_
  refine R.as ?_
  refine R.nl ?_
  refine R.hs (e' := [(0, _), (2, _), (4, _), (5, _), (6, _)]) ?_
  refine Run.block ?_
  refine Run.loop (ι := Nat × Option Vw) [(0, _), (2, _), (4, _)] (fun p => [(6, .int .i64 (p.1 : Int)), (5, .bool p.2.isSome)]) (fun _ => D) (fun p => (zb2, .cells (Vw.cells (p.2.getD z0V)).toArray 36 (0, 0)) :: (zb1, .cells (Vw.cells z0V).toArray 36 (0, 0)) :: M) (fun p => p.1 ≤ xs.length ∧ p.2 = (xs.take p.1).foldl lowStep none) (fun p => xs.length - p.1) ((0, none)) (by repeat (first | exact trivial | refine ⟨rfl, ?_⟩)) ?h0 (by repeat (first | exact trivial | refine ⟨rfl, ?_⟩)) (fun w hs => hs) ?_
  case h0 => exact ⟨Nat.zero_le _, rfl⟩
  rintro ⟨i, o⟩ ⟨hi, hpre⟩
  refine R.sq ?_
  refine R.sq ?_
  refine R.rg ?_
  refine R.mv ?_
  refine R.mv ?_
  refine R.ll (ha) Try.runUnderlying24 ?_
  refine R.cm ?_
  refine R.nl ?_
  refine R.hs (e' := [(0, _), (2, _), (4, _), (5, _), (6, _), (11, _)]) ?_
  refine R.cd (fun zc3 => ?_) (fun zc3 => ?_)
  ·
    have hlt : i < xs.length := by simp at zc3; omega
    obtain ⟨x, hgx⟩ := get_of_lt hlt
    obtain ⟨b1, o1, hI1, hc1⟩ := ha.at Vw.len hgx
    refine Run.skip ?_
    refine R.sq ?_
    refine Run.block ?_
    refine R.sq ?_
    rcases Bool.eq_false_or_eq_true (toldH x.h) with zg4 | zg4
    ·
      rcases Bool.eq_false_or_eq_true (!o.isSome) with zg5 | zg5
      ·
        refine Run.drawC Grow.eq 17 [(0, _), (2, _), (4, _), (5, _), (6, _)] mix (by kernel_rfl) (by repeat (first | exact trivial | refine ⟨rfl, ?_⟩)) ?_
        apply TC.val []
        · exact rfl
        · kernel_rfl
        ·
          rintro _ rfl 
          refine R.mv ?_
          refine R.nl ?_
          exact Run.loc rfl rfl rfl
        apply TC.val []
        · exact rfl
        · kernel_rfl
        ·
          rintro _ rfl 
          refine R.mv ?_
          refine R.nl ?_
          exact Run.loc rfl rfl rfl
        apply TC.val [1, 0]
        · exact rfl
        · kernel_rfl
        ·
          rintro _ rfl _ rfl _ rfl
          refine R.ix (hI1) Try.runUnderlying24 Try.sizeOf36 ?_
          refine R.nl ?_
          exact Run.loc rfl rfl rfl
        apply TC.val [0]
        · exact rfl
        · kernel_rfl
        ·
          rintro _ rfl _ rfl
          refine R.fa Try.runUnderlying36 Try.sizeOf23 ?_
          refine R.nl ?_
          exact Run.loc rfl rfl rfl
        apply TC.val [0]
        · exact rfl
        · kernel_rfl
        ·
          rintro _ rfl _ rfl
          refine R.lAD 6 Try.isAgg23 Try.sizeOf23 ?_
          refine R.nl ?_
          exact Run.loc rfl rfl rfl
        apply TC.val [0]
        · exact rfl
        · kernel_rfl
        ·
          rintro _ rfl _ rfl
          refine R.cg Try.call50 (refTold_spec x.h) ?_
          refine R.nl ?_
          exact Run.loc rfl rfl rfl
        apply TC.val [0]
        · exact rfl
        · kernel_rfl
        ·
          rintro _ rfl _ rfl
          refine R.mv ?_
          refine R.nl ?_
          exact Run.loc rfl rfl rfl
        apply TC.val [0]
        · exact rfl
        · kernel_rfl
        ·
          rintro _ rfl _ rfl
          refine R.gY (zg4) ?_
          refine R.mv ?_
          refine R.nl ?_
          exact Run.loc rfl rfl rfl
        apply TC.val [1, 0]
        · exact rfl
        · kernel_rfl
        ·
          rintro _ rfl _ rfl _ rfl
          refine R.gY (zg4) ?_
          refine R.nt ?_
          refine R.nl ?_
          exact Run.loc rfl rfl rfl
        apply TC.val [2, 0]
        · exact rfl
        · kernel_rfl
        ·
          rintro _ rfl _ rfl _ rfl
          refine R.gY (zg4) ?_
          refine R.mv ?_
          refine R.nl ?_
          exact Run.loc rfl rfl rfl
        apply TC.val [0]
        · exact rfl
        · kernel_rfl
        ·
          rintro _ rfl _ rfl
          refine R.gF (zg5) ?_
          refine R.nl ?_
          exact Run.loc rfl rfl rfl
        apply TC.val [1]
        · exact rfl
        · kernel_rfl
        ·
          rintro _ rfl _ rfl
          refine R.gF (zg5) ?_
          refine R.nl ?_
          exact Run.loc rfl rfl rfl
        apply TC.val [2, 1, 0]
        · exact rfl
        · kernel_rfl
        ·
          rintro _ rfl _ rfl _ rfl _ rfl
          refine R.gF (zg5) ?_
          refine R.nl ?_
          exact Run.loc rfl rfl rfl
        apply TC.val [3, 0]
        · exact rfl
        · kernel_rfl
        ·
          rintro _ rfl _ rfl _ rfl
          refine R.gF (zg5) ?_
          refine R.nl ?_
          exact Run.loc rfl rfl rfl
        apply TC.val [4, 0]
        · exact rfl
        · kernel_rfl
        ·
          rintro _ rfl _ rfl _ rfl
          refine R.gF (zg5) ?_
          refine R.nl ?_
          exact Run.loc rfl rfl rfl
        apply TC.val [5]
        · exact rfl
        · kernel_rfl
        ·
          rintro _ rfl _ rfl
          refine R.gF (zg5) ?_
          refine R.nl ?_
          exact Run.loc rfl rfl rfl
        apply TC.val [6, 0]
        · exact rfl
        · kernel_rfl
        ·
          rintro _ rfl _ rfl _ rfl
          refine R.gF (zg5) ?_
          refine R.nl ?_
          exact Run.loc rfl rfl rfl
        refine TC.fin (by rfl) ?_
        rintro _ rfl _ rfl _ rfl _ rfl _ rfl _ rfl _ rfl _ rfl _ rfl _ rfl _ rfl _ rfl _ rfl _ rfl _ rfl _ rfl _ rfl _ rfl
        refine R.gF (zg5) ?_
        refine R.gY (zg4) ?_
        refine R.pT (zg5) ?_
        refine R.pT (zg4) ?_
        refine R.nl ?_
        refine R.hs (e' := [(0, _), (2, _), (4, _), (5, _), (6, _), (33, _)]) ?_
        refine R.cT (rfl) ?_
        refine R.sq ?_
        refine R.rg ?_
        refine R.mv ?_
        refine R.mv ?_
        refine R.ix (hI1) Try.runUnderlying24 Try.sizeOf36 ?_
        refine R.lAD 7 Try.isAgg36 Try.sizeOf36 ?_
        refine R.st Try.sizeOf36 ?_
        refine R.nl ?_
        refine R.hs (e' := [(0, _), (2, _), (4, _), (6, _)]) ?_
        refine R.rg ?_
        refine R.as ?_
        refine R.nl ?_
        refine R.hs (e' := [(0, _), (2, _), (4, _), (5, _), (6, _)]) ?_
        refine Run.endBlock ?_
        refine R.rg ?_
        refine R.mv ?_
        refine R.ad ?_
        refine R.as ?_
        refine R.nl ?_
        refine R.hs (e' := [(0, _), (2, _), (4, _), (5, _), (6, _)]) ?_
        first | exact Run.again (i + 1, some x) ⟨by simp; omega, fold_step hgx hpre (by clear hpre; cases o <;> simp_all [lowStep]; done)⟩ (by simp; omega) (by repeat (first | exact trivial | refine ⟨rfl, ?_⟩)) (fun w hs => hs) | exact Run.again (i + 1, o) ⟨by simp; omega, fold_step hgx hpre (by clear hpre; cases o <;> simp_all [lowStep]; done)⟩ (by simp; omega) (by repeat (first | exact trivial | refine ⟨rfl, ?_⟩)) (fun w hs => hs)
      ·
        refine Run.drawC Grow.eq 17 [(0, _), (2, _), (4, _), (5, _), (6, _)] mix (by kernel_rfl) (by repeat (first | exact trivial | refine ⟨rfl, ?_⟩)) ?_
        apply TC.val []
        · exact rfl
        · kernel_rfl
        ·
          rintro _ rfl 
          refine R.mv ?_
          refine R.nl ?_
          exact Run.loc rfl rfl rfl
        apply TC.val []
        · exact rfl
        · kernel_rfl
        ·
          rintro _ rfl 
          refine R.mv ?_
          refine R.nl ?_
          exact Run.loc rfl rfl rfl
        apply TC.val [1, 0]
        · exact rfl
        · kernel_rfl
        ·
          rintro _ rfl _ rfl _ rfl
          refine R.ix (hI1) Try.runUnderlying24 Try.sizeOf36 ?_
          refine R.nl ?_
          exact Run.loc rfl rfl rfl
        apply TC.val [0]
        · exact rfl
        · kernel_rfl
        ·
          rintro _ rfl _ rfl
          refine R.fa Try.runUnderlying36 Try.sizeOf23 ?_
          refine R.nl ?_
          exact Run.loc rfl rfl rfl
        apply TC.val [0]
        · exact rfl
        · kernel_rfl
        ·
          rintro _ rfl _ rfl
          refine R.lAD 6 Try.isAgg23 Try.sizeOf23 ?_
          refine R.nl ?_
          exact Run.loc rfl rfl rfl
        apply TC.val [0]
        · exact rfl
        · kernel_rfl
        ·
          rintro _ rfl _ rfl
          refine R.cg Try.call50 (refTold_spec x.h) ?_
          refine R.nl ?_
          exact Run.loc rfl rfl rfl
        apply TC.val [0]
        · exact rfl
        · kernel_rfl
        ·
          rintro _ rfl _ rfl
          refine R.mv ?_
          refine R.nl ?_
          exact Run.loc rfl rfl rfl
        apply TC.val [0]
        · exact rfl
        · kernel_rfl
        ·
          rintro _ rfl _ rfl
          refine R.gY (zg4) ?_
          refine R.mv ?_
          refine R.nl ?_
          exact Run.loc rfl rfl rfl
        apply TC.val [1, 0]
        · exact rfl
        · kernel_rfl
        ·
          rintro _ rfl _ rfl _ rfl
          refine R.gY (zg4) ?_
          refine R.nt ?_
          refine R.nl ?_
          exact Run.loc rfl rfl rfl
        apply TC.val [2, 0]
        · exact rfl
        · kernel_rfl
        ·
          rintro _ rfl _ rfl _ rfl
          refine R.gY (zg4) ?_
          refine R.mv ?_
          refine R.nl ?_
          exact Run.loc rfl rfl rfl
        apply TC.val [0]
        · exact rfl
        · kernel_rfl
        ·
          rintro _ rfl _ rfl
          refine R.gY (zg5) ?_
          refine R.mv ?_
          refine R.nl ?_
          exact Run.loc rfl rfl rfl
        apply TC.val [1]
        · exact rfl
        · kernel_rfl
        ·
          rintro _ rfl _ rfl
          refine R.gY (zg5) ?_
          refine R.mv ?_
          refine R.nl ?_
          exact Run.loc rfl rfl rfl
        apply TC.val [2, 1, 0]
        · exact rfl
        · kernel_rfl
        ·
          rintro _ rfl _ rfl _ rfl _ rfl
          refine R.gY (zg5) ?_
          refine R.ix (hI1) Try.runUnderlying24 Try.sizeOf36 ?_
          refine R.nl ?_
          exact Run.loc rfl rfl rfl
        apply TC.val [3, 0]
        · exact rfl
        · kernel_rfl
        ·
          rintro _ rfl _ rfl _ rfl
          refine R.gY (zg5) ?_
          refine R.fa Try.runUnderlying36 Try.sizeOf23 ?_
          refine R.nl ?_
          exact Run.loc rfl rfl rfl
        apply TC.val [4, 0]
        · exact rfl
        · kernel_rfl
        ·
          rintro _ rfl _ rfl _ rfl
          refine R.gY (zg5) ?_
          refine R.lAD 6 Try.isAgg23 Try.sizeOf23 ?_
          refine R.nl ?_
          exact Run.loc rfl rfl rfl
        apply TC.val [5]
        · exact rfl
        · kernel_rfl
        ·
          rintro _ rfl _ rfl
          refine R.gY (zg5) ?_
          refine R.fa Try.runUnderlying36 Try.sizeOf23 ?_
          refine R.nl ?_
          exact Run.loc rfl rfl rfl
        apply TC.val [6, 0]
        · exact rfl
        · kernel_rfl
        ·
          rintro _ rfl _ rfl _ rfl
          refine R.gY (zg5) ?_
          refine R.lA 6 Try.isAgg23 Try.sizeOf23 ?_
          refine R.nl ?_
          exact Run.loc rfl rfl rfl
        refine TC.fin (by rfl) ?_
        rintro _ rfl _ rfl _ rfl _ rfl _ rfl _ rfl _ rfl _ rfl _ rfl _ rfl _ rfl _ rfl _ rfl _ rfl _ rfl _ rfl _ rfl _ rfl
        refine R.gY (zg5) ?_
        refine R.cg Try.call61 (refLess_spec x.h (o.getD z0V).h) ?_
        refine R.gY (zg4) ?_
        refine R.pF (zg5) ?_
        refine R.pT (zg4) ?_
        refine R.nl ?_
        refine R.hs (e' := [(0, _), (2, _), (4, _), (5, _), (6, _), (33, _)]) ?_
        refine R.cd (fun zc42 => ?_) (fun zc42 => ?_)
        ·
          refine R.sq ?_
          refine R.rg ?_
          refine R.mv ?_
          refine R.mv ?_
          refine R.ix (hI1) Try.runUnderlying24 Try.sizeOf36 ?_
          refine R.lAD 7 Try.isAgg36 Try.sizeOf36 ?_
          refine R.st Try.sizeOf36 ?_
          refine R.nl ?_
          refine R.hs (e' := [(0, _), (2, _), (4, _), (6, _)]) ?_
          refine R.rg ?_
          refine R.as ?_
          refine R.nl ?_
          refine R.hs (e' := [(0, _), (2, _), (4, _), (5, _), (6, _)]) ?_
          refine Run.endBlock ?_
          refine R.rg ?_
          refine R.mv ?_
          refine R.ad ?_
          refine R.as ?_
          refine R.nl ?_
          refine R.hs (e' := [(0, _), (2, _), (4, _), (5, _), (6, _)]) ?_
          first | exact Run.again (i + 1, some x) ⟨by simp; omega, fold_step hgx hpre (by clear hpre; cases o <;> simp_all [lowStep]; done)⟩ (by simp; omega) (by repeat (first | exact trivial | refine ⟨rfl, ?_⟩)) (fun w hs => hs) | exact Run.again (i + 1, o) ⟨by simp; omega, fold_step hgx hpre (by clear hpre; cases o <;> simp_all [lowStep]; done)⟩ (by simp; omega) (by repeat (first | exact trivial | refine ⟨rfl, ?_⟩)) (fun w hs => hs)
        ·
          refine Run.skip ?_
          refine Run.endBlock ?_
          refine R.rg ?_
          refine R.mv ?_
          refine R.ad ?_
          refine R.as ?_
          refine R.nl ?_
          refine R.hs (e' := [(0, _), (2, _), (4, _), (5, _), (6, _)]) ?_
          first | exact Run.again (i + 1, some x) ⟨by simp; omega, fold_step hgx hpre (by clear hpre; cases o <;> simp_all [lowStep]; done)⟩ (by simp; omega) (by repeat (first | exact trivial | refine ⟨rfl, ?_⟩)) (fun w hs => hs) | exact Run.again (i + 1, o) ⟨by simp; omega, fold_step hgx hpre (by clear hpre; cases o <;> simp_all [lowStep]; done)⟩ (by simp; omega) (by repeat (first | exact trivial | refine ⟨rfl, ?_⟩)) (fun w hs => hs)
    ·
      refine Run.drawC Grow.eq 17 [(0, _), (2, _), (4, _), (5, _), (6, _)] mix (by kernel_rfl) (by repeat (first | exact trivial | refine ⟨rfl, ?_⟩)) ?_
      apply TC.val []
      · exact rfl
      · kernel_rfl
      ·
        rintro _ rfl 
        refine R.mv ?_
        refine R.nl ?_
        exact Run.loc rfl rfl rfl
      apply TC.val []
      · exact rfl
      · kernel_rfl
      ·
        rintro _ rfl 
        refine R.mv ?_
        refine R.nl ?_
        exact Run.loc rfl rfl rfl
      apply TC.val [1, 0]
      · exact rfl
      · kernel_rfl
      ·
        rintro _ rfl _ rfl _ rfl
        refine R.ix (hI1) Try.runUnderlying24 Try.sizeOf36 ?_
        refine R.nl ?_
        exact Run.loc rfl rfl rfl
      apply TC.val [0]
      · exact rfl
      · kernel_rfl
      ·
        rintro _ rfl _ rfl
        refine R.fa Try.runUnderlying36 Try.sizeOf23 ?_
        refine R.nl ?_
        exact Run.loc rfl rfl rfl
      apply TC.val [0]
      · exact rfl
      · kernel_rfl
      ·
        rintro _ rfl _ rfl
        refine R.lAD 6 Try.isAgg23 Try.sizeOf23 ?_
        refine R.nl ?_
        exact Run.loc rfl rfl rfl
      apply TC.val [0]
      · exact rfl
      · kernel_rfl
      ·
        rintro _ rfl _ rfl
        refine R.cg Try.call50 (refTold_spec x.h) ?_
        refine R.nl ?_
        exact Run.loc rfl rfl rfl
      apply TC.val [0]
      · exact rfl
      · kernel_rfl
      ·
        rintro _ rfl _ rfl
        refine R.mv ?_
        refine R.nl ?_
        exact Run.loc rfl rfl rfl
      apply TC.val [0]
      · exact rfl
      · kernel_rfl
      ·
        rintro _ rfl _ rfl
        refine R.gF (zg4) ?_
        refine R.nl ?_
        exact Run.loc rfl rfl rfl
      apply TC.val [1, 0]
      · exact rfl
      · kernel_rfl
      ·
        rintro _ rfl _ rfl _ rfl
        refine R.gF (zg4) ?_
        refine R.nl ?_
        exact Run.loc rfl rfl rfl
      apply TC.val [2, 0]
      · exact rfl
      · kernel_rfl
      ·
        rintro _ rfl _ rfl _ rfl
        refine R.gF (zg4) ?_
        refine R.nl ?_
        exact Run.loc rfl rfl rfl
      apply TC.val [0]
      · exact rfl
      · kernel_rfl
      ·
        rintro _ rfl _ rfl
        refine R.gU ?_
        refine R.nl ?_
        exact Run.loc rfl rfl rfl
      apply TC.val [1]
      · exact rfl
      · kernel_rfl
      ·
        rintro _ rfl _ rfl
        refine R.gU ?_
        refine R.nl ?_
        exact Run.loc rfl rfl rfl
      apply TC.val [2, 1, 0]
      · exact rfl
      · kernel_rfl
      ·
        rintro _ rfl _ rfl _ rfl _ rfl
        refine R.gU ?_
        refine R.nl ?_
        exact Run.loc rfl rfl rfl
      apply TC.val [3, 0]
      · exact rfl
      · kernel_rfl
      ·
        rintro _ rfl _ rfl _ rfl
        refine R.gU ?_
        refine R.nl ?_
        exact Run.loc rfl rfl rfl
      apply TC.val [4, 0]
      · exact rfl
      · kernel_rfl
      ·
        rintro _ rfl _ rfl _ rfl
        refine R.gU ?_
        refine R.nl ?_
        exact Run.loc rfl rfl rfl
      apply TC.val [5]
      · exact rfl
      · kernel_rfl
      ·
        rintro _ rfl _ rfl
        refine R.gU ?_
        refine R.nl ?_
        exact Run.loc rfl rfl rfl
      apply TC.val [6, 0]
      · exact rfl
      · kernel_rfl
      ·
        rintro _ rfl _ rfl _ rfl
        refine R.gU ?_
        refine R.nl ?_
        exact Run.loc rfl rfl rfl
      refine TC.fin (by rfl) ?_
      rintro _ rfl _ rfl _ rfl _ rfl _ rfl _ rfl _ rfl _ rfl _ rfl _ rfl _ rfl _ rfl _ rfl _ rfl _ rfl _ rfl _ rfl _ rfl
      refine R.gU ?_
      refine R.gF (zg4) ?_
      refine R.pF (zg4) ?_
      refine R.nl ?_
      refine R.hs (e' := [(0, _), (2, _), (4, _), (5, _), (6, _), (33, _)]) ?_
      refine R.cF (rfl) ?_
      refine Run.skip ?_
      refine Run.endBlock ?_
      refine R.rg ?_
      refine R.mv ?_
      refine R.ad ?_
      refine R.as ?_
      refine R.nl ?_
      refine R.hs (e' := [(0, _), (2, _), (4, _), (5, _), (6, _)]) ?_
      first | exact Run.again (i + 1, some x) ⟨by simp; omega, fold_step hgx hpre (by clear hpre; cases o <;> simp_all [lowStep]; done)⟩ (by simp; omega) (by repeat (first | exact trivial | refine ⟨rfl, ?_⟩)) (fun w hs => hs) | exact Run.again (i + 1, o) ⟨by simp; omega, fold_step hgx hpre (by clear hpre; cases o <;> simp_all [lowStep]; done)⟩ (by simp; omega) (by repeat (first | exact trivial | refine ⟨rfl, ?_⟩)) (fun w hs => hs)
  ·
    have hz : lowV xs = o := by simp at zc3 hpre hi; rw [hpre, List.take_of_length_le (by omega)]; rfl
    refine Run.exit rfl ?_
    refine R.sq ?_
    refine R.rg ?_
    refine R.lA 7 Try.isAgg36 Try.sizeOf36 ?_
    refine R.mv ?_
    refine R.st Try.sizeOf36 ?_
    refine R.as ?_
    refine R.nl ?_
    refine R.hs (e' := [(2, _), (3, _)]) ?_
    refine R.rt (RV.a Try.isAgg36 Try.sizeOf36 (RV.t .nil)) 2 ?_
    rw [hz]
end Go.Proofs.Ytgdpjpmjcpieiaa
