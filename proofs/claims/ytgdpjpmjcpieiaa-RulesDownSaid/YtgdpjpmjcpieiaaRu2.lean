/- Heights rise: the law's own text tells true. No condition. -/
import Derived.Test.YtgdpjpmjcpieiaaRu1
import Derived.Test.YtgdpjpmjcpieiaaRuP
namespace Go.Proofs.Ytgdpjpmjcpieiaa
open Go
set_option linter.unusedVariables false
set_option linter.unusedSimpArgs false
set_option maxRecDepth 100000
set_option maxHeartbeats 0
theorem lateV_no {now : Int} {own : Ht} {xs : List Vw} {i : Nat} {x : Vw} (h : xs[i]? = some x) (hx : ¬ x.h.tau < now) : lateV now own xs = false := by
  cases hq : lateV now own xs with
  | false => rfl
  | true =>
    simp only [lateV, Bool.and_eq_true, List.all_eq_true, decide_eq_true_eq] at hq
    exact absurd (hq.1 x (List.mem_of_getElem? h)) hx
theorem lateV_yes {now : Int} {own : Ht} {xs : List Vw} (h : ∀ j x, j < xs.length → xs[j]? = some x → x.h.tau < now) : lateV now own xs = decide (own.tau < now) := by
  have : xs.all (fun x => decide (x.h.tau < now)) = true := by
    simp only [List.all_eq_true, decide_eq_true_eq]
    intro x hx
    obtain ⟨i, hi⟩ := List.getElem?_of_mem hx
    refine h i x ?_ hi
    rcases Nat.lt_or_ge i xs.length with h | h
    · exact h
    · rw [List.getElem?_eq_none h] at hi; cases hi
  simp [lateV, this]
theorem late_spec {g : Gl} {D : Dict} {M : MList} {a : Value} {xs : List Vw} (own : Ht) (now : Int) (ha : Vws D a xs) :
    Gives Try.prog g 15 [.int .i64 now, .agg (Ht.cells own).toArray, a] D M (.bool (lateV now own xs)) := by
  have hla := ha.form.choose_spec.choose_spec.2.2
  refine Gives.enter Try.func15 rfl Try.ntmps15 ?_
  refine R.sq ?_
  refine R.rg ?_
  refine R.bxA (fun b4 hb4 => ?_)
  refine R.as ?_
  refine R.nl ?_
  refine R.hs (e' := [(0, _), (2, _), (4, _)]) ?_
  refine R.sq ?_
  refine R.sq ?_
  refine R.rg ?_
  refine R.as ?_
  refine R.nl ?_
  refine R.hs (e' := [(0, _), (2, _), (4, _), (7, _)]) ?_
  refine Run.block ?_
  refine Run.loop (ι := Nat) [(0, _), (2, _), (4, _)] (fun i => [(7, .int .i64 (i : Int))]) (fun _ => D) (fun _ => (b4, .cells (Ht.cells own).toArray 23 (0, 0)) :: M) (fun i => i ≤ xs.length ∧ ∀ j x, j < i → xs[j]? = some x → x.h.tau < now) (fun i => xs.length - i) (0) (by repeat (first | exact trivial | refine ⟨rfl, ?_⟩)) ?h0 (by repeat (first | exact trivial | refine ⟨rfl, ?_⟩)) (fun w hs => hs) ?_
  case h0 => exact ⟨Nat.zero_le _, fun j x hj => by omega⟩
  rintro i ⟨hi, hpre⟩
  refine R.sq ?_
  refine R.sq ?_
  refine R.rg ?_
  refine R.mv ?_
  refine R.mv ?_
  refine R.ll (ha) Try.runUnderlying24 ?_
  refine R.cm ?_
  refine R.nl ?_
  refine R.hs (e' := [(0, _), (2, _), (4, _), (7, _), (11, _)]) ?_
  refine R.cd (fun zc2 => ?_) (fun zc2 => ?_)
  ·
    have hlt : i < xs.length := by simp at zc2; omega
    obtain ⟨x, hgx⟩ := get_of_lt hlt
    obtain ⟨b1, o1, hI1, hc1⟩ := ha.at Vw.len hgx
    refine Run.skip ?_
    refine R.sq ?_
    refine Run.block ?_
    refine R.sq ?_
    refine R.rg ?_
    refine R.mv ?_
    refine R.mv ?_
    refine R.ix (hI1) Try.runUnderlying24 Try.sizeOf36 ?_
    refine R.fa Try.runUnderlying36 Try.sizeOf23 ?_
    refine R.fa Try.runUnderlying23 Try.sizeOf3 ?_
    refine R.ldD Try.isAgg3 ?_
    refine R.mv ?_
    refine R.cm ?_
    refine R.nl ?_
    refine R.hs (e' := [(0, _), (2, _), (4, _), (7, _), (21, _)]) ?_
    refine R.cd (fun zc3 => ?_) (fun zc3 => ?_)
    ·
      have hz : lateV now own xs = false := lateV_no hgx (by simpa using zc3)
      refine R.sq ?_
      refine R.rg ?_
      refine R.as ?_
      refine R.nl ?_
      refine R.hs (e' := [(6, _)]) ?_
      exact R.rt (RV.t .nil) 1 (congrArg Value.bool hz.symm)
    ·
      have hr : x.h.tau < now := by simpa using zc3
      refine Run.skip ?_
      refine Run.endBlock ?_
      refine R.rg ?_
      refine R.mv ?_
      refine R.ad ?_
      refine R.as ?_
      refine R.nl ?_
      refine R.hs (e' := [(0, _), (2, _), (4, _), (7, _)]) ?_
      exact Run.again (i + 1) ⟨by omega, fun j y hj hy => by rcases Nat.lt_or_ge j i with h | h; exact hpre j y h hy; rw [show j = i by omega, hgx] at hy; injection hy with hy; rw [← hy]; exact hr⟩ (by omega) ⟨rfl, by repeat (first | exact trivial | refine ⟨rfl, ?_⟩)⟩ (fun w hs => hs)
  ·
    have hz : lateV now own xs = decide (own.tau < now) := lateV_yes fun j x hj => hpre j x (by simp at zc2; omega)
    refine Run.exit rfl ?_
    refine R.sq ?_
    refine R.rg ?_
    refine R.fa Try.runUnderlying23 Try.sizeOf3 ?_
    refine R.ld Try.isAgg3 ?_
    refine R.mv ?_
    refine R.cm ?_
    refine R.as ?_
    refine R.nl ?_
    refine R.hs (e' := [(6, _)]) ?_
    exact R.rt (RV.t .nil) 1 (congrArg Value.bool hz.symm)
theorem rulesRise_spec {g : Gl} {D : Dict} {M : MList} {a : Value} {xs : List Vw} (own : Ht) (now : Int) (lost : Bool) (me : Int) (ha : Vws D a xs) :
    Gives Try.prog g 4 [.agg (Ht.cells own).toArray, a, .int .i64 now, .bool lost, .int .i64 me] D M (.bool true) := by
  have hla := ha.form.choose_spec.choose_spec.2.2
  have hdl := lowV_delta xs
  refine Gives.enter Try.func4 rfl Try.ntmps4 ?_
  refine R.sq ?_
  refine R.rg ?_
  refine R.bxA (fun b5 hb5 => ?_)
  refine R.as ?_
  refine R.nl ?_
  refine R.hs (e' := [(1, _), (2, _), (3, _), (4, _), (5, _)]) ?_
  refine R.sq ?_
  refine R.sq ?_
  refine R.rg ?_
  refine R.mv ?_
  refine R.ll (ha) Try.runUnderlying24 ?_
  refine R.cm ?_
  refine R.nl ?_
  refine R.hs (e' := [(1, _), (2, _), (3, _), (4, _), (5, _), (21, _)]) ?_
  refine R.cd (fun zc2 => ?_) (fun zc2 => ?_)
  ·
    refine R.sq ?_
    refine R.rg ?_
    refine R.as ?_
    refine R.nl ?_
    refine R.hs (e' := [(10, _)]) ?_
    first | exact R.rt (RV.t .nil) 1 rfl | exact R.rt (RV.t .nil) 2 rfl | exact R.rt (RV.t .nil) 3 rfl | exact R.rt (RV.t .nil) 4 (congrArg Value.bool (decide_eq_true hra.2.2.2.2))
  ·
    have hn : xs.length ≤ 1000 := by simp at zc2; omega
    refine Run.skip ?_
    refine R.sq ?_
    refine R.rg ?_
    refine R.lA 6 Try.isAgg23 Try.sizeOf23 ?_
    refine R.mv ?_
    refine R.mv ?_
    refine R.mv ?_
    refine R.cg Try.call11 (case_spec own now lost hn ha) ?_
    refine R.mv ?_
    refine R.ex ?_
    refine R.ex ?_
    refine R.ex ?_
    refine R.alA Try.zeroValue23 (fun b11 hb11 => ?_)
    refine R.st Try.sizeOf23 ?_
    refine R.as ?_
    refine R.as ?_
    refine R.nl ?_
    obtain ⟨h, c, e, hC⟩ : ∃ h c e, caseV own xs now lost = (h, c, e) := ⟨_, _, _, rfl⟩
    rw [hC]
    refine R.hs (e' := [(1, _), (2, _), (4, _), (5, _), (11, _), (12, _), (13, _)]) ?_
    refine R.sq ?_
    refine R.sq ?_
    refine R.rg ?_
    refine R.as ?_
    refine R.nl ?_
    refine R.hs (e' := [(1, _), (2, _), (4, _), (5, _), (11, _), (12, _), (13, _), (14, _)]) ?_
    refine Run.block ?_
    refine Run.loop (ι := Nat) [(1, _), (2, _), (4, _), (5, _), (11, _), (12, _), (13, _)] (fun i => [(14, .int .i64 (i : Int))]) (fun _ => D) (fun _ => (b11, .cells (Ht.cells h).toArray 23 (0, 0)) :: (b5, .cells (Ht.cells own).toArray 23 (0, 0)) :: M) (fun i => i ≤ xs.length ∧ ∀ j x, j < i → xs[j]? = some x → x.id ≠ own.id ∧ x.id ≠ me) (fun i => xs.length - i) (0) (by repeat (first | exact trivial | refine ⟨rfl, ?_⟩)) ?h0 (by repeat (first | exact trivial | refine ⟨rfl, ?_⟩)) (fun w hs => hs) ?_
    case h0 => exact ⟨Nat.zero_le _, fun j x hj => by omega⟩
    rintro i ⟨hi, hpre⟩
    refine R.sq ?_
    refine R.sq ?_
    refine R.rg ?_
    refine R.mv ?_
    refine R.mv ?_
    refine R.ll (ha) Try.runUnderlying24 ?_
    refine R.cm ?_
    refine R.nl ?_
    refine R.hs (e' := [(1, _), (2, _), (4, _), (5, _), (11, _), (12, _), (13, _), (14, _), (34, _)]) ?_
    refine R.cd (fun zc4 => ?_) (fun zc4 => ?_)
    ·
      have hlt : i < xs.length := by simp at zc4; omega
      obtain ⟨x, hgx⟩ := get_of_lt hlt
      obtain ⟨b1, o1, hI1, hc1⟩ := ha.at Vw.len hgx
      refine Run.skip ?_
      refine R.sq ?_
      refine Run.block ?_
      refine R.sq ?_
      rcases Bool.eq_false_or_eq_true (decide (x.id = own.id)) with zg5 | zg5
      ·
        refine Run.drawC Grow.eq 15 [(1, _), (2, _), (4, _), (5, _), (11, _), (12, _), (13, _), (14, _)] mix (by kernel_rfl) (by repeat (first | exact trivial | refine ⟨rfl, ?_⟩)) ?_
        apply TC.val []
        · exact rfl
        · kernel_rfl
        ·
          rintro _ rfl 
          refine R.mv ?_
          refine R.nl ?_
          exact Run.loc rfl rfl rfl
        apply TC.val []
        · exact rfl
        · kernel_rfl
        ·
          rintro _ rfl 
          refine R.mv ?_
          refine R.nl ?_
          exact Run.loc rfl rfl rfl
        apply TC.val [1, 0]
        · exact rfl
        · kernel_rfl
        ·
          rintro _ rfl _ rfl _ rfl
          refine R.ix (hI1) Try.runUnderlying24 Try.sizeOf36 ?_
          refine R.nl ?_
          exact Run.loc rfl rfl rfl
        apply TC.val [0]
        · exact rfl
        · kernel_rfl
        ·
          rintro _ rfl _ rfl
          refine R.fa Try.runUnderlying36 Try.sizeOf3 ?_
          refine R.nl ?_
          exact Run.loc rfl rfl rfl
        apply TC.val [0]
        · exact rfl
        · kernel_rfl
        ·
          rintro _ rfl _ rfl
          refine R.ldD Try.isAgg3 ?_
          refine R.nl ?_
          exact Run.loc rfl rfl rfl
        apply TC.val []
        · exact rfl
        · kernel_rfl
        ·
          rintro _ rfl 
          refine R.fa Try.runUnderlying23 Try.sizeOf3 ?_
          refine R.nl ?_
          exact Run.loc rfl rfl rfl
        apply TC.val [0]
        · exact rfl
        · kernel_rfl
        ·
          rintro _ rfl _ rfl
          refine R.ld Try.isAgg3 ?_
          refine R.nl ?_
          exact Run.loc rfl rfl rfl
        apply TC.val [2, 0]
        · exact rfl
        · kernel_rfl
        ·
          rintro _ rfl _ rfl _ rfl
          refine R.cm ?_
          refine R.nl ?_
          exact Run.loc rfl rfl rfl
        apply TC.val [0]
        · exact rfl
        · kernel_rfl
        ·
          rintro _ rfl _ rfl
          refine R.mv ?_
          refine R.nl ?_
          exact Run.loc rfl rfl rfl
        apply TC.val [0]
        · exact rfl
        · kernel_rfl
        ·
          rintro _ rfl _ rfl
          refine R.gF (zg5) ?_
          refine R.nl ?_
          exact Run.loc rfl rfl rfl
        apply TC.val [1]
        · exact rfl
        · kernel_rfl
        ·
          rintro _ rfl _ rfl
          refine R.gF (zg5) ?_
          refine R.nl ?_
          exact Run.loc rfl rfl rfl
        apply TC.val [2, 1, 0]
        · exact rfl
        · kernel_rfl
        ·
          rintro _ rfl _ rfl _ rfl _ rfl
          refine R.gF (zg5) ?_
          refine R.nl ?_
          exact Run.loc rfl rfl rfl
        apply TC.val [3, 0]
        · exact rfl
        · kernel_rfl
        ·
          rintro _ rfl _ rfl _ rfl
          refine R.gF (zg5) ?_
          refine R.nl ?_
          exact Run.loc rfl rfl rfl
        apply TC.val [4, 0]
        · exact rfl
        · kernel_rfl
        ·
          rintro _ rfl _ rfl _ rfl
          refine R.gF (zg5) ?_
          refine R.nl ?_
          exact Run.loc rfl rfl rfl
        apply TC.val [5]
        · exact rfl
        · kernel_rfl
        ·
          rintro _ rfl _ rfl
          refine R.gF (zg5) ?_
          refine R.nl ?_
          exact Run.loc rfl rfl rfl
        refine TC.fin (by rfl) ?_
        rintro _ rfl _ rfl _ rfl _ rfl _ rfl _ rfl _ rfl _ rfl _ rfl _ rfl _ rfl _ rfl _ rfl _ rfl _ rfl _ rfl
        refine R.gF (zg5) ?_
        refine R.pT (zg5) ?_
        refine R.nl ?_
        refine R.hs (e' := [(1, _), (2, _), (4, _), (5, _), (11, _), (12, _), (13, _), (14, _), (53, _)]) ?_
        refine R.cT (rfl) ?_
        refine R.sq ?_
        refine R.rg ?_
        refine R.cg Try.call13 (awake19_spec) ?_
        refine R.as ?_
        refine R.nl ?_
        refine R.hs (e' := [(10, _)]) ?_
        first | exact R.rt (RV.t .nil) 1 rfl | exact R.rt (RV.t .nil) 2 rfl | exact R.rt (RV.t .nil) 3 rfl | exact R.rt (RV.t .nil) 4 (congrArg Value.bool (decide_eq_true hra.2.2.2.2))
      ·
        refine Run.drawC Grow.eq 15 [(1, _), (2, _), (4, _), (5, _), (11, _), (12, _), (13, _), (14, _)] mix (by kernel_rfl) (by repeat (first | exact trivial | refine ⟨rfl, ?_⟩)) ?_
        apply TC.val []
        · exact rfl
        · kernel_rfl
        ·
          rintro _ rfl 
          refine R.mv ?_
          refine R.nl ?_
          exact Run.loc rfl rfl rfl
        apply TC.val []
        · exact rfl
        · kernel_rfl
        ·
          rintro _ rfl 
          refine R.mv ?_
          refine R.nl ?_
          exact Run.loc rfl rfl rfl
        apply TC.val [1, 0]
        · exact rfl
        · kernel_rfl
        ·
          rintro _ rfl _ rfl _ rfl
          refine R.ix (hI1) Try.runUnderlying24 Try.sizeOf36 ?_
          refine R.nl ?_
          exact Run.loc rfl rfl rfl
        apply TC.val [0]
        · exact rfl
        · kernel_rfl
        ·
          rintro _ rfl _ rfl
          refine R.fa Try.runUnderlying36 Try.sizeOf3 ?_
          refine R.nl ?_
          exact Run.loc rfl rfl rfl
        apply TC.val [0]
        · exact rfl
        · kernel_rfl
        ·
          rintro _ rfl _ rfl
          refine R.ldD Try.isAgg3 ?_
          refine R.nl ?_
          exact Run.loc rfl rfl rfl
        apply TC.val []
        · exact rfl
        · kernel_rfl
        ·
          rintro _ rfl 
          refine R.fa Try.runUnderlying23 Try.sizeOf3 ?_
          refine R.nl ?_
          exact Run.loc rfl rfl rfl
        apply TC.val [0]
        · exact rfl
        · kernel_rfl
        ·
          rintro _ rfl _ rfl
          refine R.ld Try.isAgg3 ?_
          refine R.nl ?_
          exact Run.loc rfl rfl rfl
        apply TC.val [2, 0]
        · exact rfl
        · kernel_rfl
        ·
          rintro _ rfl _ rfl _ rfl
          refine R.cm ?_
          refine R.nl ?_
          exact Run.loc rfl rfl rfl
        apply TC.val [0]
        · exact rfl
        · kernel_rfl
        ·
          rintro _ rfl _ rfl
          refine R.mv ?_
          refine R.nl ?_
          exact Run.loc rfl rfl rfl
        apply TC.val [0]
        · exact rfl
        · kernel_rfl
        ·
          rintro _ rfl _ rfl
          refine R.gY (zg5) ?_
          refine R.mv ?_
          refine R.nl ?_
          exact Run.loc rfl rfl rfl
        apply TC.val [1]
        · exact rfl
        · kernel_rfl
        ·
          rintro _ rfl _ rfl
          refine R.gY (zg5) ?_
          refine R.mv ?_
          refine R.nl ?_
          exact Run.loc rfl rfl rfl
        apply TC.val [2, 1, 0]
        · exact rfl
        · kernel_rfl
        ·
          rintro _ rfl _ rfl _ rfl _ rfl
          refine R.gY (zg5) ?_
          refine R.ix (hI1) Try.runUnderlying24 Try.sizeOf36 ?_
          refine R.nl ?_
          exact Run.loc rfl rfl rfl
        apply TC.val [3, 0]
        · exact rfl
        · kernel_rfl
        ·
          rintro _ rfl _ rfl _ rfl
          refine R.gY (zg5) ?_
          refine R.fa Try.runUnderlying36 Try.sizeOf3 ?_
          refine R.nl ?_
          exact Run.loc rfl rfl rfl
        apply TC.val [4, 0]
        · exact rfl
        · kernel_rfl
        ·
          rintro _ rfl _ rfl _ rfl
          refine R.gY (zg5) ?_
          refine R.ldD Try.isAgg3 ?_
          refine R.nl ?_
          exact Run.loc rfl rfl rfl
        apply TC.val [5]
        · exact rfl
        · kernel_rfl
        ·
          rintro _ rfl _ rfl
          refine R.gY (zg5) ?_
          refine R.mv ?_
          refine R.nl ?_
          exact Run.loc rfl rfl rfl
        refine TC.fin (by rfl) ?_
        rintro _ rfl _ rfl _ rfl _ rfl _ rfl _ rfl _ rfl _ rfl _ rfl _ rfl _ rfl _ rfl _ rfl _ rfl _ rfl _ rfl
        refine R.gY (zg5) ?_
        refine R.cm ?_
        refine R.pF (zg5) ?_
        refine R.nl ?_
        refine R.hs (e' := [(1, _), (2, _), (4, _), (5, _), (11, _), (12, _), (13, _), (14, _), (53, _)]) ?_
        refine R.cd (fun zc38 => ?_) (fun zc38 => ?_)
        ·
          refine R.sq ?_
          refine R.rg ?_
          refine R.cg Try.call13 (awake19_spec) ?_
          refine R.as ?_
          refine R.nl ?_
          refine R.hs (e' := [(10, _)]) ?_
          first | exact R.rt (RV.t .nil) 1 rfl | exact R.rt (RV.t .nil) 2 rfl | exact R.rt (RV.t .nil) 3 rfl | exact R.rt (RV.t .nil) 4 (congrArg Value.bool (decide_eq_true hra.2.2.2.2))
        ·
          have hr : x.id ≠ own.id ∧ x.id ≠ me := by simp_all
          refine Run.skip ?_
          refine Run.endBlock ?_
          refine R.rg ?_
          refine R.mv ?_
          refine R.ad ?_
          refine R.as ?_
          refine R.nl ?_
          refine R.hs (e' := [(1, _), (2, _), (4, _), (5, _), (11, _), (12, _), (13, _), (14, _)]) ?_
          exact Run.again (i + 1) ⟨by omega, fun j y hj hy => by rcases Nat.lt_or_ge j i with h | h; exact hpre j y h hy; rw [show j = i by omega, hgx] at hy; injection hy with hy; rw [← hy]; exact hr⟩ (by omega) ⟨rfl, by repeat (first | exact trivial | refine ⟨rfl, ?_⟩)⟩ (fun w hs => hs)
    ·
      have hid : ∀ x ∈ xs, x.id ≠ own.id := fun x hx => by
        obtain ⟨j, hj⟩ := List.getElem?_of_mem hx
        have hjl : j < xs.length := by
          rcases Nat.lt_or_ge j xs.length with h | h
          · exact h
          · rw [List.getElem?_eq_none h] at hj; cases hj
        exact (hpre j x (by simp at zc4; omega) hj).1
      obtain ⟨gh, f, hAd⟩ : ∃ gh f, adoptR xs me = (gh, f) := ⟨_, _, rfl⟩
      refine Run.exit rfl ?_
      refine R.sq ?_
      refine R.sq ?_
      refine Run.cut (ι := Bool) [(1, _), (4, _)] (fun b => [(77, .bool b)]) (fun _ => D) (fun _ => (b11, .cells (Ht.cells h).toArray 23 (0, 0)) :: (b5, .cells (Ht.cells own).toArray 23 (0, 0)) :: M) (fun b => b = false) (by repeat (first | exact trivial | refine ⟨rfl, ?_⟩)) ?_ ?_
      ·
        refine R.rg ?_
        refine R.mv ?_
        refine R.cm ?_
        refine R.mv ?_
        refine R.gd (fun zg39 => ?_) (fun zg39 => ?_)
        ·
          refine R.mv ?_
          refine R.gY (zg39) ?_
          refine R.cm ?_
          refine R.pT (zg39) ?_
          refine R.mv ?_
          refine R.gd (fun zg40 => ?_) (fun zg40 => ?_)
          ·
            refine R.fa Try.runUnderlying23 Try.sizeOf4 ?_
            refine R.gY (zg40) ?_
            refine R.ld Try.isAgg4 ?_
            refine R.gY (zg40) ?_
            refine R.nt ?_
            refine R.pT (zg40) ?_
            refine R.mv ?_
            refine R.gd (fun zg41 => ?_) (fun zg41 => ?_)
            ·
              refine R.mv ?_
              refine R.gY (zg41) ?_
              refine R.lA 6 Try.isAgg23 Try.sizeOf23 ?_
              refine R.gY (zg41) ?_
              refine R.mv ?_
              refine R.gY (zg41) ?_
              refine R.cg Try.call15 (late_spec own now ha) ?_
              refine R.pT (zg41) ?_
              refine R.mv ?_
              refine R.gd (fun zg42 => ?_) (fun zg42 => ?_)
              ·
                refine R.lA 6 Try.isAgg23 Try.sizeOf23 ?_
                refine R.gY (zg42) ?_
                refine R.lA 6 Try.isAgg23 Try.sizeOf23 ?_
                refine R.gY (zg42) ?_
                refine R.cg Try.call16 (less_spec _ _) ?_
                refine R.gY (zg42) ?_
                refine R.nt ?_
                refine R.pT (zg42) ?_
                refine R.nl ?_
                refine R.hs (e' := [(1, _), (4, _), (77, _)]) ?_
                first | exact Run.meet false rfl (by refine ⟨rfl, ?_⟩; repeat (first | exact trivial | refine ⟨rfl, ?_⟩)) (fun w hs => hs) | exact Run.meet (!lessH own h) (by rw [rise_case hC (by simp_all) hid (by simp_all) (by simp_all) (by simp_all)]; rfl) (by repeat (first | exact trivial | refine ⟨rfl, ?_⟩)) (fun w hs => hs)
              ·
                refine R.gF (zg42) ?_
                refine R.gF (zg42) ?_
                refine R.gF (zg42) ?_
                refine R.pF (zg42) ?_
                refine R.nl ?_
                refine R.hs (e' := [(1, _), (4, _), (77, _)]) ?_
                first | exact Run.meet false rfl (by refine ⟨rfl, ?_⟩; repeat (first | exact trivial | refine ⟨rfl, ?_⟩)) (fun w hs => hs) | exact Run.meet (!lessH own h) (by rw [rise_case hC (by simp_all) hid (by simp_all) (by simp_all) (by simp_all)]; rfl) (by repeat (first | exact trivial | refine ⟨rfl, ?_⟩)) (fun w hs => hs)
            ·
              refine R.gF (zg41) ?_
              refine R.gF (zg41) ?_
              refine R.gF (zg41) ?_
              refine R.pF (zg41) ?_
              refine R.mv ?_
              refine R.gF (rfl) ?_
              refine R.gF (rfl) ?_
              refine R.gF (rfl) ?_
              refine R.gF (rfl) ?_
              refine R.pF (rfl) ?_
              refine R.nl ?_
              refine R.hs (e' := [(1, _), (4, _), (77, _)]) ?_
              first | exact Run.meet false rfl (by refine ⟨rfl, ?_⟩; repeat (first | exact trivial | refine ⟨rfl, ?_⟩)) (fun w hs => hs) | exact Run.meet (!lessH own h) (by rw [rise_case hC (by simp_all) hid (by simp_all) (by simp_all) (by simp_all)]; rfl) (by repeat (first | exact trivial | refine ⟨rfl, ?_⟩)) (fun w hs => hs)
          ·
            refine R.gF (zg40) ?_
            refine R.gF (zg40) ?_
            refine R.pF (zg40) ?_
            refine R.mv ?_
            refine R.gF (rfl) ?_
            refine R.gF (rfl) ?_
            refine R.gF (rfl) ?_
            refine R.gF (rfl) ?_
            refine R.pF (rfl) ?_
            refine R.mv ?_
            refine R.gF (rfl) ?_
            refine R.gF (rfl) ?_
            refine R.gF (rfl) ?_
            refine R.gF (rfl) ?_
            refine R.pF (rfl) ?_
            refine R.nl ?_
            refine R.hs (e' := [(1, _), (4, _), (77, _)]) ?_
            first | exact Run.meet false rfl (by refine ⟨rfl, ?_⟩; repeat (first | exact trivial | refine ⟨rfl, ?_⟩)) (fun w hs => hs) | exact Run.meet (!lessH own h) (by rw [rise_case hC (by simp_all) hid (by simp_all) (by simp_all) (by simp_all)]; rfl) (by repeat (first | exact trivial | refine ⟨rfl, ?_⟩)) (fun w hs => hs)
        ·
          refine R.gF (zg39) ?_
          refine R.pF (zg39) ?_
          refine R.mv ?_
          refine R.gF (rfl) ?_
          refine R.gF (rfl) ?_
          refine R.gF (rfl) ?_
          refine R.pF (rfl) ?_
          refine R.mv ?_
          refine R.gF (rfl) ?_
          refine R.gF (rfl) ?_
          refine R.gF (rfl) ?_
          refine R.gF (rfl) ?_
          refine R.pF (rfl) ?_
          refine R.mv ?_
          refine R.gF (rfl) ?_
          refine R.gF (rfl) ?_
          refine R.gF (rfl) ?_
          refine R.gF (rfl) ?_
          refine R.pF (rfl) ?_
          refine R.nl ?_
          refine R.hs (e' := [(1, _), (4, _), (77, _)]) ?_
          first | exact Run.meet false rfl (by refine ⟨rfl, ?_⟩; repeat (first | exact trivial | refine ⟨rfl, ?_⟩)) (fun w hs => hs) | exact Run.meet (!lessH own h) (by rw [rise_case hC (by simp_all) hid (by simp_all) (by simp_all) (by simp_all)]; rfl) (by repeat (first | exact trivial | refine ⟨rfl, ?_⟩)) (fun w hs => hs)
      ·
        rintro b hb
        refine R.cF (hb) ?_
        refine Run.skip ?_
        refine R.sq ?_
        refine R.rg ?_
        refine R.mv ?_
        refine R.mv ?_
        refine R.cg Try.call7 (adopt_spec me ha) ?_
        refine R.mv ?_
        refine R.ex ?_
        refine R.ex ?_
        refine R.alA Try.zeroValue23 (fun b15 hb15 => ?_)
        refine R.st Try.sizeOf23 ?_
        refine R.as ?_
        refine R.nl ?_
        rw [hAd]
        refine R.hs (e' := [(1, _), (4, _), (15, _), (16, _)]) ?_
        refine R.sq ?_
        refine R.sq ?_
        refine R.rg ?_
        refine R.mv ?_
        refine R.cm ?_
        refine R.nl ?_
        refine R.hs (e' := [(1, _), (4, _), (15, _), (85, _)]) ?_
        refine R.cd (fun zc44 => ?_) (fun zc44 => ?_)
        ·
          refine R.sq ?_
          refine R.rg ?_
          refine R.cg Try.call13 (awake19_spec) ?_
          refine R.as ?_
          refine R.nl ?_
          refine R.hs (e' := [(10, _)]) ?_
          first | exact R.rt (RV.t .nil) 1 rfl | exact R.rt (RV.t .nil) 2 rfl | exact R.rt (RV.t .nil) 3 rfl | exact R.rt (RV.t .nil) 4 (congrArg Value.bool (decide_eq_true hra.2.2.2.2))
        ·
          have hra := rise_adopt hAd (by simpa using zc44)
          refine Run.skip ?_
          refine R.sq ?_
          refine R.rg ?_
          refine R.mv ?_
          refine R.cg Try.call17 (vLow_spec ha) ?_
          refine R.mv ?_
          refine R.ex ?_
          refine R.ex ?_
          refine R.alA Try.zeroValue36 (fun b17 hb17 => ?_)
          refine R.st Try.sizeOf36 ?_
          refine R.as ?_
          refine R.nl ?_
          refine R.hs (e' := [(4, _), (15, _), (17, _), (18, _)]) ?_
          refine R.sq ?_
          refine Run.drawC Grow.eq 31 [(4, _), (15, _), (17, _), (18, _)] mix (by kernel_rfl) (by repeat (first | exact trivial | refine ⟨rfl, ?_⟩)) ?_
          apply TC.val []
          · exact rfl
          · kernel_rfl
          ·
            rintro _ rfl 
            refine R.cg Try.call13 (awake19_spec) ?_
            refine R.nl ?_
            exact Run.loc rfl rfl rfl
          apply TC.val [0]
          · exact rfl
          · kernel_rfl
          ·
            rintro _ rfl _ rfl
            refine R.mv ?_
            refine R.nl ?_
            exact Run.loc rfl rfl rfl
          apply TC.val [0]
          · exact rfl
          · kernel_rfl
          ·
            rintro _ rfl _ rfl
            refine R.gY (rfl) ?_
            refine R.mv ?_
            refine R.nl ?_
            exact Run.loc rfl rfl rfl
          apply TC.val [1, 0]
          · exact rfl
          · kernel_rfl
          ·
            rintro _ rfl _ rfl _ rfl
            refine R.pT (rfl) ?_
            refine R.nl ?_
            exact Run.loc rfl rfl rfl
          apply TC.val [0]
          · exact rfl
          · kernel_rfl
          ·
            rintro _ rfl _ rfl
            refine R.mv ?_
            refine R.nl ?_
            exact Run.loc rfl rfl rfl
          apply TC.val [0]
          · exact rfl
          · kernel_rfl
          ·
            rintro _ rfl _ rfl
            refine R.gY (hra.1) ?_
            refine R.fa Try.runUnderlying36 Try.sizeOf23 ?_
            refine R.nl ?_
            exact Run.loc rfl rfl rfl
          apply TC.val [1, 0]
          · exact rfl
          · kernel_rfl
          ·
            rintro _ rfl _ rfl _ rfl
            refine R.gY (hra.1) ?_
            refine R.lA 6 Try.isAgg23 Try.sizeOf23 ?_
            refine R.nl ?_
            exact Run.loc rfl rfl rfl
          apply TC.val [2]
          · exact rfl
          · kernel_rfl
          ·
            rintro _ rfl _ rfl
            refine R.gY (hra.1) ?_
            refine R.lA 6 Try.isAgg23 Try.sizeOf23 ?_
            refine R.nl ?_
            exact Run.loc rfl rfl rfl
          apply TC.val [3, 1, 0]
          · exact rfl
          · kernel_rfl
          ·
            rintro _ rfl _ rfl _ rfl _ rfl
            refine R.gY (hra.1) ?_
            refine R.cg Try.call16 (less_spec ((lowV xs).getD z0V).h gh) ?_
            refine R.nl ?_
            exact Run.loc rfl rfl rfl
          apply TC.val [4, 0]
          · exact rfl
          · kernel_rfl
          ·
            rintro _ rfl _ rfl _ rfl
            refine R.pT (hra.1) ?_
            refine R.nl ?_
            exact Run.loc rfl rfl rfl
          apply TC.val [0]
          · exact rfl
          · kernel_rfl
          ·
            rintro _ rfl _ rfl
            refine R.mv ?_
            refine R.nl ?_
            exact Run.loc rfl rfl rfl
          apply TC.val [0]
          · exact rfl
          · kernel_rfl
          ·
            rintro _ rfl _ rfl
            refine R.gY (hra.2.1) ?_
            refine R.fa Try.runUnderlying23 Try.sizeOf3 ?_
            refine R.nl ?_
            exact Run.loc rfl rfl rfl
          apply TC.val [1, 0]
          · exact rfl
          · kernel_rfl
          ·
            rintro _ rfl _ rfl _ rfl
            refine R.gY (hra.2.1) ?_
            refine R.ld Try.isAgg3 ?_
            refine R.nl ?_
            exact Run.loc rfl rfl rfl
          apply TC.val [2]
          · exact rfl
          · kernel_rfl
          ·
            rintro _ rfl _ rfl
            refine R.gY (hra.2.1) ?_
            refine R.mv ?_
            refine R.nl ?_
            exact Run.loc rfl rfl rfl
          apply TC.val [3, 1, 0]
          · exact rfl
          · kernel_rfl
          ·
            rintro _ rfl _ rfl _ rfl _ rfl
            refine R.gY (hra.2.1) ?_
            refine R.cm ?_
            refine R.nl ?_
            exact Run.loc rfl rfl rfl
          apply TC.val [4, 0]
          · exact rfl
          · kernel_rfl
          ·
            rintro _ rfl _ rfl _ rfl
            refine R.pT (hra.2.1) ?_
            refine R.nl ?_
            exact Run.loc rfl rfl rfl
          apply TC.val [0]
          · exact rfl
          · kernel_rfl
          ·
            rintro _ rfl _ rfl
            refine R.mv ?_
            refine R.nl ?_
            exact Run.loc rfl rfl rfl
          apply TC.val [0]
          · exact rfl
          · kernel_rfl
          ·
            rintro _ rfl _ rfl
            refine R.gY ((decide_eq_true hra.2.2.1)) ?_
            refine R.lA 6 Try.isAgg23 Try.sizeOf23 ?_
            refine R.nl ?_
            exact Run.loc rfl rfl rfl
          apply TC.val [1, 0]
          · exact rfl
          · kernel_rfl
          ·
            rintro _ rfl _ rfl _ rfl
            refine R.gY ((decide_eq_true hra.2.2.1)) ?_
            refine R.cg Try.call18 (lvl_spec gh) ?_
            refine R.nl ?_
            exact Run.loc rfl rfl rfl
          apply TC.val [2]
          · exact rfl
          · kernel_rfl
          ·
            rintro _ rfl _ rfl
            refine R.gY ((decide_eq_true hra.2.2.1)) ?_
            refine R.fa Try.runUnderlying36 Try.sizeOf23 ?_
            refine R.nl ?_
            exact Run.loc rfl rfl rfl
          apply TC.val [3, 0]
          · exact rfl
          · kernel_rfl
          ·
            rintro _ rfl _ rfl _ rfl
            refine R.gY ((decide_eq_true hra.2.2.1)) ?_
            refine R.lA 6 Try.isAgg23 Try.sizeOf23 ?_
            refine R.nl ?_
            exact Run.loc rfl rfl rfl
          apply TC.val [4, 0]
          · exact rfl
          · kernel_rfl
          ·
            rintro _ rfl _ rfl _ rfl
            refine R.gY ((decide_eq_true hra.2.2.1)) ?_
            refine R.cg Try.call18 (lvl_spec ((lowV xs).getD z0V).h) ?_
            refine R.nl ?_
            exact Run.loc rfl rfl rfl
          apply TC.val [5, 3, 0]
          · exact rfl
          · kernel_rfl
          ·
            rintro _ rfl _ rfl _ rfl _ rfl
            refine R.gY ((decide_eq_true hra.2.2.1)) ?_
            refine R.ea Try.eqGuardType42 (eqAt42 _ _ _ _ _ _) ?_
            refine R.nl ?_
            exact Run.loc rfl rfl rfl
          apply TC.val [6, 0]
          · exact rfl
          · kernel_rfl
          ·
            rintro _ rfl _ rfl _ rfl
            refine R.pT ((decide_eq_true hra.2.2.1)) ?_
            refine R.nl ?_
            exact Run.loc rfl rfl rfl
          apply TC.val [0]
          · exact rfl
          · kernel_rfl
          ·
            rintro _ rfl _ rfl
            refine R.mv ?_
            refine R.nl ?_
            exact Run.loc rfl rfl rfl
          apply TC.val [0]
          · exact rfl
          · kernel_rfl
          ·
            rintro _ rfl _ rfl
            refine R.gY ((decide_eq_true (Lv.ext'.1 hra.2.2.2.1))) ?_
            refine R.fa Try.runUnderlying23 Try.sizeOf3 ?_
            refine R.nl ?_
            exact Run.loc rfl rfl rfl
          apply TC.val [1, 0]
          · exact rfl
          · kernel_rfl
          ·
            rintro _ rfl _ rfl _ rfl
            refine R.gY ((decide_eq_true (Lv.ext'.1 hra.2.2.2.1))) ?_
            refine R.ld Try.isAgg3 ?_
            refine R.nl ?_
            exact Run.loc rfl rfl rfl
          apply TC.val [2]
          · exact rfl
          · kernel_rfl
          ·
            rintro _ rfl _ rfl
            refine R.gY ((decide_eq_true (Lv.ext'.1 hra.2.2.2.1))) ?_
            refine R.fa Try.runUnderlying36 Try.sizeOf23 ?_
            refine R.nl ?_
            exact Run.loc rfl rfl rfl
          apply TC.val [3, 0]
          · exact rfl
          · kernel_rfl
          ·
            rintro _ rfl _ rfl _ rfl
            refine R.gY ((decide_eq_true (Lv.ext'.1 hra.2.2.2.1))) ?_
            refine R.fa Try.runUnderlying23 Try.sizeOf3 ?_
            refine R.nl ?_
            exact Run.loc rfl rfl rfl
          apply TC.val [4, 0]
          · exact rfl
          · kernel_rfl
          ·
            rintro _ rfl _ rfl _ rfl
            refine R.gY ((decide_eq_true (Lv.ext'.1 hra.2.2.2.1))) ?_
            refine R.ld Try.isAgg3 ?_
            refine R.nl ?_
            exact Run.loc rfl rfl rfl
          apply TC.val [5, 0]
          · exact rfl
          · kernel_rfl
          ·
            rintro _ rfl _ rfl _ rfl
            refine R.gY ((decide_eq_true (Lv.ext'.1 hra.2.2.2.1))) ?_
            refine R.ad ?_
            refine R.nl ?_
            exact Run.loc rfl rfl rfl
          refine TC.fin (by rfl) ?_
          rintro _ rfl _ rfl _ rfl _ rfl _ rfl _ rfl _ rfl _ rfl _ rfl _ rfl _ rfl _ rfl _ rfl _ rfl _ rfl _ rfl _ rfl _ rfl _ rfl _ rfl _ rfl _ rfl _ rfl _ rfl _ rfl _ rfl _ rfl _ rfl _ rfl _ rfl _ rfl _ rfl
          refine R.gY ((decide_eq_true (Lv.ext'.1 hra.2.2.2.1))) ?_
          refine R.cm ?_
          refine R.pT ((decide_eq_true (Lv.ext'.1 hra.2.2.2.1))) ?_
          refine R.as ?_
          refine R.nl ?_
          refine R.hs (e' := [(10, _)]) ?_
          first | exact R.rt (RV.t .nil) 1 rfl | exact R.rt (RV.t .nil) 2 rfl | exact R.rt (RV.t .nil) 3 rfl | exact R.rt (RV.t .nil) 4 (congrArg Value.bool (decide_eq_true hra.2.2.2.2))
end Go.Proofs.Ytgdpjpmjcpieiaa
