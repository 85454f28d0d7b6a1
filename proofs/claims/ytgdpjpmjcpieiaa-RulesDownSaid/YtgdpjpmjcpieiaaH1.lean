/- Heights and objects: what the checks of the document's answer and of the program say. No condition. -/
import Derived.Test.YtgdpjpmjcpieiaaTypes
import Derived.Test.YtgdpjpmjcpieiaaPure
import Derived.Test.YtgdpjpmjcpieiaaShort
namespace Go.Proofs.Ytgdpjpmjcpieiaa
open Go
set_option linter.unusedVariables false
set_option linter.unusedSimpArgs false
set_option maxRecDepth 100000
set_option maxHeartbeats 0
theorem refRight_spec {g : Gl} {D : Dict} {M : MList} (h : Ht) : Gives Try.prog g 45 [.agg (Ht.cells h).toArray] D M (.bool (okH h)) := by
  refine Gives.enter Try.func45 rfl Try.ntmps45 ?_
  refine R.sq ?_
  refine R.rg ?_
  refine R.bxA (fun zb1 hzb1 => ?_)
  refine R.as ?_
  refine R.nl ?_
  refine R.hs (e' := [(1, _)]) ?_
  refine R.sq ?_
  refine R.sq ?_
  refine R.rg ?_
  refine R.fa Try.runUnderlying23 Try.sizeOf3 ?_
  refine R.ld Try.isAgg3 ?_
  refine R.cm ?_
  refine R.mv ?_
  refine R.gd (fun zg2 => ?_) (fun zg2 => ?_)
  ·
    refine R.fa Try.runUnderlying23 Try.sizeOf3 ?_
    refine R.gY (zg2) ?_
    refine R.ld Try.isAgg3 ?_
    refine R.gY (zg2) ?_
    refine R.cm ?_
    refine R.pF (zg2) ?_
    refine R.nl ?_
    refine R.hs (e' := [(1, _), (10, _)]) ?_
    refine R.cd (fun zc3 => ?_) (fun zc3 => ?_)
    ·
      refine R.sq ?_
      refine R.rg ?_
      refine R.as ?_
      refine R.nl ?_
      refine R.hs (e' := [(2, _)]) ?_
      refine R.rt (RV.t .nil) 1 ?_
      unfold okH; cases hnl : h.null <;> simp only [hnl, if_true, if_false, Bool.false_eq_true] at * <;> (refine congrArg Value.bool ?_; rw [Bool.eq_iff_iff]; simp only [Bool.not_true, Bool.not_false, decide_eq_true_eq, decide_eq_false_iff_not, Bool.false_eq_true, Bool.true_eq_false, true_and, and_true, eq_self, iff_true, iff_false, true_iff, false_iff, not_and, Int.not_lt, Int.not_le] at *) <;> omega
    ·
      refine Run.skip ?_
      refine R.sq ?_
      refine R.sq ?_
      refine R.rg ?_
      refine R.fa Try.runUnderlying23 Try.sizeOf4 ?_
      refine R.ld Try.isAgg4 ?_
      refine R.nl ?_
      refine R.hs (e' := [(1, _), (12, _)]) ?_
      refine R.cd (fun zc4 => ?_) (fun zc4 => ?_)
      ·
        refine R.sq ?_
        refine R.rg ?_
        refine R.lA 6 Try.isAgg23 Try.sizeOf23 ?_
        refine R.fa Try.runUnderlying23 Try.sizeOf3 ?_
        refine R.ld Try.isAgg3 ?_
        refine R.bd Try.zeroValue23 places23 ?_
        refine R.ea Try.eqGuardType23 (eqAt23 _ _ _ _ _ _ _ _ _ _ _ _) ?_
        refine R.as ?_
        refine R.nl ?_
        refine R.hs (e' := [(2, _)]) ?_
        refine R.rt (RV.t .nil) 1 ?_
        unfold okH; cases hnl : h.null <;> simp only [hnl, if_true, if_false, Bool.false_eq_true] at * <;> (refine congrArg Value.bool ?_; rw [Bool.eq_iff_iff]; simp only [Bool.not_true, Bool.not_false, decide_eq_true_eq, decide_eq_false_iff_not, Bool.false_eq_true, Bool.true_eq_false, true_and, and_true, eq_self, iff_true, iff_false, true_iff, false_iff, not_and, Int.not_lt, Int.not_le] at *) <;> omega
      ·
        refine Run.skip ?_
        refine R.sq ?_
        refine R.rg ?_
        refine R.fa Try.runUnderlying23 Try.sizeOf3 ?_
        refine R.ld Try.isAgg3 ?_
        refine R.cm ?_
        refine R.mv ?_
        refine R.gd (fun zg5 => ?_) (fun zg5 => ?_)
        ·
          refine R.fa Try.runUnderlying23 Try.sizeOf3 ?_
          refine R.gY (zg5) ?_
          refine R.ld Try.isAgg3 ?_
          refine R.gY (zg5) ?_
          refine R.cm ?_
          refine R.pT (zg5) ?_
          refine R.mv ?_
          refine R.gd (fun zg6 => ?_) (fun zg6 => ?_)
          ·
            refine R.fa Try.runUnderlying23 Try.sizeOf3 ?_
            refine R.gY (zg6) ?_
            refine R.ld Try.isAgg3 ?_
            refine R.gY (zg6) ?_
            refine R.cm ?_
            refine R.pT (zg6) ?_
            refine R.mv ?_
            refine R.gd (fun zg7 => ?_) (fun zg7 => ?_)
            ·
              refine R.fa Try.runUnderlying23 Try.sizeOf3 ?_
              refine R.gY (zg7) ?_
              refine R.ld Try.isAgg3 ?_
              refine R.gY (zg7) ?_
              refine R.cm ?_
              refine R.pT (zg7) ?_
              refine R.mv ?_
              refine R.gd (fun zg8 => ?_) (fun zg8 => ?_)
              ·
                refine R.fa Try.runUnderlying23 Try.sizeOf3 ?_
                refine R.gY (zg8) ?_
                refine R.ld Try.isAgg3 ?_
                refine R.gY (zg8) ?_
                refine R.cm ?_
                refine R.gY (zg8) ?_
                refine R.mv ?_
                refine R.gd (fun zg9 => ?_) (fun zg9 => ?_)
                ·
                  refine R.fa Try.runUnderlying23 Try.sizeOf3 ?_
                  refine R.gY (zg9) ?_
                  refine R.ld Try.isAgg3 ?_
                  refine R.gY (zg9) ?_
                  refine R.cm ?_
                  refine R.gY (zg8) ?_
                  refine R.pF (zg9) ?_
                  refine R.pT (zg8) ?_
                  refine R.mv ?_
                  refine R.gd (fun zg10 => ?_) (fun zg10 => ?_)
                  ·
                    refine R.fa Try.runUnderlying23 Try.sizeOf3 ?_
                    refine R.gY (zg10) ?_
                    refine R.ld Try.isAgg3 ?_
                    refine R.gY (zg10) ?_
                    refine R.cm ?_
                    refine R.pT (zg10) ?_
                    refine R.mv ?_
                    refine R.gd (fun zg11 => ?_) (fun zg11 => ?_)
                    ·
                      refine R.fa Try.runUnderlying23 Try.sizeOf3 ?_
                      refine R.gY (zg11) ?_
                      refine R.ld Try.isAgg3 ?_
                      refine R.gY (zg11) ?_
                      refine R.cm ?_
                      refine R.pT (zg11) ?_
                      refine R.as ?_
                      refine R.nl ?_
                      refine R.hs (e' := [(2, _)]) ?_
                      refine R.rt (RV.t .nil) 1 ?_
                      unfold okH; cases hnl : h.null <;> simp only [hnl, if_true, if_false, Bool.false_eq_true] at * <;> (refine congrArg Value.bool ?_; rw [Bool.eq_iff_iff]; simp only [Bool.not_true, Bool.not_false, decide_eq_true_eq, decide_eq_false_iff_not, Bool.false_eq_true, Bool.true_eq_false, true_and, and_true, eq_self, iff_true, iff_false, true_iff, false_iff, not_and, Int.not_lt, Int.not_le] at *) <;> omega
                    ·
                      refine R.gF (zg11) ?_
                      refine R.gF (zg11) ?_
                      refine R.pF (zg11) ?_
                      refine R.as ?_
                      refine R.nl ?_
                      refine R.hs (e' := [(2, _)]) ?_
                      refine R.rt (RV.t .nil) 1 ?_
                      unfold okH; cases hnl : h.null <;> simp only [hnl, if_true, if_false, Bool.false_eq_true] at * <;> (refine congrArg Value.bool ?_; rw [Bool.eq_iff_iff]; simp only [Bool.not_true, Bool.not_false, decide_eq_true_eq, decide_eq_false_iff_not, Bool.false_eq_true, Bool.true_eq_false, true_and, and_true, eq_self, iff_true, iff_false, true_iff, false_iff, not_and, Int.not_lt, Int.not_le] at *) <;> omega
                  ·
                    refine R.gF (zg10) ?_
                    refine R.gF (zg10) ?_
                    refine R.pF (zg10) ?_
                    refine R.mv ?_
                    refine R.gF (rfl) ?_
                    refine R.gF (rfl) ?_
                    refine R.gF (rfl) ?_
                    refine R.pF (rfl) ?_
                    refine R.as ?_
                    refine R.nl ?_
                    refine R.hs (e' := [(2, _)]) ?_
                    refine R.rt (RV.t .nil) 1 ?_
                    unfold okH; cases hnl : h.null <;> simp only [hnl, if_true, if_false, Bool.false_eq_true] at * <;> (refine congrArg Value.bool ?_; rw [Bool.eq_iff_iff]; simp only [Bool.not_true, Bool.not_false, decide_eq_true_eq, decide_eq_false_iff_not, Bool.false_eq_true, Bool.true_eq_false, true_and, and_true, eq_self, iff_true, iff_false, true_iff, false_iff, not_and, Int.not_lt, Int.not_le] at *) <;> omega
                ·
                  refine R.gF (zg9) ?_
                  refine R.gF (zg9) ?_
                  refine R.gY (zg8) ?_
                  refine R.pT (zg9) ?_
                  refine R.pT (zg8) ?_
                  refine R.mv ?_
                  refine R.gY (rfl) ?_
                  refine R.fa Try.runUnderlying23 Try.sizeOf3 ?_
                  refine R.gY (rfl) ?_
                  refine R.ld Try.isAgg3 ?_
                  refine R.gY (rfl) ?_
                  refine R.cm ?_
                  refine R.pT (rfl) ?_
                  refine R.mv ?_
                  refine R.gd (fun zg12 => ?_) (fun zg12 => ?_)
                  ·
                    refine R.fa Try.runUnderlying23 Try.sizeOf3 ?_
                    refine R.gY (zg12) ?_
                    refine R.ld Try.isAgg3 ?_
                    refine R.gY (zg12) ?_
                    refine R.cm ?_
                    refine R.pT (zg12) ?_
                    refine R.as ?_
                    refine R.nl ?_
                    refine R.hs (e' := [(2, _)]) ?_
                    refine R.rt (RV.t .nil) 1 ?_
                    unfold okH; cases hnl : h.null <;> simp only [hnl, if_true, if_false, Bool.false_eq_true] at * <;> (refine congrArg Value.bool ?_; rw [Bool.eq_iff_iff]; simp only [Bool.not_true, Bool.not_false, decide_eq_true_eq, decide_eq_false_iff_not, Bool.false_eq_true, Bool.true_eq_false, true_and, and_true, eq_self, iff_true, iff_false, true_iff, false_iff, not_and, Int.not_lt, Int.not_le] at *) <;> omega
                  ·
                    refine R.gF (zg12) ?_
                    refine R.gF (zg12) ?_
                    refine R.pF (zg12) ?_
                    refine R.as ?_
                    refine R.nl ?_
                    refine R.hs (e' := [(2, _)]) ?_
                    refine R.rt (RV.t .nil) 1 ?_
                    unfold okH; cases hnl : h.null <;> simp only [hnl, if_true, if_false, Bool.false_eq_true] at * <;> (refine congrArg Value.bool ?_; rw [Bool.eq_iff_iff]; simp only [Bool.not_true, Bool.not_false, decide_eq_true_eq, decide_eq_false_iff_not, Bool.false_eq_true, Bool.true_eq_false, true_and, and_true, eq_self, iff_true, iff_false, true_iff, false_iff, not_and, Int.not_lt, Int.not_le] at *) <;> omega
              ·
                refine R.gF (zg8) ?_
                refine R.gF (zg8) ?_
                refine R.gF (zg8) ?_
                refine R.gU ?_
                refine R.gU ?_
                refine R.gU ?_
                refine R.gF (zg8) ?_
                refine R.pF (zg8) ?_
                refine R.mv ?_
                refine R.gF (rfl) ?_
                refine R.gF (rfl) ?_
                refine R.gF (rfl) ?_
                refine R.pF (rfl) ?_
                refine R.mv ?_
                refine R.gF (rfl) ?_
                refine R.gF (rfl) ?_
                refine R.gF (rfl) ?_
                refine R.pF (rfl) ?_
                refine R.as ?_
                refine R.nl ?_
                refine R.hs (e' := [(2, _)]) ?_
                refine R.rt (RV.t .nil) 1 ?_
                unfold okH; cases hnl : h.null <;> simp only [hnl, if_true, if_false, Bool.false_eq_true] at * <;> (refine congrArg Value.bool ?_; rw [Bool.eq_iff_iff]; simp only [Bool.not_true, Bool.not_false, decide_eq_true_eq, decide_eq_false_iff_not, Bool.false_eq_true, Bool.true_eq_false, true_and, and_true, eq_self, iff_true, iff_false, true_iff, false_iff, not_and, Int.not_lt, Int.not_le] at *) <;> omega
            ·
              refine R.gF (zg7) ?_
              refine R.gF (zg7) ?_
              refine R.pF (zg7) ?_
              refine R.mv ?_
              refine R.gF (rfl) ?_
              refine R.gF (rfl) ?_
              refine R.gF (rfl) ?_
              refine R.gF (rfl) ?_
              refine R.gU ?_
              refine R.gU ?_
              refine R.gU ?_
              refine R.gF (rfl) ?_
              refine R.pF (rfl) ?_
              refine R.mv ?_
              refine R.gF (rfl) ?_
              refine R.gF (rfl) ?_
              refine R.gF (rfl) ?_
              refine R.pF (rfl) ?_
              refine R.mv ?_
              refine R.gF (rfl) ?_
              refine R.gF (rfl) ?_
              refine R.gF (rfl) ?_
              refine R.pF (rfl) ?_
              refine R.as ?_
              refine R.nl ?_
              refine R.hs (e' := [(2, _)]) ?_
              refine R.rt (RV.t .nil) 1 ?_
              unfold okH; cases hnl : h.null <;> simp only [hnl, if_true, if_false, Bool.false_eq_true] at * <;> (refine congrArg Value.bool ?_; rw [Bool.eq_iff_iff]; simp only [Bool.not_true, Bool.not_false, decide_eq_true_eq, decide_eq_false_iff_not, Bool.false_eq_true, Bool.true_eq_false, true_and, and_true, eq_self, iff_true, iff_false, true_iff, false_iff, not_and, Int.not_lt, Int.not_le] at *) <;> omega
          ·
            refine R.gF (zg6) ?_
            refine R.gF (zg6) ?_
            refine R.pF (zg6) ?_
            refine R.mv ?_
            refine R.gF (rfl) ?_
            refine R.gF (rfl) ?_
            refine R.gF (rfl) ?_
            refine R.pF (rfl) ?_
            refine R.mv ?_
            refine R.gF (rfl) ?_
            refine R.gF (rfl) ?_
            refine R.gF (rfl) ?_
            refine R.gF (rfl) ?_
            refine R.gU ?_
            refine R.gU ?_
            refine R.gU ?_
            refine R.gF (rfl) ?_
            refine R.pF (rfl) ?_
            refine R.mv ?_
            refine R.gF (rfl) ?_
            refine R.gF (rfl) ?_
            refine R.gF (rfl) ?_
            refine R.pF (rfl) ?_
            refine R.mv ?_
            refine R.gF (rfl) ?_
            refine R.gF (rfl) ?_
            refine R.gF (rfl) ?_
            refine R.pF (rfl) ?_
            refine R.as ?_
            refine R.nl ?_
            refine R.hs (e' := [(2, _)]) ?_
            refine R.rt (RV.t .nil) 1 ?_
            unfold okH; cases hnl : h.null <;> simp only [hnl, if_true, if_false, Bool.false_eq_true] at * <;> (refine congrArg Value.bool ?_; rw [Bool.eq_iff_iff]; simp only [Bool.not_true, Bool.not_false, decide_eq_true_eq, decide_eq_false_iff_not, Bool.false_eq_true, Bool.true_eq_false, true_and, and_true, eq_self, iff_true, iff_false, true_iff, false_iff, not_and, Int.not_lt, Int.not_le] at *) <;> omega
        ·
          refine R.gF (zg5) ?_
          refine R.gF (zg5) ?_
          refine R.pF (zg5) ?_
          refine R.mv ?_
          refine R.gF (rfl) ?_
          refine R.gF (rfl) ?_
          refine R.gF (rfl) ?_
          refine R.pF (rfl) ?_
          refine R.mv ?_
          refine R.gF (rfl) ?_
          refine R.gF (rfl) ?_
          refine R.gF (rfl) ?_
          refine R.pF (rfl) ?_
          refine R.mv ?_
          refine R.gF (rfl) ?_
          refine R.gF (rfl) ?_
          refine R.gF (rfl) ?_
          refine R.gF (rfl) ?_
          refine R.gU ?_
          refine R.gU ?_
          refine R.gU ?_
          refine R.gF (rfl) ?_
          refine R.pF (rfl) ?_
          refine R.mv ?_
          refine R.gF (rfl) ?_
          refine R.gF (rfl) ?_
          refine R.gF (rfl) ?_
          refine R.pF (rfl) ?_
          refine R.mv ?_
          refine R.gF (rfl) ?_
          refine R.gF (rfl) ?_
          refine R.gF (rfl) ?_
          refine R.pF (rfl) ?_
          refine R.as ?_
          refine R.nl ?_
          refine R.hs (e' := [(2, _)]) ?_
          refine R.rt (RV.t .nil) 1 ?_
          unfold okH; cases hnl : h.null <;> simp only [hnl, if_true, if_false, Bool.false_eq_true] at * <;> (refine congrArg Value.bool ?_; rw [Bool.eq_iff_iff]; simp only [Bool.not_true, Bool.not_false, decide_eq_true_eq, decide_eq_false_iff_not, Bool.false_eq_true, Bool.true_eq_false, true_and, and_true, eq_self, iff_true, iff_false, true_iff, false_iff, not_and, Int.not_lt, Int.not_le] at *) <;> omega
  ·
    refine R.gF (zg2) ?_
    refine R.gF (zg2) ?_
    refine R.pT (zg2) ?_
    refine R.nl ?_
    refine R.hs (e' := [(1, _), (10, _)]) ?_
    refine R.cT (rfl) ?_
    refine R.sq ?_
    refine R.rg ?_
    refine R.as ?_
    refine R.nl ?_
    refine R.hs (e' := [(2, _)]) ?_
    refine R.rt (RV.t .nil) 1 ?_
    unfold okH; cases hnl : h.null <;> simp only [hnl, if_true, if_false, Bool.false_eq_true] at * <;> (refine congrArg Value.bool ?_; rw [Bool.eq_iff_iff]; simp only [Bool.not_true, Bool.not_false, decide_eq_true_eq, decide_eq_false_iff_not, Bool.false_eq_true, Bool.true_eq_false, true_and, and_true, eq_self, iff_true, iff_false, true_iff, false_iff, not_and, Int.not_lt, Int.not_le] at *) <;> omega
theorem refTold_spec {g : Gl} {D : Dict} {M : MList} (h : Ht) : Gives Try.prog g 50 [.agg (Ht.cells h).toArray] D M (.bool (toldH h)) := by
  refine Gives.enter Try.func50 rfl Try.ntmps50 ?_
  refine R.sq ?_
  refine R.rg ?_
  refine R.bxA (fun zb1 hzb1 => ?_)
  refine R.as ?_
  refine R.nl ?_
  refine R.hs (e' := [(1, _)]) ?_
  refine R.sq ?_
  refine R.rg ?_
  refine R.lA 6 Try.isAgg23 Try.sizeOf23 ?_
  refine R.cg Try.call45 (refRight_spec _) ?_
  refine R.mv ?_
  refine R.gd (fun zg2 => ?_) (fun zg2 => ?_)
  ·
    refine R.fa Try.runUnderlying23 Try.sizeOf4 ?_
    refine R.gY (zg2) ?_
    refine R.ld Try.isAgg4 ?_
    refine R.gY (zg2) ?_
    refine R.nt ?_
    refine R.pT (zg2) ?_
    refine R.as ?_
    refine R.nl ?_
    refine R.hs (e' := [(2, _)]) ?_
    refine R.rt (RV.t .nil) 1 ?_
    simp_all [toldH]
  ·
    refine R.gF (zg2) ?_
    refine R.gF (zg2) ?_
    refine R.pF (zg2) ?_
    refine R.as ?_
    refine R.nl ?_
    refine R.hs (e' := [(2, _)]) ?_
    refine R.rt (RV.t .nil) 1 ?_
    simp_all [toldH]
end Go.Proofs.Ytgdpjpmjcpieiaa
