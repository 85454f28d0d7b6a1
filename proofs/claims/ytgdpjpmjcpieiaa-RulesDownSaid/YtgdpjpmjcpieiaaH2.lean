/- Heights and objects: what the program's own checks say. No condition. -/
import Derived.Test.YtgdpjpmjcpieiaaH1
namespace Go.Proofs.Ytgdpjpmjcpieiaa
open Go
set_option linter.unusedVariables false
set_option linter.unusedSimpArgs false
set_option maxRecDepth 100000
set_option maxHeartbeats 0
theorem hNull_spec {g : Gl} {D : Dict} {M : MList} (id : Int) : Gives Try.prog g 23 [.int .i64 id] D M (.agg (Ht.cells ⟨true, 0, 0, 0, 0, id⟩).toArray) := by
  refine Gives.enter Try.func23 rfl Try.ntmps23 ?_
  refine R.sq ?_
  refine R.rg ?_
  refine R.alA Try.zeroValue23 (fun zb1 hzb1 => ?_)
  refine R.nl ?_
  refine R.hs (e' := [(0, _), (2, _)]) ?_
  refine R.sq ?_
  refine R.rg ?_
  refine R.mv ?_
  refine R.bd Try.zeroValue23 places23 ?_
  refine R.st Try.sizeOf23 ?_
  refine R.nl ?_
  refine R.hs (e' := [(2, _)]) ?_
  exact R.rt (RV.a Try.isAgg23 Try.sizeOf23 .nil) 1 rfl
theorem hCheck_spec {g : Gl} {D : Dict} {M : MList} (h : Ht) : Gives Try.prog g 25 [.agg (Ht.cells h).toArray] D M (.int .i64 (errA (okH h))) := by
  refine Gives.enter Try.func25 rfl Try.ntmps25 ?_
  refine R.sq ?_
  refine R.rg ?_
  refine R.bxA (fun zb1 hzb1 => ?_)
  refine R.as ?_
  refine R.nl ?_
  refine R.hs (e' := [(1, _)]) ?_
  refine R.sq ?_
  refine R.rg ?_
  refine R.fa Try.runUnderlying23 Try.sizeOf3 ?_
  refine R.ld Try.isAgg3 ?_
  refine R.cm ?_
  refine R.mv ?_
  refine R.gd (fun zg2 => ?_) (fun zg2 => ?_)
  ·
    refine R.fa Try.runUnderlying23 Try.sizeOf3 ?_
    refine R.gY (zg2) ?_
    refine R.ld Try.isAgg3 ?_
    refine R.gY (zg2) ?_
    refine R.cm ?_
    refine R.pT (zg2) ?_
    refine R.as ?_
    refine R.nl ?_
    refine R.hs (e' := [(1, _), (3, _)]) ?_
    refine R.sq ?_
    refine R.sq ?_
    refine R.rg ?_
    refine R.fa Try.runUnderlying23 Try.sizeOf4 ?_
    refine R.ld Try.isAgg4 ?_
    refine R.nl ?_
    refine R.hs (e' := [(1, _), (3, _), (13, _)]) ?_
    refine R.cd (fun zc3 => ?_) (fun zc3 => ?_)
    ·
      refine R.sp 3 (fun zg4 => ?_) (fun zg4 => ?_)
      ·
        refine Run.drawC Grow.eq 6 [(1, _), (3, _)] mix (by kernel_rfl) (by repeat (first | exact trivial | refine ⟨rfl, ?_⟩)) ?_
        apply TC.val []
        · exact rfl
        · kernel_rfl
        ·
          rintro _ rfl 
          refine R.mv ?_
          refine R.nl ?_
          exact Run.loc rfl rfl rfl
        apply TC.val [0]
        · exact rfl
        · kernel_rfl
        ·
          rintro _ rfl _ rfl
          refine R.mv ?_
          refine R.nl ?_
          exact Run.loc rfl rfl rfl
        apply TC.val [0]
        · exact rfl
        · kernel_rfl
        ·
          rintro _ rfl _ rfl
          refine R.gY (zg4) ?_
          refine R.lA 6 Try.isAgg23 Try.sizeOf23 ?_
          refine R.nl ?_
          exact Run.loc rfl rfl rfl
        apply TC.val [1]
        · exact rfl
        · kernel_rfl
        ·
          rintro _ rfl _ rfl
          refine R.gY (zg4) ?_
          refine R.fa Try.runUnderlying23 Try.sizeOf3 ?_
          refine R.nl ?_
          exact Run.loc rfl rfl rfl
        apply TC.val [2, 0]
        · exact rfl
        · kernel_rfl
        ·
          rintro _ rfl _ rfl _ rfl
          refine R.gY (zg4) ?_
          refine R.ld Try.isAgg3 ?_
          refine R.nl ?_
          exact Run.loc rfl rfl rfl
        apply TC.val [3, 0]
        · exact rfl
        · kernel_rfl
        ·
          rintro _ rfl _ rfl _ rfl
          refine R.gY (zg4) ?_
          refine R.cg Try.call23 (hNull_spec _) ?_
          refine R.nl ?_
          exact Run.loc rfl rfl rfl
        refine TC.fin (by rfl) ?_
        rintro _ rfl _ rfl _ rfl _ rfl _ rfl _ rfl _ rfl
        refine R.gY (zg4) ?_
        refine R.ea Try.eqGuardType23 (eqAt23 _ _ _ _ _ _ _ _ _ _ _ _) ?_
        refine R.pT (zg4) ?_
        refine R.as ?_
        refine R.nl ?_
        refine R.hs (e' := [(3, _)]) ?_
        refine R.sq ?_
        refine R.sq ?_
        refine R.rg ?_
        refine R.mv ?_
        refine R.nt ?_
        refine R.nl ?_
        refine R.hs (e' := [(60, _)]) ?_
        refine R.cd (fun zc12 => ?_) (fun zc12 => ?_)
        ·
          refine R.sq ?_
          refine R.rg ?_
          refine R.as ?_
          refine R.nl ?_
          refine R.hs (e' := [(2, _)]) ?_
          refine R.rt (RV.t .nil) 1 (congrArg (Value.int .i64) ?_)
          simp only [errA, okH] at *; grind
        ·
          refine Run.skip ?_
          refine R.sq ?_
          refine R.rg ?_
          refine R.as ?_
          refine R.nl ?_
          refine R.hs (e' := [(2, _)]) ?_
          refine R.rt (RV.t .nil) 1 (congrArg (Value.int .i64) ?_)
          simp only [errA, okH] at *; grind
      ·
        refine Run.drawC Grow.eq 6 [(1, _), (3, _)] mix (by kernel_rfl) (by repeat (first | exact trivial | refine ⟨rfl, ?_⟩)) ?_
        apply TC.val []
        · exact rfl
        · kernel_rfl
        ·
          rintro _ rfl 
          refine R.mv ?_
          refine R.nl ?_
          exact Run.loc rfl rfl rfl
        apply TC.val [0]
        · exact rfl
        · kernel_rfl
        ·
          rintro _ rfl _ rfl
          refine R.mv ?_
          refine R.nl ?_
          exact Run.loc rfl rfl rfl
        apply TC.val [0]
        · exact rfl
        · kernel_rfl
        ·
          rintro _ rfl _ rfl
          refine R.gF (zg4) ?_
          refine R.nl ?_
          exact Run.loc rfl rfl rfl
        apply TC.val [1]
        · exact rfl
        · kernel_rfl
        ·
          rintro _ rfl _ rfl
          refine R.gF (zg4) ?_
          refine R.nl ?_
          exact Run.loc rfl rfl rfl
        apply TC.val [2, 0]
        · exact rfl
        · kernel_rfl
        ·
          rintro _ rfl _ rfl _ rfl
          refine R.gF (zg4) ?_
          refine R.nl ?_
          exact Run.loc rfl rfl rfl
        apply TC.val [3, 0]
        · exact rfl
        · kernel_rfl
        ·
          rintro _ rfl _ rfl _ rfl
          refine R.gF (zg4) ?_
          refine R.nl ?_
          exact Run.loc rfl rfl rfl
        refine TC.fin (by rfl) ?_
        rintro _ rfl _ rfl _ rfl _ rfl _ rfl _ rfl _ rfl
        refine R.gF (zg4) ?_
        refine R.pF (zg4) ?_
        refine R.as ?_
        refine R.nl ?_
        refine R.hs (e' := [(3, _)]) ?_
        refine R.sq ?_
        refine R.sq ?_
        refine R.rg ?_
        refine R.mv ?_
        refine R.nt ?_
        refine R.nl ?_
        refine R.hs (e' := [(60, _)]) ?_
        refine R.cT (rfl) ?_
        refine R.sq ?_
        refine R.rg ?_
        refine R.as ?_
        refine R.nl ?_
        refine R.hs (e' := [(2, _)]) ?_
        refine R.rt (RV.t .nil) 1 (congrArg (Value.int .i64) ?_)
        simp only [errA, okH] at *; grind
    ·
      refine R.rg ?_
      refine R.mv ?_
      refine R.mv ?_
      refine R.gd (fun zg20 => ?_) (fun zg20 => ?_)
      ·
        refine R.fa Try.runUnderlying23 Try.sizeOf3 ?_
        refine R.gY (zg20) ?_
        refine R.ld Try.isAgg3 ?_
        refine R.gY (zg20) ?_
        refine R.cm ?_
        refine R.pT (zg20) ?_
        refine R.mv ?_
        refine R.gd (fun zg21 => ?_) (fun zg21 => ?_)
        ·
          refine R.fa Try.runUnderlying23 Try.sizeOf3 ?_
          refine R.gY (zg21) ?_
          refine R.ld Try.isAgg3 ?_
          refine R.gY (zg21) ?_
          refine R.cm ?_
          refine R.pT (zg21) ?_
          refine R.mv ?_
          refine R.gd (fun zg22 => ?_) (fun zg22 => ?_)
          ·
            refine R.fa Try.runUnderlying23 Try.sizeOf3 ?_
            refine R.gY (zg22) ?_
            refine R.ld Try.isAgg3 ?_
            refine R.gY (zg22) ?_
            refine R.cm ?_
            refine R.pT (zg22) ?_
            refine R.mv ?_
            refine R.gd (fun zg23 => ?_) (fun zg23 => ?_)
            ·
              refine R.fa Try.runUnderlying23 Try.sizeOf3 ?_
              refine R.gY (zg23) ?_
              refine R.ld Try.isAgg3 ?_
              refine R.gY (zg23) ?_
              refine R.cm ?_
              refine R.pT (zg23) ?_
              refine R.mv ?_
              refine R.gd (fun zg24 => ?_) (fun zg24 => ?_)
              ·
                refine R.fa Try.runUnderlying23 Try.sizeOf3 ?_
                refine R.gY (zg24) ?_
                refine R.ld Try.isAgg3 ?_
                refine R.gY (zg24) ?_
                refine R.sr (shr_i64 _ 1 (by decide)) ?_
                refine R.gY (zg24) ?_
                refine R.cm ?_
                refine R.pT (zg24) ?_
                refine R.mv ?_
                refine R.gd (fun zg25 => ?_) (fun zg25 => ?_)
                ·
                  refine R.fa Try.runUnderlying23 Try.sizeOf3 ?_
                  refine R.gY (zg25) ?_
                  refine R.ld Try.isAgg3 ?_
                  refine R.gY (zg25) ?_
                  refine R.cm ?_
                  refine R.pT (zg25) ?_
                  refine R.mv ?_
                  refine R.gd (fun zg26 => ?_) (fun zg26 => ?_)
                  ·
                    refine R.fa Try.runUnderlying23 Try.sizeOf3 ?_
                    refine R.gY (zg26) ?_
                    refine R.ld Try.isAgg3 ?_
                    refine R.gY (zg26) ?_
                    refine R.cm ?_
                    refine R.pT (zg26) ?_
                    refine R.as ?_
                    refine R.nl ?_
                    refine R.hs (e' := [(3, _)]) ?_
                    refine R.sq ?_
                    refine R.sq ?_
                    refine R.rg ?_
                    refine R.mv ?_
                    refine R.nt ?_
                    refine R.nl ?_
                    refine R.hs (e' := [(60, _)]) ?_
                    refine R.cd (fun zc27 => ?_) (fun zc27 => ?_)
                    ·
                      refine R.sq ?_
                      refine R.rg ?_
                      refine R.as ?_
                      refine R.nl ?_
                      refine R.hs (e' := [(2, _)]) ?_
                      refine R.rt (RV.t .nil) 1 (congrArg (Value.int .i64) ?_)
                      simp only [errA, okH] at *; grind
                    ·
                      refine Run.skip ?_
                      refine R.sq ?_
                      refine R.rg ?_
                      refine R.as ?_
                      refine R.nl ?_
                      refine R.hs (e' := [(2, _)]) ?_
                      refine R.rt (RV.t .nil) 1 (congrArg (Value.int .i64) ?_)
                      simp only [errA, okH] at *; grind
                  ·
                    refine R.gF (zg26) ?_
                    refine R.gF (zg26) ?_
                    refine R.pF (zg26) ?_
                    refine R.as ?_
                    refine R.nl ?_
                    refine R.hs (e' := [(3, _)]) ?_
                    refine R.sq ?_
                    refine R.sq ?_
                    refine R.rg ?_
                    refine R.mv ?_
                    refine R.nt ?_
                    refine R.nl ?_
                    refine R.hs (e' := [(60, _)]) ?_
                    refine R.cT (rfl) ?_
                    refine R.sq ?_
                    refine R.rg ?_
                    refine R.as ?_
                    refine R.nl ?_
                    refine R.hs (e' := [(2, _)]) ?_
                    refine R.rt (RV.t .nil) 1 (congrArg (Value.int .i64) ?_)
                    simp only [errA, okH] at *; grind
                ·
                  refine R.gF (zg25) ?_
                  refine R.gF (zg25) ?_
                  refine R.pF (zg25) ?_
                  refine R.mv ?_
                  refine R.gF (rfl) ?_
                  refine R.gF (rfl) ?_
                  refine R.gF (rfl) ?_
                  refine R.pF (rfl) ?_
                  refine R.as ?_
                  refine R.nl ?_
                  refine R.hs (e' := [(3, _)]) ?_
                  refine R.sq ?_
                  refine R.sq ?_
                  refine R.rg ?_
                  refine R.mv ?_
                  refine R.nt ?_
                  refine R.nl ?_
                  refine R.hs (e' := [(60, _)]) ?_
                  refine R.cT (rfl) ?_
                  refine R.sq ?_
                  refine R.rg ?_
                  refine R.as ?_
                  refine R.nl ?_
                  refine R.hs (e' := [(2, _)]) ?_
                  refine R.rt (RV.t .nil) 1 (congrArg (Value.int .i64) ?_)
                  simp only [errA, okH] at *; grind
              ·
                refine R.gF (zg24) ?_
                refine R.gF (zg24) ?_
                refine R.gF (zg24) ?_
                refine R.pF (zg24) ?_
                refine R.mv ?_
                refine R.gF (rfl) ?_
                refine R.gF (rfl) ?_
                refine R.gF (rfl) ?_
                refine R.pF (rfl) ?_
                refine R.mv ?_
                refine R.gF (rfl) ?_
                refine R.gF (rfl) ?_
                refine R.gF (rfl) ?_
                refine R.pF (rfl) ?_
                refine R.as ?_
                refine R.nl ?_
                refine R.hs (e' := [(3, _)]) ?_
                refine R.sq ?_
                refine R.sq ?_
                refine R.rg ?_
                refine R.mv ?_
                refine R.nt ?_
                refine R.nl ?_
                refine R.hs (e' := [(60, _)]) ?_
                refine R.cT (rfl) ?_
                refine R.sq ?_
                refine R.rg ?_
                refine R.as ?_
                refine R.nl ?_
                refine R.hs (e' := [(2, _)]) ?_
                refine R.rt (RV.t .nil) 1 (congrArg (Value.int .i64) ?_)
                simp only [errA, okH] at *; grind
            ·
              refine R.gF (zg23) ?_
              refine R.gF (zg23) ?_
              refine R.pF (zg23) ?_
              refine R.mv ?_
              refine R.gF (rfl) ?_
              refine R.gF (rfl) ?_
              refine R.gF (rfl) ?_
              refine R.gF (rfl) ?_
              refine R.pF (rfl) ?_
              refine R.mv ?_
              refine R.gF (rfl) ?_
              refine R.gF (rfl) ?_
              refine R.gF (rfl) ?_
              refine R.pF (rfl) ?_
              refine R.mv ?_
              refine R.gF (rfl) ?_
              refine R.gF (rfl) ?_
              refine R.gF (rfl) ?_
              refine R.pF (rfl) ?_
              refine R.as ?_
              refine R.nl ?_
              refine R.hs (e' := [(3, _)]) ?_
              refine R.sq ?_
              refine R.sq ?_
              refine R.rg ?_
              refine R.mv ?_
              refine R.nt ?_
              refine R.nl ?_
              refine R.hs (e' := [(60, _)]) ?_
              refine R.cT (rfl) ?_
              refine R.sq ?_
              refine R.rg ?_
              refine R.as ?_
              refine R.nl ?_
              refine R.hs (e' := [(2, _)]) ?_
              refine R.rt (RV.t .nil) 1 (congrArg (Value.int .i64) ?_)
              simp only [errA, okH] at *; grind
          ·
            refine R.gF (zg22) ?_
            refine R.gF (zg22) ?_
            refine R.pF (zg22) ?_
            refine R.mv ?_
            refine R.gF (rfl) ?_
            refine R.gF (rfl) ?_
            refine R.gF (rfl) ?_
            refine R.pF (rfl) ?_
            refine R.mv ?_
            refine R.gF (rfl) ?_
            refine R.gF (rfl) ?_
            refine R.gF (rfl) ?_
            refine R.gF (rfl) ?_
            refine R.pF (rfl) ?_
            refine R.mv ?_
            refine R.gF (rfl) ?_
            refine R.gF (rfl) ?_
            refine R.gF (rfl) ?_
            refine R.pF (rfl) ?_
            refine R.mv ?_
            refine R.gF (rfl) ?_
            refine R.gF (rfl) ?_
            refine R.gF (rfl) ?_
            refine R.pF (rfl) ?_
            refine R.as ?_
            refine R.nl ?_
            refine R.hs (e' := [(3, _)]) ?_
            refine R.sq ?_
            refine R.sq ?_
            refine R.rg ?_
            refine R.mv ?_
            refine R.nt ?_
            refine R.nl ?_
            refine R.hs (e' := [(60, _)]) ?_
            refine R.cT (rfl) ?_
            refine R.sq ?_
            refine R.rg ?_
            refine R.as ?_
            refine R.nl ?_
            refine R.hs (e' := [(2, _)]) ?_
            refine R.rt (RV.t .nil) 1 (congrArg (Value.int .i64) ?_)
            simp only [errA, okH] at *; grind
        ·
          refine R.gF (zg21) ?_
          refine R.gF (zg21) ?_
          refine R.pF (zg21) ?_
          refine R.mv ?_
          refine R.gF (rfl) ?_
          refine R.gF (rfl) ?_
          refine R.gF (rfl) ?_
          refine R.pF (rfl) ?_
          refine R.mv ?_
          refine R.gF (rfl) ?_
          refine R.gF (rfl) ?_
          refine R.gF (rfl) ?_
          refine R.pF (rfl) ?_
          refine R.mv ?_
          refine R.gF (rfl) ?_
          refine R.gF (rfl) ?_
          refine R.gF (rfl) ?_
          refine R.gF (rfl) ?_
          refine R.pF (rfl) ?_
          refine R.mv ?_
          refine R.gF (rfl) ?_
          refine R.gF (rfl) ?_
          refine R.gF (rfl) ?_
          refine R.pF (rfl) ?_
          refine R.mv ?_
          refine R.gF (rfl) ?_
          refine R.gF (rfl) ?_
          refine R.gF (rfl) ?_
          refine R.pF (rfl) ?_
          refine R.as ?_
          refine R.nl ?_
          refine R.hs (e' := [(3, _)]) ?_
          refine R.sq ?_
          refine R.sq ?_
          refine R.rg ?_
          refine R.mv ?_
          refine R.nt ?_
          refine R.nl ?_
          refine R.hs (e' := [(60, _)]) ?_
          refine R.cT (rfl) ?_
          refine R.sq ?_
          refine R.rg ?_
          refine R.as ?_
          refine R.nl ?_
          refine R.hs (e' := [(2, _)]) ?_
          refine R.rt (RV.t .nil) 1 (congrArg (Value.int .i64) ?_)
          simp only [errA, okH] at *; grind
      ·
        refine R.gF (zg20) ?_
        refine R.gF (zg20) ?_
        refine R.pF (zg20) ?_
        refine R.mv ?_
        refine R.gF (rfl) ?_
        refine R.gF (rfl) ?_
        refine R.gF (rfl) ?_
        refine R.pF (rfl) ?_
        refine R.mv ?_
        refine R.gF (rfl) ?_
        refine R.gF (rfl) ?_
        refine R.gF (rfl) ?_
        refine R.pF (rfl) ?_
        refine R.mv ?_
        refine R.gF (rfl) ?_
        refine R.gF (rfl) ?_
        refine R.gF (rfl) ?_
        refine R.pF (rfl) ?_
        refine R.mv ?_
        refine R.gF (rfl) ?_
        refine R.gF (rfl) ?_
        refine R.gF (rfl) ?_
        refine R.gF (rfl) ?_
        refine R.pF (rfl) ?_
        refine R.mv ?_
        refine R.gF (rfl) ?_
        refine R.gF (rfl) ?_
        refine R.gF (rfl) ?_
        refine R.pF (rfl) ?_
        refine R.mv ?_
        refine R.gF (rfl) ?_
        refine R.gF (rfl) ?_
        refine R.gF (rfl) ?_
        refine R.pF (rfl) ?_
        refine R.as ?_
        refine R.nl ?_
        refine R.hs (e' := [(3, _)]) ?_
        refine R.sq ?_
        refine R.sq ?_
        refine R.rg ?_
        refine R.mv ?_
        refine R.nt ?_
        refine R.nl ?_
        refine R.hs (e' := [(60, _)]) ?_
        refine R.cT (rfl) ?_
        refine R.sq ?_
        refine R.rg ?_
        refine R.as ?_
        refine R.nl ?_
        refine R.hs (e' := [(2, _)]) ?_
        refine R.rt (RV.t .nil) 1 (congrArg (Value.int .i64) ?_)
        simp only [errA, okH] at *; grind
  ·
    refine R.gF (zg2) ?_
    refine R.gF (zg2) ?_
    refine R.pF (zg2) ?_
    refine R.as ?_
    refine R.nl ?_
    refine R.hs (e' := [(1, _), (3, _)]) ?_
    refine R.sq ?_
    refine R.sq ?_
    refine R.rg ?_
    refine R.fa Try.runUnderlying23 Try.sizeOf4 ?_
    refine R.ld Try.isAgg4 ?_
    refine R.nl ?_
    refine R.hs (e' := [(1, _), (3, _), (13, _)]) ?_
    refine R.cd (fun zc28 => ?_) (fun zc28 => ?_)
    ·
      refine Run.drawC Grow.eq 6 [(1, _), (3, _)] mix (by kernel_rfl) (by repeat (first | exact trivial | refine ⟨rfl, ?_⟩)) ?_
      apply TC.val []
      · exact rfl
      · kernel_rfl
      ·
        rintro _ rfl 
        refine R.mv ?_
        refine R.nl ?_
        exact Run.loc rfl rfl rfl
      apply TC.val [0]
      · exact rfl
      · kernel_rfl
      ·
        rintro _ rfl _ rfl
        refine R.mv ?_
        refine R.nl ?_
        exact Run.loc rfl rfl rfl
      apply TC.val [0]
      · exact rfl
      · kernel_rfl
      ·
        rintro _ rfl _ rfl
        refine R.gF (rfl) ?_
        refine R.nl ?_
        exact Run.loc rfl rfl rfl
      apply TC.val [1]
      · exact rfl
      · kernel_rfl
      ·
        rintro _ rfl _ rfl
        refine R.gF (rfl) ?_
        refine R.nl ?_
        exact Run.loc rfl rfl rfl
      apply TC.val [2, 0]
      · exact rfl
      · kernel_rfl
      ·
        rintro _ rfl _ rfl _ rfl
        refine R.gF (rfl) ?_
        refine R.nl ?_
        exact Run.loc rfl rfl rfl
      apply TC.val [3, 0]
      · exact rfl
      · kernel_rfl
      ·
        rintro _ rfl _ rfl _ rfl
        refine R.gF (rfl) ?_
        refine R.nl ?_
        exact Run.loc rfl rfl rfl
      refine TC.fin (by rfl) ?_
      rintro _ rfl _ rfl _ rfl _ rfl _ rfl _ rfl _ rfl
      refine R.gF (rfl) ?_
      refine R.pF (rfl) ?_
      refine R.as ?_
      refine R.nl ?_
      refine R.hs (e' := [(3, _)]) ?_
      refine R.sq ?_
      refine R.sq ?_
      refine R.rg ?_
      refine R.mv ?_
      refine R.nt ?_
      refine R.nl ?_
      refine R.hs (e' := [(60, _)]) ?_
      refine R.cT (rfl) ?_
      refine R.sq ?_
      refine R.rg ?_
      refine R.as ?_
      refine R.nl ?_
      refine R.hs (e' := [(2, _)]) ?_
      refine R.rt (RV.t .nil) 1 (congrArg (Value.int .i64) ?_)
      simp only [errA, okH] at *; grind
    ·
      refine R.rg ?_
      refine R.mv ?_
      refine R.mv ?_
      refine R.gF (rfl) ?_
      refine R.gF (rfl) ?_
      refine R.gF (rfl) ?_
      refine R.pF (rfl) ?_
      refine R.mv ?_
      refine R.gF (rfl) ?_
      refine R.gF (rfl) ?_
      refine R.gF (rfl) ?_
      refine R.pF (rfl) ?_
      refine R.mv ?_
      refine R.gF (rfl) ?_
      refine R.gF (rfl) ?_
      refine R.gF (rfl) ?_
      refine R.pF (rfl) ?_
      refine R.mv ?_
      refine R.gF (rfl) ?_
      refine R.gF (rfl) ?_
      refine R.gF (rfl) ?_
      refine R.pF (rfl) ?_
      refine R.mv ?_
      refine R.gF (rfl) ?_
      refine R.gF (rfl) ?_
      refine R.gF (rfl) ?_
      refine R.gF (rfl) ?_
      refine R.pF (rfl) ?_
      refine R.mv ?_
      refine R.gF (rfl) ?_
      refine R.gF (rfl) ?_
      refine R.gF (rfl) ?_
      refine R.pF (rfl) ?_
      refine R.mv ?_
      refine R.gF (rfl) ?_
      refine R.gF (rfl) ?_
      refine R.gF (rfl) ?_
      refine R.pF (rfl) ?_
      refine R.as ?_
      refine R.nl ?_
      refine R.hs (e' := [(3, _)]) ?_
      refine R.sq ?_
      refine R.sq ?_
      refine R.rg ?_
      refine R.mv ?_
      refine R.nt ?_
      refine R.nl ?_
      refine R.hs (e' := [(60, _)]) ?_
      refine R.cT (rfl) ?_
      refine R.sq ?_
      refine R.rg ?_
      refine R.as ?_
      refine R.nl ?_
      refine R.hs (e' := [(2, _)]) ?_
      refine R.rt (RV.t .nil) 1 (congrArg (Value.int .i64) ?_)
      simp only [errA, okH] at *; grind
theorem hAt_spec {g : Gl} {D : Dict} {M : MList} (l : Lv) (delta id : Int) : Gives Try.prog g 27 [.agg (Lv.cells l).toArray, .int .i64 delta, .int .i64 id] D M
    (.tuple #[.agg (Ht.cells (if okH (atH l delta id) then atH l delta id else z0H)).toArray, .int .i64 (errA (okH (atH l delta id)))]) := by
  refine Gives.enter Try.func27 rfl Try.ntmps27 ?_
  refine R.sq ?_
  refine R.rg ?_
  refine R.bxA (fun zb1 hzb1 => ?_)
  refine R.alA Try.zeroValue23 (fun zb2 hzb2 => ?_)
  refine R.as ?_
  refine R.nl ?_
  refine R.hs (e' := [(1, _), (2, _), (3, _), (6, _)]) ?_
  refine R.sq ?_
  refine R.rg ?_
  refine R.fa Try.runUnderlying42 Try.sizeOf3 ?_
  refine R.ld Try.isAgg3 ?_
  refine R.fa Try.runUnderlying42 Try.sizeOf3 ?_
  refine R.ld Try.isAgg3 ?_
  refine R.fa Try.runUnderlying42 Try.sizeOf3 ?_
  refine R.ld Try.isAgg3 ?_
  refine R.mv ?_
  refine R.mv ?_
  refine R.bd Try.zeroValue23 places23 ?_
  refine R.alA Try.zeroValue23 (fun zb3 hzb3 => ?_)
  refine R.st Try.sizeOf23 ?_
  refine R.nl ?_
  refine R.hs (e' := [(6, _), (8, _)]) ?_
  refine R.sq ?_
  refine R.sq ?_
  refine R.rg ?_
  refine R.lA 6 Try.isAgg23 Try.sizeOf23 ?_
  refine R.cg Try.call25 (hCheck_spec (atH l delta id)) ?_
  refine R.as ?_
  refine R.nl ?_
  refine R.hs (e' := [(6, _), (8, _), (9, _)]) ?_
  refine R.sq ?_
  refine R.rg ?_
  refine R.mv ?_
  refine R.cm ?_
  refine R.nl ?_
  refine R.hs (e' := [(6, _), (8, _), (9, _), (22, _)]) ?_
  refine R.cd (fun zc4 => ?_) (fun zc4 => ?_)
  ·
    refine R.sq ?_
    refine R.rg ?_
    refine R.bd Try.zeroValue23 places23 ?_
    refine R.mv ?_
    refine R.st Try.sizeOf23 ?_
    refine R.as ?_
    refine R.nl ?_
    refine R.hs (e' := [(6, _), (7, _)]) ?_
    refine R.rt (RV.a Try.isAgg23 Try.sizeOf23 (RV.t .nil)) 3 ?_
    cases hq : okH (atH l delta id) <;> simp only [hq] at * <;> first | rfl | (simp [errA] at *)
  ·
    refine Run.skip ?_
    refine R.sq ?_
    refine R.rg ?_
    refine R.lA 6 Try.isAgg23 Try.sizeOf23 ?_
    refine R.st Try.sizeOf23 ?_
    refine R.as ?_
    refine R.nl ?_
    refine R.hs (e' := [(6, _), (7, _)]) ?_
    refine R.rt (RV.a Try.isAgg23 Try.sizeOf23 (RV.t .nil)) 3 ?_
    cases hq : okH (atH l delta id) <;> simp only [hq] at * <;> first | rfl | (simp [errA] at *)
end Go.Proofs.Ytgdpjpmjcpieiaa
