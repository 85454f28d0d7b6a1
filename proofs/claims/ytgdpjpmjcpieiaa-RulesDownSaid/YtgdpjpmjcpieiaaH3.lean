/- Heights: their order, by the document's answer and by the program. No condition. -/
import Derived.Test.YtgdpjpmjcpieiaaH2
import Derived.Test.YtgdpjpmjcpieiaaList
namespace Go.Proofs.Ytgdpjpmjcpieiaa
open Go
set_option linter.unusedVariables false
set_option linter.unusedSimpArgs false
set_option maxRecDepth 100000
set_option maxHeartbeats 0
theorem nan_spec {g : Gl} {D : Dict} {M : MList} (a : Int) : Gives Try.prog g 64 [.int .i64 a] D M (.bool false) := by
  refine Gives.enter Try.func64 rfl Try.ntmps64 ?_
  refine R.sq ?_
  refine R.rg ?_
  refine R.as ?_
  refine R.nl ?_
  refine R.hs (e' := [(0, _)]) ?_
  refine R.sq ?_
  refine R.rg ?_
  refine R.mv ?_
  refine R.mv ?_
  refine R.cm ?_
  refine R.as ?_
  refine R.nl ?_
  refine R.hs (e' := [(2, _)]) ?_
  refine R.rt (RV.t .nil) 0 (congrArg Value.bool ?_)
  simp
theorem cmp_spec {g : Gl} {D : Dict} {M : MList} (a b : Int) : Gives Try.prog g 54 [.int .i64 a, .int .i64 b] D M (.int .i64 (cmpI a b)) := by
  refine Gives.enter Try.func54 rfl Try.ntmps54 ?_
  refine R.sq ?_
  refine R.rg ?_
  refine R.as ?_
  refine R.nl ?_
  refine R.hs (e' := [(0, _), (1, _)]) ?_
  refine R.sq ?_
  refine R.rg ?_
  refine R.mv ?_
  refine R.cg Try.call64 (nan_spec _) ?_
  refine R.as ?_
  refine R.nl ?_
  refine R.hs (e' := [(0, _), (1, _), (5, _)]) ?_
  refine R.sq ?_
  refine R.rg ?_
  refine R.mv ?_
  refine R.cg Try.call64 (nan_spec _) ?_
  refine R.as ?_
  refine R.nl ?_
  refine R.hs (e' := [(0, _), (1, _), (5, _), (6, _)]) ?_
  refine R.sq ?_
  refine R.sq ?_
  refine R.rg ?_
  refine R.mv ?_
  refine R.nl ?_
  refine R.hs (e' := [(0, _), (1, _), (6, _), (11, _)]) ?_
  refine R.cF (rfl) ?_
  refine Run.skip ?_
  refine R.sq ?_
  refine R.sq ?_
  refine R.rg ?_
  refine R.mv ?_
  refine R.nl ?_
  refine R.hs (e' := [(0, _), (1, _), (13, _)]) ?_
  refine R.cF (rfl) ?_
  refine Run.skip ?_
  refine R.sq ?_
  refine R.sq ?_
  refine R.rg ?_
  refine R.mv ?_
  refine R.mv ?_
  refine R.cm ?_
  refine R.nl ?_
  refine R.hs (e' := [(0, _), (1, _), (16, _)]) ?_
  refine R.cd (fun zc1 => ?_) (fun zc1 => ?_)
  ·
    refine R.sq ?_
    refine R.rg ?_
    refine R.as ?_
    refine R.nl ?_
    refine R.hs (e' := [(4, _)]) ?_
    refine R.rt (RV.t .nil) 0 (congrArg (Value.int .i64) ?_)
    simp only [cmpI] at *; grind
  ·
    refine Run.skip ?_
    refine R.sq ?_
    refine R.sq ?_
    refine R.rg ?_
    refine R.mv ?_
    refine R.mv ?_
    refine R.cm ?_
    refine R.nl ?_
    refine R.hs (e' := [(19, _)]) ?_
    refine R.cd (fun zc2 => ?_) (fun zc2 => ?_)
    ·
      refine R.sq ?_
      refine R.rg ?_
      refine R.as ?_
      refine R.nl ?_
      refine R.hs (e' := [(4, _)]) ?_
      refine R.rt (RV.t .nil) 0 (congrArg (Value.int .i64) ?_)
      simp only [cmpI] at *; grind
    ·
      refine Run.skip ?_
      refine R.sq ?_
      refine R.rg ?_
      refine R.as ?_
      refine R.nl ?_
      refine R.hs (e' := [(4, _)]) ?_
      refine R.rt (RV.t .nil) 0 (congrArg (Value.int .i64) ?_)
      simp only [cmpI] at *; grind
theorem known_spec {g : Gl} {D : Dict} {M : MList} (h : Ht) : Gives Try.prog g 51 [.agg (Ht.cells h).toArray] D M (.bool (toldH h)) := by
  refine Gives.enter Try.func51 rfl Try.ntmps51 ?_
  refine R.sq ?_
  refine R.rg ?_
  refine R.bxA (fun zb1 hzb1 => ?_)
  refine R.as ?_
  refine R.nl ?_
  refine R.hs (e' := [(1, _)]) ?_
  refine R.sq ?_
  refine R.rg ?_
  refine R.fa Try.runUnderlying23 Try.sizeOf4 ?_
  refine R.ld Try.isAgg4 ?_
  refine R.nt ?_
  refine R.mv ?_
  refine R.gd (fun zg2 => ?_) (fun zg2 => ?_)
  ·
    refine R.lA 6 Try.isAgg23 Try.sizeOf23 ?_
    refine R.gY (zg2) ?_
    refine R.cg Try.call25 (hCheck_spec _) ?_
    refine R.gY (zg2) ?_
    refine R.cm ?_
    refine R.pT (zg2) ?_
    refine R.as ?_
    refine R.nl ?_
    refine R.hs (e' := [(2, _)]) ?_
    refine R.rt (RV.t .nil) 1 (congrArg Value.bool ?_)
    simp only [toldH, errA] at *; grind
  ·
    refine R.gF (zg2) ?_
    refine R.gF (zg2) ?_
    refine R.pF (zg2) ?_
    refine R.as ?_
    refine R.nl ?_
    refine R.hs (e' := [(2, _)]) ?_
    refine R.rt (RV.t .nil) 1 (congrArg Value.bool ?_)
    simp only [toldH, errA] at *; grind
theorem lvl_spec {g : Gl} {D : Dict} {M : MList} (h : Ht) : Gives Try.prog g 18 [.agg (Ht.cells h).toArray] D M (.agg (Lv.cells (lvlH h)).toArray) := by
  refine Gives.enter Try.func18 rfl Try.ntmps18 ?_
  refine R.sq ?_
  refine R.rg ?_
  refine R.bxA (fun zb1 hzb1 => ?_)
  refine R.alA Try.zeroValue42 (fun zb2 hzb2 => ?_)
  refine R.nl ?_
  refine R.hs (e' := [(1, _), (2, _)]) ?_
  refine R.sq ?_
  refine R.sq ?_
  refine R.rg ?_
  refine R.lA 6 Try.isAgg23 Try.sizeOf23 ?_
  refine R.cg Try.call51 (known_spec _) ?_
  refine R.nt ?_
  refine R.nl ?_
  refine R.hs (e' := [(1, _), (2, _), (5, _)]) ?_
  refine R.cd (fun zc3 => ?_) (fun zc3 => ?_)
  ·
    refine R.sq ?_
    refine R.rg ?_
    refine R.bd Try.zeroValue42 places42 ?_
    refine R.st Try.sizeOf42 ?_
    refine R.nl ?_
    refine R.hs (e' := [(2, _)]) ?_
    refine R.rt (RV.a Try.isAgg42 Try.sizeOf42 .nil) 2 ?_
    simp_all [lvlH]
  ·
    refine Run.skip ?_
    refine R.sq ?_
    refine R.rg ?_
    refine R.fa Try.runUnderlying23 Try.sizeOf3 ?_
    refine R.ld Try.isAgg3 ?_
    refine R.fa Try.runUnderlying23 Try.sizeOf3 ?_
    refine R.ld Try.isAgg3 ?_
    refine R.fa Try.runUnderlying23 Try.sizeOf3 ?_
    refine R.ld Try.isAgg3 ?_
    refine R.bd Try.zeroValue42 places42 ?_
    refine R.st Try.sizeOf42 ?_
    refine R.nl ?_
    refine R.hs (e' := [(2, _)]) ?_
    refine R.rt (RV.a Try.isAgg42 Try.sizeOf42 .nil) 2 ?_
    simp_all [lvlH]
theorem refLvl_spec {g : Gl} {D : Dict} {M : MList} (h : Ht) : Gives Try.prog g 31 [.agg (Ht.cells h).toArray] D M (.agg (Lv.cells (lvlH h)).toArray) := by
  refine Gives.enter Try.func31 rfl Try.ntmps31 ?_
  refine R.sq ?_
  refine R.rg ?_
  refine R.bxA (fun zb1 hzb1 => ?_)
  refine R.alA Try.zeroValue42 (fun zb2 hzb2 => ?_)
  refine R.nl ?_
  refine R.hs (e' := [(1, _), (2, _)]) ?_
  refine R.sq ?_
  refine R.sq ?_
  refine R.rg ?_
  refine R.lA 6 Try.isAgg23 Try.sizeOf23 ?_
  refine R.cg Try.call50 (refTold_spec _) ?_
  refine R.nt ?_
  refine R.nl ?_
  refine R.hs (e' := [(1, _), (2, _), (5, _)]) ?_
  refine R.cd (fun zc3 => ?_) (fun zc3 => ?_)
  ·
    refine R.sq ?_
    refine R.rg ?_
    refine R.bd Try.zeroValue42 places42 ?_
    refine R.st Try.sizeOf42 ?_
    refine R.nl ?_
    refine R.hs (e' := [(2, _)]) ?_
    refine R.rt (RV.a Try.isAgg42 Try.sizeOf42 .nil) 2 ?_
    simp_all [lvlH]
  ·
    refine Run.skip ?_
    refine R.sq ?_
    refine R.rg ?_
    refine R.fa Try.runUnderlying23 Try.sizeOf3 ?_
    refine R.ld Try.isAgg3 ?_
    refine R.fa Try.runUnderlying23 Try.sizeOf3 ?_
    refine R.ld Try.isAgg3 ?_
    refine R.fa Try.runUnderlying23 Try.sizeOf3 ?_
    refine R.ld Try.isAgg3 ?_
    refine R.bd Try.zeroValue42 places42 ?_
    refine R.st Try.sizeOf42 ?_
    refine R.nl ?_
    refine R.hs (e' := [(2, _)]) ?_
    refine R.rt (RV.a Try.isAgg42 Try.sizeOf42 .nil) 2 ?_
    simp_all [lvlH]
theorem refAt_spec {g : Gl} {D : Dict} {M : MList} (l : Lv) (delta id : Int) : Gives Try.prog g 30 [.agg (Lv.cells l).toArray, .int .i64 delta, .int .i64 id] D M
    (.tuple #[.agg (Ht.cells (if okH (atH l delta id) then atH l delta id else z0H)).toArray, .int .i64 (errA (okH (atH l delta id)))]) := by
  refine Gives.enter Try.func30 rfl Try.ntmps30 ?_
  refine R.sq ?_
  refine R.rg ?_
  refine R.bxA (fun zb1 hzb1 => ?_)
  refine R.alA Try.zeroValue23 (fun zb2 hzb2 => ?_)
  refine R.as ?_
  refine R.nl ?_
  refine R.hs (e' := [(1, _), (2, _), (3, _), (6, _)]) ?_
  refine R.sq ?_
  refine R.rg ?_
  refine R.fa Try.runUnderlying42 Try.sizeOf3 ?_
  refine R.ld Try.isAgg3 ?_
  refine R.fa Try.runUnderlying42 Try.sizeOf3 ?_
  refine R.ld Try.isAgg3 ?_
  refine R.fa Try.runUnderlying42 Try.sizeOf3 ?_
  refine R.ld Try.isAgg3 ?_
  refine R.mv ?_
  refine R.mv ?_
  refine R.bd Try.zeroValue23 places23 ?_
  refine R.alA Try.zeroValue23 (fun zb3 hzb3 => ?_)
  refine R.st Try.sizeOf23 ?_
  refine R.nl ?_
  refine R.hs (e' := [(6, _), (8, _)]) ?_
  refine R.sq ?_
  refine R.sq ?_
  refine R.rg ?_
  refine R.lA 6 Try.isAgg23 Try.sizeOf23 ?_
  refine R.cg Try.call45 (refRight_spec (atH l delta id)) ?_
  refine R.nt ?_
  refine R.nl ?_
  refine R.hs (e' := [(6, _), (8, _), (20, _)]) ?_
  refine R.cd (fun zc4 => ?_) (fun zc4 => ?_)
  ·
    refine R.sq ?_
    refine R.rg ?_
    refine R.bd Try.zeroValue23 places23 ?_
    refine R.st Try.sizeOf23 ?_
    refine R.as ?_
    refine R.nl ?_
    refine R.hs (e' := [(6, _), (7, _)]) ?_
    refine R.rt (RV.a Try.isAgg23 Try.sizeOf23 (RV.t .nil)) 3 ?_
    cases hq : okH (atH l delta id) <;> simp only [hq] at * <;> first | rfl | (simp [errA] at *)
  ·
    refine Run.skip ?_
    refine R.sq ?_
    refine R.rg ?_
    refine R.lA 6 Try.isAgg23 Try.sizeOf23 ?_
    refine R.st Try.sizeOf23 ?_
    refine R.as ?_
    refine R.nl ?_
    refine R.hs (e' := [(6, _), (7, _)]) ?_
    refine R.rt (RV.a Try.isAgg23 Try.sizeOf23 (RV.t .nil)) 3 ?_
    cases hq : okH (atH l delta id) <;> simp only [hq] at * <;> first | rfl | (simp [errA] at *)
theorem refNull_spec {g : Gl} {D : Dict} {M : MList} (id : Int) : Gives Try.prog g 48 [.int .i64 id] D M (.agg (Ht.cells (nullH id)).toArray) := by
  refine Gives.enter Try.func48 rfl Try.ntmps48 ?_
  refine R.sq ?_
  refine R.rg ?_
  refine R.alA Try.zeroValue23 (fun zb1 hzb1 => ?_)
  refine R.nl ?_
  refine R.hs (e' := [(0, _), (2, _)]) ?_
  refine R.sq ?_
  refine R.rg ?_
  refine R.mv ?_
  refine R.bd Try.zeroValue23 places23 ?_
  refine R.st Try.sizeOf23 ?_
  refine R.nl ?_
  refine R.hs (e' := [(2, _)]) ?_
  exact R.rt (RV.a Try.isAgg23 Try.sizeOf23 .nil) 1 rfl
theorem zero_spec {g : Gl} {D : Dict} {M : MList} (id : Int) : Gives Try.prog g 26 [.int .i64 id] D M (.agg (Ht.cells ⟨false, 0, 0, 0, 0, id⟩).toArray) := by
  refine Gives.enter Try.func26 rfl Try.ntmps26 ?_
  refine R.sq ?_
  refine R.rg ?_
  refine R.alA Try.zeroValue23 (fun zb1 hzb1 => ?_)
  refine R.nl ?_
  refine R.hs (e' := [(0, _), (2, _)]) ?_
  refine R.sq ?_
  refine R.rg ?_
  refine R.mv ?_
  refine R.bd Try.zeroValue23 places23 ?_
  refine R.st Try.sizeOf23 ?_
  refine R.nl ?_
  refine R.hs (e' := [(2, _)]) ?_
  exact R.rt (RV.a Try.isAgg23 Try.sizeOf23 .nil) 1 rfl
end Go.Proofs.Ytgdpjpmjcpieiaa
