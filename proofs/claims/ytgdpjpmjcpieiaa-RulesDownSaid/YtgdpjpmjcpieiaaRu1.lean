/- Which height a node takes: the law's own text tells true. No condition. -/
import Derived.Test.YtgdpjpmjcpieiaaCs3
namespace Go.Proofs.Ytgdpjpmjcpieiaa
open Go
set_option linter.unusedVariables false
set_option linter.unusedSimpArgs false
set_option maxRecDepth 100000
set_option maxHeartbeats 0
def awV : Vw := ⟨3, ⟨false, 0, 0, 0, 1, 3⟩⟩
theorem aw_adopt : adoptR [awV] 5 = (⟨false, 0, 0, 0, 2, 5⟩, 0) := by decide
theorem aw_case : caseV ⟨false, 0, 0, 0, 0, 5⟩ [awV] 9 false = (⟨false, 0, 0, 1, 0, 5⟩, 3, 0) := by decide
theorem awake19_spec {g : Gl} {D : Dict} {M : MList} : Gives Try.prog g 13 [] D M (.bool true) := by
  refine Gives.enter Try.func13 rfl Try.ntmps13 ?_
  refine R.sq ?_
  refine R.rg ?_
  refine R.as ?_
  refine R.nl ?_
  refine R.hs (e' := []) ?_
  refine R.sq ?_
  refine R.rg ?_
  refine R.bd Try.zeroValue23 places23 ?_
  refine R.bd Try.zeroValue36 places36 ?_
  refine R.bs zc36 Try.runUnderlying24 Try.sizeOf36 Try.zeroValue36 (fun b1 hb1 => ?_)
  refine R.as ?_
  refine R.nl ?_
  refine R.frz (fun E hle hr => ?_)
  have ha : Vws E (.slice (some ⟨b1, 0, none⟩) 1 1) [awV] := Lst.lit [awV] hr rfl (fun _ => rfl) rfl (by decide) (by decide)
  have hA := fun M => adopt_spec (g := g) (D := E) (M := M) 5 ha
  simp only [aw_adopt] at hA
  have hC := fun M => case_spec (g := g) (D := E) (M := M) ⟨false, 0, 0, 0, 0, 5⟩ 9 false (by decide) ha
  simp only [aw_case] at hC
  refine R.hs (e' := [(1, _)]) ?_
  refine R.sq ?_
  refine R.rg ?_
  refine R.mv ?_
  refine R.cg Try.call7 (hA _) ?_
  refine R.mv ?_
  refine R.ex ?_
  refine R.ex ?_
  refine R.alA Try.zeroValue23 (fun zb2 hzb2 => ?_)
  refine R.st Try.sizeOf23 ?_
  refine R.as ?_
  refine R.nl ?_
  refine R.hs (e' := [(1, _), (2, _), (3, _)]) ?_
  refine R.sq ?_
  refine R.rg ?_
  refine R.bd Try.zeroValue23 places23 ?_
  refine R.mv ?_
  refine R.cg Try.call11 (hC _) ?_
  refine R.mv ?_
  refine R.ex ?_
  refine R.ex ?_
  refine R.ex ?_
  refine R.alA Try.zeroValue23 (fun zb3 hzb3 => ?_)
  refine R.st Try.sizeOf23 ?_
  refine R.as ?_
  refine R.as ?_
  refine R.nl ?_
  refine R.hs (e' := [(2, _), (3, _), (4, _), (5, _), (6, _)]) ?_
  refine R.sq ?_
  refine R.rg ?_
  refine R.lA 6 Try.isAgg23 Try.sizeOf23 ?_
  refine R.bd Try.zeroValue23 places23 ?_
  refine R.ea Try.eqGuardType23 (eqAt23 _ _ _ _ _ _ _ _ _ _ _ _) ?_
  refine R.mv ?_
  refine R.gd (fun zg4 => ?_) (fun zg4 => ?_)
  ·
    refine R.mv ?_
    refine R.gY (zg4) ?_
    refine R.cm ?_
    refine R.pT (zg4) ?_
    refine R.mv ?_
    refine R.gd (fun zg5 => ?_) (fun zg5 => ?_)
    ·
      refine R.lA 6 Try.isAgg23 Try.sizeOf23 ?_
      refine R.gY (zg5) ?_
      refine R.bd Try.zeroValue23 places23 ?_
      refine R.gY (zg5) ?_
      refine R.ea Try.eqGuardType23 (eqAt23 _ _ _ _ _ _ _ _ _ _ _ _) ?_
      refine R.pT (zg5) ?_
      refine R.mv ?_
      refine R.gd (fun zg6 => ?_) (fun zg6 => ?_)
      ·
        refine R.mv ?_
        refine R.gY (zg6) ?_
        refine R.cm ?_
        refine R.pT (zg6) ?_
        refine R.mv ?_
        refine R.gd (fun zg7 => ?_) (fun zg7 => ?_)
        ·
          refine R.mv ?_
          refine R.gY (zg7) ?_
          refine R.mv ?_
          refine R.gY (zg7) ?_
          refine R.cm ?_
          refine R.pT (zg7) ?_
          refine R.as ?_
          refine R.nl ?_
          refine R.hs (e' := [(0, _)]) ?_
          refine R.rl (RV.t .nil) 2 hle (congrArg Value.bool ?_)
          simp_all
        ·
          refine R.gF (zg7) ?_
          refine R.gF (zg7) ?_
          refine R.pF (zg7) ?_
          refine R.as ?_
          refine R.nl ?_
          refine R.hs (e' := [(0, _)]) ?_
          refine R.rl (RV.t .nil) 2 hle (congrArg Value.bool ?_)
          simp_all
      ·
        refine R.gF (zg6) ?_
        refine R.pF (zg6) ?_
        refine R.mv ?_
        refine R.gF (rfl) ?_
        refine R.gF (rfl) ?_
        refine R.gF (rfl) ?_
        refine R.pF (rfl) ?_
        refine R.as ?_
        refine R.nl ?_
        refine R.hs (e' := [(0, _)]) ?_
        refine R.rl (RV.t .nil) 2 hle (congrArg Value.bool ?_)
        simp_all
    ·
      refine R.gF (zg5) ?_
      refine R.gF (zg5) ?_
      refine R.pF (zg5) ?_
      refine R.mv ?_
      refine R.gF (rfl) ?_
      refine R.gF (rfl) ?_
      refine R.pF (rfl) ?_
      refine R.mv ?_
      refine R.gF (rfl) ?_
      refine R.gF (rfl) ?_
      refine R.gF (rfl) ?_
      refine R.pF (rfl) ?_
      refine R.as ?_
      refine R.nl ?_
      refine R.hs (e' := [(0, _)]) ?_
      refine R.rl (RV.t .nil) 2 hle (congrArg Value.bool ?_)
      simp_all
  ·
    refine R.gF (zg4) ?_
    refine R.pF (zg4) ?_
    refine R.mv ?_
    refine R.gF (rfl) ?_
    refine R.gF (rfl) ?_
    refine R.gF (rfl) ?_
    refine R.pF (rfl) ?_
    refine R.mv ?_
    refine R.gF (rfl) ?_
    refine R.gF (rfl) ?_
    refine R.pF (rfl) ?_
    refine R.mv ?_
    refine R.gF (rfl) ?_
    refine R.gF (rfl) ?_
    refine R.gF (rfl) ?_
    refine R.pF (rfl) ?_
    refine R.as ?_
    refine R.nl ?_
    refine R.hs (e' := [(0, _)]) ?_
    refine R.rl (RV.t .nil) 2 hle (congrArg Value.bool ?_)
    simp_all
theorem rulesDo_spec {g : Gl} {D : Dict} {M : MList} {a : Value} {xs : List Vw} (own : Ht) (now me : Int) (lost : Bool) (ha : Vws D a xs) :
    Gives Try.prog g 3 [.agg (Ht.cells own).toArray, a, .int .i64 now, .int .i64 me, .bool lost] D M (.bool true) := by
  have hle : Le D D := Le.rfl'
  refine Gives.enter Try.func3 rfl Try.ntmps3 ?_
  refine R.sq ?_
  refine R.rg ?_
  refine R.bxA (fun zb1 hzb1 => ?_)
  refine R.as ?_
  refine R.nl ?_
  refine R.hs (e' := [(1, _), (2, _), (3, _), (4, _), (5, _)]) ?_
  refine R.sq ?_
  refine R.sq ?_
  refine R.rg ?_
  refine R.mv ?_
  refine R.ll (ha) Try.runUnderlying24 ?_
  refine R.cm ?_
  refine R.nl ?_
  refine R.hs (e' := [(1, _), (2, _), (3, _), (4, _), (5, _), (28, _)]) ?_
  refine R.cd (fun zc2 => ?_) (fun zc2 => ?_)
  ·
    refine R.sq ?_
    refine R.rg ?_
    refine R.as ?_
    refine R.nl ?_
    refine R.hs (e' := [(10, _)]) ?_
    first | exact R.rl (RV.t .nil) 1 hle rfl | (refine R.rl (RV.t .nil) 7 hle (congrArg Value.bool ?_) <;> simp_all)
  ·
    have hn : xs.length ≤ 1000 := by simp at zc2; omega
    refine Run.skip ?_
    refine R.sq ?_
    refine R.rg ?_
    refine R.mv ?_
    refine R.gt Try.call6 (own_spec hn ha) (fun zr3_1 zD3 hzD3 hzr3_1 => ?_)
    try replace hle := hle.mono hzD3
    try replace ha := ha.mono hzD3
    refine R.as ?_
    refine R.nl ?_
    have hm := hzr3_1
    refine R.hs (e' := [(1, _), (2, _), (3, _), (4, _), (5, _), (11, _)]) ?_
    refine R.sq ?_
    refine R.rg ?_
    refine R.mv ?_
    refine R.mv ?_
    refine R.cg Try.call7 (adopt_spec me hm) ?_
    refine R.mv ?_
    refine R.ex ?_
    refine R.ex ?_
    refine R.alA Try.zeroValue23 (fun zb4 hzb4 => ?_)
    refine R.st Try.sizeOf23 ?_
    refine R.as ?_
    refine R.nl ?_
    refine R.hs (e' := [(1, _), (2, _), (3, _), (4, _), (5, _), (11, _), (12, _), (13, _)]) ?_
    refine R.sq ?_
    refine R.rg ?_
    refine R.mv ?_
    refine R.mv ?_
    refine R.cg Try.call8 (refAdopt_spec me ha) ?_
    refine R.mv ?_
    refine R.ex ?_
    refine R.ex ?_
    refine R.alA Try.zeroValue23 (fun zb5 hzb5 => ?_)
    refine R.st Try.sizeOf23 ?_
    refine R.as ?_
    refine R.nl ?_
    refine R.hs (e' := [(1, _), (2, _), (3, _), (4, _), (5, _), (11, _), (12, _), (13, _), (14, _), (15, _)]) ?_
    refine R.sq ?_
    refine R.rg ?_
    refine R.mv ?_
    refine R.mv ?_
    refine R.cg Try.call9 (gen_spec _ _) ?_
    refine R.mv ?_
    refine R.ex ?_
    refine R.ex ?_
    refine R.alA Try.zeroValue23 (fun zb6 hzb6 => ?_)
    refine R.st Try.sizeOf23 ?_
    refine R.as ?_
    refine R.nl ?_
    refine R.hs (e' := [(1, _), (2, _), (3, _), (4, _), (5, _), (11, _), (12, _), (13, _), (14, _), (15, _), (16, _), (17, _)]) ?_
    refine R.sq ?_
    refine R.rg ?_
    refine R.mv ?_
    refine R.mv ?_
    refine R.cg Try.call10 (refGen_spec _ _) ?_
    refine R.mv ?_
    refine R.ex ?_
    refine R.ex ?_
    refine R.alA Try.zeroValue23 (fun zb7 hzb7 => ?_)
    refine R.st Try.sizeOf23 ?_
    refine R.as ?_
    refine R.nl ?_
    refine R.hs (e' := [(1, _), (2, _), (4, _), (5, _), (11, _), (12, _), (13, _), (14, _), (15, _), (16, _), (17, _), (18, _), (19, _)]) ?_
    refine R.sq ?_
    refine R.rg ?_
    refine R.lA 6 Try.isAgg23 Try.sizeOf23 ?_
    refine R.mv ?_
    refine R.mv ?_
    refine R.mv ?_
    refine R.cg Try.call11 (case_spec own now lost hn hm) ?_
    refine R.mv ?_
    refine R.ex ?_
    refine R.ex ?_
    refine R.ex ?_
    refine R.alA Try.zeroValue23 (fun zb8 hzb8 => ?_)
    refine R.st Try.sizeOf23 ?_
    refine R.as ?_
    refine R.as ?_
    refine R.nl ?_
    refine R.hs (e' := [(1, _), (2, _), (4, _), (5, _), (11, _), (12, _), (13, _), (14, _), (15, _), (16, _), (17, _), (18, _), (19, _), (20, _), (21, _), (22, _)]) ?_
    refine R.sq ?_
    refine R.rg ?_
    refine R.lA 6 Try.isAgg23 Try.sizeOf23 ?_
    refine R.mv ?_
    refine R.mv ?_
    refine R.mv ?_
    refine R.cg Try.call12 (refCase_spec own now lost hn ha) ?_
    refine R.mv ?_
    refine R.ex ?_
    refine R.ex ?_
    refine R.ex ?_
    refine R.alA Try.zeroValue23 (fun zb9 hzb9 => ?_)
    refine R.st Try.sizeOf23 ?_
    refine R.as ?_
    refine R.as ?_
    refine R.nl ?_
    refine R.hs (e' := [(1, _), (11, _), (12, _), (13, _), (14, _), (15, _), (16, _), (17, _), (18, _), (19, _), (20, _), (21, _), (22, _), (23, _), (24, _), (25, _)]) ?_
    refine R.sq ?_
    refine R.rg ?_
    refine R.cg Try.call13 (awake19_spec) ?_
    refine R.mv ?_
    refine R.gd (fun zg10 => ?_) (fun zg10 => ?_)
    ·
      refine R.lA 6 Try.isAgg23 Try.sizeOf23 ?_
      refine R.gY (zg10) ?_
      refine R.lA 6 Try.isAgg23 Try.sizeOf23 ?_
      refine R.gY (zg10) ?_
      refine R.ea Try.eqGuardType23 (eqAt23 _ _ _ _ _ _ _ _ _ _ _ _) ?_
      refine R.pT (zg10) ?_
      refine R.mv ?_
      refine R.gd (fun zg11 => ?_) (fun zg11 => ?_)
      ·
        refine R.mv ?_
        refine R.gY (zg11) ?_
        refine R.mv ?_
        refine R.gY (zg11) ?_
        refine R.cm ?_
        refine R.pT (zg11) ?_
        refine R.mv ?_
        refine R.gd (fun zg12 => ?_) (fun zg12 => ?_)
        ·
          refine R.lA 6 Try.isAgg23 Try.sizeOf23 ?_
          refine R.gY (zg12) ?_
          refine R.lA 6 Try.isAgg23 Try.sizeOf23 ?_
          refine R.gY (zg12) ?_
          refine R.ea Try.eqGuardType23 (eqAt23 _ _ _ _ _ _ _ _ _ _ _ _) ?_
          refine R.pT (zg12) ?_
          refine R.mv ?_
          refine R.gd (fun zg13 => ?_) (fun zg13 => ?_)
          ·
            refine R.mv ?_
            refine R.gY (zg13) ?_
            refine R.mv ?_
            refine R.gY (zg13) ?_
            refine R.cm ?_
            refine R.pT (zg13) ?_
            refine R.mv ?_
            refine R.gd (fun zg14 => ?_) (fun zg14 => ?_)
            ·
              refine R.lA 6 Try.isAgg23 Try.sizeOf23 ?_
              refine R.gY (zg14) ?_
              refine R.lA 6 Try.isAgg23 Try.sizeOf23 ?_
              refine R.gY (zg14) ?_
              refine R.ea Try.eqGuardType23 (eqAt23 _ _ _ _ _ _ _ _ _ _ _ _) ?_
              refine R.pT (zg14) ?_
              refine R.mv ?_
              refine R.gd (fun zg15 => ?_) (fun zg15 => ?_)
              ·
                refine R.mv ?_
                refine R.gY (zg15) ?_
                refine R.mv ?_
                refine R.gY (zg15) ?_
                refine R.cm ?_
                refine R.pT (zg15) ?_
                refine R.mv ?_
                refine R.gd (fun zg16 => ?_) (fun zg16 => ?_)
                ·
                  refine R.mv ?_
                  refine R.gY (zg16) ?_
                  refine R.mv ?_
                  refine R.gY (zg16) ?_
                  refine R.cm ?_
                  refine R.pT (zg16) ?_
                  refine R.mv ?_
                  refine R.gd (fun zg17 => ?_) (fun zg17 => ?_)
                  ·
                    refine R.mv ?_
                    refine R.gY (zg17) ?_
                    refine R.mv ?_
                    refine R.gY (zg17) ?_
                    refine R.cg Try.call14 (vSame_spec hm ha) ?_
                    refine R.pT (zg17) ?_
                    refine R.as ?_
                    refine R.nl ?_
                    refine R.hs (e' := [(10, _)]) ?_
                    first | exact R.rl (RV.t .nil) 1 hle rfl | (refine R.rl (RV.t .nil) 7 hle (congrArg Value.bool ?_) <;> simp_all)
                  ·
                    refine R.gF (zg17) ?_
                    refine R.gF (zg17) ?_
                    refine R.pF (zg17) ?_
                    refine R.as ?_
                    refine R.nl ?_
                    refine R.hs (e' := [(10, _)]) ?_
                    first | exact R.rl (RV.t .nil) 1 hle rfl | (refine R.rl (RV.t .nil) 7 hle (congrArg Value.bool ?_) <;> simp_all)
                ·
                  refine R.gF (zg16) ?_
                  refine R.gF (zg16) ?_
                  refine R.pF (zg16) ?_
                  refine R.mv ?_
                  refine R.gF (rfl) ?_
                  refine R.gF (rfl) ?_
                  refine R.gF (rfl) ?_
                  refine R.pF (rfl) ?_
                  refine R.as ?_
                  refine R.nl ?_
                  refine R.hs (e' := [(10, _)]) ?_
                  first | exact R.rl (RV.t .nil) 1 hle rfl | (refine R.rl (RV.t .nil) 7 hle (congrArg Value.bool ?_) <;> simp_all)
              ·
                refine R.gF (zg15) ?_
                refine R.gF (zg15) ?_
                refine R.pF (zg15) ?_
                refine R.mv ?_
                refine R.gF (rfl) ?_
                refine R.gF (rfl) ?_
                refine R.gF (rfl) ?_
                refine R.pF (rfl) ?_
                refine R.mv ?_
                refine R.gF (rfl) ?_
                refine R.gF (rfl) ?_
                refine R.gF (rfl) ?_
                refine R.pF (rfl) ?_
                refine R.as ?_
                refine R.nl ?_
                refine R.hs (e' := [(10, _)]) ?_
                first | exact R.rl (RV.t .nil) 1 hle rfl | (refine R.rl (RV.t .nil) 7 hle (congrArg Value.bool ?_) <;> simp_all)
            ·
              refine R.gF (zg14) ?_
              refine R.gF (zg14) ?_
              refine R.pF (zg14) ?_
              refine R.mv ?_
              refine R.gF (rfl) ?_
              refine R.gF (rfl) ?_
              refine R.gF (rfl) ?_
              refine R.pF (rfl) ?_
              refine R.mv ?_
              refine R.gF (rfl) ?_
              refine R.gF (rfl) ?_
              refine R.gF (rfl) ?_
              refine R.pF (rfl) ?_
              refine R.mv ?_
              refine R.gF (rfl) ?_
              refine R.gF (rfl) ?_
              refine R.gF (rfl) ?_
              refine R.pF (rfl) ?_
              refine R.as ?_
              refine R.nl ?_
              refine R.hs (e' := [(10, _)]) ?_
              first | exact R.rl (RV.t .nil) 1 hle rfl | (refine R.rl (RV.t .nil) 7 hle (congrArg Value.bool ?_) <;> simp_all)
          ·
            refine R.gF (zg13) ?_
            refine R.gF (zg13) ?_
            refine R.pF (zg13) ?_
            refine R.mv ?_
            refine R.gF (rfl) ?_
            refine R.gF (rfl) ?_
            refine R.gF (rfl) ?_
            refine R.pF (rfl) ?_
            refine R.mv ?_
            refine R.gF (rfl) ?_
            refine R.gF (rfl) ?_
            refine R.gF (rfl) ?_
            refine R.pF (rfl) ?_
            refine R.mv ?_
            refine R.gF (rfl) ?_
            refine R.gF (rfl) ?_
            refine R.gF (rfl) ?_
            refine R.pF (rfl) ?_
            refine R.mv ?_
            refine R.gF (rfl) ?_
            refine R.gF (rfl) ?_
            refine R.gF (rfl) ?_
            refine R.pF (rfl) ?_
            refine R.as ?_
            refine R.nl ?_
            refine R.hs (e' := [(10, _)]) ?_
            first | exact R.rl (RV.t .nil) 1 hle rfl | (refine R.rl (RV.t .nil) 7 hle (congrArg Value.bool ?_) <;> simp_all)
        ·
          refine R.gF (zg12) ?_
          refine R.gF (zg12) ?_
          refine R.pF (zg12) ?_
          refine R.mv ?_
          refine R.gF (rfl) ?_
          refine R.gF (rfl) ?_
          refine R.gF (rfl) ?_
          refine R.pF (rfl) ?_
          refine R.mv ?_
          refine R.gF (rfl) ?_
          refine R.gF (rfl) ?_
          refine R.gF (rfl) ?_
          refine R.pF (rfl) ?_
          refine R.mv ?_
          refine R.gF (rfl) ?_
          refine R.gF (rfl) ?_
          refine R.gF (rfl) ?_
          refine R.pF (rfl) ?_
          refine R.mv ?_
          refine R.gF (rfl) ?_
          refine R.gF (rfl) ?_
          refine R.gF (rfl) ?_
          refine R.pF (rfl) ?_
          refine R.mv ?_
          refine R.gF (rfl) ?_
          refine R.gF (rfl) ?_
          refine R.gF (rfl) ?_
          refine R.pF (rfl) ?_
          refine R.as ?_
          refine R.nl ?_
          refine R.hs (e' := [(10, _)]) ?_
          first | exact R.rl (RV.t .nil) 1 hle rfl | (refine R.rl (RV.t .nil) 7 hle (congrArg Value.bool ?_) <;> simp_all)
      ·
        refine R.gF (zg11) ?_
        refine R.gF (zg11) ?_
        refine R.pF (zg11) ?_
        refine R.mv ?_
        refine R.gF (rfl) ?_
        refine R.gF (rfl) ?_
        refine R.gF (rfl) ?_
        refine R.pF (rfl) ?_
        refine R.mv ?_
        refine R.gF (rfl) ?_
        refine R.gF (rfl) ?_
        refine R.gF (rfl) ?_
        refine R.pF (rfl) ?_
        refine R.mv ?_
        refine R.gF (rfl) ?_
        refine R.gF (rfl) ?_
        refine R.gF (rfl) ?_
        refine R.pF (rfl) ?_
        refine R.mv ?_
        refine R.gF (rfl) ?_
        refine R.gF (rfl) ?_
        refine R.gF (rfl) ?_
        refine R.pF (rfl) ?_
        refine R.mv ?_
        refine R.gF (rfl) ?_
        refine R.gF (rfl) ?_
        refine R.gF (rfl) ?_
        refine R.pF (rfl) ?_
        refine R.mv ?_
        refine R.gF (rfl) ?_
        refine R.gF (rfl) ?_
        refine R.gF (rfl) ?_
        refine R.pF (rfl) ?_
        refine R.as ?_
        refine R.nl ?_
        refine R.hs (e' := [(10, _)]) ?_
        first | exact R.rl (RV.t .nil) 1 hle rfl | (refine R.rl (RV.t .nil) 7 hle (congrArg Value.bool ?_) <;> simp_all)
    ·
      refine R.gF (zg10) ?_
      refine R.gF (zg10) ?_
      refine R.pF (zg10) ?_
      refine R.mv ?_
      refine R.gF (rfl) ?_
      refine R.gF (rfl) ?_
      refine R.gF (rfl) ?_
      refine R.pF (rfl) ?_
      refine R.mv ?_
      refine R.gF (rfl) ?_
      refine R.gF (rfl) ?_
      refine R.gF (rfl) ?_
      refine R.pF (rfl) ?_
      refine R.mv ?_
      refine R.gF (rfl) ?_
      refine R.gF (rfl) ?_
      refine R.gF (rfl) ?_
      refine R.pF (rfl) ?_
      refine R.mv ?_
      refine R.gF (rfl) ?_
      refine R.gF (rfl) ?_
      refine R.gF (rfl) ?_
      refine R.pF (rfl) ?_
      refine R.mv ?_
      refine R.gF (rfl) ?_
      refine R.gF (rfl) ?_
      refine R.gF (rfl) ?_
      refine R.pF (rfl) ?_
      refine R.mv ?_
      refine R.gF (rfl) ?_
      refine R.gF (rfl) ?_
      refine R.gF (rfl) ?_
      refine R.pF (rfl) ?_
      refine R.mv ?_
      refine R.gF (rfl) ?_
      refine R.gF (rfl) ?_
      refine R.gF (rfl) ?_
      refine R.pF (rfl) ?_
      refine R.as ?_
      refine R.nl ?_
      refine R.hs (e' := [(10, _)]) ?_
      first | exact R.rl (RV.t .nil) 1 hle rfl | (refine R.rl (RV.t .nil) 7 hle (congrArg Value.bool ?_) <;> simp_all)
end Go.Proofs.Ytgdpjpmjcpieiaa
