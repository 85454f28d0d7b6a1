/- What maintenance says: the document's answer. No condition. -/
import Derived.Test.YtgdpjpmjcpieiaaCsP
namespace Go.Proofs.Ytgdpjpmjcpieiaa
open Go
set_option linter.unusedVariables false
set_option linter.unusedSimpArgs false
set_option maxRecDepth 100000
set_option maxHeartbeats 0
theorem refCase_spec {g : Gl} {D : Dict} {M : MList} {a : Value} {xs : List Vw} (own : Ht) (now : Int) (lost : Bool) (hn : xs.length ≤ 1000) (ha : Vws D a xs) :
    Gives Try.prog g 12 [.agg (Ht.cells own).toArray, a, .int .i64 now, .bool lost] D M (caseOut (caseV own xs now lost)) := by
  have hle : Le D D := Le.rfl'
  refine Gives.enter Try.func12 rfl Try.ntmps12 ?_
  refine R.sq ?_
  refine R.rg ?_
  refine R.bxA (fun b4 hb4 => ?_)
  refine R.alA Try.zeroValue23 (fun b8 hb8 => ?_)
  refine R.as ?_
  refine R.as ?_
  refine R.nl ?_
  refine R.hs (e' := [(1, _), (2, _), (3, _), (4, _), (8, _)]) ?_
  refine R.sq ?_
  refine R.sq ?_
  refine R.rg ?_
  refine R.lA 6 Try.isAgg23 Try.sizeOf23 ?_
  refine R.cg Try.call45 (refRight_spec own) ?_
  refine R.nt ?_
  refine R.mv ?_
  refine R.gd (fun zg3 => ?_) (fun zg3 => ?_)
  ·
    refine R.mv ?_
    refine R.gY (zg3) ?_
    refine R.cg Try.call28 (refVRight_spec ha) ?_
    refine R.gY (zg3) ?_
    refine R.nt ?_
    refine R.pF (zg3) ?_
    refine R.mv ?_
    refine R.gd (fun zg4 => ?_) (fun zg4 => ?_)
    ·
      refine R.mv ?_
      refine R.gY (zg4) ?_
      refine R.cm ?_
      refine R.pF (zg4) ?_
      refine R.mv ?_
      refine R.gd (fun zg5 => ?_) (fun zg5 => ?_)
      ·
        refine R.mv ?_
        refine R.gY (zg5) ?_
        refine R.cm ?_
        refine R.pF (zg5) ?_
        refine R.nl ?_
        refine R.hs (e' := [(1, _), (2, _), (3, _), (4, _), (8, _), (40, _)]) ?_
        refine R.cd (fun zc6 => ?_) (fun zc6 => ?_)
        ·
          have hok : okCase own xs now = false := by simp only [okCase]; simp_all <;> omega
          have hz : caseV own xs now lost = (z0H, 0, 1) := by simp [caseV, hok]
          refine R.sq ?_
          refine R.rg ?_
          refine R.bd Try.zeroValue23 places23 ?_
          refine R.st Try.sizeOf23 ?_
          refine R.as ?_
          refine R.as ?_
          refine R.nl ?_
          refine R.hs (e' := [(8, _), (9, _), (10, _)]) ?_
          exact R.rl (RV.a Try.isAgg23 Try.sizeOf23 (RV.t (RV.t .nil))) 2 hle (by first | (rw [hz]; done) | (rw [hz]; rfl))
        ·
          have hok : okCase own xs now = true := by simp only [okCase]; simp_all <;> omega
          refine Run.skip ?_
          refine R.sq ?_
          refine R.sq ?_
          refine R.rg ?_
          refine R.fa Try.runUnderlying23 Try.sizeOf4 ?_
          refine R.ld Try.isAgg4 ?_
          refine R.mv ?_
          refine R.gd (fun zg7 => ?_) (fun zg7 => ?_)
          ·
            refine R.mv ?_
            refine R.gY (zg7) ?_
            refine R.lA 6 Try.isAgg23 Try.sizeOf23 ?_
            refine R.gY (zg7) ?_
            refine R.gt Try.call46 (refDowns_spec own hn ha) (fun zr3_5 zD8 hzD8 hzr3_5 => ?_)
            try replace hle := hle.mono hzD8
            try replace ha := ha.mono hzD8
            obtain ⟨zs, hzp, hzI⟩ := hzr3_5
            have hzl := hzp.length_eq
            refine R.gY (zg7) ?_
            refine R.ll (hzI) Try.runUnderlying45 ?_
            refine R.gY (zg7) ?_
            refine R.cm ?_
            refine R.pF (zg7) ?_
            refine R.nl ?_
            refine R.hs (e' := [(1, _), (2, _), (3, _), (4, _), (8, _), (50, _)]) ?_
            refine R.cd (fun zc9 => ?_) (fun zc9 => ?_)
            ·
              have h0 : ruleIs own xs lost 0 = true := by simp only [ruleIs]; simp_all <;> omega
              have hz : caseV own xs now lost = (own, 0, 0) := (case_rule hok (by decide) upto0 h0).trans rfl
              refine R.sq ?_
              refine R.rg ?_
              refine R.lA 6 Try.isAgg23 Try.sizeOf23 ?_
              refine R.st Try.sizeOf23 ?_
              refine R.as ?_
              refine R.as ?_
              refine R.nl ?_
              refine R.hs (e' := [(8, _), (9, _), (10, _)]) ?_
              exact R.rl (RV.a Try.isAgg23 Try.sizeOf23 (RV.t (RV.t .nil))) 2 hle (by first | (rw [hz]; done) | (rw [hz]; rfl))
            ·
              have h0 : ruleIs own xs lost 0 = false := by simp only [ruleIs]; simp_all <;> omega
              have hp1 := upto upto0 h0
              refine Run.skip ?_
              refine R.sq ?_
              refine R.rg ?_
              refine R.fa Try.runUnderlying23 Try.sizeOf3 ?_
              refine R.ld Try.isAgg3 ?_
              refine R.as ?_
              refine R.nl ?_
              refine R.hs (e' := [(1, _), (2, _), (3, _), (8, _), (11, _)]) ?_
              refine R.sq ?_
              refine R.rg ?_
              refine R.mv ?_
              refine R.gt Try.call47 (refLevels_spec hn ha) (fun zr6_1 D1 hD1 hzr6_1 => ?_)
              try replace hle := hle.mono hD1
              try replace ha := ha.mono hD1
              try replace hzr3_5 := hzr3_5.mono hD1
              refine R.as ?_
              refine R.nl ?_
              have hL := hzr6_1
              refine R.hs (e' := [(1, _), (2, _), (3, _), (8, _), (11, _), (12, _)]) ?_
              refine R.sq ?_
              refine R.sq ?_
              refine R.rg ?_
              refine R.mv ?_
              refine R.ll (hL) Try.runUnderlying47 ?_
              refine R.cm ?_
              refine R.nl ?_
              refine R.hs (e' := [(1, _), (2, _), (3, _), (8, _), (11, _), (12, _), (58, _)]) ?_
              refine R.cd (fun zc10 => ?_) (fun zc10 => ?_)
              ·
                have h1 : ruleIs own xs lost 1 = true := by simp only [ruleIs]; simpa using zc10
                have hz : caseV own xs now lost = (nullH own.id, 6, 0) := (case_rule (i := 1) hok (by decide) hp1 h1).trans rfl
                refine R.sq ?_
                refine R.rg ?_
                refine R.mv ?_
                refine R.cg Try.call48 (refNull_spec _) ?_
                refine R.st Try.sizeOf23 ?_
                refine R.as ?_
                refine R.as ?_
                refine R.nl ?_
                refine R.hs (e' := [(8, _), (9, _), (10, _)]) ?_
                exact R.rl (RV.a Try.isAgg23 Try.sizeOf23 (RV.t (RV.t .nil))) 2 hle (by first | (rw [hz]; done) | (rw [hz]; rfl))
              ·
                have h1 : ruleIs own xs lost 1 = false := by simp only [ruleIs]; simpa using zc10
                have hll := levelsV_len xs
                have hp2 := upto hp1 h1
                have hlv : 0 < (levelsV xs).length := by simp only [decide_eq_false_iff_not] at zc10; omega
                obtain ⟨y, hgy⟩ := get_of_lt (xs := levelsV xs) (i := (levelsV xs).length - 1) (by omega)
                obtain ⟨b9, o9, hI9, hc9⟩ := hL.at Lv.len hgy
                have hty := topL_at hgy
                refine Run.skip ?_
                refine R.sq ?_
                refine R.sq ?_
                refine R.rg ?_
                refine R.mv ?_
                refine R.nl ?_
                refine R.hs (e' := [(1, _), (2, _), (8, _), (11, _), (12, _), (61, _)]) ?_
                refine R.cd (fun zc11 => ?_) (fun zc11 => ?_)
                ·
                  have hz : caseV own xs now lost = caseAt (genO now own.id) 1 := (case_rule (i := 2) hok (by decide) hp2 zc11).trans rfl
                  refine R.sq ?_
                  refine R.rg ?_
                  refine R.mv ?_
                  refine R.mv ?_
                  refine R.cg Try.call10 (refGen_spec now own.id) ?_
                  refine R.mv ?_
                  refine R.ex ?_
                  refine R.ex ?_
                  refine R.alA Try.zeroValue23 (fun zb12 hzb12 => ?_)
                  refine R.st Try.sizeOf23 ?_
                  refine R.as ?_
                  refine R.nl ?_
                  refine R.hs (e' := [(8, _), (13, _), (14, _)]) ?_
                  refine R.sq ?_
                  refine R.rg ?_
                  refine R.lA 6 Try.isAgg23 Try.sizeOf23 ?_
                  refine R.mv ?_
                  refine R.cg Try.call49 (with_spec _ _ _) ?_
                  refine R.ex ?_
                  refine R.ex ?_
                  refine R.ex ?_
                  refine R.st Try.sizeOf23 ?_
                  refine R.as ?_
                  refine R.as ?_
                  refine R.nl ?_
                  refine R.hs (e' := [(8, _), (9, _), (10, _)]) ?_
                  exact R.rl (RV.a Try.isAgg23 Try.sizeOf23 (RV.t (RV.t .nil))) 3 hle (by first | (rw [hz]; done) | (rw [hz]; rfl))
                ·
                  have hp3 := upto hp2 zc11
                  refine Run.skip ?_
                  refine R.sq ?_
                  refine R.rg ?_
                  refine R.mv ?_
                  refine R.mv ?_
                  refine R.ll (hL) Try.runUnderlying47 ?_
                  refine R.sb ?_
                  refine R.ix (hI9) Try.runUnderlying47 Try.sizeOf42 ?_
                  refine R.lAD 3 Try.isAgg42 Try.sizeOf42 ?_
                  refine R.alA Try.zeroValue42 (fun b15 hb15 => ?_)
                  refine R.st Try.sizeOf42 ?_
                  refine R.nl ?_
                  refine R.hs (e' := [(1, _), (2, _), (8, _), (11, _), (12, _), (15, _)]) ?_
                  refine R.sq ?_
                  refine R.sq ?_
                  refine R.rg ?_
                  refine R.mv ?_
                  refine R.ll (hL) Try.runUnderlying47 ?_
                  refine R.cm ?_
                  refine R.nl ?_
                  refine R.hs (e' := [(1, _), (2, _), (8, _), (11, _), (15, _), (82, _)]) ?_
                  refine R.cd (fun zc14 => ?_) (fun zc14 => ?_)
                  ·
                    have h3 : ruleIs own xs lost 3 = true := by simp only [ruleIs]; simp at zc14 ⊢; omega
                    have hz : caseV own xs now lost = caseAt (atO (topL xs) (leastV xs (topL xs) - 1) own.id) 2 := (case_rule (i := 3) hok (by decide) hp3 h3).trans rfl
                    rw [hty] at hz
                    refine R.sq ?_
                    refine R.rg ?_
                    refine R.as ?_
                    refine R.nl ?_
                    refine R.hs (e' := [(1, _), (8, _), (11, _), (15, _), (16, _)]) ?_
                    refine R.sq ?_
                    refine R.sq ?_
                    refine R.rg ?_
                    refine R.as ?_
                    refine R.nl ?_
                    refine R.hs (e' := [(1, _), (8, _), (11, _), (15, _), (16, _), (17, _)]) ?_
                    refine Run.block ?_
                    refine Run.loop (ι := Nat × Int) [(1, _), (8, _), (11, _), (15, _)] (fun p => [(17, .int .i64 (p.1 : Int)), (16, .int .i64 p.2)]) (fun _ => D1) (fun _ => (b15, .cells (Lv.cells y).toArray 42 (0, 0)) :: (b8, .cells (Ht.cells z0H).toArray 23 (0, 0)) :: (b4, .cells (Ht.cells own).toArray 23 (0, 0)) :: M) (fun p => p.1 ≤ xs.length ∧ p.2 = (xs.take p.1).foldl (leastStep y) 1099511627776) (fun p => xs.length - p.1) ((0, 1099511627776)) (by repeat (first | exact trivial | refine ⟨rfl, ?_⟩)) ?h0 (by repeat (first | exact trivial | refine ⟨rfl, ?_⟩)) (fun w hs => hs) ?_
                    case h0 => exact ⟨Nat.zero_le _, rfl⟩
                    rintro ⟨i, o⟩ ⟨hi, hpre⟩
                    refine R.sq ?_
                    refine R.sq ?_
                    refine R.rg ?_
                    refine R.mv ?_
                    refine R.mv ?_
                    refine R.ll (ha) Try.runUnderlying24 ?_
                    refine R.cm ?_
                    refine R.nl ?_
                    refine R.hs (e' := [(1, _), (8, _), (11, _), (15, _), (16, _), (17, _), (86, _)]) ?_
                    refine R.cd (fun zc15 => ?_) (fun zc15 => ?_)
                    ·
                      have hlt : i < xs.length := by simp at zc15; omega
                      obtain ⟨x, hgx⟩ := get_of_lt hlt
                      obtain ⟨b1, o1, hI1, hc1⟩ := ha.at Vw.len hgx
                      refine Run.skip ?_
                      refine R.sq ?_
                      refine Run.block ?_
                      refine R.sq ?_
                      refine R.rg ?_
                      refine R.mv ?_
                      refine R.mv ?_
                      refine R.ix (hI1) Try.runUnderlying24 Try.sizeOf36 ?_
                      refine R.fa Try.runUnderlying36 Try.sizeOf23 ?_
                      refine R.lAD 6 Try.isAgg23 Try.sizeOf23 ?_
                      refine R.alA Try.zeroValue23 (fun zb16 hzb16 => ?_)
                      refine R.st Try.sizeOf23 ?_
                      refine R.nl ?_
                      refine R.hs (e' := [(1, _), (8, _), (11, _), (15, _), (16, _), (17, _), (18, _)]) ?_
                      refine R.sq ?_
                      rcases Bool.eq_false_or_eq_true (toldH x.h) with zg17 | zg17
                      ·
                        rcases Bool.eq_false_or_eq_true (decide ((lvlH x.h).tau = y.tau ∧ (lvlH x.h).oid = y.oid ∧ (lvlH x.h).r = y.r)) with zg18 | zg18
                        ·
                          refine Run.drawC Grow.eq 12 [(1, _), (8, _), (11, _), (15, _), (16, _), (17, _), (18, _)] mix (by kernel_rfl) (by repeat (first | exact trivial | refine ⟨rfl, ?_⟩)) ?_
                          apply TC.val []
                          · exact rfl
                          · kernel_rfl
                          ·
                            rintro _ rfl 
                            refine R.lA 6 Try.isAgg23 Try.sizeOf23 ?_
                            refine R.nl ?_
                            exact Run.loc rfl rfl rfl
                          apply TC.val [0]
                          · exact rfl
                          · kernel_rfl
                          ·
                            rintro _ rfl _ rfl
                            refine R.cg Try.call50 (refTold_spec _) ?_
                            refine R.nl ?_
                            exact Run.loc rfl rfl rfl
                          apply TC.val [0]
                          · exact rfl
                          · kernel_rfl
                          ·
                            rintro _ rfl _ rfl
                            refine R.mv ?_
                            refine R.nl ?_
                            exact Run.loc rfl rfl rfl
                          apply TC.val [0]
                          · exact rfl
                          · kernel_rfl
                          ·
                            rintro _ rfl _ rfl
                            refine R.gY (zg17) ?_
                            refine R.lA 6 Try.isAgg23 Try.sizeOf23 ?_
                            refine R.nl ?_
                            exact Run.loc rfl rfl rfl
                          apply TC.val [1, 0]
                          · exact rfl
                          · kernel_rfl
                          ·
                            rintro _ rfl _ rfl _ rfl
                            refine R.gY (zg17) ?_
                            refine R.cg Try.call31 (refLvl_spec _) ?_
                            refine R.nl ?_
                            exact Run.loc rfl rfl rfl
                          apply TC.val [2]
                          · exact rfl
                          · kernel_rfl
                          ·
                            rintro _ rfl _ rfl
                            refine R.gY (zg17) ?_
                            refine R.lA 3 Try.isAgg42 Try.sizeOf42 ?_
                            refine R.nl ?_
                            exact Run.loc rfl rfl rfl
                          apply TC.val [3, 1, 0]
                          · exact rfl
                          · kernel_rfl
                          ·
                            rintro _ rfl _ rfl _ rfl _ rfl
                            refine R.gY (zg17) ?_
                            refine R.ea Try.eqGuardType42 (eqAt42 _ _ _ _ _ _) ?_
                            refine R.nl ?_
                            exact Run.loc rfl rfl rfl
                          apply TC.val [4, 0]
                          · exact rfl
                          · kernel_rfl
                          ·
                            rintro _ rfl _ rfl _ rfl
                            refine R.pT (zg17) ?_
                            refine R.nl ?_
                            exact Run.loc rfl rfl rfl
                          apply TC.val [0]
                          · exact rfl
                          · kernel_rfl
                          ·
                            rintro _ rfl _ rfl
                            refine R.mv ?_
                            refine R.nl ?_
                            exact Run.loc rfl rfl rfl
                          apply TC.val [0]
                          · exact rfl
                          · kernel_rfl
                          ·
                            rintro _ rfl _ rfl
                            refine R.gY (zg18) ?_
                            refine R.fa Try.runUnderlying23 Try.sizeOf3 ?_
                            refine R.nl ?_
                            exact Run.loc rfl rfl rfl
                          apply TC.val [1, 0]
                          · exact rfl
                          · kernel_rfl
                          ·
                            rintro _ rfl _ rfl _ rfl
                            refine R.gY (zg18) ?_
                            refine R.ld Try.isAgg3 ?_
                            refine R.nl ?_
                            exact Run.loc rfl rfl rfl
                          apply TC.val [2]
                          · exact rfl
                          · kernel_rfl
                          ·
                            rintro _ rfl _ rfl
                            refine R.gY (zg18) ?_
                            refine R.mv ?_
                            refine R.nl ?_
                            exact Run.loc rfl rfl rfl
                          refine TC.fin (by rfl) ?_
                          rintro _ rfl _ rfl _ rfl _ rfl _ rfl _ rfl _ rfl _ rfl _ rfl _ rfl _ rfl _ rfl _ rfl
                          refine R.gY (zg18) ?_
                          refine R.cm ?_
                          refine R.pT (zg18) ?_
                          refine R.nl ?_
                          refine R.hs (e' := [(1, _), (8, _), (11, _), (15, _), (16, _), (17, _), (18, _), (107, _)]) ?_
                          refine R.cd (fun zc32 => ?_) (fun zc32 => ?_)
                          ·
                            refine R.rg ?_
                            refine R.fa Try.runUnderlying23 Try.sizeOf3 ?_
                            refine R.ld Try.isAgg3 ?_
                            refine R.as ?_
                            refine R.nl ?_
                            refine R.hs (e' := [(1, _), (8, _), (11, _), (15, _), (16, _), (17, _)]) ?_
                            refine Run.endBlock ?_
                            refine R.rg ?_
                            refine R.mv ?_
                            refine R.ad ?_
                            refine R.as ?_
                            refine R.nl ?_
                            refine R.hs (e' := [(1, _), (8, _), (11, _), (15, _), (16, _), (17, _)]) ?_
                            refine Run.again (i + 1, _) ⟨by simp; omega, fold_step hgx hpre ?hf⟩ (by simp; omega) (by repeat (first | exact trivial | refine ⟨rfl, ?_⟩)) (fun w hs => hs.drop 1)
                            case hf => clear hpre; simp only [leastStep]; simp_all [Lv.ext'] <;> (try (intros; omega)) <;> (try grind)
                          ·
                            refine Run.skip ?_
                            refine Run.endBlock ?_
                            refine R.rg ?_
                            refine R.mv ?_
                            refine R.ad ?_
                            refine R.as ?_
                            refine R.nl ?_
                            refine R.hs (e' := [(1, _), (8, _), (11, _), (15, _), (16, _), (17, _)]) ?_
                            refine Run.again (i + 1, _) ⟨by simp; omega, fold_step hgx hpre ?hf⟩ (by simp; omega) (by repeat (first | exact trivial | refine ⟨rfl, ?_⟩)) (fun w hs => hs.drop 1)
                            case hf => clear hpre; simp only [leastStep]; simp_all [Lv.ext'] <;> (try (intros; omega)) <;> (try grind)
                        ·
                          refine Run.drawC Grow.eq 12 [(1, _), (8, _), (11, _), (15, _), (16, _), (17, _), (18, _)] mix (by kernel_rfl) (by repeat (first | exact trivial | refine ⟨rfl, ?_⟩)) ?_
                          apply TC.val []
                          · exact rfl
                          · kernel_rfl
                          ·
                            rintro _ rfl 
                            refine R.lA 6 Try.isAgg23 Try.sizeOf23 ?_
                            refine R.nl ?_
                            exact Run.loc rfl rfl rfl
                          apply TC.val [0]
                          · exact rfl
                          · kernel_rfl
                          ·
                            rintro _ rfl _ rfl
                            refine R.cg Try.call50 (refTold_spec _) ?_
                            refine R.nl ?_
                            exact Run.loc rfl rfl rfl
                          apply TC.val [0]
                          · exact rfl
                          · kernel_rfl
                          ·
                            rintro _ rfl _ rfl
                            refine R.mv ?_
                            refine R.nl ?_
                            exact Run.loc rfl rfl rfl
                          apply TC.val [0]
                          · exact rfl
                          · kernel_rfl
                          ·
                            rintro _ rfl _ rfl
                            refine R.gY (zg17) ?_
                            refine R.lA 6 Try.isAgg23 Try.sizeOf23 ?_
                            refine R.nl ?_
                            exact Run.loc rfl rfl rfl
                          apply TC.val [1, 0]
                          · exact rfl
                          · kernel_rfl
                          ·
                            rintro _ rfl _ rfl _ rfl
                            refine R.gY (zg17) ?_
                            refine R.cg Try.call31 (refLvl_spec _) ?_
                            refine R.nl ?_
                            exact Run.loc rfl rfl rfl
                          apply TC.val [2]
                          · exact rfl
                          · kernel_rfl
                          ·
                            rintro _ rfl _ rfl
                            refine R.gY (zg17) ?_
                            refine R.lA 3 Try.isAgg42 Try.sizeOf42 ?_
                            refine R.nl ?_
                            exact Run.loc rfl rfl rfl
                          apply TC.val [3, 1, 0]
                          · exact rfl
                          · kernel_rfl
                          ·
                            rintro _ rfl _ rfl _ rfl _ rfl
                            refine R.gY (zg17) ?_
                            refine R.ea Try.eqGuardType42 (eqAt42 _ _ _ _ _ _) ?_
                            refine R.nl ?_
                            exact Run.loc rfl rfl rfl
                          apply TC.val [4, 0]
                          · exact rfl
                          · kernel_rfl
                          ·
                            rintro _ rfl _ rfl _ rfl
                            refine R.pT (zg17) ?_
                            refine R.nl ?_
                            exact Run.loc rfl rfl rfl
                          apply TC.val [0]
                          · exact rfl
                          · kernel_rfl
                          ·
                            rintro _ rfl _ rfl
                            refine R.mv ?_
                            refine R.nl ?_
                            exact Run.loc rfl rfl rfl
                          apply TC.val [0]
                          · exact rfl
                          · kernel_rfl
                          ·
                            rintro _ rfl _ rfl
                            refine R.gF (zg18) ?_
                            refine R.nl ?_
                            exact Run.loc rfl rfl rfl
                          apply TC.val [1, 0]
                          · exact rfl
                          · kernel_rfl
                          ·
                            rintro _ rfl _ rfl _ rfl
                            refine R.gF (zg18) ?_
                            refine R.nl ?_
                            exact Run.loc rfl rfl rfl
                          apply TC.val [2]
                          · exact rfl
                          · kernel_rfl
                          ·
                            rintro _ rfl _ rfl
                            refine R.gF (zg18) ?_
                            refine R.nl ?_
                            exact Run.loc rfl rfl rfl
                          refine TC.fin (by rfl) ?_
                          rintro _ rfl _ rfl _ rfl _ rfl _ rfl _ rfl _ rfl _ rfl _ rfl _ rfl _ rfl _ rfl _ rfl
                          refine R.gF (zg18) ?_
                          refine R.pF (zg18) ?_
                          refine R.nl ?_
                          refine R.hs (e' := [(1, _), (8, _), (11, _), (15, _), (16, _), (17, _), (18, _), (107, _)]) ?_
                          refine R.cF (rfl) ?_
                          refine Run.skip ?_
                          refine Run.endBlock ?_
                          refine R.rg ?_
                          refine R.mv ?_
                          refine R.ad ?_
                          refine R.as ?_
                          refine R.nl ?_
                          refine R.hs (e' := [(1, _), (8, _), (11, _), (15, _), (16, _), (17, _)]) ?_
                          refine Run.again (i + 1, _) ⟨by simp; omega, fold_step hgx hpre ?hf⟩ (by simp; omega) (by repeat (first | exact trivial | refine ⟨rfl, ?_⟩)) (fun w hs => hs.drop 1)
                          case hf => clear hpre; simp only [leastStep]; simp_all [Lv.ext'] <;> (try (intros; omega)) <;> (try grind)
                      ·
                        refine Run.drawC Grow.eq 12 [(1, _), (8, _), (11, _), (15, _), (16, _), (17, _), (18, _)] mix (by kernel_rfl) (by repeat (first | exact trivial | refine ⟨rfl, ?_⟩)) ?_
                        apply TC.val []
                        · exact rfl
                        · kernel_rfl
                        ·
                          rintro _ rfl 
                          refine R.lA 6 Try.isAgg23 Try.sizeOf23 ?_
                          refine R.nl ?_
                          exact Run.loc rfl rfl rfl
                        apply TC.val [0]
                        · exact rfl
                        · kernel_rfl
                        ·
                          rintro _ rfl _ rfl
                          refine R.cg Try.call50 (refTold_spec _) ?_
                          refine R.nl ?_
                          exact Run.loc rfl rfl rfl
                        apply TC.val [0]
                        · exact rfl
                        · kernel_rfl
                        ·
                          rintro _ rfl _ rfl
                          refine R.mv ?_
                          refine R.nl ?_
                          exact Run.loc rfl rfl rfl
                        apply TC.val [0]
                        · exact rfl
                        · kernel_rfl
                        ·
                          rintro _ rfl _ rfl
                          refine R.gF (zg17) ?_
                          refine R.nl ?_
                          exact Run.loc rfl rfl rfl
                        apply TC.val [1, 0]
                        · exact rfl
                        · kernel_rfl
                        ·
                          rintro _ rfl _ rfl _ rfl
                          refine R.gF (zg17) ?_
                          refine R.nl ?_
                          exact Run.loc rfl rfl rfl
                        apply TC.val [2]
                        · exact rfl
                        · kernel_rfl
                        ·
                          rintro _ rfl _ rfl
                          refine R.gF (zg17) ?_
                          refine R.nl ?_
                          exact Run.loc rfl rfl rfl
                        apply TC.val [3, 1, 0]
                        · exact rfl
                        · kernel_rfl
                        ·
                          rintro _ rfl _ rfl _ rfl _ rfl
                          refine R.gF (zg17) ?_
                          refine R.nl ?_
                          exact Run.loc rfl rfl rfl
                        apply TC.val [4, 0]
                        · exact rfl
                        · kernel_rfl
                        ·
                          rintro _ rfl _ rfl _ rfl
                          refine R.pF (zg17) ?_
                          refine R.nl ?_
                          exact Run.loc rfl rfl rfl
                        apply TC.val [0]
                        · exact rfl
                        · kernel_rfl
                        ·
                          rintro _ rfl _ rfl
                          refine R.mv ?_
                          refine R.nl ?_
                          exact Run.loc rfl rfl rfl
                        apply TC.val [0]
                        · exact rfl
                        · kernel_rfl
                        ·
                          rintro _ rfl _ rfl
                          refine R.gF (rfl) ?_
                          refine R.nl ?_
                          exact Run.loc rfl rfl rfl
                        apply TC.val [1, 0]
                        · exact rfl
                        · kernel_rfl
                        ·
                          rintro _ rfl _ rfl _ rfl
                          refine R.gF (rfl) ?_
                          refine R.nl ?_
                          exact Run.loc rfl rfl rfl
                        apply TC.val [2]
                        · exact rfl
                        · kernel_rfl
                        ·
                          rintro _ rfl _ rfl
                          refine R.gF (rfl) ?_
                          refine R.nl ?_
                          exact Run.loc rfl rfl rfl
                        refine TC.fin (by rfl) ?_
                        rintro _ rfl _ rfl _ rfl _ rfl _ rfl _ rfl _ rfl _ rfl _ rfl _ rfl _ rfl _ rfl _ rfl
                        refine R.gF (rfl) ?_
                        refine R.pF (rfl) ?_
                        refine R.nl ?_
                        refine R.hs (e' := [(1, _), (8, _), (11, _), (15, _), (16, _), (17, _), (18, _), (107, _)]) ?_
                        refine R.cF (rfl) ?_
                        refine Run.skip ?_
                        refine Run.endBlock ?_
                        refine R.rg ?_
                        refine R.mv ?_
                        refine R.ad ?_
                        refine R.as ?_
                        refine R.nl ?_
                        refine R.hs (e' := [(1, _), (8, _), (11, _), (15, _), (16, _), (17, _)]) ?_
                        refine Run.again (i + 1, _) ⟨by simp; omega, fold_step hgx hpre ?hf⟩ (by simp; omega) (by repeat (first | exact trivial | refine ⟨rfl, ?_⟩)) (fun w hs => hs.drop 1)
                        case hf => clear hpre; simp only [leastStep]; simp_all [Lv.ext'] <;> (try (intros; omega)) <;> (try grind)
                    ·
                      have hzo : leastV xs y = o := by simp at zc15 hpre hi; rw [hpre, List.take_of_length_le (by omega)]; rfl
                      have hrg := leastV_range xs y
                      rw [hzo] at hz
                      rw [hzo] at hrg
                      refine Run.exit rfl ?_
                      refine R.sq ?_
                      refine R.rg ?_
                      refine R.lA 3 Try.isAgg42 Try.sizeOf42 ?_
                      refine R.mv ?_
                      refine R.sb ?_
                      refine R.mv ?_
                      refine R.cg Try.call30 (refAt_spec y (o - 1) own.id) ?_
                      refine R.mv ?_
                      refine R.ex ?_
                      refine R.ex ?_
                      refine R.alA Try.zeroValue23 (fun zb59 hzb59 => ?_)
                      refine R.st Try.sizeOf23 ?_
                      refine R.as ?_
                      refine R.nl ?_
                      refine R.hs (e' := [(8, _), (19, _), (20, _)]) ?_
                      refine R.sq ?_
                      refine R.rg ?_
                      refine R.lA 6 Try.isAgg23 Try.sizeOf23 ?_
                      refine R.mv ?_
                      refine R.cg Try.call49 (with_spec _ _ _) ?_
                      refine R.ex ?_
                      refine R.ex ?_
                      refine R.ex ?_
                      refine R.st Try.sizeOf23 ?_
                      refine R.as ?_
                      refine R.as ?_
                      refine R.nl ?_
                      refine R.hs (e' := [(8, _), (9, _), (10, _)]) ?_
                      exact R.rl (RV.a Try.isAgg23 Try.sizeOf23 (RV.t (RV.t .nil))) 4 hle (by first | (rw [hz]; done) | (rw [hz]; rfl))
                  ·
                    have h3 : ruleIs own xs lost 3 = false := by simp only [ruleIs]; simp at zc14 ⊢; omega
                    have hp4 := upto hp3 h3
                    refine Run.skip ?_
                    refine R.sq ?_
                    refine R.sq ?_
                    refine R.rg ?_
                    refine R.fa Try.runUnderlying42 Try.sizeOf3 ?_
                    refine R.ld Try.isAgg3 ?_
                    refine R.cm ?_
                    refine R.nl ?_
                    refine R.hs (e' := [(2, _), (8, _), (11, _), (15, _), (126, _)]) ?_
                    refine R.cd (fun zc60 => ?_) (fun zc60 => ?_)
                    ·
                      have h4 : ruleIs own xs lost 4 = true := by simp only [ruleIs]; rw [hty]; simpa using zc60
                      have hz : caseV own xs now lost = caseAt (atO ⟨(topL xs).tau, (topL xs).oid, 1⟩ 0 own.id) 3 := (case_rule (i := 4) hok (by decide) hp4 h4).trans rfl
                      rw [hty] at hz
                      refine R.sq ?_
                      refine R.rg ?_
                      refine R.fa Try.runUnderlying42 Try.sizeOf3 ?_
                      refine R.ld Try.isAgg3 ?_
                      refine R.fa Try.runUnderlying42 Try.sizeOf3 ?_
                      refine R.ld Try.isAgg3 ?_
                      refine R.bd Try.zeroValue42 places42 ?_
                      refine R.mv ?_
                      refine R.cg Try.call30 (refAt_spec ⟨y.tau, y.oid, 1⟩ 0 own.id) ?_
                      refine R.mv ?_
                      refine R.ex ?_
                      refine R.ex ?_
                      refine R.alA Try.zeroValue23 (fun zb61 hzb61 => ?_)
                      refine R.st Try.sizeOf23 ?_
                      refine R.as ?_
                      refine R.nl ?_
                      refine R.hs (e' := [(8, _), (21, _), (22, _)]) ?_
                      refine R.sq ?_
                      refine R.rg ?_
                      refine R.lA 6 Try.isAgg23 Try.sizeOf23 ?_
                      refine R.mv ?_
                      refine R.cg Try.call49 (with_spec _ _ _) ?_
                      refine R.ex ?_
                      refine R.ex ?_
                      refine R.ex ?_
                      refine R.st Try.sizeOf23 ?_
                      refine R.as ?_
                      refine R.as ?_
                      refine R.nl ?_
                      refine R.hs (e' := [(8, _), (9, _), (10, _)]) ?_
                      exact R.rl (RV.a Try.isAgg23 Try.sizeOf23 (RV.t (RV.t .nil))) 4 hle (by first | (rw [hz]; done) | (rw [hz]; rfl))
                    ·
                      have h4 : ruleIs own xs lost 4 = false := by simp only [ruleIs]; rw [hty]; simpa using zc60
                      have hp5 := upto hp4 h4
                      refine Run.skip ?_
                      refine R.sq ?_
                      refine R.sq ?_
                      refine R.rg ?_
                      refine R.fa Try.runUnderlying42 Try.sizeOf3 ?_
                      refine R.ld Try.isAgg3 ?_
                      refine R.mv ?_
                      refine R.cm ?_
                      refine R.nl ?_
                      refine R.hs (e' := [(2, _), (8, _), (11, _), (146, _)]) ?_
                      refine R.cd (fun zc62 => ?_) (fun zc62 => ?_)
                      ·
                        have h5 : ruleIs own xs lost 5 = true := by simp only [ruleIs]; rw [hty]; simpa using zc62
                        have hz : caseV own xs now lost = (nullH own.id, 4, 0) := (case_rule (i := 5) hok (by decide) hp5 h5).trans rfl
                        refine R.sq ?_
                        refine R.rg ?_
                        refine R.mv ?_
                        refine R.cg Try.call48 (refNull_spec _) ?_
                        refine R.st Try.sizeOf23 ?_
                        refine R.as ?_
                        refine R.as ?_
                        refine R.nl ?_
                        refine R.hs (e' := [(8, _), (9, _), (10, _)]) ?_
                        exact R.rl (RV.a Try.isAgg23 Try.sizeOf23 (RV.t (RV.t .nil))) 3 hle (by first | (rw [hz]; done) | (rw [hz]; rfl))
                      ·
                        have h5 : ruleIs own xs lost 5 = false := by simp only [ruleIs]; rw [hty]; simpa using zc62
                        have hz : caseV own xs now lost = caseAt (genO now own.id) 5 := (case_rule (i := 6) hok (by decide) (upto hp5 h5) rfl).trans rfl
                        refine Run.skip ?_
                        refine R.sq ?_
                        refine R.rg ?_
                        refine R.mv ?_
                        refine R.mv ?_
                        refine R.cg Try.call10 (refGen_spec now own.id) ?_
                        refine R.mv ?_
                        refine R.ex ?_
                        refine R.ex ?_
                        refine R.alA Try.zeroValue23 (fun zb63 hzb63 => ?_)
                        refine R.st Try.sizeOf23 ?_
                        refine R.as ?_
                        refine R.nl ?_
                        refine R.hs (e' := [(8, _), (23, _), (24, _)]) ?_
                        refine R.sq ?_
                        refine R.rg ?_
                        refine R.lA 6 Try.isAgg23 Try.sizeOf23 ?_
                        refine R.mv ?_
                        refine R.cg Try.call49 (with_spec _ _ _) ?_
                        refine R.ex ?_
                        refine R.ex ?_
                        refine R.ex ?_
                        refine R.st Try.sizeOf23 ?_
                        refine R.as ?_
                        refine R.as ?_
                        refine R.nl ?_
                        refine R.hs (e' := [(8, _), (9, _), (10, _)]) ?_
                        exact R.rl (RV.a Try.isAgg23 Try.sizeOf23 (RV.t (RV.t .nil))) 4 hle (by first | (rw [hz]; done) | (rw [hz]; rfl))
          ·
            refine R.gF (zg7) ?_
            refine R.gF (zg7) ?_
            refine R.gF (zg7) ?_
            refine R.gF (zg7) ?_
            refine R.pT (zg7) ?_
            refine R.nl ?_
            refine R.hs (e' := [(1, _), (2, _), (3, _), (4, _), (8, _), (50, _)]) ?_
            refine R.cT (rfl) ?_
            have h0 : ruleIs own xs lost 0 = true := by simp only [ruleIs]; simp_all <;> omega
            have hz : caseV own xs now lost = (own, 0, 0) := (case_rule hok (by decide) upto0 h0).trans rfl
            refine R.sq ?_
            refine R.rg ?_
            refine R.lA 6 Try.isAgg23 Try.sizeOf23 ?_
            refine R.st Try.sizeOf23 ?_
            refine R.as ?_
            refine R.as ?_
            refine R.nl ?_
            refine R.hs (e' := [(8, _), (9, _), (10, _)]) ?_
            exact R.rl (RV.a Try.isAgg23 Try.sizeOf23 (RV.t (RV.t .nil))) 2 hle (by first | (rw [hz]; done) | (rw [hz]; rfl))
      ·
        refine R.gF (zg5) ?_
        refine R.pT (zg5) ?_
        refine R.nl ?_
        refine R.hs (e' := [(1, _), (2, _), (3, _), (4, _), (8, _), (40, _)]) ?_
        refine R.cT (rfl) ?_
        have hok : okCase own xs now = false := by simp only [okCase]; simp_all <;> omega
        have hz : caseV own xs now lost = (z0H, 0, 1) := by simp [caseV, hok]
        refine R.sq ?_
        refine R.rg ?_
        refine R.bd Try.zeroValue23 places23 ?_
        refine R.st Try.sizeOf23 ?_
        refine R.as ?_
        refine R.as ?_
        refine R.nl ?_
        refine R.hs (e' := [(8, _), (9, _), (10, _)]) ?_
        exact R.rl (RV.a Try.isAgg23 Try.sizeOf23 (RV.t (RV.t .nil))) 2 hle (by first | (rw [hz]; done) | (rw [hz]; rfl))
    ·
      refine R.gF (zg4) ?_
      refine R.pT (zg4) ?_
      refine R.mv ?_
      refine R.gF (rfl) ?_
      refine R.gF (rfl) ?_
      refine R.pT (rfl) ?_
      refine R.nl ?_
      refine R.hs (e' := [(1, _), (2, _), (3, _), (4, _), (8, _), (40, _)]) ?_
      refine R.cT (rfl) ?_
      have hok : okCase own xs now = false := by simp only [okCase]; simp_all <;> omega
      have hz : caseV own xs now lost = (z0H, 0, 1) := by simp [caseV, hok]
      refine R.sq ?_
      refine R.rg ?_
      refine R.bd Try.zeroValue23 places23 ?_
      refine R.st Try.sizeOf23 ?_
      refine R.as ?_
      refine R.as ?_
      refine R.nl ?_
      refine R.hs (e' := [(8, _), (9, _), (10, _)]) ?_
      exact R.rl (RV.a Try.isAgg23 Try.sizeOf23 (RV.t (RV.t .nil))) 2 hle (by first | (rw [hz]; done) | (rw [hz]; rfl))
  ·
    refine R.gF (zg3) ?_
    refine R.gF (zg3) ?_
    refine R.pT (zg3) ?_
    refine R.mv ?_
    refine R.gF (rfl) ?_
    refine R.gF (rfl) ?_
    refine R.pT (rfl) ?_
    refine R.mv ?_
    refine R.gF (rfl) ?_
    refine R.gF (rfl) ?_
    refine R.pT (rfl) ?_
    refine R.nl ?_
    refine R.hs (e' := [(1, _), (2, _), (3, _), (4, _), (8, _), (40, _)]) ?_
    refine R.cT (rfl) ?_
    have hok : okCase own xs now = false := by simp only [okCase]; simp_all <;> omega
    have hz : caseV own xs now lost = (z0H, 0, 1) := by simp [caseV, hok]
    refine R.sq ?_
    refine R.rg ?_
    refine R.bd Try.zeroValue23 places23 ?_
    refine R.st Try.sizeOf23 ?_
    refine R.as ?_
    refine R.as ?_
    refine R.nl ?_
    refine R.hs (e' := [(8, _), (9, _), (10, _)]) ?_
    exact R.rl (RV.a Try.isAgg23 Try.sizeOf23 (RV.t (RV.t .nil))) 2 hle (by first | (rw [hz]; done) | (rw [hz]; rfl))
end Go.Proofs.Ytgdpjpmjcpieiaa
