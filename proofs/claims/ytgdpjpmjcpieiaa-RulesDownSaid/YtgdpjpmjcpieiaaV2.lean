/- Views: a view of one, sameness; which way a link goes; what is adopted and generated. No condition. -/
import Derived.Test.YtgdpjpmjcpieiaaV1
namespace Go.Proofs.Ytgdpjpmjcpieiaa
open Go
set_option linter.unusedVariables false
set_option linter.unusedSimpArgs false
set_option maxRecDepth 100000
set_option maxHeartbeats 0
theorem vSame_spec {g : Gl} {D : Dict} {M : MList} {a b : Value} {xs ys : List Vw} (ha : Vws D a xs) (hb : Vws D b ys) : Gives Try.prog g 14 [a, b] D M (.bool (decide (xs = ys))) := by
  have hla := ha.form.choose_spec.choose_spec.2.2
  refine Gives.enter Try.func14 rfl Try.ntmps14 ?_
  refine R.sq ?_
  refine R.rg ?_
  refine R.as ?_
  refine R.nl ?_
  refine R.hs (e' := [(0, _), (1, _)]) ?_
  refine R.sq ?_
  refine R.sq ?_
  refine R.rg ?_
  refine R.mv ?_
  refine R.ll (ha) Try.runUnderlying24 ?_
  refine R.mv ?_
  refine R.ll (hb) Try.runUnderlying24 ?_
  refine R.cm ?_
  refine R.nl ?_
  refine R.hs (e' := [(0, _), (1, _), (10, _)]) ?_
  refine R.cd (fun zc1 => ?_) (fun zc1 => ?_)
  ·
    have hne : xs ≠ ys := by rintro rfl; simp at zc1
    refine R.sq ?_
    refine R.rg ?_
    refine R.as ?_
    refine R.nl ?_
    refine R.hs (e' := [(4, _)]) ?_
    refine R.rt (RV.t .nil) 0 (congrArg Value.bool ?_)
    simp [hne]
  ·
    have hxy : xs.length = ys.length := by simp at zc1; omega
    refine Run.skip ?_
    refine R.sq ?_
    refine R.sq ?_
    refine R.rg ?_
    refine R.as ?_
    refine R.nl ?_
    refine R.hs (e' := [(0, _), (1, _), (5, _)]) ?_
    refine Run.block ?_
    refine Run.loop (ι := Nat) [(0, _), (1, _)] (fun i => [(5, .int .i64 (i : Int))]) (fun _ => D) (fun _ => M) (fun i => i ≤ xs.length ∧ xs.take i = ys.take i) (fun i => xs.length - i) (0) (by repeat (first | exact trivial | refine ⟨rfl, ?_⟩)) ?h0 (by repeat (first | exact trivial | refine ⟨rfl, ?_⟩)) (fun w hs => hs) ?_
    case h0 => exact ⟨Nat.zero_le _, rfl⟩
    rintro i ⟨hi, hpre⟩
    refine R.sq ?_
    refine R.sq ?_
    refine R.rg ?_
    refine R.mv ?_
    refine R.mv ?_
    refine R.ll (ha) Try.runUnderlying24 ?_
    refine R.cm ?_
    refine R.nl ?_
    refine R.hs (e' := [(0, _), (1, _), (5, _), (14, _)]) ?_
    refine R.cd (fun zc2 => ?_) (fun zc2 => ?_)
    ·
      have hlt : i < xs.length := by simp at zc2; omega
      obtain ⟨x, hgx⟩ := get_of_lt hlt
      obtain ⟨y, hgy⟩ := get_of_lt (xs := ys) (i := i) (by omega)
      obtain ⟨b1, o1, hI1, hc1⟩ := ha.at Vw.len hgx
      obtain ⟨b2, o2, hI2, hc2⟩ := hb.at Vw.len hgy
      refine Run.skip ?_
      refine R.sq ?_
      refine Run.block ?_
      refine R.sq ?_
      refine Run.drawC Grow.eq 8 [(0, _), (1, _), (5, _)] mix (by kernel_rfl) (by repeat (first | exact trivial | refine ⟨rfl, ?_⟩)) ?_
      apply TC.val []
      · exact rfl
      · kernel_rfl
      ·
        rintro _ rfl 
        refine R.mv ?_
        refine R.nl ?_
        exact Run.loc rfl rfl rfl
      apply TC.val []
      · exact rfl
      · kernel_rfl
      ·
        rintro _ rfl 
        refine R.mv ?_
        refine R.nl ?_
        exact Run.loc rfl rfl rfl
      apply TC.val [1, 0]
      · exact rfl
      · kernel_rfl
      ·
        rintro _ rfl _ rfl _ rfl
        refine R.ix (hI1) Try.runUnderlying24 Try.sizeOf36 ?_
        refine R.nl ?_
        exact Run.loc rfl rfl rfl
      apply TC.val [0]
      · exact rfl
      · kernel_rfl
      ·
        rintro _ rfl _ rfl
        refine R.lAD 7 Try.isAgg36 Try.sizeOf36 ?_
        refine R.nl ?_
        exact Run.loc rfl rfl rfl
      apply TC.val []
      · exact rfl
      · kernel_rfl
      ·
        rintro _ rfl 
        refine R.mv ?_
        refine R.nl ?_
        exact Run.loc rfl rfl rfl
      apply TC.val []
      · exact rfl
      · kernel_rfl
      ·
        rintro _ rfl 
        refine R.mv ?_
        refine R.nl ?_
        exact Run.loc rfl rfl rfl
      apply TC.val [1, 0]
      · exact rfl
      · kernel_rfl
      ·
        rintro _ rfl _ rfl _ rfl
        refine R.ix (hI2) Try.runUnderlying24 Try.sizeOf36 ?_
        refine R.nl ?_
        exact Run.loc rfl rfl rfl
      apply TC.val [0]
      · exact rfl
      · kernel_rfl
      ·
        rintro _ rfl _ rfl
        refine R.lAD 7 Try.isAgg36 Try.sizeOf36 ?_
        refine R.nl ?_
        exact Run.loc rfl rfl rfl
      refine TC.fin (by rfl) ?_
      rintro _ rfl _ rfl _ rfl _ rfl _ rfl _ rfl _ rfl _ rfl _ rfl
      refine R.na Try.eqGuardType36 (eqAt36 _ _ _ _ _ _ _ _ _ _ _ _ _ _) ?_
      refine R.nl ?_
      refine R.hs (e' := [(0, _), (1, _), (5, _), (25, _)]) ?_
      refine R.cd (fun zc12 => ?_) (fun zc12 => ?_)
      ·
        have hne : xs ≠ ys := by rintro rfl; rw [hgx] at hgy; cases hgy; simp at zc12
        refine R.sq ?_
        refine R.rg ?_
        refine R.as ?_
        refine R.nl ?_
        refine R.hs (e' := [(4, _)]) ?_
        refine R.rt (RV.t .nil) 0 (congrArg Value.bool ?_)
        simp [hne]
      ·
        have hxe : x = y := by rw [Vw.ext']; simpa using zc12
        refine Run.skip ?_
        refine Run.endBlock ?_
        refine R.rg ?_
        refine R.mv ?_
        refine R.ad ?_
        refine R.as ?_
        refine R.nl ?_
        refine R.hs (e' := [(0, _), (1, _), (5, _)]) ?_
        exact Run.again (i + 1) ⟨by omega, by rw [take_succ' hgx, take_succ' hgy, hpre, hxe]⟩ (by omega) ⟨rfl, by repeat (first | exact trivial | refine ⟨rfl, ?_⟩)⟩ (fun w hs => hs)
    ·
      have hge : i = xs.length := by simp at zc2; omega
      have hne : xs = ys := by rw [hge, List.take_length, hxy, List.take_length] at hpre; exact hpre
      refine Run.exit rfl ?_
      refine R.sq ?_
      refine R.rg ?_
      refine R.as ?_
      refine R.nl ?_
      refine R.hs (e' := [(4, _)]) ?_
      refine R.rt (RV.t .nil) 0 (congrArg Value.bool ?_)
      simp [hne]
theorem lTold_spec {g : Gl} {D : Dict} {M : MList} (h : Ht) : Gives Try.prog g 57 [.agg (Ht.cells h).toArray] D M (.bool (toldH h)) := by
  refine Gives.enter Try.func57 rfl Try.ntmps57 ?_
  refine R.sq ?_
  refine R.rg ?_
  refine R.bxA (fun zb1 hzb1 => ?_)
  refine R.as ?_
  refine R.nl ?_
  refine R.hs (e' := [(1, _)]) ?_
  refine R.sq ?_
  refine R.rg ?_
  refine R.fa Try.runUnderlying23 Try.sizeOf4 ?_
  refine R.ld Try.isAgg4 ?_
  refine R.nt ?_
  refine R.mv ?_
  refine R.gd (fun zg2 => ?_) (fun zg2 => ?_)
  ·
    refine R.lA 6 Try.isAgg23 Try.sizeOf23 ?_
    refine R.gY (zg2) ?_
    refine R.cg Try.call25 (hCheck_spec _) ?_
    refine R.gY (zg2) ?_
    refine R.cm ?_
    refine R.pT (zg2) ?_
    refine R.as ?_
    refine R.nl ?_
    refine R.hs (e' := [(2, _)]) ?_
    refine R.rt (RV.t .nil) 1 (congrArg Value.bool ?_)
    simp only [toldH, errA] at *; grind
  ·
    refine R.gF (zg2) ?_
    refine R.gF (zg2) ?_
    refine R.pF (zg2) ?_
    refine R.as ?_
    refine R.nl ?_
    refine R.hs (e' := [(2, _)]) ?_
    refine R.rt (RV.t .nil) 1 (congrArg Value.bool ?_)
    simp only [toldH, errA] at *; grind
/-- P18: which way a link goes -/
def dirH (own h : Ht) : Int := if !toldH h then 0 else if !toldH own || lessH h own then 1 else if lessH own h then 2 else 0
theorem dir_spec {g : Gl} {D : Dict} {M : MList} (own h : Ht) : Gives Try.prog g 65 [.agg (Ht.cells own).toArray, .agg (Ht.cells h).toArray] D M (.int .i64 (dirH own h)) := by
  refine Gives.enter Try.func65 rfl Try.ntmps65 ?_
  refine R.sq ?_
  refine R.rg ?_
  refine R.bxA (fun zb1 hzb1 => ?_)
  refine R.bxA (fun zb2 hzb2 => ?_)
  refine R.as ?_
  refine R.nl ?_
  refine R.hs (e' := [(2, _), (3, _)]) ?_
  refine R.sq ?_
  refine Run.block ?_
  refine R.sq ?_
  refine R.rg ?_
  refine R.lA 6 Try.isAgg23 Try.sizeOf23 ?_
  refine R.cg Try.call57 (lTold_spec _) ?_
  refine R.nt ?_
  refine R.as ?_
  refine R.nl ?_
  refine R.hs (e' := [(2, _), (3, _), (5, _)]) ?_
  refine R.cd (fun zc3 => ?_) (fun zc3 => ?_)
  ·
    refine R.sq ?_
    refine R.rg ?_
    refine R.as ?_
    refine R.nl ?_
    refine R.hs (e' := [(4, _)]) ?_
    refine R.rt (RV.t .nil) 2 (congrArg (Value.int .i64) ?_)
    simp_all [dirH]
  ·
    refine R.sq ?_
    refine R.rg ?_
    refine R.lA 6 Try.isAgg23 Try.sizeOf23 ?_
    refine R.cg Try.call57 (lTold_spec _) ?_
    refine R.nt ?_
    refine R.mv ?_
    refine R.gd (fun zg4 => ?_) (fun zg4 => ?_)
    ·
      refine R.lA 6 Try.isAgg23 Try.sizeOf23 ?_
      refine R.gY (zg4) ?_
      refine R.lA 6 Try.isAgg23 Try.sizeOf23 ?_
      refine R.gY (zg4) ?_
      refine R.cg Try.call16 (less_spec _ _) ?_
      refine R.pF (zg4) ?_
      refine R.as ?_
      refine R.nl ?_
      refine R.hs (e' := [(2, _), (3, _), (9, _)]) ?_
      refine R.cd (fun zc5 => ?_) (fun zc5 => ?_)
      ·
        refine R.sq ?_
        refine R.rg ?_
        refine R.as ?_
        refine R.nl ?_
        refine R.hs (e' := [(4, _)]) ?_
        refine R.rt (RV.t .nil) 2 (congrArg (Value.int .i64) ?_)
        simp_all [dirH]
      ·
        refine R.sq ?_
        refine R.rg ?_
        refine R.lA 6 Try.isAgg23 Try.sizeOf23 ?_
        refine R.lA 6 Try.isAgg23 Try.sizeOf23 ?_
        refine R.cg Try.call16 (less_spec _ _) ?_
        refine R.as ?_
        refine R.nl ?_
        refine R.hs (e' := [(18, _)]) ?_
        refine R.cd (fun zc6 => ?_) (fun zc6 => ?_)
        ·
          refine R.sq ?_
          refine R.rg ?_
          refine R.as ?_
          refine R.nl ?_
          refine R.hs (e' := [(4, _)]) ?_
          refine R.rt (RV.t .nil) 2 (congrArg (Value.int .i64) ?_)
          simp_all [dirH]
        ·
          refine Run.skip ?_
          refine Run.endBlock ?_
          refine R.sq ?_
          refine R.rg ?_
          refine R.as ?_
          refine R.nl ?_
          refine R.hs (e' := [(4, _)]) ?_
          refine R.rt (RV.t .nil) 2 (congrArg (Value.int .i64) ?_)
          simp_all [dirH]
    ·
      refine R.gF (zg4) ?_
      refine R.gF (zg4) ?_
      refine R.pT (zg4) ?_
      refine R.as ?_
      refine R.nl ?_
      refine R.hs (e' := [(2, _), (3, _), (9, _)]) ?_
      refine R.cT (rfl) ?_
      refine R.sq ?_
      refine R.rg ?_
      refine R.as ?_
      refine R.nl ?_
      refine R.hs (e' := [(4, _)]) ?_
      refine R.rt (RV.t .nil) 2 (congrArg (Value.int .i64) ?_)
      simp_all [dirH]
theorem refDir_spec {g : Gl} {D : Dict} {M : MList} (own h : Ht) : Gives Try.prog g 72 [.agg (Ht.cells own).toArray, .agg (Ht.cells h).toArray] D M (.int .i64 (dirH own h)) := by
  refine Gives.enter Try.func72 rfl Try.ntmps72 ?_
  refine R.sq ?_
  refine R.rg ?_
  refine R.bxA (fun zb1 hzb1 => ?_)
  refine R.bxA (fun zb2 hzb2 => ?_)
  refine R.as ?_
  refine R.nl ?_
  refine R.hs (e' := [(2, _), (3, _)]) ?_
  refine R.sq ?_
  refine R.sq ?_
  refine R.rg ?_
  refine R.lA 6 Try.isAgg23 Try.sizeOf23 ?_
  refine R.cg Try.call50 (refTold_spec _) ?_
  refine R.nt ?_
  refine R.nl ?_
  refine R.hs (e' := [(2, _), (3, _), (7, _)]) ?_
  refine R.cd (fun zc3 => ?_) (fun zc3 => ?_)
  ·
    refine R.sq ?_
    refine R.rg ?_
    refine R.as ?_
    refine R.nl ?_
    refine R.hs (e' := [(4, _)]) ?_
    refine R.rt (RV.t .nil) 2 (congrArg (Value.int .i64) ?_)
    simp_all [dirH]
  ·
    refine Run.skip ?_
    refine R.sq ?_
    refine R.sq ?_
    refine R.rg ?_
    refine R.lA 6 Try.isAgg23 Try.sizeOf23 ?_
    refine R.cg Try.call50 (refTold_spec _) ?_
    refine R.nt ?_
    refine R.mv ?_
    refine R.gd (fun zg4 => ?_) (fun zg4 => ?_)
    ·
      refine R.lA 6 Try.isAgg23 Try.sizeOf23 ?_
      refine R.gY (zg4) ?_
      refine R.lA 6 Try.isAgg23 Try.sizeOf23 ?_
      refine R.gY (zg4) ?_
      refine R.cg Try.call61 (refLess_spec _ _) ?_
      refine R.pF (zg4) ?_
      refine R.nl ?_
      refine R.hs (e' := [(2, _), (3, _), (15, _)]) ?_
      refine R.cd (fun zc5 => ?_) (fun zc5 => ?_)
      ·
        refine R.sq ?_
        refine R.rg ?_
        refine R.as ?_
        refine R.nl ?_
        refine R.hs (e' := [(4, _)]) ?_
        refine R.rt (RV.t .nil) 2 (congrArg (Value.int .i64) ?_)
        simp_all [dirH]
      ·
        refine Run.skip ?_
        refine R.sq ?_
        refine R.sq ?_
        refine R.rg ?_
        refine R.lA 6 Try.isAgg23 Try.sizeOf23 ?_
        refine R.lA 6 Try.isAgg23 Try.sizeOf23 ?_
        refine R.cg Try.call61 (refLess_spec _ _) ?_
        refine R.nl ?_
        refine R.hs (e' := [(18, _)]) ?_
        refine R.cd (fun zc6 => ?_) (fun zc6 => ?_)
        ·
          refine R.sq ?_
          refine R.rg ?_
          refine R.as ?_
          refine R.nl ?_
          refine R.hs (e' := [(4, _)]) ?_
          refine R.rt (RV.t .nil) 2 (congrArg (Value.int .i64) ?_)
          simp_all [dirH]
        ·
          refine Run.skip ?_
          refine R.sq ?_
          refine R.rg ?_
          refine R.as ?_
          refine R.nl ?_
          refine R.hs (e' := [(4, _)]) ?_
          refine R.rt (RV.t .nil) 2 (congrArg (Value.int .i64) ?_)
          simp_all [dirH]
    ·
      refine R.gF (zg4) ?_
      refine R.gF (zg4) ?_
      refine R.pT (zg4) ?_
      refine R.nl ?_
      refine R.hs (e' := [(2, _), (3, _), (15, _)]) ?_
      refine R.cT (rfl) ?_
      refine R.sq ?_
      refine R.rg ?_
      refine R.as ?_
      refine R.nl ?_
      refine R.hs (e' := [(4, _)]) ?_
      refine R.rt (RV.t .nil) 2 (congrArg (Value.int .i64) ?_)
      simp_all [dirH]
def genT (now me : Int) : Ht := atH ⟨now, me, 0⟩ 0 me
theorem gen_spec {g : Gl} {D : Dict} {M : MList} (now me : Int) : Gives Try.prog g 9 [.int .i64 now, .int .i64 me] D M (.tuple #[.agg (Ht.cells (if okH (genT now me) then genT now me else z0H)).toArray, .int .i64 (errA (okH (genT now me)))]) := by
  refine Gives.enter Try.func9 rfl Try.ntmps9 ?_
  refine R.sq ?_
  refine R.rg ?_
  refine R.alA Try.zeroValue23 (fun zb1 hzb1 => ?_)
  refine R.as ?_
  refine R.nl ?_
  refine R.hs (e' := [(0, _), (1, _), (4, _)]) ?_
  refine R.sq ?_
  refine R.rg ?_
  refine R.mv ?_
  refine R.mv ?_
  refine R.bd Try.zeroValue42 places42 ?_
  refine R.mv ?_
  refine R.cg Try.call27 (hAt_spec ⟨now, me, 0⟩ _ _) ?_
  refine R.ex ?_
  refine R.ex ?_
  refine R.st Try.sizeOf23 ?_
  refine R.as ?_
  refine R.nl ?_
  refine R.hs (e' := [(4, _), (5, _)]) ?_
  exact R.rt (RV.a Try.isAgg23 Try.sizeOf23 (RV.t .nil)) 1 rfl
theorem refGen_spec {g : Gl} {D : Dict} {M : MList} (now me : Int) : Gives Try.prog g 10 [.int .i64 now, .int .i64 me] D M (.tuple #[.agg (Ht.cells (if okH (genT now me) then genT now me else z0H)).toArray, .int .i64 (errA (okH (genT now me)))]) := by
  refine Gives.enter Try.func10 rfl Try.ntmps10 ?_
  refine R.sq ?_
  refine R.rg ?_
  refine R.alA Try.zeroValue23 (fun zb1 hzb1 => ?_)
  refine R.as ?_
  refine R.nl ?_
  refine R.hs (e' := [(0, _), (1, _), (4, _)]) ?_
  refine R.sq ?_
  refine R.rg ?_
  refine R.mv ?_
  refine R.mv ?_
  refine R.bd Try.zeroValue42 places42 ?_
  refine R.mv ?_
  refine R.cg Try.call30 (refAt_spec ⟨now, me, 0⟩ _ _) ?_
  refine R.ex ?_
  refine R.ex ?_
  refine R.st Try.sizeOf23 ?_
  refine R.as ?_
  refine R.nl ?_
  refine R.hs (e' := [(4, _), (5, _)]) ?_
  exact R.rt (RV.a Try.isAgg23 Try.sizeOf23 (RV.t .nil)) 1 rfl
theorem with_spec {g : Gl} {D : Dict} {M : MList} (h : Ht) (c e : Int) : Gives Try.prog g 49 [.agg (Ht.cells h).toArray, .int .i64 c, .int .i64 e] D M (.tuple #[.agg (Ht.cells (if e = 0 then h else z0H)).toArray, .int .i64 (if e = 0 then c else 0), .int .i64 e]) := by
  refine Gives.enter Try.func49 rfl Try.ntmps49 ?_
  refine R.sq ?_
  refine R.rg ?_
  refine R.bxA (fun zb1 hzb1 => ?_)
  refine R.alA Try.zeroValue23 (fun zb2 hzb2 => ?_)
  refine R.as ?_
  refine R.as ?_
  refine R.nl ?_
  refine R.hs (e' := [(1, _), (2, _), (3, _), (6, _)]) ?_
  refine R.sq ?_
  refine R.sq ?_
  refine R.rg ?_
  refine R.mv ?_
  refine R.cm ?_
  refine R.nl ?_
  refine R.hs (e' := [(1, _), (2, _), (3, _), (6, _), (10, _)]) ?_
  refine R.cd (fun zc3 => ?_) (fun zc3 => ?_)
  ·
    have hne : e ≠ 0 := by simpa using zc3
    refine R.sq ?_
    refine R.rg ?_
    refine R.bd Try.zeroValue23 places23 ?_
    refine R.mv ?_
    refine R.st Try.sizeOf23 ?_
    refine R.as ?_
    refine R.as ?_
    refine R.nl ?_
    refine R.hs (e' := [(6, _), (7, _), (8, _)]) ?_
    refine R.rt (RV.a Try.isAgg23 Try.sizeOf23 (RV.t (RV.t .nil))) 2 ?_
    simp [hne, z0H]
  ·
    have hne : e = 0 := by simpa using zc3
    refine Run.skip ?_
    refine R.sq ?_
    refine R.rg ?_
    refine R.lA 6 Try.isAgg23 Try.sizeOf23 ?_
    refine R.mv ?_
    refine R.st Try.sizeOf23 ?_
    refine R.as ?_
    refine R.as ?_
    refine R.nl ?_
    refine R.hs (e' := [(6, _), (7, _), (8, _)]) ?_
    refine R.rt (RV.a Try.isAgg23 Try.sizeOf23 (RV.t (RV.t .nil))) 2 ?_
    simp [hne, z0H]
theorem lowV_told {xs : List Vw} {v : Vw} (h : lowV xs = some v) : toldH v.h = true := by
  have key : ∀ (xs : List Vw) (b : Option Vw), (∀ u, b = some u → toldH u.h = true) → ∀ u, xs.foldl lowStep b = some u → toldH u.h = true := by
    intro xs
    induction xs with
    | nil => exact fun b hb u hu => hb u hu
    | cons x r ih =>
      intro b hb u hu
      refine ih (lowStep b x) (fun u hu => ?_) u hu
      unfold lowStep at hu
      split at hu
      · rename_i hc
        injection hu with hu
        subst hu
        simp at hc
        exact hc.1
      · exact hb u hu
  exact key xs none (fun _ h => by cases h) v h
theorem told_delta {h : Ht} (ht : toldH h = true) : -1099511627776 ≤ h.delta ∧ h.delta ≤ 1099511627776 := by
  simp only [toldH, okH, Bool.and_eq_true, decide_eq_true_eq, Bool.not_eq_true'] at ht
  obtain ⟨⟨_, _, h3⟩, h4⟩ := ht
  simp [h4] at h3
  omega
theorem lowV_delta (xs : List Vw) : -1099511627776 ≤ ((lowV xs).getD z0V).h.delta ∧ ((lowV xs).getD z0V).h.delta ≤ 1099511627776 := by
  cases h : lowV xs with
  | none => simp [z0V, z0H]
  | some v => exact told_delta (lowV_told h)
def zeroH (me : Int) : Ht := ⟨false, 0, 0, 0, 0, me⟩
def adoptT (xs : List Vw) (me : Int) : Ht := atH (lvlH ((lowV xs).getD z0V).h) (((lowV xs).getD z0V).h.delta + 1) me
/-- P19: what is adopted -/
def adoptR (xs : List Vw) (me : Int) : Ht × Int :=
  if !okVs xs || !okH (zeroH me) then (z0H, 1) else if !(lowV xs).isSome then (z0H, 7) else (if okH (adoptT xs me) then adoptT xs me else z0H, errA (okH (adoptT xs me)))
theorem okZero (me : Int) : okH (zeroH me) = (decide (0 ≤ me) && decide (me < 64)) := by
  rw [Bool.eq_iff_iff]; simp [okH, zeroH]
theorem adopt_spec {g : Gl} {D : Dict} {M : MList} {a : Value} {xs : List Vw} (me : Int) (ha : Vws D a xs) : Gives Try.prog g 7 [a, .int .i64 me] D M (.tuple #[.agg (Ht.cells (adoptR xs me).1).toArray, .int .i64 (adoptR xs me).2]) := by
  have hdl := lowV_delta xs
  refine Gives.enter Try.func7 rfl Try.ntmps7 ?_
  refine R.sq ?_
  refine R.rg ?_
  refine R.alA Try.zeroValue23 (fun zb1 hzb1 => ?_)
  refine R.as ?_
  refine R.nl ?_
  refine R.hs (e' := [(0, _), (1, _), (4, _)]) ?_
  refine R.sq ?_
  refine R.rg ?_
  refine R.mv ?_
  refine R.cg Try.call17 (vLow_spec ha) ?_
  refine R.mv ?_
  refine R.ex ?_
  refine R.ex ?_
  refine R.alA Try.zeroValue36 (fun zb2 hzb2 => ?_)
  refine R.st Try.sizeOf36 ?_
  refine R.as ?_
  refine R.nl ?_
  refine R.hs (e' := [(0, _), (1, _), (4, _), (6, _), (7, _)]) ?_
  refine R.sq ?_
  refine Run.block ?_
  refine R.sq ?_
  refine R.rg ?_
  refine R.mv ?_
  refine R.cg Try.call24 (vCheck_spec ha) ?_
  refine R.cm ?_
  refine R.mv ?_
  refine R.gd (fun zg3 => ?_) (fun zg3 => ?_)
  ·
    refine R.mv ?_
    refine R.gY (zg3) ?_
    refine R.cg Try.call26 (zero_spec _) ?_
    refine R.gY (zg3) ?_
    refine R.cg Try.call25 (hCheck_spec (zeroH me)) ?_
    refine R.gY (zg3) ?_
    refine R.cm ?_
    refine R.pF (zg3) ?_
    refine R.as ?_
    refine R.nl ?_
    refine R.hs (e' := [(1, _), (4, _), (6, _), (7, _), (13, _)]) ?_
    refine R.cd (fun zc4 => ?_) (fun zc4 => ?_)
    ·
      refine R.sq ?_
      refine R.rg ?_
      refine R.bd Try.zeroValue23 places23 ?_
      refine R.st Try.sizeOf23 ?_
      refine R.as ?_
      refine R.nl ?_
      refine R.hs (e' := [(4, _), (5, _)]) ?_
      refine R.rt (RV.a Try.isAgg23 Try.sizeOf23 (RV.t .nil)) 2 ?_
      cases hq : okH (adoptT xs me) <;> simp_all [adoptR, errA, adoptT, z0H]
    ·
      refine R.sq ?_
      refine R.rg ?_
      refine R.mv ?_
      refine R.nt ?_
      refine R.as ?_
      refine R.nl ?_
      refine R.hs (e' := [(1, _), (4, _), (6, _), (24, _)]) ?_
      refine R.cd (fun zc5 => ?_) (fun zc5 => ?_)
      ·
        refine R.sq ?_
        refine R.rg ?_
        refine R.bd Try.zeroValue23 places23 ?_
        refine R.st Try.sizeOf23 ?_
        refine R.as ?_
        refine R.nl ?_
        refine R.hs (e' := [(4, _), (5, _)]) ?_
        refine R.rt (RV.a Try.isAgg23 Try.sizeOf23 (RV.t .nil)) 2 ?_
        cases hq : okH (adoptT xs me) <;> simp_all [adoptR, errA, adoptT, z0H]
      ·
        refine Run.skip ?_
        refine Run.endBlock ?_
        refine R.sq ?_
        refine Run.drawC Grow.eq 11 [(1, _), (4, _), (6, _)] mix (by kernel_rfl) (by repeat (first | exact trivial | refine ⟨rfl, ?_⟩)) ?_
        apply TC.val []
        · exact rfl
        · kernel_rfl
        ·
          rintro _ rfl 
          refine R.fa Try.runUnderlying36 Try.sizeOf23 ?_
          refine R.nl ?_
          exact Run.loc rfl rfl rfl
        apply TC.val [0]
        · exact rfl
        · kernel_rfl
        ·
          rintro _ rfl _ rfl
          refine R.lA 6 Try.isAgg23 Try.sizeOf23 ?_
          refine R.nl ?_
          exact Run.loc rfl rfl rfl
        apply TC.val [0]
        · exact rfl
        · kernel_rfl
        ·
          rintro _ rfl _ rfl
          refine R.cg Try.call18 (lvl_spec _) ?_
          refine R.nl ?_
          exact Run.loc rfl rfl rfl
        apply TC.val []
        · exact rfl
        · kernel_rfl
        ·
          rintro _ rfl 
          refine R.fa Try.runUnderlying36 Try.sizeOf23 ?_
          refine R.nl ?_
          exact Run.loc rfl rfl rfl
        apply TC.val [0]
        · exact rfl
        · kernel_rfl
        ·
          rintro _ rfl _ rfl
          refine R.fa Try.runUnderlying23 Try.sizeOf3 ?_
          refine R.nl ?_
          exact Run.loc rfl rfl rfl
        apply TC.val [0]
        · exact rfl
        · kernel_rfl
        ·
          rintro _ rfl _ rfl
          refine R.ld Try.isAgg3 ?_
          refine R.nl ?_
          exact Run.loc rfl rfl rfl
        apply TC.val [0]
        · exact rfl
        · kernel_rfl
        ·
          rintro _ rfl _ rfl
          refine R.ad ?_
          refine R.nl ?_
          exact Run.loc rfl rfl rfl
        apply TC.val []
        · exact rfl
        · kernel_rfl
        ·
          rintro _ rfl 
          refine R.mv ?_
          refine R.nl ?_
          exact Run.loc rfl rfl rfl
        apply TC.val [5, 1, 0]
        · exact rfl
        · kernel_rfl
        ·
          rintro _ rfl _ rfl _ rfl _ rfl
          refine R.cg Try.call27 (hAt_spec (lvlH ((lowV xs).getD z0V).h) (((lowV xs).getD z0V).h.delta + 1) me) ?_
          refine R.nl ?_
          exact Run.loc rfl rfl rfl
        apply TC.val [0]
        · exact rfl
        · kernel_rfl
        ·
          rintro _ rfl _ rfl
          refine R.ex ?_
          refine R.nl ?_
          exact Run.loc rfl rfl rfl
        apply TC.val [1]
        · exact rfl
        · kernel_rfl
        ·
          rintro _ rfl _ rfl
          refine R.ex ?_
          refine R.nl ?_
          exact Run.loc rfl rfl rfl
        refine TC.fin (by rfl) ?_
        rintro _ rfl _ rfl _ rfl _ rfl _ rfl _ rfl _ rfl _ rfl _ rfl _ rfl _ rfl _ rfl
        refine R.st Try.sizeOf23 ?_
        refine R.as ?_
        refine R.nl ?_
        refine R.hs (e' := [(4, _), (5, _)]) ?_
        refine R.rt (RV.a Try.isAgg23 Try.sizeOf23 (RV.t .nil)) 2 ?_
        cases hq : okH (adoptT xs me) <;> simp_all [adoptR, errA, adoptT, z0H]
  ·
    refine R.gF (zg3) ?_
    refine R.gF (zg3) ?_
    refine R.gF (zg3) ?_
    refine R.pT (zg3) ?_
    refine R.as ?_
    refine R.nl ?_
    refine R.hs (e' := [(1, _), (4, _), (6, _), (7, _), (13, _)]) ?_
    refine R.cT (rfl) ?_
    refine R.sq ?_
    refine R.rg ?_
    refine R.bd Try.zeroValue23 places23 ?_
    refine R.st Try.sizeOf23 ?_
    refine R.as ?_
    refine R.nl ?_
    refine R.hs (e' := [(4, _), (5, _)]) ?_
    refine R.rt (RV.a Try.isAgg23 Try.sizeOf23 (RV.t .nil)) 2 ?_
    cases hq : okH (adoptT xs me) <;> simp_all [adoptR, errA, adoptT, z0H]
theorem refAdopt_spec {g : Gl} {D : Dict} {M : MList} {a : Value} {xs : List Vw} (me : Int) (ha : Vws D a xs) : Gives Try.prog g 8 [a, .int .i64 me] D M (.tuple #[.agg (Ht.cells (adoptR xs me).1).toArray, .int .i64 (adoptR xs me).2]) := by
  have hdl := lowV_delta xs
  have hz := okZero me
  refine Gives.enter Try.func8 rfl Try.ntmps8 ?_
  refine R.sq ?_
  refine R.rg ?_
  refine R.alA Try.zeroValue23 (fun zb1 hzb1 => ?_)
  refine R.as ?_
  refine R.nl ?_
  refine R.hs (e' := [(0, _), (1, _), (4, _)]) ?_
  refine R.sq ?_
  refine R.sq ?_
  refine R.rg ?_
  refine R.mv ?_
  refine R.cg Try.call28 (refVRight_spec ha) ?_
  refine R.nt ?_
  refine R.mv ?_
  refine R.gd (fun zg2 => ?_) (fun zg2 => ?_)
  ·
    refine R.mv ?_
    refine R.gY (zg2) ?_
    refine R.cm ?_
    refine R.pF (zg2) ?_
    refine R.mv ?_
    refine R.gd (fun zg3 => ?_) (fun zg3 => ?_)
    ·
      refine R.mv ?_
      refine R.gY (zg3) ?_
      refine R.cm ?_
      refine R.pF (zg3) ?_
      refine R.nl ?_
      refine R.hs (e' := [(0, _), (1, _), (4, _), (18, _)]) ?_
      refine R.cd (fun zc4 => ?_) (fun zc4 => ?_)
      ·
        refine R.sq ?_
        refine R.rg ?_
        refine R.bd Try.zeroValue23 places23 ?_
        refine R.st Try.sizeOf23 ?_
        refine R.as ?_
        refine R.nl ?_
        refine R.hs (e' := [(4, _), (5, _)]) ?_
        refine R.rt (RV.a Try.isAgg23 Try.sizeOf23 (RV.t .nil)) 1 ?_
        cases hq : okH (adoptT xs me) <;> simp_all [adoptR, errA, adoptT, z0H]
      ·
        refine Run.skip ?_
        refine R.sq ?_
        refine R.rg ?_
        refine R.mv ?_
        refine R.cg Try.call29 (refLow_spec ha) ?_
        refine R.mv ?_
        refine R.ex ?_
        refine R.ex ?_
        refine R.alA Try.zeroValue36 (fun zb5 hzb5 => ?_)
        refine R.st Try.sizeOf36 ?_
        refine R.as ?_
        refine R.nl ?_
        refine R.hs (e' := [(1, _), (4, _), (6, _), (7, _)]) ?_
        refine R.sq ?_
        refine R.sq ?_
        refine R.rg ?_
        refine R.mv ?_
        refine R.nt ?_
        refine R.nl ?_
        refine R.hs (e' := [(1, _), (4, _), (6, _), (26, _)]) ?_
        refine R.cd (fun zc6 => ?_) (fun zc6 => ?_)
        ·
          refine R.sq ?_
          refine R.rg ?_
          refine R.bd Try.zeroValue23 places23 ?_
          refine R.st Try.sizeOf23 ?_
          refine R.as ?_
          refine R.nl ?_
          refine R.hs (e' := [(4, _), (5, _)]) ?_
          refine R.rt (RV.a Try.isAgg23 Try.sizeOf23 (RV.t .nil)) 2 ?_
          cases hq : okH (adoptT xs me) <;> simp_all [adoptR, errA, adoptT, z0H]
        ·
          refine Run.skip ?_
          refine R.sq ?_
          refine Run.drawC Grow.eq 11 [(1, _), (4, _), (6, _)] mix (by kernel_rfl) (by repeat (first | exact trivial | refine ⟨rfl, ?_⟩)) ?_
          apply TC.val []
          · exact rfl
          · kernel_rfl
          ·
            rintro _ rfl 
            refine R.fa Try.runUnderlying36 Try.sizeOf23 ?_
            refine R.nl ?_
            exact Run.loc rfl rfl rfl
          apply TC.val [0]
          · exact rfl
          · kernel_rfl
          ·
            rintro _ rfl _ rfl
            refine R.lA 6 Try.isAgg23 Try.sizeOf23 ?_
            refine R.nl ?_
            exact Run.loc rfl rfl rfl
          apply TC.val [0]
          · exact rfl
          · kernel_rfl
          ·
            rintro _ rfl _ rfl
            refine R.cg Try.call31 (refLvl_spec _) ?_
            refine R.nl ?_
            exact Run.loc rfl rfl rfl
          apply TC.val []
          · exact rfl
          · kernel_rfl
          ·
            rintro _ rfl 
            refine R.fa Try.runUnderlying36 Try.sizeOf23 ?_
            refine R.nl ?_
            exact Run.loc rfl rfl rfl
          apply TC.val [0]
          · exact rfl
          · kernel_rfl
          ·
            rintro _ rfl _ rfl
            refine R.fa Try.runUnderlying23 Try.sizeOf3 ?_
            refine R.nl ?_
            exact Run.loc rfl rfl rfl
          apply TC.val [0]
          · exact rfl
          · kernel_rfl
          ·
            rintro _ rfl _ rfl
            refine R.ld Try.isAgg3 ?_
            refine R.nl ?_
            exact Run.loc rfl rfl rfl
          apply TC.val [0]
          · exact rfl
          · kernel_rfl
          ·
            rintro _ rfl _ rfl
            refine R.ad ?_
            refine R.nl ?_
            exact Run.loc rfl rfl rfl
          apply TC.val []
          · exact rfl
          · kernel_rfl
          ·
            rintro _ rfl 
            refine R.mv ?_
            refine R.nl ?_
            exact Run.loc rfl rfl rfl
          apply TC.val [5, 1, 0]
          · exact rfl
          · kernel_rfl
          ·
            rintro _ rfl _ rfl _ rfl _ rfl
            refine R.cg Try.call30 (refAt_spec (lvlH ((lowV xs).getD z0V).h) (((lowV xs).getD z0V).h.delta + 1) me) ?_
            refine R.nl ?_
            exact Run.loc rfl rfl rfl
          apply TC.val [0]
          · exact rfl
          · kernel_rfl
          ·
            rintro _ rfl _ rfl
            refine R.ex ?_
            refine R.nl ?_
            exact Run.loc rfl rfl rfl
          apply TC.val [1]
          · exact rfl
          · kernel_rfl
          ·
            rintro _ rfl _ rfl
            refine R.ex ?_
            refine R.nl ?_
            exact Run.loc rfl rfl rfl
          refine TC.fin (by rfl) ?_
          rintro _ rfl _ rfl _ rfl _ rfl _ rfl _ rfl _ rfl _ rfl _ rfl _ rfl _ rfl _ rfl
          refine R.st Try.sizeOf23 ?_
          refine R.as ?_
          refine R.nl ?_
          refine R.hs (e' := [(4, _), (5, _)]) ?_
          refine R.rt (RV.a Try.isAgg23 Try.sizeOf23 (RV.t .nil)) 2 ?_
          cases hq : okH (adoptT xs me) <;> simp_all [adoptR, errA, adoptT, z0H]
    ·
      refine R.gF (zg3) ?_
      refine R.pT (zg3) ?_
      refine R.nl ?_
      refine R.hs (e' := [(0, _), (1, _), (4, _), (18, _)]) ?_
      refine R.cT (rfl) ?_
      refine R.sq ?_
      refine R.rg ?_
      refine R.bd Try.zeroValue23 places23 ?_
      refine R.st Try.sizeOf23 ?_
      refine R.as ?_
      refine R.nl ?_
      refine R.hs (e' := [(4, _), (5, _)]) ?_
      refine R.rt (RV.a Try.isAgg23 Try.sizeOf23 (RV.t .nil)) 1 ?_
      cases hq : okH (adoptT xs me) <;> simp_all [adoptR, errA, adoptT, z0H]
  ·
    refine R.gF (zg2) ?_
    refine R.pT (zg2) ?_
    refine R.mv ?_
    refine R.gF (rfl) ?_
    refine R.gF (rfl) ?_
    refine R.pT (rfl) ?_
    refine R.nl ?_
    refine R.hs (e' := [(0, _), (1, _), (4, _), (18, _)]) ?_
    refine R.cT (rfl) ?_
    refine R.sq ?_
    refine R.rg ?_
    refine R.bd Try.zeroValue23 places23 ?_
    refine R.st Try.sizeOf23 ?_
    refine R.as ?_
    refine R.nl ?_
    refine R.hs (e' := [(4, _), (5, _)]) ?_
    refine R.rt (RV.a Try.isAgg23 Try.sizeOf23 (RV.t .nil)) 1 ?_
    cases hq : okH (adoptT xs me) <;> simp_all [adoptR, errA, adoptT, z0H]
end Go.Proofs.Ytgdpjpmjcpieiaa
