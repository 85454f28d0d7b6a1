import Derived.Test.YtgdpjpmjcpieiaaGreatQ3
/- Views: a view of one, sameness; which way a link goes; what is adopted and generated. No condition. -/
namespace Go.Proofs.YtgdpjpmjcpieiaaGreat
open Go
set_option linter.unusedVariables false
set_option linter.unusedSimpArgs false
set_option maxRecDepth 100000
set_option maxHeartbeats 0
theorem vSame_spec {g : Gl} {D : Dict} {M : MList} {a b : Value} {xs ys : List Vw} (ha : Vws D a xs) (hb : Vws D b ys) : Gives Tryz.prog g 43 [a, b] D M (.bool (decide (xs = ys))) := by
  have hla := ha.form.choose_spec.choose_spec.2.2
  refine Gives.enter Tryz.func43 rfl Tryz.ntmps43 ?_; refine R.sq ?_; refine R.rg ?_; refine R.as ?_; refine R.nl ?_; refine R.hs (e' := [(0, _), (1, _)]) ?_; refine R.sq ?_; refine R.sq ?_; refine R.rg ?_; refine R.mv ?_; refine R.ll (ha) Tryz.runUnderlying24 ?_; refine R.mv ?_; refine R.ll (hb) Tryz.runUnderlying24 ?_; refine R.cm ?_; refine R.nl ?_; refine R.hs (e' := [(0, _), (1, _), (10, _)]) ?_; refine R.cd (fun zc1 => ?_) (fun zc1 => ?_)
  ·
   have hne : xs ≠ ys := by rintro rfl; simp at zc1
   refine R.sq ?_; refine R.rg ?_; refine R.as ?_; refine R.nl ?_; refine R.hs (e' := [(4, _)]) ?_; refine R.rt (RV.t .nil) 0 (congrArg Value.bool ?_)
   simp [hne]
  ·
   have hxy : xs.length = ys.length := by simp at zc1; omega
   refine Run.skip ?_; refine R.sq ?_; refine R.sq ?_; refine R.rg ?_; refine R.as ?_; refine R.nl ?_; refine R.hs (e' := [(0, _), (1, _), (5, _)]) ?_; refine Run.block ?_; refine Run.loop (ι := Nat) [(0, _), (1, _)] (fun i => [(5, .int .i64 (i : Int))]) (fun _ => D) (fun _ => M) (fun i => i ≤ xs.length ∧ xs.take i = ys.take i) (fun i => xs.length - i) (0) (by repeat (first | exact trivial | refine ⟨rfl, ?_⟩)) ?h0 (by repeat (first | exact trivial | refine ⟨rfl, ?_⟩)) (fun w hs => hs) ?_
   case h0 => exact ⟨Nat.zero_le _, rfl⟩
   rintro i ⟨hi, hpre⟩; refine R.sq ?_; refine R.sq ?_; refine R.rg ?_; refine R.mv ?_; refine R.mv ?_; refine R.ll (ha) Tryz.runUnderlying24 ?_; refine R.cm ?_; refine R.nl ?_; refine R.hs (e' := [(0, _), (1, _), (5, _), (14, _)]) ?_; refine R.cd (fun zc2 => ?_) (fun zc2 => ?_)
   ·
    have hlt : i < xs.length := by simp at zc2; omega
    obtain ⟨x, hgx⟩ := get_of_lt hlt
    obtain ⟨y, hgy⟩ := get_of_lt (xs := ys) (i := i) (by omega)
    obtain ⟨b1, o1, hI1, hc1⟩ := ha.at Vw.len hgx
    obtain ⟨b2, o2, hI2, hc2⟩ := hb.at Vw.len hgy
    refine Run.skip ?_; refine R.sq ?_; refine Run.block ?_; refine R.sq ?_; refine Run.drawC Grow.eq 8 [(0, _), (1, _), (5, _)] mix (by kernel_rfl) (by repeat (first | exact trivial | refine ⟨rfl, ?_⟩)) ?_; apply TC.val []; exact rfl; kernel_rfl
    ·rintro _ rfl ; refine R.mv ?_; refine R.nl ?_; exact Run.loc rfl rfl rfl
    apply TC.val []; exact rfl; kernel_rfl
    ·rintro _ rfl ; refine R.mv ?_; refine R.nl ?_; exact Run.loc rfl rfl rfl
    apply TC.val [1, 0]; exact rfl; kernel_rfl
    ·rintro _ rfl _ rfl _ rfl; refine R.ix (hI1) Tryz.runUnderlying24 Tryz.sizeOf72 ?_; refine R.nl ?_; exact Run.loc rfl rfl rfl
    apply TC.val [0]; exact rfl; kernel_rfl
    ·rintro _ rfl _ rfl; refine R.lAD 7 Tryz.isAgg72 Tryz.sizeOf72 ?_; refine R.nl ?_; exact Run.loc rfl rfl rfl
    apply TC.val []; exact rfl; kernel_rfl
    ·rintro _ rfl ; refine R.mv ?_; refine R.nl ?_; exact Run.loc rfl rfl rfl
    apply TC.val []; exact rfl; kernel_rfl
    ·rintro _ rfl ; refine R.mv ?_; refine R.nl ?_; exact Run.loc rfl rfl rfl
    apply TC.val [1, 0]; exact rfl; kernel_rfl
    ·rintro _ rfl _ rfl _ rfl; refine R.ix (hI2) Tryz.runUnderlying24 Tryz.sizeOf72 ?_; refine R.nl ?_; exact Run.loc rfl rfl rfl
    apply TC.val [0]; exact rfl; kernel_rfl
    ·rintro _ rfl _ rfl; refine R.lAD 7 Tryz.isAgg72 Tryz.sizeOf72 ?_; refine R.nl ?_; exact Run.loc rfl rfl rfl
    refine TC.fin (by rfl) ?_; rintro _ rfl _ rfl _ rfl _ rfl _ rfl _ rfl _ rfl _ rfl _ rfl; refine R.na Tryz.eqGuardType72 (eqAt72 _ _ _ _ _ _ _ _ _ _ _ _ _ _) ?_; refine R.nl ?_; refine R.hs (e' := [(0, _), (1, _), (5, _), (25, _)]) ?_; refine R.cd (fun zc12 => ?_) (fun zc12 => ?_)
    ·
     have hne : xs ≠ ys := by rintro rfl; rw [hgx] at hgy; cases hgy; simp at zc12
     refine R.sq ?_; refine R.rg ?_; refine R.as ?_; refine R.nl ?_; refine R.hs (e' := [(4, _)]) ?_; refine R.rt (RV.t .nil) 0 (congrArg Value.bool ?_)
     simp [hne]
    ·
     have hxe : x = y := by rw [Vw.ext']; simpa using zc12
     refine Run.skip ?_; refine Run.endBlock ?_; refine R.rg ?_; refine R.mv ?_; refine R.ad ?_; refine R.as ?_; refine R.nl ?_; refine R.hs (e' := [(0, _), (1, _), (5, _)]) ?_; exact Run.again (i + 1) ⟨by omega, by rw [take_succ' hgx, take_succ' hgy, hpre, hxe]⟩ (by omega) ⟨rfl, by repeat (first | exact trivial | refine ⟨rfl, ?_⟩)⟩ (fun w hs => hs)
   ·
    have hge : i = xs.length := by simp at zc2; omega
    have hne : xs = ys := by rw [hge, List.take_length, hxy, List.take_length] at hpre; exact hpre
    refine Run.exit rfl ?_; refine R.sq ?_; refine R.rg ?_; refine R.as ?_; refine R.nl ?_; refine R.hs (e' := [(4, _)]) ?_; refine R.rt (RV.t .nil) 0 (congrArg Value.bool ?_)
    simp [hne]
theorem lTold_spec {g : Gl} {D : Dict} {M : MList} (h : Ht) : Gives Tryz.prog g 115 [.agg (Ht.cells h).toArray] D M (.bool (toldH h)) := by
  refine Gives.enter Tryz.func115 rfl Tryz.ntmps115 ?_; refine R.sq ?_; refine R.rg ?_; refine R.bxA (fun zb1 hzb1 => ?_); refine R.as ?_; refine R.nl ?_; refine R.hs (e' := [(1, _)]) ?_; refine R.sq ?_; refine R.rg ?_; refine R.fa Tryz.runUnderlying23 Tryz.sizeOf4 ?_; refine R.ld Tryz.isAgg4 ?_; refine R.nt ?_; refine R.mv ?_; refine R.gd (fun zg2 => ?_) (fun zg2 => ?_)
  ·refine R.lA 6 Tryz.isAgg23 Tryz.sizeOf23 ?_; refine R.gY (zg2) ?_; refine R.cg Tryz.call44 (hCheck_spec _) ?_; refine R.gY (zg2) ?_; refine R.cm ?_; refine R.pT (zg2) ?_; refine R.as ?_; refine R.nl ?_; refine R.hs (e' := [(2, _)]) ?_; refine R.rt (RV.t .nil) 1 (congrArg Value.bool ?_)
   simp only [toldH, errA] at *; grind
  ·refine R.gF (zg2) ?_; refine R.gF (zg2) ?_; refine R.pF (zg2) ?_; refine R.as ?_; refine R.nl ?_; refine R.hs (e' := [(2, _)]) ?_; refine R.rt (RV.t .nil) 1 (congrArg Value.bool ?_)
   simp only [toldH, errA] at *; grind
/-- P18: which way a link goes -/
def dirH (own h : Ht) : Int := if !toldH h then 0 else if !toldH own || lessH h own then 1 else if lessH own h then 2 else 0
theorem dir_spec {g : Gl} {D : Dict} {M : MList} (own h : Ht) : Gives Tryz.prog g 90 [.agg (Ht.cells own).toArray, .agg (Ht.cells h).toArray] D M (.int .i64 (dirH own h)) := by
  refine Gives.enter Tryz.func90 rfl Tryz.ntmps90 ?_; refine R.sq ?_; refine R.rg ?_; refine R.bxA (fun zb1 hzb1 => ?_); refine R.bxA (fun zb2 hzb2 => ?_); refine R.as ?_; refine R.nl ?_; refine R.hs (e' := [(2, _), (3, _)]) ?_; refine R.sq ?_; refine Run.block ?_; refine R.sq ?_; refine R.rg ?_; refine R.lA 6 Tryz.isAgg23 Tryz.sizeOf23 ?_; refine R.cg Tryz.call115 (lTold_spec _) ?_; refine R.nt ?_; refine R.as ?_; refine R.nl ?_; refine R.hs (e' := [(2, _), (3, _), (5, _)]) ?_; refine R.cd (fun zc3 => ?_) (fun zc3 => ?_)
  ·refine R.sq ?_; refine R.rg ?_; refine R.as ?_; refine R.nl ?_; refine R.hs (e' := [(4, _)]) ?_; refine R.rt (RV.t .nil) 2 (congrArg (Value.int .i64) ?_)
   simp_all [dirH]
  ·refine R.sq ?_; refine R.rg ?_; refine R.lA 6 Tryz.isAgg23 Tryz.sizeOf23 ?_; refine R.cg Tryz.call115 (lTold_spec _) ?_; refine R.nt ?_; refine R.mv ?_; refine R.gd (fun zg4 => ?_) (fun zg4 => ?_)
   ·refine R.lA 6 Tryz.isAgg23 Tryz.sizeOf23 ?_; refine R.gY (zg4) ?_; refine R.lA 6 Tryz.isAgg23 Tryz.sizeOf23 ?_; refine R.gY (zg4) ?_; refine R.cg Tryz.call116 (less_spec _ _) ?_; refine R.pF (zg4) ?_; refine R.as ?_; refine R.nl ?_; refine R.hs (e' := [(2, _), (3, _), (9, _)]) ?_; refine R.cd (fun zc5 => ?_) (fun zc5 => ?_)
    ·refine R.sq ?_; refine R.rg ?_; refine R.as ?_; refine R.nl ?_; refine R.hs (e' := [(4, _)]) ?_; refine R.rt (RV.t .nil) 2 (congrArg (Value.int .i64) ?_)
     simp_all [dirH]
    ·refine R.sq ?_; refine R.rg ?_; refine R.lA 6 Tryz.isAgg23 Tryz.sizeOf23 ?_; refine R.lA 6 Tryz.isAgg23 Tryz.sizeOf23 ?_; refine R.cg Tryz.call116 (less_spec _ _) ?_; refine R.as ?_; refine R.nl ?_; refine R.hs (e' := [(18, _)]) ?_; refine R.cd (fun zc6 => ?_) (fun zc6 => ?_)
     ·refine R.sq ?_; refine R.rg ?_; refine R.as ?_; refine R.nl ?_; refine R.hs (e' := [(4, _)]) ?_; refine R.rt (RV.t .nil) 2 (congrArg (Value.int .i64) ?_)
      simp_all [dirH]
     ·refine Run.skip ?_; refine Run.endBlock ?_; refine R.sq ?_; refine R.rg ?_; refine R.as ?_; refine R.nl ?_; refine R.hs (e' := [(4, _)]) ?_; refine R.rt (RV.t .nil) 2 (congrArg (Value.int .i64) ?_)
      simp_all [dirH]
   ·refine R.gF (zg4) ?_; refine R.gF (zg4) ?_; refine R.pT (zg4) ?_; refine R.as ?_; refine R.nl ?_; refine R.hs (e' := [(2, _), (3, _), (9, _)]) ?_; refine R.cT (rfl) ?_; refine R.sq ?_; refine R.rg ?_; refine R.as ?_; refine R.nl ?_; refine R.hs (e' := [(4, _)]) ?_; refine R.rt (RV.t .nil) 2 (congrArg (Value.int .i64) ?_)
    simp_all [dirH]
theorem refDir_spec {g : Gl} {D : Dict} {M : MList} (own h : Ht) : Gives Tryz.prog g 170 [.agg (Ht.cells own).toArray, .agg (Ht.cells h).toArray] D M (.int .i64 (dirH own h)) := by
  refine Gives.enter Tryz.func170 rfl Tryz.ntmps170 ?_; refine R.sq ?_; refine R.rg ?_; refine R.bxA (fun zb1 hzb1 => ?_); refine R.bxA (fun zb2 hzb2 => ?_); refine R.as ?_; refine R.nl ?_; refine R.hs (e' := [(2, _), (3, _)]) ?_; refine R.sq ?_; refine R.sq ?_; refine R.rg ?_; refine R.lA 6 Tryz.isAgg23 Tryz.sizeOf23 ?_; refine R.cg Tryz.call111 (refTold_spec _) ?_; refine R.nt ?_; refine R.nl ?_; refine R.hs (e' := [(2, _), (3, _), (7, _)]) ?_; refine R.cd (fun zc3 => ?_) (fun zc3 => ?_)
  ·refine R.sq ?_; refine R.rg ?_; refine R.as ?_; refine R.nl ?_; refine R.hs (e' := [(4, _)]) ?_; refine R.rt (RV.t .nil) 2 (congrArg (Value.int .i64) ?_)
   simp_all [dirH]
  ·refine Run.skip ?_; refine R.sq ?_; refine R.sq ?_; refine R.rg ?_; refine R.lA 6 Tryz.isAgg23 Tryz.sizeOf23 ?_; refine R.cg Tryz.call111 (refTold_spec _) ?_; refine R.nt ?_; refine R.mv ?_; refine R.gd (fun zg4 => ?_) (fun zg4 => ?_)
   ·refine R.lA 6 Tryz.isAgg23 Tryz.sizeOf23 ?_; refine R.gY (zg4) ?_; refine R.lA 6 Tryz.isAgg23 Tryz.sizeOf23 ?_; refine R.gY (zg4) ?_; refine R.cg Tryz.call161 (refLess_spec _ _) ?_; refine R.pF (zg4) ?_; refine R.nl ?_; refine R.hs (e' := [(2, _), (3, _), (15, _)]) ?_; refine R.cd (fun zc5 => ?_) (fun zc5 => ?_)
    ·refine R.sq ?_; refine R.rg ?_; refine R.as ?_; refine R.nl ?_; refine R.hs (e' := [(4, _)]) ?_; refine R.rt (RV.t .nil) 2 (congrArg (Value.int .i64) ?_)
     simp_all [dirH]
    ·refine Run.skip ?_; refine R.sq ?_; refine R.sq ?_; refine R.rg ?_; refine R.lA 6 Tryz.isAgg23 Tryz.sizeOf23 ?_; refine R.lA 6 Tryz.isAgg23 Tryz.sizeOf23 ?_; refine R.cg Tryz.call161 (refLess_spec _ _) ?_; refine R.nl ?_; refine R.hs (e' := [(18, _)]) ?_; refine R.cd (fun zc6 => ?_) (fun zc6 => ?_)
     ·refine R.sq ?_; refine R.rg ?_; refine R.as ?_; refine R.nl ?_; refine R.hs (e' := [(4, _)]) ?_; refine R.rt (RV.t .nil) 2 (congrArg (Value.int .i64) ?_)
      simp_all [dirH]
     ·refine Run.skip ?_; refine R.sq ?_; refine R.rg ?_; refine R.as ?_; refine R.nl ?_; refine R.hs (e' := [(4, _)]) ?_; refine R.rt (RV.t .nil) 2 (congrArg (Value.int .i64) ?_)
      simp_all [dirH]
   ·refine R.gF (zg4) ?_; refine R.gF (zg4) ?_; refine R.pT (zg4) ?_; refine R.nl ?_; refine R.hs (e' := [(2, _), (3, _), (15, _)]) ?_; refine R.cT (rfl) ?_; refine R.sq ?_; refine R.rg ?_; refine R.as ?_; refine R.nl ?_; refine R.hs (e' := [(4, _)]) ?_; refine R.rt (RV.t .nil) 2 (congrArg (Value.int .i64) ?_)
    simp_all [dirH]
def genT (now me : Int) : Ht := atH ⟨now, me, 0⟩ 0 me
theorem gen_spec {g : Gl} {D : Dict} {M : MList} (now me : Int) : Gives Tryz.prog g 146 [.int .i64 now, .int .i64 me] D M (.tuple #[.agg (Ht.cells (if okH (genT now me) then genT now me else z0H)).toArray, .int .i64 (errA (okH (genT now me)))]) := by
  refine Gives.enter Tryz.func146 rfl Tryz.ntmps146 ?_; refine R.sq ?_; refine R.rg ?_; refine R.alA Tryz.zeroValue23 (fun zb1 hzb1 => ?_); refine R.as ?_; refine R.nl ?_; refine R.hs (e' := [(0, _), (1, _), (4, _)]) ?_; refine R.sq ?_; refine R.rg ?_; refine R.mv ?_; refine R.mv ?_; refine R.bd Tryz.zeroValue28 places28 ?_; refine R.mv ?_; refine R.cg Tryz.call49 (hAt_spec ⟨now, me, 0⟩ _ _) ?_; refine R.ex ?_; refine R.ex ?_; refine R.st Tryz.sizeOf23 ?_; refine R.as ?_; refine R.nl ?_; refine R.hs (e' := [(4, _), (5, _)]) ?_; exact R.rt (RV.a Tryz.isAgg23 Tryz.sizeOf23 (RV.t .nil)) 1 rfl
theorem refGen_spec {g : Gl} {D : Dict} {M : MList} (now me : Int) : Gives Tryz.prog g 132 [.int .i64 now, .int .i64 me] D M (.tuple #[.agg (Ht.cells (if okH (genT now me) then genT now me else z0H)).toArray, .int .i64 (errA (okH (genT now me)))]) := by
  refine Gives.enter Tryz.func132 rfl Tryz.ntmps132 ?_; refine R.sq ?_; refine R.rg ?_; refine R.alA Tryz.zeroValue23 (fun zb1 hzb1 => ?_); refine R.as ?_; refine R.nl ?_; refine R.hs (e' := [(0, _), (1, _), (4, _)]) ?_; refine R.sq ?_; refine R.rg ?_; refine R.mv ?_; refine R.mv ?_; refine R.bd Tryz.zeroValue28 places28 ?_; refine R.mv ?_; refine R.cg Tryz.call114 (refAt_spec ⟨now, me, 0⟩ _ _) ?_; refine R.ex ?_; refine R.ex ?_; refine R.st Tryz.sizeOf23 ?_; refine R.as ?_; refine R.nl ?_; refine R.hs (e' := [(4, _), (5, _)]) ?_; exact R.rt (RV.a Tryz.isAgg23 Tryz.sizeOf23 (RV.t .nil)) 1 rfl
theorem with_spec {g : Gl} {D : Dict} {M : MList} (h : Ht) (c e : Int) : Gives Tryz.prog g 133 [.agg (Ht.cells h).toArray, .int .i64 c, .int .i64 e] D M (.tuple #[.agg (Ht.cells (if e = 0 then h else z0H)).toArray, .int .i64 (if e = 0 then c else 0), .int .i64 e]) := by
  refine Gives.enter Tryz.func133 rfl Tryz.ntmps133 ?_; refine R.sq ?_; refine R.rg ?_; refine R.bxA (fun zb1 hzb1 => ?_); refine R.alA Tryz.zeroValue23 (fun zb2 hzb2 => ?_); refine R.as ?_; refine R.as ?_; refine R.nl ?_; refine R.hs (e' := [(1, _), (2, _), (3, _), (6, _)]) ?_; refine R.sq ?_; refine R.sq ?_; refine R.rg ?_; refine R.mv ?_; refine R.cm ?_; refine R.nl ?_; refine R.hs (e' := [(1, _), (2, _), (3, _), (6, _), (10, _)]) ?_; refine R.cd (fun zc3 => ?_) (fun zc3 => ?_)
  ·
   have hne : e ≠ 0 := by simpa using zc3
   refine R.sq ?_; refine R.rg ?_; refine R.bd Tryz.zeroValue23 places23 ?_; refine R.mv ?_; refine R.st Tryz.sizeOf23 ?_; refine R.as ?_; refine R.as ?_; refine R.nl ?_; refine R.hs (e' := [(6, _), (7, _), (8, _)]) ?_; refine R.rt (RV.a Tryz.isAgg23 Tryz.sizeOf23 (RV.t (RV.t .nil))) 2 ?_
   simp [hne, z0H]
  ·
   have hne : e = 0 := by simpa using zc3
   refine Run.skip ?_; refine R.sq ?_; refine R.rg ?_; refine R.lA 6 Tryz.isAgg23 Tryz.sizeOf23 ?_; refine R.mv ?_; refine R.st Tryz.sizeOf23 ?_; refine R.as ?_; refine R.as ?_; refine R.nl ?_; refine R.hs (e' := [(6, _), (7, _), (8, _)]) ?_; refine R.rt (RV.a Tryz.isAgg23 Tryz.sizeOf23 (RV.t (RV.t .nil))) 2 ?_
   simp [hne, z0H]
theorem lowV_told {xs : List Vw} {v : Vw} (h : lowV xs = some v) : toldH v.h = true := by
  have key : ∀ (xs : List Vw) (b : Option Vw), (∀ u, b = some u → toldH u.h = true) → ∀ u, xs.foldl lowStep b = some u → toldH u.h = true := by
    intro xs
    induction xs with
    | nil => exact fun b hb u hu => hb u hu
    | cons x r ih =>
      intro b hb u hu
      refine ih (lowStep b x) (fun u hu => ?_) u hu
      unfold lowStep at hu
      split at hu
      · rename_i hc
        injection hu with hu
        subst hu
        simp at hc
        exact hc.1
      · exact hb u hu
  exact key xs none (fun _ h => by cases h) v h
theorem told_delta {h : Ht} (ht : toldH h = true) : -1099511627776 ≤ h.delta ∧ h.delta ≤ 1099511627776 := by
  simp only [toldH, okH, Bool.and_eq_true, decide_eq_true_eq, Bool.not_eq_true'] at ht
  obtain ⟨⟨_, _, h3⟩, h4⟩ := ht
  simp [h4] at h3
  omega
theorem lowV_delta (xs : List Vw) : -1099511627776 ≤ ((lowV xs).getD z0V).h.delta ∧ ((lowV xs).getD z0V).h.delta ≤ 1099511627776 := by
  cases h : lowV xs with
  | none => simp [z0V, z0H]
  | some v => exact told_delta (lowV_told h)
def zeroH (me : Int) : Ht := ⟨false, 0, 0, 0, 0, me⟩
def adoptT (xs : List Vw) (me : Int) : Ht := atH (lvlH ((lowV xs).getD z0V).h) (((lowV xs).getD z0V).h.delta + 1) me
/-- P19: what is adopted -/
def adoptR (xs : List Vw) (me : Int) : Ht × Int :=
  if !okVs xs || !okH (zeroH me) then (z0H, 1) else if !(lowV xs).isSome then (z0H, 7) else (if okH (adoptT xs me) then adoptT xs me else z0H, errA (okH (adoptT xs me)))
theorem okZero (me : Int) : okH (zeroH me) = (decide (0 ≤ me) && decide (me < 64)) := by
  rw [Bool.eq_iff_iff]; simp [okH, zeroH]
theorem adopt_spec {g : Gl} {D : Dict} {M : MList} {a : Value} {xs : List Vw} (me : Int) (ha : Vws D a xs) : Gives Tryz.prog g 118 [a, .int .i64 me] D M (.tuple #[.agg (Ht.cells (adoptR xs me).1).toArray, .int .i64 (adoptR xs me).2]) := by
  have hdl := lowV_delta xs
  refine Gives.enter Tryz.func118 rfl Tryz.ntmps118 ?_; refine R.sq ?_; refine R.rg ?_; refine R.alA Tryz.zeroValue23 (fun zb1 hzb1 => ?_); refine R.as ?_; refine R.nl ?_; refine R.hs (e' := [(0, _), (1, _), (4, _)]) ?_; refine R.sq ?_; refine R.rg ?_; refine R.mv ?_; refine R.cg Tryz.call140 (vLow_spec ha) ?_; refine R.mv ?_; refine R.ex ?_; refine R.ex ?_; refine R.alA Tryz.zeroValue72 (fun zb2 hzb2 => ?_); refine R.st Tryz.sizeOf72 ?_; refine R.as ?_; refine R.nl ?_; refine R.hs (e' := [(0, _), (1, _), (4, _), (6, _), (7, _)]) ?_; refine R.sq ?_; refine Run.block ?_; refine R.sq ?_; refine R.rg ?_; refine R.mv ?_; refine R.cg Tryz.call45 (vCheck_spec ha) ?_; refine R.cm ?_; refine R.mv ?_; refine R.gd (fun zg3 => ?_) (fun zg3 => ?_)
  ·refine R.mv ?_; refine R.gY (zg3) ?_; refine R.cg Tryz.call22 (zero_spec _) ?_; refine R.gY (zg3) ?_; refine R.cg Tryz.call44 (hCheck_spec (zeroH me)) ?_; refine R.gY (zg3) ?_; refine R.cm ?_; refine R.pF (zg3) ?_; refine R.as ?_; refine R.nl ?_; refine R.hs (e' := [(1, _), (4, _), (6, _), (7, _), (13, _)]) ?_; refine R.cd (fun zc4 => ?_) (fun zc4 => ?_)
   ·refine R.sq ?_; refine R.rg ?_; refine R.bd Tryz.zeroValue23 places23 ?_; refine R.st Tryz.sizeOf23 ?_; refine R.as ?_; refine R.nl ?_; refine R.hs (e' := [(4, _), (5, _)]) ?_; refine R.rt (RV.a Tryz.isAgg23 Tryz.sizeOf23 (RV.t .nil)) 2 ?_
    cases hq : okH (adoptT xs me) <;> simp_all [adoptR, errA, adoptT, z0H]
   ·refine R.sq ?_; refine R.rg ?_; refine R.mv ?_; refine R.nt ?_; refine R.as ?_; refine R.nl ?_; refine R.hs (e' := [(1, _), (4, _), (6, _), (24, _)]) ?_; refine R.cd (fun zc5 => ?_) (fun zc5 => ?_)
    ·refine R.sq ?_; refine R.rg ?_; refine R.bd Tryz.zeroValue23 places23 ?_; refine R.st Tryz.sizeOf23 ?_; refine R.as ?_; refine R.nl ?_; refine R.hs (e' := [(4, _), (5, _)]) ?_; refine R.rt (RV.a Tryz.isAgg23 Tryz.sizeOf23 (RV.t .nil)) 2 ?_
     cases hq : okH (adoptT xs me) <;> simp_all [adoptR, errA, adoptT, z0H]
    ·refine Run.skip ?_; refine Run.endBlock ?_; refine R.sq ?_; refine Run.drawC Grow.eq 11 [(1, _), (4, _), (6, _)] mix (by kernel_rfl) (by repeat (first | exact trivial | refine ⟨rfl, ?_⟩)) ?_; apply TC.val []; exact rfl; kernel_rfl
     ·rintro _ rfl ; refine R.fa Tryz.runUnderlying72 Tryz.sizeOf23 ?_; refine R.nl ?_; exact Run.loc rfl rfl rfl
     apply TC.val [0]; exact rfl; kernel_rfl
     ·rintro _ rfl _ rfl; refine R.lA 6 Tryz.isAgg23 Tryz.sizeOf23 ?_; refine R.nl ?_; exact Run.loc rfl rfl rfl
     apply TC.val [0]; exact rfl; kernel_rfl
     ·rintro _ rfl _ rfl; refine R.cg Tryz.call102 (lvl_spec _) ?_; refine R.nl ?_; exact Run.loc rfl rfl rfl
     apply TC.val []; exact rfl; kernel_rfl
     ·rintro _ rfl ; refine R.fa Tryz.runUnderlying72 Tryz.sizeOf23 ?_; refine R.nl ?_; exact Run.loc rfl rfl rfl
     apply TC.val [0]; exact rfl; kernel_rfl
     ·rintro _ rfl _ rfl; refine R.fa Tryz.runUnderlying23 Tryz.sizeOf3 ?_; refine R.nl ?_; exact Run.loc rfl rfl rfl
     apply TC.val [0]; exact rfl; kernel_rfl
     ·rintro _ rfl _ rfl; refine R.ld Tryz.isAgg3 ?_; refine R.nl ?_; exact Run.loc rfl rfl rfl
     apply TC.val [0]; exact rfl; kernel_rfl
     ·rintro _ rfl _ rfl; refine R.ad ?_; refine R.nl ?_; exact Run.loc rfl rfl rfl
     apply TC.val []; exact rfl; kernel_rfl
     ·rintro _ rfl ; refine R.mv ?_; refine R.nl ?_; exact Run.loc rfl rfl rfl
     apply TC.val [5, 1, 0]; exact rfl; kernel_rfl
     ·rintro _ rfl _ rfl _ rfl _ rfl; refine R.cg Tryz.call49 (hAt_spec (lvlH ((lowV xs).getD z0V).h) (((lowV xs).getD z0V).h.delta + 1) me) ?_; refine R.nl ?_; exact Run.loc rfl rfl rfl
     apply TC.val [0]; exact rfl; kernel_rfl
     ·rintro _ rfl _ rfl; refine R.ex ?_; refine R.nl ?_; exact Run.loc rfl rfl rfl
     apply TC.val [1]; exact rfl; kernel_rfl
     ·rintro _ rfl _ rfl; refine R.ex ?_; refine R.nl ?_; exact Run.loc rfl rfl rfl
     refine TC.fin (by rfl) ?_; rintro _ rfl _ rfl _ rfl _ rfl _ rfl _ rfl _ rfl _ rfl _ rfl _ rfl _ rfl _ rfl; refine R.st Tryz.sizeOf23 ?_; refine R.as ?_; refine R.nl ?_; refine R.hs (e' := [(4, _), (5, _)]) ?_; refine R.rt (RV.a Tryz.isAgg23 Tryz.sizeOf23 (RV.t .nil)) 2 ?_
     cases hq : okH (adoptT xs me) <;> simp_all [adoptR, errA, adoptT, z0H]
  ·refine R.gF (zg3) ?_; refine R.gF (zg3) ?_; refine R.gF (zg3) ?_; refine R.pT (zg3) ?_; refine R.as ?_; refine R.nl ?_; refine R.hs (e' := [(1, _), (4, _), (6, _), (7, _), (13, _)]) ?_; refine R.cT (rfl) ?_; refine R.sq ?_; refine R.rg ?_; refine R.bd Tryz.zeroValue23 places23 ?_; refine R.st Tryz.sizeOf23 ?_; refine R.as ?_; refine R.nl ?_; refine R.hs (e' := [(4, _), (5, _)]) ?_; refine R.rt (RV.a Tryz.isAgg23 Tryz.sizeOf23 (RV.t .nil)) 2 ?_
   cases hq : okH (adoptT xs me) <;> simp_all [adoptR, errA, adoptT, z0H]
theorem refAdopt_spec {g : Gl} {D : Dict} {M : MList} {a : Value} {xs : List Vw} (me : Int) (ha : Vws D a xs) : Gives Tryz.prog g 130 [a, .int .i64 me] D M (.tuple #[.agg (Ht.cells (adoptR xs me).1).toArray, .int .i64 (adoptR xs me).2]) := by
  have hdl := lowV_delta xs
  have hz := okZero me
  refine Gives.enter Tryz.func130 rfl Tryz.ntmps130 ?_; refine R.sq ?_; refine R.rg ?_; refine R.alA Tryz.zeroValue23 (fun zb1 hzb1 => ?_); refine R.as ?_; refine R.nl ?_; refine R.hs (e' := [(0, _), (1, _), (4, _)]) ?_; refine R.sq ?_; refine R.sq ?_; refine R.rg ?_; refine R.mv ?_; refine R.cg Tryz.call48 (refVRight_spec ha) ?_; refine R.nt ?_; refine R.mv ?_; refine R.gd (fun zg2 => ?_) (fun zg2 => ?_)
  ·refine R.mv ?_; refine R.gY (zg2) ?_; refine R.cm ?_; refine R.pF (zg2) ?_; refine R.mv ?_; refine R.gd (fun zg3 => ?_) (fun zg3 => ?_)
   ·refine R.mv ?_; refine R.gY (zg3) ?_; refine R.cm ?_; refine R.pF (zg3) ?_; refine R.nl ?_; refine R.hs (e' := [(0, _), (1, _), (4, _), (18, _)]) ?_; refine R.cd (fun zc4 => ?_) (fun zc4 => ?_)
    ·refine R.sq ?_; refine R.rg ?_; refine R.bd Tryz.zeroValue23 places23 ?_; refine R.st Tryz.sizeOf23 ?_; refine R.as ?_; refine R.nl ?_; refine R.hs (e' := [(4, _), (5, _)]) ?_; refine R.rt (RV.a Tryz.isAgg23 Tryz.sizeOf23 (RV.t .nil)) 1 ?_
     cases hq : okH (adoptT xs me) <;> simp_all [adoptR, errA, adoptT, z0H]
    ·refine Run.skip ?_; refine R.sq ?_; refine R.rg ?_; refine R.mv ?_; refine R.cg Tryz.call129 (refLow_spec ha) ?_; refine R.mv ?_; refine R.ex ?_; refine R.ex ?_; refine R.alA Tryz.zeroValue72 (fun zb5 hzb5 => ?_); refine R.st Tryz.sizeOf72 ?_; refine R.as ?_; refine R.nl ?_; refine R.hs (e' := [(1, _), (4, _), (6, _), (7, _)]) ?_; refine R.sq ?_; refine R.sq ?_; refine R.rg ?_; refine R.mv ?_; refine R.nt ?_; refine R.nl ?_; refine R.hs (e' := [(1, _), (4, _), (6, _), (26, _)]) ?_; refine R.cd (fun zc6 => ?_) (fun zc6 => ?_)
     ·refine R.sq ?_; refine R.rg ?_; refine R.bd Tryz.zeroValue23 places23 ?_; refine R.st Tryz.sizeOf23 ?_; refine R.as ?_; refine R.nl ?_; refine R.hs (e' := [(4, _), (5, _)]) ?_; refine R.rt (RV.a Tryz.isAgg23 Tryz.sizeOf23 (RV.t .nil)) 2 ?_
      cases hq : okH (adoptT xs me) <;> simp_all [adoptR, errA, adoptT, z0H]
     ·refine Run.skip ?_; refine R.sq ?_; refine Run.drawC Grow.eq 11 [(1, _), (4, _), (6, _)] mix (by kernel_rfl) (by repeat (first | exact trivial | refine ⟨rfl, ?_⟩)) ?_; apply TC.val []; exact rfl; kernel_rfl
      ·rintro _ rfl ; refine R.fa Tryz.runUnderlying72 Tryz.sizeOf23 ?_; refine R.nl ?_; exact Run.loc rfl rfl rfl
      apply TC.val [0]; exact rfl; kernel_rfl
      ·rintro _ rfl _ rfl; refine R.lA 6 Tryz.isAgg23 Tryz.sizeOf23 ?_; refine R.nl ?_; exact Run.loc rfl rfl rfl
      apply TC.val [0]; exact rfl; kernel_rfl
      ·rintro _ rfl _ rfl; refine R.cg Tryz.call112 (refLvl_spec _) ?_; refine R.nl ?_; exact Run.loc rfl rfl rfl
      apply TC.val []; exact rfl; kernel_rfl
      ·rintro _ rfl ; refine R.fa Tryz.runUnderlying72 Tryz.sizeOf23 ?_; refine R.nl ?_; exact Run.loc rfl rfl rfl
      apply TC.val [0]; exact rfl; kernel_rfl
      ·rintro _ rfl _ rfl; refine R.fa Tryz.runUnderlying23 Tryz.sizeOf3 ?_; refine R.nl ?_; exact Run.loc rfl rfl rfl
      apply TC.val [0]; exact rfl; kernel_rfl
      ·rintro _ rfl _ rfl; refine R.ld Tryz.isAgg3 ?_; refine R.nl ?_; exact Run.loc rfl rfl rfl
      apply TC.val [0]; exact rfl; kernel_rfl
      ·rintro _ rfl _ rfl; refine R.ad ?_; refine R.nl ?_; exact Run.loc rfl rfl rfl
      apply TC.val []; exact rfl; kernel_rfl
      ·rintro _ rfl ; refine R.mv ?_; refine R.nl ?_; exact Run.loc rfl rfl rfl
      apply TC.val [5, 1, 0]; exact rfl; kernel_rfl
      ·rintro _ rfl _ rfl _ rfl _ rfl; refine R.cg Tryz.call114 (refAt_spec (lvlH ((lowV xs).getD z0V).h) (((lowV xs).getD z0V).h.delta + 1) me) ?_; refine R.nl ?_; exact Run.loc rfl rfl rfl
      apply TC.val [0]; exact rfl; kernel_rfl
      ·rintro _ rfl _ rfl; refine R.ex ?_; refine R.nl ?_; exact Run.loc rfl rfl rfl
      apply TC.val [1]; exact rfl; kernel_rfl
      ·rintro _ rfl _ rfl; refine R.ex ?_; refine R.nl ?_; exact Run.loc rfl rfl rfl
      refine TC.fin (by rfl) ?_; rintro _ rfl _ rfl _ rfl _ rfl _ rfl _ rfl _ rfl _ rfl _ rfl _ rfl _ rfl _ rfl; refine R.st Tryz.sizeOf23 ?_; refine R.as ?_; refine R.nl ?_; refine R.hs (e' := [(4, _), (5, _)]) ?_; refine R.rt (RV.a Tryz.isAgg23 Tryz.sizeOf23 (RV.t .nil)) 2 ?_
      cases hq : okH (adoptT xs me) <;> simp_all [adoptR, errA, adoptT, z0H]
   ·refine R.gF (zg3) ?_; refine R.pT (zg3) ?_; refine R.nl ?_; refine R.hs (e' := [(0, _), (1, _), (4, _), (18, _)]) ?_; refine R.cT (rfl) ?_; refine R.sq ?_; refine R.rg ?_; refine R.bd Tryz.zeroValue23 places23 ?_; refine R.st Tryz.sizeOf23 ?_; refine R.as ?_; refine R.nl ?_; refine R.hs (e' := [(4, _), (5, _)]) ?_; refine R.rt (RV.a Tryz.isAgg23 Tryz.sizeOf23 (RV.t .nil)) 1 ?_
    cases hq : okH (adoptT xs me) <;> simp_all [adoptR, errA, adoptT, z0H]
  ·refine R.gF (zg2) ?_; refine R.pT (zg2) ?_; refine R.mv ?_; refine R.gF (rfl) ?_; refine R.gF (rfl) ?_; refine R.pT (rfl) ?_; refine R.nl ?_; refine R.hs (e' := [(0, _), (1, _), (4, _), (18, _)]) ?_; refine R.cT (rfl) ?_; refine R.sq ?_; refine R.rg ?_; refine R.bd Tryz.zeroValue23 places23 ?_; refine R.st Tryz.sizeOf23 ?_; refine R.as ?_; refine R.nl ?_; refine R.hs (e' := [(4, _), (5, _)]) ?_; refine R.rt (RV.a Tryz.isAgg23 Tryz.sizeOf23 (RV.t .nil)) 1 ?_
   cases hq : okH (adoptT xs me) <;> simp_all [adoptR, errA, adoptT, z0H]
end Go.Proofs.YtgdpjpmjcpieiaaGreat

/- Rows of the call's own: appended to, read, written. No condition. -/
namespace Go.Proofs.YtgdpjpmjcpieiaaGreat
open Go
set_option linter.unusedVariables false
set_option linter.unusedSimpArgs false
/-- a row of one's own that reads as a list -/
def OL {α : Type} (sz : Nat) (cells : α → List Value) (T : TypeId) (v : Value) (xs : List α) (q : MList) : Prop := Own sz T v xs.length (xs.flatMap cells) q
section
variable {α : Type} {sz : Nat} {cells : α → List Value} {T : TypeId} {v : Value} {xs : List α} {q : MList}
theorem OL.nil : OL sz cells T (.slice none 0 0) ([] : List α) [] := Own.nil sz T
theorem OL.cat {ys : List α} {m : Nat} {fl : List Value} (h : Own sz T v (xs.length + m) (xs.flatMap cells ++ fl) q) (hm : m = ys.length) (hf : fl = ys.flatMap cells) : OL sz cells T v (xs ++ ys) q := by
  subst hm; subst hf
  unfold OL
  rw [List.length_append, List.flatMap_append]; exact h
theorem OL.snoc {x : α} {fl : List Value} (h : Own sz T v (xs.length + 1) (xs.flatMap cells ++ fl) q) (hf : fl = cells x) : OL sz cells T v (xs ++ [x]) q :=
  OL.cat (ys := [x]) h rfl (by simp [hf])
theorem OL.form (h : OL sz cells T v xs q) : ∃ A c, v = .slice A xs.length c ∧ xs.length ≤ maxLen := by
  rcases h.2 with ⟨h1, h2, h3⟩ | ⟨b, cap, cur, h1, h2, h3, h4, h5, h6⟩
  · exact ⟨none, 0, by rw [h1, h2], by rw [h2]; simp [maxLen]⟩
  · exact ⟨_, _, h1, Nat.le_trans h3 h4⟩
theorem OL.src {M : MList} {D : Dict} (h : OL sz cells T v xs q) (hM : ∀ p ∈ q, p ∈ M) : Src D M sz v xs.length (xs.flatMap cells) := Own.src h hM
theorem OL.at {M : MList} {D : Dict} (h : OL sz cells T v xs q) (hM : ∀ p ∈ q, p ∈ M) (hc : ∀ x, (cells x).length = sz) {i : Nat} {x : α} (hi : xs[i]? = some x) : ∃ b off, IxAt v i sz b off ∧ CsN D M b off sz (cells x) :=
  (h.src hM).at rfl hc hi
theorem layN_ok : ∀ {k : Nat} {l vs : List Value}, k + vs.length ≤ l.length → layN k l vs = some (l.take k ++ vs ++ l.drop (k + vs.length))
  | 0, l, [], _ => by cases l <;> simp [layN]
  | 0, [], _ :: _, h => by simp at h
  | 0, x :: r, v :: vs, h => by
    unfold layN
    rw [layN_ok (k := 0) (l := r) (vs := vs) (by simp at h ⊢; exact h)]
    simp
  | k + 1, [], vs, h => by simp at h
  | k + 1, x :: r, vs, h => by
    unfold layN
    rw [layN_ok (k := k) (l := r) (vs := vs) (by simp at h; omega)]
    simp [Nat.add_right_comm k 1]
theorem flat_set (hc : ∀ x, (cells x).length = sz) : ∀ (xs : List α) (i : Nat) (y : α), i < xs.length → (xs.set i y).flatMap cells = (xs.flatMap cells).take (i * sz) ++ cells y ++ (xs.flatMap cells).drop (i * sz + sz)
  | [], i, y, h => by simp at h
  | x :: r, 0, y, h => by simp [← hc x]
  | x :: r, i + 1, y, h => by
    rw [List.set_cons_succ, List.flatMap_cons, flat_set hc r i y (by simpa using h), List.flatMap_cons, List.take_append, List.drop_append, hc]
    have h1 : (i + 1) * sz - sz = i * sz := by rw [Nat.succ_mul]; omega
    have h2 : (i + 1) * sz + sz - sz = i * sz + sz := by rw [Nat.succ_mul]; omega
    rw [h1, h2, List.take_of_length_le (l := cells x) (by rw [hc, Nat.succ_mul]; omega), List.drop_of_length_le (l := cells x) (by rw [hc, Nat.succ_mul]; omega)]
    simp
theorem OL.set (h : OL sz cells T v xs q) (hc : ∀ x, (cells x).length = sz) {i b off : Nat} (hI : IxAt v i sz b off) (y : α) (R : MList) :
    ∃ l l' q', MSet (q ++ R) b (.cells l.toArray T (0, 0)) (.cells l'.toArray T (0, 0)) (q' ++ R) ∧ layN off l (cells y) = some l' ∧ OL sz cells T v (xs.set i y) q' := by
  obtain ⟨o0, l0, c0, rfl, hi, rfl⟩ := hI
  rcases h.2 with ⟨h1, h2, h3⟩ | ⟨b', cap, cur, h1, h2, h3, h4, h5, h6⟩
  · cases h1
  · injection h1 with e1 e2 e3
    injection e1 with e1
    injection e1 with e4 e5
    subst e4; subst e5; subst e2; subst h2
    have e3' := e3.symm
    subst e3'
    have hle : xs.length * sz ≤ cap * sz := Nat.mul_le_mul_right sz h3
    have his : i * sz + sz ≤ xs.length * sz := by rw [← Nat.succ_mul]; exact Nat.mul_le_mul_right sz hi
    have hl : 0 + i * sz + (cells y).length ≤ cur.toList.length := by rw [hc, Array.length_toList, h5]; omega
    have hl0 := layN_ok hl
    generalize hl' : List.take (0 + i * sz) cur.toList ++ cells y ++ List.drop (0 + i * sz + (cells y).length) cur.toList = l' at hl0
    refine ⟨cur.toList, l', [(b, .cells l'.toArray T (0, 0))], ?_, hl0, ?_⟩
    · exact .here ..
    subst hl'
    refine ⟨by rw [flat_len hc], .inr ⟨b, cap, _, by simp, rfl, by simpa using h3, h4, ?_, ?_⟩⟩
    · simp only [List.size_toArray, List.length_append, List.length_take, List.length_drop, Array.length_toList, hc, h5]
      omega
    · have hfl := flat_set (sz := sz) hc xs i y hi
      rw [hfl, ← h6]
      simp only [List.length_set, hc, Nat.zero_add]
      have hlen1 : (cur.toList.take (i * sz)).length = i * sz := by rw [List.length_take, Array.length_toList, h5]; omega
      rw [List.append_assoc, List.append_assoc, List.take_append, List.take_append, hlen1, hc, List.take_take, Nat.min_eq_right (by omega), List.take_of_length_le (l := cells y) (by rw [hc]; omega)]
      rw [List.take_take, Nat.min_eq_left (by omega), List.drop_take]
      congr 3
      omega
theorem swap_perm {i j : Nat} {x y : α} (hx : xs[i]? = some x) (hy : xs[j]? = some y) : ((xs.set i y).set j x).Perm xs := by
  have h1 : i < xs.length := by
    rcases Nat.lt_or_ge i xs.length with h1 | h1
    · exact h1
    · rw [List.getElem?_eq_none h1] at hx; cases hx
  have h2 : j < xs.length := by
    rcases Nat.lt_or_ge j xs.length with h1 | h1
    · exact h1
    · rw [List.getElem?_eq_none h1] at hy; cases hy
  rw [List.getElem?_eq_getElem h1] at hx
  rw [List.getElem?_eq_getElem h2] at hy
  injection hx with hx
  injection hy with hy
  subst hx; subst hy
  exact List.set_set_perm h1 h2
end
section
variable {P : Program} {n : Nat} {Q : Exit → Act → World → Prop} {g : Gl} {k : List It} {e : Env} {D : Dict} {M : MList}
  {all : Array Oper} {rest : List Oper} {dst : Option Nat} {ty : TypeId} {pos : String} {af : Array Edge}
/-- an element is written -/
theorem R.so {α : Type} {sz : Nat} {cells : α → List Value} {T t : TypeId} {v : Value} {xs : List α} {q R : MList} {x y : Operand} {i b off : Nat} {u : Value} (z : α) (ho : OL sz cells T v xs q) (hI : IxAt v i sz b off) (hc : ∀ x, (cells x).length = sz) (hS : ∀ w, (sizeOf t).run P w = .ok sz w)
    (h : ∀ q', OL sz cells T v (xs.set i z) q' → Run P n Q g (.ops all rest :: k) (e.put dst undef) D (q' ++ R)) (hx : e.ev x = some (.pointer (some ⟨b, off, none⟩)) := by rfl) (hy : e.ev y = some u := by rfl) (hu : u.cells.toList = cells z := by rfl)
    (h1 : (cells z).all (·.oneCell') = true := by rfl) (hd : dstOk n dst = true := by rfl) : Run P n Q g (.ops all (⟨dst, .store t x y, ty, pos, af, none⟩ :: rest) :: k) e D (q ++ R) := by
  obtain ⟨l, l', q', hm, hl, ho'⟩ := ho.set hc hI z R
  have hsz : u.cells.size = sz := by rw [← Array.length_toList, hu, hc]
  exact Run.storeL (hsz ▸ hS) hx hy (fun w hw => by rw [hu] at hw; exact List.all_eq_true.1 h1 w hw) (by rw [hu]; exact hl) hm hd (h q' ho')
/-- append to a row of one's own -/
theorem R.ap {t T : TypeId} {s x : Operand} {i : TypeInfo} {z v xv : Value} {sz bytes l m : Nat} {fl xs : List Value} {q R : MList} (ht : P.underlying t = some (.slice T)) (hi : P.info? T = some i) (ho : Own sz T v l fl q) (hM : M.Perm (q ++ R)) (hsrc : Src D (q ++ R) sz xv m xs) (hlm : l + m ≤ 1000000)
    (h1 : ∀ u ∈ xs, u.oneCell' = true) (h : ∀ v' q', Own sz T v' (l + m) (fl ++ xs) q' → Run P n Q g (.ops all rest :: k) (e.put dst v') D (q' ++ R))
    (hz : i.zero = some z := by rfl) (hsize : i.size = sz := by rfl) (hby : i.bytes = bytes := by rfl) (hzs : z.cells.size = sz := by rfl) (hsz : 0 < sz := by decide) (hb : bytes ≤ 1000 := by decide) (hv : e.ev s = some v := by rfl) (hx : e.ev x = some xv := by rfl) (hd : dstOk n dst = true := by rfl) :
    Run P n Q g (.ops all (⟨dst, .call { callee := .builtin .append, args := #[s, x], argTypes := #[t, t] }, ty, pos, af, none⟩ :: rest) :: k) e D M :=
  Run.append ht hi hz hsize hby hzs hsz hv hx hM ho hsrc h1 (by simp [maxLen]; omega) (Nat.le_trans (Nat.mul_le_mul hlm hb) (by decide)) hd h
theorem ones {xs : List Value} (h : xs.all (·.oneCell') = true := by rfl) : ∀ u ∈ xs, u.oneCell' = true := fun u hu => List.all_eq_true.1 h u hu
theorem onesF {α : Type} {cells : α → List Value} {xs : List α} (h : ∀ x, ∀ u ∈ cells x, u.oneCell' = true) : ∀ u ∈ xs.flatMap cells, u.oneCell' = true := by
  intro u hu
  obtain ⟨x, _, hx⟩ := List.mem_flatMap.1 hu
  exact h x u hx
/-- the row at the front, what is new put behind it -/
theorem permQ {a q r : MList} : (a ++ (q ++ r)).Perm (q ++ (a ++ r)) := by
  rw [← List.append_assoc, ← List.append_assoc]; exact List.Perm.append_right r List.perm_append_comm
theorem St.dropMid {w : World} {a q r : MList} (h : St g w D (q ++ (a ++ r))) : St g w D (q ++ r) := h.sub (List.Sublist.append_left (List.sublist_append_right a r) q)
/-- a call of a function value -/
theorem R.cy {x : Operand} {args : List Operand} {tys : Array TypeId} {f : FuncId} {fs cap vs ws : List Value} {v : Value} (hf : ∀ args w, (callFunc f args).run P w = .ok (.enter f args) w) (hc : Gives P g f ws D M v) (h : Run P n Q g (.ops all rest :: k) (e.put dst v) D M)
    (hx : e.ev x = some (.func (.func f) fs.toArray cap.toArray) := by rfl) (ha : e.evs args = some vs := by rfl) (hw : fs ++ vs ++ cap = ws := by rfl) (hd : dstOk n dst = true := by rfl) : Run P n Q g (.ops all (⟨dst, .call { callee := .value x, args := args.toArray, argTypes := tys }, ty, pos, af, none⟩ :: rest) :: k) e D M :=
  Run.callV hf hx ha hd (hw ▸ hc) (fun _ _ _ ⟨h1, h2, h3⟩ => by subst h1; subst h2; subst h3; exact h)
/-- min of two ints -/
theorem R.mn {x y : Operand} {tys : Array TypeId} {kd : IntKind} {a b r : Int} (hr : (if b < a then b else a) = r) (h : Run P n Q g (.ops all rest :: k) (e.put dst (.int kd r)) D M) (hx : e.ev x = some (.int kd a) := by rfl) (hy : e.ev y = some (.int kd b) := by rfl) (hd : dstOk n dst = true := by rfl) :
    Run P n Q g (.ops all (⟨dst, .call { callee := .builtin .min, args := #[x, y], argTypes := tys }, ty, pos, af, none⟩ :: rest) :: k) e D M :=
  Run.val _ hd (fun a' he w hs => by
    have hm : (Builtin.min_ tys ty #[.int kd a, .int kd b]).run P w = .ok (.int kd (if b < a then b else a)) w := by simp [Builtin.min_, Builtin.min2]
    rw [hr] at hm
    simp [execOp, resolve, he.ev hx, he.ev hy, Sem.run_bind, Sem.run_pure, invoke, builtin, hm, Result.andThen_ok]) h
end
end Go.Proofs.YtgdpjpmjcpieiaaGreat

/- Views: a copy of one's own; the least Delta at a level. No condition. -/
namespace Go.Proofs.YtgdpjpmjcpieiaaGreat
open Go
set_option linter.unusedVariables false
set_option linter.unusedSimpArgs false
set_option maxRecDepth 100000
set_option maxHeartbeats 0
theorem Vw.ones (x : Vw) : ∀ u ∈ x.cells, u.oneCell' = true := Go.Proofs.YtgdpjpmjcpieiaaGreat.ones (xs := x.cells) rfl
/-- a row of one's own, never written again, reads as a list -/
theorem OL.freeze {α : Type} {sz : Nat} {cells : α → List Value} {T : TypeId} {v : Value} {xs : List α} {q : MList} {D : Dict} (h : OL sz cells T v xs q) :
    (v = .slice none 0 0 ∧ xs = [] ∧ q = []) ∨ ∃ b o, q = [(b, o)] ∧ Lst (ins D b o) sz cells v xs := by
  rcases h.2 with ⟨h1, h2, h3⟩ | ⟨b, cap, cur, h1, h2, h3, h4, h5, h6⟩
  · exact .inl ⟨h1, List.eq_nil_of_length_eq_zero h2, h3⟩
  · refine .inr ⟨b, _, h2, h.1, Nat.le_trans h3 h4, _, _, h1, h3, fun _ => ⟨b, 0, cur, T, (0, 0), rfl, ins_self, fun j u hu => ?_⟩⟩
    rw [← h6, List.getElem?_take] at hu
    split at hu
    · simpa using hu
    · cases hu
section
variable {P : Program} {n : Nat} {Q : Exit → Act → World → Prop} {g : Gl} {k : List It} {e : Env} {D : Dict} {M : MList}
theorem R.frO {α : Type} {sz : Nat} {cells : α → List Value} {T : TypeId} {v : Value} {xs : List α} {q : MList} (ho : OL sz cells T v xs q) (h : ∀ D', Le D D' → Lst D' sz cells v xs → Run P n Q g k e D' M) : Run P n Q g k e D (q ++ M) := by
  rcases ho.freeze (D := D) with ⟨h1, h2, h3⟩ | ⟨b, o, h1, h2⟩
  · subst h1; subst h2; subst h3; exact h D Le.rfl' (Lst.nil D sz cells)
  · subst h1; exact Run.freeze fun hle _ => h _ hle h2
end
theorem own_spec {g : Gl} {D : Dict} {M : MList} {a : Value} {xs : List Vw} (hn : xs.length ≤ 1000) (ha : Vws D a xs) : Gets Tryz.prog g 27 [a] D M (fun v D => Vws D v xs) := by
  refine Gets.enter Tryz.func27 rfl Tryz.ntmps27 ?_; refine R.sq ?_; refine R.rg ?_; refine R.as ?_; refine R.nl ?_; refine R.hs (e' := [(0, _)]) ?_; refine R.sq ?_; refine R.rg ?_; refine R.as ?_; refine R.nl ?_; refine R.hs (e' := [(0, _), (3, _)]) ?_; refine R.sq ?_; refine R.rg ?_; refine R.mv ?_; refine R.mv ?_; refine R.ap Tryz.underlying24 info72 (OL.nil (α := Vw) (cells := Vw.cells)) (List.Perm.refl _) (ha.src _) (by simp; omega) (onesF Vw.ones) ?_; intro v' q' hO
  have hO2 : OL 7 Vw.cells 72 v' xs q' := by simpa using OL.cat (xs := []) hO rfl rfl
  refine R.as ?_; refine R.nl ?_; refine R.hs (e' := [(3, _)]) ?_; refine R.sq ?_; refine R.rg ?_; refine R.mv ?_; refine R.as ?_; refine R.nl ?_; refine R.hs (e' := [(2, _)]) ?_; refine R.frO hO2 (fun D' hle hL => ?_); exact R.rk (RV.t .nil) 0 ⟨hle, rfl, hL⟩
theorem okVs_at {xs : List Vw} {i : Nat} {x : Vw} (h : okVs xs = true) (hx : xs[i]? = some x) : okV x = true := by
  have hi : i < xs.length := by
    rcases Nat.lt_or_ge i xs.length with h1 | h1
    · exact h1
    · rw [List.getElem?_eq_none h1] at hx; cases hx
  obtain ⟨u, hu⟩ := get_of_lt (xs := xs) (i := i - 1) (by omega)
  have := okVs_iff.1 h i hi
  rw [rAt_eq hx hu] at this
  simp at this
  exact this.1
theorem okVs_told {xs : List Vw} {i : Nat} {x : Vw} (h : okVs xs = true) (hx : xs[i]? = some x) : toldH x.h = !x.h.null := by
  have := okVs_at h hx
  simp [okV] at this
  simp [toldH, this]
def minI (a b : Int) : Int := if b < a then b else a
theorem minI_eq (a b : Int) : (if b < a then b else a) = minI a b := rfl
attribute [irreducible] minI
theorem least_spec {g : Gl} {D : Dict} {M : MList} {a : Value} {xs : List Vw} (l : Lv) (hok : okVs xs = true) (ha : Vws D a xs) : Gives Tryz.prog g 153 [a, .agg (Lv.cells l).toArray] D M (.int .i64 (leastV xs l)) := by
  have hla := ha.form.choose_spec.choose_spec.2.2
  refine Gives.enter Tryz.func153 rfl Tryz.ntmps153 ?_; refine R.sq ?_; refine R.rg ?_; refine R.bxA (fun zb1 hzb1 => ?_); refine R.as ?_; refine R.nl ?_; refine R.hs (e' := [(0, _), (3, _)]) ?_; refine R.sq ?_; refine R.rg ?_; refine R.as ?_; refine R.nl ?_; refine R.hs (e' := [(0, _), (3, _), (5, _)]) ?_; refine R.sq ?_; refine R.sq ?_; refine R.rg ?_; refine R.mv ?_; refine R.ll (ha) Tryz.runUnderlying24 ?_; refine R.mv ?_; refine R.nl ?_; refine R.hs (e' := [(3, _), (5, _), (8, _), (9, _), (10, _)]) ?_; refine Run.block ?_
  refine Run.loop (ι := Nat × Int) [(3, _), (8, _), (9, _)] (fun p => [(10, .int .i64 (p.1 : Int)), (5, .int .i64 p.2)]) (fun _ => D) (fun _ => (zb1, .cells (Lv.cells l).toArray 28 (0, 0)) :: M) (fun p => p.1 ≤ xs.length ∧ p.2 = (xs.take p.1).foldl (leastStep l) 1099511627776) (fun p => xs.length - p.1) ((0, 1099511627776)) (by repeat (first | exact trivial | refine ⟨rfl, ?_⟩)) ?h0 (by repeat (first | exact trivial | refine ⟨rfl, ?_⟩)) (fun w hs => hs) ?_
  case h0 => exact ⟨Nat.zero_le _, rfl⟩
  rintro ⟨i, o⟩ ⟨hi, hpre⟩; refine R.sq ?_; refine R.rg ?_; refine R.cm ?_; refine R.nl ?_; refine R.hs (e' := [(3, _), (5, _), (8, _), (9, _), (10, _), (11, _)]) ?_; refine R.sq ?_; refine R.cd (fun zc2 => ?_) (fun zc2 => ?_)
  ·
   have hlt : i < xs.length := by simp at zc2; omega
   obtain ⟨x, hgx⟩ := get_of_lt hlt
   obtain ⟨b1, o1, hI1, hc1⟩ := ha.at Vw.len hgx
   have hton : toldH x.h = !x.h.null := okVs_told hok hgx
   refine Run.skip ?_; refine R.sq ?_; refine Run.block ?_; refine R.sq ?_; refine R.rg ?_; refine R.ix (hI1) Tryz.runUnderlying24 Tryz.sizeOf72 ?_; refine R.lAD 7 Tryz.isAgg72 Tryz.sizeOf72 ?_; refine R.alA Tryz.zeroValue72 (fun zb3 hzb3 => ?_); refine R.st Tryz.sizeOf72 ?_; refine R.nl ?_; refine R.hs (e' := [(3, _), (5, _), (7, _), (8, _), (9, _), (10, _)]) ?_; refine R.sq ?_
   rcases Bool.eq_false_or_eq_true (!x.h.null) with zg4 | zg4
   ·refine Run.drawC Grow.eq 9 [(3, _), (5, _), (7, _), (8, _), (9, _), (10, _)] mix (by kernel_rfl) (by repeat (first | exact trivial | refine ⟨rfl, ?_⟩)) ?_; apply TC.val []; exact rfl; kernel_rfl
    ·rintro _ rfl ; refine R.fa Tryz.runUnderlying72 Tryz.sizeOf23 ?_; refine R.nl ?_; exact Run.loc rfl rfl rfl
    apply TC.val [0]; exact rfl; kernel_rfl
    ·rintro _ rfl _ rfl; refine R.fa Tryz.runUnderlying23 Tryz.sizeOf4 ?_; refine R.nl ?_; exact Run.loc rfl rfl rfl
    apply TC.val [0]; exact rfl; kernel_rfl
    ·rintro _ rfl _ rfl; refine R.ld Tryz.isAgg4 ?_; refine R.nl ?_; exact Run.loc rfl rfl rfl
    apply TC.val [0]; exact rfl; kernel_rfl
    ·rintro _ rfl _ rfl; refine R.nt ?_; refine R.nl ?_; exact Run.loc rfl rfl rfl
    apply TC.val [0]; exact rfl; kernel_rfl
    ·rintro _ rfl _ rfl; refine R.mv ?_; refine R.nl ?_; exact Run.loc rfl rfl rfl
    apply TC.val [0]; exact rfl; kernel_rfl
    ·rintro _ rfl _ rfl; refine R.gY (zg4) ?_; refine R.fa Tryz.runUnderlying72 Tryz.sizeOf23 ?_; refine R.nl ?_; exact Run.loc rfl rfl rfl
    apply TC.val [1, 0]; exact rfl; kernel_rfl
    ·rintro _ rfl _ rfl _ rfl; refine R.gY (zg4) ?_; refine R.lA 6 Tryz.isAgg23 Tryz.sizeOf23 ?_; refine R.nl ?_; exact Run.loc rfl rfl rfl
    apply TC.val [2, 0]; exact rfl; kernel_rfl
    ·rintro _ rfl _ rfl _ rfl; refine R.gY (zg4) ?_; refine R.cg Tryz.call102 (lvl_spec x.h) ?_; refine R.nl ?_; exact Run.loc rfl rfl rfl
    apply TC.val [3]; exact rfl; kernel_rfl
    ·rintro _ rfl _ rfl; refine R.gY (zg4) ?_; refine R.lA 3 Tryz.isAgg28 Tryz.sizeOf28 ?_; refine R.nl ?_; exact Run.loc rfl rfl rfl
    refine TC.fin (by rfl) ?_; rintro _ rfl _ rfl _ rfl _ rfl _ rfl _ rfl _ rfl _ rfl _ rfl _ rfl; refine R.gY (zg4) ?_; refine R.ea Tryz.eqGuardType28 (eqAt28 _ _ _ _ _ _) ?_; refine R.pT (zg4) ?_; refine R.nl ?_; refine R.hs (e' := [(3, _), (5, _), (7, _), (8, _), (9, _), (10, _), (24, _)]) ?_; refine R.cd (fun zc15 => ?_) (fun zc15 => ?_)
    ·refine R.rg ?_; refine R.mv ?_; refine R.fa Tryz.runUnderlying72 Tryz.sizeOf23 ?_; refine R.fa Tryz.runUnderlying23 Tryz.sizeOf3 ?_; refine R.ld Tryz.isAgg3 ?_; refine R.mn (minI_eq o x.h.delta) ?_; refine R.as ?_; refine R.nl ?_; refine R.hs (e' := [(3, _), (5, _), (8, _), (9, _), (10, _)]) ?_; refine Run.endBlock ?_; refine R.rg ?_; refine R.ad ?_; refine R.mv ?_; refine R.nl ?_; refine R.hs (e' := [(3, _), (5, _), (8, _), (9, _), (10, _)]) ?_; refine Run.again (i + 1, _) ⟨by simp; omega, fold_step hgx hpre ?hf⟩ (by simp; omega) (by repeat (first | exact trivial | refine ⟨rfl, ?_⟩)) (fun w hs => hs.drop 1)
     case hf => clear hpre; simp only [leastStep, hton, ← minI_eq]; simp_all [Lv.ext'] <;> (try (intros; omega)) <;> (try grind)
    ·refine Run.skip ?_; refine Run.endBlock ?_; refine R.rg ?_; refine R.ad ?_; refine R.mv ?_; refine R.nl ?_; refine R.hs (e' := [(3, _), (5, _), (8, _), (9, _), (10, _)]) ?_; refine Run.again (i + 1, _) ⟨by simp; omega, fold_step hgx hpre ?hf⟩ (by simp; omega) (by repeat (first | exact trivial | refine ⟨rfl, ?_⟩)) (fun w hs => hs.drop 1)
     case hf => clear hpre; simp only [leastStep, hton, ← minI_eq]; simp_all [Lv.ext'] <;> (try (intros; omega)) <;> (try grind)
   ·refine Run.drawC Grow.eq 9 [(3, _), (5, _), (7, _), (8, _), (9, _), (10, _)] mix (by kernel_rfl) (by repeat (first | exact trivial | refine ⟨rfl, ?_⟩)) ?_; apply TC.val []; exact rfl; kernel_rfl
    ·rintro _ rfl ; refine R.fa Tryz.runUnderlying72 Tryz.sizeOf23 ?_; refine R.nl ?_; exact Run.loc rfl rfl rfl
    apply TC.val [0]; exact rfl; kernel_rfl
    ·rintro _ rfl _ rfl; refine R.fa Tryz.runUnderlying23 Tryz.sizeOf4 ?_; refine R.nl ?_; exact Run.loc rfl rfl rfl
    apply TC.val [0]; exact rfl; kernel_rfl
    ·rintro _ rfl _ rfl; refine R.ld Tryz.isAgg4 ?_; refine R.nl ?_; exact Run.loc rfl rfl rfl
    apply TC.val [0]; exact rfl; kernel_rfl
    ·rintro _ rfl _ rfl; refine R.nt ?_; refine R.nl ?_; exact Run.loc rfl rfl rfl
    apply TC.val [0]; exact rfl; kernel_rfl
    ·rintro _ rfl _ rfl; refine R.mv ?_; refine R.nl ?_; exact Run.loc rfl rfl rfl
    apply TC.val [0]; exact rfl; kernel_rfl
    ·rintro _ rfl _ rfl; refine R.gF (zg4) ?_; refine R.nl ?_; exact Run.loc rfl rfl rfl
    apply TC.val [1, 0]; exact rfl; kernel_rfl
    ·rintro _ rfl _ rfl _ rfl; refine R.gF (zg4) ?_; refine R.nl ?_; exact Run.loc rfl rfl rfl
    apply TC.val [2, 0]; exact rfl; kernel_rfl
    ·rintro _ rfl _ rfl _ rfl; refine R.gF (zg4) ?_; refine R.nl ?_; exact Run.loc rfl rfl rfl
    apply TC.val [3]; exact rfl; kernel_rfl
    ·rintro _ rfl _ rfl; refine R.gF (zg4) ?_; refine R.nl ?_; exact Run.loc rfl rfl rfl
    refine TC.fin (by rfl) ?_; rintro _ rfl _ rfl _ rfl _ rfl _ rfl _ rfl _ rfl _ rfl _ rfl _ rfl; refine R.gF (zg4) ?_; refine R.pF (zg4) ?_; refine R.nl ?_; refine R.hs (e' := [(3, _), (5, _), (7, _), (8, _), (9, _), (10, _), (24, _)]) ?_; refine R.cF (rfl) ?_; refine Run.skip ?_; refine Run.endBlock ?_; refine R.rg ?_; refine R.ad ?_; refine R.mv ?_; refine R.nl ?_; refine R.hs (e' := [(3, _), (5, _), (8, _), (9, _), (10, _)]) ?_; refine Run.again (i + 1, _) ⟨by simp; omega, fold_step hgx hpre ?hf⟩ (by simp; omega) (by repeat (first | exact trivial | refine ⟨rfl, ?_⟩)) (fun w hs => hs.drop 1)
    case hf => clear hpre; simp only [leastStep, hton, ← minI_eq]; simp_all [Lv.ext'] <;> (try (intros; omega)) <;> (try grind)
  ·
   have hz : leastV xs l = o := by simp at zc2 hpre hi; rw [hpre, List.take_of_length_le (by omega)]; rfl
   refine Run.exit rfl ?_; refine R.sq ?_; refine R.rg ?_; refine R.mv ?_; refine R.as ?_; refine R.nl ?_; refine R.hs (e' := [(4, _)]) ?_; refine R.rt (RV.t .nil) 1 ?_
   rw [hz]
end Go.Proofs.YtgdpjpmjcpieiaaGreat

/- Statements whose order is open, with one effect among the operations that may stand in any order. No condition. -/
namespace Go.Proofs.YtgdpjpmjcpieiaaGreat
open Go
set_option linter.unusedVariables false
set_option linter.unusedSimpArgs false
/-- what goes ahead of operation x, through others -/
def reachL (l : List Oper) : Nat → List Nat → List Nat
  | 0, acc => acc
  | p + 1, acc => reachL l p (if acc.any (fun q => dirE l q p) then p :: acc else acc)
theorem reachL_listed {l : List Oper} {listed : Array Bool} (hc : ∀ i, listed.getD i false = true → ∀ j, dirE l i j = true → listed.getD j false = true) : ∀ (p : Nat) (acc : List Nat), (∀ q ∈ acc, listed.getD q false = true) → ∀ q ∈ reachL l p acc, listed.getD q false = true
  | 0, acc, h => h
  | p + 1, acc, h => by
    refine reachL_listed hc p _ fun q hq => ?_
    split at hq
    · rename_i ha
      rcases List.mem_cons.1 hq with rfl | hq
      · obtain ⟨q', h1, h2⟩ := List.any_eq_true.1 ha
        exact hc q' (h q' h1) _ h2
      · exact h q hq
    · exact h q hq
/-- operation i never comes behind operation x -/
def ahead (l : List Oper) (x i : Nat) : Bool := (reachL l x [x]).any (Nat.beq i)
def draw2Ok (l : List Oper) (m n x : Nat) (base : List Nat) : Bool :=
  Nat.ble m l.length && Nat.blt x m &&
  ((List.range m).all fun i => match l[i]? with
    | none => false
    | some o => (Nat.beq i x || (match o.dst with
        | none => false
        | some d => Nat.blt d n && !(base.any (Nat.beq d)) && (List.range m).all fun j => Nat.beq i j || match dstE l j with
            | some d' => !(Nat.beq d d')
            | none => true)) &&
      (depsE l m o).all (fun j => Nat.blt j i && dirE l i j && !(Nat.beq j x)) && !isDefer o.op) &&
  (match l[x]? with
    | none => false
    | some o => match o.dst with
      | none => true
      | some _ => false) &&
  ((List.range (l.length - m)).all fun s => (List.range (m + s)).all fun j => nearE l (m + s) j) &&
  ((List.range l.length).all fun i => match l[i]? with
    | none => false
    | some o => o.after.toList.all fun e => !(Region.binds .any e) || Nat.blt e.on i)
section
variable {R : Dict → Dict → Prop} {P : Program} {n : Nat} {Q : Exit → Act → World → Prop} {g : Gl} {k : List It} {e : Env} {D : Dict} {M : MList}
structure Inv2 (R : Dict → Dict → Prop) (n : Nat) (g : Gl) (l : List Oper) (m x : Nat) (KE : MList → Prop) (base : Env) (D : Dict) (M : MList) (Fs : List Fct) (listed : Array Bool) (a : Act) (w : World) : Prop where
  defs : a.defers = []
  env : EnvOk n base a
  len : listed.size = l.length
  closed : ∀ i, listed.getD i false = true → ∀ j, dirE l i j = true → listed.getD j false = true
  ex : ∃ D' M', R D D' ∧ St g w D' M' ∧ (listed.getD x false = false → M' = M) ∧ (listed.getD x false = true → KE M') ∧
    ∀ i, i < m → i ≠ x → listed.getD i false = true → ∃ d v F, dstE l i = some d ∧ Fs[i]? = some F ∧ a.tmps[d]? = some v ∧ F v D'
def EffQ (R : Dict → Dict → Prop) (g : Gl) (D : Dict) (KE : MList → Prop) : Exit → Act → World → Prop := fun ex a w => ex = .normal ∧ a.defers = [] ∧ ∃ D' M', R D D' ∧ St g w D' M' ∧ KE M'
theorem Run.effd {D' : Dict} {KE : MList → Prop} {M' : MList} (hD : R D D') (hK : KE M') : Run P n (EffQ R g D KE) g [] e D' M' := fun a w he hd hs => ⟨rfl, hd, D', M', hD, hs, hK⟩
/-- operation i by itself, in whatever state it may meet -/
def Loc2 (R : Dict → Dict → Prop) (P : Program) (n : Nat) (g : Gl) (l : List Oper) (m x : Nat) (KE : MList → Prop) (base : Env) (D : Dict) (M : MList) (i : Nat) (Fs : List Fct) (F : Fct) : Prop :=
  match l[i]? with
  | none => True
  | some o => ∀ D' M', R D D' → (M' = M ∨ ahead l x i = false ∧ KE M') → ∃ L : List (Nat × Fct), (∀ p ∈ L, p ∈ (depsE l m o).map fun j => ((dstE l j).getD 0, Fs.getD j (fun _ _ => False))) ∧
      Wit L D' fun e => Run P n (if i = x then EffQ R g D' KE else LocQ R g D' M' (o.dst.getD 0) F) g [.ops l.toArray [o]] (e ++ base) D' M'
theorem first_anyG {l : List Oper} {m : Nat} {I : Array Bool → Act → World → Prop} (hIlen : ∀ {listed a w}, I listed a w → listed.size = l.length) (hIcl : ∀ {listed a w}, I listed a w → ∀ i, listed.getD i false = true → ∀ j, dirE l i j = true → listed.getD j false = true) (hm : m ≤ l.length) (hlt : ∀ i j, dirE l i j = true → j < i) (hs : ∀ s, m ≤ s → s < l.length → ∀ j, j < s → nearE l s j = true)
    (hstep : ∀ i, i < m → ∀ listed a w, I listed a w → i ∈ Region.ready .any l.toArray listed → wpOp P l.toArray Q i (fun a' w' => I (listed.setIfInBounds i true) a' w') a w)
    (hend : ∀ listed a w, I listed a w → (∀ i, i < m → listed.getD i false = true) → wpList P l.toArray Q (l.drop m) a w) :
    ∀ (r : Nat) (listed : Array Bool) (a : Act) (w : World), (todo l listed).length = r → (∀ i, m ≤ i → listed.getD i false = false) → I listed a w → wpAny P .any l.toArray Q r listed a w := by
  intro r
  induction r with
  | zero =>
    intro listed a w hr hno hi
    have hall : ∀ i, i < m → listed.getD i false = true := by
      intro i him
      cases hq : listed.getD i false with
      | true => rfl
      | false =>
        exfalso
        have : i ∈ todo l listed := by simp only [todo, List.mem_filter, List.mem_range, hq]; exact ⟨by omega, rfl⟩
        rw [List.eq_nil_of_length_eq_zero hr] at this; cases this
    have hiff : ∀ j, listed.getD j false = true ↔ j < m := by
      refine fun j => ⟨fun h => ?_, hall j⟩
      rcases Nat.lt_or_ge j m with h1 | h1
      · exact h1
      · rw [hno j h1] at h; cases h
    have hc := todo_first hm hiff
    exact tail_any hlt hs 0 m listed a w (by omega) (Nat.le_refl _) (hIlen hi) hiff (hend listed a w hi hall)
  | succ r ih =>
    intro listed a w hr hno hi
    by_cases hall : ∀ i, i < m → listed.getD i false = true
    · have hiff : ∀ j, listed.getD j false = true ↔ j < m := by
        refine fun j => ⟨fun h => ?_, hall j⟩
        rcases Nat.lt_or_ge j m with h1 | h1
        · exact h1
        · rw [hno j h1] at h; cases h
      have hc := todo_first hm hiff
      exact tail_any hlt hs (r + 1) m listed a w (by omega) (Nat.le_refl _) (hIlen hi) hiff (hend listed a w hi hall)
    · have hready : ∀ i, i ∈ Region.ready .any l.toArray listed → i < m ∧ listed.getD i false = false ∧ i < l.length := by
        intro i hir
        obtain ⟨h5, o, ho, _⟩ := mem_ready.1 hir
        have hlt' : i < l.length := by have := (Array.getElem?_eq_some_iff.1 ho).1; simpa using this
        refine ⟨?_, getD_false_of h5, hlt'⟩
        rcases Nat.lt_or_ge i m with h | h
        · exact h
        · exfalso
          exact hall fun j hj => near_listed (hIcl hi) (fun j hj => hs i h hlt' j hj) (ready_dir hir) _ j rfl (by omega)
      refine ⟨fun h0 => ?_, fun i hir => ?_⟩
      · exfalso
        exact hall fun i him => none_ready (hIlen hi) hlt h0 i (by omega)
      · obtain ⟨h1, h2, h3⟩ := hready i hir
        refine wpOp_mono (fun a' w' hi' => ih _ a' w' ?_ ?_ hi') (hstep i h1 listed a w hi hir)
        · have := todo_set (l := l) (listed := listed) (i := i) (by rw [(hIlen hi)]; exact h3) h3 h2
          omega
        · intro j hj
          rw [getD_set_ne false (by omega)]
          exact hno j hj
theorem Run.draw2 {id : Nat} {l : List Oper} (hG : Grow R) (m x : Nat) (KE : MList → Prop) (base : Env) (Fs : List Fct) (hmix : P.follows .mixedOrders = true) (hok : draw2Ok l m n x (base.map Prod.fst) = true) (hbase : e.Has base) (hFl : Fs.length = m)
    (hF : ∀ i, i < m → ∃ F, Fs[i]? = some F ∧ MonoF R F ∧ Loc2 R P n g l m x KE base D M i (Fs.take i) F)
    (hZ : ∀ D' M', R D D' → KE M' → ∃ L : List (Nat × Fct), (∀ p ∈ L, ∃ j, j < m ∧ j ≠ x ∧ p = ((dstE l j).getD 0, Fs.getD j (fun _ _ => False))) ∧ Wit L D' fun e' => Run P n Q g (.ops l.toArray (l.drop m) :: k) (e' ++ base) D' M') :
    Run P n Q g (.code (.region id l.toArray true) :: k) e D M := by
  intro a w he hd hst
  show (Code.region id l.toArray true).wp P (itp P Q k) a w
  simp only [draw2Ok, Bool.and_eq_true, List.all_eq_true, List.mem_range] at hok
  obtain ⟨⟨⟨⟨⟨hml, hxm⟩, hA⟩, hX⟩, hB⟩, hC⟩ := hok
  have hxm' : x < m := by simpa [Nat.blt_eq] using hxm
  have hml' : m ≤ l.length := Nat.le_of_ble_eq_true hml
  have hlt : ∀ i j, dirE l i j = true → j < i := by
    intro i j hij
    unfold dirE at hij
    split at hij
    · rename_i o ho
      simp only [List.any_eq_true, Bool.and_eq_true] at hij
      obtain ⟨ed, hed, hb, hj⟩ := hij
      have hil : i < l.length := by
        rcases Nat.lt_or_ge i l.length with h | h
        · exact h
        · rw [List.getElem?_eq_none h] at ho; cases ho
      have := hC i hil
      rw [ho] at this
      simp only [List.all_eq_true] at this
      have := this ed hed
      rw [hb] at this
      simp [Nat.blt_eq] at this
      rw [← Nat.eq_of_beq_eq_true hj]; exact this
    · cases hij
  have hs : ∀ s, m ≤ s → s < l.length → ∀ j, j < s → nearE l s j = true := by
    intro s h1 h2 j h3
    have := hB (s - m) (by omega) j (by omega)
    rwa [show m + (s - m) = s by omega] at this
  have hdep : ∀ i, i < m → ∃ o, l[i]? = some o ∧ ∀ j ∈ depsE l m o, j < i ∧ dirE l i j = true ∧ j ≠ x := by
    intro i him
    have h1 := hA i him
    cases ho : l[i]? with
    | none => rw [ho] at h1; cases h1
    | some o =>
      rw [ho] at h1
      simp only [Bool.and_eq_true] at h1
      obtain ⟨⟨h2, h3⟩, _⟩ := h1
      refine ⟨o, rfl, fun j hj => ?_⟩
      have := List.all_eq_true.1 h3 j hj
      simp only [Bool.and_eq_true, Nat.blt_eq, Bool.not_eq_true'] at this
      exact ⟨this.1.1, this.1.2, fun e => by rw [e, Nat.beq_refl] at this; cases this.2⟩
  have hdstA : ∀ i, i < m → i ≠ x → ∃ d, dstE l i = some d ∧ d < n ∧ (∀ q ∈ base, q.1 ≠ d) ∧ ∀ j, j < m → j ≠ i → ∀ d', dstE l j = some d' → d' ≠ d := by
    intro i him hix
    have h1 := hA i him
    cases ho : l[i]? with
    | none => rw [ho] at h1; cases h1
    | some o =>
      rw [ho] at h1
      simp only [Bool.and_eq_true, Bool.or_eq_true] at h1
      obtain ⟨⟨h2, _⟩, _⟩ := h1
      have h2 := h2.resolve_left (fun e => hix (Nat.eq_of_beq_eq_true e))
      cases hdst : o.dst with
      | none => rw [hdst] at h2; cases h2
      | some d =>
        rw [hdst] at h2
        simp only [Bool.and_eq_true, Nat.blt_eq, Bool.not_eq_true', List.all_eq_true, List.mem_range, Bool.or_eq_true] at h2
        obtain ⟨⟨h4, h5⟩, h6⟩ := h2
        refine ⟨d, by simp [dstE, ho, hdst], h4, ?_, ?_⟩
        · intro q hq he
          have : (base.map Prod.fst).any (Nat.beq d) = true := List.any_eq_true.2 ⟨q.1, List.mem_map.2 ⟨q, hq, rfl⟩, by rw [he]; exact Nat.beq_refl d⟩
          rw [this] at h5; cases h5
        · intro j hj hji d' hd' he
          have := (h6 j hj).resolve_left (fun e => hji (Nat.eq_of_beq_eq_true e).symm)
          rw [hd'] at this
          subst he
          simp at this
  have hxd : dstE l x = none := by
    unfold dstE
    split at hX
    · cases hX
    · rename_i o ho
      rw [ho]
      simp only
      split at hX
      · assumption
      · cases hX
  refine wp_region_any hmix ?_
  have htodo : (todo l (Array.replicate l.toArray.size false)).length = l.toArray.size := by
    have : todo l (Array.replicate l.toArray.size false) = List.range l.length := by
      rw [todo, List.filter_eq_self]
      intro j _
      by_cases hj : j < l.length <;> simp [Array.getElem?_replicate, hj]
    rw [this]; simp
  have hfl : ∀ j, (Array.replicate l.toArray.size false).getD j false = false := by
    intro j
    by_cases hj : j < l.length <;> simp [Array.getElem?_replicate, hj]
  refine first_anyG (I := Inv2 R n g l m x KE base D M Fs) (m := m) (fun h => h.len) (fun h => h.closed) hml' hlt hs ?_ ?_ l.toArray.size _ a _ htodo (fun i _ => hfl i) ⟨hd, he.has hbase, by simp, fun i hi => (by rw [hfl i] at hi; cases hi), D, M, hG.refl D, hst.drew _ (Nat.le_succ _), fun _ => rfl, fun h => (by rw [hfl x] at h; cases h), fun i _ _ hi => (by rw [hfl i] at hi; cases hi)⟩
  · intro i him listed a w hi hr
    obtain ⟨o, ho, hdp⟩ := hdep i him
    obtain ⟨F, hF1, hF2, hF3⟩ := hF i him
    obtain ⟨D', M', hD', hst', hM0, hKE, hex⟩ := hi.ex
    unfold Loc2 at hF3
    rw [ho] at hF3
    simp only at hF3
    have hdirs := ready_dir hr
    have hil : i < l.length := by
      rcases Nat.lt_or_ge i l.length with h | h
      · exact h
      · rw [List.getElem?_eq_none h] at ho; cases ho
    have hnl : listed.getD i false = false := getD_false_of (mem_ready.1 hr).1
    have hstate : M' = M ∨ ahead l x i = false ∧ KE M' := by
      cases hq : listed.getD x false with
      | false => exact .inl (hM0 hq)
      | true =>
        refine .inr ⟨?_, hKE hq⟩
        cases ha : ahead l x i with
        | false => rfl
        | true =>
          exfalso
          obtain ⟨q, h1, h2⟩ := List.any_eq_true.1 ha
          have := reachL_listed hi.closed x [x] (fun q hq' => by rw [List.mem_singleton.1 hq']; exact hq) q h1
          rw [← Nat.eq_of_beq_eq_true h2, hnl] at this; cases this
    obtain ⟨L0, hL0, hW0⟩ := hF3 D' M' hD' hstate
    obtain ⟨e', hrun, he'⟩ := hW0.use (a := a) (by
      intro p hp
      obtain ⟨j, hj, rfl⟩ := List.mem_map.1 (hL0 p hp)
      obtain ⟨hji, hje, hjx⟩ := hdp j hj
      obtain ⟨d', v, F', h1, h2, h3, h4⟩ := hex j (by omega) hjx (hdirs j hje)
      refine ⟨v, by rw [h1]; exact h3, ?_⟩
      have : (Fs.take i).getD j (fun _ _ => False) = F' := by
        rw [List.getD_eq_getElem?_getD, List.getElem?_take, if_pos hji, h2]; rfl
      show (Fs.take i).getD j (fun _ _ => False) v D'
      rw [this]; exact h4)
    have hrun' := hrun a w ⟨hi.env.size, fun t v ht => by
      rcases get_append ht with h | h
      · exact he' t v (get_mem h)
      · exact hi.env.at_ t v h⟩ hi.defs hst'
    have hsz : i < listed.size := by rw [hi.len]; exact hil
    have hclo : ∀ c, (listed.setIfInBounds i true).getD c false = true → ∀ j, dirE l c j = true → (listed.setIfInBounds i true).getD j false = true := by
      intro c hc j hj
      rw [getD_set hsz] at hc ⊢
      rcases hc with rfl | hc
      · exact .inr (hdirs j hj)
      · exact .inr (hi.closed c hc j hj)
    have fin : ∀ (PQ : Exit → Act → World → Prop), (∀ ex a w, PQ ex a w → ex = .normal) → wpList P l.toArray PQ [o] a w →
        (∀ a' w', PQ .normal a' w' → (∃ v, a'.tmps = (a.put o.dst v).tmps) → Inv2 R n g l m x KE base D M Fs (listed.setIfInBounds i true) a' w') →
        wpOp P l.toArray (itp P Q k) i (fun a' w' => Inv2 R n g l m x KE base D M Fs (listed.setIfInBounds i true) a' w') a w := by
      intro PQ hn hrun' hinv
      unfold wpOp
      have hg : l.toArray[i]? = some o := by simpa using ho
      rw [hg]
      simp only
      unfold wpList at hrun'
      split
      · rename_i hw
        rw [if_pos hw] at hrun'
        rcases hrun' with h1 | ⟨_, _, _, h1⟩
        · refine .inl ?_
          have h2 : o.wp P a w (fun a' w' => PQ .normal a' w') (itp P Q k) := Oper.wp_monoP (fun a w h => h) (fun ex a w hne h => (hne (hn _ _ _ h)).elim) h1
          exact Oper.wp_mono (fun a' w' ⟨h3, h4⟩ => hinv a' w' h3 h4) (Oper.wp_put h2)
        · cases hn _ _ _ h1
      · rename_i hw
        rw [if_neg hw] at hrun'
        exact hinv _ _ hrun' ⟨undef, rfl⟩
    by_cases hix : i = x
    · rw [if_pos hix] at hrun'
      refine fin (EffQ R g D' KE) (fun _ _ _ h => h.1) hrun' ?_
      rintro a' w' ⟨_, hdef', D'', M'', hD'', hst'', hK⟩ ⟨u, hu⟩
      have hdn : o.dst = none := by
        subst hix
        have := hxd
        simpa [dstE, ho] using this
      rw [hdn] at hu
      have htm : a'.tmps = a.tmps := hu
      refine ⟨hdef', ⟨by rw [htm]; exact hi.env.size, fun t v ht => by rw [htm]; exact hi.env.at_ t v ht⟩, by simpa using hi.len, hclo, D'', M'', hG.trans hD' hD'', hst'', fun h => ?_, fun _ => hK, ?_⟩
      · have : (listed.setIfInBounds i true).getD x false = true := (getD_set hsz).2 (.inl hix.symm)
        rw [this] at h; cases h
      · intro c hcm hcx hc
        rw [getD_set hsz] at hc
        obtain ⟨d', v', F', h1, h2, h3, h4⟩ := hex c hcm hcx (hc.resolve_left (fun e => hcx (e.trans hix)))
        refine ⟨d', v', F', h1, h2, by rw [htm]; exact h3, ?_⟩
        obtain ⟨F2, g1, g2, _⟩ := hF c hcm
        rw [g1] at h2
        injection h2 with h2
        subst h2
        exact g2 _ _ _ hD'' h4
    · rw [if_neg hix] at hrun'
      obtain ⟨d, hdl, hdn, hnb, hnd⟩ := hdstA i him hix
      have hdst : o.dst = some d := by simpa [dstE, ho] using hdl
      refine fin (LocQ R g D' M' (o.dst.getD 0) F) (fun _ _ _ h => h.1) hrun' ?_
      rintro a' w' ⟨_, hdef', v, D'', hv, hD'', hst'', hFv⟩ ⟨u, hu⟩
      rw [hdst] at hv hu
      have htm : a'.tmps = a.tmps.setIfInBounds d u := hu
      have hxl : (listed.setIfInBounds i true).getD x false = listed.getD x false := getD_set_ne false hix
      refine ⟨hdef', ⟨by rw [htm]; simpa using hi.env.size, fun t y ht => ?_⟩, by simpa using hi.len, hclo, D'', M', hG.trans hD' hD'', hst'', fun h => hM0 (hxl ▸ h), fun h => hKE (hxl ▸ h), ?_⟩
      · rw [htm, Array.getElem?_setIfInBounds_ne (fun e => hnb _ (get_mem ht) e.symm)]
        exact hi.env.at_ t y ht
      · intro c hcm hcx hc
        rw [getD_set hsz] at hc
        by_cases hci : c = i
        · subst hci
          exact ⟨d, v, F, hdl, hF1, hv, hFv⟩
        · obtain ⟨d', v', F', h1, h2, h3, h4⟩ := hex c hcm hcx (hc.resolve_left hci)
          refine ⟨d', v', F', h1, h2, ?_, ?_⟩
          · rw [htm, Array.getElem?_setIfInBounds_ne (fun e => hnd c hcm hci d' h1 e.symm)]; exact h3
          · obtain ⟨F2, g1, g2, _⟩ := hF c hcm
            rw [g1] at h2
            injection h2 with h2
            subst h2
            exact g2 _ _ _ hD'' h4
  · intro listed a w hi hall
    obtain ⟨D', M', hD', hst', _, hKE, hex⟩ := hi.ex
    obtain ⟨L0, hL0, hW0⟩ := hZ D' M' hD' (hKE (hall x hxm'))
    obtain ⟨e', hrun, he'⟩ := hW0.use (a := a) (by
      intro p hp
      obtain ⟨j, hjm, hjx, rfl⟩ := hL0 p hp
      obtain ⟨d', v, F', h1, h2, h3, h4⟩ := hex j hjm hjx (hall j hjm)
      refine ⟨v, by rw [h1]; exact h3, ?_⟩
      have : Fs.getD j (fun _ _ => False) = F' := by rw [List.getD_eq_getElem?_getD, h2]; rfl
      show Fs.getD j (fun _ _ => False) v D'
      rw [this]; exact h4)
    exact hrun a w ⟨hi.env.size, fun t v ht => by
      rcases get_append ht with h | h
      · exact he' t v (get_mem h)
      · exact hi.env.at_ t v h⟩ hi.defs hst'
/-! ### the same, quicker to reckon -/
def okX (l : List Oper) (x : Nat) : List Ent → Prop
  | [] => True
  | e :: r => (r.length = x ∨ dstE l r.length = some e.1) ∧ okX l x r
theorem okX.get {l : List Oper} {x : Nat} : ∀ {acc : List Ent}, okX l x acc → ∀ {p : Nat} {y : Ent}, acc[p]? = some y → p < acc.length ∧ (acc.length - 1 - p = x ∨ dstE l (acc.length - 1 - p) = some y.1)
  | z :: r, h, 0, y, hx => by simp at hx; subst hx; exact ⟨by simp, by simpa using h.1⟩
  | z :: r, h, p + 1, y, hx => by
    obtain ⟨h1, h2⟩ := okX.get h.2 (p := p) (y := y) (by simpa using hx)
    refine ⟨by simp; omega, ?_⟩
    rw [show (z :: r).length - 1 - (p + 1) = r.length - 1 - p by simp; omega]; exact h2
def TX (R : Dict → Dict → Prop) (P : Program) (n : Nat) (Q : Exit → Act → World → Prop) (g : Gl) (k : List It) (l : List Oper) (m x : Nat) (KE : MList → Prop) (base : Env) (D : Dict) (M : MList) (r i : Nat) (acc : List Ent) : Prop :=
  acc.length = i → i + r = m → okX l x acc → ∃ ext : List Ent, ext.length = r ∧ okX l x (ext ++ acc) ∧
    (∀ j, i ≤ j → j < m → ∃ F, ((ext ++ acc).reverse.map Prod.snd)[j]? = some F ∧ MonoF R F ∧ Loc2 R P n g l m x KE base D M j (((ext ++ acc).reverse.map Prod.snd).take j) F) ∧
    ∀ D' M', R D D' → KE M' → ∃ L : List Ent, (∀ p ∈ L, ∃ q, (ext ++ acc)[q]? = some p ∧ m - 1 - q ≠ x) ∧ Wit L D' fun e' => Run P n Q g (.ops l.toArray (l.drop m) :: k) (e' ++ base) D' M'
section
variable {l : List Oper} {m x r i : Nat} {KE : MList → Prop} {base : Env} {acc : List Ent}
theorem TX.step {d : Nat} {F : Fct} (hd : i = x ∨ dstE l i = some d) (hF : MonoF R F) (hL : acc.length = i → okX l x acc → Loc2 R P n g l m x KE base D M i (acc.reverse.map Prod.snd) F)
    (h2 : TX R P n Q g k l m x KE base D M r (i + 1) ((d, F) :: acc)) : TX R P n Q g k l m x KE base D M (r + 1) i acc := by
  intro hlen hm hok
  obtain ⟨ext, h3, h4, h5, h6⟩ := h2 (by simp [hlen]) (by omega) ⟨by rw [hlen]; exact hd, hok⟩
  have he : ext ++ (d, F) :: acc = (ext ++ [(d, F)]) ++ acc := by simp
  rw [he] at h4 h5 h6
  refine ⟨ext ++ [(d, F)], by simp [h3], h4, fun j hj hjm => ?_, h6⟩
  rcases Nat.lt_or_ge i j with h | h
  · exact h5 j h hjm
  · have hij : j = i := by omega
    subst hij
    refine ⟨F, ?_, hF, ?_⟩
    · simp [List.reverse_append, hlen]
    · have : ((ext ++ [(d, F)] ++ acc).reverse.map Prod.snd).take j = acc.reverse.map Prod.snd := by
        simp [List.reverse_append, List.take_append, hlen]
      rw [this]; exact hL hlen hok
theorem TX.deps {o : Oper} {L : List Ent} {ps : List Nat} (hlen : acc.length = i) (hok : okX l x acc) (ho : l[i]? = some o) (hL : selE acc ps = some L) (hd : depOk l m i ps = true) (hx : ∀ j ∈ depsE l m o, j ≠ x) :
    ∀ p ∈ L, p ∈ (depsE l m o).map fun j => ((dstE l j).getD 0, (acc.reverse.map Prod.snd).getD j (fun _ _ => False)) := by
  intro y hy
  unfold depOk at hd
  rw [nthO_get, ho] at hd
  simp only [List.all_eq_true, Bool.and_eq_true, Nat.blt_eq, List.any_eq_true] at hd
  obtain ⟨p, hp, hpx⟩ := selE_mem hL y hy
  obtain ⟨hpl, hpd⟩ := hok.get hpx
  obtain ⟨hpi, q, hq, hqe⟩ := hd p hp
  have hqe' : i - 1 - p = q := Nat.eq_of_beq_eq_true hqe
  refine List.mem_map.2 ⟨i - 1 - p, hqe' ▸ hq, ?_⟩
  have e1 := revGet hpx hpl
  rw [hlen] at e1 hpd
  have hpd := hpd.resolve_left (hqe' ▸ hx q hq)
  rw [hpd, e1]; rfl
def noX (l : List Oper) (m x i : Nat) : Bool := match nthO l i with
  | none => false
  | some o => (depsE l m o).all fun j => !(Nat.beq j x)
theorem noX_spec {o : Oper} (h : noX l m x i = true) (ho : l[i]? = some o) : ∀ j ∈ depsE l m o, j ≠ x := by
  unfold noX at h
  rw [nthO_get, ho] at h
  intro j hj e
  have := List.all_eq_true.1 h j hj
  rw [e, Nat.beq_refl] at this; cases this
theorem TX.val {d : Nat} {L : List Ent} {o : Oper} {V : Value} (ps : List Nat) (h0 : preE l i acc ps = some (d, o, L)) (hd : (depOk l m i ps && noX l m x i && !(Nat.beq i x) && ahead l x i) = true)
    (h1 : ∀ D', R D D' → Wit L D' fun e => Run P n (LocQ R g D' M d (fun v _ => V = v)) g [.ops l.toArray [o]] (e ++ base) D' M) (h2 : TX R P n Q g k l m x KE base D M r (i + 1) ((d, fun v _ => V = v) :: acc)) : TX R P n Q g k l m x KE base D M (r + 1) i acc := by
  simp only [Bool.and_eq_true, Bool.not_eq_true'] at hd
  obtain ⟨⟨⟨hd, hnx⟩, hix⟩, hah⟩ := hd
  have hix : i ≠ x := fun e => by rw [e, Nat.beq_refl] at hix; cases hix
  unfold preE at h0
  rw [nthO_get] at h0
  split at h0
  · cases h0
  · rename_i o' ho
    split at h0
    · cases h0
    · rename_i d' hdst
      split at h0
      · cases h0
      · rename_i L' hL
        injection h0 with h0
        injection h0 with e1 h0
        injection h0 with e2 e3
        subst e1; subst e2; subst e3
        refine TX.step (.inr (by simp [dstE, ho, hdst])) (MonoF.eq V) (fun hlen hok => ?_) h2
        unfold Loc2
        rw [ho]
        intro D' M' hD' hM'
        have hM' : M' = M := hM'.resolve_right (fun h => by rw [hah] at h; cases h.1)
        subst hM'
        rw [if_neg hix, hdst]
        exact ⟨L', TX.deps hlen hok ho hL hd (noX_spec hnx ho), h1 D' hD'⟩
theorem TX.late {d : Nat} {L : List Ent} {o : Oper} {V : Value} (ps : List Nat) (h0 : preE l i acc ps = some (d, o, L)) (hd : (depOk l m i ps && noX l m x i && !(Nat.beq i x)) = true)
    (h1 : ∀ M', (M' = M ∨ KE M') → ∀ D', R D D' → Wit L D' fun e => Run P n (LocQ R g D' M' d (fun v _ => V = v)) g [.ops l.toArray [o]] (e ++ base) D' M') (h2 : TX R P n Q g k l m x KE base D M r (i + 1) ((d, fun v _ => V = v) :: acc)) : TX R P n Q g k l m x KE base D M (r + 1) i acc := by
  simp only [Bool.and_eq_true, Bool.not_eq_true'] at hd
  obtain ⟨⟨hd, hnx⟩, hix⟩ := hd
  have hix : i ≠ x := fun e => by rw [e, Nat.beq_refl] at hix; cases hix
  unfold preE at h0
  rw [nthO_get] at h0
  split at h0
  · cases h0
  · rename_i o' ho
    split at h0
    · cases h0
    · rename_i d' hdst
      split at h0
      · cases h0
      · rename_i L' hL
        injection h0 with h0
        injection h0 with e1 h0
        injection h0 with e2 e3
        subst e1; subst e2; subst e3
        refine TX.step (.inr (by simp [dstE, ho, hdst])) (MonoF.eq V) (fun hlen hok => ?_) h2
        unfold Loc2
        rw [ho]
        intro D' M' hD' hM'
        rw [if_neg hix, hdst]
        exact ⟨L', TX.deps hlen hok ho hL hd (noX_spec hnx ho), h1 M' (hM'.imp id And.right) D' hD'⟩
def preX (l : List Oper) (i : Nat) (acc : List Ent) (ps : List Nat) : Option (Oper × List Ent) := match nthO l i with
  | none => none
  | some o => match selE acc ps with
    | none => none
    | some L => some (o, L)
theorem TX.eff {L : List Ent} {o : Oper} (ps : List Nat) (h0 : preX l x acc ps = some (o, L)) (hd : (depOk l m x ps && noX l m x x) = true)
    (h1 : ∀ D', R D D' → Wit L D' fun e => Run P n (EffQ R g D' KE) g [.ops l.toArray [o]] (e ++ base) D' M) (h2 : TX R P n Q g k l m x KE base D M r (x + 1) ((0, fun _ _ => True) :: acc)) : TX R P n Q g k l m x KE base D M (r + 1) x acc := by
  simp only [Bool.and_eq_true] at hd
  obtain ⟨hd, hnx⟩ := hd
  unfold preX at h0
  rw [nthO_get] at h0
  split at h0
  · cases h0
  · rename_i o' ho
    split at h0
    · cases h0
    · rename_i L' hL
      injection h0 with h0
      injection h0 with e2 e3
      subst e2; subst e3
      refine TX.step (.inl rfl) (fun _ _ _ _ h => h) (fun hlen hok => ?_) h2
      unfold Loc2
      rw [ho]
      intro D' M' hD' hM'
      have hah : ahead l x x = true := by
        have : ∀ (p : Nat) (acc : List Nat), x ∈ acc → x ∈ reachL l p acc := by
          intro p
          induction p with
          | zero => exact fun _ h => h
          | succ p ih =>
            intro acc h
            refine ih _ ?_
            split
            · exact List.mem_cons_of_mem _ h
            · exact h
        exact List.any_eq_true.2 ⟨x, this x [x] (List.mem_singleton.2 rfl), Nat.beq_refl x⟩
      have hM' : M' = M := hM'.resolve_right (fun h => by rw [hah] at h; cases h.1)
      subst hM'
      rw [if_pos rfl]
      exact ⟨L', TX.deps hlen hok ho hL hd (noX_spec hnx ho), h1 D' hD'⟩
def cutX (x : Nat) : List Ent → List Ent
  | [] => []
  | e :: r => match Nat.beq r.length x with
    | true => cutX x r
    | false => e :: cutX x r
theorem cutX_mem : ∀ {acc : List Ent}, ∀ p ∈ cutX x acc, ∃ q, acc[q]? = some p ∧ q < acc.length ∧ acc.length - 1 - q ≠ x
  | e :: r, p, hp => by
    unfold cutX at hp
    split at hp
    · obtain ⟨q, h1, h2, h3⟩ := cutX_mem p hp
      exact ⟨q + 1, by simpa using h1, by simp; omega, by rw [show (e :: r).length - 1 - (q + 1) = r.length - 1 - q by simp; omega]; exact h3⟩
    · rename_i hb
      rcases List.mem_cons.1 hp with rfl | hp
      · refine ⟨0, by simp, by simp, fun h => ?_⟩
        have : r.length = x := by simpa using h
        rw [this, Nat.beq_refl] at hb; cases hb
      · obtain ⟨q, h1, h2, h3⟩ := cutX_mem p hp
        exact ⟨q + 1, by simpa using h1, by simp; omega, by rw [show (e :: r).length - 1 - (q + 1) = r.length - 1 - q by simp; omega]; exact h3⟩
theorem TX.fin {rest : List Oper} (hr : l.drop m = rest) (h : ∀ M', KE M' → ∀ D', R D D' → Wit (cutX x acc) D' fun e' => Run P n Q g (.ops l.toArray rest :: k) (e' ++ base) D' M') : TX R P n Q g k l m x KE base D M 0 m acc := by
  intro hlen hm hok
  refine ⟨[], rfl, hok, fun j h1 h2 => by omega, fun D' M' hD' hK => ⟨_, fun p hp => ?_, by rw [hr]; exact h M' hK D' hD'⟩⟩
  obtain ⟨q, h1, h2, h3⟩ := cutX_mem p hp
  exact ⟨q, h1, by rw [← hlen]; exact h3⟩
theorem Run.drawX {id : Nat} (hG : Grow R) (m x : Nat) (KE : MList → Prop) (base : Env) (hmix : P.follows .mixedOrders = true) (hok : draw2Ok l m n x (base.map Prod.fst) = true) (hbase : e.Has base)
    (h : TX R P n Q g k l m x KE base D M m 0 []) : Run P n Q g (.code (.region id l.toArray true) :: k) e D M := by
  obtain ⟨ext, h1, h2, h3, h4⟩ := h rfl (by omega) trivial
  rw [List.append_nil] at h2 h3 h4
  refine Run.draw2 hG m x KE base (ext.reverse.map Prod.snd) hmix hok hbase (by simp [h1]) (fun i hi => h3 i (Nat.zero_le _) hi) (fun D' M' hD' hK => ?_)
  obtain ⟨L, h5, h6⟩ := h4 D' M' hD' hK
  refine ⟨L, fun p hp => ?_, h6⟩
  obtain ⟨q, h7, h8⟩ := h5 p hp
  obtain ⟨h9, h10⟩ := h2.get h7
  rw [h1] at h10
  refine ⟨m - 1 - q, by omega, h8, ?_⟩
  have := revGet h7 h9
  rw [h1] at this
  rw [h10.resolve_left h8, this]; rfl
end
end
end Go.Proofs.YtgdpjpmjcpieiaaGreat

/- Stable sorting of views: what is in a row stays in it. No condition. -/
namespace Go.Proofs.YtgdpjpmjcpieiaaGreat
open Go
set_option linter.unusedVariables false
set_option linter.unusedSimpArgs false
set_option maxRecDepth 100000
set_option maxHeartbeats 0
abbrev VR (v : Value) (zs : List Vw) (q : MList) : Prop := OL 7 Vw.cells 101 v zs q
def cmpV (a b : Vw) : Int := if lessH a.h b.h then -1 else if lessH b.h a.h then 1 else 0
theorem cmpV_spec {g : Gl} {D : Dict} {M : MList} (a b : Vw) : Gives Tryz.prog g 92 [.agg (Vw.cells a).toArray, .agg (Vw.cells b).toArray] D M (.int .i64 (cmpV a b)) := by
  refine Gives.enter Tryz.func92 rfl Tryz.ntmps92 ?_; refine R.sq ?_; refine R.rg ?_; refine R.bxA (fun zb1 hzb1 => ?_); refine R.bxA (fun zb2 hzb2 => ?_); refine R.as ?_; refine R.nl ?_; refine R.hs (e' := [(2, _), (3, _)]) ?_; refine R.sq ?_; refine Run.block ?_; refine R.sq ?_; refine R.rg ?_; refine R.fa Tryz.runUnderlying101 Tryz.sizeOf23 ?_; refine R.lA 6 Tryz.isAgg23 Tryz.sizeOf23 ?_; refine R.fa Tryz.runUnderlying101 Tryz.sizeOf23 ?_; refine R.lA 6 Tryz.isAgg23 Tryz.sizeOf23 ?_; refine R.cg Tryz.call116 (less_spec ⟨_, _, _, _, _, _⟩ ⟨_, _, _, _, _, _⟩) ?_; refine R.as ?_; refine R.nl ?_; refine R.hs (e' := [(2, _), (3, _), (5, _)]) ?_; refine R.cd (fun zc3 => ?_) (fun zc3 => ?_)
  ·refine R.sq ?_; refine R.rg ?_; refine R.as ?_; refine R.nl ?_; refine R.hs (e' := [(4, _)]) ?_; refine R.rt (RV.t .nil) 2 (congrArg (Value.int .i64) ?_)
   simp only [Ht.eta] at *; simp_all [cmpV]
  ·refine R.sq ?_; refine R.rg ?_; refine R.fa Tryz.runUnderlying101 Tryz.sizeOf23 ?_; refine R.lA 6 Tryz.isAgg23 Tryz.sizeOf23 ?_; refine R.fa Tryz.runUnderlying101 Tryz.sizeOf23 ?_; refine R.lA 6 Tryz.isAgg23 Tryz.sizeOf23 ?_; refine R.cg Tryz.call116 (less_spec ⟨_, _, _, _, _, _⟩ ⟨_, _, _, _, _, _⟩) ?_; refine R.as ?_; refine R.nl ?_; refine R.hs (e' := [(11, _)]) ?_; refine R.cd (fun zc4 => ?_) (fun zc4 => ?_)
   ·refine R.sq ?_; refine R.rg ?_; refine R.as ?_; refine R.nl ?_; refine R.hs (e' := [(4, _)]) ?_; refine R.rt (RV.t .nil) 2 (congrArg (Value.int .i64) ?_)
    simp only [Ht.eta] at *; simp_all [cmpV]
   ·refine Run.skip ?_; refine Run.endBlock ?_; refine R.sq ?_; refine R.rg ?_; refine R.as ?_; refine R.nl ?_; refine R.hs (e' := [(4, _)]) ?_; refine R.rt (RV.t .nil) 2 (congrArg (Value.int .i64) ?_)
    simp only [Ht.eta] at *; simp_all [cmpV]
/-- a row of views is left in some order -/
def Kept (q Z : MList) (D : Dict) (v : Value) (xs : List Vw) : Value → Dict → MList → Prop := fun _ D' M' => D = D' ∧ ∃ zs q', VR v zs q' ∧ zs.Perm xs ∧ M' = q' ++ Z
theorem VR.ix {D : Dict} {v : Value} {zs : List Vw} {q Z : MList} (h : VR v zs q) {i : Nat} {x : Vw} (hx : zs[i]? = some x) : ∃ b off, IxAt v i 7 b off ∧ CsN D (q ++ Z) b off 7 x.cells :=
  h.at (fun p hp => List.mem_append_left _ hp) Vw.len hx
theorem swapRange_spec {g : Gl} {D : Dict} {q Z : MList} {v u : Value} {xs : List Vw} (a b n : Int) (ha0 : 0 ≤ a) (hb0 : 0 ≤ b) (hn0 : 0 ≤ n) (ha : a + n ≤ xs.length) (hb : b + n ≤ xs.length) (hml : xs.length ≤ 1000000) (ho : VR v xs q) :
    Spec Tryz.prog g 171 [v, .int .i64 a, .int .i64 b, .int .i64 n, u] D (q ++ Z) (Kept q Z D v xs) := by
  refine Spec.enter Tryz.func171 rfl Tryz.ntmps171 rfl ?_; refine R.sq ?_; refine R.rg ?_; refine R.as ?_; refine R.nl ?_; refine R.hs (e' := [(0, _), (1, _), (2, _), (3, _), (10, _)]) ?_; refine Run.block ?_; refine Run.loop (ι := Int × List Vw × MList) [(0, _), (1, _), (2, _), (3, _)] (fun p => [(10, .int .i64 p.1)]) (fun _ => D) (fun p => p.2.2 ++ Z) (fun p => 0 ≤ p.1 ∧ p.1 ≤ n ∧ p.2.1.Perm xs ∧ VR v p.2.1 p.2.2) (fun p => (n - p.1).toNat) ((0, xs, q)) (by repeat (first | exact trivial | refine ⟨rfl, ?_⟩)) ?h0 (by repeat (first | exact trivial | refine ⟨rfl, ?_⟩)) (fun w hs => hs) ?_
  case h0 => exact ⟨Int.le_refl _, hn0, List.Perm.refl _, ho⟩
  rintro ⟨i, zs, q0⟩ ⟨h0, hi, hp, hO⟩
  simp only at h0 hi hp hO
  have hzl := hp.length_eq
  refine R.sq ?_; refine R.sq ?_; refine R.rg ?_; refine R.mv ?_; refine R.mv ?_; refine R.cm ?_; refine R.nl ?_; refine R.hs (e' := [(0, _), (1, _), (2, _), (3, _), (10, _), (13, _)]) ?_; refine R.cd (fun zc1 => ?_) (fun zc1 => ?_)
  ·
   have hlt : i < n := by simpa using zc1
   obtain ⟨x, hgx⟩ := get_of_lt (xs := zs) (i := (a + i).toNat) (by omega)
   obtain ⟨y, hgy⟩ := get_of_lt (xs := zs) (i := (b + i).toNat) (by omega)
   obtain ⟨b1, o1, hI1, hc1⟩ := hO.ix (D := D) (Z := Z) hgx
   obtain ⟨b2, o2, hI2, hc2⟩ := hO.ix (D := D) (Z := Z) hgy
   refine Run.skip ?_; refine R.sq ?_; refine Run.block ?_; refine Run.drawX Grow.eq 22 21 (fun M' => ∃ q1, VR v (zs.set (a + i).toNat y) q1 ∧ M' = q1 ++ Z) [(0, _), (1, _), (2, _), (3, _), (10, _)] mix (by kernel_rfl) (by repeat (first | exact trivial | refine ⟨rfl, ?_⟩)) ?_; apply TX.val []; exact rfl; kernel_rfl
   ·rintro _ rfl ; refine R.mv ?_; refine R.nl ?_; exact Run.loc rfl rfl rfl
   apply TX.val []; exact rfl; kernel_rfl
   ·rintro _ rfl ; refine R.mv ?_; refine R.nl ?_; exact Run.loc rfl rfl rfl
   apply TX.val []; exact rfl; kernel_rfl
   ·rintro _ rfl ; refine R.mv ?_; refine R.nl ?_; exact Run.loc rfl rfl rfl
   apply TX.val [1, 0]; exact rfl; kernel_rfl
   ·rintro _ rfl _ rfl _ rfl; refine R.ad ?_; refine R.nl ?_; exact Run.loc rfl rfl rfl
   apply TX.late []; exact rfl; kernel_rfl
   ·intro zM hzM; rintro _ rfl ; refine R.mv ?_; refine R.nl ?_; exact Run.loc rfl rfl rfl
   apply TX.late []; exact rfl; kernel_rfl
   ·intro zM hzM; rintro _ rfl ; refine R.mv ?_; refine R.nl ?_; exact Run.loc rfl rfl rfl
   apply TX.late []; exact rfl; kernel_rfl
   ·intro zM hzM; rintro _ rfl ; refine R.mv ?_; refine R.nl ?_; exact Run.loc rfl rfl rfl
   apply TX.late [1, 0]; exact rfl; kernel_rfl
   ·intro zM hzM; rintro _ rfl _ rfl _ rfl; refine R.ad ?_; refine R.nl ?_; exact Run.loc rfl rfl rfl
   apply TX.val []; exact rfl; kernel_rfl
   ·rintro _ rfl ; refine R.mv ?_; refine R.nl ?_; exact Run.loc rfl rfl rfl
   apply TX.val []; exact rfl; kernel_rfl
   ·rintro _ rfl ; refine R.mv ?_; refine R.nl ?_; exact Run.loc rfl rfl rfl
   apply TX.val []; exact rfl; kernel_rfl
   ·rintro _ rfl ; refine R.mv ?_; refine R.nl ?_; exact Run.loc rfl rfl rfl
   apply TX.val [1, 0]; exact rfl; kernel_rfl
   ·rintro _ rfl _ rfl _ rfl; refine R.ad ?_; refine R.nl ?_; exact Run.loc rfl rfl rfl
   apply TX.val [3, 0]; exact rfl; kernel_rfl
   ·rintro _ rfl _ rfl _ rfl; refine R.ix (hI2) Tryz.runUnderlying99 Tryz.sizeOf101 ?_; refine R.nl ?_; exact Run.loc rfl rfl rfl
   apply TX.val [0]; exact rfl; kernel_rfl
   ·rintro _ rfl _ rfl; refine R.lAD 7 Tryz.isAgg101 Tryz.sizeOf101 ?_; refine R.nl ?_; exact Run.loc rfl rfl rfl
   apply TX.val []; exact rfl; kernel_rfl
   ·rintro _ rfl ; refine R.mv ?_; refine R.nl ?_; exact Run.loc rfl rfl rfl
   apply TX.val []; exact rfl; kernel_rfl
   ·rintro _ rfl ; refine R.mv ?_; refine R.nl ?_; exact Run.loc rfl rfl rfl
   apply TX.val []; exact rfl; kernel_rfl
   ·rintro _ rfl ; refine R.mv ?_; refine R.nl ?_; exact Run.loc rfl rfl rfl
   apply TX.val [1, 0]; exact rfl; kernel_rfl
   ·rintro _ rfl _ rfl _ rfl; refine R.ad ?_; refine R.nl ?_; exact Run.loc rfl rfl rfl
   apply TX.val [3, 0]; exact rfl; kernel_rfl
   ·rintro _ rfl _ rfl _ rfl; refine R.ix (hI1) Tryz.runUnderlying99 Tryz.sizeOf101 ?_; refine R.nl ?_; exact Run.loc rfl rfl rfl
   apply TX.val [0]; exact rfl; kernel_rfl
   ·rintro _ rfl _ rfl; refine R.lAD 7 Tryz.isAgg101 Tryz.sizeOf101 ?_; refine R.nl ?_; exact Run.loc rfl rfl rfl
   apply TX.val [19, 16]; exact rfl; kernel_rfl
   ·rintro _ rfl _ rfl _ rfl; refine R.ix (hI1) Tryz.runUnderlying99 Tryz.sizeOf101 ?_; refine R.nl ?_; exact Run.loc rfl rfl rfl
   apply TX.eff [7, 0]; exact rfl; kernel_rfl
   ·rintro _ rfl _ rfl _ rfl; refine R.so y hO hI1 Vw.len Tryz.sizeOf101 (fun q1 hO1 => ?_); refine R.nl ?_; exact Run.effd rfl (⟨q1, hO1, rfl⟩)
   refine TX.fin (by rfl) ?_; rintro zM ⟨q1, hO1, rfl⟩; rintro _ rfl  _ rfl _ rfl _ rfl _ rfl _ rfl _ rfl _ rfl _ rfl _ rfl _ rfl _ rfl _ rfl _ rfl _ rfl _ rfl _ rfl _ rfl _ rfl _ rfl _ rfl _ rfl; refine R.ix (hI2) Tryz.runUnderlying99 Tryz.sizeOf101 ?_; refine R.so x hO1 hI2 Vw.len Tryz.sizeOf101 (fun q2 hO2 => ?_); refine R.nl ?_; refine R.hs (e' := [(0, _), (1, _), (2, _), (3, _), (10, _)]) ?_; refine Run.endBlock ?_; refine R.rg ?_; refine R.mv ?_; refine R.ad ?_; refine R.as ?_; refine R.nl ?_; refine R.hs (e' := [(0, _), (1, _), (2, _), (3, _), (10, _)]) ?_; exact Run.again (i + 1, _, q2) ⟨by simp; omega, by simp; omega, (swap_perm hgx hgy).trans hp, hO2⟩ (by simp; omega) (by repeat (first | exact trivial | refine ⟨rfl, ?_⟩)) (fun w hs => hs)
  ·refine Run.exit rfl ?_; exact R.fn (u := .tuple #[]) .nil 0 ⟨rfl, zs, q0, hO, hp, rfl⟩
theorem rotate_spec {g : Gl} {D : Dict} {q Z : MList} {v u : Value} {xs : List Vw} (a m b : Int) (ha0 : 0 ≤ a) (ham : a < m) (hmb : m < b) (hb : b ≤ xs.length) (hml : xs.length ≤ 1000000) (ho : VR v xs q) :
    Spec Tryz.prog g 165 [v, .int .i64 a, .int .i64 m, .int .i64 b, u] D (q ++ Z) (Kept q Z D v xs) := by
  refine Spec.enter Tryz.func165 rfl Tryz.ntmps165 rfl ?_; refine R.sq ?_; refine R.rg ?_; refine R.mv ?_; refine R.mv ?_; refine R.sb ?_; refine R.as ?_; refine R.nl ?_; refine R.hs (e' := [(0, _), (2, _), (3, _), (4, _), (10, _)]) ?_; refine R.sq ?_; refine R.rg ?_; refine R.mv ?_; refine R.mv ?_; refine R.sb ?_; refine R.as ?_; refine R.nl ?_; refine R.hs (e' := [(0, _), (2, _), (4, _), (10, _), (11, _)]) ?_; refine R.sq ?_; refine Run.block ?_
  refine Run.loop (ι := Int × Int × List Vw × MList) [(0, _), (2, _), (4, _)] (fun p => [(10, .int .i64 p.1), (11, .int .i64 p.2.1)]) (fun _ => D) (fun p => p.2.2.2 ++ Z) (fun p => 0 < p.1 ∧ 0 < p.2.1 ∧ p.1 ≤ m - a ∧ p.2.1 ≤ b - m ∧ p.2.2.1.Perm xs ∧ VR v p.2.2.1 p.2.2.2) (fun p => (p.1 + p.2.1).toNat) ((m - a, b - m, xs, q)) (by repeat (first | exact trivial | refine ⟨rfl, ?_⟩)) ?h0 (by repeat (first | exact trivial | refine ⟨rfl, ?_⟩)) (fun w hs => hs) ?_
  case h0 => exact ⟨by simp; omega, by simp; omega, Int.le_refl _, Int.le_refl _, List.Perm.refl _, ho⟩
  rintro ⟨i, j, zs, q0⟩ ⟨hi0, hj0, hi, hj, hp, hO⟩
  simp only at hi0 hj0 hi hj hp hO
  have hzl := hp.length_eq
  refine R.sq ?_; refine R.sq ?_; refine R.rg ?_; refine R.mv ?_; refine R.mv ?_; refine R.cm ?_; refine R.nl ?_; refine R.hs (e' := [(0, _), (2, _), (4, _), (10, _), (11, _), (20, _)]) ?_; refine R.cd (fun zc1 => ?_) (fun zc1 => ?_)
  ·
   have hij : i ≠ j := by simpa using zc1
   refine Run.skip ?_; refine Run.block ?_; refine R.sq ?_; refine R.rg ?_; refine R.mv ?_; refine R.mv ?_; refine R.cm ?_; refine R.nl ?_; refine R.hs (e' := [(0, _), (2, _), (4, _), (10, _), (11, _), (23, _)]) ?_; refine R.cd (fun zc2 => ?_) (fun zc2 => ?_)
   ·
    have hgt : i > j := by simpa using zc2
    refine R.sq ?_; refine R.rg ?_; refine R.mv ?_; refine R.mv ?_; refine R.mv ?_; refine R.sb ?_; refine R.mv ?_; refine R.mv ?_; refine R.mv ?_; refine R.ca Tryz.call171 (swapRange_spec (m - i) m j (by omega) (by omega) (by omega) (by omega) (by omega) (by omega) hO) ?_; rintro _ _ _ ⟨rfl, zs', q', hO', hp', rfl⟩; refine R.nl ?_; refine R.hs (e' := [(0, _), (2, _), (4, _), (10, _), (11, _)]) ?_; refine R.rg ?_; refine R.mv ?_; refine R.mv ?_; refine R.sb ?_; refine R.as ?_; refine R.nl ?_; refine R.hs (e' := [(0, _), (2, _), (4, _), (10, _), (11, _)]) ?_; refine Run.endBlock ?_
    first | exact Run.again (i - j, j, zs', q') ⟨by simp; omega, by simp; omega, by simp; omega, by simp; omega, hp'.trans hp, hO'⟩ (by simp; omega) (by refine ⟨rfl, rfl, ?_⟩; repeat (first | exact trivial | refine ⟨rfl, ?_⟩)) (fun w hs => hs) | exact Run.again (i, j - i, zs', q') ⟨by simp; omega, by simp; omega, by simp; omega, by simp; omega, hp'.trans hp, hO'⟩ (by simp; omega) (by refine ⟨rfl, rfl, ?_⟩; repeat (first | exact trivial | refine ⟨rfl, ?_⟩)) (fun w hs => hs)
   ·
    have hgt : ¬ i > j := by simpa using zc2
    refine R.sq ?_; refine R.rg ?_; refine R.mv ?_; refine R.mv ?_; refine R.mv ?_; refine R.sb ?_; refine R.mv ?_; refine R.mv ?_; refine R.ad ?_; refine R.mv ?_; refine R.sb ?_; refine R.mv ?_; refine R.mv ?_; refine R.ca Tryz.call171 (swapRange_spec (m - i) (m + j - i) i (by omega) (by omega) (by omega) (by omega) (by omega) (by omega) hO) ?_; rintro _ _ _ ⟨rfl, zs', q', hO', hp', rfl⟩; refine R.nl ?_; refine R.hs (e' := [(0, _), (2, _), (4, _), (10, _), (11, _)]) ?_; refine R.rg ?_; refine R.mv ?_; refine R.mv ?_; refine R.sb ?_; refine R.as ?_; refine R.nl ?_; refine R.hs (e' := [(0, _), (2, _), (4, _), (10, _), (11, _)]) ?_; refine Run.endBlock ?_
    first | exact Run.again (i - j, j, zs', q') ⟨by simp; omega, by simp; omega, by simp; omega, by simp; omega, hp'.trans hp, hO'⟩ (by simp; omega) (by refine ⟨rfl, rfl, ?_⟩; repeat (first | exact trivial | refine ⟨rfl, ?_⟩)) (fun w hs => hs) | exact Run.again (i, j - i, zs', q') ⟨by simp; omega, by simp; omega, by simp; omega, by simp; omega, hp'.trans hp, hO'⟩ (by simp; omega) (by refine ⟨rfl, rfl, ?_⟩; repeat (first | exact trivial | refine ⟨rfl, ?_⟩)) (fun w hs => hs)
  ·
   have hij : i = j := by simpa using zc1
   refine Run.exit rfl ?_; refine R.rg ?_; refine R.mv ?_; refine R.mv ?_; refine R.mv ?_; refine R.sb ?_; refine R.mv ?_; refine R.mv ?_; refine R.mv ?_; refine R.ca Tryz.call171 (swapRange_spec (m - i) m i (by omega) (by omega) (by omega) (by omega) (by omega) (by omega) hO) ?_; rintro _ _ _ ⟨rfl, zs', q', hO', hp', rfl⟩; refine R.nl ?_; refine R.hs (e' := []) ?_; exact R.fn (u := .tuple #[]) .nil 0 ⟨rfl, zs', q', hO', hp'.trans hp, rfl⟩
theorem insSort_spec {g : Gl} {D : Dict} {q Z : MList} {v : Value} {xs : List Vw} (a b : Int) (ha0 : 0 ≤ a) (hab : a ≤ b) (hb : b ≤ xs.length) (hml : xs.length ≤ 1000000) (ho : VR v xs q) :
    Spec Tryz.prog g 138 [v, .int .i64 a, .int .i64 b, .func (.func 92) #[] #[]] D (q ++ Z) (Kept q Z D v xs) := by
  refine Spec.enter Tryz.func138 rfl Tryz.ntmps138 rfl ?_; refine R.sq ?_; refine R.rg ?_; refine R.mv ?_; refine R.ad ?_; refine R.as ?_; refine R.nl ?_; refine R.hs (e' := [(0, _), (1, _), (2, _), (3, _), (8, _)]) ?_; refine Run.block ?_; refine Run.loop (ι := Int × List Vw × MList) [(0, _), (1, _), (2, _), (3, _)] (fun p => [(8, .int .i64 p.1)]) (fun _ => D) (fun p => p.2.2 ++ Z) (fun p => a < p.1 ∧ p.2.1.Perm xs ∧ VR v p.2.1 p.2.2) (fun p => (b - p.1).toNat) ((a + 1, xs, q)) (by repeat (first | exact trivial | refine ⟨rfl, ?_⟩)) ?h0 (by repeat (first | exact trivial | refine ⟨rfl, ?_⟩)) (fun w hs => hs) ?_
  case h0 => exact ⟨by simp; omega, List.Perm.refl _, ho⟩
  rintro ⟨i, zs, q0⟩ ⟨hai, hp, hO⟩
  simp only at hai hp hO
  have hzl := hp.length_eq
  refine R.sq ?_; refine R.sq ?_; refine R.rg ?_; refine R.mv ?_; refine R.mv ?_; refine R.cm ?_; refine R.nl ?_; refine R.hs (e' := [(0, _), (1, _), (2, _), (3, _), (8, _), (14, _)]) ?_; refine R.cd (fun zc1 => ?_) (fun zc1 => ?_)
  ·
   have hlt : i < b := by simpa using zc1
   refine Run.skip ?_; refine R.sq ?_; refine Run.block ?_; refine R.sq ?_; refine R.rg ?_; refine R.mv ?_; refine R.as ?_; refine R.nl ?_; refine R.hs (e' := [(0, _), (1, _), (2, _), (3, _), (8, _), (9, _)]) ?_; refine Run.block ?_; refine Run.loop (ι := Int × List Vw × MList) [(0, _), (1, _), (2, _), (3, _), (8, _)] (fun p => [(9, .int .i64 p.1)]) (fun _ => D) (fun p => p.2.2 ++ Z) (fun p => a ≤ p.1 ∧ p.1 ≤ i ∧ p.2.1.Perm xs ∧ VR v p.2.1 p.2.2) (fun p => p.1.toNat) ((i, zs, q0)) (by repeat (first | exact trivial | refine ⟨rfl, ?_⟩)) ?h0 (by repeat (first | exact trivial | refine ⟨rfl, ?_⟩)) (fun w hs => hs) ?_
   case h0 => exact ⟨by simp; omega, Int.le_refl _, hp, hO⟩
   rintro ⟨j, ws, q1⟩ ⟨haj, hji, hpw, hOw⟩
   simp only at haj hji hpw hOw
   have hwl := hpw.length_eq
   obtain ⟨x, hgx⟩ := get_of_lt (xs := ws) (i := j.toNat) (by omega)
   obtain ⟨y, hgy⟩ := get_of_lt (xs := ws) (i := (j - 1).toNat) (by omega)
   obtain ⟨b1, o1, hI1, hc1⟩ := hOw.ix (D := D) (Z := Z) hgx
   obtain ⟨b2, o2, hI2, hc2⟩ := hOw.ix (D := D) (Z := Z) hgy
   refine R.sq ?_; refine R.sq ?_
   rcases Bool.eq_false_or_eq_true (decide (j > a)) with zg2 | zg2
   ·refine Run.drawC Grow.eq 14 [(0, _), (1, _), (2, _), (3, _), (8, _), (9, _)] mix (by kernel_rfl) (by repeat (first | exact trivial | refine ⟨rfl, ?_⟩)) ?_; apply TC.val []; exact rfl; kernel_rfl
    ·rintro _ rfl ; refine R.mv ?_; refine R.nl ?_; exact Run.loc rfl rfl rfl
    apply TC.val []; exact rfl; kernel_rfl
    ·rintro _ rfl ; refine R.mv ?_; refine R.nl ?_; exact Run.loc rfl rfl rfl
    apply TC.val [1, 0]; exact rfl; kernel_rfl
    ·rintro _ rfl _ rfl _ rfl; refine R.cm ?_; refine R.nl ?_; exact Run.loc rfl rfl rfl
    apply TC.val [0]; exact rfl; kernel_rfl
    ·rintro _ rfl _ rfl; refine R.mv ?_; refine R.nl ?_; exact Run.loc rfl rfl rfl
    apply TC.val [0]; exact rfl; kernel_rfl
    ·rintro _ rfl _ rfl; refine R.gY (zg2) ?_; refine R.mv ?_; refine R.nl ?_; exact Run.loc rfl rfl rfl
    apply TC.val [1]; exact rfl; kernel_rfl
    ·rintro _ rfl _ rfl; refine R.gY (zg2) ?_; refine R.mv ?_; refine R.nl ?_; exact Run.loc rfl rfl rfl
    apply TC.val [2]; exact rfl; kernel_rfl
    ·rintro _ rfl _ rfl; refine R.gY (zg2) ?_; refine R.mv ?_; refine R.nl ?_; exact Run.loc rfl rfl rfl
    apply TC.val [3, 1, 0]; exact rfl; kernel_rfl
    ·rintro _ rfl _ rfl _ rfl _ rfl; refine R.gY (zg2) ?_; refine R.ix (hI1) Tryz.runUnderlying99 Tryz.sizeOf101 ?_; refine R.nl ?_; exact Run.loc rfl rfl rfl
    apply TC.val [4, 0]; exact rfl; kernel_rfl
    ·rintro _ rfl _ rfl _ rfl; refine R.gY (zg2) ?_; refine R.lAD 7 Tryz.isAgg101 Tryz.sizeOf101 ?_; refine R.nl ?_; exact Run.loc rfl rfl rfl
    apply TC.val [5]; exact rfl; kernel_rfl
    ·rintro _ rfl _ rfl; refine R.gY (zg2) ?_; refine R.mv ?_; refine R.nl ?_; exact Run.loc rfl rfl rfl
    apply TC.val [6]; exact rfl; kernel_rfl
    ·rintro _ rfl _ rfl; refine R.gY (zg2) ?_; refine R.mv ?_; refine R.nl ?_; exact Run.loc rfl rfl rfl
    apply TC.val [7, 0]; exact rfl; kernel_rfl
    ·rintro _ rfl _ rfl _ rfl; refine R.gY (zg2) ?_; refine R.sb ?_; refine R.nl ?_; exact Run.loc rfl rfl rfl
    apply TC.val [8, 2, 0]; exact rfl; kernel_rfl
    ·rintro _ rfl _ rfl _ rfl _ rfl; refine R.gY (zg2) ?_; refine R.ix (hI2) Tryz.runUnderlying99 Tryz.sizeOf101 ?_ (hj := by have := of_decide_eq_true (by assumption : decide (j > a) = true); omega); refine R.nl ?_; exact Run.loc rfl rfl rfl
    apply TC.val [9, 0]; exact rfl; kernel_rfl
    ·rintro _ rfl _ rfl _ rfl; refine R.gY (zg2) ?_; refine R.lAD 7 Tryz.isAgg101 Tryz.sizeOf101 ?_; refine R.nl ?_; exact Run.loc rfl rfl rfl
    refine TC.fin (by rfl) ?_; rintro _ rfl _ rfl _ rfl _ rfl _ rfl _ rfl _ rfl _ rfl _ rfl _ rfl _ rfl _ rfl _ rfl _ rfl _ rfl; refine R.gY (zg2) ?_; refine R.cy (Tryz.call92) (cmpV_spec x y) ?_; refine R.gY (zg2) ?_; refine R.cm ?_; refine R.pT (zg2) ?_; refine R.nl ?_; refine R.hs (e' := [(0, _), (1, _), (2, _), (3, _), (8, _), (9, _), (34, _)]) ?_; refine R.cd (fun zc18 => ?_) (fun zc18 => ?_)
    ·
     have hja : j > a := by simp_all
     refine Run.skip ?_; refine R.sq ?_; refine Run.block ?_; refine Run.drawX Grow.eq 16 15 (fun M' => ∃ q2, VR v (ws.set j.toNat y) q2 ∧ M' = q2 ++ Z) [(0, _), (1, _), (2, _), (3, _), (8, _), (9, _)] mix (by kernel_rfl) (by repeat (first | exact trivial | refine ⟨rfl, ?_⟩)) ?_; apply TX.val []; exact rfl; kernel_rfl
     ·rintro _ rfl ; refine R.mv ?_; refine R.nl ?_; exact Run.loc rfl rfl rfl
     apply TX.val []; exact rfl; kernel_rfl
     ·rintro _ rfl ; refine R.mv ?_; refine R.nl ?_; exact Run.loc rfl rfl rfl
     apply TX.late []; exact rfl; kernel_rfl
     ·intro zM hzM; rintro _ rfl ; refine R.mv ?_; refine R.nl ?_; exact Run.loc rfl rfl rfl
     apply TX.late []; exact rfl; kernel_rfl
     ·intro zM hzM; rintro _ rfl ; refine R.mv ?_; refine R.nl ?_; exact Run.loc rfl rfl rfl
     apply TX.late [0]; exact rfl; kernel_rfl
     ·intro zM hzM; rintro _ rfl _ rfl; refine R.sb ?_; refine R.nl ?_; exact Run.loc rfl rfl rfl
     apply TX.val []; exact rfl; kernel_rfl
     ·rintro _ rfl ; refine R.mv ?_; refine R.nl ?_; exact Run.loc rfl rfl rfl
     apply TX.val []; exact rfl; kernel_rfl
     ·rintro _ rfl ; refine R.mv ?_; refine R.nl ?_; exact Run.loc rfl rfl rfl
     apply TX.val [0]; exact rfl; kernel_rfl
     ·rintro _ rfl _ rfl; refine R.sb ?_; refine R.nl ?_; exact Run.loc rfl rfl rfl
     apply TX.val [2, 0]; exact rfl; kernel_rfl
     ·rintro _ rfl _ rfl _ rfl; refine R.ix (hI2) Tryz.runUnderlying99 Tryz.sizeOf101 ?_; refine R.nl ?_; exact Run.loc rfl rfl rfl
     apply TX.val [0]; exact rfl; kernel_rfl
     ·rintro _ rfl _ rfl; refine R.lAD 7 Tryz.isAgg101 Tryz.sizeOf101 ?_; refine R.nl ?_; exact Run.loc rfl rfl rfl
     apply TX.val []; exact rfl; kernel_rfl
     ·rintro _ rfl ; refine R.mv ?_; refine R.nl ?_; exact Run.loc rfl rfl rfl
     apply TX.val []; exact rfl; kernel_rfl
     ·rintro _ rfl ; refine R.mv ?_; refine R.nl ?_; exact Run.loc rfl rfl rfl
     apply TX.val [1, 0]; exact rfl; kernel_rfl
     ·rintro _ rfl _ rfl _ rfl; refine R.ix (hI1) Tryz.runUnderlying99 Tryz.sizeOf101 ?_; refine R.nl ?_; exact Run.loc rfl rfl rfl
     apply TX.val [0]; exact rfl; kernel_rfl
     ·rintro _ rfl _ rfl; refine R.lAD 7 Tryz.isAgg101 Tryz.sizeOf101 ?_; refine R.nl ?_; exact Run.loc rfl rfl rfl
     apply TX.val [13, 12]; exact rfl; kernel_rfl
     ·rintro _ rfl _ rfl _ rfl; refine R.ix (hI1) Tryz.runUnderlying99 Tryz.sizeOf101 ?_; refine R.nl ?_; exact Run.loc rfl rfl rfl
     apply TX.eff [5, 0]; exact rfl; kernel_rfl
     ·rintro _ rfl _ rfl _ rfl; refine R.so y hOw hI1 Vw.len Tryz.sizeOf101 (fun q2 hO2 => ?_); refine R.nl ?_; exact Run.effd rfl (⟨q2, hO2, rfl⟩)
     refine TX.fin (by rfl) ?_; rintro zM ⟨q2, hO2, rfl⟩; rintro _ rfl  _ rfl _ rfl _ rfl _ rfl _ rfl _ rfl _ rfl _ rfl _ rfl _ rfl _ rfl _ rfl _ rfl _ rfl _ rfl; refine R.ix (hI2) Tryz.runUnderlying99 Tryz.sizeOf101 ?_; refine R.so x hO2 hI2 Vw.len Tryz.sizeOf101 (fun q3 hO3 => ?_); refine R.nl ?_; refine R.hs (e' := [(0, _), (1, _), (2, _), (3, _), (8, _), (9, _)]) ?_; refine Run.endBlock ?_; refine R.rg ?_; refine R.mv ?_; refine R.sb ?_; refine R.as ?_; refine R.nl ?_; refine R.hs (e' := [(0, _), (1, _), (2, _), (3, _), (8, _), (9, _)]) ?_; exact Run.again (j - 1, _, q3) ⟨by simp; omega, by simp; omega, (swap_perm hgx hgy).trans hpw, hO3⟩ (by simp; omega) (by repeat (first | exact trivial | refine ⟨rfl, ?_⟩)) (fun w hs => hs)
    ·refine Run.exit rfl ?_; refine Run.endBlock ?_; refine R.rg ?_; refine R.mv ?_; refine R.ad ?_; refine R.as ?_; refine R.nl ?_; refine R.hs (e' := [(0, _), (1, _), (2, _), (3, _), (8, _)]) ?_; exact Run.again (i + 1, ws, q1) ⟨by simp; omega, hpw, hOw⟩ (by simp; omega) (by repeat (first | exact trivial | refine ⟨rfl, ?_⟩)) (fun w hs => hs)
   ·refine Run.drawC Grow.eq 14 [(0, _), (1, _), (2, _), (3, _), (8, _), (9, _)] mix (by kernel_rfl) (by repeat (first | exact trivial | refine ⟨rfl, ?_⟩)) ?_; apply TC.val []; exact rfl; kernel_rfl
    ·rintro _ rfl ; refine R.mv ?_; refine R.nl ?_; exact Run.loc rfl rfl rfl
    apply TC.val []; exact rfl; kernel_rfl
    ·rintro _ rfl ; refine R.mv ?_; refine R.nl ?_; exact Run.loc rfl rfl rfl
    apply TC.val [1, 0]; exact rfl; kernel_rfl
    ·rintro _ rfl _ rfl _ rfl; refine R.cm ?_; refine R.nl ?_; exact Run.loc rfl rfl rfl
    apply TC.val [0]; exact rfl; kernel_rfl
    ·rintro _ rfl _ rfl; refine R.mv ?_; refine R.nl ?_; exact Run.loc rfl rfl rfl
    apply TC.val [0]; exact rfl; kernel_rfl
    ·rintro _ rfl _ rfl; refine R.gF (zg2) ?_; refine R.nl ?_; exact Run.loc rfl rfl rfl
    apply TC.val [1]; exact rfl; kernel_rfl
    ·rintro _ rfl _ rfl; refine R.gF (zg2) ?_; refine R.nl ?_; exact Run.loc rfl rfl rfl
    apply TC.val [2]; exact rfl; kernel_rfl
    ·rintro _ rfl _ rfl; refine R.gF (zg2) ?_; refine R.nl ?_; exact Run.loc rfl rfl rfl
    apply TC.val [3, 1, 0]; exact rfl; kernel_rfl
    ·rintro _ rfl _ rfl _ rfl _ rfl; refine R.gF (zg2) ?_; refine R.nl ?_; exact Run.loc rfl rfl rfl
    apply TC.val [4, 0]; exact rfl; kernel_rfl
    ·rintro _ rfl _ rfl _ rfl; refine R.gF (zg2) ?_; refine R.nl ?_; exact Run.loc rfl rfl rfl
    apply TC.val [5]; exact rfl; kernel_rfl
    ·rintro _ rfl _ rfl; refine R.gF (zg2) ?_; refine R.nl ?_; exact Run.loc rfl rfl rfl
    apply TC.val [6]; exact rfl; kernel_rfl
    ·rintro _ rfl _ rfl; refine R.gF (zg2) ?_; refine R.nl ?_; exact Run.loc rfl rfl rfl
    apply TC.val [7, 0]; exact rfl; kernel_rfl
    ·rintro _ rfl _ rfl _ rfl; refine R.gF (zg2) ?_; refine R.nl ?_; exact Run.loc rfl rfl rfl
    apply TC.val [8, 2, 0]; exact rfl; kernel_rfl
    ·rintro _ rfl _ rfl _ rfl _ rfl; refine R.gF (zg2) ?_; refine R.nl ?_; exact Run.loc rfl rfl rfl
    apply TC.val [9, 0]; exact rfl; kernel_rfl
    ·rintro _ rfl _ rfl _ rfl; refine R.gF (zg2) ?_; refine R.nl ?_; exact Run.loc rfl rfl rfl
    refine TC.fin (by rfl) ?_; rintro _ rfl _ rfl _ rfl _ rfl _ rfl _ rfl _ rfl _ rfl _ rfl _ rfl _ rfl _ rfl _ rfl _ rfl _ rfl; refine R.gF (zg2) ?_; refine R.gF (zg2) ?_; refine R.pF (zg2) ?_; refine R.nl ?_; refine R.hs (e' := [(0, _), (1, _), (2, _), (3, _), (8, _), (9, _), (34, _)]) ?_; refine R.cF (rfl) ?_; refine Run.exit rfl ?_; refine Run.endBlock ?_; refine R.rg ?_; refine R.mv ?_; refine R.ad ?_; refine R.as ?_; refine R.nl ?_; refine R.hs (e' := [(0, _), (1, _), (2, _), (3, _), (8, _)]) ?_; exact Run.again (i + 1, ws, q1) ⟨by simp; omega, hpw, hOw⟩ (by simp; omega) (by repeat (first | exact trivial | refine ⟨rfl, ?_⟩)) (fun w hs => hs)
  ·refine Run.exit rfl ?_; exact R.fn (u := .tuple #[]) .nil 0 ⟨rfl, zs, q0, hO, hp, rfl⟩
end Go.Proofs.YtgdpjpmjcpieiaaGreat
