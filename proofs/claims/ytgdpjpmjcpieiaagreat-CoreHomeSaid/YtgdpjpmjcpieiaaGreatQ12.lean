import Derived.Test.YtgdpjpmjcpieiaaGreatQ11
/- The destination: the law's own text tells true. No condition. -/
namespace Go.Proofs.YtgdpjpmjcpieiaaGreat
open Go
set_option linter.unusedVariables false
set_option linter.unusedSimpArgs false
set_option maxRecDepth 100000
set_option maxHeartbeats 0
theorem coreHome_spec {g : Gl} {D : Dict} {M : MList} {v : Value} (r : Rt) (o : Opn) (hV : Vws D v r.vs) :
    Gives Tryz.prog g 9 [.agg (Rt.cells v r).toArray, .agg (Opn.cells o).toArray] D M (.bool true) := by
  have hle : Le D D := Le.rfl'
  refine Gives.enter Tryz.func9 rfl Tryz.ntmps9 ?_; refine R.sq ?_; refine R.rg ?_; refine R.bxA (fun b1 hb1 => ?_); refine R.bxA (fun b2 hb2 => ?_); refine R.as ?_; refine R.nl ?_; refine R.hs (e' := [(2, _), (3, _)]) ?_; refine R.sq ?_; refine R.sq ?_; refine R.rg ?_; refine R.fa Tryz.runUnderlying26 Tryz.sizeOf24 ?_; refine R.ld Tryz.isAgg24 ?_; refine R.ll (hV) Tryz.runUnderlying24 ?_; refine R.cm ?_; refine R.mv ?_; refine R.gd (fun zg3 => ?_) (fun zg3 => ?_)
  ·refine R.fa Tryz.runUnderlying26 Tryz.sizeOf3 ?_; refine R.gY (zg3) ?_; refine R.ld Tryz.isAgg3 ?_; refine R.gY (zg3) ?_; refine R.fa Tryz.runUnderlying26 Tryz.sizeOf3 ?_; refine R.gY (zg3) ?_; refine R.ld Tryz.isAgg3 ?_; refine R.gY (zg3) ?_; refine R.cm ?_; refine R.pF (zg3) ?_; refine R.nl ?_; refine R.hs (e' := [(2, _), (3, _), (22, _)]) ?_; refine R.cd (fun zc4 => ?_) (fun zc4 => ?_)
   ·refine R.sq ?_; refine R.rg ?_; refine R.cg Tryz.call15 (awake20_spec) ?_; refine R.as ?_; refine R.nl ?_; refine R.hs (e' := [(4, _)]) ?_
    first
    | exact R.rl (RV.t .nil) 2 hle rfl
    | exact R.rl (RV.t .nil) 3 hle rfl
    | (refine R.rl (RV.t .nil) 4 hle (congrArg Value.bool ?_)
       first
       | (simp [hs2]; done)
       | (simp [hx2]; done)
       | (exfalso; clear hle hV hw ho hst hr5; grind))
    | (refine R.rl (RV.t .nil) 3 hle (congrArg Value.bool ?_)
       have h9 : o.call = 2 ∧ o.ob.kind = 2 ∧ (stepA r o).2.1.length ≠ 0 := by clear hle hV hw ho hst hr5 hx3; simp_all
       have h10 := (hst h9.1).2 h9.2.1
       rw [h10] at h9
       exact (h9.2.2 rfl).elim)
   ·
    have hn : r.vs.length ≤ 80 ∧ r.me = r.dest := by clear hV hle; simp_all; omega
    obtain ⟨hn, hh⟩ := hn
    refine Run.skip ?_; refine R.sq ?_; refine R.rg ?_; refine R.lA 13 Tryz.isAgg26 Tryz.sizeOf26 ?_; refine R.lA 16 Tryz.isAgg32 Tryz.sizeOf32 ?_; refine R.gt Tryz.call11 (step_spec r o (by omega) hV) (fun zr3_2 zD5 hzD5 hzr3_2 => ?_)
    try replace hle := hle.mono hzD5
    try replace hV := hV.mono hzD5
    try replace hw := hw.mono hzD5
    try replace ho := ho.mono hzD5
    obtain ⟨w, oo, hu, hw, ho⟩ := hzr3_2
    subst hu
    obtain ⟨A1, c1, hv1, _, _⟩ := hw.form
    subst hv1
    obtain ⟨A2, c2, hv2, _, hol⟩ := ho.form
    subst hv2
    refine R.mv ?_; refine R.ex ?_; refine R.ex ?_; refine R.ex ?_; refine R.alA Tryz.zeroValue26 (fun b5 hb5 => ?_); refine R.st Tryz.sizeOf26 ?_; refine R.as ?_; refine R.as ?_; refine R.nl ?_; refine R.hs (e' := [(2, _), (3, _), (5, _), (6, _), (7, _)]) ?_; refine R.sq ?_; refine R.sq ?_; refine R.rg ?_; refine R.mv ?_; refine R.cm ?_; refine R.nl ?_; refine R.hs (e' := [(2, _), (3, _), (5, _), (6, _), (32, _)]) ?_; refine R.cd (fun zc7 => ?_) (fun zc7 => ?_)
    ·refine R.sq ?_; refine R.rg ?_; refine R.cg Tryz.call15 (awake20_spec) ?_; refine R.as ?_; refine R.nl ?_; refine R.hs (e' := [(4, _)]) ?_
     first
     | exact R.rl (RV.t .nil) 2 hle rfl
     | exact R.rl (RV.t .nil) 3 hle rfl
     | (refine R.rl (RV.t .nil) 4 hle (congrArg Value.bool ?_)
        first
        | (simp [hs2]; done)
        | (simp [hx2]; done)
        | (exfalso; clear hle hV hw ho hst hr5; grind))
     | (refine R.rl (RV.t .nil) 3 hle (congrArg Value.bool ?_)
        have h9 : o.call = 2 ∧ o.ob.kind = 2 ∧ (stepA r o).2.1.length ≠ 0 := by clear hle hV hw ho hst hr5 hx3; simp_all
        have h10 := (hst h9.1).2 h9.2.1
        rw [h10] at h9
        exact (h9.2.2 rfl).elim)
    ·
     have hpre : (stepA r o).2.2 = 0 := by simpa using zc7
     obtain ⟨hr1, hr2, hr3, hr4, hr5⟩ := step_right r o hpre
     have hst := step_home r o hpre hh
     obtain ⟨hx1, hx2, hx3⟩ := home_want hr2 (by rw [hr3, hr4]; exact hh)
     rw [hr3] at hx1
     refine Run.skip ?_; refine R.sq ?_; refine R.sq ?_; refine R.rg ?_; refine R.fa Tryz.runUnderlying32 Tryz.sizeOf3 ?_; refine R.ld Tryz.isAgg3 ?_; refine R.cm ?_; refine R.mv ?_; refine R.gd (fun zg8 => ?_) (fun zg8 => ?_)
     ·refine R.fa Tryz.runUnderlying32 Tryz.sizeOf30 ?_; refine R.gY (zg8) ?_; refine R.fa Tryz.runUnderlying30 Tryz.sizeOf3 ?_; refine R.gY (zg8) ?_; refine R.ld Tryz.isAgg3 ?_; refine R.gY (zg8) ?_; refine R.cm ?_; refine R.pT (zg8) ?_; refine R.nl ?_; refine R.hs (e' := [(2, _), (3, _), (5, _), (6, _), (42, _)]) ?_; refine R.cd (fun zc9 => ?_) (fun zc9 => ?_)
      ·
       have hk : o.call = 2 ∧ o.ob.kind = 1 := by clear hV hle hw ho; simp_all
       obtain ⟨hs1, hs2⟩ := (hst hk.1).1 hk.2
       refine R.sq ?_; refine Run.drawY Grow.eq 7 6 8 (fun _ => (fun v' M' => ∃ b', v' = .pointer (some ⟨b', 0, none⟩) ∧ M' = (b', .cells (Ob.cells ⟨0, 0, z0H, z0L, 0⟩).toArray 30 (0, 0)) :: (b5, .cells (Rt.cells (.slice A1 (stepA r o).1.vs.length c1) (stepA r o).1).toArray 26 (0, 0)) :: (b2, .cells (Opn.cells o).toArray 32 (0, 0)) :: rb b1 v r :: M)) (fun _ => (fun _ _ => False)) (fun _ => (fun _ _ _ => False)) [(2, _), (3, _), (5, _), (6, _)] mix (by kernel_rfl) (by repeat (first | exact trivial | refine ⟨rfl, ?_⟩)) (fun _ _ _ _ _ h => h) (fun _ _ _ _ _ h => h) (fun _ _ _ _ _ _ h => h) ?_; apply TY.late []; exact rfl; kernel_rfl
       ·rintro _ zM hzM rfl ; refine R.fa Tryz.runUnderlying26 Tryz.sizeOf3 ?_; refine R.nl ?_; exact Run.loc rfl rfl rfl
       apply TY.late [0]; exact rfl; kernel_rfl
       ·rintro _ zM hzM rfl _ rfl; refine R.ld Tryz.isAgg3 ?_ (hc := Cs.mkM (n := 1) (show rb b1 v r ∈ zM from by rcases hzM with h | ⟨_, _, _, h⟩ | ⟨_, h⟩ | ⟨_, _, h⟩ <;> first | exact h.elim | (rw [h]; simp)) rfl); refine R.nl ?_; exact Run.loc rfl rfl rfl
       apply TY.late []; exact rfl; kernel_rfl
       ·rintro _ zM hzM rfl ; refine R.fa Tryz.runUnderlying26 Tryz.sizeOf3 ?_; refine R.nl ?_; exact Run.loc rfl rfl rfl
       apply TY.late [0]; exact rfl; kernel_rfl
       ·rintro _ zM hzM rfl _ rfl; refine R.ld Tryz.isAgg3 ?_ (hc := Cs.mkM (n := 1) (show rb b1 v r ∈ zM from by rcases hzM with h | ⟨_, _, _, h⟩ | ⟨_, h⟩ | ⟨_, _, h⟩ <;> first | exact h.elim | (rw [h]; simp)) rfl); refine R.nl ?_; exact Run.loc rfl rfl rfl
       apply TY.late [0]; exact rfl; kernel_rfl
       ·rintro _ zM hzM rfl _ rfl; refine R.cg Tryz.call22 (zero_spec _) ?_; refine R.nl ?_; exact Run.loc rfl rfl rfl
       apply TY.late [3, 0]; exact rfl; kernel_rfl
       ·rintro _ zM hzM rfl _ rfl _ rfl; refine R.bd Tryz.zeroValue30 places30 ?_; refine R.nl ?_; exact Run.loc rfl rfl rfl
       refine TY.eff1 (dx := (some 8)) [] (by exact rfl) (by exact rfl) (by kernel_rfl) ?_ ?_ ?_
       ·rintro _  rfl ; refine R.alA Tryz.zeroValue30 (fun b8 hb8 => ?_); refine R.nl ?_; exact Run.effv rfl rfl (⟨b8, rfl, rfl⟩)
       · exact .inl (.inr (fun _ _ _ h => h))
       refine TY.fin1 (dx := (some 8)) (by rfl) (by kernel_rfl) (by exact rfl) ?_; rintro _ zv zM ⟨b8, rfl, rfl⟩ rfl  _ rfl _ rfl _ rfl _ rfl _ rfl _ rfl; refine R.st Tryz.sizeOf30 ?_; refine R.nl ?_; refine R.hs (e' := [(2, _), (3, _), (5, _), (6, _), (8, _)]) ?_; refine R.sq ?_; refine R.rg ?_; refine R.cg Tryz.call15 (awake20_spec) ?_; refine R.mv ?_; refine R.gd (fun zg19 => ?_) (fun zg19 => ?_)
       ·refine R.lA 13 Tryz.isAgg26 Tryz.sizeOf26 ?_; refine R.gY (zg19) ?_; refine R.lA 13 Tryz.isAgg26 Tryz.sizeOf26 ?_; refine R.gY (zg19) ?_; refine R.cg Tryz.call16 (rSame_spec (stepA r o).1 r hw hV) ?_; refine R.pT (zg19) ?_; refine R.mv ?_; refine R.gd (fun zg20 => ?_) (fun zg20 => ?_)
        ·refine R.mv ?_; refine R.gY (zg20) ?_; refine R.fa Tryz.runUnderlying32 Tryz.sizeOf3 ?_; refine R.gY (zg20) ?_; refine R.ld Tryz.isAgg3 ?_; refine R.gY (zg20) ?_; refine R.lA 12 Tryz.isAgg30 Tryz.sizeOf30 ?_; refine R.gY (zg20) ?_; refine R.bd Tryz.zeroValue50 places50 ?_; refine R.gY (zg20) ?_; refine R.bs zc50 Tryz.runUnderlying34 Tryz.sizeOf50 Tryz.zeroValue50 (fun b9 hb9 => ?_); refine R.frz (fun E hlE hrE => ?_)
         replace hle := hle.trans hlE
         replace ho := ho.mono hlE
         have hlit : Outs E (.slice (some ⟨b9, 0, none⟩) 1 1) [⟨o.id, ⟨2, r.dest, zeroH r.me, z0L, 0⟩⟩] := Lst.lit _ hrE rfl Ou.len rfl (by decide) (by decide)
         refine R.gY (zg20) ?_; refine R.cg Tryz.call17 (outs_spec ho hlit) ?_; refine R.pT (zg20) ?_; refine R.as ?_; refine R.nl ?_; refine R.hs (e' := [(4, _)]) ?_
         first
         | exact R.rl (RV.t .nil) 2 hle rfl
         | exact R.rl (RV.t .nil) 3 hle rfl
         | (refine R.rl (RV.t .nil) 4 hle (congrArg Value.bool ?_)
            first
            | (simp [hs2]; done)
            | (simp [hx2]; done)
            | (exfalso; clear hle hV hw ho hst hr5; grind))
         | (refine R.rl (RV.t .nil) 3 hle (congrArg Value.bool ?_)
            have h9 : o.call = 2 ∧ o.ob.kind = 2 ∧ (stepA r o).2.1.length ≠ 0 := by clear hle hV hw ho hst hr5 hx3; simp_all
            have h10 := (hst h9.1).2 h9.2.1
            rw [h10] at h9
            exact (h9.2.2 rfl).elim)
        ·refine R.gF (zg20) ?_; refine R.gF (zg20) ?_; refine R.gF (zg20) ?_; refine R.gF (zg20) ?_; refine R.gF (zg20) ?_; refine R.gF (zg20) ?_; refine R.pF (zg20) ?_; refine R.as ?_; refine R.nl ?_; refine R.hs (e' := [(4, _)]) ?_
         first
         | exact R.rl (RV.t .nil) 2 hle rfl
         | exact R.rl (RV.t .nil) 3 hle rfl
         | (refine R.rl (RV.t .nil) 4 hle (congrArg Value.bool ?_)
            first
            | (simp [hs2]; done)
            | (simp [hx2]; done)
            | (exfalso; clear hle hV hw ho hst hr5; grind))
         | (refine R.rl (RV.t .nil) 3 hle (congrArg Value.bool ?_)
            have h9 : o.call = 2 ∧ o.ob.kind = 2 ∧ (stepA r o).2.1.length ≠ 0 := by clear hle hV hw ho hst hr5 hx3; simp_all
            have h10 := (hst h9.1).2 h9.2.1
            rw [h10] at h9
            exact (h9.2.2 rfl).elim)
       ·refine R.gF (zg19) ?_; refine R.gF (zg19) ?_; refine R.pF (zg19) ?_; refine R.mv ?_; refine R.gF (rfl) ?_; refine R.gF (rfl) ?_; refine R.gF (rfl) ?_; refine R.gF (rfl) ?_; refine R.gF (rfl) ?_; refine R.gF (rfl) ?_; refine R.gF (rfl) ?_; refine R.pF (rfl) ?_; refine R.as ?_; refine R.nl ?_; refine R.hs (e' := [(4, _)]) ?_
        first
        | exact R.rl (RV.t .nil) 2 hle rfl
        | exact R.rl (RV.t .nil) 3 hle rfl
        | (refine R.rl (RV.t .nil) 4 hle (congrArg Value.bool ?_)
           first
           | (simp [hs2]; done)
           | (simp [hx2]; done)
           | (exfalso; clear hle hV hw ho hst hr5; grind))
        | (refine R.rl (RV.t .nil) 3 hle (congrArg Value.bool ?_)
           have h9 : o.call = 2 ∧ o.ob.kind = 2 ∧ (stepA r o).2.1.length ≠ 0 := by clear hle hV hw ho hst hr5 hx3; simp_all
           have h10 := (hst h9.1).2 h9.2.1
           rw [h10] at h9
           exact (h9.2.2 rfl).elim)
      ·refine Run.skip ?_; refine R.sq ?_; refine R.sq ?_; refine R.rg ?_; refine R.fa Tryz.runUnderlying32 Tryz.sizeOf3 ?_; refine R.ld Tryz.isAgg3 ?_; refine R.cm ?_; refine R.mv ?_; refine R.gd (fun zg21 => ?_) (fun zg21 => ?_)
       ·refine R.fa Tryz.runUnderlying32 Tryz.sizeOf30 ?_; refine R.gY (zg21) ?_; refine R.fa Tryz.runUnderlying30 Tryz.sizeOf3 ?_; refine R.gY (zg21) ?_; refine R.ld Tryz.isAgg3 ?_; refine R.gY (zg21) ?_; refine R.cm ?_; refine R.pT (zg21) ?_; refine R.mv ?_; refine R.gd (fun zg22 => ?_) (fun zg22 => ?_)
        ·refine R.mv ?_; refine R.gY (zg22) ?_; refine R.ln Tryz.runUnderlying34 ?_; refine R.gY (zg22) ?_; refine R.cm ?_; refine R.pT (zg22) ?_; refine R.nl ?_; refine R.hs (e' := [(2, _), (5, _), (77, _)]) ?_; refine R.cd (fun zc23 => ?_) (fun zc23 => ?_)
         ·refine R.sq ?_; refine R.rg ?_; refine R.as ?_; refine R.nl ?_; refine R.hs (e' := [(4, _)]) ?_
          first
          | exact R.rl (RV.t .nil) 2 hle rfl
          | exact R.rl (RV.t .nil) 3 hle rfl
          | (refine R.rl (RV.t .nil) 4 hle (congrArg Value.bool ?_)
             first
             | (simp [hs2]; done)
             | (simp [hx2]; done)
             | (exfalso; clear hle hV hw ho hst hr5; grind))
          | (refine R.rl (RV.t .nil) 3 hle (congrArg Value.bool ?_)
             have h9 : o.call = 2 ∧ o.ob.kind = 2 ∧ (stepA r o).2.1.length ≠ 0 := by clear hle hV hw ho hst hr5 hx3; simp_all
             have h10 := (hst h9.1).2 h9.2.1
             rw [h10] at h9
             exact (h9.2.2 rfl).elim)
         ·
          have hg9 : decide ((stepA r o).1.own.null = false ∧ (stepA r o).1.own.tau = 0 ∧ (stepA r o).1.own.oid = 0 ∧ (stepA r o).1.own.r = 0 ∧ (stepA r o).1.own.delta = 0 ∧ (stepA r o).1.own.id = r.me) = true := by rw [hx1]; simp [zeroH]
          have hg14 : (!(stepA r o).1.asked) = true := by rw [hx2]; rfl
          have hg25 : decide ((stepA r o).1.own.null = (stepA r o).1.own.null ∧ (stepA r o).1.own.tau = (stepA r o).1.own.tau ∧ (stepA r o).1.own.oid = (stepA r o).1.own.oid ∧ (stepA r o).1.own.r = (stepA r o).1.own.r ∧ (stepA r o).1.own.delta = (stepA r o).1.own.delta ∧ (stepA r o).1.own.id = (stepA r o).1.own.id) = true := by simp
          refine Run.skip ?_; refine R.sq ?_; refine R.rg ?_; refine R.lA 13 Tryz.isAgg26 Tryz.sizeOf26 ?_; refine R.gt Tryz.call26 (want_spec (stepA r o).1 (Nat.le_trans (okVs_len (okR_parts hr2).2.2.2.2.2.1) (by decide)) hw) (fun zr11_1 zD24 hzD24 hzr11_1 => ?_)
          try replace hle := hle.mono hzD24
          try replace hV := hV.mono hzD24
          try replace hw := hw.mono hzD24
          try replace ho := ho.mono hzD24
          try replace hzr3_2 := hzr3_2.mono hzD24
          rw [hx3] at hzr11_1
          obtain ⟨w3, o3, hu, hw3, ho3⟩ := hzr11_1
          subst hu
          obtain ⟨A3, c3, hv3, _, _⟩ := hw3.form
          subst hv3
          refine R.mv ?_; refine R.ex ?_; refine R.ex ?_; refine R.ex ?_; refine R.alA Tryz.zeroValue26 (fun zb25 hzb25 => ?_); refine R.st Tryz.sizeOf26 ?_; refine R.as ?_; refine R.as ?_; refine R.nl ?_; refine R.hs (e' := [(2, _), (5, _), (9, _), (11, _)]) ?_; refine R.sq ?_; refine Run.drawC Grow.eq 23 [(2, _), (5, _), (9, _), (11, _)] mix (by kernel_rfl) (by repeat (first | exact trivial | refine ⟨rfl, ?_⟩)) ?_; apply TC.val []; exact rfl; kernel_rfl
          ·rintro _  rfl ; refine R.cg Tryz.call15 (awake20_spec) ?_; refine R.nl ?_; exact Run.loc rfl rfl rfl
          apply TC.val [0]; exact rfl; kernel_rfl
          ·rintro _  rfl _ rfl; refine R.mv ?_; refine R.nl ?_; exact Run.loc rfl rfl rfl
          apply TC.val [0]; exact rfl; kernel_rfl
          ·rintro _  rfl _ rfl; refine R.gY (rfl) ?_; refine R.fa Tryz.runUnderlying26 Tryz.sizeOf23 ?_; refine R.nl ?_; exact Run.loc rfl rfl rfl
          apply TC.val [1, 0]; exact rfl; kernel_rfl
          ·rintro _  rfl _ rfl _ rfl; refine R.gY (rfl) ?_; refine R.lA 6 Tryz.isAgg23 Tryz.sizeOf23 ?_; refine R.nl ?_; exact Run.loc rfl rfl rfl
          apply TC.val [2]; exact rfl; kernel_rfl
          ·rintro _  rfl _ rfl; refine R.gY (rfl) ?_; refine R.fa Tryz.runUnderlying26 Tryz.sizeOf3 ?_; refine R.nl ?_; exact Run.loc rfl rfl rfl
          apply TC.val [3, 0]; exact rfl; kernel_rfl
          ·rintro _  rfl _ rfl _ rfl; refine R.gY (rfl) ?_; refine R.ld Tryz.isAgg3 ?_; refine R.nl ?_; exact Run.loc rfl rfl rfl
          apply TC.val [4, 0]; exact rfl; kernel_rfl
          ·rintro _  rfl _ rfl _ rfl; refine R.gY (rfl) ?_; refine R.cg Tryz.call22 (zero_spec _) ?_; refine R.nl ?_; exact Run.loc rfl rfl rfl
          apply TC.val [5, 3, 0]; exact rfl; kernel_rfl
          ·rintro _  rfl _ rfl _ rfl _ rfl; refine R.gY (rfl) ?_; refine R.ea Tryz.eqGuardType23 (eqAt23 _ _ _ _ _ _ _ _ _ _ _ _) ?_; refine R.nl ?_; exact Run.loc rfl rfl rfl
          apply TC.val [6, 0]; exact rfl; kernel_rfl
          ·rintro _  rfl _ rfl _ rfl; refine R.pT (rfl) ?_; refine R.nl ?_; exact Run.loc rfl rfl rfl
          apply TC.val [0]; exact rfl; kernel_rfl
          ·rintro _  rfl _ rfl; refine R.mv ?_; refine R.nl ?_; exact Run.loc rfl rfl rfl
          apply TC.val [0]; exact rfl; kernel_rfl
          ·rintro _  rfl _ rfl; refine R.gY (hg9) ?_; refine R.fa Tryz.runUnderlying26 Tryz.sizeOf4 ?_; refine R.nl ?_; exact Run.loc rfl rfl rfl
          apply TC.val [1, 0]; exact rfl; kernel_rfl
          ·rintro _  rfl _ rfl _ rfl; refine R.gY (hg9) ?_; refine R.ld Tryz.isAgg4 ?_; refine R.nl ?_; exact Run.loc rfl rfl rfl
          apply TC.val [2, 0]; exact rfl; kernel_rfl
          ·rintro _  rfl _ rfl _ rfl; refine R.gY (hg9) ?_; refine R.nt ?_; refine R.nl ?_; exact Run.loc rfl rfl rfl
          apply TC.val [3, 0]; exact rfl; kernel_rfl
          ·rintro _  rfl _ rfl _ rfl; refine R.pT (hg9) ?_; refine R.nl ?_; exact Run.loc rfl rfl rfl
          apply TC.val [0]; exact rfl; kernel_rfl
          ·rintro _  rfl _ rfl; refine R.mv ?_; refine R.nl ?_; exact Run.loc rfl rfl rfl
          apply TC.val [0]; exact rfl; kernel_rfl
          ·rintro _  rfl _ rfl; refine R.gY (hg14) ?_; refine R.mv ?_; refine R.nl ?_; exact Run.loc rfl rfl rfl
          apply TC.val [1, 0]; exact rfl; kernel_rfl
          ·rintro _  rfl _ rfl _ rfl; refine R.gY (hg14) ?_; refine R.cm ?_; refine R.nl ?_; exact Run.loc rfl rfl rfl
          apply TC.val [2, 0]; exact rfl; kernel_rfl
          ·rintro _  rfl _ rfl _ rfl; refine R.pT (hg14) ?_; refine R.nl ?_; exact Run.loc rfl rfl rfl
          apply TC.val [0]; exact rfl; kernel_rfl
          ·rintro _  rfl _ rfl; refine R.mv ?_; refine R.nl ?_; exact Run.loc rfl rfl rfl
          apply TC.val [0]; exact rfl; kernel_rfl
          ·rintro _  rfl _ rfl; refine R.gY (rfl) ?_; refine R.fa Tryz.runUnderlying26 Tryz.sizeOf23 ?_; refine R.nl ?_; exact Run.loc rfl rfl rfl
          apply TC.val [1, 0]; exact rfl; kernel_rfl
          ·rintro _  rfl _ rfl _ rfl; refine R.gY (rfl) ?_; refine R.lA 6 Tryz.isAgg23 Tryz.sizeOf23 ?_; refine R.nl ?_; exact Run.loc rfl rfl rfl
          apply TC.val [2]; exact rfl; kernel_rfl
          ·rintro _  rfl _ rfl; refine R.gY (rfl) ?_; refine R.fa Tryz.runUnderlying26 Tryz.sizeOf23 ?_; refine R.nl ?_; exact Run.loc rfl rfl rfl
          apply TC.val [3, 0]; exact rfl; kernel_rfl
          ·rintro _  rfl _ rfl _ rfl; refine R.gY (rfl) ?_; refine R.lA 6 Tryz.isAgg23 Tryz.sizeOf23 ?_; refine R.nl ?_; exact Run.loc rfl rfl rfl
          refine TC.fin (by rfl) ?_; rintro _  rfl _ rfl _ rfl _ rfl _ rfl _ rfl _ rfl _ rfl _ rfl _ rfl _ rfl _ rfl _ rfl _ rfl _ rfl _ rfl _ rfl _ rfl _ rfl _ rfl _ rfl _ rfl _ rfl _ rfl; refine R.gY (rfl) ?_; refine R.ea Tryz.eqGuardType23 (eqAt23 _ _ _ _ _ _ _ _ _ _ _ _) ?_; refine R.pT (rfl) ?_; refine R.mv ?_; refine R.gY (hg25) ?_; refine R.fa Tryz.runUnderlying26 Tryz.sizeOf4 ?_; refine R.gY (hg25) ?_; refine R.ld Tryz.isAgg4 ?_; refine R.gY (hg25) ?_; refine R.nt ?_; refine R.pT (hg25) ?_; refine R.as ?_; refine R.nl ?_; refine R.hs (e' := [(4, _)]) ?_
          first
          | exact R.rl (RV.t .nil) 2 hle rfl
          | exact R.rl (RV.t .nil) 3 hle rfl
          | (refine R.rl (RV.t .nil) 4 hle (congrArg Value.bool ?_)
             first
             | (simp [hs2]; done)
             | (simp [hx2]; done)
             | (exfalso; clear hle hV hw ho hst hr5; grind))
          | (refine R.rl (RV.t .nil) 3 hle (congrArg Value.bool ?_)
             have h9 : o.call = 2 ∧ o.ob.kind = 2 ∧ (stepA r o).2.1.length ≠ 0 := by clear hle hV hw ho hst hr5 hx3; simp_all
             have h10 := (hst h9.1).2 h9.2.1
             rw [h10] at h9
             exact (h9.2.2 rfl).elim)
        ·refine R.gF (zg22) ?_; refine R.gF (zg22) ?_; refine R.pF (zg22) ?_; refine R.nl ?_; refine R.hs (e' := [(2, _), (5, _), (77, _)]) ?_; refine R.cF (rfl) ?_
         have hg9 : decide ((stepA r o).1.own.null = false ∧ (stepA r o).1.own.tau = 0 ∧ (stepA r o).1.own.oid = 0 ∧ (stepA r o).1.own.r = 0 ∧ (stepA r o).1.own.delta = 0 ∧ (stepA r o).1.own.id = r.me) = true := by rw [hx1]; simp [zeroH]
         have hg14 : (!(stepA r o).1.asked) = true := by rw [hx2]; rfl
         have hg25 : decide ((stepA r o).1.own.null = (stepA r o).1.own.null ∧ (stepA r o).1.own.tau = (stepA r o).1.own.tau ∧ (stepA r o).1.own.oid = (stepA r o).1.own.oid ∧ (stepA r o).1.own.r = (stepA r o).1.own.r ∧ (stepA r o).1.own.delta = (stepA r o).1.own.delta ∧ (stepA r o).1.own.id = (stepA r o).1.own.id) = true := by simp
         refine Run.skip ?_; refine R.sq ?_; refine R.rg ?_; refine R.lA 13 Tryz.isAgg26 Tryz.sizeOf26 ?_; refine R.gt Tryz.call26 (want_spec (stepA r o).1 (Nat.le_trans (okVs_len (okR_parts hr2).2.2.2.2.2.1) (by decide)) hw) (fun zr11_1 zD50 hzD50 hzr11_1 => ?_)
         try replace hle := hle.mono hzD50
         try replace hV := hV.mono hzD50
         try replace hw := hw.mono hzD50
         try replace ho := ho.mono hzD50
         try replace hzr3_2 := hzr3_2.mono hzD50
         try replace hzr11_1 := hzr11_1.mono hzD50
         rw [hx3] at hzr11_1
         obtain ⟨w3, o3, hu, hw3, ho3⟩ := hzr11_1
         subst hu
         obtain ⟨A3, c3, hv3, _, _⟩ := hw3.form
         subst hv3
         refine R.mv ?_; refine R.ex ?_; refine R.ex ?_; refine R.ex ?_; refine R.alA Tryz.zeroValue26 (fun zb51 hzb51 => ?_); refine R.st Tryz.sizeOf26 ?_; refine R.as ?_; refine R.as ?_; refine R.nl ?_; refine R.hs (e' := [(2, _), (5, _), (9, _), (11, _)]) ?_; refine R.sq ?_; refine Run.drawC Grow.eq 23 [(2, _), (5, _), (9, _), (11, _)] mix (by kernel_rfl) (by repeat (first | exact trivial | refine ⟨rfl, ?_⟩)) ?_; apply TC.val []; exact rfl; kernel_rfl
         ·rintro _  rfl ; refine R.cg Tryz.call15 (awake20_spec) ?_; refine R.nl ?_; exact Run.loc rfl rfl rfl
         apply TC.val [0]; exact rfl; kernel_rfl
         ·rintro _  rfl _ rfl; refine R.mv ?_; refine R.nl ?_; exact Run.loc rfl rfl rfl
         apply TC.val [0]; exact rfl; kernel_rfl
         ·rintro _  rfl _ rfl; refine R.gY (rfl) ?_; refine R.fa Tryz.runUnderlying26 Tryz.sizeOf23 ?_; refine R.nl ?_; exact Run.loc rfl rfl rfl
         apply TC.val [1, 0]; exact rfl; kernel_rfl
         ·rintro _  rfl _ rfl _ rfl; refine R.gY (rfl) ?_; refine R.lA 6 Tryz.isAgg23 Tryz.sizeOf23 ?_; refine R.nl ?_; exact Run.loc rfl rfl rfl
         apply TC.val [2]; exact rfl; kernel_rfl
         ·rintro _  rfl _ rfl; refine R.gY (rfl) ?_; refine R.fa Tryz.runUnderlying26 Tryz.sizeOf3 ?_; refine R.nl ?_; exact Run.loc rfl rfl rfl
         apply TC.val [3, 0]; exact rfl; kernel_rfl
         ·rintro _  rfl _ rfl _ rfl; refine R.gY (rfl) ?_; refine R.ld Tryz.isAgg3 ?_; refine R.nl ?_; exact Run.loc rfl rfl rfl
         apply TC.val [4, 0]; exact rfl; kernel_rfl
         ·rintro _  rfl _ rfl _ rfl; refine R.gY (rfl) ?_; refine R.cg Tryz.call22 (zero_spec _) ?_; refine R.nl ?_; exact Run.loc rfl rfl rfl
         apply TC.val [5, 3, 0]; exact rfl; kernel_rfl
         ·rintro _  rfl _ rfl _ rfl _ rfl; refine R.gY (rfl) ?_; refine R.ea Tryz.eqGuardType23 (eqAt23 _ _ _ _ _ _ _ _ _ _ _ _) ?_; refine R.nl ?_; exact Run.loc rfl rfl rfl
         apply TC.val [6, 0]; exact rfl; kernel_rfl
         ·rintro _  rfl _ rfl _ rfl; refine R.pT (rfl) ?_; refine R.nl ?_; exact Run.loc rfl rfl rfl
         apply TC.val [0]; exact rfl; kernel_rfl
         ·rintro _  rfl _ rfl; refine R.mv ?_; refine R.nl ?_; exact Run.loc rfl rfl rfl
         apply TC.val [0]; exact rfl; kernel_rfl
         ·rintro _  rfl _ rfl; refine R.gY (hg9) ?_; refine R.fa Tryz.runUnderlying26 Tryz.sizeOf4 ?_; refine R.nl ?_; exact Run.loc rfl rfl rfl
         apply TC.val [1, 0]; exact rfl; kernel_rfl
         ·rintro _  rfl _ rfl _ rfl; refine R.gY (hg9) ?_; refine R.ld Tryz.isAgg4 ?_; refine R.nl ?_; exact Run.loc rfl rfl rfl
         apply TC.val [2, 0]; exact rfl; kernel_rfl
         ·rintro _  rfl _ rfl _ rfl; refine R.gY (hg9) ?_; refine R.nt ?_; refine R.nl ?_; exact Run.loc rfl rfl rfl
         apply TC.val [3, 0]; exact rfl; kernel_rfl
         ·rintro _  rfl _ rfl _ rfl; refine R.pT (hg9) ?_; refine R.nl ?_; exact Run.loc rfl rfl rfl
         apply TC.val [0]; exact rfl; kernel_rfl
         ·rintro _  rfl _ rfl; refine R.mv ?_; refine R.nl ?_; exact Run.loc rfl rfl rfl
         apply TC.val [0]; exact rfl; kernel_rfl
         ·rintro _  rfl _ rfl; refine R.gY (hg14) ?_; refine R.mv ?_; refine R.nl ?_; exact Run.loc rfl rfl rfl
         apply TC.val [1, 0]; exact rfl; kernel_rfl
         ·rintro _  rfl _ rfl _ rfl; refine R.gY (hg14) ?_; refine R.cm ?_; refine R.nl ?_; exact Run.loc rfl rfl rfl
         apply TC.val [2, 0]; exact rfl; kernel_rfl
         ·rintro _  rfl _ rfl _ rfl; refine R.pT (hg14) ?_; refine R.nl ?_; exact Run.loc rfl rfl rfl
         apply TC.val [0]; exact rfl; kernel_rfl
         ·rintro _  rfl _ rfl; refine R.mv ?_; refine R.nl ?_; exact Run.loc rfl rfl rfl
         apply TC.val [0]; exact rfl; kernel_rfl
         ·rintro _  rfl _ rfl; refine R.gY (rfl) ?_; refine R.fa Tryz.runUnderlying26 Tryz.sizeOf23 ?_; refine R.nl ?_; exact Run.loc rfl rfl rfl
         apply TC.val [1, 0]; exact rfl; kernel_rfl
         ·rintro _  rfl _ rfl _ rfl; refine R.gY (rfl) ?_; refine R.lA 6 Tryz.isAgg23 Tryz.sizeOf23 ?_; refine R.nl ?_; exact Run.loc rfl rfl rfl
         apply TC.val [2]; exact rfl; kernel_rfl
         ·rintro _  rfl _ rfl; refine R.gY (rfl) ?_; refine R.fa Tryz.runUnderlying26 Tryz.sizeOf23 ?_; refine R.nl ?_; exact Run.loc rfl rfl rfl
         apply TC.val [3, 0]; exact rfl; kernel_rfl
         ·rintro _  rfl _ rfl _ rfl; refine R.gY (rfl) ?_; refine R.lA 6 Tryz.isAgg23 Tryz.sizeOf23 ?_; refine R.nl ?_; exact Run.loc rfl rfl rfl
         refine TC.fin (by rfl) ?_; rintro _  rfl _ rfl _ rfl _ rfl _ rfl _ rfl _ rfl _ rfl _ rfl _ rfl _ rfl _ rfl _ rfl _ rfl _ rfl _ rfl _ rfl _ rfl _ rfl _ rfl _ rfl _ rfl _ rfl _ rfl; refine R.gY (rfl) ?_; refine R.ea Tryz.eqGuardType23 (eqAt23 _ _ _ _ _ _ _ _ _ _ _ _) ?_; refine R.pT (rfl) ?_; refine R.mv ?_; refine R.gY (hg25) ?_; refine R.fa Tryz.runUnderlying26 Tryz.sizeOf4 ?_; refine R.gY (hg25) ?_; refine R.ld Tryz.isAgg4 ?_; refine R.gY (hg25) ?_; refine R.nt ?_; refine R.pT (hg25) ?_; refine R.as ?_; refine R.nl ?_; refine R.hs (e' := [(4, _)]) ?_
         first
         | exact R.rl (RV.t .nil) 2 hle rfl
         | exact R.rl (RV.t .nil) 3 hle rfl
         | (refine R.rl (RV.t .nil) 4 hle (congrArg Value.bool ?_)
            first
            | (simp [hs2]; done)
            | (simp [hx2]; done)
            | (exfalso; clear hle hV hw ho hst hr5; grind))
         | (refine R.rl (RV.t .nil) 3 hle (congrArg Value.bool ?_)
            have h9 : o.call = 2 ∧ o.ob.kind = 2 ∧ (stepA r o).2.1.length ≠ 0 := by clear hle hV hw ho hst hr5 hx3; simp_all
            have h10 := (hst h9.1).2 h9.2.1
            rw [h10] at h9
            exact (h9.2.2 rfl).elim)
       ·refine R.gF (zg21) ?_; refine R.gF (zg21) ?_; refine R.gF (zg21) ?_; refine R.pF (zg21) ?_; refine R.mv ?_; refine R.gF (rfl) ?_; refine R.gF (rfl) ?_; refine R.gF (rfl) ?_; refine R.pF (rfl) ?_; refine R.nl ?_; refine R.hs (e' := [(2, _), (5, _), (77, _)]) ?_; refine R.cF (rfl) ?_
        have hg9 : decide ((stepA r o).1.own.null = false ∧ (stepA r o).1.own.tau = 0 ∧ (stepA r o).1.own.oid = 0 ∧ (stepA r o).1.own.r = 0 ∧ (stepA r o).1.own.delta = 0 ∧ (stepA r o).1.own.id = r.me) = true := by rw [hx1]; simp [zeroH]
        have hg14 : (!(stepA r o).1.asked) = true := by rw [hx2]; rfl
        have hg25 : decide ((stepA r o).1.own.null = (stepA r o).1.own.null ∧ (stepA r o).1.own.tau = (stepA r o).1.own.tau ∧ (stepA r o).1.own.oid = (stepA r o).1.own.oid ∧ (stepA r o).1.own.r = (stepA r o).1.own.r ∧ (stepA r o).1.own.delta = (stepA r o).1.own.delta ∧ (stepA r o).1.own.id = (stepA r o).1.own.id) = true := by simp
        refine Run.skip ?_; refine R.sq ?_; refine R.rg ?_; refine R.lA 13 Tryz.isAgg26 Tryz.sizeOf26 ?_; refine R.gt Tryz.call26 (want_spec (stepA r o).1 (Nat.le_trans (okVs_len (okR_parts hr2).2.2.2.2.2.1) (by decide)) hw) (fun zr11_1 zD76 hzD76 hzr11_1 => ?_)
        try replace hle := hle.mono hzD76
        try replace hV := hV.mono hzD76
        try replace hw := hw.mono hzD76
        try replace ho := ho.mono hzD76
        try replace hzr3_2 := hzr3_2.mono hzD76
        try replace hzr11_1 := hzr11_1.mono hzD76
        try replace hzr11_1 := hzr11_1.mono hzD76
        rw [hx3] at hzr11_1
        obtain ⟨w3, o3, hu, hw3, ho3⟩ := hzr11_1
        subst hu
        obtain ⟨A3, c3, hv3, _, _⟩ := hw3.form
        subst hv3
        refine R.mv ?_; refine R.ex ?_; refine R.ex ?_; refine R.ex ?_; refine R.alA Tryz.zeroValue26 (fun zb77 hzb77 => ?_); refine R.st Tryz.sizeOf26 ?_; refine R.as ?_; refine R.as ?_; refine R.nl ?_; refine R.hs (e' := [(2, _), (5, _), (9, _), (11, _)]) ?_; refine R.sq ?_; refine Run.drawC Grow.eq 23 [(2, _), (5, _), (9, _), (11, _)] mix (by kernel_rfl) (by repeat (first | exact trivial | refine ⟨rfl, ?_⟩)) ?_; apply TC.val []; exact rfl; kernel_rfl
        ·rintro _  rfl ; refine R.cg Tryz.call15 (awake20_spec) ?_; refine R.nl ?_; exact Run.loc rfl rfl rfl
        apply TC.val [0]; exact rfl; kernel_rfl
        ·rintro _  rfl _ rfl; refine R.mv ?_; refine R.nl ?_; exact Run.loc rfl rfl rfl
        apply TC.val [0]; exact rfl; kernel_rfl
        ·rintro _  rfl _ rfl; refine R.gY (rfl) ?_; refine R.fa Tryz.runUnderlying26 Tryz.sizeOf23 ?_; refine R.nl ?_; exact Run.loc rfl rfl rfl
        apply TC.val [1, 0]; exact rfl; kernel_rfl
        ·rintro _  rfl _ rfl _ rfl; refine R.gY (rfl) ?_; refine R.lA 6 Tryz.isAgg23 Tryz.sizeOf23 ?_; refine R.nl ?_; exact Run.loc rfl rfl rfl
        apply TC.val [2]; exact rfl; kernel_rfl
        ·rintro _  rfl _ rfl; refine R.gY (rfl) ?_; refine R.fa Tryz.runUnderlying26 Tryz.sizeOf3 ?_; refine R.nl ?_; exact Run.loc rfl rfl rfl
        apply TC.val [3, 0]; exact rfl; kernel_rfl
        ·rintro _  rfl _ rfl _ rfl; refine R.gY (rfl) ?_; refine R.ld Tryz.isAgg3 ?_; refine R.nl ?_; exact Run.loc rfl rfl rfl
        apply TC.val [4, 0]; exact rfl; kernel_rfl
        ·rintro _  rfl _ rfl _ rfl; refine R.gY (rfl) ?_; refine R.cg Tryz.call22 (zero_spec _) ?_; refine R.nl ?_; exact Run.loc rfl rfl rfl
        apply TC.val [5, 3, 0]; exact rfl; kernel_rfl
        ·rintro _  rfl _ rfl _ rfl _ rfl; refine R.gY (rfl) ?_; refine R.ea Tryz.eqGuardType23 (eqAt23 _ _ _ _ _ _ _ _ _ _ _ _) ?_; refine R.nl ?_; exact Run.loc rfl rfl rfl
        apply TC.val [6, 0]; exact rfl; kernel_rfl
        ·rintro _  rfl _ rfl _ rfl; refine R.pT (rfl) ?_; refine R.nl ?_; exact Run.loc rfl rfl rfl
        apply TC.val [0]; exact rfl; kernel_rfl
        ·rintro _  rfl _ rfl; refine R.mv ?_; refine R.nl ?_; exact Run.loc rfl rfl rfl
        apply TC.val [0]; exact rfl; kernel_rfl
        ·rintro _  rfl _ rfl; refine R.gY (hg9) ?_; refine R.fa Tryz.runUnderlying26 Tryz.sizeOf4 ?_; refine R.nl ?_; exact Run.loc rfl rfl rfl
        apply TC.val [1, 0]; exact rfl; kernel_rfl
        ·rintro _  rfl _ rfl _ rfl; refine R.gY (hg9) ?_; refine R.ld Tryz.isAgg4 ?_; refine R.nl ?_; exact Run.loc rfl rfl rfl
        apply TC.val [2, 0]; exact rfl; kernel_rfl
        ·rintro _  rfl _ rfl _ rfl; refine R.gY (hg9) ?_; refine R.nt ?_; refine R.nl ?_; exact Run.loc rfl rfl rfl
        apply TC.val [3, 0]; exact rfl; kernel_rfl
        ·rintro _  rfl _ rfl _ rfl; refine R.pT (hg9) ?_; refine R.nl ?_; exact Run.loc rfl rfl rfl
        apply TC.val [0]; exact rfl; kernel_rfl
        ·rintro _  rfl _ rfl; refine R.mv ?_; refine R.nl ?_; exact Run.loc rfl rfl rfl
        apply TC.val [0]; exact rfl; kernel_rfl
        ·rintro _  rfl _ rfl; refine R.gY (hg14) ?_; refine R.mv ?_; refine R.nl ?_; exact Run.loc rfl rfl rfl
        apply TC.val [1, 0]; exact rfl; kernel_rfl
        ·rintro _  rfl _ rfl _ rfl; refine R.gY (hg14) ?_; refine R.cm ?_; refine R.nl ?_; exact Run.loc rfl rfl rfl
        apply TC.val [2, 0]; exact rfl; kernel_rfl
        ·rintro _  rfl _ rfl _ rfl; refine R.pT (hg14) ?_; refine R.nl ?_; exact Run.loc rfl rfl rfl
        apply TC.val [0]; exact rfl; kernel_rfl
        ·rintro _  rfl _ rfl; refine R.mv ?_; refine R.nl ?_; exact Run.loc rfl rfl rfl
        apply TC.val [0]; exact rfl; kernel_rfl
        ·rintro _  rfl _ rfl; refine R.gY (rfl) ?_; refine R.fa Tryz.runUnderlying26 Tryz.sizeOf23 ?_; refine R.nl ?_; exact Run.loc rfl rfl rfl
        apply TC.val [1, 0]; exact rfl; kernel_rfl
        ·rintro _  rfl _ rfl _ rfl; refine R.gY (rfl) ?_; refine R.lA 6 Tryz.isAgg23 Tryz.sizeOf23 ?_; refine R.nl ?_; exact Run.loc rfl rfl rfl
        apply TC.val [2]; exact rfl; kernel_rfl
        ·rintro _  rfl _ rfl; refine R.gY (rfl) ?_; refine R.fa Tryz.runUnderlying26 Tryz.sizeOf23 ?_; refine R.nl ?_; exact Run.loc rfl rfl rfl
        apply TC.val [3, 0]; exact rfl; kernel_rfl
        ·rintro _  rfl _ rfl _ rfl; refine R.gY (rfl) ?_; refine R.lA 6 Tryz.isAgg23 Tryz.sizeOf23 ?_; refine R.nl ?_; exact Run.loc rfl rfl rfl
        refine TC.fin (by rfl) ?_; rintro _  rfl _ rfl _ rfl _ rfl _ rfl _ rfl _ rfl _ rfl _ rfl _ rfl _ rfl _ rfl _ rfl _ rfl _ rfl _ rfl _ rfl _ rfl _ rfl _ rfl _ rfl _ rfl _ rfl _ rfl; refine R.gY (rfl) ?_; refine R.ea Tryz.eqGuardType23 (eqAt23 _ _ _ _ _ _ _ _ _ _ _ _) ?_; refine R.pT (rfl) ?_; refine R.mv ?_; refine R.gY (hg25) ?_; refine R.fa Tryz.runUnderlying26 Tryz.sizeOf4 ?_; refine R.gY (hg25) ?_; refine R.ld Tryz.isAgg4 ?_; refine R.gY (hg25) ?_; refine R.nt ?_; refine R.pT (hg25) ?_; refine R.as ?_; refine R.nl ?_; refine R.hs (e' := [(4, _)]) ?_
        first
        | exact R.rl (RV.t .nil) 2 hle rfl
        | exact R.rl (RV.t .nil) 3 hle rfl
        | (refine R.rl (RV.t .nil) 4 hle (congrArg Value.bool ?_)
           first
           | (simp [hs2]; done)
           | (simp [hx2]; done)
           | (exfalso; clear hle hV hw ho hst hr5; grind))
        | (refine R.rl (RV.t .nil) 3 hle (congrArg Value.bool ?_)
           have h9 : o.call = 2 ∧ o.ob.kind = 2 ∧ (stepA r o).2.1.length ≠ 0 := by clear hle hV hw ho hst hr5 hx3; simp_all
           have h10 := (hst h9.1).2 h9.2.1
           rw [h10] at h9
           exact (h9.2.2 rfl).elim)
     ·refine R.gF (zg8) ?_; refine R.gF (zg8) ?_; refine R.gF (zg8) ?_; refine R.pF (zg8) ?_; refine R.nl ?_; refine R.hs (e' := [(2, _), (3, _), (5, _), (6, _), (42, _)]) ?_; refine R.cF (rfl) ?_; refine Run.skip ?_; refine R.sq ?_; refine R.sq ?_; refine R.rg ?_; refine R.fa Tryz.runUnderlying32 Tryz.sizeOf3 ?_; refine R.ld Tryz.isAgg3 ?_; refine R.cm ?_; refine R.mv ?_; refine R.gd (fun zg102 => ?_) (fun zg102 => ?_)
      ·refine R.fa Tryz.runUnderlying32 Tryz.sizeOf30 ?_; refine R.gY (zg102) ?_; refine R.fa Tryz.runUnderlying30 Tryz.sizeOf3 ?_; refine R.gY (zg102) ?_; refine R.ld Tryz.isAgg3 ?_; refine R.gY (zg102) ?_; refine R.cm ?_; refine R.pT (zg102) ?_; refine R.mv ?_; refine R.gd (fun zg103 => ?_) (fun zg103 => ?_)
       ·refine R.mv ?_; refine R.gY (zg103) ?_; refine R.ln Tryz.runUnderlying34 ?_; refine R.gY (zg103) ?_; refine R.cm ?_; refine R.pT (zg103) ?_; refine R.nl ?_; refine R.hs (e' := [(2, _), (5, _), (77, _)]) ?_; refine R.cd (fun zc104 => ?_) (fun zc104 => ?_)
        ·refine R.sq ?_; refine R.rg ?_; refine R.as ?_; refine R.nl ?_; refine R.hs (e' := [(4, _)]) ?_
         first
         | exact R.rl (RV.t .nil) 2 hle rfl
         | exact R.rl (RV.t .nil) 3 hle rfl
         | (refine R.rl (RV.t .nil) 4 hle (congrArg Value.bool ?_)
            first
            | (simp [hs2]; done)
            | (simp [hx2]; done)
            | (exfalso; clear hle hV hw ho hst hr5; grind))
         | (refine R.rl (RV.t .nil) 3 hle (congrArg Value.bool ?_)
            have h9 : o.call = 2 ∧ o.ob.kind = 2 ∧ (stepA r o).2.1.length ≠ 0 := by clear hle hV hw ho hst hr5 hx3; simp_all
            have h10 := (hst h9.1).2 h9.2.1
            rw [h10] at h9
            exact (h9.2.2 rfl).elim)
        ·
         have hg9 : decide ((stepA r o).1.own.null = false ∧ (stepA r o).1.own.tau = 0 ∧ (stepA r o).1.own.oid = 0 ∧ (stepA r o).1.own.r = 0 ∧ (stepA r o).1.own.delta = 0 ∧ (stepA r o).1.own.id = r.me) = true := by rw [hx1]; simp [zeroH]
         have hg14 : (!(stepA r o).1.asked) = true := by rw [hx2]; rfl
         have hg25 : decide ((stepA r o).1.own.null = (stepA r o).1.own.null ∧ (stepA r o).1.own.tau = (stepA r o).1.own.tau ∧ (stepA r o).1.own.oid = (stepA r o).1.own.oid ∧ (stepA r o).1.own.r = (stepA r o).1.own.r ∧ (stepA r o).1.own.delta = (stepA r o).1.own.delta ∧ (stepA r o).1.own.id = (stepA r o).1.own.id) = true := by simp
         refine Run.skip ?_; refine R.sq ?_; refine R.rg ?_; refine R.lA 13 Tryz.isAgg26 Tryz.sizeOf26 ?_; refine R.gt Tryz.call26 (want_spec (stepA r o).1 (Nat.le_trans (okVs_len (okR_parts hr2).2.2.2.2.2.1) (by decide)) hw) (fun zr11_1 zD105 hzD105 hzr11_1 => ?_)
         try replace hle := hle.mono hzD105
         try replace hV := hV.mono hzD105
         try replace hw := hw.mono hzD105
         try replace ho := ho.mono hzD105
         try replace hzr3_2 := hzr3_2.mono hzD105
         try replace hzr11_1 := hzr11_1.mono hzD105
         try replace hzr11_1 := hzr11_1.mono hzD105
         try replace hzr11_1 := hzr11_1.mono hzD105
         rw [hx3] at hzr11_1
         obtain ⟨w3, o3, hu, hw3, ho3⟩ := hzr11_1
         subst hu
         obtain ⟨A3, c3, hv3, _, _⟩ := hw3.form
         subst hv3
         refine R.mv ?_; refine R.ex ?_; refine R.ex ?_; refine R.ex ?_; refine R.alA Tryz.zeroValue26 (fun zb106 hzb106 => ?_); refine R.st Tryz.sizeOf26 ?_; refine R.as ?_; refine R.as ?_; refine R.nl ?_; refine R.hs (e' := [(2, _), (5, _), (9, _), (11, _)]) ?_; refine R.sq ?_; refine Run.drawC Grow.eq 23 [(2, _), (5, _), (9, _), (11, _)] mix (by kernel_rfl) (by repeat (first | exact trivial | refine ⟨rfl, ?_⟩)) ?_; apply TC.val []; exact rfl; kernel_rfl
         ·rintro _  rfl ; refine R.cg Tryz.call15 (awake20_spec) ?_; refine R.nl ?_; exact Run.loc rfl rfl rfl
         apply TC.val [0]; exact rfl; kernel_rfl
         ·rintro _  rfl _ rfl; refine R.mv ?_; refine R.nl ?_; exact Run.loc rfl rfl rfl
         apply TC.val [0]; exact rfl; kernel_rfl
         ·rintro _  rfl _ rfl; refine R.gY (rfl) ?_; refine R.fa Tryz.runUnderlying26 Tryz.sizeOf23 ?_; refine R.nl ?_; exact Run.loc rfl rfl rfl
         apply TC.val [1, 0]; exact rfl; kernel_rfl
         ·rintro _  rfl _ rfl _ rfl; refine R.gY (rfl) ?_; refine R.lA 6 Tryz.isAgg23 Tryz.sizeOf23 ?_; refine R.nl ?_; exact Run.loc rfl rfl rfl
         apply TC.val [2]; exact rfl; kernel_rfl
         ·rintro _  rfl _ rfl; refine R.gY (rfl) ?_; refine R.fa Tryz.runUnderlying26 Tryz.sizeOf3 ?_; refine R.nl ?_; exact Run.loc rfl rfl rfl
         apply TC.val [3, 0]; exact rfl; kernel_rfl
         ·rintro _  rfl _ rfl _ rfl; refine R.gY (rfl) ?_; refine R.ld Tryz.isAgg3 ?_; refine R.nl ?_; exact Run.loc rfl rfl rfl
         apply TC.val [4, 0]; exact rfl; kernel_rfl
         ·rintro _  rfl _ rfl _ rfl; refine R.gY (rfl) ?_; refine R.cg Tryz.call22 (zero_spec _) ?_; refine R.nl ?_; exact Run.loc rfl rfl rfl
         apply TC.val [5, 3, 0]; exact rfl; kernel_rfl
         ·rintro _  rfl _ rfl _ rfl _ rfl; refine R.gY (rfl) ?_; refine R.ea Tryz.eqGuardType23 (eqAt23 _ _ _ _ _ _ _ _ _ _ _ _) ?_; refine R.nl ?_; exact Run.loc rfl rfl rfl
         apply TC.val [6, 0]; exact rfl; kernel_rfl
         ·rintro _  rfl _ rfl _ rfl; refine R.pT (rfl) ?_; refine R.nl ?_; exact Run.loc rfl rfl rfl
         apply TC.val [0]; exact rfl; kernel_rfl
         ·rintro _  rfl _ rfl; refine R.mv ?_; refine R.nl ?_; exact Run.loc rfl rfl rfl
         apply TC.val [0]; exact rfl; kernel_rfl
         ·rintro _  rfl _ rfl; refine R.gY (hg9) ?_; refine R.fa Tryz.runUnderlying26 Tryz.sizeOf4 ?_; refine R.nl ?_; exact Run.loc rfl rfl rfl
         apply TC.val [1, 0]; exact rfl; kernel_rfl
         ·rintro _  rfl _ rfl _ rfl; refine R.gY (hg9) ?_; refine R.ld Tryz.isAgg4 ?_; refine R.nl ?_; exact Run.loc rfl rfl rfl
         apply TC.val [2, 0]; exact rfl; kernel_rfl
         ·rintro _  rfl _ rfl _ rfl; refine R.gY (hg9) ?_; refine R.nt ?_; refine R.nl ?_; exact Run.loc rfl rfl rfl
         apply TC.val [3, 0]; exact rfl; kernel_rfl
         ·rintro _  rfl _ rfl _ rfl; refine R.pT (hg9) ?_; refine R.nl ?_; exact Run.loc rfl rfl rfl
         apply TC.val [0]; exact rfl; kernel_rfl
         ·rintro _  rfl _ rfl; refine R.mv ?_; refine R.nl ?_; exact Run.loc rfl rfl rfl
         apply TC.val [0]; exact rfl; kernel_rfl
         ·rintro _  rfl _ rfl; refine R.gY (hg14) ?_; refine R.mv ?_; refine R.nl ?_; exact Run.loc rfl rfl rfl
         apply TC.val [1, 0]; exact rfl; kernel_rfl
         ·rintro _  rfl _ rfl _ rfl; refine R.gY (hg14) ?_; refine R.cm ?_; refine R.nl ?_; exact Run.loc rfl rfl rfl
         apply TC.val [2, 0]; exact rfl; kernel_rfl
         ·rintro _  rfl _ rfl _ rfl; refine R.pT (hg14) ?_; refine R.nl ?_; exact Run.loc rfl rfl rfl
         apply TC.val [0]; exact rfl; kernel_rfl
         ·rintro _  rfl _ rfl; refine R.mv ?_; refine R.nl ?_; exact Run.loc rfl rfl rfl
         apply TC.val [0]; exact rfl; kernel_rfl
         ·rintro _  rfl _ rfl; refine R.gY (rfl) ?_; refine R.fa Tryz.runUnderlying26 Tryz.sizeOf23 ?_; refine R.nl ?_; exact Run.loc rfl rfl rfl
         apply TC.val [1, 0]; exact rfl; kernel_rfl
         ·rintro _  rfl _ rfl _ rfl; refine R.gY (rfl) ?_; refine R.lA 6 Tryz.isAgg23 Tryz.sizeOf23 ?_; refine R.nl ?_; exact Run.loc rfl rfl rfl
         apply TC.val [2]; exact rfl; kernel_rfl
         ·rintro _  rfl _ rfl; refine R.gY (rfl) ?_; refine R.fa Tryz.runUnderlying26 Tryz.sizeOf23 ?_; refine R.nl ?_; exact Run.loc rfl rfl rfl
         apply TC.val [3, 0]; exact rfl; kernel_rfl
         ·rintro _  rfl _ rfl _ rfl; refine R.gY (rfl) ?_; refine R.lA 6 Tryz.isAgg23 Tryz.sizeOf23 ?_; refine R.nl ?_; exact Run.loc rfl rfl rfl
         refine TC.fin (by rfl) ?_; rintro _  rfl _ rfl _ rfl _ rfl _ rfl _ rfl _ rfl _ rfl _ rfl _ rfl _ rfl _ rfl _ rfl _ rfl _ rfl _ rfl _ rfl _ rfl _ rfl _ rfl _ rfl _ rfl _ rfl _ rfl; refine R.gY (rfl) ?_; refine R.ea Tryz.eqGuardType23 (eqAt23 _ _ _ _ _ _ _ _ _ _ _ _) ?_; refine R.pT (rfl) ?_; refine R.mv ?_; refine R.gY (hg25) ?_; refine R.fa Tryz.runUnderlying26 Tryz.sizeOf4 ?_; refine R.gY (hg25) ?_; refine R.ld Tryz.isAgg4 ?_; refine R.gY (hg25) ?_; refine R.nt ?_; refine R.pT (hg25) ?_; refine R.as ?_; refine R.nl ?_; refine R.hs (e' := [(4, _)]) ?_
         first
         | exact R.rl (RV.t .nil) 2 hle rfl
         | exact R.rl (RV.t .nil) 3 hle rfl
         | (refine R.rl (RV.t .nil) 4 hle (congrArg Value.bool ?_)
            first
            | (simp [hs2]; done)
            | (simp [hx2]; done)
            | (exfalso; clear hle hV hw ho hst hr5; grind))
         | (refine R.rl (RV.t .nil) 3 hle (congrArg Value.bool ?_)
            have h9 : o.call = 2 ∧ o.ob.kind = 2 ∧ (stepA r o).2.1.length ≠ 0 := by clear hle hV hw ho hst hr5 hx3; simp_all
            have h10 := (hst h9.1).2 h9.2.1
            rw [h10] at h9
            exact (h9.2.2 rfl).elim)
       ·refine R.gF (zg103) ?_; refine R.gF (zg103) ?_; refine R.pF (zg103) ?_; refine R.nl ?_; refine R.hs (e' := [(2, _), (5, _), (77, _)]) ?_; refine R.cF (rfl) ?_
        have hg9 : decide ((stepA r o).1.own.null = false ∧ (stepA r o).1.own.tau = 0 ∧ (stepA r o).1.own.oid = 0 ∧ (stepA r o).1.own.r = 0 ∧ (stepA r o).1.own.delta = 0 ∧ (stepA r o).1.own.id = r.me) = true := by rw [hx1]; simp [zeroH]
        have hg14 : (!(stepA r o).1.asked) = true := by rw [hx2]; rfl
        have hg25 : decide ((stepA r o).1.own.null = (stepA r o).1.own.null ∧ (stepA r o).1.own.tau = (stepA r o).1.own.tau ∧ (stepA r o).1.own.oid = (stepA r o).1.own.oid ∧ (stepA r o).1.own.r = (stepA r o).1.own.r ∧ (stepA r o).1.own.delta = (stepA r o).1.own.delta ∧ (stepA r o).1.own.id = (stepA r o).1.own.id) = true := by simp
        refine Run.skip ?_; refine R.sq ?_; refine R.rg ?_; refine R.lA 13 Tryz.isAgg26 Tryz.sizeOf26 ?_; refine R.gt Tryz.call26 (want_spec (stepA r o).1 (Nat.le_trans (okVs_len (okR_parts hr2).2.2.2.2.2.1) (by decide)) hw) (fun zr11_1 zD131 hzD131 hzr11_1 => ?_)
        try replace hle := hle.mono hzD131
        try replace hV := hV.mono hzD131
        try replace hw := hw.mono hzD131
        try replace ho := ho.mono hzD131
        try replace hzr3_2 := hzr3_2.mono hzD131
        try replace hzr11_1 := hzr11_1.mono hzD131
        try replace hzr11_1 := hzr11_1.mono hzD131
        try replace hzr11_1 := hzr11_1.mono hzD131
        try replace hzr11_1 := hzr11_1.mono hzD131
        rw [hx3] at hzr11_1
        obtain ⟨w3, o3, hu, hw3, ho3⟩ := hzr11_1
        subst hu
        obtain ⟨A3, c3, hv3, _, _⟩ := hw3.form
        subst hv3
        refine R.mv ?_; refine R.ex ?_; refine R.ex ?_; refine R.ex ?_; refine R.alA Tryz.zeroValue26 (fun zb132 hzb132 => ?_); refine R.st Tryz.sizeOf26 ?_; refine R.as ?_; refine R.as ?_; refine R.nl ?_; refine R.hs (e' := [(2, _), (5, _), (9, _), (11, _)]) ?_; refine R.sq ?_; refine Run.drawC Grow.eq 23 [(2, _), (5, _), (9, _), (11, _)] mix (by kernel_rfl) (by repeat (first | exact trivial | refine ⟨rfl, ?_⟩)) ?_; apply TC.val []; exact rfl; kernel_rfl
        ·rintro _  rfl ; refine R.cg Tryz.call15 (awake20_spec) ?_; refine R.nl ?_; exact Run.loc rfl rfl rfl
        apply TC.val [0]; exact rfl; kernel_rfl
        ·rintro _  rfl _ rfl; refine R.mv ?_; refine R.nl ?_; exact Run.loc rfl rfl rfl
        apply TC.val [0]; exact rfl; kernel_rfl
        ·rintro _  rfl _ rfl; refine R.gY (rfl) ?_; refine R.fa Tryz.runUnderlying26 Tryz.sizeOf23 ?_; refine R.nl ?_; exact Run.loc rfl rfl rfl
        apply TC.val [1, 0]; exact rfl; kernel_rfl
        ·rintro _  rfl _ rfl _ rfl; refine R.gY (rfl) ?_; refine R.lA 6 Tryz.isAgg23 Tryz.sizeOf23 ?_; refine R.nl ?_; exact Run.loc rfl rfl rfl
        apply TC.val [2]; exact rfl; kernel_rfl
        ·rintro _  rfl _ rfl; refine R.gY (rfl) ?_; refine R.fa Tryz.runUnderlying26 Tryz.sizeOf3 ?_; refine R.nl ?_; exact Run.loc rfl rfl rfl
        apply TC.val [3, 0]; exact rfl; kernel_rfl
        ·rintro _  rfl _ rfl _ rfl; refine R.gY (rfl) ?_; refine R.ld Tryz.isAgg3 ?_; refine R.nl ?_; exact Run.loc rfl rfl rfl
        apply TC.val [4, 0]; exact rfl; kernel_rfl
        ·rintro _  rfl _ rfl _ rfl; refine R.gY (rfl) ?_; refine R.cg Tryz.call22 (zero_spec _) ?_; refine R.nl ?_; exact Run.loc rfl rfl rfl
        apply TC.val [5, 3, 0]; exact rfl; kernel_rfl
        ·rintro _  rfl _ rfl _ rfl _ rfl; refine R.gY (rfl) ?_; refine R.ea Tryz.eqGuardType23 (eqAt23 _ _ _ _ _ _ _ _ _ _ _ _) ?_; refine R.nl ?_; exact Run.loc rfl rfl rfl
        apply TC.val [6, 0]; exact rfl; kernel_rfl
        ·rintro _  rfl _ rfl _ rfl; refine R.pT (rfl) ?_; refine R.nl ?_; exact Run.loc rfl rfl rfl
        apply TC.val [0]; exact rfl; kernel_rfl
        ·rintro _  rfl _ rfl; refine R.mv ?_; refine R.nl ?_; exact Run.loc rfl rfl rfl
        apply TC.val [0]; exact rfl; kernel_rfl
        ·rintro _  rfl _ rfl; refine R.gY (hg9) ?_; refine R.fa Tryz.runUnderlying26 Tryz.sizeOf4 ?_; refine R.nl ?_; exact Run.loc rfl rfl rfl
        apply TC.val [1, 0]; exact rfl; kernel_rfl
        ·rintro _  rfl _ rfl _ rfl; refine R.gY (hg9) ?_; refine R.ld Tryz.isAgg4 ?_; refine R.nl ?_; exact Run.loc rfl rfl rfl
        apply TC.val [2, 0]; exact rfl; kernel_rfl
        ·rintro _  rfl _ rfl _ rfl; refine R.gY (hg9) ?_; refine R.nt ?_; refine R.nl ?_; exact Run.loc rfl rfl rfl
        apply TC.val [3, 0]; exact rfl; kernel_rfl
        ·rintro _  rfl _ rfl _ rfl; refine R.pT (hg9) ?_; refine R.nl ?_; exact Run.loc rfl rfl rfl
        apply TC.val [0]; exact rfl; kernel_rfl
        ·rintro _  rfl _ rfl; refine R.mv ?_; refine R.nl ?_; exact Run.loc rfl rfl rfl
        apply TC.val [0]; exact rfl; kernel_rfl
        ·rintro _  rfl _ rfl; refine R.gY (hg14) ?_; refine R.mv ?_; refine R.nl ?_; exact Run.loc rfl rfl rfl
        apply TC.val [1, 0]; exact rfl; kernel_rfl
        ·rintro _  rfl _ rfl _ rfl; refine R.gY (hg14) ?_; refine R.cm ?_; refine R.nl ?_; exact Run.loc rfl rfl rfl
        apply TC.val [2, 0]; exact rfl; kernel_rfl
        ·rintro _  rfl _ rfl _ rfl; refine R.pT (hg14) ?_; refine R.nl ?_; exact Run.loc rfl rfl rfl
        apply TC.val [0]; exact rfl; kernel_rfl
        ·rintro _  rfl _ rfl; refine R.mv ?_; refine R.nl ?_; exact Run.loc rfl rfl rfl
        apply TC.val [0]; exact rfl; kernel_rfl
        ·rintro _  rfl _ rfl; refine R.gY (rfl) ?_; refine R.fa Tryz.runUnderlying26 Tryz.sizeOf23 ?_; refine R.nl ?_; exact Run.loc rfl rfl rfl
        apply TC.val [1, 0]; exact rfl; kernel_rfl
        ·rintro _  rfl _ rfl _ rfl; refine R.gY (rfl) ?_; refine R.lA 6 Tryz.isAgg23 Tryz.sizeOf23 ?_; refine R.nl ?_; exact Run.loc rfl rfl rfl
        apply TC.val [2]; exact rfl; kernel_rfl
        ·rintro _  rfl _ rfl; refine R.gY (rfl) ?_; refine R.fa Tryz.runUnderlying26 Tryz.sizeOf23 ?_; refine R.nl ?_; exact Run.loc rfl rfl rfl
        apply TC.val [3, 0]; exact rfl; kernel_rfl
        ·rintro _  rfl _ rfl _ rfl; refine R.gY (rfl) ?_; refine R.lA 6 Tryz.isAgg23 Tryz.sizeOf23 ?_; refine R.nl ?_; exact Run.loc rfl rfl rfl
        refine TC.fin (by rfl) ?_; rintro _  rfl _ rfl _ rfl _ rfl _ rfl _ rfl _ rfl _ rfl _ rfl _ rfl _ rfl _ rfl _ rfl _ rfl _ rfl _ rfl _ rfl _ rfl _ rfl _ rfl _ rfl _ rfl _ rfl _ rfl; refine R.gY (rfl) ?_; refine R.ea Tryz.eqGuardType23 (eqAt23 _ _ _ _ _ _ _ _ _ _ _ _) ?_; refine R.pT (rfl) ?_; refine R.mv ?_; refine R.gY (hg25) ?_; refine R.fa Tryz.runUnderlying26 Tryz.sizeOf4 ?_; refine R.gY (hg25) ?_; refine R.ld Tryz.isAgg4 ?_; refine R.gY (hg25) ?_; refine R.nt ?_; refine R.pT (hg25) ?_; refine R.as ?_; refine R.nl ?_; refine R.hs (e' := [(4, _)]) ?_
        first
        | exact R.rl (RV.t .nil) 2 hle rfl
        | exact R.rl (RV.t .nil) 3 hle rfl
        | (refine R.rl (RV.t .nil) 4 hle (congrArg Value.bool ?_)
           first
           | (simp [hs2]; done)
           | (simp [hx2]; done)
           | (exfalso; clear hle hV hw ho hst hr5; grind))
        | (refine R.rl (RV.t .nil) 3 hle (congrArg Value.bool ?_)
           have h9 : o.call = 2 ∧ o.ob.kind = 2 ∧ (stepA r o).2.1.length ≠ 0 := by clear hle hV hw ho hst hr5 hx3; simp_all
           have h10 := (hst h9.1).2 h9.2.1
           rw [h10] at h9
           exact (h9.2.2 rfl).elim)
      ·refine R.gF (zg102) ?_; refine R.gF (zg102) ?_; refine R.gF (zg102) ?_; refine R.pF (zg102) ?_; refine R.mv ?_; refine R.gF (rfl) ?_; refine R.gF (rfl) ?_; refine R.gF (rfl) ?_; refine R.pF (rfl) ?_; refine R.nl ?_; refine R.hs (e' := [(2, _), (5, _), (77, _)]) ?_; refine R.cF (rfl) ?_
       have hg9 : decide ((stepA r o).1.own.null = false ∧ (stepA r o).1.own.tau = 0 ∧ (stepA r o).1.own.oid = 0 ∧ (stepA r o).1.own.r = 0 ∧ (stepA r o).1.own.delta = 0 ∧ (stepA r o).1.own.id = r.me) = true := by rw [hx1]; simp [zeroH]
       have hg14 : (!(stepA r o).1.asked) = true := by rw [hx2]; rfl
       have hg25 : decide ((stepA r o).1.own.null = (stepA r o).1.own.null ∧ (stepA r o).1.own.tau = (stepA r o).1.own.tau ∧ (stepA r o).1.own.oid = (stepA r o).1.own.oid ∧ (stepA r o).1.own.r = (stepA r o).1.own.r ∧ (stepA r o).1.own.delta = (stepA r o).1.own.delta ∧ (stepA r o).1.own.id = (stepA r o).1.own.id) = true := by simp
       refine Run.skip ?_; refine R.sq ?_; refine R.rg ?_; refine R.lA 13 Tryz.isAgg26 Tryz.sizeOf26 ?_; refine R.gt Tryz.call26 (want_spec (stepA r o).1 (Nat.le_trans (okVs_len (okR_parts hr2).2.2.2.2.2.1) (by decide)) hw) (fun zr11_1 zD157 hzD157 hzr11_1 => ?_)
       try replace hle := hle.mono hzD157
       try replace hV := hV.mono hzD157
       try replace hw := hw.mono hzD157
       try replace ho := ho.mono hzD157
       try replace hzr3_2 := hzr3_2.mono hzD157
       try replace hzr11_1 := hzr11_1.mono hzD157
       try replace hzr11_1 := hzr11_1.mono hzD157
       try replace hzr11_1 := hzr11_1.mono hzD157
       try replace hzr11_1 := hzr11_1.mono hzD157
       try replace hzr11_1 := hzr11_1.mono hzD157
       rw [hx3] at hzr11_1
       obtain ⟨w3, o3, hu, hw3, ho3⟩ := hzr11_1
       subst hu
       obtain ⟨A3, c3, hv3, _, _⟩ := hw3.form
       subst hv3
       refine R.mv ?_; refine R.ex ?_; refine R.ex ?_; refine R.ex ?_; refine R.alA Tryz.zeroValue26 (fun zb158 hzb158 => ?_); refine R.st Tryz.sizeOf26 ?_; refine R.as ?_; refine R.as ?_; refine R.nl ?_; refine R.hs (e' := [(2, _), (5, _), (9, _), (11, _)]) ?_; refine R.sq ?_; refine Run.drawC Grow.eq 23 [(2, _), (5, _), (9, _), (11, _)] mix (by kernel_rfl) (by repeat (first | exact trivial | refine ⟨rfl, ?_⟩)) ?_; apply TC.val []; exact rfl; kernel_rfl
       ·rintro _  rfl ; refine R.cg Tryz.call15 (awake20_spec) ?_; refine R.nl ?_; exact Run.loc rfl rfl rfl
       apply TC.val [0]; exact rfl; kernel_rfl
       ·rintro _  rfl _ rfl; refine R.mv ?_; refine R.nl ?_; exact Run.loc rfl rfl rfl
       apply TC.val [0]; exact rfl; kernel_rfl
       ·rintro _  rfl _ rfl; refine R.gY (rfl) ?_; refine R.fa Tryz.runUnderlying26 Tryz.sizeOf23 ?_; refine R.nl ?_; exact Run.loc rfl rfl rfl
       apply TC.val [1, 0]; exact rfl; kernel_rfl
       ·rintro _  rfl _ rfl _ rfl; refine R.gY (rfl) ?_; refine R.lA 6 Tryz.isAgg23 Tryz.sizeOf23 ?_; refine R.nl ?_; exact Run.loc rfl rfl rfl
       apply TC.val [2]; exact rfl; kernel_rfl
       ·rintro _  rfl _ rfl; refine R.gY (rfl) ?_; refine R.fa Tryz.runUnderlying26 Tryz.sizeOf3 ?_; refine R.nl ?_; exact Run.loc rfl rfl rfl
       apply TC.val [3, 0]; exact rfl; kernel_rfl
       ·rintro _  rfl _ rfl _ rfl; refine R.gY (rfl) ?_; refine R.ld Tryz.isAgg3 ?_; refine R.nl ?_; exact Run.loc rfl rfl rfl
       apply TC.val [4, 0]; exact rfl; kernel_rfl
       ·rintro _  rfl _ rfl _ rfl; refine R.gY (rfl) ?_; refine R.cg Tryz.call22 (zero_spec _) ?_; refine R.nl ?_; exact Run.loc rfl rfl rfl
       apply TC.val [5, 3, 0]; exact rfl; kernel_rfl
       ·rintro _  rfl _ rfl _ rfl _ rfl; refine R.gY (rfl) ?_; refine R.ea Tryz.eqGuardType23 (eqAt23 _ _ _ _ _ _ _ _ _ _ _ _) ?_; refine R.nl ?_; exact Run.loc rfl rfl rfl
       apply TC.val [6, 0]; exact rfl; kernel_rfl
       ·rintro _  rfl _ rfl _ rfl; refine R.pT (rfl) ?_; refine R.nl ?_; exact Run.loc rfl rfl rfl
       apply TC.val [0]; exact rfl; kernel_rfl
       ·rintro _  rfl _ rfl; refine R.mv ?_; refine R.nl ?_; exact Run.loc rfl rfl rfl
       apply TC.val [0]; exact rfl; kernel_rfl
       ·rintro _  rfl _ rfl; refine R.gY (hg9) ?_; refine R.fa Tryz.runUnderlying26 Tryz.sizeOf4 ?_; refine R.nl ?_; exact Run.loc rfl rfl rfl
       apply TC.val [1, 0]; exact rfl; kernel_rfl
       ·rintro _  rfl _ rfl _ rfl; refine R.gY (hg9) ?_; refine R.ld Tryz.isAgg4 ?_; refine R.nl ?_; exact Run.loc rfl rfl rfl
       apply TC.val [2, 0]; exact rfl; kernel_rfl
       ·rintro _  rfl _ rfl _ rfl; refine R.gY (hg9) ?_; refine R.nt ?_; refine R.nl ?_; exact Run.loc rfl rfl rfl
       apply TC.val [3, 0]; exact rfl; kernel_rfl
       ·rintro _  rfl _ rfl _ rfl; refine R.pT (hg9) ?_; refine R.nl ?_; exact Run.loc rfl rfl rfl
       apply TC.val [0]; exact rfl; kernel_rfl
       ·rintro _  rfl _ rfl; refine R.mv ?_; refine R.nl ?_; exact Run.loc rfl rfl rfl
       apply TC.val [0]; exact rfl; kernel_rfl
       ·rintro _  rfl _ rfl; refine R.gY (hg14) ?_; refine R.mv ?_; refine R.nl ?_; exact Run.loc rfl rfl rfl
       apply TC.val [1, 0]; exact rfl; kernel_rfl
       ·rintro _  rfl _ rfl _ rfl; refine R.gY (hg14) ?_; refine R.cm ?_; refine R.nl ?_; exact Run.loc rfl rfl rfl
       apply TC.val [2, 0]; exact rfl; kernel_rfl
       ·rintro _  rfl _ rfl _ rfl; refine R.pT (hg14) ?_; refine R.nl ?_; exact Run.loc rfl rfl rfl
       apply TC.val [0]; exact rfl; kernel_rfl
       ·rintro _  rfl _ rfl; refine R.mv ?_; refine R.nl ?_; exact Run.loc rfl rfl rfl
       apply TC.val [0]; exact rfl; kernel_rfl
       ·rintro _  rfl _ rfl; refine R.gY (rfl) ?_; refine R.fa Tryz.runUnderlying26 Tryz.sizeOf23 ?_; refine R.nl ?_; exact Run.loc rfl rfl rfl
       apply TC.val [1, 0]; exact rfl; kernel_rfl
       ·rintro _  rfl _ rfl _ rfl; refine R.gY (rfl) ?_; refine R.lA 6 Tryz.isAgg23 Tryz.sizeOf23 ?_; refine R.nl ?_; exact Run.loc rfl rfl rfl
       apply TC.val [2]; exact rfl; kernel_rfl
       ·rintro _  rfl _ rfl; refine R.gY (rfl) ?_; refine R.fa Tryz.runUnderlying26 Tryz.sizeOf23 ?_; refine R.nl ?_; exact Run.loc rfl rfl rfl
       apply TC.val [3, 0]; exact rfl; kernel_rfl
       ·rintro _  rfl _ rfl _ rfl; refine R.gY (rfl) ?_; refine R.lA 6 Tryz.isAgg23 Tryz.sizeOf23 ?_; refine R.nl ?_; exact Run.loc rfl rfl rfl
       refine TC.fin (by rfl) ?_; rintro _  rfl _ rfl _ rfl _ rfl _ rfl _ rfl _ rfl _ rfl _ rfl _ rfl _ rfl _ rfl _ rfl _ rfl _ rfl _ rfl _ rfl _ rfl _ rfl _ rfl _ rfl _ rfl _ rfl _ rfl; refine R.gY (rfl) ?_; refine R.ea Tryz.eqGuardType23 (eqAt23 _ _ _ _ _ _ _ _ _ _ _ _) ?_; refine R.pT (rfl) ?_; refine R.mv ?_; refine R.gY (hg25) ?_; refine R.fa Tryz.runUnderlying26 Tryz.sizeOf4 ?_; refine R.gY (hg25) ?_; refine R.ld Tryz.isAgg4 ?_; refine R.gY (hg25) ?_; refine R.nt ?_; refine R.pT (hg25) ?_; refine R.as ?_; refine R.nl ?_; refine R.hs (e' := [(4, _)]) ?_
       first
       | exact R.rl (RV.t .nil) 2 hle rfl
       | exact R.rl (RV.t .nil) 3 hle rfl
       | (refine R.rl (RV.t .nil) 4 hle (congrArg Value.bool ?_)
          first
          | (simp [hs2]; done)
          | (simp [hx2]; done)
          | (exfalso; clear hle hV hw ho hst hr5; grind))
       | (refine R.rl (RV.t .nil) 3 hle (congrArg Value.bool ?_)
          have h9 : o.call = 2 ∧ o.ob.kind = 2 ∧ (stepA r o).2.1.length ≠ 0 := by clear hle hV hw ho hst hr5 hx3; simp_all
          have h10 := (hst h9.1).2 h9.2.1
          rw [h10] at h9
          exact (h9.2.2 rfl).elim)
  ·refine R.gF (zg3) ?_; refine R.gF (zg3) ?_; refine R.gF (zg3) ?_; refine R.gF (zg3) ?_; refine R.pT (zg3) ?_; refine R.nl ?_; refine R.hs (e' := [(2, _), (3, _), (22, _)]) ?_; refine R.cT (rfl) ?_; refine R.sq ?_; refine R.rg ?_; refine R.cg Tryz.call15 (awake20_spec) ?_; refine R.as ?_; refine R.nl ?_; refine R.hs (e' := [(4, _)]) ?_
   first
   | exact R.rl (RV.t .nil) 2 hle rfl
   | exact R.rl (RV.t .nil) 3 hle rfl
   | (refine R.rl (RV.t .nil) 4 hle (congrArg Value.bool ?_)
      first
      | (simp [hs2]; done)
      | (simp [hx2]; done)
      | (exfalso; clear hle hV hw ho hst hr5; grind))
   | (refine R.rl (RV.t .nil) 3 hle (congrArg Value.bool ?_)
      have h9 : o.call = 2 ∧ o.ob.kind = 2 ∧ (stepA r o).2.1.length ≠ 0 := by clear hle hV hw ho hst hr5 hx3; simp_all
      have h10 := (hst h9.1).2 h9.2.1
      rw [h10] at h9
      exact (h9.2.2 rfl).elim)
end Go.Proofs.YtgdpjpmjcpieiaaGreat

/- What comes in: routes, calls. No condition. -/
namespace Go.Proofs.YtgdpjpmjcpieiaaGreat
open Go Go.ChangeShapes Go.WideShapes Go.ChangeAt Go.RowKit
set_option linter.unusedVariables false
set_option linter.unusedSimpArgs false
set_option maxRecDepth 100000
theorem cells28 : Tryz.prog.cellsOf 28 = 3 := by kernel_rfl
theorem cells30 : Tryz.prog.cellsOf 30 = 12 := by kernel_rfl
theorem cells26 : Tryz.prog.cellsOf 26 = 13 := by kernel_rfl
theorem cells32 : Tryz.prog.cellsOf 32 = 16 := by kernel_rfl
theorem cells24 : Tryz.prog.cellsOf 24 = 1 := by kernel_rfl
def inLv (l : Lv) : Prop := inI l.tau ∧ inI l.oid ∧ inI l.r
def inO (o : Ob) : Prop := inI o.kind ∧ inI o.dest ∧ inH o.h ∧ inLv o.l ∧ inI o.num
def inP (o : Opn) : Prop := inI o.call ∧ inI o.id ∧ inO o.ob ∧ inI o.now ∧ inI o.num
theorem rdLv {w : World} : Rds Tryz.prog w 28 fun cs => ∃ l : Lv, cs = l.cells ∧ inLv l :=
  (Rds.struct Tryz.underlying28 (Rs := [_, _, _]) ⟨rdInt, rdInt, rdInt, trivial⟩).mono fun cs ⟨hl, h0, h1, h2, _⟩ => by
    rw [cells28] at hl
    match cs, hl with
    | [c0, c1, c2], _ =>
      simp only [cells3, List.drop_zero, List.drop_succ_cons, List.take_succ_cons, List.take_zero] at h0 h1 h2
      obtain ⟨a, h0, r0⟩ := h0
      obtain ⟨b, h1, r1⟩ := h1
      obtain ⟨c, h2, r2⟩ := h2
      injection h0 with h0; injection h1 with h1; injection h2 with h2
      exact ⟨⟨a, b, c⟩, by simp [h0, h1, h2], r0, r1, r2⟩
theorem rdOb {w : World} : Rds Tryz.prog w 30 fun cs => ∃ o : Ob, cs = o.cells ∧ inO o :=
  (Rds.struct Tryz.underlying30 (Rs := [_, _, _, _, _]) ⟨rdInt, rdInt, rdHt, rdLv, rdInt, trivial⟩).mono fun cs ⟨hl, h0, h1, h2, h3, h4, _⟩ => by
    rw [cells30] at hl
    match cs, hl with
    | [c0, c1, c2, c3, c4, c5, c6, c7, c8, c9, c10, c11], _ =>
      simp only [cells3, cells23, cells28, List.drop_zero, List.drop_succ_cons, List.take_succ_cons, List.take_zero] at h0 h1 h2 h3 h4
      obtain ⟨a, h0, r0⟩ := h0
      obtain ⟨b, h1, r1⟩ := h1
      obtain ⟨c, h2, r2⟩ := h2
      obtain ⟨d, h3, r3⟩ := h3
      obtain ⟨e, h4, r4⟩ := h4
      injection h0 with h0; injection h1 with h1; injection h4 with h4
      injection h2 with g1 h2; injection h2 with g2 h2; injection h2 with g3 h2; injection h2 with g4 h2; injection h2 with g5 h2; injection h2 with g6 h2
      injection h3 with k1 h3; injection h3 with k2 h3; injection h3 with k3 h3
      exact ⟨⟨a, b, c, d, e⟩, by simp [h0, h1, g1, g2, g3, g4, g5, g6, k1, k2, k3, h4], r0, r1, r2, r3, r4⟩
theorem rdPt {w : World} : Rds Tryz.prog w 32 fun cs => ∃ o : Opn, cs = o.cells ∧ inP o :=
  (Rds.struct Tryz.underlying32 (Rs := [_, _, _, _, _]) ⟨rdInt, rdInt, rdOb, rdInt, rdInt, trivial⟩).mono fun cs ⟨hl, h0, h1, h2, h3, h4, _⟩ => by
    rw [cells32] at hl
    match cs, hl with
    | [c0, c1, c2, c3, c4, c5, c6, c7, c8, c9, c10, c11, c12, c13, c14, c15], _ =>
      simp only [cells3, cells30, List.drop_zero, List.drop_succ_cons, List.take_succ_cons, List.take_zero] at h0 h1 h2 h3 h4
      obtain ⟨a, h0, r0⟩ := h0
      obtain ⟨b, h1, r1⟩ := h1
      obtain ⟨c, h2, r2⟩ := h2
      obtain ⟨d, h3, r3⟩ := h3
      obtain ⟨e, h4, r4⟩ := h4
      injection h0 with h0; injection h1 with h1; injection h3 with h3; injection h4 with h4
      injection h2 with g1 h2; injection h2 with g2 h2; injection h2 with g3 h2; injection h2 with g4 h2; injection h2 with g5 h2; injection h2 with g6 h2
      injection h2 with g7 h2; injection h2 with g8 h2; injection h2 with g9 h2; injection h2 with g10 h2; injection h2 with g11 h2; injection h2 with g12 h2
      exact ⟨⟨a, b, c, d, e⟩, by simp [h0, h1, g1, g2, g3, g4, g5, g6, g7, g8, g9, g10, g11, g12, h3, h4], r0, r1, r2, r3, r4⟩
theorem rdRt {w : World} : Rds Tryz.prog w 26 fun cs => ∃ p : Value × Rt, cs = Rt.cells p.1 p.2 ∧ Vws (All w) p.1 p.2.vs :=
  (Rds.struct Tryz.underlying26 (Rs := [_, _, _, _, _, _, _, _]) ⟨rdInt, rdInt, rdHt, rdVws, rdBool, rdBool, rdBool, rdInt, trivial⟩).mono fun cs ⟨hl, h0, h1, h2, h3, h4, h5, h6, h7, _⟩ => by
    rw [cells26] at hl
    match cs, hl with
    | [c0, c1, c2, c3, c4, c5, c6, c7, c8, c9, c10, c11, c12], _ =>
      simp only [cells3, cells4, cells23, cells24, List.drop_zero, List.drop_succ_cons, List.take_succ_cons, List.take_zero] at h0 h1 h2 h3 h4 h5 h6 h7
      obtain ⟨a, h0, r0⟩ := h0
      obtain ⟨b, h1, r1⟩ := h1
      obtain ⟨c, h2, r2⟩ := h2
      obtain ⟨v, xs, h3, r3, _⟩ := h3
      obtain ⟨d, h4⟩ := h4
      obtain ⟨e, h5⟩ := h5
      obtain ⟨f, h6⟩ := h6
      obtain ⟨n, h7, r7⟩ := h7
      injection h0 with h0; injection h1 with h1; injection h3 with h3; injection h4 with h4; injection h5 with h5; injection h6 with h6; injection h7 with h7
      injection h2 with g1 h2; injection h2 with g2 h2; injection h2 with g3 h2; injection h2 with g4 h2; injection h2 with g5 h2; injection h2 with g6 h2
      exact ⟨(v, ⟨a, b, c, xs, d, e, f, n⟩), by simp [h0, h1, g1, g2, g3, g4, g5, g6, h3, h4, h5, h6, h7], r3⟩
end Go.Proofs.YtgdpjpmjcpieiaaGreat
